/-
  Rounds of the ladder, reckoned by the kernel: the last.
-/
import Derived.Test.YtpklnjegimchoaaGreatDoorML
namespace Go.Proofs.YtpklnjegimchoaaGreatDoor
open Go Go.X Go.Z
set_option maxRecDepth 1000000
theorem gQT170 : segOk 49 124 (loopAt Tryz.f49.body 7) 85 sQT170 sQT255 = true := by kernel_rfl
end Go.Proofs.YtpklnjegimchoaaGreatDoor
namespace Go.Proofs.YtpklnjegimchoaaGreatDoor
open Go Go.X Go.Z
set_option maxRecDepth 1000000
theorem gQI254 : segOk 92 50 (loopAt Tryz.f92.body 4) 127 sQI254 sQI127 = true := by kernel_rfl
end Go.Proofs.YtpklnjegimchoaaGreatDoor
namespace Go.Proofs.YtpklnjegimchoaaGreatDoor
open Go Go.X Go.Z
set_option maxRecDepth 1000000
theorem gQI127 : segOk 92 50 (loopAt Tryz.f92.body 4) 128 sQI127 sQIm1 = true := by kernel_rfl
end Go.Proofs.YtpklnjegimchoaaGreatDoor
