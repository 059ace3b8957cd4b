/-
  Rounds of the ladder, reckoned by the kernel: the third.
-/
import Derived.Test.YtpklnjegimchoaaGreatDoorML
namespace Go.Proofs.YtpklnjegimchoaaGreatDoor
open Go Go.X Go.Z
set_option maxRecDepth 1000000
theorem gQT0 : segOk 49 124 (loopAt Tryz.f49.body 7) 85 sQT0 sQT85 = true := by kernel_rfl
end Go.Proofs.YtpklnjegimchoaaGreatDoor
namespace Go.Proofs.YtpklnjegimchoaaGreatDoor
open Go Go.X Go.Z
set_option maxRecDepth 1000000
theorem gQT85 : segOk 49 124 (loopAt Tryz.f49.body 7) 85 sQT85 sQT170 = true := by kernel_rfl
end Go.Proofs.YtpklnjegimchoaaGreatDoor
