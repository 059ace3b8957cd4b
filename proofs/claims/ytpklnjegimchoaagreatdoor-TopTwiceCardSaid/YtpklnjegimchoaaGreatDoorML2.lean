/-
  Rounds of the ladder, reckoned by the kernel: the second.
-/
import Derived.Test.YtpklnjegimchoaaGreatDoorML
namespace Go.Proofs.YtpklnjegimchoaaGreatDoor
open Go Go.X Go.Z
set_option maxRecDepth 1000000
theorem gPI254 : segOk 92 50 (loopAt Tryz.f92.body 4) 127 sPI254 sPI127 = true := by kernel_rfl
end Go.Proofs.YtpklnjegimchoaaGreatDoor
namespace Go.Proofs.YtpklnjegimchoaaGreatDoor
open Go Go.X Go.Z
set_option maxRecDepth 1000000
theorem gPI127 : segOk 92 50 (loopAt Tryz.f92.body 4) 128 sPI127 sPIm1 = true := by kernel_rfl
end Go.Proofs.YtpklnjegimchoaaGreatDoor
