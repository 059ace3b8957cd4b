/-
  Rounds of the ladder, reckoned by the kernel: the first.
-/
import Derived.Test.YtpklnjegimchoaaGreatDoorML
namespace Go.Proofs.YtpklnjegimchoaaGreatDoor
open Go Go.X Go.Z
set_option maxRecDepth 1000000
theorem gPT0 : segOk 49 124 (loopAt Tryz.f49.body 7) 85 sPT0 sPT85 = true := by kernel_rfl
end Go.Proofs.YtpklnjegimchoaaGreatDoor
namespace Go.Proofs.YtpklnjegimchoaaGreatDoor
open Go Go.X Go.Z
set_option maxRecDepth 1000000
theorem gPT85 : segOk 49 124 (loopAt Tryz.f49.body 7) 85 sPT85 sPT170 = true := by kernel_rfl
end Go.Proofs.YtpklnjegimchoaaGreatDoor
namespace Go.Proofs.YtpklnjegimchoaaGreatDoor
open Go Go.X Go.Z
set_option maxRecDepth 1000000
theorem gPT170 : segOk 49 124 (loopAt Tryz.f49.body 7) 85 sPT170 sPT255 = true := by kernel_rfl
end Go.Proofs.YtpklnjegimchoaaGreatDoor
