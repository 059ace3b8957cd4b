/-
  The statement's runs, reckoned by the kernel: 64 to 191 bytes.
-/
import Derived.Test.YtpklnjegimchoaaGreatDoorRA
namespace Go.Proofs.YtpklnjegimchoaaGreatDoor
open Go Go.X Go.Z
set_option maxRecDepth 1000000
theorem run2t : runC 64 128 true = true := by kernel_rfl
theorem run2f : runC 64 128 false = true := by kernel_rfl
end Go.Proofs.YtpklnjegimchoaaGreatDoor
namespace Go.Proofs.YtpklnjegimchoaaGreatDoor
open Go Go.X Go.Z
set_option maxRecDepth 1000000
theorem run3t : runC 129 191 true = true := by kernel_rfl
theorem run3f : runC 129 191 false = true := by kernel_rfl
end Go.Proofs.YtpklnjegimchoaaGreatDoor
