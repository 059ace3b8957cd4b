/-
  The statement's runs, reckoned by the kernel: 448 bytes and more.
-/
import Derived.Test.YtpklnjegimchoaaGreatDoorRA
namespace Go.Proofs.YtpklnjegimchoaaGreatDoor
open Go Go.X Go.Z
set_option maxRecDepth 1000000
theorem run8t : runC 448 512 true = true := by kernel_rfl
theorem run8f : runC 448 512 false = true := by kernel_rfl
end Go.Proofs.YtpklnjegimchoaaGreatDoor
namespace Go.Proofs.YtpklnjegimchoaaGreatDoor
open Go Go.X Go.Z
set_option maxRecDepth 1000000
theorem run9t : runC 513 140737488355328 true = true := by kernel_rfl
theorem run9f : runC 513 140737488355328 false = true := by kernel_rfl
end Go.Proofs.YtpklnjegimchoaaGreatDoor
