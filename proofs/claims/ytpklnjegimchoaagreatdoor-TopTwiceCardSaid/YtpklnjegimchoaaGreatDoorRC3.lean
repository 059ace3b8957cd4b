/-
  The statement's runs, reckoned by the kernel: 192 to 319 bytes.
-/
import Derived.Test.YtpklnjegimchoaaGreatDoorRA
namespace Go.Proofs.YtpklnjegimchoaaGreatDoor
open Go Go.X Go.Z
set_option maxRecDepth 1000000
theorem run4t : runC 192 256 true = true := by kernel_rfl
theorem run4f : runC 192 256 false = true := by kernel_rfl
end Go.Proofs.YtpklnjegimchoaaGreatDoor
namespace Go.Proofs.YtpklnjegimchoaaGreatDoor
open Go Go.X Go.Z
set_option maxRecDepth 1000000
theorem run5t : runC 257 319 true = true := by kernel_rfl
theorem run5f : runC 257 319 false = true := by kernel_rfl
end Go.Proofs.YtpklnjegimchoaaGreatDoor
