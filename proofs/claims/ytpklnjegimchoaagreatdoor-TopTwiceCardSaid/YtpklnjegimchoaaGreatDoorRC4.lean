/-
  The statement's runs, reckoned by the kernel: 320 to 447 bytes.
-/
import Derived.Test.YtpklnjegimchoaaGreatDoorRA
namespace Go.Proofs.YtpklnjegimchoaaGreatDoor
open Go Go.X Go.Z
set_option maxRecDepth 1000000
theorem run6t : runC 320 384 true = true := by kernel_rfl
theorem run6f : runC 320 384 false = true := by kernel_rfl
end Go.Proofs.YtpklnjegimchoaaGreatDoor
namespace Go.Proofs.YtpklnjegimchoaaGreatDoor
open Go Go.X Go.Z
set_option maxRecDepth 1000000
theorem run7t : runC 385 447 true = true := by kernel_rfl
theorem run7f : runC 385 447 false = true := by kernel_rfl
end Go.Proofs.YtpklnjegimchoaaGreatDoor
