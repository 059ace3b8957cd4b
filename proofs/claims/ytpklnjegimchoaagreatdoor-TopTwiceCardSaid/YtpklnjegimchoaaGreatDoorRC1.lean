/-
  The statement's runs, reckoned by the kernel: no bytes, 1 to 63.
-/
import Derived.Test.YtpklnjegimchoaaGreatDoorRA
namespace Go.Proofs.YtpklnjegimchoaaGreatDoor
open Go Go.X Go.Z
set_option maxRecDepth 1000000
theorem run0nt : run0 nil0 true = true := by kernel_rfl
theorem run0nf : run0 nil0 false = true := by kernel_rfl
theorem run0st : run0 sl0 true = true := by kernel_rfl
theorem run0sf : run0 sl0 false = true := by kernel_rfl
end Go.Proofs.YtpklnjegimchoaaGreatDoor
namespace Go.Proofs.YtpklnjegimchoaaGreatDoor
open Go Go.X Go.Z
set_option maxRecDepth 1000000
theorem run1t : runC 1 63 true = true := by kernel_rfl
theorem run1f : runC 1 63 false = true := by kernel_rfl
end Go.Proofs.YtpklnjegimchoaaGreatDoor
