/-
  The head of the statement is so: reckoned by the kernel.
-/
import Derived.Test.YtpklnjegimchoaaGreatDoorMW
namespace Go.Proofs.YtpklnjegimchoaaGreatDoor
open Go Go.X Go.Z
set_option maxRecDepth 1000000
noncomputable def glH : Hp := ((((T.e : Hp).set 2 (some (.glb 2 (ones prP)))).set 1 (some (.glb 1 (ones smallB)))).set 0 (some (.glb 0 (ones beginB))))
noncomputable def gW0 : G := ⟨glH, 13, [], ⟨.e, 0, .e, 0, .e, 0⟩⟩
theorem runShown : runIs (callF Tryz.prog cfW (exec Tryz.prog cfW 3000) 4 [] gW0) (.e (.c (.bool true))) = true := by kernel_rfl
end Go.Proofs.YtpklnjegimchoaaGreatDoor
