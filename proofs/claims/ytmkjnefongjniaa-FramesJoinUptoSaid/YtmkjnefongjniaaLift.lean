/-
  Facts on the types of the arguments of layer 9.
-/
import Derived.Test.YtmkjnefongjniaaX7
import Derived.Test.YtmkjnefongjniaaPure3
import Derived.Test.YtmkjnefongjniaaChecked
import Derived.Test.YtmkjnefongjniaaRows
namespace Go.Proofs.Ytmkjnefongjniaa
open Go Go.X Go.ChangeShapes Go.WideShapes Go.ChangeAt Go.RowKit
theorem own : ownKnob Try.prog.godebug = none := by kernel_rfl
theorem tbool : Try.prog.underlying 4 = some .bool := by kernel_rfl
theorem u5 : Try.prog.underlying 5 = some (.int .u8) := by kernel_rfl
theorem u3 : Try.prog.underlying 3 = some (.int .i64) := by kernel_rfl
theorem s22 : slc Try.prog 22 = some (5, 1, 1) := by kernel_rfl
/-- A world for the witness: the settled one. -/
noncomputable def laidWorld (os : Os) : World := World.holding Try.prog os ⟨#[], #[], []⟩
theorem bytes_of {xs : List Int} (h : ∀ z ∈ xs, (Lit.int .u8 z).wf = true) : Bytes xs := fun z hz => wf_u8 (h z hz)


end Go.Proofs.Ytmkjnefongjniaa
