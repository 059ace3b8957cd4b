/-
  Closed facts on the types and the functions that the walks name.
-/
import Derived.Test.YtmkjnefongjniaaHO
import Derived.Test.YtmkjnefongjniaaPureQ
namespace Go.Proofs.Ytmkjnefongjniaa
open Go Go.X
theorem ar44 : arr Try.prog 44 = some (12, 5, 1) := by kernel_rfl
theorem bp40 : bplaces Try.prog 40 = some [(0, 1), (1, 1), (2, 1), (3, 1), (4, 1), (5, 1)] := by kernel_rfl
theorem eg44 : Try.prog.eqGuardType Try.prog.depth 44 = false := by kernel_rfl
theorem ss22 : scalar Try.prog 22 = true := by kernel_rfl
theorem un4 : Try.prog.underlying 4 = some (.bool) := by kernel_rfl
theorem wd40 : wide Try.prog 40 = some 6 := by kernel_rfl
theorem wd44 : wide Try.prog 44 = some 12 := by kernel_rfl
theorem ze40 : zer Try.prog 40 = some ([.int .i64 0, .int .i64 0, .int .i64 0, .int .i64 0, .int .i64 0, .slice none 0 0]) := by kernel_rfl
theorem ze44 : zer Try.prog 44 = some (ints .u8 (List.replicate 12 0)) := by kernel_rfl
theorem fl40_0 : fld Try.prog 40 0 = some (0, 3) := by kernel_rfl
theorem fl40_1 : fld Try.prog 40 1 = some (1, 3) := by kernel_rfl
theorem fl40_2 : fld Try.prog 40 2 = some (2, 3) := by kernel_rfl
theorem fl40_3 : fld Try.prog 40 3 = some (3, 3) := by kernel_rfl
theorem fl40_4 : fld Try.prog 40 4 = some (4, 3) := by kernel_rfl
theorem fl40_5 : fld Try.prog 40 5 = some (5, 22) := by kernel_rfl
theorem enters32 : Enters Try.prog 32 := enters_of Try.func32 (by kernel_rfl) (by kernel_rfl)
theorem enters33 : Enters Try.prog 33 := enters_of Try.func33 (by kernel_rfl) (by kernel_rfl)
theorem enters34 : Enters Try.prog 34 := enters_of Try.func34 (by kernel_rfl) (by kernel_rfl)
theorem enters35 : Enters Try.prog 35 := enters_of Try.func35 (by kernel_rfl) (by kernel_rfl)
theorem enters36 : Enters Try.prog 36 := enters_of Try.func36 (by kernel_rfl) (by kernel_rfl)
theorem enters37 : Enters Try.prog 37 := enters_of Try.func37 (by kernel_rfl) (by kernel_rfl)
theorem enters38 : Enters Try.prog 38 := enters_of Try.func38 (by kernel_rfl) (by kernel_rfl)
theorem enters39 : Enters Try.prog 39 := enters_of Try.func39 (by kernel_rfl) (by kernel_rfl)
theorem enters40 : Enters Try.prog 40 := enters_of Try.func40 (by kernel_rfl) (by kernel_rfl)
theorem enters41 : Enters Try.prog 41 := enters_of Try.func41 (by kernel_rfl) (by kernel_rfl)
theorem enters42 : Enters Try.prog 42 := enters_of Try.func42 (by kernel_rfl) (by kernel_rfl)
theorem enters58 : Enters Try.prog 58 := enters_of Try.func58 (by kernel_rfl) (by kernel_rfl)
theorem enters59 : Enters Try.prog 59 := enters_of Try.func59 (by kernel_rfl) (by kernel_rfl)
theorem enters73 : Enters Try.prog 73 := enters_of Try.func73 (by kernel_rfl) (by kernel_rfl)
end Go.Proofs.Ytmkjnefongjniaa
