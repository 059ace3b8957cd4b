/-
  Closed facts on the types and the functions that the walks name.
-/
import Derived.Test.YtmkjnefongjniaaHO
import Derived.Test.YtmkjnefongjniaaPureT
namespace Go.Proofs.Ytmkjnefongjniaa
open Go Go.X
theorem ar57 : arr Try.prog 57 = some (8, 5, 1) := by kernel_rfl
theorem bp59 : bplaces Try.prog 59 = some [(0, 1), (1, 1), (2, 1), (3, 1), (4, 1), (5, 8)] := by kernel_rfl
theorem bp74 : bplaces Try.prog 74 = some [(0, 1), (1, 1)] := by kernel_rfl
theorem bp78 : bplaces Try.prog 78 = some [(0, 1)] := by kernel_rfl
theorem bp81 : bplaces Try.prog 81 = some [(0, 1)] := by kernel_rfl
theorem eg57 : Try.prog.eqGuardType Try.prog.depth 57 = false := by kernel_rfl
theorem ih20 : Try.prog.underlying 20 = some (.interface (Try.prog.methodsAt 20)) := by kernel_rfl
theorem is74 : intStruct Try.prog 74 2 = true := by kernel_rfl
theorem sc52 : slc Try.prog 52 = some (59, 13, 80) := by kernel_rfl
theorem sc56 : slc Try.prog 56 = some (74, 2, 16) := by kernel_rfl
theorem ss22 : scalar Try.prog 22 = true := by kernel_rfl
theorem ss24 : scalar Try.prog 24 = true := by kernel_rfl
theorem ss52 : scalar Try.prog 52 = true := by kernel_rfl
theorem ss56 : scalar Try.prog 56 = true := by kernel_rfl
theorem st78 : isStruct Try.prog 78 = true := by kernel_rfl
theorem wd57 : wide Try.prog 57 = some 8 := by kernel_rfl
theorem wd59 : wide Try.prog 59 = some 13 := by kernel_rfl
theorem wd74 : wide Try.prog 74 = some 2 := by kernel_rfl
theorem wd78 : wide Try.prog 78 = some 1 := by kernel_rfl
theorem ze24 : zer Try.prog 24 = some ([.int .i64 0]) := by kernel_rfl
theorem ze52 : zer Try.prog 52 = some ([.slice none 0 0]) := by kernel_rfl
theorem ze59 : zer Try.prog 59 = some ([.int .i64 0, .int .i64 0, .int .i64 0, .slice none 0 0, .slice none 0 0, .int .u8 0, .int .u8 0, .int .u8 0, .int .u8 0, .int .u8 0, .int .u8 0, .int .u8 0, .int .u8 0]) := by kernel_rfl
theorem ze74 : zer Try.prog 74 = some ([.int .i64 0, .int .i64 0]) := by kernel_rfl
theorem ze78 : zer Try.prog 78 = some ([.int .i64 0]) := by kernel_rfl
theorem ze81 : zer Try.prog 81 = some ([.slice none 0 0]) := by kernel_rfl
theorem fl59_0 : fld Try.prog 59 0 = some (0, 3) := by kernel_rfl
theorem fl59_1 : fld Try.prog 59 1 = some (1, 3) := by kernel_rfl
theorem fl59_2 : fld Try.prog 59 2 = some (2, 3) := by kernel_rfl
theorem fl59_3 : fld Try.prog 59 3 = some (3, 56) := by kernel_rfl
theorem fl59_4 : fld Try.prog 59 4 = some (4, 22) := by kernel_rfl
theorem fl59_5 : fld Try.prog 59 5 = some (5, 57) := by kernel_rfl
theorem fl74_0 : fld Try.prog 74 0 = some (0, 3) := by kernel_rfl
theorem fl74_1 : fld Try.prog 74 1 = some (1, 3) := by kernel_rfl
theorem fl78_0 : fld Try.prog 78 0 = some (0, 24) := by kernel_rfl
theorem fl81_0 : fld Try.prog 81 0 = some (0, 22) := by kernel_rfl
theorem enters43 : Enters Try.prog 43 := enters_of Try.func43 (by kernel_rfl) (by kernel_rfl)
theorem enters44 : Enters Try.prog 44 := enters_of Try.func44 (by kernel_rfl) (by kernel_rfl)
theorem enters45 : Enters Try.prog 45 := enters_of Try.func45 (by kernel_rfl) (by kernel_rfl)
theorem enters46 : Enters Try.prog 46 := enters_of Try.func46 (by kernel_rfl) (by kernel_rfl)
theorem enters47 : Enters Try.prog 47 := enters_of Try.func47 (by kernel_rfl) (by kernel_rfl)
theorem enters48 : Enters Try.prog 48 := enters_of Try.func48 (by kernel_rfl) (by kernel_rfl)
theorem enters49 : Enters Try.prog 49 := enters_of Try.func49 (by kernel_rfl) (by kernel_rfl)
theorem enters50 : Enters Try.prog 50 := enters_of Try.func50 (by kernel_rfl) (by kernel_rfl)
theorem enters51 : Enters Try.prog 51 := enters_of Try.func51 (by kernel_rfl) (by kernel_rfl)
theorem enters60 : Enters Try.prog 60 := enters_of Try.func60 (by kernel_rfl) (by kernel_rfl)
theorem enters61 : Enters Try.prog 61 := enters_of Try.func61 (by kernel_rfl) (by kernel_rfl)
theorem enters62 : Enters Try.prog 62 := enters_of Try.func62 (by kernel_rfl) (by kernel_rfl)
theorem enters63 : Enters Try.prog 63 := enters_of Try.func63 (by kernel_rfl) (by kernel_rfl)
theorem enters64 : Enters Try.prog 64 := enters_of Try.func64 (by kernel_rfl) (by kernel_rfl)
theorem enters65 : Enters Try.prog 65 := enters_of Try.func65 (by kernel_rfl) (by kernel_rfl)
theorem enters66 : Enters Try.prog 66 := enters_of Try.func66 (by kernel_rfl) (by kernel_rfl)
theorem enters67 : Enters Try.prog 67 := enters_of Try.func67 (by kernel_rfl) (by kernel_rfl)
theorem enters68 : Enters Try.prog 68 := enters_of Try.func68 (by kernel_rfl) (by kernel_rfl)
theorem enters74 : Enters Try.prog 74 := enters_of Try.func74 (by kernel_rfl) (by kernel_rfl)
theorem enters75 : Enters Try.prog 75 := enters_of Try.func75 (by kernel_rfl) (by kernel_rfl)
theorem enters76 : Enters Try.prog 76 := enters_of Try.func76 (by kernel_rfl) (by kernel_rfl)
theorem enters77 : Enters Try.prog 77 := enters_of Try.func77 (by kernel_rfl) (by kernel_rfl)
theorem enters78 : Enters Try.prog 78 := enters_of Try.func78 (by kernel_rfl) (by kernel_rfl)
end Go.Proofs.Ytmkjnefongjniaa
