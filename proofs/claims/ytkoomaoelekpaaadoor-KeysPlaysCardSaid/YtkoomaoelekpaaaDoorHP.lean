/-
  Closed facts on the types and the functions that the walks name.
-/
import Derived.Test.YtkoomaoelekpaaaDoorHK
import Derived.Test.YtkoomaoelekpaaaDoorX14
namespace Go.Proofs.YtkoomaoelekpaaaDoor
open Go Go.X
theorem ar74 : arr Tryd.prog 74 = some (2, 29, 32) := by kernel_rfl
theorem bp55 : bplaces Tryd.prog 55 = some [(0, 1), (1, 32), (33, 32), (65, 1)] := by kernel_rfl
theorem bp74 : bplaces Tryd.prog 74 = some [(0, 32), (32, 32)] := by kernel_rfl
theorem bp76 : bplaces Tryd.prog 76 = some [(0, 1), (1, 1), (2, 64)] := by kernel_rfl
theorem pt43 : Tryd.prog.underlying 43 = some (.pointer (Tryd.prog.pointee 43)) := by kernel_rfl
theorem ss4 : scalar Tryd.prog 4 = true := by kernel_rfl
theorem wd76 : wide Tryd.prog 76 = some 66 := by kernel_rfl
theorem ze55 : zer Tryd.prog 55 = some ([.int .i64 0, .int .u8 0, .int .u8 0, .int .u8 0, .int .u8 0, .int .u8 0, .int .u8 0, .int .u8 0, .int .u8 0, .int .u8 0, .int .u8 0, .int .u8 0, .int .u8 0, .int .u8 0, .int .u8 0, .int .u8 0, .int .u8 0, .int .u8 0, .int .u8 0, .int .u8 0, .int .u8 0, .int .u8 0, .int .u8 0, .int .u8 0, .int .u8 0, .int .u8 0, .int .u8 0, .int .u8 0, .int .u8 0, .int .u8 0, .int .u8 0, .int .u8 0, .int .u8 0, .int .u8 0, .int .u8 0, .int .u8 0, .int .u8 0, .int .u8 0, .int .u8 0, .int .u8 0, .int .u8 0, .int .u8 0, .int .u8 0, .int .u8 0, .int .u8 0, .int .u8 0, .int .u8 0, .int .u8 0, .int .u8 0, .int .u8 0, .int .u8 0, .int .u8 0, .int .u8 0, .int .u8 0, .int .u8 0, .int .u8 0, .int .u8 0, .int .u8 0, .int .u8 0, .int .u8 0, .int .u8 0, .int .u8 0, .int .u8 0, .int .u8 0, .int .u8 0, .bool false]) := by kernel_rfl
theorem ze74 : zer Tryd.prog 74 = some (ints .u8 (List.replicate 64 0)) := by kernel_rfl
theorem ze76 : zer Tryd.prog 76 = some ([.int .i64 0, .int .i64 0, .int .u8 0, .int .u8 0, .int .u8 0, .int .u8 0, .int .u8 0, .int .u8 0, .int .u8 0, .int .u8 0, .int .u8 0, .int .u8 0, .int .u8 0, .int .u8 0, .int .u8 0, .int .u8 0, .int .u8 0, .int .u8 0, .int .u8 0, .int .u8 0, .int .u8 0, .int .u8 0, .int .u8 0, .int .u8 0, .int .u8 0, .int .u8 0, .int .u8 0, .int .u8 0, .int .u8 0, .int .u8 0, .int .u8 0, .int .u8 0, .int .u8 0, .int .u8 0, .int .u8 0, .int .u8 0, .int .u8 0, .int .u8 0, .int .u8 0, .int .u8 0, .int .u8 0, .int .u8 0, .int .u8 0, .int .u8 0, .int .u8 0, .int .u8 0, .int .u8 0, .int .u8 0, .int .u8 0, .int .u8 0, .int .u8 0, .int .u8 0, .int .u8 0, .int .u8 0, .int .u8 0, .int .u8 0, .int .u8 0, .int .u8 0, .int .u8 0, .int .u8 0, .int .u8 0, .int .u8 0, .int .u8 0, .int .u8 0, .int .u8 0, .int .u8 0]) := by kernel_rfl
theorem fl55_0 : fld Tryd.prog 55 0 = some (0, 3) := by kernel_rfl
theorem fl55_1 : fld Tryd.prog 55 1 = some (1, 29) := by kernel_rfl
theorem fl55_2 : fld Tryd.prog 55 2 = some (33, 29) := by kernel_rfl
theorem fl55_3 : fld Tryd.prog 55 3 = some (65, 4) := by kernel_rfl
theorem fl76_0 : fld Tryd.prog 76 0 = some (0, 3) := by kernel_rfl
theorem fl76_1 : fld Tryd.prog 76 1 = some (1, 3) := by kernel_rfl
theorem fl76_2 : fld Tryd.prog 76 2 = some (2, 74) := by kernel_rfl
theorem enters36 : Enters Tryd.prog 36 := enters_of Tryd.func36 (by kernel_rfl) (by kernel_rfl)
theorem enters37 : Enters Tryd.prog 37 := enters_of Tryd.func37 (by kernel_rfl) (by kernel_rfl)
theorem enters38 : Enters Tryd.prog 38 := enters_of Tryd.func38 (by kernel_rfl) (by kernel_rfl)
theorem enters39 : Enters Tryd.prog 39 := enters_of Tryd.func39 (by kernel_rfl) (by kernel_rfl)
theorem enters40 : Enters Tryd.prog 40 := enters_of Tryd.func40 (by kernel_rfl) (by kernel_rfl)
theorem enters41 : Enters Tryd.prog 41 := enters_of Tryd.func41 (by kernel_rfl) (by kernel_rfl)
theorem enters42 : Enters Tryd.prog 42 := enters_of Tryd.func42 (by kernel_rfl) (by kernel_rfl)
theorem enters43 : Enters Tryd.prog 43 := enters_of Tryd.func43 (by kernel_rfl) (by kernel_rfl)
theorem enters44 : Enters Tryd.prog 44 := enters_of Tryd.func44 (by kernel_rfl) (by kernel_rfl)
theorem enters45 : Enters Tryd.prog 45 := enters_of Tryd.func45 (by kernel_rfl) (by kernel_rfl)
theorem enters46 : Enters Tryd.prog 46 := enters_of Tryd.func46 (by kernel_rfl) (by kernel_rfl)
theorem enters47 : Enters Tryd.prog 47 := enters_of Tryd.func47 (by kernel_rfl) (by kernel_rfl)
theorem enters48 : Enters Tryd.prog 48 := enters_of Tryd.func48 (by kernel_rfl) (by kernel_rfl)
end Go.Proofs.YtkoomaoelekpaaaDoor
