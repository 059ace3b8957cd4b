/-
  Closed facts on the types and the functions that the walks name.
-/
import Derived.Test.YtkoomaoelekpaaaDoorPureE
import Derived.Test.YtkoomaoelekpaaaDoorRows
namespace Go.Proofs.YtkoomaoelekpaaaDoor
open Go Go.X
theorem ar28 : arr Tryd.prog 28 = some (32, 5, 1) := by kernel_rfl
theorem ar29 : arr Tryd.prog 29 = some (32, 5, 1) := by kernel_rfl
theorem ar62 : arr Tryd.prog 62 = some (8, 61, 1) := by kernel_rfl
theorem ar66 : arr Tryd.prog 66 = some (64, 5, 1) := by kernel_rfl
theorem ar77 : arr Tryd.prog 77 = some (16, 61, 1) := by kernel_rfl
theorem ar78 : arr Tryd.prog 78 = some (16, 5, 1) := by kernel_rfl
theorem ar79 : arr Tryd.prog 79 = some (10, 78, 16) := by kernel_rfl
theorem ar80 : arr Tryd.prog 80 = some (4, 5, 1) := by kernel_rfl
theorem ar81 : arr Tryd.prog 81 = some (8, 80, 4) := by kernel_rfl
theorem eg29 : Tryd.prog.eqGuardType Tryd.prog.depth 29 = false := by kernel_rfl
theorem sc22 : slc Tryd.prog 22 = some (5, 1, 1) := by kernel_rfl
theorem sc57 : slc Tryd.prog 57 = some (3, 1, 8) := by kernel_rfl
theorem sc67 : slc Tryd.prog 67 = some (61, 1, 4) := by kernel_rfl
theorem sc84 : slc Tryd.prog 84 = some (57, 1, 24) := by kernel_rfl
theorem ss3 : scalar Tryd.prog 3 = true := by kernel_rfl
theorem ss5 : scalar Tryd.prog 5 = true := by kernel_rfl
theorem ss57 : scalar Tryd.prog 57 = true := by kernel_rfl
theorem ss61 : scalar Tryd.prog 61 = true := by kernel_rfl
theorem un3 : Tryd.prog.underlying 3 = some (.int .i64) := by kernel_rfl
theorem un5 : Tryd.prog.underlying 5 = some (.int .u8) := by kernel_rfl
theorem un9 : Tryd.prog.underlying 9 = some (.string) := by kernel_rfl
theorem un22 : Tryd.prog.underlying 22 = some (.slice 5) := by kernel_rfl
theorem un61 : Tryd.prog.underlying 61 = some (.int .u32) := by kernel_rfl
theorem un63 : Tryd.prog.underlying 63 = some (.int .u64) := by kernel_rfl
theorem un64 : Tryd.prog.underlying 64 = some (.int .u64) := by kernel_rfl
theorem wd29 : wide Tryd.prog 29 = some 32 := by kernel_rfl
theorem wd62 : wide Tryd.prog 62 = some 8 := by kernel_rfl
theorem wd66 : wide Tryd.prog 66 = some 64 := by kernel_rfl
theorem wd78 : wide Tryd.prog 78 = some 16 := by kernel_rfl
theorem wd79 : wide Tryd.prog 79 = some 160 := by kernel_rfl
theorem wd80 : wide Tryd.prog 80 = some 4 := by kernel_rfl
theorem wd81 : wide Tryd.prog 81 = some 32 := by kernel_rfl
theorem ze3 : zer Tryd.prog 3 = some ([.int .i64 0]) := by kernel_rfl
theorem ze5 : zer Tryd.prog 5 = some ([.int .u8 0]) := by kernel_rfl
theorem ze28 : zer Tryd.prog 28 = some (ints .u8 (List.replicate 32 0)) := by kernel_rfl
theorem ze29 : zer Tryd.prog 29 = some (ints .u8 (List.replicate 32 0)) := by kernel_rfl
theorem ze57 : zer Tryd.prog 57 = some ([.slice none 0 0]) := by kernel_rfl
theorem ze61 : zer Tryd.prog 61 = some ([.int .u32 0]) := by kernel_rfl
theorem ze62 : zer Tryd.prog 62 = some (ints .u32 (List.replicate 8 0)) := by kernel_rfl
theorem ze66 : zer Tryd.prog 66 = some (ints .u8 (List.replicate 64 0)) := by kernel_rfl
theorem ze77 : zer Tryd.prog 77 = some (ints .u32 (List.replicate 16 0)) := by kernel_rfl
theorem ze78 : zer Tryd.prog 78 = some (ints .u8 (List.replicate 16 0)) := by kernel_rfl
theorem ze80 : zer Tryd.prog 80 = some (ints .u8 (List.replicate 4 0)) := by kernel_rfl
theorem enters18 : Enters Tryd.prog 18 := enters_of Tryd.func18 (by kernel_rfl) (by kernel_rfl)
theorem enters19 : Enters Tryd.prog 19 := enters_of Tryd.func19 (by kernel_rfl) (by kernel_rfl)
theorem enters20 : Enters Tryd.prog 20 := enters_of Tryd.func20 (by kernel_rfl) (by kernel_rfl)
theorem enters21 : Enters Tryd.prog 21 := enters_of Tryd.func21 (by kernel_rfl) (by kernel_rfl)
theorem enters22 : Enters Tryd.prog 22 := enters_of Tryd.func22 (by kernel_rfl) (by kernel_rfl)
theorem enters23 : Enters Tryd.prog 23 := enters_of Tryd.func23 (by kernel_rfl) (by kernel_rfl)
theorem enters24 : Enters Tryd.prog 24 := enters_of Tryd.func24 (by kernel_rfl) (by kernel_rfl)
theorem enters49 : Enters Tryd.prog 49 := enters_of Tryd.func49 (by kernel_rfl) (by kernel_rfl)
theorem enters50 : Enters Tryd.prog 50 := enters_of Tryd.func50 (by kernel_rfl) (by kernel_rfl)
theorem enters51 : Enters Tryd.prog 51 := enters_of Tryd.func51 (by kernel_rfl) (by kernel_rfl)
theorem enters56 : Enters Tryd.prog 56 := enters_of Tryd.func56 (by kernel_rfl) (by kernel_rfl)
theorem enters57 : Enters Tryd.prog 57 := enters_of Tryd.func57 (by kernel_rfl) (by kernel_rfl)
theorem enters58 : Enters Tryd.prog 58 := enters_of Tryd.func58 (by kernel_rfl) (by kernel_rfl)
theorem enters60 : Enters Tryd.prog 60 := enters_of Tryd.func60 (by kernel_rfl) (by kernel_rfl)
theorem enters61 : Enters Tryd.prog 61 := enters_of Tryd.func61 (by kernel_rfl) (by kernel_rfl)
end Go.Proofs.YtkoomaoelekpaaaDoor
