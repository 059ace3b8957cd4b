/-
  Closed facts on the types and the functions that the walks name.
-/
import Derived.Test.YtgljacciacbggaaDoorPure1
import Derived.Test.YtgljacciacbggaaDoorRows
namespace Go.Proofs.YtgljacciacbggaaDoor
open Go Go.X
theorem ar23 : arr Tryd.prog 23 = some (4, 22, 1) := by kernel_rfl
theorem ar28 : arr Tryd.prog 28 = some (32, 5, 1) := by kernel_rfl
theorem ar30 : arr Tryd.prog 30 = some (12, 5, 1) := by kernel_rfl
theorem ar31 : arr Tryd.prog 31 = some (64, 5, 1) := by kernel_rfl
theorem ar41 : arr Tryd.prog 41 = some (8, 5, 1) := by kernel_rfl
theorem ar44 : arr Tryd.prog 44 = some (16, 22, 1) := by kernel_rfl
theorem ar46 : arr Tryd.prog 46 = some (4, 3, 1) := by kernel_rfl
theorem ar47 : arr Tryd.prog 47 = some (8, 46, 4) := by kernel_rfl
theorem eg23 : Tryd.prog.eqGuardType Tryd.prog.depth 23 = false := by kernel_rfl
theorem eg31 : Tryd.prog.eqGuardType Tryd.prog.depth 31 = false := by kernel_rfl
theorem sc36 : slc Tryd.prog 36 = some (5, 1, 1) := by kernel_rfl
theorem sc43 : slc Tryd.prog 43 = some (3, 1, 8) := by kernel_rfl
theorem sc48 : slc Tryd.prog 48 = some (22, 1, 4) := by kernel_rfl
theorem ss3 : scalar Tryd.prog 3 = true := by kernel_rfl
theorem ss5 : scalar Tryd.prog 5 = true := by kernel_rfl
theorem ss22 : scalar Tryd.prog 22 = true := by kernel_rfl
theorem un3 : Tryd.prog.underlying 3 = some (.int .i64) := by kernel_rfl
theorem un5 : Tryd.prog.underlying 5 = some (.int .u8) := by kernel_rfl
theorem un9 : Tryd.prog.underlying 9 = some (.string) := by kernel_rfl
theorem un22 : Tryd.prog.underlying 22 = some (.int .u32) := by kernel_rfl
theorem un49 : Tryd.prog.underlying 49 = some (.int .u64) := by kernel_rfl
theorem wd23 : wide Tryd.prog 23 = some 4 := by kernel_rfl
theorem wd28 : wide Tryd.prog 28 = some 32 := by kernel_rfl
theorem wd30 : wide Tryd.prog 30 = some 12 := by kernel_rfl
theorem wd31 : wide Tryd.prog 31 = some 64 := by kernel_rfl
theorem wd41 : wide Tryd.prog 41 = some 8 := by kernel_rfl
theorem wd44 : wide Tryd.prog 44 = some 16 := by kernel_rfl
theorem wd46 : wide Tryd.prog 46 = some 4 := by kernel_rfl
theorem wd47 : wide Tryd.prog 47 = some 32 := by kernel_rfl
theorem ze3 : zer Tryd.prog 3 = some ([.int .i64 0]) := by kernel_rfl
theorem ze5 : zer Tryd.prog 5 = some ([.int .u8 0]) := by kernel_rfl
theorem ze22 : zer Tryd.prog 22 = some ([.int .u32 0]) := by kernel_rfl
theorem ze23 : zer Tryd.prog 23 = some (ints .u32 (List.replicate 4 0)) := by kernel_rfl
theorem ze28 : zer Tryd.prog 28 = some (ints .u8 (List.replicate 32 0)) := by kernel_rfl
theorem ze31 : zer Tryd.prog 31 = some (ints .u8 (List.replicate 64 0)) := by kernel_rfl
theorem ze41 : zer Tryd.prog 41 = some (ints .u8 (List.replicate 8 0)) := by kernel_rfl
theorem ze44 : zer Tryd.prog 44 = some (ints .u32 (List.replicate 16 0)) := by kernel_rfl
theorem ze46 : zer Tryd.prog 46 = some (ints .i64 (List.replicate 4 0)) := by kernel_rfl
theorem fl35_0 : fld Tryd.prog 35 0 = some (0, 28) := by kernel_rfl
theorem fl35_1 : fld Tryd.prog 35 1 = some (32, 22) := by kernel_rfl
theorem fl35_2 : fld Tryd.prog 35 2 = some (33, 30) := by kernel_rfl
theorem enters9 : Enters Tryd.prog 9 := enters_of Tryd.func9 (by kernel_rfl) (by kernel_rfl)
theorem enters10 : Enters Tryd.prog 10 := enters_of Tryd.func10 (by kernel_rfl) (by kernel_rfl)
theorem enters11 : Enters Tryd.prog 11 := enters_of Tryd.func11 (by kernel_rfl) (by kernel_rfl)
theorem enters12 : Enters Tryd.prog 12 := enters_of Tryd.func12 (by kernel_rfl) (by kernel_rfl)
theorem enters13 : Enters Tryd.prog 13 := enters_of Tryd.func13 (by kernel_rfl) (by kernel_rfl)
theorem enters14 : Enters Tryd.prog 14 := enters_of Tryd.func14 (by kernel_rfl) (by kernel_rfl)
theorem enters15 : Enters Tryd.prog 15 := enters_of Tryd.func15 (by kernel_rfl) (by kernel_rfl)
theorem enters16 : Enters Tryd.prog 16 := enters_of Tryd.func16 (by kernel_rfl) (by kernel_rfl)
theorem enters17 : Enters Tryd.prog 17 := enters_of Tryd.func17 (by kernel_rfl) (by kernel_rfl)
theorem enters18 : Enters Tryd.prog 18 := enters_of Tryd.func18 (by kernel_rfl) (by kernel_rfl)
theorem enters19 : Enters Tryd.prog 19 := enters_of Tryd.func19 (by kernel_rfl) (by kernel_rfl)
end Go.Proofs.YtgljacciacbggaaDoor
