/-
  What the laid tables of layer 6 hold.
-/
import Derived.Test.YtkoomaoelekpaaaDoorX8
import Derived.Test.YtkoomaoelekpaaaDoorPureB
import Derived.Test.YtkoomaoelekpaaaDoorChecked
import Derived.Test.YtkoomaoelekpaaaDoorRows
namespace Go.Proofs.YtkoomaoelekpaaaDoor
open Go Go.X Go.ChangeShapes Go.WideShapes Go.ChangeAt Go.RowKit
theorem own : ownKnob Tryd.prog.godebug = none := by kernel_rfl
theorem g0 : Tryd.prog.globalNamed "sheave/blake.start" = some 0 := by kernel_rfl
theorem g1 : Tryd.prog.globalNamed "sheave/blake.rows" = some 1 := by kernel_rfl
theorem g2 : Tryd.prog.globalNamed "sheave/blake.places" = some 2 := by kernel_rfl
theorem g0t : (Tryd.prog.globals[0]?).map (·.type) = some 62 := by kernel_rfl
theorem g1t : (Tryd.prog.globals[1]?).map (·.type) = some 79 := by kernel_rfl
theorem g2t : (Tryd.prog.globals[2]?).map (·.type) = some 81 := by kernel_rfl
theorem ce61 : Tryd.prog.cellsOf 61 = 1 := by kernel_rfl
theorem ce62 : Tryd.prog.cellsOf 62 = 8 := by kernel_rfl
theorem ce5 : Tryd.prog.cellsOf 5 = 1 := by kernel_rfl
theorem ce78 : Tryd.prog.cellsOf 78 = 16 := by kernel_rfl
theorem ce79 : Tryd.prog.cellsOf 79 = 10 * 16 := by kernel_rfl
theorem ce80 : Tryd.prog.cellsOf 80 = 4 := by kernel_rfl
theorem ce81 : Tryd.prog.cellsOf 81 = 8 * 4 := by kernel_rfl
theorem ce29 : Tryd.prog.cellsOf 29 = 32 := by kernel_rfl
theorem tbool : Tryd.prog.underlying 4 = some .bool := by kernel_rfl
theorem u5 : Tryd.prog.underlying 5 = some (.int .u8) := by kernel_rfl
theorem u61 : Tryd.prog.underlying 61 = some (.int .u32) := by kernel_rfl
theorem u3 : Tryd.prog.underlying 3 = some (.int .i64) := by kernel_rfl
theorem u62 : Tryd.prog.underlying 62 = some (.array 8 61) := by kernel_rfl
theorem u78 : Tryd.prog.underlying 78 = some (.array 16 5) := by kernel_rfl
theorem u79 : Tryd.prog.underlying 79 = some (.array 10 78) := by kernel_rfl
theorem u80 : Tryd.prog.underlying 80 = some (.array 4 5) := by kernel_rfl
theorem u81 : Tryd.prog.underlying 81 = some (.array 8 80) := by kernel_rfl
theorem a29 : arr Tryd.prog 29 = some (32, 5, 1) := by kernel_rfl
theorem s22 : slc Tryd.prog 22 = some (5, 1, 1) := by kernel_rfl
theorem table0 {W : World} (h : laidMet Tryd.prog [("sheave/blake.start", Rows.laid_sheave_blake_start), ("sheave/blake.rows", Rows.laid_sheave_blake_rows), ("sheave/blake.places", Rows.laid_sheave_blake_places)] W) : Reads W (some ⟨0, 0, none⟩) (ints .u32 startW) :=
  reads_tab (zs := startW) g0 g0t u62 u61 ce61 ce62 h
theorem table1 {W : World} (h : laidMet Tryd.prog [("sheave/blake.start", Rows.laid_sheave_blake_start), ("sheave/blake.rows", Rows.laid_sheave_blake_rows), ("sheave/blake.places", Rows.laid_sheave_blake_places)] W) : Reads W (some ⟨1, 0, none⟩) (ints .u8 sgm) :=
  reads_tab2 (rows := [[0, 1, 2, 3, 4, 5, 6, 7, 8, 9, 10, 11, 12, 13, 14, 15], [14, 10, 4, 8, 9, 15, 13, 6, 1, 12, 0, 2, 11, 7, 5, 3], [11, 8, 12, 0, 5, 2, 15, 13, 10, 14, 3, 6, 7, 1, 9, 4], [7, 9, 3, 1, 13, 12, 11, 14, 2, 6, 5, 10, 4, 0, 15, 8], [9, 0, 5, 7, 2, 4, 10, 15, 14, 1, 11, 12, 6, 8, 3, 13], [2, 12, 6, 10, 0, 11, 8, 3, 4, 13, 7, 5, 15, 14, 1, 9], [12, 5, 1, 15, 14, 13, 4, 10, 0, 7, 6, 3, 9, 2, 8, 11], [13, 11, 7, 14, 12, 1, 3, 9, 5, 0, 15, 4, 8, 6, 2, 10], [6, 15, 14, 9, 11, 3, 0, 8, 12, 2, 13, 7, 1, 4, 10, 5], [10, 2, 8, 4, 7, 6, 1, 5, 15, 11, 9, 14, 3, 12, 13, 0]]) g1 g1t u79 u78 u5 ce5 ce78 ce79 (laid_rest h)
theorem table2 {W : World} (h : laidMet Tryd.prog [("sheave/blake.start", Rows.laid_sheave_blake_start), ("sheave/blake.rows", Rows.laid_sheave_blake_rows), ("sheave/blake.places", Rows.laid_sheave_blake_places)] W) : Reads W (some ⟨2, 0, none⟩) (ints .u8 tbl) :=
  reads_tab2 (rows := [[0, 4, 8, 12], [1, 5, 9, 13], [2, 6, 10, 14], [3, 7, 11, 15], [0, 5, 10, 15], [1, 6, 11, 12], [2, 7, 8, 13], [3, 4, 9, 14]]) g2 g2t u81 u80 u5 ce5 ce80 ce81 (laid_rest (laid_rest h))
/-- A world for the witness: the settled one, the three tables holding what their initialisers lay. -/
noncomputable def laidWorld (os : Os) : World :=
  { World.holding Tryd.prog os ⟨#[], #[], []⟩ with heap := ((((World.holding Tryd.prog os ⟨#[], #[], []⟩).heap).modify 0 (fun | .cells _ t frozen => .cells #[.int .u32 1779033703, .int .u32 3144134277, .int .u32 1013904242, .int .u32 2773480762, .int .u32 1359893119, .int .u32 2600822924, .int .u32 528734635, .int .u32 1541459225] t frozen | o => o)).modify 1 (fun | .cells _ t frozen => .cells #[.int .u8 0, .int .u8 1, .int .u8 2, .int .u8 3, .int .u8 4, .int .u8 5, .int .u8 6, .int .u8 7, .int .u8 8, .int .u8 9, .int .u8 10, .int .u8 11, .int .u8 12, .int .u8 13, .int .u8 14, .int .u8 15, .int .u8 14, .int .u8 10, .int .u8 4, .int .u8 8, .int .u8 9, .int .u8 15, .int .u8 13, .int .u8 6, .int .u8 1, .int .u8 12, .int .u8 0, .int .u8 2, .int .u8 11, .int .u8 7, .int .u8 5, .int .u8 3, .int .u8 11, .int .u8 8, .int .u8 12, .int .u8 0, .int .u8 5, .int .u8 2, .int .u8 15, .int .u8 13, .int .u8 10, .int .u8 14, .int .u8 3, .int .u8 6, .int .u8 7, .int .u8 1, .int .u8 9, .int .u8 4, .int .u8 7, .int .u8 9, .int .u8 3, .int .u8 1, .int .u8 13, .int .u8 12, .int .u8 11, .int .u8 14, .int .u8 2, .int .u8 6, .int .u8 5, .int .u8 10, .int .u8 4, .int .u8 0, .int .u8 15, .int .u8 8, .int .u8 9, .int .u8 0, .int .u8 5, .int .u8 7, .int .u8 2, .int .u8 4, .int .u8 10, .int .u8 15, .int .u8 14, .int .u8 1, .int .u8 11, .int .u8 12, .int .u8 6, .int .u8 8, .int .u8 3, .int .u8 13, .int .u8 2, .int .u8 12, .int .u8 6, .int .u8 10, .int .u8 0, .int .u8 11, .int .u8 8, .int .u8 3, .int .u8 4, .int .u8 13, .int .u8 7, .int .u8 5, .int .u8 15, .int .u8 14, .int .u8 1, .int .u8 9, .int .u8 12, .int .u8 5, .int .u8 1, .int .u8 15, .int .u8 14, .int .u8 13, .int .u8 4, .int .u8 10, .int .u8 0, .int .u8 7, .int .u8 6, .int .u8 3, .int .u8 9, .int .u8 2, .int .u8 8, .int .u8 11, .int .u8 13, .int .u8 11, .int .u8 7, .int .u8 14, .int .u8 12, .int .u8 1, .int .u8 3, .int .u8 9, .int .u8 5, .int .u8 0, .int .u8 15, .int .u8 4, .int .u8 8, .int .u8 6, .int .u8 2, .int .u8 10, .int .u8 6, .int .u8 15, .int .u8 14, .int .u8 9, .int .u8 11, .int .u8 3, .int .u8 0, .int .u8 8, .int .u8 12, .int .u8 2, .int .u8 13, .int .u8 7, .int .u8 1, .int .u8 4, .int .u8 10, .int .u8 5, .int .u8 10, .int .u8 2, .int .u8 8, .int .u8 4, .int .u8 7, .int .u8 6, .int .u8 1, .int .u8 5, .int .u8 15, .int .u8 11, .int .u8 9, .int .u8 14, .int .u8 3, .int .u8 12, .int .u8 13, .int .u8 0] t frozen | o => o)).modify 2 (fun | .cells _ t frozen => .cells #[.int .u8 0, .int .u8 4, .int .u8 8, .int .u8 12, .int .u8 1, .int .u8 5, .int .u8 9, .int .u8 13, .int .u8 2, .int .u8 6, .int .u8 10, .int .u8 14, .int .u8 3, .int .u8 7, .int .u8 11, .int .u8 15, .int .u8 0, .int .u8 5, .int .u8 10, .int .u8 15, .int .u8 1, .int .u8 6, .int .u8 11, .int .u8 12, .int .u8 2, .int .u8 7, .int .u8 8, .int .u8 13, .int .u8 3, .int .u8 4, .int .u8 9, .int .u8 14] t frozen | o => o) }


end Go.Proofs.YtkoomaoelekpaaaDoor
