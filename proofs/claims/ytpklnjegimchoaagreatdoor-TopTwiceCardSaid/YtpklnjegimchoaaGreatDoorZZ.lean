/-
  sheavetop.TopTwice: a datagram that arrives a second time changes nothing that can be seen: proved as the row says it, of every argument that the row lets in, the tables of the library and of the packages holding what the text lays, and as the card that ties these tables to the text.
-/
import Derived.Test.YtpklnjegimchoaaGreatDoorRows
import Derived.Test.YtpklnjegimchoaaGreatDoorCards
import Derived.Test.YtpklnjegimchoaaGreatDoorTie
import Derived.OpenShut
import Derived.Deep.DeepHandedRow
import Derived.Lib.LaidTab
import Derived.Test.YtpklnjegimchoaaGreatDoorMO
import Derived.Test.YtpklnjegimchoaaGreatDoorZYL
import Derived.Test.YtpklnjegimchoaaGreatDoorZJ
namespace Go.Proofs.YtpklnjegimchoaaGreatDoor
open Go Go.X Go.ChangeShapes Go.WideShapes Go.ChangeAt Go.RowKit
theorem own : ownKnob Tryz.prog.godebug = none := by kernel_rfl
theorem tbool : Tryz.prog.underlying 4 = some .bool := by kernel_rfl
theorem qs22 : slc Tryz.prog 22 = some (5, 1, 1) := by kernel_rfl
theorem qg6 : Tryz.prog.globalNamed "internal/strconv.uint64pow10" = some 6 := by kernel_rfl
theorem qt6 : (Tryz.prog.globals[6]?).map (·.type) = some 355 := by kernel_rfl
theorem qg3 : Tryz.prog.globalNamed "sheave/blake.start" = some 3 := by kernel_rfl
theorem qt3 : (Tryz.prog.globals[3]?).map (·.type) = some 333 := by kernel_rfl
theorem qg8 : Tryz.prog.globalNamed "sheave/blake.rows" = some 8 := by kernel_rfl
theorem qt8 : (Tryz.prog.globals[8]?).map (·.type) = some 357 := by kernel_rfl
theorem qg9 : Tryz.prog.globalNamed "sheave/blake.places" = some 9 := by kernel_rfl
theorem qt9 : (Tryz.prog.globals[9]?).map (·.type) = some 359 := by kernel_rfl
theorem qg4 : Tryz.prog.globalNamed "sheave/chacha.head" = some 4 := by kernel_rfl
theorem qt4 : (Tryz.prog.globals[4]?).map (·.type) = some 338 := by kernel_rfl
theorem qg5 : Tryz.prog.globalNamed "sheave/chacha.round" = some 5 := by kernel_rfl
theorem qt5 : (Tryz.prog.globals[5]?).map (·.type) = some 341 := by kernel_rfl
theorem qg10 : Tryz.prog.globalNamed "sheave/clamp.prime" = some 10 := by kernel_rfl
theorem qt10 : (Tryz.prog.globals[10]?).map (·.type) = some 364 := by kernel_rfl
theorem qg2 : Tryz.prog.globalNamed "sheave/curve.prime" = some 2 := by kernel_rfl
theorem qt2 : (Tryz.prog.globals[2]?).map (·.type) = some 248 := by kernel_rfl
theorem qg0 : Tryz.prog.globalNamed "sheave/ladder.begin" = some 0 := by kernel_rfl
theorem qt0 : (Tryz.prog.globals[0]?).map (·.type) = some 38 := by kernel_rfl
theorem qg1 : Tryz.prog.globalNamed "sheave/ladder.small" = some 1 := by kernel_rfl
theorem qt1 : (Tryz.prog.globals[1]?).map (·.type) = some 38 := by kernel_rfl
theorem qu3 : Tryz.prog.underlying 3 = some (.int .i64) := by kernel_rfl
theorem qu5 : Tryz.prog.underlying 5 = some (.int .u8) := by kernel_rfl
theorem qu38 : Tryz.prog.underlying 38 = some (.array 32 5) := by kernel_rfl
theorem qu240 : Tryz.prog.underlying 240 = some (.int .u64) := by kernel_rfl
theorem qu248 : Tryz.prog.underlying 248 = some (.array 4 240) := by kernel_rfl
theorem qu271 : Tryz.prog.underlying 271 = some (.array 16 5) := by kernel_rfl
theorem qu275 : Tryz.prog.underlying 275 = some (.int .u32) := by kernel_rfl
theorem qu333 : Tryz.prog.underlying 333 = some (.array 8 275) := by kernel_rfl
theorem qu338 : Tryz.prog.underlying 338 = some (.array 4 275) := by kernel_rfl
theorem qu340 : Tryz.prog.underlying 340 = some (.array 4 3) := by kernel_rfl
theorem qu341 : Tryz.prog.underlying 341 = some (.array 8 340) := by kernel_rfl
theorem qu355 : Tryz.prog.underlying 355 = some (.array 20 240) := by kernel_rfl
theorem qu357 : Tryz.prog.underlying 357 = some (.array 10 271) := by kernel_rfl
theorem qu358 : Tryz.prog.underlying 358 = some (.array 4 5) := by kernel_rfl
theorem qu359 : Tryz.prog.underlying 359 = some (.array 8 358) := by kernel_rfl
theorem qu364 : Tryz.prog.underlying 364 = some (.array 3 240) := by kernel_rfl
theorem qc3 : Tryz.prog.cellsOf 3 = 1 := by kernel_rfl
theorem qc5 : Tryz.prog.cellsOf 5 = 1 := by kernel_rfl
theorem qc38 : Tryz.prog.cellsOf 38 = 32 := by kernel_rfl
theorem qc240 : Tryz.prog.cellsOf 240 = 1 := by kernel_rfl
theorem qc248 : Tryz.prog.cellsOf 248 = 4 := by kernel_rfl
theorem qc271 : Tryz.prog.cellsOf 271 = 16 := by kernel_rfl
theorem qc275 : Tryz.prog.cellsOf 275 = 1 := by kernel_rfl
theorem qc333 : Tryz.prog.cellsOf 333 = 8 := by kernel_rfl
theorem qc338 : Tryz.prog.cellsOf 338 = 4 := by kernel_rfl
theorem qc340 : Tryz.prog.cellsOf 340 = 4 := by kernel_rfl
theorem qc341 : Tryz.prog.cellsOf 341 = 8 * 4 := by kernel_rfl
theorem qc355 : Tryz.prog.cellsOf 355 = 20 := by kernel_rfl
theorem qc357 : Tryz.prog.cellsOf 357 = 10 * 16 := by kernel_rfl
theorem qc358 : Tryz.prog.cellsOf 358 = 4 := by kernel_rfl
theorem qc359 : Tryz.prog.cellsOf 359 = 8 * 4 := by kernel_rfl
theorem qc364 : Tryz.prog.cellsOf 364 = 3 := by kernel_rfl
theorem base_of {W : World} (h : laidMet Tryz.prog Rows.topTwiceRow.laid W) : Base W := by
  have r6 : Pow10 W := Lib.tabIs_of_head (zs := Lib.pow10Tab) qg6 qt6 qu355 qu240 qc240 qc355 (laid_rest (laid_rest h))
  have r3 : Reads W (some ⟨3, 0, none⟩) (ints .u32 startW) := reads_tab (zs := startW) qg3 qt3 qu333 qu275 qc275 qc333 (laid_rest (laid_rest (laid_rest h)))
  have r8 : Reads W (some ⟨8, 0, none⟩) (ints .u8 sgm) := reads_tab2 (rows := [[0, 1, 2, 3, 4, 5, 6, 7, 8, 9, 10, 11, 12, 13, 14, 15], [14, 10, 4, 8, 9, 15, 13, 6, 1, 12, 0, 2, 11, 7, 5, 3], [11, 8, 12, 0, 5, 2, 15, 13, 10, 14, 3, 6, 7, 1, 9, 4], [7, 9, 3, 1, 13, 12, 11, 14, 2, 6, 5, 10, 4, 0, 15, 8], [9, 0, 5, 7, 2, 4, 10, 15, 14, 1, 11, 12, 6, 8, 3, 13], [2, 12, 6, 10, 0, 11, 8, 3, 4, 13, 7, 5, 15, 14, 1, 9], [12, 5, 1, 15, 14, 13, 4, 10, 0, 7, 6, 3, 9, 2, 8, 11], [13, 11, 7, 14, 12, 1, 3, 9, 5, 0, 15, 4, 8, 6, 2, 10], [6, 15, 14, 9, 11, 3, 0, 8, 12, 2, 13, 7, 1, 4, 10, 5], [10, 2, 8, 4, 7, 6, 1, 5, 15, 11, 9, 14, 3, 12, 13, 0]]) qg8 qt8 qu357 qu271 qu5 qc5 qc271 qc357 (laid_rest (laid_rest (laid_rest (laid_rest h))))
  have r9 : Reads W (some ⟨9, 0, none⟩) (ints .u8 tbl) := reads_tab2 (rows := [[0, 4, 8, 12], [1, 5, 9, 13], [2, 6, 10, 14], [3, 7, 11, 15], [0, 5, 10, 15], [1, 6, 11, 12], [2, 7, 8, 13], [3, 4, 9, 14]]) qg9 qt9 qu359 qu358 qu5 qc5 qc358 qc359 (laid_rest (laid_rest (laid_rest (laid_rest (laid_rest h)))))
  have r4 : Reads W (some ⟨4, 0, none⟩) (ints .u32 headW) := reads_tab (zs := headW) qg4 qt4 qu338 qu275 qc275 qc338 (laid_rest (laid_rest (laid_rest (laid_rest (laid_rest (laid_rest h))))))
  have r5 : Reads W (some ⟨5, 0, none⟩) (ints .i64 tbl) := reads_tab2 (rows := [[0, 4, 8, 12], [1, 5, 9, 13], [2, 6, 10, 14], [3, 7, 11, 15], [0, 5, 10, 15], [1, 6, 11, 12], [2, 7, 8, 13], [3, 4, 9, 14]]) qg5 qt5 qu341 qu340 qu3 qc3 qc340 qc341 (laid_rest (laid_rest (laid_rest (laid_rest (laid_rest (laid_rest (laid_rest h)))))))
  have r10 : Reads W (some ⟨10, 0, none⟩) (ints .u64 primeW) := reads_tab (zs := primeW) qg10 qt10 qu364 qu240 qc240 qc364 (laid_rest (laid_rest (laid_rest (laid_rest (laid_rest (laid_rest (laid_rest (laid_rest h))))))))
  have r2 : Reads W (some ⟨2, 0, none⟩) (ints .u64 [18446744073709551597, 18446744073709551615, 18446744073709551615, 9223372036854775807]) := reads_tab (zs := [18446744073709551597, 18446744073709551615, 18446744073709551615, 9223372036854775807]) qg2 qt2 qu248 qu240 qc240 qc248 (laid_rest (laid_rest (laid_rest (laid_rest (laid_rest (laid_rest (laid_rest (laid_rest (laid_rest h)))))))))
  have r0 : Reads W (some ⟨0, 0, none⟩) (ints .u8 [9, 0, 0, 0, 0, 0, 0, 0, 0, 0, 0, 0, 0, 0, 0, 0, 0, 0, 0, 0, 0, 0, 0, 0, 0, 0, 0, 0, 0, 0, 0, 0]) := reads_tab (zs := [9, 0, 0, 0, 0, 0, 0, 0, 0, 0, 0, 0, 0, 0, 0, 0, 0, 0, 0, 0, 0, 0, 0, 0, 0, 0, 0, 0, 0, 0, 0, 0]) qg0 qt0 qu38 qu5 qc5 qc38 (laid_rest (laid_rest (laid_rest (laid_rest (laid_rest (laid_rest (laid_rest (laid_rest (laid_rest (laid_rest h))))))))))
  have r1 : Reads W (some ⟨1, 0, none⟩) (ints .u8 [65, 219, 1, 0, 0, 0, 0, 0, 0, 0, 0, 0, 0, 0, 0, 0, 0, 0, 0, 0, 0, 0, 0, 0, 0, 0, 0, 0, 0, 0, 0, 0]) := reads_tab (zs := [65, 219, 1, 0, 0, 0, 0, 0, 0, 0, 0, 0, 0, 0, 0, 0, 0, 0, 0, 0, 0, 0, 0, 0, 0, 0, 0, 0, 0, 0, 0, 0]) qg1 qt1 qu38 qu5 qc5 qc38 (laid_rest (laid_rest (laid_rest (laid_rest (laid_rest (laid_rest (laid_rest (laid_rest (laid_rest (laid_rest (laid_rest h)))))))))))
  exact ⟨⟨⟨r3, r4, r5, r8, r9⟩, r10, r6⟩, ⟨_, rfl, r0⟩, ⟨_, rfl, r1⟩, ⟨_, rfl, r2⟩⟩
noncomputable def laidWorld (os : Os) : World := { World.holding Tryz.prog os ⟨#[], #[], []⟩ with heap := (((((((((((((World.holding Tryz.prog os ⟨#[], #[], []⟩).heap).modify 11 (fun | .cells _ t frozen => .cells #[.int .u8 0, .int .u8 1, .int .u8 28, .int .u8 2, .int .u8 29, .int .u8 14, .int .u8 24, .int .u8 3, .int .u8 30, .int .u8 22, .int .u8 20, .int .u8 15, .int .u8 25, .int .u8 17, .int .u8 4, .int .u8 8, .int .u8 31, .int .u8 27, .int .u8 13, .int .u8 23, .int .u8 21, .int .u8 19, .int .u8 16, .int .u8 7, .int .u8 26, .int .u8 12, .int .u8 18, .int .u8 6, .int .u8 11, .int .u8 5, .int .u8 10, .int .u8 9] t frozen | o => o)).modify 12 (fun | .cells _ t frozen => .cells #[.int .u8 0, .int .u8 1, .int .u8 56, .int .u8 2, .int .u8 57, .int .u8 49, .int .u8 28, .int .u8 3, .int .u8 61, .int .u8 58, .int .u8 42, .int .u8 50, .int .u8 38, .int .u8 29, .int .u8 17, .int .u8 4, .int .u8 62, .int .u8 47, .int .u8 59, .int .u8 36, .int .u8 45, .int .u8 43, .int .u8 51, .int .u8 22, .int .u8 53, .int .u8 39, .int .u8 33, .int .u8 30, .int .u8 24, .int .u8 18, .int .u8 12, .int .u8 5, .int .u8 63, .int .u8 55, .int .u8 48, .int .u8 27, .int .u8 60, .int .u8 41, .int .u8 37, .int .u8 16, .int .u8 46, .int .u8 35, .int .u8 44, .int .u8 21, .int .u8 52, .int .u8 32, .int .u8 23, .int .u8 11, .int .u8 54, .int .u8 26, .int .u8 40, .int .u8 15, .int .u8 34, .int .u8 20, .int .u8 31, .int .u8 10, .int .u8 25, .int .u8 14, .int .u8 19, .int .u8 9, .int .u8 13, .int .u8 8, .int .u8 7, .int .u8 6] t frozen | o => o)).modify 6 (fun | .cells _ t frozen => .cells #[.int .u64 1, .int .u64 10, .int .u64 100, .int .u64 1000, .int .u64 10000, .int .u64 100000, .int .u64 1000000, .int .u64 10000000, .int .u64 100000000, .int .u64 1000000000, .int .u64 10000000000, .int .u64 100000000000, .int .u64 1000000000000, .int .u64 10000000000000, .int .u64 100000000000000, .int .u64 1000000000000000, .int .u64 10000000000000000, .int .u64 100000000000000000, .int .u64 1000000000000000000, .int .u64 10000000000000000000] t frozen | o => o)).modify 3 (fun | .cells _ t frozen => .cells #[.int .u32 1779033703, .int .u32 3144134277, .int .u32 1013904242, .int .u32 2773480762, .int .u32 1359893119, .int .u32 2600822924, .int .u32 528734635, .int .u32 1541459225] t frozen | o => o)).modify 8 (fun | .cells _ t frozen => .cells #[.int .u8 0, .int .u8 1, .int .u8 2, .int .u8 3, .int .u8 4, .int .u8 5, .int .u8 6, .int .u8 7, .int .u8 8, .int .u8 9, .int .u8 10, .int .u8 11, .int .u8 12, .int .u8 13, .int .u8 14, .int .u8 15, .int .u8 14, .int .u8 10, .int .u8 4, .int .u8 8, .int .u8 9, .int .u8 15, .int .u8 13, .int .u8 6, .int .u8 1, .int .u8 12, .int .u8 0, .int .u8 2, .int .u8 11, .int .u8 7, .int .u8 5, .int .u8 3, .int .u8 11, .int .u8 8, .int .u8 12, .int .u8 0, .int .u8 5, .int .u8 2, .int .u8 15, .int .u8 13, .int .u8 10, .int .u8 14, .int .u8 3, .int .u8 6, .int .u8 7, .int .u8 1, .int .u8 9, .int .u8 4, .int .u8 7, .int .u8 9, .int .u8 3, .int .u8 1, .int .u8 13, .int .u8 12, .int .u8 11, .int .u8 14, .int .u8 2, .int .u8 6, .int .u8 5, .int .u8 10, .int .u8 4, .int .u8 0, .int .u8 15, .int .u8 8, .int .u8 9, .int .u8 0, .int .u8 5, .int .u8 7, .int .u8 2, .int .u8 4, .int .u8 10, .int .u8 15, .int .u8 14, .int .u8 1, .int .u8 11, .int .u8 12, .int .u8 6, .int .u8 8, .int .u8 3, .int .u8 13, .int .u8 2, .int .u8 12, .int .u8 6, .int .u8 10, .int .u8 0, .int .u8 11, .int .u8 8, .int .u8 3, .int .u8 4, .int .u8 13, .int .u8 7, .int .u8 5, .int .u8 15, .int .u8 14, .int .u8 1, .int .u8 9, .int .u8 12, .int .u8 5, .int .u8 1, .int .u8 15, .int .u8 14, .int .u8 13, .int .u8 4, .int .u8 10, .int .u8 0, .int .u8 7, .int .u8 6, .int .u8 3, .int .u8 9, .int .u8 2, .int .u8 8, .int .u8 11, .int .u8 13, .int .u8 11, .int .u8 7, .int .u8 14, .int .u8 12, .int .u8 1, .int .u8 3, .int .u8 9, .int .u8 5, .int .u8 0, .int .u8 15, .int .u8 4, .int .u8 8, .int .u8 6, .int .u8 2, .int .u8 10, .int .u8 6, .int .u8 15, .int .u8 14, .int .u8 9, .int .u8 11, .int .u8 3, .int .u8 0, .int .u8 8, .int .u8 12, .int .u8 2, .int .u8 13, .int .u8 7, .int .u8 1, .int .u8 4, .int .u8 10, .int .u8 5, .int .u8 10, .int .u8 2, .int .u8 8, .int .u8 4, .int .u8 7, .int .u8 6, .int .u8 1, .int .u8 5, .int .u8 15, .int .u8 11, .int .u8 9, .int .u8 14, .int .u8 3, .int .u8 12, .int .u8 13, .int .u8 0] t frozen | o => o)).modify 9 (fun | .cells _ t frozen => .cells #[.int .u8 0, .int .u8 4, .int .u8 8, .int .u8 12, .int .u8 1, .int .u8 5, .int .u8 9, .int .u8 13, .int .u8 2, .int .u8 6, .int .u8 10, .int .u8 14, .int .u8 3, .int .u8 7, .int .u8 11, .int .u8 15, .int .u8 0, .int .u8 5, .int .u8 10, .int .u8 15, .int .u8 1, .int .u8 6, .int .u8 11, .int .u8 12, .int .u8 2, .int .u8 7, .int .u8 8, .int .u8 13, .int .u8 3, .int .u8 4, .int .u8 9, .int .u8 14] t frozen | o => o)).modify 4 (fun | .cells _ t frozen => .cells #[.int .u32 1634760805, .int .u32 857760878, .int .u32 2036477234, .int .u32 1797285236] t frozen | o => o)).modify 5 (fun | .cells _ t frozen => .cells #[.int .i64 0, .int .i64 4, .int .i64 8, .int .i64 12, .int .i64 1, .int .i64 5, .int .i64 9, .int .i64 13, .int .i64 2, .int .i64 6, .int .i64 10, .int .i64 14, .int .i64 3, .int .i64 7, .int .i64 11, .int .i64 15, .int .i64 0, .int .i64 5, .int .i64 10, .int .i64 15, .int .i64 1, .int .i64 6, .int .i64 11, .int .i64 12, .int .i64 2, .int .i64 7, .int .i64 8, .int .i64 13, .int .i64 3, .int .i64 4, .int .i64 9, .int .i64 14] t frozen | o => o)).modify 10 (fun | .cells _ t frozen => .cells #[.int .u64 18446744073709551611, .int .u64 18446744073709551615, .int .u64 3] t frozen | o => o)).modify 2 (fun | .cells _ t frozen => .cells #[.int .u64 18446744073709551597, .int .u64 18446744073709551615, .int .u64 18446744073709551615, .int .u64 9223372036854775807] t frozen | o => o)).modify 0 (fun | .cells _ t frozen => .cells #[.int .u8 9, .int .u8 0, .int .u8 0, .int .u8 0, .int .u8 0, .int .u8 0, .int .u8 0, .int .u8 0, .int .u8 0, .int .u8 0, .int .u8 0, .int .u8 0, .int .u8 0, .int .u8 0, .int .u8 0, .int .u8 0, .int .u8 0, .int .u8 0, .int .u8 0, .int .u8 0, .int .u8 0, .int .u8 0, .int .u8 0, .int .u8 0, .int .u8 0, .int .u8 0, .int .u8 0, .int .u8 0, .int .u8 0, .int .u8 0, .int .u8 0, .int .u8 0] t frozen | o => o)).modify 1 (fun | .cells _ t frozen => .cells #[.int .u8 65, .int .u8 219, .int .u8 1, .int .u8 0, .int .u8 0, .int .u8 0, .int .u8 0, .int .u8 0, .int .u8 0, .int .u8 0, .int .u8 0, .int .u8 0, .int .u8 0, .int .u8 0, .int .u8 0, .int .u8 0, .int .u8 0, .int .u8 0, .int .u8 0, .int .u8 0, .int .u8 0, .int .u8 0, .int .u8 0, .int .u8 0, .int .u8 0, .int .u8 0, .int .u8 0, .int .u8 0, .int .u8 0, .int .u8 0, .int .u8 0, .int .u8 0] t frozen | o => o) }
theorem twice_does {w : World} (h : Base w) (p : Int) (hp0 : -9223372036854775808 ≤ p) (hp1 : p ≤ 9223372036854775807) (A : Option Addr) (xs : List Int) (c : Nat) (hb : Bytes xs) (hR : Reads w A (ints .u8 xs)) (hc : xs.length ≤ c) (hc1 : c ≤ 140737488355328) (hA : A = none → c = 0) (once : Bool) :
    Does Tryz.prog 3 #[.int .i64 p, .slice A xs.length c, .bool once] w [] fun v F => v = .bool true ∧ F = [] :=
  Calls.mono (twice_law h p hp0 hp1 A xs c hb hR hc hc1 hA once) fun e w' ⟨he, hk⟩ => ⟨_, [], he, ⟨hk, fun b hb => (by cases hb), fun b hb => (by cases hb), List.Pairwise.nil⟩, rfl, rfl⟩
section
variable {H : Type} {enc : TypeId × Value → H} {P : Program} {w : World} {base : Nat} {spare : Nat → Bool} {held : Bool}
theorem open_sliceN {t e : TypeId} {k : IntKind} {by_ b0 : Nat} {r : Reach} {v : Value} {d : DataW H} {ps : List MemPlace} (ha : slc P t = some (e, 1, by_)) (he : P.underlying e = some (.int k)) (hval : Value.okWide P w r b0 t v)
    (hd : DataW.Trod enc P w base (fun _ => true) held t v d ps) (hwt : ∀ m ∈ d.weights P t, m ≤ reachBytes) :
    ∃ (A : Option Addr) (c : Nat) (xs : List Int), v = .slice A xs.length c ∧ xs.length ≤ c ∧ c * by_ ≤ reachBytes ∧ Reads w A (ints k xs) ∧ (∀ z ∈ xs, (Lit.int k z).wf = true) ∧ (A = none → c = 0) := by
  obtain ⟨hu, inf, hi, hs, hb⟩ := slc_parts ha
  have hc := cellsOf_of hi hs
  obtain ⟨A, l, c, rfl⟩ := okWide_slice hu hval
  obtain ⟨n, hn⟩ := hd
  rcases open_ints hu he hc hn with ⟨h1, h2⟩ | ⟨a, len, cap, zs, h1, _, hlc, _, hzl, h2, hcell, hwf⟩
  · simp only [Value.cells, List.cons.injEq, Value.slice.injEq, and_true] at h1
    obtain ⟨rfl, rfl, rfl⟩ := h1
    exact ⟨none, 0, [], rfl, Nat.le_refl _, by simp, Reads.nil w none, by simp, fun _ => rfl⟩
  · simp only [Value.cells, List.cons.injEq, Value.slice.injEq, and_true] at h1
    obtain ⟨rfl, rfl, rfl⟩ := h1
    simp only [if_true] at hzl
    have hlt : (zs.take l).length = l := by rw [List.length_take]; omega
    refine ⟨some a, c, zs.take l, by rw [hlt], by omega, ?_, ?_, fun z hz => hwf z (List.mem_of_mem_take hz), fun h => by cases h⟩
    · have := hwt (c * by_) (by
        cases h2
        simp only [DataW.weights, hu]
        refine List.mem_cons.2 (.inl ?_)
        have e1 : P.bytesOf e = by_ := by simp [Program.bytesOf, hi, hb]
        have e2 : ∀ (l : List Int), (lits (H := H) k l).length = l.length := fun l => by simp [lits]
        rw [e1, e2, e2, hlt, List.length_drop, hzl, show l + (c - l) = c by omega])
      exact this
    · intro j v hj
      have hjl : j < l := by
        have := (List.getElem?_eq_some_iff.1 hj).1
        simpa [hlt] using this
      refine ⟨a, rfl, ?_⟩
      rw [hcell j (by omega)]
      have hg := ints_get (k := k) (xs := zs.take l) (j := j) (by omega)
      rw [hg] at hj
      cases hj
      simp only [List.getD_eq_getElem?_getD, List.getElem?_take]
      simp [hjl]
end
namespace topTwice
set_option maxRecDepth 100000 in
theorem contract (H : Type) (enc : TypeId × Value → H) (W : World) (base : Nat) (args : Array Value) (ds gs : List (DataW H)) (before : List MemPlace)
    (hval : ∀ (j : Nat) t v, Tryz.f3.params[j]? = some t → args[j]? = some v → Value.okWide Tryz.prog W .any base t v)
    (hW : DataW.Whole enc Tryz.prog Tryz.f3.params.toList Rows.topTwiceSpec.vars false W args.toList ds gs before)
    (hwt : (DataW.weightsEach Tryz.prog (Tryz.f3.params.toList ++ (OpenSpec.ofChange Rows.topTwiceSpec).bare.plain.varTypes Tryz.prog) (ds ++ gs)).all (· ≤ reachBytes) = true) (hL : laidMetH Tryz.prog Rows.topTwiceRow.laid W) :
    Calls Tryz.prog 3 args W fun e W' => ∃ v, e = .returned v ∧ Rows.topTwiceSpec.post enc Tryz.prog Tryz.f3 false true false false W args v W' := by
  have hB := base_of hL
  have hW' := hW
  obtain ⟨p, q, hA0, hV, rfl, hfz, hnd⟩ := hW
  have hA : DataW.TrodAll enc Tryz.prog W 0 (fun _ => true) true Tryz.f3.params.toList args.toList ds p := hA0
  rw [Tryz.params3] at hA hval hwt
  obtain ⟨v0, vs0, d0, ds0, p0, q0, hargs, rfl, rfl, h0, r0⟩ := trodAll_cons hA
  obtain ⟨v1, vs1, d1, ds1, p1, q1, rfl, rfl, rfl, h1, r1⟩ := trodAll_cons r0
  obtain ⟨v2, vs2, d2, ds2, p2, q2, rfl, rfl, rfl, h2, r2⟩ := trodAll_cons r1
  obtain ⟨rfl, rfl, rfl⟩ := trodAll_nil r2
  obtain rfl : args = #[v0, v1, v2] := by cases args; simp_all
  obtain ⟨rfl, rfl⟩ := trodVars_none hV
  obtain ⟨z, rfl, hz⟩ := open_i qu3 (hval 0 3 v0 rfl rfl) h0
  obtain ⟨A, c, xs, rfl, hlc, hcb, hR, hby, hAn⟩ := open_sliceN qs22 qu5 (hval 1 22 v1 rfl rfl) h1 (weights_at hwt 1 22 d1 rfl rfl)
  obtain ⟨once, rfl⟩ := okWide_bool tbool (hval 2 4 v2 rfl rfl)
  clear hA0
  have hw := twice_does hB z (wf_i64 hz).1 (wf_i64 hz).2 A xs c (fun y hy => wf_u8 (hby y hy)) hR hlc (by unfold reachBytes at hcb; omega) hAn once
  unfold Does at hw
  refine hw.mono ?_
  rintro e W' ⟨v, F, he, hm, rfl, hG⟩
  exact ⟨_, he, law_post (by kernel_rfl) rfl (by kernel_rfl) tbool hW' rfl hm.kept⟩
theorem laid_met (os : Os) : laidMet Tryz.prog Rows.topTwiceRow.laid ((laidWorld os).forCall (fun _ _ => 0) ⟨#[], #[.int .i64 0, .slice none 0 0, .bool false], []⟩).memory :=
  laidMet_of_run' 8 (by kernel_rfl) (by kernel_rfl)
theorem reads (os : Os) {H : Type} (enc : TypeId × Value → H) : ∃ places, DataW.whole enc Tryz.prog ((laidWorld os).forCall (fun _ _ => 0) ⟨#[], #[.int .i64 0, .slice none 0 0, .bool false], []⟩).memory Tryz.f3.params.toList Rows.topTwiceSpec.vars false #[.int .i64 0, .slice none 0 0, .bool false].toList 8 = some ([.lit (.int .i64 0), .nil, .lit (.bool false)], [], places) :=
  ⟨[], by kernel_rfl⟩
set_option maxRecDepth 100000 in
theorem lifted (os : Os) (started : os.Started) (H : Type) (enc : TypeId × Value → H) (F : Stop.Interp) :
    ReturnsInHanded {} Tryz.checked os 3 .any ((OpenSpec.ofChange Rows.topTwiceSpec).preRow enc Tryz.prog Tryz.f3 Rows.topTwiceRow.domain false Rows.topTwiceRow.laid) (((OpenSpec.ofChange Rows.topTwiceSpec).at F).post enc Tryz.prog Tryz.f3 false true false false) := by
  obtain ⟨places, hx⟩ := reads os enc
  refine returnsInHanded_of_row (C := Tryz.checked) (s := OpenSpec.ofChange Rows.topTwiceSpec) own started (by kernel_rfl) Tryz.func3
    (witness_row_at (enc := enc) (C := Tryz.checked) false (laidWorld os) #[.int .i64 0, .slice none 0 0, .bool false] rfl (by kernel_rfl) (by kernel_rfl) (by kernel_rfl)
      (OpenSpec.preRow_of_cond 8 hx (by kernel_rfl) (fun k hk => by cases hk) (by kernel_rfl) (laid_met os))) ?_
  intro W base args ds gs before hval hW _ _ hwt hL _ _
  exact contract H enc W base args ds gs before hval hW hwt hL
theorem said : Rows.TopTwiceSaid :=
  OpenClaim.holds_of_cond 3 Tryz.f3 rfl rfl rfl rfl rfl rfl rfl ⟨rfl, rfl, rfl, rfl, rfl⟩ rfl rfl rfl rfl rfl (by kernel_rfl) Tryz.func3 closed
    (of_decide_eq_true (by kernel_rfl)) (by unfold Func.isWrapper; first | (rw [if_pos (by decide +kernel)]; kernel_rfl) | (rw [if_neg (by decide +kernel)]; exact ⟨rfl, rfl⟩))
    (fun os started H enc _ F => by rw [OpenClaim.pre_eq_preRow]; exact lifted os started H enc F)
theorem plain (f : FuncId) (fn : Func) (hf : Tryz.pinned.checked.prog.funcNamed "sheave/sheavetop.TopTwice" = some f) (hfn : Tryz.pinned.checked.prog.funcs[f]? = some fn) :
    true = Tryz.pinned.checked.prog.looks [] ∧ ∀ (j : Nat) t, fn.params[j]? = some t → Tryz.pinned.checked.prog.wantsStandIn t = false := by
  obtain rfl : f = 3 := Option.some.inj ((show Tryz.prog.funcNamed "sheave/sheavetop.TopTwice" = some 3 by kernel_rfl).symm.trans hf) |>.symm
  obtain rfl : fn = Tryz.f3 := (Option.some.inj (Tryz.func3.symm.trans hfn)).symm
  refine ⟨by kernel_rfl, fun j t ht => ?_⟩
  rw [Tryz.params3] at ht
  have hm := Array.mem_of_getElem? ht
  simp only [List.mem_toArray, List.mem_cons, List.not_mem_nil, or_false] at hm
  rcases hm with rfl | rfl | rfl
  · exact (show Tryz.prog.wantsStandIn 3 = false by kernel_rfl)
  · exact (show Tryz.prog.wantsStandIn 22 = false by kernel_rfl)
  · exact (show Tryz.prog.wantsStandIn 4 = false by kernel_rfl)
theorem card : Rows.TopTwiceCardSaid :=
  Claim7.holds_tied_plain_at .later [] _ _ _ _ said (fun _ h => by cases h) (by kernel_rfl) (fun _ h => by cases h) topTwice_row_tie rfl ⟨rfl, rfl⟩ (by kernel_rfl) rfl plain (by kernel_rfl)
end topTwice
end Go.Proofs.YtpklnjegimchoaaGreatDoor
