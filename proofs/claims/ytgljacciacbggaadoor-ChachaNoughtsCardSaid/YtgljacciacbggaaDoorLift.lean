/-
  What the laid tables of layer 4 hold, and what its arguments are by their reading.
-/
import Derived.Test.YtgljacciacbggaaDoorX8
import Derived.Test.YtgljacciacbggaaDoorPure3
import Derived.Test.YtgljacciacbggaaDoorChecked
import Derived.Test.YtgljacciacbggaaDoorRows
namespace Go.Proofs.YtgljacciacbggaaDoor
open Go Go.X Go.ChangeShapes Go.WideShapes Go.ChangeAt Go.RowKit
theorem own : ownKnob Tryd.prog.godebug = none := by kernel_rfl
theorem g0 : Tryd.prog.globalNamed "sheave/chacha.head" = some 0 := by kernel_rfl
theorem g1 : Tryd.prog.globalNamed "sheave/chacha.round" = some 1 := by kernel_rfl
theorem g0t : (Tryd.prog.globals[0]?).map (·.type) = some 23 := by kernel_rfl
theorem g1t : (Tryd.prog.globals[1]?).map (·.type) = some 47 := by kernel_rfl
theorem ce22 : Tryd.prog.cellsOf 22 = 1 := by kernel_rfl
theorem ce23 : Tryd.prog.cellsOf 23 = 4 := by kernel_rfl
theorem ce3 : Tryd.prog.cellsOf 3 = 1 := by kernel_rfl
theorem ce47 : Tryd.prog.cellsOf 47 = 8 * 4 := by kernel_rfl
theorem ceRow : Tryd.prog.cellsOf 46 = 4 := by kernel_rfl
theorem ce28 : Tryd.prog.cellsOf 28 = 32 := by kernel_rfl
theorem ce30 : Tryd.prog.cellsOf 30 = 12 := by kernel_rfl
theorem ce35 : Tryd.prog.cellsOf 35 = 45 := by kernel_rfl
theorem tbool : Tryd.prog.underlying 4 = some .bool := by kernel_rfl
theorem u5 : Tryd.prog.underlying 5 = some (.int .u8) := by kernel_rfl
theorem u22 : Tryd.prog.underlying 22 = some (.int .u32) := by kernel_rfl
theorem u3 : Tryd.prog.underlying 3 = some (.int .i64) := by kernel_rfl
theorem u23 : Tryd.prog.underlying 23 = some (.array 4 22) := by kernel_rfl
theorem u47 : Tryd.prog.underlying 47 = some (.array 8 46) := by kernel_rfl
theorem uRow : Tryd.prog.underlying 46 = some (.array 4 3) := by kernel_rfl
theorem a23 : arr Tryd.prog 23 = some (4, 22, 1) := by kernel_rfl
theorem a28 : arr Tryd.prog 28 = some (32, 5, 1) := by kernel_rfl
theorem a30 : arr Tryd.prog 30 = some (12, 5, 1) := by kernel_rfl
theorem s36 : slc Tryd.prog 36 = some (5, 1, 1) := by kernel_rfl
theorem table0 {W : World} (h : laidMet Tryd.prog [("sheave/chacha.head", Rows.laid_sheave_chacha_head), ("sheave/chacha.round", Rows.laid_sheave_chacha_round)] W) : Reads W (some ⟨0, 0, none⟩) (ints .u32 headW) :=
  reads_tab (zs := headW) g0 g0t u23 u22 ce22 ce23 h
theorem table1 {W : World} (h : laidMet Tryd.prog [("sheave/chacha.head", Rows.laid_sheave_chacha_head), ("sheave/chacha.round", Rows.laid_sheave_chacha_round)] W) : Reads W (some ⟨1, 0, none⟩) (ints .i64 tbl) :=
  reads_tab2 (rows := [[0, 4, 8, 12], [1, 5, 9, 13], [2, 6, 10, 14], [3, 7, 11, 15], [0, 5, 10, 15], [1, 6, 11, 12], [2, 7, 8, 13], [3, 4, 9, 14]]) g1 g1t u47 uRow u3 ce3 ceRow ce47 (laid_rest h)
/-- A world for the witness: the settled one, the two tables holding what their initialisers lay. -/
noncomputable def laidWorld (os : Os) : World :=
  { World.holding Tryd.prog os ⟨#[], #[], []⟩ with heap := ((World.holding Tryd.prog os ⟨#[], #[], []⟩).heap.modify 0 (fun | .cells _ t frozen => .cells #[.int .u32 1634760805, .int .u32 857760878, .int .u32 2036477234, .int .u32 1797285236] t frozen | o => o)).modify 1 (fun | .cells _ t frozen => .cells #[.int .i64 0, .int .i64 4, .int .i64 8, .int .i64 12, .int .i64 1, .int .i64 5, .int .i64 9, .int .i64 13, .int .i64 2, .int .i64 6, .int .i64 10, .int .i64 14, .int .i64 3, .int .i64 7, .int .i64 11, .int .i64 15, .int .i64 0, .int .i64 5, .int .i64 10, .int .i64 15, .int .i64 1, .int .i64 6, .int .i64 11, .int .i64 12, .int .i64 2, .int .i64 7, .int .i64 8, .int .i64 13, .int .i64 3, .int .i64 4, .int .i64 9, .int .i64 14] t frozen | o => o) }
theorem open_keyed {H : Type} {enc : TypeId × Value → H} {w : World} {base b0 : Nat} {spare : Nat → Bool} {held : Bool} {r : Reach} {v : Value} {d : DataW H} {ps : List MemPlace} (hval : Value.okWide Tryd.prog w r b0 35 v) (hd : DataW.Trod enc Tryd.prog w base spare held 35 v d ps) :
    ∃ key nonce ctr, v = .agg (ints .u8 key ++ (.int .u32 ctr :: ints .u8 nonce)).toArray ∧ key.length = 32 ∧ nonce.length = 12 ∧ IntKind.u32.wrap ctr = ctr := by
  obtain ⟨cs, rfl, hl, m, hf⟩ := open_struct Tryd.underlying35 hval hd
  rw [ce35] at hl
  obtain ⟨y0, h0⟩ := hf _ (List.mem_cons_self ..)
  obtain ⟨y1, h1⟩ := hf _ (List.mem_cons_of_mem _ (List.mem_cons_self ..))
  obtain ⟨y2, h2⟩ := hf _ (List.mem_cons_of_mem _ (List.mem_cons_of_mem _ (List.mem_cons_self ..)))
  obtain ⟨key, k1, hk, _⟩ := cells_arr a28 u5 ce28 h0
  obtain ⟨ctr, k2, _, hc⟩ := DataW.trod_int u22 h1
  obtain ⟨nonce, k3, hn, _⟩ := cells_arr a30 u5 ce30 h2
  have k1 : (cs.drop 0).take 32 = ints .u8 key := by rw [← k1, ce28]
  have k2 : (cs.drop 32).take 1 = [.int .u32 ctr] := by rw [← k2, ce22]
  have k3 : (cs.drop 33).take 12 = ints .u8 nonce := by rw [← k3, ce30]
  refine ⟨key, nonce, ctr, ?_, hk, hn, wf_u32 hc⟩
  have e1 : cs = (cs.drop 0).take 32 ++ cs.drop 32 := (List.take_append_drop 32 cs).symm
  have e2 : cs.drop 32 = (cs.drop 32).take 1 ++ cs.drop 33 := by have := List.take_append_drop 1 (cs.drop 32); rw [List.drop_drop] at this; exact this.symm
  have e3 : cs.drop 33 = (cs.drop 33).take 12 := (List.take_of_length_le (by rw [List.length_drop]; omega)).symm
  have e : cs = ints .u8 key ++ (.int .u32 ctr :: ints .u8 nonce) := e1.trans (by rw [e2, e3, k1, k2, k3]; rfl)
  rw [← e]
def keyedV : Value := .agg (List.replicate 32 (Value.int .u8 0) ++ .int .u32 0 :: List.replicate 12 (Value.int .u8 0)).toArray
def keyedD {H : Type} : DataW H := .agg [.agg (List.replicate 32 (DataW.lit (.int .u8 0))), .lit (.int .u32 0), .agg (List.replicate 12 (DataW.lit (.int .u8 0)))]


end Go.Proofs.YtgljacciacbggaaDoor
