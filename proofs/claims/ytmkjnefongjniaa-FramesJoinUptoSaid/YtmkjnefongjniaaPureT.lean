/-
  Frames, as they lie in memory.
-/
import Derived.Test.YtmkjnefongjniaaPureS
import Derived.Test.YtmkjnefongjniaaX20
namespace Go.X
open Go
theorem flat_getV {rs : List (Int × Int)} {i : Nat} (h : i < rs.length) : ((ints .i64 (flat rs)).drop (i * 2)).take 2 = [.int .i64 (rs.getD i (0, 0)).1, .int .i64 (rs.getD i (0, 0)).2] := by
  rw [ints_drop, ints_take, flat_get rs i h]
  rfl
theorem tok_neq {tok : List Int} : (!decide (tok = List.replicate 8 0)) = decide (tokN tok ≠ 1) := by unfold tokN; split <;> simp_all
/-- Numbers in bytes, one behind the other. -/
def pv (ns : List Nat) : List Int := (ns.map putV).flatten
theorem pv_take {ns : List Nat} {i : Nat} (h : i < ns.length) : pv (ns.take (i + 1)) = pv (ns.take i) ++ putV (ns.getD i 0) := by
  rw [List.take_add_one, List.getElem?_eq_getElem h, pv, List.getD_eq_getElem?_getD, List.getElem?_eq_getElem h]
  simp [pv, -List.take_append_getElem]
theorem nums_get {ns : List Nat} {i : Nat} (h : i < ns.length) : (ns.map fun n => ((n : Nat) : Int)).getD i 0 = ((ns.getD i 0 : Nat) : Int) := by simp [h]
/-- A frame in memory: its fields, and where its ranges and its bytes lie. -/
structure Fm where
  f : Frm
  RA : Option Addr
  rc : Nat
  BA : Option Addr
  bc : Nat
def Fm.z : Fm := ⟨⟨0, 0, 0, [], [], List.replicate 8 0⟩, none, 0, none, 0⟩
def Fm.cells (m : Fm) : List Value := .int .i64 m.f.k :: .int .i64 m.f.a :: .int .i64 m.f.l :: .slice m.RA m.f.rs.length m.rc :: .slice m.BA m.f.bs.length m.bc :: ints .u8 m.f.tok
def Fm.OK (m : Fm) : Prop := m.f.tok.length = 8 ∧ m.f.rs.length ≤ 9223372036854775807 ∧ m.f.bs.length ≤ m.bc ∧ m.f.bs.length ≤ 9223372036854775807 ∧ Bytes m.f.bs ∧ Bytes m.f.tok
def Fm.In (m : Fm) (w : World) : Prop := Reads w m.RA (ints .i64 (flat m.f.rs)) ∧ Reads w m.BA (ints .u8 m.f.bs)
def fcs (ms : List Fm) : List Value := (ms.map Fm.cells).flatten
def fsOf (ms : List Fm) : List Frm := ms.map (·.f)
def fmA (ms : List Fm) (i : Nat) : Fm := ms.getD i Fm.z
theorem fmA_mem {ms : List Fm} {i : Nat} (h : i < ms.length) : fmA ms i ∈ ms := by
  unfold fmA
  rw [List.getD_eq_getElem?_getD, List.getElem?_eq_getElem h, Option.getD_some]
  exact List.getElem_mem h
theorem Fm.cells_length {m : Fm} (h : m.f.tok.length = 8) : m.cells.length = 13 := by simp [Fm.cells, h]
theorem fcs_length : ∀ (ms : List Fm), (∀ m ∈ ms, m.f.tok.length = 8) → (fcs ms).length = ms.length * 13
  | [], _ => rfl
  | m :: ms, h => by
    have h1 := fcs_length ms fun q hq => h q (List.mem_cons_of_mem _ hq)
    have h2 := Fm.cells_length (h m (List.mem_cons_self ..))
    rw [show fcs (m :: ms) = m.cells ++ fcs ms from rfl, List.length_append, h1, h2, List.length_cons]
    omega
theorem fcs_get : ∀ (ms : List Fm) (i : Nat), (∀ m ∈ ms, m.f.tok.length = 8) → i < ms.length → ((fcs ms).drop (i * 13)).take 13 = (fmA ms i).cells
  | [], _, _, h => by simp at h
  | m :: ms, 0, h, _ => by
    have h2 := Fm.cells_length (h m (List.mem_cons_self ..))
    rw [show fcs (m :: ms) = m.cells ++ fcs ms from rfl, Nat.zero_mul, List.drop_zero, ← h2, List.take_left]
    rfl
  | m :: ms, i + 1, h, hi => by
    have h2 := Fm.cells_length (h m (List.mem_cons_self ..))
    have e : (i + 1) * 13 = m.cells.length + i * 13 := by omega
    rw [show fcs (m :: ms) = m.cells ++ fcs ms from rfl, e, ← List.drop_drop, List.drop_left, fcs_get ms i (fun q hq => h q (List.mem_cons_of_mem _ hq)) (by simpa using hi)]
    rfl
theorem fcs_app (a b : List Fm) : fcs (a ++ b) = fcs a ++ fcs b := by simp [fcs]
theorem fcs_sing (m : Fm) : fcs [m] = m.cells := by simp [fcs]
theorem Fm.cells_one (m : Fm) : ∀ v ∈ m.cells, v.oneCell' = true := by
  unfold Fm.cells
  exact one_cons rfl (one_cons rfl (one_cons rfl (one_cons rfl (one_cons rfl ints_one))))
theorem fcs_one (ms : List Fm) : ∀ v ∈ fcs ms, v.oneCell' = true := fun v hv => by
  obtain ⟨c, hc, hv⟩ := List.mem_flatten.1 hv
  obtain ⟨m, _, rfl⟩ := List.mem_map.1 hc
  exact m.cells_one v hv
@[simp] theorem fsOf_length (ms : List Fm) : (fsOf ms).length = ms.length := by simp [fsOf]
theorem fsOf_mem {ms : List Fm} {i : Nat} (h : i < ms.length) : (fmA ms i).f ∈ fsOf ms := List.mem_map.2 ⟨_, fmA_mem h, rfl⟩
theorem fsOf_all {ms : List Fm} (h : ∀ q, q < ms.length → frOK (fmA ms q).f) : ∀ f ∈ fsOf ms, frOK f := fun f hf => by
  obtain ⟨m, hm, rfl⟩ := List.mem_map.1 hf
  obtain ⟨q, hq, rfl⟩ := List.getElem_of_mem hm
  have := h q hq
  unfold fmA at this
  rwa [List.getD_eq_getElem?_getD, List.getElem?_eq_getElem hq, Option.getD_some] at this
theorem wrs_take {ms : List Fm} {i : Nat} (h : i < ms.length) : wrs ((fsOf ms).take (i + 1)) = wrs ((fsOf ms).take i) ++ wr (fmA ms i).f := by
  have h' : i < (fsOf ms).length := by simpa using h
  rw [List.take_add_one, List.getElem?_eq_getElem h', wrs_app]
  simp [wrs_one, fmA, fsOf, h]
theorem fmA_f {ms ms2 : List Fm} (h : fsOf ms = fsOf ms2) (i : Nat) : (fmA ms i).f = (fmA ms2 i).f := by
  have e : ∀ l : List Fm, (fmA l i).f = ((fsOf l)[i]?).getD Fm.z.f := fun l => by
    unfold fmA fsOf
    rw [List.getD_eq_getElem?_getD, List.getElem?_map]
    cases l[i]? <;> rfl
  rw [e, e, h]
/-- What frames are written as, or refused by. -/
def encE (fs : List Frm) : Int := if 16 < fs.length then 2 else if ∀ f ∈ fs, frOK f then (if 256 < (wrs fs).length then 2 else 0) else 100
def encB (fs : List Frm) : List Int := if encE fs = 0 then wrs fs else []
theorem encE_long {fs : List Frm} (h : 16 < fs.length) : encE fs = 2 := if_pos h
theorem encE_bad {fs : List Frm} {f : Frm} (h : ¬ 16 < fs.length) (hf : f ∈ fs) (hno : ¬ frOK f) : encE fs = 100 := by rw [encE, if_neg h, if_neg fun g => hno (g f hf)]
theorem encE_big {fs : List Frm} (h : ¬ 16 < fs.length) (ha : ∀ f ∈ fs, frOK f) (hb : 256 < (wrs fs).length) : encE fs = 2 := by rw [encE, if_neg h, if_pos ha, if_pos hb]
theorem encE_ok {fs : List Frm} (h : ¬ 16 < fs.length) (ha : ∀ f ∈ fs, frOK f) (hb : ¬ 256 < (wrs fs).length) : encE fs = 0 := by rw [encE, if_neg h, if_pos ha, if_neg hb]
theorem encE_zero {fs : List Frm} : encE fs = 0 ↔ fs.length ≤ 16 ∧ (∀ f ∈ fs, frOK f) ∧ (wrs fs).length ≤ 256 := by
  unfold encE
  split
  · simp; omega
  · split
    · split
      · simp; omega
      · simp; exact ⟨by omega, by assumption, by omega⟩
    · simp; intro _ h; contradiction
theorem encB_no {fs : List Frm} (h : encE fs ≠ 0) : encB fs = [] := if_neg h
theorem encB_ok {fs : List Frm} (h : encE fs = 0) : encB fs = wrs fs := if_pos h
theorem wrs_take_len (fs : List Frm) (i : Nat) : (wrs (fs.take i)).length ≤ (wrs fs).length := by
  have h := congrArg wrs (List.take_append_drop i fs)
  rw [wrs_app] at h
  rw [← h, List.length_append]
  omega
theorem encE_app {a b : List Frm} (h : encE (a ++ b) = 0) : encE a = 0 ∧ encE b = 0 := by
  rw [encE_zero] at h ⊢
  rw [encE_zero]
  obtain ⟨h1, h2, h3⟩ := h
  rw [List.length_append] at h1
  rw [wrs_app, List.length_append] at h3
  exact ⟨⟨by omega, fun f hf => h2 f (List.mem_append_left _ hf), by omega⟩, ⟨by omega, fun f hf => h2 f (List.mem_append_right _ hf), by omega⟩⟩
theorem encE_two {a b : List Frm} (ha : encE a = 0) (hb : encE b = 0) (h : 16 < a.length + b.length ∨ 256 < (encB a).length + (encB b).length) : encE (a ++ b) = 2 := by
  rw [encB_ok ha, encB_ok hb] at h
  obtain ⟨_, a2, _⟩ := encE_zero.1 ha
  obtain ⟨_, b2, _⟩ := encE_zero.1 hb
  by_cases h1 : 16 < (a ++ b).length
  · exact encE_long h1
  · refine encE_big h1 (fun f hf => (List.mem_append.1 hf).elim (a2 f) (b2 f)) ?_
    rw [wrs_app, List.length_append]
    rw [List.length_append] at h1
    omega
theorem encE_both {a b : List Frm} (ha : encE a = 0) (hb : encE b = 0) (h1 : a.length + b.length ≤ 16) (h2 : (encB a).length + (encB b).length ≤ 256) : encE (a ++ b) = 0 ∧ encB (a ++ b) = encB a ++ encB b := by
  rw [encB_ok ha, encB_ok hb] at *
  obtain ⟨_, a2, _⟩ := encE_zero.1 ha
  obtain ⟨_, b2, _⟩ := encE_zero.1 hb
  have h := encE_zero.2 (show (a ++ b).length ≤ 16 ∧ (∀ f ∈ a ++ b, frOK f) ∧ (wrs (a ++ b)).length ≤ 256 from ⟨by rw [List.length_append]; omega, fun f hf => (List.mem_append.1 hf).elim (a2 f) (b2 f), by rw [wrs_app, List.length_append]; omega⟩)
  exact ⟨h, by rw [encB_ok h, wrs_app]⟩
theorem fsOf_app (a b : List Fm) : fsOf (a ++ b) = fsOf a ++ fsOf b := by simp [fsOf]
def szE (f : Frm) : Int := if frOK f then ((wr f).length : Int) else 0
theorem szE_yes {f : Frm} (h : frOK f) : szE f = ((wr f).length : Int) := if_pos h
theorem szE_no {f : Frm} (h : ¬ frOK f) : szE f = 0 := if_neg h
/-- The frames lie in these blocks. -/
def FrsIn (Bs : List Blk) (ms : List Fm) : Prop := ∀ w, (∀ b ∈ Bs, b.here w) → ∀ m ∈ ms, m.In w
theorem FrsIn.mono {Bs Cs : List Blk} {ms : List Fm} (h : FrsIn Bs ms) (hs : ∀ b ∈ Bs, b ∈ Cs) : FrsIn Cs ms := fun w hw => h w fun b hb => hw b (hs b hb)
theorem FrsIn.app {Bs : List Blk} {a b : List Fm} (h : FrsIn Bs a) (g : FrsIn Bs b) : FrsIn Bs (a ++ b) := fun w hw m hm => (List.mem_append.1 hm).elim (h w hw m) (g w hw m)
theorem Fm.ok_of {f : Frm} {RA BA : Option Addr} {rc bc : Nat} (h : (decide (f.tok.length = 8) && decide (f.rs.length ≤ 9223372036854775807) && decide (f.bs.length ≤ bc) && decide (f.bs.length ≤ 9223372036854775807) && f.bs.all (fun x => decide (0 ≤ x ∧ x < 256)) && f.tok.all (fun x => decide (0 ≤ x ∧ x < 256))) = true) : (⟨f, RA, rc, BA, bc⟩ : Fm).OK := by
  simp only [Bool.and_eq_true, List.all_eq_true] at h
  obtain ⟨⟨⟨⟨⟨h1, h2⟩, h3⟩, h4⟩, h5⟩, h6⟩ := h
  exact ⟨of_decide_eq_true h1, of_decide_eq_true h2, of_decide_eq_true h3, of_decide_eq_true h4, fun x hx => of_decide_eq_true (h5 x hx), fun x hx => of_decide_eq_true (h6 x hx)⟩
theorem ins_later {w0 w : World} {F : List Blk} {ms : List Fm} (hI : ∀ m ∈ ms, m.In w0) (hm : Mem w0 [] F w) : ∀ m ∈ ms, m.In w := fun m h => ⟨(hI m h).1.ext.reads hm, (hI m h).2.ext.reads hm⟩
/-- Bytes that are read lie in a block. -/
def RdB (cb : Blk) (A : Option Addr) (b : List Int) : Prop := (∀ w, cb.here w → Reads w A (ints .u8 b)) ∧ ∀ ad, A = some ad → cb.no = some ad.block
section
variable {w0 : World} {X : List Nat} {F : List Blk}
theorem R_rd (i : Nat) {cb : Blk} {A : Option Addr} {b : List Int} (hi : F[i]? = some cb) (h : RdB cb A b) : ∀ w, Mem w0 X F w → Reads w A (ints .u8 b) := fun w hm => h.1 w (hm.at i hi)
theorem RdB.cut {cb : Blk} {A : Option Addr} {b : List Int} (h : RdB cb A b) {cap l : Nat} (hc : b.length ≤ cap) : RdB cb (Go.X.cut A cap l) (b.drop l) := by
  refine ⟨fun w hw => ?_, fun ad had => ?_⟩
  · have := (h.1 w hw).cut (l := l) (cap := cap) (by simpa using hc)
    rwa [ints_drop] at this
  · unfold Go.X.cut at had
    split at had
    · exact h.2 ad had
    · obtain ⟨a, rfl, rfl⟩ := Option.map_eq_some_iff.1 had
      rw [add_block]
      exact h.2 a rfl
theorem RdB.own {no : Option Nat} {b : List Int} {junk : List Value} {ty : TypeId} {fz : Nat × Nat} : RdB ⟨no, ints .u8 b ++ junk, ty, fz⟩ (no.map fun k => (⟨k, 0, none⟩ : Addr)) b :=
  ⟨fun _ hw => (Reads.own hw).pre, fun ad had => by
    obtain ⟨k, rfl, rfl⟩ := Option.map_eq_some_iff.1 had
    rfl⟩
theorem Ext.later {w : World} {A : Option Addr} {cs : List Value} (h : Ext w0 X A cs) (hm : Mem w0 X F w) : Ext w X A cs := fun q v hq => by
  obtain ⟨ad, rfl, hlt, hX, hc⟩ := h q v hq
  obtain ⟨ad', he, hc'⟩ := Ext.reads h hm q v hq
  cases he
  exact ⟨ad, rfl, Nat.lt_of_lt_of_le hlt hm.kept.size, hX, hc'⟩
/-- What is read is apart from another block that is known. -/
theorem RdB.ext {w : World} {i j rk : Nat} {cells : List Value} {ty : TypeId} {fz : Nat × Nat} {cb : Blk} {A : Option Addr} {b : List Int} (h : RdB cb A b) (hm : Mem w0 X F w) (hi : F[i]? = some ⟨some rk, cells, ty, fz⟩) (hj : F[j]? = some cb) (hij : i ≠ j) : Ext w [rk] A (ints .u8 b) := fun q v hq => by
  obtain ⟨ad, rfl, hc⟩ := h.1 w (hm.at j hj) q v hq
  have hn := h.2 ad rfl
  refine ⟨ad, rfl, Blk.lt (hm.at j hj) hn, ?_, hc⟩
  rw [List.mem_singleton]
  exact fun e => hm.ne i j hij hi hj rfl hn e.symm
variable {P : Program} {n : Nat} {L : Slots} {o : Oper} {dF : List Deferred}
/-- A token is copied. -/
theorem e_copyT {tD tS e : TypeId} {by_ : Nat} {x y : Operand} {B : Option Addr} {sl sc k : Nat} {d : Nat} (ha : slc P tD = some (e, 1, by_)) (i : Nat) {c0 c1 c2 c3 c4 : Value} (tok bb : List Int) {ty : TypeId} (htok : tok.length = 8)
    (hR : ∀ w, Mem w0 X F w → Reads w B (ints .u8 bb)) (ho : o.op = .call { callee := .builtin .copy, args := #[x, y], argTypes := #[tD, tS] }) (hx : ev L x = some (.slice (some ⟨k, 5, none⟩) 8 8)) (hy : ev L y = some (.slice B sl sc))
    (hi : F[i]? = some ⟨some k, c0 :: c1 :: c2 :: c3 :: c4 :: ints .u8 tok, ty, (0, 0)⟩) (hsl : bb.length = sl) (hd : o.dst = some d) (hn : Nat.blt d n = true) :
    Eff P dF n w0 X o L F fun L' F' => L' = (d, .int .i64 ((min sl 8 : Nat) : Int)) :: L ∧ F' = F.set i ⟨some k, c0 :: c1 :: c2 :: c3 :: c4 :: ints .u8 (bb.take 8 ++ tok.drop (min sl 8)), ty, (0, 0)⟩ := by
  have hl : (ints .u8 (bb.take 8)).length = min sl 8 := by simp; omega
  have h := e_copy (dF := dF) (n := n) (w0 := w0) (X := X) (L := L) ha i k 5 (ints .u8 (bb.take 8)) (c0 :: c1 :: c2 :: c3 :: c4 :: ints .u8 tok) (fun w hm => by have := (hR w hm).take 8; rwa [ints_take] at this) ho hx hy hi (.inr rfl) (by simp; omega) (by simp; omega) ints_one hd hn
  intro Q K hK
  refine h Q K fun L' F' hg => ?_
  obtain ⟨rfl, rfl⟩ := hg
  refine hK _ _ ⟨by rw [hl], ?_⟩
  have e : (c0 :: c1 :: c2 :: c3 :: c4 :: ints .u8 tok).drop (min sl 8 + 5) = ints .u8 (tok.drop (min sl 8)) := by rw [← ints_drop]; rfl
  rw [hl, Nat.add_comm 5, e, ints_append]
  rfl
end
end Go.X
