/-
  The rules by which the walks of this claim go. Third part: operations that look into memory.
-/
import Derived.Test.YtmkjnefongjniaaX2
namespace Go.X
open Go
variable {dF : List Deferred}

/-- The j-th cell from A on. -/
def ptr (A : Option Addr) (j : Nat) : Addr := (A.getD default).add j

section
variable {P : Program} {n : Nat} {L : Slots} {w0 : World} {X : List Nat} {F : List Blk} {o : Oper}

theorem cell_at {w : World} (hm : Mem w0 X F w) (i : Nat) {k off : Nat} {cells : List Value} {ty : TypeId} {fz : Nat × Nat} {v : Value} (hi : F[i]? = some ⟨some k, cells, ty, fz⟩) (hc : cells[off]? = some v) :
    w.cell? ⟨k, off, none⟩ = some v := by
  have := hm.at i hi
  unfold Blk.here at this
  simp only at this
  rw [cell_of_row w k off _ _ _ this]
  simpa using hc

theorem q_load1 {t : TypeId} {x : Operand} {k off : Nat} {v : Value} (hs : scalar P t = true) (i : Nat) {cells : List Value} {ty : TypeId} {fz : Nat × Nat} (ho : o.op = .load t x)
    (hx : ev L x = some (.pointer (some ⟨k, off, none⟩))) (hi : F[i]? = some ⟨some k, cells, ty, fz⟩) (hc : cells[off]? = some v) : Qt P dF n L (Mem w0 X F) o v := fun a w hf hm => by
  simp only [execOp, ho, hf.eval hx, Instr.loadAt, Instr.sureAddr]
  simp [run_loadVar_scalar hs _ v (cell_at hm i hi hc)]
theorem q_loadI {t : TypeId} {x : Operand} {k off : Nat} (hs : scalar P t = true) (i : Nat) {kk : IntKind} {xs : List Int} {ty : TypeId} {fz : Nat × Nat} (ho : o.op = .load t x)
    (hx : ev L x = some (.pointer (some ⟨k, off, none⟩))) (hi : F[i]? = some ⟨some k, ints kk xs, ty, fz⟩) (hc : off < xs.length) : Qt P dF n L (Mem w0 X F) o (.int kk (xs.getD off 0)) :=
  q_load1 hs i ho hx hi (ints_get hc)
theorem q_loadIJ {t : TypeId} {x : Operand} {k off : Nat} (hs : scalar P t = true) (i : Nat) {kk : IntKind} {xs : List Int} {js : List Value} {ty : TypeId} {fz : Nat × Nat} (ho : o.op = .load t x)
    (hx : ev L x = some (.pointer (some ⟨k, off, none⟩))) (hi : F[i]? = some ⟨some k, ints kk xs ++ js, ty, fz⟩) (hc : off < xs.length) : Qt P dF n L (Mem w0 X F) o (.int kk (xs.getD off 0)) :=
  q_load1 hs i ho hx hi (ints_get_app hc)
theorem q_loadE {t : TypeId} {x : Operand} {A : Option Addr} {j : Nat} {cs : List Value} {v : Value} (hs : scalar P t = true) (hR : ∀ w, Mem w0 X F w → Reads w A cs) (ho : o.op = .load t x)
    (hx : ev L x = some (.pointer (some (ptr A j)))) (hc : cs[j]? = some v) : Qt P dF n L (Mem w0 X F) o v := fun a w hf hm => by
  obtain ⟨ad, rfl, hcell⟩ := hR w hm j v hc
  simp only [execOp, ho, hf.eval hx, Instr.loadAt, Instr.sureAddr]
  simp [run_loadVar_scalar hs _ v (show w.cell? (ptr (some ad) j) = some v from hcell)]
/-- The whole of a block, or of a variable that was there. -/
theorem q_loadW {t : TypeId} {x : Operand} {ad : Addr} {cs : List Value} (hw : wide P t = some cs.length) (hR : ∀ w, Mem w0 X F w → Reads w (some ad) cs) (ho : o.op = .load t x)
    (hx : ev L x = some (.pointer (some ad))) : Qt P dF n L (Mem w0 X F) o (.agg cs.toArray) := fun a w hf hm => by
  simp only [execOp, ho, hf.eval hx, Instr.loadAt, Instr.sureAddr]
  have := run_loadVar_wide (w := w) hw ad cs rfl (fun j v hj => by
    obtain ⟨ad', ha, hc⟩ := hR w hm j v hj
    cases ha
    exact hc)
  simp [this]
theorem R_blk (i : Nat) {k : Nat} {cells : List Value} {ty : TypeId} {fz : Nat × Nat} (hi : F[i]? = some ⟨some k, cells, ty, fz⟩) : ∀ w, Mem w0 X F w → Reads w (some ⟨k, 0, none⟩) cells :=
  fun _ hm => Reads.blk (hm.at i hi) rfl
theorem R_pre (i : Nat) {k : Nat} {cells js : List Value} {ty : TypeId} {fz : Nat × Nat} (hi : F[i]? = some ⟨some k, cells ++ js, ty, fz⟩) : ∀ w, Mem w0 X F w → Reads w (some ⟨k, 0, none⟩) cells :=
  fun _ hm => (Reads.blk (hm.at i hi) rfl).pre
theorem R_at (i : Nat) (off m : Nat) {k : Nat} {cells part : List Value} {ty : TypeId} {fz : Nat × Nat} (hi : F[i]? = some ⟨some k, cells, ty, fz⟩) (hp : (cells.drop off).take m = part) :
    ∀ w, Mem w0 X F w → Reads w (some ⟨k, off, none⟩) part := fun w hm j v hj => by
  subst hp
  rw [List.getElem?_take] at hj
  split at hj
  · rw [List.getElem?_drop] at hj
    exact ⟨_, rfl, by rw [add_lit]; exact cell_at hm i hi hj⟩
  · cases hj
theorem R_ext {A : Option Addr} {cs : List Value} (h : Ext w0 X A cs) : ∀ w, Mem w0 X F w → Reads w A cs := fun _ hm => h.reads hm
theorem R_own (i : Nat) {b : Blk} (hi : F[i]? = some b) : ∀ w, Mem w0 X F w → Reads w (b.no.map fun k => (⟨k, 0, none⟩ : Addr)) b.cells := fun _ hm => Reads.own (hm.at i hi)
theorem R_cut {A : Option Addr} {cs : List Value} (h : ∀ w, Mem w0 X F w → Reads w A cs) {cap l : Nat} (hc : cs.length ≤ cap) : ∀ w, Mem w0 X F w → Reads w (cut A cap l) (cs.drop l) := fun w hm => (h w hm).cut hc
theorem R_cutI {A : Option Addr} {k : IntKind} {xs : List Int} (h : ∀ w, Mem w0 X F w → Reads w A (ints k xs)) {cap l : Nat} (hc : xs.length ≤ cap) : ∀ w, Mem w0 X F w → Reads w (cut A cap l) (ints k (xs.drop l)) := fun w hm => by
  rw [← ints_drop]; exact (h w hm).cut (by simpa using hc)
theorem R_takeI {A : Option Addr} {k : IntKind} {xs : List Int} (h : ∀ w, Mem w0 X F w → Reads w A (ints k xs)) (l : Nat) : ∀ w, Mem w0 X F w → Reads w A (ints k (xs.take l)) := fun w hm => by
  rw [← ints_take]; exact (h w hm).take l
theorem R_take {A : Option Addr} {cs : List Value} (h : ∀ w, Mem w0 X F w → Reads w A cs) (k : Nat) : ∀ w, Mem w0 X F w → Reads w A (cs.take k) := fun w hm => (h w hm).take k
theorem R_head {A : Option Addr} {cs ds : List Value} (h : ∀ w, Mem w0 X F w → Reads w A (cs ++ ds)) : ∀ w, Mem w0 X F w → Reads w A cs := fun w hm => (h w hm).pre

variable {S : World → Prop}
/-- An element's address: in a block of an array's or a slice's own. -/
theorem q_ixA {t e : TypeId} {len : Nat} {x y : Operand} {k off : Nat} {kk : IntKind} {i : Int} (ha : arr P t = some (len, e, 1)) (j : Nat) (ho : o.op = .indexAddr t x y) (hx : ev L x = some (.pointer (some ⟨k, off, none⟩)))
    (hy : ev L y = some (.int kk i)) (hj : i = (j : Int)) (hlt : j < len) : Qt P dF n L S o (.pointer (some ⟨k, off + j, none⟩)) := fun a w hf _ => by
  obtain ⟨hu, inf, hi, hs⟩ := arr_parts ha
  subst hj
  simp only [execOp, ho, hf.eval hx, hf.eval hy, Instr.indexAt, asIntOf]
  simp [run_underlying hu, Instr.sureAddr, sizeOf, typeInfo, hi, hs, hlt, add_lit]
theorem q_ixA0 {t e : TypeId} {len : Nat} {x y : Operand} {k : Nat} {kk : IntKind} {i : Int} (ha : arr P t = some (len, e, 1)) (j : Nat) (ho : o.op = .indexAddr t x y) (hx : ev L x = some (.pointer (some ⟨k, 0, none⟩)))
    (hy : ev L y = some (.int kk i)) (hj : i = (j : Int)) (hlt : j < len) : Qt P dF n L S o (.pointer (some ⟨k, j, none⟩)) := by
  have := q_ixA (dF := dF) (n := n) (S := S) ha j ho hx hy hj hlt
  rwa [Nat.zero_add] at this
theorem q_ixAs {t e : TypeId} {len s : Nat} {x y : Operand} {k off : Nat} {kk : IntKind} {i : Int} (ha : arr P t = some (len, e, s)) (j : Nat) (ho : o.op = .indexAddr t x y) (hx : ev L x = some (.pointer (some ⟨k, off, none⟩)))
    (hy : ev L y = some (.int kk i)) (hj : i = (j : Int)) (hlt : j < len) : Qt P dF n L S o (.pointer (some ⟨k, off + j * s, none⟩)) := fun a w hf _ => by
  obtain ⟨hu, inf, hi, hs⟩ := arr_parts ha
  subst hj
  simp only [execOp, ho, hf.eval hx, hf.eval hy, Instr.indexAt, asIntOf]
  simp [run_underlying hu, Instr.sureAddr, sizeOf, typeInfo, hi, hs, hlt, add_lit]
theorem q_ixS {t e : TypeId} {by_ len cap : Nat} {x y : Operand} {k off : Nat} {kk : IntKind} {i : Int} (ha : slc P t = some (e, 1, by_)) (j : Nat) (ho : o.op = .indexAddr t x y) (hx : ev L x = some (.slice (some ⟨k, off, none⟩) len cap))
    (hy : ev L y = some (.int kk i)) (hj : i = (j : Int)) (hlt : j < len) : Qt P dF n L S o (.pointer (some ⟨k, off + j, none⟩)) := fun a w hf _ => by
  obtain ⟨hu, inf, hi, hs, _⟩ := slc_parts ha
  subst hj
  simp only [execOp, ho, hf.eval hx, hf.eval hy, Instr.indexAt, asIntOf]
  simp [run_underlying hu, sizeOf, typeInfo, hi, hs, hlt, add_lit]
theorem q_ixS0 {t e : TypeId} {by_ len cap : Nat} {x y : Operand} {k : Nat} {kk : IntKind} {i : Int} (ha : slc P t = some (e, 1, by_)) (j : Nat) (ho : o.op = .indexAddr t x y) (hx : ev L x = some (.slice (some ⟨k, 0, none⟩) len cap))
    (hy : ev L y = some (.int kk i)) (hj : i = (j : Int)) (hlt : j < len) : Qt P dF n L S o (.pointer (some ⟨k, j, none⟩)) := by
  have := q_ixS (dF := dF) (n := n) (S := S) ha j ho hx hy hj hlt
  rwa [Nat.zero_add] at this
theorem q_ixSs {t e : TypeId} {by_ len cap s : Nat} {x y : Operand} {k off : Nat} {kk : IntKind} {i : Int} (ha : slc P t = some (e, s, by_)) (j : Nat) (ho : o.op = .indexAddr t x y) (hx : ev L x = some (.slice (some ⟨k, off, none⟩) len cap))
    (hy : ev L y = some (.int kk i)) (hj : i = (j : Int)) (hlt : j < len) : Qt P dF n L S o (.pointer (some ⟨k, off + j * s, none⟩)) := fun a w hf _ => by
  obtain ⟨hu, inf, hi, hs, _⟩ := slc_parts ha
  subst hj
  simp only [execOp, ho, hf.eval hx, hf.eval hy, Instr.indexAt, asIntOf]
  simp [run_underlying hu, sizeOf, typeInfo, hi, hs, hlt, add_lit]
/-- An element's address in memory of which only is known what it reads as. -/
theorem q_ixE {t e : TypeId} {by_ len cap s : Nat} {x y : Operand} {A : Option Addr} {cs : List Value} {kk : IntKind} {i : Int} (ha : slc P t = some (e, s, by_)) (j : Nat) (hR : ∀ w, Mem w0 X F w → Reads w A cs) (ho : o.op = .indexAddr t x y) (hx : ev L x = some (.slice A len cap))
    (hy : ev L y = some (.int kk i)) (hj : i = (j : Int)) (hlt : j < len) (h0 : 0 < cs.length) : Qt P dF n L (Mem w0 X F) o (.pointer (some (ptr A (j * s)))) := fun a w hf hm => by
  obtain ⟨hu, inf, hi, hs, _⟩ := slc_parts ha
  subst hj
  obtain ⟨ad, rfl, _⟩ := hR w hm 0 cs[0] (by simp [h0])
  simp only [execOp, ho, hf.eval hx, hf.eval hy, Instr.indexAt, asIntOf]
  simp [run_underlying hu, sizeOf, typeInfo, hi, hs, hlt, ptr]
theorem q_ixE1 {t e : TypeId} {by_ len cap : Nat} {x y : Operand} {A : Option Addr} {cs : List Value} {kk : IntKind} {i : Int} (ha : slc P t = some (e, 1, by_)) (j : Nat) (hR : ∀ w, Mem w0 X F w → Reads w A cs) (ho : o.op = .indexAddr t x y) (hx : ev L x = some (.slice A len cap))
    (hy : ev L y = some (.int kk i)) (hj : i = (j : Int)) (hlt : j < len) (h0 : 0 < cs.length) : Qt P dF n L (Mem w0 X F) o (.pointer (some (ptr A j))) := by
  have := q_ixE (dF := dF) (n := n) ha j hR ho hx hy hj hlt h0
  rwa [Nat.mul_one] at this
/-- An element of an array's value. -/
theorem run_part_scalar {t : TypeId} {w : World} (h : scalar P t = true) (cs : Array Value) (off : Nat) (v : Value) (hv : cs[off]? = some v) : (part t cs off).run P w = .ok v w := by
  have hag : (isAgg t).run P w = .ok false w := by
    unfold scalar at h
    cases hu : P.underlying t with
    | none => rw [hu] at h; cases h
    | some d =>
      rw [hu] at h
      cases d <;> first | (cases h; done) | simp [isAgg, run_underlying hu]
  simp [part, hag, hv]
theorem run_part_wide {t : TypeId} {w : World} {m : Nat} (h : wide P t = some m) (cs : List Value) (off : Nat) (p : List Value) (hp : (cs.drop off).take m = p) : (part t cs.toArray off).run P w = .ok (.agg p.toArray) w := by
  subst hp
  have hag : (isAgg t).run P w = .ok true w ∧ (P.info? t).map (·.size) = some m := by
    unfold wide at h
    split at h
    · rename_i fs hu; exact ⟨by simp [isAgg, run_underlying hu], h⟩
    · rename_i m e hu; exact ⟨by simp [isAgg, run_underlying hu], h⟩
    · cases h
  obtain ⟨i, hi, h1⟩ := Option.map_eq_some_iff.1 hag.2
  have e : cs.toArray.extract off (off + m) = ((cs.drop off).take m).toArray := by
    apply Array.toList_inj.1
    simp [List.extract_eq_take_drop]
  simp [part, hag.1, sizeOf, typeInfo, hi, h1] <;> exact e
theorem q_ixV {t e : TypeId} {len : Nat} {x y : Operand} {cs : List Value} {kk : IntKind} {i : Int} {v : Value} (ha : arr P t = some (len, e, 1)) (he : scalar P e = true) (j : Nat) (ho : o.op = .index t x y) (hx : ev L x = some (.agg cs.toArray))
    (hy : ev L y = some (.int kk i)) (hj : i = (j : Int)) (hlt : j < len) (hv : cs[j]? = some v) : Qt P dF n L S o v := fun a w hf _ => by
  obtain ⟨hu, inf, hi, hs⟩ := arr_parts ha
  subst hj
  simp only [execOp, ho, hf.eval hx, hf.eval hy, Instr.index, asIntOf]
  have := run_part_scalar (w := w) he cs.toArray j v (by simpa using hv)
  simp [run_underlying hu, sizeOf, typeInfo, hi, hs, hlt, this]
theorem q_ixVI {t e : TypeId} {len : Nat} {x y : Operand} {k : IntKind} {xs : List Int} {kk : IntKind} {i : Int} (ha : arr P t = some (len, e, 1)) (he : scalar P e = true) (j : Nat) (ho : o.op = .index t x y) (hx : ev L x = some (.agg (ints k xs).toArray))
    (hy : ev L y = some (.int kk i)) (hj : i = (j : Int)) (hlt : j < len) (hl : j < xs.length) : Qt P dF n L S o (.int k (xs.getD j 0)) := q_ixV ha he j ho hx hy hj hlt (ints_get hl)
theorem q_ixVW {t e : TypeId} {len s : Nat} {x y : Operand} {cs p : List Value} {kk : IntKind} {i : Int} (ha : arr P t = some (len, e, s)) (he : wide P e = some s) (j : Nat) (ho : o.op = .index t x y) (hx : ev L x = some (.agg cs.toArray))
    (hy : ev L y = some (.int kk i)) (hj : i = (j : Int)) (hlt : j < len) (hp : (cs.drop (j * s)).take s = p) : Qt P dF n L S o (.agg p.toArray) := fun a w hf _ => by
  obtain ⟨hu, inf, hi, hs⟩ := arr_parts ha
  subst hj
  simp only [execOp, ho, hf.eval hx, hf.eval hy, Instr.index, asIntOf]
  have := run_part_wide (w := w) he cs (j * s) p hp
  simp [run_underlying hu, sizeOf, typeInfo, hi, hs, hlt, this]
/-- A byte of a string. -/
theorem q_ixStr {t : TypeId} {x y : Operand} {s : ByteArray} {kk : IntKind} {i : Int} (ht : P.underlying t = some .string) (j : Nat) (ho : o.op = .index t x y) (hx : ev L x = some (.string s)) (hy : ev L y = some (.int kk i)) (hj : i = (j : Int))
    (hlt : j < s.size) : Qt P dF n L S o (.int .u8 (s[j]'hlt).toNat) := fun a w hf _ => by
  subst hj
  simp only [execOp, ho, hf.eval hx, hf.eval hy, Instr.index, asIntOf]
  simp [run_underlying ht, hlt]

/-- A field's address, a field of a value. -/
theorem q_fld {t ft : TypeId} {f : Nat} {x : Operand} {k off fo : Nat} (hf' : fld P t f = some (fo, ft)) (ho : o.op = .fieldAddr t x f) (hx : ev L x = some (.pointer (some ⟨k, off, none⟩))) : Qt P dF n L S o (.pointer (some ⟨k, off + fo, none⟩)) := fun a w hf _ => by
  obtain ⟨fs, g, inf, hu, hg, rfl, rfl, hi, hz⟩ := fld_parts hf'
  simp only [execOp, ho, hf.eval hx, Instr.fieldAt, Instr.sureAddr]
  simp [run_underlying hu, hg, fieldPlace, sizeOf, typeInfo, hi, hz, add_lit]
theorem q_fldE {t ft : TypeId} {f : Nat} {x : Operand} {ad : Addr} {fo : Nat} (hf' : fld P t f = some (fo, ft)) (ho : o.op = .fieldAddr t x f) (hx : ev L x = some (.pointer (some ad))) : Qt P dF n L S o (.pointer (some (ad.add fo))) := fun a w hf _ => by
  obtain ⟨fs, g, inf, hu, hg, rfl, rfl, hi, hz⟩ := fld_parts hf'
  simp only [execOp, ho, hf.eval hx, Instr.fieldAt, Instr.sureAddr]
  simp [run_underlying hu, hg, fieldPlace, sizeOf, typeInfo, hi, hz]
theorem q_field {t ft : TypeId} {f : Nat} {x : Operand} {cs : List Value} {fo : Nat} {v : Value} (hf' : fld P t f = some (fo, ft)) (hs : scalar P ft = true) (ho : o.op = .field t x f) (hx : ev L x = some (.agg cs.toArray)) (hv : cs[fo]? = some v) : Qt P dF n L S o v := fun a w hf _ => by
  obtain ⟨fs, g, inf, hu, hg, rfl, rfl, hi, hz⟩ := fld_parts hf'
  have := run_part_scalar (w := w) hs cs.toArray g.offset v (by simpa using hv)
  simp only [execOp, ho, hf.eval hx, Instr.field]
  simp [run_underlying hu, hg, asAgg, this]
theorem q_fieldW {t ft : TypeId} {f : Nat} {x : Operand} {cs p : List Value} {fo m : Nat} (hf' : fld P t f = some (fo, ft)) (hs : wide P ft = some m) (ho : o.op = .field t x f) (hx : ev L x = some (.agg cs.toArray)) (hp : (cs.drop fo).take m = p) : Qt P dF n L S o (.agg p.toArray) := fun a w hf _ => by
  obtain ⟨fs, g, inf, hu, hg, rfl, rfl, hi, hz⟩ := fld_parts hf'
  have := run_part_wide (w := w) hs cs g.offset p hp
  simp only [execOp, ho, hf.eval hx, Instr.field]
  simp [run_underlying hu, hg, asAgg, this]

/-- A bound of a cut. -/
def Bd (L : Slots) (x : Option Operand) (dflt l : Nat) : Prop :=
  match x with
  | none => l = dflt
  | some y => ∃ k i, ev L y = some (.int k i) ∧ i = (l : Int)
theorem run_bounds {a : Act} (hf : Fr dF n L a) (isS : Bool) (w : World) {lo hi mx : Option Operand} {len cap l h m : Nat} (hl : Bd L lo 0 l) (hh : Bd L hi len h) (hm : Bd L mx cap m) (h1 : l ≤ h) (h2 : h ≤ m) (h3 : m ≤ cap)
    (h4 : mx.isSome = true → hi.isSome = true) : (Instr.sliceBounds isS len cap (lo.map a.eval) (hi.map a.eval) (mx.map a.eval)).run P w = .ok (l, h, m) w := by
  have sb : ∀ (k : IntKind) (i y : Nat) (code : BoundsCode), i ≤ y → (Instr.sliceBound (.int k (i : Int)) y code).run P w = .ok i w := fun k i y code hle => by
    rw [run_sliceBound w k i y code (by omega) (by omega)]; simp
  unfold Instr.sliceBounds
  cases mx with
  | none =>
    simp only [Bd] at hm
    subst hm
    cases hi with
    | none =>
      simp only [Bd] at hh
      subst hh
      cases lo with
      | none => simp only [Bd] at hl; subst hl; simp
      | some y =>
        obtain ⟨k, i, hy, rfl⟩ := hl
        simp [hf.eval hy, sb k l h _ h1]
    | some z =>
      obtain ⟨k', i', hz, rfl⟩ := hh
      cases lo with
      | none => simp only [Bd] at hl; subst hl; simp [hf.eval hz, sb k' h m _ h2]
      | some y =>
        obtain ⟨k, i, hy, rfl⟩ := hl
        simp [hf.eval hy, hf.eval hz, sb k l h _ h1, sb k' h m _ h2]
  | some q =>
    obtain ⟨k2, i2, hq, rfl⟩ := hm
    cases hi with
    | none => simp at h4
    | some z =>
      obtain ⟨k', i', hz, rfl⟩ := hh
      cases lo with
      | none => simp only [Bd] at hl; subst hl; simp [hf.eval hz, hf.eval hq, sb k' h m _ h2, sb k2 m cap _ h3]
      | some y =>
        obtain ⟨k, i, hy, rfl⟩ := hl
        simp [hf.eval hy, hf.eval hz, hf.eval hq, sb k l h _ h1, sb k' h m _ h2, sb k2 m cap _ h3]
theorem q_sl {t e : TypeId} {by_ : Nat} {x : Operand} {lo hi mx : Option Operand} {A : Option Addr} {len cap : Nat} (ha : slc P t = some (e, 1, by_)) (l h m : Nat) (ho : o.op = .slice t x lo hi mx) (hx : ev L x = some (.slice A len cap))
    (hl : Bd L lo 0 l) (hh : Bd L hi len h) (hm : Bd L mx cap m) (h1 : l ≤ h) (h2 : h ≤ m) (h3 : m ≤ cap) (h4 : mx.isSome = true → hi.isSome = true) : Qt P dF n L S o (.slice (cut A m l) (h - l) (m - l)) := fun a w hf _ => by
  obtain ⟨hu, inf, hi', hs, _⟩ := slc_parts ha
  simp only [execOp, ho, hf.eval hx, Instr.sliceAt, Instr.slice]
  have hb := run_bounds (P := P) hf true w hl hh hm h1 h2 h3 h4
  simp [run_underlying hu, hb, sizeOf, typeInfo, hi', hs, cut]
theorem q_slA {t e : TypeId} {N : Nat} {x : Operand} {lo hi mx : Option Operand} {ad : Addr} (ha : arr P t = some (N, e, 1)) (l h m : Nat) (ho : o.op = .slice t x lo hi mx) (hx : ev L x = some (.pointer (some ad)))
    (hl : Bd L lo 0 l) (hh : Bd L hi N h) (hm : Bd L mx N m) (h1 : l ≤ h) (h2 : h ≤ m) (h3 : m ≤ N) (h4 : mx.isSome = true → hi.isSome = true) : Qt P dF n L S o (.slice (cut (some ad) m l) (h - l) (m - l)) := fun a w hf _ => by
  obtain ⟨hu, inf, hi', hs⟩ := arr_parts ha
  simp only [execOp, ho, hf.eval hx, Instr.sliceAt]
  have hb := run_bounds (P := P) hf false w hl hh hm h1 h2 h3 h4
  simp only [Sem.run_bind, run_underlying hu, Result.andThen_ok, Instr.sureAddr, Sem.run_pure, hb, sizeOf, typeInfo, run_program, hi', hs, cut, Nat.mul_one, Option.map_some]
  by_cases hml : m = l <;> simp [hml]
theorem q_slAll {t e : TypeId} {N : Nat} {x : Operand} {ad : Addr} (ha : arr P t = some (N, e, 1)) (ho : o.op = .slice t x none none none) (hx : ev L x = some (.pointer (some ad))) : Qt P dF n L S o (.slice (some ad) N N) := by
  have := q_slA (dF := dF) (n := n) (S := S) ha 0 N N ho hx rfl rfl rfl (Nat.zero_le _) (Nat.le_refl _) (Nat.le_refl _) (by simp)
  have e : cut (some ad) N 0 = some ad := by unfold cut Addr.add; simp
  simpa [e] using this
theorem q_slStr {t : TypeId} {x : Operand} {lo hi : Option Operand} {s : ByteArray} (ht : P.underlying t = some .string) (l h : Nat) (ho : o.op = .slice t x lo hi none) (hx : ev L x = some (.string s))
    (hl : Bd L lo 0 l) (hh : Bd L hi s.size h) (h1 : l ≤ h) (h2 : h ≤ s.size) : Qt P dF n L S o (.string (s.extract l h)) := fun a w hf _ => by
  simp only [execOp, ho, hf.eval hx, Instr.sliceAt, Instr.slice]
  have hb := run_bounds (P := P) (mx := none) hf false w hl hh (rfl : Bd L none s.size s.size) h1 h2 (Nat.le_refl _) (by simp)
  simp only [Option.map_none] at hb
  simp [run_underlying ht, hb]

/-- The bytes of a row, as a string. -/
def bstr (xs : List Int) : ByteArray := ⟨(xs.map fun n => UInt8.ofNat n.toNat).toArray⟩
theorem bstr_fold : ∀ (xs : List Int), xs.foldl (fun r n => r.push (UInt8.ofNat n.toNat)) ByteArray.empty = bstr xs := by
  have key : ∀ (xs : List Int) (s : ByteArray), xs.foldl (fun r n => r.push (UInt8.ofNat n.toNat)) s = ⟨s.data ++ (xs.map fun n => UInt8.ofNat n.toNat).toArray⟩ := by
    intro xs
    induction xs with
    | nil => intro s; simp
    | cons y r ih => intro s; simp only [List.foldl_cons]; rw [ih]; simp [ByteArray.push]
  intro xs
  rw [key]
  simp [bstr]
theorem q_bstr {t t' e : TypeId} {by_ : Nat} {x : Operand} {A : Option Addr} {len cap : Nat} {xs : List Int} (ha : slc P t = some (e, 1, by_)) (he : P.underlying e = some (.int .u8)) (ht : P.underlying t' = some .string)
    (hR : ∀ w, Mem w0 X F w → Reads w A (ints .u8 xs)) (hl : xs.length = len) (ho : o.op = .convert t t' x) (hx : ev L x = some (.slice A len cap)) : Qt P dF n L (Mem w0 X F) o (.string (bstr xs)) := fun a w hf hm => by
  obtain ⟨hu, inf, hi', hs, _⟩ := slc_parts ha
  subst hl
  have hr : (Conv.bytesToString (.slice A xs.length cap)).run P w = .ok (.string (bstr xs)) w := by
    cases A with
    | none =>
      have : xs = [] := by
        cases xs with
        | nil => rfl
        | cons y r =>
          obtain ⟨ad, h, _⟩ := hR w hm 0 (.int .u8 y) (by simp [ints])
          cases h
      subst this
      rfl
    | some ad =>
      have hload := run_loadCells_list (P := P) (w := w) ad (ints .u8 xs) (fun j v hj => by
        obtain ⟨ad', h, hc⟩ := hR w hm j v hj
        cases h
        exact hc)
      rw [ints_length] at hload
      rw [run_bytesToString w ad xs.length cap xs hload, bstr_fold]
  simp only [execOp, ho, hf.eval hx, convert]
  simp [run_underlying hu, run_underlying ht, run_underlying he, hr]
theorem q_strstr {t t' : TypeId} {x : Operand} {s : ByteArray} (h1 : P.underlying t = some .string) (h2 : P.underlying t' = some .string) (ho : o.op = .convert t t' x) (hx : ev L x = some (.string s)) : Qt P dF n L S o (.string s) := fun a w hf _ => by
  simp only [execOp, ho, hf.eval hx, convert]
  simp [run_underlying h1, run_underlying h2]
theorem q_catS {t t' : TypeId} {x y : Operand} {a b : ByteArray} (ho : o.op = .binOp .add t x y t') (hx : ev L x = some (.string a)) (hy : ev L y = some (.string b)) (hs : a.size + b.size ≤ 9223372036854775807) :
    Qt P dF n L S o (.string (a ++ b)) := fun c w hf _ => by
  have := run_string_add_sum (P := P) (w := w) a b hs
  simp [execOp, ho, hf.eval hx, hf.eval hy, eqGuard, binOp_string_add, this]
/-- A slice as an array's address. -/
theorem q_arrp {t e : TypeId} {N s : Nat} {x : Operand} {A : Option Addr} {len cap : Nat} (ha : arr P t = some (N, e, s)) (ho : o.op = .sliceToArrayPointer t x) (hx : ev L x = some (.slice A len cap)) (hl : N ≤ len) : Qt P dF n L S o (.pointer A) := fun a w hf _ => by
  obtain ⟨hu, _⟩ := arr_parts ha
  have : ¬ len < N := by omega
  simp only [execOp, ho, hf.eval hx, Instr.arrayAt]
  simp [run_underlying hu, this]

/-- The parts of a literal. -/
def evp (L : Slots) : List (Nat × Operand) → Option (List (Nat × Value))
  | [] => some []
  | (i, x) :: r => (ev L x).bind fun v => (evp L r).map fun vs => (i, v) :: vs
theorem evp_map {a : Act} (hf : Fr dF n L a) : ∀ {ps : List (Nat × Operand)} {vs : List (Nat × Value)}, evp L ps = some vs → ps.map (fun p => (p.1, a.eval p.2)) = vs
  | [], vs, h => by simp [evp] at h; simp [h]
  | (i, x) :: r, vs, h => by
    simp only [evp] at h
    obtain ⟨v, hv, h2⟩ := Option.bind_eq_some_iff.1 h
    obtain ⟨us, hu, rfl⟩ := Option.map_eq_some_iff.1 h2
    simp [hf.eval hv, evp_map hf hu]
theorem q_build {t : TypeId} {ps : List (Nat × Operand)} {vs : List (Nat × Value)} {v : Value} (ho : o.op = .build t ps.toArray) (hp : evp L ps = some vs) (hr : ∀ w, (Instr.build t vs.toArray).run P w = .ok v w) : Qt P dF n L S o v := fun a w hf _ => by
  have := evp_map hf hp
  simp only [execOp, ho]
  have e : (ps.toArray.map fun x => (x.1, a.eval x.2)) = vs.toArray := by rw [← this]; simp
  simp only [e, Sem.run_bind, hr w, Result.andThen_ok, Sem.run_pure]
/-- A literal of an array, each element of one cell and given in its turn. -/
theorem fill_all : ∀ (vs : List Value) (j : Nat) (cells : Array Value), (∀ v ∈ vs, v.cells = #[v]) → j + vs.length ≤ cells.size →
    Instr.fill (fun i => some (i * 1, 1)) cells ((List.range' j vs.length).zip vs) = some (cells.toList.take j ++ vs ++ cells.toList.drop (j + vs.length)).toArray
  | [], j, cells, _, _ => by simp [Instr.fill]
  | v :: r, j, cells, h1, hl => by
    have hv := h1 v (by simp)
    have hj : j < cells.size := by simp at hl; omega
    have ih := fill_all r (j + 1) (cells.setIfInBounds j v) (fun u hu => h1 u (by simp [hu])) (by simp at hl ⊢; omega)
    simp only [Nat.mul_one] at ih ⊢
    simp only [List.length_cons, List.range'_succ, List.zip_cons_cons, Instr.fill, hv]
    have hz' : Array.foldl (fun cs (x : Value × Nat) => cs.setIfInBounds (j + x.snd) x.fst) cells #[v].zipIdx = cells.setIfInBounds j v := by simp
    have hc : (decide ((#[v] : Array Value).size ≠ 1) || decide (j + (#[v] : Array Value).size > cells.size)) = false := by simp; omega
    rw [hc, hz', if_neg (by simp), ih]
    congr 1
    rw [← Array.toList_inj]
    simp only [Array.toList_setIfInBounds]
    have hj' : j < cells.toList.length := by simpa using hj
    rw [List.take_set, List.drop_set_of_lt (by omega), List.take_succ_eq_append_getElem hj']
    rw [List.set_append_right _ _ (by simp; omega)]
    simp [Nat.min_eq_left (Nat.le_of_lt hj), Nat.add_assoc, Nat.add_comm 1]
theorem q_buildA {t e : TypeId} {N : Nat} {zs : List Value} {ps : List (Nat × Operand)} {vs : List (Nat × Value)} (ha : arr P t = some (N, e, 1)) (hz : zer P t = some zs) (hzl : zs.length = N) (ho : o.op = .build t ps.toArray) (hp : evp L ps = some vs)
    (hN : vs.map Prod.fst = List.range' 0 N) (h1 : ∀ p ∈ vs, p.2.cells = #[p.2]) : Qt P dF n L S o (.agg (vs.map Prod.snd).toArray) := by
  refine q_build ho hp fun w => ?_
  obtain ⟨hu, inf, hi, hs⟩ := arr_parts ha
  obtain ⟨i, z, hi', hz', hzc⟩ := zer_parts hz
  have hlen : vs.length = N := by have := congrArg List.length hN; simpa using this
  have hzs : z.cells.size = N := by rw [← hzl, ← hzc]; simp
  have hzip : (List.range' 0 (vs.map Prod.snd).length).zip (vs.map Prod.snd) = vs := by
    rw [List.length_map, hlen, ← hN]
    exact (List.zip_of_prod rfl rfl).symm
  have hf := fill_all (vs.map Prod.snd) 0 z.cells (fun v hv => by
    obtain ⟨p, hp', rfl⟩ := List.mem_map.1 hv
    exact h1 p hp') (by rw [List.length_map, hlen, hzs]; omega)
  rw [hzip] at hf
  have hdrop : z.cells.toList.drop (0 + (vs.map Prod.snd).length) = [] := by
    apply List.drop_eq_nil_of_le
    rw [List.length_map, hlen, ← hzs]; simp
  rw [hdrop] at hf
  simp only [Instr.build, zeroValue, typeInfo, Sem.run_bind, run_program, Result.andThen_ok, hi', hz', Sem.run_pure, run_underlying hu, sizeOf, hi, hs, hf]
  simp
end
end Go.X
