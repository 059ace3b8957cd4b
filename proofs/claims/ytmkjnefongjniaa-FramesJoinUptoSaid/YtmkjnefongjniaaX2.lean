/-
  The rules by which the walks of this claim go. Second part: operations that only read.
-/
import Derived.Test.YtmkjnefongjniaaX1
namespace Go.X
open Go
variable {dF : List Deferred}

/-! ### Facts on types, as closed Bools and options -/
def scalar (P : Program) (t : TypeId) : Bool :=
  match P.underlying t with
  | some (.struct _) | some (.array _ _) | none => false
  | _ => (P.info? t).map (·.size) == some 1
/-- An array: how many, of what, cells of each. -/
def arr (P : Program) (t : TypeId) : Option (Nat × TypeId × Nat) :=
  match P.underlying t with
  | some (.array n e) => (P.info? e).map fun i => (n, e, i.size)
  | _ => none
/-- A slice: of what, cells of each, bytes of each. -/
def slc (P : Program) (t : TypeId) : Option (TypeId × Nat × Nat) :=
  match P.underlying t with
  | some (.slice e) => (P.info? e).map fun i => (e, i.size, i.bytes)
  | _ => none
/-- An array or a struct: how many cells. -/
def wide (P : Program) (t : TypeId) : Option Nat :=
  match P.underlying t with
  | some (.struct _) | some (.array _ _) => (P.info? t).map (·.size)
  | _ => none
/-- A field: from which cell on, its type. -/
def fld (P : Program) (t : TypeId) (i : Nat) : Option (Nat × TypeId) :=
  match P.underlying t with
  | some (.struct fs) => (fs[i]?).bind fun f => if ((P.info? f.type).map fun i => i.size == 0).getD true then none else some (f.offset, f.type)
  | _ => none
def zer (P : Program) (t : TypeId) : Option (List Value) := ((P.info? t).bind (·.zero)).map (·.cells.toList)

section
variable {P : Program} {w : World}
theorem arr_parts {t : TypeId} {n : Nat} {e : TypeId} {s : Nat} (h : arr P t = some (n, e, s)) : P.underlying t = some (.array n e) ∧ ∃ i, P.info? e = some i ∧ i.size = s := by
  unfold arr at h
  split at h
  · rename_i m e' hu
    obtain ⟨i, hi, he⟩ := Option.map_eq_some_iff.1 h
    simp only [Prod.mk.injEq] at he
    obtain ⟨rfl, rfl, rfl⟩ := he
    exact ⟨hu, i, hi, rfl⟩
  · cases h
theorem slc_parts {t e : TypeId} {s b : Nat} (h : slc P t = some (e, s, b)) : P.underlying t = some (.slice e) ∧ ∃ i, P.info? e = some i ∧ i.size = s ∧ i.bytes = b := by
  unfold slc at h
  split at h
  · rename_i e' hu
    obtain ⟨i, hi, he⟩ := Option.map_eq_some_iff.1 h
    simp only [Prod.mk.injEq] at he
    obtain ⟨rfl, rfl, rfl⟩ := he
    exact ⟨hu, i, hi, rfl, rfl⟩
  · cases h
theorem fld_parts {t ft : TypeId} {i o : Nat} (h : fld P t i = some (o, ft)) : ∃ fs f j, P.underlying t = some (.struct fs) ∧ fs[i]? = some f ∧ f.offset = o ∧ f.type = ft ∧ P.info? ft = some j ∧ j.size ≠ 0 := by
  unfold fld at h
  split at h
  · rename_i fs hu
    obtain ⟨f, hf, h2⟩ := Option.bind_eq_some_iff.1 h
    cases hj : P.info? f.type with
    | none => rw [hj] at h2; simp at h2
    | some j =>
      rw [hj] at h2
      simp only [Option.map_some, Option.getD_some] at h2
      by_cases hz : j.size = 0
      · simp [hz] at h2
      · simp [hz] at h2
        obtain ⟨rfl, rfl⟩ := h2
        exact ⟨fs, f, j, hu, hf, rfl, rfl, hj, hz⟩
  · cases h
theorem zer_parts {t : TypeId} {cs : List Value} (h : zer P t = some cs) : ∃ i z, P.info? t = some i ∧ i.zero = some z ∧ z.cells.toList = cs := by
  unfold zer at h
  obtain ⟨z, hz, hc⟩ := Option.map_eq_some_iff.1 h
  obtain ⟨i, hi, hzz⟩ := Option.bind_eq_some_iff.1 hz
  exact ⟨i, z, hi, hzz, hc⟩
theorem run_loadVar_scalar {t : TypeId} (h : scalar P t = true) (a : Addr) (v : Value) (hc : w.cell? a = some v) : (loadVar t a).run P w = .ok v w := by
  have hag : (isAgg t).run P w = .ok false w := by
    unfold scalar at h
    cases hu : P.underlying t with
    | none => rw [hu] at h; cases h
    | some d =>
      rw [hu] at h
      cases d <;> first | (cases h; done) | simp [isAgg, run_underlying hu]
  simp [loadVar, hag, hc]
theorem run_sizeOf_scalar {t : TypeId} (h : scalar P t = true) : (sizeOf t).run P w = .ok 1 w := by
  have : (P.info? t).map (·.size) = some 1 := by
    unfold scalar at h
    split at h <;> simp_all
  obtain ⟨i, hi, h1⟩ := Option.map_eq_some_iff.1 this
  simp [sizeOf, typeInfo, hi, h1]
theorem run_loadVar_wide {t : TypeId} {k : Nat} (h : wide P t = some k) (a : Addr) (cs : List Value) (hl : cs.length = k) (hc : ∀ j v, cs[j]? = some v → w.cell? (a.add j) = some v) :
    (loadVar t a).run P w = .ok (.agg cs.toArray) w := by
  subst hl
  have hag : (isAgg t).run P w = .ok true w ∧ (P.info? t).map (·.size) = some cs.length := by
    unfold wide at h
    split at h
    · rename_i fs hu; exact ⟨by simp [isAgg, run_underlying hu], h⟩
    · rename_i m e hu; exact ⟨by simp [isAgg, run_underlying hu], h⟩
    · cases h
  obtain ⟨i, hi, h1⟩ := Option.map_eq_some_iff.1 hag.2
  have hl := run_loadCells_list (P := P) (w := w) a cs hc
  simp [loadVar, hag.1, sizeOf, typeInfo, hi, h1, hl]
end

/-- The whole numbers of a row. -/
def ints (k : IntKind) (xs : List Int) : List Value := xs.map (.int k)
@[simp] theorem ints_length (k : IntKind) (xs : List Int) : (ints k xs).length = xs.length := by simp [ints]
theorem wide_ints {P : Program} {t : TypeId} {N : Nat} {k : IntKind} {xs : List Int} (h : wide P t = some N) (hl : xs.length = N) : wide P t = some (ints k xs).length := by
  rw [ints_length, hl]; exact h
theorem ints_get {k : IntKind} {xs : List Int} {j : Nat} (h : j < xs.length) : (ints k xs)[j]? = some (.int k (xs.getD j 0)) := by simp [ints, h]
theorem ints_get_app {k : IntKind} {xs : List Int} {ys : List Value} {j : Nat} (h : j < xs.length) : (ints k xs ++ ys)[j]? = some (.int k (xs.getD j 0)) := by
  rw [List.getElem?_append_left (by simpa using h)]; exact ints_get h
theorem ints_set {k : IntKind} {xs : List Int} {j : Nat} {x : Int} : (ints k xs).set j (.int k x) = ints k (xs.set j x) := by simp [ints, List.map_set]
theorem ints_append (k : IntKind) (xs ys : List Int) : ints k (xs ++ ys) = ints k xs ++ ints k ys := by simp [ints]
theorem ints_drop (k : IntKind) (xs : List Int) (j : Nat) : (ints k xs).drop j = ints k (xs.drop j) := by simp [ints, List.map_drop]
theorem ints_take (k : IntKind) (xs : List Int) (j : Nat) : (ints k xs).take j = ints k (xs.take j) := by simp [ints, List.map_take]
theorem ints_one {k : IntKind} {xs : List Int} : ∀ v ∈ ints k xs, v.oneCell' = true := by
  intro v hv
  simp only [ints, List.mem_map] at hv
  obtain ⟨x, _, rfl⟩ := hv
  rfl

/-- At A the memory reads as these cells. -/
def Reads (w : World) (A : Option Addr) (cs : List Value) : Prop := ∀ j v, cs[j]? = some v → ∃ ad, A = some ad ∧ w.cell? (ad.add j) = some v
/-- The same of memory that was there before the call and that it does not write. -/
def Ext (w0 : World) (X : List Nat) (A : Option Addr) (cs : List Value) : Prop := ∀ j v, cs[j]? = some v → ∃ ad, A = some ad ∧ ad.block < w0.heap.size ∧ ad.block ∉ X ∧ w0.cell? (ad.add j) = some v

theorem add_block (a : Addr) (j : Nat) : (a.add j).block = a.block := by unfold Addr.add; split <;> rfl
theorem add_lit (k o j : Nat) : (⟨k, o, none⟩ : Addr).add j = ⟨k, o + j, none⟩ := by
  unfold Addr.add
  by_cases hj : j = 0
  · subst hj; rfl
  · rw [if_neg hj]
theorem add_add (a : Addr) (i j : Nat) : (a.add i).add j = a.add (i + j) := by
  unfold Addr.add
  by_cases hi : i = 0
  · subst hi; simp
  · by_cases hj : j = 0
    · subst hj; simp [hi]
    · simp [hi, hj, Nat.add_assoc]

section
variable {w0 w : World} {X : List Nat} {F : List Blk} {A : Option Addr} {cs : List Value}
theorem Reads.ext (h : Reads w0 A cs) : Ext w0 [] A cs := fun j v hj => by
  obtain ⟨ad, ha, hc⟩ := h j v hj
  have := World.block_lt_of_cell? w0 _ hc
  rw [add_block] at this
  exact ⟨ad, ha, this, by simp, hc⟩
theorem Ext.mono {X' : List Nat} (h : Ext w0 X A cs) (hx : ∀ k, k ∈ X' → k ∈ X) : Ext w0 X' A cs := fun j v hj => by
  obtain ⟨ad, ha, hb, hn, hc⟩ := h j v hj
  exact ⟨ad, ha, hb, fun hm => hn (hx _ hm), hc⟩
theorem Ext.reads (h : Ext w0 X A cs) (hm : Mem w0 X F w) : Reads w A cs := fun j v hj => by
  obtain ⟨ad, ha, hb, hn, hc⟩ := h j v hj
  refine ⟨ad, ha, ?_⟩
  rw [← hc]
  unfold World.cell?
  rw [add_block, hm.kept.block _ hb hn]
theorem Reads.nil (w : World) (A : Option Addr) : Reads w A [] := fun j v h => by simp at h
theorem Reads.blk {b : Blk} {k : Nat} (h : b.here w) (hk : b.no = some k) : Reads w (some ⟨k, 0, none⟩) b.cells := fun j v hj => by
  refine ⟨_, rfl, ?_⟩
  unfold Blk.here at h
  rw [hk] at h
  rw [add_lit, Nat.zero_add, cell_of_row w k j _ _ _ h]
  simpa using hj
theorem Reads.own {b : Blk} (h : b.here w) : Reads w (b.no.map fun k => (⟨k, 0, none⟩ : Addr)) b.cells := by
  cases hb : b.no with
  | none => unfold Blk.here at h; rw [hb] at h; simp only at h; rw [h]; exact Reads.nil w _
  | some k => exact Reads.blk h hb
theorem Reads.take (h : Reads w A cs) (k : Nat) : Reads w A (cs.take k) := fun j v hj => by
  rw [List.getElem?_take] at hj
  split at hj
  · exact h j v hj
  · cases hj
theorem Reads.pre {ds : List Value} (h : Reads w A (cs ++ ds)) : Reads w A cs := fun j v hj => h j v (by rw [List.getElem?_append_left (List.getElem?_eq_some_iff.1 hj).1]; exact hj)
/-- The address of what is left behind a cut. -/
def cut (A : Option Addr) (cap l : Nat) : Option Addr := if cap = l then A else A.map (·.add l)
theorem Reads.cut (h : Reads w A cs) {cap l : Nat} (hc : cs.length ≤ cap) : Reads w (Go.X.cut A cap l) (cs.drop l) := fun j v hj => by
  rw [List.getElem?_drop] at hj
  have hlt := (List.getElem?_eq_some_iff.1 hj).1
  obtain ⟨ad, ha, hcell⟩ := h (l + j) v hj
  unfold Go.X.cut
  rw [if_neg (by omega), ha]
  exact ⟨ad.add l, rfl, by rw [add_add]; exact hcell⟩
theorem Ext.nil (w0 : World) (X : List Nat) (A : Option Addr) : Ext w0 X A [] := fun j v h => by simp at h
theorem Ext.take (h : Ext w0 X A cs) (k : Nat) : Ext w0 X A (cs.take k) := fun j v hj => by
  rw [List.getElem?_take] at hj
  split at hj
  · exact h j v hj
  · cases hj
theorem Ext.cut (h : Ext w0 X A cs) {cap l : Nat} (hc : cs.length ≤ cap) : Ext w0 X (Go.X.cut A cap l) (cs.drop l) := fun j v hj => by
  rw [List.getElem?_drop] at hj
  have hlt := (List.getElem?_eq_some_iff.1 hj).1
  obtain ⟨ad, ha, hb, hn, hcell⟩ := h (l + j) v hj
  unfold Go.X.cut
  rw [if_neg (by omega), ha]
  exact ⟨ad.add l, rfl, by rw [add_block]; exact hb, by rw [add_block]; exact hn, by rw [add_add]; exact hcell⟩
theorem Mem.at (hm : Mem w0 X F w) (i : Nat) {b : Blk} (hi : F[i]? = some b) : b.here w := hm.has b (List.mem_of_getElem? hi)
end

/-- An operation that only reads: what it yields. -/
def Qt (P : Program) (dF : List Deferred) (n : Nat) (L : Slots) (S : World → Prop) (o : Oper) (v : Value) : Prop :=
  ∀ a w, Fr dF n L a → S w → (execOp a.eval o).run P w = .ok (.value v) w

section
variable {P : Program} {n : Nat} {L : Slots} {S : World → Prop} {o : Oper}

theorem q_int {k : IntKind} {a b : Int} (h : Qt P dF n L S o (.int k a)) (e : a = b) : Qt P dF n L S o (.int k b) := e ▸ h
theorem q_bool {a b : Bool} (h : Qt P dF n L S o (.bool a)) (e : a = b) : Qt P dF n L S o (.bool b) := e ▸ h
theorem q_to {u v : Value} (h : Qt P dF n L S o u) (e : u = v) : Qt P dF n L S o v := e ▸ h
theorem q_move {x : Operand} {v : Value} (ho : o.op = .move x) (hx : ev L x = some v) : Qt P dF n L S o v := fun a w hf _ => by
  simp [execOp, ho, hf.eval hx]
theorem q_assign {x : Operand} {v : Value} (ho : o.op = .assign x) (hx : ev L x = some v) : Qt P dF n L S o v := fun a w hf _ => by
  simp [execOp, ho, hf.eval hx]
theorem q_pickT {c x y : Operand} {v : Value} (ho : o.op = .pick c x y) (hc : ev L c = some (.bool true)) (hx : ev L x = some v) : Qt P dF n L S o v := fun a w hf _ => by
  simp [execOp, ho, hf.eval hc, hf.eval hx, asBool]
theorem q_pickF {c x y : Operand} {v : Value} (ho : o.op = .pick c x y) (hc : ev L c = some (.bool false)) (hy : ev L y = some v) : Qt P dF n L S o v := fun a w hf _ => by
  simp [execOp, ho, hf.eval hc, hf.eval hy, asBool]
theorem q_pickB {c x y : Operand} {b b1 b2 : Bool} (ho : o.op = .pick c x y) (hc : ev L c = some (.bool b)) (hx : ev L x = some (.bool b1)) (hy : ev L y = some (.bool b2)) :
    Qt P dF n L S o (.bool (bif b then b1 else b2)) := fun a w hf _ => by
  cases b <;> simp [execOp, ho, hf.eval hc, hf.eval hx, hf.eval hy, asBool]

theorem q_add {t t' : TypeId} {x y : Operand} {k : IntKind} {a b : Int} (ho : o.op = .binOp .add t x y t') (hx : ev L x = some (.int k a)) (hy : ev L y = some (.int k b)) :
    Qt P dF n L S o (.int k (k.wrap (a + b))) := fun c w hf _ => by simp [execOp, ho, hf.eval hx, hf.eval hy, eqGuard, binOp_add, Op.intArith]
theorem q_sub {t t' : TypeId} {x y : Operand} {k : IntKind} {a b : Int} (ho : o.op = .binOp .sub t x y t') (hx : ev L x = some (.int k a)) (hy : ev L y = some (.int k b)) :
    Qt P dF n L S o (.int k (k.wrap (a - b))) := fun c w hf _ => by simp [execOp, ho, hf.eval hx, hf.eval hy, eqGuard, binOp_sub, Op.intArith]
theorem q_mul {t t' : TypeId} {x y : Operand} {k : IntKind} {a b : Int} (ho : o.op = .binOp .mul t x y t') (hx : ev L x = some (.int k a)) (hy : ev L y = some (.int k b)) :
    Qt P dF n L S o (.int k (k.wrap (a * b))) := fun c w hf _ => by simp [execOp, ho, hf.eval hx, hf.eval hy, eqGuard, binOp_mul, Op.intArith]
theorem i64_wrap {a : Int} (h1 : -9223372036854775808 ≤ a) (h2 : a ≤ 9223372036854775807) : IntKind.i64.wrap a = a := by
  simp [IntKind.wrap, IntKind.bits, IntKind.signed]; omega
theorem q_addi {t t' : TypeId} {x y : Operand} {a b : Int} (ho : o.op = .binOp .add t x y t') (hx : ev L x = some (.int .i64 a)) (hy : ev L y = some (.int .i64 b))
    (h1 : -9223372036854775808 ≤ a + b) (h2 : a + b ≤ 9223372036854775807) : Qt P dF n L S o (.int .i64 (a + b)) := by
  have := q_add (P := P) (dF := dF) (n := n) (S := S) ho hx hy; rwa [i64_wrap h1 h2] at this
theorem q_subi {t t' : TypeId} {x y : Operand} {a b : Int} (ho : o.op = .binOp .sub t x y t') (hx : ev L x = some (.int .i64 a)) (hy : ev L y = some (.int .i64 b))
    (h1 : -9223372036854775808 ≤ a - b) (h2 : a - b ≤ 9223372036854775807) : Qt P dF n L S o (.int .i64 (a - b)) := by
  have := q_sub (P := P) (dF := dF) (n := n) (S := S) ho hx hy; rwa [i64_wrap h1 h2] at this
theorem q_muli {t t' : TypeId} {x y : Operand} {a b : Int} (ho : o.op = .binOp .mul t x y t') (hx : ev L x = some (.int .i64 a)) (hy : ev L y = some (.int .i64 b))
    (h1 : -9223372036854775808 ≤ a * b) (h2 : a * b ≤ 9223372036854775807) : Qt P dF n L S o (.int .i64 (a * b)) := by
  have := q_mul (P := P) (dF := dF) (n := n) (S := S) ho hx hy; rwa [i64_wrap h1 h2] at this
theorem q_quo {t t' : TypeId} {x y : Operand} {a b : Int} (ho : o.op = .binOp .quo t x y t') (hx : ev L x = some (.int .i64 a)) (hy : ev L y = some (.int .i64 b))
    (h0 : 0 ≤ a) (h1 : a ≤ 9223372036854775807) (hb : 0 < b) : Qt P dF n L S o (.int .i64 (a / b)) := fun c w hf _ => by
  have hb0 : b ≠ 0 := by omega
  have h2 : IntKind.i64.wrap (a.tdiv b) = a / b := by
    rw [Int.tdiv_eq_ediv_of_nonneg h0]
    exact i64_wrap (Int.le_trans (by decide) (Int.ediv_nonneg h0 (Int.le_of_lt hb))) (Int.le_trans (Int.ediv_le_self b h0) h1)
  simp [execOp, ho, hf.eval hx, hf.eval hy, eqGuard, binOp_quo, Op.intDiv, hb0, h2]
theorem q_rem {t t' : TypeId} {x y : Operand} {k : IntKind} {a b : Int} (ho : o.op = .binOp .rem t x y t') (hx : ev L x = some (.int k a)) (hy : ev L y = some (.int k b))
    (h0 : 0 ≤ a) (hb : b ≠ 0) : Qt P dF n L S o (.int k (a % b)) := fun c w hf _ => by
  simp [execOp, ho, hf.eval hx, hf.eval hy, eqGuard, binOp_rem, Op.intDiv, hb, Int.tmod_eq_emod_of_nonneg h0]
theorem q_bits {op : BinOp} {t t' : TypeId} {x y : Operand} {k : IntKind} {a b : Int} (ho : o.op = .binOp op t x y t') (hop : op = .and ∨ op = .or ∨ op = .xor)
    (hx : ev L x = some (.int k a)) (hy : ev L y = some (.int k b)) : Qt P dF n L S o (.int k (bits op k a b)) := fun c w hf _ => by
  have e1 := hf.eval hx
  have e2 := hf.eval hy
  rcases hop with rfl | rfl | rfl <;> (simp only [execOp, ho, e1, e2]; simp [eqGuard, go_sem])
theorem q_xor {t t' : TypeId} {x y : Operand} {k : IntKind} {a b : Int} (ho : o.op = .binOp .xor t x y t') (hx : ev L x = some (.int k a)) (hy : ev L y = some (.int k b)) :
    Qt P dF n L S o (.int k (bits .xor k a b)) := q_bits ho (by simp) hx hy
theorem q_or {t t' : TypeId} {x y : Operand} {k : IntKind} {a b : Int} (ho : o.op = .binOp .or t x y t') (hx : ev L x = some (.int k a)) (hy : ev L y = some (.int k b)) :
    Qt P dF n L S o (.int k (bits .or k a b)) := q_bits ho (by simp) hx hy
theorem q_and {t t' : TypeId} {x y : Operand} {k : IntKind} {a b : Int} (ho : o.op = .binOp .and t x y t') (hx : ev L x = some (.int k a)) (hy : ev L y = some (.int k b)) :
    Qt P dF n L S o (.int k (bits .and k a b)) := q_bits ho (by simp) hx hy
/-- x << y, x >> y -/
def shl (k : IntKind) (a b : Int) : Int := k.wrap (a * 2 ^ min b.toNat k.bits)
def shr (k : IntKind) (a b : Int) : Int := a.fdiv (2 ^ min b.toNat k.bits)
theorem q_shl {t t' : TypeId} {x y : Operand} {k k' : IntKind} {a b : Int} (ho : o.op = .binOp .shl t x y t') (hx : ev L x = some (.int k a)) (hy : ev L y = some (.int k' b)) (h0 : 0 ≤ b) :
    Qt P dF n L S o (.int k (shl k a b)) := fun c w hf _ => by
  have : ¬ b < 0 := by omega
  simp [execOp, ho, hf.eval hx, hf.eval hy, eqGuard, binOp_shl, Op.shift, this, shl]
theorem q_shr {t t' : TypeId} {x y : Operand} {k k' : IntKind} {a b : Int} (ho : o.op = .binOp .shr t x y t') (hx : ev L x = some (.int k a)) (hy : ev L y = some (.int k' b)) (h0 : 0 ≤ b) :
    Qt P dF n L S o (.int k (shr k a b)) := fun c w hf _ => by
  have : ¬ b < 0 := by omega
  simp [execOp, ho, hf.eval hx, hf.eval hy, eqGuard, binOp_shr, Op.shift, this, shr]

theorem q_lss {t t' : TypeId} {x y : Operand} {k : IntKind} {a b : Int} (ho : o.op = .binOp .lss t x y t') (hx : ev L x = some (.int k a)) (hy : ev L y = some (.int k b)) :
    Qt P dF n L S o (.bool (decide (a < b))) := fun c w hf _ => by simp [execOp, ho, hf.eval hx, hf.eval hy, eqGuard, binOp_lss]
theorem q_leq {t t' : TypeId} {x y : Operand} {k : IntKind} {a b : Int} (ho : o.op = .binOp .leq t x y t') (hx : ev L x = some (.int k a)) (hy : ev L y = some (.int k b)) :
    Qt P dF n L S o (.bool (decide (a ≤ b))) := fun c w hf _ => by simp [execOp, ho, hf.eval hx, hf.eval hy, eqGuard, binOp_leq]
theorem q_gtr {t t' : TypeId} {x y : Operand} {k : IntKind} {a b : Int} (ho : o.op = .binOp .gtr t x y t') (hx : ev L x = some (.int k a)) (hy : ev L y = some (.int k b)) :
    Qt P dF n L S o (.bool (decide (b < a))) := fun c w hf _ => by simp [execOp, ho, hf.eval hx, hf.eval hy, eqGuard, binOp_gtr]
theorem q_geq {t t' : TypeId} {x y : Operand} {k : IntKind} {a b : Int} (ho : o.op = .binOp .geq t x y t') (hx : ev L x = some (.int k a)) (hy : ev L y = some (.int k b)) :
    Qt P dF n L S o (.bool (decide (b ≤ a))) := fun c w hf _ => by simp [execOp, ho, hf.eval hx, hf.eval hy, eqGuard, binOp_geq]
theorem q_eql {t t' : TypeId} {x y : Operand} {k : IntKind} {a b : Int} (ho : o.op = .binOp .eql t x y t') (hx : ev L x = some (.int k a)) (hy : ev L y = some (.int k b)) :
    Qt P dF n L S o (.bool (decide (a = b))) := fun c w hf _ => by
  have : (a == b) = decide (a = b) := by simp [BEq.beq]
  simp [execOp, ho, hf.eval hx, hf.eval hy, eqGuard, binOp_eql, this]
theorem q_neq {t t' : TypeId} {x y : Operand} {k : IntKind} {a b : Int} (ho : o.op = .binOp .neq t x y t') (hx : ev L x = some (.int k a)) (hy : ev L y = some (.int k b)) :
    Qt P dF n L S o (.bool (decide (a ≠ b))) := fun c w hf _ => by
  have : (a != b) = decide (a ≠ b) := by simp [bne, BEq.beq]
  simp [execOp, ho, hf.eval hx, hf.eval hy, eqGuard, binOp_neq, this]
theorem q_eqlS {t t' : TypeId} {x y : Operand} {a b : ByteArray} (ho : o.op = .binOp .eql t x y t') (hx : ev L x = some (.string a)) (hy : ev L y = some (.string b)) :
    Qt P dF n L S o (.bool (a.toList == b.toList)) := fun c w hf _ => by simp [execOp, ho, hf.eval hx, hf.eval hy, eqGuard, binOp_string_eql]
theorem q_neqS {t t' : TypeId} {x y : Operand} {a b : ByteArray} (ho : o.op = .binOp .neq t x y t') (hx : ev L x = some (.string a)) (hy : ev L y = some (.string b)) :
    Qt P dF n L S o (.bool (!(a.toList == b.toList))) := fun c w hf _ => by simp [execOp, ho, hf.eval hx, hf.eval hy, eqGuard, binOp_string_neq]
theorem q_eqlB {t t' : TypeId} {x y : Operand} {a b : Bool} (ht : P.underlying t = some .bool) (ho : o.op = .binOp .eql t x y t') (hx : ev L x = some (.bool a)) (hy : ev L y = some (.bool b)) :
    Qt P dF n L S o (.bool (a == b)) := fun c w hf _ => by simp [execOp, ho, hf.eval hx, hf.eval hy, eqGuard, run_eql_bool _ _ _ _ ht]
theorem q_neqB {t t' : TypeId} {x y : Operand} {a b : Bool} (ht : P.underlying t = some .bool) (ho : o.op = .binOp .neq t x y t') (hx : ev L x = some (.bool a)) (hy : ev L y = some (.bool b)) :
    Qt P dF n L S o (.bool (!(a == b))) := fun c w hf _ => by simp [execOp, ho, hf.eval hx, hf.eval hy, eqGuard, run_neq_bool _ _ _ _ ht]
theorem q_not {t : TypeId} {x : Operand} {b : Bool} (ho : o.op = .unOp .not t x) (hx : ev L x = some (.bool b)) : Qt P dF n L S o (.bool (!b)) := fun c w hf _ => by
  simp [execOp, ho, hf.eval hx, Op.unary]
theorem q_neg {t : TypeId} {x : Operand} {k : IntKind} {a : Int} (ho : o.op = .unOp .neg t x) (hx : ev L x = some (.int k a)) : Qt P dF n L S o (.int k (k.wrap (0 - a))) := fun c w hf _ => by
  simp [execOp, ho, hf.eval hx, Op.unary, Op.intArith]
theorem q_cpl {t : TypeId} {x : Operand} {k : IntKind} {a : Int} (ho : o.op = .unOp .xor t x) (hx : ev L x = some (.int k a)) :
    Qt P dF n L S o (.int k (bits .xor k (if k.signed then -1 else k.max) a)) := fun c w hf _ => by
  have e1 := hf.eval hx
  simp only [execOp, ho, e1, Op.unary]; simp [go_sem]
theorem q_conv {t t' : TypeId} {x : Operand} {k k' : IntKind} {a : Int} {d : TypeDesc} (hs : P.underlying t = some d) (ht : P.underlying t' = some (.int k')) (ho : o.op = .convert t t' x) (hx : ev L x = some (.int k a)) :
    Qt P dF n L S o (.int k' (k'.wrap a)) := fun c w hf _ => by
  simp [execOp, ho, hf.eval hx, convert, run_underlying hs, run_underlying ht, Conv.intToInt]
theorem q_extract {x : Operand} {i : Nat} {vs : Array Value} {v : Value} (ho : o.op = .extract x i) (hx : ev L x = some (.tuple vs)) (hv : vs[i]? = some v) : Qt P dF n L S o v := fun c w hf _ => by
  simp [execOp, ho, hf.eval hx, Instr.extract, hv]
theorem q_nil {x : Operand} {a : Addr} (ho : o.op = .nilCheck x) (hx : ev L x = some (.pointer (some a))) : Qt P dF n L S o (.pointer (some a)) := fun c w hf _ => by
  simp [execOp, ho, hf.eval hx]
theorem q_len {x : Operand} {t e : TypeId} {sz by_ : Nat} {A : Option Addr} {l c : Nat} (ht : slc P t = some (e, sz, by_)) (ho : o.op = .call { callee := .builtin .len, args := #[x], argTypes := #[t] }) (hx : ev L x = some (.slice A l c)) :
    Qt P dF n L S o (.int .i64 l) := fun a w hf _ => by
  simp [execOp, ho, hf.eval hx, resolve, invoke, builtin, Builtin.len_, run_underlying (slc_parts ht).1, goInt]
theorem q_lenS {x : Operand} {t : TypeId} {s : ByteArray} (ht : P.underlying t = some .string) (ho : o.op = .call { callee := .builtin .len, args := #[x], argTypes := #[t] }) (hx : ev L x = some (.string s)) :
    Qt P dF n L S o (.int .i64 s.size) := fun a w hf _ => by
  simp [execOp, ho, hf.eval hx, resolve, invoke, builtin, Builtin.len_, run_underlying ht, goInt]
end
end Go.X
