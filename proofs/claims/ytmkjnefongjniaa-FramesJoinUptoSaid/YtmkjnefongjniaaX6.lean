/-
  The rules by which the walks of this claim go. Sixth part: a slice that is made of noughts, arrays that are compared.
-/
import Derived.Test.YtmkjnefongjniaaX5
import Derived.ChangeKeysEq
namespace Go.X
open Go
variable {dF : List Deferred}
section
variable {P : Program} {n : Nat} {w0 : World} {X : List Nat} {Q : Exit → Act → World → Prop} {L : Slots} {F : List Blk} {o : Oper}
theorem ints_replicate (k : IntKind) (N : Nat) (z : Int) : ints k (List.replicate N z) = List.replicate N (.int k z) := by simp [ints]
theorem ints_inj {k : IntKind} {xs ys : List Int} (h : ints k xs = ints k ys) : xs = ys := by
  induction xs generalizing ys with
  | nil => cases ys with
    | nil => rfl
    | cons _ _ => cases h
  | cons x r ih => cases ys with
    | nil => cases h
    | cons y s =>
      simp only [ints, List.map_cons, List.cons.injEq, Value.int.injEq, true_and] at h
      rw [h.1, ih h.2]
theorem e_makeI {t e : TypeId} {by_ : Nat} {kk : IntKind} {l c : Operand} {k k' : IntKind} {i i' : Int} {d : Nat} (ha : slc P t = some (e, 1, by_)) (hz : zer P e = some [.int kk 0]) (N M : Nat) (ho : o.op = .makeSlice t l c)
    (hl : ev L l = some (.int k i)) (hc : ev L c = some (.int k' i')) (hN : i = (N : Int)) (hM : i' = (M : Int)) (hNM : N ≤ M) (hb : by_ * M ≤ 281474976710656) (h63 : M ≤ 9223372036854775807) (hd : o.dst = some d) (hn : Nat.blt d n = true) :
    Eff P dF n w0 X o L F fun L' F' => ∃ k, L' = (d, .slice (some ⟨k, 0, none⟩) N M) :: L ∧ F' = F ++ [⟨some k, ints kk (List.replicate M 0), e, (0, 0)⟩] := by
  have h := e_make (dF := dF) (n := n) (w0 := w0) (X := X) (F := F) ha hz rfl N M ho hl hc hN hM hNM hb h63 hd hn
  intro Q K hK
  refine h Q K fun L' F' hg => ?_
  obtain ⟨k, rfl, rfl⟩ := hg
  exact hK _ _ ⟨k, rfl, by rw [ints_replicate]⟩

theorem cellsOf_of {e : TypeId} {i : TypeInfo} (hi : P.info? e = some i) (hs : i.size = 1) : P.cellsOf e = 1 := by simp [Program.cellsOf, hi, hs]
theorem run_eqItems_ints {e : TypeId} {k : IntKind} (he : scalar P e = true) (hu : P.underlying e = some (.int k)) (d : Nat) (xs ys : List Int) (w : World) : ∀ is : List Nat, (∀ i ∈ is, i < xs.length ∧ i < ys.length) →
    (Op.eqItems (d + 1) e 1 (ints k xs).toArray (ints k ys).toArray is).run P w = .ok (is.all fun i => xs.getD i 0 == ys.getD i 0) w
  | [], _ => by simp [Op.eqItems]
  | i :: is, h => by
    have hx := run_part_scalar (w := w) he (ints k xs).toArray (i * 1) _ (by rw [Nat.mul_one]; simpa using ints_get (k := k) (h i (by simp)).1)
    have hy := run_part_scalar (w := w) he (ints k ys).toArray (i * 1) _ (by rw [Nat.mul_one]; simpa using ints_get (k := k) (h i (by simp)).2)
    simp only [Op.eqItems, Sem.run_bind, hx, hy, Result.andThen_ok, run_equalIn_int w d e k k _ _ hu]
    have ih := run_eqItems_ints he hu d xs ys w is (fun j hj => h j (by simp [hj]))
    simp only [← List.getD_eq_getElem?_getD] at *
    cases hb : (xs.getD i 0 == ys.getD i 0) with
    | false => simp only [hb, Bool.not_false, if_true, Sem.run_pure, List.all_cons, Bool.false_and]
    | true => simp only [hb, Bool.not_true, Bool.false_eq_true, if_false, ih, List.all_cons, Bool.true_and]
theorem all_range_eq {xs ys : List Int} {N : Nat} (hx : xs.length = N) (hy : ys.length = N) : ((List.range N).all fun i => xs.getD i 0 == ys.getD i 0) = decide (xs = ys) := by
  rw [Bool.eq_iff_iff]
  simp only [List.all_eq_true, List.mem_range, beq_iff_eq, decide_eq_true_eq]
  constructor
  · intro h
    refine List.ext_getElem (by omega) fun i h1 h2 => ?_
    have := h i (by omega)
    simpa [List.getD_eq_getElem?_getD, h1, h2] using this
  · rintro rfl i _
    rfl
theorem q_eqlA {t t' e : TypeId} {len : Nat} {x y : Operand} {k : IntKind} {xs ys : List Int} {S : World → Prop} (ha : arr P t = some (len, e, 1)) (he : scalar P e = true) (hu : P.underlying e = some (.int k)) (hg : P.eqGuardType P.depth t = false)
    (ho : o.op = .binOp .eql t x y t') (hx : ev L x = some (.agg (ints k xs).toArray)) (hy : ev L y = some (.agg (ints k ys).toArray)) (hlx : xs.length = len) (hly : ys.length = len) : Qt P dF n L S o (.bool (decide (xs = ys))) := fun a w hf _ => by
  obtain ⟨hua, inf, hi, hs⟩ := arr_parts ha
  have h1 := run_equalIn_array w 9999 (ints k xs).toArray (ints k ys).toArray hua hi
  rw [cellsOf_of hi hs, show (9999 : Nat) = 9998 + 1 from rfl, run_eqItems_ints he hu 9998 xs ys w _ (fun i h => by simp at h; omega), all_range_eq hlx hly] at h1
  simp only [execOp, ho, hf.eval hx, hf.eval hy]
  simp [run_eqGuard_agg w _ _ _ _ _ _ hg, run_eql_struct, h1]
theorem q_neqA {t t' e : TypeId} {len : Nat} {x y : Operand} {k : IntKind} {xs ys : List Int} {S : World → Prop} (ha : arr P t = some (len, e, 1)) (he : scalar P e = true) (hu : P.underlying e = some (.int k)) (hg : P.eqGuardType P.depth t = false)
    (ho : o.op = .binOp .neq t x y t') (hx : ev L x = some (.agg (ints k xs).toArray)) (hy : ev L y = some (.agg (ints k ys).toArray)) (hlx : xs.length = len) (hly : ys.length = len) : Qt P dF n L S o (.bool (!decide (xs = ys))) := fun a w hf _ => by
  obtain ⟨hua, inf, hi, hs⟩ := arr_parts ha
  have h1 := run_equalIn_array w 9999 (ints k xs).toArray (ints k ys).toArray hua hi
  rw [cellsOf_of hi hs, show (9999 : Nat) = 9998 + 1 from rfl, run_eqItems_ints he hu 9998 xs ys w _ (fun i h => by simp at h; omega), all_range_eq hlx hly] at h1
  simp only [execOp, ho, hf.eval hx, hf.eval hy]
  simp [run_eqGuard_agg w _ _ _ _ _ _ hg, run_neq_struct, h1]
/-- A region whose order is open, of which some blocks alone are known to stay throughout. -/
theorem W.drawP {id : Nat} {ops : List Oper} (tl : Nat) (m : List Bool) (hm : P.follows .mixedOrders = true)
    (h : D P dF n w0 X Q ops.toArray (Mem w0 X (pick m F)) tl ops.length (List.replicate ops.length false).toArray L F) : W P dF n w0 X Q (.region id ops.toArray true) L F := fun a w hf hmem => by
  refine wp_region_noPanic (wp_region_any hm ?_)
  have e : Array.replicate ops.toArray.size false = (List.replicate ops.length false).toArray := by rw [← Array.toList_inj]; simp
  rw [e]
  exact Any.sound _ _ _ _ (h a w.drew hf hmem.drew)
end
/-! Parts of a row of cells. -/
theorem part_first {a r : List Value} {m : Nat} (h : a.length = m) : ((a ++ r).drop 0).take m = a := by subst h; simp
theorem part_last {a : List Value} {m : Nat} (h : a.length = m) : (a.drop 0).take m = a := by subst h; simp
theorem part_skip {a r p : List Value} {off m : Nat} (o : Nat) (h : a.length = o) (hle : Nat.ble o off = true) (hp : (r.drop (off - o)).take m = p) : ((a ++ r).drop off).take m = p := by
  have := Nat.le_of_ble_eq_true hle
  subst h
  rw [List.drop_append, List.drop_of_length_le this, List.nil_append]; exact hp
theorem part_skip1 {v : Value} {r p : List Value} {off m : Nat} (hp : (r.drop off).take m = p) : ((v :: r).drop (off + 1)).take m = p := hp
theorem cell_skip {a r : List Value} {v : Value} {off : Nat} (o : Nat) (h : a.length = o) (hle : Nat.ble o off = true) (hp : r[off - o]? = some v) : (a ++ r)[off]? = some v := by
  have := Nat.le_of_ble_eq_true hle
  subst h
  rw [List.getElem?_append_right this]; exact hp
theorem cell_skip1 {u v : Value} {r : List Value} {off : Nat} (hp : r[off]? = some v) : (u :: r)[off + 1]? = some v := hp
end Go.X
