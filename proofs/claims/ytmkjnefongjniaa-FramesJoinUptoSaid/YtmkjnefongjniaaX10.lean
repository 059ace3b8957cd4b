/-
  The rules by which the walks of this claim go. Tenth part: noughts that are appended; copies of whole numbers; min.
-/
import Derived.Test.YtmkjnefongjniaaX9
import Derived.Lib.AppendZeros
import Derived.Lib.AppendZerosOnto
namespace Go.X
open Go
variable {dF : List Deferred}
section
variable {P : Program} {n : Nat} {w0 : World} {X : List Nat} {Q : Exit → Act → World → Prop} {L : Slots} {F : List Blk} {o : Oper}
theorem zeroCells_one (z : Value) (m : Nat) : (Builtin.zeroCells #[z] m).toList = List.replicate m z := by
  refine List.ext_getElem? fun i => ?_
  by_cases h : i < m
  · simp [Builtin.zeroCells, h, Nat.mod_one]
  · rw [List.getElem?_eq_none (by simp [Builtin.zeroCells]; omega), List.getElem?_eq_none (by simp; omega)]
/-- The block that was known gives its place to a new one. -/
theorem Mem.moved {w : World} (hm : Mem w0 X F w) (i : Nat) (cs : List Value) (e : TypeId) : Mem w0 X (F.set i ⟨some w.heap.size, cs, e, (0, 0)⟩) (w.drew.alloc (.cells cs.toArray e)) := by
  have hnew := hm.drew.new cs e
  refine ⟨hnew.kept, ?_, ?_, ?_⟩
  · intro b' hb'
    rcases List.mem_or_eq_of_mem_set hb' with h | h
    · exact hnew.has b' (List.mem_append_left _ h)
    · subst h; exact hnew.has _ (List.mem_append_right _ (by simp))
  · intro b' hb'
    rcases List.mem_or_eq_of_mem_set hb' with h | h
    · exact hnew.mine b' (List.mem_append_left _ h)
    · subst h; exact hnew.mine _ (List.mem_append_right _ (by simp))
  · have hap := List.pairwise_iff_getElem.1 hm.apart
    rw [List.pairwise_iff_getElem]
    intro p q hp0 hq0 hpq k hk1 hk2
    have hp : p < F.length := by simpa using hp0
    have hq : q < F.length := by simpa using hq0
    rw [List.getElem_set] at hk1 hk2
    have old_lt : ∀ r (hr : r < F.length), F[r].no = some k → k < w.heap.size := fun r hr h => Blk.lt (hm.has _ (List.getElem_mem hr)) h
    by_cases hip : i = p
    · rw [if_pos hip] at hk1
      rw [if_neg (by omega)] at hk2
      cases hk1
      exact Nat.lt_irrefl _ (old_lt q hq hk2)
    · rw [if_neg hip] at hk1
      by_cases hiq : i = q
      · rw [if_pos hiq] at hk2
        cases hk2
        exact Nat.lt_irrefl _ (old_lt p hp hk1)
      · rw [if_neg hiq] at hk2
        exact hap p q hp hq hpq k hk1 hk2
/-- append(x, make([]T, N)...) -/
theorem e_appendZ {t tn e : TypeId} {by_ : Nat} {x y : Operand} {kk kn kq : IntKind} {len cap k : Nat} {i' : Int} {d : Nat} (ha : slc P t = some (e, 1, by_)) (htn : P.underlying tn = some (.int kn)) (hz : zer P e = some [.int kk 0]) (i : Nat) {cells : List Value} (xs : List Int) (junk : List Value) (N : Nat)
    (hc : cells = ints kk xs ++ junk) (ho : o.op = .call { callee := .builtin .append, args := #[x, y], argTypes := #[t, tn] }) (hx : ev L x = some (.slice (some ⟨k, 0, none⟩) len cap)) (hy : ev L y = some (.int kq i')) (hN : i' = (N : Int)) (hi : F[i]? = some ⟨some k, cells, e, (0, 0)⟩)
    (hol : xs.length = len) (hcl : xs.length + junk.length = cap) (hbytes : (len + N) * by_ ≤ 140737488355328) (h63 : len + N ≤ 9223372036854775807) (hd : o.dst = some d) (hn : Nat.blt d n = true) :
    Eff P dF n w0 X o L F fun L' F' => ∃ (k' cap' : Nat) (junk' : List Value), len + N + junk'.length = cap' ∧ L' = (d, .slice (some ⟨k', 0, none⟩) (len + N) cap') :: L ∧ F' = F.set i ⟨some k', ints kk (xs ++ List.replicate N 0) ++ junk', e, (0, 0)⟩ := fun Q K hK a w hf hm => by
  obtain ⟨hu, inf, hinf, hs, hby⟩ := slc_parts ha
  obtain ⟨inf', z, hinf', hz', hzc⟩ := zer_parts hz
  rw [hinf] at hinf'
  cases hinf'
  subst hc hN
  have hzz : z.cells = #[.int kk 0] := by rw [← Array.toList_inj, hzc]
  have hb := hm.at i hi
  unfold Blk.here at hb
  simp only at hb
  have hw : IntKind.i64.wrap (N : Int) = N := i64_wrap (by omega) (by omega)
  have run : ∀ v w', (Builtin.append_ #[t, tn] o.type #[.slice (some ⟨k, 0, none⟩) len cap, .int kq N]).run P w = .ok v w' → (execOp a.eval o).run P w = .ok (.value v) w' := fun v w' h => by
    simp only [execOp, ho, resolve, invoke, builtin, hf.eval hx, hf.eval hy, Sem.run_bind, Sem.run_pure, Result.andThen_ok, List.map_toArray, List.map_cons, List.map_nil, h]
  have hnew : ints kk (List.replicate N 0) = List.replicate N (Value.int kk 0) := ints_replicate kk N 0
  by_cases hroom : len + N ≤ cap
  · have hst := storeCells_run (P := P) hm i (off := len) hi (List.replicate N (Value.int kk 0)) (fun v hv => by rw [List.eq_of_mem_replicate hv]; rfl) (by simp [hol]; omega)
    have hr : (Builtin.append_ #[t, tn] o.type #[.slice (some ⟨k, 0, none⟩) len cap, .int kq N]).run P w = .ok (.slice (some ⟨k, 0, none⟩) (len + N) cap)
        (w.setRow k ((ints kk xs ++ junk).take len ++ List.replicate N (Value.int kk 0) ++ (ints kk xs ++ junk).drop (len + (List.replicate N (Value.int kk 0)).length)).toArray) := by
      have h48 : ¬ ((281474976710656 : Int) < (N : Int) * (by_ : Int)) := by
        have : N * by_ ≤ (len + N) * by_ := Nat.mul_le_mul_right _ (by omega)
        have h2 : ((N * by_ : Nat) : Int) ≤ 140737488355328 := by omega
        rw [Int.natCast_mul] at h2
        omega
      by_cases hN0 : N = 0
      · subst hN0
        have hw0 : (w.setRow k ((ints kk xs ++ junk).take len ++ List.replicate 0 (Value.int kk 0) ++ (ints kk xs ++ junk).drop (len + (List.replicate 0 (Value.int kk 0)).length)).toArray) = w.setRow k ((ints kk xs ++ junk)).toArray := by simp
        have hsame : (storeCells (⟨k, len, none⟩ : Addr) ([] : List Value)).run P w = .ok () (w.setRow k (ints kk xs ++ junk).toArray) := by
          rw [← hw0]; simpa using hst
        simp [Builtin.append_, run_underlying hu, run_underlying htn, sizeOf, typeInfo, hinf, hs, hby, show IntKind.i64.wrap 0 = 0 by decide, show len ≤ cap by omega, add_lit, hsame, asInt, asIntOf]
      · have hn1 : ¬ (N * inf.size = 0) := by rw [hs]; omega
        have hz1 : (Builtin.zeroCells z.cells N).toList = List.replicate N (Value.int kk 0) := by rw [hzz]; exact zeroCells_one _ N
        simp [Builtin.append_, run_underlying hu, run_underlying htn, sizeOf, typeInfo, zeroValue, hinf, hs, hby, hz', hw, hroom, add_lit, hN0, hz1, hst, asInt, asIntOf, h48]
        intro h
        omega
    unfold Oper.wp
    rw [run _ _ hr, Oper.upon_value, hd]
    have hcells : (ints kk xs ++ junk).take len ++ List.replicate N (Value.int kk 0) ++ (ints kk xs ++ junk).drop (len + (List.replicate N (Value.int kk 0)).length) = ints kk (xs ++ List.replicate N 0) ++ junk.drop N := by
      subst hol
      rw [← ints_length kk xs, List.take_left', ints_append, hnew]
      · simp [List.drop_append]
      · rfl
    rw [hcells]
    exact hK _ _ ⟨k, cap, junk.drop N, by simp; omega, rfl, rfl⟩ _ _ (hf.put _ hn) (hm.setRow i hi _)
  · have hfirst : (Builtin.firstCells inf.size len (.slice (some ⟨k, 0, none⟩) len cap)).run P w.drew = .ok (ints kk xs).toArray w.drew :=
      run_firstCells_some (P := P) w.drew inf.size len ⟨k, 0, none⟩ len cap (ints kk xs) (by simp [hol, hs]) (fun j v hj => by
        obtain ⟨ad, h1, h2⟩ := (Reads.blk (hm.at i hi) rfl).pre j v hj
        cases h1
        exact h2)
    have hfits : Builtin.nextslicecap (len + N) cap * inf.bytes ≤ 281474976710656 := by rw [hby]; exact growslice_fits (by omega) hbytes
    have hge := grownCap_ge w (len + N) cap e
    have hNb : N * inf.bytes ≤ 281474976710656 := by
      rw [hby]
      have : N * by_ ≤ (len + N) * by_ := Nat.mul_le_mul_right _ (by omega)
      omega
    have hr := Lib.run_append_grow_zeros (P := P) w t tn o.type e inf z kq kn hu htn hinf hz' (some ⟨k, 0, none⟩) len cap (ints kk xs) hfirst N (by omega) (by omega) (by omega) (by omega) hNb hfits
    unfold Oper.wp
    rw [run _ _ hr, Oper.upon_value, hd]
    have hcells : (ints kk xs).toArray ++ Builtin.zeroCells z.cells N ++ Builtin.zeroCells z.cells (grownCap w (len + N) cap e - (len + N)) = (ints kk (xs ++ List.replicate N 0) ++ List.replicate (grownCap w (len + N) cap e - (len + N)) (Value.int kk 0)).toArray := by
      rw [← Array.toList_inj, hzz]
      simp [zeroCells_one, ints_append, hnew]
    rw [hcells]
    exact hK _ _ ⟨_, _, List.replicate (grownCap w (len + N) cap e - (len + N)) (Value.int kk 0), by simp; omega, rfl, rfl⟩ _ _ (hf.put _ hn) (hm.moved i _ e)
/-- copy of whole numbers to a block's head, where they have room. -/
theorem e_copyI {tD tS e : TypeId} {by_ : Nat} {x y : Operand} {kk : IntKind} {B : Option Addr} {dl dc sl sc k : Nat} {d : Nat} (ha : slc P tD = some (e, 1, by_)) (i : Nat) (xs ys : List Int) {ty : TypeId}
    (hR : ∀ w, Mem w0 X F w → Reads w B (ints kk ys)) (ho : o.op = .call { callee := .builtin .copy, args := #[x, y], argTypes := #[tD, tS] }) (hx : ev L x = some (.slice (some ⟨k, 0, none⟩) dl dc)) (hy : ev L y = some (.slice B sl sc))
    (hi : F[i]? = some ⟨some k, ints kk xs, ty, (0, 0)⟩) (hsl : ys.length = sl) (hle : sl ≤ dl) (hfit : sl ≤ xs.length) (hd : o.dst = some d) (hn : Nat.blt d n = true) :
    Eff P dF n w0 X o L F fun L' F' => L' = (d, .int .i64 sl) :: L ∧ F' = F.set i ⟨some k, ints kk (ys ++ xs.drop sl), ty, (0, 0)⟩ := by
  have h := e_copy (dF := dF) (n := n) (w0 := w0) (X := X) (L := L) ha i k 0 (ints kk ys) (ints kk xs) hR ho hx hy hi (.inr rfl) (by simp; omega) (by simp; omega) ints_one hd hn
  intro Q K hK
  refine h Q K fun L' F' hg => ?_
  obtain ⟨rfl, rfl⟩ := hg
  refine hK _ _ ⟨by rw [ints_length, hsl], ?_⟩
  rw [List.take_zero, List.nil_append, Nat.zero_add, ints_drop, ints_length, hsl, ints_append]
theorem q_min {S : World → Prop} {t t' : TypeId} {x y : Operand} {k : IntKind} {a b : Int} (ho : o.op = .call { callee := .builtin .min, args := #[x, y], argTypes := #[t, t'] }) (hx : ev L x = some (.int k a)) (hy : ev L y = some (.int k b)) : Qt P dF n L S o (.int k (min a b)) := fun c w hf _ => by
  have h := run_min_int2 (P := P) (w := w) #[t, t'] o.type k k a b
  have e : (if b < a then b else a) = min a b := by rw [Int.min_def]; split <;> split <;> omega
  rw [e] at h
  simp only [execOp, ho, resolve, invoke, builtin, hf.eval hx, hf.eval hy, Sem.run_bind, Sem.run_pure, Result.andThen_ok, List.map_toArray, List.map_cons, List.map_nil, h]
end
end Go.X
