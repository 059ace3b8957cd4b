/-
  Elements of several cells: read, laid, appended. Interfaces.
-/
import Derived.Test.YtmkjnefongjniaaX18
namespace Go.X
open Go
variable {dF : List Deferred}
section
variable {P : Program} {n : Nat} {w0 : World} {X : List Nat} {Q : Exit → Act → World → Prop} {L : Slots} {F : List Blk} {o : Oper}
/-- An element of memory of which only is known what it reads as. -/
theorem R_elem {A : Option Addr} {cs p : List Value} (hR : ∀ w, Mem w0 X F w → Reads w A cs) (j m : Nat) (hp : (cs.drop j).take m = p) : ∀ w, Mem w0 X F w → Reads w (some (ptr A j)) p := fun w hm q v hq => by
  have hq' : cs[j + q]? = some v := by
    rw [← hp, List.getElem?_take] at hq
    split at hq
    · rwa [List.getElem?_drop] at hq
    · cases hq
  obtain ⟨ad, rfl, hc⟩ := hR w hm (j + q) v hq'
  exact ⟨_, rfl, by rw [ptr, Option.getD_some, add_add]; exact hc⟩
/-- A field of such an element. -/
theorem q_loadF {t : TypeId} {x : Operand} {ad : Addr} {fo : Nat} {p : List Value} {v : Value} (hs : scalar P t = true) (hR : ∀ w, Mem w0 X F w → Reads w (some ad) p) (ho : o.op = .load t x)
    (hx : ev L x = some (.pointer (some (ad.add fo)))) (hc : p[fo]? = some v) : Qt P dF n L (Mem w0 X F) o v := fun a w hf hm => by
  obtain ⟨ad', he, hcell⟩ := hR w hm fo v hc
  cases he
  simp only [execOp, ho, hf.eval hx, Instr.loadAt, Instr.sureAddr]
  simp [run_loadVar_scalar hs _ v hcell]
theorem fill_flat (s : Nat) : ∀ (vs : List (List Value)) (j : Nat) (cells : List Value), (∀ v ∈ vs, v.length = s) → (j + vs.length) * s ≤ cells.length →
    Instr.fill (fun i => some (i * s, s)) cells.toArray ((List.range' j vs.length).zip (vs.map fun c => Value.agg c.toArray)) = some (cells.take (j * s) ++ vs.flatten ++ cells.drop ((j + vs.length) * s)).toArray
  | [], j, cells, _, _ => by simp [Instr.fill]
  | v :: vs, j, cells, h, hl => by
    have hv := h v (List.mem_cons_self ..)
    have hle : j * s + s ≤ cells.length := by
      rw [List.length_cons] at hl
      have : (j + 1) * s ≤ (j + (vs.length + 1)) * s := Nat.mul_le_mul_right s (by omega)
      rw [Nat.add_mul, Nat.one_mul] at this
      omega
    have hput := foldl_put (j * s) v cells (by omega)
    have ih := fill_flat s vs (j + 1) (cells.take (j * s) ++ v ++ cells.drop (j * s + v.length)) (fun u hu => h u (List.mem_cons_of_mem _ hu)) (by
      rw [List.length_cons] at hl
      simp only [List.length_append, List.length_take, List.length_drop]
      rw [show j + 1 + vs.length = j + (vs.length + 1) by omega]
      omega)
    rw [List.length_cons, List.range'_succ, List.map_cons, List.zip_cons_cons, Instr.fill]
    have hsz : (Value.agg v.toArray).cells.size = s := by simp [Value.cells, hv]
    simp only [hsz, ne_eq, not_true_eq_false, decide_false, Bool.false_or]
    rw [if_neg (by simp; omega)]
    have e1 : (Value.agg v.toArray).cells = v.toArray := rfl
    rw [e1, hput, ih]
    congr 1
    rw [← Array.toList_inj]
    have ht : (cells.take (j * s)).length = j * s := by rw [List.length_take]; omega
    have e2 : (j + 1) * s = (cells.take (j * s) ++ v).length := by rw [List.length_append, ht, hv, Nat.add_mul, Nat.one_mul]
    have e3 : (cells.take (j * s) ++ v ++ cells.drop (j * s + v.length)).take ((j + 1) * s) = cells.take (j * s) ++ v := by rw [e2, List.take_left]
    have e4 : (cells.take (j * s) ++ v ++ cells.drop (j * s + v.length)).drop ((j + 1 + vs.length) * s) = cells.drop ((j + (vs.length + 1)) * s) := by
      have : (j + 1 + vs.length) * s = (cells.take (j * s) ++ v).length + vs.length * s := by rw [← e2, ← Nat.add_mul]
      rw [this, ← List.drop_drop, List.drop_left, List.drop_drop]
      congr 1
      rw [hv, Nat.add_mul, Nat.add_mul, Nat.one_mul]
      omega
    rw [e3, e4]
    simp only [List.flatten_cons, List.append_assoc]
/-- A literal of a slice whose elements are parts. -/
theorem e_litS {t e : TypeId} {len s by_ : Nat} {zs : List Value} {ps : List (Nat × Operand)} {d : Nat} (ha : slc P t = some (e, s, by_)) (hz : zer P e = some zs) (cs : List (List Value)) (ho : o.op = .buildSlice t len ps.toArray)
    (hp : evp L ps = some ((List.range' 0 cs.length).zip (cs.map fun c => Value.agg c.toArray))) (hl : cs.length = len) (hs : ∀ v ∈ cs, v.length = s) (h24 : Nat.ble (len * s) 16777216 = true) (hd : o.dst = some d) (hn : Nat.blt d n = true) :
    Eff P dF n w0 X o L F fun L' F' => ∃ k, L' = (d, .slice (some ⟨k, 0, none⟩) len len) :: L ∧ F' = F ++ [⟨some k, cs.flatten, e, (0, 0)⟩] := by
  refine e_lit ho hp (fun w => ?_) hd hn
  obtain ⟨hu, inf, hi, hsz, _⟩ := slc_parts ha
  obtain ⟨i, z', hi', hz', hzc⟩ := zer_parts hz
  rw [hi] at hi'
  cases hi'
  subst hl
  have h24' : cs.length * s ≤ 16777216 := Nat.le_of_ble_eq_true h24
  have key : ∀ zero : Array Value, Instr.fill (fun i => some (i * s, s)) ((Array.range (cs.length * s)).map (zero[· % zero.size]!)) ((List.range' 0 cs.length).zip (cs.map fun c => Value.agg c.toArray)) = some cs.flatten.toArray := fun zero => by
    have h := fill_flat s cs 0 ((Array.range (cs.length * s)).map (zero[· % zero.size]!)).toList hs (by simp)
    have e0 : (((Array.range (cs.length * s)).map (zero[· % zero.size]!)).toList.drop ((0 + cs.length) * s)) = [] := List.drop_eq_nil_of_le (by simp)
    rw [e0, Nat.zero_mul, List.take_zero, List.nil_append, List.append_nil] at h
    exact h
  simp only [Instr.buildSlice, Sem.run_bind, run_underlying hu, Result.andThen_ok, sizeOf, typeInfo, run_program, hi, hsz, Sem.run_pure]
  rw [if_neg (by omega)]
  by_cases h0 : cs.length * s = 0
  · rw [if_pos h0]
    simp only [Sem.run_bind, Sem.run_pure, Result.andThen_ok, key, newRow, run_newObj]
  · rw [if_neg h0]
    simp only [Sem.run_bind, zeroValue, typeInfo, run_program, Result.andThen_ok, hi, Sem.run_pure, hz', key, newRow, run_newObj]
/-- append of elements of several cells, to a block that may be absent. -/
theorem e_appendS {t e : TypeId} {sz by_ : Nat} {zs : List Value} {x y : Operand} {B : Option Addr} {len cap m c : Nat} {d : Nat} {no : Option Nat} (ha : slc P t = some (e, sz, by_)) (hz : zer P e = some zs) (hzl : zs.length = sz) (hsz : 0 < sz) (i : Nat) (old junk news : List Value)
    (hR : ∀ w, Mem w0 X F w → Reads w B news)
    (ho : o.op = .call { callee := .builtin .append, args := #[x, y], argTypes := #[t, t] }) (hx : ev L x = some (.slice (no.map fun k => (⟨k, 0, none⟩ : Addr)) len cap)) (hy : ev L y = some (.slice B m c)) (hi : F[i]? = some ⟨no, old ++ junk, e, (0, 0)⟩)
    (hol : old.length = len * sz) (hcl : (old ++ junk).length = cap * sz) (hnl : news.length = m * sz) (h1 : ∀ v ∈ news, v.oneCell' = true) (hm0 : 0 < m) (hbytes : (len + m) * by_ ≤ 140737488355328) (h63 : len + m ≤ 9223372036854775807) (hd : o.dst = some d) (hn : Nat.blt d n = true) :
    Eff P dF n w0 X o L F fun L' F' => ∃ (k' cap' : Nat) (junk' : List Value), (old ++ news ++ junk').length = cap' * sz ∧ len + m ≤ cap' ∧ L' = (d, .slice (some ⟨k', 0, none⟩) (len + m) cap') :: L ∧ F' = F.set i ⟨some k', old ++ news ++ junk', e, (0, 0)⟩ := by
  have hlc : len ≤ cap := by
    refine Nat.le_of_mul_le_mul_right ?_ hsz
    rw [← hol, ← hcl, List.length_append]
    omega
  have h := e_append (dF := dF) (n := n) (w0 := w0) (X := X) ha hz hzl hsz i (no := no) old junk news hR ho hx hy hi (.inr rfl) hol hcl hlc hnl h1 hbytes h63 hd hn
  intro Q K hK
  refine h Q K fun L' F' hg => ?_
  obtain ⟨A', no', cap', junk', hA, hl, hcap, hno, _, rfl, rfl⟩ := hg
  obtain ⟨k', rfl⟩ := Option.isSome_iff_exists.1 (hno (by omega))
  have hA' : A' = some ⟨k', 0, none⟩ := by
    rcases hA with h1 | h1
    · omega
    · exact h1
  subst hA'
  exact hK _ _ ⟨k', cap', junk', hl, hcap, rfl, rfl⟩
end
end Go.X
