/-
  The rules by which the walks of this claim go. Fifteenth part: functions as values; a table of text; a slice that is asked for nothing.
-/
import Derived.Test.YtmkjnefongjniaaX14
import Derived.Lib.Tables
import Derived.Laws.Cover3
namespace Go.X
open Go
variable {dF : List Deferred}
section
variable {P : Program} {n : Nat} {w0 : World} {X : List Nat} {Q : Exit → Act → World → Prop} {L : Slots} {F : List Blk} {o : Oper}
theorem q_func {S : World → Prop} {f : Fn} {first captured : List Operand} {vs us : List Value} (ho : o.op = .makeFunc f first.toArray captured.toArray) (h1 : evs L first = some vs) (h2 : evs L captured = some us) : Qt P dF n L S o (.func f vs.toArray us.toArray) := fun a w hf _ => by
  have e1 := evs_map hf h1
  have e2 := evs_map hf h2
  have a1 : first.toArray.map a.eval = vs.toArray := by rw [← e1]; simp
  have a2 : captured.toArray.map a.eval = us.toArray := by rw [← e2]; simp
  simp only [execOp, ho, Instr.makeFunc, Sem.run_bind, Sem.run_pure, Result.andThen_ok, a1, a2]
/-- A call of a function that a slot holds. -/
theorem e_callF {f : FuncId} {x : Operand} {xs : List Operand} {ts : Array TypeId} {vs us : List Value} {d : Nat} {post : Value → List Blk → Prop} (he : Enters P f) (ho : o.op = .call { callee := .value x, args := xs.toArray, argTypes := ts }) (hx : ev L x = some (.func (.func f) #[] us.toArray)) (hxs : evs L xs = some vs)
    (hc : ∀ w, Mem w0 X F w → Does P f (vs ++ us).toArray w [] post) (hd : o.dst = some d) (hn : Nat.blt d n = true) :
    Eff P dF n w0 X o L F fun L' F' => ∃ v G, post v G ∧ L' = (d, v) :: L ∧ F' = F ++ G := fun Q K hK a w hf hm => by
  have hr : (execOp a.eval o).run P w = .ok (.enter f (vs ++ us).toArray) w := by
    have := evs_map hf hxs
    have e2 : (xs.toArray.map a.eval) = vs.toArray := by rw [← this]; simp
    simp only [execOp, ho, resolve, hf.eval hx, Deferred.ofValue, invoke]
    simp only [Sem.run_bind, Sem.run_pure, Result.andThen_ok, Array.empty_append]
    show ((callFunc f (xs.toArray.map a.eval ++ us.toArray)).run P w) = _
    rw [e2, he]
    simp
  unfold Oper.wp
  rw [hr, Oper.upon_enter]
  refine Calls.mono (hc w hm) ?_
  rintro _ w' ⟨v, G, rfl, hm', hp⟩
  simp only [hd]
  exact hK _ _ ⟨v, G, hp, rfl, rfl⟩ _ _ (hf.put _ hn) (hm.join hm' (by simp) (by simp))
theorem q_eqlSN {S : World → Prop} {t t' e : TypeId} {x y : Operand} {A : Option Addr} {l c : Nat} (hu : P.underlying t = some (.slice e)) (ho : o.op = .binOp .eql t x y t') (hx : ev L x = some (.slice A l c)) (hy : ev L y = some (.slice none 0 0)) : Qt P dF n L S o (.bool A.isNone) := fun a w hf _ => by
  have h : (binOp .eql t (.slice A l c) (.slice none 0 0)).run P w = .ok (.bool A.isNone) w := by
    simp only [binOp]
    simp [run_equal_slice_nil w t e A l c hu]
  simp [execOp, ho, hf.eval hx, hf.eval hy, eqGuard, h]
/-- The table of lengths, at a byte. -/
theorem q_len8 {S : World → Prop} {t : TypeId} {x y : Operand} {k : IntKind} {i : Int} (hu : P.underlying t = some .string) (ho : o.op = .index t x y) (hx : ev L x = some (.string Lib.len8tab)) (hy : ev L y = some (.int k i)) (h0 : 0 ≤ i) (h1 : i ≤ 255) : Qt P dF n L S o (.int .u8 (Lib.len8 i)) := fun a w hf _ => by
  have := Lib.run_index_len8tab (P := P) (w := w) t k i hu h0 h1
  simp only [execOp, ho, hf.eval hx, hf.eval hy, Sem.run_bind, this, Result.andThen_ok, Sem.run_pure]
/-! How many bits. -/
def bl (x : Nat) : Nat := if x = 0 then 0 else x.log2 + 1
theorem bl_le (x k : Nat) : bl x ≤ k ↔ x < 2 ^ k := by
  unfold bl
  split
  · rename_i h
    subst h
    exact ⟨fun _ => Nat.two_pow_pos k, fun _ => Nat.zero_le k⟩
  · rename_i h
    rw [← Nat.log2_lt h]
    omega
theorem bl_shift {x s : Nat} (h : 2 ^ s ≤ x) : bl x = s + bl (x / 2 ^ s) := by
  have key : ∀ k, bl x ≤ k ↔ s + bl (x / 2 ^ s) ≤ k := fun k => by
    rw [bl_le]
    by_cases hk : s ≤ k
    · obtain ⟨m, rfl⟩ := Nat.exists_eq_add_of_le hk
      rw [Nat.add_le_add_iff_left, bl_le, Nat.div_lt_iff_lt_mul (Nat.two_pow_pos s), Nat.pow_add, Nat.mul_comm]
    · constructor
      · intro hx
        have : 2 ^ k ≤ 2 ^ s := Nat.pow_le_pow_right (by decide) (by omega)
        omega
      · intro hx; omega
  exact Nat.le_antisymm ((key _).2 (Nat.le_refl _)) ((key _).1 (Nat.le_refl _))
theorem len8_bl : ∀ i, i < 256 → Lib.len8 ((i : Nat) : Int) = ((bl i : Nat) : Int) := by decide +kernel
theorem shr_nat (k : IntKind) (m s : Nat) (h : s ≤ k.bits) : shr k ((m : Nat) : Int) ((s : Nat) : Int) = ((m / 2 ^ s : Nat) : Int) := by
  unfold shr
  rw [Int.toNat_natCast, Nat.min_eq_left h]
  have : ((2 : Int) ^ s) = ((2 ^ s : Nat) : Int) := by simp
  rw [this, Int.fdiv_eq_ediv_of_nonneg _ (Int.natCast_nonneg _)]
  rfl
end
end Go.X
