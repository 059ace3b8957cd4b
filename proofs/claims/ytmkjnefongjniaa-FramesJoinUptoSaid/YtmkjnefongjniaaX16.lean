/-
  The rules by which the walks of this claim go. Sixteenth part: a call that takes a block over.
-/
import Derived.Test.YtmkjnefongjniaaX15
import Derived.Laws.BitsAllLaws
namespace Go.X
open Go
variable {dF : List Deferred}
section
variable {P : Program} {n : Nat} {w0 : World} {X : List Nat} {Q : Exit → Act → World → Prop} {L : Slots} {F : List Blk} {o : Oper}
theorem Ex.last {e : Exit} (i : Nat) {b : Blk} (hi : F[i]? = some b) (h : Ex dF n w0 X e Q L (F.eraseIdx i ++ [b])) : Ex dF n w0 X e Q L F := fun a w hf hm => h a w hf (hm.perm (last_perm F i b hi))
theorem Mem.ownO {w : World} {b : Blk} (h : b.here w) : Mem w b.no.toList [b] w :=
  ⟨Kept.refl _ w, fun c hc => by rw [List.mem_singleton] at hc; exact hc ▸ h, fun c hc m hm => by rw [List.mem_singleton] at hc; subst hc; rw [hm]; exact .inr (by simp), List.pairwise_singleton _ _⟩
/-- A call that takes the i-th block, which may be absent: what it gives stands last. -/
theorem e_callM {f : FuncId} {xs : List Operand} {ts : Array TypeId} {vs : List Value} {d : Nat} (i : Nat) {no : Option Nat} {cells : List Value} {ty : TypeId} {fz : Nat × Nat} {post : Value → List Blk → Prop} (he : Enters P f)
    (ho : o.op = .call { callee := .value (.func f), args := xs.toArray, argTypes := ts }) (hx : evs L xs = some vs) (hi : F[i]? = some ⟨no, cells, ty, fz⟩)
    (hc : ∀ w, Mem w0 X F w → Does P f vs.toArray w no.toList post) (hd : o.dst = some d) (hn : Nat.blt d n = true) :
    Eff P dF n w0 X o L F fun L' F' => ∃ v G, post v G ∧ L' = (d, v) :: L ∧ F' = F.eraseIdx i ++ G := fun Q K hK a w hf hm => by
  unfold Oper.wp
  rw [run_call he hf ho hx, Oper.upon_enter]
  refine Calls.mono (hc w hm) ?_
  rintro _ w' ⟨v, G, rfl, hm', hp⟩
  simp only [hd]
  refine hK _ _ ⟨v, G, hp, rfl, rfl⟩ _ _ (hf.put _ hn) (hm.joinX hm' (List.eraseIdx_sublist ..) (fun k hk => .inr ⟨_, List.mem_of_getElem? hi, by simpa using hk⟩) fun b hb k hbk hk => ?_)
  obtain ⟨j, hj, hne, rfl⟩ := List.mem_eraseIdx_iff_getElem.1 hb
  have hk' : no = some k := by simpa using hk
  exact hm.ne j i hne (List.getElem?_eq_getElem hj) hi hbk hk' rfl
theorem q_quo8 {S : World → Prop} {t t' : TypeId} {x y : Operand} {a b : Int} (ho : o.op = .binOp .quo t x y t') (hx : ev L x = some (.int .u8 a)) (hy : ev L y = some (.int .u8 b))
    (h0 : 0 ≤ a) (h1 : a < 256) (hb : 0 < b) : Qt P dF n L S o (.int .u8 (a / b)) := fun c w hf _ => by
  have hb0 : b ≠ 0 := by omega
  have h2 : IntKind.u8.wrap (a.tdiv b) = a / b := by
    have h3 : 0 ≤ a / b := Int.ediv_nonneg h0 (by omega)
    have h4 : a / b ≤ a := Int.ediv_le_self _ h0
    rw [Int.tdiv_eq_ediv_of_nonneg h0]
    simp [IntKind.wrap, IntKind.bits, IntKind.signed]
    omega
  simp [execOp, ho, hf.eval hx, hf.eval hy, eqGuard, binOp_quo, Op.intDiv, hb0, h2]
theorem ofInt_u64' (m : Nat) (h : m < 18446744073709551616) : (BitVec.ofInt 64 (m : Int)).toNat = m := by
  simp [BitVec.toNat_ofInt]; omega
theorem i64_or_nat (a b : Nat) (h : a ||| b < 9223372036854775808) (ha : a < 9223372036854775808) (hb : b < 9223372036854775808) : bits .or .i64 (a : Int) (b : Int) = ((a ||| b : Nat) : Int) := by
  show IntKind.i64.wrap ((BitVec.ofInt 64 (a : Int) ||| BitVec.ofInt 64 (b : Int)).toNat : Int) = _
  rw [BitVec.toNat_or, ofInt_u64' a (by omega), ofInt_u64' b (by omega)]
  exact i64_wrap (by omega) (by omega)
theorem or_low (v c s : Nat) (hc : c < 2 ^ s) : v * 2 ^ s ||| c = v * 2 ^ s + c := by
  rw [Nat.mul_comm]
  exact (Nat.two_pow_add_eq_or_of_lt hc v).symm
theorem shl8 (v : Nat) (h : v * 256 < 9223372036854775808) : shl .i64 ((v : Nat) : Int) 8 = ((v * 256 : Nat) : Int) := by
  simp [shl, IntKind.wrap, IntKind.bits, IntKind.signed]
  omega
/-- A byte behind. -/
theorem shl_or (v : Nat) (c : Nat) (hc : c < 256) (h : v * 256 + c < 9223372036854775808) : bits .or .i64 (shl .i64 ((v : Nat) : Int) 8) ((c : Nat) : Int) = ((v * 256 + c : Nat) : Int) := by
  have ho : v * 256 ||| c = v * 256 + c := or_low v c 8 hc
  rw [shl8 v (Nat.lt_of_le_of_lt (Nat.le_add_right _ c) h), i64_or_nat (v * 256) c (Nat.lt_of_le_of_lt (Nat.le_of_eq ho) h) (Nat.lt_of_le_of_lt (Nat.le_add_right _ c) h) (by omega), ho]
end
end Go.X
