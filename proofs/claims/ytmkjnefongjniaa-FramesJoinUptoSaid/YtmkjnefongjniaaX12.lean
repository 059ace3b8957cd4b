/-
  The rules by which the walks of this claim go. Twelfth part: blocks that may be absent; noughts behind nothing; two results in blocks.
-/
import Derived.Test.YtmkjnefongjniaaX11
namespace Go.X
open Go
variable {dF : List Deferred}
section
variable {P : Program} {n : Nat} {w0 : World} {X : List Nat} {Q : Exit → Act → World → Prop} {L : Slots} {F : List Blk} {o : Oper}
theorem R_opre (i : Nat) {no : Option Nat} {cells js : List Value} {ty : TypeId} {fz : Nat × Nat} (hi : F[i]? = some ⟨no, cells ++ js, ty, fz⟩) : ∀ w, Mem w0 X F w → Reads w (no.map fun k => (⟨k, 0, none⟩ : Addr)) cells := fun w hm => (R_own i hi w hm).pre
/-- append to a block that may be absent: it is there behind. -/
theorem e_appendO {t e : TypeId} {by_ : Nat} {zs : List Value} {x y : Operand} {B : Option Addr} {len cap m c : Nat} {d : Nat} {no : Option Nat} (ha : slc P t = some (e, 1, by_)) (hz : zer P e = some zs) (hzl : zs.length = 1) (i : Nat) {cells : List Value} (kk : IntKind) (xs ys : List Int) (junk : List Value) (hc : cells = ints kk xs ++ junk)
    (hR : ∀ w, Mem w0 X F w → Reads w B (ints kk ys))
    (ho : o.op = .call { callee := .builtin .append, args := #[x, y], argTypes := #[t, t] }) (hx : ev L x = some (.slice (no.map fun k => (⟨k, 0, none⟩ : Addr)) len cap)) (hy : ev L y = some (.slice B m c)) (hi : F[i]? = some ⟨no, cells, e, (0, 0)⟩)
    (hol : xs.length = len) (hcl : xs.length + junk.length = cap) (hnl : ys.length = m) (hm0 : 0 < len + m) (hbytes : (len + m) * by_ ≤ 140737488355328) (h63 : len + m ≤ 9223372036854775807) (hd : o.dst = some d) (hn : Nat.blt d n = true) :
    Eff P dF n w0 X o L F fun L' F' => ∃ (k' cap' : Nat) (junk' : List Value), len + m + junk'.length = cap' ∧ L' = (d, .slice (some ⟨k', 0, none⟩) (len + m) cap') :: L ∧ F' = F.set i ⟨some k', ints kk (xs ++ ys) ++ junk', e, (0, 0)⟩ := by
  subst hc
  have h := e_append (dF := dF) (n := n) (w0 := w0) (X := X) ha hz hzl (by decide) i (no := no) (ints kk xs) junk (ints kk ys) hR ho hx hy hi (.inr rfl) (by simp [hol]) (by simp; omega) (by omega) (by simp [hnl]) ints_one hbytes h63 hd hn
  intro Q K hK
  refine h Q K fun L' F' hg => ?_
  obtain ⟨A', no', cap', junk', hA, hl, hcap, hno, _, rfl, rfl⟩ := hg
  have hl' : len + m + junk'.length = cap' := by simp at hl; omega
  obtain ⟨k', rfl⟩ := Option.isSome_iff_exists.1 (hno hm0)
  have hA' : A' = some ⟨k', 0, none⟩ := by
    rcases hA with h1 | h1
    · omega
    · exact h1
  subst hA'
  exact hK _ _ ⟨k', cap', junk', hl', rfl, by rw [ints_append]⟩
theorem q_cap {S : World → Prop} {t e : TypeId} {x : Operand} {A : Option Addr} {len cap by_ sz : Nat} (ha : slc P t = some (e, sz, by_)) (ho : o.op = .call { callee := .builtin .cap, args := #[x], argTypes := #[t] }) (hx : ev L x = some (.slice A len cap)) : Qt P dF n L S o (.int .i64 ((cap : Nat) : Int)) := fun a w hf _ => by
  simp [execOp, ho, hf.eval hx, resolve, invoke, builtin, Builtin.cap_, run_underlying (slc_parts ha).1, goInt]
/-- append(nothing, make([]T, N)...) -/
theorem e_appendN {t tn e : TypeId} {by_ : Nat} {x y : Operand} {A : Option Addr} {kk kn kq : IntKind} {i' : Int} {d : Nat} (ha : slc P t = some (e, 1, by_)) (htn : P.underlying tn = some (.int kn)) (hz : zer P e = some [.int kk 0]) (N : Nat) (hpos : 0 < N)
    (ho : o.op = .call { callee := .builtin .append, args := #[x, y], argTypes := #[t, tn] }) (hx : ev L x = some (.slice A 0 0)) (hA : A = none) (hy : ev L y = some (.int kq i')) (hN : i' = (N : Int))
    (hbytes : N * by_ ≤ 140737488355328) (h63 : N ≤ 9223372036854775807) (hd : o.dst = some d) (hn : Nat.blt d n = true) :
    Eff P dF n w0 X o L F fun L' F' => ∃ (k' cap' : Nat) (junk' : List Value), N + junk'.length = cap' ∧ L' = (d, .slice (some ⟨k', 0, none⟩) N cap') :: L ∧ F' = F ++ [⟨some k', ints kk (List.replicate N 0) ++ junk', e, (0, 0)⟩] := fun Q K hK a w hf hm => by
  obtain ⟨hu, inf, hinf, hs, hby⟩ := slc_parts ha
  obtain ⟨inf', z, hinf', hz', hzc⟩ := zer_parts hz
  rw [hinf] at hinf'
  cases hinf'
  subst hN hA
  have hzz : z.cells = #[.int kk 0] := by rw [← Array.toList_inj, hzc]
  have run : ∀ v w', (Builtin.append_ #[t, tn] o.type #[.slice none 0 0, .int kq N]).run P w = .ok v w' → (execOp a.eval o).run P w = .ok (.value v) w' := fun v w' h => by
    simp only [execOp, ho, resolve, invoke, builtin, hf.eval hx, hf.eval hy, Sem.run_bind, Sem.run_pure, Result.andThen_ok, List.map_toArray, List.map_cons, List.map_nil, h]
  have hge := grownCap_ge w N 0 e
  have hr := Lib.run_append_nil_zeros (P := P) w t tn o.type e inf z kq kn hu htn hinf hz' N hpos (by omega) (by omega) (by rw [hby]; omega)
  unfold Oper.wp
  rw [run _ _ hr, Oper.upon_value, hd]
  have hcells : Builtin.zeroCells z.cells N ++ Builtin.zeroCells z.cells (grownCap w N 0 e - N) = (ints kk (List.replicate N 0) ++ List.replicate (grownCap w N 0 e - N) (Value.int kk 0)).toArray := by
    rw [← Array.toList_inj, hzz]
    simp [zeroCells_one, ints_replicate]
  rw [hcells]
  exact hK _ _ ⟨_, _, List.replicate (grownCap w N 0 e - N) (Value.int kk 0), by simp; omega, rfl, rfl⟩ _ _ (hf.put _ hn) (hm.drew.new _ _)
/-- The end: two results that lie in blocks. -/
theorem Ex.outCC {fn : Func} {p q : Tmp} {ty ty' : TypeId} {k k' : Nat} {cs ds : List Value} {post : Value → List Blk → Prop} (m : List Bool) (i j : Nat) {bt bt' : TypeId} {fz fz' : Nat × Nat} (hr : fn.results = #[.cell p ty, .cell q ty']) (hw : wide P ty = some cs.length) (hw' : wide P ty' = some ds.length)
    (hp : look L p = some (.pointer (some ⟨k, 0, none⟩))) (hp' : look L q = some (.pointer (some ⟨k', 0, none⟩))) (hi : F[i]? = some ⟨some k, cs, bt, fz⟩) (hj : F[j]? = some ⟨some k', ds, bt', fz'⟩) (hq : post (.tuple #[.agg cs.toArray, .agg ds.toArray]) (pick m F)) :
    Ex [] n w0 X .ret (bodyPost P fn fun e w' => ∃ v F, e = .returned v ∧ Mem w0 X F w' ∧ post v F) L F := by
  intro a w hf hm
  refine ⟨hf.defers, .tuple #[.agg cs.toArray, .agg ds.toArray], ?_, _, pick m F, rfl, hm.sub (pick_sub m F), hq⟩
  have h1 := hf.holds p _ hp
  have h2 := hf.holds q _ hp'
  have hl := run_loadVar_wide (P := P) (w := w) hw ⟨k, 0, none⟩ cs rfl (fun j v hj => by
    obtain ⟨ad, ha, hc⟩ := R_blk i hi w hm j v hj
    cases ha
    exact hc)
  have hl' := run_loadVar_wide (P := P) (w := w) hw' ⟨k', 0, none⟩ ds rfl (fun j' v hj' => by
    obtain ⟨ad, ha, hc⟩ := R_blk j hj w hm j' v hj'
    cases ha
    exact hc)
  simp [results, hr, Array.getD_eq_getD_getElem?, h1, h2, asAddr, hl, hl']
end
section
variable {P : Program} {n : Nat} {w0 : World} {X : List Nat} {Q : Exit → Act → World → Prop} {ops : Array Oper} {L : Slots} {F : List Blk} {S : World → Prop} {tl f : Nat} {l : Array Bool}
theorem D.three (i j m : Nat) (hr : Region.ready .any ops l = [i, j, m]) (h : Up P dF n w0 X Q ops S tl f l L F i) (g : Up P dF n w0 X Q ops S tl f l L F j) (g' : Up P dF n w0 X Q ops S tl f l L F m) : D P dF n w0 X Q ops S tl (f + 1) l L F := fun a w hf hm =>
  ⟨fun h0 => (by rw [hr] at h0; cases h0), fun k hk => by
    rw [hr] at hk
    have : k = i ∨ k = j ∨ k = m := by simpa using hk
    rcases this with rfl | rfl | rfl
    · exact h a w hf hm
    · exact g a w hf hm
    · exact g' a w hf hm⟩
end
def three {α : Type} (a b c : α) : Nat → α
  | 0 => a
  | 1 => b
  | _ => c
theorem lt3 {p : Nat → Prop} (h0 : p 0) (h1 : p 1) (h2 : p 2) : ∀ i, i < 3 → p i
  | 0, _ => h0
  | 1, _ => h1
  | 2, _ => h2
  | _ + 3, h => absurd h (by omega)
def sumN (n : Nat → Nat) : Nat → Nat
  | 0 => 0
  | i + 1 => sumN n i + n i
def catN (x : Nat → List Int) : Nat → List Int
  | 0 => []
  | i + 1 => catN x i ++ x i
theorem catN_length {x : Nat → List Int} {n : Nat → Nat} {m : Nat} (h : ∀ i, i < m → (x i).length = n i) : ∀ i, i ≤ m → (catN x i).length = sumN n i
  | 0, _ => rfl
  | i + 1, hi => by rw [catN, List.length_append, catN_length h i (by omega), h i (by omega), sumN]
theorem sumN_le (n : Nat → Nat) (i : Nat) : ∀ j, i ≤ j → sumN n i ≤ sumN n j
  | 0, h => by
    obtain rfl : i = 0 := by omega
    exact Nat.le_refl _
  | j + 1, h => by
    by_cases he : i = j + 1
    · subst he; exact Nat.le_refl _
    · exact Nat.le_trans (sumN_le n i j (by omega)) (by rw [sumN]; omega)
theorem range_map_get {α : Type} (f : Nat → α) {m i : Nat} (h : i < m) : ((List.range m).map f)[i]? = some (f i) := by simp [h]
end Go.X
