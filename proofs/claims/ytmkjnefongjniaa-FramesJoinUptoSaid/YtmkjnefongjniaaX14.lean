/-
  The rules by which the walks of this claim go. Fourteenth part: pointers that are not nil; max; a result in a block and one beside it.
-/
import Derived.Test.YtmkjnefongjniaaX13
import Derived.Laws.Pointers
namespace Go.X
open Go
variable {dF : List Deferred}
section
variable {P : Program} {n : Nat} {w0 : World} {X : List Nat} {Q : Exit → Act → World → Prop} {L : Slots} {F : List Blk} {o : Oper}
theorem q_eqlPN {S : World → Prop} {t t' : TypeId} {x y : Operand} {p : Option Addr} (hu : P.underlying t = some (.pointer (P.pointee t))) (ho : o.op = .binOp .eql t x y t') (hx : ev L x = some (.pointer p)) (hy : ev L y = some (.pointer none)) : Qt P dF n L S o (.bool p.isNone) := fun c w hf _ => by
  simp [execOp, ho, hf.eval hx, hf.eval hy, eqGuard, run_eql_pointer_nil w t p hu]
theorem q_max {S : World → Prop} {t t' : TypeId} {x y : Operand} {k : IntKind} {a b : Int} (ho : o.op = .call { callee := .builtin .max, args := #[x, y], argTypes := #[t, t'] }) (hx : ev L x = some (.int k a)) (hy : ev L y = some (.int k b)) : Qt P dF n L S o (.int k (max a b)) := fun c w hf _ => by
  have h := run_max_int2 (P := P) (w := w) #[t, t'] o.type k k a b
  have e : (if b > a then b else a) = max a b := by rw [Int.max_def]; split <;> split <;> omega
  rw [e] at h
  simp only [execOp, ho, resolve, invoke, builtin, hf.eval hx, hf.eval hy, Sem.run_bind, Sem.run_pure, Result.andThen_ok, List.map_toArray, List.map_cons, List.map_nil, h]
theorem R_atE (off m : Nat) {k : Nat} {cells part : List Value} (h : ∀ w, Mem w0 X F w → Reads w (some ⟨k, 0, none⟩) cells) (hp : (cells.drop off).take m = part) : ∀ w, Mem w0 X F w → Reads w (some ⟨k, off, none⟩) part := fun w hm j v hj => by
  subst hp
  rw [List.getElem?_take] at hj
  split at hj
  · rw [List.getElem?_drop] at hj
    obtain ⟨ad, he, hc⟩ := h w hm (off + j) v hj
    cases he
    exact ⟨_, rfl, by rw [add_lit] at hc ⊢; simpa using hc⟩
  · cases hj
/-- Memory that was there, where one other block may be written. -/
theorem Reads.extX {g kp : Nat} {cs : List Value} (h : Reads w0 (some ⟨g, 0, none⟩) cs) (hne : g ≠ kp) : Ext w0 [kp] (some ⟨g, 0, none⟩) cs := fun j v hj => by
  obtain ⟨ad, ha, hb, _, hc⟩ := h.ext j v hj
  cases ha
  exact ⟨_, rfl, hb, by simpa using hne, hc⟩
theorem Mem.neG {w : World} {i k g : Nat} {cells cs : List Value} {ty : TypeId} {fz : Nat × Nat} {c : Value} (hm : Mem w0 [] F w) (hi : F[i]? = some ⟨some k, cells, ty, fz⟩) (hg : Reads w0 (some ⟨g, 0, none⟩) (c :: cs)) : g ≠ k := fun e => by
  subst e
  obtain ⟨ad, ha, hb, _, _⟩ := hg.ext 0 c rfl
  cases ha
  rcases hm.mine _ (List.mem_of_getElem? hi) g rfl with h | h
  · exact absurd hb (by simp; omega)
  · cases h
theorem one_cons {v : Value} {r : List Value} (h : v.oneCell' = true) (hr : ∀ u ∈ r, u.oneCell' = true) : ∀ u ∈ v :: r, u.oneCell' = true := fun u hu => (List.mem_cons.1 hu).elim (fun e => e ▸ h) (hr u)
theorem one_app {a r : List Value} (ha : ∀ u ∈ a, u.oneCell' = true) (hr : ∀ u ∈ r, u.oneCell' = true) : ∀ u ∈ a ++ r, u.oneCell' = true := fun u hu => (List.mem_append.1 hu).elim (ha u) (hr u)
theorem one_nil : ∀ u ∈ ([] : List Value), u.oneCell' = true := fun _ h => by cases h
/-- The end: a result that lies in a block, and one that does not. -/
theorem Ex.outCT {fn : Func} {p u : Tmp} {ty : TypeId} {k : Nat} {cs : List Value} {x : Value} {post : Value → List Blk → Prop} (m : List Bool) (i : Nat) {bt : TypeId} {fz : Nat × Nat} (hr : fn.results = #[.cell p ty, .tmp u]) (hw : wide P ty = some cs.length)
    (hp : look L p = some (.pointer (some ⟨k, 0, none⟩))) (hx : look L u = some x) (hi : F[i]? = some ⟨some k, cs, bt, fz⟩) (hq : post (.tuple #[.agg cs.toArray, x]) (pick m F)) :
    Ex [] n w0 X .ret (bodyPost P fn fun e w' => ∃ v F, e = .returned v ∧ Mem w0 X F w' ∧ post v F) L F := by
  intro a w hf hm
  refine ⟨hf.defers, .tuple #[.agg cs.toArray, x], ?_, _, pick m F, rfl, hm.sub (pick_sub m F), hq⟩
  have h1 := hf.holds p _ hp
  have h2 := hf.holds u _ hx
  have hl := run_loadVar_wide (P := P) (w := w) hw ⟨k, 0, none⟩ cs rfl (fun j v hj => by
    obtain ⟨ad, ha, hc⟩ := R_blk i hi w hm j v hj
    cases ha
    exact hc)
  simp [results, hr, Array.getD_eq_getD_getElem?, h1, h2, asAddr, hl]
end
end Go.X
