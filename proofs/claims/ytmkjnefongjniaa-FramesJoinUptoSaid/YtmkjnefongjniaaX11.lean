/-
  The rules by which the walks of this claim go. Eleventh part: whole numbers appended to a slice that has no room.
-/
import Derived.Test.YtmkjnefongjniaaX10
namespace Go.X
open Go
variable {dF : List Deferred}
section
variable {P : Program} {n : Nat} {w0 : World} {X : List Nat} {Q : Exit → Act → World → Prop} {L : Slots} {F : List Blk} {o : Oper}
theorem R_nilI (k : IntKind) : ∀ w, Mem w0 X F w → Reads w none (ints k []) := fun w _ => Reads.nil w none
/-- append to a full slice: what comes lies where it lay, or in a new block. -/
theorem e_appendF {t e : TypeId} {by_ : Nat} {zs : List Value} {x y : Operand} {A B : Option Addr} {len cap m c : Nat} {d : Nat} (ha : slc P t = some (e, 1, by_)) (hz : zer P e = some zs) (hzl : zs.length = 1) (kk : IntKind) (xs ys : List Int)
    (hRx : ∀ w, Mem w0 X F w → Reads w A (ints kk xs)) (hRy : ∀ w, Mem w0 X F w → Reads w B (ints kk ys))
    (ho : o.op = .call { callee := .builtin .append, args := #[x, y], argTypes := #[t, t] }) (hx : ev L x = some (.slice A len cap)) (hy : ev L y = some (.slice B m c))
    (hol : xs.length = len) (hfull : cap = len) (hnl : ys.length = m) (hbytes : (len + m) * by_ ≤ 140737488355328) (h63 : len + m ≤ 9223372036854775807) (hd : o.dst = some d) (hn : Nat.blt d n = true) :
    Eff P dF n w0 X o L F fun L' F' => ∃ (A' : Option Addr) (cap' : Nat) (b : Blk), len + m ≤ cap' ∧ (∀ w, Mem w0 X (F ++ [b]) w → Reads w A' (ints kk (xs ++ ys))) ∧ L' = (d, .slice A' (len + m) cap') :: L ∧ F' = F ++ [b] := fun Q K hK a w hf hm => by
  obtain ⟨hu, inf, hinf, hs, hby⟩ := slc_parts ha
  obtain ⟨inf', z, hinf', hz', hzc⟩ := zer_parts hz
  rw [hinf] at hinf'
  cases hinf'
  subst hfull
  have run : ∀ v w', (Builtin.append_ #[t, t] o.type #[.slice A cap cap, .slice B m c]).run P w = .ok v w' → (execOp a.eval o).run P w = .ok (.value v) w' := fun v w' h => by
    simp only [execOp, ho, resolve, invoke, builtin, hf.eval hx, hf.eval hy, Sem.run_bind, Sem.run_pure, Result.andThen_ok, List.map_toArray, List.map_cons, List.map_nil, h]
  by_cases hm0 : m = 0
  · subst hm0
    obtain rfl : ys = [] := List.eq_nil_of_length_eq_zero hnl
    have hfirst : (Builtin.firstCells 1 0 (.slice B 0 c)).run P w = .ok #[] w := by
      cases B with
      | none => simp [Builtin.firstCells]
      | some b => simp [Builtin.firstCells, loadCells, loadCellsFrom]
    have hb' : (Builtin.append_ #[t, t] o.type #[.slice A cap cap, .slice B 0 c]).run P w = .ok (.slice A cap cap) w := by
      cases A with
      | none => simp [Builtin.append_, run_underlying hu, sizeOf, typeInfo, hinf, hs, Builtin.lenOf, hfirst]
      | some b => simp [Builtin.append_, run_underlying hu, sizeOf, typeInfo, hinf, hs, Builtin.lenOf, hfirst, storeCells]
    unfold Oper.wp
    rw [run _ _ hb', Oper.upon_value, hd]
    refine hK _ _ ⟨A, cap, ⟨none, [], e, (0, 0)⟩, Nat.le_refl _, fun w' hm' => ?_, rfl, rfl⟩ _ _ (hf.put _ hn) (hm.ghost e _)
    rw [List.append_nil]
    exact hRx w' (hm'.sub (List.sublist_append_left _ _))
  · have hmpos : 0 < m := by omega
    have hnl' : (ints kk ys).length = m := by simp [hnl]
    have hRw := hRy w hm
    obtain ⟨b, rfl, _⟩ := hRw 0 (ints kk ys)[0] (by simp [hnl, hmpos])
    have hnews : ∀ j v, (ints kk ys)[j]? = some v → w.cell? (b.add j) = some v := fun j v hj => by
      obtain ⟨b', hb', hc⟩ := hRw j v hj
      cases hb'
      exact hc
    have hge := grownCap_ge w (cap + m) cap e
    have hgrow : (Builtin.append_ #[t, t] o.type #[.slice A cap cap, .slice (some b) m c]).run P w = .ok (.slice (some ⟨w.heap.size, 0, none⟩) (cap + m) (grownCap w (cap + m) cap e))
        (w.drew.alloc (.cells ((ints kk xs).toArray ++ (ints kk ys).toArray ++ Builtin.zeroCells z.cells (grownCap w (cap + m) cap e - (cap + m))) e)) := by
      have hfits : Builtin.nextslicecap (cap + m) cap * inf.bytes ≤ 281474976710656 := by rw [hby]; exact growslice_fits (by omega) hbytes
      cases A with
      | some ad =>
        refine run_append_grow (P := P) w t o.type e inf z hu hinf hz' ad cap cap (ints kk xs) (by rw [hs]; simp [hol]) ?_ b m c (ints kk ys) (by rw [hs]; simp [hnl]) hnews (by omega) (by omega) hfits
        intro j v hj
        obtain ⟨ad', h', hc'⟩ := hRx w hm j v hj
        cases h'
        exact hc'
      | none =>
        have hx0 : xs = [] := by
          cases xs with
          | nil => rfl
          | cons x xs =>
            obtain ⟨ad', h', _⟩ := hRx w hm 0 (.int kk x) (by simp [ints])
            cases h'
        subst hx0
        obtain rfl : 0 = cap := hol
        have hr := run_append_nil (P := P) w t o.type e inf z hu hinf hz' b m c (ints kk ys) (by rw [hs]; simp [hnl]) hnews hmpos (by omega) (by rw [hby]; have := hbytes; rw [Nat.zero_add] at this; omega)
        simpa [ints] using hr
    unfold Oper.wp
    rw [run _ _ hgrow, Oper.upon_value, hd]
    have hcells : (ints kk xs).toArray ++ (ints kk ys).toArray ++ Builtin.zeroCells z.cells (grownCap w (cap + m) cap e - (cap + m)) = (ints kk (xs ++ ys) ++ (Builtin.zeroCells z.cells (grownCap w (cap + m) cap e - (cap + m))).toList).toArray := by
      rw [← Array.toList_inj]; simp [ints_append]
    rw [hcells]
    have hnew := hm.drew.new (ints kk (xs ++ ys) ++ (Builtin.zeroCells z.cells (grownCap w (cap + m) cap e - (cap + m))).toList) e
    refine hK _ _ ⟨_, _, _, hge, fun w' hm' => ?_, rfl, rfl⟩ _ _ (hf.put _ hn) hnew
    exact R_pre F.length (List.getElem?_concat_length) w' hm'
/-- The order of the blocks that are known does not matter. -/
theorem Mem.perm {F' : List Blk} {w : World} (hm : Mem w0 X F w) (h : F.Perm F') : Mem w0 X F' w :=
  ⟨hm.kept, fun b hb => hm.has b (h.mem_iff.2 hb), fun b hb => hm.mine b (h.mem_iff.2 hb), hm.apart.perm h fun hab k hb ha => hab k ha hb⟩
theorem last_perm : ∀ (F : List Blk) (i : Nat) (b : Blk), F[i]? = some b → F.Perm (F.eraseIdx i ++ [b])
  | [], i, b, h => by simp at h
  | a :: F, 0, b, h => by
    obtain rfl : a = b := by simpa using h
    exact (List.perm_append_singleton a F).symm
  | a :: F, i + 1, b, h => (last_perm F i b (by simpa using h)).cons a
/-- The i-th block is told last. -/
theorem W.last {c : Code} (i : Nat) {b : Blk} (hi : F[i]? = some b) (h : W P dF n w0 X Q c L (F.eraseIdx i ++ [b])) : W P dF n w0 X Q c L F := fun a w hf hm => h a w hf (hm.perm (last_perm F i b hi))
/-- Bytes whose text may be shared: they are read alone from then on. -/
theorem e_mark {t e ty : TypeId} {x : Operand} {k len cap : Nat} {cells : List Value} {d : Nat} {fz : Nat × Nat} (hu : P.underlying t = some (.slice e)) (he : P.underlying e = some (.int .u8)) (ho : o.op = .convert t t x) (hx : ev L x = some (.slice (some ⟨k, 0, none⟩) len cap)) (i : Nat)
    (hi : F[i]? = some ⟨some k, cells, ty, fz⟩) (hd : o.dst = some d) (hn : Nat.blt d n = true) :
    Eff P dF n w0 X o L F fun L' F' => ∃ fz', L' = (d, .slice (some ⟨k, 0, none⟩) len cap) :: L ∧ F' = F.set i ⟨some k, cells, ty, fz'⟩ := fun Q K hK a w hf hm => by
  have hb := hm.at i hi
  unfold Blk.here at hb
  simp only at hb
  have hsh : w.shape? k = some (ty, cells.length) := by simp [World.shape?, hb]
  have hr : (execOp a.eval o).run P w = .ok (.value (.slice (some ⟨k, 0, none⟩) len cap)) (w.freeze ⟨k, cells.length, none⟩ 1) := by
    simp only [execOp, ho, hf.eval hx, convert]
    simp [run_underlying hu, run_underlying he, markStringish, hsh]
  unfold Oper.wp
  rw [hr, Oper.upon_value, hd]
  have hfr : ∃ fz', (w.freeze ⟨k, cells.length, none⟩ 1).heap[k]? = some (.cells cells.toArray ty fz') := by
    simp only [World.freeze, Nat.one_ne_zero, if_false, Array.getElem?_modify, hb]
    exact ⟨_, rfl⟩
  obtain ⟨fz', hfz⟩ := hfr
  refine hK _ _ ⟨fz', rfl, rfl⟩ _ _ (hf.put _ hn) ?_
  exact hm.write' (cells' := cells) i hi hfz (fun j _ hj => by simp only [World.freeze, Nat.one_ne_zero, if_false]; rw [Array.getElem?_modify]; rw [if_neg (fun h => hj h.symm)]) (by simp [World.freeze]) (by simp [World.freeze]) (by simp [World.freeze]) (by simp [World.freeze])
end
end Go.X
