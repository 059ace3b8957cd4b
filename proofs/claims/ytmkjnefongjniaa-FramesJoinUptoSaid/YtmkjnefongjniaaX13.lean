/-
  The rules by which the walks of this claim go. Thirteenth part: what is built of parts, and a part that is stored.
-/
import Derived.Test.YtmkjnefongjniaaX12
import Derived.Great.FillDense
namespace Go.X
open Go
variable {dF : List Deferred}
section
variable {P : Program} {n : Nat} {w0 : World} {X : List Nat} {Q : Exit → Act → World → Prop} {L : Slots} {F : List Blk} {o : Oper}
theorem foldl_put (off : Nat) (cs cells : List Value) (h : off + cs.length ≤ cells.length) :
    cs.toArray.zipIdx.foldl (fun c (x : Value × Nat) => c.setIfInBounds (off + x.2) x.1) cells.toArray = (cells.take off ++ cs ++ cells.drop (off + cs.length)).toArray := by
  rw [← Array.foldl_toList, Array.toList_zipIdx]
  obtain ⟨h1, h2⟩ := Great.foldl_set off cs 0 cells.toArray
  refine Array.ext_getElem? fun k => ?_
  have h3 := h2 k
  simp only [Nat.add_zero] at h3
  rw [show (cs.toArray.toList.zipIdx) = cs.zipIdx from rfl, h3]
  simp only [List.size_toArray, List.getElem?_toArray]
  by_cases hk : off ≤ k ∧ k < off + cs.length ∧ k < cells.length
  · rw [if_pos hk, List.append_assoc, List.getElem?_append_right (by simp; omega), List.getElem?_append_left (by simp; omega)]
    simp [Nat.min_eq_left (show off ≤ cells.length by omega)]
  · rw [if_neg hk]
    by_cases hlt : k < off
    · rw [List.append_assoc, List.getElem?_append_left (by simp; omega), List.getElem?_take, if_pos hlt]
    · rw [List.getElem?_append_right (by simp; omega), List.getElem?_drop]
      congr 1
      simp [Nat.min_eq_left (show off ≤ cells.length by omega)]
      omega
/-- From which cell on each part lies, and how many it has. -/
def bplaces (P : Program) (t : TypeId) : Option (List (Nat × Nat)) :=
  match P.underlying t with
  | some (.struct fs) => fs.toList.mapM fun f => (P.info? f.type).map fun i => (f.offset, i.size)
  | some (.array m e) => (P.info? e).map fun i => (List.range m).map fun q => (q * i.size, i.size)
  | _ => none
def Puts (pl : List (Nat × Nat)) : List Value → List (Nat × Value) → List Value → Prop
  | zs, [], r => zs = r
  | zs, (i, v) :: rest, r => ∃ off m cs zs', pl[i]? = some (off, m) ∧ v.cells = List.toArray cs ∧ cs.length = m ∧ off + m ≤ zs.length ∧ zs.take off ++ cs ++ zs.drop (off + m) = zs' ∧ Puts pl zs' rest r
theorem fill_puts {pl : List (Nat × Nat)} {place : Nat → Option (Nat × Nat)} (hpl : ∀ i x, pl[i]? = some x → place i = some x) : ∀ (vs : List (Nat × Value)) (zs r : List Value), Puts pl zs vs r → Instr.fill place zs.toArray vs = some r.toArray
  | [], zs, r, h => by
    obtain rfl : zs = r := h
    rfl
  | (i, v) :: rest, zs, r, h => by
    obtain ⟨off, m, cs, zs', hp, hv, hm, hfit, hz, hr⟩ := h
    subst hm
    have hl := foldl_put off cs zs hfit
    unfold Instr.fill
    rw [hpl i _ hp]
    simp only [hv, List.size_toArray]
    rw [if_neg (by simp; omega)]
    have := fill_puts hpl rest zs' r hr
    rw [← hz, ← hl] at this
    exact this
theorem mapM_places {P : Program} {fs : Array Field} {pl : List (Nat × Nat)} (h : (fs.toList.mapM fun f => (P.info? f.type).map fun i => (f.offset, i.size)) = some pl) (w : World) :
    (fs.mapM fun f => do pure (f.offset, ← sizeOf f.type) : Sem (Array (Nat × Nat))).run P w = .ok pl.toArray w := by
  rw [Array.mapM_eq_mapM_toList]
  have go : ∀ (l : List Field) (pl : List (Nat × Nat)), (l.mapM fun f => (P.info? f.type).map fun i => (f.offset, i.size)) = some pl → (l.mapM fun f => do pure (f.offset, ← sizeOf f.type) : Sem (List (Nat × Nat))).run P w = .ok pl w := by
    intro l
    induction l with
    | nil =>
      intro pl h
      simp at h
      subst h
      simp
    | cons f l ih =>
      intro pl h
      rw [List.mapM_cons] at h
      cases hi : P.info? f.type with
      | none => simp [hi] at h
      | some inf =>
        cases hr : (l.mapM fun f => (P.info? f.type).map fun i => (f.offset, i.size)) with
        | none => simp [hi, hr] at h
        | some r =>
          simp [hi, hr] at h
          subst h
          have h0 : (do pure (f.offset, ← sizeOf f.type) : Sem (Nat × Nat)).run P w = .ok (f.offset, inf.size) w := by simp [sizeOf, typeInfo, hi]
          rw [List.mapM_cons, Sem.run_bind, h0, Result.andThen_ok, Sem.run_bind, ih r hr, Result.andThen_ok, Sem.run_pure]
  have := go fs.toList pl h
  simp only [map_eq_pure_bind, Sem.run_bind, Result.andThen_ok, Sem.run_pure] at this ⊢
  rw [this]
  rfl
/-- What is built of parts. -/
theorem q_buildP {S : World → Prop} {t : TypeId} {pl : List (Nat × Nat)} {zs : List Value} {ps : List (Nat × Operand)} {vs : List (Nat × Value)} {cells : List Value} (hb : bplaces P t = some pl) (hz : zer P t = some zs) (ho : o.op = .build t ps.toArray) (hp : evp L ps = some vs) (hput : Puts pl zs vs cells) :
    Qt P dF n L S o (.agg cells.toArray) := by
  refine q_build ho hp fun w => ?_
  obtain ⟨i, z, hi', hz', hzc⟩ := zer_parts hz
  have hzs : z.cells = zs.toArray := by rw [← Array.toList_inj, hzc]
  unfold bplaces at hb
  split at hb
  · rename_i fs hu
    have hf := fill_puts (place := fun i => pl.toArray[i]?) (fun i x h => by simpa using h) vs zs cells hput
    simp only [Instr.build, zeroValue, typeInfo, Sem.run_bind, run_program, Result.andThen_ok, hi', hz', Sem.run_pure, run_underlying hu, mapM_places hb, hzs, hf]
  · rename_i m e hu
    obtain ⟨inf, hinf, rfl⟩ := Option.map_eq_some_iff.1 hb
    have hf := fill_puts (place := fun i => some (i * inf.size, inf.size)) (fun i x h => by
      simp only [List.getElem?_map, Option.map_eq_some_iff] at h
      obtain ⟨q, hq, rfl⟩ := h
      have := List.getElem?_eq_some_iff.1 hq
      obtain ⟨h1, h2⟩ := this
      simp at h2
      subst h2
      rfl) vs zs cells hput
    simp only [Instr.build, zeroValue, typeInfo, Sem.run_bind, run_program, Result.andThen_ok, hi', hz', Sem.run_pure, run_underlying hu, sizeOf, hinf, hzs, hf]
  · cases hb
/-! A part that is stored. -/
theorem put_first {a r cs : List Value} (h : a.length = cs.length) : (a ++ r).take 0 ++ cs ++ (a ++ r).drop (0 + cs.length) = cs ++ r := by
  rw [Nat.zero_add, ← h]; simp
theorem put_last {a cs : List Value} (h : a.length = cs.length) : a.take 0 ++ cs ++ a.drop (0 + cs.length) = cs := by
  rw [Nat.zero_add, ← h]; simp
theorem put_skip {a r r' cs : List Value} {off : Nat} (o : Nat) (h : a.length = o) (hle : Nat.ble o off = true) (hp : r.take (off - o) ++ cs ++ r.drop (off - o + cs.length) = r') : (a ++ r).take off ++ cs ++ (a ++ r).drop (off + cs.length) = a ++ r' := by
  have hle := Nat.le_of_ble_eq_true hle
  subst h
  rw [← hp, List.take_append, List.drop_append, List.take_of_length_le hle, List.drop_of_length_le (by omega), show off + cs.length - a.length = off - a.length + cs.length by omega]
  simp
theorem put_skip1 {v : Value} {r r' cs : List Value} {off : Nat} (hp : r.take off ++ cs ++ r.drop (off + cs.length) = r') : (v :: r).take (off + 1) ++ cs ++ (v :: r).drop (off + 1 + cs.length) = v :: r' := by
  rw [← hp, show off + 1 + cs.length = off + cs.length + 1 by omega]; rfl
theorem set_skip1 {u v : Value} {r r' : List Value} {off : Nat} (hp : r.set off v = r') : (u :: r).set (off + 1) v = u :: r' := by rw [← hp]; rfl
theorem set_skip {a r r' : List Value} {v : Value} {off : Nat} (o : Nat) (h : a.length = o) (hle : Nat.ble o off = true) (hp : r.set (off - o) v = r') : (a ++ r).set off v = a ++ r' := by
  have hle := Nat.le_of_ble_eq_true hle
  subst h
  rw [← hp, List.set_append_right _ _ hle]
theorem e_storeP {t : TypeId} {x y : Operand} {k off : Nat} {cs cells' : List Value} (hw : wide P t = some cs.length) (i : Nat) {cells : List Value} {ty : TypeId} (ho : o.op = .store t x y) (hx : ev L x = some (.pointer (some ⟨k, off, none⟩)))
    (hy : ev L y = some (.agg cs.toArray)) (hi : F[i]? = some ⟨some k, cells, ty, (0, 0)⟩) (hlt : off + cs.length ≤ cells.length) (h1 : ∀ v ∈ cs, v.oneCell' = true) (hp : cells.take off ++ cs ++ cells.drop (off + cs.length) = cells') (hd : o.dst = none) :
    Eff P dF n w0 X o L F fun L' F' => L' = L ∧ F' = F.set i ⟨some k, cells', ty, (0, 0)⟩ := by
  subst hp
  exact e_storeW hw i ho hx hy hi hlt h1 hd
theorem e_storeP1 {t : TypeId} {x y : Operand} {k off : Nat} {v : Value} {cells' : List Value} (hs : scalar P t = true) (i : Nat) {cells : List Value} {ty : TypeId} (ho : o.op = .store t x y) (hx : ev L x = some (.pointer (some ⟨k, off, none⟩)))
    (hy : ev L y = some v) (hi : F[i]? = some ⟨some k, cells, ty, (0, 0)⟩) (hlt : off < cells.length) (h1 : v.oneCell' = true) (hp : cells.set off v = cells') (hd : o.dst = none) :
    Eff P dF n w0 X o L F fun L' F' => L' = L ∧ F' = F.set i ⟨some k, cells', ty, (0, 0)⟩ := by
  subst hp
  exact e_store1 hs i ho hx hy hi hlt h1 hd
end
end Go.X
