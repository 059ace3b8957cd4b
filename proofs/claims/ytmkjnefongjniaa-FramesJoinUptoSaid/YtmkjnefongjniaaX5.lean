/-
  The rules by which the walks of this claim go. Fifth part: a region whose order is open. What reads may be taken first, in the order of the text; what acts comes up when it is the only one that may.
-/
import Derived.Test.YtmkjnefongjniaaX4
import Derived.Deep.RegionHeld3
namespace Go.X
open Go
variable {dF : List Deferred}

section
variable {P : Program} {n : Nat} {w0 : World} {X : List Nat} {Q : Exit → Act → World → Prop} {ops : Array Oper} {L : Slots} {F : List Blk}

/-- Whatever order is picked; S holds behind each operation of a number below tl. -/
def Any (P : Program) (ops : Array Oper) (Q : Exit → Act → World → Prop) (S : World → Prop) (tl : Nat) : Nat → Array Bool → Act → World → Prop
  | 0, l, a, w => Region.ready .any ops l = [] ∧ Q .normal a w
  | f + 1, l, a, w => (Region.ready .any ops l = [] → Q .normal a w) ∧
    ∀ i ∈ Region.ready .any ops l, wpOp P ops Q i (fun a' w' => (i < tl → S w') ∧ Any P ops Q S tl f (l.setIfInBounds i true) a' w') a w

theorem Any.sound {S : World → Prop} {tl : Nat} : ∀ (f : Nat) (l : Array Bool) (a : Act) (w : World), Any P ops Q S tl f l a w → wpAny P .any ops Q f l a w
  | 0, _, _, _, h => h
  | f + 1, _, _, _, h => ⟨h.1, fun i hi => wpOp_mono (fun a' w' h' => Any.sound f _ a' w' h'.2) (h.2 i hi)⟩

/-- Every operation from number tl on waits for every one below it. -/
def sinks (ops : Array Oper) (tl : Nat) : Bool :=
  (List.range ops.size).all fun j => Nat.blt j tl || match ops[j]? with
    | some o => (List.range tl).all fun i => o.after.any fun e => Region.binds .any e && e.on == i
    | none => true

theorem sinks_spec {tl j : Nat} (h : sinks ops tl = true) {o : Oper} (ho : ops[j]? = some o) (hj : tl ≤ j) {i : Nat} (hi : i < tl) : ∃ e ∈ o.after, Region.binds .any e = true ∧ e.on = i := by
  have hlt : j < ops.size := (Array.getElem?_eq_some_iff.1 ho).1
  have h1 := List.all_eq_true.1 h j (List.mem_range.2 hlt)
  rw [ho] at h1
  have : Nat.blt j tl = false := by
    cases hb : Nat.blt j tl with
    | false => rfl
    | true => exact absurd (Nat.le_of_ble_eq_true hb) (by omega)
  rw [this, Bool.false_or] at h1
  have h2 := List.all_eq_true.1 h1 i (List.mem_range.2 hi)
  obtain ⟨e, he, hb⟩ := Array.any_eq_true'.1 h2
  simp only [Bool.and_eq_true, beq_iff_eq] at hb
  exact ⟨e, he, hb.1, hb.2⟩

theorem not_ready {l : Array Bool} {i j : Nat} {o : Oper} (ho : ops[j]? = some o) (hw : ∃ e ∈ o.after, Region.binds .any e = true ∧ e.on = i) (hi : l.getD i true = false) : j ∉ Region.ready .any ops l := fun hj => by
  obtain ⟨_, o', ho', hall⟩ := mem_ready.1 hj
  rw [ho] at ho'
  cases ho'
  obtain ⟨e, he, hb, rfl⟩ := hw
  have h1 := hall e he hb
  rcases Nat.lt_or_ge e.on l.size with h' | h'
  · simp [h'] at hi h1
    rw [hi] at h1
    cases h1
  · simp [Array.getElem?_eq_none h'] at h1

theorem Any.first {S : World → Prop} {tl i : Nat} {oi : Oper} {v : Value} (hi : ops[i]? = some oi) (hsel : ∀ (j : Nat) (o : Oper) cs b, ops[j]? = some o → o.op ≠ .select cs b) (hit : i < tl) (hsk : sinks ops tl = true)
    (hQ : ∀ c a w, Q (.panic c) (a.put oi.dst v) w → Q (.panic c) a w) :
    ∀ (f : Nat) (l : Array Bool) (a : Act) (w : World),
      (∀ j oj, ops[j]? = some oj → j ≠ i → l.getD j true = false → (∀ e ∈ oj.after, Region.binds .any e = true → e.on ≠ i) → oi.apart ops oj = true) →
      i ∈ Region.ready .any ops l → YieldsIf P ops S oi v a → S w →
      Any P ops Q S tl f (l.setIfInBounds i true) (a.put oi.dst v) w → Any P ops Q S tl (f + 1) l a w := by
  intro f
  induction f with
  | zero =>
    intro l a w _ hr hy hS H
    refine ⟨fun h => (by rw [h] at hr; cases hr), fun j hj => ?_⟩
    by_cases hji : j = i
    · subst hji; exact hy.wpOp hi hS ⟨fun _ => hS, H⟩
    · have h1 := ready_mono hj hji
      rw [H.1] at h1
      cases h1
  | succ f ih =>
    intro l a w hfree hr hy hS H
    refine ⟨fun h => (by rw [h] at hr; cases hr), fun j hj => ?_⟩
    by_cases hji : j = i
    · subst hji; exact hy.wpOp hi hS ⟨fun _ => hS, H⟩
    · have h1 := H.2 j (ready_mono hj hji)
      obtain ⟨hjun, oj, hoj, hall⟩ := mem_ready.1 hj
      have hiun := (mem_ready.1 hr).1
      have hjt : j < tl := Nat.lt_of_not_le fun hle => not_ready hoj (sinks_spec hsk hoj hle hit) hiun hj
      have hnot : ∀ e ∈ oj.after, Region.binds .any e = true → e.on ≠ i := fun e he hb heq => not_ready hoj ⟨e, he, hb, heq⟩ hiun hj
      have h2 := wpOp_putIf hoj (hfree j oj hoj hji hjun hnot) (fun cs b => hsel i oi cs b hi) (fun cs b => hsel j oj cs b hoj) hQ hy h1
      have hfree' : ∀ k ok, ops[k]? = some ok → k ≠ i → (l.setIfInBounds j true).getD k true = false → (∀ e ∈ ok.after, Region.binds .any e = true → e.on ≠ i) → oi.apart ops ok = true := fun k ok hk hki hun hno => by
        refine hfree k ok hk hki ?_ hno
        by_cases hjk : j = k
        · subst hjk; exact hjun
        · rw [getD_set_ne true hjk] at hun; exact hun
      refine wpOp_mono (fun a' w' h3 => ⟨h3.2.1, ih (l.setIfInBounds j true) a' w' hfree' (ready_mono hr (Ne.symm hji)) h3.1 (h3.2.1 hjt) ?_⟩) h2
      rw [Array.setIfInBounds_comm _ _ hji]
      exact h3.2.2

/-- May number i be taken first? -/
def takes (ops : Array Oper) (tl : Nat) (l : Array Bool) (i : Nat) : Bool :=
  Region.noSelect ops && sinks ops tl && Nat.blt i tl && Region.free .any ops l i && (Region.ready .any ops l).contains i

/-- A region whose order is open: from the slots L and the blocks F on; l: what has come up. -/
def D (P : Program) (dF : List Deferred) (n : Nat) (w0 : World) (X : List Nat) (Q : Exit → Act → World → Prop) (ops : Array Oper) (S : World → Prop) (tl f : Nat) (l : Array Bool) (L : Slots) (F : List Blk) : Prop :=
  ∀ a w, Fr dF n L a → Mem w0 X F w → Any P ops (NoPanic Q) S tl f l a w

theorem W.draw {id : Nat} {ops : List Oper} (tl : Nat) (hm : P.follows .mixedOrders = true)
    (h : D P dF n w0 X Q ops.toArray (Mem w0 X F) tl ops.length (List.replicate ops.length false).toArray L F) : W P dF n w0 X Q (.region id ops.toArray true) L F := fun a w hf hmem => by
  refine wp_region_noPanic (wp_region_any hm ?_)
  have e : Array.replicate ops.toArray.size false = (List.replicate ops.length false).toArray := by rw [← Array.toList_inj]; simp
  rw [e]
  exact Any.sound _ _ _ _ (h a w.drew hf hmem.drew)

section
variable {S : World → Prop} {tl f : Nat} {l : Array Bool} {o : Oper}
theorem D.take (i : Nat) {d : Nat} {v : Value} (hi : ops[i]? = some o) (ht : takes ops tl l i = true) (hS : ∀ w, Mem w0 X F w → S w) (hq : Qt P dF n L S o v) (hw : Wt dF n ops L o) (hd : o.dst = some d) (hn : Nat.blt d n = true)
    (h : D P dF n w0 X Q ops S tl f (l.setIfInBounds i true) ((d, v) :: L) F) : D P dF n w0 X Q ops S tl (f + 1) l L F := fun a w hf hm => by
  simp only [takes, Bool.and_eq_true] at ht
  obtain ⟨⟨⟨⟨h1, h2⟩, h3⟩, h4⟩, h5⟩ := ht
  refine Any.first hi (Region.noSelect_spec h1) (Nat.le_of_ble_eq_true h3) h2 (fun c a w hp => hp.elim) f l a w (Region.free_spec hi h4) (by simpa using h5) (.inl ⟨hw a hf, fun w' hs => hq a w' hf hs⟩) (hS w hm) ?_
  rw [hd]
  exact h _ _ (hf.put v hn) hm
theorem D.pass (i : Nat) {d : Nat} (hi : ops[i]? = some o) (ht : takes ops tl l i = true) (hS : ∀ w, Mem w0 X F w → S w) (hw : Wn dF n ops L o) (hd : o.dst = some d) (hn : Nat.blt d n = true)
    (h : D P dF n w0 X Q ops S tl f (l.setIfInBounds i true) ((d, undef) :: L) F) : D P dF n w0 X Q ops S tl (f + 1) l L F := fun a w hf hm => by
  simp only [takes, Bool.and_eq_true] at ht
  obtain ⟨⟨⟨⟨h1, h2⟩, h3⟩, h4⟩, h5⟩ := ht
  refine Any.first hi (Region.noSelect_spec h1) (Nat.le_of_ble_eq_true h3) h2 (fun c a w hp => hp.elim) f l a w (Region.free_spec hi h4) (by simpa using h5) (.inr ⟨hw a hf, rfl⟩) (hS w hm) ?_
  rw [hd]
  exact h _ _ (hf.put undef hn) hm

/-- Number i comes up: it acts. -/
def Up (P : Program) (dF : List Deferred) (n : Nat) (w0 : World) (X : List Nat) (Q : Exit → Act → World → Prop) (ops : Array Oper) (S : World → Prop) (tl f : Nat) (l : Array Bool) (L : Slots) (F : List Blk) (i : Nat) : Prop :=
  ∀ a w, Fr dF n L a → Mem w0 X F w → wpOp P ops (NoPanic Q) i (fun a' w' => (i < tl → S w') ∧ Any P ops (NoPanic Q) S tl f (l.setIfInBounds i true) a' w') a w
theorem Up.eff {i : Nat} {G : Slots → List Blk → Prop} (hi : ops[i]? = some o) (he : Eff P dF n w0 X o L F G) (hw : Wt dF n ops L o) (h : ∀ L' F', G L' F' → (i < tl → ∀ w, Mem w0 X F' w → S w) ∧ D P dF n w0 X Q ops S tl f (l.setIfInBounds i true) L' F') :
    Up P dF n w0 X Q ops S tl f l L F i := fun a w hf hm => by
  unfold wpOp
  simp only [hi, hw a hf, if_true]
  exact .inl (he (NoPanic Q) _ (fun L' F' hg a' w' hf' hm' => ⟨fun hlt => (h L' F' hg).1 hlt w' hm', (h L' F' hg).2 a' w' hf' hm'⟩) a w hf hm)
/-- The same of an operation that reads, or hands on, and comes up in its turn. -/
theorem Up.q {i d : Nat} {v : Value} (hi : ops[i]? = some o) (hq : Qt P dF n L (Mem w0 X F) o v) (hw : Wt dF n ops L o) (hd : o.dst = some d) (hn : Nat.blt d n = true) (hS : i < tl → ∀ w, Mem w0 X F w → S w)
    (h : D P dF n w0 X Q ops S tl f (l.setIfInBounds i true) ((d, v) :: L) F) : Up P dF n w0 X Q ops S tl f l L F i := fun a w hf hm => by
  unfold wpOp
  simp only [hi, hw a hf, if_true]
  refine .inl ?_
  unfold Oper.wp
  rw [hq a w hf hm, Oper.upon_value, hd]
  exact ⟨fun hlt => hS hlt w hm, h _ _ (hf.put v hn) hm⟩
theorem Up.no {i d : Nat} (hi : ops[i]? = some o) (hw : Wn dF n ops L o) (hd : o.dst = some d) (hn : Nat.blt d n = true) (hS : i < tl → ∀ w, Mem w0 X F w → S w)
    (h : D P dF n w0 X Q ops S tl f (l.setIfInBounds i true) ((d, undef) :: L) F) : Up P dF n w0 X Q ops S tl f l L F i := fun a w hf hm => by
  unfold wpOp
  simp only [hi, hw a hf, Bool.false_eq_true, if_false]
  rw [hd]
  exact ⟨fun hlt => hS hlt w hm, h _ _ (hf.put undef hn) hm⟩
/-- One may come up, and no other. -/
theorem D.one (i : Nat) (hr : Region.ready .any ops l = [i]) (h : Up P dF n w0 X Q ops S tl f l L F i) : D P dF n w0 X Q ops S tl (f + 1) l L F := fun a w hf hm =>
  ⟨fun h0 => (by rw [hr] at h0; cases h0), fun j hj => by
    rw [hr] at hj
    have : j = i := by simpa using hj
    subst this
    exact h a w hf hm⟩
theorem D.two (i j : Nat) (hr : Region.ready .any ops l = [i, j]) (h : Up P dF n w0 X Q ops S tl f l L F i) (g : Up P dF n w0 X Q ops S tl f l L F j) : D P dF n w0 X Q ops S tl (f + 1) l L F := fun a w hf hm =>
  ⟨fun h0 => (by rw [hr] at h0; cases h0), fun k hk => by
    rw [hr] at hk
    have : k = i ∨ k = j := by simpa using hk
    rcases this with rfl | rfl
    · exact h a w hf hm
    · exact g a w hf hm⟩
theorem D.done (hr : Region.ready .any ops l = []) (h : Ex dF n w0 X .normal Q L F) : D P dF n w0 X Q ops S tl f l L F := fun a w hf hm => by
  cases f with
  | zero => exact ⟨hr, h a w hf hm⟩
  | succ f => exact ⟨fun _ => h a w hf hm, by rw [hr]; simp⟩
theorem D.less {L' : Slots} (hL : Sub L' L) (h : D P dF n w0 X Q ops S tl f l L' F) : D P dF n w0 X Q ops S tl f l L F := fun a w hf hm => h a w (hf.sub hL) hm
theorem D.both {t : Nat} (b : Bool) (hl : look L t = some (.bool b)) (ht : b = true → D P dF n w0 X Q ops S tl f l ((t, .bool true) :: L) F) (he : b = false → D P dF n w0 X Q ops S tl f l ((t, .bool false) :: L) F) : D P dF n w0 X Q ops S tl f l L F := fun a w hf hm => by
  have hs : ∀ c, b = c → Fr dF n ((t, .bool c) :: L) a := fun c hc => ⟨hf.size, hf.defers, fun s v hv => by
    subst hc
    simp only [look] at hv
    by_cases hts : t = s
    · subst hts; simp at hv; subst hv; exact hf.holds t _ hl
    · rw [nbeq hts] at hv; exact hf.holds s v hv⟩
  cases b with
  | true => exact ht rfl a w (hs true rfl) hm
  | false => exact he rfl a w (hs false rfl) hm
theorem D.ghost (e : TypeId) (hS : ∀ w, Mem w0 X F w → Mem w0 X (F ++ [⟨none, [], e, (0, 0)⟩]) w) (h : D P dF n w0 X Q ops S tl f l L (F ++ [⟨none, [], e, (0, 0)⟩])) : D P dF n w0 X Q ops S tl f l L F := fun a w hf hm => h a w hf (hS w hm)
end
/-- What held at the region's head holds of fewer blocks. -/
theorem S_sub {G : List Blk} (h : F.Sublist G) : ∀ w, Mem w0 X G w → Mem w0 X F w := fun _ hm => hm.sub h
end
end Go.X
