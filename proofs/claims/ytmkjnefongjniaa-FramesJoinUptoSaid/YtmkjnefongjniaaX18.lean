/-
  Calls that may panic; lists of blocks whose end is open; a function that defers a call and ends with it.
-/
import Derived.Test.YtmkjnefongjniaaX17
import Derived.Defers
import Derived.Recover
import Derived.WideLaws
namespace Go.X
open Go
variable {dF : List Deferred}
/-- The panics under way: one. -/
def entry (x : Value) : List PanicEntry := [{ v := x, recovered := false }]
/-- It comes back, or it panics with one value. -/
def EndP (w : World) (X : List Nat) (post die : Value → List Blk → Prop) : Ending → World → Prop := fun e w' =>
  (∃ v F, e = .returned v ∧ Mem w X F w' ∧ post v F) ∨ (∃ x F, e = .panicked (entry x) ∧ Mem w X F w' ∧ die x F)
/-- What a call does that may panic. -/
def EndsX (P : Program) (f : FuncId) (args : Array Value) (w : World) (X : List Nat) (post die : Value → List Blk → Prop) : Prop := Calls P f args w (EndP w X post die)
theorem EndsX.mono {P : Program} {f : FuncId} {args : Array Value} {w : World} {X : List Nat} {post post' die die' : Value → List Blk → Prop} (h : EndsX P f args w X post die)
    (hp : ∀ v F, post v F → post' v F) (hd : ∀ v F, die v F → die' v F) : EndsX P f args w X post' die' :=
  Calls.mono h fun _ _ h => h.elim (fun ⟨v, F, he, hm, hq⟩ => .inl ⟨v, F, he, hm, hp v F hq⟩) fun ⟨v, F, he, hm, hq⟩ => .inr ⟨v, F, he, hm, hd v F hq⟩
/-- The blocks at the places that are not marked. -/
def drp : List Bool → List Blk → List Blk
  | [], _ => []
  | true :: m, _ :: F => drp m F
  | false :: m, b :: F => b :: drp m F
  | _ :: _, [] => []
theorem drp_sub : ∀ (m : List Bool) (F : List Blk), (drp m F).Sublist F
  | [], F => List.nil_sublist F
  | true :: m, b :: F => (drp_sub m F).cons b
  | false :: m, b :: F => (drp_sub m F).cons_cons b
  | true :: _, [] => List.nil_sublist []
  | false :: _, [] => List.nil_sublist []
theorem pick_drp : ∀ (m : List Bool) (F : List Blk), F.Pairwise (fun b c => ∀ k, b.no = some k → c.no ≠ some k) → ∀ b ∈ pick m F, ∀ c ∈ drp m F, ∀ k, b.no = some k → c.no ≠ some k
  | [], _, _ => fun _ _ _ hc => by cases hc
  | true :: m, x :: F, h => fun b hb c hc k hk => by
    rcases List.mem_cons.1 hb with rfl | hb
    · exact List.rel_of_pairwise_cons h ((drp_sub m F).subset hc) k hk
    · exact pick_drp m F h.of_cons b hb c hc k hk
  | false :: m, x :: F, h => fun b hb c hc k hk => by
    rcases List.mem_cons.1 hc with rfl | hc
    · exact fun hx => List.rel_of_pairwise_cons h ((pick_sub m F).subset hb) k hx hk
    · exact pick_drp m F h.of_cons b hb c hc k hk
  | true :: _, [], _ => fun _ hb => by cases hb
  | false :: _, [], _ => fun _ hb => by cases hb
section
variable {P : Program} {n : Nat} {w0 : World} {X : List Nat} {Q : Exit → Act → World → Prop} {L : Slots} {F : List Blk} {o : Oper} {ops : Array Oper} {rest : List Oper}
theorem Mem.joinM {w w' : World} {X' : List Nat} {G : List Blk} (hm : Mem w0 X F w) (m : List Bool) (hX : ∀ k, k ∈ X' → ∃ b ∈ drp m F, b.no = some k) (g : Mem w X' G w') : Mem w0 X (pick m F ++ G) w' :=
  hm.joinX g (pick_sub m F) (fun k hk => by obtain ⟨b, hb, hn⟩ := hX k hk; exact .inr ⟨b, (drp_sub m F).subset hb, hn⟩) fun b hb k hbk hk => by
    obtain ⟨c, hc, hn⟩ := hX k hk
    exact pick_drp m F hm.apart b hb c hc k hbk hn
/-- What is not told is unknown: the numbers of the blocks that are handed over. -/
theorem hx0 : ∀ k, k ∈ ([] : List Nat) → ∃ b ∈ drp [] F, b.no = some k := fun _ h => by cases h
theorem hx1 {m : List Bool} {b : Blk} {k : Nat} (h : drp m F = [b]) (hb : b.no = some k) : ∀ q, q ∈ [k] → ∃ b ∈ drp m F, b.no = some q := fun q hq => by
  rw [List.mem_singleton] at hq
  subst hq
  exact ⟨b, by rw [h]; exact List.mem_singleton.2 rfl, hb⟩
theorem hxO {m : List Bool} {b : Blk} {no : Option Nat} (h : drp m F = [b]) (hb : b.no = no) : ∀ q, q ∈ no.toList → ∃ b ∈ drp m F, b.no = some q := fun q hq => by
  refine ⟨b, by rw [h]; exact List.mem_singleton.2 rfl, ?_⟩
  rw [hb]
  exact Option.mem_toList.1 hq
theorem hx2 {m : List Bool} {b c : Blk} {k : Nat} {no : Option Nat} (h : drp m F = [b, c]) (hb : b.no = some k) (hc : c.no = no) : ∀ q, q ∈ k :: no.toList → ∃ b ∈ drp m F, b.no = some q := fun q hq => by
  rcases List.mem_cons.1 hq with rfl | hq
  · exact ⟨b, by rw [h]; exact List.mem_cons_self .., hb⟩
  · exact ⟨c, by rw [h]; exact List.mem_cons_of_mem _ (List.mem_singleton.2 rfl), by rw [hc]; exact Option.mem_toList.1 hq⟩
/-- A call that may write the blocks that are not marked: these are handed over. -/
theorem e_callN {f : FuncId} {xs : List Operand} {ts : Array TypeId} {vs : List Value} {d : Nat} {X' : List Nat} {post : Value → List Blk → Prop} (m : List Bool) (he : Enters P f) (ho : o.op = .call { callee := .value (.func f), args := xs.toArray, argTypes := ts }) (hx : evs L xs = some vs)
    (hX : ∀ k, k ∈ X' → ∃ b ∈ drp m F, b.no = some k) (hc : ∀ w, Mem w0 X F w → Does P f vs.toArray w X' post) (hd : o.dst = some d) (hn : Nat.blt d n = true) :
    Eff P dF n w0 X o L F fun L' F' => ∃ v G, post v G ∧ L' = (d, v) :: L ∧ F' = pick m F ++ G := fun Q K hK a w hf hm => by
  unfold Oper.wp
  rw [run_call he hf ho hx, Oper.upon_enter]
  refine Calls.mono (hc w hm) ?_
  rintro _ w' ⟨v, G, rfl, hm', hp⟩
  simp only [hd]
  exact hK _ _ ⟨v, G, hp, rfl, rfl⟩ _ _ (hf.put _ hn) (hm.joinM m hX hm')
/-- The same of a function that a slot holds. -/
theorem e_callNF {f : FuncId} {x : Operand} {xs : List Operand} {ts : Array TypeId} {vs us : List Value} {d : Nat} {X' : List Nat} {post : Value → List Blk → Prop} (m : List Bool) (he : Enters P f) (ho : o.op = .call { callee := .value x, args := xs.toArray, argTypes := ts })
    (hx : ev L x = some (.func (.func f) #[] us.toArray)) (hxs : evs L xs = some vs) (hX : ∀ k, k ∈ X' → ∃ b ∈ drp m F, b.no = some k) (hc : ∀ w, Mem w0 X F w → Does P f (vs ++ us).toArray w X' post) (hd : o.dst = some d) (hn : Nat.blt d n = true) :
    Eff P dF n w0 X o L F fun L' F' => ∃ v G, post v G ∧ L' = (d, v) :: L ∧ F' = pick m F ++ G := fun Q K hK a w hf hm => by
  have hr : (execOp a.eval o).run P w = .ok (.enter f (vs ++ us).toArray) w := by
    have := evs_map hf hxs
    have e2 : (xs.toArray.map a.eval) = vs.toArray := by rw [← this]; simp
    simp only [execOp, ho, resolve, hf.eval hx, Deferred.ofValue, invoke]
    simp only [Sem.run_bind, Sem.run_pure, Result.andThen_ok, Array.empty_append]
    show ((callFunc f (xs.toArray.map a.eval ++ us.toArray)).run P w) = _
    rw [e2, he]
    simp
  unfold Oper.wp
  rw [hr, Oper.upon_enter]
  refine Calls.mono (hc w hm) ?_
  rintro _ w' ⟨v, G, rfl, hm', hp⟩
  simp only [hd]
  exact hK _ _ ⟨v, G, hp, rfl, rfl⟩ _ _ (hf.put _ hn) (hm.joinM m hX hm')
/-- An operation that may panic: what it comes to. -/
def EffE (P : Program) (dF : List Deferred) (n : Nat) (w0 : World) (X : List Nat) (o : Oper) (L : Slots) (F : List Blk) (G : Slots → List Blk → Prop) (D : Value → List Blk → Prop) : Prop :=
  ∀ (Q : Exit → Act → World → Prop) (K : Act → World → Prop), (∀ L' F', G L' F' → ∀ a w, Fr dF n L' a → Mem w0 X F' w → K a w) → (∀ x F', D x F' → ∀ a w, Fr dF n L a → Mem w0 X F' w → Q (.panic (entry x)) a w) →
    ∀ a w, Fr dF n L a → Mem w0 X F w → o.wp P a w K Q
theorem e_callE {f : FuncId} {xs : List Operand} {ts : Array TypeId} {vs : List Value} {d : Nat} {X' : List Nat} {post die : Value → List Blk → Prop} (m : List Bool) (he : Enters P f) (ho : o.op = .call { callee := .value (.func f), args := xs.toArray, argTypes := ts }) (hx : evs L xs = some vs)
    (hX : ∀ k, k ∈ X' → ∃ b ∈ drp m F, b.no = some k) (hc : ∀ w, Mem w0 X F w → EndsX P f vs.toArray w X' post die) (hd : o.dst = some d) (hn : Nat.blt d n = true) :
    EffE P dF n w0 X o L F (fun L' F' => ∃ v G, post v G ∧ L' = (d, v) :: L ∧ F' = pick m F ++ G) (fun x F' => ∃ G, die x G ∧ F' = pick m F ++ G) := fun Q K hK hQ a w hf hm => by
  unfold Oper.wp
  rw [run_call he hf ho hx, Oper.upon_enter]
  refine Calls.mono (hc w hm) ?_
  rintro _ w' (⟨v, G, rfl, hm', hp⟩ | ⟨x, G, rfl, hm', hp⟩)
  · simp only [hd]
    exact hK _ _ ⟨v, G, hp, rfl, rfl⟩ _ _ (hf.put _ hn) (hm.joinM m hX hm')
  · exact hQ _ _ ⟨G, hp, rfl⟩ _ _ hf (hm.joinM m hX hm')
theorem T.effE {G : Slots → List Blk → Prop} {D : Value → List Blk → Prop} (he : EffE P dF n w0 X o L F G D) (hw : Wt dF n ops L o) (h : ∀ L' F', G L' F' → T P dF n w0 X Q ops rest L' F') (g : ∀ x F', D x F' → Ex dF n w0 X (.panic (entry x)) Q L F') :
    T P dF n w0 X Q ops (o :: rest) L F := fun a w hf hm => by
  refine wpList_step fun K hK => ?_
  rw [if_pos (hw a hf)]
  exact he Q K (fun L' F' hg a' w' hf' hm' => hK _ _ (h L' F' hg a' w' hf' hm')) (fun x F' hd a' w' hf' hm' => g x F' hd a' w' hf' hm') a w hf hm
theorem T.panic {x : Operand} {t : TypeId} {v : Value} (ho : o.op = .panic x) (hx : ev L x = some (.iface t v)) (hw : Wt dF n ops L o) (h : Ex dF n w0 X (.panic (entry (.iface t v))) Q L F) :
    T P dF n w0 X Q ops (o :: rest) L F := fun a w hf hm => by
  refine wpList_step fun K hK => ?_
  rw [if_pos (hw a hf)]
  unfold Oper.wp
  have e : (execOp a.eval o).run P w = .halt (.panic (.iface t v)) w := by
    simp only [execOp, ho, hf.eval hx, Instr.panic]
    rfl
  rw [e]
  exact h a w hf hm
/-- It is a struct's type. -/
def isStruct (P : Program) (t : TypeId) : Bool :=
  match P.underlying t with
  | some (.struct _) => true
  | _ => false
theorem isStruct_parts {t : TypeId} (h : isStruct P t = true) : ∃ fs, P.underlying t = some (.struct fs) := by
  unfold isStruct at h
  split at h
  · exact ⟨_, by assumption⟩
  · cases h
theorem q_iface {S : World → Prop} {t : TypeId} {x : Operand} {v : Value} (hs : isStruct P t = true) (ho : o.op = .makeInterface t x) (hx : ev L x = some v) : Qt P dF n L S o (.iface t v) := fun a w hf _ => by
  obtain ⟨fs, hu⟩ := isStruct_parts hs
  simp [execOp, ho, hf.eval hx, Instr.makeInterface, run_underlying hu]
theorem Ex.then_panic {K : Act → World → Prop} {ch : List PanicEntry} (h : Ex dF n w0 X (.panic ch) Q L F) : Ex dF n w0 X (.panic ch) (Exit.then K Q) L F := h
theorem Ex.in_panic {id : Nat} {ch : List PanicEntry} (h : Ex dF n w0 X (.panic ch) Q L F) : Ex dF n w0 X (.panic ch) (Exit.inBlock id Q) L F := h
/-- The end: it comes back. -/
theorem Ex.fine {fn : Func} {e : Exit} {post die : Value → List Blk → Prop} (h : Ex dF n w0 X e (bodyPost P fn fun e w' => ∃ v F, e = .returned v ∧ Mem w0 X F w' ∧ post v F) L F) : Ex dF n w0 X e (bodyPost P fn (EndP w0 X post die)) L F := fun a w hf hm => by
  have h1 := h a w hf hm
  cases e with
  | normal => obtain ⟨hd, v, hr, hp⟩ := h1; exact ⟨hd, v, hr, .inl hp⟩
  | ret => obtain ⟨hd, v, hr, hp⟩ := h1; exact ⟨hd, v, hr, .inl hp⟩
  | panic ch => obtain ⟨hd, hp⟩ := h1; exact ⟨hd, .inl hp⟩
  | outgrown => exact .inl h1
  | exit id => exact h1
  | goto l => exact h1
/-- The end: a panic. -/
theorem Ex.outP {fn : Func} {x : Value} {post die : Value → List Blk → Prop} (m : List Bool) (hp : die x (pick m F)) : Ex [] n w0 X (.panic (entry x)) (bodyPost P fn (EndP w0 X post die)) L F := fun _ _ hf hm =>
  ⟨hf.defers, .inr ⟨x, pick m F, rfl, hm.sub (pick_sub m F), hp⟩⟩
theorem spec_ofE {f : FuncId} {fn : Func} {c : Code} {args : List Value} {post die : Value → List Blk → Prop} (n : Nat) (F0 : List Blk) (h0 : Mem w0 X F0 w0) (hf : P.funcs[f]? = some fn) (hb : fn.body = some c) (hnn : fn.ntmps = n) (hn : Nat.ble args.length n = true)
    (h : W P [] n w0 X (bodyPost P fn (EndP w0 X post die)) c (heads 0 args) F0) : EndsX P f args.toArray w0 X post die := by
  subst hnn
  refine calls_of_wp hf hb (h _ w0 ⟨?_, rfl, ?_⟩ h0)
  · have := Nat.le_of_ble_eq_true hn
    simp; omega
  · intro t v hl
    obtain ⟨_, h2⟩ := look_heads args 0 t v hl
    simp only [Nat.sub_zero] at h2
    have hlt : t < args.length := (List.getElem?_eq_some_iff.1 h2).1
    rw [Array.getElem?_append_left (by simpa using hlt)]
    simpa using h2
/-! Lists of blocks whose end is open: what comes is turned to the front. -/
theorem T.turn {G : List Blk} (h : T P dF n w0 X Q ops rest L (G ++ F)) : T P dF n w0 X Q ops rest L (F ++ G) := fun a w hf hm => h a w hf (hm.perm List.perm_append_comm)
theorem W.turn {c : Code} {G : List Blk} (h : W P dF n w0 X Q c L (G ++ F)) : W P dF n w0 X Q c L (F ++ G) := fun a w hf hm => h a w hf (hm.perm List.perm_append_comm)
theorem Ex.turn {e : Exit} {G : List Blk} (h : Ex dF n w0 X e Q L (G ++ F)) : Ex dF n w0 X e Q L (F ++ G) := fun a w hf hm => h a w hf (hm.perm List.perm_append_comm)
theorem T.perm {F' : List Blk} (hp : F.Perm F') (h : T P dF n w0 X Q ops rest L F') : T P dF n w0 X Q ops rest L F := fun a w hf hm => h a w hf (hm.perm hp)
theorem W.perm {c : Code} {F' : List Blk} (hp : F.Perm F') (h : W P dF n w0 X Q c L F') : W P dF n w0 X Q c L F := fun a w hf hm => h a w hf (hm.perm hp)
theorem Ex.perm {e : Exit} {F' : List Blk} (hp : F.Perm F') (h : Ex dF n w0 X e Q L F') : Ex dF n w0 X e Q L F := fun a w hf hm => h a w hf (hm.perm hp)
theorem W.sub {c : Code} {F' : List Blk} (hp : F'.Sublist F) (h : W P dF n w0 X Q c L F') : W P dF n w0 X Q c L F := fun a w hf hm => h a w hf (hm.sub hp)
theorem Ex.sub {e : Exit} {F' : List Blk} (hp : F'.Sublist F) (h : Ex dF n w0 X e Q L F') : Ex dF n w0 X e Q L F := fun a w hf hm => h a w hf (hm.sub hp)
theorem T.sub {F' : List Blk} (hp : F'.Sublist F) (h : T P dF n w0 X Q ops rest L F') : T P dF n w0 X Q ops rest L F := fun a w hf hm => h a w hf (hm.sub hp)
theorem W.loopP {α : Type} {body : Code} (Li : α → Slots) (Fi : α → List Blk) (inv : α → Prop) (mu : α → Nat) (x0 : α) (h0 : inv x0) (hL : Sub (Li x0) L) (hF : F.Perm (Fi x0))
    (round : ∀ x, inv x → W P dF n w0 X (Exit.then (Again dF n w0 X Li Fi inv mu x) Q) body (Li x) (Fi x)) : W P dF n w0 X Q (.loop body) L F :=
  W.perm hF (W.loop Li Fi inv mu [] x0 h0 hL rfl round)
/-! A region whose order is open, in which an operation may panic: each order is walked. -/
def D0 (P : Program) (dF : List Deferred) (n : Nat) (w0 : World) (X : List Nat) (Q : Exit → Act → World → Prop) (ops : Array Oper) (f : Nat) (l : Array Bool) (L : Slots) (F : List Blk) : Prop :=
  ∀ a w, Fr dF n L a → Mem w0 X F w → wpAny P .any ops Q f l a w
def Up0 (P : Program) (dF : List Deferred) (n : Nat) (w0 : World) (X : List Nat) (Q : Exit → Act → World → Prop) (ops : Array Oper) (f : Nat) (l : Array Bool) (L : Slots) (F : List Blk) (i : Nat) : Prop :=
  ∀ a w, Fr dF n L a → Mem w0 X F w → wpOp P ops Q i (wpAny P .any ops Q f (l.setIfInBounds i true)) a w
theorem W.draw0 {id : Nat} {ops : List Oper} (hm : P.follows .mixedOrders = true) (h : D0 P dF n w0 X Q ops.toArray ops.length (List.replicate ops.length false).toArray L F) : W P dF n w0 X Q (.region id ops.toArray true) L F := fun a w hf hmem => by
  refine wp_region_any hm ?_
  have e : Array.replicate ops.toArray.size false = (List.replicate ops.length false).toArray := by rw [← Array.toList_inj]; simp
  rw [e]
  exact h a w.drew hf hmem.drew
variable {f : Nat} {l : Array Bool}
theorem D0.done (hr : Region.ready .any ops l = []) (h : Ex dF n w0 X .normal Q L F) : D0 P dF n w0 X Q ops f l L F := fun a w hf hm => by
  cases f with
  | zero => exact ⟨hr, h a w hf hm⟩
  | succ f => exact ⟨fun _ => h a w hf hm, by rw [hr]; simp⟩
theorem D0.one (i : Nat) (hr : Region.ready .any ops l = [i]) (h : Up0 P dF n w0 X Q ops f l L F i) : D0 P dF n w0 X Q ops (f + 1) l L F := fun a w hf hm =>
  ⟨fun h0 => (by rw [hr] at h0; cases h0), fun j hj => by
    rw [hr] at hj
    have : j = i := by simpa using hj
    subst this
    exact h a w hf hm⟩
theorem D0.two (i j : Nat) (hr : Region.ready .any ops l = [i, j]) (h : Up0 P dF n w0 X Q ops f l L F i) (g : Up0 P dF n w0 X Q ops f l L F j) : D0 P dF n w0 X Q ops (f + 1) l L F := fun a w hf hm =>
  ⟨fun h0 => (by rw [hr] at h0; cases h0), fun k hk => by
    rw [hr] at hk
    have : k = i ∨ k = j := by simpa using hk
    rcases this with rfl | rfl
    · exact h a w hf hm
    · exact g a w hf hm⟩
theorem D0.perm {F' : List Blk} (hp : F.Perm F') (h : D0 P dF n w0 X Q ops f l L F') : D0 P dF n w0 X Q ops f l L F := fun a w hf hm => h a w hf (hm.perm hp)
theorem Up0.q {i d : Nat} {v : Value} (hi : ops[i]? = some o) (hq : Qt P dF n L (Mem w0 X F) o v) (hw : Wt dF n ops L o) (hd : o.dst = some d) (hn : Nat.blt d n = true) (h : D0 P dF n w0 X Q ops f (l.setIfInBounds i true) ((d, v) :: L) F) : Up0 P dF n w0 X Q ops f l L F i := fun a w hf hm => by
  unfold wpOp
  simp only [hi, hw a hf, if_true]
  refine .inl ?_
  unfold Oper.wp
  rw [hq a w hf hm, Oper.upon_value, hd]
  exact h _ _ (hf.put v hn) hm
theorem Up0.eff {i : Nat} {G : Slots → List Blk → Prop} (hi : ops[i]? = some o) (he : Eff P dF n w0 X o L F G) (hw : Wt dF n ops L o) (h : ∀ L' F', G L' F' → D0 P dF n w0 X Q ops f (l.setIfInBounds i true) L' F') : Up0 P dF n w0 X Q ops f l L F i := fun a w hf hm => by
  unfold wpOp
  simp only [hi, hw a hf, if_true]
  exact .inl (he Q _ (fun L' F' hg a' w' hf' hm' => h L' F' hg a' w' hf' hm') a w hf hm)
theorem Up0.effE {i : Nat} {G : Slots → List Blk → Prop} {D : Value → List Blk → Prop} (hi : ops[i]? = some o) (he : EffE P dF n w0 X o L F G D) (hw : Wt dF n ops L o) (h : ∀ L' F', G L' F' → D0 P dF n w0 X Q ops f (l.setIfInBounds i true) L' F')
    (g : ∀ x F', D x F' → Ex dF n w0 X (.panic (entry x)) Q L F') : Up0 P dF n w0 X Q ops f l L F i := fun a w hf hm => by
  unfold wpOp
  simp only [hi, hw a hf, if_true]
  exact .inl (he Q _ (fun L' F' hg a' w' hf' hm' => h L' F' hg a' w' hf' hm') (fun x F' hd a' w' hf' hm' => g x F' hd a' w' hf' hm') a w hf hm)
/-! A call that is deferred. -/
theorem T.defer {x : Operand} {f : FuncId} {us : List Value} (ho : o.op = .defer { callee := .value x, args := #[], argTypes := #[] }) (hx : ev L x = some (.func (.func f) #[] us.toArray)) (hw : Wt dF n ops L o) (hd : o.dst = none)
    (h : T P ({ target := .fn (.func f) us.toArray, args := #[] } :: dF) n w0 X Q ops rest L F) : T P dF n w0 X Q ops (o :: rest) L F := fun a w hf hm => by
  refine wpList_step fun K hK => ?_
  rw [if_pos (hw a hf)]
  unfold Oper.wp
  have e : (execOp a.eval o).run P w = .ok (.defer { target := .fn (.func f) us.toArray, args := #[] }) w := by
    simp [execOp, ho, resolve, hf.eval hx, Deferred.ofValue]
  rw [e, Oper.upon_defer, hd]
  exact hK _ _ (h _ _ ⟨hf.size, by simp [hf.defers, Act.put], fun t v hl => hf.holds t v hl⟩ hm)
theorem spec_ofD {f : FuncId} {fn : Func} {c : Code} {args : List Value} {post : Value → List Blk → Prop} (n : Nat) (hf : P.funcs[f]? = some fn) (hb : fn.body = some c) (hnn : fn.ntmps = n) (hn : Nat.ble args.length n = true)
    (h : W P [] n w0 X (bodyPostD P fn fun e w' => ∃ v F, e = .returned v ∧ Mem w0 X F w' ∧ post v F) c (heads 0 args) []) : Does P f args.toArray w0 X post := by
  subst hnn
  refine calls_of_wp_defers hf hb (h _ w0 ⟨?_, rfl, ?_⟩ (Mem.start w0 X))
  · have := Nat.le_of_ble_eq_true hn
    simp; omega
  · intro t v hl
    obtain ⟨_, h2⟩ := look_heads args 0 t v hl
    simp only [Nat.sub_zero] at h2
    have hlt : t < args.length := (List.getElem?_eq_some_iff.1 h2).1
    rw [Array.getElem?_append_left (by simpa using hlt)]
    simpa using h2
theorem invoke_func {f : FuncId} {us : List Value} (he : Enters P f) (w : World) : (invoke (.fn (.func f) us.toArray) #[]).run P w = .ok (.enter f us.toArray) w := by
  simp only [invoke]
  rw [Array.empty_append]
  exact he _ w
/-- Two results that lie in blocks. -/
theorem run_cells {fn : Func} {p q : Tmp} {ty ty' : TypeId} {k k' : Nat} {cs ds : List Value} {a : Act} {w : World} (i j : Nat) {bt bt' : TypeId} {fz fz' : Nat × Nat} (hr : fn.results = #[.cell p ty, .cell q ty']) (hs : scalar P ty = true) (hs' : scalar P ty' = true)
    (hp : look L p = some (.pointer (some ⟨k, 0, none⟩))) (hp' : look L q = some (.pointer (some ⟨k', 0, none⟩))) (hi : F[i]? = some ⟨some k, cs, bt, fz⟩) (hj : F[j]? = some ⟨some k', ds, bt', fz'⟩) {v v' : Value} (hv : cs[0]? = some v) (hv' : ds[0]? = some v')
    (hf : Fr dF n L a) (hm : Mem w0 X F w) : (results fn a.tmps).run P w = .ok (.tuple #[v, v']) w := by
  have h1 := hf.holds p _ hp
  have h2 := hf.holds q _ hp'
  have hc := cell_at hm i hi hv
  have hc' := cell_at hm j hj hv'
  have hl := run_loadVar_scalar (P := P) (w := w) hs ⟨k, 0, none⟩ v hc
  have hl' := run_loadVar_scalar (P := P) (w := w) hs' ⟨k', 0, none⟩ v' hc'
  simp [results, hr, Array.getD_eq_getD_getElem?, h1, h2, asAddr, hl, hl']
/-- The end: it comes back, and what is deferred does nothing. -/
theorem Ex.leaveR {fn : Func} {f : FuncId} {us : List Value} {p q : Tmp} {ty ty' : TypeId} {k k' : Nat} {F2 : List Blk} {X' : List Nat} {v v' : Value} {c d : List Value} {post : Value → List Blk → Prop} (m : List Bool) (i j : Nat) {bt bt' : TypeId} {fz fz' : Nat × Nat} (he : Enters P f)
    (hX : ∀ k, k ∈ X' → ∃ b ∈ drp m F, b.no = some k)
    (hc : ∀ w, Mem w0 X F w → CallsD P f us.toArray .returning w fun e u' w' => e = .returned (.tuple #[]) ∧ u' = .returning ∧ Mem w X' F2 w')
    (hr : fn.results = #[.cell p ty, .cell q ty']) (hs : scalar P ty = true) (hs' : scalar P ty' = true) (hp : look L p = some (.pointer (some ⟨k, 0, none⟩))) (hp' : look L q = some (.pointer (some ⟨k', 0, none⟩)))
    (hi : F2[i]? = some ⟨some k, v :: c, bt, fz⟩) (hj : F2[j]? = some ⟨some k', v' :: d, bt', fz'⟩) (hq : post (.tuple #[v, v']) (pick m F)) :
    Ex [{ target := .fn (.func f) us.toArray, args := #[] }] n w0 X .ret (bodyPostD P fn fun e w' => ∃ v F, e = .returned v ∧ Mem w0 X F w' ∧ post v F) L F := fun a w hf hm => by
  show Leaves P fn a.tmps _ a.defers .returning w
  rw [hf.defers]
  refine leaves_cons (by simp) (invoke_func he w) ((hc w hm).mono ?_)
  rintro e u' w' ⟨rfl, rfl, hm2⟩
  have hm3 := hm.joinM m hX hm2
  have hm4 : Mem w0 X F2 w' := hm3.sub (List.sublist_append_right ..)
  exact ⟨_, run_cells i j hr hs hs' hp hp' hi hj rfl rfl hf hm4, _, pick m F, rfl, hm3.sub (List.sublist_append_left ..), hq⟩
/-- The end: a panic, that what is deferred catches. -/
theorem Ex.leaveP {fn : Func} {f : FuncId} {us : List Value} {p q : Tmp} {ty ty' : TypeId} {k k' : Nat} {F2 : List Blk} {X' : List Nat} {x v v' : Value} {c d : List Value} {post : Value → List Blk → Prop} (m : List Bool) (i j : Nat) {bt bt' : TypeId} {fz fz' : Nat × Nat} (he : Enters P f)
    (hX : ∀ k, k ∈ X' → ∃ b ∈ drp m F, b.no = some k)
    (hc : ∀ w, Mem w0 X F w → CallsD P f us.toArray (.panicking (entry x)) w fun e u' w' => e = .returned (.tuple #[]) ∧ u' = .panicking [{ v := x, recovered := true }] ∧ Mem w X' F2 w')
    (hr : fn.results = #[.cell p ty, .cell q ty']) (hs : scalar P ty = true) (hs' : scalar P ty' = true) (hp : look L p = some (.pointer (some ⟨k, 0, none⟩))) (hp' : look L q = some (.pointer (some ⟨k', 0, none⟩)))
    (hi : F2[i]? = some ⟨some k, v :: c, bt, fz⟩) (hj : F2[j]? = some ⟨some k', v' :: d, bt', fz'⟩) (hq : post (.tuple #[v, v']) []) :
    Ex [{ target := .fn (.func f) us.toArray, args := #[] }] n w0 X (.panic (entry x)) (bodyPostD P fn fun e w' => ∃ v F, e = .returned v ∧ Mem w0 X F w' ∧ post v F) L F := fun a w hf hm => by
  show Leaves P fn a.tmps _ a.defers (.panicking (entry x)) w
  rw [hf.defers]
  refine leaves_cons (by simp) (invoke_func he w) ((hc w hm).mono ?_)
  rintro e u' w' ⟨rfl, rfl, hm2⟩
  have hm3 := hm.joinM m hX hm2
  have hm4 : Mem w0 X F2 w' := hm3.sub (List.sublist_append_right ..)
  exact ⟨_, run_cells i j hr hs hs' hp hp' hi hj rfl rfl hf hm4, _, [], rfl, hm4.sub (List.nil_sublist _), hq⟩
/-- The second of two pieces of code. -/
def seq2 : Code → Code
  | .seq _ y => y
  | c => c
/-! Interfaces. -/
theorem q_eqlIN {S : World → Prop} {t t' u : TypeId} {x : Operand} {v : Value} (hi : P.underlying t = some (.interface (P.methodsAt t))) (ho : o.op = .binOp .eql t x (.const .nilIface) t') (hx : ev L x = some (.iface u v)) : Qt P dF n L S o (.bool false) := fun a w hf _ => by
  have h2 : a.eval (.const .nilIface) = .nilIface := rfl
  simp only [execOp, ho, hf.eval hx, h2]
  simp [eqGuard, run_eql_held_nil w t u v hi]
theorem q_eqlNN {S : World → Prop} {t t' : TypeId} {x : Operand} (hi : P.underlying t = some (.interface (P.methodsAt t))) (ho : o.op = .binOp .eql t x (.const .nilIface) t') (hx : ev L x = some .nilIface) : Qt P dF n L S o (.bool true) := fun a w hf _ => by
  have h2 : a.eval (.const .nilIface) = .nilIface := rfl
  simp only [execOp, ho, hf.eval hx, h2]
  simp [eqGuard, run_eql_nil_nil w t hi]
theorem q_assert {S : World → Prop} {t u : TypeId} {x : Operand} {v : Value} (hs : isStruct P u = true) (ho : o.op = .typeAssert x t u true) (hx : ev L x = some (.iface u v)) : Qt P dF n L S o (.tuple #[v, .bool true]) := fun a w hf _ => by
  obtain ⟨fs, hu⟩ := isStruct_parts hs
  simp [execOp, ho, hf.eval hx, Instr.typeAssert, run_underlying hu]
end
end Go.X
