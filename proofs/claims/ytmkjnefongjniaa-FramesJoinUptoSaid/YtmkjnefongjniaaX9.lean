/-
  The rules by which the walks of this claim go. Ninth part: calls that write one block that the caller knows; a function whose arguments point into such a block.
-/
import Derived.Test.YtmkjnefongjniaaX6
namespace Go.X
open Go
variable {dF : List Deferred}
section
variable {P : Program} {n : Nat} {w0 : World} {X : List Nat} {Q : Exit → Act → World → Prop} {L : Slots} {F : List Blk} {o : Oper}
theorem Mem.write' {w w' : World} (hm : Mem w0 X F w) (i : Nat) {k : Nat} {cells cells' : List Value} {ty : TypeId} {fz fz' : Nat × Nat} (hi : F[i]? = some ⟨some k, cells, ty, fz⟩)
    (h1 : w'.heap[k]? = some (.cells cells'.toArray ty fz')) (h2 : ∀ j, j < w.heap.size → j ≠ k → w'.heap[j]? = w.heap[j]?) (hos : w'.os = w.os) (htp : w'.tape = w.tape) (hout : w'.output = w.output) (hsz : w.heap.size ≤ w'.heap.size) :
    Mem w0 X (F.set i ⟨some k, cells', ty, fz'⟩) w' := by
  have hmem := List.mem_of_getElem? hi
  have hlt : i < F.length := (List.getElem?_eq_some_iff.1 hi).1
  have hFi : F[i] = ⟨some k, cells, ty, fz⟩ := (List.getElem?_eq_some_iff.1 hi).2
  have hmk := hm.mine _ hmem k rfl
  have hap := List.pairwise_iff_getElem.1 hm.apart
  refine ⟨⟨hos.trans hm.kept.os, htp.trans hm.kept.tape, hout.trans hm.kept.output, Nat.le_trans hm.kept.size hsz, fun j hj hjx => ?_⟩, ?_, ?_, ?_⟩
  · rw [h2 j (Nat.lt_of_lt_of_le hj hm.kept.size) (fun e => by subst e; rcases hmk with h | h; omega; exact hjx h)]
    exact hm.kept.block j hj hjx
  · intro b hb
    obtain ⟨j, hj0, rfl⟩ := List.mem_iff_getElem.1 hb
    have hj : j < F.length := by simpa using hj0
    rw [List.getElem_set]
    by_cases hij : i = j
    · rw [if_pos hij]; exact h1
    · rw [if_neg hij]
      have hb' := hm.has F[j] (List.getElem_mem hj)
      have hlt2 := fun m => @Blk.lt F[j] w hb' m
      unfold Blk.here at *
      cases hn : F[j].no with
      | none => rw [hn] at hb'; exact hb'
      | some m =>
        rw [hn] at hb'
        simp only at hb' ⊢
        have hmk' : m ≠ k := fun e => by
          subst e
          rcases Nat.lt_or_gt_of_ne hij with hlt' | hlt'
          · exact hap i j hlt hj hlt' m (by rw [hFi]) hn
          · exact hap j i hj hlt hlt' m hn (by rw [hFi])
        rw [h2 m (hlt2 m hn) hmk']
        exact hb'
  · intro b hb m hmm
    obtain ⟨j, hj0, rfl⟩ := List.mem_iff_getElem.1 hb
    have hj : j < F.length := by simpa using hj0
    rw [List.getElem_set] at hmm
    by_cases hij : i = j
    · rw [if_pos hij] at hmm
      cases hmm
      exact hmk
    · rw [if_neg hij] at hmm
      exact hm.mine _ (List.getElem_mem hj) m hmm
  · rw [List.pairwise_iff_getElem]
    intro p q hp0 hq0 hpq m hm1 hm2
    have hp : p < F.length := by simpa using hp0
    have hq : q < F.length := by simpa using hq0
    rw [List.getElem_set] at hm1 hm2
    by_cases hip : i = p
    · rw [if_pos hip] at hm1
      rw [if_neg (by omega)] at hm2
      subst hip
      exact hap i q hlt hq hpq m (by rw [hFi]; exact hm1) hm2
    · rw [if_neg hip] at hm1
      by_cases hiq : i = q
      · rw [if_pos hiq] at hm2
        subst hiq
        exact hap p i hp hlt hpq m hm1 (by rw [hFi]; exact hm2)
      · rw [if_neg hiq] at hm2
        exact hap p q hp hq hpq m hm1 hm2
/-- Behind a call that wrote block k, the i-th that is known, and no other that was there. -/
theorem Mem.joinB {w w' : World} {G : List Blk} (hm : Mem w0 X F w) (i : Nat) {k : Nat} {cells cells' : List Value} {ty : TypeId} {fz : Nat × Nat} (hi : F[i]? = some ⟨some k, cells, ty, fz⟩) (g : Mem w [k] (⟨some k, cells', ty, fz⟩ :: G) w') :
    Mem w0 X (F.set i ⟨some k, cells', ty, fz⟩ ++ G) w' := by
  have h1 := g.has _ (List.mem_cons_self ..)
  have hA := hm.write' (w' := w') (cells' := cells') (fz' := fz) i hi h1 (fun j hj hjk => g.kept.block j hj (by simpa using hjk)) g.kept.os g.kept.tape g.kept.output g.kept.size
  have hne : ∀ c ∈ G, ∀ m, c.no = some m → w.heap.size ≤ m := fun c hc m hcm => by
    rcases g.mine c (List.mem_cons_of_mem _ hc) m hcm with h | h
    · exact h
    · have hk : m = k := by simpa using h
      subst hk
      exact absurd hcm ((List.pairwise_cons.1 g.apart).1 c hc m rfl)
  have hin : ∀ b ∈ F.set i ⟨some k, cells', ty, fz⟩, ∀ m, b.no = some m → m < w.heap.size := fun b hb m hbm => by
    rcases List.mem_or_eq_of_mem_set hb with h | rfl
    · exact Blk.lt (hm.has b h) hbm
    · cases hbm
      exact Blk.lt (hm.at i hi) rfl
  refine ⟨hA.kept, ?_, ?_, ?_⟩
  · intro b hb
    rcases List.mem_append.1 hb with hb | hb
    · exact hA.has b hb
    · exact g.has b (List.mem_cons_of_mem _ hb)
  · intro b hb m hbm
    rcases List.mem_append.1 hb with hb | hb
    · exact hA.mine b hb m hbm
    · exact .inl (Nat.le_trans hm.kept.size (hne b hb m hbm))
  · rw [List.pairwise_append]
    refine ⟨hA.apart, (List.pairwise_cons.1 g.apart).2, fun b hb c hc m hbm hcm => ?_⟩
    have h1 := hin b hb m hbm
    have h2 := hne c hc m hcm
    omega
/-- A call that writes the i-th block. -/
theorem e_callB {f : FuncId} {xs : List Operand} {ts : Array TypeId} {vs : List Value} {d : Nat} (i : Nat) {k : Nat} {cells : List Value} {ty : TypeId} {fz : Nat × Nat} {post : Value → List Value → List Blk → Prop} (he : Enters P f)
    (ho : o.op = .call { callee := .value (.func f), args := xs.toArray, argTypes := ts }) (hx : evs L xs = some vs) (hi : F[i]? = some ⟨some k, cells, ty, fz⟩)
    (hc : ∀ w, Mem w0 X F w → Does P f vs.toArray w [k] fun v G => ∃ cs G2, post v cs G2 ∧ G = ⟨some k, cs, ty, fz⟩ :: G2) (hd : o.dst = some d) (hn : Nat.blt d n = true) :
    Eff P dF n w0 X o L F fun L' F' => ∃ v cs G2, post v cs G2 ∧ L' = (d, v) :: L ∧ F' = F.set i ⟨some k, cs, ty, fz⟩ ++ G2 := fun Q K hK a w hf hm => by
  unfold Oper.wp
  rw [run_call he hf ho hx, Oper.upon_enter]
  refine Calls.mono (hc w hm) ?_
  rintro _ w' ⟨v, G, rfl, hm', cs, G2, hp, rfl⟩
  simp only [hd]
  exact hK _ _ ⟨v, cs, G2, hp, rfl, rfl⟩ _ _ (hf.put _ hn) (hm.joinB i hi hm')
/-- A function that is called where some blocks are known that it may write. -/
theorem spec_ofB {f : FuncId} {fn : Func} {c : Code} {args : List Value} {post : Value → List Blk → Prop} (n : Nat) (F0 : List Blk) (h0 : Mem w0 X F0 w0) (hf : P.funcs[f]? = some fn) (hb : fn.body = some c) (hnn : fn.ntmps = n) (hn : Nat.ble args.length n = true)
    (h : W P [] n w0 X (bodyPost P fn fun e w' => ∃ v F, e = .returned v ∧ Mem w0 X F w' ∧ post v F) c (heads 0 args) F0) : Does P f args.toArray w0 X post := by
  subst hnn
  refine calls_of_wp hf hb (h _ w0 ⟨?_, rfl, ?_⟩ h0)
  · have := Nat.le_of_ble_eq_true hn
    simp; omega
  · intro t v hl
    obtain ⟨_, h2⟩ := look_heads args 0 t v hl
    simp only [Nat.sub_zero] at h2
    have hlt : t < args.length := (List.getElem?_eq_some_iff.1 h2).1
    rw [Array.getElem?_append_left (by simpa using hlt)]
    simpa using h2
theorem Mem.own1 {w : World} {b : Blk} {k : Nat} (hb : b.no = some k) (h : b.here w) : Mem w [k] [b] w :=
  ⟨Kept.refl _ w, fun c hc => by rw [List.mem_singleton] at hc; exact hc ▸ h, fun c hc m hm => by rw [List.mem_singleton] at hc; subst hc; rw [hb] at hm; cases hm; exact .inr (by simp), List.pairwise_singleton _ _⟩
/-- An element of memory that was there, by its own address. -/
theorem q_loadG {t : TypeId} {x : Operand} {g j : Nat} {cs : List Value} {v : Value} (hs : scalar P t = true) (hR : ∀ w, Mem w0 X F w → Reads w (some ⟨g, 0, none⟩) cs) (ho : o.op = .load t x)
    (hx : ev L x = some (.pointer (some ⟨g, j, none⟩))) (hc : cs[j]? = some v) : Qt P dF n L (Mem w0 X F) o v := fun a w hf hm => by
  obtain ⟨ad, he, hcell⟩ := hR w hm j v hc
  cases he
  rw [add_lit, Nat.zero_add] at hcell
  simp only [execOp, ho, hf.eval hx, Instr.loadAt, Instr.sureAddr]
  simp [run_loadVar_scalar hs _ v hcell]
theorem map_get {α β : Type} (f : α → β) (d : α) {ks : List α} {n : Nat} (h : n < ks.length) : (ks.map f)[n]? = some (f (ks.getD n d)) := by simp [h]
theorem lt10 {p : Nat → Prop} (h0 : p 0) (h1 : p 1) (h2 : p 2) (h3 : p 3) (h4 : p 4) (h5 : p 5) (h6 : p 6) (h7 : p 7) (h8 : p 8) (h9 : p 9) : ∀ i, i < 10 → p i
  | 0, _ => h0
  | 1, _ => h1
  | 2, _ => h2
  | 3, _ => h3
  | 4, _ => h4
  | 5, _ => h5
  | 6, _ => h6
  | 7, _ => h7
  | 8, _ => h8
  | 9, _ => h9
  | _ + 10, h => absurd h (by omega)
/-- One of ten blocks, whichever. -/
theorem R_ten {kk : IntKind} {ty : TypeId} {fz : Nat × Nat} (ks : List Nat) (rs : Nat → List Int) (base r : Nat) (hr : r < 10) (h : ∀ i, i < 10 → F[base + i]? = some ⟨some (ks.getD i 0), ints kk (rs i), ty, fz⟩) : ∀ w, Mem w0 X F w → Reads w (some ⟨ks.getD r 0, 0, none⟩) (ints kk (rs r)) :=
  R_blk (base + r) (h r hr)
end
end Go.X
