/-
  What a stretch of operations does, said of the slots that are known and of the blocks that are known (no world is named): the rules by which the walks of this claim go. First part: the words, and the rules for code.
-/
import Derived.WalkKit
import Derived.WalkSpells
import Derived.WalkLawsBesides
import Derived.Deep.LoopGhost
import Derived.OrdersHeld
namespace Go.X
open Go
variable {dF : List Deferred}

/-- The slots that are known, the latest first. -/
abbrev Slots := List (Nat × Value)
def look : Slots → Nat → Option Value
  | [], _ => none
  | (k, v) :: r, t => bif Nat.beq k t then some v else look r t

theorem nbeq {a b : Nat} (h : a ≠ b) : Nat.beq a b = false := by
  cases hb : Nat.beq a b with
  | false => rfl
  | true => exact absurd (Nat.eq_of_beq_eq_true hb) h

structure Fr (dF : List Deferred) (n : Nat) (L : Slots) (a : Act) : Prop where
  size : a.tmps.size = n
  defers : a.defers = dF
  holds : ∀ t v, look L t = some v → a.tmps[t]? = some v

def ev (L : Slots) : Operand → Option Value
  | .tmp t => look L t
  | .const v => some v
  | .global g => some (.pointer (some ⟨g, 0, none⟩))
  | .func f => some (.func (.func f) #[] #[])

theorem Fr.eval {n : Nat} {L : Slots} {a : Act} (h : Fr dF n L a) {x : Operand} {v : Value} (hx : ev L x = some v) : a.eval x = v := by
  cases x with
  | tmp t => simp only [Act.eval, Array.getD_eq_getD_getElem?]; rw [h.holds t v hx]; rfl
  | const u => simpa [ev, Act.eval] using hx
  | global g => simpa [ev, Act.eval] using hx
  | func f => simpa [ev, Act.eval] using hx

theorem Fr.put {n : Nat} {L : Slots} {a : Act} (h : Fr dF n L a) {d : Nat} (v : Value) (hd : Nat.blt d n = true) : Fr dF n ((d, v) :: L) (a.put (some d) v) := by
  have hd' : d < n := Nat.le_of_ble_eq_true hd
  refine ⟨by simp [Act.put, h.size], h.defers, fun t u hu => ?_⟩
  simp only [look] at hu
  simp only [Act.put]
  by_cases hdt : d = t
  · subst hdt
    simp at hu
    subst hu
    simp [h.size, hd']
  · rw [Array.getElem?_setIfInBounds_ne hdt]
    have : Nat.beq d t = false := nbeq hdt
    rw [this] at hu
    exact h.holds t u hu

theorem Fr.put_none {n : Nat} {L : Slots} {a : Act} (h : Fr dF n L a) (v : Value) : Fr dF n L (a.put none v) := h

/-- L' says no more than L. -/
def Sub : Slots → Slots → Prop
  | [], _ => True
  | (k, v) :: r, L => look L k = some v ∧ Sub r L

theorem look_of_sub {L' L : Slots} (h : Sub L' L) {t : Nat} {v : Value} (hl : look L' t = some v) : look L t = some v := by
  induction L' with
  | nil => simp [look] at hl
  | cons p r ih =>
    obtain ⟨k, u⟩ := p
    simp only [look] at hl
    by_cases hp : k = t
    · subst hp
      simp at hl
      subst hl
      exact h.1
    · have : Nat.beq k t = false := nbeq hp
      rw [this] at hl
      exact ih h.2 hl

theorem Fr.sub {n : Nat} {L L' : Slots} {a : Act} (h : Fr dF n L a) (hs : Sub L' L) : Fr dF n L' a :=
  ⟨h.size, h.defers, fun t v hl => h.holds t v (look_of_sub hs hl)⟩

/-- A block that the call knows whole; no number: there is none (a nil slice's). -/
structure Blk where
  no : Option Nat
  cells : List Value
  ty : TypeId
  fz : Nat × Nat

def Blk.here (b : Blk) (w : World) : Prop :=
  match b.no with
  | some k => w.heap[k]? = some (.cells b.cells.toArray b.ty b.fz)
  | none => b.cells = []

/-- What the call leaves of the memory that was there: all but the blocks X. -/
structure Kept (X : List Nat) (w0 w : World) : Prop where
  os : w.os = w0.os
  tape : w.tape = w0.tape
  output : w.output = w0.output
  size : w0.heap.size ≤ w.heap.size
  block : ∀ k, k < w0.heap.size → k ∉ X → w.heap[k]? = w0.heap[k]?

theorem Kept.refl (X : List Nat) (w : World) : Kept X w w := ⟨rfl, rfl, rfl, Nat.le_refl _, fun _ _ _ => rfl⟩
theorem Kept.trans {X : List Nat} {a b c : World} (h : Kept X a b) (g : Kept X b c) : Kept X a c :=
  ⟨g.os.trans h.os, g.tape.trans h.tape, g.output.trans h.output, Nat.le_trans h.size g.size, fun k hk hx => (g.block k (Nat.lt_of_lt_of_le hk h.size) hx).trans (h.block k hk hx)⟩
theorem Kept.mono {X Y : List Nat} {a b : World} (h : Kept X a b) (hs : ∀ k, k ∈ X → k ∈ Y) : Kept Y a b :=
  ⟨h.os, h.tape, h.output, h.size, fun k hk hx => h.block k hk fun hm => hx (hs k hm)⟩
theorem Kept.of_nil {X : List Nat} {a b : World} (h : Kept [] a b) : Kept X a b := h.mono (fun _ hk => by cases hk)
theorem Kept.drew (X : List Nat) (w : World) : Kept X w w.drew := ⟨rfl, rfl, rfl, Nat.le_refl _, fun _ _ _ => rfl⟩

structure Mem (w0 : World) (X : List Nat) (F : List Blk) (w : World) : Prop where
  kept : Kept X w0 w
  has : ∀ b ∈ F, b.here w
  mine : ∀ b ∈ F, ∀ k, b.no = some k → w0.heap.size ≤ k ∨ k ∈ X
  apart : F.Pairwise fun b c => ∀ k, b.no = some k → c.no ≠ some k

theorem Mem.drew {w0 : World} {X : List Nat} {F : List Blk} {w : World} (h : Mem w0 X F w) : Mem w0 X F w.drew :=
  ⟨h.kept.trans (Kept.drew X w), fun b hb => h.has b hb, h.mine, h.apart⟩

theorem Mem.start (w : World) (X : List Nat) : Mem w X [] w := ⟨Kept.refl X w, fun _ h => (by cases h), fun _ h => (by cases h), List.Pairwise.nil⟩

theorem Mem.sub {w0 : World} {X : List Nat} {F F' : List Blk} {w : World} (h : Mem w0 X F w) (hs : F'.Sublist F) : Mem w0 X F' w :=
  ⟨h.kept, fun b hb => h.has b (hs.subset hb), fun b hb => h.mine b (hs.subset hb), h.apart.sublist hs⟩

/-- The blocks at the places marked, and all behind. -/
def pick : List Bool → List Blk → List Blk
  | [], F => F
  | true :: m, b :: F => b :: pick m F
  | false :: m, _ :: F => pick m F
  | _ :: _, [] => []

theorem pick_sub : ∀ (m : List Bool) (F : List Blk), (pick m F).Sublist F
  | [], F => List.Sublist.refl F
  | true :: m, b :: F => (pick_sub m F).cons_cons b
  | false :: m, b :: F => (pick_sub m F).cons b
  | true :: _, [] => List.nil_sublist []
  | false :: _, [] => List.nil_sublist []

theorem Blk.lt {b : Blk} {w : World} (h : b.here w) {k : Nat} (hk : b.no = some k) : k < w.heap.size := by
  unfold Blk.here at h
  rw [hk] at h
  exact (Array.getElem?_eq_some_iff.1 h).1

theorem Blk.kept {b : Blk} {w w' : World} {X : List Nat} (h : b.here w) (hk : Kept X w w') (hx : ∀ k, b.no = some k → k ∉ X) : b.here w' := by
  have hlt := fun k => @Blk.lt b w h k
  unfold Blk.here at *
  cases hn : b.no with
  | none => rw [hn] at h; exact h
  | some k => rw [hn] at h; simp only; rw [hk.block k (hlt k hn) (hx k hn)]; exact h

/-- Behind a call that writes none of the blocks that are known: its own come behind them. -/
theorem Mem.join {w0 w w' : World} {X X' : List Nat} {F F' : List Blk} (h : Mem w0 X F w) (g : Mem w X' F' w')
    (hx : ∀ k, k ∈ X' → k ∈ X) (ho : ∀ b ∈ F, ∀ k, b.no = some k → k ∉ X') : Mem w0 X (F ++ F') w' := by
  refine ⟨h.kept.trans (g.kept.mono hx), ?_, ?_, ?_⟩
  · intro b hb
    rcases List.mem_append.1 hb with hb | hb
    · exact Blk.kept (h.has b hb) g.kept (ho b hb)
    · exact g.has b hb
  · intro b hb k hk
    rcases List.mem_append.1 hb with hb | hb
    · exact h.mine b hb k hk
    · rcases g.mine b hb k hk with h1 | h1
      · exact .inl (Nat.le_trans h.kept.size h1)
      · exact .inr (hx k h1)
  · rw [List.pairwise_append]
    refine ⟨h.apart, g.apart, fun b hb c hc k hk hck => ?_⟩
    rcases g.mine c hc k hck with h1 | h1
    · exact absurd (Blk.lt (h.has b hb) hk) (by omega)
    · exact ho b hb k hk h1

/-- Behind a call that may have written the blocks X' (blocks that are known, or that the call itself may write): of those known before, the ones apart from X' stay. -/
theorem Mem.joinX {w0 w w' : World} {X X' : List Nat} {F G F' : List Blk} (h : Mem w0 X F w) (g : Mem w X' F' w') (hs : G.Sublist F)
    (hx : ∀ k, k ∈ X' → k ∈ X ∨ ∃ b ∈ F, b.no = some k) (ho : ∀ b ∈ G, ∀ k, b.no = some k → k ∉ X') : Mem w0 X (G ++ F') w' := by
  have hX : ∀ k, k ∈ X' → w0.heap.size ≤ k ∨ k ∈ X := fun k hk => by
    rcases hx k hk with h1 | ⟨b, hb, hbk⟩
    · exact .inr h1
    · exact h.mine b hb k hbk
  refine ⟨⟨g.kept.os.trans h.kept.os, g.kept.tape.trans h.kept.tape, g.kept.output.trans h.kept.output, Nat.le_trans h.kept.size g.kept.size, fun k hk hkx => ?_⟩, ?_, ?_, ?_⟩
  · have hnx : k ∉ X' := fun hm => by
      rcases hX k hm with h1 | h1
      · omega
      · exact hkx h1
    exact (g.kept.block k (Nat.lt_of_lt_of_le hk h.kept.size) hnx).trans (h.kept.block k hk hkx)
  · intro b hb
    rcases List.mem_append.1 hb with hb | hb
    · exact Blk.kept (h.has b (hs.subset hb)) g.kept (ho b hb)
    · exact g.has b hb
  · intro b hb k hk
    rcases List.mem_append.1 hb with hb | hb
    · exact h.mine b (hs.subset hb) k hk
    · rcases g.mine b hb k hk with h1 | h1
      · exact .inl (Nat.le_trans h.kept.size h1)
      · exact hX k h1
  · rw [List.pairwise_append]
    refine ⟨h.apart.sublist hs, g.apart, fun b hb c hc k hk hck => ?_⟩
    rcases g.mine c hc k hck with h1 | h1
    · exact absurd (Blk.lt (h.has b (hs.subset hb)) hk) (by omega)
    · exact ho b hb k hk h1

/-- What a call does: it comes back, with a value and some blocks of which 'post' is told; it writes no block that was there but those of X. -/
def Does (P : Program) (f : FuncId) (args : Array Value) (w : World) (X : List Nat) (post : Value → List Blk → Prop) : Prop :=
  Calls P f args w fun e w' => ∃ v F, e = .returned v ∧ Mem w X F w' ∧ post v F

theorem Does.mono {P : Program} {f : FuncId} {args : Array Value} {w : World} {X : List Nat} {post post' : Value → List Blk → Prop} (h : Does P f args w X post)
    (hp : ∀ v F, post v F → post' v F) : Does P f args w X post' :=
  Calls.mono h fun _ _ ⟨v, F, he, hm, hq⟩ => ⟨v, F, he, hm, hp v F hq⟩

section
variable {P : Program} {n : Nat} {w0 : World} {X : List Nat} {Q : Exit → Act → World → Prop} {L : Slots} {F : List Blk}

/-- A piece of code, from the slots L and the blocks F on. -/
def W (P : Program) (dF : List Deferred) (n : Nat) (w0 : World) (X : List Nat) (Q : Exit → Act → World → Prop) (c : Code) (L : Slots) (F : List Blk) : Prop :=
  ∀ a w, Fr dF n L a → Mem w0 X F w → c.wp P Q a w

/-- A stretch of operations. -/
def T (P : Program) (dF : List Deferred) (n : Nat) (w0 : World) (X : List Nat) (Q : Exit → Act → World → Prop) (ops : Array Oper) (rest : List Oper) (L : Slots) (F : List Blk) : Prop :=
  ∀ a w, Fr dF n L a → Mem w0 X F w → wpList P ops Q rest a w

/-- An exit is let. -/
def Ex (dF : List Deferred) (n : Nat) (w0 : World) (X : List Nat) (e : Exit) (Q : Exit → Act → World → Prop) (L : Slots) (F : List Blk) : Prop :=
  ∀ a w, Fr dF n L a → Mem w0 X F w → Q e a w

theorem W.seq {x y : Code} (h : W P dF n w0 X (Exit.then (y.wp P Q) Q) x L F) : W P dF n w0 X Q (.seq x y) L F := fun a w hf hm => wp_seq (h a w hf hm)
theorem W.region {id : Nat} {ops : List Oper} (h : T P dF n w0 X Q ops.toArray ops L F) : W P dF n w0 X Q (.region id ops.toArray false) L F := fun a w hf hm => wp_region_lit (h a w hf hm)
theorem W.block {id : Nat} {c : Code} (h : W P dF n w0 X (Exit.inBlock id Q) c L F) : W P dF n w0 X Q (.block id c) L F := fun a w hf hm => wp_block (h a w hf hm)
theorem W.skip (h : Ex dF n w0 X .normal Q L F) : W P dF n w0 X Q .skip L F := fun a w hf hm => wp_skip (h a w hf hm)
theorem W.exit {id : Nat} (h : Ex dF n w0 X (.exit id) Q L F) : W P dF n w0 X Q (.exit id) L F := fun a w hf hm => wp_exit (h a w hf hm)
theorem W.ret (h : Ex dF n w0 X .ret Q L F) : W P dF n w0 X Q .ret L F := fun a w hf hm => wp_ret (h a w hf hm)
theorem W.cond {c : Operand} {x y : Code} (b : Bool) (hc : ev L c = some (.bool b)) (ht : b = true → W P dF n w0 X Q x L F) (he : b = false → W P dF n w0 X Q y L F) :
    W P dF n w0 X Q (.cond c x y) L F := fun a w hf hm => wp_cond_split (hf.eval hc) (fun h => ht h a w hf hm) (fun h => he h a w hf hm)
theorem W.condT {c : Operand} {x y : Code} (hc : ev L c = some (.bool true)) (ht : W P dF n w0 X Q x L F) : W P dF n w0 X Q (.cond c x y) L F :=
  fun a w hf hm => wp_cond_true (hf.eval hc) (ht a w hf hm)
theorem W.condF {c : Operand} {x y : Code} (hc : ev L c = some (.bool false)) (he : W P dF n w0 X Q y L F) : W P dF n w0 X Q (.cond c x y) L F :=
  fun a w hf hm => wp_cond_false (hf.eval hc) (he a w hf hm)
/-- Fewer slots, fewer blocks. -/
theorem W.less {c : Code} {L' : Slots} (m : List Bool) (hL : Sub L' L) (h : W P dF n w0 X Q c L' (pick m F)) : W P dF n w0 X Q c L F :=
  fun a w hf hm => h a w (hf.sub hL) (hm.sub (pick_sub m F))
theorem W.slots {c : Code} {L' : Slots} (hL : Sub L' L) (h : W P dF n w0 X Q c L' F) : W P dF n w0 X Q c L F := fun a w hf hm => h a w (hf.sub hL) hm

theorem T.nil {ops : Array Oper} (h : Ex dF n w0 X .normal Q L F) : T P dF n w0 X Q ops [] L F := fun a w hf hm => wpList_nil (h a w hf hm)

/-- The next piece of code. -/
theorem Ex.next {y : Code} (h : W P dF n w0 X Q y L F) : Ex dF n w0 X .normal (Exit.then (y.wp P Q) Q) L F := h
theorem Ex.then_ret {K : Act → World → Prop} (h : Ex dF n w0 X .ret Q L F) : Ex dF n w0 X .ret (Exit.then K Q) L F := h
theorem Ex.then_exit {K : Act → World → Prop} {id : Nat} (h : Ex dF n w0 X (.exit id) Q L F) : Ex dF n w0 X (.exit id) (Exit.then K Q) L F := h
theorem Ex.in_normal {id : Nat} (h : Ex dF n w0 X .normal Q L F) : Ex dF n w0 X .normal (Exit.inBlock id Q) L F := h
theorem Ex.in_ret {id : Nat} (h : Ex dF n w0 X .ret Q L F) : Ex dF n w0 X .ret (Exit.inBlock id Q) L F := h
theorem Ex.in_here {id : Nat} (h : Ex dF n w0 X .normal Q L F) : Ex dF n w0 X (.exit id) (Exit.inBlock id Q) L F := fun a w hf hm => by
  simp only [Exit.inBlock, if_true]; exact h a w hf hm
theorem Ex.in_there {id id' : Nat} (hne : Nat.beq id' id = false) (h : Ex dF n w0 X (.exit id') Q L F) : Ex dF n w0 X (.exit id') (Exit.inBlock id Q) L F := fun a w hf hm => by
  have : id' ≠ id := by intro e; subst e; simp at hne
  simp only [Exit.inBlock, this, if_false]; exact h a w hf hm

/-- What holds where ways meet: for some y of which 'inv' is told. -/
def Met {α : Type} (dF : List Deferred) (n : Nat) (w0 : World) (X : List Nat) (Li : α → Slots) (Fi : α → List Blk) (inv : α → Prop) (a : Act) (w : World) : Prop :=
  ∃ y, inv y ∧ Fr dF n (Li y) a ∧ Mem w0 X (Fi y) w
theorem W.meet {α : Type} {x c : Code} (Li : α → Slots) (Fi : α → List Blk) (inv : α → Prop)
    (h : W P dF n w0 X (Exit.then (Met dF n w0 X Li Fi inv) Q) x L F) (g : ∀ y, inv y → W P dF n w0 X Q c (Li y) (Fi y)) : W P dF n w0 X Q (.seq x c) L F := fun a w hf hm =>
  wp_seq (wp_mono (h a w hf hm) fun e a w q => by
    cases e with
    | normal => obtain ⟨y, hy, hf', hm'⟩ := q; exact g y hy a w hf' hm'
    | exit id => exact q
    | goto l => exact q
    | ret => exact q
    | panic c => exact q
    | outgrown => exact q)
theorem Ex.met {α : Type} {Li : α → Slots} {Fi : α → List Blk} {inv : α → Prop} (m : List Bool) (y : α) (hy : inv y) (hL : Sub (Li y) L) (hF : pick m F = Fi y) :
    Ex dF n w0 X .normal (Exit.then (Met dF n w0 X Li Fi inv) Q) L F :=
  fun _ _ hf hm => ⟨y, hy, hf.sub hL, hF ▸ hm.sub (pick_sub m F)⟩

/-- What holds behind a round: the same as at its head, for some y of a lower 'mu'. -/
def Again {α : Type} (dF : List Deferred) (n : Nat) (w0 : World) (X : List Nat) (Li : α → Slots) (Fi : α → List Blk) (inv : α → Prop) (mu : α → Nat) (x : α) (a : Act) (w : World) : Prop :=
  ∃ k, k < mu x ∧ ∃ y, mu y = k ∧ inv y ∧ Fr dF n (Li y) a ∧ Mem w0 X (Fi y) w
/-- A loop: what holds of the slots and of the blocks at a round's head, for some x of which 'inv' is told; each round lowers 'mu'. -/
theorem W.loop {α : Type} {body : Code} (Li : α → Slots) (Fi : α → List Blk) (inv : α → Prop) (mu : α → Nat) (m : List Bool) (x0 : α) (h0 : inv x0) (hL : Sub (Li x0) L) (hF : pick m F = Fi x0)
    (round : ∀ x, inv x → W P dF n w0 X (Exit.then (Again dF n w0 X Li Fi inv mu x) Q) body (Li x) (Fi x)) : W P dF n w0 X Q (.loop body) L F := by
  intro a w hf hm
  refine wp_loop_ghost (fun k a w => ∃ y, mu y = k ∧ inv y ∧ Fr dF n (Li y) a ∧ Mem w0 X (Fi y) w) (mu x0) ⟨x0, rfl, h0, hf.sub hL, hF ▸ hm.sub (pick_sub m F)⟩ ?_
  rintro k a w ⟨y, rfl, hy, hfy, hmy⟩
  exact round y hy a w hfy hmy

theorem Ex.again {α : Type} {Li : α → Slots} {Fi : α → List Blk} {inv : α → Prop} {mu : α → Nat} {x : α} (m : List Bool) (y : α) (hmu : mu y < mu x) (hy : inv y) (hL : Sub (Li y) L) (hF : pick m F = Fi y) :
    Ex dF n w0 X .normal (Exit.then (Again dF n w0 X Li Fi inv mu x) Q) L F :=
  fun _ _ hf hm => ⟨mu y, hmu, y, rfl, hy, hf.sub hL, hF ▸ hm.sub (pick_sub m F)⟩

/-- The slots of a call's head. -/
def heads : Nat → List Value → Slots
  | _, [] => []
  | i, v :: r => (i, v) :: heads (i + 1) r

theorem look_heads : ∀ (l : List Value) (i t : Nat) (v : Value), look (heads i l) t = some v → i ≤ t ∧ l[t - i]? = some v
  | [], _, _, _, h => by simp [heads, look] at h
  | u :: r, i, t, v, h => by
    simp only [heads, look] at h
    by_cases hi : i = t
    · subst hi
      simp at h
      subst h
      simp
    · have : Nat.beq i t = false := nbeq hi
      rw [this] at h
      obtain ⟨h1, h2⟩ := look_heads r (i + 1) t v h
      refine ⟨by omega, ?_⟩
      rw [show t - i = (t - (i + 1)) + 1 from by omega, List.getElem?_cons_succ]
      exact h2

/-- A call of a function with a body. -/
theorem spec_of {f : FuncId} {fn : Func} {c : Code} {args : List Value} {post : Value → List Blk → Prop} (n : Nat) (hf : P.funcs[f]? = some fn) (hb : fn.body = some c) (hnn : fn.ntmps = n) (hn : Nat.ble args.length n = true)
    (h : W P [] n w0 X (bodyPost P fn fun e w' => ∃ v F, e = .returned v ∧ Mem w0 X F w' ∧ post v F) c (heads 0 args) []) : Does P f args.toArray w0 X post := by
  subst hnn
  refine calls_of_wp hf hb (h _ w0 ⟨?_, rfl, ?_⟩ (Mem.start w0 X))
  · have := Nat.le_of_ble_eq_true hn
    simp; omega
  · intro t v hl
    obtain ⟨_, h2⟩ := look_heads args 0 t v hl
    simp only [Nat.sub_zero] at h2
    have hlt : t < args.length := (List.getElem?_eq_some_iff.1 h2).1
    rw [Array.getElem?_append_left (by simpa using hlt)]
    simpa using h2

/-- The end: one result in a slot. -/
theorem Ex.out1 {fn : Func} {t : Tmp} {v : Value} {post : Value → List Blk → Prop} (m : List Bool) (hr : fn.results = #[.tmp t]) (hv : look L t = some v) (hp : post v (pick m F)) :
    Ex [] n w0 X .ret (bodyPost P fn fun e w' => ∃ v F, e = .returned v ∧ Mem w0 X F w' ∧ post v F) L F := by
  intro a w hf hm
  refine ⟨hf.defers, v, ?_, v, pick m F, rfl, hm.sub (pick_sub m F), hp⟩
  have := hf.holds t v hv
  rw [results_tmp hr, Array.getD_eq_getD_getElem?, this]
  rfl

theorem Ex.out2 {fn : Func} {t u : Tmp} {v x : Value} {post : Value → List Blk → Prop} (m : List Bool) (hr : fn.results = #[.tmp t, .tmp u]) (hv : look L t = some v) (hx : look L u = some x)
    (hp : post (.tuple #[v, x]) (pick m F)) : Ex [] n w0 X .ret (bodyPost P fn fun e w' => ∃ v F, e = .returned v ∧ Mem w0 X F w' ∧ post v F) L F := by
  intro a w hf hm
  refine ⟨hf.defers, .tuple #[v, x], ?_, _, pick m F, rfl, hm.sub (pick_sub m F), hp⟩
  have h1 := hf.holds t v hv
  have h2 := hf.holds u x hx
  rw [results_tmp2 hr, Array.getD_eq_getD_getElem?, Array.getD_eq_getD_getElem?, h1, h2]
  rfl

theorem Ex.out3 {fn : Func} {t u s : Tmp} {v x y : Value} {post : Value → List Blk → Prop} (m : List Bool) (hr : fn.results = #[.tmp t, .tmp u, .tmp s]) (hv : look L t = some v) (hx : look L u = some x)
    (hy : look L s = some y) (hp : post (.tuple #[v, x, y]) (pick m F)) : Ex [] n w0 X .ret (bodyPost P fn fun e w' => ∃ v F, e = .returned v ∧ Mem w0 X F w' ∧ post v F) L F := by
  intro a w hf hm
  refine ⟨hf.defers, .tuple #[v, x, y], ?_, _, pick m F, rfl, hm.sub (pick_sub m F), hp⟩
  have h1 := hf.holds t v hv
  have h2 := hf.holds u x hx
  have h3 := hf.holds s y hy
  simp [results, hr, Array.getD_eq_getD_getElem?, h1, h2, h3]

theorem Ex.out0 {fn : Func} {post : Value → List Blk → Prop} (m : List Bool) (hr : fn.results = #[]) (hp : post (.tuple #[]) (pick m F)) :
    Ex [] n w0 X .ret (bodyPost P fn fun e w' => ∃ v F, e = .returned v ∧ Mem w0 X F w' ∧ post v F) L F := by
  intro a w hf hm
  exact ⟨hf.defers, .tuple #[], results_none hr _ _ _, _, pick m F, rfl, hm.sub (pick_sub m F), hp⟩
theorem Ex.end0 {fn : Func} {post : Value → List Blk → Prop} (m : List Bool) (hr : fn.results = #[]) (hp : post (.tuple #[]) (pick m F)) :
    Ex [] n w0 X .normal (bodyPost P fn fun e w' => ∃ v F, e = .returned v ∧ Mem w0 X F w' ∧ post v F) L F := by
  intro a w hf hm
  exact ⟨hf.defers, .tuple #[], results_none hr _ _ _, _, pick m F, rfl, hm.sub (pick_sub m F), hp⟩
end
end Go.X
