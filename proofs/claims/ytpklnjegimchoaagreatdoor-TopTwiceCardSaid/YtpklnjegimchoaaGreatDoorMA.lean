/-
  Own rules for walks through code, of no program.
-/
import Derived.WalkKit
import Derived.WalkSpells
import Derived.WalkLawsBesides
import Derived.Deep.LoopGhost
import Derived.OrdersHeld
import Derived.Deep.RegionHeld3
import Derived.ChangeKeysEq
import Derived.Lib.AppendZeros
import Derived.Lib.AppendZerosOnto
import Derived.Great.FillDense
import Derived.Laws.Pointers
import Derived.Lib.Tables
import Derived.Laws.Cover3
import Derived.Laws.BitsAllLaws
import Derived.Defers
import Derived.Recover
import Derived.WideLaws
import Derived.Laws.StructEq
namespace Go.X
open Go
variable {dF : List Deferred}
abbrev Slots := List (Nat × Value)
def look : Slots → Nat → Option Value
  | [], _ => none
  | (k, v) :: r, t => bif Nat.beq k t then some v else look r t
theorem nbeq {a b : Nat} (h : a ≠ b) : Nat.beq a b = false := by
  cases hb : Nat.beq a b with
  | false => rfl
  | true => exact absurd (Nat.eq_of_beq_eq_true hb) h
structure Fr (dF : List Deferred) (n : Nat) (L : Slots) (a : Act) : Prop where
  size : a.tmps.size = n
  defers : a.defers = dF
  holds : ∀ t v, look L t = some v → a.tmps[t]? = some v
def ev (L : Slots) : Operand → Option Value
  | .tmp t => look L t
  | .const v => some v
  | .global g => some (.pointer (some ⟨g, 0, none⟩))
  | .func f => some (.func (.func f) #[] #[])
theorem Fr.eval {n : Nat} {L : Slots} {a : Act} (h : Fr dF n L a) {x : Operand} {v : Value} (hx : ev L x = some v) : a.eval x = v := by
  cases x with
  | tmp t => simp only [Act.eval, Array.getD_eq_getD_getElem?]; rw [h.holds t v hx]; rfl
  | const u => simpa [ev, Act.eval] using hx
  | global g => simpa [ev, Act.eval] using hx
  | func f => simpa [ev, Act.eval] using hx
theorem Fr.put {n : Nat} {L : Slots} {a : Act} (h : Fr dF n L a) {d : Nat} (v : Value) (hd : Nat.blt d n = true) : Fr dF n ((d, v) :: L) (a.put (some d) v) := by
  have hd' : d < n := Nat.le_of_ble_eq_true hd
  refine ⟨by simp [Act.put, h.size], h.defers, fun t u hu => ?_⟩
  simp only [look] at hu
  simp only [Act.put]
  by_cases hdt : d = t
  · subst hdt
    simp at hu
    subst hu
    simp [h.size, hd']
  · rw [Array.getElem?_setIfInBounds_ne hdt]
    have : Nat.beq d t = false := nbeq hdt
    rw [this] at hu
    exact h.holds t u hu
def Sub : Slots → Slots → Prop
  | [], _ => True
  | (k, v) :: r, L => look L k = some v ∧ Sub r L
theorem look_of_sub {L' L : Slots} (h : Sub L' L) {t : Nat} {v : Value} (hl : look L' t = some v) : look L t = some v := by
  induction L' with
  | nil => simp [look] at hl
  | cons p r ih =>
    obtain ⟨k, u⟩ := p
    simp only [look] at hl
    by_cases hp : k = t
    · subst hp
      simp at hl
      subst hl
      exact h.1
    · have : Nat.beq k t = false := nbeq hp
      rw [this] at hl
      exact ih h.2 hl
theorem Fr.sub {n : Nat} {L L' : Slots} {a : Act} (h : Fr dF n L a) (hs : Sub L' L) : Fr dF n L' a :=
  ⟨h.size, h.defers, fun t v hl => h.holds t v (look_of_sub hs hl)⟩
structure Blk where
  no : Option Nat
  cells : List Value
  ty : TypeId
  fz : Nat × Nat
def Blk.here (b : Blk) (w : World) : Prop :=
  match b.no with
  | some k => w.heap[k]? = some (.cells b.cells.toArray b.ty b.fz)
  | none => b.cells = []
structure Kept (X : List Nat) (w0 w : World) : Prop where
  os : w.os = w0.os
  tape : w.tape = w0.tape
  output : w.output = w0.output
  size : w0.heap.size ≤ w.heap.size
  block : ∀ k, k < w0.heap.size → k ∉ X → w.heap[k]? = w0.heap[k]?
theorem Kept.refl (X : List Nat) (w : World) : Kept X w w := ⟨rfl, rfl, rfl, Nat.le_refl _, fun _ _ _ => rfl⟩
theorem Kept.trans {X : List Nat} {a b c : World} (h : Kept X a b) (g : Kept X b c) : Kept X a c :=
  ⟨g.os.trans h.os, g.tape.trans h.tape, g.output.trans h.output, Nat.le_trans h.size g.size, fun k hk hx => (g.block k (Nat.lt_of_lt_of_le hk h.size) hx).trans (h.block k hk hx)⟩
theorem Kept.mono {X Y : List Nat} {a b : World} (h : Kept X a b) (hs : ∀ k, k ∈ X → k ∈ Y) : Kept Y a b :=
  ⟨h.os, h.tape, h.output, h.size, fun k hk hx => h.block k hk fun hm => hx (hs k hm)⟩
theorem Kept.of_nil {X : List Nat} {a b : World} (h : Kept [] a b) : Kept X a b := h.mono (fun _ hk => by cases hk)
theorem Kept.drew (X : List Nat) (w : World) : Kept X w w.drew := ⟨rfl, rfl, rfl, Nat.le_refl _, fun _ _ _ => rfl⟩
structure Mem (w0 : World) (X : List Nat) (F : List Blk) (w : World) : Prop where
  kept : Kept X w0 w
  has : ∀ b ∈ F, b.here w
  mine : ∀ b ∈ F, ∀ k, b.no = some k → w0.heap.size ≤ k ∨ k ∈ X
  apart : F.Pairwise fun b c => ∀ k, b.no = some k → c.no ≠ some k
theorem Mem.drew {w0 : World} {X : List Nat} {F : List Blk} {w : World} (h : Mem w0 X F w) : Mem w0 X F w.drew :=
  ⟨h.kept.trans (Kept.drew X w), fun b hb => h.has b hb, h.mine, h.apart⟩
theorem Mem.start (w : World) (X : List Nat) : Mem w X [] w := ⟨Kept.refl X w, fun _ h => (by cases h), fun _ h => (by cases h), List.Pairwise.nil⟩
theorem Mem.sub {w0 : World} {X : List Nat} {F F' : List Blk} {w : World} (h : Mem w0 X F w) (hs : F'.Sublist F) : Mem w0 X F' w :=
  ⟨h.kept, fun b hb => h.has b (hs.subset hb), fun b hb => h.mine b (hs.subset hb), h.apart.sublist hs⟩
def pick : List Bool → List Blk → List Blk
  | [], F => F
  | true :: m, b :: F => b :: pick m F
  | false :: m, _ :: F => pick m F
  | _ :: _, [] => []
theorem pick_sub : ∀ (m : List Bool) (F : List Blk), (pick m F).Sublist F
  | [], F => List.Sublist.refl F
  | true :: m, b :: F => (pick_sub m F).cons_cons b
  | false :: m, b :: F => (pick_sub m F).cons b
  | true :: _, [] => List.nil_sublist []
  | false :: _, [] => List.nil_sublist []
theorem Blk.lt {b : Blk} {w : World} (h : b.here w) {k : Nat} (hk : b.no = some k) : k < w.heap.size := by
  unfold Blk.here at h
  rw [hk] at h
  exact (Array.getElem?_eq_some_iff.1 h).1
theorem Blk.kept {b : Blk} {w w' : World} {X : List Nat} (h : b.here w) (hk : Kept X w w') (hx : ∀ k, b.no = some k → k ∉ X) : b.here w' := by
  have hlt := fun k => @Blk.lt b w h k
  unfold Blk.here at *
  cases hn : b.no with
  | none => rw [hn] at h; exact h
  | some k => rw [hn] at h; simp only; rw [hk.block k (hlt k hn) (hx k hn)]; exact h
theorem Mem.join {w0 w w' : World} {X X' : List Nat} {F F' : List Blk} (h : Mem w0 X F w) (g : Mem w X' F' w')
    (hx : ∀ k, k ∈ X' → k ∈ X) (ho : ∀ b ∈ F, ∀ k, b.no = some k → k ∉ X') : Mem w0 X (F ++ F') w' := by
  refine ⟨h.kept.trans (g.kept.mono hx), ?_, ?_, ?_⟩
  · intro b hb
    rcases List.mem_append.1 hb with hb | hb
    · exact Blk.kept (h.has b hb) g.kept (ho b hb)
    · exact g.has b hb
  · intro b hb k hk
    rcases List.mem_append.1 hb with hb | hb
    · exact h.mine b hb k hk
    · rcases g.mine b hb k hk with h1 | h1
      · exact .inl (Nat.le_trans h.kept.size h1)
      · exact .inr (hx k h1)
  · rw [List.pairwise_append]
    refine ⟨h.apart, g.apart, fun b hb c hc k hk hck => ?_⟩
    rcases g.mine c hc k hck with h1 | h1
    · exact absurd (Blk.lt (h.has b hb) hk) (by omega)
    · exact ho b hb k hk h1
theorem Mem.joinX {w0 w w' : World} {X X' : List Nat} {F G F' : List Blk} (h : Mem w0 X F w) (g : Mem w X' F' w') (hs : G.Sublist F)
    (hx : ∀ k, k ∈ X' → k ∈ X ∨ ∃ b ∈ F, b.no = some k) (ho : ∀ b ∈ G, ∀ k, b.no = some k → k ∉ X') : Mem w0 X (G ++ F') w' := by
  have hX : ∀ k, k ∈ X' → w0.heap.size ≤ k ∨ k ∈ X := fun k hk => by
    rcases hx k hk with h1 | ⟨b, hb, hbk⟩
    · exact .inr h1
    · exact h.mine b hb k hbk
  refine ⟨⟨g.kept.os.trans h.kept.os, g.kept.tape.trans h.kept.tape, g.kept.output.trans h.kept.output, Nat.le_trans h.kept.size g.kept.size, fun k hk hkx => ?_⟩, ?_, ?_, ?_⟩
  · have hnx : k ∉ X' := fun hm => by
      rcases hX k hm with h1 | h1
      · omega
      · exact hkx h1
    exact (g.kept.block k (Nat.lt_of_lt_of_le hk h.kept.size) hnx).trans (h.kept.block k hk hkx)
  · intro b hb
    rcases List.mem_append.1 hb with hb | hb
    · exact Blk.kept (h.has b (hs.subset hb)) g.kept (ho b hb)
    · exact g.has b hb
  · intro b hb k hk
    rcases List.mem_append.1 hb with hb | hb
    · exact h.mine b (hs.subset hb) k hk
    · rcases g.mine b hb k hk with h1 | h1
      · exact .inl (Nat.le_trans h.kept.size h1)
      · exact hX k h1
  · rw [List.pairwise_append]
    refine ⟨h.apart.sublist hs, g.apart, fun b hb c hc k hk hck => ?_⟩
    rcases g.mine c hc k hck with h1 | h1
    · exact absurd (Blk.lt (h.has b (hs.subset hb)) hk) (by omega)
    · exact ho b hb k hk h1
def Does (P : Program) (f : FuncId) (args : Array Value) (w : World) (X : List Nat) (post : Value → List Blk → Prop) : Prop :=
  Calls P f args w fun e w' => ∃ v F, e = .returned v ∧ Mem w X F w' ∧ post v F
theorem Does.mono {P : Program} {f : FuncId} {args : Array Value} {w : World} {X : List Nat} {post post' : Value → List Blk → Prop} (h : Does P f args w X post)
    (hp : ∀ v F, post v F → post' v F) : Does P f args w X post' :=
  Calls.mono h fun _ _ ⟨v, F, he, hm, hq⟩ => ⟨v, F, he, hm, hp v F hq⟩
section
variable {P : Program} {n : Nat} {w0 : World} {X : List Nat} {Q : Exit → Act → World → Prop} {L : Slots} {F : List Blk}
def W (P : Program) (dF : List Deferred) (n : Nat) (w0 : World) (X : List Nat) (Q : Exit → Act → World → Prop) (c : Code) (L : Slots) (F : List Blk) : Prop :=
  ∀ a w, Fr dF n L a → Mem w0 X F w → c.wp P Q a w
def T (P : Program) (dF : List Deferred) (n : Nat) (w0 : World) (X : List Nat) (Q : Exit → Act → World → Prop) (ops : Array Oper) (rest : List Oper) (L : Slots) (F : List Blk) : Prop :=
  ∀ a w, Fr dF n L a → Mem w0 X F w → wpList P ops Q rest a w
def Ex (dF : List Deferred) (n : Nat) (w0 : World) (X : List Nat) (e : Exit) (Q : Exit → Act → World → Prop) (L : Slots) (F : List Blk) : Prop :=
  ∀ a w, Fr dF n L a → Mem w0 X F w → Q e a w
theorem W.seq {x y : Code} (h : W P dF n w0 X (Exit.then (y.wp P Q) Q) x L F) : W P dF n w0 X Q (.seq x y) L F := fun a w hf hm => wp_seq (h a w hf hm)
theorem W.region {id : Nat} {ops : List Oper} (h : T P dF n w0 X Q ops.toArray ops L F) : W P dF n w0 X Q (.region id ops.toArray false) L F := fun a w hf hm => wp_region_lit (h a w hf hm)
theorem W.block {id : Nat} {c : Code} (h : W P dF n w0 X (Exit.inBlock id Q) c L F) : W P dF n w0 X Q (.block id c) L F := fun a w hf hm => wp_block (h a w hf hm)
theorem W.skip (h : Ex dF n w0 X .normal Q L F) : W P dF n w0 X Q .skip L F := fun a w hf hm => wp_skip (h a w hf hm)
theorem W.exit {id : Nat} (h : Ex dF n w0 X (.exit id) Q L F) : W P dF n w0 X Q (.exit id) L F := fun a w hf hm => wp_exit (h a w hf hm)
theorem W.ret (h : Ex dF n w0 X .ret Q L F) : W P dF n w0 X Q .ret L F := fun a w hf hm => wp_ret (h a w hf hm)
theorem W.cond {c : Operand} {x y : Code} (b : Bool) (hc : ev L c = some (.bool b)) (ht : b = true → W P dF n w0 X Q x L F) (he : b = false → W P dF n w0 X Q y L F) :
    W P dF n w0 X Q (.cond c x y) L F := fun a w hf hm => wp_cond_split (hf.eval hc) (fun h => ht h a w hf hm) (fun h => he h a w hf hm)
theorem W.condT {c : Operand} {x y : Code} (hc : ev L c = some (.bool true)) (ht : W P dF n w0 X Q x L F) : W P dF n w0 X Q (.cond c x y) L F :=
  fun a w hf hm => wp_cond_true (hf.eval hc) (ht a w hf hm)
theorem W.condF {c : Operand} {x y : Code} (hc : ev L c = some (.bool false)) (he : W P dF n w0 X Q y L F) : W P dF n w0 X Q (.cond c x y) L F :=
  fun a w hf hm => wp_cond_false (hf.eval hc) (he a w hf hm)
theorem W.less {c : Code} {L' : Slots} (m : List Bool) (hL : Sub L' L) (h : W P dF n w0 X Q c L' (pick m F)) : W P dF n w0 X Q c L F :=
  fun a w hf hm => h a w (hf.sub hL) (hm.sub (pick_sub m F))
theorem W.slots {c : Code} {L' : Slots} (hL : Sub L' L) (h : W P dF n w0 X Q c L' F) : W P dF n w0 X Q c L F := fun a w hf hm => h a w (hf.sub hL) hm
theorem T.nil {ops : Array Oper} (h : Ex dF n w0 X .normal Q L F) : T P dF n w0 X Q ops [] L F := fun a w hf hm => wpList_nil (h a w hf hm)
theorem Ex.next {y : Code} (h : W P dF n w0 X Q y L F) : Ex dF n w0 X .normal (Exit.then (y.wp P Q) Q) L F := h
theorem Ex.then_ret {K : Act → World → Prop} (h : Ex dF n w0 X .ret Q L F) : Ex dF n w0 X .ret (Exit.then K Q) L F := h
theorem Ex.then_exit {K : Act → World → Prop} {id : Nat} (h : Ex dF n w0 X (.exit id) Q L F) : Ex dF n w0 X (.exit id) (Exit.then K Q) L F := h
theorem Ex.in_normal {id : Nat} (h : Ex dF n w0 X .normal Q L F) : Ex dF n w0 X .normal (Exit.inBlock id Q) L F := h
theorem Ex.in_ret {id : Nat} (h : Ex dF n w0 X .ret Q L F) : Ex dF n w0 X .ret (Exit.inBlock id Q) L F := h
theorem Ex.in_here {id : Nat} (h : Ex dF n w0 X .normal Q L F) : Ex dF n w0 X (.exit id) (Exit.inBlock id Q) L F := fun a w hf hm => by
  simp only [Exit.inBlock, if_true]; exact h a w hf hm
def Met {α : Type} (dF : List Deferred) (n : Nat) (w0 : World) (X : List Nat) (Li : α → Slots) (Fi : α → List Blk) (inv : α → Prop) (a : Act) (w : World) : Prop :=
  ∃ y, inv y ∧ Fr dF n (Li y) a ∧ Mem w0 X (Fi y) w
theorem W.meet {α : Type} {x c : Code} (Li : α → Slots) (Fi : α → List Blk) (inv : α → Prop)
    (h : W P dF n w0 X (Exit.then (Met dF n w0 X Li Fi inv) Q) x L F) (g : ∀ y, inv y → W P dF n w0 X Q c (Li y) (Fi y)) : W P dF n w0 X Q (.seq x c) L F := fun a w hf hm =>
  wp_seq (wp_mono (h a w hf hm) fun e a w q => by
    cases e with
    | normal => obtain ⟨y, hy, hf', hm'⟩ := q; exact g y hy a w hf' hm'
    | exit id => exact q
    | goto l => exact q
    | ret => exact q
    | panic c => exact q
    | outgrown => exact q)
theorem Ex.met {α : Type} {Li : α → Slots} {Fi : α → List Blk} {inv : α → Prop} (m : List Bool) (y : α) (hy : inv y) (hL : Sub (Li y) L) (hF : pick m F = Fi y) :
    Ex dF n w0 X .normal (Exit.then (Met dF n w0 X Li Fi inv) Q) L F :=
  fun _ _ hf hm => ⟨y, hy, hf.sub hL, hF ▸ hm.sub (pick_sub m F)⟩
def Again {α : Type} (dF : List Deferred) (n : Nat) (w0 : World) (X : List Nat) (Li : α → Slots) (Fi : α → List Blk) (inv : α → Prop) (mu : α → Nat) (x : α) (a : Act) (w : World) : Prop :=
  ∃ k, k < mu x ∧ ∃ y, mu y = k ∧ inv y ∧ Fr dF n (Li y) a ∧ Mem w0 X (Fi y) w
theorem W.loop {α : Type} {body : Code} (Li : α → Slots) (Fi : α → List Blk) (inv : α → Prop) (mu : α → Nat) (m : List Bool) (x0 : α) (h0 : inv x0) (hL : Sub (Li x0) L) (hF : pick m F = Fi x0)
    (round : ∀ x, inv x → W P dF n w0 X (Exit.then (Again dF n w0 X Li Fi inv mu x) Q) body (Li x) (Fi x)) : W P dF n w0 X Q (.loop body) L F := by
  intro a w hf hm
  refine wp_loop_ghost (fun k a w => ∃ y, mu y = k ∧ inv y ∧ Fr dF n (Li y) a ∧ Mem w0 X (Fi y) w) (mu x0) ⟨x0, rfl, h0, hf.sub hL, hF ▸ hm.sub (pick_sub m F)⟩ ?_
  rintro k a w ⟨y, rfl, hy, hfy, hmy⟩
  exact round y hy a w hfy hmy
theorem Ex.again {α : Type} {Li : α → Slots} {Fi : α → List Blk} {inv : α → Prop} {mu : α → Nat} {x : α} (m : List Bool) (y : α) (hmu : mu y < mu x) (hy : inv y) (hL : Sub (Li y) L) (hF : pick m F = Fi y) :
    Ex dF n w0 X .normal (Exit.then (Again dF n w0 X Li Fi inv mu x) Q) L F :=
  fun _ _ hf hm => ⟨mu y, hmu, y, rfl, hy, hf.sub hL, hF ▸ hm.sub (pick_sub m F)⟩
def heads : Nat → List Value → Slots
  | _, [] => []
  | i, v :: r => (i, v) :: heads (i + 1) r
theorem look_heads : ∀ (l : List Value) (i t : Nat) (v : Value), look (heads i l) t = some v → i ≤ t ∧ l[t - i]? = some v
  | [], _, _, _, h => by simp [heads, look] at h
  | u :: r, i, t, v, h => by
    simp only [heads, look] at h
    by_cases hi : i = t
    · subst hi
      simp at h
      subst h
      simp
    · have : Nat.beq i t = false := nbeq hi
      rw [this] at h
      obtain ⟨h1, h2⟩ := look_heads r (i + 1) t v h
      refine ⟨by omega, ?_⟩
      rw [show t - i = (t - (i + 1)) + 1 from by omega, List.getElem?_cons_succ]
      exact h2
theorem spec_of {f : FuncId} {fn : Func} {c : Code} {args : List Value} {post : Value → List Blk → Prop} (n : Nat) (hf : P.funcs[f]? = some fn) (hb : fn.body = some c) (hnn : fn.ntmps = n) (hn : Nat.ble args.length n = true)
    (h : W P [] n w0 X (bodyPost P fn fun e w' => ∃ v F, e = .returned v ∧ Mem w0 X F w' ∧ post v F) c (heads 0 args) []) : Does P f args.toArray w0 X post := by
  subst hnn
  refine calls_of_wp hf hb (h _ w0 ⟨?_, rfl, ?_⟩ (Mem.start w0 X))
  · have := Nat.le_of_ble_eq_true hn
    simp; omega
  · intro t v hl
    obtain ⟨_, h2⟩ := look_heads args 0 t v hl
    simp only [Nat.sub_zero] at h2
    have hlt : t < args.length := (List.getElem?_eq_some_iff.1 h2).1
    rw [Array.getElem?_append_left (by simpa using hlt)]
    simpa using h2
theorem Ex.out1 {fn : Func} {t : Tmp} {v : Value} {post : Value → List Blk → Prop} (m : List Bool) (hr : fn.results = #[.tmp t]) (hv : look L t = some v) (hp : post v (pick m F)) :
    Ex [] n w0 X .ret (bodyPost P fn fun e w' => ∃ v F, e = .returned v ∧ Mem w0 X F w' ∧ post v F) L F := by
  intro a w hf hm
  refine ⟨hf.defers, v, ?_, v, pick m F, rfl, hm.sub (pick_sub m F), hp⟩
  have := hf.holds t v hv
  rw [results_tmp hr, Array.getD_eq_getD_getElem?, this]
  rfl
theorem Ex.out2 {fn : Func} {t u : Tmp} {v x : Value} {post : Value → List Blk → Prop} (m : List Bool) (hr : fn.results = #[.tmp t, .tmp u]) (hv : look L t = some v) (hx : look L u = some x)
    (hp : post (.tuple #[v, x]) (pick m F)) : Ex [] n w0 X .ret (bodyPost P fn fun e w' => ∃ v F, e = .returned v ∧ Mem w0 X F w' ∧ post v F) L F := by
  intro a w hf hm
  refine ⟨hf.defers, .tuple #[v, x], ?_, _, pick m F, rfl, hm.sub (pick_sub m F), hp⟩
  have h1 := hf.holds t v hv
  have h2 := hf.holds u x hx
  rw [results_tmp2 hr, Array.getD_eq_getD_getElem?, Array.getD_eq_getD_getElem?, h1, h2]
  rfl
theorem Ex.end0 {fn : Func} {post : Value → List Blk → Prop} (m : List Bool) (hr : fn.results = #[]) (hp : post (.tuple #[]) (pick m F)) :
    Ex [] n w0 X .normal (bodyPost P fn fun e w' => ∃ v F, e = .returned v ∧ Mem w0 X F w' ∧ post v F) L F := by
  intro a w hf hm
  exact ⟨hf.defers, .tuple #[], results_none hr _ _ _, _, pick m F, rfl, hm.sub (pick_sub m F), hp⟩
end
end Go.X
namespace Go.X
open Go
variable {dF : List Deferred}
def scalar (P : Program) (t : TypeId) : Bool :=
  match P.underlying t with
  | some (.struct _) | some (.array _ _) | none => false
  | _ => (P.info? t).map (·.size) == some 1
def arr (P : Program) (t : TypeId) : Option (Nat × TypeId × Nat) :=
  match P.underlying t with
  | some (.array n e) => (P.info? e).map fun i => (n, e, i.size)
  | _ => none
def slc (P : Program) (t : TypeId) : Option (TypeId × Nat × Nat) :=
  match P.underlying t with
  | some (.slice e) => (P.info? e).map fun i => (e, i.size, i.bytes)
  | _ => none
def wide (P : Program) (t : TypeId) : Option Nat :=
  match P.underlying t with
  | some (.struct _) | some (.array _ _) => (P.info? t).map (·.size)
  | _ => none
def fld (P : Program) (t : TypeId) (i : Nat) : Option (Nat × TypeId) :=
  match P.underlying t with
  | some (.struct fs) => (fs[i]?).bind fun f => if ((P.info? f.type).map fun i => i.size == 0).getD true then none else some (f.offset, f.type)
  | _ => none
def zer (P : Program) (t : TypeId) : Option (List Value) := ((P.info? t).bind (·.zero)).map (·.cells.toList)
section
variable {P : Program} {w : World}
theorem arr_parts {t : TypeId} {n : Nat} {e : TypeId} {s : Nat} (h : arr P t = some (n, e, s)) : P.underlying t = some (.array n e) ∧ ∃ i, P.info? e = some i ∧ i.size = s := by
  unfold arr at h
  split at h
  · rename_i m e' hu
    obtain ⟨i, hi, he⟩ := Option.map_eq_some_iff.1 h
    simp only [Prod.mk.injEq] at he
    obtain ⟨rfl, rfl, rfl⟩ := he
    exact ⟨hu, i, hi, rfl⟩
  · cases h
theorem slc_parts {t e : TypeId} {s b : Nat} (h : slc P t = some (e, s, b)) : P.underlying t = some (.slice e) ∧ ∃ i, P.info? e = some i ∧ i.size = s ∧ i.bytes = b := by
  unfold slc at h
  split at h
  · rename_i e' hu
    obtain ⟨i, hi, he⟩ := Option.map_eq_some_iff.1 h
    simp only [Prod.mk.injEq] at he
    obtain ⟨rfl, rfl, rfl⟩ := he
    exact ⟨hu, i, hi, rfl, rfl⟩
  · cases h
theorem fld_parts {t ft : TypeId} {i o : Nat} (h : fld P t i = some (o, ft)) : ∃ fs f j, P.underlying t = some (.struct fs) ∧ fs[i]? = some f ∧ f.offset = o ∧ f.type = ft ∧ P.info? ft = some j ∧ j.size ≠ 0 := by
  unfold fld at h
  split at h
  · rename_i fs hu
    obtain ⟨f, hf, h2⟩ := Option.bind_eq_some_iff.1 h
    cases hj : P.info? f.type with
    | none => rw [hj] at h2; simp at h2
    | some j =>
      rw [hj] at h2
      simp only [Option.map_some, Option.getD_some] at h2
      by_cases hz : j.size = 0
      · simp [hz] at h2
      · simp [hz] at h2
        obtain ⟨rfl, rfl⟩ := h2
        exact ⟨fs, f, j, hu, hf, rfl, rfl, hj, hz⟩
  · cases h
theorem zer_parts {t : TypeId} {cs : List Value} (h : zer P t = some cs) : ∃ i z, P.info? t = some i ∧ i.zero = some z ∧ z.cells.toList = cs := by
  unfold zer at h
  obtain ⟨z, hz, hc⟩ := Option.map_eq_some_iff.1 h
  obtain ⟨i, hi, hzz⟩ := Option.bind_eq_some_iff.1 hz
  exact ⟨i, z, hi, hzz, hc⟩
theorem run_loadVar_scalar {t : TypeId} (h : scalar P t = true) (a : Addr) (v : Value) (hc : w.cell? a = some v) : (loadVar t a).run P w = .ok v w := by
  have hag : (isAgg t).run P w = .ok false w := by
    unfold scalar at h
    cases hu : P.underlying t with
    | none => rw [hu] at h; cases h
    | some d =>
      rw [hu] at h
      cases d <;> first | (cases h; done) | simp [isAgg, run_underlying hu]
  simp [loadVar, hag, hc]
theorem run_sizeOf_scalar {t : TypeId} (h : scalar P t = true) : (sizeOf t).run P w = .ok 1 w := by
  have : (P.info? t).map (·.size) = some 1 := by
    unfold scalar at h
    split at h <;> simp_all
  obtain ⟨i, hi, h1⟩ := Option.map_eq_some_iff.1 this
  simp [sizeOf, typeInfo, hi, h1]
theorem run_loadVar_wide {t : TypeId} {k : Nat} (h : wide P t = some k) (a : Addr) (cs : List Value) (hl : cs.length = k) (hc : ∀ j v, cs[j]? = some v → w.cell? (a.add j) = some v) :
    (loadVar t a).run P w = .ok (.agg cs.toArray) w := by
  subst hl
  have hag : (isAgg t).run P w = .ok true w ∧ (P.info? t).map (·.size) = some cs.length := by
    unfold wide at h
    split at h
    · rename_i fs hu; exact ⟨by simp [isAgg, run_underlying hu], h⟩
    · rename_i m e hu; exact ⟨by simp [isAgg, run_underlying hu], h⟩
    · cases h
  obtain ⟨i, hi, h1⟩ := Option.map_eq_some_iff.1 hag.2
  have hl := run_loadCells_list (P := P) (w := w) a cs hc
  simp [loadVar, hag.1, sizeOf, typeInfo, hi, h1, hl]
end
def ints (k : IntKind) (xs : List Int) : List Value := xs.map (.int k)
@[simp] theorem ints_length (k : IntKind) (xs : List Int) : (ints k xs).length = xs.length := by simp [ints]
theorem wide_ints {P : Program} {t : TypeId} {N : Nat} {k : IntKind} {xs : List Int} (h : wide P t = some N) (hl : xs.length = N) : wide P t = some (ints k xs).length := by
  rw [ints_length, hl]; exact h
theorem ints_get {k : IntKind} {xs : List Int} {j : Nat} (h : j < xs.length) : (ints k xs)[j]? = some (.int k (xs.getD j 0)) := by simp [ints, h]
theorem ints_set {k : IntKind} {xs : List Int} {j : Nat} {x : Int} : (ints k xs).set j (.int k x) = ints k (xs.set j x) := by simp [ints, List.map_set]
theorem ints_append (k : IntKind) (xs ys : List Int) : ints k (xs ++ ys) = ints k xs ++ ints k ys := by simp [ints]
theorem ints_drop (k : IntKind) (xs : List Int) (j : Nat) : (ints k xs).drop j = ints k (xs.drop j) := by simp [ints, List.map_drop]
theorem ints_take (k : IntKind) (xs : List Int) (j : Nat) : (ints k xs).take j = ints k (xs.take j) := by simp [ints, List.map_take]
theorem ints_one {k : IntKind} {xs : List Int} : ∀ v ∈ ints k xs, v.oneCell' = true := by
  intro v hv
  simp only [ints, List.mem_map] at hv
  obtain ⟨x, _, rfl⟩ := hv
  rfl
def Reads (w : World) (A : Option Addr) (cs : List Value) : Prop := ∀ j v, cs[j]? = some v → ∃ ad, A = some ad ∧ w.cell? (ad.add j) = some v
def Ext (w0 : World) (X : List Nat) (A : Option Addr) (cs : List Value) : Prop := ∀ j v, cs[j]? = some v → ∃ ad, A = some ad ∧ ad.block < w0.heap.size ∧ ad.block ∉ X ∧ w0.cell? (ad.add j) = some v
theorem add_block (a : Addr) (j : Nat) : (a.add j).block = a.block := by unfold Addr.add; split <;> rfl
theorem add_lit (k o j : Nat) : (⟨k, o, none⟩ : Addr).add j = ⟨k, o + j, none⟩ := by
  unfold Addr.add
  by_cases hj : j = 0
  · subst hj; rfl
  · rw [if_neg hj]
theorem add_add (a : Addr) (i j : Nat) : (a.add i).add j = a.add (i + j) := by
  unfold Addr.add
  by_cases hi : i = 0
  · subst hi; simp
  · by_cases hj : j = 0
    · subst hj; simp [hi]
    · simp [hi, hj, Nat.add_assoc]
section
variable {w0 w : World} {X : List Nat} {F : List Blk} {A : Option Addr} {cs : List Value}
theorem Reads.ext (h : Reads w0 A cs) : Ext w0 [] A cs := fun j v hj => by
  obtain ⟨ad, ha, hc⟩ := h j v hj
  have := World.block_lt_of_cell? w0 _ hc
  rw [add_block] at this
  exact ⟨ad, ha, this, by simp, hc⟩
theorem Ext.mono {X' : List Nat} (h : Ext w0 X A cs) (hx : ∀ k, k ∈ X' → k ∈ X) : Ext w0 X' A cs := fun j v hj => by
  obtain ⟨ad, ha, hb, hn, hc⟩ := h j v hj
  exact ⟨ad, ha, hb, fun hm => hn (hx _ hm), hc⟩
theorem Ext.reads (h : Ext w0 X A cs) (hm : Mem w0 X F w) : Reads w A cs := fun j v hj => by
  obtain ⟨ad, ha, hb, hn, hc⟩ := h j v hj
  refine ⟨ad, ha, ?_⟩
  rw [← hc]
  unfold World.cell?
  rw [add_block, hm.kept.block _ hb hn]
theorem Reads.nil (w : World) (A : Option Addr) : Reads w A [] := fun j v h => by simp at h
theorem Reads.blk {b : Blk} {k : Nat} (h : b.here w) (hk : b.no = some k) : Reads w (some ⟨k, 0, none⟩) b.cells := fun j v hj => by
  refine ⟨_, rfl, ?_⟩
  unfold Blk.here at h
  rw [hk] at h
  rw [add_lit, Nat.zero_add, cell_of_row w k j _ _ _ h]
  simpa using hj
theorem Reads.own {b : Blk} (h : b.here w) : Reads w (b.no.map fun k => (⟨k, 0, none⟩ : Addr)) b.cells := by
  cases hb : b.no with
  | none => unfold Blk.here at h; rw [hb] at h; simp only at h; rw [h]; exact Reads.nil w _
  | some k => exact Reads.blk h hb
theorem Reads.take (h : Reads w A cs) (k : Nat) : Reads w A (cs.take k) := fun j v hj => by
  rw [List.getElem?_take] at hj
  split at hj
  · exact h j v hj
  · cases hj
theorem Reads.pre {ds : List Value} (h : Reads w A (cs ++ ds)) : Reads w A cs := fun j v hj => h j v (by rw [List.getElem?_append_left (List.getElem?_eq_some_iff.1 hj).1]; exact hj)
def cut (A : Option Addr) (cap l : Nat) : Option Addr := if cap = l then A else A.map (·.add l)
theorem Reads.cut (h : Reads w A cs) {cap l : Nat} (hc : cs.length ≤ cap) : Reads w (Go.X.cut A cap l) (cs.drop l) := fun j v hj => by
  rw [List.getElem?_drop] at hj
  have hlt := (List.getElem?_eq_some_iff.1 hj).1
  obtain ⟨ad, ha, hcell⟩ := h (l + j) v hj
  unfold Go.X.cut
  rw [if_neg (by omega), ha]
  exact ⟨ad.add l, rfl, by rw [add_add]; exact hcell⟩
theorem Ext.nil (w0 : World) (X : List Nat) (A : Option Addr) : Ext w0 X A [] := fun j v h => by simp at h
theorem Ext.take (h : Ext w0 X A cs) (k : Nat) : Ext w0 X A (cs.take k) := fun j v hj => by
  rw [List.getElem?_take] at hj
  split at hj
  · exact h j v hj
  · cases hj
theorem Ext.cut (h : Ext w0 X A cs) {cap l : Nat} (hc : cs.length ≤ cap) : Ext w0 X (Go.X.cut A cap l) (cs.drop l) := fun j v hj => by
  rw [List.getElem?_drop] at hj
  have hlt := (List.getElem?_eq_some_iff.1 hj).1
  obtain ⟨ad, ha, hb, hn, hcell⟩ := h (l + j) v hj
  unfold Go.X.cut
  rw [if_neg (by omega), ha]
  exact ⟨ad.add l, rfl, by rw [add_block]; exact hb, by rw [add_block]; exact hn, by rw [add_add]; exact hcell⟩
theorem Mem.at (hm : Mem w0 X F w) (i : Nat) {b : Blk} (hi : F[i]? = some b) : b.here w := hm.has b (List.mem_of_getElem? hi)
end
def Qt (P : Program) (dF : List Deferred) (n : Nat) (L : Slots) (S : World → Prop) (o : Oper) (v : Value) : Prop :=
  ∀ a w, Fr dF n L a → S w → (execOp a.eval o).run P w = .ok (.value v) w
section
variable {P : Program} {n : Nat} {L : Slots} {S : World → Prop} {o : Oper}
theorem q_int {k : IntKind} {a b : Int} (h : Qt P dF n L S o (.int k a)) (e : a = b) : Qt P dF n L S o (.int k b) := e ▸ h
theorem q_bool {a b : Bool} (h : Qt P dF n L S o (.bool a)) (e : a = b) : Qt P dF n L S o (.bool b) := e ▸ h
theorem q_move {x : Operand} {v : Value} (ho : o.op = .move x) (hx : ev L x = some v) : Qt P dF n L S o v := fun a w hf _ => by
  simp [execOp, ho, hf.eval hx]
theorem q_assign {x : Operand} {v : Value} (ho : o.op = .assign x) (hx : ev L x = some v) : Qt P dF n L S o v := fun a w hf _ => by
  simp [execOp, ho, hf.eval hx]
theorem q_pickT {c x y : Operand} {v : Value} (ho : o.op = .pick c x y) (hc : ev L c = some (.bool true)) (hx : ev L x = some v) : Qt P dF n L S o v := fun a w hf _ => by
  simp [execOp, ho, hf.eval hc, hf.eval hx, asBool]
theorem q_pickF {c x y : Operand} {v : Value} (ho : o.op = .pick c x y) (hc : ev L c = some (.bool false)) (hy : ev L y = some v) : Qt P dF n L S o v := fun a w hf _ => by
  simp [execOp, ho, hf.eval hc, hf.eval hy, asBool]
theorem q_add {t t' : TypeId} {x y : Operand} {k : IntKind} {a b : Int} (ho : o.op = .binOp .add t x y t') (hx : ev L x = some (.int k a)) (hy : ev L y = some (.int k b)) :
    Qt P dF n L S o (.int k (k.wrap (a + b))) := fun c w hf _ => by simp [execOp, ho, hf.eval hx, hf.eval hy, eqGuard, binOp_add, Op.intArith]
theorem q_sub {t t' : TypeId} {x y : Operand} {k : IntKind} {a b : Int} (ho : o.op = .binOp .sub t x y t') (hx : ev L x = some (.int k a)) (hy : ev L y = some (.int k b)) :
    Qt P dF n L S o (.int k (k.wrap (a - b))) := fun c w hf _ => by simp [execOp, ho, hf.eval hx, hf.eval hy, eqGuard, binOp_sub, Op.intArith]
theorem q_mul {t t' : TypeId} {x y : Operand} {k : IntKind} {a b : Int} (ho : o.op = .binOp .mul t x y t') (hx : ev L x = some (.int k a)) (hy : ev L y = some (.int k b)) :
    Qt P dF n L S o (.int k (k.wrap (a * b))) := fun c w hf _ => by simp [execOp, ho, hf.eval hx, hf.eval hy, eqGuard, binOp_mul, Op.intArith]
theorem i64_wrap {a : Int} (h1 : -9223372036854775808 ≤ a) (h2 : a ≤ 9223372036854775807) : IntKind.i64.wrap a = a := by
  simp [IntKind.wrap, IntKind.bits, IntKind.signed]; omega
theorem q_addi {t t' : TypeId} {x y : Operand} {a b : Int} (ho : o.op = .binOp .add t x y t') (hx : ev L x = some (.int .i64 a)) (hy : ev L y = some (.int .i64 b))
    (h1 : -9223372036854775808 ≤ a + b) (h2 : a + b ≤ 9223372036854775807) : Qt P dF n L S o (.int .i64 (a + b)) := by
  have := q_add (P := P) (dF := dF) (n := n) (S := S) ho hx hy; rwa [i64_wrap h1 h2] at this
theorem q_subi {t t' : TypeId} {x y : Operand} {a b : Int} (ho : o.op = .binOp .sub t x y t') (hx : ev L x = some (.int .i64 a)) (hy : ev L y = some (.int .i64 b))
    (h1 : -9223372036854775808 ≤ a - b) (h2 : a - b ≤ 9223372036854775807) : Qt P dF n L S o (.int .i64 (a - b)) := by
  have := q_sub (P := P) (dF := dF) (n := n) (S := S) ho hx hy; rwa [i64_wrap h1 h2] at this
theorem q_muli {t t' : TypeId} {x y : Operand} {a b : Int} (ho : o.op = .binOp .mul t x y t') (hx : ev L x = some (.int .i64 a)) (hy : ev L y = some (.int .i64 b))
    (h1 : -9223372036854775808 ≤ a * b) (h2 : a * b ≤ 9223372036854775807) : Qt P dF n L S o (.int .i64 (a * b)) := by
  have := q_mul (P := P) (dF := dF) (n := n) (S := S) ho hx hy; rwa [i64_wrap h1 h2] at this
theorem q_quo {t t' : TypeId} {x y : Operand} {a b : Int} (ho : o.op = .binOp .quo t x y t') (hx : ev L x = some (.int .i64 a)) (hy : ev L y = some (.int .i64 b))
    (h0 : 0 ≤ a) (h1 : a ≤ 9223372036854775807) (hb : 0 < b) : Qt P dF n L S o (.int .i64 (a / b)) := fun c w hf _ => by
  have hb0 : b ≠ 0 := by omega
  have h2 : IntKind.i64.wrap (a.tdiv b) = a / b := by
    rw [Int.tdiv_eq_ediv_of_nonneg h0]
    exact i64_wrap (Int.le_trans (by decide) (Int.ediv_nonneg h0 (Int.le_of_lt hb))) (Int.le_trans (Int.ediv_le_self b h0) h1)
  simp [execOp, ho, hf.eval hx, hf.eval hy, eqGuard, binOp_quo, Op.intDiv, hb0, h2]
theorem q_rem {t t' : TypeId} {x y : Operand} {k : IntKind} {a b : Int} (ho : o.op = .binOp .rem t x y t') (hx : ev L x = some (.int k a)) (hy : ev L y = some (.int k b))
    (h0 : 0 ≤ a) (hb : b ≠ 0) : Qt P dF n L S o (.int k (a % b)) := fun c w hf _ => by
  simp [execOp, ho, hf.eval hx, hf.eval hy, eqGuard, binOp_rem, Op.intDiv, hb, Int.tmod_eq_emod_of_nonneg h0]
theorem q_bits {op : BinOp} {t t' : TypeId} {x y : Operand} {k : IntKind} {a b : Int} (ho : o.op = .binOp op t x y t') (hop : op = .and ∨ op = .or ∨ op = .xor)
    (hx : ev L x = some (.int k a)) (hy : ev L y = some (.int k b)) : Qt P dF n L S o (.int k (bits op k a b)) := fun c w hf _ => by
  have e1 := hf.eval hx
  have e2 := hf.eval hy
  rcases hop with rfl | rfl | rfl <;> (simp only [execOp, ho, e1, e2]; simp [eqGuard, go_sem])
theorem q_xor {t t' : TypeId} {x y : Operand} {k : IntKind} {a b : Int} (ho : o.op = .binOp .xor t x y t') (hx : ev L x = some (.int k a)) (hy : ev L y = some (.int k b)) :
    Qt P dF n L S o (.int k (bits .xor k a b)) := q_bits ho (by simp) hx hy
theorem q_or {t t' : TypeId} {x y : Operand} {k : IntKind} {a b : Int} (ho : o.op = .binOp .or t x y t') (hx : ev L x = some (.int k a)) (hy : ev L y = some (.int k b)) :
    Qt P dF n L S o (.int k (bits .or k a b)) := q_bits ho (by simp) hx hy
theorem q_and {t t' : TypeId} {x y : Operand} {k : IntKind} {a b : Int} (ho : o.op = .binOp .and t x y t') (hx : ev L x = some (.int k a)) (hy : ev L y = some (.int k b)) :
    Qt P dF n L S o (.int k (bits .and k a b)) := q_bits ho (by simp) hx hy
def shl (k : IntKind) (a b : Int) : Int := k.wrap (a * 2 ^ min b.toNat k.bits)
def shr (k : IntKind) (a b : Int) : Int := a.fdiv (2 ^ min b.toNat k.bits)
theorem q_shl {t t' : TypeId} {x y : Operand} {k k' : IntKind} {a b : Int} (ho : o.op = .binOp .shl t x y t') (hx : ev L x = some (.int k a)) (hy : ev L y = some (.int k' b)) (h0 : 0 ≤ b) :
    Qt P dF n L S o (.int k (shl k a b)) := fun c w hf _ => by
  have : ¬ b < 0 := by omega
  simp [execOp, ho, hf.eval hx, hf.eval hy, eqGuard, binOp_shl, Op.shift, this, shl]
theorem q_shr {t t' : TypeId} {x y : Operand} {k k' : IntKind} {a b : Int} (ho : o.op = .binOp .shr t x y t') (hx : ev L x = some (.int k a)) (hy : ev L y = some (.int k' b)) (h0 : 0 ≤ b) :
    Qt P dF n L S o (.int k (shr k a b)) := fun c w hf _ => by
  have : ¬ b < 0 := by omega
  simp [execOp, ho, hf.eval hx, hf.eval hy, eqGuard, binOp_shr, Op.shift, this, shr]
theorem q_lss {t t' : TypeId} {x y : Operand} {k : IntKind} {a b : Int} (ho : o.op = .binOp .lss t x y t') (hx : ev L x = some (.int k a)) (hy : ev L y = some (.int k b)) :
    Qt P dF n L S o (.bool (decide (a < b))) := fun c w hf _ => by simp [execOp, ho, hf.eval hx, hf.eval hy, eqGuard, binOp_lss]
theorem q_leq {t t' : TypeId} {x y : Operand} {k : IntKind} {a b : Int} (ho : o.op = .binOp .leq t x y t') (hx : ev L x = some (.int k a)) (hy : ev L y = some (.int k b)) :
    Qt P dF n L S o (.bool (decide (a ≤ b))) := fun c w hf _ => by simp [execOp, ho, hf.eval hx, hf.eval hy, eqGuard, binOp_leq]
theorem q_gtr {t t' : TypeId} {x y : Operand} {k : IntKind} {a b : Int} (ho : o.op = .binOp .gtr t x y t') (hx : ev L x = some (.int k a)) (hy : ev L y = some (.int k b)) :
    Qt P dF n L S o (.bool (decide (b < a))) := fun c w hf _ => by simp [execOp, ho, hf.eval hx, hf.eval hy, eqGuard, binOp_gtr]
theorem q_geq {t t' : TypeId} {x y : Operand} {k : IntKind} {a b : Int} (ho : o.op = .binOp .geq t x y t') (hx : ev L x = some (.int k a)) (hy : ev L y = some (.int k b)) :
    Qt P dF n L S o (.bool (decide (b ≤ a))) := fun c w hf _ => by simp [execOp, ho, hf.eval hx, hf.eval hy, eqGuard, binOp_geq]
theorem q_eql {t t' : TypeId} {x y : Operand} {k : IntKind} {a b : Int} (ho : o.op = .binOp .eql t x y t') (hx : ev L x = some (.int k a)) (hy : ev L y = some (.int k b)) :
    Qt P dF n L S o (.bool (decide (a = b))) := fun c w hf _ => by
  have : (a == b) = decide (a = b) := by simp [BEq.beq]
  simp [execOp, ho, hf.eval hx, hf.eval hy, eqGuard, binOp_eql, this]
theorem q_neq {t t' : TypeId} {x y : Operand} {k : IntKind} {a b : Int} (ho : o.op = .binOp .neq t x y t') (hx : ev L x = some (.int k a)) (hy : ev L y = some (.int k b)) :
    Qt P dF n L S o (.bool (decide (a ≠ b))) := fun c w hf _ => by
  have : (a != b) = decide (a ≠ b) := by simp [bne, BEq.beq]
  simp [execOp, ho, hf.eval hx, hf.eval hy, eqGuard, binOp_neq, this]
theorem q_eqlS {t t' : TypeId} {x y : Operand} {a b : ByteArray} (ho : o.op = .binOp .eql t x y t') (hx : ev L x = some (.string a)) (hy : ev L y = some (.string b)) :
    Qt P dF n L S o (.bool (a.toList == b.toList)) := fun c w hf _ => by simp [execOp, ho, hf.eval hx, hf.eval hy, eqGuard, binOp_string_eql]
theorem q_eqlB {t t' : TypeId} {x y : Operand} {a b : Bool} (ht : P.underlying t = some .bool) (ho : o.op = .binOp .eql t x y t') (hx : ev L x = some (.bool a)) (hy : ev L y = some (.bool b)) :
    Qt P dF n L S o (.bool (a == b)) := fun c w hf _ => by simp [execOp, ho, hf.eval hx, hf.eval hy, eqGuard, run_eql_bool _ _ _ _ ht]
theorem q_neqB {t t' : TypeId} {x y : Operand} {a b : Bool} (ht : P.underlying t = some .bool) (ho : o.op = .binOp .neq t x y t') (hx : ev L x = some (.bool a)) (hy : ev L y = some (.bool b)) :
    Qt P dF n L S o (.bool (!(a == b))) := fun c w hf _ => by simp [execOp, ho, hf.eval hx, hf.eval hy, eqGuard, run_neq_bool _ _ _ _ ht]
theorem q_not {t : TypeId} {x : Operand} {b : Bool} (ho : o.op = .unOp .not t x) (hx : ev L x = some (.bool b)) : Qt P dF n L S o (.bool (!b)) := fun c w hf _ => by
  simp [execOp, ho, hf.eval hx, Op.unary]
theorem q_neg {t : TypeId} {x : Operand} {k : IntKind} {a : Int} (ho : o.op = .unOp .neg t x) (hx : ev L x = some (.int k a)) : Qt P dF n L S o (.int k (k.wrap (0 - a))) := fun c w hf _ => by
  simp [execOp, ho, hf.eval hx, Op.unary, Op.intArith]
theorem q_cpl {t : TypeId} {x : Operand} {k : IntKind} {a : Int} (ho : o.op = .unOp .xor t x) (hx : ev L x = some (.int k a)) :
    Qt P dF n L S o (.int k (bits .xor k (if k.signed then -1 else k.max) a)) := fun c w hf _ => by
  have e1 := hf.eval hx
  simp only [execOp, ho, e1, Op.unary]; simp [go_sem]
theorem q_conv {t t' : TypeId} {x : Operand} {k k' : IntKind} {a : Int} {d : TypeDesc} (hs : P.underlying t = some d) (ht : P.underlying t' = some (.int k')) (ho : o.op = .convert t t' x) (hx : ev L x = some (.int k a)) :
    Qt P dF n L S o (.int k' (k'.wrap a)) := fun c w hf _ => by
  simp [execOp, ho, hf.eval hx, convert, run_underlying hs, run_underlying ht, Conv.intToInt]
theorem q_extract {x : Operand} {i : Nat} {vs : Array Value} {v : Value} (ho : o.op = .extract x i) (hx : ev L x = some (.tuple vs)) (hv : vs[i]? = some v) : Qt P dF n L S o v := fun c w hf _ => by
  simp [execOp, ho, hf.eval hx, Instr.extract, hv]
theorem q_nil {x : Operand} {a : Addr} (ho : o.op = .nilCheck x) (hx : ev L x = some (.pointer (some a))) : Qt P dF n L S o (.pointer (some a)) := fun c w hf _ => by
  simp [execOp, ho, hf.eval hx]
theorem q_len {x : Operand} {t e : TypeId} {sz by_ : Nat} {A : Option Addr} {l c : Nat} (ht : slc P t = some (e, sz, by_)) (ho : o.op = .call { callee := .builtin .len, args := #[x], argTypes := #[t] }) (hx : ev L x = some (.slice A l c)) :
    Qt P dF n L S o (.int .i64 l) := fun a w hf _ => by
  simp [execOp, ho, hf.eval hx, resolve, invoke, builtin, Builtin.len_, run_underlying (slc_parts ht).1, goInt]
theorem q_lenS {x : Operand} {t : TypeId} {s : ByteArray} (ht : P.underlying t = some .string) (ho : o.op = .call { callee := .builtin .len, args := #[x], argTypes := #[t] }) (hx : ev L x = some (.string s)) :
    Qt P dF n L S o (.int .i64 s.size) := fun a w hf _ => by
  simp [execOp, ho, hf.eval hx, resolve, invoke, builtin, Builtin.len_, run_underlying ht, goInt]
end
end Go.X
namespace Go.X
open Go
variable {dF : List Deferred}
def ptr (A : Option Addr) (j : Nat) : Addr := (A.getD default).add j
section
variable {P : Program} {n : Nat} {L : Slots} {w0 : World} {X : List Nat} {F : List Blk} {o : Oper}
theorem cell_at {w : World} (hm : Mem w0 X F w) (i : Nat) {k off : Nat} {cells : List Value} {ty : TypeId} {fz : Nat × Nat} {v : Value} (hi : F[i]? = some ⟨some k, cells, ty, fz⟩) (hc : cells[off]? = some v) :
    w.cell? ⟨k, off, none⟩ = some v := by
  have := hm.at i hi
  unfold Blk.here at this
  simp only at this
  rw [cell_of_row w k off _ _ _ this]
  simpa using hc
theorem q_load1 {t : TypeId} {x : Operand} {k off : Nat} {v : Value} (hs : scalar P t = true) (i : Nat) {cells : List Value} {ty : TypeId} {fz : Nat × Nat} (ho : o.op = .load t x)
    (hx : ev L x = some (.pointer (some ⟨k, off, none⟩))) (hi : F[i]? = some ⟨some k, cells, ty, fz⟩) (hc : cells[off]? = some v) : Qt P dF n L (Mem w0 X F) o v := fun a w hf hm => by
  simp only [execOp, ho, hf.eval hx, Instr.loadAt, Instr.sureAddr]
  simp [run_loadVar_scalar hs _ v (cell_at hm i hi hc)]
theorem q_loadI {t : TypeId} {x : Operand} {k off : Nat} (hs : scalar P t = true) (i : Nat) {kk : IntKind} {xs : List Int} {ty : TypeId} {fz : Nat × Nat} (ho : o.op = .load t x)
    (hx : ev L x = some (.pointer (some ⟨k, off, none⟩))) (hi : F[i]? = some ⟨some k, ints kk xs, ty, fz⟩) (hc : off < xs.length) : Qt P dF n L (Mem w0 X F) o (.int kk (xs.getD off 0)) :=
  q_load1 hs i ho hx hi (ints_get hc)
theorem q_loadE {t : TypeId} {x : Operand} {A : Option Addr} {j : Nat} {cs : List Value} {v : Value} (hs : scalar P t = true) (hR : ∀ w, Mem w0 X F w → Reads w A cs) (ho : o.op = .load t x)
    (hx : ev L x = some (.pointer (some (ptr A j)))) (hc : cs[j]? = some v) : Qt P dF n L (Mem w0 X F) o v := fun a w hf hm => by
  obtain ⟨ad, rfl, hcell⟩ := hR w hm j v hc
  simp only [execOp, ho, hf.eval hx, Instr.loadAt, Instr.sureAddr]
  simp [run_loadVar_scalar hs _ v (show w.cell? (ptr (some ad) j) = some v from hcell)]
theorem q_loadW {t : TypeId} {x : Operand} {ad : Addr} {cs : List Value} (hw : wide P t = some cs.length) (hR : ∀ w, Mem w0 X F w → Reads w (some ad) cs) (ho : o.op = .load t x)
    (hx : ev L x = some (.pointer (some ad))) : Qt P dF n L (Mem w0 X F) o (.agg cs.toArray) := fun a w hf hm => by
  simp only [execOp, ho, hf.eval hx, Instr.loadAt, Instr.sureAddr]
  have := run_loadVar_wide (w := w) hw ad cs rfl (fun j v hj => by
    obtain ⟨ad', ha, hc⟩ := hR w hm j v hj
    cases ha
    exact hc)
  simp [this]
theorem R_blk (i : Nat) {k : Nat} {cells : List Value} {ty : TypeId} {fz : Nat × Nat} (hi : F[i]? = some ⟨some k, cells, ty, fz⟩) : ∀ w, Mem w0 X F w → Reads w (some ⟨k, 0, none⟩) cells :=
  fun _ hm => Reads.blk (hm.at i hi) rfl
theorem R_pre (i : Nat) {k : Nat} {cells js : List Value} {ty : TypeId} {fz : Nat × Nat} (hi : F[i]? = some ⟨some k, cells ++ js, ty, fz⟩) : ∀ w, Mem w0 X F w → Reads w (some ⟨k, 0, none⟩) cells :=
  fun _ hm => (Reads.blk (hm.at i hi) rfl).pre
theorem R_ext {A : Option Addr} {cs : List Value} (h : Ext w0 X A cs) : ∀ w, Mem w0 X F w → Reads w A cs := fun _ hm => h.reads hm
theorem R_own (i : Nat) {b : Blk} (hi : F[i]? = some b) : ∀ w, Mem w0 X F w → Reads w (b.no.map fun k => (⟨k, 0, none⟩ : Addr)) b.cells := fun _ hm => Reads.own (hm.at i hi)
theorem R_cutI {A : Option Addr} {k : IntKind} {xs : List Int} (h : ∀ w, Mem w0 X F w → Reads w A (ints k xs)) {cap l : Nat} (hc : xs.length ≤ cap) : ∀ w, Mem w0 X F w → Reads w (cut A cap l) (ints k (xs.drop l)) := fun w hm => by
  rw [← ints_drop]; exact (h w hm).cut (by simpa using hc)
theorem R_takeI {A : Option Addr} {k : IntKind} {xs : List Int} (h : ∀ w, Mem w0 X F w → Reads w A (ints k xs)) (l : Nat) : ∀ w, Mem w0 X F w → Reads w A (ints k (xs.take l)) := fun w hm => by
  rw [← ints_take]; exact (h w hm).take l
variable {S : World → Prop}
theorem q_ixA {t e : TypeId} {len : Nat} {x y : Operand} {k off : Nat} {kk : IntKind} {i : Int} (ha : arr P t = some (len, e, 1)) (j : Nat) (ho : o.op = .indexAddr t x y) (hx : ev L x = some (.pointer (some ⟨k, off, none⟩)))
    (hy : ev L y = some (.int kk i)) (hj : i = (j : Int)) (hlt : j < len) : Qt P dF n L S o (.pointer (some ⟨k, off + j, none⟩)) := fun a w hf _ => by
  obtain ⟨hu, inf, hi, hs⟩ := arr_parts ha
  subst hj
  simp only [execOp, ho, hf.eval hx, hf.eval hy, Instr.indexAt, asIntOf]
  simp [run_underlying hu, Instr.sureAddr, sizeOf, typeInfo, hi, hs, hlt, add_lit]
theorem q_ixA0 {t e : TypeId} {len : Nat} {x y : Operand} {k : Nat} {kk : IntKind} {i : Int} (ha : arr P t = some (len, e, 1)) (j : Nat) (ho : o.op = .indexAddr t x y) (hx : ev L x = some (.pointer (some ⟨k, 0, none⟩)))
    (hy : ev L y = some (.int kk i)) (hj : i = (j : Int)) (hlt : j < len) : Qt P dF n L S o (.pointer (some ⟨k, j, none⟩)) := by
  have := q_ixA (dF := dF) (n := n) (S := S) ha j ho hx hy hj hlt
  rwa [Nat.zero_add] at this
theorem q_ixS {t e : TypeId} {by_ len cap : Nat} {x y : Operand} {k off : Nat} {kk : IntKind} {i : Int} (ha : slc P t = some (e, 1, by_)) (j : Nat) (ho : o.op = .indexAddr t x y) (hx : ev L x = some (.slice (some ⟨k, off, none⟩) len cap))
    (hy : ev L y = some (.int kk i)) (hj : i = (j : Int)) (hlt : j < len) : Qt P dF n L S o (.pointer (some ⟨k, off + j, none⟩)) := fun a w hf _ => by
  obtain ⟨hu, inf, hi, hs, _⟩ := slc_parts ha
  subst hj
  simp only [execOp, ho, hf.eval hx, hf.eval hy, Instr.indexAt, asIntOf]
  simp [run_underlying hu, sizeOf, typeInfo, hi, hs, hlt, add_lit]
theorem q_ixS0 {t e : TypeId} {by_ len cap : Nat} {x y : Operand} {k : Nat} {kk : IntKind} {i : Int} (ha : slc P t = some (e, 1, by_)) (j : Nat) (ho : o.op = .indexAddr t x y) (hx : ev L x = some (.slice (some ⟨k, 0, none⟩) len cap))
    (hy : ev L y = some (.int kk i)) (hj : i = (j : Int)) (hlt : j < len) : Qt P dF n L S o (.pointer (some ⟨k, j, none⟩)) := by
  have := q_ixS (dF := dF) (n := n) (S := S) ha j ho hx hy hj hlt
  rwa [Nat.zero_add] at this
theorem q_ixE {t e : TypeId} {by_ len cap s : Nat} {x y : Operand} {A : Option Addr} {cs : List Value} {kk : IntKind} {i : Int} (ha : slc P t = some (e, s, by_)) (j : Nat) (hR : ∀ w, Mem w0 X F w → Reads w A cs) (ho : o.op = .indexAddr t x y) (hx : ev L x = some (.slice A len cap))
    (hy : ev L y = some (.int kk i)) (hj : i = (j : Int)) (hlt : j < len) (h0 : 0 < cs.length) : Qt P dF n L (Mem w0 X F) o (.pointer (some (ptr A (j * s)))) := fun a w hf hm => by
  obtain ⟨hu, inf, hi, hs, _⟩ := slc_parts ha
  subst hj
  obtain ⟨ad, rfl, _⟩ := hR w hm 0 cs[0] (by simp [h0])
  simp only [execOp, ho, hf.eval hx, hf.eval hy, Instr.indexAt, asIntOf]
  simp [run_underlying hu, sizeOf, typeInfo, hi, hs, hlt, ptr]
theorem q_ixE1 {t e : TypeId} {by_ len cap : Nat} {x y : Operand} {A : Option Addr} {cs : List Value} {kk : IntKind} {i : Int} (ha : slc P t = some (e, 1, by_)) (j : Nat) (hR : ∀ w, Mem w0 X F w → Reads w A cs) (ho : o.op = .indexAddr t x y) (hx : ev L x = some (.slice A len cap))
    (hy : ev L y = some (.int kk i)) (hj : i = (j : Int)) (hlt : j < len) (h0 : 0 < cs.length) : Qt P dF n L (Mem w0 X F) o (.pointer (some (ptr A j))) := by
  have := q_ixE (dF := dF) (n := n) ha j hR ho hx hy hj hlt h0
  rwa [Nat.mul_one] at this
theorem run_part_scalar {t : TypeId} {w : World} (h : scalar P t = true) (cs : Array Value) (off : Nat) (v : Value) (hv : cs[off]? = some v) : (part t cs off).run P w = .ok v w := by
  have hag : (isAgg t).run P w = .ok false w := by
    unfold scalar at h
    cases hu : P.underlying t with
    | none => rw [hu] at h; cases h
    | some d =>
      rw [hu] at h
      cases d <;> first | (cases h; done) | simp [isAgg, run_underlying hu]
  simp [part, hag, hv]
theorem run_part_wide {t : TypeId} {w : World} {m : Nat} (h : wide P t = some m) (cs : List Value) (off : Nat) (p : List Value) (hp : (cs.drop off).take m = p) : (part t cs.toArray off).run P w = .ok (.agg p.toArray) w := by
  subst hp
  have hag : (isAgg t).run P w = .ok true w ∧ (P.info? t).map (·.size) = some m := by
    unfold wide at h
    split at h
    · rename_i fs hu; exact ⟨by simp [isAgg, run_underlying hu], h⟩
    · rename_i m e hu; exact ⟨by simp [isAgg, run_underlying hu], h⟩
    · cases h
  obtain ⟨i, hi, h1⟩ := Option.map_eq_some_iff.1 hag.2
  have e : cs.toArray.extract off (off + m) = ((cs.drop off).take m).toArray := by
    apply Array.toList_inj.1
    simp [List.extract_eq_take_drop]
  simp [part, hag.1, sizeOf, typeInfo, hi, h1] <;> exact e
theorem q_ixV {t e : TypeId} {len : Nat} {x y : Operand} {cs : List Value} {kk : IntKind} {i : Int} {v : Value} (ha : arr P t = some (len, e, 1)) (he : scalar P e = true) (j : Nat) (ho : o.op = .index t x y) (hx : ev L x = some (.agg cs.toArray))
    (hy : ev L y = some (.int kk i)) (hj : i = (j : Int)) (hlt : j < len) (hv : cs[j]? = some v) : Qt P dF n L S o v := fun a w hf _ => by
  obtain ⟨hu, inf, hi, hs⟩ := arr_parts ha
  subst hj
  simp only [execOp, ho, hf.eval hx, hf.eval hy, Instr.index, asIntOf]
  have := run_part_scalar (w := w) he cs.toArray j v (by simpa using hv)
  simp [run_underlying hu, sizeOf, typeInfo, hi, hs, hlt, this]
theorem q_ixVI {t e : TypeId} {len : Nat} {x y : Operand} {k : IntKind} {xs : List Int} {kk : IntKind} {i : Int} (ha : arr P t = some (len, e, 1)) (he : scalar P e = true) (j : Nat) (ho : o.op = .index t x y) (hx : ev L x = some (.agg (ints k xs).toArray))
    (hy : ev L y = some (.int kk i)) (hj : i = (j : Int)) (hlt : j < len) (hl : j < xs.length) : Qt P dF n L S o (.int k (xs.getD j 0)) := q_ixV ha he j ho hx hy hj hlt (ints_get hl)
theorem q_ixVW {t e : TypeId} {len s : Nat} {x y : Operand} {cs p : List Value} {kk : IntKind} {i : Int} (ha : arr P t = some (len, e, s)) (he : wide P e = some s) (j : Nat) (ho : o.op = .index t x y) (hx : ev L x = some (.agg cs.toArray))
    (hy : ev L y = some (.int kk i)) (hj : i = (j : Int)) (hlt : j < len) (hp : (cs.drop (j * s)).take s = p) : Qt P dF n L S o (.agg p.toArray) := fun a w hf _ => by
  obtain ⟨hu, inf, hi, hs⟩ := arr_parts ha
  subst hj
  simp only [execOp, ho, hf.eval hx, hf.eval hy, Instr.index, asIntOf]
  have := run_part_wide (w := w) he cs (j * s) p hp
  simp [run_underlying hu, sizeOf, typeInfo, hi, hs, hlt, this]
theorem q_fld {t ft : TypeId} {f : Nat} {x : Operand} {k off fo : Nat} (hf' : fld P t f = some (fo, ft)) (ho : o.op = .fieldAddr t x f) (hx : ev L x = some (.pointer (some ⟨k, off, none⟩))) : Qt P dF n L S o (.pointer (some ⟨k, off + fo, none⟩)) := fun a w hf _ => by
  obtain ⟨fs, g, inf, hu, hg, rfl, rfl, hi, hz⟩ := fld_parts hf'
  simp only [execOp, ho, hf.eval hx, Instr.fieldAt, Instr.sureAddr]
  simp [run_underlying hu, hg, fieldPlace, sizeOf, typeInfo, hi, hz, add_lit]
theorem q_fldE {t ft : TypeId} {f : Nat} {x : Operand} {ad : Addr} {fo : Nat} (hf' : fld P t f = some (fo, ft)) (ho : o.op = .fieldAddr t x f) (hx : ev L x = some (.pointer (some ad))) : Qt P dF n L S o (.pointer (some (ad.add fo))) := fun a w hf _ => by
  obtain ⟨fs, g, inf, hu, hg, rfl, rfl, hi, hz⟩ := fld_parts hf'
  simp only [execOp, ho, hf.eval hx, Instr.fieldAt, Instr.sureAddr]
  simp [run_underlying hu, hg, fieldPlace, sizeOf, typeInfo, hi, hz]
theorem q_field {t ft : TypeId} {f : Nat} {x : Operand} {cs : List Value} {fo : Nat} {v : Value} (hf' : fld P t f = some (fo, ft)) (hs : scalar P ft = true) (ho : o.op = .field t x f) (hx : ev L x = some (.agg cs.toArray)) (hv : cs[fo]? = some v) : Qt P dF n L S o v := fun a w hf _ => by
  obtain ⟨fs, g, inf, hu, hg, rfl, rfl, hi, hz⟩ := fld_parts hf'
  have := run_part_scalar (w := w) hs cs.toArray g.offset v (by simpa using hv)
  simp only [execOp, ho, hf.eval hx, Instr.field]
  simp [run_underlying hu, hg, asAgg, this]
theorem q_fieldW {t ft : TypeId} {f : Nat} {x : Operand} {cs p : List Value} {fo m : Nat} (hf' : fld P t f = some (fo, ft)) (hs : wide P ft = some m) (ho : o.op = .field t x f) (hx : ev L x = some (.agg cs.toArray)) (hp : (cs.drop fo).take m = p) : Qt P dF n L S o (.agg p.toArray) := fun a w hf _ => by
  obtain ⟨fs, g, inf, hu, hg, rfl, rfl, hi, hz⟩ := fld_parts hf'
  have := run_part_wide (w := w) hs cs g.offset p hp
  simp only [execOp, ho, hf.eval hx, Instr.field]
  simp [run_underlying hu, hg, asAgg, this]
def Bd (L : Slots) (x : Option Operand) (dflt l : Nat) : Prop :=
  match x with
  | none => l = dflt
  | some y => ∃ k i, ev L y = some (.int k i) ∧ i = (l : Int)
theorem run_bounds {a : Act} (hf : Fr dF n L a) (isS : Bool) (w : World) {lo hi mx : Option Operand} {len cap l h m : Nat} (hl : Bd L lo 0 l) (hh : Bd L hi len h) (hm : Bd L mx cap m) (h1 : l ≤ h) (h2 : h ≤ m) (h3 : m ≤ cap)
    (h4 : mx.isSome = true → hi.isSome = true) : (Instr.sliceBounds isS len cap (lo.map a.eval) (hi.map a.eval) (mx.map a.eval)).run P w = .ok (l, h, m) w := by
  have sb : ∀ (k : IntKind) (i y : Nat) (code : BoundsCode), i ≤ y → (Instr.sliceBound (.int k (i : Int)) y code).run P w = .ok i w := fun k i y code hle => by
    rw [run_sliceBound w k i y code (by omega) (by omega)]; simp
  unfold Instr.sliceBounds
  cases mx with
  | none =>
    simp only [Bd] at hm
    subst hm
    cases hi with
    | none =>
      simp only [Bd] at hh
      subst hh
      cases lo with
      | none => simp only [Bd] at hl; subst hl; simp
      | some y =>
        obtain ⟨k, i, hy, rfl⟩ := hl
        simp [hf.eval hy, sb k l h _ h1]
    | some z =>
      obtain ⟨k', i', hz, rfl⟩ := hh
      cases lo with
      | none => simp only [Bd] at hl; subst hl; simp [hf.eval hz, sb k' h m _ h2]
      | some y =>
        obtain ⟨k, i, hy, rfl⟩ := hl
        simp [hf.eval hy, hf.eval hz, sb k l h _ h1, sb k' h m _ h2]
  | some q =>
    obtain ⟨k2, i2, hq, rfl⟩ := hm
    cases hi with
    | none => simp at h4
    | some z =>
      obtain ⟨k', i', hz, rfl⟩ := hh
      cases lo with
      | none => simp only [Bd] at hl; subst hl; simp [hf.eval hz, hf.eval hq, sb k' h m _ h2, sb k2 m cap _ h3]
      | some y =>
        obtain ⟨k, i, hy, rfl⟩ := hl
        simp [hf.eval hy, hf.eval hz, hf.eval hq, sb k l h _ h1, sb k' h m _ h2, sb k2 m cap _ h3]
theorem q_sl {t e : TypeId} {by_ : Nat} {x : Operand} {lo hi mx : Option Operand} {A : Option Addr} {len cap : Nat} (ha : slc P t = some (e, 1, by_)) (l h m : Nat) (ho : o.op = .slice t x lo hi mx) (hx : ev L x = some (.slice A len cap))
    (hl : Bd L lo 0 l) (hh : Bd L hi len h) (hm : Bd L mx cap m) (h1 : l ≤ h) (h2 : h ≤ m) (h3 : m ≤ cap) (h4 : mx.isSome = true → hi.isSome = true) : Qt P dF n L S o (.slice (cut A m l) (h - l) (m - l)) := fun a w hf _ => by
  obtain ⟨hu, inf, hi', hs, _⟩ := slc_parts ha
  simp only [execOp, ho, hf.eval hx, Instr.sliceAt, Instr.slice]
  have hb := run_bounds (P := P) hf true w hl hh hm h1 h2 h3 h4
  simp [run_underlying hu, hb, sizeOf, typeInfo, hi', hs, cut]
theorem q_slA {t e : TypeId} {N : Nat} {x : Operand} {lo hi mx : Option Operand} {ad : Addr} (ha : arr P t = some (N, e, 1)) (l h m : Nat) (ho : o.op = .slice t x lo hi mx) (hx : ev L x = some (.pointer (some ad)))
    (hl : Bd L lo 0 l) (hh : Bd L hi N h) (hm : Bd L mx N m) (h1 : l ≤ h) (h2 : h ≤ m) (h3 : m ≤ N) (h4 : mx.isSome = true → hi.isSome = true) : Qt P dF n L S o (.slice (cut (some ad) m l) (h - l) (m - l)) := fun a w hf _ => by
  obtain ⟨hu, inf, hi', hs⟩ := arr_parts ha
  simp only [execOp, ho, hf.eval hx, Instr.sliceAt]
  have hb := run_bounds (P := P) hf false w hl hh hm h1 h2 h3 h4
  simp only [Sem.run_bind, run_underlying hu, Result.andThen_ok, Instr.sureAddr, Sem.run_pure, hb, sizeOf, typeInfo, run_program, hi', hs, cut, Nat.mul_one, Option.map_some]
  by_cases hml : m = l <;> simp [hml]
theorem q_slAll {t e : TypeId} {N : Nat} {x : Operand} {ad : Addr} (ha : arr P t = some (N, e, 1)) (ho : o.op = .slice t x none none none) (hx : ev L x = some (.pointer (some ad))) : Qt P dF n L S o (.slice (some ad) N N) := by
  have := q_slA (dF := dF) (n := n) (S := S) ha 0 N N ho hx rfl rfl rfl (Nat.zero_le _) (Nat.le_refl _) (Nat.le_refl _) (by simp)
  have e : cut (some ad) N 0 = some ad := by unfold cut Addr.add; simp
  simpa [e] using this
def bstr (xs : List Int) : ByteArray := ⟨(xs.map fun n => UInt8.ofNat n.toNat).toArray⟩
theorem bstr_fold : ∀ (xs : List Int), xs.foldl (fun r n => r.push (UInt8.ofNat n.toNat)) ByteArray.empty = bstr xs := by
  have key : ∀ (xs : List Int) (s : ByteArray), xs.foldl (fun r n => r.push (UInt8.ofNat n.toNat)) s = ⟨s.data ++ (xs.map fun n => UInt8.ofNat n.toNat).toArray⟩ := by
    intro xs
    induction xs with
    | nil => intro s; simp
    | cons y r ih => intro s; simp only [List.foldl_cons]; rw [ih]; simp [ByteArray.push]
  intro xs
  rw [key]
  simp [bstr]
theorem q_arrp {t e : TypeId} {N s : Nat} {x : Operand} {A : Option Addr} {len cap : Nat} (ha : arr P t = some (N, e, s)) (ho : o.op = .sliceToArrayPointer t x) (hx : ev L x = some (.slice A len cap)) (hl : N ≤ len) : Qt P dF n L S o (.pointer A) := fun a w hf _ => by
  obtain ⟨hu, _⟩ := arr_parts ha
  have : ¬ len < N := by omega
  simp only [execOp, ho, hf.eval hx, Instr.arrayAt]
  simp [run_underlying hu, this]
def evp (L : Slots) : List (Nat × Operand) → Option (List (Nat × Value))
  | [] => some []
  | (i, x) :: r => (ev L x).bind fun v => (evp L r).map fun vs => (i, v) :: vs
theorem evp_map {a : Act} (hf : Fr dF n L a) : ∀ {ps : List (Nat × Operand)} {vs : List (Nat × Value)}, evp L ps = some vs → ps.map (fun p => (p.1, a.eval p.2)) = vs
  | [], vs, h => by simp [evp] at h; simp [h]
  | (i, x) :: r, vs, h => by
    simp only [evp] at h
    obtain ⟨v, hv, h2⟩ := Option.bind_eq_some_iff.1 h
    obtain ⟨us, hu, rfl⟩ := Option.map_eq_some_iff.1 h2
    simp [hf.eval hv, evp_map hf hu]
theorem q_build {t : TypeId} {ps : List (Nat × Operand)} {vs : List (Nat × Value)} {v : Value} (ho : o.op = .build t ps.toArray) (hp : evp L ps = some vs) (hr : ∀ w, (Instr.build t vs.toArray).run P w = .ok v w) : Qt P dF n L S o v := fun a w hf _ => by
  have := evp_map hf hp
  simp only [execOp, ho]
  have e : (ps.toArray.map fun x => (x.1, a.eval x.2)) = vs.toArray := by rw [← this]; simp
  simp only [e, Sem.run_bind, hr w, Result.andThen_ok, Sem.run_pure]
theorem fill_all : ∀ (vs : List Value) (j : Nat) (cells : Array Value), (∀ v ∈ vs, v.cells = #[v]) → j + vs.length ≤ cells.size →
    Instr.fill (fun i => some (i * 1, 1)) cells ((List.range' j vs.length).zip vs) = some (cells.toList.take j ++ vs ++ cells.toList.drop (j + vs.length)).toArray
  | [], j, cells, _, _ => by simp [Instr.fill]
  | v :: r, j, cells, h1, hl => by
    have hv := h1 v (by simp)
    have hj : j < cells.size := by simp at hl; omega
    have ih := fill_all r (j + 1) (cells.setIfInBounds j v) (fun u hu => h1 u (by simp [hu])) (by simp at hl ⊢; omega)
    simp only [Nat.mul_one] at ih ⊢
    simp only [List.length_cons, List.range'_succ, List.zip_cons_cons, Instr.fill, hv]
    have hz' : Array.foldl (fun cs (x : Value × Nat) => cs.setIfInBounds (j + x.snd) x.fst) cells #[v].zipIdx = cells.setIfInBounds j v := by simp
    have hc : (decide ((#[v] : Array Value).size ≠ 1) || decide (j + (#[v] : Array Value).size > cells.size)) = false := by simp; omega
    rw [hc, hz', if_neg (by simp), ih]
    congr 1
    rw [← Array.toList_inj]
    simp only [Array.toList_setIfInBounds]
    have hj' : j < cells.toList.length := by simpa using hj
    rw [List.take_set, List.drop_set_of_lt (by omega), List.take_succ_eq_append_getElem hj']
    rw [List.set_append_right _ _ (by simp; omega)]
    simp [Nat.min_eq_left (Nat.le_of_lt hj), Nat.add_assoc, Nat.add_comm 1]
theorem q_buildA {t e : TypeId} {N : Nat} {zs : List Value} {ps : List (Nat × Operand)} {vs : List (Nat × Value)} (ha : arr P t = some (N, e, 1)) (hz : zer P t = some zs) (hzl : zs.length = N) (ho : o.op = .build t ps.toArray) (hp : evp L ps = some vs)
    (hN : vs.map Prod.fst = List.range' 0 N) (h1 : ∀ p ∈ vs, p.2.cells = #[p.2]) : Qt P dF n L S o (.agg (vs.map Prod.snd).toArray) := by
  refine q_build ho hp fun w => ?_
  obtain ⟨hu, inf, hi, hs⟩ := arr_parts ha
  obtain ⟨i, z, hi', hz', hzc⟩ := zer_parts hz
  have hlen : vs.length = N := by have := congrArg List.length hN; simpa using this
  have hzs : z.cells.size = N := by rw [← hzl, ← hzc]; simp
  have hzip : (List.range' 0 (vs.map Prod.snd).length).zip (vs.map Prod.snd) = vs := by
    rw [List.length_map, hlen, ← hN]
    exact (List.zip_of_prod rfl rfl).symm
  have hf := fill_all (vs.map Prod.snd) 0 z.cells (fun v hv => by
    obtain ⟨p, hp', rfl⟩ := List.mem_map.1 hv
    exact h1 p hp') (by rw [List.length_map, hlen, hzs]; omega)
  rw [hzip] at hf
  have hdrop : z.cells.toList.drop (0 + (vs.map Prod.snd).length) = [] := by
    apply List.drop_eq_nil_of_le
    rw [List.length_map, hlen, ← hzs]; simp
  rw [hdrop] at hf
  simp only [Instr.build, zeroValue, typeInfo, Sem.run_bind, run_program, Result.andThen_ok, hi', hz', Sem.run_pure, run_underlying hu, sizeOf, hi, hs, hf]
  simp
end
end Go.X
namespace Go.X
open Go
variable {dF : List Deferred}
section
variable {P : Program} {n : Nat} {L : Slots} {w0 : World} {X : List Nat} {F : List Blk} {Q : Exit → Act → World → Prop} {ops : Array Oper} {o : Oper} {rest : List Oper}
def Wt (dF : List Deferred) (n : Nat) (ops : Array Oper) (L : Slots) (o : Oper) : Prop := ∀ a, Fr dF n L a → Region.wanted o (yielded ops a.tmps) = true
theorem Wt.plain (hg : o.guard = none) : Wt dF n ops L o := fun _ _ => by simp [Region.wanted, hg]
theorem Wt.yes {j t : Nat} {want : Bool} (hg : o.guard = some (j, want)) (hj : (ops[j]?).bind (·.dst) = some t) (hl : look L t = some (.bool want)) : Wt dF n ops L o := fun a hf => by
  simp [Region.wanted, hg, yielded, hj, hf.holds t _ hl]
def Wn (dF : List Deferred) (n : Nat) (ops : Array Oper) (L : Slots) (o : Oper) : Prop := ∀ a, Fr dF n L a → Region.wanted o (yielded ops a.tmps) = false
theorem Wn.no {j t : Nat} {want b : Bool} (hg : o.guard = some (j, want)) (hj : (ops[j]?).bind (·.dst) = some t) (hl : look L t = some (.bool b)) (hne : (b == want) = false) : Wn dF n ops L o := fun a hf => by
  have hb : b ≠ want := by simpa using hne
  simp [Region.wanted, hg, yielded, hj, hf.holds t _ hl, hb]
theorem Wn.none {j t : Nat} {want : Bool} (hg : o.guard = some (j, want)) (hj : (ops[j]?).bind (·.dst) = some t) (hl : look L t = some undef) : Wn dF n ops L o := fun a hf => by
  have := hf.holds t _ hl
  simp [Region.wanted, hg, yielded, hj, this, undef]
def Eff (P : Program) (dF : List Deferred) (n : Nat) (w0 : World) (X : List Nat) (o : Oper) (L : Slots) (F : List Blk) (G : Slots → List Blk → Prop) : Prop :=
  ∀ (Q : Exit → Act → World → Prop) (K : Act → World → Prop), (∀ L' F', G L' F' → ∀ a w, Fr dF n L' a → Mem w0 X F' w → K a w) → ∀ a w, Fr dF n L a → Mem w0 X F w → o.wp P a w K Q
theorem T.q {d : Nat} {v : Value} (hq : Qt P dF n L (Mem w0 X F) o v) (hw : Wt dF n ops L o) (hd : o.dst = some d) (hn : Nat.blt d n = true) (h : T P dF n w0 X Q ops rest ((d, v) :: L) F) : T P dF n w0 X Q ops (o :: rest) L F := fun a w hf hm => by
  refine wpList_step fun K hK => ?_
  rw [if_pos (hw a hf)]
  unfold Oper.wp
  rw [hq a w hf hm, Oper.upon_value, hd]
  exact hK _ _ (h _ _ (hf.put v hn) hm)
theorem T.no {d : Nat} (hw : Wn dF n ops L o) (hd : o.dst = some d) (hn : Nat.blt d n = true) (h : T P dF n w0 X Q ops rest ((d, undef) :: L) F) : T P dF n w0 X Q ops (o :: rest) L F := fun a w hf hm => by
  refine wpList_step fun K hK => ?_
  rw [if_neg (by rw [hw a hf]; simp), hd]
  exact hK _ _ (h _ _ (hf.put undef hn) hm)
theorem T.eff {G : Slots → List Blk → Prop} (he : Eff P dF n w0 X o L F G) (hw : Wt dF n ops L o) (h : ∀ L' F', G L' F' → T P dF n w0 X Q ops rest L' F') : T P dF n w0 X Q ops (o :: rest) L F := fun a w hf hm => by
  refine wpList_step fun K hK => ?_
  rw [if_pos (hw a hf)]
  exact he Q K (fun L' F' hg a' w' hf' hm' => hK _ _ (h L' F' hg a' w' hf' hm')) a w hf hm
theorem T.less {L' : Slots} (m : List Bool) (hL : Sub L' L) (h : T P dF n w0 X Q ops rest L' (pick m F)) : T P dF n w0 X Q ops rest L F := fun a w hf hm => h a w (hf.sub hL) (hm.sub (pick_sub m F))
theorem T.both {t : Nat} (b : Bool) (hl : look L t = some (.bool b)) (ht : b = true → T P dF n w0 X Q ops rest ((t, .bool true) :: L) F) (he : b = false → T P dF n w0 X Q ops rest ((t, .bool false) :: L) F) : T P dF n w0 X Q ops rest L F := fun a w hf hm => by
  have hs : ∀ c, b = c → Fr dF n ((t, .bool c) :: L) a := fun c hc => ⟨hf.size, hf.defers, fun s v hv => by
    subst hc
    simp only [look] at hv
    by_cases hts : t = s
    · subst hts; simp at hv; subst hv; exact hf.holds t _ hl
    · rw [nbeq hts] at hv; exact hf.holds s v hv⟩
  cases b with
  | true => exact ht rfl a w (hs true rfl) hm
  | false => exact he rfl a w (hs false rfl) hm
theorem Mem.new {w : World} (hm : Mem w0 X F w) (cs : List Value) (e : TypeId) : Mem w0 X (F ++ [⟨some w.heap.size, cs, e, (0, 0)⟩]) (w.alloc (.cells cs.toArray e)) := by
  refine hm.join (X' := []) ⟨⟨rfl, rfl, rfl, by simp, fun k hk _ => heap_alloc_old w _ hk⟩, ?_, ?_, ?_⟩ (by simp) (by simp)
  · intro b hb
    simp at hb
    subst hb
    exact heap_alloc_new w _
  · intro b hb k hk
    simp at hb
    subst hb
    simp at hk
    exact .inl (by omega)
  · simp
theorem Mem.ghost {w : World} (hm : Mem w0 X F w) (e : TypeId) (fz : Nat × Nat) : Mem w0 X (F ++ [⟨none, [], e, fz⟩]) w := by
  refine hm.join (X' := []) ⟨Kept.refl _ _, ?_, ?_, ?_⟩ (by simp) (by simp)
  · intro b hb
    simp at hb
    subst hb
    rfl
  · intro b hb k hk
    simp at hb
    subst hb
    cases hk
  · simp
theorem T.ghost (e : TypeId) (h : T P dF n w0 X Q ops rest L (F ++ [⟨none, [], e, (0, 0)⟩])) : T P dF n w0 X Q ops rest L F := fun a w hf hm => h a w hf (hm.ghost e _)
theorem W.ghost {c : Code} (e : TypeId) (h : W P dF n w0 X Q c L (F ++ [⟨none, [], e, (0, 0)⟩])) : W P dF n w0 X Q c L F := fun a w hf hm => h a w hf (hm.ghost e _)
theorem Mem.write {w w' : World} (hm : Mem w0 X F w) (i : Nat) {k : Nat} {cells cells' : List Value} {ty : TypeId} {fz fz' : Nat × Nat} (hi : F[i]? = some ⟨some k, cells, ty, fz⟩)
    (h1 : w'.heap[k]? = some (.cells cells'.toArray ty fz')) (h2 : ∀ j, j ≠ k → w'.heap[j]? = w.heap[j]?) (hos : w'.os = w.os) (htp : w'.tape = w.tape) (hout : w'.output = w.output) (hsz : w'.heap.size = w.heap.size) :
    Mem w0 X (F.set i ⟨some k, cells', ty, fz'⟩) w' := by
  have hmem := List.mem_of_getElem? hi
  have hlt : i < F.length := (List.getElem?_eq_some_iff.1 hi).1
  have hFi : F[i] = ⟨some k, cells, ty, fz⟩ := (List.getElem?_eq_some_iff.1 hi).2
  have hmk := hm.mine _ hmem k rfl
  have hap := List.pairwise_iff_getElem.1 hm.apart
  refine ⟨⟨hos.trans hm.kept.os, htp.trans hm.kept.tape, hout.trans hm.kept.output, by rw [hsz]; exact hm.kept.size, fun j hj hjx => ?_⟩, ?_, ?_, ?_⟩
  · rw [h2 j (fun e => by subst e; rcases hmk with h | h; omega; exact hjx h)]
    exact hm.kept.block j hj hjx
  · intro b hb
    obtain ⟨j, hj0, rfl⟩ := List.mem_iff_getElem.1 hb
    have hj : j < F.length := by simpa using hj0
    rw [List.getElem_set]
    by_cases hij : i = j
    · rw [if_pos hij]; exact h1
    · rw [if_neg hij]
      have hb' := hm.has F[j] (List.getElem_mem hj)
      unfold Blk.here at *
      cases hn : F[j].no with
      | none => rw [hn] at hb'; exact hb'
      | some m =>
        rw [hn] at hb'
        simp only at hb' ⊢
        have hmk' : m ≠ k := fun e => by
          subst e
          rcases Nat.lt_or_gt_of_ne hij with hlt' | hlt'
          · exact hap i j hlt hj hlt' m (by rw [hFi]) hn
          · exact hap j i hj hlt hlt' m hn (by rw [hFi])
        rw [h2 m hmk']
        exact hb'
  · intro b hb m hmm
    obtain ⟨j, hj0, rfl⟩ := List.mem_iff_getElem.1 hb
    have hj : j < F.length := by simpa using hj0
    rw [List.getElem_set] at hmm
    by_cases hij : i = j
    · rw [if_pos hij] at hmm
      cases hmm
      exact hmk
    · rw [if_neg hij] at hmm
      exact hm.mine _ (List.getElem_mem hj) m hmm
  · rw [List.pairwise_iff_getElem]
    intro p q hp0 hq0 hpq m hm1 hm2
    have hp : p < F.length := by simpa using hp0
    have hq : q < F.length := by simpa using hq0
    rw [List.getElem_set] at hm1 hm2
    by_cases hip : i = p
    · rw [if_pos hip] at hm1
      rw [if_neg (by omega)] at hm2
      subst hip
      exact hap i q hlt hq hpq m (by rw [hFi]; exact hm1) hm2
    · rw [if_neg hip] at hm1
      by_cases hiq : i = q
      · rw [if_pos hiq] at hm2
        subst hiq
        exact hap p i hp hlt hpq m hm1 (by rw [hFi]; exact hm2)
      · rw [if_neg hiq] at hm2
        exact hap p q hp hq hpq m hm1 hm2
theorem Mem.setRow {w : World} (hm : Mem w0 X F w) (i : Nat) {k : Nat} {cells : List Value} {ty : TypeId} {fz : Nat × Nat} (hi : F[i]? = some ⟨some k, cells, ty, fz⟩) (cells' : List Value) :
    Mem w0 X (F.set i ⟨some k, cells', ty, fz⟩) (w.setRow k cells'.toArray) := by
  have hb := hm.at i hi
  unfold Blk.here at hb
  exact hm.write i hi (setRow_heap w k _ _ _ _ hb) (fun j hj => setRow_other w k j _ hj) rfl rfl rfl (by simp)
theorem set_same {G : List Blk} {i : Nat} {b : Blk} (h : G[i]? = some b) : G.set i b = G := by
  apply List.ext_getElem?
  intro j
  rw [List.getElem?_set]
  by_cases hij : i = j
  · subst hij
    rw [if_pos rfl, if_pos (List.getElem?_eq_some_iff.1 h).1, h]
  · rw [if_neg hij]
theorem eff_new {d : Nat} {f : Nat → Value} {cs : List Value} {e : TypeId} (hd : o.dst = some d) (hn : Nat.blt d n = true)
    (hr : ∀ a w, Fr dF n L a → Mem w0 X F w → (execOp a.eval o).run P w = .ok (.value (f w.heap.size)) (w.alloc (.cells cs.toArray e))) :
    Eff P dF n w0 X o L F fun L' F' => ∃ k, L' = (d, f k) :: L ∧ F' = F ++ [⟨some k, cs, e, (0, 0)⟩] := fun Q K hK a w hf hm => by
  unfold Oper.wp
  rw [hr a w hf hm, Oper.upon_value, hd]
  exact hK _ _ ⟨_, rfl, rfl⟩ _ _ (hf.put _ hn) (hm.new cs e)
theorem e_alloc {e : TypeId} {cs : List Value} (hz : zer P e = some cs) {d : Nat} (ho : o.op = .alloc e) (hd : o.dst = some d) (hn : Nat.blt d n = true) :
    Eff P dF n w0 X o L F fun L' F' => ∃ k, L' = (d, .pointer (some ⟨k, 0, none⟩)) :: L ∧ F' = F ++ [⟨some k, cs, e, (0, 0)⟩] := by
  obtain ⟨i, z, hi, hz', rfl⟩ := zer_parts hz
  refine eff_new (f := fun k => .pointer (some ⟨k, 0, none⟩)) hd hn fun a w hf hm => ?_
  simp only [execOp, ho]
  simp [Instr.alloc, zeroValue, typeInfo, hi, hz', newVar, newRow]
theorem e_box {e : TypeId} {x : Operand} {v : Value} {d : Nat} (ho : o.op = .box e x) (hx : ev L x = some v) (hd : o.dst = some d) (hn : Nat.blt d n = true) :
    Eff P dF n w0 X o L F fun L' F' => ∃ k, L' = (d, .pointer (some ⟨k, 0, none⟩)) :: L ∧ F' = F ++ [⟨some k, v.cells.toList, e, (0, 0)⟩] :=
  eff_new (f := fun k => .pointer (some ⟨k, 0, none⟩)) hd hn fun a w hf hm => by
    simp only [execOp, ho, hf.eval hx]
    simp [Instr.box, newVar, newRow]
theorem e_lit {t e : TypeId} {len : Nat} {ps : List (Nat × Operand)} {vs : List (Nat × Value)} {cs : List Value} {d : Nat} (ho : o.op = .buildSlice t len ps.toArray) (hp : evp L ps = some vs)
    (hr : ∀ w, (Instr.buildSlice t len vs.toArray).run P w = .ok (.slice (some ⟨w.heap.size, 0, none⟩) len len) { w with heap := w.heap.push (.cells cs.toArray e (0, 0)) }) (hd : o.dst = some d) (hn : Nat.blt d n = true) :
    Eff P dF n w0 X o L F fun L' F' => ∃ k, L' = (d, .slice (some ⟨k, 0, none⟩) len len) :: L ∧ F' = F ++ [⟨some k, cs, e, (0, 0)⟩] :=
  eff_new (f := fun k => .slice (some ⟨k, 0, none⟩) len len) hd hn fun a w hf hm => by
    have := evp_map hf hp
    simp only [execOp, ho]
    have e' : (ps.toArray.map fun x => (x.1, a.eval x.2)) = vs.toArray := by rw [← this]; simp
    simp only [e', Sem.run_bind, hr w, Result.andThen_ok, Sem.run_pure]; rfl
theorem e_litA {t e : TypeId} {len by_ : Nat} {z : Value} {ps : List (Nat × Operand)} {vs : List (Nat × Value)} {d : Nat} (ha : slc P t = some (e, 1, by_)) (hz : zer P e = some [z]) (ho : o.op = .buildSlice t len ps.toArray) (hp : evp L ps = some vs)
    (hN : vs.map Prod.fst = List.range' 0 len) (h1 : ∀ p ∈ vs, p.2.cells = #[p.2]) (h24 : Nat.ble len 16777216 = true) (hd : o.dst = some d) (hn : Nat.blt d n = true) :
    Eff P dF n w0 X o L F fun L' F' => ∃ k, L' = (d, .slice (some ⟨k, 0, none⟩) len len) :: L ∧ F' = F ++ [⟨some k, vs.map Prod.snd, e, (0, 0)⟩] := by
  refine e_lit ho hp (fun w => ?_) hd hn
  obtain ⟨hu, inf, hi, hs, _⟩ := slc_parts ha
  obtain ⟨i, z', hi', hz', hzc⟩ := zer_parts hz
  rw [hi] at hi'
  cases hi'
  have hlen : vs.length = len := by have := congrArg List.length hN; simpa using this
  have hzs : z'.cells = #[z] := by rw [← Array.toList_inj, hzc]
  have h24' : len ≤ 16777216 := Nat.le_of_ble_eq_true h24
  have hzip : (List.range' 0 (vs.map Prod.snd).length).zip (vs.map Prod.snd) = vs := by
    rw [List.length_map, hlen, ← hN]
    exact (List.zip_of_prod rfl rfl).symm
  have hcell : ∀ v ∈ vs.map Prod.snd, v.cells = #[v] := fun v hv => by
    obtain ⟨p, hp', rfl⟩ := List.mem_map.1 hv
    exact h1 p hp'
  by_cases hl0 : len = 0
  · subst hl0
    have hv0 : vs = [] := List.eq_nil_of_length_eq_zero hlen
    subst hv0
    have e0 : Array.range 0 = #[] := by rw [← Array.toList_inj]; simp
    simp [Instr.buildSlice, run_underlying hu, sizeOf, typeInfo, hi, Instr.fill, newRow, e0]
  · have hf := fill_all (vs.map Prod.snd) 0 ((Array.range (len * 1)).map (#[z][· % 1]!)) hcell (by simp [hlen])
    rw [hzip] at hf
    have hdrop : ((Array.range (len * 1)).map (#[z][· % 1]!)).toList.drop (0 + (vs.map Prod.snd).length) = [] := by
      apply List.drop_eq_nil_of_le
      simp [hlen]
    rw [hdrop] at hf
    have n24 : ¬ (16777216 < len) := by omega
    simp only [List.take_zero, List.nil_append, List.append_nil] at hf
    have hsz : (#[z] : Array Value).size = 1 := rfl
    simp only [Instr.buildSlice, Sem.run_bind, run_underlying hu, Result.andThen_ok, sizeOf, typeInfo, run_program, hi, hs, Sem.run_pure]
    rw [if_neg (by omega), if_neg (by omega)]
    simp only [Sem.run_bind, zeroValue, typeInfo, run_program, Result.andThen_ok, hi, Sem.run_pure, hz', hzs, hsz, hf, newRow, run_newObj]
theorem madeCells_one (z : Value) (m : Nat) (hz : z.cells = #[z]) : (madeCells z.cells m).toList = List.replicate m z := by
  rw [hz]
  apply List.ext_getElem
  · simp [madeCells]
  · intro j h1 h2
    simp [madeCells, Nat.mod_one]
theorem e_make {t e : TypeId} {by_ : Nat} {z : Value} {l c : Operand} {k k' : IntKind} {i i' : Int} {d : Nat} (ha : slc P t = some (e, 1, by_)) (hz : zer P e = some [z]) (hz1 : z.cells = #[z]) (N M : Nat) (ho : o.op = .makeSlice t l c)
    (hl : ev L l = some (.int k i)) (hc : ev L c = some (.int k' i')) (hN : i = (N : Int)) (hM : i' = (M : Int)) (hNM : N ≤ M) (hb : by_ * M ≤ 281474976710656) (h63 : M ≤ 9223372036854775807) (hd : o.dst = some d) (hn : Nat.blt d n = true) :
    Eff P dF n w0 X o L F fun L' F' => ∃ k, L' = (d, .slice (some ⟨k, 0, none⟩) N M) :: L ∧ F' = F ++ [⟨some k, List.replicate M z, e, (0, 0)⟩] := by
  obtain ⟨hu, inf, hi, hs, rfl⟩ := slc_parts ha
  obtain ⟨inf', z', hi', hz', hzc⟩ := zer_parts hz
  rw [hi] at hi'
  cases hi'
  have hzz : z'.cells = #[z] := by rw [← Array.toList_inj, hzc]
  subst hN hM
  refine eff_new (f := fun k => .slice (some ⟨k, 0, none⟩) N M) hd hn fun a w hf hm => ?_
  have hr := run_make (P := P) w t e inf z' hu hi hz' k k' (N : Int) (M : Int) (by omega) (by omega) (by rw [← Int.natCast_mul]; omega) (by omega)
  have hcells : madeCells z'.cells (((M : Nat) : Int).toNat * inf.size) = (List.replicate M z).toArray := by
    rw [← Array.toList_inj, hs, Nat.mul_one, Int.toNat_natCast, hzz, ← hz1, madeCells_one z M hz1]
  rw [hcells] at hr
  simp only [execOp, ho, hf.eval hl, hf.eval hc, Sem.run_bind, hr, Result.andThen_ok, Sem.run_pure, Int.toNat_natCast]
theorem storeCells_run {w : World} (hm : Mem w0 X F w) (i : Nat) {k off : Nat} {cells : List Value} {ty : TypeId} (hi : F[i]? = some ⟨some k, cells, ty, (0, 0)⟩) (cs : List Value) (h1 : ∀ v ∈ cs, v.oneCell' = true) (hlt : off + cs.length ≤ cells.length) :
    (storeCells ⟨k, off, none⟩ cs).run P w = .ok () (w.setRow k (cells.take off ++ cs ++ cells.drop (off + cs.length)).toArray) := by
  have hb := hm.at i hi
  unfold Blk.here at hb
  have := run_storeCells_at P k off ty cs 0 cells.toArray w hb (by simpa using hlt) h1
  simpa using this
theorem e_storeW {t : TypeId} {x y : Operand} {k off : Nat} {cs : List Value} (hw : wide P t = some cs.length) (i : Nat) {cells : List Value} {ty : TypeId} (ho : o.op = .store t x y) (hx : ev L x = some (.pointer (some ⟨k, off, none⟩)))
    (hy : ev L y = some (.agg cs.toArray)) (hi : F[i]? = some ⟨some k, cells, ty, (0, 0)⟩) (hlt : off + cs.length ≤ cells.length) (h1 : ∀ v ∈ cs, v.oneCell' = true) (hd : o.dst = none) :
    Eff P dF n w0 X o L F fun L' F' => L' = L ∧ F' = F.set i ⟨some k, cells.take off ++ cs ++ cells.drop (off + cs.length), ty, (0, 0)⟩ := fun Q K hK a w hf hm => by
  have hsz : (P.info? t).map (·.size) = some cs.length := by
    unfold wide at hw
    split at hw <;> first | exact hw | cases hw
  obtain ⟨inf, hinf, hs⟩ := Option.map_eq_some_iff.1 hsz
  have hr : (execOp a.eval o).run P w = .ok .skip (w.setRow k (cells.take off ++ cs ++ cells.drop (off + cs.length)).toArray) := by
    have hst := storeCells_run (P := P) hm i hi cs h1 hlt
    simp only [execOp, ho, hf.eval hx, hf.eval hy, Instr.storeAt, Instr.sureAddr]
    simp [storeVar, Value.cells, sizeOf, typeInfo, hinf, hs, hst]
  unfold Oper.wp
  rw [hr, Oper.upon_skip, hd]
  exact hK _ _ ⟨rfl, rfl⟩ _ _ hf (hm.setRow i hi _)
theorem e_storeA {t : TypeId} {x y : Operand} {k : Nat} {cs : List Value} (hw : wide P t = some cs.length) (i : Nat) {cells : List Value} {ty : TypeId} (ho : o.op = .store t x y) (hx : ev L x = some (.pointer (some ⟨k, 0, none⟩)))
    (hy : ev L y = some (.agg cs.toArray)) (hi : F[i]? = some ⟨some k, cells, ty, (0, 0)⟩) (hlt : cs.length = cells.length) (h1 : ∀ v ∈ cs, v.oneCell' = true) (hd : o.dst = none) :
    Eff P dF n w0 X o L F fun L' F' => L' = L ∧ F' = F.set i ⟨some k, cs, ty, (0, 0)⟩ := by
  have h := e_storeW (dF := dF) (n := n) (w0 := w0) (X := X) hw i ho hx hy hi (by omega) h1 hd
  have e : cells.take 0 ++ cs ++ cells.drop (0 + cs.length) = cs := by rw [hlt]; simp
  rwa [e] at h
theorem e_store1 {t : TypeId} {x y : Operand} {k off : Nat} {v : Value} (hs : scalar P t = true) (i : Nat) {cells : List Value} {ty : TypeId} (ho : o.op = .store t x y) (hx : ev L x = some (.pointer (some ⟨k, off, none⟩)))
    (hy : ev L y = some v) (hi : F[i]? = some ⟨some k, cells, ty, (0, 0)⟩) (hlt : off < cells.length) (h1 : v.oneCell' = true) (hd : o.dst = none) :
    Eff P dF n w0 X o L F fun L' F' => L' = L ∧ F' = F.set i ⟨some k, cells.set off v, ty, (0, 0)⟩ := fun Q K hK a w hf hm => by
  have hsz := run_sizeOf_scalar (P := P) (w := w) hs
  have hc : v.cells = #[v] := by cases v <;> first | rfl | (simp [Value.oneCell'] at h1)
  have e : cells.take off ++ [v] ++ cells.drop (off + 1) = cells.set off v := by rw [List.set_eq_take_append_cons_drop, if_pos hlt]; simp
  have hr : (execOp a.eval o).run P w = .ok .skip (w.setRow k (cells.set off v).toArray) := by
    have hst := storeCells_run (P := P) (off := off) hm i hi [v] (by simpa using h1) (by simp; omega)
    rw [List.length_singleton, e] at hst
    simp only [execOp, ho, hf.eval hx, hf.eval hy, Instr.storeAt, Instr.sureAddr]
    simp [storeVar, hc, hsz, hst]
  unfold Oper.wp
  rw [hr, Oper.upon_skip, hd]
  exact hK _ _ ⟨rfl, rfl⟩ _ _ hf (hm.setRow i hi _)
theorem e_storeI {t : TypeId} {x y : Operand} {k off : Nat} {kk : IntKind} {z : Int} (hs : scalar P t = true) (i : Nat) {xs : List Int} {ty : TypeId} (ho : o.op = .store t x y) (hx : ev L x = some (.pointer (some ⟨k, off, none⟩)))
    (hy : ev L y = some (.int kk z)) (hi : F[i]? = some ⟨some k, ints kk xs, ty, (0, 0)⟩) (hlt : off < xs.length) (hd : o.dst = none) :
    Eff P dF n w0 X o L F fun L' F' => L' = L ∧ F' = F.set i ⟨some k, ints kk (xs.set off z), ty, (0, 0)⟩ := by
  have h := e_store1 (dF := dF) (n := n) (w0 := w0) (X := X) hs i ho hx hy hi (by simpa using hlt) rfl hd
  rwa [ints_set] at h
theorem e_append {t e : TypeId} {sz by_ : Nat} {zs : List Value} {x y : Operand} {A B : Option Addr} {len cap m c : Nat} {d : Nat} (ha : slc P t = some (e, sz, by_)) (hz : zer P e = some zs) (hzl : zs.length = sz) (hsz : 0 < sz) (i : Nat) {no : Option Nat} (old junk : List Value) (news : List Value)
    (hR : ∀ w, Mem w0 X F w → Reads w B news)
    (ho : o.op = .call { callee := .builtin .append, args := #[x, y], argTypes := #[t, t] }) (hx : ev L x = some (.slice A len cap)) (hy : ev L y = some (.slice B m c)) (hi : F[i]? = some ⟨no, old ++ junk, e, (0, 0)⟩)
    (hA : cap = 0 ∨ A = no.map fun k => (⟨k, 0, none⟩ : Addr)) (hol : old.length = len * sz) (hcl : (old ++ junk).length = cap * sz) (hlc : len ≤ cap) (hnl : news.length = m * sz) (h1 : ∀ v ∈ news, v.oneCell' = true) (hbytes : (len + m) * by_ ≤ 140737488355328) (h63 : len + m ≤ 9223372036854775807)
    (hd : o.dst = some d) (hn : Nat.blt d n = true) :
    Eff P dF n w0 X o L F fun L' F' => ∃ (A' : Option Addr) (no' : Option Nat) (cap' : Nat) (junk' : List Value), (cap' = 0 ∨ A' = no'.map fun k => (⟨k, 0, none⟩ : Addr)) ∧ (old ++ news ++ junk').length = cap' * sz ∧ len + m ≤ cap' ∧ (0 < len + m → no'.isSome = true) ∧ (m = 0 → A' = A ∧ no' = no) ∧
      L' = (d, .slice A' (len + m) cap') :: L ∧ F' = F.set i ⟨no', old ++ news ++ junk', e, (0, 0)⟩ := fun Q K hK a w hf hm => by
  obtain ⟨hu, inf, hinf, hs, hby⟩ := slc_parts ha
  obtain ⟨inf', z, hinf', hz', hzc⟩ := zer_parts hz
  rw [hinf] at hinf'
  cases hinf'
  have hb := hm.at i hi
  have hRw := hR w hm
  have hlt : i < F.length := (List.getElem?_eq_some_iff.1 hi).1
  by_cases hm0 : m = 0
  · subst hm0
    have hn0 : news = [] := List.eq_nil_of_length_eq_zero (by simpa using hnl)
    subst hn0
    have hr : (execOp a.eval o).run P w = .ok (.value (.slice A len cap)) w := by
      simp only [execOp, ho, resolve, invoke, builtin, hf.eval hx, hf.eval hy, Sem.run_bind, Sem.run_pure, Result.andThen_ok, List.map_toArray, List.map_cons, List.map_nil]
      have hfirst : (Builtin.firstCells sz 0 (.slice B 0 c)).run P w = .ok #[] w := by
        cases B with
        | none => simp [Builtin.firstCells]
        | some b => simp [Builtin.firstCells, loadCells, loadCellsFrom]
      have hb' : (Builtin.append_ #[t, t] o.type #[.slice A len cap, .slice B 0 c]).run P w = .ok (.slice A len cap) w := by
        cases A with
        | none => simp [Builtin.append_, run_underlying hu, sizeOf, typeInfo, hinf, hs, Builtin.lenOf, hlc, hfirst]
        | some b => simp [Builtin.append_, run_underlying hu, sizeOf, typeInfo, hinf, hs, Builtin.lenOf, hlc, hfirst, storeCells]
      simp [hb']
    unfold Oper.wp
    rw [hr, Oper.upon_value, hd]
    have hF : F.set i ⟨no, old ++ [] ++ junk, e, (0, 0)⟩ = F := by
      rw [List.append_nil]
      exact set_same hi
    refine hK _ _ ⟨A, no, cap, junk, hA, by simpa using hcl, hlc, fun h0 => ?_, fun _ => ⟨rfl, rfl⟩, rfl, rfl⟩ _ _ (hf.put _ hn) (by rw [hF]; exact hm)
    cases no with
    | some k => rfl
    | none =>
      unfold Blk.here at hb
      simp only [List.append_eq_nil_iff] at hb
      have h00 : len * sz = 0 := by rw [← hol, hb.1]; rfl
      rcases Nat.mul_eq_zero.1 h00 with h | h <;> omega
  · have hmpos : 0 < m := by omega
    have hnpos : 0 < news.length := by rw [hnl]; exact Nat.mul_pos hmpos hsz
    obtain ⟨b, rfl, _⟩ := hRw 0 news[0] (by simp [hnpos])
    have hnews : ∀ j v, news[j]? = some v → w.cell? (b.add j) = some v := fun j v hj => by
      obtain ⟨b', hb', hc⟩ := hRw j v hj
      cases hb'
      exact hc
    have run : ∀ v w', (Builtin.append_ #[t, t] o.type #[.slice A len cap, .slice (some b) m c]).run P w = .ok v w' → (execOp a.eval o).run P w = .ok (.value v) w' := fun v w' h => by
      simp only [execOp, ho, resolve, invoke, builtin, hf.eval hx, hf.eval hy, Sem.run_bind, Sem.run_pure, Result.andThen_ok, List.map_toArray, List.map_cons, List.map_nil, h]
    by_cases hroom : len + m ≤ cap
    ·
      have hcap : cap ≠ 0 := by omega
      have hA' := hA.resolve_left hcap
      cases no with
      | none =>
        unfold Blk.here at hb
        simp only at hb
        have h00 : cap * sz = 0 := by rw [← hcl, hb]; rfl
        rcases Nat.mul_eq_zero.1 h00 with h | h <;> omega
      | some g =>
        unfold Blk.here at hb
        simp only at hb
        subst hA'
        have hfit : len * inf.size + news.length ≤ (old ++ junk).toArray.size := by
          rw [List.size_toArray, hcl, hs, hnl, ← Nat.add_mul]
          exact Nat.mul_le_mul_right _ hroom
        have hr := run_append_room (P := P) w t o.type e inf hu hinf g len cap _ hb b m c news (by rw [hs]; exact hnl) hnews h1 hroom hfit
        have hcells : ((old ++ junk).toArray.toList.take (len * inf.size) ++ news ++ (old ++ junk).toArray.toList.drop (len * inf.size + news.length)) = old ++ news ++ junk.drop news.length := by
          rw [hs, ← hol]
          simp [List.drop_append]
        rw [hcells] at hr
        unfold Oper.wp
        rw [run _ _ hr, Oper.upon_value, hd]
        refine hK _ _ ⟨_, some g, cap, junk.drop news.length, .inr rfl, ?_, hroom, fun _ => rfl, fun h => absurd h hm0, rfl, rfl⟩ _ _ (hf.put _ hn) (hm.setRow i hi _)
        simp only [List.length_append, List.length_drop] at hcl ⊢
        have : old.length + news.length ≤ cap * sz := by rw [hol, hnl, ← Nat.add_mul]; exact Nat.mul_le_mul_right _ hroom
        omega
    ·
      have hge := grownCap_ge w (len + m) cap e
      have hgrow : (Builtin.append_ #[t, t] o.type #[.slice A len cap, .slice (some b) m c]).run P w = .ok (.slice (some ⟨w.heap.size, 0, none⟩) (len + m) (grownCap w (len + m) cap e))
          (w.drew.alloc (.cells (old.toArray ++ news.toArray ++ Builtin.zeroCells z.cells (grownCap w (len + m) cap e - (len + m))) e)) := by
        have hfits : Builtin.nextslicecap (len + m) cap * inf.bytes ≤ 281474976710656 := by rw [hby]; exact growslice_fits (by omega) hbytes
        cases A with
        | some ad =>
          refine run_append_grow (P := P) w t o.type e inf z hu hinf hz' ad len cap old (by rw [hs]; exact hol) ?_ b m c news (by rw [hs]; exact hnl) hnews (by omega) (by omega) hfits
          intro j v hj
          rcases hA with hc0 | hA
          · have : old = [] := by
              have h0 : len = 0 := by omega
              rw [h0, Nat.zero_mul] at hol
              exact List.eq_nil_of_length_eq_zero hol
            rw [this] at hj
            simp at hj
          · cases no with
            | none => cases hA
            | some g =>
              cases hA
              have := (Reads.blk hb rfl).pre j v hj
              obtain ⟨ad', h', hc'⟩ := this
              cases h'
              exact hc'
        | none =>
          have hlen0 : len = 0 ∧ cap = 0 := by
            rcases hA with hc0 | hA
            · omega
            · cases no with
              | none =>
                unfold Blk.here at hb
                simp only at hb
                have h00 : cap * sz = 0 := by rw [← hcl, hb]; rfl
                rcases Nat.mul_eq_zero.1 h00 with h | h <;> omega
              | some g => cases hA
          obtain ⟨rfl, rfl⟩ := hlen0
          have : old = [] := List.eq_nil_of_length_eq_zero (by simpa using hol)
          subst this
          have hr := run_append_nil (P := P) w t o.type e inf z hu hinf hz' b m c news (by rw [hs]; exact hnl) hnews hmpos (by omega) (by rw [hby]; have := hbytes; rw [Nat.zero_add] at this; omega)
          simpa using hr
      unfold Oper.wp
      rw [run _ _ hgrow, Oper.upon_value, hd]
      have hcells : old.toArray ++ news.toArray ++ Builtin.zeroCells z.cells (grownCap w (len + m) cap e - (len + m)) = (old ++ news ++ (Builtin.zeroCells z.cells (grownCap w (len + m) cap e - (len + m))).toList).toArray := by
        rw [← Array.toList_inj]; simp
      rw [hcells]
      refine hK _ _ ⟨_, some w.heap.size, grownCap w (len + m) cap e, (Builtin.zeroCells z.cells (grownCap w (len + m) cap e - (len + m))).toList, .inr rfl, ?_, hge, fun _ => rfl, fun h => absurd h hm0, rfl, rfl⟩ _ _ (hf.put _ hn) ?_
      · have hzsz : z.cells.size = sz := by rw [← hzl, ← hzc]; simp
        simp only [List.length_append, hol, hnl, Array.length_toList, size_zeroCells, hzsz, ← Nat.add_mul]
        congr 1
        omega
      ·
        have hnew := hm.drew.new (old ++ news ++ (Builtin.zeroCells z.cells (grownCap w (len + m) cap e - (len + m))).toList) e
        refine ⟨hnew.kept, ?_, ?_, ?_⟩
        · intro b' hb'
          rcases List.mem_or_eq_of_mem_set hb' with h | h
          · exact hnew.has b' (List.mem_append_left _ h)
          · subst h; exact hnew.has _ (List.mem_append_right _ (by simp))
        · intro b' hb'
          rcases List.mem_or_eq_of_mem_set hb' with h | h
          · exact hnew.mine b' (List.mem_append_left _ h)
          · subst h; exact hnew.mine _ (List.mem_append_right _ (by simp))
        · have hap := List.pairwise_iff_getElem.1 hm.apart
          rw [List.pairwise_iff_getElem]
          intro p q hp0 hq0 hpq k hk1 hk2
          have hp : p < F.length := by simpa using hp0
          have hq : q < F.length := by simpa using hq0
          rw [List.getElem_set] at hk1 hk2
          have old_lt : ∀ r (hr : r < F.length), F[r].no = some k → k < w.heap.size := fun r hr h => Blk.lt (hm.has _ (List.getElem_mem hr)) h
          by_cases hip : i = p
          · rw [if_pos hip] at hk1
            rw [if_neg (by omega)] at hk2
            cases hk1
            exact Nat.lt_irrefl _ (old_lt q hq hk2)
          · rw [if_neg hip] at hk1
            by_cases hiq : i = q
            · rw [if_pos hiq] at hk2
              cases hk2
              exact Nat.lt_irrefl _ (old_lt p hp hk1)
            · rw [if_neg hiq] at hk2
              exact hap p q hp hq hpq k hk1 hk2
theorem e_appendI {t e : TypeId} {by_ : Nat} {zs : List Value} {x y : Operand} {B : Option Addr} {len cap m c k : Nat} {d : Nat} (ha : slc P t = some (e, 1, by_)) (hz : zer P e = some zs) (hzl : zs.length = 1) (i : Nat) {cells : List Value} (kk : IntKind) (xs ys : List Int) (junk : List Value) (hc : cells = ints kk xs ++ junk)
    (hR : ∀ w, Mem w0 X F w → Reads w B (ints kk ys))
    (ho : o.op = .call { callee := .builtin .append, args := #[x, y], argTypes := #[t, t] }) (hx : ev L x = some (.slice (some ⟨k, 0, none⟩) len cap)) (hy : ev L y = some (.slice B m c)) (hi : F[i]? = some ⟨some k, cells, e, (0, 0)⟩)
    (hol : xs.length = len) (hcl : xs.length + junk.length = cap) (hnl : ys.length = m) (hbytes : (len + m) * by_ ≤ 140737488355328) (h63 : len + m ≤ 9223372036854775807) (hd : o.dst = some d) (hn : Nat.blt d n = true) :
    Eff P dF n w0 X o L F fun L' F' => ∃ (k' cap' : Nat) (junk' : List Value), len + m + junk'.length = cap' ∧ L' = (d, .slice (some ⟨k', 0, none⟩) (len + m) cap') :: L ∧ F' = F.set i ⟨some k', ints kk (xs ++ ys) ++ junk', e, (0, 0)⟩ := by
  subst hc
  have h := e_append (dF := dF) (n := n) (w0 := w0) (X := X) ha hz hzl (by decide) i (no := some k) (ints kk xs) junk (ints kk ys) hR ho hx hy hi (.inr rfl) (by simp [hol]) (by simp; omega) (by omega) (by simp [hnl]) ints_one hbytes h63 hd hn
  intro Q K hK
  refine h Q K fun L' F' hg => ?_
  obtain ⟨A', no', cap', junk', hA, hl, hcap, hno, hm0, rfl, rfl⟩ := hg
  have hl' : len + m + junk'.length = cap' := by simp at hl; omega
  have hk : ∃ k', A' = some ⟨k', 0, none⟩ ∧ no' = some k' := by
    by_cases h0 : m = 0
    · obtain ⟨h1, h2⟩ := hm0 h0
      exact ⟨k, h1, h2⟩
    · obtain ⟨k', rfl⟩ := Option.isSome_iff_exists.1 (hno (by omega))
      rcases hA with h1 | h1
      · omega
      · exact ⟨k', h1, rfl⟩
  obtain ⟨k', rfl, rfl⟩ := hk
  exact hK _ _ ⟨k', cap', junk', hl', rfl, by rw [ints_append]⟩
theorem e_copy {tD tS e : TypeId} {by_ : Nat} {x y : Operand} {D B : Option Addr} {dl dc sl sc : Nat} {d : Nat} (ha : slc P tD = some (e, 1, by_)) (i k off : Nat) (cs cells : List Value) {ty : TypeId}
    (hR : ∀ w, Mem w0 X F w → Reads w B cs) (ho : o.op = .call { callee := .builtin .copy, args := #[x, y], argTypes := #[tD, tS] }) (hx : ev L x = some (.slice D dl dc)) (hy : ev L y = some (.slice B sl sc))
    (hi : F[i]? = some ⟨some k, cells, ty, (0, 0)⟩) (hD : cs = [] ∨ D = some ⟨k, off, none⟩) (hcl : cs.length = min sl dl) (hfit : off + cs.length ≤ cells.length) (h1 : ∀ v ∈ cs, v.oneCell' = true) (hd : o.dst = some d) (hn : Nat.blt d n = true) :
    Eff P dF n w0 X o L F fun L' F' => L' = (d, .int .i64 cs.length) :: L ∧ F' = F.set i ⟨some k, cells.take off ++ cs ++ cells.drop (off + cs.length), ty, (0, 0)⟩ := fun Q K hK a w hf hm => by
  obtain ⟨hu, inf, hinf, hs, hby⟩ := slc_parts ha
  have hsz1 : (P.info? e).map (·.size) = some 1 := by rw [hinf]; simp [hs]
  have hlt : i < F.length := (List.getElem?_eq_some_iff.1 hi).1
  have run : ∀ v w', (Builtin.copy_ #[tD, tS] o.type #[.slice D dl dc, .slice B sl sc]).run P w = .ok v w' → (execOp a.eval o).run P w = .ok (.value v) w' := fun v w' h => by
    simp only [execOp, ho, resolve, invoke, builtin, hf.eval hx, hf.eval hy, Sem.run_bind, Sem.run_pure, Result.andThen_ok, List.map_toArray, List.map_cons, List.map_nil, h]
  cases cs with
  | nil =>
    have hr := run_copy_none (P := P) w tD tS o.type e D B dl dc sl sc hu hsz1 hcl.symm
    unfold Oper.wp
    rw [run _ _ hr, Oper.upon_value, hd]
    have hF : F.set i ⟨some k, cells.take off ++ [] ++ cells.drop (off + 0), ty, (0, 0)⟩ = F := by
      rw [List.append_nil, Nat.add_zero, List.take_append_drop]
      exact set_same hi
    refine hK _ _ ⟨rfl, rfl⟩ _ _ (hf.put _ hn) ?_
    simp only [List.length_nil, hF]
    exact hm
  | cons u us =>
    have hD' := hD.resolve_left (by simp)
    subst hD'
    obtain ⟨b, rfl, _⟩ := hR w hm 0 u rfl
    have hsrc : ∀ j v, (u :: us)[j]? = some v → w.cell? (b.add j) = some v := fun j v hj => by
      obtain ⟨b', hb', hc⟩ := hR w hm j v hj
      cases hb'
      exact hc
    have hb := hm.at i hi
    unfold Blk.here at hb
    have hr := run_copy_row (P := P) w tD tS o.type e k off dl dc b sl sc cells.toArray ty (u :: us) hu hsz1 hb hcl hsrc (by simpa using hfit) h1
    unfold Oper.wp
    rw [run _ _ hr, Oper.upon_value, hd]
    exact hK _ _ ⟨rfl, rfl⟩ _ _ (hf.put _ hn) (hm.setRow i hi _)
theorem e_bytes {t t' e : TypeId} {x : Operand} {s : ByteArray} {d : Nat} (hs : P.underlying t = some .string) (ht : P.underlying t' = some (.slice e)) (he : P.underlying e = some (.int .u8)) (ho : o.op = .convert t t' x) (hx : ev L x = some (.string s)) (hd : o.dst = some d) (hn : Nat.blt d n = true) :
    Eff P dF n w0 X o L F fun L' F' => ∃ (k cap : Nat) (junk : List Value) (fz : Nat × Nat), s.size ≤ cap ∧ (ints .u8 (s.data.toList.map fun b => (b.toNat : Int)) ++ junk).length = cap ∧ L' = (d, .slice (some ⟨k, 0, none⟩) s.size cap) :: L ∧ F' = F ++ [⟨some k, ints .u8 (s.data.toList.map fun b => (b.toNat : Int)) ++ junk, e, fz⟩] := fun Q K hK a w hf hm => by
  let cap := (Question.appendCap s.size 0 e).cut (w.tape w.drawn (.appendCap s.size 0 e))
  have hcap : s.size ≤ cap := by simp only [cap, Question.cut]; omega
  let cs : List Value := ints .u8 (s.data.toList.map fun b => (b.toNat : Int)) ++ List.replicate (cap - s.size) (.int .u8 0)
  have hcs : (s.data.map fun b => Value.int .u8 b.toNat) ++ Array.replicate (cap - s.size) (.int .u8 0) = cs.toArray := by
    rw [← Array.toList_inj]; simp [cs, ints]
  have hlen : cs.length = cap := by simp [cs, ints]; omega
  have hnew := hm.drew.new cs e
  have hlk : (w.drew.alloc (.cells cs.toArray e)).heap[w.heap.size]? = some (.cells cs.toArray e) := heap_alloc_new w.drew _
  have hr : (execOp a.eval o).run P w = .ok (.value (.slice (some ⟨w.heap.size, 0, none⟩) s.size cap)) ((w.drew.alloc (.cells cs.toArray e)).freeze ⟨w.heap.size, cap, none⟩ 1) := by
    simp only [execOp, ho, hf.eval hx, convert]
    simp only [Sem.run_bind, run_underlying hs, run_underlying ht, run_underlying he, Result.andThen_ok, Conv.stringToBytes, run_choose, Question.forced, Bool.false_eq_true, if_false]
    have : (Question.appendCap s.size 0 e).cut (w.tape w.drawn (.appendCap s.size 0 e)) = cap := rfl
    simp only [this, hcs, newRow, Sem.run_bind, run_newObj, Sem.run_pure, Result.andThen_ok, markStringish, run_shape]
    have hsh : World.shape? { heap := w.heap.push (.cells cs.toArray e), tape := w.tape, drawn := w.drawn + 1, os := w.os, output := w.output } w.heap.size = some (e, cap) := by
      simp [World.shape?, hlen]
    simp only [hsh, run_freeze, Result.andThen_ok]
    rfl
  unfold Oper.wp
  rw [hr, Oper.upon_value, hd]
  have hfr : ∃ fz, ((w.drew.alloc (.cells cs.toArray e)).freeze ⟨w.heap.size, cap, none⟩ 1).heap[w.heap.size]? = some (.cells cs.toArray e fz) := by
    simp only [World.freeze, Nat.one_ne_zero, if_false, Array.getElem?_modify, hlk]
    exact ⟨(cap, cap + 1), rfl⟩
  obtain ⟨fz, hfz⟩ := hfr
  refine hK _ _ ⟨w.heap.size, cap, List.replicate (cap - s.size) (.int .u8 0), fz, hcap, hlen, rfl, rfl⟩ _ _ (hf.put _ hn) ?_
  have hw := hnew.write (w' := (w.drew.alloc (.cells cs.toArray e)).freeze ⟨w.heap.size, cap, none⟩ 1) F.length (k := w.heap.size) (cells := cs) (cells' := cs) (ty := e) (fz := (0, 0)) (fz' := fz) (by simp) hfz
    (fun j hj => by simp only [World.freeze, Nat.one_ne_zero, if_false]; rw [Array.getElem?_modify]; rw [if_neg (fun h => hj h.symm)]) (by simp [World.freeze]) (by simp [World.freeze]) (by simp [World.freeze]) (by simp [World.freeze])
  simpa using hw
def Enters (P : Program) (f : FuncId) : Prop := ∀ args w, (callFunc f args).run P w = .ok (.enter f args) w
theorem enters_of {f : FuncId} {fn : Func} (hf : P.funcs[f]? = some fn) (h1 : (fn.name == "runtime.NumGoroutine") = false) (h2 : fn.body.isNone = false) : Enters P f := fun args w => by
  simp only [callFunc, Sem.run_bind, run_program, Result.andThen_ok, hf, h1, h2, Bool.false_eq_true, if_false, Sem.run_pure]
def evs (L : Slots) : List Operand → Option (List Value)
  | [] => some []
  | x :: r => (ev L x).bind fun v => (evs L r).map fun vs => v :: vs
theorem evs_map {a : Act} (hf : Fr dF n L a) : ∀ {xs : List Operand} {vs : List Value}, evs L xs = some vs → xs.map a.eval = vs
  | [], vs, h => by simp [evs] at h; simp [h]
  | x :: r, vs, h => by
    simp only [evs] at h
    obtain ⟨v, hv, h2⟩ := Option.bind_eq_some_iff.1 h
    obtain ⟨us, hu, rfl⟩ := Option.map_eq_some_iff.1 h2
    simp [hf.eval hv, evs_map hf hu]
theorem run_call {f : FuncId} {xs : List Operand} {ts : Array TypeId} {vs : List Value} {a : Act} {w : World} (he : Enters P f) (hf : Fr dF n L a) (ho : o.op = .call { callee := .value (.func f), args := xs.toArray, argTypes := ts }) (hx : evs L xs = some vs) :
    (execOp a.eval o).run P w = .ok (.enter f vs.toArray) w := by
  have := evs_map hf hx
  simp only [execOp, ho, resolve, Act.eval, Deferred.ofValue, invoke]
  have e : (#[] ++ xs.toArray.map a.eval) ++ #[] = vs.toArray := by rw [← this]; simp
  have e2 : (xs.toArray.map a.eval) = vs.toArray := by rw [← this]; simp
  simp only [Sem.run_bind, Sem.run_pure, Result.andThen_ok, Array.empty_append, Array.append_empty]
  show ((callFunc f (xs.toArray.map a.eval)).run P w) = _
  rw [e2, he]
theorem e_call {f : FuncId} {xs : List Operand} {ts : Array TypeId} {vs : List Value} {d : Nat} {post : Value → List Blk → Prop} (he : Enters P f) (ho : o.op = .call { callee := .value (.func f), args := xs.toArray, argTypes := ts }) (hx : evs L xs = some vs)
    (hc : ∀ w, Mem w0 X F w → Does P f vs.toArray w [] post) (hd : o.dst = some d) (hn : Nat.blt d n = true) :
    Eff P dF n w0 X o L F fun L' F' => ∃ v G, post v G ∧ L' = (d, v) :: L ∧ F' = F ++ G := fun Q K hK a w hf hm => by
  unfold Oper.wp
  rw [run_call he hf ho hx, Oper.upon_enter]
  refine Calls.mono (hc w hm) ?_
  rintro _ w' ⟨v, G, rfl, hm', hp⟩
  simp only [hd]
  exact hK _ _ ⟨v, G, hp, rfl, rfl⟩ _ _ (hf.put _ hn) (hm.join hm' (by simp) (by simp))
theorem Mem.ne {w : World} (hm : Mem w0 X F w) (i j : Nat) {a b : Blk} {k l : Nat} (hij : i ≠ j) (hi : F[i]? = some a) (hj : F[j]? = some b) (ha : a.no = some k) (hb : b.no = some l) : k ≠ l := fun e => by
  subst e
  have hap := List.pairwise_iff_getElem.1 hm.apart
  obtain ⟨h1, rfl⟩ := List.getElem?_eq_some_iff.1 hi
  obtain ⟨h2, rfl⟩ := List.getElem?_eq_some_iff.1 hj
  rcases Nat.lt_or_gt_of_ne hij with h | h
  · exact hap i j h1 h2 h k ha hb
  · exact hap j i h2 h1 h k hb ha
theorem Ex.outC {fn : Func} {p : Tmp} {ty : TypeId} {k : Nat} {cs : List Value} {post : Value → List Blk → Prop} (m : List Bool) (i : Nat) {bt : TypeId} {fz : Nat × Nat} (hr : fn.results = #[.cell p ty]) (hw : wide P ty = some cs.length) (hp : look L p = some (.pointer (some ⟨k, 0, none⟩)))
    (hi : F[i]? = some ⟨some k, cs, bt, fz⟩) (hq : post (.agg cs.toArray) (pick m F)) :
    Ex [] n w0 X .ret (bodyPost P fn fun e w' => ∃ v F, e = .returned v ∧ Mem w0 X F w' ∧ post v F) L F := by
  intro a w hf hm
  refine ⟨hf.defers, .agg cs.toArray, ?_, _, pick m F, rfl, hm.sub (pick_sub m F), hq⟩
  have h1 := hf.holds p _ hp
  have hl := run_loadVar_wide (P := P) (w := w) hw ⟨k, 0, none⟩ cs rfl (fun j v hj => by
    obtain ⟨ad, ha, hc⟩ := R_blk i hi w hm j v hj
    cases ha
    exact hc)
  simp [results, hr, Array.getD_eq_getD_getElem?, h1, asAddr, hl]
end
end Go.X
namespace Go.X
open Go
variable {dF : List Deferred}
section
variable {P : Program} {n : Nat} {w0 : World} {X : List Nat} {Q : Exit → Act → World → Prop} {ops : Array Oper} {L : Slots} {F : List Blk}
def Any (P : Program) (ops : Array Oper) (Q : Exit → Act → World → Prop) (S : World → Prop) (tl : Nat) : Nat → Array Bool → Act → World → Prop
  | 0, l, a, w => Region.ready .any ops l = [] ∧ Q .normal a w
  | f + 1, l, a, w => (Region.ready .any ops l = [] → Q .normal a w) ∧
    ∀ i ∈ Region.ready .any ops l, wpOp P ops Q i (fun a' w' => (i < tl → S w') ∧ Any P ops Q S tl f (l.setIfInBounds i true) a' w') a w
theorem Any.sound {S : World → Prop} {tl : Nat} : ∀ (f : Nat) (l : Array Bool) (a : Act) (w : World), Any P ops Q S tl f l a w → wpAny P .any ops Q f l a w
  | 0, _, _, _, h => h
  | f + 1, _, _, _, h => ⟨h.1, fun i hi => wpOp_mono (fun a' w' h' => Any.sound f _ a' w' h'.2) (h.2 i hi)⟩
def sinks (ops : Array Oper) (tl : Nat) : Bool :=
  (List.range ops.size).all fun j => Nat.blt j tl || match ops[j]? with
    | some o => (List.range tl).all fun i => o.after.any fun e => Region.binds .any e && e.on == i
    | none => true
theorem sinks_spec {tl j : Nat} (h : sinks ops tl = true) {o : Oper} (ho : ops[j]? = some o) (hj : tl ≤ j) {i : Nat} (hi : i < tl) : ∃ e ∈ o.after, Region.binds .any e = true ∧ e.on = i := by
  have hlt : j < ops.size := (Array.getElem?_eq_some_iff.1 ho).1
  have h1 := List.all_eq_true.1 h j (List.mem_range.2 hlt)
  rw [ho] at h1
  have : Nat.blt j tl = false := by
    cases hb : Nat.blt j tl with
    | false => rfl
    | true => exact absurd (Nat.le_of_ble_eq_true hb) (by omega)
  rw [this, Bool.false_or] at h1
  have h2 := List.all_eq_true.1 h1 i (List.mem_range.2 hi)
  obtain ⟨e, he, hb⟩ := Array.any_eq_true'.1 h2
  simp only [Bool.and_eq_true, beq_iff_eq] at hb
  exact ⟨e, he, hb.1, hb.2⟩
theorem not_ready {l : Array Bool} {i j : Nat} {o : Oper} (ho : ops[j]? = some o) (hw : ∃ e ∈ o.after, Region.binds .any e = true ∧ e.on = i) (hi : l.getD i true = false) : j ∉ Region.ready .any ops l := fun hj => by
  obtain ⟨_, o', ho', hall⟩ := mem_ready.1 hj
  rw [ho] at ho'
  cases ho'
  obtain ⟨e, he, hb, rfl⟩ := hw
  have h1 := hall e he hb
  rcases Nat.lt_or_ge e.on l.size with h' | h'
  · simp [h'] at hi h1
    rw [hi] at h1
    cases h1
  · simp [Array.getElem?_eq_none h'] at h1
theorem Any.first {S : World → Prop} {tl i : Nat} {oi : Oper} {v : Value} (hi : ops[i]? = some oi) (hsel : ∀ (j : Nat) (o : Oper) cs b, ops[j]? = some o → o.op ≠ .select cs b) (hit : i < tl) (hsk : sinks ops tl = true)
    (hQ : ∀ c a w, Q (.panic c) (a.put oi.dst v) w → Q (.panic c) a w) :
    ∀ (f : Nat) (l : Array Bool) (a : Act) (w : World),
      (∀ j oj, ops[j]? = some oj → j ≠ i → l.getD j true = false → (∀ e ∈ oj.after, Region.binds .any e = true → e.on ≠ i) → oi.apart ops oj = true) →
      i ∈ Region.ready .any ops l → YieldsIf P ops S oi v a → S w →
      Any P ops Q S tl f (l.setIfInBounds i true) (a.put oi.dst v) w → Any P ops Q S tl (f + 1) l a w := by
  intro f
  induction f with
  | zero =>
    intro l a w _ hr hy hS H
    refine ⟨fun h => (by rw [h] at hr; cases hr), fun j hj => ?_⟩
    by_cases hji : j = i
    · subst hji; exact hy.wpOp hi hS ⟨fun _ => hS, H⟩
    · have h1 := ready_mono hj hji
      rw [H.1] at h1
      cases h1
  | succ f ih =>
    intro l a w hfree hr hy hS H
    refine ⟨fun h => (by rw [h] at hr; cases hr), fun j hj => ?_⟩
    by_cases hji : j = i
    · subst hji; exact hy.wpOp hi hS ⟨fun _ => hS, H⟩
    · have h1 := H.2 j (ready_mono hj hji)
      obtain ⟨hjun, oj, hoj, hall⟩ := mem_ready.1 hj
      have hiun := (mem_ready.1 hr).1
      have hjt : j < tl := Nat.lt_of_not_le fun hle => not_ready hoj (sinks_spec hsk hoj hle hit) hiun hj
      have hnot : ∀ e ∈ oj.after, Region.binds .any e = true → e.on ≠ i := fun e he hb heq => not_ready hoj ⟨e, he, hb, heq⟩ hiun hj
      have h2 := wpOp_putIf hoj (hfree j oj hoj hji hjun hnot) (fun cs b => hsel i oi cs b hi) (fun cs b => hsel j oj cs b hoj) hQ hy h1
      have hfree' : ∀ k ok, ops[k]? = some ok → k ≠ i → (l.setIfInBounds j true).getD k true = false → (∀ e ∈ ok.after, Region.binds .any e = true → e.on ≠ i) → oi.apart ops ok = true := fun k ok hk hki hun hno => by
        refine hfree k ok hk hki ?_ hno
        by_cases hjk : j = k
        · subst hjk; exact hjun
        · rw [getD_set_ne true hjk] at hun; exact hun
      refine wpOp_mono (fun a' w' h3 => ⟨h3.2.1, ih (l.setIfInBounds j true) a' w' hfree' (ready_mono hr (Ne.symm hji)) h3.1 (h3.2.1 hjt) ?_⟩) h2
      rw [Array.setIfInBounds_comm _ _ hji]
      exact h3.2.2
def takes (ops : Array Oper) (tl : Nat) (l : Array Bool) (i : Nat) : Bool :=
  Region.noSelect ops && sinks ops tl && Nat.blt i tl && Region.free .any ops l i && (Region.ready .any ops l).contains i
def D (P : Program) (dF : List Deferred) (n : Nat) (w0 : World) (X : List Nat) (Q : Exit → Act → World → Prop) (ops : Array Oper) (S : World → Prop) (tl f : Nat) (l : Array Bool) (L : Slots) (F : List Blk) : Prop :=
  ∀ a w, Fr dF n L a → Mem w0 X F w → Any P ops (NoPanic Q) S tl f l a w
theorem W.draw {id : Nat} {ops : List Oper} (tl : Nat) (hm : P.follows .mixedOrders = true)
    (h : D P dF n w0 X Q ops.toArray (Mem w0 X F) tl ops.length (List.replicate ops.length false).toArray L F) : W P dF n w0 X Q (.region id ops.toArray true) L F := fun a w hf hmem => by
  refine wp_region_noPanic (wp_region_any hm ?_)
  have e : Array.replicate ops.toArray.size false = (List.replicate ops.length false).toArray := by rw [← Array.toList_inj]; simp
  rw [e]
  exact Any.sound _ _ _ _ (h a w.drew hf hmem.drew)
section
variable {S : World → Prop} {tl f : Nat} {l : Array Bool} {o : Oper}
theorem D.take (i : Nat) {d : Nat} {v : Value} (hi : ops[i]? = some o) (ht : takes ops tl l i = true) (hS : ∀ w, Mem w0 X F w → S w) (hq : Qt P dF n L S o v) (hw : Wt dF n ops L o) (hd : o.dst = some d) (hn : Nat.blt d n = true)
    (h : D P dF n w0 X Q ops S tl f (l.setIfInBounds i true) ((d, v) :: L) F) : D P dF n w0 X Q ops S tl (f + 1) l L F := fun a w hf hm => by
  simp only [takes, Bool.and_eq_true] at ht
  obtain ⟨⟨⟨⟨h1, h2⟩, h3⟩, h4⟩, h5⟩ := ht
  refine Any.first hi (Region.noSelect_spec h1) (Nat.le_of_ble_eq_true h3) h2 (fun c a w hp => hp.elim) f l a w (Region.free_spec hi h4) (by simpa using h5) (.inl ⟨hw a hf, fun w' hs => hq a w' hf hs⟩) (hS w hm) ?_
  rw [hd]
  exact h _ _ (hf.put v hn) hm
def Up (P : Program) (dF : List Deferred) (n : Nat) (w0 : World) (X : List Nat) (Q : Exit → Act → World → Prop) (ops : Array Oper) (S : World → Prop) (tl f : Nat) (l : Array Bool) (L : Slots) (F : List Blk) (i : Nat) : Prop :=
  ∀ a w, Fr dF n L a → Mem w0 X F w → wpOp P ops (NoPanic Q) i (fun a' w' => (i < tl → S w') ∧ Any P ops (NoPanic Q) S tl f (l.setIfInBounds i true) a' w') a w
theorem Up.eff {i : Nat} {G : Slots → List Blk → Prop} (hi : ops[i]? = some o) (he : Eff P dF n w0 X o L F G) (hw : Wt dF n ops L o) (h : ∀ L' F', G L' F' → (i < tl → ∀ w, Mem w0 X F' w → S w) ∧ D P dF n w0 X Q ops S tl f (l.setIfInBounds i true) L' F') :
    Up P dF n w0 X Q ops S tl f l L F i := fun a w hf hm => by
  unfold wpOp
  simp only [hi, hw a hf, if_true]
  exact .inl (he (NoPanic Q) _ (fun L' F' hg a' w' hf' hm' => ⟨fun hlt => (h L' F' hg).1 hlt w' hm', (h L' F' hg).2 a' w' hf' hm'⟩) a w hf hm)
theorem Up.q {i d : Nat} {v : Value} (hi : ops[i]? = some o) (hq : Qt P dF n L (Mem w0 X F) o v) (hw : Wt dF n ops L o) (hd : o.dst = some d) (hn : Nat.blt d n = true) (hS : i < tl → ∀ w, Mem w0 X F w → S w)
    (h : D P dF n w0 X Q ops S tl f (l.setIfInBounds i true) ((d, v) :: L) F) : Up P dF n w0 X Q ops S tl f l L F i := fun a w hf hm => by
  unfold wpOp
  simp only [hi, hw a hf, if_true]
  refine .inl ?_
  unfold Oper.wp
  rw [hq a w hf hm, Oper.upon_value, hd]
  exact ⟨fun hlt => hS hlt w hm, h _ _ (hf.put v hn) hm⟩
theorem Up.no {i d : Nat} (hi : ops[i]? = some o) (hw : Wn dF n ops L o) (hd : o.dst = some d) (hn : Nat.blt d n = true) (hS : i < tl → ∀ w, Mem w0 X F w → S w)
    (h : D P dF n w0 X Q ops S tl f (l.setIfInBounds i true) ((d, undef) :: L) F) : Up P dF n w0 X Q ops S tl f l L F i := fun a w hf hm => by
  unfold wpOp
  simp only [hi, hw a hf, Bool.false_eq_true, if_false]
  rw [hd]
  exact ⟨fun hlt => hS hlt w hm, h _ _ (hf.put undef hn) hm⟩
theorem D.one (i : Nat) (hr : Region.ready .any ops l = [i]) (h : Up P dF n w0 X Q ops S tl f l L F i) : D P dF n w0 X Q ops S tl (f + 1) l L F := fun a w hf hm =>
  ⟨fun h0 => (by rw [hr] at h0; cases h0), fun j hj => by
    rw [hr] at hj
    have : j = i := by simpa using hj
    subst this
    exact h a w hf hm⟩
theorem D.two (i j : Nat) (hr : Region.ready .any ops l = [i, j]) (h : Up P dF n w0 X Q ops S tl f l L F i) (g : Up P dF n w0 X Q ops S tl f l L F j) : D P dF n w0 X Q ops S tl (f + 1) l L F := fun a w hf hm =>
  ⟨fun h0 => (by rw [hr] at h0; cases h0), fun k hk => by
    rw [hr] at hk
    have : k = i ∨ k = j := by simpa using hk
    rcases this with rfl | rfl
    · exact h a w hf hm
    · exact g a w hf hm⟩
theorem D.done (hr : Region.ready .any ops l = []) (h : Ex dF n w0 X .normal Q L F) : D P dF n w0 X Q ops S tl f l L F := fun a w hf hm => by
  cases f with
  | zero => exact ⟨hr, h a w hf hm⟩
  | succ f => exact ⟨fun _ => h a w hf hm, by rw [hr]; simp⟩
theorem D.less {L' : Slots} (hL : Sub L' L) (h : D P dF n w0 X Q ops S tl f l L' F) : D P dF n w0 X Q ops S tl f l L F := fun a w hf hm => h a w (hf.sub hL) hm
theorem D.both {t : Nat} (b : Bool) (hl : look L t = some (.bool b)) (ht : b = true → D P dF n w0 X Q ops S tl f l ((t, .bool true) :: L) F) (he : b = false → D P dF n w0 X Q ops S tl f l ((t, .bool false) :: L) F) : D P dF n w0 X Q ops S tl f l L F := fun a w hf hm => by
  have hs : ∀ c, b = c → Fr dF n ((t, .bool c) :: L) a := fun c hc => ⟨hf.size, hf.defers, fun s v hv => by
    subst hc
    simp only [look] at hv
    by_cases hts : t = s
    · subst hts; simp at hv; subst hv; exact hf.holds t _ hl
    · rw [nbeq hts] at hv; exact hf.holds s v hv⟩
  cases b with
  | true => exact ht rfl a w (hs true rfl) hm
  | false => exact he rfl a w (hs false rfl) hm
theorem D.ghost (e : TypeId) (hS : ∀ w, Mem w0 X F w → Mem w0 X (F ++ [⟨none, [], e, (0, 0)⟩]) w) (h : D P dF n w0 X Q ops S tl f l L (F ++ [⟨none, [], e, (0, 0)⟩])) : D P dF n w0 X Q ops S tl f l L F := fun a w hf hm => h a w hf (hS w hm)
end
theorem S_sub {G : List Blk} (h : F.Sublist G) : ∀ w, Mem w0 X G w → Mem w0 X F w := fun _ hm => hm.sub h
end
end Go.X
namespace Go.X
open Go
variable {dF : List Deferred}
section
variable {P : Program} {n : Nat} {w0 : World} {X : List Nat} {Q : Exit → Act → World → Prop} {L : Slots} {F : List Blk} {o : Oper}
theorem ints_replicate (k : IntKind) (N : Nat) (z : Int) : ints k (List.replicate N z) = List.replicate N (.int k z) := by simp [ints]
theorem ints_inj {k : IntKind} {xs ys : List Int} (h : ints k xs = ints k ys) : xs = ys := by
  induction xs generalizing ys with
  | nil => cases ys with
    | nil => rfl
    | cons _ _ => cases h
  | cons x r ih => cases ys with
    | nil => cases h
    | cons y s =>
      simp only [ints, List.map_cons, List.cons.injEq, Value.int.injEq, true_and] at h
      rw [h.1, ih h.2]
theorem e_makeI {t e : TypeId} {by_ : Nat} {kk : IntKind} {l c : Operand} {k k' : IntKind} {i i' : Int} {d : Nat} (ha : slc P t = some (e, 1, by_)) (hz : zer P e = some [.int kk 0]) (N M : Nat) (ho : o.op = .makeSlice t l c)
    (hl : ev L l = some (.int k i)) (hc : ev L c = some (.int k' i')) (hN : i = (N : Int)) (hM : i' = (M : Int)) (hNM : N ≤ M) (hb : by_ * M ≤ 281474976710656) (h63 : M ≤ 9223372036854775807) (hd : o.dst = some d) (hn : Nat.blt d n = true) :
    Eff P dF n w0 X o L F fun L' F' => ∃ k, L' = (d, .slice (some ⟨k, 0, none⟩) N M) :: L ∧ F' = F ++ [⟨some k, ints kk (List.replicate M 0), e, (0, 0)⟩] := by
  have h := e_make (dF := dF) (n := n) (w0 := w0) (X := X) (F := F) ha hz rfl N M ho hl hc hN hM hNM hb h63 hd hn
  intro Q K hK
  refine h Q K fun L' F' hg => ?_
  obtain ⟨k, rfl, rfl⟩ := hg
  exact hK _ _ ⟨k, rfl, by rw [ints_replicate]⟩
theorem cellsOf_of {e : TypeId} {i : TypeInfo} (hi : P.info? e = some i) (hs : i.size = 1) : P.cellsOf e = 1 := by simp [Program.cellsOf, hi, hs]
theorem run_eqItems_ints {e : TypeId} {k : IntKind} (he : scalar P e = true) (hu : P.underlying e = some (.int k)) (d : Nat) (xs ys : List Int) (w : World) : ∀ is : List Nat, (∀ i ∈ is, i < xs.length ∧ i < ys.length) →
    (Op.eqItems (d + 1) e 1 (ints k xs).toArray (ints k ys).toArray is).run P w = .ok (is.all fun i => xs.getD i 0 == ys.getD i 0) w
  | [], _ => by simp [Op.eqItems]
  | i :: is, h => by
    have hx := run_part_scalar (w := w) he (ints k xs).toArray (i * 1) _ (by rw [Nat.mul_one]; simpa using ints_get (k := k) (h i (by simp)).1)
    have hy := run_part_scalar (w := w) he (ints k ys).toArray (i * 1) _ (by rw [Nat.mul_one]; simpa using ints_get (k := k) (h i (by simp)).2)
    simp only [Op.eqItems, Sem.run_bind, hx, hy, Result.andThen_ok, run_equalIn_int w d e k k _ _ hu]
    have ih := run_eqItems_ints he hu d xs ys w is (fun j hj => h j (by simp [hj]))
    simp only [← List.getD_eq_getElem?_getD] at *
    cases hb : (xs.getD i 0 == ys.getD i 0) with
    | false => simp only [hb, Bool.not_false, if_true, Sem.run_pure, List.all_cons, Bool.false_and]
    | true => simp only [hb, Bool.not_true, Bool.false_eq_true, if_false, ih, List.all_cons, Bool.true_and]
theorem all_range_eq {xs ys : List Int} {N : Nat} (hx : xs.length = N) (hy : ys.length = N) : ((List.range N).all fun i => xs.getD i 0 == ys.getD i 0) = decide (xs = ys) := by
  rw [Bool.eq_iff_iff]
  simp only [List.all_eq_true, List.mem_range, beq_iff_eq, decide_eq_true_eq]
  constructor
  · intro h
    refine List.ext_getElem (by omega) fun i h1 h2 => ?_
    have := h i (by omega)
    simpa [List.getD_eq_getElem?_getD, h1, h2] using this
  · rintro rfl i _
    rfl
theorem q_eqlA {t t' e : TypeId} {len : Nat} {x y : Operand} {k : IntKind} {xs ys : List Int} {S : World → Prop} (ha : arr P t = some (len, e, 1)) (he : scalar P e = true) (hu : P.underlying e = some (.int k)) (hg : P.eqGuardType P.depth t = false)
    (ho : o.op = .binOp .eql t x y t') (hx : ev L x = some (.agg (ints k xs).toArray)) (hy : ev L y = some (.agg (ints k ys).toArray)) (hlx : xs.length = len) (hly : ys.length = len) : Qt P dF n L S o (.bool (decide (xs = ys))) := fun a w hf _ => by
  obtain ⟨hua, inf, hi, hs⟩ := arr_parts ha
  have h1 := run_equalIn_array w 9999 (ints k xs).toArray (ints k ys).toArray hua hi
  rw [cellsOf_of hi hs, show (9999 : Nat) = 9998 + 1 from rfl, run_eqItems_ints he hu 9998 xs ys w _ (fun i h => by simp at h; omega), all_range_eq hlx hly] at h1
  simp only [execOp, ho, hf.eval hx, hf.eval hy]
  simp [run_eqGuard_agg w _ _ _ _ _ _ hg, run_eql_struct, h1]
theorem q_neqA {t t' e : TypeId} {len : Nat} {x y : Operand} {k : IntKind} {xs ys : List Int} {S : World → Prop} (ha : arr P t = some (len, e, 1)) (he : scalar P e = true) (hu : P.underlying e = some (.int k)) (hg : P.eqGuardType P.depth t = false)
    (ho : o.op = .binOp .neq t x y t') (hx : ev L x = some (.agg (ints k xs).toArray)) (hy : ev L y = some (.agg (ints k ys).toArray)) (hlx : xs.length = len) (hly : ys.length = len) : Qt P dF n L S o (.bool (!decide (xs = ys))) := fun a w hf _ => by
  obtain ⟨hua, inf, hi, hs⟩ := arr_parts ha
  have h1 := run_equalIn_array w 9999 (ints k xs).toArray (ints k ys).toArray hua hi
  rw [cellsOf_of hi hs, show (9999 : Nat) = 9998 + 1 from rfl, run_eqItems_ints he hu 9998 xs ys w _ (fun i h => by simp at h; omega), all_range_eq hlx hly] at h1
  simp only [execOp, ho, hf.eval hx, hf.eval hy]
  simp [run_eqGuard_agg w _ _ _ _ _ _ hg, run_neq_struct, h1]
theorem W.drawP {id : Nat} {ops : List Oper} (tl : Nat) (m : List Bool) (hm : P.follows .mixedOrders = true)
    (h : D P dF n w0 X Q ops.toArray (Mem w0 X (pick m F)) tl ops.length (List.replicate ops.length false).toArray L F) : W P dF n w0 X Q (.region id ops.toArray true) L F := fun a w hf hmem => by
  refine wp_region_noPanic (wp_region_any hm ?_)
  have e : Array.replicate ops.toArray.size false = (List.replicate ops.length false).toArray := by rw [← Array.toList_inj]; simp
  rw [e]
  exact Any.sound _ _ _ _ (h a w.drew hf hmem.drew)
end
end Go.X
namespace Go.X
open Go
variable {dF : List Deferred}
section
variable {P : Program} {n : Nat} {w0 : World} {X : List Nat} {Q : Exit → Act → World → Prop} {L : Slots} {F : List Blk} {o : Oper}
theorem Mem.write' {w w' : World} (hm : Mem w0 X F w) (i : Nat) {k : Nat} {cells cells' : List Value} {ty : TypeId} {fz fz' : Nat × Nat} (hi : F[i]? = some ⟨some k, cells, ty, fz⟩)
    (h1 : w'.heap[k]? = some (.cells cells'.toArray ty fz')) (h2 : ∀ j, j < w.heap.size → j ≠ k → w'.heap[j]? = w.heap[j]?) (hos : w'.os = w.os) (htp : w'.tape = w.tape) (hout : w'.output = w.output) (hsz : w.heap.size ≤ w'.heap.size) :
    Mem w0 X (F.set i ⟨some k, cells', ty, fz'⟩) w' := by
  have hmem := List.mem_of_getElem? hi
  have hlt : i < F.length := (List.getElem?_eq_some_iff.1 hi).1
  have hFi : F[i] = ⟨some k, cells, ty, fz⟩ := (List.getElem?_eq_some_iff.1 hi).2
  have hmk := hm.mine _ hmem k rfl
  have hap := List.pairwise_iff_getElem.1 hm.apart
  refine ⟨⟨hos.trans hm.kept.os, htp.trans hm.kept.tape, hout.trans hm.kept.output, Nat.le_trans hm.kept.size hsz, fun j hj hjx => ?_⟩, ?_, ?_, ?_⟩
  · rw [h2 j (Nat.lt_of_lt_of_le hj hm.kept.size) (fun e => by subst e; rcases hmk with h | h; omega; exact hjx h)]
    exact hm.kept.block j hj hjx
  · intro b hb
    obtain ⟨j, hj0, rfl⟩ := List.mem_iff_getElem.1 hb
    have hj : j < F.length := by simpa using hj0
    rw [List.getElem_set]
    by_cases hij : i = j
    · rw [if_pos hij]; exact h1
    · rw [if_neg hij]
      have hb' := hm.has F[j] (List.getElem_mem hj)
      have hlt2 := fun m => @Blk.lt F[j] w hb' m
      unfold Blk.here at *
      cases hn : F[j].no with
      | none => rw [hn] at hb'; exact hb'
      | some m =>
        rw [hn] at hb'
        simp only at hb' ⊢
        have hmk' : m ≠ k := fun e => by
          subst e
          rcases Nat.lt_or_gt_of_ne hij with hlt' | hlt'
          · exact hap i j hlt hj hlt' m (by rw [hFi]) hn
          · exact hap j i hj hlt hlt' m hn (by rw [hFi])
        rw [h2 m (hlt2 m hn) hmk']
        exact hb'
  · intro b hb m hmm
    obtain ⟨j, hj0, rfl⟩ := List.mem_iff_getElem.1 hb
    have hj : j < F.length := by simpa using hj0
    rw [List.getElem_set] at hmm
    by_cases hij : i = j
    · rw [if_pos hij] at hmm
      cases hmm
      exact hmk
    · rw [if_neg hij] at hmm
      exact hm.mine _ (List.getElem_mem hj) m hmm
  · rw [List.pairwise_iff_getElem]
    intro p q hp0 hq0 hpq m hm1 hm2
    have hp : p < F.length := by simpa using hp0
    have hq : q < F.length := by simpa using hq0
    rw [List.getElem_set] at hm1 hm2
    by_cases hip : i = p
    · rw [if_pos hip] at hm1
      rw [if_neg (by omega)] at hm2
      subst hip
      exact hap i q hlt hq hpq m (by rw [hFi]; exact hm1) hm2
    · rw [if_neg hip] at hm1
      by_cases hiq : i = q
      · rw [if_pos hiq] at hm2
        subst hiq
        exact hap p i hp hlt hpq m hm1 (by rw [hFi]; exact hm2)
      · rw [if_neg hiq] at hm2
        exact hap p q hp hq hpq m hm1 hm2
theorem Mem.joinB {w w' : World} {G : List Blk} (hm : Mem w0 X F w) (i : Nat) {k : Nat} {cells cells' : List Value} {ty : TypeId} {fz : Nat × Nat} (hi : F[i]? = some ⟨some k, cells, ty, fz⟩) (g : Mem w [k] (⟨some k, cells', ty, fz⟩ :: G) w') :
    Mem w0 X (F.set i ⟨some k, cells', ty, fz⟩ ++ G) w' := by
  have h1 := g.has _ (List.mem_cons_self ..)
  have hA := hm.write' (w' := w') (cells' := cells') (fz' := fz) i hi h1 (fun j hj hjk => g.kept.block j hj (by simpa using hjk)) g.kept.os g.kept.tape g.kept.output g.kept.size
  have hne : ∀ c ∈ G, ∀ m, c.no = some m → w.heap.size ≤ m := fun c hc m hcm => by
    rcases g.mine c (List.mem_cons_of_mem _ hc) m hcm with h | h
    · exact h
    · have hk : m = k := by simpa using h
      subst hk
      exact absurd hcm ((List.pairwise_cons.1 g.apart).1 c hc m rfl)
  have hin : ∀ b ∈ F.set i ⟨some k, cells', ty, fz⟩, ∀ m, b.no = some m → m < w.heap.size := fun b hb m hbm => by
    rcases List.mem_or_eq_of_mem_set hb with h | rfl
    · exact Blk.lt (hm.has b h) hbm
    · cases hbm
      exact Blk.lt (hm.at i hi) rfl
  refine ⟨hA.kept, ?_, ?_, ?_⟩
  · intro b hb
    rcases List.mem_append.1 hb with hb | hb
    · exact hA.has b hb
    · exact g.has b (List.mem_cons_of_mem _ hb)
  · intro b hb m hbm
    rcases List.mem_append.1 hb with hb | hb
    · exact hA.mine b hb m hbm
    · exact .inl (Nat.le_trans hm.kept.size (hne b hb m hbm))
  · rw [List.pairwise_append]
    refine ⟨hA.apart, (List.pairwise_cons.1 g.apart).2, fun b hb c hc m hbm hcm => ?_⟩
    have h1 := hin b hb m hbm
    have h2 := hne c hc m hcm
    omega
theorem e_callB {f : FuncId} {xs : List Operand} {ts : Array TypeId} {vs : List Value} {d : Nat} (i : Nat) {k : Nat} {cells : List Value} {ty : TypeId} {fz : Nat × Nat} {post : Value → List Value → List Blk → Prop} (he : Enters P f)
    (ho : o.op = .call { callee := .value (.func f), args := xs.toArray, argTypes := ts }) (hx : evs L xs = some vs) (hi : F[i]? = some ⟨some k, cells, ty, fz⟩)
    (hc : ∀ w, Mem w0 X F w → Does P f vs.toArray w [k] fun v G => ∃ cs G2, post v cs G2 ∧ G = ⟨some k, cs, ty, fz⟩ :: G2) (hd : o.dst = some d) (hn : Nat.blt d n = true) :
    Eff P dF n w0 X o L F fun L' F' => ∃ v cs G2, post v cs G2 ∧ L' = (d, v) :: L ∧ F' = F.set i ⟨some k, cs, ty, fz⟩ ++ G2 := fun Q K hK a w hf hm => by
  unfold Oper.wp
  rw [run_call he hf ho hx, Oper.upon_enter]
  refine Calls.mono (hc w hm) ?_
  rintro _ w' ⟨v, G, rfl, hm', cs, G2, hp, rfl⟩
  simp only [hd]
  exact hK _ _ ⟨v, cs, G2, hp, rfl, rfl⟩ _ _ (hf.put _ hn) (hm.joinB i hi hm')
theorem spec_ofB {f : FuncId} {fn : Func} {c : Code} {args : List Value} {post : Value → List Blk → Prop} (n : Nat) (F0 : List Blk) (h0 : Mem w0 X F0 w0) (hf : P.funcs[f]? = some fn) (hb : fn.body = some c) (hnn : fn.ntmps = n) (hn : Nat.ble args.length n = true)
    (h : W P [] n w0 X (bodyPost P fn fun e w' => ∃ v F, e = .returned v ∧ Mem w0 X F w' ∧ post v F) c (heads 0 args) F0) : Does P f args.toArray w0 X post := by
  subst hnn
  refine calls_of_wp hf hb (h _ w0 ⟨?_, rfl, ?_⟩ h0)
  · have := Nat.le_of_ble_eq_true hn
    simp; omega
  · intro t v hl
    obtain ⟨_, h2⟩ := look_heads args 0 t v hl
    simp only [Nat.sub_zero] at h2
    have hlt : t < args.length := (List.getElem?_eq_some_iff.1 h2).1
    rw [Array.getElem?_append_left (by simpa using hlt)]
    simpa using h2
theorem Mem.own1 {w : World} {b : Blk} {k : Nat} (hb : b.no = some k) (h : b.here w) : Mem w [k] [b] w :=
  ⟨Kept.refl _ w, fun c hc => by rw [List.mem_singleton] at hc; exact hc ▸ h, fun c hc m hm => by rw [List.mem_singleton] at hc; subst hc; rw [hb] at hm; cases hm; exact .inr (by simp), List.pairwise_singleton _ _⟩
theorem q_loadG {t : TypeId} {x : Operand} {g j : Nat} {cs : List Value} {v : Value} (hs : scalar P t = true) (hR : ∀ w, Mem w0 X F w → Reads w (some ⟨g, 0, none⟩) cs) (ho : o.op = .load t x)
    (hx : ev L x = some (.pointer (some ⟨g, j, none⟩))) (hc : cs[j]? = some v) : Qt P dF n L (Mem w0 X F) o v := fun a w hf hm => by
  obtain ⟨ad, he, hcell⟩ := hR w hm j v hc
  cases he
  rw [add_lit, Nat.zero_add] at hcell
  simp only [execOp, ho, hf.eval hx, Instr.loadAt, Instr.sureAddr]
  simp [run_loadVar_scalar hs _ v hcell]
end
end Go.X
namespace Go.X
open Go
variable {dF : List Deferred}
section
variable {P : Program} {n : Nat} {w0 : World} {X : List Nat} {Q : Exit → Act → World → Prop} {L : Slots} {F : List Blk} {o : Oper}
theorem zeroCells_one (z : Value) (m : Nat) : (Builtin.zeroCells #[z] m).toList = List.replicate m z := by
  refine List.ext_getElem? fun i => ?_
  by_cases h : i < m
  · simp [Builtin.zeroCells, h, Nat.mod_one]
  · rw [List.getElem?_eq_none (by simp [Builtin.zeroCells]; omega), List.getElem?_eq_none (by simp; omega)]
theorem Mem.moved {w : World} (hm : Mem w0 X F w) (i : Nat) (cs : List Value) (e : TypeId) : Mem w0 X (F.set i ⟨some w.heap.size, cs, e, (0, 0)⟩) (w.drew.alloc (.cells cs.toArray e)) := by
  have hnew := hm.drew.new cs e
  refine ⟨hnew.kept, ?_, ?_, ?_⟩
  · intro b' hb'
    rcases List.mem_or_eq_of_mem_set hb' with h | h
    · exact hnew.has b' (List.mem_append_left _ h)
    · subst h; exact hnew.has _ (List.mem_append_right _ (by simp))
  · intro b' hb'
    rcases List.mem_or_eq_of_mem_set hb' with h | h
    · exact hnew.mine b' (List.mem_append_left _ h)
    · subst h; exact hnew.mine _ (List.mem_append_right _ (by simp))
  · have hap := List.pairwise_iff_getElem.1 hm.apart
    rw [List.pairwise_iff_getElem]
    intro p q hp0 hq0 hpq k hk1 hk2
    have hp : p < F.length := by simpa using hp0
    have hq : q < F.length := by simpa using hq0
    rw [List.getElem_set] at hk1 hk2
    have old_lt : ∀ r (hr : r < F.length), F[r].no = some k → k < w.heap.size := fun r hr h => Blk.lt (hm.has _ (List.getElem_mem hr)) h
    by_cases hip : i = p
    · rw [if_pos hip] at hk1
      rw [if_neg (by omega)] at hk2
      cases hk1
      exact Nat.lt_irrefl _ (old_lt q hq hk2)
    · rw [if_neg hip] at hk1
      by_cases hiq : i = q
      · rw [if_pos hiq] at hk2
        cases hk2
        exact Nat.lt_irrefl _ (old_lt p hp hk1)
      · rw [if_neg hiq] at hk2
        exact hap p q hp hq hpq k hk1 hk2
theorem e_appendZ {t tn e : TypeId} {by_ : Nat} {x y : Operand} {kk kn kq : IntKind} {len cap k : Nat} {i' : Int} {d : Nat} (ha : slc P t = some (e, 1, by_)) (htn : P.underlying tn = some (.int kn)) (hz : zer P e = some [.int kk 0]) (i : Nat) {cells : List Value} (xs : List Int) (junk : List Value) (N : Nat)
    (hc : cells = ints kk xs ++ junk) (ho : o.op = .call { callee := .builtin .append, args := #[x, y], argTypes := #[t, tn] }) (hx : ev L x = some (.slice (some ⟨k, 0, none⟩) len cap)) (hy : ev L y = some (.int kq i')) (hN : i' = (N : Int)) (hi : F[i]? = some ⟨some k, cells, e, (0, 0)⟩)
    (hol : xs.length = len) (hcl : xs.length + junk.length = cap) (hbytes : (len + N) * by_ ≤ 140737488355328) (h63 : len + N ≤ 9223372036854775807) (hd : o.dst = some d) (hn : Nat.blt d n = true) :
    Eff P dF n w0 X o L F fun L' F' => ∃ (k' cap' : Nat) (junk' : List Value), len + N + junk'.length = cap' ∧ L' = (d, .slice (some ⟨k', 0, none⟩) (len + N) cap') :: L ∧ F' = F.set i ⟨some k', ints kk (xs ++ List.replicate N 0) ++ junk', e, (0, 0)⟩ := fun Q K hK a w hf hm => by
  obtain ⟨hu, inf, hinf, hs, hby⟩ := slc_parts ha
  obtain ⟨inf', z, hinf', hz', hzc⟩ := zer_parts hz
  rw [hinf] at hinf'
  cases hinf'
  subst hc hN
  have hzz : z.cells = #[.int kk 0] := by rw [← Array.toList_inj, hzc]
  have hb := hm.at i hi
  unfold Blk.here at hb
  simp only at hb
  have hw : IntKind.i64.wrap (N : Int) = N := i64_wrap (by omega) (by omega)
  have run : ∀ v w', (Builtin.append_ #[t, tn] o.type #[.slice (some ⟨k, 0, none⟩) len cap, .int kq N]).run P w = .ok v w' → (execOp a.eval o).run P w = .ok (.value v) w' := fun v w' h => by
    simp only [execOp, ho, resolve, invoke, builtin, hf.eval hx, hf.eval hy, Sem.run_bind, Sem.run_pure, Result.andThen_ok, List.map_toArray, List.map_cons, List.map_nil, h]
  have hnew : ints kk (List.replicate N 0) = List.replicate N (Value.int kk 0) := ints_replicate kk N 0
  by_cases hroom : len + N ≤ cap
  · have hst := storeCells_run (P := P) hm i (off := len) hi (List.replicate N (Value.int kk 0)) (fun v hv => by rw [List.eq_of_mem_replicate hv]; rfl) (by simp [hol]; omega)
    have hr : (Builtin.append_ #[t, tn] o.type #[.slice (some ⟨k, 0, none⟩) len cap, .int kq N]).run P w = .ok (.slice (some ⟨k, 0, none⟩) (len + N) cap)
        (w.setRow k ((ints kk xs ++ junk).take len ++ List.replicate N (Value.int kk 0) ++ (ints kk xs ++ junk).drop (len + (List.replicate N (Value.int kk 0)).length)).toArray) := by
      have h48 : ¬ ((281474976710656 : Int) < (N : Int) * (by_ : Int)) := by
        have : N * by_ ≤ (len + N) * by_ := Nat.mul_le_mul_right _ (by omega)
        have h2 : ((N * by_ : Nat) : Int) ≤ 140737488355328 := by omega
        rw [Int.natCast_mul] at h2
        omega
      by_cases hN0 : N = 0
      · subst hN0
        have hw0 : (w.setRow k ((ints kk xs ++ junk).take len ++ List.replicate 0 (Value.int kk 0) ++ (ints kk xs ++ junk).drop (len + (List.replicate 0 (Value.int kk 0)).length)).toArray) = w.setRow k ((ints kk xs ++ junk)).toArray := by simp
        have hsame : (storeCells (⟨k, len, none⟩ : Addr) ([] : List Value)).run P w = .ok () (w.setRow k (ints kk xs ++ junk).toArray) := by
          rw [← hw0]; simpa using hst
        simp [Builtin.append_, run_underlying hu, run_underlying htn, sizeOf, typeInfo, hinf, hs, hby, show IntKind.i64.wrap 0 = 0 by decide, show len ≤ cap by omega, add_lit, hsame, asInt, asIntOf]
      · have hn1 : ¬ (N * inf.size = 0) := by rw [hs]; omega
        have hz1 : (Builtin.zeroCells z.cells N).toList = List.replicate N (Value.int kk 0) := by rw [hzz]; exact zeroCells_one _ N
        simp [Builtin.append_, run_underlying hu, run_underlying htn, sizeOf, typeInfo, zeroValue, hinf, hs, hby, hz', hw, hroom, add_lit, hN0, hz1, hst, asInt, asIntOf, h48]
        intro h
        omega
    unfold Oper.wp
    rw [run _ _ hr, Oper.upon_value, hd]
    have hcells : (ints kk xs ++ junk).take len ++ List.replicate N (Value.int kk 0) ++ (ints kk xs ++ junk).drop (len + (List.replicate N (Value.int kk 0)).length) = ints kk (xs ++ List.replicate N 0) ++ junk.drop N := by
      subst hol
      rw [← ints_length kk xs, List.take_left', ints_append, hnew]
      · simp [List.drop_append]
      · rfl
    rw [hcells]
    exact hK _ _ ⟨k, cap, junk.drop N, by simp; omega, rfl, rfl⟩ _ _ (hf.put _ hn) (hm.setRow i hi _)
  · have hfirst : (Builtin.firstCells inf.size len (.slice (some ⟨k, 0, none⟩) len cap)).run P w.drew = .ok (ints kk xs).toArray w.drew :=
      run_firstCells_some (P := P) w.drew inf.size len ⟨k, 0, none⟩ len cap (ints kk xs) (by simp [hol, hs]) (fun j v hj => by
        obtain ⟨ad, h1, h2⟩ := (Reads.blk (hm.at i hi) rfl).pre j v hj
        cases h1
        exact h2)
    have hfits : Builtin.nextslicecap (len + N) cap * inf.bytes ≤ 281474976710656 := by rw [hby]; exact growslice_fits (by omega) hbytes
    have hge := grownCap_ge w (len + N) cap e
    have hNb : N * inf.bytes ≤ 281474976710656 := by
      rw [hby]
      have : N * by_ ≤ (len + N) * by_ := Nat.mul_le_mul_right _ (by omega)
      omega
    have hr := Lib.run_append_grow_zeros (P := P) w t tn o.type e inf z kq kn hu htn hinf hz' (some ⟨k, 0, none⟩) len cap (ints kk xs) hfirst N (by omega) (by omega) (by omega) (by omega) hNb hfits
    unfold Oper.wp
    rw [run _ _ hr, Oper.upon_value, hd]
    have hcells : (ints kk xs).toArray ++ Builtin.zeroCells z.cells N ++ Builtin.zeroCells z.cells (grownCap w (len + N) cap e - (len + N)) = (ints kk (xs ++ List.replicate N 0) ++ List.replicate (grownCap w (len + N) cap e - (len + N)) (Value.int kk 0)).toArray := by
      rw [← Array.toList_inj, hzz]
      simp [zeroCells_one, ints_append, hnew]
    rw [hcells]
    exact hK _ _ ⟨_, _, List.replicate (grownCap w (len + N) cap e - (len + N)) (Value.int kk 0), by simp; omega, rfl, rfl⟩ _ _ (hf.put _ hn) (hm.moved i _ e)
theorem e_copyI {tD tS e : TypeId} {by_ : Nat} {x y : Operand} {kk : IntKind} {B : Option Addr} {dl dc sl sc k : Nat} {d : Nat} (ha : slc P tD = some (e, 1, by_)) (i : Nat) (xs ys : List Int) {ty : TypeId}
    (hR : ∀ w, Mem w0 X F w → Reads w B (ints kk ys)) (ho : o.op = .call { callee := .builtin .copy, args := #[x, y], argTypes := #[tD, tS] }) (hx : ev L x = some (.slice (some ⟨k, 0, none⟩) dl dc)) (hy : ev L y = some (.slice B sl sc))
    (hi : F[i]? = some ⟨some k, ints kk xs, ty, (0, 0)⟩) (hsl : ys.length = sl) (hle : sl ≤ dl) (hfit : sl ≤ xs.length) (hd : o.dst = some d) (hn : Nat.blt d n = true) :
    Eff P dF n w0 X o L F fun L' F' => L' = (d, .int .i64 sl) :: L ∧ F' = F.set i ⟨some k, ints kk (ys ++ xs.drop sl), ty, (0, 0)⟩ := by
  have h := e_copy (dF := dF) (n := n) (w0 := w0) (X := X) (L := L) ha i k 0 (ints kk ys) (ints kk xs) hR ho hx hy hi (.inr rfl) (by simp; omega) (by simp; omega) ints_one hd hn
  intro Q K hK
  refine h Q K fun L' F' hg => ?_
  obtain ⟨rfl, rfl⟩ := hg
  refine hK _ _ ⟨by rw [ints_length, hsl], ?_⟩
  rw [List.take_zero, List.nil_append, Nat.zero_add, ints_drop, ints_length, hsl, ints_append]
theorem q_min {S : World → Prop} {t t' : TypeId} {x y : Operand} {k : IntKind} {a b : Int} (ho : o.op = .call { callee := .builtin .min, args := #[x, y], argTypes := #[t, t'] }) (hx : ev L x = some (.int k a)) (hy : ev L y = some (.int k b)) : Qt P dF n L S o (.int k (min a b)) := fun c w hf _ => by
  have h := run_min_int2 (P := P) (w := w) #[t, t'] o.type k k a b
  have e : (if b < a then b else a) = min a b := by rw [Int.min_def]; split <;> split <;> omega
  rw [e] at h
  simp only [execOp, ho, resolve, invoke, builtin, hf.eval hx, hf.eval hy, Sem.run_bind, Sem.run_pure, Result.andThen_ok, List.map_toArray, List.map_cons, List.map_nil, h]
end
end Go.X
namespace Go.X
open Go
variable {dF : List Deferred}
section
variable {P : Program} {n : Nat} {w0 : World} {X : List Nat} {Q : Exit → Act → World → Prop} {L : Slots} {F : List Blk} {o : Oper}
theorem R_nilI (k : IntKind) : ∀ w, Mem w0 X F w → Reads w none (ints k []) := fun w _ => Reads.nil w none
theorem e_appendF {t e : TypeId} {by_ : Nat} {zs : List Value} {x y : Operand} {A B : Option Addr} {len cap m c : Nat} {d : Nat} (ha : slc P t = some (e, 1, by_)) (hz : zer P e = some zs) (hzl : zs.length = 1) (kk : IntKind) (xs ys : List Int)
    (hRx : ∀ w, Mem w0 X F w → Reads w A (ints kk xs)) (hRy : ∀ w, Mem w0 X F w → Reads w B (ints kk ys))
    (ho : o.op = .call { callee := .builtin .append, args := #[x, y], argTypes := #[t, t] }) (hx : ev L x = some (.slice A len cap)) (hy : ev L y = some (.slice B m c))
    (hol : xs.length = len) (hfull : cap = len) (hnl : ys.length = m) (hbytes : (len + m) * by_ ≤ 140737488355328) (h63 : len + m ≤ 9223372036854775807) (hd : o.dst = some d) (hn : Nat.blt d n = true) :
    Eff P dF n w0 X o L F fun L' F' => ∃ (A' : Option Addr) (cap' : Nat) (b : Blk), len + m ≤ cap' ∧ (∀ w, Mem w0 X (F ++ [b]) w → Reads w A' (ints kk (xs ++ ys))) ∧ L' = (d, .slice A' (len + m) cap') :: L ∧ F' = F ++ [b] := fun Q K hK a w hf hm => by
  obtain ⟨hu, inf, hinf, hs, hby⟩ := slc_parts ha
  obtain ⟨inf', z, hinf', hz', hzc⟩ := zer_parts hz
  rw [hinf] at hinf'
  cases hinf'
  subst hfull
  have run : ∀ v w', (Builtin.append_ #[t, t] o.type #[.slice A cap cap, .slice B m c]).run P w = .ok v w' → (execOp a.eval o).run P w = .ok (.value v) w' := fun v w' h => by
    simp only [execOp, ho, resolve, invoke, builtin, hf.eval hx, hf.eval hy, Sem.run_bind, Sem.run_pure, Result.andThen_ok, List.map_toArray, List.map_cons, List.map_nil, h]
  by_cases hm0 : m = 0
  · subst hm0
    obtain rfl : ys = [] := List.eq_nil_of_length_eq_zero hnl
    have hfirst : (Builtin.firstCells 1 0 (.slice B 0 c)).run P w = .ok #[] w := by
      cases B with
      | none => simp [Builtin.firstCells]
      | some b => simp [Builtin.firstCells, loadCells, loadCellsFrom]
    have hb' : (Builtin.append_ #[t, t] o.type #[.slice A cap cap, .slice B 0 c]).run P w = .ok (.slice A cap cap) w := by
      cases A with
      | none => simp [Builtin.append_, run_underlying hu, sizeOf, typeInfo, hinf, hs, Builtin.lenOf, hfirst]
      | some b => simp [Builtin.append_, run_underlying hu, sizeOf, typeInfo, hinf, hs, Builtin.lenOf, hfirst, storeCells]
    unfold Oper.wp
    rw [run _ _ hb', Oper.upon_value, hd]
    refine hK _ _ ⟨A, cap, ⟨none, [], e, (0, 0)⟩, Nat.le_refl _, fun w' hm' => ?_, rfl, rfl⟩ _ _ (hf.put _ hn) (hm.ghost e _)
    rw [List.append_nil]
    exact hRx w' (hm'.sub (List.sublist_append_left _ _))
  · have hmpos : 0 < m := by omega
    have hnl' : (ints kk ys).length = m := by simp [hnl]
    have hRw := hRy w hm
    obtain ⟨b, rfl, _⟩ := hRw 0 (ints kk ys)[0] (by simp [hnl, hmpos])
    have hnews : ∀ j v, (ints kk ys)[j]? = some v → w.cell? (b.add j) = some v := fun j v hj => by
      obtain ⟨b', hb', hc⟩ := hRw j v hj
      cases hb'
      exact hc
    have hge := grownCap_ge w (cap + m) cap e
    have hgrow : (Builtin.append_ #[t, t] o.type #[.slice A cap cap, .slice (some b) m c]).run P w = .ok (.slice (some ⟨w.heap.size, 0, none⟩) (cap + m) (grownCap w (cap + m) cap e))
        (w.drew.alloc (.cells ((ints kk xs).toArray ++ (ints kk ys).toArray ++ Builtin.zeroCells z.cells (grownCap w (cap + m) cap e - (cap + m))) e)) := by
      have hfits : Builtin.nextslicecap (cap + m) cap * inf.bytes ≤ 281474976710656 := by rw [hby]; exact growslice_fits (by omega) hbytes
      cases A with
      | some ad =>
        refine run_append_grow (P := P) w t o.type e inf z hu hinf hz' ad cap cap (ints kk xs) (by rw [hs]; simp [hol]) ?_ b m c (ints kk ys) (by rw [hs]; simp [hnl]) hnews (by omega) (by omega) hfits
        intro j v hj
        obtain ⟨ad', h', hc'⟩ := hRx w hm j v hj
        cases h'
        exact hc'
      | none =>
        have hx0 : xs = [] := by
          cases xs with
          | nil => rfl
          | cons x xs =>
            obtain ⟨ad', h', _⟩ := hRx w hm 0 (.int kk x) (by simp [ints])
            cases h'
        subst hx0
        obtain rfl : 0 = cap := hol
        have hr := run_append_nil (P := P) w t o.type e inf z hu hinf hz' b m c (ints kk ys) (by rw [hs]; simp [hnl]) hnews hmpos (by omega) (by rw [hby]; have := hbytes; rw [Nat.zero_add] at this; omega)
        simpa [ints] using hr
    unfold Oper.wp
    rw [run _ _ hgrow, Oper.upon_value, hd]
    have hcells : (ints kk xs).toArray ++ (ints kk ys).toArray ++ Builtin.zeroCells z.cells (grownCap w (cap + m) cap e - (cap + m)) = (ints kk (xs ++ ys) ++ (Builtin.zeroCells z.cells (grownCap w (cap + m) cap e - (cap + m))).toList).toArray := by
      rw [← Array.toList_inj]; simp [ints_append]
    rw [hcells]
    have hnew := hm.drew.new (ints kk (xs ++ ys) ++ (Builtin.zeroCells z.cells (grownCap w (cap + m) cap e - (cap + m))).toList) e
    refine hK _ _ ⟨_, _, _, hge, fun w' hm' => ?_, rfl, rfl⟩ _ _ (hf.put _ hn) hnew
    exact R_pre F.length (List.getElem?_concat_length) w' hm'
theorem Mem.perm {F' : List Blk} {w : World} (hm : Mem w0 X F w) (h : F.Perm F') : Mem w0 X F' w :=
  ⟨hm.kept, fun b hb => hm.has b (h.mem_iff.2 hb), fun b hb => hm.mine b (h.mem_iff.2 hb), hm.apart.perm h fun hab k hb ha => hab k ha hb⟩
theorem last_perm : ∀ (F : List Blk) (i : Nat) (b : Blk), F[i]? = some b → F.Perm (F.eraseIdx i ++ [b])
  | [], i, b, h => by simp at h
  | a :: F, 0, b, h => by
    obtain rfl : a = b := by simpa using h
    exact (List.perm_append_singleton a F).symm
  | a :: F, i + 1, b, h => (last_perm F i b (by simpa using h)).cons a
theorem W.last {c : Code} (i : Nat) {b : Blk} (hi : F[i]? = some b) (h : W P dF n w0 X Q c L (F.eraseIdx i ++ [b])) : W P dF n w0 X Q c L F := fun a w hf hm => h a w hf (hm.perm (last_perm F i b hi))
end
end Go.X
namespace Go.X
open Go
variable {dF : List Deferred}
section
variable {P : Program} {n : Nat} {w0 : World} {X : List Nat} {Q : Exit → Act → World → Prop} {L : Slots} {F : List Blk} {o : Oper}
theorem e_appendO {t e : TypeId} {by_ : Nat} {zs : List Value} {x y : Operand} {B : Option Addr} {len cap m c : Nat} {d : Nat} {no : Option Nat} (ha : slc P t = some (e, 1, by_)) (hz : zer P e = some zs) (hzl : zs.length = 1) (i : Nat) {cells : List Value} (kk : IntKind) (xs ys : List Int) (junk : List Value) (hc : cells = ints kk xs ++ junk)
    (hR : ∀ w, Mem w0 X F w → Reads w B (ints kk ys))
    (ho : o.op = .call { callee := .builtin .append, args := #[x, y], argTypes := #[t, t] }) (hx : ev L x = some (.slice (no.map fun k => (⟨k, 0, none⟩ : Addr)) len cap)) (hy : ev L y = some (.slice B m c)) (hi : F[i]? = some ⟨no, cells, e, (0, 0)⟩)
    (hol : xs.length = len) (hcl : xs.length + junk.length = cap) (hnl : ys.length = m) (hm0 : 0 < len + m) (hbytes : (len + m) * by_ ≤ 140737488355328) (h63 : len + m ≤ 9223372036854775807) (hd : o.dst = some d) (hn : Nat.blt d n = true) :
    Eff P dF n w0 X o L F fun L' F' => ∃ (k' cap' : Nat) (junk' : List Value), len + m + junk'.length = cap' ∧ L' = (d, .slice (some ⟨k', 0, none⟩) (len + m) cap') :: L ∧ F' = F.set i ⟨some k', ints kk (xs ++ ys) ++ junk', e, (0, 0)⟩ := by
  subst hc
  have h := e_append (dF := dF) (n := n) (w0 := w0) (X := X) ha hz hzl (by decide) i (no := no) (ints kk xs) junk (ints kk ys) hR ho hx hy hi (.inr rfl) (by simp [hol]) (by simp; omega) (by omega) (by simp [hnl]) ints_one hbytes h63 hd hn
  intro Q K hK
  refine h Q K fun L' F' hg => ?_
  obtain ⟨A', no', cap', junk', hA, hl, hcap, hno, _, rfl, rfl⟩ := hg
  have hl' : len + m + junk'.length = cap' := by simp at hl; omega
  obtain ⟨k', rfl⟩ := Option.isSome_iff_exists.1 (hno hm0)
  have hA' : A' = some ⟨k', 0, none⟩ := by
    rcases hA with h1 | h1
    · omega
    · exact h1
  subst hA'
  exact hK _ _ ⟨k', cap', junk', hl', rfl, by rw [ints_append]⟩
theorem q_cap {S : World → Prop} {t e : TypeId} {x : Operand} {A : Option Addr} {len cap by_ sz : Nat} (ha : slc P t = some (e, sz, by_)) (ho : o.op = .call { callee := .builtin .cap, args := #[x], argTypes := #[t] }) (hx : ev L x = some (.slice A len cap)) : Qt P dF n L S o (.int .i64 ((cap : Nat) : Int)) := fun a w hf _ => by
  simp [execOp, ho, hf.eval hx, resolve, invoke, builtin, Builtin.cap_, run_underlying (slc_parts ha).1, goInt]
theorem e_appendN {t tn e : TypeId} {by_ : Nat} {x y : Operand} {A : Option Addr} {kk kn kq : IntKind} {i' : Int} {d : Nat} (ha : slc P t = some (e, 1, by_)) (htn : P.underlying tn = some (.int kn)) (hz : zer P e = some [.int kk 0]) (N : Nat) (hpos : 0 < N)
    (ho : o.op = .call { callee := .builtin .append, args := #[x, y], argTypes := #[t, tn] }) (hx : ev L x = some (.slice A 0 0)) (hA : A = none) (hy : ev L y = some (.int kq i')) (hN : i' = (N : Int))
    (hbytes : N * by_ ≤ 140737488355328) (h63 : N ≤ 9223372036854775807) (hd : o.dst = some d) (hn : Nat.blt d n = true) :
    Eff P dF n w0 X o L F fun L' F' => ∃ (k' cap' : Nat) (junk' : List Value), N + junk'.length = cap' ∧ L' = (d, .slice (some ⟨k', 0, none⟩) N cap') :: L ∧ F' = F ++ [⟨some k', ints kk (List.replicate N 0) ++ junk', e, (0, 0)⟩] := fun Q K hK a w hf hm => by
  obtain ⟨hu, inf, hinf, hs, hby⟩ := slc_parts ha
  obtain ⟨inf', z, hinf', hz', hzc⟩ := zer_parts hz
  rw [hinf] at hinf'
  cases hinf'
  subst hN hA
  have hzz : z.cells = #[.int kk 0] := by rw [← Array.toList_inj, hzc]
  have run : ∀ v w', (Builtin.append_ #[t, tn] o.type #[.slice none 0 0, .int kq N]).run P w = .ok v w' → (execOp a.eval o).run P w = .ok (.value v) w' := fun v w' h => by
    simp only [execOp, ho, resolve, invoke, builtin, hf.eval hx, hf.eval hy, Sem.run_bind, Sem.run_pure, Result.andThen_ok, List.map_toArray, List.map_cons, List.map_nil, h]
  have hge := grownCap_ge w N 0 e
  have hr := Lib.run_append_nil_zeros (P := P) w t tn o.type e inf z kq kn hu htn hinf hz' N hpos (by omega) (by omega) (by rw [hby]; omega)
  unfold Oper.wp
  rw [run _ _ hr, Oper.upon_value, hd]
  have hcells : Builtin.zeroCells z.cells N ++ Builtin.zeroCells z.cells (grownCap w N 0 e - N) = (ints kk (List.replicate N 0) ++ List.replicate (grownCap w N 0 e - N) (Value.int kk 0)).toArray := by
    rw [← Array.toList_inj, hzz]
    simp [zeroCells_one, ints_replicate]
  rw [hcells]
  exact hK _ _ ⟨_, _, List.replicate (grownCap w N 0 e - N) (Value.int kk 0), by simp; omega, rfl, rfl⟩ _ _ (hf.put _ hn) (hm.drew.new _ _)
theorem Ex.outCC {fn : Func} {p q : Tmp} {ty ty' : TypeId} {k k' : Nat} {cs ds : List Value} {post : Value → List Blk → Prop} (m : List Bool) (i j : Nat) {bt bt' : TypeId} {fz fz' : Nat × Nat} (hr : fn.results = #[.cell p ty, .cell q ty']) (hw : wide P ty = some cs.length) (hw' : wide P ty' = some ds.length)
    (hp : look L p = some (.pointer (some ⟨k, 0, none⟩))) (hp' : look L q = some (.pointer (some ⟨k', 0, none⟩))) (hi : F[i]? = some ⟨some k, cs, bt, fz⟩) (hj : F[j]? = some ⟨some k', ds, bt', fz'⟩) (hq : post (.tuple #[.agg cs.toArray, .agg ds.toArray]) (pick m F)) :
    Ex [] n w0 X .ret (bodyPost P fn fun e w' => ∃ v F, e = .returned v ∧ Mem w0 X F w' ∧ post v F) L F := by
  intro a w hf hm
  refine ⟨hf.defers, .tuple #[.agg cs.toArray, .agg ds.toArray], ?_, _, pick m F, rfl, hm.sub (pick_sub m F), hq⟩
  have h1 := hf.holds p _ hp
  have h2 := hf.holds q _ hp'
  have hl := run_loadVar_wide (P := P) (w := w) hw ⟨k, 0, none⟩ cs rfl (fun j v hj => by
    obtain ⟨ad, ha, hc⟩ := R_blk i hi w hm j v hj
    cases ha
    exact hc)
  have hl' := run_loadVar_wide (P := P) (w := w) hw' ⟨k', 0, none⟩ ds rfl (fun j' v hj' => by
    obtain ⟨ad, ha, hc⟩ := R_blk j hj w hm j' v hj'
    cases ha
    exact hc)
  simp [results, hr, Array.getD_eq_getD_getElem?, h1, h2, asAddr, hl, hl']
end
section
variable {P : Program} {n : Nat} {w0 : World} {X : List Nat} {Q : Exit → Act → World → Prop} {ops : Array Oper} {L : Slots} {F : List Blk} {S : World → Prop} {tl f : Nat} {l : Array Bool}
theorem D.three (i j m : Nat) (hr : Region.ready .any ops l = [i, j, m]) (h : Up P dF n w0 X Q ops S tl f l L F i) (g : Up P dF n w0 X Q ops S tl f l L F j) (g' : Up P dF n w0 X Q ops S tl f l L F m) : D P dF n w0 X Q ops S tl (f + 1) l L F := fun a w hf hm =>
  ⟨fun h0 => (by rw [hr] at h0; cases h0), fun k hk => by
    rw [hr] at hk
    have : k = i ∨ k = j ∨ k = m := by simpa using hk
    rcases this with rfl | rfl | rfl
    · exact h a w hf hm
    · exact g a w hf hm
    · exact g' a w hf hm⟩
end
def three {α : Type} (a b c : α) : Nat → α
  | 0 => a
  | 1 => b
  | _ => c
theorem lt3 {p : Nat → Prop} (h0 : p 0) (h1 : p 1) (h2 : p 2) : ∀ i, i < 3 → p i
  | 0, _ => h0
  | 1, _ => h1
  | 2, _ => h2
  | _ + 3, h => absurd h (by omega)
def sumN (n : Nat → Nat) : Nat → Nat
  | 0 => 0
  | i + 1 => sumN n i + n i
def catN (x : Nat → List Int) : Nat → List Int
  | 0 => []
  | i + 1 => catN x i ++ x i
theorem catN_length {x : Nat → List Int} {n : Nat → Nat} {m : Nat} (h : ∀ i, i < m → (x i).length = n i) : ∀ i, i ≤ m → (catN x i).length = sumN n i
  | 0, _ => rfl
  | i + 1, hi => by rw [catN, List.length_append, catN_length h i (by omega), h i (by omega), sumN]
theorem sumN_le (n : Nat → Nat) (i : Nat) : ∀ j, i ≤ j → sumN n i ≤ sumN n j
  | 0, h => by
    obtain rfl : i = 0 := by omega
    exact Nat.le_refl _
  | j + 1, h => by
    by_cases he : i = j + 1
    · subst he; exact Nat.le_refl _
    · exact Nat.le_trans (sumN_le n i j (by omega)) (by rw [sumN]; omega)
theorem range_map_get {α : Type} (f : Nat → α) {m i : Nat} (h : i < m) : ((List.range m).map f)[i]? = some (f i) := by simp [h]
end Go.X
namespace Go.X
open Go
variable {dF : List Deferred}
section
variable {P : Program} {n : Nat} {w0 : World} {X : List Nat} {Q : Exit → Act → World → Prop} {L : Slots} {F : List Blk} {o : Oper}
theorem foldl_put (off : Nat) (cs cells : List Value) (h : off + cs.length ≤ cells.length) :
    cs.toArray.zipIdx.foldl (fun c (x : Value × Nat) => c.setIfInBounds (off + x.2) x.1) cells.toArray = (cells.take off ++ cs ++ cells.drop (off + cs.length)).toArray := by
  rw [← Array.foldl_toList, Array.toList_zipIdx]
  obtain ⟨h1, h2⟩ := Great.foldl_set off cs 0 cells.toArray
  refine Array.ext_getElem? fun k => ?_
  have h3 := h2 k
  simp only [Nat.add_zero] at h3
  rw [show (cs.toArray.toList.zipIdx) = cs.zipIdx from rfl, h3]
  simp only [List.size_toArray, List.getElem?_toArray]
  by_cases hk : off ≤ k ∧ k < off + cs.length ∧ k < cells.length
  · rw [if_pos hk, List.append_assoc, List.getElem?_append_right (by simp; omega), List.getElem?_append_left (by simp; omega)]
    simp [Nat.min_eq_left (show off ≤ cells.length by omega)]
  · rw [if_neg hk]
    by_cases hlt : k < off
    · rw [List.append_assoc, List.getElem?_append_left (by simp; omega), List.getElem?_take, if_pos hlt]
    · rw [List.getElem?_append_right (by simp; omega), List.getElem?_drop]
      congr 1
      simp [Nat.min_eq_left (show off ≤ cells.length by omega)]
      omega
def bplaces (P : Program) (t : TypeId) : Option (List (Nat × Nat)) :=
  match P.underlying t with
  | some (.struct fs) => fs.toList.mapM fun f => (P.info? f.type).map fun i => (f.offset, i.size)
  | some (.array m e) => (P.info? e).map fun i => (List.range m).map fun q => (q * i.size, i.size)
  | _ => none
def Puts (pl : List (Nat × Nat)) : List Value → List (Nat × Value) → List Value → Prop
  | zs, [], r => zs = r
  | zs, (i, v) :: rest, r => ∃ off m cs zs', pl[i]? = some (off, m) ∧ v.cells = List.toArray cs ∧ cs.length = m ∧ off + m ≤ zs.length ∧ zs.take off ++ cs ++ zs.drop (off + m) = zs' ∧ Puts pl zs' rest r
theorem fill_puts {pl : List (Nat × Nat)} {place : Nat → Option (Nat × Nat)} (hpl : ∀ i x, pl[i]? = some x → place i = some x) : ∀ (vs : List (Nat × Value)) (zs r : List Value), Puts pl zs vs r → Instr.fill place zs.toArray vs = some r.toArray
  | [], zs, r, h => by
    obtain rfl : zs = r := h
    rfl
  | (i, v) :: rest, zs, r, h => by
    obtain ⟨off, m, cs, zs', hp, hv, hm, hfit, hz, hr⟩ := h
    subst hm
    have hl := foldl_put off cs zs hfit
    unfold Instr.fill
    rw [hpl i _ hp]
    simp only [hv, List.size_toArray]
    rw [if_neg (by simp; omega)]
    have := fill_puts hpl rest zs' r hr
    rw [← hz, ← hl] at this
    exact this
theorem mapM_places {P : Program} {fs : Array Field} {pl : List (Nat × Nat)} (h : (fs.toList.mapM fun f => (P.info? f.type).map fun i => (f.offset, i.size)) = some pl) (w : World) :
    (fs.mapM fun f => do pure (f.offset, ← sizeOf f.type) : Sem (Array (Nat × Nat))).run P w = .ok pl.toArray w := by
  rw [Array.mapM_eq_mapM_toList]
  have go : ∀ (l : List Field) (pl : List (Nat × Nat)), (l.mapM fun f => (P.info? f.type).map fun i => (f.offset, i.size)) = some pl → (l.mapM fun f => do pure (f.offset, ← sizeOf f.type) : Sem (List (Nat × Nat))).run P w = .ok pl w := by
    intro l
    induction l with
    | nil =>
      intro pl h
      simp at h
      subst h
      simp
    | cons f l ih =>
      intro pl h
      rw [List.mapM_cons] at h
      cases hi : P.info? f.type with
      | none => simp [hi] at h
      | some inf =>
        cases hr : (l.mapM fun f => (P.info? f.type).map fun i => (f.offset, i.size)) with
        | none => simp [hi, hr] at h
        | some r =>
          simp [hi, hr] at h
          subst h
          have h0 : (do pure (f.offset, ← sizeOf f.type) : Sem (Nat × Nat)).run P w = .ok (f.offset, inf.size) w := by simp [sizeOf, typeInfo, hi]
          rw [List.mapM_cons, Sem.run_bind, h0, Result.andThen_ok, Sem.run_bind, ih r hr, Result.andThen_ok, Sem.run_pure]
  have := go fs.toList pl h
  simp only [map_eq_pure_bind, Sem.run_bind, Result.andThen_ok, Sem.run_pure] at this ⊢
  rw [this]
  rfl
theorem q_buildP {S : World → Prop} {t : TypeId} {pl : List (Nat × Nat)} {zs : List Value} {ps : List (Nat × Operand)} {vs : List (Nat × Value)} {cells : List Value} (hb : bplaces P t = some pl) (hz : zer P t = some zs) (ho : o.op = .build t ps.toArray) (hp : evp L ps = some vs) (hput : Puts pl zs vs cells) :
    Qt P dF n L S o (.agg cells.toArray) := by
  refine q_build ho hp fun w => ?_
  obtain ⟨i, z, hi', hz', hzc⟩ := zer_parts hz
  have hzs : z.cells = zs.toArray := by rw [← Array.toList_inj, hzc]
  unfold bplaces at hb
  split at hb
  · rename_i fs hu
    have hf := fill_puts (place := fun i => pl.toArray[i]?) (fun i x h => by simpa using h) vs zs cells hput
    simp only [Instr.build, zeroValue, typeInfo, Sem.run_bind, run_program, Result.andThen_ok, hi', hz', Sem.run_pure, run_underlying hu, mapM_places hb, hzs, hf]
  · rename_i m e hu
    obtain ⟨inf, hinf, rfl⟩ := Option.map_eq_some_iff.1 hb
    have hf := fill_puts (place := fun i => some (i * inf.size, inf.size)) (fun i x h => by
      simp only [List.getElem?_map, Option.map_eq_some_iff] at h
      obtain ⟨q, hq, rfl⟩ := h
      have := List.getElem?_eq_some_iff.1 hq
      obtain ⟨h1, h2⟩ := this
      simp at h2
      subst h2
      rfl) vs zs cells hput
    simp only [Instr.build, zeroValue, typeInfo, Sem.run_bind, run_program, Result.andThen_ok, hi', hz', Sem.run_pure, run_underlying hu, sizeOf, hinf, hzs, hf]
  · cases hb
end
end Go.X
namespace Go.X
open Go
variable {dF : List Deferred}
section
variable {P : Program} {n : Nat} {w0 : World} {X : List Nat} {Q : Exit → Act → World → Prop} {L : Slots} {F : List Blk} {o : Oper}
theorem q_max {S : World → Prop} {t t' : TypeId} {x y : Operand} {k : IntKind} {a b : Int} (ho : o.op = .call { callee := .builtin .max, args := #[x, y], argTypes := #[t, t'] }) (hx : ev L x = some (.int k a)) (hy : ev L y = some (.int k b)) : Qt P dF n L S o (.int k (max a b)) := fun c w hf _ => by
  have h := run_max_int2 (P := P) (w := w) #[t, t'] o.type k k a b
  have e : (if b > a then b else a) = max a b := by rw [Int.max_def]; split <;> split <;> omega
  rw [e] at h
  simp only [execOp, ho, resolve, invoke, builtin, hf.eval hx, hf.eval hy, Sem.run_bind, Sem.run_pure, Result.andThen_ok, List.map_toArray, List.map_cons, List.map_nil, h]
theorem Ex.outCT {fn : Func} {p u : Tmp} {ty : TypeId} {k : Nat} {cs : List Value} {x : Value} {post : Value → List Blk → Prop} (m : List Bool) (i : Nat) {bt : TypeId} {fz : Nat × Nat} (hr : fn.results = #[.cell p ty, .tmp u]) (hw : wide P ty = some cs.length)
    (hp : look L p = some (.pointer (some ⟨k, 0, none⟩))) (hx : look L u = some x) (hi : F[i]? = some ⟨some k, cs, bt, fz⟩) (hq : post (.tuple #[.agg cs.toArray, x]) (pick m F)) :
    Ex [] n w0 X .ret (bodyPost P fn fun e w' => ∃ v F, e = .returned v ∧ Mem w0 X F w' ∧ post v F) L F := by
  intro a w hf hm
  refine ⟨hf.defers, .tuple #[.agg cs.toArray, x], ?_, _, pick m F, rfl, hm.sub (pick_sub m F), hq⟩
  have h1 := hf.holds p _ hp
  have h2 := hf.holds u _ hx
  have hl := run_loadVar_wide (P := P) (w := w) hw ⟨k, 0, none⟩ cs rfl (fun j v hj => by
    obtain ⟨ad, ha, hc⟩ := R_blk i hi w hm j v hj
    cases ha
    exact hc)
  simp [results, hr, Array.getD_eq_getD_getElem?, h1, h2, asAddr, hl]
end
end Go.X
namespace Go.X
open Go
variable {dF : List Deferred}
section
variable {P : Program} {n : Nat} {w0 : World} {X : List Nat} {Q : Exit → Act → World → Prop} {L : Slots} {F : List Blk} {o : Oper}
theorem q_func {S : World → Prop} {f : Fn} {first captured : List Operand} {vs us : List Value} (ho : o.op = .makeFunc f first.toArray captured.toArray) (h1 : evs L first = some vs) (h2 : evs L captured = some us) : Qt P dF n L S o (.func f vs.toArray us.toArray) := fun a w hf _ => by
  have e1 := evs_map hf h1
  have e2 := evs_map hf h2
  have a1 : first.toArray.map a.eval = vs.toArray := by rw [← e1]; simp
  have a2 : captured.toArray.map a.eval = us.toArray := by rw [← e2]; simp
  simp only [execOp, ho, Instr.makeFunc, Sem.run_bind, Sem.run_pure, Result.andThen_ok, a1, a2]
theorem e_callF {f : FuncId} {x : Operand} {xs : List Operand} {ts : Array TypeId} {vs us : List Value} {d : Nat} {post : Value → List Blk → Prop} (he : Enters P f) (ho : o.op = .call { callee := .value x, args := xs.toArray, argTypes := ts }) (hx : ev L x = some (.func (.func f) #[] us.toArray)) (hxs : evs L xs = some vs)
    (hc : ∀ w, Mem w0 X F w → Does P f (vs ++ us).toArray w [] post) (hd : o.dst = some d) (hn : Nat.blt d n = true) :
    Eff P dF n w0 X o L F fun L' F' => ∃ v G, post v G ∧ L' = (d, v) :: L ∧ F' = F ++ G := fun Q K hK a w hf hm => by
  have hr : (execOp a.eval o).run P w = .ok (.enter f (vs ++ us).toArray) w := by
    have := evs_map hf hxs
    have e2 : (xs.toArray.map a.eval) = vs.toArray := by rw [← this]; simp
    simp only [execOp, ho, resolve, hf.eval hx, Deferred.ofValue, invoke]
    simp only [Sem.run_bind, Sem.run_pure, Result.andThen_ok, Array.empty_append]
    show ((callFunc f (xs.toArray.map a.eval ++ us.toArray)).run P w) = _
    rw [e2, he]
    simp
  unfold Oper.wp
  rw [hr, Oper.upon_enter]
  refine Calls.mono (hc w hm) ?_
  rintro _ w' ⟨v, G, rfl, hm', hp⟩
  simp only [hd]
  exact hK _ _ ⟨v, G, hp, rfl, rfl⟩ _ _ (hf.put _ hn) (hm.join hm' (by simp) (by simp))
theorem q_eqlSN {S : World → Prop} {t t' e : TypeId} {x y : Operand} {A : Option Addr} {l c : Nat} (hu : P.underlying t = some (.slice e)) (ho : o.op = .binOp .eql t x y t') (hx : ev L x = some (.slice A l c)) (hy : ev L y = some (.slice none 0 0)) : Qt P dF n L S o (.bool A.isNone) := fun a w hf _ => by
  have h : (binOp .eql t (.slice A l c) (.slice none 0 0)).run P w = .ok (.bool A.isNone) w := by
    simp only [binOp]
    simp [run_equal_slice_nil w t e A l c hu]
  simp [execOp, ho, hf.eval hx, hf.eval hy, eqGuard, h]
theorem q_len8 {S : World → Prop} {t : TypeId} {x y : Operand} {k : IntKind} {i : Int} (hu : P.underlying t = some .string) (ho : o.op = .index t x y) (hx : ev L x = some (.string Lib.len8tab)) (hy : ev L y = some (.int k i)) (h0 : 0 ≤ i) (h1 : i ≤ 255) : Qt P dF n L S o (.int .u8 (Lib.len8 i)) := fun a w hf _ => by
  have := Lib.run_index_len8tab (P := P) (w := w) t k i hu h0 h1
  simp only [execOp, ho, hf.eval hx, hf.eval hy, Sem.run_bind, this, Result.andThen_ok, Sem.run_pure]
def bl (x : Nat) : Nat := if x = 0 then 0 else x.log2 + 1
theorem bl_le (x k : Nat) : bl x ≤ k ↔ x < 2 ^ k := by
  unfold bl
  split
  · rename_i h
    subst h
    exact ⟨fun _ => Nat.two_pow_pos k, fun _ => Nat.zero_le k⟩
  · rename_i h
    rw [← Nat.log2_lt h]
    omega
theorem bl_shift {x s : Nat} (h : 2 ^ s ≤ x) : bl x = s + bl (x / 2 ^ s) := by
  have key : ∀ k, bl x ≤ k ↔ s + bl (x / 2 ^ s) ≤ k := fun k => by
    rw [bl_le]
    by_cases hk : s ≤ k
    · obtain ⟨m, rfl⟩ := Nat.exists_eq_add_of_le hk
      rw [Nat.add_le_add_iff_left, bl_le, Nat.div_lt_iff_lt_mul (Nat.two_pow_pos s), Nat.pow_add, Nat.mul_comm]
    · constructor
      · intro hx
        have : 2 ^ k ≤ 2 ^ s := Nat.pow_le_pow_right (by decide) (by omega)
        omega
      · intro hx; omega
  exact Nat.le_antisymm ((key _).2 (Nat.le_refl _)) ((key _).1 (Nat.le_refl _))
theorem len8_bl : ∀ i, i < 256 → Lib.len8 ((i : Nat) : Int) = ((bl i : Nat) : Int) := by decide +kernel
theorem shr_nat (k : IntKind) (m s : Nat) (h : s ≤ k.bits) : shr k ((m : Nat) : Int) ((s : Nat) : Int) = ((m / 2 ^ s : Nat) : Int) := by
  unfold shr
  rw [Int.toNat_natCast, Nat.min_eq_left h]
  have : ((2 : Int) ^ s) = ((2 ^ s : Nat) : Int) := by simp
  rw [this, Int.fdiv_eq_ediv_of_nonneg _ (Int.natCast_nonneg _)]
  rfl
end
end Go.X
namespace Go.X
open Go
variable {dF : List Deferred}
section
variable {P : Program} {n : Nat} {w0 : World} {X : List Nat} {Q : Exit → Act → World → Prop} {L : Slots} {F : List Blk} {o : Oper}
theorem Ex.last {e : Exit} (i : Nat) {b : Blk} (hi : F[i]? = some b) (h : Ex dF n w0 X e Q L (F.eraseIdx i ++ [b])) : Ex dF n w0 X e Q L F := fun a w hf hm => h a w hf (hm.perm (last_perm F i b hi))
theorem e_callM {f : FuncId} {xs : List Operand} {ts : Array TypeId} {vs : List Value} {d : Nat} (i : Nat) {no : Option Nat} {cells : List Value} {ty : TypeId} {fz : Nat × Nat} {post : Value → List Blk → Prop} (he : Enters P f)
    (ho : o.op = .call { callee := .value (.func f), args := xs.toArray, argTypes := ts }) (hx : evs L xs = some vs) (hi : F[i]? = some ⟨no, cells, ty, fz⟩)
    (hc : ∀ w, Mem w0 X F w → Does P f vs.toArray w no.toList post) (hd : o.dst = some d) (hn : Nat.blt d n = true) :
    Eff P dF n w0 X o L F fun L' F' => ∃ v G, post v G ∧ L' = (d, v) :: L ∧ F' = F.eraseIdx i ++ G := fun Q K hK a w hf hm => by
  unfold Oper.wp
  rw [run_call he hf ho hx, Oper.upon_enter]
  refine Calls.mono (hc w hm) ?_
  rintro _ w' ⟨v, G, rfl, hm', hp⟩
  simp only [hd]
  refine hK _ _ ⟨v, G, hp, rfl, rfl⟩ _ _ (hf.put _ hn) (hm.joinX hm' (List.eraseIdx_sublist ..) (fun k hk => .inr ⟨_, List.mem_of_getElem? hi, by simpa using hk⟩) fun b hb k hbk hk => ?_)
  obtain ⟨j, hj, hne, rfl⟩ := List.mem_eraseIdx_iff_getElem.1 hb
  have hk' : no = some k := by simpa using hk
  exact hm.ne j i hne (List.getElem?_eq_getElem hj) hi hbk hk' rfl
end
end Go.X
namespace Go.X
open Go
variable {dF : List Deferred}
variable {P : Program} {n : Nat} {w0 : World} {X : List Nat} {L : Slots} {F : List Blk} {o : Oper}
theorem e_copyO {tD tS e : TypeId} {by_ : Nat} {x y : Operand} {kk : IntKind} {D B : Option Addr} {dl dc sl sc k : Nat} {d : Nat} (ha : slc P tD = some (e, 1, by_)) (i off : Nat) (xs ys : List Int) {ty : TypeId}
    (hR : ∀ w, Mem w0 X F w → Reads w B (ints kk ys)) (ho : o.op = .call { callee := .builtin .copy, args := #[x, y], argTypes := #[tD, tS] }) (hx : ev L x = some (.slice D dl dc)) (hy : ev L y = some (.slice B sl sc))
    (hi : F[i]? = some ⟨some k, ints kk xs, ty, (0, 0)⟩) (hD : D = some ⟨k, off, none⟩) (hsl : ys.length = sl) (hle : sl ≤ dl) (hfit : off + sl ≤ xs.length) (hd : o.dst = some d) (hn : Nat.blt d n = true) :
    Eff P dF n w0 X o L F fun L' F' => L' = (d, .int .i64 sl) :: L ∧ F' = F.set i ⟨some k, ints kk (xs.take off ++ ys ++ xs.drop (off + sl)), ty, (0, 0)⟩ := by
  have h := e_copy (dF := dF) (n := n) (w0 := w0) (X := X) (L := L) ha i k off (ints kk ys) (ints kk xs) hR ho hx hy hi (.inr hD) (by simp; omega) (by simp; omega) ints_one hd hn
  intro Q K hK
  refine h Q K fun L' F' hg => ?_
  obtain ⟨rfl, rfl⟩ := hg
  refine hK _ _ ⟨by rw [ints_length, hsl], ?_⟩
  rw [ints_drop, ints_take, ints_length, hsl, ints_append, ints_append]
end Go.X
namespace Go.X
open Go
variable {dF : List Deferred}
def entry (x : Value) : List PanicEntry := [{ v := x, recovered := false }]
def EndP (w : World) (X : List Nat) (post die : Value → List Blk → Prop) : Ending → World → Prop := fun e w' =>
  (∃ v F, e = .returned v ∧ Mem w X F w' ∧ post v F) ∨ (∃ x F, e = .panicked (entry x) ∧ Mem w X F w' ∧ die x F)
def EndsX (P : Program) (f : FuncId) (args : Array Value) (w : World) (X : List Nat) (post die : Value → List Blk → Prop) : Prop := Calls P f args w (EndP w X post die)
theorem EndsX.mono {P : Program} {f : FuncId} {args : Array Value} {w : World} {X : List Nat} {post post' die die' : Value → List Blk → Prop} (h : EndsX P f args w X post die)
    (hp : ∀ v F, post v F → post' v F) (hd : ∀ v F, die v F → die' v F) : EndsX P f args w X post' die' :=
  Calls.mono h fun _ _ h => h.elim (fun ⟨v, F, he, hm, hq⟩ => .inl ⟨v, F, he, hm, hp v F hq⟩) fun ⟨v, F, he, hm, hq⟩ => .inr ⟨v, F, he, hm, hd v F hq⟩
def drp : List Bool → List Blk → List Blk
  | [], _ => []
  | true :: m, _ :: F => drp m F
  | false :: m, b :: F => b :: drp m F
  | _ :: _, [] => []
section
variable {P : Program} {n : Nat} {w0 : World} {X : List Nat} {Q : Exit → Act → World → Prop} {L : Slots} {F : List Blk} {o : Oper} {ops : Array Oper} {rest : List Oper}
theorem hx0 : ∀ k, k ∈ ([] : List Nat) → ∃ b ∈ drp [] F, b.no = some k := fun _ h => by cases h
theorem hx1 {m : List Bool} {b : Blk} {k : Nat} (h : drp m F = [b]) (hb : b.no = some k) : ∀ q, q ∈ [k] → ∃ b ∈ drp m F, b.no = some q := fun q hq => by
  rw [List.mem_singleton] at hq
  subst hq
  exact ⟨b, by rw [h]; exact List.mem_singleton.2 rfl, hb⟩
theorem hx2 {m : List Bool} {b c : Blk} {k : Nat} {no : Option Nat} (h : drp m F = [b, c]) (hb : b.no = some k) (hc : c.no = no) : ∀ q, q ∈ k :: no.toList → ∃ b ∈ drp m F, b.no = some q := fun q hq => by
  rcases List.mem_cons.1 hq with rfl | hq
  · exact ⟨b, by rw [h]; exact List.mem_cons_self .., hb⟩
  · exact ⟨c, by rw [h]; exact List.mem_cons_of_mem _ (List.mem_singleton.2 rfl), by rw [hc]; exact Option.mem_toList.1 hq⟩
theorem T.panic {x : Operand} {t : TypeId} {v : Value} (ho : o.op = .panic x) (hx : ev L x = some (.iface t v)) (hw : Wt dF n ops L o) (h : Ex dF n w0 X (.panic (entry (.iface t v))) Q L F) :
    T P dF n w0 X Q ops (o :: rest) L F := fun a w hf hm => by
  refine wpList_step fun K hK => ?_
  rw [if_pos (hw a hf)]
  unfold Oper.wp
  have e : (execOp a.eval o).run P w = .halt (.panic (.iface t v)) w := by
    simp only [execOp, ho, hf.eval hx, Instr.panic]
    rfl
  rw [e]
  exact h a w hf hm
theorem Ex.fine {fn : Func} {e : Exit} {post die : Value → List Blk → Prop} (h : Ex dF n w0 X e (bodyPost P fn fun e w' => ∃ v F, e = .returned v ∧ Mem w0 X F w' ∧ post v F) L F) : Ex dF n w0 X e (bodyPost P fn (EndP w0 X post die)) L F := fun a w hf hm => by
  have h1 := h a w hf hm
  cases e with
  | normal => obtain ⟨hd, v, hr, hp⟩ := h1; exact ⟨hd, v, hr, .inl hp⟩
  | ret => obtain ⟨hd, v, hr, hp⟩ := h1; exact ⟨hd, v, hr, .inl hp⟩
  | panic ch => obtain ⟨hd, hp⟩ := h1; exact ⟨hd, .inl hp⟩
  | outgrown => exact .inl h1
  | exit id => exact h1
  | goto l => exact h1
theorem T.perm {F' : List Blk} (hp : F.Perm F') (h : T P dF n w0 X Q ops rest L F') : T P dF n w0 X Q ops rest L F := fun a w hf hm => h a w hf (hm.perm hp)
theorem W.perm {c : Code} {F' : List Blk} (hp : F.Perm F') (h : W P dF n w0 X Q c L F') : W P dF n w0 X Q c L F := fun a w hf hm => h a w hf (hm.perm hp)
theorem Ex.perm {e : Exit} {F' : List Blk} (hp : F.Perm F') (h : Ex dF n w0 X e Q L F') : Ex dF n w0 X e Q L F := fun a w hf hm => h a w hf (hm.perm hp)
theorem W.sub {c : Code} {F' : List Blk} (hp : F'.Sublist F) (h : W P dF n w0 X Q c L F') : W P dF n w0 X Q c L F := fun a w hf hm => h a w hf (hm.sub hp)
theorem Ex.sub {e : Exit} {F' : List Blk} (hp : F'.Sublist F) (h : Ex dF n w0 X e Q L F') : Ex dF n w0 X e Q L F := fun a w hf hm => h a w hf (hm.sub hp)
theorem T.sub {F' : List Blk} (hp : F'.Sublist F) (h : T P dF n w0 X Q ops rest L F') : T P dF n w0 X Q ops rest L F := fun a w hf hm => h a w hf (hm.sub hp)
def D0 (P : Program) (dF : List Deferred) (n : Nat) (w0 : World) (X : List Nat) (Q : Exit → Act → World → Prop) (ops : Array Oper) (f : Nat) (l : Array Bool) (L : Slots) (F : List Blk) : Prop :=
  ∀ a w, Fr dF n L a → Mem w0 X F w → wpAny P .any ops Q f l a w
def Up0 (P : Program) (dF : List Deferred) (n : Nat) (w0 : World) (X : List Nat) (Q : Exit → Act → World → Prop) (ops : Array Oper) (f : Nat) (l : Array Bool) (L : Slots) (F : List Blk) (i : Nat) : Prop :=
  ∀ a w, Fr dF n L a → Mem w0 X F w → wpOp P ops Q i (wpAny P .any ops Q f (l.setIfInBounds i true)) a w
variable {f : Nat} {l : Array Bool}
theorem D0.done (hr : Region.ready .any ops l = []) (h : Ex dF n w0 X .normal Q L F) : D0 P dF n w0 X Q ops f l L F := fun a w hf hm => by
  cases f with
  | zero => exact ⟨hr, h a w hf hm⟩
  | succ f => exact ⟨fun _ => h a w hf hm, by rw [hr]; simp⟩
theorem D0.one (i : Nat) (hr : Region.ready .any ops l = [i]) (h : Up0 P dF n w0 X Q ops f l L F i) : D0 P dF n w0 X Q ops (f + 1) l L F := fun a w hf hm =>
  ⟨fun h0 => (by rw [hr] at h0; cases h0), fun j hj => by
    rw [hr] at hj
    have : j = i := by simpa using hj
    subst this
    exact h a w hf hm⟩
theorem D0.two (i j : Nat) (hr : Region.ready .any ops l = [i, j]) (h : Up0 P dF n w0 X Q ops f l L F i) (g : Up0 P dF n w0 X Q ops f l L F j) : D0 P dF n w0 X Q ops (f + 1) l L F := fun a w hf hm =>
  ⟨fun h0 => (by rw [hr] at h0; cases h0), fun k hk => by
    rw [hr] at hk
    have : k = i ∨ k = j := by simpa using hk
    rcases this with rfl | rfl
    · exact h a w hf hm
    · exact g a w hf hm⟩
theorem D0.perm {F' : List Blk} (hp : F.Perm F') (h : D0 P dF n w0 X Q ops f l L F') : D0 P dF n w0 X Q ops f l L F := fun a w hf hm => h a w hf (hm.perm hp)
theorem Up0.q {i d : Nat} {v : Value} (hi : ops[i]? = some o) (hq : Qt P dF n L (Mem w0 X F) o v) (hw : Wt dF n ops L o) (hd : o.dst = some d) (hn : Nat.blt d n = true) (h : D0 P dF n w0 X Q ops f (l.setIfInBounds i true) ((d, v) :: L) F) : Up0 P dF n w0 X Q ops f l L F i := fun a w hf hm => by
  unfold wpOp
  simp only [hi, hw a hf, if_true]
  refine .inl ?_
  unfold Oper.wp
  rw [hq a w hf hm, Oper.upon_value, hd]
  exact h _ _ (hf.put v hn) hm
theorem Up0.eff {i : Nat} {G : Slots → List Blk → Prop} (hi : ops[i]? = some o) (he : Eff P dF n w0 X o L F G) (hw : Wt dF n ops L o) (h : ∀ L' F', G L' F' → D0 P dF n w0 X Q ops f (l.setIfInBounds i true) L' F') : Up0 P dF n w0 X Q ops f l L F i := fun a w hf hm => by
  unfold wpOp
  simp only [hi, hw a hf, if_true]
  exact .inl (he Q _ (fun L' F' hg a' w' hf' hm' => h L' F' hg a' w' hf' hm') a w hf hm)
theorem T.defer {x : Operand} {f : FuncId} {us : List Value} (ho : o.op = .defer { callee := .value x, args := #[], argTypes := #[] }) (hx : ev L x = some (.func (.func f) #[] us.toArray)) (hw : Wt dF n ops L o) (hd : o.dst = none)
    (h : T P ({ target := .fn (.func f) us.toArray, args := #[] } :: dF) n w0 X Q ops rest L F) : T P dF n w0 X Q ops (o :: rest) L F := fun a w hf hm => by
  refine wpList_step fun K hK => ?_
  rw [if_pos (hw a hf)]
  unfold Oper.wp
  have e : (execOp a.eval o).run P w = .ok (.defer { target := .fn (.func f) us.toArray, args := #[] }) w := by
    simp [execOp, ho, resolve, hf.eval hx, Deferred.ofValue]
  rw [e, Oper.upon_defer, hd]
  exact hK _ _ (h _ _ ⟨hf.size, by simp [hf.defers, Act.put], fun t v hl => hf.holds t v hl⟩ hm)
theorem invoke_func {f : FuncId} {us : List Value} (he : Enters P f) (w : World) : (invoke (.fn (.func f) us.toArray) #[]).run P w = .ok (.enter f us.toArray) w := by
  simp only [invoke]
  rw [Array.empty_append]
  exact he _ w
def seq2 : Code → Code
  | .seq _ y => y
  | c => c
theorem q_eqlNN {S : World → Prop} {t t' : TypeId} {x : Operand} (hi : P.underlying t = some (.interface (P.methodsAt t))) (ho : o.op = .binOp .eql t x (.const .nilIface) t') (hx : ev L x = some .nilIface) : Qt P dF n L S o (.bool true) := fun a w hf _ => by
  have h2 : a.eval (.const .nilIface) = .nilIface := rfl
  simp only [execOp, ho, hf.eval hx, h2]
  simp [eqGuard, run_eql_nil_nil w t hi]
end
end Go.X
namespace Go.X
open Go
variable {dF : List Deferred}
section
variable {P : Program} {n : Nat} {w0 : World} {X : List Nat} {Q : Exit → Act → World → Prop} {L : Slots} {F : List Blk} {o : Oper}
end
end Go.X
namespace Go.X
open Go
variable {dF : List Deferred}
section
variable {P : Program} {n : Nat} {w0 : World} {X : List Nat} {Q : Exit → Act → World → Prop} {L : Slots} {F : List Blk} {o : Oper}
theorem Ext.own {w : World} {A : Option Addr} {cs : List Value} (h : Ext w0 X A cs) (hm : Mem w0 X F w) (i : Nat) {c : Blk} (hi : F[i]? = some c) : Ext w c.no.toList A cs := fun q v hq => by
  obtain ⟨ad, rfl, hlt, hX, hc⟩ := h q v hq
  have hmem := List.mem_of_getElem? hi
  obtain ⟨ad', he, hc'⟩ := Ext.reads h hm q v hq
  cases he
  refine ⟨ad, rfl, Nat.lt_of_lt_of_le hlt hm.kept.size, ?_, hc'⟩
  intro hk
  rcases hm.mine c hmem ad.block (Option.mem_toList.1 hk) with h1 | h1
  · omega
  · exact hX h1
theorem Ex.ghost {e : Exit} (t : TypeId) (h : Ex dF n w0 X e Q L (F ++ [⟨none, [], t, (0, 0)⟩])) : Ex dF n w0 X e Q L F := fun a w hf hm => h a w hf (hm.ghost t _)
end
end Go.X
