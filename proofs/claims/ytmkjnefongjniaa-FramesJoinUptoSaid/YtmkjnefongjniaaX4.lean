/-
  The rules by which the walks of this claim go. Fourth part: operations that make or write memory; calls; the next operation of a stretch.
-/
import Derived.Test.YtmkjnefongjniaaX3
namespace Go.X
open Go
variable {dF : List Deferred}

section
variable {P : Program} {n : Nat} {L : Slots} {w0 : World} {X : List Nat} {F : List Blk} {Q : Exit → Act → World → Prop} {ops : Array Oper} {o : Oper} {rest : List Oper}

/-- The operation is carried out: it has no guard, or its guard says so. -/
def Wt (dF : List Deferred) (n : Nat) (ops : Array Oper) (L : Slots) (o : Oper) : Prop := ∀ a, Fr dF n L a → Region.wanted o (yielded ops a.tmps) = true
theorem Wt.plain (hg : o.guard = none) : Wt dF n ops L o := fun _ _ => by simp [Region.wanted, hg]
theorem Wt.yes {j t : Nat} {want : Bool} (hg : o.guard = some (j, want)) (hj : (ops[j]?).bind (·.dst) = some t) (hl : look L t = some (.bool want)) : Wt dF n ops L o := fun a hf => by
  simp [Region.wanted, hg, yielded, hj, hf.holds t _ hl]
/-- It is passed over. -/
def Wn (dF : List Deferred) (n : Nat) (ops : Array Oper) (L : Slots) (o : Oper) : Prop := ∀ a, Fr dF n L a → Region.wanted o (yielded ops a.tmps) = false
theorem Wn.no {j t : Nat} {want b : Bool} (hg : o.guard = some (j, want)) (hj : (ops[j]?).bind (·.dst) = some t) (hl : look L t = some (.bool b)) (hne : (b == want) = false) : Wn dF n ops L o := fun a hf => by
  have hb : b ≠ want := by simpa using hne
  simp [Region.wanted, hg, yielded, hj, hf.holds t _ hl, hb]
theorem Wn.none {j t : Nat} {want : Bool} (hg : o.guard = some (j, want)) (hj : (ops[j]?).bind (·.dst) = some t) (hl : look L t = some undef) : Wn dF n ops L o := fun a hf => by
  have := hf.holds t _ hl
  simp [Region.wanted, hg, yielded, hj, this, undef]

/-- An operation that makes or writes memory: what it comes to, for any way to go on. -/
def Eff (P : Program) (dF : List Deferred) (n : Nat) (w0 : World) (X : List Nat) (o : Oper) (L : Slots) (F : List Blk) (G : Slots → List Blk → Prop) : Prop :=
  ∀ (Q : Exit → Act → World → Prop) (K : Act → World → Prop), (∀ L' F', G L' F' → ∀ a w, Fr dF n L' a → Mem w0 X F' w → K a w) → ∀ a w, Fr dF n L a → Mem w0 X F w → o.wp P a w K Q

theorem T.q {d : Nat} {v : Value} (hq : Qt P dF n L (Mem w0 X F) o v) (hw : Wt dF n ops L o) (hd : o.dst = some d) (hn : Nat.blt d n = true) (h : T P dF n w0 X Q ops rest ((d, v) :: L) F) : T P dF n w0 X Q ops (o :: rest) L F := fun a w hf hm => by
  refine wpList_step fun K hK => ?_
  rw [if_pos (hw a hf)]
  unfold Oper.wp
  rw [hq a w hf hm, Oper.upon_value, hd]
  exact hK _ _ (h _ _ (hf.put v hn) hm)
theorem T.no {d : Nat} (hw : Wn dF n ops L o) (hd : o.dst = some d) (hn : Nat.blt d n = true) (h : T P dF n w0 X Q ops rest ((d, undef) :: L) F) : T P dF n w0 X Q ops (o :: rest) L F := fun a w hf hm => by
  refine wpList_step fun K hK => ?_
  rw [if_neg (by rw [hw a hf]; simp), hd]
  exact hK _ _ (h _ _ (hf.put undef hn) hm)
theorem T.eff {G : Slots → List Blk → Prop} (he : Eff P dF n w0 X o L F G) (hw : Wt dF n ops L o) (h : ∀ L' F', G L' F' → T P dF n w0 X Q ops rest L' F') : T P dF n w0 X Q ops (o :: rest) L F := fun a w hf hm => by
  refine wpList_step fun K hK => ?_
  rw [if_pos (hw a hf)]
  exact he Q K (fun L' F' hg a' w' hf' hm' => hK _ _ (h L' F' hg a' w' hf' hm')) a w hf hm
theorem T.less {L' : Slots} (m : List Bool) (hL : Sub L' L) (h : T P dF n w0 X Q ops rest L' (pick m F)) : T P dF n w0 X Q ops rest L F := fun a w hf hm => h a w (hf.sub hL) (hm.sub (pick_sub m F))
/-- A bool that is not known: both ways, the slot bound anew. -/
theorem T.both {t : Nat} (b : Bool) (hl : look L t = some (.bool b)) (ht : b = true → T P dF n w0 X Q ops rest ((t, .bool true) :: L) F) (he : b = false → T P dF n w0 X Q ops rest ((t, .bool false) :: L) F) : T P dF n w0 X Q ops rest L F := fun a w hf hm => by
  have hs : ∀ c, b = c → Fr dF n ((t, .bool c) :: L) a := fun c hc => ⟨hf.size, hf.defers, fun s v hv => by
    subst hc
    simp only [look] at hv
    by_cases hts : t = s
    · subst hts; simp at hv; subst hv; exact hf.holds t _ hl
    · rw [nbeq hts] at hv; exact hf.holds s v hv⟩
  cases b with
  | true => exact ht rfl a w (hs true rfl) hm
  | false => exact he rfl a w (hs false rfl) hm

theorem Mem.new {w : World} (hm : Mem w0 X F w) (cs : List Value) (e : TypeId) : Mem w0 X (F ++ [⟨some w.heap.size, cs, e, (0, 0)⟩]) (w.alloc (.cells cs.toArray e)) := by
  refine hm.join (X' := []) ⟨⟨rfl, rfl, rfl, by simp, fun k hk _ => heap_alloc_old w _ hk⟩, ?_, ?_, ?_⟩ (by simp) (by simp)
  · intro b hb
    simp at hb
    subst hb
    exact heap_alloc_new w _
  · intro b hb k hk
    simp at hb
    subst hb
    simp at hk
    exact .inl (by omega)
  · simp
theorem Mem.ghost {w : World} (hm : Mem w0 X F w) (e : TypeId) (fz : Nat × Nat) : Mem w0 X (F ++ [⟨none, [], e, fz⟩]) w := by
  refine hm.join (X' := []) ⟨Kept.refl _ _, ?_, ?_, ?_⟩ (by simp) (by simp)
  · intro b hb
    simp at hb
    subst hb
    rfl
  · intro b hb k hk
    simp at hb
    subst hb
    cases hk
  · simp
theorem T.ghost (e : TypeId) (h : T P dF n w0 X Q ops rest L (F ++ [⟨none, [], e, (0, 0)⟩])) : T P dF n w0 X Q ops rest L F := fun a w hf hm => h a w hf (hm.ghost e _)
theorem W.ghost {c : Code} (e : TypeId) (h : W P dF n w0 X Q c L (F ++ [⟨none, [], e, (0, 0)⟩])) : W P dF n w0 X Q c L F := fun a w hf hm => h a w hf (hm.ghost e _)

/-- A block is written: its cells, and nothing else. -/
theorem Mem.write {w w' : World} (hm : Mem w0 X F w) (i : Nat) {k : Nat} {cells cells' : List Value} {ty : TypeId} {fz fz' : Nat × Nat} (hi : F[i]? = some ⟨some k, cells, ty, fz⟩)
    (h1 : w'.heap[k]? = some (.cells cells'.toArray ty fz')) (h2 : ∀ j, j ≠ k → w'.heap[j]? = w.heap[j]?) (hos : w'.os = w.os) (htp : w'.tape = w.tape) (hout : w'.output = w.output) (hsz : w'.heap.size = w.heap.size) :
    Mem w0 X (F.set i ⟨some k, cells', ty, fz'⟩) w' := by
  have hmem := List.mem_of_getElem? hi
  have hlt : i < F.length := (List.getElem?_eq_some_iff.1 hi).1
  have hFi : F[i] = ⟨some k, cells, ty, fz⟩ := (List.getElem?_eq_some_iff.1 hi).2
  have hmk := hm.mine _ hmem k rfl
  have hap := List.pairwise_iff_getElem.1 hm.apart
  refine ⟨⟨hos.trans hm.kept.os, htp.trans hm.kept.tape, hout.trans hm.kept.output, by rw [hsz]; exact hm.kept.size, fun j hj hjx => ?_⟩, ?_, ?_, ?_⟩
  · rw [h2 j (fun e => by subst e; rcases hmk with h | h; omega; exact hjx h)]
    exact hm.kept.block j hj hjx
  · intro b hb
    obtain ⟨j, hj0, rfl⟩ := List.mem_iff_getElem.1 hb
    have hj : j < F.length := by simpa using hj0
    rw [List.getElem_set]
    by_cases hij : i = j
    · rw [if_pos hij]; exact h1
    · rw [if_neg hij]
      have hb' := hm.has F[j] (List.getElem_mem hj)
      unfold Blk.here at *
      cases hn : F[j].no with
      | none => rw [hn] at hb'; exact hb'
      | some m =>
        rw [hn] at hb'
        simp only at hb' ⊢
        have hmk' : m ≠ k := fun e => by
          subst e
          rcases Nat.lt_or_gt_of_ne hij with hlt' | hlt'
          · exact hap i j hlt hj hlt' m (by rw [hFi]) hn
          · exact hap j i hj hlt hlt' m hn (by rw [hFi])
        rw [h2 m hmk']
        exact hb'
  · intro b hb m hmm
    obtain ⟨j, hj0, rfl⟩ := List.mem_iff_getElem.1 hb
    have hj : j < F.length := by simpa using hj0
    rw [List.getElem_set] at hmm
    by_cases hij : i = j
    · rw [if_pos hij] at hmm
      cases hmm
      exact hmk
    · rw [if_neg hij] at hmm
      exact hm.mine _ (List.getElem_mem hj) m hmm
  · rw [List.pairwise_iff_getElem]
    intro p q hp0 hq0 hpq m hm1 hm2
    have hp : p < F.length := by simpa using hp0
    have hq : q < F.length := by simpa using hq0
    rw [List.getElem_set] at hm1 hm2
    by_cases hip : i = p
    · rw [if_pos hip] at hm1
      rw [if_neg (by omega)] at hm2
      subst hip
      exact hap i q hlt hq hpq m (by rw [hFi]; exact hm1) hm2
    · rw [if_neg hip] at hm1
      by_cases hiq : i = q
      · rw [if_pos hiq] at hm2
        subst hiq
        exact hap p i hp hlt hpq m hm1 (by rw [hFi]; exact hm2)
      · rw [if_neg hiq] at hm2
        exact hap p q hp hq hpq m hm1 hm2
theorem Mem.setRow {w : World} (hm : Mem w0 X F w) (i : Nat) {k : Nat} {cells : List Value} {ty : TypeId} {fz : Nat × Nat} (hi : F[i]? = some ⟨some k, cells, ty, fz⟩) (cells' : List Value) :
    Mem w0 X (F.set i ⟨some k, cells', ty, fz⟩) (w.setRow k cells'.toArray) := by
  have hb := hm.at i hi
  unfold Blk.here at hb
  exact hm.write i hi (setRow_heap w k _ _ _ _ hb) (fun j hj => setRow_other w k j _ hj) rfl rfl rfl (by simp)

theorem set_same {G : List Blk} {i : Nat} {b : Blk} (h : G[i]? = some b) : G.set i b = G := by
  apply List.ext_getElem?
  intro j
  rw [List.getElem?_set]
  by_cases hij : i = j
  · subst hij
    rw [if_pos rfl, if_pos (List.getElem?_eq_some_iff.1 h).1, h]
  · rw [if_neg hij]

theorem eff_new {d : Nat} {f : Nat → Value} {cs : List Value} {e : TypeId} (hd : o.dst = some d) (hn : Nat.blt d n = true)
    (hr : ∀ a w, Fr dF n L a → Mem w0 X F w → (execOp a.eval o).run P w = .ok (.value (f w.heap.size)) (w.alloc (.cells cs.toArray e))) :
    Eff P dF n w0 X o L F fun L' F' => ∃ k, L' = (d, f k) :: L ∧ F' = F ++ [⟨some k, cs, e, (0, 0)⟩] := fun Q K hK a w hf hm => by
  unfold Oper.wp
  rw [hr a w hf hm, Oper.upon_value, hd]
  exact hK _ _ ⟨_, rfl, rfl⟩ _ _ (hf.put _ hn) (hm.new cs e)
/-- A variable. -/
theorem e_alloc {e : TypeId} {cs : List Value} (hz : zer P e = some cs) {d : Nat} (ho : o.op = .alloc e) (hd : o.dst = some d) (hn : Nat.blt d n = true) :
    Eff P dF n w0 X o L F fun L' F' => ∃ k, L' = (d, .pointer (some ⟨k, 0, none⟩)) :: L ∧ F' = F ++ [⟨some k, cs, e, (0, 0)⟩] := by
  obtain ⟨i, z, hi, hz', rfl⟩ := zer_parts hz
  refine eff_new (f := fun k => .pointer (some ⟨k, 0, none⟩)) hd hn fun a w hf hm => ?_
  simp only [execOp, ho]
  simp [Instr.alloc, zeroValue, typeInfo, hi, hz', newVar, newRow]
theorem e_box {e : TypeId} {x : Operand} {v : Value} {d : Nat} (ho : o.op = .box e x) (hx : ev L x = some v) (hd : o.dst = some d) (hn : Nat.blt d n = true) :
    Eff P dF n w0 X o L F fun L' F' => ∃ k, L' = (d, .pointer (some ⟨k, 0, none⟩)) :: L ∧ F' = F ++ [⟨some k, v.cells.toList, e, (0, 0)⟩] :=
  eff_new (f := fun k => .pointer (some ⟨k, 0, none⟩)) hd hn fun a w hf hm => by
    simp only [execOp, ho, hf.eval hx]
    simp [Instr.box, newVar, newRow]
/-- A literal of a slice. -/
theorem e_lit {t e : TypeId} {len : Nat} {ps : List (Nat × Operand)} {vs : List (Nat × Value)} {cs : List Value} {d : Nat} (ho : o.op = .buildSlice t len ps.toArray) (hp : evp L ps = some vs)
    (hr : ∀ w, (Instr.buildSlice t len vs.toArray).run P w = .ok (.slice (some ⟨w.heap.size, 0, none⟩) len len) { w with heap := w.heap.push (.cells cs.toArray e (0, 0)) }) (hd : o.dst = some d) (hn : Nat.blt d n = true) :
    Eff P dF n w0 X o L F fun L' F' => ∃ k, L' = (d, .slice (some ⟨k, 0, none⟩) len len) :: L ∧ F' = F ++ [⟨some k, cs, e, (0, 0)⟩] :=
  eff_new (f := fun k => .slice (some ⟨k, 0, none⟩) len len) hd hn fun a w hf hm => by
    have := evp_map hf hp
    simp only [execOp, ho]
    have e' : (ps.toArray.map fun x => (x.1, a.eval x.2)) = vs.toArray := by rw [← this]; simp
    simp only [e', Sem.run_bind, hr w, Result.andThen_ok, Sem.run_pure]; rfl
theorem e_litA {t e : TypeId} {len by_ : Nat} {z : Value} {ps : List (Nat × Operand)} {vs : List (Nat × Value)} {d : Nat} (ha : slc P t = some (e, 1, by_)) (hz : zer P e = some [z]) (ho : o.op = .buildSlice t len ps.toArray) (hp : evp L ps = some vs)
    (hN : vs.map Prod.fst = List.range' 0 len) (h1 : ∀ p ∈ vs, p.2.cells = #[p.2]) (h24 : Nat.ble len 16777216 = true) (hd : o.dst = some d) (hn : Nat.blt d n = true) :
    Eff P dF n w0 X o L F fun L' F' => ∃ k, L' = (d, .slice (some ⟨k, 0, none⟩) len len) :: L ∧ F' = F ++ [⟨some k, vs.map Prod.snd, e, (0, 0)⟩] := by
  refine e_lit ho hp (fun w => ?_) hd hn
  obtain ⟨hu, inf, hi, hs, _⟩ := slc_parts ha
  obtain ⟨i, z', hi', hz', hzc⟩ := zer_parts hz
  rw [hi] at hi'
  cases hi'
  have hlen : vs.length = len := by have := congrArg List.length hN; simpa using this
  have hzs : z'.cells = #[z] := by rw [← Array.toList_inj, hzc]
  have h24' : len ≤ 16777216 := Nat.le_of_ble_eq_true h24
  have hzip : (List.range' 0 (vs.map Prod.snd).length).zip (vs.map Prod.snd) = vs := by
    rw [List.length_map, hlen, ← hN]
    exact (List.zip_of_prod rfl rfl).symm
  have hcell : ∀ v ∈ vs.map Prod.snd, v.cells = #[v] := fun v hv => by
    obtain ⟨p, hp', rfl⟩ := List.mem_map.1 hv
    exact h1 p hp'
  by_cases hl0 : len = 0
  · subst hl0
    have hv0 : vs = [] := List.eq_nil_of_length_eq_zero hlen
    subst hv0
    have e0 : Array.range 0 = #[] := by rw [← Array.toList_inj]; simp
    simp [Instr.buildSlice, run_underlying hu, sizeOf, typeInfo, hi, Instr.fill, newRow, e0]
  · have hf := fill_all (vs.map Prod.snd) 0 ((Array.range (len * 1)).map (#[z][· % 1]!)) hcell (by simp [hlen])
    rw [hzip] at hf
    have hdrop : ((Array.range (len * 1)).map (#[z][· % 1]!)).toList.drop (0 + (vs.map Prod.snd).length) = [] := by
      apply List.drop_eq_nil_of_le
      simp [hlen]
    rw [hdrop] at hf
    have n24 : ¬ (16777216 < len) := by omega
    simp only [List.take_zero, List.nil_append, List.append_nil] at hf
    have hsz : (#[z] : Array Value).size = 1 := rfl
    simp only [Instr.buildSlice, Sem.run_bind, run_underlying hu, Result.andThen_ok, sizeOf, typeInfo, run_program, hi, hs, Sem.run_pure]
    rw [if_neg (by omega), if_neg (by omega)]
    simp only [Sem.run_bind, zeroValue, typeInfo, run_program, Result.andThen_ok, hi, Sem.run_pure, hz', hzs, hsz, hf, newRow, run_newObj]
/-- 'make', of elements of one cell. -/
theorem madeCells_one (z : Value) (m : Nat) (hz : z.cells = #[z]) : (madeCells z.cells m).toList = List.replicate m z := by
  rw [hz]
  apply List.ext_getElem
  · simp [madeCells]
  · intro j h1 h2
    simp [madeCells, Nat.mod_one]
theorem e_make {t e : TypeId} {by_ : Nat} {z : Value} {l c : Operand} {k k' : IntKind} {i i' : Int} {d : Nat} (ha : slc P t = some (e, 1, by_)) (hz : zer P e = some [z]) (hz1 : z.cells = #[z]) (N M : Nat) (ho : o.op = .makeSlice t l c)
    (hl : ev L l = some (.int k i)) (hc : ev L c = some (.int k' i')) (hN : i = (N : Int)) (hM : i' = (M : Int)) (hNM : N ≤ M) (hb : by_ * M ≤ 281474976710656) (h63 : M ≤ 9223372036854775807) (hd : o.dst = some d) (hn : Nat.blt d n = true) :
    Eff P dF n w0 X o L F fun L' F' => ∃ k, L' = (d, .slice (some ⟨k, 0, none⟩) N M) :: L ∧ F' = F ++ [⟨some k, List.replicate M z, e, (0, 0)⟩] := by
  obtain ⟨hu, inf, hi, hs, rfl⟩ := slc_parts ha
  obtain ⟨inf', z', hi', hz', hzc⟩ := zer_parts hz
  rw [hi] at hi'
  cases hi'
  have hzz : z'.cells = #[z] := by rw [← Array.toList_inj, hzc]
  subst hN hM
  refine eff_new (f := fun k => .slice (some ⟨k, 0, none⟩) N M) hd hn fun a w hf hm => ?_
  have hr := run_make (P := P) w t e inf z' hu hi hz' k k' (N : Int) (M : Int) (by omega) (by omega) (by rw [← Int.natCast_mul]; omega) (by omega)
  have hcells : madeCells z'.cells (((M : Nat) : Int).toNat * inf.size) = (List.replicate M z).toArray := by
    rw [← Array.toList_inj, hs, Nat.mul_one, Int.toNat_natCast, hzz, ← hz1, madeCells_one z M hz1]
  rw [hcells] at hr
  simp only [execOp, ho, hf.eval hl, hf.eval hc, Sem.run_bind, hr, Result.andThen_ok, Sem.run_pure, Int.toNat_natCast]

/-- A store. -/
theorem storeCells_run {w : World} (hm : Mem w0 X F w) (i : Nat) {k off : Nat} {cells : List Value} {ty : TypeId} (hi : F[i]? = some ⟨some k, cells, ty, (0, 0)⟩) (cs : List Value) (h1 : ∀ v ∈ cs, v.oneCell' = true) (hlt : off + cs.length ≤ cells.length) :
    (storeCells ⟨k, off, none⟩ cs).run P w = .ok () (w.setRow k (cells.take off ++ cs ++ cells.drop (off + cs.length)).toArray) := by
  have hb := hm.at i hi
  unfold Blk.here at hb
  have := run_storeCells_at P k off ty cs 0 cells.toArray w hb (by simpa using hlt) h1
  simpa using this
theorem e_storeW {t : TypeId} {x y : Operand} {k off : Nat} {cs : List Value} (hw : wide P t = some cs.length) (i : Nat) {cells : List Value} {ty : TypeId} (ho : o.op = .store t x y) (hx : ev L x = some (.pointer (some ⟨k, off, none⟩)))
    (hy : ev L y = some (.agg cs.toArray)) (hi : F[i]? = some ⟨some k, cells, ty, (0, 0)⟩) (hlt : off + cs.length ≤ cells.length) (h1 : ∀ v ∈ cs, v.oneCell' = true) (hd : o.dst = none) :
    Eff P dF n w0 X o L F fun L' F' => L' = L ∧ F' = F.set i ⟨some k, cells.take off ++ cs ++ cells.drop (off + cs.length), ty, (0, 0)⟩ := fun Q K hK a w hf hm => by
  have hsz : (P.info? t).map (·.size) = some cs.length := by
    unfold wide at hw
    split at hw <;> first | exact hw | cases hw
  obtain ⟨inf, hinf, hs⟩ := Option.map_eq_some_iff.1 hsz
  have hr : (execOp a.eval o).run P w = .ok .skip (w.setRow k (cells.take off ++ cs ++ cells.drop (off + cs.length)).toArray) := by
    have hst := storeCells_run (P := P) hm i hi cs h1 hlt
    simp only [execOp, ho, hf.eval hx, hf.eval hy, Instr.storeAt, Instr.sureAddr]
    simp [storeVar, Value.cells, sizeOf, typeInfo, hinf, hs, hst]
  unfold Oper.wp
  rw [hr, Oper.upon_skip, hd]
  exact hK _ _ ⟨rfl, rfl⟩ _ _ hf (hm.setRow i hi _)
theorem e_storeA {t : TypeId} {x y : Operand} {k : Nat} {cs : List Value} (hw : wide P t = some cs.length) (i : Nat) {cells : List Value} {ty : TypeId} (ho : o.op = .store t x y) (hx : ev L x = some (.pointer (some ⟨k, 0, none⟩)))
    (hy : ev L y = some (.agg cs.toArray)) (hi : F[i]? = some ⟨some k, cells, ty, (0, 0)⟩) (hlt : cs.length = cells.length) (h1 : ∀ v ∈ cs, v.oneCell' = true) (hd : o.dst = none) :
    Eff P dF n w0 X o L F fun L' F' => L' = L ∧ F' = F.set i ⟨some k, cs, ty, (0, 0)⟩ := by
  have h := e_storeW (dF := dF) (n := n) (w0 := w0) (X := X) hw i ho hx hy hi (by omega) h1 hd
  have e : cells.take 0 ++ cs ++ cells.drop (0 + cs.length) = cs := by rw [hlt]; simp
  rwa [e] at h
theorem e_store1 {t : TypeId} {x y : Operand} {k off : Nat} {v : Value} (hs : scalar P t = true) (i : Nat) {cells : List Value} {ty : TypeId} (ho : o.op = .store t x y) (hx : ev L x = some (.pointer (some ⟨k, off, none⟩)))
    (hy : ev L y = some v) (hi : F[i]? = some ⟨some k, cells, ty, (0, 0)⟩) (hlt : off < cells.length) (h1 : v.oneCell' = true) (hd : o.dst = none) :
    Eff P dF n w0 X o L F fun L' F' => L' = L ∧ F' = F.set i ⟨some k, cells.set off v, ty, (0, 0)⟩ := fun Q K hK a w hf hm => by
  have hsz := run_sizeOf_scalar (P := P) (w := w) hs
  have hc : v.cells = #[v] := by cases v <;> first | rfl | (simp [Value.oneCell'] at h1)
  have e : cells.take off ++ [v] ++ cells.drop (off + 1) = cells.set off v := by rw [List.set_eq_take_append_cons_drop, if_pos hlt]; simp
  have hr : (execOp a.eval o).run P w = .ok .skip (w.setRow k (cells.set off v).toArray) := by
    have hst := storeCells_run (P := P) (off := off) hm i hi [v] (by simpa using h1) (by simp; omega)
    rw [List.length_singleton, e] at hst
    simp only [execOp, ho, hf.eval hx, hf.eval hy, Instr.storeAt, Instr.sureAddr]
    simp [storeVar, hc, hsz, hst]
  unfold Oper.wp
  rw [hr, Oper.upon_skip, hd]
  exact hK _ _ ⟨rfl, rfl⟩ _ _ hf (hm.setRow i hi _)
theorem e_storeI {t : TypeId} {x y : Operand} {k off : Nat} {kk : IntKind} {z : Int} (hs : scalar P t = true) (i : Nat) {xs : List Int} {ty : TypeId} (ho : o.op = .store t x y) (hx : ev L x = some (.pointer (some ⟨k, off, none⟩)))
    (hy : ev L y = some (.int kk z)) (hi : F[i]? = some ⟨some k, ints kk xs, ty, (0, 0)⟩) (hlt : off < xs.length) (hd : o.dst = none) :
    Eff P dF n w0 X o L F fun L' F' => L' = L ∧ F' = F.set i ⟨some k, ints kk (xs.set off z), ty, (0, 0)⟩ := by
  have h := e_store1 (dF := dF) (n := n) (w0 := w0) (X := X) hs i ho hx hy hi (by simpa using hlt) rfl hd
  rwa [ints_set] at h

theorem e_storeIJ {t : TypeId} {x y : Operand} {k off : Nat} {kk : IntKind} {z : Int} (hs : scalar P t = true) (i : Nat) {xs : List Int} {js : List Value} {ty : TypeId} (ho : o.op = .store t x y) (hx : ev L x = some (.pointer (some ⟨k, off, none⟩)))
    (hy : ev L y = some (.int kk z)) (hi : F[i]? = some ⟨some k, ints kk xs ++ js, ty, (0, 0)⟩) (hlt : off < xs.length) (hd : o.dst = none) :
    Eff P dF n w0 X o L F fun L' F' => L' = L ∧ F' = F.set i ⟨some k, ints kk (xs.set off z) ++ js, ty, (0, 0)⟩ := by
  have h := e_store1 (dF := dF) (n := n) (w0 := w0) (X := X) hs i ho hx hy hi (by simp; omega) rfl hd
  rwa [List.set_append_left _ _ (by simpa using hlt), ints_set] at h

/-- 'append' to a slice of the call's own (or to one without room). -/
theorem e_append {t e : TypeId} {sz by_ : Nat} {zs : List Value} {x y : Operand} {A B : Option Addr} {len cap m c : Nat} {d : Nat} (ha : slc P t = some (e, sz, by_)) (hz : zer P e = some zs) (hzl : zs.length = sz) (hsz : 0 < sz) (i : Nat) {no : Option Nat} (old junk : List Value) (news : List Value)
    (hR : ∀ w, Mem w0 X F w → Reads w B news)
    (ho : o.op = .call { callee := .builtin .append, args := #[x, y], argTypes := #[t, t] }) (hx : ev L x = some (.slice A len cap)) (hy : ev L y = some (.slice B m c)) (hi : F[i]? = some ⟨no, old ++ junk, e, (0, 0)⟩)
    (hA : cap = 0 ∨ A = no.map fun k => (⟨k, 0, none⟩ : Addr)) (hol : old.length = len * sz) (hcl : (old ++ junk).length = cap * sz) (hlc : len ≤ cap) (hnl : news.length = m * sz) (h1 : ∀ v ∈ news, v.oneCell' = true) (hbytes : (len + m) * by_ ≤ 140737488355328) (h63 : len + m ≤ 9223372036854775807)
    (hd : o.dst = some d) (hn : Nat.blt d n = true) :
    Eff P dF n w0 X o L F fun L' F' => ∃ (A' : Option Addr) (no' : Option Nat) (cap' : Nat) (junk' : List Value), (cap' = 0 ∨ A' = no'.map fun k => (⟨k, 0, none⟩ : Addr)) ∧ (old ++ news ++ junk').length = cap' * sz ∧ len + m ≤ cap' ∧ (0 < len + m → no'.isSome = true) ∧ (m = 0 → A' = A ∧ no' = no) ∧
      L' = (d, .slice A' (len + m) cap') :: L ∧ F' = F.set i ⟨no', old ++ news ++ junk', e, (0, 0)⟩ := fun Q K hK a w hf hm => by
  obtain ⟨hu, inf, hinf, hs, hby⟩ := slc_parts ha
  obtain ⟨inf', z, hinf', hz', hzc⟩ := zer_parts hz
  rw [hinf] at hinf'
  cases hinf'
  have hb := hm.at i hi
  have hRw := hR w hm
  have hlt : i < F.length := (List.getElem?_eq_some_iff.1 hi).1
  -- nothing is appended
  by_cases hm0 : m = 0
  · subst hm0
    have hn0 : news = [] := List.eq_nil_of_length_eq_zero (by simpa using hnl)
    subst hn0
    have hr : (execOp a.eval o).run P w = .ok (.value (.slice A len cap)) w := by
      simp only [execOp, ho, resolve, invoke, builtin, hf.eval hx, hf.eval hy, Sem.run_bind, Sem.run_pure, Result.andThen_ok, List.map_toArray, List.map_cons, List.map_nil]
      have hfirst : (Builtin.firstCells sz 0 (.slice B 0 c)).run P w = .ok #[] w := by
        cases B with
        | none => simp [Builtin.firstCells]
        | some b => simp [Builtin.firstCells, loadCells, loadCellsFrom]
      have hb' : (Builtin.append_ #[t, t] o.type #[.slice A len cap, .slice B 0 c]).run P w = .ok (.slice A len cap) w := by
        cases A with
        | none => simp [Builtin.append_, run_underlying hu, sizeOf, typeInfo, hinf, hs, Builtin.lenOf, hlc, hfirst]
        | some b => simp [Builtin.append_, run_underlying hu, sizeOf, typeInfo, hinf, hs, Builtin.lenOf, hlc, hfirst, storeCells]
      simp [hb']
    unfold Oper.wp
    rw [hr, Oper.upon_value, hd]
    have hF : F.set i ⟨no, old ++ [] ++ junk, e, (0, 0)⟩ = F := by
      rw [List.append_nil]
      exact set_same hi
    refine hK _ _ ⟨A, no, cap, junk, hA, by simpa using hcl, hlc, fun h0 => ?_, fun _ => ⟨rfl, rfl⟩, rfl, rfl⟩ _ _ (hf.put _ hn) (by rw [hF]; exact hm)
    cases no with
    | some k => rfl
    | none =>
      unfold Blk.here at hb
      simp only [List.append_eq_nil_iff] at hb
      have h00 : len * sz = 0 := by rw [← hol, hb.1]; rfl
      rcases Nat.mul_eq_zero.1 h00 with h | h <;> omega
  · have hmpos : 0 < m := by omega
    have hnpos : 0 < news.length := by rw [hnl]; exact Nat.mul_pos hmpos hsz
    obtain ⟨b, rfl, _⟩ := hRw 0 news[0] (by simp [hnpos])
    have hnews : ∀ j v, news[j]? = some v → w.cell? (b.add j) = some v := fun j v hj => by
      obtain ⟨b', hb', hc⟩ := hRw j v hj
      cases hb'
      exact hc
    have run : ∀ v w', (Builtin.append_ #[t, t] o.type #[.slice A len cap, .slice (some b) m c]).run P w = .ok v w' → (execOp a.eval o).run P w = .ok (.value v) w' := fun v w' h => by
      simp only [execOp, ho, resolve, invoke, builtin, hf.eval hx, hf.eval hy, Sem.run_bind, Sem.run_pure, Result.andThen_ok, List.map_toArray, List.map_cons, List.map_nil, h]
    by_cases hroom : len + m ≤ cap
    · -- there is room
      have hcap : cap ≠ 0 := by omega
      have hA' := hA.resolve_left hcap
      cases no with
      | none =>
        unfold Blk.here at hb
        simp only at hb
        have h00 : cap * sz = 0 := by rw [← hcl, hb]; rfl
        rcases Nat.mul_eq_zero.1 h00 with h | h <;> omega
      | some g =>
        unfold Blk.here at hb
        simp only at hb
        subst hA'
        have hfit : len * inf.size + news.length ≤ (old ++ junk).toArray.size := by
          rw [List.size_toArray, hcl, hs, hnl, ← Nat.add_mul]
          exact Nat.mul_le_mul_right _ hroom
        have hr := run_append_room (P := P) w t o.type e inf hu hinf g len cap _ hb b m c news (by rw [hs]; exact hnl) hnews h1 hroom hfit
        have hcells : ((old ++ junk).toArray.toList.take (len * inf.size) ++ news ++ (old ++ junk).toArray.toList.drop (len * inf.size + news.length)) = old ++ news ++ junk.drop news.length := by
          rw [hs, ← hol]
          simp [List.drop_append]
        rw [hcells] at hr
        unfold Oper.wp
        rw [run _ _ hr, Oper.upon_value, hd]
        refine hK _ _ ⟨_, some g, cap, junk.drop news.length, .inr rfl, ?_, hroom, fun _ => rfl, fun h => absurd h hm0, rfl, rfl⟩ _ _ (hf.put _ hn) (hm.setRow i hi _)
        simp only [List.length_append, List.length_drop] at hcl ⊢
        have : old.length + news.length ≤ cap * sz := by rw [hol, hnl, ← Nat.add_mul]; exact Nat.mul_le_mul_right _ hroom
        omega
    · -- it moves
      have hge := grownCap_ge w (len + m) cap e
      have hgrow : (Builtin.append_ #[t, t] o.type #[.slice A len cap, .slice (some b) m c]).run P w = .ok (.slice (some ⟨w.heap.size, 0, none⟩) (len + m) (grownCap w (len + m) cap e))
          (w.drew.alloc (.cells (old.toArray ++ news.toArray ++ Builtin.zeroCells z.cells (grownCap w (len + m) cap e - (len + m))) e)) := by
        have hfits : Builtin.nextslicecap (len + m) cap * inf.bytes ≤ 281474976710656 := by rw [hby]; exact growslice_fits (by omega) hbytes
        cases A with
        | some ad =>
          refine run_append_grow (P := P) w t o.type e inf z hu hinf hz' ad len cap old (by rw [hs]; exact hol) ?_ b m c news (by rw [hs]; exact hnl) hnews (by omega) (by omega) hfits
          intro j v hj
          rcases hA with hc0 | hA
          · have : old = [] := by
              have h0 : len = 0 := by omega
              rw [h0, Nat.zero_mul] at hol
              exact List.eq_nil_of_length_eq_zero hol
            rw [this] at hj
            simp at hj
          · cases no with
            | none => cases hA
            | some g =>
              cases hA
              have := (Reads.blk hb rfl).pre j v hj
              obtain ⟨ad', h', hc'⟩ := this
              cases h'
              exact hc'
        | none =>
          have hlen0 : len = 0 ∧ cap = 0 := by
            rcases hA with hc0 | hA
            · omega
            · cases no with
              | none =>
                unfold Blk.here at hb
                simp only at hb
                have h00 : cap * sz = 0 := by rw [← hcl, hb]; rfl
                rcases Nat.mul_eq_zero.1 h00 with h | h <;> omega
              | some g => cases hA
          obtain ⟨rfl, rfl⟩ := hlen0
          have : old = [] := List.eq_nil_of_length_eq_zero (by simpa using hol)
          subst this
          have hr := run_append_nil (P := P) w t o.type e inf z hu hinf hz' b m c news (by rw [hs]; exact hnl) hnews hmpos (by omega) (by rw [hby]; have := hbytes; rw [Nat.zero_add] at this; omega)
          simpa using hr
      unfold Oper.wp
      rw [run _ _ hgrow, Oper.upon_value, hd]
      have hcells : old.toArray ++ news.toArray ++ Builtin.zeroCells z.cells (grownCap w (len + m) cap e - (len + m)) = (old ++ news ++ (Builtin.zeroCells z.cells (grownCap w (len + m) cap e - (len + m))).toList).toArray := by
        rw [← Array.toList_inj]; simp
      rw [hcells]
      refine hK _ _ ⟨_, some w.heap.size, grownCap w (len + m) cap e, (Builtin.zeroCells z.cells (grownCap w (len + m) cap e - (len + m))).toList, .inr rfl, ?_, hge, fun _ => rfl, fun h => absurd h hm0, rfl, rfl⟩ _ _ (hf.put _ hn) ?_
      · have hzsz : z.cells.size = sz := by rw [← hzl, ← hzc]; simp
        simp only [List.length_append, hol, hnl, Array.length_toList, size_zeroCells, hzsz, ← Nat.add_mul]
        congr 1
        omega
      · -- the block that was known gives its place to the new one
        have hnew := hm.drew.new (old ++ news ++ (Builtin.zeroCells z.cells (grownCap w (len + m) cap e - (len + m))).toList) e
        refine ⟨hnew.kept, ?_, ?_, ?_⟩
        · intro b' hb'
          rcases List.mem_or_eq_of_mem_set hb' with h | h
          · exact hnew.has b' (List.mem_append_left _ h)
          · subst h; exact hnew.has _ (List.mem_append_right _ (by simp))
        · intro b' hb'
          rcases List.mem_or_eq_of_mem_set hb' with h | h
          · exact hnew.mine b' (List.mem_append_left _ h)
          · subst h; exact hnew.mine _ (List.mem_append_right _ (by simp))
        · have hap := List.pairwise_iff_getElem.1 hm.apart
          rw [List.pairwise_iff_getElem]
          intro p q hp0 hq0 hpq k hk1 hk2
          have hp : p < F.length := by simpa using hp0
          have hq : q < F.length := by simpa using hq0
          rw [List.getElem_set] at hk1 hk2
          have old_lt : ∀ r (hr : r < F.length), F[r].no = some k → k < w.heap.size := fun r hr h => Blk.lt (hm.has _ (List.getElem_mem hr)) h
          by_cases hip : i = p
          · rw [if_pos hip] at hk1
            rw [if_neg (by omega)] at hk2
            cases hk1
            exact Nat.lt_irrefl _ (old_lt q hq hk2)
          · rw [if_neg hip] at hk1
            by_cases hiq : i = q
            · rw [if_pos hiq] at hk2
              cases hk2
              exact Nat.lt_irrefl _ (old_lt p hp hk1)
            · rw [if_neg hiq] at hk2
              exact hap p q hp hq hpq k hk1 hk2

/-- The same of whole numbers in a block that is there: it lies in a block again. -/
theorem e_appendI {t e : TypeId} {by_ : Nat} {zs : List Value} {x y : Operand} {B : Option Addr} {len cap m c k : Nat} {d : Nat} (ha : slc P t = some (e, 1, by_)) (hz : zer P e = some zs) (hzl : zs.length = 1) (i : Nat) {cells : List Value} (kk : IntKind) (xs ys : List Int) (junk : List Value) (hc : cells = ints kk xs ++ junk)
    (hR : ∀ w, Mem w0 X F w → Reads w B (ints kk ys))
    (ho : o.op = .call { callee := .builtin .append, args := #[x, y], argTypes := #[t, t] }) (hx : ev L x = some (.slice (some ⟨k, 0, none⟩) len cap)) (hy : ev L y = some (.slice B m c)) (hi : F[i]? = some ⟨some k, cells, e, (0, 0)⟩)
    (hol : xs.length = len) (hcl : xs.length + junk.length = cap) (hnl : ys.length = m) (hbytes : (len + m) * by_ ≤ 140737488355328) (h63 : len + m ≤ 9223372036854775807) (hd : o.dst = some d) (hn : Nat.blt d n = true) :
    Eff P dF n w0 X o L F fun L' F' => ∃ (k' cap' : Nat) (junk' : List Value), len + m + junk'.length = cap' ∧ L' = (d, .slice (some ⟨k', 0, none⟩) (len + m) cap') :: L ∧ F' = F.set i ⟨some k', ints kk (xs ++ ys) ++ junk', e, (0, 0)⟩ := by
  subst hc
  have h := e_append (dF := dF) (n := n) (w0 := w0) (X := X) ha hz hzl (by decide) i (no := some k) (ints kk xs) junk (ints kk ys) hR ho hx hy hi (.inr rfl) (by simp [hol]) (by simp; omega) (by omega) (by simp [hnl]) ints_one hbytes h63 hd hn
  intro Q K hK
  refine h Q K fun L' F' hg => ?_
  obtain ⟨A', no', cap', junk', hA, hl, hcap, hno, hm0, rfl, rfl⟩ := hg
  have hl' : len + m + junk'.length = cap' := by simp at hl; omega
  have hk : ∃ k', A' = some ⟨k', 0, none⟩ ∧ no' = some k' := by
    by_cases h0 : m = 0
    · obtain ⟨h1, h2⟩ := hm0 h0
      exact ⟨k, h1, h2⟩
    · obtain ⟨k', rfl⟩ := Option.isSome_iff_exists.1 (hno (by omega))
      rcases hA with h1 | h1
      · omega
      · exact ⟨k', h1, rfl⟩
  obtain ⟨k', rfl, rfl⟩ := hk
  exact hK _ _ ⟨k', cap', junk', hl', rfl, by rw [ints_append]⟩
/-- 'copy' into a block of the call's own, of elements of one cell. -/
theorem e_copy {tD tS e : TypeId} {by_ : Nat} {x y : Operand} {D B : Option Addr} {dl dc sl sc : Nat} {d : Nat} (ha : slc P tD = some (e, 1, by_)) (i k off : Nat) (cs cells : List Value) {ty : TypeId}
    (hR : ∀ w, Mem w0 X F w → Reads w B cs) (ho : o.op = .call { callee := .builtin .copy, args := #[x, y], argTypes := #[tD, tS] }) (hx : ev L x = some (.slice D dl dc)) (hy : ev L y = some (.slice B sl sc))
    (hi : F[i]? = some ⟨some k, cells, ty, (0, 0)⟩) (hD : cs = [] ∨ D = some ⟨k, off, none⟩) (hcl : cs.length = min sl dl) (hfit : off + cs.length ≤ cells.length) (h1 : ∀ v ∈ cs, v.oneCell' = true) (hd : o.dst = some d) (hn : Nat.blt d n = true) :
    Eff P dF n w0 X o L F fun L' F' => L' = (d, .int .i64 cs.length) :: L ∧ F' = F.set i ⟨some k, cells.take off ++ cs ++ cells.drop (off + cs.length), ty, (0, 0)⟩ := fun Q K hK a w hf hm => by
  obtain ⟨hu, inf, hinf, hs, hby⟩ := slc_parts ha
  have hsz1 : (P.info? e).map (·.size) = some 1 := by rw [hinf]; simp [hs]
  have hlt : i < F.length := (List.getElem?_eq_some_iff.1 hi).1
  have run : ∀ v w', (Builtin.copy_ #[tD, tS] o.type #[.slice D dl dc, .slice B sl sc]).run P w = .ok v w' → (execOp a.eval o).run P w = .ok (.value v) w' := fun v w' h => by
    simp only [execOp, ho, resolve, invoke, builtin, hf.eval hx, hf.eval hy, Sem.run_bind, Sem.run_pure, Result.andThen_ok, List.map_toArray, List.map_cons, List.map_nil, h]
  cases cs with
  | nil =>
    have hr := run_copy_none (P := P) w tD tS o.type e D B dl dc sl sc hu hsz1 hcl.symm
    unfold Oper.wp
    rw [run _ _ hr, Oper.upon_value, hd]
    have hF : F.set i ⟨some k, cells.take off ++ [] ++ cells.drop (off + 0), ty, (0, 0)⟩ = F := by
      rw [List.append_nil, Nat.add_zero, List.take_append_drop]
      exact set_same hi
    refine hK _ _ ⟨rfl, rfl⟩ _ _ (hf.put _ hn) ?_
    simp only [List.length_nil, hF]
    exact hm
  | cons u us =>
    have hD' := hD.resolve_left (by simp)
    subst hD'
    obtain ⟨b, rfl, _⟩ := hR w hm 0 u rfl
    have hsrc : ∀ j v, (u :: us)[j]? = some v → w.cell? (b.add j) = some v := fun j v hj => by
      obtain ⟨b', hb', hc⟩ := hR w hm j v hj
      cases hb'
      exact hc
    have hb := hm.at i hi
    unfold Blk.here at hb
    have hr := run_copy_row (P := P) w tD tS o.type e k off dl dc b sl sc cells.toArray ty (u :: us) hu hsz1 hb hcl hsrc (by simpa using hfit) h1
    unfold Oper.wp
    rw [run _ _ hr, Oper.upon_value, hd]
    exact hK _ _ ⟨rfl, rfl⟩ _ _ (hf.put _ hn) (hm.setRow i hi _)

/-- Text as bytes: a block of its own, that may share with the text: it is read alone. -/
theorem e_bytes {t t' e : TypeId} {x : Operand} {s : ByteArray} {d : Nat} (hs : P.underlying t = some .string) (ht : P.underlying t' = some (.slice e)) (he : P.underlying e = some (.int .u8)) (ho : o.op = .convert t t' x) (hx : ev L x = some (.string s)) (hd : o.dst = some d) (hn : Nat.blt d n = true) :
    Eff P dF n w0 X o L F fun L' F' => ∃ (k cap : Nat) (junk : List Value) (fz : Nat × Nat), s.size ≤ cap ∧ (ints .u8 (s.data.toList.map fun b => (b.toNat : Int)) ++ junk).length = cap ∧ L' = (d, .slice (some ⟨k, 0, none⟩) s.size cap) :: L ∧ F' = F ++ [⟨some k, ints .u8 (s.data.toList.map fun b => (b.toNat : Int)) ++ junk, e, fz⟩] := fun Q K hK a w hf hm => by
  let cap := (Question.appendCap s.size 0 e).cut (w.tape w.drawn (.appendCap s.size 0 e))
  have hcap : s.size ≤ cap := by simp only [cap, Question.cut]; omega
  let cs : List Value := ints .u8 (s.data.toList.map fun b => (b.toNat : Int)) ++ List.replicate (cap - s.size) (.int .u8 0)
  have hcs : (s.data.map fun b => Value.int .u8 b.toNat) ++ Array.replicate (cap - s.size) (.int .u8 0) = cs.toArray := by
    rw [← Array.toList_inj]; simp [cs, ints]
  have hlen : cs.length = cap := by simp [cs, ints]; omega
  have hnew := hm.drew.new cs e
  have hlk : (w.drew.alloc (.cells cs.toArray e)).heap[w.heap.size]? = some (.cells cs.toArray e) := heap_alloc_new w.drew _
  have hr : (execOp a.eval o).run P w = .ok (.value (.slice (some ⟨w.heap.size, 0, none⟩) s.size cap)) ((w.drew.alloc (.cells cs.toArray e)).freeze ⟨w.heap.size, cap, none⟩ 1) := by
    simp only [execOp, ho, hf.eval hx, convert]
    simp only [Sem.run_bind, run_underlying hs, run_underlying ht, run_underlying he, Result.andThen_ok, Conv.stringToBytes, run_choose, Question.forced, Bool.false_eq_true, if_false]
    have : (Question.appendCap s.size 0 e).cut (w.tape w.drawn (.appendCap s.size 0 e)) = cap := rfl
    simp only [this, hcs, newRow, Sem.run_bind, run_newObj, Sem.run_pure, Result.andThen_ok, markStringish, run_shape]
    have hsh : World.shape? { heap := w.heap.push (.cells cs.toArray e), tape := w.tape, drawn := w.drawn + 1, os := w.os, output := w.output } w.heap.size = some (e, cap) := by
      simp [World.shape?, hlen]
    simp only [hsh, run_freeze, Result.andThen_ok]
    rfl
  unfold Oper.wp
  rw [hr, Oper.upon_value, hd]
  have hfr : ∃ fz, ((w.drew.alloc (.cells cs.toArray e)).freeze ⟨w.heap.size, cap, none⟩ 1).heap[w.heap.size]? = some (.cells cs.toArray e fz) := by
    simp only [World.freeze, Nat.one_ne_zero, if_false, Array.getElem?_modify, hlk]
    exact ⟨(cap, cap + 1), rfl⟩
  obtain ⟨fz, hfz⟩ := hfr
  refine hK _ _ ⟨w.heap.size, cap, List.replicate (cap - s.size) (.int .u8 0), fz, hcap, hlen, rfl, rfl⟩ _ _ (hf.put _ hn) ?_
  have hw := hnew.write (w' := (w.drew.alloc (.cells cs.toArray e)).freeze ⟨w.heap.size, cap, none⟩ 1) F.length (k := w.heap.size) (cells := cs) (cells' := cs) (ty := e) (fz := (0, 0)) (fz' := fz) (by simp) hfz
    (fun j hj => by simp only [World.freeze, Nat.one_ne_zero, if_false]; rw [Array.getElem?_modify]; rw [if_neg (fun h => hj h.symm)]) (by simp [World.freeze]) (by simp [World.freeze]) (by simp [World.freeze]) (by simp [World.freeze])
  simpa using hw

/-- The function is entered by a call. -/
def Enters (P : Program) (f : FuncId) : Prop := ∀ args w, (callFunc f args).run P w = .ok (.enter f args) w
theorem enters_of {f : FuncId} {fn : Func} (hf : P.funcs[f]? = some fn) (h1 : (fn.name == "runtime.NumGoroutine") = false) (h2 : fn.body.isNone = false) : Enters P f := fun args w => by
  simp only [callFunc, Sem.run_bind, run_program, Result.andThen_ok, hf, h1, h2, Bool.false_eq_true, if_false, Sem.run_pure]
def evs (L : Slots) : List Operand → Option (List Value)
  | [] => some []
  | x :: r => (ev L x).bind fun v => (evs L r).map fun vs => v :: vs
theorem evs_map {a : Act} (hf : Fr dF n L a) : ∀ {xs : List Operand} {vs : List Value}, evs L xs = some vs → xs.map a.eval = vs
  | [], vs, h => by simp [evs] at h; simp [h]
  | x :: r, vs, h => by
    simp only [evs] at h
    obtain ⟨v, hv, h2⟩ := Option.bind_eq_some_iff.1 h
    obtain ⟨us, hu, rfl⟩ := Option.map_eq_some_iff.1 h2
    simp [hf.eval hv, evs_map hf hu]
theorem run_call {f : FuncId} {xs : List Operand} {ts : Array TypeId} {vs : List Value} {a : Act} {w : World} (he : Enters P f) (hf : Fr dF n L a) (ho : o.op = .call { callee := .value (.func f), args := xs.toArray, argTypes := ts }) (hx : evs L xs = some vs) :
    (execOp a.eval o).run P w = .ok (.enter f vs.toArray) w := by
  have := evs_map hf hx
  simp only [execOp, ho, resolve, Act.eval, Deferred.ofValue, invoke]
  have e : (#[] ++ xs.toArray.map a.eval) ++ #[] = vs.toArray := by rw [← this]; simp
  have e2 : (xs.toArray.map a.eval) = vs.toArray := by rw [← this]; simp
  simp only [Sem.run_bind, Sem.run_pure, Result.andThen_ok, Array.empty_append, Array.append_empty]
  show ((callFunc f (xs.toArray.map a.eval)).run P w) = _
  rw [e2, he]
/-- A call: its result in slot d, its blocks behind those that are known. -/
theorem e_call {f : FuncId} {xs : List Operand} {ts : Array TypeId} {vs : List Value} {d : Nat} {post : Value → List Blk → Prop} (he : Enters P f) (ho : o.op = .call { callee := .value (.func f), args := xs.toArray, argTypes := ts }) (hx : evs L xs = some vs)
    (hc : ∀ w, Mem w0 X F w → Does P f vs.toArray w [] post) (hd : o.dst = some d) (hn : Nat.blt d n = true) :
    Eff P dF n w0 X o L F fun L' F' => ∃ v G, post v G ∧ L' = (d, v) :: L ∧ F' = F ++ G := fun Q K hK a w hf hm => by
  unfold Oper.wp
  rw [run_call he hf ho hx, Oper.upon_enter]
  refine Calls.mono (hc w hm) ?_
  rintro _ w' ⟨v, G, rfl, hm', hp⟩
  simp only [hd]
  exact hK _ _ ⟨v, G, hp, rfl, rfl⟩ _ _ (hf.put _ hn) (hm.join hm' (by simp) (by simp))
/-- A call that may write some blocks that are known (those not marked by m). -/
theorem e_callX {f : FuncId} {xs : List Operand} {ts : Array TypeId} {vs : List Value} {d : Nat} {X' : List Nat} {post : Value → List Blk → Prop} (m : List Bool) (he : Enters P f) (ho : o.op = .call { callee := .value (.func f), args := xs.toArray, argTypes := ts }) (hx : evs L xs = some vs)
    (hc : ∀ w, Mem w0 X F w → Does P f vs.toArray w X' post) (hX : ∀ k, k ∈ X' → k ∈ X ∨ ∃ b ∈ F, b.no = some k) (hG : ∀ w, Mem w0 X F w → ∀ b ∈ pick m F, ∀ k, b.no = some k → k ∉ X') (hd : o.dst = some d) (hn : Nat.blt d n = true) :
    Eff P dF n w0 X o L F fun L' F' => ∃ v G, post v G ∧ L' = (d, v) :: L ∧ F' = pick m F ++ G := fun Q K hK a w hf hm => by
  unfold Oper.wp
  rw [run_call he hf ho hx, Oper.upon_enter]
  refine Calls.mono (hc w hm) ?_
  rintro _ w' ⟨v, G, rfl, hm', hp⟩
  simp only [hd]
  exact hK _ _ ⟨v, G, hp, rfl, rfl⟩ _ _ (hf.put _ hn) (hm.joinX hm' (pick_sub m F) hX (hG w hm))
/-- Two blocks that are known at different places are not one. -/
theorem Mem.ne {w : World} (hm : Mem w0 X F w) (i j : Nat) {a b : Blk} {k l : Nat} (hij : i ≠ j) (hi : F[i]? = some a) (hj : F[j]? = some b) (ha : a.no = some k) (hb : b.no = some l) : k ≠ l := fun e => by
  subst e
  have hap := List.pairwise_iff_getElem.1 hm.apart
  obtain ⟨h1, rfl⟩ := List.getElem?_eq_some_iff.1 hi
  obtain ⟨h2, rfl⟩ := List.getElem?_eq_some_iff.1 hj
  rcases Nat.lt_or_gt_of_ne hij with h | h
  · exact hap i j h1 h2 h k ha hb
  · exact hap j i h2 h1 h k hb ha
/-- The end: one result that lies in a block. -/
theorem Ex.outC {fn : Func} {p : Tmp} {ty : TypeId} {k : Nat} {cs : List Value} {post : Value → List Blk → Prop} (m : List Bool) (i : Nat) {bt : TypeId} {fz : Nat × Nat} (hr : fn.results = #[.cell p ty]) (hw : wide P ty = some cs.length) (hp : look L p = some (.pointer (some ⟨k, 0, none⟩)))
    (hi : F[i]? = some ⟨some k, cs, bt, fz⟩) (hq : post (.agg cs.toArray) (pick m F)) :
    Ex [] n w0 X .ret (bodyPost P fn fun e w' => ∃ v F, e = .returned v ∧ Mem w0 X F w' ∧ post v F) L F := by
  intro a w hf hm
  refine ⟨hf.defers, .agg cs.toArray, ?_, _, pick m F, rfl, hm.sub (pick_sub m F), hq⟩
  have h1 := hf.holds p _ hp
  have hl := run_loadVar_wide (P := P) (w := w) hw ⟨k, 0, none⟩ cs rfl (fun j v hj => by
    obtain ⟨ad, ha, hc⟩ := R_blk i hi w hm j v hj
    cases ha
    exact hc)
  simp [results, hr, Array.getD_eq_getD_getElem?, h1, asAddr, hl]
end
end Go.X
