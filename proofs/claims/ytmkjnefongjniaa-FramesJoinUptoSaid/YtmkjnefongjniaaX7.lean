/-
  From a walk to a row: what the arguments are, by their reading; that what was read before the call reads as it did behind it.
-/
import Derived.Test.YtmkjnefongjniaaX6
import Derived.ProofKit
import Derived.OpenShut
import Derived.ReadAgain
import Derived.RowKit
import Derived.Deep.DeepHandedRow
namespace Go.X
open Go Go.ChangeShapes Go.WideShapes Go.RowKit

section
variable {H : Type} {enc : TypeId × Value → H} {P : Program}

/-! What stays. -/
theorem Kept.cell {W W' : World} (h : Kept [] W W') {b : Nat} (hb : b < W.heap.size) : W'.heap[b]? = W.heap[b]? := h.block b hb (by simp)
theorem Kept.sameAt {W W' : World} (h : Kept [] W W') {p : MemPlace} (hp : p.block < W.heap.size) : W.sameAt W' p := by
  cases p with
  | cell b off =>
    show W'.cell? _ = W.cell? _
    have := h.cell (b := b) hp
    unfold World.cell?
    rw [this]
  | map b => exact h.cell hp
theorem Kept.keptBut {W W' : World} (h : Kept [] W W') (may : MemPlace → Prop) : W.keptBut W' may := by
  refine ⟨h.os, h.output, fun i hi => ?_⟩
  rw [h.cell hi]
  cases ho : W.heap[i]? with
  | none => rfl
  | some o =>
    cases o with
    | cells c t fr => exact ⟨rfl, rfl, rfl, fun _ _ => rfl⟩
    | map es clock => exact .inr ⟨rfl, rfl⟩
    | _ => rfl
theorem Kept.frozen {W W' : World} (h : Kept [] W W') {b off : Nat} (hb : b < W.heap.size) : W'.frozen? ⟨b, off, none⟩ = W.frozen? ⟨b, off, none⟩ := by
  unfold World.frozen?
  rw [h.cell hb]

/-- The types of the parameters are in order. -/
def fine (P : Program) (ts : List TypeId) : Bool := laidOutB P && ((List.range P.types.size).all fun t => match P.underlying t with | some (.slice e) => decide (0 < P.cellsOf e) | _ => true) && ts.all fun t => decide (t < P.types.size) && P.readableRec t

theorem trodAll_kept {W W' : World} (hk : Kept [] W W') (hl : laidOutB P = true) (hz : ∀ t e, t < P.types.size → P.underlying t = some (.slice e) → 0 < P.cellsOf e) {sp : Nat → Bool} :
    ∀ {ts : List TypeId} {vs : List Value} {ds : List (DataW H)} {ps : List MemPlace}, (∀ t ∈ ts, t < P.types.size ∧ P.readableRec t = true) → DataW.TrodAll enc P W 0 (fun _ => true) true ts vs ds ps → (∀ p ∈ ps, p.block < W.heap.size) → (∀ p ∈ ps, sp p.block = true) →
    DataW.TrodAll enc P W' 0 sp true ts vs ds ps
  | [], [], [], _, _, h, _, _ => h
  | t :: ts, v :: _, d :: _, _, hT, ⟨p, q, h1, h2, e⟩, hb, hs => by
    have h3 : DataW.Trod enc P W' 0 (fun _ => true) true t v d p := by
      obtain ⟨n, hn⟩ := h1
      exact ⟨n, DataW.trod_carry n _ _ _ hn fun x hx => hk.sameAt (hb x (by rw [e]; exact List.mem_append_left _ hx))⟩
    refine ⟨p, q, h3.respare (kids_book hl (hT t (by simp)).2) (fun u e' hu hue => hz u e' hu.1 hue) ⟨(hT t (by simp)).1, book_self t⟩ (fun x hx => hs x (by rw [e]; exact List.mem_append_left _ hx)), ?_, e⟩
    exact trodAll_kept hk hl hz (fun u hu => hT u (by simp [hu])) h2 (fun x hx => hb x (by rw [e]; exact List.mem_append_right _ hx)) (fun x hx => hs x (by rw [e]; exact List.mem_append_right _ hx))

/-- 'It returns true, and what came in reads as it did.' -/
theorem law_post {fn : Func} {s : ChangeSpec} {tb : TypeId} {apart fresh handsOn again : Bool} {W W' : World} {args : Array Value} {ds gs : List (DataW H)} {before : List MemPlace} (hf : fine P fn.params.toList = true) (hv : s.vars = []) (hr : fn.resultTypes = #[tb])
    (htb : P.underlying tb = some .bool) (hW : DataW.Whole enc P fn.params.toList s.vars apart W args.toList ds gs before) (hs : s.fn H (ds ++ gs) = { results := [.lit (.bool true)], args := ds }) (hk : Kept [] W W') :
    s.post enc P fn apart fresh handsOn again W args (.bool true) W' := by
  unfold fine at hf
  simp only [Bool.and_eq_true] at hf
  obtain ⟨⟨hl, hz⟩, ht⟩ := hf
  have hz' := slices_full_of P hz
  have ht' : ∀ t ∈ fn.params.toList, t < P.types.size ∧ P.readableRec t = true := fun t h => by
    have := List.all_eq_true.1 ht t h
    simpa using this
  have hlt := hW.lt
  have hW0 := hW
  obtain ⟨p, q, hA, hV, hpq, hfz, hnd⟩ := hW
  rw [hv] at hV
  obtain ⟨rfl, rfl⟩ := trodVars_none hV
  rw [List.append_nil] at hpq
  subst hpq
  have hargs : ∀ sp : Nat → Bool, (∀ x ∈ before, sp x.block = true) → DataW.TrodAll enc P W' 0 sp true fn.params.toList args.toList ds before := fun sp hsp => trodAll_kept hk hl hz' ht' hA hlt hsp
  have hres : ∀ (b : Nat) (sp : Nat → Bool) (hd : Bool), DataW.TrodAll enc P W' b sp hd fn.resultTypes.toList ((Value.bool true).resultList fn.resultTypes.size) [.lit (.bool true)] [] := fun b sp hd => by
    rw [hr]
    exact trodAll_mk1 (shut_bool htb true)
  have hvars : ∀ sp : Nat → Bool, DataW.TrodVars enc P W' sp s.vars ([] : List (DataW H)) [] := fun sp => by
    rw [hv]; rfl
  have hold : ∀ x ∈ before, (fun b => decide (b < W.heap.size)) x.block = true := fun x hx => by simpa using hlt x hx
  refine ⟨ds, [], before, [], before, [], hW0, by rw [hs]; exact hres _ _ _, by rw [hs]; exact hargs _ hold, by rw [hs]; exact hvars _, hk.keptBut _, fun _ => ⟨?_, [.lit (.bool true)] ++ ds, [], ([] ++ before) ++ [], ⟨[] ++ before, [], trodAll_append (p := []) (hargs _ (fun _ _ => rfl)) (hres _ _ _), ?_, rfl, ?_, ?_⟩, ?_⟩⟩
  · intro j t r h1 h2
    rw [hr] at h1 h2
    have hj : j = 0 := by
      have := (Array.getElem?_eq_some_iff.1 h1).1
      simp at this
      exact this
    subst hj
    simp only [List.getElem?_toArray, List.getElem?_cons_zero, Option.some.injEq] at h1
    subst h1
    have h3 : r = .bool true := by
      have : ([Value.bool true] : List Value)[0]? = some r := h2
      simpa using this.symm
    subst h3
    exact okWide_bool_mk htb true
  · exact hvars _
  · intro b off hp
    have hp' : MemPlace.cell b off ∈ before := by simpa using hp
    exact (hk.frozen (b := b) (off := off) (hlt _ hp')).trans (hfz b off hp')
  · intro ha
    simpa using hnd ha
  · intro x hx _
    simpa using hx

/-! What the arguments are. -/
theorem mapM_each {α β : Type} {f : α → Option β} : ∀ {l : List α} {r : List β}, l.mapM f = some r → ∀ x ∈ l, ∃ y, f x = some y
  | [], _, _, x, hx => by cases hx
  | a :: l, r, h, x, hx => by
    rw [List.mapM_cons] at h
    simp only [bind, Option.bind_eq_some_iff] at h
    obtain ⟨y, hy, ys, hys, _⟩ := h
    rcases List.mem_cons.1 hx with rfl | hx
    · exact ⟨y, hy⟩
    · exact mapM_each hys x hx

variable {w : World} {base : Nat} {spare : Nat → Bool} {held : Bool}
theorem cells_arr {t e : TypeId} {k : IntKind} {N : Nat} {n : Nat} {cs : List Value} {x : DataW H × List MemPlace} (ha : arr P t = some (N, e, 1)) (he : P.underlying e = some (.int k)) (hN : P.cellsOf t = N) (h : DataW.trod enc P w base spare held n t cs = some x) :
    ∃ xs, cs = ints k xs ∧ xs.length = N ∧ ∀ z ∈ xs, (Lit.int k z).wf = true := by
  obtain ⟨hu, inf, hi, hs⟩ := arr_parts ha
  have hc := cellsOf_of hi hs
  cases n with
  | zero => simp [DataW.trod] at h
  | succ m =>
    unfold DataW.trod at h
    rw [hu] at h
    simp only [hN, hc] at h
    split at h
    · rename_i hl
      obtain ⟨ys, hys, _⟩ := Option.map_eq_some_iff.1 h
      have each : ∀ i, i < N → ∃ z, cs[i]? = some (.int k z) ∧ (Lit.int k z).wf = true := fun i hiN => by
        obtain ⟨y, hy⟩ := mapM_each hys i (by simpa using hiN)
        obtain ⟨z, hz, _, hw⟩ := DataW.trod_int he hy
        refine ⟨z, ?_, hw⟩
        have h1 : ((cs.drop (i * 1)).take 1)[0]? = some (.int k z) := by rw [hz]; rfl
        rw [List.getElem?_take, List.getElem?_drop] at h1
        simpa using h1
      refine ⟨cs.map fun | .int _ z => z | _ => 0, ?_, by simpa using hl, ?_⟩
      · refine List.ext_getElem? fun i => ?_
        by_cases hiN : i < N
        · obtain ⟨z, hz, _⟩ := each i hiN
          simp [ints, hz]
        · rw [List.getElem?_eq_none (by omega), List.getElem?_eq_none (by simp; omega)]
      · intro z hz
        obtain ⟨v, hv, rfl⟩ := List.mem_map.1 hz
        obtain ⟨i, hi'⟩ := List.getElem?_of_mem hv
        obtain ⟨z, hz, hw⟩ := each i (by have := (List.getElem?_eq_some_iff.1 hi').1; omega)
        rw [hi'] at hz
        cases hz
        exact hw
    · cases h
theorem cells_struct {t : TypeId} {fs : Array Field} {n : Nat} {cs : List Value} {x : DataW H × List MemPlace} (hu : P.underlying t = some (.struct fs)) (h : DataW.trod enc P w base spare held n t cs = some x) :
    cs.length = P.cellsOf t ∧ ∃ m, ∀ f ∈ fs.toList, ∃ y, DataW.trod enc P w base spare held m f.type ((cs.drop f.offset).take (P.cellsOf f.type)) = some y := by
  cases n with
  | zero => simp [DataW.trod] at h
  | succ m =>
    unfold DataW.trod at h
    rw [hu] at h
    simp only at h
    split at h
    · rename_i hl
      obtain ⟨ys, hys, _⟩ := Option.map_eq_some_iff.1 h
      exact ⟨hl, m, fun f hf => mapM_each hys f hf⟩
    · cases h
theorem open_arr {t e : TypeId} {k : IntKind} {N b0 : Nat} {r : Reach} {v : Value} {d : DataW H} {ps : List MemPlace} (ha : arr P t = some (N, e, 1)) (he : P.underlying e = some (.int k)) (hN : P.cellsOf t = N) (hval : Value.okWide P w r b0 t v)
    (hd : DataW.Trod enc P w base spare held t v d ps) : ∃ xs, v = .agg (ints k xs).toArray ∧ xs.length = N ∧ ∀ z ∈ xs, (Lit.int k z).wf = true := by
  obtain ⟨hu, _⟩ := arr_parts ha
  simp only [Value.okWide, hu] at hval
  obtain ⟨cs, rfl, _⟩ := hval
  obtain ⟨n, hn⟩ := hd
  obtain ⟨xs, h1, h2, h3⟩ := cells_arr ha he hN hn
  refine ⟨xs, ?_, h2, h3⟩
  rw [← h1]
  simp [Value.cells]
theorem open_struct {t : TypeId} {fs : Array Field} {b0 : Nat} {r : Reach} {v : Value} {d : DataW H} {ps : List MemPlace} (hu : P.underlying t = some (.struct fs)) (hval : Value.okWide P w r b0 t v) (hd : DataW.Trod enc P w base spare held t v d ps) :
    ∃ cs : List Value, v = .agg cs.toArray ∧ cs.length = P.cellsOf t ∧ ∃ m, ∀ f ∈ fs.toList, ∃ y, DataW.trod enc P w base spare held m f.type ((cs.drop f.offset).take (P.cellsOf f.type)) = some y := by
  simp only [Value.okWide, hu] at hval
  obtain ⟨cs, rfl, _⟩ := hval
  obtain ⟨n, hn⟩ := hd
  obtain ⟨h1, m, h2⟩ := cells_struct hu hn
  refine ⟨cs.toList, by simp, by simpa [Value.cells] using h1, m, by simpa [Value.cells] using h2⟩
theorem weights_at {P : Program} : ∀ {ts : List TypeId} {ds : List (DataW H)}, (DataW.weightsEach P ts ds).all (· ≤ reachBytes) = true → ∀ (j : Nat) (t : TypeId) (d : DataW H), ts[j]? = some t → ds[j]? = some d → ∀ m ∈ d.weights P t, m ≤ reachBytes
  | [], _, _, j, t, d, h1, _, _, _ => by simp at h1
  | _ :: _, [], _, j, t, d, _, h2, _, _ => by simp at h2
  | u :: ts, x :: ds, h, j, t, d, h1, h2, m, hm => by
    simp only [DataW.weightsEach, List.all_append, Bool.and_eq_true] at h
    cases j with
    | zero =>
      simp at h1 h2
      subst h1 h2
      have := List.all_eq_true.1 h.1 m hm
      simpa using this
    | succ j => exact weights_at h.2 j t d (by simpa using h1) (by simpa using h2) m hm
theorem open_slice {t e : TypeId} {k : IntKind} {by_ b0 : Nat} {r : Reach} {v : Value} {d : DataW H} {ps : List MemPlace} (ha : slc P t = some (e, 1, by_)) (he : P.underlying e = some (.int k)) (hval : Value.okWide P w r b0 t v)
    (hd : DataW.Trod enc P w base (fun _ => true) held t v d ps) (hwt : ∀ m ∈ d.weights P t, m ≤ reachBytes) :
    ∃ (A : Option Addr) (c : Nat) (xs : List Int), v = .slice A xs.length c ∧ xs.length ≤ c ∧ c * by_ ≤ reachBytes ∧ Reads w A (ints k xs) ∧ ∀ z ∈ xs, (Lit.int k z).wf = true := by
  obtain ⟨hu, inf, hi, hs, hb⟩ := slc_parts ha
  have hc := cellsOf_of hi hs
  obtain ⟨A, l, c, rfl⟩ := okWide_slice hu hval
  obtain ⟨n, hn⟩ := hd
  rcases open_ints hu he hc hn with ⟨h1, h2⟩ | ⟨a, len, cap, zs, h1, _, hlc, _, hzl, h2, hcell, hwf⟩
  · simp only [Value.cells, List.cons.injEq, Value.slice.injEq, and_true] at h1
    obtain ⟨rfl, rfl, rfl⟩ := h1
    exact ⟨none, 0, [], rfl, Nat.le_refl _, by simp, Reads.nil w none, by simp⟩
  · simp only [Value.cells, List.cons.injEq, Value.slice.injEq, and_true] at h1
    obtain ⟨rfl, rfl, rfl⟩ := h1
    simp only [if_true] at hzl
    have hlt : (zs.take l).length = l := by rw [List.length_take]; omega
    refine ⟨some a, c, zs.take l, by rw [hlt], by omega, ?_, ?_, fun z hz => hwf z (List.mem_of_mem_take hz)⟩
    · have := hwt (c * by_) (by
        cases h2
        simp only [DataW.weights, hu]
        refine List.mem_cons.2 (.inl ?_)
        have e1 : P.bytesOf e = by_ := by simp [Program.bytesOf, hi, hb]
        have e2 : ∀ (l : List Int), (lits (H := H) k l).length = l.length := fun l => by simp [lits]
        rw [e1, e2, e2, hlt, List.length_drop, hzl, show l + (c - l) = c by omega])
      exact this
    · intro j v hj
      have hjl : j < l := by
        have := (List.getElem?_eq_some_iff.1 hj).1
        simpa [hlt] using this
      refine ⟨a, rfl, ?_⟩
      rw [hcell j (by omega)]
      have hg := ints_get (k := k) (xs := zs.take l) (j := j) (by omega)
      rw [hg] at hj
      cases hj
      simp only [List.getD_eq_getElem?_getD, List.getElem?_take]
      simp [hjl]
theorem open_i {t : TypeId} {k : IntKind} {b0 : Nat} {r : Reach} {v : Value} {d : DataW H} {ps : List MemPlace} (ht : P.underlying t = some (.int k)) (hval : Value.okWide P w r b0 t v) (hd : DataW.Trod enc P w base spare held t v d ps) :
    ∃ z, v = .int k z ∧ (Lit.int k z).wf = true := by
  obtain ⟨z, rfl⟩ := okWide_int ht hval
  obtain ⟨n, hn⟩ := hd
  obtain ⟨z', h1, _, hw⟩ := DataW.trod_int ht hn
  simp only [Value.cells, List.cons.injEq, Value.int.injEq, and_true, true_and] at h1
  subst h1
  exact ⟨z, rfl, hw⟩
theorem wf_u8 {z : Int} (h : (Lit.int .u8 z).wf = true) : 0 ≤ z ∧ z < 256 := by
  simp [Lit.wf, IntKind.min, IntKind.max, IntKind.bits, IntKind.signed] at h; omega
theorem wf_u32 {z : Int} (h : (Lit.int .u32 z).wf = true) : IntKind.u32.wrap z = z := by
  simp [Lit.wf, IntKind.min, IntKind.max, IntKind.bits, IntKind.signed] at h
  simp [IntKind.wrap, IntKind.bits, IntKind.signed]; omega
theorem wf_i64 {z : Int} (h : (Lit.int .i64 z).wf = true) : -9223372036854775808 ≤ z ∧ z ≤ 9223372036854775807 := by
  simp [Lit.wf, IntKind.min, IntKind.max, IntKind.bits, IntKind.signed] at h; omega
end
end Go.X
