/-
  Facts on the types of the arguments of layer 10.
-/
import Derived.Test.YtmkjnefongjniaaLift
import Derived.Test.YtmkjnefongjniaaPureT
namespace Go.Proofs.Ytmkjnefongjniaa
open Go Go.X Go.ChangeShapes Go.WideShapes Go.ChangeAt Go.RowKit
theorem ce3 : Try.prog.cellsOf 3 = 1 := by kernel_rfl
theorem ce22 : Try.prog.cellsOf 22 = 1 := by kernel_rfl
theorem ce56 : Try.prog.cellsOf 56 = 1 := by kernel_rfl
theorem ce57 : Try.prog.cellsOf 57 = 8 := by kernel_rfl
theorem ce59 : Try.prog.cellsOf 59 = 13 := by kernel_rfl
theorem ce74 : Try.prog.cellsOf 74 = 2 := by kernel_rfl
theorem a57 : arr Try.prog 57 = some (8, 5, 1) := by kernel_rfl
theorem s52 : Try.prog.underlying 52 = some (.slice 59) := by kernel_rfl
theorem s56 : Try.prog.underlying 56 = some (.slice 74) := by kernel_rfl
theorem open_sliceC {P : Program} {H : Type} {enc : TypeId × Value → H} {w : World} {base : Nat} {held : Bool} {t e : TypeId} {k : IntKind} {by_ m : Nat} {cells : List Value} {d : DataW H} {ps : List MemPlace} (ha : slc P t = some (e, 1, by_)) (he : P.underlying e = some (.int k))
    (hn : DataW.trod enc P w base (fun _ => true) held m t cells = some (d, ps)) :
    ∃ (A : Option Addr) (c : Nat) (xs : List Int), cells = [.slice A xs.length c] ∧ xs.length ≤ c ∧ Reads w A (ints k xs) ∧ ∀ z ∈ xs, (Lit.int k z).wf = true := by
  obtain ⟨hu, inf, hi, hs, hb⟩ := slc_parts ha
  have hc := cellsOf_of hi hs
  rcases open_ints hu he hc hn with ⟨h1, h2⟩ | ⟨a, len, cap, zs, h1, _, hlc, _, hzl, h2, hcell, hwf⟩
  · exact ⟨none, 0, [], h1, Nat.le_refl _, Reads.nil w none, by simp⟩
  · simp only [if_true] at hzl
    have hlt : (zs.take len).length = len := by rw [List.length_take]; omega
    refine ⟨some a, cap, zs.take len, by rw [hlt]; exact h1, by omega, ?_, fun z hz => hwf z (List.mem_of_mem_take hz)⟩
    intro j v hj
    have hjl : j < len := by
      have := (List.getElem?_eq_some_iff.1 hj).1
      simpa [hlt] using this
    refine ⟨a, rfl, ?_⟩
    rw [hcell j (by omega)]
    have hg := ints_get (k := k) (xs := zs.take len) (j := j) (by omega)
    rw [hg] at hj
    cases hj
    simp only [List.getD_eq_getElem?_getD, List.getElem?_take]
    simp [hjl]
theorem list_of {α : Type} {p : Nat → α → Prop} (d : α) : ∀ n, (∀ i, i < n → ∃ x, p i x) → ∃ l : List α, l.length = n ∧ ∀ i, i < n → p i (l.getD i d)
  | 0, _ => ⟨[], rfl, fun i hi => absurd hi (Nat.not_lt_zero i)⟩
  | n + 1, h => by
    obtain ⟨l, hl, hp⟩ := list_of d n fun i hi => h i (by omega)
    obtain ⟨x, hx⟩ := h n (by omega)
    refine ⟨l ++ [x], by simp [hl], fun i hi => ?_⟩
    by_cases hin : i < n
    · have := hp i hin
      rwa [List.getD_eq_getElem?_getD, List.getElem?_append_left (by omega), ← List.getD_eq_getElem?_getD]
    · obtain rfl : i = n := by omega
      rw [List.getD_eq_getElem?_getD, List.getElem?_append_right (by omega), hl]
      simpa using hx
section
variable {H : Type} {enc : TypeId × Value → H} {w : World} {base : Nat} {held : Bool}
theorem reads_parts {a : Addr} {s m : Nat} {cs : List Value} (hs : 0 < s) (hl : cs.length = m * s) (h : ∀ i, i < m → ∀ r v, ((cs.drop (i * s)).take s)[r]? = some v → w.cell? ((a.add (i * s)).add r) = some v) : Reads w (some a) cs := fun j v hj => by
  have hlt := (List.getElem?_eq_some_iff.1 hj).1
  have hi : j / s < m := by rw [Nat.div_lt_iff_lt_mul hs]; omega
  have hr := Nat.mod_lt j hs
  have e : j / s * s + j % s = j := by rw [Nat.mul_comm]; exact Nat.div_add_mod j s
  refine ⟨a, rfl, ?_⟩
  have := h (j / s) hi (j % s) v (by rw [List.getElem?_take, if_pos hr, List.getElem?_drop, e]; exact hj)
  rwa [add_add, e] at this
theorem open_range {n : Nat} {ec : List Value} {y : DataW H × List MemPlace} (h : DataW.trod enc Try.prog w base (fun _ => true) held n 74 ec = some y) : ∃ x : Int × Int, ec = [.int .i64 x.1, .int .i64 x.2] := by
  obtain ⟨hl, m, hf⟩ := cells_struct Try.underlying74 h
  rw [ce74] at hl
  obtain ⟨y0, h0⟩ := hf _ (List.mem_cons_self ..)
  obtain ⟨y1, h1⟩ := hf _ (List.mem_cons_of_mem _ (List.mem_cons_self ..))
  obtain ⟨z0, k0, _⟩ := DataW.trod_int u3 h0
  obtain ⟨z1, k1, _⟩ := DataW.trod_int u3 h1
  rw [ce3] at k0 k1
  rcases ec with _ | ⟨a0, _ | ⟨a1, _ | ⟨a2, t⟩⟩⟩ <;> try (simp at hl; done)
  simp at k0 k1
  subst k0 k1
  exact ⟨(z0, z1), rfl⟩
theorem open_ranges {n : Nat} {cs : List Value} {x : DataW H × List MemPlace} (h : DataW.trod enc Try.prog w base (fun _ => true) held n 56 cs = some x) :
    ∃ (A : Option Addr) (c : Nat) (rs : List (Int × Int)), cs = [.slice A rs.length c] ∧ rs.length ≤ 9223372036854775807 ∧ Reads w A (ints .i64 (flat rs)) := by
  rcases DataW.trod_slice s56 h with ⟨rfl, _⟩ | ⟨a, len, cap, elems, rest, m, _, rfl, _, _, hlc, hcm, hel, hat, _, _⟩
  · exact ⟨none, 0, [], rfl, Nat.zero_le _, Reads.nil w none⟩
  · rw [ce74] at hat
    obtain ⟨rs, hrl, hp⟩ := list_of (p := fun i (q : Int × Int) => ∀ r v, ([.int .i64 q.1, .int .i64 q.2] : List Value)[r]? = some v → w.cell? ((a.add (i * 2)).add r) = some v) (0, 0) len fun i hi => by
      have h1 := hat i hi
      rw [List.getElem?_eq_getElem (by omega), Option.bind_eq_some_iff] at h1
      obtain ⟨ec, hc, ht⟩ := h1
      obtain ⟨q, rfl⟩ := open_range ht
      obtain ⟨_, hl, hc2⟩ := World.cells?_some hc
      exact ⟨q, fun r v hr => by rw [hc2 r (by have := (List.getElem?_eq_some_iff.1 hr).1; simpa using this)]; exact hr⟩
    subst hrl
    refine ⟨some a, cap, rs, rfl, by unfold maxLen at hcm; omega, reads_parts (s := 2) (m := rs.length) (by decide) (by rw [ints_length, flat_length]; omega) fun i hi r v hr => ?_⟩
    rw [flat_getV hi] at hr
    exact hp i hi r v hr
theorem frame_cells {n : Nat} {cs : List Value} {x : DataW H × List MemPlace} (h : DataW.trod enc Try.prog w base (fun _ => true) held n 59 cs = some x) : ∃ q : Fm, cs = q.cells ∧ q.OK ∧ q.In w := by
  obtain ⟨hl, m, hf⟩ := cells_struct Try.underlying59 h
  rw [ce59] at hl
  obtain ⟨y0, h0⟩ := hf _ (List.mem_cons_self ..)
  obtain ⟨y1, h1⟩ := hf _ (List.mem_cons_of_mem _ (List.mem_cons_self ..))
  obtain ⟨y2, h2⟩ := hf _ (List.mem_cons_of_mem _ (List.mem_cons_of_mem _ (List.mem_cons_self ..)))
  obtain ⟨y3, h3⟩ := hf _ (List.mem_cons_of_mem _ (List.mem_cons_of_mem _ (List.mem_cons_of_mem _ (List.mem_cons_self ..))))
  obtain ⟨y4, h4⟩ := hf _ (List.mem_cons_of_mem _ (List.mem_cons_of_mem _ (List.mem_cons_of_mem _ (List.mem_cons_of_mem _ (List.mem_cons_self ..)))))
  obtain ⟨y5, h5⟩ := hf _ (List.mem_cons_of_mem _ (List.mem_cons_of_mem _ (List.mem_cons_of_mem _ (List.mem_cons_of_mem _ (List.mem_cons_of_mem _ (List.mem_cons_self ..))))))
  obtain ⟨z0, k0, _⟩ := DataW.trod_int u3 h0
  obtain ⟨z1, k1, _⟩ := DataW.trod_int u3 h1
  obtain ⟨z2, k2, _⟩ := DataW.trod_int u3 h2
  obtain ⟨RA, rc, rs, k3, hrl, hR⟩ := open_ranges h3
  obtain ⟨BA, bc, bs, k4, hbc, hB, hbw⟩ := open_sliceC s22 u5 h4
  obtain ⟨tok, k5, htl, htw⟩ := cells_arr a57 u5 ce57 h5
  have hbm : bs.length ≤ 9223372036854775807 := by
    rcases DataW.trod_slice (slc_parts s22).1 h4 with ⟨e, _⟩ | ⟨a, len, cap, elems, rest, m, _, e, _, _, hlc, hcm, _⟩
    · rw [k4] at e
      simp only [List.cons.injEq, Value.slice.injEq, and_true] at e
      omega
    · rw [k4] at e
      simp only [List.cons.injEq, Value.slice.injEq, and_true] at e
      unfold maxLen at hcm
      omega
  rw [ce3] at k0 k1 k2
  rw [ce56] at k3
  rw [ce22] at k4
  rw [ce57] at k5
  refine ⟨⟨⟨z0, z1, z2, rs, bs, tok⟩, RA, rc, BA, bc⟩, ?_, ⟨htl, hrl, hbc, hbm, bytes_of hbw, bytes_of htw⟩, hR, hB⟩
  rcases cs with _ | ⟨a0, _ | ⟨a1, _ | ⟨a2, _ | ⟨a3, _ | ⟨a4, t⟩⟩⟩⟩⟩ <;> try (simp at hl; done)
  simp at k0 k1 k2 k3 k4 k5 hl
  rw [List.take_of_length_le (by omega)] at k5
  subst k0 k1 k2 k3 k4 k5
  rfl
theorem open_frame {b0 : Nat} {r : Reach} {v : Value} {d : DataW H} {ps : List MemPlace} (hval : Value.okWide Try.prog w r b0 59 v) (hd : DataW.Trod enc Try.prog w base (fun _ => true) held 59 v d ps) : ∃ q : Fm, v = .agg q.cells.toArray ∧ q.OK ∧ q.In w := by
  simp only [Value.okWide, Try.underlying59] at hval
  obtain ⟨cs, rfl, _⟩ := hval
  obtain ⟨n, hn⟩ := hd
  obtain ⟨q, e, h1, h2⟩ := frame_cells hn
  refine ⟨q, ?_, h1, h2⟩
  rw [← e]
  simp [Value.cells]
theorem open_frames {b0 : Nat} {r : Reach} {v : Value} {d : DataW H} {ps : List MemPlace} (hval : Value.okWide Try.prog w r b0 52 v) (hd : DataW.Trod enc Try.prog w base (fun _ => true) held 52 v d ps) :
    ∃ (A : Option Addr) (c : Nat) (ms : List Fm), v = .slice A ms.length c ∧ ms.length ≤ c ∧ (∀ m ∈ ms, m.OK) ∧ Reads w A (fcs ms) ∧ ∀ m ∈ ms, m.In w := by
  obtain ⟨A, l, c, rfl⟩ := okWide_slice s52 hval
  obtain ⟨n, hn⟩ := hd
  rcases DataW.trod_slice s52 hn with ⟨e, _⟩ | ⟨a, len, cap, elems, rest, m, _, e, _, _, hlc, hcm, hel, hat, _, _⟩
  · simp only [Value.cells, List.cons.injEq, Value.slice.injEq, and_true] at e
    obtain ⟨rfl, rfl, rfl⟩ := e
    exact ⟨none, 0, [], rfl, Nat.le_refl _, by simp, Reads.nil w none, by simp⟩
  · simp only [Value.cells, List.cons.injEq, Value.slice.injEq, and_true] at e
    obtain ⟨rfl, rfl, rfl⟩ := e
    rw [ce59] at hat
    obtain ⟨ms, hml, hp⟩ := list_of (p := fun i (q : Fm) => (∀ r v, q.cells[r]? = some v → w.cell? ((a.add (i * 13)).add r) = some v) ∧ q.OK ∧ q.In w) Fm.z l fun i hi => by
      have h1 := hat i hi
      rw [List.getElem?_eq_getElem (by omega), Option.bind_eq_some_iff] at h1
      obtain ⟨ec, hc, ht⟩ := h1
      obtain ⟨q, rfl, h2, h3⟩ := frame_cells ht
      obtain ⟨_, hl, hc2⟩ := World.cells?_some hc
      exact ⟨q, fun r v hr => by rw [hc2 r (by have := (List.getElem?_eq_some_iff.1 hr).1; omega)]; exact hr, h2, h3⟩
    subst hml
    have all : ∀ m ∈ ms, m.OK ∧ m.In w := fun m hm => by
      obtain ⟨i, hi, rfl⟩ := List.getElem_of_mem hm
      have := (hp i hi).2
      rwa [List.getD_eq_getElem?_getD, List.getElem?_eq_getElem hi, Option.getD_some] at this
    have htk : ∀ m ∈ ms, m.f.tok.length = 8 := fun m hm => (all m hm).1.1
    refine ⟨some a, c, ms, rfl, hlc, fun m hm => (all m hm).1, reads_parts (s := 13) (m := ms.length) (by decide) (fcs_length ms htk) fun i hi r v hr => ?_, fun m hm => (all m hm).2⟩
    rw [fcs_get ms i htk hi] at hr
    exact (hp i hi).1 r v hr
end


end Go.Proofs.Ytmkjnefongjniaa
