/-
  From a row's list of laid variables to what a walk reads there.
-/
import Derived.Test.YtkoomaoelekpaaaDoorX7
import Derived.Lib.LaidTab
namespace Go.X
open Go

section
variable {P : Program} {W : World}
theorem reads_of_var {name : String} {g : Nat} {cs : Array Value} (hg : P.globalNamed name = some g) (hv : W.var? P name = some cs) : Reads W (some ⟨g, 0, none⟩) cs.toList := fun j v hj => by
  refine ⟨_, rfl, ?_⟩
  rw [add_lit, Nat.zero_add, World.var?_cell hg hv j]
  simpa using hj
theorem reads_of_tab {name : String} {g : Nat} {k : IntKind} {zs : List Int} (hg : P.globalNamed name = some g) (hv : Lib.TabIs P W name k zs) : Reads W (some ⟨g, 0, none⟩) (ints k zs) := reads_of_var hg hv

theorem chunks {α : Type} (m : Nat) : ∀ (n : Nat) (cs : List α), cs.length = n * m → cs = ((List.range n).map fun i => (cs.drop (i * m)).take m).flatten
  | 0, cs, h => by
    have : cs = [] := List.eq_nil_of_length_eq_zero (by simpa using h)
    simp [this]
  | n + 1, cs, h => by
    have ih := chunks m n (cs.drop m) (by rw [List.length_drop, h, Nat.add_mul]; omega)
    rw [List.range_succ_eq_map, List.map_cons, List.flatten_cons, List.map_map]
    have e : (List.range n).map ((fun i => (cs.drop (i * m)).take m) ∘ Nat.succ) = (List.range n).map fun i => ((cs.drop m).drop (i * m)).take m := by
      apply List.map_congr_left
      intro i _
      simp only [Function.comp_apply, List.drop_drop, Nat.succ_mul]
      rw [Nat.add_comm]
    rw [e, ← ih]
    simp
theorem cells_of_tab2 {H : Type} {enc : TypeId × Value → H} {w : World} {base : Nat} {sp : Nat → Bool} {held : Bool} {fuel : Nat} {t a e : TypeId} {n m : Nat} {k : IntKind} {cs : List Value} {rows : List (List Int)} {p : List MemPlace}
    (ht : P.underlying t = some (.array n a)) (ha : P.underlying a = some (.array m e)) (he : P.underlying e = some (.int k)) (hce : P.cellsOf e = 1) (hca : P.cellsOf a = m) (hct : P.cellsOf t = n * m)
    (h : DataW.trod enc P w base sp held fuel t cs = some (.agg (rows.map fun r => Lib.tabData k r), p)) : cs = ints k rows.flatten := by
  cases fuel with
  | zero => simp [DataW.trod] at h
  | succ fuel =>
    simp only [DataW.trod, ht, hca, hct] at h
    split at h
    · rename_i hl
      obtain ⟨xs, hm, hx⟩ := Option.map_eq_some_iff.1 h
      have hxs : xs.map (·.1) = rows.map fun r => Lib.tabData (H := H) k r := by simpa using congrArg Prod.fst hx
      have hxl : xs.length = n := by simpa using Lib.mapM_length hm
      have hrl : rows.length = n := by
        have := congrArg List.length hxs
        simp at this
        omega
      have each : (List.range n).map (fun i => (cs.drop (i * m)).take m) = rows.map (ints k) := by
        apply List.ext_getElem?
        intro i
        by_cases hi : i < n
        · obtain ⟨b, hb, hf⟩ := Lib.mapM_at hm i i (by simp [hi])
          have h2 : (xs.map (·.1))[i]? = some b.1 := by simp [hb]
          rw [hxs] at h2
          simp only [List.getElem?_map, Option.map_eq_some_iff] at h2
          obtain ⟨r, hr, e1⟩ := h2
          have h3 := Lib.cells_of_tab (zs := r) (p := b.2) ha he hce hca (by rw [hf, e1])
          simp only [List.getElem?_map, List.getElem?_range hi, hr, Option.map_some]
          rw [h3]; rfl
        · rw [List.getElem?_eq_none (by simp; omega), List.getElem?_eq_none (by simp; omega)]
      rw [chunks m n cs hl, each, ints, List.map_flatten]
      rfl
    · cases h
/-- The first on the list; the ones behind it. -/
theorem laid_first {name : String} {d : DataW Unit} {rest : List (String × DataW Unit)} (h : laidMet P ((name, d) :: rest) W) :
    ∃ g t cs fuel p, P.globalNamed name = some g ∧ (P.globals[g]?).map (·.type) = some t ∧ W.var? P name = some cs ∧ DataW.trod (fun _ => ()) P W 0 (fun _ => true) false fuel t cs.toList = some (d, p) := by
  obtain ⟨ps, ⟨g', t', cs, fuel, p, q, hg', ht', hvar, hd, _, _⟩, _⟩ := h
  exact ⟨g', t', cs, fuel, p, hg', ht', hvar, hd⟩
theorem laid_rest {name : String} {d : DataW Unit} {rest : List (String × DataW Unit)} (h : laidMet P ((name, d) :: rest) W) : laidMet P rest W := by
  obtain ⟨ps, ⟨g', t', cs, fuel, p, q, hg', ht', hvar, hd, hr, he⟩, hn, hc⟩ := h
  refine ⟨q, hr, ?_, fun b off hm => hc b off (by rw [he]; exact List.mem_append_right _ hm)⟩
  rw [he, List.nodup_append] at hn
  exact hn.2.1
theorem reads_tab {name : String} {k : IntKind} {zs : List Int} {rest : List (String × DataW Unit)} {g : Nat} {t e : TypeId} {n : Nat} (hg : P.globalNamed name = some g) (hty : (P.globals[g]?).map (·.type) = some t) (ht : P.underlying t = some (.array n e)) (he : P.underlying e = some (.int k))
    (hce : P.cellsOf e = 1) (hct : P.cellsOf t = n) (h : laidMet P ((name, Lib.tabData k zs) :: rest) W) : Reads W (some ⟨g, 0, none⟩) (ints k zs) := reads_of_tab hg (Lib.tabIs_of_head hg hty ht he hce hct h)
theorem reads_tab2 {name : String} {k : IntKind} {rows : List (List Int)} {rest : List (String × DataW Unit)} {g : Nat} {t a e : TypeId} {n m : Nat} (hg : P.globalNamed name = some g) (hty : (P.globals[g]?).map (·.type) = some t) (ht : P.underlying t = some (.array n a)) (ha : P.underlying a = some (.array m e))
    (he : P.underlying e = some (.int k)) (hce : P.cellsOf e = 1) (hca : P.cellsOf a = m) (hct : P.cellsOf t = n * m) (h : laidMet P ((name, .agg (rows.map fun r => Lib.tabData k r)) :: rest) W) : Reads W (some ⟨g, 0, none⟩) (ints k rows.flatten) := by
  obtain ⟨g', t', cs, fuel, p, hg', hty', hv, hd⟩ := laid_first h
  obtain rfl := Option.some.inj (hg.symm.trans hg')
  obtain rfl := Option.some.inj (hty.symm.trans hty')
  have := reads_of_var hg hv
  rwa [cells_of_tab2 ht ha he hce hca hct hd] at this
end
end Go.X
