/-
  How long a slice is, by the bulk of its reading.
-/
import Derived.Test.YtmkjnefongjniaaLift
import Derived.Test.YtmkjnefongjniaaBulk
namespace Go.Proofs.Ytmkjnefongjniaa
open Go Go.X Go.ChangeShapes Go.WideShapes Go.ChangeAt Go.RowKit
theorem slice_len {P : Program} {H : Type} {enc : TypeId × Value → H} {w : World} {base : Nat} {held : Bool} {t e : TypeId} {k : IntKind} {by_ : Nat} {A : Option Addr} {n c : Nat} {d : DataW H} {ps : List MemPlace} (ha : slc P t = some (e, 1, by_)) (he : P.underlying e = some (.int k))
    (hd : DataW.Trod enc P w base (fun _ => true) held t (.slice A n c) d ps) : n ≤ Rows.uptoBulk d := by
  obtain ⟨hu, inf, hi, hs, hb⟩ := slc_parts ha
  have hc := cellsOf_of hi hs
  obtain ⟨m, hm⟩ := hd
  rcases open_ints hu he hc hm with ⟨h1, h2⟩ | ⟨a, len, cap, zs, h1, _, hlc, _, hzl, h2, hcell, hwf⟩
  · simp only [Value.cells, List.cons.injEq, Value.slice.injEq, and_true] at h1
    obtain ⟨rfl, rfl, rfl⟩ := h1
    exact Nat.zero_le _
  · simp only [Value.cells, List.cons.injEq, Value.slice.injEq, and_true] at h1
    obtain ⟨rfl, rfl, rfl⟩ := h1
    simp only [if_true] at hzl
    have hlt : (zs.take n).length = n := by rw [List.length_take]; omega
    cases h2
    have h3 := bulks.slice_le (lits (H := H) k (zs.take n)) (lits k (zs.drop n))
    have e2 : (lits (H := H) k (zs.take n)).length = n := by simp [lits]; omega
    rw [e2] at h3
    omega


end Go.Proofs.Ytmkjnefongjniaa
