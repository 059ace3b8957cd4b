/-
  How many frames a slice has, by the bulk of its reading.
-/
import Derived.Test.YtmkjnefongjniaaLiftF
import Derived.Test.YtmkjnefongjniaaBulk
namespace Go.Proofs.Ytmkjnefongjniaa
open Go Go.X Go.ChangeShapes Go.WideShapes Go.ChangeAt Go.RowKit
theorem frames_len {H : Type} {enc : TypeId × Value → H} {w : World} {base : Nat} {held : Bool} {A : Option Addr} {n c : Nat} {d : DataW H} {ps : List MemPlace} (hd : DataW.Trod enc Try.prog w base (fun _ => true) held 52 (.slice A n c) d ps) : n ≤ Rows.uptoBulk d := by
  obtain ⟨f, hn⟩ := hd
  rcases DataW.trod_slice s52 hn with ⟨e, _⟩ | ⟨a, len, cap, elems, rest, m, _, e, e2, _, _, _, hel, _⟩
  · simp only [Value.cells, List.cons.injEq, Value.slice.injEq, and_true] at e
    obtain ⟨rfl, rfl, rfl⟩ := e
    exact Nat.zero_le _
  · simp only [Value.cells, List.cons.injEq, Value.slice.injEq, and_true] at e
    obtain ⟨rfl, rfl, rfl⟩ := e
    cases e2
    have h3 := bulks.slice_le (elems.map (·.1)) (rest.map (·.1))
    rw [List.length_map, hel] at h3
    omega


end Go.Proofs.Ytmkjnefongjniaa
