/-
  The walks of layer 9: what is cloned, and a number in bytes.
-/
import Derived.Test.YtmkjnefongjniaaO1
namespace Go.Proofs.Ytmkjnefongjniaa
open Go Go.X

set_option maxRecDepth 100000 in
theorem clone_nil (n bc : Nat) (w0 : World) : Does Try.prog 54 #[.slice none n bc] w0 [] (fun v G => v = .slice none 0 0 ∧ G = [⟨none, [], 5, (0, 0)⟩]) := by
  refine spec_of 8 Try.func54 rfl rfl rfl ?_
  refine W.seq ?_
  refine W.region ?_
  refine T.q (q_assign rfl rfl) (Wt.plain rfl) rfl rfl ?_
  refine T.nil ?_
  refine Ex.next ?_
  refine W.slots (L' := [(0, _)]) ⟨rfl, trivial⟩ ?_
  refine W.seq ?_
  refine W.seq ?_
  refine W.region ?_
  refine T.q (q_move rfl rfl) (Wt.plain rfl) rfl rfl ?_
  refine T.q (q_eqlSN un22 rfl rfl rfl) (Wt.plain rfl) rfl rfl ?_
  refine T.nil ?_
  refine Ex.next ?_
  refine W.slots (L' := [(0, _), (4, _)]) ⟨rfl, rfl, trivial⟩ ?_
  refine W.condT rfl ?_
  refine W.seq ?_
  refine W.region ?_
  refine T.q (q_assign rfl rfl) (Wt.plain rfl) rfl rfl ?_
  refine T.ghost 5 ?_
  refine T.nil ?_
  refine Ex.next ?_
  refine W.slots (L' := [(2, _)]) ⟨rfl, trivial⟩ ?_
  refine W.ret ?_
  refine Ex.then_ret ?_
  refine Ex.out1 [true] rfl rfl ?_
  exact ⟨rfl, rfl⟩
set_option maxRecDepth 100000 in
theorem clone_some (b : List Int) (ad : Addr) (bc : Nat) (_hbc : b.length ≤ bc) (hbl : b.length ≤ 140737488354000) (w0 : World) (hB : Reads w0 (some ad) (ints .u8 b)) : Does Try.prog 54 #[.slice (some ad) b.length bc] w0 [] (fun v G => ∃ (k cap : Nat) (junk : List Value), v = .slice (some ⟨k, 0, none⟩) (0 + b.length) cap ∧ 0 + b.length + junk.length = cap ∧ G = [⟨some k, ints .u8 ([] ++ b) ++ junk, 5, (0, 0)⟩]) := by
  refine spec_of 8 Try.func54 rfl rfl rfl ?_
  refine W.seq ?_
  refine W.region ?_
  refine T.q (q_assign rfl rfl) (Wt.plain rfl) rfl rfl ?_
  refine T.nil ?_
  refine Ex.next ?_
  refine W.slots (L' := [(0, _)]) ⟨rfl, trivial⟩ ?_
  refine W.seq ?_
  refine W.seq ?_
  refine W.region ?_
  refine T.q (q_move rfl rfl) (Wt.plain rfl) rfl rfl ?_
  refine T.q (q_eqlSN un22 rfl rfl rfl) (Wt.plain rfl) rfl rfl ?_
  refine T.nil ?_
  refine Ex.next ?_
  refine W.slots (L' := [(0, _), (4, _)]) ⟨rfl, rfl, trivial⟩ ?_
  refine W.condF rfl ?_
  refine W.skip ?_
  refine Ex.next ?_
  refine W.slots (L' := [(0, _)]) ⟨rfl, trivial⟩ ?_
  refine W.seq ?_
  refine W.region ?_
  refine T.eff (e_litA sc22 ze5 rfl rfl rfl (by simp [Value.cells]) rfl rfl rfl) (Wt.plain rfl) ?_
  rintro _ _ ⟨k1, rfl, rfl⟩
  change (_ : List Blk → Prop) [_]
  refine T.q (q_move rfl rfl) (Wt.plain rfl) rfl rfl ?_
  refine T.eff (e_appendI sc22 ze5 rfl 0 .u8 [] b [] ((List.append_nil _).symm) (R_ext hB.ext) rfl rfl rfl rfl (by first | omega | (simp; done) | (simp [-List.getD_eq_getElem?_getD]; omega) | (simp at *; omega) | rfl) (by first | omega | (simp; done) | (simp [-List.getD_eq_getElem?_getD]; omega) | (simp at *; omega) | rfl) (by first | omega | (simp; done) | (simp [-List.getD_eq_getElem?_getD]; omega) | (simp at *; omega) | rfl) (by first | omega | (simp; done) | (simp [-List.getD_eq_getElem?_getD]; omega)) (by first | omega | (simp; done) | (simp [-List.getD_eq_getElem?_getD]; omega)) rfl rfl) (Wt.plain rfl) ?_
  rintro _ _ ⟨k2, cap3, junk4, hc5, rfl, rfl⟩
  change (_ : List Blk → Prop) [_]
  refine T.q (q_assign rfl rfl) (Wt.plain rfl) rfl rfl ?_
  refine T.nil ?_
  refine Ex.next ?_
  refine W.slots (L' := [(2, _)]) ⟨rfl, trivial⟩ ?_
  refine W.ret ?_
  refine Ex.out1 [true] rfl rfl ?_
  exact ⟨_, _, _, rfl, by assumption, rfl⟩
theorem reads_none {w : World} {k : IntKind} {xs : List Int} (h : Reads w none (ints k xs)) : xs = [] := by
  cases xs with
  | nil => rfl
  | cons x r =>
    obtain ⟨_, h', _⟩ := h 0 (.int k x) (by simp [ints])
    cases h'
theorem clone_spec (b : List Int) (BA : Option Addr) (bc : Nat) {m : Nat} (hbc : m ≤ bc) (hbl : m ≤ 140737488354000) (w0 : World) (hB : Reads w0 BA (ints .u8 b)) (hm : b.length = m) : Does Try.prog 54 #[.slice BA m bc] w0 [] (fun v G => ∃ (no : Option Nat) (cap : Nat) (junk : List Value), v = .slice (no.map fun k => (⟨k, 0, none⟩ : Addr)) m cap ∧ m + junk.length = cap ∧ (0 < m → no.isSome = true) ∧ G = [⟨no, ints .u8 b ++ junk, 5, (0, 0)⟩]) := by
  subst hm
  cases BA with
  | none =>
    obtain rfl := reads_none hB
    refine (clone_nil _ bc w0).mono ?_
    rintro v G ⟨rfl, rfl⟩
    exact ⟨none, 0, [], rfl, rfl, fun h => absurd h (Nat.lt_irrefl 0), rfl⟩
  | some ad =>
    refine (clone_some b ad bc hbc hbl w0 hB).mono ?_
    rintro v G ⟨k, cap, junk, rfl, h, rfl⟩
    exact ⟨some k, cap, junk, by rw [Nat.zero_add]; rfl, by omega, fun _ => rfl, rfl⟩
theorem clone_pos (b : List Int) (BA : Option Addr) (bc : Nat) {m : Nat} (hbc : m ≤ bc) (hbl : m ≤ 140737488354000) (w0 : World) (hB : Reads w0 BA (ints .u8 b)) (hpos : 0 < m) (hm : b.length = m) : Does Try.prog 54 #[.slice BA m bc] w0 [] (fun v G => ∃ (k cap : Nat) (junk : List Value), v = .slice (some ⟨k, 0, none⟩) m cap ∧ m + junk.length = cap ∧ G = [⟨some k, ints .u8 b ++ junk, 5, (0, 0)⟩]) := by
  subst hm
  refine (clone_spec b BA bc hbc hbl w0 hB rfl).mono ?_
  rintro v G ⟨no, cap, junk, rfl, h, hs, rfl⟩
  obtain ⟨k, rfl⟩ := Option.isSome_iff_exists.1 (hs hpos)
  exact ⟨k, cap, junk, rfl, h, rfl⟩

end Go.Proofs.Ytmkjnefongjniaa
