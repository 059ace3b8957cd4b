/-
  The walks of layer 11: what the document shows.
-/
import Derived.Test.YtmkjnefongjniaaQ4
import Derived.Test.YtmkjnefongjniaaQ5
import Derived.Test.YtmkjnefongjniaaQ6
import Derived.Test.YtmkjnefongjniaaQ7
namespace Go.Proofs.Ytmkjnefongjniaa
open Go Go.X
theorem print_ok {pk pr pp pe pc : Int} (bd : List Int) {PA : Option Addr} {m bc : Nat} (hok : mayP pk pr pp pe pc bd.length) (hbc : m ≤ bc) (w0 : World) (hP : Reads w0 PA (ints .u8 bd)) (hm : bd.length = m) : Does Try.prog 33 #[.agg #[.int .i64 pk, .int .i64 pr, .int .i64 pp, .int .i64 pe, .int .i64 pc, .slice PA m bc]] w0 []
    (fun v G => ∃ (k cap : Nat) (junk : List Value), v = .tuple #[.slice (some ⟨k, 0, none⟩) (prB pk pr pp pe pc bd).length cap, .int .i64 0] ∧ (prB pk pr pp pe pc bd).length + junk.length = cap ∧ G = [⟨some k, ints .u8 (prB pk pr pp pe pc bd) ++ junk, 5, (0, 0)⟩]) := by
  subst hm
  rcases hok with h | h
  · obtain ⟨r, p, e, c, rfl, rfl, rfl, rfl, rfl, h1, h2, h3, h4, h5, h6⟩ := nat_recP h
    refine (print_A r p e c h1 h2 h3 h4 PA bd bc hbc h5 h6 w0 hP).mono ?_
    rintro v G ⟨k, cap, junk, rfl, h, rfl⟩
    have e : (prB 3 r p e c bd).length = 11 + bd.length := by rw [prB_A, List.length_append, hd_length]
    exact ⟨k, cap, junk, by rw [e], by rw [e]; exact h, by rw [prB_A]⟩
  · obtain ⟨hk, rfl, rfl, rfl, rfl, h1, h2⟩ := h
    refine (print_B pk hk PA bd bc hbc h1 h2 w0 hP).mono ?_
    rintro v G ⟨k, cap, junk, rfl, h, rfl⟩
    have e : (prB pk 0 0 0 0 bd).length = 1 + bd.length := by rw [prB_B hk, List.length_append, List.length_singleton]
    exact ⟨k, cap, junk, by rw [e], by rw [e]; exact h, by rw [prB_B hk]⟩
theorem refprint_ok {pk pr pp pe pc : Int} (bd : List Int) {PA : Option Addr} {m bc : Nat} (hok : mayP pk pr pp pe pc bd.length) (hbc : m ≤ bc) (w0 : World) (hP : Reads w0 PA (ints .u8 bd)) (hm : bd.length = m) : Does Try.prog 34 #[.agg #[.int .i64 pk, .int .i64 pr, .int .i64 pp, .int .i64 pe, .int .i64 pc, .slice PA m bc]] w0 []
    (fun v G => ∃ (k cap : Nat) (junk : List Value), v = .tuple #[.slice (some ⟨k, 0, none⟩) (prB pk pr pp pe pc bd).length cap, .int .i64 0] ∧ (prB pk pr pp pe pc bd).length + junk.length = cap ∧ G = [⟨some k, ints .u8 (prB pk pr pp pe pc bd) ++ junk, 5, (0, 0)⟩]) := by
  subst hm
  rcases hok with h | h
  · obtain ⟨r, p, e, c, rfl, rfl, rfl, rfl, rfl, h1, h2, h3, h4, h5, h6⟩ := nat_recP h
    refine (refprint_A r p e c h1 h2 h3 h4 PA bd bc hbc h5 h6 w0 hP).mono ?_
    rintro v G ⟨k, cap, junk, rfl, h, rfl⟩
    have e : (prB 3 r p e c bd).length = 11 + bd.length := by rw [prB_A, List.length_append, hd_length]
    exact ⟨k, cap, junk, by rw [e], by rw [e]; exact h, by rw [prB_A]⟩
  · obtain ⟨hk, rfl, rfl, rfl, rfl, h1, h2⟩ := h
    refine (refprint_B pk hk PA bd bc hbc h1 h2 w0 hP).mono ?_
    rintro v G ⟨k, cap, junk, rfl, h, rfl⟩
    have e : (prB pk 0 0 0 0 bd).length = 1 + bd.length := by rw [prB_B hk, List.length_append, List.length_singleton]
    exact ⟨k, cap, junk, by rw [e], by rw [e]; exact h, by rw [prB_B hk]⟩
theorem parse_ok (b : List Int) {m : Nat} (BA : Option Addr) (bc : Nat) (hbc : m ≤ bc) (hbl : m ≤ 140737488354000) (hbb : Bytes b) (hok : paOK b) (w0 : World) (hB : Reads w0 BA (ints .u8 b)) (hm : b.length = m) : Does Try.prog 39 #[.slice BA m bc] w0 [] (fun v G => ∃ (no : Option Nat) (cap : Nat) (junk : List Value), v = .tuple #[.agg #[.int .i64 (b.getD 0 0), .int .i64 (fR b), .int .i64 (fP b), .int .i64 (fE b), .int .i64 (fC b), .slice (no.map fun k => (⟨k, 0, none⟩ : Addr)) (fB b).length cap], .int .i64 0] ∧ (fB b).length + junk.length = cap ∧ G = [⟨no, ints .u8 (fB b) ++ junk, 5, (0, 0)⟩]) := by
  subst hm
  rcases hok with ⟨h0, h1, h2, h3⟩ | ⟨h0, h1, h2⟩
  · refine (parse_Rok b BA bc hbc hbl hbb h0 h1 h2 h3 w0 hB).mono ?_
    rintro v G ⟨no, cap, junk, rfl, h, rfl⟩
    have e : fB b = b.drop 11 := if_pos h0
    have el : (b.drop 11).length = b.length - 11 := List.length_drop
    exact ⟨no, cap, junk, by rw [e, el, h0, fR, fP, fE, fC, if_pos h0, if_pos h0, if_pos h0, if_pos h0], by rw [e, el]; exact h, by rw [e]⟩
  · refine (parse_Ook b BA bc hbc hbl hbb h0 h1 h2 w0 hB).mono ?_
    rintro v G ⟨no, cap, junk, rfl, h, rfl⟩
    have hn : ¬ b.getD 0 0 = 3 := by omega
    have e : fB b = b.drop 1 := if_neg hn
    have el : (b.drop 1).length = b.length - 1 := List.length_drop
    exact ⟨no, cap, junk, by rw [e, el, fR, fP, fE, fC, if_neg hn, if_neg hn, if_neg hn, if_neg hn], by rw [e, el]; exact h, by rw [e]⟩
theorem parse_no (b : List Int) {m : Nat} (BA : Option Addr) (bc : Nat) (hbc : m ≤ bc) (hbl : m ≤ 140737488354000) (hbb : Bytes b) (hno : ¬ paOK b) (w0 : World) (hB : Reads w0 BA (ints .u8 b)) (hm : b.length = m) : Does Try.prog 39 #[.slice BA m bc] w0 [] (fun v G => v = .tuple #[.agg #[.int .i64 0, .int .i64 0, .int .i64 0, .int .i64 0, .int .i64 0, .slice none 0 0], .int .i64 (paE b)] ∧ G = []) := by
  subst hm
  unfold paOK okR okO at hno
  by_cases hl : b.length = 0
  · refine (parse_short1 b BA bc hbc hbl hbb hl w0 hB).mono ?_
    rintro v G ⟨rfl, rfl⟩
    exact ⟨by rw [paE, if_pos (.inl hl)], rfl⟩
  · by_cases h0 : b.getD 0 0 = 3
    · by_cases h1 : b.length < 27
      · refine (parse_short2 b BA bc hbc hbl hbb hl h0 h1 w0 hB).mono ?_
        rintro v G ⟨rfl, rfl⟩
        exact ⟨by rw [paE, if_pos (.inr ⟨h0, h1⟩)], rfl⟩
      · refine (parse_Rbad b BA bc hbc hbl hbb h0 (by omega) (by omega) w0 hB).mono ?_
        rintro v G ⟨rfl, rfl⟩
        exact ⟨by rw [paE, if_neg (by omega)], rfl⟩
    · refine (parse_Obad b BA bc hbc hbl hbb h0 (by omega) (by omega) w0 hB).mono ?_
      rintro v G ⟨rfl, rfl⟩
      exact ⟨by rw [paE, if_neg (by omega)], rfl⟩
theorem refparse_ok (b : List Int) {m : Nat} (BA : Option Addr) (bc : Nat) (hbc : m ≤ bc) (hbl : m ≤ 140737488354000) (hbb : Bytes b) (hok : paOK b) (w0 : World) (hB : Reads w0 BA (ints .u8 b)) (hm : b.length = m) : Does Try.prog 40 #[.slice BA m bc] w0 [] (fun v G => ∃ (no : Option Nat) (cap : Nat) (junk : List Value), v = .tuple #[.agg #[.int .i64 (b.getD 0 0), .int .i64 (fR b), .int .i64 (fP b), .int .i64 (fE b), .int .i64 (fC b), .slice (no.map fun k => (⟨k, 0, none⟩ : Addr)) (fB b).length cap], .int .i64 0] ∧ (fB b).length + junk.length = cap ∧ G = [⟨no, ints .u8 (fB b) ++ junk, 5, (0, 0)⟩]) := by
  subst hm
  rcases hok with ⟨h0, h1, h2, h3⟩ | ⟨h0, h1, h2⟩
  · refine (refparse_Rok b BA bc hbc hbl hbb h0 h1 h2 h3 w0 hB).mono ?_
    rintro v G ⟨no, cap, junk, rfl, h, rfl⟩
    have e : fB b = b.drop 11 := if_pos h0
    have el : (b.drop 11).length = b.length - 11 := List.length_drop
    exact ⟨no, cap, junk, by rw [e, el, h0, fR, fP, fE, fC, if_pos h0, if_pos h0, if_pos h0, if_pos h0], by rw [e, el]; exact h, by rw [e]⟩
  · refine (refparse_Ook b BA bc hbc hbl hbb h0 h1 h2 w0 hB).mono ?_
    rintro v G ⟨no, cap, junk, rfl, h, rfl⟩
    have hn : ¬ b.getD 0 0 = 3 := by omega
    have e : fB b = b.drop 1 := if_neg hn
    have el : (b.drop 1).length = b.length - 1 := List.length_drop
    exact ⟨no, cap, junk, by rw [e, el, fR, fP, fE, fC, if_neg hn, if_neg hn, if_neg hn, if_neg hn], by rw [e, el]; exact h, by rw [e]⟩
theorem refparse_no (b : List Int) {m : Nat} (BA : Option Addr) (bc : Nat) (hbc : m ≤ bc) (hbl : m ≤ 140737488354000) (hbb : Bytes b) (hno : ¬ paOK b) (w0 : World) (hB : Reads w0 BA (ints .u8 b)) (hm : b.length = m) : Does Try.prog 40 #[.slice BA m bc] w0 [] (fun v G => v = .tuple #[.agg #[.int .i64 0, .int .i64 0, .int .i64 0, .int .i64 0, .int .i64 0, .slice none 0 0], .int .i64 (paE b)] ∧ G = []) := by
  subst hm
  unfold paOK okR okO at hno
  by_cases hl : b.length = 0
  · refine (refparse_short1 b BA bc hbc hbl hbb hl w0 hB).mono ?_
    rintro v G ⟨rfl, rfl⟩
    exact ⟨by rw [paE, if_pos (.inl hl)], rfl⟩
  · by_cases h0 : b.getD 0 0 = 3
    · by_cases h1 : b.length < 27
      · refine (refparse_short2 b BA bc hbc hbl hbb hl h0 h1 w0 hB).mono ?_
        rintro v G ⟨rfl, rfl⟩
        exact ⟨by rw [paE, if_pos (.inr ⟨h0, h1⟩)], rfl⟩
      · refine (refparse_Rbad b BA bc hbc hbl hbb h0 (by omega) (by omega) w0 hB).mono ?_
        rintro v G ⟨rfl, rfl⟩
        exact ⟨by rw [paE, if_neg (by omega)], rfl⟩
    · refine (refparse_Obad b BA bc hbc hbl hbb h0 (by omega) (by omega) w0 hB).mono ?_
      rintro v G ⟨rfl, rfl⟩
      exact ⟨by rw [paE, if_neg (by omega)], rfl⟩
/-- What was written is read. -/
theorem parse_back {pk pr pp pe pc : Int} (bd : List Int) {m : Nat} (BA : Option Addr) (bc : Nat) (hbc : m ≤ bc) (hok : mayP pk pr pp pe pc bd.length) (hbb : Bytes bd) (w0 : World) (hB : Reads w0 BA (ints .u8 (prB pk pr pp pe pc bd))) (hm : (prB pk pr pp pe pc bd).length = m) : Does Try.prog 39 #[.slice BA m bc] w0 [] (fun v G => ∃ (no : Option Nat) (cap : Nat) (junk : List Value), v = .tuple #[.agg #[.int .i64 pk, .int .i64 pr, .int .i64 pp, .int .i64 pe, .int .i64 pc, .slice (no.map fun k => (⟨k, 0, none⟩ : Addr)) (bd).length cap], .int .i64 0] ∧ (bd).length + junk.length = cap ∧ G = [⟨no, ints .u8 (bd) ++ junk, 5, (0, 0)⟩]) := by
  obtain ⟨h1, h2, h3, h4, h5, h6, h7⟩ := back_of hok
  have hl := prB_length hok
  have h := parse_ok (prB pk pr pp pe pc bd) BA bc hbc (by omega) (Bytes.prB hok hbb) h1 w0 hB hm
  rw [h2, h3, h4, h5, h6, h7] at h
  exact h
theorem same_at {pk pr pp pe pc : Int} {PA QA : Option Addr} (bd : List Int) {m bc qc : Nat} (hbl : m ≤ 140737488354000) (w0 : World) (hP : Reads w0 PA (ints .u8 bd)) (hQ : Reads w0 QA (ints .u8 bd)) (hm : bd.length = m) : Does Try.prog 41 #[.agg #[.int .i64 pk, .int .i64 pr, .int .i64 pp, .int .i64 pe, .int .i64 pc, .slice PA m bc], .agg #[.int .i64 pk, .int .i64 pr, .int .i64 pp, .int .i64 pe, .int .i64 pc, .slice QA m qc]] w0 [] (fun v G => v = .bool true ∧ G = []) := by
  subst hm
  exact same_spec0 pk pr pp pe pc PA QA bd bc qc hbl w0 hP hQ

set_option maxRecDepth 100000 in
theorem shown11_spec (w0 : World) : Does Try.prog 32 #[] w0 [] (fun v G => v = .bool true ∧ G = []) := by
  have h27 : (prB 3 1 2 3 4 (List.replicate 16 0)).length = 27 := by decide +kernel
  refine spec_of 82 Try.func32 rfl rfl rfl ?_
  refine W.seq ?_
  refine W.region ?_
  refine T.q (q_assign rfl rfl) (Wt.plain rfl) rfl rfl ?_
  refine T.nil ?_
  refine Ex.next ?_
  refine W.slots (L' := []) trivial ?_
  refine W.seq ?_
  refine W.region ?_
  refine T.eff (e_makeI sc22 ze5 16 16 rfl rfl rfl rfl rfl (by omega) (by omega) (by omega) rfl rfl) (Wt.plain rfl) ?_
  rintro _ _ ⟨k1, rfl, rfl⟩
  change (_ : List Blk → Prop) [_]
  refine T.q (q_buildP (cells := [.int .i64 3, .int .i64 1, .int .i64 2, .int .i64 3, .int .i64 4, .slice (some ⟨k1, 0, none⟩) 16 16]) bp40 ze40 rfl rfl ⟨_, _, [.int .i64 3], _, rfl, rfl, rfl, (Nat.le_of_ble_eq_true rfl), rfl, _, _, [.int .i64 1], _, rfl, rfl, rfl, (Nat.le_of_ble_eq_true rfl), rfl, _, _, [.int .i64 2], _, rfl, rfl, rfl, (Nat.le_of_ble_eq_true rfl), rfl, _, _, [.int .i64 3], _, rfl, rfl, rfl, (Nat.le_of_ble_eq_true rfl), rfl, _, _, [.int .i64 4], _, rfl, rfl, rfl, (Nat.le_of_ble_eq_true rfl), rfl, _, _, [.slice (some ⟨k1, 0, none⟩) 16 16], _, rfl, rfl, rfl, (Nat.le_of_ble_eq_true rfl), rfl, rfl⟩) (Wt.plain rfl) rfl rfl ?_
  refine T.eff (e_alloc ze40 rfl rfl rfl) (Wt.plain rfl) ?_
  rintro _ _ ⟨k2, rfl, rfl⟩
  change (_ : List Blk → Prop) [_, _]
  refine T.eff (e_storeA wd40 1 rfl rfl rfl rfl (by first | omega | (simp; done) | (simp [-List.getD_eq_getElem?_getD]; omega) | (simp at *; omega) | rfl) (by simp [Value.oneCell']) rfl) (Wt.plain rfl) ?_
  rintro _ _ ⟨rfl, rfl⟩
  change (_ : List Blk → Prop) [_, _]
  refine T.nil ?_
  refine Ex.next ?_
  refine W.slots (L' := [(1, _)]) ⟨rfl, trivial⟩ ?_
  refine W.seq ?_
  refine W.region ?_
  refine T.q (q_loadW wd40 (R_blk 1 rfl) rfl rfl) (Wt.plain rfl) rfl rfl ?_
  refine T.eff (e_call enters33 rfl rfl (fun w hm => print_ok (List.replicate 16 0) (by unfold mayP recP; simp) (by first | omega | (simp; done) | (simp; omega) | (simp at *; omega)) w ((R_blk 0 rfl) w hm) (by first | omega | (simp; done) | (simp [-List.getD_eq_getElem?_getD]; omega) | (simp at *; omega) | rfl)) rfl rfl) (Wt.plain rfl) ?_
  rintro _ _ ⟨_, _, ⟨k3, cap4, junk5, rfl, hc6, rfl⟩, rfl, rfl⟩
  change (_ : List Blk → Prop) [_, _, _]
  refine T.q (q_move rfl rfl) (Wt.plain rfl) rfl rfl ?_
  refine T.q (q_extract rfl rfl rfl) (Wt.plain rfl) rfl rfl ?_
  refine T.q (q_extract rfl rfl rfl) (Wt.plain rfl) rfl rfl ?_
  refine T.q (q_assign rfl rfl) (Wt.plain rfl) rfl rfl ?_
  refine T.q (q_assign rfl rfl) (Wt.plain rfl) rfl rfl ?_
  refine T.nil ?_
  refine Ex.next ?_
  refine W.slots (L' := [(1, _), (2, _), (3, _)]) ⟨rfl, rfl, rfl, trivial⟩ ?_
  refine W.seq ?_
  refine W.region ?_
  refine T.eff (e_call enters39 rfl rfl (fun w hm => parse_no [] _ _ (by first | omega | (simp; done) | (simp; omega) | (simp at *; omega)) (by first | omega | (simp; done) | (simp; omega) | (simp at *; omega)) Bytes.nil (by simp [paOK, okR, okO]) w ((R_nilI .u8) w hm) (by first | omega | (simp; done) | (simp [-List.getD_eq_getElem?_getD]; omega) | (simp at *; omega) | rfl)) rfl rfl) (Wt.plain rfl) ?_
  rintro _ _ ⟨_, _, ⟨rfl, rfl⟩, rfl, rfl⟩
  change (_ : List Blk → Prop) [_, _, _]
  refine T.q (q_move rfl rfl) (Wt.plain rfl) rfl rfl ?_
  refine T.q (q_extract rfl rfl rfl) (Wt.plain rfl) rfl rfl ?_
  refine T.q (q_extract rfl rfl rfl) (Wt.plain rfl) rfl rfl ?_
  refine T.eff (e_alloc ze40 rfl rfl rfl) (Wt.plain rfl) ?_
  rintro _ _ ⟨k7, rfl, rfl⟩
  change (_ : List Blk → Prop) [_, _, _, _]
  refine T.eff (e_storeA wd40 3 rfl rfl rfl rfl (by first | omega | (simp; done) | (simp [-List.getD_eq_getElem?_getD]; omega) | (simp at *; omega) | rfl) (by simp [Value.oneCell']) rfl) (Wt.plain rfl) ?_
  rintro _ _ ⟨rfl, rfl⟩
  change (_ : List Blk → Prop) [_, _, _, _]
  refine T.q (q_assign rfl rfl) (Wt.plain rfl) rfl rfl ?_
  refine T.nil ?_
  refine Ex.next ?_
  refine W.less (L' := [(1, _), (2, _), (3, _), (5, _)]) [true, true, true, false] ⟨rfl, rfl, rfl, rfl, trivial⟩ ?_
  change (_ : List Blk → Prop) [_, _, _]
  refine W.seq ?_
  refine W.region ?_
  refine T.eff (e_litA sc22 ze5 rfl rfl rfl (by simp [Value.cells]) rfl rfl rfl) (Wt.plain rfl) ?_
  rintro _ _ ⟨k8, rfl, rfl⟩
  change (_ : List Blk → Prop) [_, _, _, _]
  refine T.eff (e_call enters39 rfl rfl (fun w hm => parse_no [1] _ _ (by first | omega | (simp; done) | (simp; omega) | (simp at *; omega)) (by first | omega | (simp; done) | (simp; omega) | (simp at *; omega)) (by intro x hx; simp at hx; omega) (by simp [paOK, okR, okO]) w ((R_blk 3 rfl) w hm) (by first | omega | (simp; done) | (simp [-List.getD_eq_getElem?_getD]; omega) | (simp at *; omega) | rfl)) rfl rfl) (Wt.plain rfl) ?_
  rintro _ _ ⟨_, _, ⟨rfl, rfl⟩, rfl, rfl⟩
  change (_ : List Blk → Prop) [_, _, _, _]
  refine T.q (q_move rfl rfl) (Wt.plain rfl) rfl rfl ?_
  refine T.q (q_extract rfl rfl rfl) (Wt.plain rfl) rfl rfl ?_
  refine T.q (q_extract rfl rfl rfl) (Wt.plain rfl) rfl rfl ?_
  refine T.eff (e_alloc ze40 rfl rfl rfl) (Wt.plain rfl) ?_
  rintro _ _ ⟨k9, rfl, rfl⟩
  change (_ : List Blk → Prop) [_, _, _, _, _]
  refine T.eff (e_storeA wd40 4 rfl rfl rfl rfl (by first | omega | (simp; done) | (simp [-List.getD_eq_getElem?_getD]; omega) | (simp at *; omega) | rfl) (by simp [Value.oneCell']) rfl) (Wt.plain rfl) ?_
  rintro _ _ ⟨rfl, rfl⟩
  change (_ : List Blk → Prop) [_, _, _, _, _]
  refine T.q (q_assign rfl rfl) (Wt.plain rfl) rfl rfl ?_
  refine T.nil ?_
  refine Ex.next ?_
  refine W.less (L' := [(1, _), (2, _), (3, _), (5, _), (7, _)]) [true, true, true, false, false] ⟨rfl, rfl, rfl, rfl, rfl, trivial⟩ ?_
  change (_ : List Blk → Prop) [_, _, _]
  refine W.seq ?_
  refine W.region ?_
  refine T.eff (e_litA sc22 ze5 rfl rfl rfl (by simp [Value.cells]) rfl rfl rfl) (Wt.plain rfl) ?_
  rintro _ _ ⟨k10, rfl, rfl⟩
  change (_ : List Blk → Prop) [_, _, _, _]
  refine T.eff (e_call enters39 rfl rfl (fun w hm => parse_no [3, 0] _ _ (by first | omega | (simp; done) | (simp; omega) | (simp at *; omega)) (by first | omega | (simp; done) | (simp; omega) | (simp at *; omega)) (by intro x hx; simp at hx; omega) (by simp [paOK, okR, okO]) w ((R_blk 3 rfl) w hm) (by first | omega | (simp; done) | (simp [-List.getD_eq_getElem?_getD]; omega) | (simp at *; omega) | rfl)) rfl rfl) (Wt.plain rfl) ?_
  rintro _ _ ⟨_, _, ⟨rfl, rfl⟩, rfl, rfl⟩
  change (_ : List Blk → Prop) [_, _, _, _]
  refine T.q (q_move rfl rfl) (Wt.plain rfl) rfl rfl ?_
  refine T.q (q_extract rfl rfl rfl) (Wt.plain rfl) rfl rfl ?_
  refine T.q (q_extract rfl rfl rfl) (Wt.plain rfl) rfl rfl ?_
  refine T.eff (e_alloc ze40 rfl rfl rfl) (Wt.plain rfl) ?_
  rintro _ _ ⟨k11, rfl, rfl⟩
  change (_ : List Blk → Prop) [_, _, _, _, _]
  refine T.eff (e_storeA wd40 4 rfl rfl rfl rfl (by first | omega | (simp; done) | (simp [-List.getD_eq_getElem?_getD]; omega) | (simp at *; omega) | rfl) (by simp [Value.oneCell']) rfl) (Wt.plain rfl) ?_
  rintro _ _ ⟨rfl, rfl⟩
  change (_ : List Blk → Prop) [_, _, _, _, _]
  refine T.q (q_assign rfl rfl) (Wt.plain rfl) rfl rfl ?_
  refine T.nil ?_
  refine Ex.next ?_
  refine W.less (L' := [(1, _), (2, _), (3, _), (5, _), (7, _), (9, _)]) [true, true, true, false, false] ⟨rfl, rfl, rfl, rfl, rfl, rfl, trivial⟩ ?_
  change (_ : List Blk → Prop) [_, _, _]
  refine W.seq ?_
  refine W.region ?_
  refine T.eff (e_litA sc22 ze5 rfl rfl rfl (by simp [Value.cells]) rfl rfl rfl) (Wt.plain rfl) ?_
  rintro _ _ ⟨k12, rfl, rfl⟩
  change (_ : List Blk → Prop) [_, _, _, _]
  refine T.eff (e_call enters39 rfl rfl (fun w hm => parse_no [4, 0] _ _ (by first | omega | (simp; done) | (simp; omega) | (simp at *; omega)) (by first | omega | (simp; done) | (simp; omega) | (simp at *; omega)) (by intro x hx; simp at hx; omega) (by simp [paOK, okR, okO]) w ((R_blk 3 rfl) w hm) (by first | omega | (simp; done) | (simp [-List.getD_eq_getElem?_getD]; omega) | (simp at *; omega) | rfl)) rfl rfl) (Wt.plain rfl) ?_
  rintro _ _ ⟨_, _, ⟨rfl, rfl⟩, rfl, rfl⟩
  change (_ : List Blk → Prop) [_, _, _, _]
  refine T.q (q_move rfl rfl) (Wt.plain rfl) rfl rfl ?_
  refine T.q (q_extract rfl rfl rfl) (Wt.plain rfl) rfl rfl ?_
  refine T.q (q_extract rfl rfl rfl) (Wt.plain rfl) rfl rfl ?_
  refine T.eff (e_alloc ze40 rfl rfl rfl) (Wt.plain rfl) ?_
  rintro _ _ ⟨k13, rfl, rfl⟩
  change (_ : List Blk → Prop) [_, _, _, _, _]
  refine T.eff (e_storeA wd40 4 rfl rfl rfl rfl (by first | omega | (simp; done) | (simp [-List.getD_eq_getElem?_getD]; omega) | (simp at *; omega) | rfl) (by simp [Value.oneCell']) rfl) (Wt.plain rfl) ?_
  rintro _ _ ⟨rfl, rfl⟩
  change (_ : List Blk → Prop) [_, _, _, _, _]
  refine T.q (q_assign rfl rfl) (Wt.plain rfl) rfl rfl ?_
  refine T.nil ?_
  refine Ex.next ?_
  refine W.less (L' := [(1, _), (2, _), (3, _), (5, _), (7, _), (9, _), (11, _)]) [true, true, true, false, false] ⟨rfl, rfl, rfl, rfl, rfl, rfl, rfl, trivial⟩ ?_
  change (_ : List Blk → Prop) [_, _, _]
  refine W.seq ?_
  refine W.draw 44 (by kernel_rfl) ?_
  refine D.take 0 rfl (by kernel_rfl) (fun _ h => h) (q_move rfl rfl) (Wt.plain rfl) rfl rfl ?_
  refine D.take 1 rfl (by kernel_rfl) (fun _ h => h) (q_len sc22 rfl rfl) (Wt.plain rfl) rfl rfl ?_
  refine D.take 2 rfl (by kernel_rfl) (fun _ h => h) (q_bool (b := true) (q_eql rfl rfl rfl) ?hE) (Wt.plain rfl) rfl rfl ?_
  case hE => decide +kernel
  refine D.take 3 rfl (by kernel_rfl) (fun _ h => h) (q_move rfl rfl) (Wt.plain rfl) rfl rfl ?_
  refine D.take 4 rfl (by kernel_rfl) (fun _ h => h) (q_move rfl rfl) (Wt.yes rfl rfl rfl) rfl rfl ?_
  refine D.take 5 rfl (by kernel_rfl) (fun _ h => h) (q_sl sc22 0 11 cap4 rfl rfl rfl ⟨_, _, rfl, rfl⟩ rfl (by first | omega | (simp; done) | (simp [-List.getD_eq_getElem?_getD]; omega)) (by first | omega | (simp; done) | (simp [-List.getD_eq_getElem?_getD]; omega)) (by first | omega | (simp; done) | (simp [-List.getD_eq_getElem?_getD]; omega)) (by simp)) (Wt.yes rfl rfl rfl) rfl rfl ?_
  refine D.take 6 rfl (by kernel_rfl) (fun _ h => h) (q_bstr sc22 un5 un9 (R_takeI (R_cutI (l := 0) (R_pre 2 rfl) (by first | omega | (simp; done) | (simp [-List.getD_eq_getElem?_getD]; omega) | (simp at *; omega) | rfl)) 11) (by first | omega | (simp; done) | (simp [-List.getD_eq_getElem?_getD]; omega) | (simp at *; omega) | rfl) rfl rfl) (Wt.yes rfl rfl rfl) rfl rfl ?_
  refine D.take 7 rfl (by kernel_rfl) (fun _ h => h) (q_bool (b := true) (q_eqlS rfl rfl rfl) ?hE) (Wt.yes rfl rfl rfl) rfl rfl ?_
  case hE => decide +kernel
  refine D.take 8 rfl (by kernel_rfl) (fun _ h => h) (q_pickT rfl rfl rfl) (Wt.plain rfl) rfl rfl ?_
  refine D.take 9 rfl (by kernel_rfl) (fun _ h => h) (q_move rfl rfl) (Wt.plain rfl) rfl rfl ?_
  refine D.take 10 rfl (by kernel_rfl) (fun _ h => h) (q_move rfl rfl) (Wt.yes rfl rfl rfl) rfl rfl ?_
  refine D.take 11 rfl (by kernel_rfl) (fun _ h => h) (q_bool (b := true) (q_eql rfl rfl rfl) (decide_eq_true rfl)) (Wt.yes rfl rfl rfl) rfl rfl ?_
  refine D.take 12 rfl (by kernel_rfl) (fun _ h => h) (q_pickT rfl rfl rfl) (Wt.plain rfl) rfl rfl ?_
  refine D.take 13 rfl (by kernel_rfl) (fun _ h => h) (q_move rfl rfl) (Wt.plain rfl) rfl rfl ?_
  refine D.take 14 rfl (by kernel_rfl) (fun _ h => h) (q_move rfl rfl) (Wt.yes rfl rfl rfl) rfl rfl ?_
  refine D.take 15 rfl (by kernel_rfl) (fun _ h => h) (q_bool (b := true) (q_eql rfl rfl rfl) ?hE) (Wt.yes rfl rfl rfl) rfl rfl ?_
  case hE => decide +kernel
  refine D.take 16 rfl (by kernel_rfl) (fun _ h => h) (q_pickT rfl rfl rfl) (Wt.plain rfl) rfl rfl ?_
  refine D.take 17 rfl (by kernel_rfl) (fun _ h => h) (q_move rfl rfl) (Wt.plain rfl) rfl rfl ?_
  refine D.take 18 rfl (by kernel_rfl) (fun _ h => h) (q_move rfl rfl) (Wt.yes rfl rfl rfl) rfl rfl ?_
  refine D.take 19 rfl (by kernel_rfl) (fun _ h => h) (q_bool (b := true) (q_eql rfl rfl rfl) ?hE) (Wt.yes rfl rfl rfl) rfl rfl ?_
  case hE => decide +kernel
  refine D.take 20 rfl (by kernel_rfl) (fun _ h => h) (q_pickT rfl rfl rfl) (Wt.plain rfl) rfl rfl ?_
  refine D.take 21 rfl (by kernel_rfl) (fun _ h => h) (q_move rfl rfl) (Wt.plain rfl) rfl rfl ?_
  refine D.take 22 rfl (by kernel_rfl) (fun _ h => h) (q_move rfl rfl) (Wt.yes rfl rfl rfl) rfl rfl ?_
  refine D.take 23 rfl (by kernel_rfl) (fun _ h => h) (q_bool (b := true) (q_eql rfl rfl rfl) ?hE) (Wt.yes rfl rfl rfl) rfl rfl ?_
  case hE => decide +kernel
  refine D.take 24 rfl (by kernel_rfl) (fun _ h => h) (q_pickT rfl rfl rfl) (Wt.plain rfl) rfl rfl ?_
  refine D.take 25 rfl (by kernel_rfl) (fun _ h => h) (q_move rfl rfl) (Wt.plain rfl) rfl rfl ?_
  refine D.take 26 rfl (by kernel_rfl) (fun _ h => h) (q_move rfl rfl) (Wt.yes rfl rfl rfl) rfl rfl ?_
  refine D.take 27 rfl (by kernel_rfl) (fun _ h => h) (q_bool (b := true) (q_eql rfl rfl rfl) ?hE) (Wt.yes rfl rfl rfl) rfl rfl ?_
  case hE => decide +kernel
  refine D.take 28 rfl (by kernel_rfl) (fun _ h => h) (q_pickT rfl rfl rfl) (Wt.plain rfl) rfl rfl ?_
  refine D.take 29 rfl (by kernel_rfl) (fun _ h => h) (q_move rfl rfl) (Wt.plain rfl) rfl rfl ?_
  refine D.take 30 rfl (by kernel_rfl) (fun _ h => h) (q_loadW wd40 (R_blk 1 rfl) rfl rfl) (Wt.yes rfl rfl rfl) rfl rfl ?_
  refine D.take 32 rfl (by kernel_rfl) (fun _ h => h) (q_build (v := .agg (ints .u8 [2, 0, 3, 0, 0, 0, 0, 0, 0, 0, 0, 4]).toArray) rfl rfl (fun _ => by kernel_rfl)) (Wt.yes rfl rfl rfl) rfl rfl ?_
  refine D.one 31 (by kernel_rfl) ?_
  refine Up.eff rfl (e_call enters37 rfl rfl (fun w hm => nonce_yes 1 2 3 4 (by first | omega | (simp; done) | (simp; omega) | (simp at *; omega)) (by first | omega | (simp; done) | (simp; omega) | (simp at *; omega)) (by first | omega | (simp; done) | (simp; omega) | (simp at *; omega)) (by first | omega | (simp; done) | (simp; omega) | (simp at *; omega)) _ _ _ (by first | omega | (simp; done) | (simp; omega) | (simp at *; omega)) (by first | omega | (simp; done) | (simp; omega) | (simp at *; omega)) w) rfl rfl) (Wt.yes rfl rfl rfl) ?_
  rintro _ _ ⟨_, _, ⟨rfl, rfl⟩, rfl, rfl⟩
  refine ⟨fun _ => (fun _ h => h), ?_⟩
  change (_ : List Blk → Prop) [_, _, _]
  refine D.take 33 rfl (by kernel_rfl) (fun _ h => h) (q_bool (b := true) (q_eqlA ar44 ss5 un5 eg44 rfl rfl rfl (by first | omega | (simp; done) | (simp [-List.getD_eq_getElem?_getD]; omega) | (simp at *; omega) | rfl) (by first | omega | (simp; done) | (simp [-List.getD_eq_getElem?_getD]; omega) | (simp at *; omega) | rfl)) ?hE) (Wt.yes rfl rfl rfl) rfl rfl ?_
  case hE => decide +kernel
  refine D.take 34 rfl (by kernel_rfl) (fun _ h => h) (q_pickT rfl rfl rfl) (Wt.plain rfl) rfl rfl ?_
  refine D.take 35 rfl (by kernel_rfl) (fun _ h => h) (q_move rfl rfl) (Wt.plain rfl) rfl rfl ?_
  refine D.take 36 rfl (by kernel_rfl) (fun _ h => h) (q_loadW wd40 (R_blk 1 rfl) rfl rfl) (Wt.yes rfl rfl rfl) rfl rfl ?_
  refine D.take 39 rfl (by kernel_rfl) (fun _ h => h) (q_move rfl rfl) (Wt.yes rfl rfl rfl) rfl rfl ?_
  refine D.take 40 rfl (by kernel_rfl) (fun _ h => h) (q_sl sc22 0 11 cap4 rfl rfl rfl ⟨_, _, rfl, rfl⟩ rfl (by first | omega | (simp; done) | (simp [-List.getD_eq_getElem?_getD]; omega)) (by first | omega | (simp; done) | (simp [-List.getD_eq_getElem?_getD]; omega)) (by first | omega | (simp; done) | (simp [-List.getD_eq_getElem?_getD]; omega)) (by simp)) (Wt.yes rfl rfl rfl) rfl rfl ?_
  refine D.take 41 rfl (by kernel_rfl) (fun _ h => h) (q_bstr sc22 un5 un9 (R_takeI (R_cutI (l := 0) (R_pre 2 rfl) (by first | omega | (simp; done) | (simp [-List.getD_eq_getElem?_getD]; omega) | (simp at *; omega) | rfl)) 11) (by first | omega | (simp; done) | (simp [-List.getD_eq_getElem?_getD]; omega) | (simp at *; omega) | rfl) rfl rfl) (Wt.yes rfl rfl rfl) rfl rfl ?_
  refine D.one 37 (by kernel_rfl) ?_
  refine Up.eff rfl (e_call enters35 rfl rfl (fun w hm => head_yes 1 2 3 4 (by first | omega | (simp; done) | (simp; omega) | (simp at *; omega)) (by first | omega | (simp; done) | (simp; omega) | (simp at *; omega)) (by first | omega | (simp; done) | (simp; omega) | (simp at *; omega)) (by first | omega | (simp; done) | (simp; omega) | (simp at *; omega)) _ _ _ (by first | omega | (simp; done) | (simp; omega) | (simp at *; omega)) (by first | omega | (simp; done) | (simp; omega) | (simp at *; omega)) w) rfl rfl) (Wt.yes rfl rfl rfl) ?_
  rintro _ _ ⟨_, _, ⟨k14, cap15, junk16, rfl, hc17, rfl⟩, rfl, rfl⟩
  refine ⟨fun _ => (S_sub (((((List.Sublist.slnil).cons _).cons_cons _).cons_cons _).cons_cons _)), ?_⟩
  change (_ : List Blk → Prop) [_, _, _, _]
  refine D.one 38 (by kernel_rfl) ?_
  refine Up.q rfl (q_bstr sc22 un5 un9 (R_pre 3 rfl) (by first | omega | (simp; done) | (simp [-List.getD_eq_getElem?_getD]; omega) | (simp at *; omega) | rfl) rfl rfl) (Wt.yes rfl rfl rfl) rfl rfl (fun _ => (S_sub (((((List.Sublist.slnil).cons _).cons_cons _).cons_cons _).cons_cons _))) ?_
  refine D.take 42 rfl (by kernel_rfl) (S_sub (((((List.Sublist.slnil).cons _).cons_cons _).cons_cons _).cons_cons _)) (q_bool (b := true) (q_eqlS rfl rfl rfl) ?hE) (Wt.yes rfl rfl rfl) rfl rfl ?_
  case hE => decide +kernel
  refine D.take 43 rfl (by kernel_rfl) (S_sub (((((List.Sublist.slnil).cons _).cons_cons _).cons_cons _).cons_cons _)) (q_pickT rfl rfl rfl) (Wt.plain rfl) rfl rfl ?_
  refine D.one 44 (by kernel_rfl) ?_
  refine Up.q rfl (q_assign rfl rfl) (Wt.plain rfl) rfl rfl (fun h => absurd h (by decide)) ?_
  refine D.done (by kernel_rfl) ?_
  refine Ex.next ?_
  refine W.less (L' := [(0, _)]) [false, false, false, false] ⟨rfl, trivial⟩ ?_
  change (_ : List Blk → Prop) []
  refine W.ret ?_
  refine Ex.out1 [] rfl rfl ?_
  exact ⟨rfl, rfl⟩

end Go.Proofs.Ytmkjnefongjniaa
