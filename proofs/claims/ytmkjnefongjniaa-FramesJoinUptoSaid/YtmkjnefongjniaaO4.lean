/-
  The walks of layer 9: a number is put.
-/
import Derived.Test.YtmkjnefongjniaaO3
namespace Go.Proofs.Ytmkjnefongjniaa
open Go Go.X

set_option maxRecDepth 100000 in
theorem put_bad (b : List Int) (BA : Option Addr) (bc : Nat) (_hbc : b.length ≤ bc) (_hbl : b.length ≤ 140737488354000) (z : Int) (hbad : z < 0 ∨ 4611686018427387904 ≤ z) (w0 : World) (_hB : Reads w0 BA (ints .u8 b)) : Does Try.prog 20 #[.slice BA b.length bc, .int .i64 z] w0 [] (fun v G => v = .tuple #[.slice none 0 0, .int .i64 1] ∧ G = []) := by
  refine spec_of 33 Try.func20 rfl rfl rfl ?_
  refine W.seq ?_
  refine W.region ?_
  refine T.q (q_assign rfl rfl) (Wt.plain rfl) rfl rfl ?_
  refine T.q (q_assign rfl rfl) (Wt.plain rfl) rfl rfl ?_
  refine T.nil ?_
  refine Ex.next ?_
  refine W.slots (L' := [(0, _), (1, _)]) ⟨rfl, rfl, trivial⟩ ?_
  refine W.seq ?_
  refine W.seq ?_
  refine W.region ?_
  refine T.q (q_move rfl rfl) (Wt.plain rfl) rfl rfl ?_
  refine T.q (q_lss rfl rfl rfl) (Wt.plain rfl) rfl rfl ?_
  refine T.q (q_move rfl rfl) (Wt.plain rfl) rfl rfl ?_
  refine T.both (t := 10) _ rfl (fun hb1 => ?_) (fun hb1 => ?_)
  · replace hb1 := of_decide_eq_true hb1
    refine T.no (Wn.no rfl rfl rfl rfl) rfl rfl ?_
    refine T.no (Wn.no rfl rfl rfl rfl) rfl rfl ?_
    refine T.q (q_pickT rfl rfl rfl) (Wt.plain rfl) rfl rfl ?_
    refine T.nil ?_
    refine Ex.next ?_
    refine W.slots (L' := [(0, _), (1, _), (13, _)]) ⟨rfl, rfl, rfl, trivial⟩ ?_
    refine W.condT rfl ?_
    refine W.seq ?_
    refine W.region ?_
    refine T.q (q_assign rfl rfl) (Wt.plain rfl) rfl rfl ?_
    refine T.q (q_assign rfl rfl) (Wt.plain rfl) rfl rfl ?_
    refine T.nil ?_
    refine Ex.next ?_
    refine W.slots (L' := [(4, _), (5, _)]) ⟨rfl, rfl, trivial⟩ ?_
    refine W.ret ?_
    refine Ex.then_ret ?_
    refine Ex.out2 [] rfl rfl rfl ?_
    exact ⟨rfl, rfl⟩
  · replace hb1 := of_decide_eq_false hb1
    refine T.q (q_move rfl rfl) (Wt.yes rfl rfl rfl) rfl rfl ?_
    refine T.q (q_bool (b := true) (q_gtr rfl rfl rfl) (decide_eq_true (by omega))) (Wt.yes rfl rfl rfl) rfl rfl ?_
    refine T.q (q_pickF rfl rfl rfl) (Wt.plain rfl) rfl rfl ?_
    refine T.nil ?_
    refine Ex.next ?_
    refine W.slots (L' := [(0, _), (1, _), (13, _)]) ⟨rfl, rfl, rfl, trivial⟩ ?_
    refine W.condT rfl ?_
    refine W.seq ?_
    refine W.region ?_
    refine T.q (q_assign rfl rfl) (Wt.plain rfl) rfl rfl ?_
    refine T.q (q_assign rfl rfl) (Wt.plain rfl) rfl rfl ?_
    refine T.nil ?_
    refine Ex.next ?_
    refine W.slots (L' := [(4, _), (5, _)]) ⟨rfl, rfl, trivial⟩ ?_
    refine W.ret ?_
    refine Ex.then_ret ?_
    refine Ex.out2 [] rfl rfl rfl ?_
    exact ⟨rfl, rfl⟩
set_option maxRecDepth 100000 in
theorem refput_bad (b : List Int) (BA : Option Addr) (bc : Nat) (_hbc : b.length ≤ bc) (_hbl : b.length ≤ 140737488354000) (z : Int) (hbad : z < 0 ∨ 4611686018427387904 ≤ z) (w0 : World) (_hB : Reads w0 BA (ints .u8 b)) : Does Try.prog 21 #[.slice BA b.length bc, .int .i64 z] w0 [] (fun v G => v = .tuple #[.slice none 0 0, .int .i64 1] ∧ G = []) := by
  refine spec_of 53 Try.func21 rfl rfl rfl ?_
  refine W.seq ?_
  refine W.region ?_
  refine T.q (q_assign rfl rfl) (Wt.plain rfl) rfl rfl ?_
  refine T.q (q_assign rfl rfl) (Wt.plain rfl) rfl rfl ?_
  refine T.nil ?_
  refine Ex.next ?_
  refine W.slots (L' := [(0, _), (1, _)]) ⟨rfl, rfl, trivial⟩ ?_
  refine W.seq ?_
  refine W.seq ?_
  refine W.region ?_
  refine T.q (q_move rfl rfl) (Wt.plain rfl) rfl rfl ?_
  refine T.q (q_lss rfl rfl rfl) (Wt.plain rfl) rfl rfl ?_
  refine T.q (q_move rfl rfl) (Wt.plain rfl) rfl rfl ?_
  refine T.both (t := 13) _ rfl (fun hb1 => ?_) (fun hb1 => ?_)
  · replace hb1 := of_decide_eq_true hb1
    refine T.no (Wn.no rfl rfl rfl rfl) rfl rfl ?_
    refine T.no (Wn.no rfl rfl rfl rfl) rfl rfl ?_
    refine T.q (q_pickT rfl rfl rfl) (Wt.plain rfl) rfl rfl ?_
    refine T.nil ?_
    refine Ex.next ?_
    refine W.slots (L' := [(0, _), (1, _), (16, _)]) ⟨rfl, rfl, rfl, trivial⟩ ?_
    refine W.condT rfl ?_
    refine W.seq ?_
    refine W.region ?_
    refine T.q (q_assign rfl rfl) (Wt.plain rfl) rfl rfl ?_
    refine T.q (q_assign rfl rfl) (Wt.plain rfl) rfl rfl ?_
    refine T.nil ?_
    refine Ex.next ?_
    refine W.slots (L' := [(4, _), (5, _)]) ⟨rfl, rfl, trivial⟩ ?_
    refine W.ret ?_
    refine Ex.then_ret ?_
    refine Ex.out2 [] rfl rfl rfl ?_
    exact ⟨rfl, rfl⟩
  · replace hb1 := of_decide_eq_false hb1
    refine T.q (q_move rfl rfl) (Wt.yes rfl rfl rfl) rfl rfl ?_
    refine T.q (q_bool (b := true) (q_gtr rfl rfl rfl) (decide_eq_true (by omega))) (Wt.yes rfl rfl rfl) rfl rfl ?_
    refine T.q (q_pickF rfl rfl rfl) (Wt.plain rfl) rfl rfl ?_
    refine T.nil ?_
    refine Ex.next ?_
    refine W.slots (L' := [(0, _), (1, _), (16, _)]) ⟨rfl, rfl, rfl, trivial⟩ ?_
    refine W.condT rfl ?_
    refine W.seq ?_
    refine W.region ?_
    refine T.q (q_assign rfl rfl) (Wt.plain rfl) rfl rfl ?_
    refine T.q (q_assign rfl rfl) (Wt.plain rfl) rfl rfl ?_
    refine T.nil ?_
    refine Ex.next ?_
    refine W.slots (L' := [(4, _), (5, _)]) ⟨rfl, rfl, trivial⟩ ?_
    refine W.ret ?_
    refine Ex.then_ret ?_
    refine Ex.out2 [] rfl rfl rfl ?_
    exact ⟨rfl, rfl⟩
set_option maxRecDepth 100000 in
theorem put_spec0 (b : List Int) (BA : Option Addr) (bc : Nat) (hbc : b.length ≤ bc) (hbl : b.length ≤ 140737488354000) (n : Nat) (hn : n < 4611686018427387904) (w0 : World) (hB : Reads w0 BA (ints .u8 b)) : Does Try.prog 20 #[.slice BA b.length bc, .int .i64 ((n : Nat) : Int)] w0 [] (fun v G => ∃ (k cap : Nat) (junk : List Value), v = .tuple #[.slice (some ⟨k, 0, none⟩) (b.length + 2 ^ kd n) cap, .int .i64 0] ∧ b.length + 2 ^ kd n + junk.length = cap ∧ G = [⟨some k, ints .u8 (b ++ putV n) ++ junk, 5, (0, 0)⟩]) := by
  have hk8 := pow_kd_le n
  have hkp := two_pos (kd n)
  have hk3 := kd_le n
  refine spec_of 33 Try.func20 rfl rfl rfl ?_
  refine W.seq ?_
  refine W.region ?_
  refine T.q (q_assign rfl rfl) (Wt.plain rfl) rfl rfl ?_
  refine T.q (q_assign rfl rfl) (Wt.plain rfl) rfl rfl ?_
  refine T.nil ?_
  refine Ex.next ?_
  refine W.slots (L' := [(0, _), (1, _)]) ⟨rfl, rfl, trivial⟩ ?_
  refine W.seq ?_
  refine W.seq ?_
  refine W.region ?_
  refine T.q (q_move rfl rfl) (Wt.plain rfl) rfl rfl ?_
  refine T.q (q_bool (b := false) (q_lss rfl rfl rfl) (decide_eq_false (by omega))) (Wt.plain rfl) rfl rfl ?_
  refine T.q (q_move rfl rfl) (Wt.plain rfl) rfl rfl ?_
  refine T.q (q_move rfl rfl) (Wt.yes rfl rfl rfl) rfl rfl ?_
  refine T.q (q_bool (b := false) (q_gtr rfl rfl rfl) (decide_eq_false (by omega))) (Wt.yes rfl rfl rfl) rfl rfl ?_
  refine T.q (q_pickF rfl rfl rfl) (Wt.plain rfl) rfl rfl ?_
  refine T.nil ?_
  refine Ex.next ?_
  refine W.slots (L' := [(0, _), (1, _), (13, _)]) ⟨rfl, rfl, rfl, trivial⟩ ?_
  refine W.condF rfl ?_
  refine W.skip ?_
  refine Ex.next ?_
  refine W.slots (L' := [(0, _), (1, _)]) ⟨rfl, rfl, trivial⟩ ?_
  refine W.seq ?_
  refine W.region ?_
  refine T.q (q_move rfl rfl) (Wt.plain rfl) rfl rfl ?_
  refine T.eff (e_call enters52 rfl rfl (fun w hm => kind_spec n (by first | omega | (simp; done) | (simp; omega) | (simp at *; omega)) w) rfl rfl) (Wt.plain rfl) ?_
  rintro _ _ ⟨_, _, ⟨rfl, rfl⟩, rfl, rfl⟩
  change (_ : List Blk → Prop) []
  refine T.q (q_assign rfl rfl) (Wt.plain rfl) rfl rfl ?_
  refine T.nil ?_
  refine Ex.next ?_
  refine W.slots (L' := [(0, _), (1, _), (6, _)]) ⟨rfl, rfl, rfl, trivial⟩ ?_
  refine W.seq ?_
  refine W.draw 6 (by kernel_rfl) ?_
  refine D.take 0 rfl (by kernel_rfl) (fun _ h => h) (q_move rfl rfl) (Wt.plain rfl) rfl rfl ?_
  refine D.take 2 rfl (by kernel_rfl) (fun _ h => h) (q_move rfl rfl) (Wt.plain rfl) rfl rfl ?_
  refine D.take 3 rfl (by kernel_rfl) (fun _ h => h) (q_move rfl rfl) (Wt.plain rfl) rfl rfl ?_
  refine D.take 4 rfl (by kernel_rfl) (fun _ h => h) (q_int (b := (((2 ^ kd n) : Nat) : Int)) (q_shl rfl rfl rfl (by omega)) (shl_kd n)) (Wt.plain rfl) rfl rfl ?_
  refine D.one 1 (by kernel_rfl) ?_
  refine Up.eff rfl (e_call enters54 rfl rfl (fun w hm => clone_spec b _ _ (by first | omega | (simp; done) | (simp; omega) | (simp at *; omega)) (by first | omega | (simp; done) | (simp; omega) | (simp at *; omega)) w ((R_ext hB.ext) w hm) (by first | omega | (simp; done) | (simp [-List.getD_eq_getElem?_getD]; omega) | (simp at *; omega) | rfl)) rfl rfl) (Wt.plain rfl) ?_
  rintro _ _ ⟨_, _, ⟨k1, cap2, junk3, rfl, hc4, hc5, rfl⟩, rfl, rfl⟩
  refine ⟨fun _ => (S_sub ((List.Sublist.slnil).cons _)), ?_⟩
  change (_ : List Blk → Prop) [_]
  refine D.one 5 (by kernel_rfl) ?_
  refine Up.eff rfl (e_callM 0 enters53 rfl rfl rfl (fun w hm => big_spec n (2 ^ kd n) b junk3 _ _ (by first | omega | (simp; done) | (simp; omega) | (simp at *; omega)) (by first | omega | (simp; done) | (simp; omega) | (simp at *; omega)) (by first | omega | (simp; done) | (simp; omega) | (simp at *; omega)) (by first | omega | (simp; done) | (simp [-List.getD_eq_getElem?_getD]; omega) | (simp at *; omega) | rfl) (by first | omega | (simp; done) | (simp; omega) | (simp at *; omega)) (by first | omega | (simp; done) | (simp; omega) | (simp at *; omega)) w (hm.at 0 rfl)) rfl rfl) (Wt.plain rfl) ?_
  rintro _ _ ⟨_, _, ⟨k6, cap7, junk8, rfl, hc9, rfl⟩, rfl, rfl⟩
  refine ⟨fun _ => (S_sub ((List.Sublist.slnil).cons _)), ?_⟩
  change (_ : List Blk → Prop) [_]
  refine D.one 6 (by kernel_rfl) ?_
  refine Up.q rfl (q_assign rfl rfl) (Wt.plain rfl) rfl rfl (fun h => absurd h (by decide)) ?_
  refine D.done (by kernel_rfl) ?_
  refine Ex.next ?_
  refine W.slots (L' := [(0, _), (6, _), (7, _)]) ⟨rfl, rfl, rfl, trivial⟩ ?_
  refine W.seq ?_
  refine W.region ?_
  refine T.q (q_move rfl rfl) (Wt.plain rfl) rfl rfl ?_
  refine T.q (q_move rfl rfl) (Wt.plain rfl) rfl rfl ?_
  refine T.q (q_len sc22 rfl rfl) (Wt.plain rfl) rfl rfl ?_
  refine T.q (q_ixS0 sc22 b.length rfl rfl rfl (by omega) (by omega)) (Wt.plain rfl) rfl rfl ?_
  refine T.q (q_int (b := bt n (2 ^ kd n - 1)) (q_loadIJ ss5 0 rfl rfl rfl (by first | omega | (simp; done) | (simp [-List.getD_eq_getElem?_getD]; omega))) (app_at n b)) (Wt.plain rfl) rfl rfl ?_
  refine T.q (q_move rfl rfl) (Wt.plain rfl) rfl rfl ?_
  refine T.q (q_shl rfl rfl rfl (by decide)) (Wt.plain rfl) rfl rfl ?_
  refine T.q (q_conv un3 un5 rfl rfl) (Wt.plain rfl) rfl rfl ?_
  refine T.q (q_int (b := bt n (2 ^ kd n - 1) + 64 * ((kd n : Nat) : Int)) (q_or rfl rfl rfl) (put_top n hn)) (Wt.plain rfl) rfl rfl ?_
  refine T.q (q_ixS0 sc22 b.length rfl rfl rfl (by omega) (by omega)) (Wt.plain rfl) rfl rfl ?_
  refine T.eff (e_storeIJ ss5 0 rfl rfl rfl rfl (by first | omega | (simp; done) | (simp [-List.getD_eq_getElem?_getD]; omega)) rfl) (Wt.plain rfl) ?_
  rintro _ _ ⟨rfl, rfl⟩
  change (_ : List Blk → Prop) [_]
  conv => rhs; rw [app_put]
  refine T.nil ?_
  refine Ex.next ?_
  refine W.slots (L' := [(7, _)]) ⟨rfl, trivial⟩ ?_
  refine W.seq ?_
  refine W.region ?_
  refine T.q (q_move rfl rfl) (Wt.plain rfl) rfl rfl ?_
  refine T.q (q_assign rfl rfl) (Wt.plain rfl) rfl rfl ?_
  refine T.q (q_assign rfl rfl) (Wt.plain rfl) rfl rfl ?_
  refine T.nil ?_
  refine Ex.next ?_
  refine W.slots (L' := [(4, _), (5, _)]) ⟨rfl, rfl, trivial⟩ ?_
  refine W.ret ?_
  refine Ex.out2 [true] rfl rfl rfl ?_
  exact ⟨_, _, _, rfl, by first | assumption | omega, rfl⟩
set_option maxRecDepth 100000 in
theorem size_spec (m : Nat) (hm2 : m < 4611686018427387904) (w0 : World) : Does Try.prog 55 #[.int .i64 ((m : Nat) : Int)] w0 [] (fun v G => v = .int .i64 ((2 ^ kd m : Nat) : Int) ∧ G = []) := by
  refine spec_of 9 Try.func55 rfl rfl rfl ?_
  refine W.seq ?_
  refine W.region ?_
  refine T.q (q_assign rfl rfl) (Wt.plain rfl) rfl rfl ?_
  refine T.nil ?_
  refine Ex.next ?_
  refine W.slots (L' := [(0, _)]) ⟨rfl, trivial⟩ ?_
  refine W.seq ?_
  refine W.seq ?_
  refine W.region ?_
  refine T.q (q_move rfl rfl) (Wt.plain rfl) rfl rfl ?_
  refine T.q (q_lss rfl rfl rfl) (Wt.plain rfl) rfl rfl ?_
  refine T.nil ?_
  refine Ex.next ?_
  refine W.slots (L' := [(0, _), (4, _)]) ⟨rfl, rfl, trivial⟩ ?_
  refine W.cond _ rfl (fun hb1 => ?_) (fun hb1 => ?_)
  · replace hb1 := of_decide_eq_true hb1
    refine W.seq ?_
    refine W.region ?_
    refine T.q (q_assign rfl rfl) (Wt.plain rfl) rfl rfl ?_
    refine T.nil ?_
    refine Ex.next ?_
    refine W.slots (L' := [(2, _)]) ⟨rfl, trivial⟩ ?_
    refine W.ret ?_
    refine Ex.then_ret ?_
    refine Ex.out1 [] rfl rfl ?_
    exact ⟨by rcases kd_cases m hm2 with h | h | h | h <;> first | (rw [h.1]; rfl) | omega, rfl⟩
  · replace hb1 := of_decide_eq_false hb1
    refine W.skip ?_
    refine Ex.next ?_
    refine W.slots (L' := [(0, _)]) ⟨rfl, trivial⟩ ?_
    refine W.seq ?_
    refine W.seq ?_
    refine W.region ?_
    refine T.q (q_move rfl rfl) (Wt.plain rfl) rfl rfl ?_
    refine T.q (q_lss rfl rfl rfl) (Wt.plain rfl) rfl rfl ?_
    refine T.nil ?_
    refine Ex.next ?_
    refine W.slots (L' := [(0, _), (6, _)]) ⟨rfl, rfl, trivial⟩ ?_
    refine W.cond _ rfl (fun hb2 => ?_) (fun hb2 => ?_)
    · replace hb2 := of_decide_eq_true hb2
      refine W.seq ?_
      refine W.region ?_
      refine T.q (q_assign rfl rfl) (Wt.plain rfl) rfl rfl ?_
      refine T.nil ?_
      refine Ex.next ?_
      refine W.slots (L' := [(2, _)]) ⟨rfl, trivial⟩ ?_
      refine W.ret ?_
      refine Ex.then_ret ?_
      refine Ex.out1 [] rfl rfl ?_
      exact ⟨by rcases kd_cases m hm2 with h | h | h | h <;> first | (rw [h.1]; rfl) | omega, rfl⟩
    · replace hb2 := of_decide_eq_false hb2
      refine W.skip ?_
      refine Ex.next ?_
      refine W.slots (L' := [(0, _)]) ⟨rfl, trivial⟩ ?_
      refine W.seq ?_
      refine W.seq ?_
      refine W.region ?_
      refine T.q (q_move rfl rfl) (Wt.plain rfl) rfl rfl ?_
      refine T.q (q_lss rfl rfl rfl) (Wt.plain rfl) rfl rfl ?_
      refine T.nil ?_
      refine Ex.next ?_
      refine W.slots (L' := [(8, _)]) ⟨rfl, trivial⟩ ?_
      refine W.cond _ rfl (fun hb3 => ?_) (fun hb3 => ?_)
      · replace hb3 := of_decide_eq_true hb3
        refine W.seq ?_
        refine W.region ?_
        refine T.q (q_assign rfl rfl) (Wt.plain rfl) rfl rfl ?_
        refine T.nil ?_
        refine Ex.next ?_
        refine W.slots (L' := [(2, _)]) ⟨rfl, trivial⟩ ?_
        refine W.ret ?_
        refine Ex.then_ret ?_
        refine Ex.out1 [] rfl rfl ?_
        exact ⟨by rcases kd_cases m hm2 with h | h | h | h <;> first | (rw [h.1]; rfl) | omega, rfl⟩
      · replace hb3 := of_decide_eq_false hb3
        refine W.skip ?_
        refine Ex.next ?_
        refine W.slots (L' := []) trivial ?_
        refine W.seq ?_
        refine W.region ?_
        refine T.q (q_assign rfl rfl) (Wt.plain rfl) rfl rfl ?_
        refine T.nil ?_
        refine Ex.next ?_
        refine W.slots (L' := [(2, _)]) ⟨rfl, trivial⟩ ?_
        refine W.ret ?_
        refine Ex.out1 [] rfl rfl ?_
        exact ⟨by rcases kd_cases m hm2 with h | h | h | h <;> first | (rw [h.1]; rfl) | omega, rfl⟩
set_option maxRecDepth 100000 in
theorem refput_spec0 (b : List Int) (BA : Option Addr) (bc : Nat) (_hbc : b.length ≤ bc) (hbl : b.length ≤ 140737488354000) (n : Nat) (hn : n < 4611686018427387904) (w0 : World) (hB : Reads w0 BA (ints .u8 b)) : Does Try.prog 21 #[.slice BA b.length bc, .int .i64 ((n : Nat) : Int)] w0 [] (fun v G => ∃ (k cap : Nat) (junk : List Value), v = .tuple #[.slice (some ⟨k, 0, none⟩) (0 + b.length + 2 ^ kd n) cap, .int .i64 0] ∧ 0 + b.length + 2 ^ kd n + junk.length = cap ∧ G = [⟨some k, ints .u8 (b ++ putV n) ++ junk, 5, (0, 0)⟩]) := by
  have hk8 := pow_kd_le n
  have hkp := two_pos (kd n)
  have hk3 := kd_le n
  refine spec_of 53 Try.func21 rfl rfl rfl ?_
  refine W.seq ?_
  refine W.region ?_
  refine T.q (q_assign rfl rfl) (Wt.plain rfl) rfl rfl ?_
  refine T.q (q_assign rfl rfl) (Wt.plain rfl) rfl rfl ?_
  refine T.nil ?_
  refine Ex.next ?_
  refine W.slots (L' := [(0, _), (1, _)]) ⟨rfl, rfl, trivial⟩ ?_
  refine W.seq ?_
  refine W.seq ?_
  refine W.region ?_
  refine T.q (q_move rfl rfl) (Wt.plain rfl) rfl rfl ?_
  refine T.q (q_bool (b := false) (q_lss rfl rfl rfl) (decide_eq_false (by omega))) (Wt.plain rfl) rfl rfl ?_
  refine T.q (q_move rfl rfl) (Wt.plain rfl) rfl rfl ?_
  refine T.q (q_move rfl rfl) (Wt.yes rfl rfl rfl) rfl rfl ?_
  refine T.q (q_bool (b := false) (q_gtr rfl rfl rfl) (decide_eq_false (by omega))) (Wt.yes rfl rfl rfl) rfl rfl ?_
  refine T.q (q_pickF rfl rfl rfl) (Wt.plain rfl) rfl rfl ?_
  refine T.nil ?_
  refine Ex.next ?_
  refine W.slots (L' := [(0, _), (1, _), (16, _)]) ⟨rfl, rfl, rfl, trivial⟩ ?_
  refine W.condF rfl ?_
  refine W.skip ?_
  refine Ex.next ?_
  refine W.slots (L' := [(0, _), (1, _)]) ⟨rfl, rfl, trivial⟩ ?_
  refine W.seq ?_
  refine W.region ?_
  refine T.q (q_move rfl rfl) (Wt.plain rfl) rfl rfl ?_
  refine T.eff (e_call enters55 rfl rfl (fun w hm => size_spec n (by first | omega | (simp; done) | (simp; omega) | (simp at *; omega)) w) rfl rfl) (Wt.plain rfl) ?_
  rintro _ _ ⟨_, _, ⟨rfl, rfl⟩, rfl, rfl⟩
  change (_ : List Blk → Prop) []
  refine T.q (q_assign rfl rfl) (Wt.plain rfl) rfl rfl ?_
  refine T.nil ?_
  refine Ex.next ?_
  refine W.slots (L' := [(0, _), (1, _), (6, _)]) ⟨rfl, rfl, rfl, trivial⟩ ?_
  refine W.seq ?_
  refine W.region ?_
  refine T.q (q_assign rfl rfl) (Wt.plain rfl) rfl rfl ?_
  refine T.nil ?_
  refine Ex.next ?_
  refine W.slots (L' := [(0, _), (1, _), (6, _), (7, _)]) ⟨rfl, rfl, rfl, rfl, trivial⟩ ?_
  refine W.seq ?_
  refine W.block ?_
  refine W.loop (α := Nat) (fun i => [(0, .slice BA b.length bc), (1, .int .i64 ((n : Nat) : Int)), (6, .int .i64 (((2 ^ kd n) : Nat) : Int)), (7, .int .i64 ((i : Nat) : Int))]) (fun i => []) (fun i => i ≤ kd n) (fun i => kd n - i) [] 0 (Nat.zero_le _) ⟨rfl, rfl, rfl, rfl, trivial⟩ rfl ?_
  rintro i hi
  refine W.seq ?_
  refine W.seq ?_
  refine W.region ?_
  refine T.q (q_move rfl rfl) (Wt.plain rfl) rfl rfl ?_
  refine T.q (q_int (b := (((2 ^ i) : Nat) : Int)) (q_shl rfl rfl rfl (by omega)) (shl_one i (by omega))) (Wt.plain rfl) rfl rfl ?_
  refine T.q (q_move rfl rfl) (Wt.plain rfl) rfl rfl ?_
  refine T.q (q_lss rfl rfl rfl) (Wt.plain rfl) rfl rfl ?_
  refine T.nil ?_
  refine Ex.next ?_
  refine W.slots (L' := [(0, _), (1, _), (6, _), (7, _), (22, _)]) ⟨rfl, rfl, rfl, rfl, rfl, trivial⟩ ?_
  refine W.cond _ rfl (fun hb1 => ?_) (fun hb1 => ?_)
  · replace hb1 := of_decide_eq_true hb1
    have hik : i < kd n := (Nat.pow_lt_pow_iff_right (by decide)).1 (show 2 ^ i < 2 ^ kd n by omega)
    refine W.skip ?_
    refine Ex.next ?_
    refine W.slots (L' := [(0, _), (1, _), (6, _), (7, _)]) ⟨rfl, rfl, rfl, rfl, trivial⟩ ?_
    refine W.block ?_
    refine W.region ?_
    refine T.q (q_move rfl rfl) (Wt.plain rfl) rfl rfl ?_
    refine T.q (q_addi rfl rfl rfl (by omega) (by omega)) (Wt.plain rfl) rfl rfl ?_
    refine T.q (q_assign rfl rfl) (Wt.plain rfl) rfl rfl ?_
    refine T.nil ?_
    refine Ex.in_normal ?_
    exact Ex.again [] (i + 1) (by omega) (by omega) ⟨rfl, rfl, rfl, rfl, trivial⟩ rfl
  · replace hb1 := of_decide_eq_false hb1
    obtain rfl : i = kd n := by have hq := fun h : i < kd n => (Nat.pow_lt_pow_iff_right (a := 2) (by decide)).2 h; by_cases hc : i < kd n; exact absurd (hq hc) (by omega); omega
    refine W.exit ?_
    refine Ex.then_exit ?_
    refine Ex.then_exit ?_
    refine Ex.in_here ?_
    refine Ex.next ?_
    refine W.slots (L' := [(0, _), (1, _), (6, _), (7, _)]) ⟨rfl, rfl, rfl, rfl, trivial⟩ ?_
    refine W.seq ?_
    refine W.region ?_
    refine T.eff (e_litA sc22 ze5 rfl rfl rfl (by simp [Value.cells]) rfl rfl rfl) (Wt.plain rfl) ?_
    rintro _ _ ⟨k2, rfl, rfl⟩
    change (_ : List Blk → Prop) [_]
    refine T.q (q_move rfl rfl) (Wt.plain rfl) rfl rfl ?_
    refine T.eff (e_appendI sc22 ze5 rfl 0 .u8 [] b [] ((List.append_nil _).symm) (R_ext hB.ext) rfl rfl rfl rfl (by first | omega | (simp; done) | (simp [-List.getD_eq_getElem?_getD]; omega) | (simp at *; omega) | rfl) (by first | omega | (simp; done) | (simp [-List.getD_eq_getElem?_getD]; omega) | (simp at *; omega) | rfl) (by first | omega | (simp; done) | (simp [-List.getD_eq_getElem?_getD]; omega) | (simp at *; omega) | rfl) (by first | omega | (simp; done) | (simp [-List.getD_eq_getElem?_getD]; omega)) (by first | omega | (simp; done) | (simp [-List.getD_eq_getElem?_getD]; omega)) rfl rfl) (Wt.plain rfl) ?_
    rintro _ _ ⟨k3, cap4, junk5, hc6, rfl, rfl⟩
    change (_ : List Blk → Prop) [_]
    refine T.q (q_assign rfl rfl) (Wt.plain rfl) rfl rfl ?_
    refine T.nil ?_
    refine Ex.next ?_
    refine W.slots (L' := [(1, _), (6, _), (7, _), (8, _)]) ⟨rfl, rfl, rfl, rfl, trivial⟩ ?_
    refine W.seq ?_
    refine W.seq ?_
    refine W.region ?_
    refine T.q (q_move rfl rfl) (Wt.plain rfl) rfl rfl ?_
    refine T.q (q_int (b := ((2 ^ kd n : Nat) : Int) - 1 - ((0 : Nat) : Int)) (q_subi rfl rfl rfl (by omega) (by omega)) ?hE) (Wt.plain rfl) rfl rfl ?_
    case hE => omega
    refine T.q (q_assign rfl rfl) (Wt.plain rfl) rfl rfl ?_
    refine T.nil ?_
    refine Ex.next ?_
    refine W.slots (L' := [(1, _), (6, _), (7, _), (8, _), (9, _)]) ⟨rfl, rfl, rfl, rfl, rfl, trivial⟩ ?_
    refine W.block ?_
    refine W.loop (α := Nat × Nat × Nat × List Value) (fun x_ => [(1, .int .i64 ((n : Nat) : Int)), (6, .int .i64 (((2 ^ kd n) : Nat) : Int)), (7, .int .i64 (((kd n) : Nat) : Int)), (8, .slice (some ⟨x_.2.1, 0, none⟩) (0 + b.length + x_.1) x_.2.2.1), (9, .int .i64 (((2 ^ kd n : Nat) : Int) - 1 - ((x_.1 : Nat) : Int)))]) (fun x_ => [⟨some x_.2.1, ints .u8 (b ++ gather (putf n) x_.1 []) ++ x_.2.2.2, 5, (0, 0)⟩]) (fun x_ => x_.1 ≤ 2 ^ kd n ∧ b.length + x_.1 + x_.2.2.2.length = x_.2.2.1) (fun x_ => 2 ^ kd n - x_.1) [true] (⟨0, k3, cap4, junk5⟩) ⟨by dsimp only; omega, by dsimp only; omega⟩ ⟨rfl, rfl, rfl, rfl, rfl, trivial⟩ (by dsimp only [pick]; rw [show gather (putf n) 0 [] = [] from rfl, List.append_nil, List.nil_append]) ?_
    rintro ⟨j, kq, cq, jq⟩ ⟨hj, hq⟩
    conv => rhs; dsimp only
    conv => arg -2; dsimp only
    dsimp only at hj hq
    refine W.seq ?_
    refine W.seq ?_
    refine W.region ?_
    refine T.q (q_move rfl rfl) (Wt.plain rfl) rfl rfl ?_
    refine T.q (q_geq rfl rfl rfl) (Wt.plain rfl) rfl rfl ?_
    refine T.nil ?_
    refine Ex.next ?_
    refine W.slots (L' := [(1, _), (6, _), (7, _), (8, _), (9, _), (31, _)]) ⟨rfl, rfl, rfl, rfl, rfl, rfl, trivial⟩ ?_
    refine W.cond _ rfl (fun hb7 => ?_) (fun hb7 => ?_)
    · replace hb7 := of_decide_eq_true hb7
      have hjs : j < 2 ^ kd n := by omega
      refine W.skip ?_
      refine Ex.next ?_
      refine W.slots (L' := [(1, _), (6, _), (7, _), (8, _), (9, _)]) ⟨rfl, rfl, rfl, rfl, rfl, trivial⟩ ?_
      refine W.seq ?_
      refine W.block ?_
      refine W.seq ?_
      refine W.region ?_
      refine T.q (q_move rfl rfl) (Wt.plain rfl) rfl rfl ?_
      refine T.q (q_move rfl rfl) (Wt.plain rfl) rfl rfl ?_
      refine T.q (q_int (b := 8 * ((2 ^ kd n - 1 - j : Nat) : Int)) (q_muli rfl rfl rfl (by omega) (by omega)) ?hE) (Wt.plain rfl) rfl rfl ?_
      case hE => omega
      refine T.q (q_shr rfl rfl rfl (by omega)) (Wt.plain rfl) rfl rfl ?_
      refine T.q (q_int (b := bt n (2 ^ kd n - 1 - j)) (q_and rfl rfl rfl) (and_bt n (2 ^ kd n - 1 - j) (by omega) (by omega))) (Wt.plain rfl) rfl rfl ?_
      refine T.q (q_assign rfl rfl) (Wt.plain rfl) rfl rfl ?_
      refine T.nil ?_
      refine Ex.next ?_
      refine W.slots (L' := [(1, _), (6, _), (7, _), (8, _), (9, _), (10, _)]) ⟨rfl, rfl, rfl, rfl, rfl, rfl, trivial⟩ ?_
      refine W.meet (α := Int) (fun cc => [(1, .int .i64 ((n : Nat) : Int)), (6, .int .i64 (((2 ^ kd n) : Nat) : Int)), (7, .int .i64 (((kd n) : Nat) : Int)), (8, .slice (some ⟨kq, 0, none⟩) (0 + b.length + j) cq), (9, .int .i64 (((2 ^ kd n : Nat) : Int) - 1 - ((j : Nat) : Int))), (10, .int .i64 cc)]) (fun cc => [⟨some kq, ints .u8 (b ++ gather (putf n) j []) ++ jq, 5, (0, 0)⟩]) (fun cc => IntKind.u8.wrap cc = putf n j) ?_ ?_
      ·
        refine W.seq ?_
        refine W.region ?_
        refine T.q (q_move rfl rfl) (Wt.plain rfl) rfl rfl ?_
        refine T.q (q_move rfl rfl) (Wt.plain rfl) rfl rfl ?_
        refine T.q (q_subi rfl rfl rfl (by omega) (by omega)) (Wt.plain rfl) rfl rfl ?_
        refine T.q (q_eql rfl rfl rfl) (Wt.plain rfl) rfl rfl ?_
        refine T.nil ?_
        refine Ex.next ?_
        refine W.slots (L' := [(1, _), (6, _), (7, _), (8, _), (9, _), (10, _), (42, _)]) ⟨rfl, rfl, rfl, rfl, rfl, rfl, rfl, trivial⟩ ?_
        refine W.cond _ rfl (fun hb8 => ?_) (fun hb8 => ?_)
        · replace hb8 := of_decide_eq_true hb8
          refine W.region ?_
          refine T.q (q_move rfl rfl) (Wt.plain rfl) rfl rfl ?_
          refine T.q (q_move rfl rfl) (Wt.plain rfl) rfl rfl ?_
          refine T.q (q_muli rfl rfl rfl (by omega) (by omega)) (Wt.plain rfl) rfl rfl ?_
          refine T.q (q_addi rfl rfl rfl (by have := bt_ok n (2 ^ kd n - 1 - j); omega) (by have := bt_ok n (2 ^ kd n - 1 - j); omega)) (Wt.plain rfl) rfl rfl ?_
          refine T.q (q_assign rfl rfl) (Wt.plain rfl) rfl rfl ?_
          refine T.nil ?_
          exact Ex.met [true] ((bt n (2 ^ kd n - 1 - j)) + ((((kd n) : Nat) : Int) * 64)) (by have h1 := bt_ok n (2 ^ kd n - 1 - j); have h2 := top_lt n hn; rw [putf, if_pos (by omega), show j = 0 by omega, Nat.sub_zero, wrap8_of (by have := bt_ok n (2 ^ kd n - 1); omega) (by omega), Int.mul_comm]) ⟨rfl, rfl, rfl, rfl, rfl, rfl, trivial⟩ rfl
        · replace hb8 := of_decide_eq_false hb8
          refine W.skip ?_
          exact Ex.met [true] (bt n (2 ^ kd n - 1 - j)) (by have h1 := bt_ok n (2 ^ kd n - 1 - j); have h2 := top_lt n hn; rw [putf, if_neg (by omega), wrap8_of h1.1 h1.2]) ⟨rfl, rfl, rfl, rfl, rfl, rfl, trivial⟩ rfl
      ·
        rintro cc hcc
        refine W.region ?_
        refine T.q (q_move rfl rfl) (Wt.plain rfl) rfl rfl ?_
        refine T.q (q_move rfl rfl) (Wt.plain rfl) rfl rfl ?_
        refine T.q (q_int (b := putf n j) (q_conv un3 un5 rfl rfl) hcc) (Wt.plain rfl) rfl rfl ?_
        refine T.eff (e_litA sc22 ze5 rfl rfl rfl (by simp [Value.cells]) rfl rfl rfl) (Wt.plain rfl) ?_
        rintro _ _ ⟨k9, rfl, rfl⟩
        change (_ : List Blk → Prop) [_, _]
        refine T.eff (e_appendI sc22 ze5 rfl 0 .u8 (b ++ gather (putf n) j []) [putf n j] jq (rfl) (R_blk 1 rfl) rfl rfl rfl rfl (by first | omega | (simp; done) | (simp [-List.getD_eq_getElem?_getD]; omega) | (simp at *; omega) | rfl) (by first | omega | (simp; done) | (simp [-List.getD_eq_getElem?_getD]; omega) | (simp at *; omega) | rfl) (by first | omega | (simp; done) | (simp [-List.getD_eq_getElem?_getD]; omega) | (simp at *; omega) | rfl) (by first | omega | (simp; done) | (simp [-List.getD_eq_getElem?_getD]; omega)) (by first | omega | (simp; done) | (simp [-List.getD_eq_getElem?_getD]; omega)) rfl rfl) (Wt.plain rfl) ?_
        rintro _ _ ⟨k10, cap11, junk12, hc13, rfl, rfl⟩
        change (_ : List Blk → Prop) [_, _]
        conv => rhs; rw [List.append_assoc, ← gather_succ]
        refine T.q (q_assign rfl rfl) (Wt.plain rfl) rfl rfl ?_
        refine T.nil ?_
        refine Ex.in_normal ?_
        refine Ex.next ?_
        refine W.less (L' := [(1, _), (6, _), (7, _), (8, _), (9, _)]) [true, false] ⟨rfl, rfl, rfl, rfl, rfl, trivial⟩ ?_
        change (_ : List Blk → Prop) [_]
        refine W.region ?_
        refine T.q (q_move rfl rfl) (Wt.plain rfl) rfl rfl ?_
        refine T.q (q_int (b := ((2 ^ kd n : Nat) : Int) - 1 - ((j + 1 : Nat) : Int)) (q_subi rfl rfl rfl (by omega) (by omega)) ?hE) (Wt.plain rfl) rfl rfl ?_
        case hE => omega
        refine T.q (q_assign rfl rfl) (Wt.plain rfl) rfl rfl ?_
        refine T.nil ?_
        exact Ex.again [true] (⟨j + 1, k10, cap11, junk12⟩ : Nat × Nat × Nat × List Value) (by dsimp only; omega) ⟨by dsimp only; omega, by dsimp only; omega⟩ ⟨rfl, rfl, rfl, rfl, rfl, trivial⟩ (by first | (dsimp only [pick]; done) | rfl)
    · replace hb7 := of_decide_eq_false hb7
      obtain rfl : j = 2 ^ kd n := by omega
      conv => rhs; rw [putf_all]
      refine W.exit ?_
      refine Ex.then_exit ?_
      refine Ex.then_exit ?_
      refine Ex.in_here ?_
      refine Ex.next ?_
      refine W.slots (L' := [(8, _)]) ⟨rfl, trivial⟩ ?_
      refine W.seq ?_
      refine W.region ?_
      refine T.q (q_move rfl rfl) (Wt.plain rfl) rfl rfl ?_
      refine T.q (q_assign rfl rfl) (Wt.plain rfl) rfl rfl ?_
      refine T.q (q_assign rfl rfl) (Wt.plain rfl) rfl rfl ?_
      refine T.nil ?_
      refine Ex.next ?_
      refine W.slots (L' := [(4, _), (5, _)]) ⟨rfl, rfl, trivial⟩ ?_
      refine W.ret ?_
      refine Ex.out2 [true] rfl rfl rfl ?_
      exact ⟨_, _, _, rfl, by first | assumption | omega, rfl⟩

end Go.Proofs.Ytmkjnefongjniaa
