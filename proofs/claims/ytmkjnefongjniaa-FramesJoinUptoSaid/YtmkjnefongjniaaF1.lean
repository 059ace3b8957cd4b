/-
  The walks of layer 10: numbers, ranges that rise, which frames may be.
-/
import Derived.Test.YtmkjnefongjniaaHF
namespace Go.Proofs.Ytmkjnefongjniaa
open Go Go.X
set_option maxRecDepth 100000 in
theorem num_spec (z : Int) (w0 : World) : Does Try.prog 64 #[.int .i64 z] w0 [] (fun v G => v = .bool (decide (0 ≤ z ∧ z ≤ 4611686018427387903)) ∧ G = []) := by
  refine spec_of 9 Try.func64 rfl rfl rfl ?_
  refine W.seq ?_
  refine W.region ?_
  refine T.q (q_assign rfl rfl) (Wt.plain rfl) rfl rfl ?_
  refine T.nil ?_
  refine Ex.next ?_
  refine W.slots (L' := [(0, _)]) ⟨rfl, trivial⟩ ?_
  refine W.seq ?_
  refine W.region ?_
  refine T.q (q_move rfl rfl) (Wt.plain rfl) rfl rfl ?_
  refine T.q (q_geq rfl rfl rfl) (Wt.plain rfl) rfl rfl ?_
  refine T.q (q_move rfl rfl) (Wt.plain rfl) rfl rfl ?_
  refine T.both (t := 5) _ rfl (fun hb1 => ?_) (fun hb1 => ?_)
  · replace hb1 := of_decide_eq_true hb1
    refine T.q (q_move rfl rfl) (Wt.yes rfl rfl rfl) rfl rfl ?_
    refine T.q (q_leq rfl rfl rfl) (Wt.yes rfl rfl rfl) rfl rfl ?_
    refine T.q (q_pickT rfl rfl rfl) (Wt.plain rfl) rfl rfl ?_
    refine T.q (q_assign rfl rfl) (Wt.plain rfl) rfl rfl ?_
    refine T.nil ?_
    refine Ex.next ?_
    refine W.slots (L' := [(2, _)]) ⟨rfl, trivial⟩ ?_
    refine W.ret ?_
    refine Ex.out1 [] rfl rfl ?_
    exact ⟨by first | (exact congrArg Value.bool (decide_eq_false (by omega)).symm) | (exact congrArg Value.bool (decide_eq_decide.2 (by omega))), rfl⟩
  replace hb1 := of_decide_eq_false hb1
  refine T.no (Wn.no rfl rfl rfl rfl) rfl rfl ?_
  refine T.no (Wn.no rfl rfl rfl rfl) rfl rfl ?_
  refine T.q (q_pickF rfl rfl rfl) (Wt.plain rfl) rfl rfl ?_
  refine T.q (q_assign rfl rfl) (Wt.plain rfl) rfl rfl ?_
  refine T.nil ?_
  refine Ex.next ?_
  refine W.slots (L' := [(2, _)]) ⟨rfl, trivial⟩ ?_
  refine W.ret ?_
  refine Ex.out1 [] rfl rfl ?_
  exact ⟨by first | (exact congrArg Value.bool (decide_eq_false (by omega)).symm) | (exact congrArg Value.bool (decide_eq_decide.2 (by omega))), rfl⟩
set_option maxRecDepth 100000 in
theorem refnum_spec (z : Int) (w0 : World) : Does Try.prog 66 #[.int .i64 z] w0 [] (fun v G => v = .bool (decide (0 ≤ z ∧ z ≤ 4611686018427387903)) ∧ G = []) := by
  refine spec_of 9 Try.func66 rfl rfl rfl ?_
  refine W.seq ?_
  refine W.region ?_
  refine T.q (q_assign rfl rfl) (Wt.plain rfl) rfl rfl ?_
  refine T.nil ?_
  refine Ex.next ?_
  refine W.slots (L' := [(0, _)]) ⟨rfl, trivial⟩ ?_
  refine W.seq ?_
  refine W.region ?_
  refine T.q (q_move rfl rfl) (Wt.plain rfl) rfl rfl ?_
  refine T.q (q_geq rfl rfl rfl) (Wt.plain rfl) rfl rfl ?_
  refine T.q (q_move rfl rfl) (Wt.plain rfl) rfl rfl ?_
  refine T.both (t := 5) _ rfl (fun hb1 => ?_) (fun hb1 => ?_)
  · replace hb1 := of_decide_eq_true hb1
    refine T.q (q_move rfl rfl) (Wt.yes rfl rfl rfl) rfl rfl ?_
    refine T.q (q_leq rfl rfl rfl) (Wt.yes rfl rfl rfl) rfl rfl ?_
    refine T.q (q_pickT rfl rfl rfl) (Wt.plain rfl) rfl rfl ?_
    refine T.q (q_assign rfl rfl) (Wt.plain rfl) rfl rfl ?_
    refine T.nil ?_
    refine Ex.next ?_
    refine W.slots (L' := [(2, _)]) ⟨rfl, trivial⟩ ?_
    refine W.ret ?_
    refine Ex.out1 [] rfl rfl ?_
    exact ⟨by first | (exact congrArg Value.bool (decide_eq_false (by omega)).symm) | (exact congrArg Value.bool (decide_eq_decide.2 (by omega))), rfl⟩
  replace hb1 := of_decide_eq_false hb1
  refine T.no (Wn.no rfl rfl rfl rfl) rfl rfl ?_
  refine T.no (Wn.no rfl rfl rfl rfl) rfl rfl ?_
  refine T.q (q_pickF rfl rfl rfl) (Wt.plain rfl) rfl rfl ?_
  refine T.q (q_assign rfl rfl) (Wt.plain rfl) rfl rfl ?_
  refine T.nil ?_
  refine Ex.next ?_
  refine W.slots (L' := [(2, _)]) ⟨rfl, trivial⟩ ?_
  refine W.ret ?_
  refine Ex.out1 [] rfl rfl ?_
  exact ⟨by first | (exact congrArg Value.bool (decide_eq_false (by omega)).symm) | (exact congrArg Value.bool (decide_eq_decide.2 (by omega))), rfl⟩
set_option maxRecDepth 100000 in
theorem ris_spec (rs : List (Int × Int)) (RA : Option Addr) (rc : Nat) (hrl : rs.length ≤ 9223372036854775807) (least to : Int) (hle : 0 ≤ least) (hto : to ≤ 4611686018427387903) (w0 : World) (hR : Reads w0 RA (ints .i64 (flat rs))) : Does Try.prog 65 #[.slice RA rs.length rc, .int .i64 least, .int .i64 to] w0 [] (fun v G => v = .bool (decide (risN rs least to = 1)) ∧ G = []) := by
  refine spec_of 39 Try.func65 rfl rfl rfl ?_
  refine W.seq ?_
  refine W.region ?_
  refine T.q (q_assign rfl rfl) (Wt.plain rfl) rfl rfl ?_
  refine T.nil ?_
  refine Ex.next ?_
  refine W.slots (L' := [(0, _), (1, _), (2, _)]) ⟨rfl, rfl, rfl, trivial⟩ ?_
  refine W.seq ?_
  refine W.seq ?_
  refine W.region ?_
  refine T.q (q_move rfl rfl) (Wt.plain rfl) rfl rfl ?_
  refine T.q (q_len sc56 rfl rfl) (Wt.plain rfl) rfl rfl ?_
  refine T.q (q_move rfl rfl) (Wt.plain rfl) rfl rfl ?_
  refine T.nil ?_
  refine Ex.next ?_
  refine W.slots (L' := [(0, _), (1, _), (2, _), (9, _), (10, _), (11, _)]) ⟨rfl, rfl, rfl, rfl, rfl, rfl, trivial⟩ ?_
  refine W.block ?_
  refine W.loop (α := Nat × Int) (fun x_ => [(0, .slice RA rs.length rc), (1, .int .i64 x_.2), (2, .int .i64 to), (9, .slice RA rs.length rc), (10, .int .i64 ((rs.length : Nat) : Int)), (11, .int .i64 ((x_.1 : Nat) : Int))]) (fun x_ => []) (fun x_ => x_.1 ≤ rs.length ∧ x_.2 = lastR (least - 1) rs x_.1 + 1 ∧ 0 ≤ x_.2 ∧ ∀ q, q < x_.1 → risC rs least to q) (fun x_ => rs.length - x_.1) [] (⟨0, least⟩ : Nat × Int) ⟨Nat.zero_le _, (show least = least - 1 + 1 by omega), hle, fun q hq => absurd hq (Nat.not_lt_zero q)⟩ ⟨rfl, rfl, rfl, rfl, rfl, rfl, trivial⟩ rfl ?_
  rintro ⟨i, la⟩ hinv
  try dsimp only at hinv
  conv => rhs; dsimp only
  conv => arg -2; dsimp only
  obtain ⟨hi, hla, hla0, hall⟩ := hinv
  refine W.seq ?_
  refine W.region ?_
  refine T.q (q_lss rfl rfl rfl) (Wt.plain rfl) rfl rfl ?_
  refine T.nil ?_
  refine Ex.next ?_
  refine W.slots (L' := [(0, _), (1, _), (2, _), (9, _), (10, _), (11, _), (12, _)]) ⟨rfl, rfl, rfl, rfl, rfl, rfl, rfl, trivial⟩ ?_
  refine W.seq ?_
  refine W.cond _ rfl (fun hb1 => ?_) (fun hb1 => ?_)
  · replace hb1 := of_decide_eq_true hb1
    have hir : i < rs.length := by omega
    refine W.skip ?_
    refine Ex.next ?_
    refine W.slots (L' := [(0, _), (1, _), (2, _), (9, _), (10, _), (11, _)]) ⟨rfl, rfl, rfl, rfl, rfl, rfl, trivial⟩ ?_
    refine W.seq ?_
    refine W.block ?_
    refine W.seq ?_
    refine W.region ?_
    refine T.q (q_ixE sc56 i (R_ext hR.ext) rfl rfl rfl (by omega) (by omega) (by rw [ints_length, flat_length]; omega)) (Wt.plain rfl) rfl rfl ?_
    refine T.q (q_loadW wd74 (R_elem (R_ext hR.ext) (i * 2) 2 (flat_getV (by omega))) rfl rfl) (Wt.plain rfl) rfl rfl ?_
    refine T.eff (e_alloc ze74 rfl rfl rfl) (Wt.plain rfl) ?_
    rintro _ _ ⟨k2, rfl, rfl⟩
    change (_ : List Blk → Prop) [_]
    refine T.eff (e_storeA wd74 0 rfl rfl rfl rfl (by first | omega | (simp; done) | (simp [-List.getD_eq_getElem?_getD]; omega) | (simp at *; omega) | rfl) (by simp [Value.oneCell']) rfl) (Wt.plain rfl) ?_
    rintro _ _ ⟨rfl, rfl⟩
    change (_ : List Blk → Prop) [_]
    refine T.nil ?_
    refine Ex.next ?_
    refine W.slots (L' := [(0, _), (1, _), (2, _), (8, _), (9, _), (10, _), (11, _)]) ⟨rfl, rfl, rfl, rfl, rfl, rfl, rfl, trivial⟩ ?_
    refine W.seq ?_
    refine W.seq ?_
    refine W.region ?_
    refine T.q (q_fld fl74_0 rfl rfl) (Wt.plain rfl) rfl rfl ?_
    refine T.q (q_load1 ss3 0 rfl rfl rfl rfl) (Wt.plain rfl) rfl rfl ?_
    refine T.q (q_move rfl rfl) (Wt.plain rfl) rfl rfl ?_
    refine T.q (q_lss rfl rfl rfl) (Wt.plain rfl) rfl rfl ?_
    refine T.q (q_move rfl rfl) (Wt.plain rfl) rfl rfl ?_
    refine T.both (t := 19) _ rfl (fun hb3 => ?_) (fun hb3 => ?_)
    · replace hb3 := of_decide_eq_true hb3
      refine T.no (Wn.no rfl rfl rfl rfl) rfl rfl ?_
      refine T.no (Wn.no rfl rfl rfl rfl) rfl rfl ?_
      refine T.no (Wn.no rfl rfl rfl rfl) rfl rfl ?_
      refine T.no (Wn.no rfl rfl rfl rfl) rfl rfl ?_
      refine T.no (Wn.no rfl rfl rfl rfl) rfl rfl ?_
      refine T.q (q_pickT rfl rfl rfl) (Wt.plain rfl) rfl rfl ?_
      refine T.q (q_move rfl rfl) (Wt.plain rfl) rfl rfl ?_
      refine T.no (Wn.no rfl rfl rfl rfl) rfl rfl ?_
      refine T.no (Wn.no rfl rfl rfl rfl) rfl rfl ?_
      refine T.no (Wn.no rfl rfl rfl rfl) rfl rfl ?_
      refine T.no (Wn.no rfl rfl rfl rfl) rfl rfl ?_
      refine T.q (q_pickT rfl rfl rfl) (Wt.plain rfl) rfl rfl ?_
      refine T.nil ?_
      refine Ex.next ?_
      refine W.slots (L' := [(0, _), (2, _), (8, _), (9, _), (10, _), (11, _), (31, _)]) ⟨rfl, rfl, rfl, rfl, rfl, rfl, rfl, trivial⟩ ?_
      refine W.condT rfl ?_
      refine W.seq ?_
      refine W.region ?_
      refine T.q (q_assign rfl rfl) (Wt.plain rfl) rfl rfl ?_
      refine T.nil ?_
      refine Ex.next ?_
      refine W.less (L' := [(6, _)]) [false] ⟨rfl, trivial⟩ ?_
      change (_ : List Blk → Prop) []
      refine W.ret ?_
      refine Ex.then_ret ?_
      refine Ex.in_ret ?_
      refine Ex.then_ret ?_
      refine Ex.then_ret ?_
      refine Ex.in_ret ?_
      refine Ex.then_ret ?_
      refine Ex.out1 [] rfl rfl ?_
      exact ⟨congrArg Value.bool (decide_eq_false (by rw [risN_no hir (fun h => by have h1 := h.1; have h2 := h.2.1; have h3 := h.2.2; omega)]; decide)).symm, rfl⟩
    replace hb3 := of_decide_eq_false hb3
    refine T.q (q_fld fl74_1 rfl rfl) (Wt.yes rfl rfl rfl) rfl rfl ?_
    refine T.q (q_load1 ss3 0 rfl rfl rfl rfl) (Wt.yes rfl rfl rfl) rfl rfl ?_
    refine T.q (q_fld fl74_0 rfl rfl) (Wt.yes rfl rfl rfl) rfl rfl ?_
    refine T.q (q_load1 ss3 0 rfl rfl rfl rfl) (Wt.yes rfl rfl rfl) rfl rfl ?_
    refine T.q (q_leq rfl rfl rfl) (Wt.yes rfl rfl rfl) rfl rfl ?_
    refine T.q (q_pickF rfl rfl rfl) (Wt.plain rfl) rfl rfl ?_
    refine T.q (q_move rfl rfl) (Wt.plain rfl) rfl rfl ?_
    refine T.both (t := 26) _ rfl (fun hb4 => ?_) (fun hb4 => ?_)
    · replace hb4 := of_decide_eq_true hb4
      refine T.no (Wn.no rfl rfl rfl rfl) rfl rfl ?_
      refine T.no (Wn.no rfl rfl rfl rfl) rfl rfl ?_
      refine T.no (Wn.no rfl rfl rfl rfl) rfl rfl ?_
      refine T.no (Wn.no rfl rfl rfl rfl) rfl rfl ?_
      refine T.q (q_pickT rfl rfl rfl) (Wt.plain rfl) rfl rfl ?_
      refine T.nil ?_
      refine Ex.next ?_
      refine W.slots (L' := [(0, _), (2, _), (8, _), (9, _), (10, _), (11, _), (31, _)]) ⟨rfl, rfl, rfl, rfl, rfl, rfl, rfl, trivial⟩ ?_
      refine W.condT rfl ?_
      refine W.seq ?_
      refine W.region ?_
      refine T.q (q_assign rfl rfl) (Wt.plain rfl) rfl rfl ?_
      refine T.nil ?_
      refine Ex.next ?_
      refine W.less (L' := [(6, _)]) [false] ⟨rfl, trivial⟩ ?_
      change (_ : List Blk → Prop) []
      refine W.ret ?_
      refine Ex.then_ret ?_
      refine Ex.in_ret ?_
      refine Ex.then_ret ?_
      refine Ex.then_ret ?_
      refine Ex.in_ret ?_
      refine Ex.then_ret ?_
      refine Ex.out1 [] rfl rfl ?_
      exact ⟨congrArg Value.bool (decide_eq_false (by rw [risN_no hir (fun h => by have h1 := h.1; have h2 := h.2.1; have h3 := h.2.2; omega)]; decide)).symm, rfl⟩
    replace hb4 := of_decide_eq_false hb4
    refine T.q (q_fld fl74_1 rfl rfl) (Wt.yes rfl rfl rfl) rfl rfl ?_
    refine T.q (q_load1 ss3 0 rfl rfl rfl rfl) (Wt.yes rfl rfl rfl) rfl rfl ?_
    refine T.q (q_move rfl rfl) (Wt.yes rfl rfl rfl) rfl rfl ?_
    refine T.q (q_gtr rfl rfl rfl) (Wt.yes rfl rfl rfl) rfl rfl ?_
    refine T.q (q_pickF rfl rfl rfl) (Wt.plain rfl) rfl rfl ?_
    refine T.nil ?_
    refine Ex.next ?_
    refine W.slots (L' := [(0, _), (2, _), (8, _), (9, _), (10, _), (11, _), (31, _)]) ⟨rfl, rfl, rfl, rfl, rfl, rfl, rfl, trivial⟩ ?_
    refine W.cond _ rfl (fun hb5 => ?_) (fun hb5 => ?_)
    · replace hb5 := of_decide_eq_true hb5
      refine W.seq ?_
      refine W.region ?_
      refine T.q (q_assign rfl rfl) (Wt.plain rfl) rfl rfl ?_
      refine T.nil ?_
      refine Ex.next ?_
      refine W.less (L' := [(6, _)]) [false] ⟨rfl, trivial⟩ ?_
      change (_ : List Blk → Prop) []
      refine W.ret ?_
      refine Ex.then_ret ?_
      refine Ex.in_ret ?_
      refine Ex.then_ret ?_
      refine Ex.then_ret ?_
      refine Ex.in_ret ?_
      refine Ex.then_ret ?_
      refine Ex.out1 [] rfl rfl ?_
      exact ⟨congrArg Value.bool (decide_eq_false (by rw [risN_no hir (fun h => by have h1 := h.1; have h2 := h.2.1; have h3 := h.2.2; omega)]; decide)).symm, rfl⟩
    replace hb5 := of_decide_eq_false hb5
    refine W.skip ?_
    refine Ex.next ?_
    refine W.slots (L' := [(0, _), (2, _), (8, _), (9, _), (10, _), (11, _)]) ⟨rfl, rfl, rfl, rfl, rfl, rfl, trivial⟩ ?_
    refine W.region ?_
    refine T.q (q_fld fl74_1 rfl rfl) (Wt.plain rfl) rfl rfl ?_
    refine T.q (q_load1 ss3 0 rfl rfl rfl rfl) (Wt.plain rfl) rfl rfl ?_
    refine T.q (q_addi rfl rfl rfl (by omega) (by omega)) (Wt.plain rfl) rfl rfl ?_
    refine T.q (q_assign rfl rfl) (Wt.plain rfl) rfl rfl ?_
    refine T.nil ?_
    refine Ex.in_normal ?_
    refine Ex.next ?_
    refine W.less (L' := [(0, _), (1, _), (2, _), (9, _), (10, _), (11, _)]) [false] ⟨rfl, rfl, rfl, rfl, rfl, rfl, trivial⟩ ?_
    change (_ : List Blk → Prop) []
    refine W.region ?_
    refine T.q (q_addi rfl rfl rfl (by omega) (by omega)) (Wt.plain rfl) rfl rfl ?_
    refine T.q (q_move rfl rfl) (Wt.plain rfl) rfl rfl ?_
    refine T.nil ?_
    exact Ex.again [] (⟨i + 1, (rs.getD i (0, 0)).2 + 1⟩ : Nat × Int) (by dsimp only; omega) ⟨by dsimp only; omega, (by dsimp only; rw [lastR_succ]), by dsimp only; omega, ris_step hall ⟨by omega, by omega, by omega⟩⟩ ⟨rfl, rfl, rfl, rfl, rfl, rfl, trivial⟩ (by first | (dsimp only [pick]; done) | rfl)
  replace hb1 := of_decide_eq_false hb1
  obtain rfl : i = rs.length := by omega
  refine W.exit ?_
  refine Ex.then_exit ?_
  refine Ex.then_exit ?_
  refine Ex.in_here ?_
  refine Ex.next ?_
  refine W.slots (L' := [(0, _)]) ⟨rfl, trivial⟩ ?_
  refine W.seq ?_
  refine W.region ?_
  refine T.q (q_move rfl rfl) (Wt.plain rfl) rfl rfl ?_
  refine T.q (q_len sc56 rfl rfl) (Wt.plain rfl) rfl rfl ?_
  refine T.q (q_leq rfl rfl rfl) (Wt.plain rfl) rfl rfl ?_
  refine T.q (q_assign rfl rfl) (Wt.plain rfl) rfl rfl ?_
  refine T.nil ?_
  refine Ex.next ?_
  refine W.slots (L' := [(6, _)]) ⟨rfl, trivial⟩ ?_
  refine W.ret ?_
  refine Ex.out1 [] rfl rfl ?_
  exact ⟨congrArg Value.bool (decide_eq_decide.2 (by rw [risN_end hall]; omega)), rfl⟩
set_option maxRecDepth 100000 in
theorem refris_up (rs : List (Int × Int)) (RA : Option Addr) (rc : Nat) (hrl : rs.length ≤ 9223372036854775807) (fr to : Int) (w0 : World) (hR : Reads w0 RA (ints .i64 (flat rs))) : Does Try.prog 67 #[.slice RA rs.length rc, .int .i64 fr, .bool true, .int .i64 to] w0 [] (fun v G => v = .bool (decide (risN rs (fr + 1) to = 1)) ∧ G = []) := by
  refine spec_of 69 Try.func67 rfl rfl rfl ?_
  refine W.seq ?_
  refine W.region ?_
  refine T.q (q_assign rfl rfl) (Wt.plain rfl) rfl rfl ?_
  refine T.nil ?_
  refine Ex.next ?_
  refine W.slots (L' := [(0, _), (1, _), (2, _), (3, _)]) ⟨rfl, rfl, rfl, rfl, trivial⟩ ?_
  refine W.seq ?_
  refine W.seq ?_
  refine W.region ?_
  refine T.q (q_assign rfl rfl) (Wt.plain rfl) rfl rfl ?_
  refine T.nil ?_
  refine Ex.next ?_
  refine W.slots (L' := [(0, _), (1, _), (2, _), (3, _), (9, _)]) ⟨rfl, rfl, rfl, rfl, rfl, trivial⟩ ?_
  refine W.block ?_
  refine W.loop (α := Nat × Int) (fun x_ => [(0, .slice RA rs.length rc), (1, .int .i64 x_.2), (2, .bool true), (3, .int .i64 to), (9, .int .i64 ((x_.1 : Nat) : Int))]) (fun x_ => []) (fun x_ => x_.1 ≤ rs.length ∧ x_.2 = lastR (fr + 1 - 1) rs x_.1 ∧ ∀ q, q < x_.1 → risC rs (fr + 1) to q) (fun x_ => rs.length - x_.1) [] (⟨0, fr⟩ : Nat × Int) ⟨Nat.zero_le _, (show fr = fr + 1 - 1 by omega), fun q hq => absurd hq (Nat.not_lt_zero q)⟩ ⟨rfl, rfl, rfl, rfl, rfl, trivial⟩ rfl ?_
  rintro ⟨i, la⟩ hinv
  try dsimp only at hinv
  conv => rhs; dsimp only
  conv => arg -2; dsimp only
  obtain ⟨hi, hla, hall⟩ := hinv
  refine W.seq ?_
  refine W.seq ?_
  refine W.region ?_
  refine T.q (q_move rfl rfl) (Wt.plain rfl) rfl rfl ?_
  refine T.q (q_move rfl rfl) (Wt.plain rfl) rfl rfl ?_
  refine T.q (q_len sc56 rfl rfl) (Wt.plain rfl) rfl rfl ?_
  refine T.q (q_lss rfl rfl rfl) (Wt.plain rfl) rfl rfl ?_
  refine T.nil ?_
  refine Ex.next ?_
  refine W.slots (L' := [(0, _), (1, _), (2, _), (3, _), (9, _), (13, _)]) ⟨rfl, rfl, rfl, rfl, rfl, rfl, trivial⟩ ?_
  refine W.cond _ rfl (fun hb1 => ?_) (fun hb1 => ?_)
  · replace hb1 := of_decide_eq_true hb1
    have hir : i < rs.length := by omega
    refine W.skip ?_
    refine Ex.next ?_
    refine W.slots (L' := [(0, _), (1, _), (2, _), (3, _), (9, _)]) ⟨rfl, rfl, rfl, rfl, rfl, trivial⟩ ?_
    refine W.seq ?_
    refine W.block ?_
    refine W.seq ?_
    refine W.seq ?_
    refine W.draw 45 (by kernel_rfl) ?_
    refine D.take 0 rfl (by kernel_rfl) (fun _ h => h) (q_move rfl rfl) (Wt.plain rfl) rfl rfl ?_
    refine D.take 1 rfl (by kernel_rfl) (fun _ h => h) (q_move rfl rfl) (Wt.plain rfl) rfl rfl ?_
    refine D.take 2 rfl (by kernel_rfl) (fun _ h => h) (q_ixE sc56 i (R_ext hR.ext) rfl rfl rfl (by omega) (by omega) (by rw [ints_length, flat_length]; omega)) (Wt.plain rfl) rfl rfl ?_
    refine D.take 3 rfl (by kernel_rfl) (fun _ h => h) (q_fldE fl74_0 rfl rfl) (Wt.plain rfl) rfl rfl ?_
    refine D.take 4 rfl (by kernel_rfl) (fun _ h => h) (q_loadF ss3 (R_elem (R_ext hR.ext) (i * 2) 2 (flat_getV (by omega))) rfl rfl rfl) (Wt.plain rfl) rfl rfl ?_
    refine D.take 5 rfl (by kernel_rfl) (fun _ h => h) (q_move rfl rfl) (Wt.plain rfl) rfl rfl ?_
    refine D.take 6 rfl (by kernel_rfl) (fun _ h => h) (q_lss rfl rfl rfl) (Wt.plain rfl) rfl rfl ?_
    refine D.take 7 rfl (by kernel_rfl) (fun _ h => h) (q_move rfl rfl) (Wt.plain rfl) rfl rfl ?_
    refine D.both (t := 23) _ rfl (fun hb2 => ?_) (fun hb2 => ?_)
    · replace hb2 := of_decide_eq_true hb2
      refine D.pass 8 rfl (by kernel_rfl) (fun _ h => h) (Wn.no rfl rfl rfl rfl) rfl rfl ?_
      refine D.pass 9 rfl (by kernel_rfl) (fun _ h => h) (Wn.no rfl rfl rfl rfl) rfl rfl ?_
      refine D.pass 10 rfl (by kernel_rfl) (fun _ h => h) (Wn.none rfl rfl rfl) rfl rfl ?_
      refine D.pass 11 rfl (by kernel_rfl) (fun _ h => h) (Wn.none rfl rfl rfl) rfl rfl ?_
      refine D.pass 12 rfl (by kernel_rfl) (fun _ h => h) (Wn.no rfl rfl rfl rfl) rfl rfl ?_
      refine D.pass 13 rfl (by kernel_rfl) (fun _ h => h) (Wn.no rfl rfl rfl rfl) rfl rfl ?_
      refine D.pass 14 rfl (by kernel_rfl) (fun _ h => h) (Wn.none rfl rfl rfl) rfl rfl ?_
      refine D.pass 15 rfl (by kernel_rfl) (fun _ h => h) (Wn.none rfl rfl rfl) rfl rfl ?_
      refine D.pass 16 rfl (by kernel_rfl) (fun _ h => h) (Wn.none rfl rfl rfl) rfl rfl ?_
      refine D.pass 17 rfl (by kernel_rfl) (fun _ h => h) (Wn.none rfl rfl rfl) rfl rfl ?_
      refine D.pass 18 rfl (by kernel_rfl) (fun _ h => h) (Wn.none rfl rfl rfl) rfl rfl ?_
      refine D.pass 19 rfl (by kernel_rfl) (fun _ h => h) (Wn.none rfl rfl rfl) rfl rfl ?_
      refine D.pass 20 rfl (by kernel_rfl) (fun _ h => h) (Wn.none rfl rfl rfl) rfl rfl ?_
      refine D.pass 21 rfl (by kernel_rfl) (fun _ h => h) (Wn.no rfl rfl rfl rfl) rfl rfl ?_
      refine D.take 22 rfl (by kernel_rfl) (fun _ h => h) (q_pickT rfl rfl rfl) (Wt.plain rfl) rfl rfl ?_
      refine D.take 23 rfl (by kernel_rfl) (fun _ h => h) (q_move rfl rfl) (Wt.plain rfl) rfl rfl ?_
      refine D.pass 24 rfl (by kernel_rfl) (fun _ h => h) (Wn.no rfl rfl rfl rfl) rfl rfl ?_
      refine D.pass 25 rfl (by kernel_rfl) (fun _ h => h) (Wn.no rfl rfl rfl rfl) rfl rfl ?_
      refine D.pass 26 rfl (by kernel_rfl) (fun _ h => h) (Wn.no rfl rfl rfl rfl) rfl rfl ?_
      refine D.pass 27 rfl (by kernel_rfl) (fun _ h => h) (Wn.no rfl rfl rfl rfl) rfl rfl ?_
      refine D.pass 28 rfl (by kernel_rfl) (fun _ h => h) (Wn.no rfl rfl rfl rfl) rfl rfl ?_
      refine D.pass 29 rfl (by kernel_rfl) (fun _ h => h) (Wn.no rfl rfl rfl rfl) rfl rfl ?_
      refine D.pass 30 rfl (by kernel_rfl) (fun _ h => h) (Wn.no rfl rfl rfl rfl) rfl rfl ?_
      refine D.pass 31 rfl (by kernel_rfl) (fun _ h => h) (Wn.no rfl rfl rfl rfl) rfl rfl ?_
      refine D.pass 32 rfl (by kernel_rfl) (fun _ h => h) (Wn.no rfl rfl rfl rfl) rfl rfl ?_
      refine D.pass 33 rfl (by kernel_rfl) (fun _ h => h) (Wn.no rfl rfl rfl rfl) rfl rfl ?_
      refine D.pass 34 rfl (by kernel_rfl) (fun _ h => h) (Wn.no rfl rfl rfl rfl) rfl rfl ?_
      refine D.take 35 rfl (by kernel_rfl) (fun _ h => h) (q_pickT rfl rfl rfl) (Wt.plain rfl) rfl rfl ?_
      refine D.take 36 rfl (by kernel_rfl) (fun _ h => h) (q_move rfl rfl) (Wt.plain rfl) rfl rfl ?_
      refine D.pass 37 rfl (by kernel_rfl) (fun _ h => h) (Wn.no rfl rfl rfl rfl) rfl rfl ?_
      refine D.pass 38 rfl (by kernel_rfl) (fun _ h => h) (Wn.no rfl rfl rfl rfl) rfl rfl ?_
      refine D.pass 39 rfl (by kernel_rfl) (fun _ h => h) (Wn.no rfl rfl rfl rfl) rfl rfl ?_
      refine D.pass 40 rfl (by kernel_rfl) (fun _ h => h) (Wn.no rfl rfl rfl rfl) rfl rfl ?_
      refine D.pass 41 rfl (by kernel_rfl) (fun _ h => h) (Wn.no rfl rfl rfl rfl) rfl rfl ?_
      refine D.pass 42 rfl (by kernel_rfl) (fun _ h => h) (Wn.no rfl rfl rfl rfl) rfl rfl ?_
      refine D.pass 43 rfl (by kernel_rfl) (fun _ h => h) (Wn.no rfl rfl rfl rfl) rfl rfl ?_
      refine D.take 44 rfl (by kernel_rfl) (fun _ h => h) (q_pickT rfl rfl rfl) (Wt.plain rfl) rfl rfl ?_
      refine D.done (by kernel_rfl) ?_
      refine Ex.next ?_
      refine W.slots (L' := [(0, _), (2, _), (3, _), (9, _), (60, _)]) ⟨rfl, rfl, rfl, rfl, rfl, trivial⟩ ?_
      refine W.condT rfl ?_
      refine W.seq ?_
      refine W.region ?_
      refine T.q (q_assign rfl rfl) (Wt.plain rfl) rfl rfl ?_
      refine T.nil ?_
      refine Ex.next ?_
      refine W.slots (L' := [(8, _)]) ⟨rfl, trivial⟩ ?_
      refine W.ret ?_
      refine Ex.then_ret ?_
      refine Ex.in_ret ?_
      refine Ex.then_ret ?_
      refine Ex.then_ret ?_
      refine Ex.in_ret ?_
      refine Ex.then_ret ?_
      refine Ex.out1 [] rfl rfl ?_
      exact ⟨congrArg Value.bool (decide_eq_false (by rw [risN_no hir (fun h => by have h1 := h.1; have h2 := h.2.1; have h3 := h.2.2; omega)]; decide)).symm, rfl⟩
    replace hb2 := of_decide_eq_false hb2
    refine D.take 8 rfl (by kernel_rfl) (fun _ h => h) (q_move rfl rfl) (Wt.yes rfl rfl rfl) rfl rfl ?_
    refine D.take 9 rfl (by kernel_rfl) (fun _ h => h) (q_move rfl rfl) (Wt.yes rfl rfl rfl) rfl rfl ?_
    refine D.pass 10 rfl (by kernel_rfl) (fun _ h => h) (Wn.no rfl rfl rfl rfl) rfl rfl ?_
    refine D.pass 11 rfl (by kernel_rfl) (fun _ h => h) (Wn.no rfl rfl rfl rfl) rfl rfl ?_
    refine D.take 12 rfl (by kernel_rfl) (fun _ h => h) (q_pickT rfl rfl rfl) (Wt.yes rfl rfl rfl) rfl rfl ?_
    refine D.take 13 rfl (by kernel_rfl) (fun _ h => h) (q_move rfl rfl) (Wt.yes rfl rfl rfl) rfl rfl ?_
    refine D.take 14 rfl (by kernel_rfl) (fun _ h => h) (q_move rfl rfl) (Wt.yes rfl rfl rfl) rfl rfl ?_
    refine D.take 15 rfl (by kernel_rfl) (fun _ h => h) (q_move rfl rfl) (Wt.yes rfl rfl rfl) rfl rfl ?_
    refine D.take 16 rfl (by kernel_rfl) (fun _ h => h) (q_ixE sc56 i (R_ext hR.ext) rfl rfl rfl (by omega) (by omega) (by rw [ints_length, flat_length]; omega)) (Wt.yes rfl rfl rfl) rfl rfl ?_
    refine D.take 17 rfl (by kernel_rfl) (fun _ h => h) (q_fldE fl74_0 rfl rfl) (Wt.yes rfl rfl rfl) rfl rfl ?_
    refine D.take 18 rfl (by kernel_rfl) (fun _ h => h) (q_loadF ss3 (R_elem (R_ext hR.ext) (i * 2) 2 (flat_getV (by omega))) rfl rfl rfl) (Wt.yes rfl rfl rfl) rfl rfl ?_
    refine D.take 19 rfl (by kernel_rfl) (fun _ h => h) (q_move rfl rfl) (Wt.yes rfl rfl rfl) rfl rfl ?_
    refine D.take 20 rfl (by kernel_rfl) (fun _ h => h) (q_eql rfl rfl rfl) (Wt.yes rfl rfl rfl) rfl rfl ?_
    refine D.take 21 rfl (by kernel_rfl) (fun _ h => h) (q_pickT rfl rfl rfl) (Wt.yes rfl rfl rfl) rfl rfl ?_
    refine D.take 22 rfl (by kernel_rfl) (fun _ h => h) (q_pickF rfl rfl rfl) (Wt.plain rfl) rfl rfl ?_
    refine D.take 23 rfl (by kernel_rfl) (fun _ h => h) (q_move rfl rfl) (Wt.plain rfl) rfl rfl ?_
    refine D.both (t := 39) _ rfl (fun hb3 => ?_) (fun hb3 => ?_)
    · replace hb3 := of_decide_eq_true hb3
      refine D.pass 24 rfl (by kernel_rfl) (fun _ h => h) (Wn.no rfl rfl rfl rfl) rfl rfl ?_
      refine D.pass 25 rfl (by kernel_rfl) (fun _ h => h) (Wn.no rfl rfl rfl rfl) rfl rfl ?_
      refine D.pass 26 rfl (by kernel_rfl) (fun _ h => h) (Wn.no rfl rfl rfl rfl) rfl rfl ?_
      refine D.pass 27 rfl (by kernel_rfl) (fun _ h => h) (Wn.no rfl rfl rfl rfl) rfl rfl ?_
      refine D.pass 28 rfl (by kernel_rfl) (fun _ h => h) (Wn.no rfl rfl rfl rfl) rfl rfl ?_
      refine D.pass 29 rfl (by kernel_rfl) (fun _ h => h) (Wn.no rfl rfl rfl rfl) rfl rfl ?_
      refine D.pass 30 rfl (by kernel_rfl) (fun _ h => h) (Wn.no rfl rfl rfl rfl) rfl rfl ?_
      refine D.pass 31 rfl (by kernel_rfl) (fun _ h => h) (Wn.no rfl rfl rfl rfl) rfl rfl ?_
      refine D.pass 32 rfl (by kernel_rfl) (fun _ h => h) (Wn.no rfl rfl rfl rfl) rfl rfl ?_
      refine D.pass 33 rfl (by kernel_rfl) (fun _ h => h) (Wn.no rfl rfl rfl rfl) rfl rfl ?_
      refine D.pass 34 rfl (by kernel_rfl) (fun _ h => h) (Wn.no rfl rfl rfl rfl) rfl rfl ?_
      refine D.take 35 rfl (by kernel_rfl) (fun _ h => h) (q_pickT rfl rfl rfl) (Wt.plain rfl) rfl rfl ?_
      refine D.take 36 rfl (by kernel_rfl) (fun _ h => h) (q_move rfl rfl) (Wt.plain rfl) rfl rfl ?_
      refine D.pass 37 rfl (by kernel_rfl) (fun _ h => h) (Wn.no rfl rfl rfl rfl) rfl rfl ?_
      refine D.pass 38 rfl (by kernel_rfl) (fun _ h => h) (Wn.no rfl rfl rfl rfl) rfl rfl ?_
      refine D.pass 39 rfl (by kernel_rfl) (fun _ h => h) (Wn.no rfl rfl rfl rfl) rfl rfl ?_
      refine D.pass 40 rfl (by kernel_rfl) (fun _ h => h) (Wn.no rfl rfl rfl rfl) rfl rfl ?_
      refine D.pass 41 rfl (by kernel_rfl) (fun _ h => h) (Wn.no rfl rfl rfl rfl) rfl rfl ?_
      refine D.pass 42 rfl (by kernel_rfl) (fun _ h => h) (Wn.no rfl rfl rfl rfl) rfl rfl ?_
      refine D.pass 43 rfl (by kernel_rfl) (fun _ h => h) (Wn.no rfl rfl rfl rfl) rfl rfl ?_
      refine D.take 44 rfl (by kernel_rfl) (fun _ h => h) (q_pickT rfl rfl rfl) (Wt.plain rfl) rfl rfl ?_
      refine D.done (by kernel_rfl) ?_
      refine Ex.next ?_
      refine W.slots (L' := [(0, _), (2, _), (3, _), (9, _), (60, _)]) ⟨rfl, rfl, rfl, rfl, rfl, trivial⟩ ?_
      refine W.condT rfl ?_
      refine W.seq ?_
      refine W.region ?_
      refine T.q (q_assign rfl rfl) (Wt.plain rfl) rfl rfl ?_
      refine T.nil ?_
      refine Ex.next ?_
      refine W.slots (L' := [(8, _)]) ⟨rfl, trivial⟩ ?_
      refine W.ret ?_
      refine Ex.then_ret ?_
      refine Ex.in_ret ?_
      refine Ex.then_ret ?_
      refine Ex.then_ret ?_
      refine Ex.in_ret ?_
      refine Ex.then_ret ?_
      refine Ex.out1 [] rfl rfl ?_
      exact ⟨congrArg Value.bool (decide_eq_false (by rw [risN_no hir (fun h => by have h1 := h.1; have h2 := h.2.1; have h3 := h.2.2; omega)]; decide)).symm, rfl⟩
    replace hb3 := of_decide_eq_false hb3
    refine D.take 24 rfl (by kernel_rfl) (fun _ h => h) (q_move rfl rfl) (Wt.yes rfl rfl rfl) rfl rfl ?_
    refine D.take 25 rfl (by kernel_rfl) (fun _ h => h) (q_move rfl rfl) (Wt.yes rfl rfl rfl) rfl rfl ?_
    refine D.take 26 rfl (by kernel_rfl) (fun _ h => h) (q_ixE sc56 i (R_ext hR.ext) rfl rfl rfl (by omega) (by omega) (by rw [ints_length, flat_length]; omega)) (Wt.yes rfl rfl rfl) rfl rfl ?_
    refine D.take 27 rfl (by kernel_rfl) (fun _ h => h) (q_fldE fl74_1 rfl rfl) (Wt.yes rfl rfl rfl) rfl rfl ?_
    refine D.take 28 rfl (by kernel_rfl) (fun _ h => h) (q_loadF ss3 (R_elem (R_ext hR.ext) (i * 2) 2 (flat_getV (by omega))) rfl rfl rfl) (Wt.yes rfl rfl rfl) rfl rfl ?_
    refine D.take 29 rfl (by kernel_rfl) (fun _ h => h) (q_move rfl rfl) (Wt.yes rfl rfl rfl) rfl rfl ?_
    refine D.take 30 rfl (by kernel_rfl) (fun _ h => h) (q_move rfl rfl) (Wt.yes rfl rfl rfl) rfl rfl ?_
    refine D.take 31 rfl (by kernel_rfl) (fun _ h => h) (q_ixE sc56 i (R_ext hR.ext) rfl rfl rfl (by omega) (by omega) (by rw [ints_length, flat_length]; omega)) (Wt.yes rfl rfl rfl) rfl rfl ?_
    refine D.take 32 rfl (by kernel_rfl) (fun _ h => h) (q_fldE fl74_0 rfl rfl) (Wt.yes rfl rfl rfl) rfl rfl ?_
    refine D.take 33 rfl (by kernel_rfl) (fun _ h => h) (q_loadF ss3 (R_elem (R_ext hR.ext) (i * 2) 2 (flat_getV (by omega))) rfl rfl rfl) (Wt.yes rfl rfl rfl) rfl rfl ?_
    refine D.take 34 rfl (by kernel_rfl) (fun _ h => h) (q_leq rfl rfl rfl) (Wt.yes rfl rfl rfl) rfl rfl ?_
    refine D.take 35 rfl (by kernel_rfl) (fun _ h => h) (q_pickF rfl rfl rfl) (Wt.plain rfl) rfl rfl ?_
    refine D.take 36 rfl (by kernel_rfl) (fun _ h => h) (q_move rfl rfl) (Wt.plain rfl) rfl rfl ?_
    refine D.both (t := 52) _ rfl (fun hb4 => ?_) (fun hb4 => ?_)
    · replace hb4 := of_decide_eq_true hb4
      refine D.pass 37 rfl (by kernel_rfl) (fun _ h => h) (Wn.no rfl rfl rfl rfl) rfl rfl ?_
      refine D.pass 38 rfl (by kernel_rfl) (fun _ h => h) (Wn.no rfl rfl rfl rfl) rfl rfl ?_
      refine D.pass 39 rfl (by kernel_rfl) (fun _ h => h) (Wn.no rfl rfl rfl rfl) rfl rfl ?_
      refine D.pass 40 rfl (by kernel_rfl) (fun _ h => h) (Wn.no rfl rfl rfl rfl) rfl rfl ?_
      refine D.pass 41 rfl (by kernel_rfl) (fun _ h => h) (Wn.no rfl rfl rfl rfl) rfl rfl ?_
      refine D.pass 42 rfl (by kernel_rfl) (fun _ h => h) (Wn.no rfl rfl rfl rfl) rfl rfl ?_
      refine D.pass 43 rfl (by kernel_rfl) (fun _ h => h) (Wn.no rfl rfl rfl rfl) rfl rfl ?_
      refine D.take 44 rfl (by kernel_rfl) (fun _ h => h) (q_pickT rfl rfl rfl) (Wt.plain rfl) rfl rfl ?_
      refine D.done (by kernel_rfl) ?_
      refine Ex.next ?_
      refine W.slots (L' := [(0, _), (2, _), (3, _), (9, _), (60, _)]) ⟨rfl, rfl, rfl, rfl, rfl, trivial⟩ ?_
      refine W.condT rfl ?_
      refine W.seq ?_
      refine W.region ?_
      refine T.q (q_assign rfl rfl) (Wt.plain rfl) rfl rfl ?_
      refine T.nil ?_
      refine Ex.next ?_
      refine W.slots (L' := [(8, _)]) ⟨rfl, trivial⟩ ?_
      refine W.ret ?_
      refine Ex.then_ret ?_
      refine Ex.in_ret ?_
      refine Ex.then_ret ?_
      refine Ex.then_ret ?_
      refine Ex.in_ret ?_
      refine Ex.then_ret ?_
      refine Ex.out1 [] rfl rfl ?_
      exact ⟨congrArg Value.bool (decide_eq_false (by rw [risN_no hir (fun h => by have h1 := h.1; have h2 := h.2.1; have h3 := h.2.2; omega)]; decide)).symm, rfl⟩
    replace hb4 := of_decide_eq_false hb4
    refine D.take 37 rfl (by kernel_rfl) (fun _ h => h) (q_move rfl rfl) (Wt.yes rfl rfl rfl) rfl rfl ?_
    refine D.take 38 rfl (by kernel_rfl) (fun _ h => h) (q_move rfl rfl) (Wt.yes rfl rfl rfl) rfl rfl ?_
    refine D.take 39 rfl (by kernel_rfl) (fun _ h => h) (q_ixE sc56 i (R_ext hR.ext) rfl rfl rfl (by omega) (by omega) (by rw [ints_length, flat_length]; omega)) (Wt.yes rfl rfl rfl) rfl rfl ?_
    refine D.take 40 rfl (by kernel_rfl) (fun _ h => h) (q_fldE fl74_1 rfl rfl) (Wt.yes rfl rfl rfl) rfl rfl ?_
    refine D.take 41 rfl (by kernel_rfl) (fun _ h => h) (q_loadF ss3 (R_elem (R_ext hR.ext) (i * 2) 2 (flat_getV (by omega))) rfl rfl rfl) (Wt.yes rfl rfl rfl) rfl rfl ?_
    refine D.take 42 rfl (by kernel_rfl) (fun _ h => h) (q_move rfl rfl) (Wt.yes rfl rfl rfl) rfl rfl ?_
    refine D.take 43 rfl (by kernel_rfl) (fun _ h => h) (q_gtr rfl rfl rfl) (Wt.yes rfl rfl rfl) rfl rfl ?_
    refine D.take 44 rfl (by kernel_rfl) (fun _ h => h) (q_pickF rfl rfl rfl) (Wt.plain rfl) rfl rfl ?_
    refine D.done (by kernel_rfl) ?_
    refine Ex.next ?_
    refine W.slots (L' := [(0, _), (2, _), (3, _), (9, _), (60, _)]) ⟨rfl, rfl, rfl, rfl, rfl, trivial⟩ ?_
    refine W.cond _ rfl (fun hb5 => ?_) (fun hb5 => ?_)
    · replace hb5 := of_decide_eq_true hb5
      refine W.seq ?_
      refine W.region ?_
      refine T.q (q_assign rfl rfl) (Wt.plain rfl) rfl rfl ?_
      refine T.nil ?_
      refine Ex.next ?_
      refine W.slots (L' := [(8, _)]) ⟨rfl, trivial⟩ ?_
      refine W.ret ?_
      refine Ex.then_ret ?_
      refine Ex.in_ret ?_
      refine Ex.then_ret ?_
      refine Ex.then_ret ?_
      refine Ex.in_ret ?_
      refine Ex.then_ret ?_
      refine Ex.out1 [] rfl rfl ?_
      exact ⟨congrArg Value.bool (decide_eq_false (by rw [risN_no hir (fun h => by have h1 := h.1; have h2 := h.2.1; have h3 := h.2.2; omega)]; decide)).symm, rfl⟩
    replace hb5 := of_decide_eq_false hb5
    refine W.skip ?_
    refine Ex.next ?_
    refine W.slots (L' := [(0, _), (2, _), (3, _), (9, _)]) ⟨rfl, rfl, rfl, rfl, trivial⟩ ?_
    refine W.region ?_
    refine T.q (q_move rfl rfl) (Wt.plain rfl) rfl rfl ?_
    refine T.q (q_move rfl rfl) (Wt.plain rfl) rfl rfl ?_
    refine T.q (q_ixE sc56 i (R_ext hR.ext) rfl rfl rfl (by omega) (by omega) (by rw [ints_length, flat_length]; omega)) (Wt.plain rfl) rfl rfl ?_
    refine T.q (q_fldE fl74_1 rfl rfl) (Wt.plain rfl) rfl rfl ?_
    refine T.q (q_loadF ss3 (R_elem (R_ext hR.ext) (i * 2) 2 (flat_getV (by omega))) rfl rfl rfl) (Wt.plain rfl) rfl rfl ?_
    refine T.q (q_assign rfl rfl) (Wt.plain rfl) rfl rfl ?_
    refine T.nil ?_
    refine Ex.in_normal ?_
    refine Ex.next ?_
    refine W.slots (L' := [(0, _), (1, _), (2, _), (3, _), (9, _)]) ⟨rfl, rfl, rfl, rfl, rfl, trivial⟩ ?_
    refine W.region ?_
    refine T.q (q_move rfl rfl) (Wt.plain rfl) rfl rfl ?_
    refine T.q (q_addi rfl rfl rfl (by omega) (by omega)) (Wt.plain rfl) rfl rfl ?_
    refine T.q (q_assign rfl rfl) (Wt.plain rfl) rfl rfl ?_
    refine T.nil ?_
    exact Ex.again [] (⟨i + 1, (rs.getD i (0, 0)).2⟩ : Nat × Int) (by dsimp only; omega) ⟨by dsimp only; omega, (by dsimp only; rw [lastR_succ]), ris_step hall ⟨by omega, by omega, by omega⟩⟩ ⟨rfl, rfl, rfl, rfl, rfl, trivial⟩ (by first | (dsimp only [pick]; done) | rfl)
  replace hb1 := of_decide_eq_false hb1
  obtain rfl : i = rs.length := by omega
  refine W.exit ?_
  refine Ex.then_exit ?_
  refine Ex.then_exit ?_
  refine Ex.in_here ?_
  refine Ex.next ?_
  refine W.slots (L' := [(0, _)]) ⟨rfl, trivial⟩ ?_
  refine W.seq ?_
  refine W.region ?_
  refine T.q (q_move rfl rfl) (Wt.plain rfl) rfl rfl ?_
  refine T.q (q_len sc56 rfl rfl) (Wt.plain rfl) rfl rfl ?_
  refine T.q (q_leq rfl rfl rfl) (Wt.plain rfl) rfl rfl ?_
  refine T.q (q_assign rfl rfl) (Wt.plain rfl) rfl rfl ?_
  refine T.nil ?_
  refine Ex.next ?_
  refine W.slots (L' := [(8, _)]) ⟨rfl, trivial⟩ ?_
  refine W.ret ?_
  refine Ex.out1 [] rfl rfl ?_
  exact ⟨congrArg Value.bool (decide_eq_decide.2 (by rw [risN_end hall]; omega)), rfl⟩
set_option maxRecDepth 100000 in
theorem refris_at (rs : List (Int × Int)) (RA : Option Addr) (rc : Nat) (hrl : rs.length ≤ 9223372036854775807) (to : Int) (w0 : World) (hR : Reads w0 RA (ints .i64 (flat rs))) : Does Try.prog 67 #[.slice RA rs.length rc, .int .i64 0, .bool false, .int .i64 to] w0 [] (fun v G => v = .bool (decide (risN rs 0 to = 1)) ∧ G = []) := by
  refine spec_of 69 Try.func67 rfl rfl rfl ?_
  refine W.seq ?_
  refine W.region ?_
  refine T.q (q_assign rfl rfl) (Wt.plain rfl) rfl rfl ?_
  refine T.nil ?_
  refine Ex.next ?_
  refine W.slots (L' := [(0, _), (1, _), (2, _), (3, _)]) ⟨rfl, rfl, rfl, rfl, trivial⟩ ?_
  refine W.seq ?_
  refine W.seq ?_
  refine W.region ?_
  refine T.q (q_assign rfl rfl) (Wt.plain rfl) rfl rfl ?_
  refine T.nil ?_
  refine Ex.next ?_
  refine W.slots (L' := [(0, _), (1, _), (2, _), (3, _), (9, _)]) ⟨rfl, rfl, rfl, rfl, rfl, trivial⟩ ?_
  refine W.block ?_
  refine W.loop (α := Nat × Int) (fun x_ => [(0, .slice RA rs.length rc), (1, .int .i64 x_.2), (2, .bool false), (3, .int .i64 to), (9, .int .i64 ((x_.1 : Nat) : Int))]) (fun x_ => []) (fun x_ => x_.1 ≤ rs.length ∧ x_.2 = lastR 0 rs x_.1 ∧ ∀ q, q < x_.1 → risC rs 0 to q) (fun x_ => rs.length - x_.1) [] (⟨0, 0⟩ : Nat × Int) ⟨Nat.zero_le _, (rfl), fun q hq => absurd hq (Nat.not_lt_zero q)⟩ ⟨rfl, rfl, rfl, rfl, rfl, trivial⟩ rfl ?_
  rintro ⟨i, la⟩ hinv
  try dsimp only at hinv
  conv => rhs; dsimp only
  conv => arg -2; dsimp only
  obtain ⟨hi, hla, hall⟩ := hinv
  refine W.seq ?_
  refine W.seq ?_
  refine W.region ?_
  refine T.q (q_move rfl rfl) (Wt.plain rfl) rfl rfl ?_
  refine T.q (q_move rfl rfl) (Wt.plain rfl) rfl rfl ?_
  refine T.q (q_len sc56 rfl rfl) (Wt.plain rfl) rfl rfl ?_
  refine T.q (q_lss rfl rfl rfl) (Wt.plain rfl) rfl rfl ?_
  refine T.nil ?_
  refine Ex.next ?_
  refine W.slots (L' := [(0, _), (1, _), (2, _), (3, _), (9, _), (13, _)]) ⟨rfl, rfl, rfl, rfl, rfl, rfl, trivial⟩ ?_
  refine W.cond _ rfl (fun hb1 => ?_) (fun hb1 => ?_)
  · replace hb1 := of_decide_eq_true hb1
    have hir : i < rs.length := by omega
    have hl0 := lastR_cases rs i
    refine W.skip ?_
    refine Ex.next ?_
    refine W.slots (L' := [(0, _), (1, _), (2, _), (3, _), (9, _)]) ⟨rfl, rfl, rfl, rfl, rfl, trivial⟩ ?_
    refine W.seq ?_
    refine W.block ?_
    refine W.seq ?_
    refine W.seq ?_
    refine W.draw 45 (by kernel_rfl) ?_
    refine D.take 0 rfl (by kernel_rfl) (fun _ h => h) (q_move rfl rfl) (Wt.plain rfl) rfl rfl ?_
    refine D.take 1 rfl (by kernel_rfl) (fun _ h => h) (q_move rfl rfl) (Wt.plain rfl) rfl rfl ?_
    refine D.take 2 rfl (by kernel_rfl) (fun _ h => h) (q_ixE sc56 i (R_ext hR.ext) rfl rfl rfl (by omega) (by omega) (by rw [ints_length, flat_length]; omega)) (Wt.plain rfl) rfl rfl ?_
    refine D.take 3 rfl (by kernel_rfl) (fun _ h => h) (q_fldE fl74_0 rfl rfl) (Wt.plain rfl) rfl rfl ?_
    refine D.take 4 rfl (by kernel_rfl) (fun _ h => h) (q_loadF ss3 (R_elem (R_ext hR.ext) (i * 2) 2 (flat_getV (by omega))) rfl rfl rfl) (Wt.plain rfl) rfl rfl ?_
    refine D.take 5 rfl (by kernel_rfl) (fun _ h => h) (q_move rfl rfl) (Wt.plain rfl) rfl rfl ?_
    refine D.take 6 rfl (by kernel_rfl) (fun _ h => h) (q_lss rfl rfl rfl) (Wt.plain rfl) rfl rfl ?_
    refine D.take 7 rfl (by kernel_rfl) (fun _ h => h) (q_move rfl rfl) (Wt.plain rfl) rfl rfl ?_
    refine D.both (t := 23) _ rfl (fun hb2 => ?_) (fun hb2 => ?_)
    · replace hb2 := of_decide_eq_true hb2
      refine D.pass 8 rfl (by kernel_rfl) (fun _ h => h) (Wn.no rfl rfl rfl rfl) rfl rfl ?_
      refine D.pass 9 rfl (by kernel_rfl) (fun _ h => h) (Wn.no rfl rfl rfl rfl) rfl rfl ?_
      refine D.pass 10 rfl (by kernel_rfl) (fun _ h => h) (Wn.none rfl rfl rfl) rfl rfl ?_
      refine D.pass 11 rfl (by kernel_rfl) (fun _ h => h) (Wn.none rfl rfl rfl) rfl rfl ?_
      refine D.pass 12 rfl (by kernel_rfl) (fun _ h => h) (Wn.no rfl rfl rfl rfl) rfl rfl ?_
      refine D.pass 13 rfl (by kernel_rfl) (fun _ h => h) (Wn.no rfl rfl rfl rfl) rfl rfl ?_
      refine D.pass 14 rfl (by kernel_rfl) (fun _ h => h) (Wn.none rfl rfl rfl) rfl rfl ?_
      refine D.pass 15 rfl (by kernel_rfl) (fun _ h => h) (Wn.none rfl rfl rfl) rfl rfl ?_
      refine D.pass 16 rfl (by kernel_rfl) (fun _ h => h) (Wn.none rfl rfl rfl) rfl rfl ?_
      refine D.pass 17 rfl (by kernel_rfl) (fun _ h => h) (Wn.none rfl rfl rfl) rfl rfl ?_
      refine D.pass 18 rfl (by kernel_rfl) (fun _ h => h) (Wn.none rfl rfl rfl) rfl rfl ?_
      refine D.pass 19 rfl (by kernel_rfl) (fun _ h => h) (Wn.none rfl rfl rfl) rfl rfl ?_
      refine D.pass 20 rfl (by kernel_rfl) (fun _ h => h) (Wn.none rfl rfl rfl) rfl rfl ?_
      refine D.pass 21 rfl (by kernel_rfl) (fun _ h => h) (Wn.no rfl rfl rfl rfl) rfl rfl ?_
      refine D.take 22 rfl (by kernel_rfl) (fun _ h => h) (q_pickT rfl rfl rfl) (Wt.plain rfl) rfl rfl ?_
      refine D.take 23 rfl (by kernel_rfl) (fun _ h => h) (q_move rfl rfl) (Wt.plain rfl) rfl rfl ?_
      refine D.pass 24 rfl (by kernel_rfl) (fun _ h => h) (Wn.no rfl rfl rfl rfl) rfl rfl ?_
      refine D.pass 25 rfl (by kernel_rfl) (fun _ h => h) (Wn.no rfl rfl rfl rfl) rfl rfl ?_
      refine D.pass 26 rfl (by kernel_rfl) (fun _ h => h) (Wn.no rfl rfl rfl rfl) rfl rfl ?_
      refine D.pass 27 rfl (by kernel_rfl) (fun _ h => h) (Wn.no rfl rfl rfl rfl) rfl rfl ?_
      refine D.pass 28 rfl (by kernel_rfl) (fun _ h => h) (Wn.no rfl rfl rfl rfl) rfl rfl ?_
      refine D.pass 29 rfl (by kernel_rfl) (fun _ h => h) (Wn.no rfl rfl rfl rfl) rfl rfl ?_
      refine D.pass 30 rfl (by kernel_rfl) (fun _ h => h) (Wn.no rfl rfl rfl rfl) rfl rfl ?_
      refine D.pass 31 rfl (by kernel_rfl) (fun _ h => h) (Wn.no rfl rfl rfl rfl) rfl rfl ?_
      refine D.pass 32 rfl (by kernel_rfl) (fun _ h => h) (Wn.no rfl rfl rfl rfl) rfl rfl ?_
      refine D.pass 33 rfl (by kernel_rfl) (fun _ h => h) (Wn.no rfl rfl rfl rfl) rfl rfl ?_
      refine D.pass 34 rfl (by kernel_rfl) (fun _ h => h) (Wn.no rfl rfl rfl rfl) rfl rfl ?_
      refine D.take 35 rfl (by kernel_rfl) (fun _ h => h) (q_pickT rfl rfl rfl) (Wt.plain rfl) rfl rfl ?_
      refine D.take 36 rfl (by kernel_rfl) (fun _ h => h) (q_move rfl rfl) (Wt.plain rfl) rfl rfl ?_
      refine D.pass 37 rfl (by kernel_rfl) (fun _ h => h) (Wn.no rfl rfl rfl rfl) rfl rfl ?_
      refine D.pass 38 rfl (by kernel_rfl) (fun _ h => h) (Wn.no rfl rfl rfl rfl) rfl rfl ?_
      refine D.pass 39 rfl (by kernel_rfl) (fun _ h => h) (Wn.no rfl rfl rfl rfl) rfl rfl ?_
      refine D.pass 40 rfl (by kernel_rfl) (fun _ h => h) (Wn.no rfl rfl rfl rfl) rfl rfl ?_
      refine D.pass 41 rfl (by kernel_rfl) (fun _ h => h) (Wn.no rfl rfl rfl rfl) rfl rfl ?_
      refine D.pass 42 rfl (by kernel_rfl) (fun _ h => h) (Wn.no rfl rfl rfl rfl) rfl rfl ?_
      refine D.pass 43 rfl (by kernel_rfl) (fun _ h => h) (Wn.no rfl rfl rfl rfl) rfl rfl ?_
      refine D.take 44 rfl (by kernel_rfl) (fun _ h => h) (q_pickT rfl rfl rfl) (Wt.plain rfl) rfl rfl ?_
      refine D.done (by kernel_rfl) ?_
      refine Ex.next ?_
      refine W.slots (L' := [(0, _), (2, _), (3, _), (9, _), (60, _)]) ⟨rfl, rfl, rfl, rfl, rfl, trivial⟩ ?_
      refine W.condT rfl ?_
      refine W.seq ?_
      refine W.region ?_
      refine T.q (q_assign rfl rfl) (Wt.plain rfl) rfl rfl ?_
      refine T.nil ?_
      refine Ex.next ?_
      refine W.slots (L' := [(8, _)]) ⟨rfl, trivial⟩ ?_
      refine W.ret ?_
      refine Ex.then_ret ?_
      refine Ex.in_ret ?_
      refine Ex.then_ret ?_
      refine Ex.then_ret ?_
      refine Ex.in_ret ?_
      refine Ex.then_ret ?_
      refine Ex.out1 [] rfl rfl ?_
      exact ⟨congrArg Value.bool (decide_eq_false (by rw [risN_no hir (fun h => by have h1 := h.1; have h2 := h.2.1; have h3 := h.2.2; omega)]; decide)).symm, rfl⟩
    replace hb2 := of_decide_eq_false hb2
    refine D.take 8 rfl (by kernel_rfl) (fun _ h => h) (q_move rfl rfl) (Wt.yes rfl rfl rfl) rfl rfl ?_
    refine D.take 9 rfl (by kernel_rfl) (fun _ h => h) (q_move rfl rfl) (Wt.yes rfl rfl rfl) rfl rfl ?_
    refine D.take 10 rfl (by kernel_rfl) (fun _ h => h) (q_move rfl rfl) (Wt.yes rfl rfl rfl) rfl rfl ?_
    refine D.take 11 rfl (by kernel_rfl) (fun _ h => h) (q_gtr rfl rfl rfl) (Wt.yes rfl rfl rfl) rfl rfl ?_
    refine D.take 12 rfl (by kernel_rfl) (fun _ h => h) (q_pickF rfl rfl rfl) (Wt.yes rfl rfl rfl) rfl rfl ?_
    refine D.take 13 rfl (by kernel_rfl) (fun _ h => h) (q_move rfl rfl) (Wt.yes rfl rfl rfl) rfl rfl ?_
    refine D.both (t := 29) _ rfl (fun hb3 => ?_) (fun hb3 => ?_)
    · replace hb3 := of_decide_eq_true hb3
      refine D.take 14 rfl (by kernel_rfl) (fun _ h => h) (q_move rfl rfl) (Wt.yes rfl rfl rfl) rfl rfl ?_
      refine D.take 15 rfl (by kernel_rfl) (fun _ h => h) (q_move rfl rfl) (Wt.yes rfl rfl rfl) rfl rfl ?_
      refine D.take 16 rfl (by kernel_rfl) (fun _ h => h) (q_ixE sc56 i (R_ext hR.ext) rfl rfl rfl (by omega) (by omega) (by rw [ints_length, flat_length]; omega)) (Wt.yes rfl rfl rfl) rfl rfl ?_
      refine D.take 17 rfl (by kernel_rfl) (fun _ h => h) (q_fldE fl74_0 rfl rfl) (Wt.yes rfl rfl rfl) rfl rfl ?_
      refine D.take 18 rfl (by kernel_rfl) (fun _ h => h) (q_loadF ss3 (R_elem (R_ext hR.ext) (i * 2) 2 (flat_getV (by omega))) rfl rfl rfl) (Wt.yes rfl rfl rfl) rfl rfl ?_
      refine D.take 19 rfl (by kernel_rfl) (fun _ h => h) (q_move rfl rfl) (Wt.yes rfl rfl rfl) rfl rfl ?_
      refine D.take 20 rfl (by kernel_rfl) (fun _ h => h) (q_eql rfl rfl rfl) (Wt.yes rfl rfl rfl) rfl rfl ?_
      refine D.take 21 rfl (by kernel_rfl) (fun _ h => h) (q_pickT rfl rfl rfl) (Wt.yes rfl rfl rfl) rfl rfl ?_
      refine D.take 22 rfl (by kernel_rfl) (fun _ h => h) (q_pickF rfl rfl rfl) (Wt.plain rfl) rfl rfl ?_
      refine D.take 23 rfl (by kernel_rfl) (fun _ h => h) (q_move rfl rfl) (Wt.plain rfl) rfl rfl ?_
      refine D.both (t := 39) _ rfl (fun hb4 => ?_) (fun hb4 => ?_)
      · replace hb4 := of_decide_eq_true hb4
        refine D.pass 24 rfl (by kernel_rfl) (fun _ h => h) (Wn.no rfl rfl rfl rfl) rfl rfl ?_
        refine D.pass 25 rfl (by kernel_rfl) (fun _ h => h) (Wn.no rfl rfl rfl rfl) rfl rfl ?_
        refine D.pass 26 rfl (by kernel_rfl) (fun _ h => h) (Wn.no rfl rfl rfl rfl) rfl rfl ?_
        refine D.pass 27 rfl (by kernel_rfl) (fun _ h => h) (Wn.no rfl rfl rfl rfl) rfl rfl ?_
        refine D.pass 28 rfl (by kernel_rfl) (fun _ h => h) (Wn.no rfl rfl rfl rfl) rfl rfl ?_
        refine D.pass 29 rfl (by kernel_rfl) (fun _ h => h) (Wn.no rfl rfl rfl rfl) rfl rfl ?_
        refine D.pass 30 rfl (by kernel_rfl) (fun _ h => h) (Wn.no rfl rfl rfl rfl) rfl rfl ?_
        refine D.pass 31 rfl (by kernel_rfl) (fun _ h => h) (Wn.no rfl rfl rfl rfl) rfl rfl ?_
        refine D.pass 32 rfl (by kernel_rfl) (fun _ h => h) (Wn.no rfl rfl rfl rfl) rfl rfl ?_
        refine D.pass 33 rfl (by kernel_rfl) (fun _ h => h) (Wn.no rfl rfl rfl rfl) rfl rfl ?_
        refine D.pass 34 rfl (by kernel_rfl) (fun _ h => h) (Wn.no rfl rfl rfl rfl) rfl rfl ?_
        refine D.take 35 rfl (by kernel_rfl) (fun _ h => h) (q_pickT rfl rfl rfl) (Wt.plain rfl) rfl rfl ?_
        refine D.take 36 rfl (by kernel_rfl) (fun _ h => h) (q_move rfl rfl) (Wt.plain rfl) rfl rfl ?_
        refine D.pass 37 rfl (by kernel_rfl) (fun _ h => h) (Wn.no rfl rfl rfl rfl) rfl rfl ?_
        refine D.pass 38 rfl (by kernel_rfl) (fun _ h => h) (Wn.no rfl rfl rfl rfl) rfl rfl ?_
        refine D.pass 39 rfl (by kernel_rfl) (fun _ h => h) (Wn.no rfl rfl rfl rfl) rfl rfl ?_
        refine D.pass 40 rfl (by kernel_rfl) (fun _ h => h) (Wn.no rfl rfl rfl rfl) rfl rfl ?_
        refine D.pass 41 rfl (by kernel_rfl) (fun _ h => h) (Wn.no rfl rfl rfl rfl) rfl rfl ?_
        refine D.pass 42 rfl (by kernel_rfl) (fun _ h => h) (Wn.no rfl rfl rfl rfl) rfl rfl ?_
        refine D.pass 43 rfl (by kernel_rfl) (fun _ h => h) (Wn.no rfl rfl rfl rfl) rfl rfl ?_
        refine D.take 44 rfl (by kernel_rfl) (fun _ h => h) (q_pickT rfl rfl rfl) (Wt.plain rfl) rfl rfl ?_
        refine D.done (by kernel_rfl) ?_
        refine Ex.next ?_
        refine W.slots (L' := [(0, _), (2, _), (3, _), (9, _), (60, _)]) ⟨rfl, rfl, rfl, rfl, rfl, trivial⟩ ?_
        refine W.condT rfl ?_
        refine W.seq ?_
        refine W.region ?_
        refine T.q (q_assign rfl rfl) (Wt.plain rfl) rfl rfl ?_
        refine T.nil ?_
        refine Ex.next ?_
        refine W.slots (L' := [(8, _)]) ⟨rfl, trivial⟩ ?_
        refine W.ret ?_
        refine Ex.then_ret ?_
        refine Ex.in_ret ?_
        refine Ex.then_ret ?_
        refine Ex.then_ret ?_
        refine Ex.in_ret ?_
        refine Ex.then_ret ?_
        refine Ex.out1 [] rfl rfl ?_
        exact ⟨congrArg Value.bool (decide_eq_false (by rw [risN_no hir (fun h => by have h1 := h.1; have h2 := h.2.1; have h3 := h.2.2; omega)]; decide)).symm, rfl⟩
      replace hb4 := of_decide_eq_false hb4
      refine D.take 24 rfl (by kernel_rfl) (fun _ h => h) (q_move rfl rfl) (Wt.yes rfl rfl rfl) rfl rfl ?_
      refine D.take 25 rfl (by kernel_rfl) (fun _ h => h) (q_move rfl rfl) (Wt.yes rfl rfl rfl) rfl rfl ?_
      refine D.take 26 rfl (by kernel_rfl) (fun _ h => h) (q_ixE sc56 i (R_ext hR.ext) rfl rfl rfl (by omega) (by omega) (by rw [ints_length, flat_length]; omega)) (Wt.yes rfl rfl rfl) rfl rfl ?_
      refine D.take 27 rfl (by kernel_rfl) (fun _ h => h) (q_fldE fl74_1 rfl rfl) (Wt.yes rfl rfl rfl) rfl rfl ?_
      refine D.take 28 rfl (by kernel_rfl) (fun _ h => h) (q_loadF ss3 (R_elem (R_ext hR.ext) (i * 2) 2 (flat_getV (by omega))) rfl rfl rfl) (Wt.yes rfl rfl rfl) rfl rfl ?_
      refine D.take 29 rfl (by kernel_rfl) (fun _ h => h) (q_move rfl rfl) (Wt.yes rfl rfl rfl) rfl rfl ?_
      refine D.take 30 rfl (by kernel_rfl) (fun _ h => h) (q_move rfl rfl) (Wt.yes rfl rfl rfl) rfl rfl ?_
      refine D.take 31 rfl (by kernel_rfl) (fun _ h => h) (q_ixE sc56 i (R_ext hR.ext) rfl rfl rfl (by omega) (by omega) (by rw [ints_length, flat_length]; omega)) (Wt.yes rfl rfl rfl) rfl rfl ?_
      refine D.take 32 rfl (by kernel_rfl) (fun _ h => h) (q_fldE fl74_0 rfl rfl) (Wt.yes rfl rfl rfl) rfl rfl ?_
      refine D.take 33 rfl (by kernel_rfl) (fun _ h => h) (q_loadF ss3 (R_elem (R_ext hR.ext) (i * 2) 2 (flat_getV (by omega))) rfl rfl rfl) (Wt.yes rfl rfl rfl) rfl rfl ?_
      refine D.take 34 rfl (by kernel_rfl) (fun _ h => h) (q_leq rfl rfl rfl) (Wt.yes rfl rfl rfl) rfl rfl ?_
      refine D.take 35 rfl (by kernel_rfl) (fun _ h => h) (q_pickF rfl rfl rfl) (Wt.plain rfl) rfl rfl ?_
      refine D.take 36 rfl (by kernel_rfl) (fun _ h => h) (q_move rfl rfl) (Wt.plain rfl) rfl rfl ?_
      refine D.both (t := 52) _ rfl (fun hb5 => ?_) (fun hb5 => ?_)
      · replace hb5 := of_decide_eq_true hb5
        refine D.pass 37 rfl (by kernel_rfl) (fun _ h => h) (Wn.no rfl rfl rfl rfl) rfl rfl ?_
        refine D.pass 38 rfl (by kernel_rfl) (fun _ h => h) (Wn.no rfl rfl rfl rfl) rfl rfl ?_
        refine D.pass 39 rfl (by kernel_rfl) (fun _ h => h) (Wn.no rfl rfl rfl rfl) rfl rfl ?_
        refine D.pass 40 rfl (by kernel_rfl) (fun _ h => h) (Wn.no rfl rfl rfl rfl) rfl rfl ?_
        refine D.pass 41 rfl (by kernel_rfl) (fun _ h => h) (Wn.no rfl rfl rfl rfl) rfl rfl ?_
        refine D.pass 42 rfl (by kernel_rfl) (fun _ h => h) (Wn.no rfl rfl rfl rfl) rfl rfl ?_
        refine D.pass 43 rfl (by kernel_rfl) (fun _ h => h) (Wn.no rfl rfl rfl rfl) rfl rfl ?_
        refine D.take 44 rfl (by kernel_rfl) (fun _ h => h) (q_pickT rfl rfl rfl) (Wt.plain rfl) rfl rfl ?_
        refine D.done (by kernel_rfl) ?_
        refine Ex.next ?_
        refine W.slots (L' := [(0, _), (2, _), (3, _), (9, _), (60, _)]) ⟨rfl, rfl, rfl, rfl, rfl, trivial⟩ ?_
        refine W.condT rfl ?_
        refine W.seq ?_
        refine W.region ?_
        refine T.q (q_assign rfl rfl) (Wt.plain rfl) rfl rfl ?_
        refine T.nil ?_
        refine Ex.next ?_
        refine W.slots (L' := [(8, _)]) ⟨rfl, trivial⟩ ?_
        refine W.ret ?_
        refine Ex.then_ret ?_
        refine Ex.in_ret ?_
        refine Ex.then_ret ?_
        refine Ex.then_ret ?_
        refine Ex.in_ret ?_
        refine Ex.then_ret ?_
        refine Ex.out1 [] rfl rfl ?_
        exact ⟨congrArg Value.bool (decide_eq_false (by rw [risN_no hir (fun h => by have h1 := h.1; have h2 := h.2.1; have h3 := h.2.2; omega)]; decide)).symm, rfl⟩
      replace hb5 := of_decide_eq_false hb5
      refine D.take 37 rfl (by kernel_rfl) (fun _ h => h) (q_move rfl rfl) (Wt.yes rfl rfl rfl) rfl rfl ?_
      refine D.take 38 rfl (by kernel_rfl) (fun _ h => h) (q_move rfl rfl) (Wt.yes rfl rfl rfl) rfl rfl ?_
      refine D.take 39 rfl (by kernel_rfl) (fun _ h => h) (q_ixE sc56 i (R_ext hR.ext) rfl rfl rfl (by omega) (by omega) (by rw [ints_length, flat_length]; omega)) (Wt.yes rfl rfl rfl) rfl rfl ?_
      refine D.take 40 rfl (by kernel_rfl) (fun _ h => h) (q_fldE fl74_1 rfl rfl) (Wt.yes rfl rfl rfl) rfl rfl ?_
      refine D.take 41 rfl (by kernel_rfl) (fun _ h => h) (q_loadF ss3 (R_elem (R_ext hR.ext) (i * 2) 2 (flat_getV (by omega))) rfl rfl rfl) (Wt.yes rfl rfl rfl) rfl rfl ?_
      refine D.take 42 rfl (by kernel_rfl) (fun _ h => h) (q_move rfl rfl) (Wt.yes rfl rfl rfl) rfl rfl ?_
      refine D.take 43 rfl (by kernel_rfl) (fun _ h => h) (q_gtr rfl rfl rfl) (Wt.yes rfl rfl rfl) rfl rfl ?_
      refine D.take 44 rfl (by kernel_rfl) (fun _ h => h) (q_pickF rfl rfl rfl) (Wt.plain rfl) rfl rfl ?_
      refine D.done (by kernel_rfl) ?_
      refine Ex.next ?_
      refine W.slots (L' := [(0, _), (2, _), (3, _), (9, _), (60, _)]) ⟨rfl, rfl, rfl, rfl, rfl, trivial⟩ ?_
      refine W.cond _ rfl (fun hb6 => ?_) (fun hb6 => ?_)
      · replace hb6 := of_decide_eq_true hb6
        refine W.seq ?_
        refine W.region ?_
        refine T.q (q_assign rfl rfl) (Wt.plain rfl) rfl rfl ?_
        refine T.nil ?_
        refine Ex.next ?_
        refine W.slots (L' := [(8, _)]) ⟨rfl, trivial⟩ ?_
        refine W.ret ?_
        refine Ex.then_ret ?_
        refine Ex.in_ret ?_
        refine Ex.then_ret ?_
        refine Ex.then_ret ?_
        refine Ex.in_ret ?_
        refine Ex.then_ret ?_
        refine Ex.out1 [] rfl rfl ?_
        exact ⟨congrArg Value.bool (decide_eq_false (by rw [risN_no hir (fun h => by have h1 := h.1; have h2 := h.2.1; have h3 := h.2.2; omega)]; decide)).symm, rfl⟩
      replace hb6 := of_decide_eq_false hb6
      refine W.skip ?_
      refine Ex.next ?_
      refine W.slots (L' := [(0, _), (2, _), (3, _), (9, _)]) ⟨rfl, rfl, rfl, rfl, trivial⟩ ?_
      refine W.region ?_
      refine T.q (q_move rfl rfl) (Wt.plain rfl) rfl rfl ?_
      refine T.q (q_move rfl rfl) (Wt.plain rfl) rfl rfl ?_
      refine T.q (q_ixE sc56 i (R_ext hR.ext) rfl rfl rfl (by omega) (by omega) (by rw [ints_length, flat_length]; omega)) (Wt.plain rfl) rfl rfl ?_
      refine T.q (q_fldE fl74_1 rfl rfl) (Wt.plain rfl) rfl rfl ?_
      refine T.q (q_loadF ss3 (R_elem (R_ext hR.ext) (i * 2) 2 (flat_getV (by omega))) rfl rfl rfl) (Wt.plain rfl) rfl rfl ?_
      refine T.q (q_assign rfl rfl) (Wt.plain rfl) rfl rfl ?_
      refine T.nil ?_
      refine Ex.in_normal ?_
      refine Ex.next ?_
      refine W.slots (L' := [(0, _), (1, _), (2, _), (3, _), (9, _)]) ⟨rfl, rfl, rfl, rfl, rfl, trivial⟩ ?_
      refine W.region ?_
      refine T.q (q_move rfl rfl) (Wt.plain rfl) rfl rfl ?_
      refine T.q (q_addi rfl rfl rfl (by omega) (by omega)) (Wt.plain rfl) rfl rfl ?_
      refine T.q (q_assign rfl rfl) (Wt.plain rfl) rfl rfl ?_
      refine T.nil ?_
      exact Ex.again [] (⟨i + 1, (rs.getD i (0, 0)).2⟩ : Nat × Int) (by dsimp only; omega) ⟨by dsimp only; omega, (by dsimp only; rw [lastR_succ]), ris_step hall ⟨by omega, by omega, by omega⟩⟩ ⟨rfl, rfl, rfl, rfl, rfl, trivial⟩ (by first | (dsimp only [pick]; done) | rfl)
    replace hb3 := of_decide_eq_false hb3
    refine D.pass 14 rfl (by kernel_rfl) (fun _ h => h) (Wn.no rfl rfl rfl rfl) rfl rfl ?_
    refine D.pass 15 rfl (by kernel_rfl) (fun _ h => h) (Wn.no rfl rfl rfl rfl) rfl rfl ?_
    refine D.pass 16 rfl (by kernel_rfl) (fun _ h => h) (Wn.no rfl rfl rfl rfl) rfl rfl ?_
    refine D.pass 17 rfl (by kernel_rfl) (fun _ h => h) (Wn.no rfl rfl rfl rfl) rfl rfl ?_
    refine D.pass 18 rfl (by kernel_rfl) (fun _ h => h) (Wn.no rfl rfl rfl rfl) rfl rfl ?_
    refine D.pass 19 rfl (by kernel_rfl) (fun _ h => h) (Wn.no rfl rfl rfl rfl) rfl rfl ?_
    refine D.pass 20 rfl (by kernel_rfl) (fun _ h => h) (Wn.no rfl rfl rfl rfl) rfl rfl ?_
    refine D.take 21 rfl (by kernel_rfl) (fun _ h => h) (q_pickF rfl rfl rfl) (Wt.yes rfl rfl rfl) rfl rfl ?_
    refine D.take 22 rfl (by kernel_rfl) (fun _ h => h) (q_pickF rfl rfl rfl) (Wt.plain rfl) rfl rfl ?_
    refine D.take 23 rfl (by kernel_rfl) (fun _ h => h) (q_move rfl rfl) (Wt.plain rfl) rfl rfl ?_
    refine D.take 24 rfl (by kernel_rfl) (fun _ h => h) (q_move rfl rfl) (Wt.yes rfl rfl rfl) rfl rfl ?_
    refine D.take 25 rfl (by kernel_rfl) (fun _ h => h) (q_move rfl rfl) (Wt.yes rfl rfl rfl) rfl rfl ?_
    refine D.take 26 rfl (by kernel_rfl) (fun _ h => h) (q_ixE sc56 i (R_ext hR.ext) rfl rfl rfl (by omega) (by omega) (by rw [ints_length, flat_length]; omega)) (Wt.yes rfl rfl rfl) rfl rfl ?_
    refine D.take 27 rfl (by kernel_rfl) (fun _ h => h) (q_fldE fl74_1 rfl rfl) (Wt.yes rfl rfl rfl) rfl rfl ?_
    refine D.take 28 rfl (by kernel_rfl) (fun _ h => h) (q_loadF ss3 (R_elem (R_ext hR.ext) (i * 2) 2 (flat_getV (by omega))) rfl rfl rfl) (Wt.yes rfl rfl rfl) rfl rfl ?_
    refine D.take 29 rfl (by kernel_rfl) (fun _ h => h) (q_move rfl rfl) (Wt.yes rfl rfl rfl) rfl rfl ?_
    refine D.take 30 rfl (by kernel_rfl) (fun _ h => h) (q_move rfl rfl) (Wt.yes rfl rfl rfl) rfl rfl ?_
    refine D.take 31 rfl (by kernel_rfl) (fun _ h => h) (q_ixE sc56 i (R_ext hR.ext) rfl rfl rfl (by omega) (by omega) (by rw [ints_length, flat_length]; omega)) (Wt.yes rfl rfl rfl) rfl rfl ?_
    refine D.take 32 rfl (by kernel_rfl) (fun _ h => h) (q_fldE fl74_0 rfl rfl) (Wt.yes rfl rfl rfl) rfl rfl ?_
    refine D.take 33 rfl (by kernel_rfl) (fun _ h => h) (q_loadF ss3 (R_elem (R_ext hR.ext) (i * 2) 2 (flat_getV (by omega))) rfl rfl rfl) (Wt.yes rfl rfl rfl) rfl rfl ?_
    refine D.take 34 rfl (by kernel_rfl) (fun _ h => h) (q_leq rfl rfl rfl) (Wt.yes rfl rfl rfl) rfl rfl ?_
    refine D.take 35 rfl (by kernel_rfl) (fun _ h => h) (q_pickF rfl rfl rfl) (Wt.plain rfl) rfl rfl ?_
    refine D.take 36 rfl (by kernel_rfl) (fun _ h => h) (q_move rfl rfl) (Wt.plain rfl) rfl rfl ?_
    refine D.both (t := 52) _ rfl (fun hb7 => ?_) (fun hb7 => ?_)
    · replace hb7 := of_decide_eq_true hb7
      refine D.pass 37 rfl (by kernel_rfl) (fun _ h => h) (Wn.no rfl rfl rfl rfl) rfl rfl ?_
      refine D.pass 38 rfl (by kernel_rfl) (fun _ h => h) (Wn.no rfl rfl rfl rfl) rfl rfl ?_
      refine D.pass 39 rfl (by kernel_rfl) (fun _ h => h) (Wn.no rfl rfl rfl rfl) rfl rfl ?_
      refine D.pass 40 rfl (by kernel_rfl) (fun _ h => h) (Wn.no rfl rfl rfl rfl) rfl rfl ?_
      refine D.pass 41 rfl (by kernel_rfl) (fun _ h => h) (Wn.no rfl rfl rfl rfl) rfl rfl ?_
      refine D.pass 42 rfl (by kernel_rfl) (fun _ h => h) (Wn.no rfl rfl rfl rfl) rfl rfl ?_
      refine D.pass 43 rfl (by kernel_rfl) (fun _ h => h) (Wn.no rfl rfl rfl rfl) rfl rfl ?_
      refine D.take 44 rfl (by kernel_rfl) (fun _ h => h) (q_pickT rfl rfl rfl) (Wt.plain rfl) rfl rfl ?_
      refine D.done (by kernel_rfl) ?_
      refine Ex.next ?_
      refine W.slots (L' := [(0, _), (2, _), (3, _), (9, _), (60, _)]) ⟨rfl, rfl, rfl, rfl, rfl, trivial⟩ ?_
      refine W.condT rfl ?_
      refine W.seq ?_
      refine W.region ?_
      refine T.q (q_assign rfl rfl) (Wt.plain rfl) rfl rfl ?_
      refine T.nil ?_
      refine Ex.next ?_
      refine W.slots (L' := [(8, _)]) ⟨rfl, trivial⟩ ?_
      refine W.ret ?_
      refine Ex.then_ret ?_
      refine Ex.in_ret ?_
      refine Ex.then_ret ?_
      refine Ex.then_ret ?_
      refine Ex.in_ret ?_
      refine Ex.then_ret ?_
      refine Ex.out1 [] rfl rfl ?_
      exact ⟨congrArg Value.bool (decide_eq_false (by rw [risN_no hir (fun h => by have h1 := h.1; have h2 := h.2.1; have h3 := h.2.2; omega)]; decide)).symm, rfl⟩
    replace hb7 := of_decide_eq_false hb7
    refine D.take 37 rfl (by kernel_rfl) (fun _ h => h) (q_move rfl rfl) (Wt.yes rfl rfl rfl) rfl rfl ?_
    refine D.take 38 rfl (by kernel_rfl) (fun _ h => h) (q_move rfl rfl) (Wt.yes rfl rfl rfl) rfl rfl ?_
    refine D.take 39 rfl (by kernel_rfl) (fun _ h => h) (q_ixE sc56 i (R_ext hR.ext) rfl rfl rfl (by omega) (by omega) (by rw [ints_length, flat_length]; omega)) (Wt.yes rfl rfl rfl) rfl rfl ?_
    refine D.take 40 rfl (by kernel_rfl) (fun _ h => h) (q_fldE fl74_1 rfl rfl) (Wt.yes rfl rfl rfl) rfl rfl ?_
    refine D.take 41 rfl (by kernel_rfl) (fun _ h => h) (q_loadF ss3 (R_elem (R_ext hR.ext) (i * 2) 2 (flat_getV (by omega))) rfl rfl rfl) (Wt.yes rfl rfl rfl) rfl rfl ?_
    refine D.take 42 rfl (by kernel_rfl) (fun _ h => h) (q_move rfl rfl) (Wt.yes rfl rfl rfl) rfl rfl ?_
    refine D.take 43 rfl (by kernel_rfl) (fun _ h => h) (q_gtr rfl rfl rfl) (Wt.yes rfl rfl rfl) rfl rfl ?_
    refine D.take 44 rfl (by kernel_rfl) (fun _ h => h) (q_pickF rfl rfl rfl) (Wt.plain rfl) rfl rfl ?_
    refine D.done (by kernel_rfl) ?_
    refine Ex.next ?_
    refine W.slots (L' := [(0, _), (2, _), (3, _), (9, _), (60, _)]) ⟨rfl, rfl, rfl, rfl, rfl, trivial⟩ ?_
    refine W.cond _ rfl (fun hb8 => ?_) (fun hb8 => ?_)
    · replace hb8 := of_decide_eq_true hb8
      refine W.seq ?_
      refine W.region ?_
      refine T.q (q_assign rfl rfl) (Wt.plain rfl) rfl rfl ?_
      refine T.nil ?_
      refine Ex.next ?_
      refine W.slots (L' := [(8, _)]) ⟨rfl, trivial⟩ ?_
      refine W.ret ?_
      refine Ex.then_ret ?_
      refine Ex.in_ret ?_
      refine Ex.then_ret ?_
      refine Ex.then_ret ?_
      refine Ex.in_ret ?_
      refine Ex.then_ret ?_
      refine Ex.out1 [] rfl rfl ?_
      exact ⟨congrArg Value.bool (decide_eq_false (by rw [risN_no hir (fun h => by have h1 := h.1; have h2 := h.2.1; have h3 := h.2.2; omega)]; decide)).symm, rfl⟩
    replace hb8 := of_decide_eq_false hb8
    refine W.skip ?_
    refine Ex.next ?_
    refine W.slots (L' := [(0, _), (2, _), (3, _), (9, _)]) ⟨rfl, rfl, rfl, rfl, trivial⟩ ?_
    refine W.region ?_
    refine T.q (q_move rfl rfl) (Wt.plain rfl) rfl rfl ?_
    refine T.q (q_move rfl rfl) (Wt.plain rfl) rfl rfl ?_
    refine T.q (q_ixE sc56 i (R_ext hR.ext) rfl rfl rfl (by omega) (by omega) (by rw [ints_length, flat_length]; omega)) (Wt.plain rfl) rfl rfl ?_
    refine T.q (q_fldE fl74_1 rfl rfl) (Wt.plain rfl) rfl rfl ?_
    refine T.q (q_loadF ss3 (R_elem (R_ext hR.ext) (i * 2) 2 (flat_getV (by omega))) rfl rfl rfl) (Wt.plain rfl) rfl rfl ?_
    refine T.q (q_assign rfl rfl) (Wt.plain rfl) rfl rfl ?_
    refine T.nil ?_
    refine Ex.in_normal ?_
    refine Ex.next ?_
    refine W.slots (L' := [(0, _), (1, _), (2, _), (3, _), (9, _)]) ⟨rfl, rfl, rfl, rfl, rfl, trivial⟩ ?_
    refine W.region ?_
    refine T.q (q_move rfl rfl) (Wt.plain rfl) rfl rfl ?_
    refine T.q (q_addi rfl rfl rfl (by omega) (by omega)) (Wt.plain rfl) rfl rfl ?_
    refine T.q (q_assign rfl rfl) (Wt.plain rfl) rfl rfl ?_
    refine T.nil ?_
    exact Ex.again [] (⟨i + 1, (rs.getD i (0, 0)).2⟩ : Nat × Int) (by dsimp only; omega) ⟨by dsimp only; omega, (by dsimp only; rw [lastR_succ]), ris_step hall ⟨by omega, by omega, by omega⟩⟩ ⟨rfl, rfl, rfl, rfl, rfl, trivial⟩ (by first | (dsimp only [pick]; done) | rfl)
  replace hb1 := of_decide_eq_false hb1
  obtain rfl : i = rs.length := by omega
  refine W.exit ?_
  refine Ex.then_exit ?_
  refine Ex.then_exit ?_
  refine Ex.in_here ?_
  refine Ex.next ?_
  refine W.slots (L' := [(0, _)]) ⟨rfl, trivial⟩ ?_
  refine W.seq ?_
  refine W.region ?_
  refine T.q (q_move rfl rfl) (Wt.plain rfl) rfl rfl ?_
  refine T.q (q_len sc56 rfl rfl) (Wt.plain rfl) rfl rfl ?_
  refine T.q (q_leq rfl rfl rfl) (Wt.plain rfl) rfl rfl ?_
  refine T.q (q_assign rfl rfl) (Wt.plain rfl) rfl rfl ?_
  refine T.nil ?_
  refine Ex.next ?_
  refine W.slots (L' := [(8, _)]) ⟨rfl, trivial⟩ ?_
  refine W.ret ?_
  refine Ex.out1 [] rfl rfl ?_
  exact ⟨congrArg Value.bool (decide_eq_decide.2 (by rw [risN_end hall]; omega)), rfl⟩
set_option maxRecDepth 100000 in
theorem chk_1 (a l : Int) (rs : List (Int × Int)) (bs tok : List Int) (RA BA : Option Addr) (rc bc : Nat) (_hrl : rs.length ≤ 9223372036854775807) (htok : tok.length = 8) (w0 : World) (_hR : Reads w0 RA (ints .i64 (flat rs))) : Does Try.prog 47 #[.agg (.int .i64 1 :: (.int .i64 a :: (.int .i64 l :: (.slice RA rs.length rc :: (.slice BA bs.length bc :: (ints .u8 tok)))))).toArray] w0 [] (fun v G => v = .int .i64 (chkE ⟨1, a, l, rs, bs, tok⟩) ∧ G = []) := by
  refine spec_of 112 Try.func47 rfl rfl rfl ?_
  refine W.seq ?_
  refine W.region ?_
  refine T.eff (e_box rfl rfl rfl rfl) (Wt.plain rfl) ?_
  rintro _ _ ⟨k1, rfl, rfl⟩
  change (_ : List Blk → Prop) [_]
  change (_ : List Blk → Prop) [⟨some k1, .int .i64 1 :: (.int .i64 a :: (.int .i64 l :: (.slice RA rs.length rc :: (.slice BA bs.length bc :: (ints .u8 tok))))), 59, (0, 0)⟩]
  refine T.q (q_assign rfl rfl) (Wt.plain rfl) rfl rfl ?_
  refine T.nil ?_
  refine Ex.next ?_
  refine W.slots (L' := [(1, _)]) ⟨rfl, trivial⟩ ?_
  refine W.seq ?_
  refine W.region ?_
  refine T.q (q_loadW (wd59.trans (congrArg some (by first | (simp; done) | (simp; omega)))) (R_blk 0 rfl) rfl rfl) (Wt.plain rfl) rfl rfl ?_
  refine T.eff (e_alloc ze59 rfl rfl rfl) (Wt.plain rfl) ?_
  rintro _ _ ⟨k2, rfl, rfl⟩
  change (_ : List Blk → Prop) [_, _]
  refine T.eff (e_storeA (wd59.trans (congrArg some (by first | (simp; done) | (simp; omega)))) 1 rfl rfl rfl rfl (by first | (simp; done) | (simp; omega)) (one_cons rfl (one_cons rfl (one_cons rfl (one_cons rfl (one_cons rfl (ints_one)))))) rfl) (Wt.plain rfl) ?_
  rintro _ _ ⟨rfl, rfl⟩
  change (_ : List Blk → Prop) [_, _]
  refine T.nil ?_
  refine Ex.next ?_
  refine W.slots (L' := [(1, _), (3, _)]) ⟨rfl, rfl, trivial⟩ ?_
  refine W.seq ?_
  refine W.region ?_
  refine T.q (q_fld fl59_0 rfl rfl) (Wt.plain rfl) rfl rfl ?_
  refine T.eff (e_storeP1 ss3 1 rfl rfl rfl rfl (by first | (simp; done) | (simp; omega)) rfl (rfl) rfl) (Wt.plain rfl) ?_
  rintro _ _ ⟨rfl, rfl⟩
  change (_ : List Blk → Prop) [_, _]
  refine T.q (q_fld fl59_1 rfl rfl) (Wt.plain rfl) rfl rfl ?_
  refine T.eff (e_storeP1 ss3 1 rfl rfl rfl rfl (by first | (simp; done) | (simp; omega)) rfl (set_skip1 (rfl)) rfl) (Wt.plain rfl) ?_
  rintro _ _ ⟨rfl, rfl⟩
  change (_ : List Blk → Prop) [_, _]
  refine T.nil ?_
  refine Ex.next ?_
  refine W.slots (L' := [(1, _), (3, _)]) ⟨rfl, rfl, trivial⟩ ?_
  refine W.seq ?_
  refine W.region ?_
  refine T.q (q_fld fl59_1 rfl rfl) (Wt.plain rfl) rfl rfl ?_
  refine T.q (q_load1 ss3 0 rfl rfl rfl (cell_skip1 (rfl))) (Wt.plain rfl) rfl rfl ?_
  refine T.eff (e_call enters64 rfl rfl (fun w hm => num_spec a w) rfl rfl) (Wt.plain rfl) ?_
  rintro _ _ ⟨_, _, ⟨rfl, rfl⟩, rfl, rfl⟩
  change (_ : List Blk → Prop) [_, _]
  refine T.q (q_assign rfl rfl) (Wt.plain rfl) rfl rfl ?_
  refine T.nil ?_
  refine Ex.next ?_
  refine W.slots (L' := [(1, _), (3, _), (4, _)]) ⟨rfl, rfl, rfl, trivial⟩ ?_
  refine W.seq ?_
  refine W.seq ?_
  refine W.region ?_
  refine T.q (q_fld fl59_0 rfl rfl) (Wt.plain rfl) rfl rfl ?_
  refine T.q (q_load1 ss3 0 rfl rfl rfl (rfl)) (Wt.plain rfl) rfl rfl ?_
  refine T.nil ?_
  refine Ex.next ?_
  refine W.slots (L' := [(1, _), (3, _), (4, _), (12, _)]) ⟨rfl, rfl, rfl, rfl, trivial⟩ ?_
  refine W.block ?_
  refine W.seq ?_
  refine W.region ?_
  refine T.q (q_bool (b := true) (q_eql rfl rfl rfl) (decide_eq_true (by decide))) (Wt.plain rfl) rfl rfl ?_
  refine T.q (q_assign rfl rfl) (Wt.plain rfl) rfl rfl ?_
  refine T.nil ?_
  refine Ex.next ?_
  refine W.slots (L' := [(1, _), (3, _), (4, _), (12, _), (13, _)]) ⟨rfl, rfl, rfl, rfl, rfl, trivial⟩ ?_
  refine W.condT rfl ?_
  refine W.seq ?_
  refine W.region ?_
  refine T.q (q_move rfl rfl) (Wt.plain rfl) rfl rfl ?_
  refine T.q (q_move rfl rfl) (Wt.plain rfl) rfl rfl ?_
  refine T.both (t := 16) _ rfl (fun hb3 => ?_) (fun hb3 => ?_)
  · replace hb3 := of_decide_eq_true hb3
    refine T.q (q_fld fl59_4 rfl rfl) (Wt.yes rfl rfl rfl) rfl rfl ?_
    refine T.q (q_load1 ss22 0 rfl rfl rfl (cell_skip1 (cell_skip1 (cell_skip1 (cell_skip1 (rfl)))))) (Wt.yes rfl rfl rfl) rfl rfl ?_
    refine T.q (q_len sc22 rfl rfl) (Wt.yes rfl rfl rfl) rfl rfl ?_
    refine T.q (q_geq rfl rfl rfl) (Wt.yes rfl rfl rfl) rfl rfl ?_
    refine T.q (q_pickT rfl rfl rfl) (Wt.plain rfl) rfl rfl ?_
    refine T.q (q_move rfl rfl) (Wt.plain rfl) rfl rfl ?_
    refine T.both (t := 22) _ rfl (fun hb4 => ?_) (fun hb4 => ?_)
    · replace hb4 := of_decide_eq_true hb4
      refine T.q (q_fld fl59_4 rfl rfl) (Wt.yes rfl rfl rfl) rfl rfl ?_
      refine T.q (q_load1 ss22 0 rfl rfl rfl (cell_skip1 (cell_skip1 (cell_skip1 (cell_skip1 (rfl)))))) (Wt.yes rfl rfl rfl) rfl rfl ?_
      refine T.q (q_len sc22 rfl rfl) (Wt.yes rfl rfl rfl) rfl rfl ?_
      refine T.q (q_leq rfl rfl rfl) (Wt.yes rfl rfl rfl) rfl rfl ?_
      refine T.q (q_pickT rfl rfl rfl) (Wt.plain rfl) rfl rfl ?_
      refine T.q (q_assign rfl rfl) (Wt.plain rfl) rfl rfl ?_
      refine T.nil ?_
      refine Ex.next ?_
      refine W.less (L' := [(3, _), (4, _)]) [false, true] ⟨rfl, rfl, trivial⟩ ?_
      change (_ : List Blk → Prop) [_]
      refine W.region ?_
      refine T.q (q_fld fl59_4 rfl rfl) (Wt.plain rfl) rfl rfl ?_
      refine T.eff (e_storeP1 ss22 0 rfl rfl rfl rfl (by first | (simp; done) | (simp; omega)) rfl (set_skip1 (set_skip1 (set_skip1 (set_skip1 (rfl))))) rfl) (Wt.plain rfl) ?_
      rintro _ _ ⟨rfl, rfl⟩
      change (_ : List Blk → Prop) [_]
      refine T.nil ?_
      refine Ex.in_normal ?_
      refine Ex.next ?_
      refine W.slots (L' := [(3, _), (4, _)]) ⟨rfl, rfl, trivial⟩ ?_
      refine W.seq ?_
      refine W.seq ?_
      refine W.region ?_
      refine T.q (q_move rfl rfl) (Wt.plain rfl) rfl rfl ?_
      refine T.q (q_bool (q_not rfl rfl) (decide_not (p := (((bs.length : Nat) : Int) ≤ 128))).symm) (Wt.plain rfl) rfl rfl ?_
      refine T.q (q_move rfl rfl) (Wt.plain rfl) rfl rfl ?_
      refine T.both (t := 89) _ rfl (fun hb5 => ?_) (fun hb5 => ?_)
      · replace hb5 := of_decide_eq_true hb5
        refine T.no (Wn.no rfl rfl rfl rfl) rfl rfl ?_
        refine T.no (Wn.no rfl rfl rfl rfl) rfl rfl ?_
        refine T.no (Wn.no rfl rfl rfl rfl) rfl rfl ?_
        refine T.q (q_pickT rfl rfl rfl) (Wt.plain rfl) rfl rfl ?_
        refine T.q (q_move rfl rfl) (Wt.plain rfl) rfl rfl ?_
        refine T.no (Wn.no rfl rfl rfl rfl) rfl rfl ?_
        refine T.no (Wn.no rfl rfl rfl rfl) rfl rfl ?_
        refine T.no (Wn.no rfl rfl rfl rfl) rfl rfl ?_
        refine T.no (Wn.no rfl rfl rfl rfl) rfl rfl ?_
        refine T.q (q_pickT rfl rfl rfl) (Wt.plain rfl) rfl rfl ?_
        refine T.q (q_move rfl rfl) (Wt.plain rfl) rfl rfl ?_
        refine T.no (Wn.no rfl rfl rfl rfl) rfl rfl ?_
        refine T.no (Wn.no rfl rfl rfl rfl) rfl rfl ?_
        refine T.no (Wn.no rfl rfl rfl rfl) rfl rfl ?_
        refine T.no (Wn.no rfl rfl rfl rfl) rfl rfl ?_
        refine T.q (q_pickT rfl rfl rfl) (Wt.plain rfl) rfl rfl ?_
        refine T.q (q_move rfl rfl) (Wt.plain rfl) rfl rfl ?_
        refine T.no (Wn.no rfl rfl rfl rfl) rfl rfl ?_
        refine T.no (Wn.no rfl rfl rfl rfl) rfl rfl ?_
        refine T.no (Wn.no rfl rfl rfl rfl) rfl rfl ?_
        refine T.no (Wn.no rfl rfl rfl rfl) rfl rfl ?_
        refine T.q (q_pickT rfl rfl rfl) (Wt.plain rfl) rfl rfl ?_
        refine T.nil ?_
        refine Ex.next ?_
        refine W.less (L' := [(111, _)]) [false] ⟨rfl, trivial⟩ ?_
        change (_ : List Blk → Prop) []
        refine W.condT rfl ?_
        refine W.seq ?_
        refine W.region ?_
        refine T.q (q_assign rfl rfl) (Wt.plain rfl) rfl rfl ?_
        refine T.nil ?_
        refine Ex.next ?_
        refine W.slots (L' := [(2, _)]) ⟨rfl, trivial⟩ ?_
        refine W.ret ?_
        refine Ex.then_ret ?_
        refine Ex.out1 [] rfl rfl ?_
        exact ⟨congrArg (Value.int .i64) (chkE_no (f := ⟨1, a, l, rs, bs, tok⟩) fun (h : mayN 1 a l bs.length rs.length (risN rs (a + 1) 4611686018427387903) (risN rs 0 a) (tokN tok)) => by unfold mayN at h; omega).symm, rfl⟩
      replace hb5 := of_decide_eq_false hb5
      refine T.q (q_fld fl59_2 rfl rfl) (Wt.yes rfl rfl rfl) rfl rfl ?_
      refine T.q (q_load1 ss3 0 rfl rfl rfl (cell_skip1 (cell_skip1 (rfl)))) (Wt.yes rfl rfl rfl) rfl rfl ?_
      refine T.q (q_neq rfl rfl rfl) (Wt.yes rfl rfl rfl) rfl rfl ?_
      refine T.q (q_pickF rfl rfl rfl) (Wt.plain rfl) rfl rfl ?_
      refine T.q (q_move rfl rfl) (Wt.plain rfl) rfl rfl ?_
      refine T.both (t := 94) _ rfl (fun hb6 => ?_) (fun hb6 => ?_)
      · replace hb6 := of_decide_eq_true hb6
        refine T.no (Wn.no rfl rfl rfl rfl) rfl rfl ?_
        refine T.no (Wn.no rfl rfl rfl rfl) rfl rfl ?_
        refine T.no (Wn.no rfl rfl rfl rfl) rfl rfl ?_
        refine T.no (Wn.no rfl rfl rfl rfl) rfl rfl ?_
        refine T.q (q_pickT rfl rfl rfl) (Wt.plain rfl) rfl rfl ?_
        refine T.q (q_move rfl rfl) (Wt.plain rfl) rfl rfl ?_
        refine T.no (Wn.no rfl rfl rfl rfl) rfl rfl ?_
        refine T.no (Wn.no rfl rfl rfl rfl) rfl rfl ?_
        refine T.no (Wn.no rfl rfl rfl rfl) rfl rfl ?_
        refine T.no (Wn.no rfl rfl rfl rfl) rfl rfl ?_
        refine T.q (q_pickT rfl rfl rfl) (Wt.plain rfl) rfl rfl ?_
        refine T.q (q_move rfl rfl) (Wt.plain rfl) rfl rfl ?_
        refine T.no (Wn.no rfl rfl rfl rfl) rfl rfl ?_
        refine T.no (Wn.no rfl rfl rfl rfl) rfl rfl ?_
        refine T.no (Wn.no rfl rfl rfl rfl) rfl rfl ?_
        refine T.no (Wn.no rfl rfl rfl rfl) rfl rfl ?_
        refine T.q (q_pickT rfl rfl rfl) (Wt.plain rfl) rfl rfl ?_
        refine T.nil ?_
        refine Ex.next ?_
        refine W.less (L' := [(111, _)]) [false] ⟨rfl, trivial⟩ ?_
        change (_ : List Blk → Prop) []
        refine W.condT rfl ?_
        refine W.seq ?_
        refine W.region ?_
        refine T.q (q_assign rfl rfl) (Wt.plain rfl) rfl rfl ?_
        refine T.nil ?_
        refine Ex.next ?_
        refine W.slots (L' := [(2, _)]) ⟨rfl, trivial⟩ ?_
        refine W.ret ?_
        refine Ex.then_ret ?_
        refine Ex.out1 [] rfl rfl ?_
        exact ⟨congrArg (Value.int .i64) (chkE_no (f := ⟨1, a, l, rs, bs, tok⟩) fun (h : mayN 1 a l bs.length rs.length (risN rs (a + 1) 4611686018427387903) (risN rs 0 a) (tokN tok)) => by unfold mayN at h; omega).symm, rfl⟩
      replace hb6 := of_decide_eq_false hb6
      refine T.q (q_fld fl59_4 rfl rfl) (Wt.yes rfl rfl rfl) rfl rfl ?_
      refine T.q (q_load1 ss22 0 rfl rfl rfl (cell_skip1 (cell_skip1 (cell_skip1 (cell_skip1 (rfl)))))) (Wt.yes rfl rfl rfl) rfl rfl ?_
      refine T.q (q_len sc22 rfl rfl) (Wt.yes rfl rfl rfl) rfl rfl ?_
      refine T.q (q_gtr rfl rfl rfl) (Wt.yes rfl rfl rfl) rfl rfl ?_
      refine T.q (q_pickF rfl rfl rfl) (Wt.plain rfl) rfl rfl ?_
      refine T.q (q_move rfl rfl) (Wt.plain rfl) rfl rfl ?_
      refine T.both (t := 100) _ rfl (fun hb7 => ?_) (fun hb7 => ?_)
      · replace hb7 := of_decide_eq_true hb7
        refine T.no (Wn.no rfl rfl rfl rfl) rfl rfl ?_
        refine T.no (Wn.no rfl rfl rfl rfl) rfl rfl ?_
        refine T.no (Wn.no rfl rfl rfl rfl) rfl rfl ?_
        refine T.no (Wn.no rfl rfl rfl rfl) rfl rfl ?_
        refine T.q (q_pickT rfl rfl rfl) (Wt.plain rfl) rfl rfl ?_
        refine T.q (q_move rfl rfl) (Wt.plain rfl) rfl rfl ?_
        refine T.no (Wn.no rfl rfl rfl rfl) rfl rfl ?_
        refine T.no (Wn.no rfl rfl rfl rfl) rfl rfl ?_
        refine T.no (Wn.no rfl rfl rfl rfl) rfl rfl ?_
        refine T.no (Wn.no rfl rfl rfl rfl) rfl rfl ?_
        refine T.q (q_pickT rfl rfl rfl) (Wt.plain rfl) rfl rfl ?_
        refine T.nil ?_
        refine Ex.next ?_
        refine W.less (L' := [(111, _)]) [false] ⟨rfl, trivial⟩ ?_
        change (_ : List Blk → Prop) []
        refine W.condT rfl ?_
        refine W.seq ?_
        refine W.region ?_
        refine T.q (q_assign rfl rfl) (Wt.plain rfl) rfl rfl ?_
        refine T.nil ?_
        refine Ex.next ?_
        refine W.slots (L' := [(2, _)]) ⟨rfl, trivial⟩ ?_
        refine W.ret ?_
        refine Ex.then_ret ?_
        refine Ex.out1 [] rfl rfl ?_
        exact ⟨congrArg (Value.int .i64) (chkE_no (f := ⟨1, a, l, rs, bs, tok⟩) fun (h : mayN 1 a l bs.length rs.length (risN rs (a + 1) 4611686018427387903) (risN rs 0 a) (tokN tok)) => by unfold mayN at h; omega).symm, rfl⟩
      replace hb7 := of_decide_eq_false hb7
      refine T.q (q_fld fl59_3 rfl rfl) (Wt.yes rfl rfl rfl) rfl rfl ?_
      refine T.q (q_load1 ss56 0 rfl rfl rfl (cell_skip1 (cell_skip1 (cell_skip1 (rfl))))) (Wt.yes rfl rfl rfl) rfl rfl ?_
      refine T.q (q_len sc56 rfl rfl) (Wt.yes rfl rfl rfl) rfl rfl ?_
      refine T.q (q_gtr rfl rfl rfl) (Wt.yes rfl rfl rfl) rfl rfl ?_
      refine T.q (q_pickF rfl rfl rfl) (Wt.plain rfl) rfl rfl ?_
      refine T.q (q_move rfl rfl) (Wt.plain rfl) rfl rfl ?_
      refine T.both (t := 106) _ rfl (fun hb8 => ?_) (fun hb8 => ?_)
      · replace hb8 := of_decide_eq_true hb8
        refine T.no (Wn.no rfl rfl rfl rfl) rfl rfl ?_
        refine T.no (Wn.no rfl rfl rfl rfl) rfl rfl ?_
        refine T.no (Wn.no rfl rfl rfl rfl) rfl rfl ?_
        refine T.no (Wn.no rfl rfl rfl rfl) rfl rfl ?_
        refine T.q (q_pickT rfl rfl rfl) (Wt.plain rfl) rfl rfl ?_
        refine T.nil ?_
        refine Ex.next ?_
        refine W.less (L' := [(111, _)]) [false] ⟨rfl, trivial⟩ ?_
        change (_ : List Blk → Prop) []
        refine W.condT rfl ?_
        refine W.seq ?_
        refine W.region ?_
        refine T.q (q_assign rfl rfl) (Wt.plain rfl) rfl rfl ?_
        refine T.nil ?_
        refine Ex.next ?_
        refine W.slots (L' := [(2, _)]) ⟨rfl, trivial⟩ ?_
        refine W.ret ?_
        refine Ex.then_ret ?_
        refine Ex.out1 [] rfl rfl ?_
        exact ⟨congrArg (Value.int .i64) (chkE_no (f := ⟨1, a, l, rs, bs, tok⟩) fun (h : mayN 1 a l bs.length rs.length (risN rs (a + 1) 4611686018427387903) (risN rs 0 a) (tokN tok)) => by unfold mayN at h; omega).symm, rfl⟩
      replace hb8 := of_decide_eq_false hb8
      refine T.q (q_fld fl59_5 rfl rfl) (Wt.yes rfl rfl rfl) rfl rfl ?_
      refine T.q (q_loadW (wide_ints wd57 (by first | omega | (simp; done) | (simp [-List.getD_eq_getElem?_getD]; omega) | (simp at *; omega) | rfl)) (R_at 0 5 8 rfl (part_skip1 (part_skip1 (part_skip1 (part_skip1 (part_skip1 (part_last (by first | omega | (simp; done) | (simp [-List.getD_eq_getElem?_getD]; omega) | (simp at *; omega) | rfl)))))))) rfl rfl) (Wt.yes rfl rfl rfl) rfl rfl ?_
      refine T.q (q_build (v := .agg (ints .u8 (List.replicate 8 0)).toArray) rfl rfl (fun _ => by kernel_rfl)) (Wt.yes rfl rfl rfl) rfl rfl ?_
      refine T.q (q_bool (b := decide (tokN tok ≠ 1)) (q_neqA ar57 ss5 un5 eg57 rfl rfl rfl (by first | omega | (simp; done) | (simp [-List.getD_eq_getElem?_getD]; omega) | (simp at *; omega) | rfl) (by first | omega | (simp; done) | (simp [-List.getD_eq_getElem?_getD]; omega) | (simp at *; omega) | rfl)) ?hE) (Wt.yes rfl rfl rfl) rfl rfl ?_
      case hE => exact tok_neq
      refine T.q (q_pickF rfl rfl rfl) (Wt.plain rfl) rfl rfl ?_
      refine T.nil ?_
      refine Ex.next ?_
      refine W.less (L' := [(111, _)]) [false] ⟨rfl, trivial⟩ ?_
      change (_ : List Blk → Prop) []
      refine W.cond _ rfl (fun hb9 => ?_) (fun hb9 => ?_)
      · replace hb9 := of_decide_eq_true hb9
        refine W.seq ?_
        refine W.region ?_
        refine T.q (q_assign rfl rfl) (Wt.plain rfl) rfl rfl ?_
        refine T.nil ?_
        refine Ex.next ?_
        refine W.slots (L' := [(2, _)]) ⟨rfl, trivial⟩ ?_
        refine W.ret ?_
        refine Ex.then_ret ?_
        refine Ex.out1 [] rfl rfl ?_
        exact ⟨congrArg (Value.int .i64) (chkE_no (f := ⟨1, a, l, rs, bs, tok⟩) fun (h : mayN 1 a l bs.length rs.length (risN rs (a + 1) 4611686018427387903) (risN rs 0 a) (tokN tok)) => by unfold mayN at h; omega).symm, rfl⟩
      replace hb9 := of_decide_eq_false hb9
      refine W.skip ?_
      refine Ex.next ?_
      refine W.slots (L' := []) trivial ?_
      refine W.seq ?_
      refine W.region ?_
      refine T.q (q_assign rfl rfl) (Wt.plain rfl) rfl rfl ?_
      refine T.nil ?_
      refine Ex.next ?_
      refine W.slots (L' := [(2, _)]) ⟨rfl, trivial⟩ ?_
      refine W.ret ?_
      refine Ex.out1 [] rfl rfl ?_
      exact ⟨congrArg (Value.int .i64) (chkE_yes (f := ⟨1, a, l, rs, bs, tok⟩) (show mayN 1 a l bs.length rs.length (risN rs (a + 1) 4611686018427387903) (risN rs 0 a) (tokN tok) by unfold mayN; omega)).symm, rfl⟩
    replace hb4 := of_decide_eq_false hb4
    refine T.no (Wn.no rfl rfl rfl rfl) rfl rfl ?_
    refine T.no (Wn.no rfl rfl rfl rfl) rfl rfl ?_
    refine T.no (Wn.no rfl rfl rfl rfl) rfl rfl ?_
    refine T.no (Wn.no rfl rfl rfl rfl) rfl rfl ?_
    refine T.q (q_pickF rfl rfl rfl) (Wt.plain rfl) rfl rfl ?_
    refine T.q (q_assign rfl rfl) (Wt.plain rfl) rfl rfl ?_
    refine T.nil ?_
    refine Ex.next ?_
    refine W.less (L' := [(3, _), (4, _)]) [false, true] ⟨rfl, rfl, trivial⟩ ?_
    change (_ : List Blk → Prop) [_]
    refine W.region ?_
    refine T.q (q_fld fl59_4 rfl rfl) (Wt.plain rfl) rfl rfl ?_
    refine T.eff (e_storeP1 ss22 0 rfl rfl rfl rfl (by first | (simp; done) | (simp; omega)) rfl (set_skip1 (set_skip1 (set_skip1 (set_skip1 (rfl))))) rfl) (Wt.plain rfl) ?_
    rintro _ _ ⟨rfl, rfl⟩
    change (_ : List Blk → Prop) [_]
    refine T.nil ?_
    refine Ex.in_normal ?_
    refine Ex.next ?_
    refine W.slots (L' := [(3, _), (4, _)]) ⟨rfl, rfl, trivial⟩ ?_
    refine W.seq ?_
    refine W.seq ?_
    refine W.region ?_
    refine T.q (q_move rfl rfl) (Wt.plain rfl) rfl rfl ?_
    refine T.q (q_not rfl rfl) (Wt.plain rfl) rfl rfl ?_
    refine T.q (q_move rfl rfl) (Wt.plain rfl) rfl rfl ?_
    refine T.no (Wn.no rfl rfl rfl rfl) rfl rfl ?_
    refine T.no (Wn.no rfl rfl rfl rfl) rfl rfl ?_
    refine T.no (Wn.no rfl rfl rfl rfl) rfl rfl ?_
    refine T.q (q_pickT rfl rfl rfl) (Wt.plain rfl) rfl rfl ?_
    refine T.q (q_move rfl rfl) (Wt.plain rfl) rfl rfl ?_
    refine T.no (Wn.no rfl rfl rfl rfl) rfl rfl ?_
    refine T.no (Wn.no rfl rfl rfl rfl) rfl rfl ?_
    refine T.no (Wn.no rfl rfl rfl rfl) rfl rfl ?_
    refine T.no (Wn.no rfl rfl rfl rfl) rfl rfl ?_
    refine T.q (q_pickT rfl rfl rfl) (Wt.plain rfl) rfl rfl ?_
    refine T.q (q_move rfl rfl) (Wt.plain rfl) rfl rfl ?_
    refine T.no (Wn.no rfl rfl rfl rfl) rfl rfl ?_
    refine T.no (Wn.no rfl rfl rfl rfl) rfl rfl ?_
    refine T.no (Wn.no rfl rfl rfl rfl) rfl rfl ?_
    refine T.no (Wn.no rfl rfl rfl rfl) rfl rfl ?_
    refine T.q (q_pickT rfl rfl rfl) (Wt.plain rfl) rfl rfl ?_
    refine T.q (q_move rfl rfl) (Wt.plain rfl) rfl rfl ?_
    refine T.no (Wn.no rfl rfl rfl rfl) rfl rfl ?_
    refine T.no (Wn.no rfl rfl rfl rfl) rfl rfl ?_
    refine T.no (Wn.no rfl rfl rfl rfl) rfl rfl ?_
    refine T.no (Wn.no rfl rfl rfl rfl) rfl rfl ?_
    refine T.q (q_pickT rfl rfl rfl) (Wt.plain rfl) rfl rfl ?_
    refine T.nil ?_
    refine Ex.next ?_
    refine W.less (L' := [(111, _)]) [false] ⟨rfl, trivial⟩ ?_
    change (_ : List Blk → Prop) []
    refine W.condT rfl ?_
    refine W.seq ?_
    refine W.region ?_
    refine T.q (q_assign rfl rfl) (Wt.plain rfl) rfl rfl ?_
    refine T.nil ?_
    refine Ex.next ?_
    refine W.slots (L' := [(2, _)]) ⟨rfl, trivial⟩ ?_
    refine W.ret ?_
    refine Ex.then_ret ?_
    refine Ex.out1 [] rfl rfl ?_
    exact ⟨congrArg (Value.int .i64) (chkE_no (f := ⟨1, a, l, rs, bs, tok⟩) fun (h : mayN 1 a l bs.length rs.length (risN rs (a + 1) 4611686018427387903) (risN rs 0 a) (tokN tok)) => by unfold mayN at h; omega).symm, rfl⟩
  replace hb3 := of_decide_eq_false hb3
  refine T.no (Wn.no rfl rfl rfl rfl) rfl rfl ?_
  refine T.no (Wn.no rfl rfl rfl rfl) rfl rfl ?_
  refine T.no (Wn.no rfl rfl rfl rfl) rfl rfl ?_
  refine T.no (Wn.no rfl rfl rfl rfl) rfl rfl ?_
  refine T.q (q_pickF rfl rfl rfl) (Wt.plain rfl) rfl rfl ?_
  refine T.q (q_move rfl rfl) (Wt.plain rfl) rfl rfl ?_
  refine T.no (Wn.no rfl rfl rfl rfl) rfl rfl ?_
  refine T.no (Wn.no rfl rfl rfl rfl) rfl rfl ?_
  refine T.no (Wn.no rfl rfl rfl rfl) rfl rfl ?_
  refine T.no (Wn.no rfl rfl rfl rfl) rfl rfl ?_
  refine T.q (q_pickF rfl rfl rfl) (Wt.plain rfl) rfl rfl ?_
  refine T.q (q_assign rfl rfl) (Wt.plain rfl) rfl rfl ?_
  refine T.nil ?_
  refine Ex.next ?_
  refine W.less (L' := [(3, _), (4, _)]) [false, true] ⟨rfl, rfl, trivial⟩ ?_
  change (_ : List Blk → Prop) [_]
  refine W.region ?_
  refine T.q (q_fld fl59_4 rfl rfl) (Wt.plain rfl) rfl rfl ?_
  refine T.eff (e_storeP1 ss22 0 rfl rfl rfl rfl (by first | (simp; done) | (simp; omega)) rfl (set_skip1 (set_skip1 (set_skip1 (set_skip1 (rfl))))) rfl) (Wt.plain rfl) ?_
  rintro _ _ ⟨rfl, rfl⟩
  change (_ : List Blk → Prop) [_]
  refine T.nil ?_
  refine Ex.in_normal ?_
  refine Ex.next ?_
  refine W.slots (L' := [(3, _), (4, _)]) ⟨rfl, rfl, trivial⟩ ?_
  refine W.seq ?_
  refine W.seq ?_
  refine W.region ?_
  refine T.q (q_move rfl rfl) (Wt.plain rfl) rfl rfl ?_
  refine T.q (q_not rfl rfl) (Wt.plain rfl) rfl rfl ?_
  refine T.q (q_move rfl rfl) (Wt.plain rfl) rfl rfl ?_
  refine T.no (Wn.no rfl rfl rfl rfl) rfl rfl ?_
  refine T.no (Wn.no rfl rfl rfl rfl) rfl rfl ?_
  refine T.no (Wn.no rfl rfl rfl rfl) rfl rfl ?_
  refine T.q (q_pickT rfl rfl rfl) (Wt.plain rfl) rfl rfl ?_
  refine T.q (q_move rfl rfl) (Wt.plain rfl) rfl rfl ?_
  refine T.no (Wn.no rfl rfl rfl rfl) rfl rfl ?_
  refine T.no (Wn.no rfl rfl rfl rfl) rfl rfl ?_
  refine T.no (Wn.no rfl rfl rfl rfl) rfl rfl ?_
  refine T.no (Wn.no rfl rfl rfl rfl) rfl rfl ?_
  refine T.q (q_pickT rfl rfl rfl) (Wt.plain rfl) rfl rfl ?_
  refine T.q (q_move rfl rfl) (Wt.plain rfl) rfl rfl ?_
  refine T.no (Wn.no rfl rfl rfl rfl) rfl rfl ?_
  refine T.no (Wn.no rfl rfl rfl rfl) rfl rfl ?_
  refine T.no (Wn.no rfl rfl rfl rfl) rfl rfl ?_
  refine T.no (Wn.no rfl rfl rfl rfl) rfl rfl ?_
  refine T.q (q_pickT rfl rfl rfl) (Wt.plain rfl) rfl rfl ?_
  refine T.q (q_move rfl rfl) (Wt.plain rfl) rfl rfl ?_
  refine T.no (Wn.no rfl rfl rfl rfl) rfl rfl ?_
  refine T.no (Wn.no rfl rfl rfl rfl) rfl rfl ?_
  refine T.no (Wn.no rfl rfl rfl rfl) rfl rfl ?_
  refine T.no (Wn.no rfl rfl rfl rfl) rfl rfl ?_
  refine T.q (q_pickT rfl rfl rfl) (Wt.plain rfl) rfl rfl ?_
  refine T.nil ?_
  refine Ex.next ?_
  refine W.less (L' := [(111, _)]) [false] ⟨rfl, trivial⟩ ?_
  change (_ : List Blk → Prop) []
  refine W.condT rfl ?_
  refine W.seq ?_
  refine W.region ?_
  refine T.q (q_assign rfl rfl) (Wt.plain rfl) rfl rfl ?_
  refine T.nil ?_
  refine Ex.next ?_
  refine W.slots (L' := [(2, _)]) ⟨rfl, trivial⟩ ?_
  refine W.ret ?_
  refine Ex.then_ret ?_
  refine Ex.out1 [] rfl rfl ?_
  exact ⟨congrArg (Value.int .i64) (chkE_no (f := ⟨1, a, l, rs, bs, tok⟩) fun (h : mayN 1 a l bs.length rs.length (risN rs (a + 1) 4611686018427387903) (risN rs 0 a) (tokN tok)) => by unfold mayN at h; omega).symm, rfl⟩
set_option maxRecDepth 100000 in
theorem chk_2 (a l : Int) (rs : List (Int × Int)) (bs tok : List Int) (RA BA : Option Addr) (rc bc : Nat) (hrl : rs.length ≤ 9223372036854775807) (htok : tok.length = 8) (w0 : World) (hR : Reads w0 RA (ints .i64 (flat rs))) : Does Try.prog 47 #[.agg (.int .i64 2 :: (.int .i64 a :: (.int .i64 l :: (.slice RA rs.length rc :: (.slice BA bs.length bc :: (ints .u8 tok)))))).toArray] w0 [] (fun v G => v = .int .i64 (chkE ⟨2, a, l, rs, bs, tok⟩) ∧ G = []) := by
  refine spec_of 112 Try.func47 rfl rfl rfl ?_
  refine W.seq ?_
  refine W.region ?_
  refine T.eff (e_box rfl rfl rfl rfl) (Wt.plain rfl) ?_
  rintro _ _ ⟨k1, rfl, rfl⟩
  change (_ : List Blk → Prop) [_]
  change (_ : List Blk → Prop) [⟨some k1, .int .i64 2 :: (.int .i64 a :: (.int .i64 l :: (.slice RA rs.length rc :: (.slice BA bs.length bc :: (ints .u8 tok))))), 59, (0, 0)⟩]
  refine T.q (q_assign rfl rfl) (Wt.plain rfl) rfl rfl ?_
  refine T.nil ?_
  refine Ex.next ?_
  refine W.slots (L' := [(1, _)]) ⟨rfl, trivial⟩ ?_
  refine W.seq ?_
  refine W.region ?_
  refine T.q (q_loadW (wd59.trans (congrArg some (by first | (simp; done) | (simp; omega)))) (R_blk 0 rfl) rfl rfl) (Wt.plain rfl) rfl rfl ?_
  refine T.eff (e_alloc ze59 rfl rfl rfl) (Wt.plain rfl) ?_
  rintro _ _ ⟨k2, rfl, rfl⟩
  change (_ : List Blk → Prop) [_, _]
  refine T.eff (e_storeA (wd59.trans (congrArg some (by first | (simp; done) | (simp; omega)))) 1 rfl rfl rfl rfl (by first | (simp; done) | (simp; omega)) (one_cons rfl (one_cons rfl (one_cons rfl (one_cons rfl (one_cons rfl (ints_one)))))) rfl) (Wt.plain rfl) ?_
  rintro _ _ ⟨rfl, rfl⟩
  change (_ : List Blk → Prop) [_, _]
  refine T.nil ?_
  refine Ex.next ?_
  refine W.slots (L' := [(1, _), (3, _)]) ⟨rfl, rfl, trivial⟩ ?_
  refine W.seq ?_
  refine W.region ?_
  refine T.q (q_fld fl59_0 rfl rfl) (Wt.plain rfl) rfl rfl ?_
  refine T.eff (e_storeP1 ss3 1 rfl rfl rfl rfl (by first | (simp; done) | (simp; omega)) rfl (rfl) rfl) (Wt.plain rfl) ?_
  rintro _ _ ⟨rfl, rfl⟩
  change (_ : List Blk → Prop) [_, _]
  refine T.q (q_fld fl59_1 rfl rfl) (Wt.plain rfl) rfl rfl ?_
  refine T.eff (e_storeP1 ss3 1 rfl rfl rfl rfl (by first | (simp; done) | (simp; omega)) rfl (set_skip1 (rfl)) rfl) (Wt.plain rfl) ?_
  rintro _ _ ⟨rfl, rfl⟩
  change (_ : List Blk → Prop) [_, _]
  refine T.nil ?_
  refine Ex.next ?_
  refine W.slots (L' := [(1, _), (3, _)]) ⟨rfl, rfl, trivial⟩ ?_
  refine W.seq ?_
  refine W.region ?_
  refine T.q (q_fld fl59_1 rfl rfl) (Wt.plain rfl) rfl rfl ?_
  refine T.q (q_load1 ss3 0 rfl rfl rfl (cell_skip1 (rfl))) (Wt.plain rfl) rfl rfl ?_
  refine T.eff (e_call enters64 rfl rfl (fun w hm => num_spec a w) rfl rfl) (Wt.plain rfl) ?_
  rintro _ _ ⟨_, _, ⟨rfl, rfl⟩, rfl, rfl⟩
  change (_ : List Blk → Prop) [_, _]
  refine T.q (q_assign rfl rfl) (Wt.plain rfl) rfl rfl ?_
  refine T.nil ?_
  refine Ex.next ?_
  refine W.slots (L' := [(1, _), (3, _), (4, _)]) ⟨rfl, rfl, rfl, trivial⟩ ?_
  refine W.seq ?_
  refine W.seq ?_
  refine W.region ?_
  refine T.q (q_fld fl59_0 rfl rfl) (Wt.plain rfl) rfl rfl ?_
  refine T.q (q_load1 ss3 0 rfl rfl rfl (rfl)) (Wt.plain rfl) rfl rfl ?_
  refine T.nil ?_
  refine Ex.next ?_
  refine W.slots (L' := [(1, _), (3, _), (4, _), (12, _)]) ⟨rfl, rfl, rfl, rfl, trivial⟩ ?_
  refine W.block ?_
  refine W.seq ?_
  refine W.region ?_
  refine T.q (q_bool (b := false) (q_eql rfl rfl rfl) (decide_eq_false (by decide))) (Wt.plain rfl) rfl rfl ?_
  refine T.q (q_assign rfl rfl) (Wt.plain rfl) rfl rfl ?_
  refine T.nil ?_
  refine Ex.next ?_
  refine W.slots (L' := [(1, _), (3, _), (4, _), (12, _), (13, _)]) ⟨rfl, rfl, rfl, rfl, rfl, trivial⟩ ?_
  refine W.condF rfl ?_
  refine W.seq ?_
  refine W.region ?_
  refine T.q (q_bool (b := true) (q_eql rfl rfl rfl) (decide_eq_true (by decide))) (Wt.plain rfl) rfl rfl ?_
  refine T.q (q_assign rfl rfl) (Wt.plain rfl) rfl rfl ?_
  refine T.nil ?_
  refine Ex.next ?_
  refine W.slots (L' := [(1, _), (3, _), (4, _), (12, _), (29, _)]) ⟨rfl, rfl, rfl, rfl, rfl, trivial⟩ ?_
  refine W.condT rfl ?_
  refine W.seq ?_
  refine W.region ?_
  refine T.q (q_move rfl rfl) (Wt.plain rfl) rfl rfl ?_
  refine T.q (q_move rfl rfl) (Wt.plain rfl) rfl rfl ?_
  refine T.both (t := 32) _ rfl (fun hb3 => ?_) (fun hb3 => ?_)
  · replace hb3 := of_decide_eq_true hb3
    refine T.q (q_fld fl59_2 rfl rfl) (Wt.yes rfl rfl rfl) rfl rfl ?_
    refine T.q (q_load1 ss3 0 rfl rfl rfl (cell_skip1 (cell_skip1 (rfl)))) (Wt.yes rfl rfl rfl) rfl rfl ?_
    refine T.eff (e_call enters64 rfl rfl (fun w hm => num_spec l w) rfl rfl) (Wt.yes rfl rfl rfl) ?_
    rintro _ _ ⟨_, _, ⟨rfl, rfl⟩, rfl, rfl⟩
    change (_ : List Blk → Prop) [_, _]
    refine T.q (q_pickT rfl rfl rfl) (Wt.plain rfl) rfl rfl ?_
    refine T.q (q_move rfl rfl) (Wt.plain rfl) rfl rfl ?_
    refine T.both (t := 37) _ rfl (fun hb4 => ?_) (fun hb4 => ?_)
    · replace hb4 := of_decide_eq_true hb4
      refine T.q (q_fld fl59_3 rfl rfl) (Wt.yes rfl rfl rfl) rfl rfl ?_
      refine T.q (q_load1 ss56 0 rfl rfl rfl (cell_skip1 (cell_skip1 (cell_skip1 (rfl))))) (Wt.yes rfl rfl rfl) rfl rfl ?_
      refine T.q (q_fld fl59_1 rfl rfl) (Wt.yes rfl rfl rfl) rfl rfl ?_
      refine T.q (q_load1 ss3 0 rfl rfl rfl (cell_skip1 (rfl))) (Wt.yes rfl rfl rfl) rfl rfl ?_
      refine T.q (q_addi rfl rfl rfl (by omega) (by omega)) (Wt.yes rfl rfl rfl) rfl rfl ?_
      refine T.eff (e_call enters65 rfl rfl (fun w hm => ris_spec rs _ _ hrl (a + 1) 4611686018427387903 (by omega) (by omega) w ((R_ext hR.ext) w hm)) rfl rfl) (Wt.yes rfl rfl rfl) ?_
      rintro _ _ ⟨_, _, ⟨rfl, rfl⟩, rfl, rfl⟩
      change (_ : List Blk → Prop) [_, _]
      refine T.q (q_pickT rfl rfl rfl) (Wt.plain rfl) rfl rfl ?_
      refine T.q (q_assign rfl rfl) (Wt.plain rfl) rfl rfl ?_
      refine T.nil ?_
      refine Ex.next ?_
      refine W.less (L' := [(3, _), (4, _)]) [false, true] ⟨rfl, rfl, trivial⟩ ?_
      change (_ : List Blk → Prop) [_]
      refine W.region ?_
      refine T.q (q_fld fl59_2 rfl rfl) (Wt.plain rfl) rfl rfl ?_
      refine T.eff (e_storeP1 ss3 0 rfl rfl rfl rfl (by first | (simp; done) | (simp; omega)) rfl (set_skip1 (set_skip1 (rfl))) rfl) (Wt.plain rfl) ?_
      rintro _ _ ⟨rfl, rfl⟩
      change (_ : List Blk → Prop) [_]
      refine T.q (q_fld fl59_3 rfl rfl) (Wt.plain rfl) rfl rfl ?_
      refine T.eff (e_storeP1 ss56 0 rfl rfl rfl rfl (by first | (simp; done) | (simp; omega)) rfl (set_skip1 (set_skip1 (set_skip1 (rfl)))) rfl) (Wt.plain rfl) ?_
      rintro _ _ ⟨rfl, rfl⟩
      change (_ : List Blk → Prop) [_]
      refine T.nil ?_
      refine Ex.in_normal ?_
      refine Ex.next ?_
      refine W.slots (L' := [(3, _), (4, _)]) ⟨rfl, rfl, trivial⟩ ?_
      refine W.seq ?_
      refine W.seq ?_
      refine W.region ?_
      refine T.q (q_move rfl rfl) (Wt.plain rfl) rfl rfl ?_
      refine T.q (q_bool (q_not rfl rfl) (decide_not (p := (risN rs (a + 1) 4611686018427387903 = 1))).symm) (Wt.plain rfl) rfl rfl ?_
      refine T.q (q_move rfl rfl) (Wt.plain rfl) rfl rfl ?_
      refine T.both (t := 89) _ rfl (fun hb5 => ?_) (fun hb5 => ?_)
      · replace hb5 := of_decide_eq_true hb5
        refine T.no (Wn.no rfl rfl rfl rfl) rfl rfl ?_
        refine T.no (Wn.no rfl rfl rfl rfl) rfl rfl ?_
        refine T.no (Wn.no rfl rfl rfl rfl) rfl rfl ?_
        refine T.q (q_pickT rfl rfl rfl) (Wt.plain rfl) rfl rfl ?_
        refine T.q (q_move rfl rfl) (Wt.plain rfl) rfl rfl ?_
        refine T.no (Wn.no rfl rfl rfl rfl) rfl rfl ?_
        refine T.no (Wn.no rfl rfl rfl rfl) rfl rfl ?_
        refine T.no (Wn.no rfl rfl rfl rfl) rfl rfl ?_
        refine T.no (Wn.no rfl rfl rfl rfl) rfl rfl ?_
        refine T.q (q_pickT rfl rfl rfl) (Wt.plain rfl) rfl rfl ?_
        refine T.q (q_move rfl rfl) (Wt.plain rfl) rfl rfl ?_
        refine T.no (Wn.no rfl rfl rfl rfl) rfl rfl ?_
        refine T.no (Wn.no rfl rfl rfl rfl) rfl rfl ?_
        refine T.no (Wn.no rfl rfl rfl rfl) rfl rfl ?_
        refine T.no (Wn.no rfl rfl rfl rfl) rfl rfl ?_
        refine T.q (q_pickT rfl rfl rfl) (Wt.plain rfl) rfl rfl ?_
        refine T.q (q_move rfl rfl) (Wt.plain rfl) rfl rfl ?_
        refine T.no (Wn.no rfl rfl rfl rfl) rfl rfl ?_
        refine T.no (Wn.no rfl rfl rfl rfl) rfl rfl ?_
        refine T.no (Wn.no rfl rfl rfl rfl) rfl rfl ?_
        refine T.no (Wn.no rfl rfl rfl rfl) rfl rfl ?_
        refine T.q (q_pickT rfl rfl rfl) (Wt.plain rfl) rfl rfl ?_
        refine T.nil ?_
        refine Ex.next ?_
        refine W.less (L' := [(111, _)]) [false] ⟨rfl, trivial⟩ ?_
        change (_ : List Blk → Prop) []
        refine W.condT rfl ?_
        refine W.seq ?_
        refine W.region ?_
        refine T.q (q_assign rfl rfl) (Wt.plain rfl) rfl rfl ?_
        refine T.nil ?_
        refine Ex.next ?_
        refine W.slots (L' := [(2, _)]) ⟨rfl, trivial⟩ ?_
        refine W.ret ?_
        refine Ex.then_ret ?_
        refine Ex.out1 [] rfl rfl ?_
        exact ⟨congrArg (Value.int .i64) (chkE_no (f := ⟨2, a, l, rs, bs, tok⟩) fun (h : mayN 2 a l bs.length rs.length (risN rs (a + 1) 4611686018427387903) (risN rs 0 a) (tokN tok)) => by unfold mayN at h; omega).symm, rfl⟩
      replace hb5 := of_decide_eq_false hb5
      refine T.q (q_fld fl59_2 rfl rfl) (Wt.yes rfl rfl rfl) rfl rfl ?_
      refine T.q (q_load1 ss3 0 rfl rfl rfl (cell_skip1 (cell_skip1 (rfl)))) (Wt.yes rfl rfl rfl) rfl rfl ?_
      refine T.q (q_bool (b := false) (q_neq rfl rfl rfl) (decide_eq_false (by decide))) (Wt.yes rfl rfl rfl) rfl rfl ?_
      refine T.q (q_pickF rfl rfl rfl) (Wt.plain rfl) rfl rfl ?_
      refine T.q (q_move rfl rfl) (Wt.plain rfl) rfl rfl ?_
      refine T.q (q_fld fl59_4 rfl rfl) (Wt.yes rfl rfl rfl) rfl rfl ?_
      refine T.q (q_load1 ss22 0 rfl rfl rfl (cell_skip1 (cell_skip1 (cell_skip1 (cell_skip1 (rfl)))))) (Wt.yes rfl rfl rfl) rfl rfl ?_
      refine T.q (q_len sc22 rfl rfl) (Wt.yes rfl rfl rfl) rfl rfl ?_
      refine T.q (q_gtr rfl rfl rfl) (Wt.yes rfl rfl rfl) rfl rfl ?_
      refine T.q (q_pickF rfl rfl rfl) (Wt.plain rfl) rfl rfl ?_
      refine T.q (q_move rfl rfl) (Wt.plain rfl) rfl rfl ?_
      refine T.both (t := 100) _ rfl (fun hb6 => ?_) (fun hb6 => ?_)
      · replace hb6 := of_decide_eq_true hb6
        refine T.no (Wn.no rfl rfl rfl rfl) rfl rfl ?_
        refine T.no (Wn.no rfl rfl rfl rfl) rfl rfl ?_
        refine T.no (Wn.no rfl rfl rfl rfl) rfl rfl ?_
        refine T.no (Wn.no rfl rfl rfl rfl) rfl rfl ?_
        refine T.q (q_pickT rfl rfl rfl) (Wt.plain rfl) rfl rfl ?_
        refine T.q (q_move rfl rfl) (Wt.plain rfl) rfl rfl ?_
        refine T.no (Wn.no rfl rfl rfl rfl) rfl rfl ?_
        refine T.no (Wn.no rfl rfl rfl rfl) rfl rfl ?_
        refine T.no (Wn.no rfl rfl rfl rfl) rfl rfl ?_
        refine T.no (Wn.no rfl rfl rfl rfl) rfl rfl ?_
        refine T.q (q_pickT rfl rfl rfl) (Wt.plain rfl) rfl rfl ?_
        refine T.nil ?_
        refine Ex.next ?_
        refine W.less (L' := [(111, _)]) [false] ⟨rfl, trivial⟩ ?_
        change (_ : List Blk → Prop) []
        refine W.condT rfl ?_
        refine W.seq ?_
        refine W.region ?_
        refine T.q (q_assign rfl rfl) (Wt.plain rfl) rfl rfl ?_
        refine T.nil ?_
        refine Ex.next ?_
        refine W.slots (L' := [(2, _)]) ⟨rfl, trivial⟩ ?_
        refine W.ret ?_
        refine Ex.then_ret ?_
        refine Ex.out1 [] rfl rfl ?_
        exact ⟨congrArg (Value.int .i64) (chkE_no (f := ⟨2, a, l, rs, bs, tok⟩) fun (h : mayN 2 a l bs.length rs.length (risN rs (a + 1) 4611686018427387903) (risN rs 0 a) (tokN tok)) => by unfold mayN at h; omega).symm, rfl⟩
      replace hb6 := of_decide_eq_false hb6
      refine T.q (q_fld fl59_3 rfl rfl) (Wt.yes rfl rfl rfl) rfl rfl ?_
      refine T.q (q_load1 ss56 0 rfl rfl rfl (cell_skip1 (cell_skip1 (cell_skip1 (rfl))))) (Wt.yes rfl rfl rfl) rfl rfl ?_
      refine T.q (q_len sc56 rfl rfl) (Wt.yes rfl rfl rfl) rfl rfl ?_
      refine T.q (q_gtr rfl rfl rfl) (Wt.yes rfl rfl rfl) rfl rfl ?_
      refine T.q (q_pickF rfl rfl rfl) (Wt.plain rfl) rfl rfl ?_
      refine T.q (q_move rfl rfl) (Wt.plain rfl) rfl rfl ?_
      refine T.both (t := 106) _ rfl (fun hb7 => ?_) (fun hb7 => ?_)
      · replace hb7 := of_decide_eq_true hb7
        refine T.no (Wn.no rfl rfl rfl rfl) rfl rfl ?_
        refine T.no (Wn.no rfl rfl rfl rfl) rfl rfl ?_
        refine T.no (Wn.no rfl rfl rfl rfl) rfl rfl ?_
        refine T.no (Wn.no rfl rfl rfl rfl) rfl rfl ?_
        refine T.q (q_pickT rfl rfl rfl) (Wt.plain rfl) rfl rfl ?_
        refine T.nil ?_
        refine Ex.next ?_
        refine W.less (L' := [(111, _)]) [false] ⟨rfl, trivial⟩ ?_
        change (_ : List Blk → Prop) []
        refine W.condT rfl ?_
        refine W.seq ?_
        refine W.region ?_
        refine T.q (q_assign rfl rfl) (Wt.plain rfl) rfl rfl ?_
        refine T.nil ?_
        refine Ex.next ?_
        refine W.slots (L' := [(2, _)]) ⟨rfl, trivial⟩ ?_
        refine W.ret ?_
        refine Ex.then_ret ?_
        refine Ex.out1 [] rfl rfl ?_
        exact ⟨congrArg (Value.int .i64) (chkE_no (f := ⟨2, a, l, rs, bs, tok⟩) fun (h : mayN 2 a l bs.length rs.length (risN rs (a + 1) 4611686018427387903) (risN rs 0 a) (tokN tok)) => by unfold mayN at h; omega).symm, rfl⟩
      replace hb7 := of_decide_eq_false hb7
      refine T.q (q_fld fl59_5 rfl rfl) (Wt.yes rfl rfl rfl) rfl rfl ?_
      refine T.q (q_loadW (wide_ints wd57 (by first | omega | (simp; done) | (simp [-List.getD_eq_getElem?_getD]; omega) | (simp at *; omega) | rfl)) (R_at 0 5 8 rfl (part_skip1 (part_skip1 (part_skip1 (part_skip1 (part_skip1 (part_last (by first | omega | (simp; done) | (simp [-List.getD_eq_getElem?_getD]; omega) | (simp at *; omega) | rfl)))))))) rfl rfl) (Wt.yes rfl rfl rfl) rfl rfl ?_
      refine T.q (q_build (v := .agg (ints .u8 (List.replicate 8 0)).toArray) rfl rfl (fun _ => by kernel_rfl)) (Wt.yes rfl rfl rfl) rfl rfl ?_
      refine T.q (q_bool (b := decide (tokN tok ≠ 1)) (q_neqA ar57 ss5 un5 eg57 rfl rfl rfl (by first | omega | (simp; done) | (simp [-List.getD_eq_getElem?_getD]; omega) | (simp at *; omega) | rfl) (by first | omega | (simp; done) | (simp [-List.getD_eq_getElem?_getD]; omega) | (simp at *; omega) | rfl)) ?hE) (Wt.yes rfl rfl rfl) rfl rfl ?_
      case hE => exact tok_neq
      refine T.q (q_pickF rfl rfl rfl) (Wt.plain rfl) rfl rfl ?_
      refine T.nil ?_
      refine Ex.next ?_
      refine W.less (L' := [(111, _)]) [false] ⟨rfl, trivial⟩ ?_
      change (_ : List Blk → Prop) []
      refine W.cond _ rfl (fun hb8 => ?_) (fun hb8 => ?_)
      · replace hb8 := of_decide_eq_true hb8
        refine W.seq ?_
        refine W.region ?_
        refine T.q (q_assign rfl rfl) (Wt.plain rfl) rfl rfl ?_
        refine T.nil ?_
        refine Ex.next ?_
        refine W.slots (L' := [(2, _)]) ⟨rfl, trivial⟩ ?_
        refine W.ret ?_
        refine Ex.then_ret ?_
        refine Ex.out1 [] rfl rfl ?_
        exact ⟨congrArg (Value.int .i64) (chkE_no (f := ⟨2, a, l, rs, bs, tok⟩) fun (h : mayN 2 a l bs.length rs.length (risN rs (a + 1) 4611686018427387903) (risN rs 0 a) (tokN tok)) => by unfold mayN at h; omega).symm, rfl⟩
      replace hb8 := of_decide_eq_false hb8
      refine W.skip ?_
      refine Ex.next ?_
      refine W.slots (L' := []) trivial ?_
      refine W.seq ?_
      refine W.region ?_
      refine T.q (q_assign rfl rfl) (Wt.plain rfl) rfl rfl ?_
      refine T.nil ?_
      refine Ex.next ?_
      refine W.slots (L' := [(2, _)]) ⟨rfl, trivial⟩ ?_
      refine W.ret ?_
      refine Ex.out1 [] rfl rfl ?_
      exact ⟨congrArg (Value.int .i64) (chkE_yes (f := ⟨2, a, l, rs, bs, tok⟩) (show mayN 2 a l bs.length rs.length (risN rs (a + 1) 4611686018427387903) (risN rs 0 a) (tokN tok) by unfold mayN; omega)).symm, rfl⟩
    replace hb4 := of_decide_eq_false hb4
    refine T.no (Wn.no rfl rfl rfl rfl) rfl rfl ?_
    refine T.no (Wn.no rfl rfl rfl rfl) rfl rfl ?_
    refine T.no (Wn.no rfl rfl rfl rfl) rfl rfl ?_
    refine T.no (Wn.no rfl rfl rfl rfl) rfl rfl ?_
    refine T.no (Wn.no rfl rfl rfl rfl) rfl rfl ?_
    refine T.no (Wn.no rfl rfl rfl rfl) rfl rfl ?_
    refine T.q (q_pickF rfl rfl rfl) (Wt.plain rfl) rfl rfl ?_
    refine T.q (q_assign rfl rfl) (Wt.plain rfl) rfl rfl ?_
    refine T.nil ?_
    refine Ex.next ?_
    refine W.less (L' := [(3, _), (4, _)]) [false, true] ⟨rfl, rfl, trivial⟩ ?_
    change (_ : List Blk → Prop) [_]
    refine W.region ?_
    refine T.q (q_fld fl59_2 rfl rfl) (Wt.plain rfl) rfl rfl ?_
    refine T.eff (e_storeP1 ss3 0 rfl rfl rfl rfl (by first | (simp; done) | (simp; omega)) rfl (set_skip1 (set_skip1 (rfl))) rfl) (Wt.plain rfl) ?_
    rintro _ _ ⟨rfl, rfl⟩
    change (_ : List Blk → Prop) [_]
    refine T.q (q_fld fl59_3 rfl rfl) (Wt.plain rfl) rfl rfl ?_
    refine T.eff (e_storeP1 ss56 0 rfl rfl rfl rfl (by first | (simp; done) | (simp; omega)) rfl (set_skip1 (set_skip1 (set_skip1 (rfl)))) rfl) (Wt.plain rfl) ?_
    rintro _ _ ⟨rfl, rfl⟩
    change (_ : List Blk → Prop) [_]
    refine T.nil ?_
    refine Ex.in_normal ?_
    refine Ex.next ?_
    refine W.slots (L' := [(3, _), (4, _)]) ⟨rfl, rfl, trivial⟩ ?_
    refine W.seq ?_
    refine W.seq ?_
    refine W.region ?_
    refine T.q (q_move rfl rfl) (Wt.plain rfl) rfl rfl ?_
    refine T.q (q_not rfl rfl) (Wt.plain rfl) rfl rfl ?_
    refine T.q (q_move rfl rfl) (Wt.plain rfl) rfl rfl ?_
    refine T.no (Wn.no rfl rfl rfl rfl) rfl rfl ?_
    refine T.no (Wn.no rfl rfl rfl rfl) rfl rfl ?_
    refine T.no (Wn.no rfl rfl rfl rfl) rfl rfl ?_
    refine T.q (q_pickT rfl rfl rfl) (Wt.plain rfl) rfl rfl ?_
    refine T.q (q_move rfl rfl) (Wt.plain rfl) rfl rfl ?_
    refine T.no (Wn.no rfl rfl rfl rfl) rfl rfl ?_
    refine T.no (Wn.no rfl rfl rfl rfl) rfl rfl ?_
    refine T.no (Wn.no rfl rfl rfl rfl) rfl rfl ?_
    refine T.no (Wn.no rfl rfl rfl rfl) rfl rfl ?_
    refine T.q (q_pickT rfl rfl rfl) (Wt.plain rfl) rfl rfl ?_
    refine T.q (q_move rfl rfl) (Wt.plain rfl) rfl rfl ?_
    refine T.no (Wn.no rfl rfl rfl rfl) rfl rfl ?_
    refine T.no (Wn.no rfl rfl rfl rfl) rfl rfl ?_
    refine T.no (Wn.no rfl rfl rfl rfl) rfl rfl ?_
    refine T.no (Wn.no rfl rfl rfl rfl) rfl rfl ?_
    refine T.q (q_pickT rfl rfl rfl) (Wt.plain rfl) rfl rfl ?_
    refine T.q (q_move rfl rfl) (Wt.plain rfl) rfl rfl ?_
    refine T.no (Wn.no rfl rfl rfl rfl) rfl rfl ?_
    refine T.no (Wn.no rfl rfl rfl rfl) rfl rfl ?_
    refine T.no (Wn.no rfl rfl rfl rfl) rfl rfl ?_
    refine T.no (Wn.no rfl rfl rfl rfl) rfl rfl ?_
    refine T.q (q_pickT rfl rfl rfl) (Wt.plain rfl) rfl rfl ?_
    refine T.nil ?_
    refine Ex.next ?_
    refine W.less (L' := [(111, _)]) [false] ⟨rfl, trivial⟩ ?_
    change (_ : List Blk → Prop) []
    refine W.condT rfl ?_
    refine W.seq ?_
    refine W.region ?_
    refine T.q (q_assign rfl rfl) (Wt.plain rfl) rfl rfl ?_
    refine T.nil ?_
    refine Ex.next ?_
    refine W.slots (L' := [(2, _)]) ⟨rfl, trivial⟩ ?_
    refine W.ret ?_
    refine Ex.then_ret ?_
    refine Ex.out1 [] rfl rfl ?_
    exact ⟨congrArg (Value.int .i64) (chkE_no (f := ⟨2, a, l, rs, bs, tok⟩) fun (h : mayN 2 a l bs.length rs.length (risN rs (a + 1) 4611686018427387903) (risN rs 0 a) (tokN tok)) => by unfold mayN at h; omega).symm, rfl⟩
  replace hb3 := of_decide_eq_false hb3
  refine T.no (Wn.no rfl rfl rfl rfl) rfl rfl ?_
  refine T.no (Wn.no rfl rfl rfl rfl) rfl rfl ?_
  refine T.no (Wn.no rfl rfl rfl rfl) rfl rfl ?_
  refine T.q (q_pickF rfl rfl rfl) (Wt.plain rfl) rfl rfl ?_
  refine T.q (q_move rfl rfl) (Wt.plain rfl) rfl rfl ?_
  refine T.no (Wn.no rfl rfl rfl rfl) rfl rfl ?_
  refine T.no (Wn.no rfl rfl rfl rfl) rfl rfl ?_
  refine T.no (Wn.no rfl rfl rfl rfl) rfl rfl ?_
  refine T.no (Wn.no rfl rfl rfl rfl) rfl rfl ?_
  refine T.no (Wn.no rfl rfl rfl rfl) rfl rfl ?_
  refine T.no (Wn.no rfl rfl rfl rfl) rfl rfl ?_
  refine T.q (q_pickF rfl rfl rfl) (Wt.plain rfl) rfl rfl ?_
  refine T.q (q_assign rfl rfl) (Wt.plain rfl) rfl rfl ?_
  refine T.nil ?_
  refine Ex.next ?_
  refine W.less (L' := [(3, _), (4, _)]) [false, true] ⟨rfl, rfl, trivial⟩ ?_
  change (_ : List Blk → Prop) [_]
  refine W.region ?_
  refine T.q (q_fld fl59_2 rfl rfl) (Wt.plain rfl) rfl rfl ?_
  refine T.eff (e_storeP1 ss3 0 rfl rfl rfl rfl (by first | (simp; done) | (simp; omega)) rfl (set_skip1 (set_skip1 (rfl))) rfl) (Wt.plain rfl) ?_
  rintro _ _ ⟨rfl, rfl⟩
  change (_ : List Blk → Prop) [_]
  refine T.q (q_fld fl59_3 rfl rfl) (Wt.plain rfl) rfl rfl ?_
  refine T.eff (e_storeP1 ss56 0 rfl rfl rfl rfl (by first | (simp; done) | (simp; omega)) rfl (set_skip1 (set_skip1 (set_skip1 (rfl)))) rfl) (Wt.plain rfl) ?_
  rintro _ _ ⟨rfl, rfl⟩
  change (_ : List Blk → Prop) [_]
  refine T.nil ?_
  refine Ex.in_normal ?_
  refine Ex.next ?_
  refine W.slots (L' := [(3, _), (4, _)]) ⟨rfl, rfl, trivial⟩ ?_
  refine W.seq ?_
  refine W.seq ?_
  refine W.region ?_
  refine T.q (q_move rfl rfl) (Wt.plain rfl) rfl rfl ?_
  refine T.q (q_not rfl rfl) (Wt.plain rfl) rfl rfl ?_
  refine T.q (q_move rfl rfl) (Wt.plain rfl) rfl rfl ?_
  refine T.no (Wn.no rfl rfl rfl rfl) rfl rfl ?_
  refine T.no (Wn.no rfl rfl rfl rfl) rfl rfl ?_
  refine T.no (Wn.no rfl rfl rfl rfl) rfl rfl ?_
  refine T.q (q_pickT rfl rfl rfl) (Wt.plain rfl) rfl rfl ?_
  refine T.q (q_move rfl rfl) (Wt.plain rfl) rfl rfl ?_
  refine T.no (Wn.no rfl rfl rfl rfl) rfl rfl ?_
  refine T.no (Wn.no rfl rfl rfl rfl) rfl rfl ?_
  refine T.no (Wn.no rfl rfl rfl rfl) rfl rfl ?_
  refine T.no (Wn.no rfl rfl rfl rfl) rfl rfl ?_
  refine T.q (q_pickT rfl rfl rfl) (Wt.plain rfl) rfl rfl ?_
  refine T.q (q_move rfl rfl) (Wt.plain rfl) rfl rfl ?_
  refine T.no (Wn.no rfl rfl rfl rfl) rfl rfl ?_
  refine T.no (Wn.no rfl rfl rfl rfl) rfl rfl ?_
  refine T.no (Wn.no rfl rfl rfl rfl) rfl rfl ?_
  refine T.no (Wn.no rfl rfl rfl rfl) rfl rfl ?_
  refine T.q (q_pickT rfl rfl rfl) (Wt.plain rfl) rfl rfl ?_
  refine T.q (q_move rfl rfl) (Wt.plain rfl) rfl rfl ?_
  refine T.no (Wn.no rfl rfl rfl rfl) rfl rfl ?_
  refine T.no (Wn.no rfl rfl rfl rfl) rfl rfl ?_
  refine T.no (Wn.no rfl rfl rfl rfl) rfl rfl ?_
  refine T.no (Wn.no rfl rfl rfl rfl) rfl rfl ?_
  refine T.q (q_pickT rfl rfl rfl) (Wt.plain rfl) rfl rfl ?_
  refine T.nil ?_
  refine Ex.next ?_
  refine W.less (L' := [(111, _)]) [false] ⟨rfl, trivial⟩ ?_
  change (_ : List Blk → Prop) []
  refine W.condT rfl ?_
  refine W.seq ?_
  refine W.region ?_
  refine T.q (q_assign rfl rfl) (Wt.plain rfl) rfl rfl ?_
  refine T.nil ?_
  refine Ex.next ?_
  refine W.slots (L' := [(2, _)]) ⟨rfl, trivial⟩ ?_
  refine W.ret ?_
  refine Ex.then_ret ?_
  refine Ex.out1 [] rfl rfl ?_
  exact ⟨congrArg (Value.int .i64) (chkE_no (f := ⟨2, a, l, rs, bs, tok⟩) fun (h : mayN 2 a l bs.length rs.length (risN rs (a + 1) 4611686018427387903) (risN rs 0 a) (tokN tok)) => by unfold mayN at h; omega).symm, rfl⟩
set_option maxRecDepth 100000 in
theorem chk_3 (a l : Int) (rs : List (Int × Int)) (bs tok : List Int) (RA BA : Option Addr) (rc bc : Nat) (_hrl : rs.length ≤ 9223372036854775807) (_htok : tok.length = 8) (w0 : World) (_hR : Reads w0 RA (ints .i64 (flat rs))) : Does Try.prog 47 #[.agg (.int .i64 3 :: (.int .i64 a :: (.int .i64 l :: (.slice RA rs.length rc :: (.slice BA bs.length bc :: (ints .u8 tok)))))).toArray] w0 [] (fun v G => v = .int .i64 (chkE ⟨3, a, l, rs, bs, tok⟩) ∧ G = []) := by
  refine spec_of 112 Try.func47 rfl rfl rfl ?_
  refine W.seq ?_
  refine W.region ?_
  refine T.eff (e_box rfl rfl rfl rfl) (Wt.plain rfl) ?_
  rintro _ _ ⟨k1, rfl, rfl⟩
  change (_ : List Blk → Prop) [_]
  change (_ : List Blk → Prop) [⟨some k1, .int .i64 3 :: (.int .i64 a :: (.int .i64 l :: (.slice RA rs.length rc :: (.slice BA bs.length bc :: (ints .u8 tok))))), 59, (0, 0)⟩]
  refine T.q (q_assign rfl rfl) (Wt.plain rfl) rfl rfl ?_
  refine T.nil ?_
  refine Ex.next ?_
  refine W.slots (L' := [(1, _)]) ⟨rfl, trivial⟩ ?_
  refine W.seq ?_
  refine W.region ?_
  refine T.q (q_loadW (wd59.trans (congrArg some (by first | (simp; done) | (simp; omega)))) (R_blk 0 rfl) rfl rfl) (Wt.plain rfl) rfl rfl ?_
  refine T.eff (e_alloc ze59 rfl rfl rfl) (Wt.plain rfl) ?_
  rintro _ _ ⟨k2, rfl, rfl⟩
  change (_ : List Blk → Prop) [_, _]
  refine T.eff (e_storeA (wd59.trans (congrArg some (by first | (simp; done) | (simp; omega)))) 1 rfl rfl rfl rfl (by first | (simp; done) | (simp; omega)) (one_cons rfl (one_cons rfl (one_cons rfl (one_cons rfl (one_cons rfl (ints_one)))))) rfl) (Wt.plain rfl) ?_
  rintro _ _ ⟨rfl, rfl⟩
  change (_ : List Blk → Prop) [_, _]
  refine T.nil ?_
  refine Ex.next ?_
  refine W.slots (L' := [(1, _), (3, _)]) ⟨rfl, rfl, trivial⟩ ?_
  refine W.seq ?_
  refine W.region ?_
  refine T.q (q_fld fl59_0 rfl rfl) (Wt.plain rfl) rfl rfl ?_
  refine T.eff (e_storeP1 ss3 1 rfl rfl rfl rfl (by first | (simp; done) | (simp; omega)) rfl (rfl) rfl) (Wt.plain rfl) ?_
  rintro _ _ ⟨rfl, rfl⟩
  change (_ : List Blk → Prop) [_, _]
  refine T.q (q_fld fl59_1 rfl rfl) (Wt.plain rfl) rfl rfl ?_
  refine T.eff (e_storeP1 ss3 1 rfl rfl rfl rfl (by first | (simp; done) | (simp; omega)) rfl (set_skip1 (rfl)) rfl) (Wt.plain rfl) ?_
  rintro _ _ ⟨rfl, rfl⟩
  change (_ : List Blk → Prop) [_, _]
  refine T.nil ?_
  refine Ex.next ?_
  refine W.slots (L' := [(1, _), (3, _)]) ⟨rfl, rfl, trivial⟩ ?_
  refine W.seq ?_
  refine W.region ?_
  refine T.q (q_fld fl59_1 rfl rfl) (Wt.plain rfl) rfl rfl ?_
  refine T.q (q_load1 ss3 0 rfl rfl rfl (cell_skip1 (rfl))) (Wt.plain rfl) rfl rfl ?_
  refine T.eff (e_call enters64 rfl rfl (fun w hm => num_spec a w) rfl rfl) (Wt.plain rfl) ?_
  rintro _ _ ⟨_, _, ⟨rfl, rfl⟩, rfl, rfl⟩
  change (_ : List Blk → Prop) [_, _]
  refine T.q (q_assign rfl rfl) (Wt.plain rfl) rfl rfl ?_
  refine T.nil ?_
  refine Ex.next ?_
  refine W.slots (L' := [(1, _), (3, _), (4, _)]) ⟨rfl, rfl, rfl, trivial⟩ ?_
  refine W.seq ?_
  refine W.seq ?_
  refine W.region ?_
  refine T.q (q_fld fl59_0 rfl rfl) (Wt.plain rfl) rfl rfl ?_
  refine T.q (q_load1 ss3 0 rfl rfl rfl (rfl)) (Wt.plain rfl) rfl rfl ?_
  refine T.nil ?_
  refine Ex.next ?_
  refine W.slots (L' := [(1, _), (3, _), (4, _), (12, _)]) ⟨rfl, rfl, rfl, rfl, trivial⟩ ?_
  refine W.block ?_
  refine W.seq ?_
  refine W.region ?_
  refine T.q (q_bool (b := false) (q_eql rfl rfl rfl) (decide_eq_false (by decide))) (Wt.plain rfl) rfl rfl ?_
  refine T.q (q_assign rfl rfl) (Wt.plain rfl) rfl rfl ?_
  refine T.nil ?_
  refine Ex.next ?_
  refine W.slots (L' := [(1, _), (3, _), (4, _), (12, _), (13, _)]) ⟨rfl, rfl, rfl, rfl, rfl, trivial⟩ ?_
  refine W.condF rfl ?_
  refine W.seq ?_
  refine W.region ?_
  refine T.q (q_bool (b := false) (q_eql rfl rfl rfl) (decide_eq_false (by decide))) (Wt.plain rfl) rfl rfl ?_
  refine T.q (q_assign rfl rfl) (Wt.plain rfl) rfl rfl ?_
  refine T.nil ?_
  refine Ex.next ?_
  refine W.slots (L' := [(1, _), (3, _), (4, _), (12, _), (29, _)]) ⟨rfl, rfl, rfl, rfl, rfl, trivial⟩ ?_
  refine W.condF rfl ?_
  refine W.seq ?_
  refine W.seq ?_
  refine W.region ?_
  refine T.q (q_bool (b := true) (q_eql rfl rfl rfl) (decide_eq_true (by decide))) (Wt.plain rfl) rfl rfl ?_
  refine T.q (q_assign rfl rfl) (Wt.plain rfl) rfl rfl ?_
  refine T.nil ?_
  refine Ex.next ?_
  refine W.slots (L' := [(1, _), (3, _), (4, _), (12, _), (47, _)]) ⟨rfl, rfl, rfl, rfl, rfl, trivial⟩ ?_
  refine W.condT rfl ?_
  refine W.skip ?_
  refine Ex.next ?_
  refine W.slots (L' := [(1, _), (3, _), (4, _), (12, _), (47, _)]) ⟨rfl, rfl, rfl, rfl, rfl, trivial⟩ ?_
  refine W.condT rfl ?_
  refine W.seq ?_
  refine W.region ?_
  refine T.q (q_fld fl59_1 rfl rfl) (Wt.plain rfl) rfl rfl ?_
  refine T.q (q_load1 ss3 0 rfl rfl rfl (cell_skip1 (rfl))) (Wt.plain rfl) rfl rfl ?_
  refine T.q (q_eql rfl rfl rfl) (Wt.plain rfl) rfl rfl ?_
  refine T.q (q_assign rfl rfl) (Wt.plain rfl) rfl rfl ?_
  refine T.nil ?_
  refine Ex.next ?_
  refine W.less (L' := [(3, _), (4, _)]) [false, true] ⟨rfl, rfl, trivial⟩ ?_
  change (_ : List Blk → Prop) [_]
  refine W.region ?_
  refine T.q (q_build (v := .agg (ints .u8 (List.replicate 8 0)).toArray) rfl rfl (fun _ => by kernel_rfl)) (Wt.plain rfl) rfl rfl ?_
  refine T.q (q_fld fl59_5 rfl rfl) (Wt.plain rfl) rfl rfl ?_
  refine T.eff (e_storeP (wide_ints wd57 (by first | omega | (simp; done) | (simp [-List.getD_eq_getElem?_getD]; omega) | (simp at *; omega) | rfl)) 0 rfl rfl rfl rfl (by first | (simp; done) | (simp; omega)) ints_one (put_skip1 (put_skip1 (put_skip1 (put_skip1 (put_skip1 (put_last (by first | omega | (simp; done) | (simp [-List.getD_eq_getElem?_getD]; omega) | (simp at *; omega) | rfl))))))) rfl) (Wt.plain rfl) ?_
  rintro _ _ ⟨rfl, rfl⟩
  change (_ : List Blk → Prop) [_]
  refine T.nil ?_
  refine Ex.in_normal ?_
  refine Ex.next ?_
  refine W.slots (L' := [(3, _), (4, _)]) ⟨rfl, rfl, trivial⟩ ?_
  refine W.seq ?_
  refine W.seq ?_
  refine W.region ?_
  refine T.q (q_move rfl rfl) (Wt.plain rfl) rfl rfl ?_
  refine T.q (q_bool (q_not rfl rfl) (decide_not (p := (a = 0))).symm) (Wt.plain rfl) rfl rfl ?_
  refine T.q (q_move rfl rfl) (Wt.plain rfl) rfl rfl ?_
  refine T.both (t := 89) _ rfl (fun hb3 => ?_) (fun hb3 => ?_)
  · replace hb3 := of_decide_eq_true hb3
    refine T.no (Wn.no rfl rfl rfl rfl) rfl rfl ?_
    refine T.no (Wn.no rfl rfl rfl rfl) rfl rfl ?_
    refine T.no (Wn.no rfl rfl rfl rfl) rfl rfl ?_
    refine T.q (q_pickT rfl rfl rfl) (Wt.plain rfl) rfl rfl ?_
    refine T.q (q_move rfl rfl) (Wt.plain rfl) rfl rfl ?_
    refine T.no (Wn.no rfl rfl rfl rfl) rfl rfl ?_
    refine T.no (Wn.no rfl rfl rfl rfl) rfl rfl ?_
    refine T.no (Wn.no rfl rfl rfl rfl) rfl rfl ?_
    refine T.no (Wn.no rfl rfl rfl rfl) rfl rfl ?_
    refine T.q (q_pickT rfl rfl rfl) (Wt.plain rfl) rfl rfl ?_
    refine T.q (q_move rfl rfl) (Wt.plain rfl) rfl rfl ?_
    refine T.no (Wn.no rfl rfl rfl rfl) rfl rfl ?_
    refine T.no (Wn.no rfl rfl rfl rfl) rfl rfl ?_
    refine T.no (Wn.no rfl rfl rfl rfl) rfl rfl ?_
    refine T.no (Wn.no rfl rfl rfl rfl) rfl rfl ?_
    refine T.q (q_pickT rfl rfl rfl) (Wt.plain rfl) rfl rfl ?_
    refine T.q (q_move rfl rfl) (Wt.plain rfl) rfl rfl ?_
    refine T.no (Wn.no rfl rfl rfl rfl) rfl rfl ?_
    refine T.no (Wn.no rfl rfl rfl rfl) rfl rfl ?_
    refine T.no (Wn.no rfl rfl rfl rfl) rfl rfl ?_
    refine T.no (Wn.no rfl rfl rfl rfl) rfl rfl ?_
    refine T.q (q_pickT rfl rfl rfl) (Wt.plain rfl) rfl rfl ?_
    refine T.nil ?_
    refine Ex.next ?_
    refine W.less (L' := [(111, _)]) [false] ⟨rfl, trivial⟩ ?_
    change (_ : List Blk → Prop) []
    refine W.condT rfl ?_
    refine W.seq ?_
    refine W.region ?_
    refine T.q (q_assign rfl rfl) (Wt.plain rfl) rfl rfl ?_
    refine T.nil ?_
    refine Ex.next ?_
    refine W.slots (L' := [(2, _)]) ⟨rfl, trivial⟩ ?_
    refine W.ret ?_
    refine Ex.then_ret ?_
    refine Ex.out1 [] rfl rfl ?_
    exact ⟨congrArg (Value.int .i64) (chkE_no (f := ⟨3, a, l, rs, bs, tok⟩) fun (h : mayN 3 a l bs.length rs.length (risN rs (a + 1) 4611686018427387903) (risN rs 0 a) (tokN tok)) => by unfold mayN at h; omega).symm, rfl⟩
  replace hb3 := of_decide_eq_false hb3
  refine T.q (q_fld fl59_2 rfl rfl) (Wt.yes rfl rfl rfl) rfl rfl ?_
  refine T.q (q_load1 ss3 0 rfl rfl rfl (cell_skip1 (cell_skip1 (rfl)))) (Wt.yes rfl rfl rfl) rfl rfl ?_
  refine T.q (q_neq rfl rfl rfl) (Wt.yes rfl rfl rfl) rfl rfl ?_
  refine T.q (q_pickF rfl rfl rfl) (Wt.plain rfl) rfl rfl ?_
  refine T.q (q_move rfl rfl) (Wt.plain rfl) rfl rfl ?_
  refine T.both (t := 94) _ rfl (fun hb4 => ?_) (fun hb4 => ?_)
  · replace hb4 := of_decide_eq_true hb4
    refine T.no (Wn.no rfl rfl rfl rfl) rfl rfl ?_
    refine T.no (Wn.no rfl rfl rfl rfl) rfl rfl ?_
    refine T.no (Wn.no rfl rfl rfl rfl) rfl rfl ?_
    refine T.no (Wn.no rfl rfl rfl rfl) rfl rfl ?_
    refine T.q (q_pickT rfl rfl rfl) (Wt.plain rfl) rfl rfl ?_
    refine T.q (q_move rfl rfl) (Wt.plain rfl) rfl rfl ?_
    refine T.no (Wn.no rfl rfl rfl rfl) rfl rfl ?_
    refine T.no (Wn.no rfl rfl rfl rfl) rfl rfl ?_
    refine T.no (Wn.no rfl rfl rfl rfl) rfl rfl ?_
    refine T.no (Wn.no rfl rfl rfl rfl) rfl rfl ?_
    refine T.q (q_pickT rfl rfl rfl) (Wt.plain rfl) rfl rfl ?_
    refine T.q (q_move rfl rfl) (Wt.plain rfl) rfl rfl ?_
    refine T.no (Wn.no rfl rfl rfl rfl) rfl rfl ?_
    refine T.no (Wn.no rfl rfl rfl rfl) rfl rfl ?_
    refine T.no (Wn.no rfl rfl rfl rfl) rfl rfl ?_
    refine T.no (Wn.no rfl rfl rfl rfl) rfl rfl ?_
    refine T.q (q_pickT rfl rfl rfl) (Wt.plain rfl) rfl rfl ?_
    refine T.nil ?_
    refine Ex.next ?_
    refine W.less (L' := [(111, _)]) [false] ⟨rfl, trivial⟩ ?_
    change (_ : List Blk → Prop) []
    refine W.condT rfl ?_
    refine W.seq ?_
    refine W.region ?_
    refine T.q (q_assign rfl rfl) (Wt.plain rfl) rfl rfl ?_
    refine T.nil ?_
    refine Ex.next ?_
    refine W.slots (L' := [(2, _)]) ⟨rfl, trivial⟩ ?_
    refine W.ret ?_
    refine Ex.then_ret ?_
    refine Ex.out1 [] rfl rfl ?_
    exact ⟨congrArg (Value.int .i64) (chkE_no (f := ⟨3, a, l, rs, bs, tok⟩) fun (h : mayN 3 a l bs.length rs.length (risN rs (a + 1) 4611686018427387903) (risN rs 0 a) (tokN tok)) => by unfold mayN at h; omega).symm, rfl⟩
  replace hb4 := of_decide_eq_false hb4
  refine T.q (q_fld fl59_4 rfl rfl) (Wt.yes rfl rfl rfl) rfl rfl ?_
  refine T.q (q_load1 ss22 0 rfl rfl rfl (cell_skip1 (cell_skip1 (cell_skip1 (cell_skip1 (rfl)))))) (Wt.yes rfl rfl rfl) rfl rfl ?_
  refine T.q (q_len sc22 rfl rfl) (Wt.yes rfl rfl rfl) rfl rfl ?_
  refine T.q (q_gtr rfl rfl rfl) (Wt.yes rfl rfl rfl) rfl rfl ?_
  refine T.q (q_pickF rfl rfl rfl) (Wt.plain rfl) rfl rfl ?_
  refine T.q (q_move rfl rfl) (Wt.plain rfl) rfl rfl ?_
  refine T.both (t := 100) _ rfl (fun hb5 => ?_) (fun hb5 => ?_)
  · replace hb5 := of_decide_eq_true hb5
    refine T.no (Wn.no rfl rfl rfl rfl) rfl rfl ?_
    refine T.no (Wn.no rfl rfl rfl rfl) rfl rfl ?_
    refine T.no (Wn.no rfl rfl rfl rfl) rfl rfl ?_
    refine T.no (Wn.no rfl rfl rfl rfl) rfl rfl ?_
    refine T.q (q_pickT rfl rfl rfl) (Wt.plain rfl) rfl rfl ?_
    refine T.q (q_move rfl rfl) (Wt.plain rfl) rfl rfl ?_
    refine T.no (Wn.no rfl rfl rfl rfl) rfl rfl ?_
    refine T.no (Wn.no rfl rfl rfl rfl) rfl rfl ?_
    refine T.no (Wn.no rfl rfl rfl rfl) rfl rfl ?_
    refine T.no (Wn.no rfl rfl rfl rfl) rfl rfl ?_
    refine T.q (q_pickT rfl rfl rfl) (Wt.plain rfl) rfl rfl ?_
    refine T.nil ?_
    refine Ex.next ?_
    refine W.less (L' := [(111, _)]) [false] ⟨rfl, trivial⟩ ?_
    change (_ : List Blk → Prop) []
    refine W.condT rfl ?_
    refine W.seq ?_
    refine W.region ?_
    refine T.q (q_assign rfl rfl) (Wt.plain rfl) rfl rfl ?_
    refine T.nil ?_
    refine Ex.next ?_
    refine W.slots (L' := [(2, _)]) ⟨rfl, trivial⟩ ?_
    refine W.ret ?_
    refine Ex.then_ret ?_
    refine Ex.out1 [] rfl rfl ?_
    exact ⟨congrArg (Value.int .i64) (chkE_no (f := ⟨3, a, l, rs, bs, tok⟩) fun (h : mayN 3 a l bs.length rs.length (risN rs (a + 1) 4611686018427387903) (risN rs 0 a) (tokN tok)) => by unfold mayN at h; omega).symm, rfl⟩
  replace hb5 := of_decide_eq_false hb5
  refine T.q (q_fld fl59_3 rfl rfl) (Wt.yes rfl rfl rfl) rfl rfl ?_
  refine T.q (q_load1 ss56 0 rfl rfl rfl (cell_skip1 (cell_skip1 (cell_skip1 (rfl))))) (Wt.yes rfl rfl rfl) rfl rfl ?_
  refine T.q (q_len sc56 rfl rfl) (Wt.yes rfl rfl rfl) rfl rfl ?_
  refine T.q (q_gtr rfl rfl rfl) (Wt.yes rfl rfl rfl) rfl rfl ?_
  refine T.q (q_pickF rfl rfl rfl) (Wt.plain rfl) rfl rfl ?_
  refine T.q (q_move rfl rfl) (Wt.plain rfl) rfl rfl ?_
  refine T.both (t := 106) _ rfl (fun hb6 => ?_) (fun hb6 => ?_)
  · replace hb6 := of_decide_eq_true hb6
    refine T.no (Wn.no rfl rfl rfl rfl) rfl rfl ?_
    refine T.no (Wn.no rfl rfl rfl rfl) rfl rfl ?_
    refine T.no (Wn.no rfl rfl rfl rfl) rfl rfl ?_
    refine T.no (Wn.no rfl rfl rfl rfl) rfl rfl ?_
    refine T.q (q_pickT rfl rfl rfl) (Wt.plain rfl) rfl rfl ?_
    refine T.nil ?_
    refine Ex.next ?_
    refine W.less (L' := [(111, _)]) [false] ⟨rfl, trivial⟩ ?_
    change (_ : List Blk → Prop) []
    refine W.condT rfl ?_
    refine W.seq ?_
    refine W.region ?_
    refine T.q (q_assign rfl rfl) (Wt.plain rfl) rfl rfl ?_
    refine T.nil ?_
    refine Ex.next ?_
    refine W.slots (L' := [(2, _)]) ⟨rfl, trivial⟩ ?_
    refine W.ret ?_
    refine Ex.then_ret ?_
    refine Ex.out1 [] rfl rfl ?_
    exact ⟨congrArg (Value.int .i64) (chkE_no (f := ⟨3, a, l, rs, bs, tok⟩) fun (h : mayN 3 a l bs.length rs.length (risN rs (a + 1) 4611686018427387903) (risN rs 0 a) (tokN tok)) => by unfold mayN at h; omega).symm, rfl⟩
  replace hb6 := of_decide_eq_false hb6
  refine T.q (q_fld fl59_5 rfl rfl) (Wt.yes rfl rfl rfl) rfl rfl ?_
  refine T.q (q_loadW (wide_ints wd57 (by first | omega | (simp; done) | (simp [-List.getD_eq_getElem?_getD]; omega) | (simp at *; omega) | rfl)) (R_at 0 5 8 rfl (part_skip1 (part_skip1 (part_skip1 (part_skip1 (part_skip1 (part_last (by first | omega | (simp; done) | (simp [-List.getD_eq_getElem?_getD]; omega) | (simp at *; omega) | rfl)))))))) rfl rfl) (Wt.yes rfl rfl rfl) rfl rfl ?_
  refine T.q (q_build (v := .agg (ints .u8 (List.replicate 8 0)).toArray) rfl rfl (fun _ => by kernel_rfl)) (Wt.yes rfl rfl rfl) rfl rfl ?_
  refine T.q (q_bool (b := false) (q_neqA ar57 ss5 un5 eg57 rfl rfl rfl (by first | omega | (simp; done) | (simp [-List.getD_eq_getElem?_getD]; omega) | (simp at *; omega) | rfl) (by first | omega | (simp; done) | (simp [-List.getD_eq_getElem?_getD]; omega) | (simp at *; omega) | rfl)) ?hE) (Wt.yes rfl rfl rfl) rfl rfl ?_
  case hE => simp
  refine T.q (q_pickF rfl rfl rfl) (Wt.plain rfl) rfl rfl ?_
  refine T.nil ?_
  refine Ex.next ?_
  refine W.less (L' := [(111, _)]) [false] ⟨rfl, trivial⟩ ?_
  change (_ : List Blk → Prop) []
  refine W.condF rfl ?_
  refine W.skip ?_
  refine Ex.next ?_
  refine W.slots (L' := []) trivial ?_
  refine W.seq ?_
  refine W.region ?_
  refine T.q (q_assign rfl rfl) (Wt.plain rfl) rfl rfl ?_
  refine T.nil ?_
  refine Ex.next ?_
  refine W.slots (L' := [(2, _)]) ⟨rfl, trivial⟩ ?_
  refine W.ret ?_
  refine Ex.out1 [] rfl rfl ?_
  exact ⟨congrArg (Value.int .i64) (chkE_yes (f := ⟨3, a, l, rs, bs, tok⟩) (show mayN 3 a l bs.length rs.length (risN rs (a + 1) 4611686018427387903) (risN rs 0 a) (tokN tok) by unfold mayN; omega)).symm, rfl⟩
set_option maxRecDepth 100000 in
theorem chk_4 (a l : Int) (rs : List (Int × Int)) (bs tok : List Int) (RA BA : Option Addr) (rc bc : Nat) (_hrl : rs.length ≤ 9223372036854775807) (_htok : tok.length = 8) (w0 : World) (_hR : Reads w0 RA (ints .i64 (flat rs))) : Does Try.prog 47 #[.agg (.int .i64 4 :: (.int .i64 a :: (.int .i64 l :: (.slice RA rs.length rc :: (.slice BA bs.length bc :: (ints .u8 tok)))))).toArray] w0 [] (fun v G => v = .int .i64 (chkE ⟨4, a, l, rs, bs, tok⟩) ∧ G = []) := by
  refine spec_of 112 Try.func47 rfl rfl rfl ?_
  refine W.seq ?_
  refine W.region ?_
  refine T.eff (e_box rfl rfl rfl rfl) (Wt.plain rfl) ?_
  rintro _ _ ⟨k1, rfl, rfl⟩
  change (_ : List Blk → Prop) [_]
  change (_ : List Blk → Prop) [⟨some k1, .int .i64 4 :: (.int .i64 a :: (.int .i64 l :: (.slice RA rs.length rc :: (.slice BA bs.length bc :: (ints .u8 tok))))), 59, (0, 0)⟩]
  refine T.q (q_assign rfl rfl) (Wt.plain rfl) rfl rfl ?_
  refine T.nil ?_
  refine Ex.next ?_
  refine W.slots (L' := [(1, _)]) ⟨rfl, trivial⟩ ?_
  refine W.seq ?_
  refine W.region ?_
  refine T.q (q_loadW (wd59.trans (congrArg some (by first | (simp; done) | (simp; omega)))) (R_blk 0 rfl) rfl rfl) (Wt.plain rfl) rfl rfl ?_
  refine T.eff (e_alloc ze59 rfl rfl rfl) (Wt.plain rfl) ?_
  rintro _ _ ⟨k2, rfl, rfl⟩
  change (_ : List Blk → Prop) [_, _]
  refine T.eff (e_storeA (wd59.trans (congrArg some (by first | (simp; done) | (simp; omega)))) 1 rfl rfl rfl rfl (by first | (simp; done) | (simp; omega)) (one_cons rfl (one_cons rfl (one_cons rfl (one_cons rfl (one_cons rfl (ints_one)))))) rfl) (Wt.plain rfl) ?_
  rintro _ _ ⟨rfl, rfl⟩
  change (_ : List Blk → Prop) [_, _]
  refine T.nil ?_
  refine Ex.next ?_
  refine W.slots (L' := [(1, _), (3, _)]) ⟨rfl, rfl, trivial⟩ ?_
  refine W.seq ?_
  refine W.region ?_
  refine T.q (q_fld fl59_0 rfl rfl) (Wt.plain rfl) rfl rfl ?_
  refine T.eff (e_storeP1 ss3 1 rfl rfl rfl rfl (by first | (simp; done) | (simp; omega)) rfl (rfl) rfl) (Wt.plain rfl) ?_
  rintro _ _ ⟨rfl, rfl⟩
  change (_ : List Blk → Prop) [_, _]
  refine T.q (q_fld fl59_1 rfl rfl) (Wt.plain rfl) rfl rfl ?_
  refine T.eff (e_storeP1 ss3 1 rfl rfl rfl rfl (by first | (simp; done) | (simp; omega)) rfl (set_skip1 (rfl)) rfl) (Wt.plain rfl) ?_
  rintro _ _ ⟨rfl, rfl⟩
  change (_ : List Blk → Prop) [_, _]
  refine T.nil ?_
  refine Ex.next ?_
  refine W.slots (L' := [(1, _), (3, _)]) ⟨rfl, rfl, trivial⟩ ?_
  refine W.seq ?_
  refine W.region ?_
  refine T.q (q_fld fl59_1 rfl rfl) (Wt.plain rfl) rfl rfl ?_
  refine T.q (q_load1 ss3 0 rfl rfl rfl (cell_skip1 (rfl))) (Wt.plain rfl) rfl rfl ?_
  refine T.eff (e_call enters64 rfl rfl (fun w hm => num_spec a w) rfl rfl) (Wt.plain rfl) ?_
  rintro _ _ ⟨_, _, ⟨rfl, rfl⟩, rfl, rfl⟩
  change (_ : List Blk → Prop) [_, _]
  refine T.q (q_assign rfl rfl) (Wt.plain rfl) rfl rfl ?_
  refine T.nil ?_
  refine Ex.next ?_
  refine W.slots (L' := [(1, _), (3, _), (4, _)]) ⟨rfl, rfl, rfl, trivial⟩ ?_
  refine W.seq ?_
  refine W.seq ?_
  refine W.region ?_
  refine T.q (q_fld fl59_0 rfl rfl) (Wt.plain rfl) rfl rfl ?_
  refine T.q (q_load1 ss3 0 rfl rfl rfl (rfl)) (Wt.plain rfl) rfl rfl ?_
  refine T.nil ?_
  refine Ex.next ?_
  refine W.slots (L' := [(1, _), (3, _), (4, _), (12, _)]) ⟨rfl, rfl, rfl, rfl, trivial⟩ ?_
  refine W.block ?_
  refine W.seq ?_
  refine W.region ?_
  refine T.q (q_bool (b := false) (q_eql rfl rfl rfl) (decide_eq_false (by decide))) (Wt.plain rfl) rfl rfl ?_
  refine T.q (q_assign rfl rfl) (Wt.plain rfl) rfl rfl ?_
  refine T.nil ?_
  refine Ex.next ?_
  refine W.slots (L' := [(1, _), (3, _), (4, _), (12, _), (13, _)]) ⟨rfl, rfl, rfl, rfl, rfl, trivial⟩ ?_
  refine W.condF rfl ?_
  refine W.seq ?_
  refine W.region ?_
  refine T.q (q_bool (b := false) (q_eql rfl rfl rfl) (decide_eq_false (by decide))) (Wt.plain rfl) rfl rfl ?_
  refine T.q (q_assign rfl rfl) (Wt.plain rfl) rfl rfl ?_
  refine T.nil ?_
  refine Ex.next ?_
  refine W.slots (L' := [(1, _), (3, _), (4, _), (12, _), (29, _)]) ⟨rfl, rfl, rfl, rfl, rfl, trivial⟩ ?_
  refine W.condF rfl ?_
  refine W.seq ?_
  refine W.seq ?_
  refine W.region ?_
  refine T.q (q_bool (b := false) (q_eql rfl rfl rfl) (decide_eq_false (by decide))) (Wt.plain rfl) rfl rfl ?_
  refine T.q (q_assign rfl rfl) (Wt.plain rfl) rfl rfl ?_
  refine T.nil ?_
  refine Ex.next ?_
  refine W.slots (L' := [(1, _), (3, _), (4, _), (12, _), (47, _)]) ⟨rfl, rfl, rfl, rfl, rfl, trivial⟩ ?_
  refine W.condF rfl ?_
  refine W.region ?_
  refine T.q (q_bool (b := true) (q_eql rfl rfl rfl) (decide_eq_true (by decide))) (Wt.plain rfl) rfl rfl ?_
  refine T.q (q_assign rfl rfl) (Wt.plain rfl) rfl rfl ?_
  refine T.nil ?_
  refine Ex.next ?_
  refine W.slots (L' := [(1, _), (3, _), (4, _), (12, _), (47, _)]) ⟨rfl, rfl, rfl, rfl, rfl, trivial⟩ ?_
  refine W.condT rfl ?_
  refine W.seq ?_
  refine W.region ?_
  refine T.q (q_fld fl59_1 rfl rfl) (Wt.plain rfl) rfl rfl ?_
  refine T.q (q_load1 ss3 0 rfl rfl rfl (cell_skip1 (rfl))) (Wt.plain rfl) rfl rfl ?_
  refine T.q (q_eql rfl rfl rfl) (Wt.plain rfl) rfl rfl ?_
  refine T.q (q_assign rfl rfl) (Wt.plain rfl) rfl rfl ?_
  refine T.nil ?_
  refine Ex.next ?_
  refine W.less (L' := [(3, _), (4, _)]) [false, true] ⟨rfl, rfl, trivial⟩ ?_
  change (_ : List Blk → Prop) [_]
  refine W.region ?_
  refine T.q (q_build (v := .agg (ints .u8 (List.replicate 8 0)).toArray) rfl rfl (fun _ => by kernel_rfl)) (Wt.plain rfl) rfl rfl ?_
  refine T.q (q_fld fl59_5 rfl rfl) (Wt.plain rfl) rfl rfl ?_
  refine T.eff (e_storeP (wide_ints wd57 (by first | omega | (simp; done) | (simp [-List.getD_eq_getElem?_getD]; omega) | (simp at *; omega) | rfl)) 0 rfl rfl rfl rfl (by first | (simp; done) | (simp; omega)) ints_one (put_skip1 (put_skip1 (put_skip1 (put_skip1 (put_skip1 (put_last (by first | omega | (simp; done) | (simp [-List.getD_eq_getElem?_getD]; omega) | (simp at *; omega) | rfl))))))) rfl) (Wt.plain rfl) ?_
  rintro _ _ ⟨rfl, rfl⟩
  change (_ : List Blk → Prop) [_]
  refine T.nil ?_
  refine Ex.in_normal ?_
  refine Ex.next ?_
  refine W.slots (L' := [(3, _), (4, _)]) ⟨rfl, rfl, trivial⟩ ?_
  refine W.seq ?_
  refine W.seq ?_
  refine W.region ?_
  refine T.q (q_move rfl rfl) (Wt.plain rfl) rfl rfl ?_
  refine T.q (q_bool (q_not rfl rfl) (decide_not (p := (a = 0))).symm) (Wt.plain rfl) rfl rfl ?_
  refine T.q (q_move rfl rfl) (Wt.plain rfl) rfl rfl ?_
  refine T.both (t := 89) _ rfl (fun hb3 => ?_) (fun hb3 => ?_)
  · replace hb3 := of_decide_eq_true hb3
    refine T.no (Wn.no rfl rfl rfl rfl) rfl rfl ?_
    refine T.no (Wn.no rfl rfl rfl rfl) rfl rfl ?_
    refine T.no (Wn.no rfl rfl rfl rfl) rfl rfl ?_
    refine T.q (q_pickT rfl rfl rfl) (Wt.plain rfl) rfl rfl ?_
    refine T.q (q_move rfl rfl) (Wt.plain rfl) rfl rfl ?_
    refine T.no (Wn.no rfl rfl rfl rfl) rfl rfl ?_
    refine T.no (Wn.no rfl rfl rfl rfl) rfl rfl ?_
    refine T.no (Wn.no rfl rfl rfl rfl) rfl rfl ?_
    refine T.no (Wn.no rfl rfl rfl rfl) rfl rfl ?_
    refine T.q (q_pickT rfl rfl rfl) (Wt.plain rfl) rfl rfl ?_
    refine T.q (q_move rfl rfl) (Wt.plain rfl) rfl rfl ?_
    refine T.no (Wn.no rfl rfl rfl rfl) rfl rfl ?_
    refine T.no (Wn.no rfl rfl rfl rfl) rfl rfl ?_
    refine T.no (Wn.no rfl rfl rfl rfl) rfl rfl ?_
    refine T.no (Wn.no rfl rfl rfl rfl) rfl rfl ?_
    refine T.q (q_pickT rfl rfl rfl) (Wt.plain rfl) rfl rfl ?_
    refine T.q (q_move rfl rfl) (Wt.plain rfl) rfl rfl ?_
    refine T.no (Wn.no rfl rfl rfl rfl) rfl rfl ?_
    refine T.no (Wn.no rfl rfl rfl rfl) rfl rfl ?_
    refine T.no (Wn.no rfl rfl rfl rfl) rfl rfl ?_
    refine T.no (Wn.no rfl rfl rfl rfl) rfl rfl ?_
    refine T.q (q_pickT rfl rfl rfl) (Wt.plain rfl) rfl rfl ?_
    refine T.nil ?_
    refine Ex.next ?_
    refine W.less (L' := [(111, _)]) [false] ⟨rfl, trivial⟩ ?_
    change (_ : List Blk → Prop) []
    refine W.condT rfl ?_
    refine W.seq ?_
    refine W.region ?_
    refine T.q (q_assign rfl rfl) (Wt.plain rfl) rfl rfl ?_
    refine T.nil ?_
    refine Ex.next ?_
    refine W.slots (L' := [(2, _)]) ⟨rfl, trivial⟩ ?_
    refine W.ret ?_
    refine Ex.then_ret ?_
    refine Ex.out1 [] rfl rfl ?_
    exact ⟨congrArg (Value.int .i64) (chkE_no (f := ⟨4, a, l, rs, bs, tok⟩) fun (h : mayN 4 a l bs.length rs.length (risN rs (a + 1) 4611686018427387903) (risN rs 0 a) (tokN tok)) => by unfold mayN at h; omega).symm, rfl⟩
  replace hb3 := of_decide_eq_false hb3
  refine T.q (q_fld fl59_2 rfl rfl) (Wt.yes rfl rfl rfl) rfl rfl ?_
  refine T.q (q_load1 ss3 0 rfl rfl rfl (cell_skip1 (cell_skip1 (rfl)))) (Wt.yes rfl rfl rfl) rfl rfl ?_
  refine T.q (q_neq rfl rfl rfl) (Wt.yes rfl rfl rfl) rfl rfl ?_
  refine T.q (q_pickF rfl rfl rfl) (Wt.plain rfl) rfl rfl ?_
  refine T.q (q_move rfl rfl) (Wt.plain rfl) rfl rfl ?_
  refine T.both (t := 94) _ rfl (fun hb4 => ?_) (fun hb4 => ?_)
  · replace hb4 := of_decide_eq_true hb4
    refine T.no (Wn.no rfl rfl rfl rfl) rfl rfl ?_
    refine T.no (Wn.no rfl rfl rfl rfl) rfl rfl ?_
    refine T.no (Wn.no rfl rfl rfl rfl) rfl rfl ?_
    refine T.no (Wn.no rfl rfl rfl rfl) rfl rfl ?_
    refine T.q (q_pickT rfl rfl rfl) (Wt.plain rfl) rfl rfl ?_
    refine T.q (q_move rfl rfl) (Wt.plain rfl) rfl rfl ?_
    refine T.no (Wn.no rfl rfl rfl rfl) rfl rfl ?_
    refine T.no (Wn.no rfl rfl rfl rfl) rfl rfl ?_
    refine T.no (Wn.no rfl rfl rfl rfl) rfl rfl ?_
    refine T.no (Wn.no rfl rfl rfl rfl) rfl rfl ?_
    refine T.q (q_pickT rfl rfl rfl) (Wt.plain rfl) rfl rfl ?_
    refine T.q (q_move rfl rfl) (Wt.plain rfl) rfl rfl ?_
    refine T.no (Wn.no rfl rfl rfl rfl) rfl rfl ?_
    refine T.no (Wn.no rfl rfl rfl rfl) rfl rfl ?_
    refine T.no (Wn.no rfl rfl rfl rfl) rfl rfl ?_
    refine T.no (Wn.no rfl rfl rfl rfl) rfl rfl ?_
    refine T.q (q_pickT rfl rfl rfl) (Wt.plain rfl) rfl rfl ?_
    refine T.nil ?_
    refine Ex.next ?_
    refine W.less (L' := [(111, _)]) [false] ⟨rfl, trivial⟩ ?_
    change (_ : List Blk → Prop) []
    refine W.condT rfl ?_
    refine W.seq ?_
    refine W.region ?_
    refine T.q (q_assign rfl rfl) (Wt.plain rfl) rfl rfl ?_
    refine T.nil ?_
    refine Ex.next ?_
    refine W.slots (L' := [(2, _)]) ⟨rfl, trivial⟩ ?_
    refine W.ret ?_
    refine Ex.then_ret ?_
    refine Ex.out1 [] rfl rfl ?_
    exact ⟨congrArg (Value.int .i64) (chkE_no (f := ⟨4, a, l, rs, bs, tok⟩) fun (h : mayN 4 a l bs.length rs.length (risN rs (a + 1) 4611686018427387903) (risN rs 0 a) (tokN tok)) => by unfold mayN at h; omega).symm, rfl⟩
  replace hb4 := of_decide_eq_false hb4
  refine T.q (q_fld fl59_4 rfl rfl) (Wt.yes rfl rfl rfl) rfl rfl ?_
  refine T.q (q_load1 ss22 0 rfl rfl rfl (cell_skip1 (cell_skip1 (cell_skip1 (cell_skip1 (rfl)))))) (Wt.yes rfl rfl rfl) rfl rfl ?_
  refine T.q (q_len sc22 rfl rfl) (Wt.yes rfl rfl rfl) rfl rfl ?_
  refine T.q (q_gtr rfl rfl rfl) (Wt.yes rfl rfl rfl) rfl rfl ?_
  refine T.q (q_pickF rfl rfl rfl) (Wt.plain rfl) rfl rfl ?_
  refine T.q (q_move rfl rfl) (Wt.plain rfl) rfl rfl ?_
  refine T.both (t := 100) _ rfl (fun hb5 => ?_) (fun hb5 => ?_)
  · replace hb5 := of_decide_eq_true hb5
    refine T.no (Wn.no rfl rfl rfl rfl) rfl rfl ?_
    refine T.no (Wn.no rfl rfl rfl rfl) rfl rfl ?_
    refine T.no (Wn.no rfl rfl rfl rfl) rfl rfl ?_
    refine T.no (Wn.no rfl rfl rfl rfl) rfl rfl ?_
    refine T.q (q_pickT rfl rfl rfl) (Wt.plain rfl) rfl rfl ?_
    refine T.q (q_move rfl rfl) (Wt.plain rfl) rfl rfl ?_
    refine T.no (Wn.no rfl rfl rfl rfl) rfl rfl ?_
    refine T.no (Wn.no rfl rfl rfl rfl) rfl rfl ?_
    refine T.no (Wn.no rfl rfl rfl rfl) rfl rfl ?_
    refine T.no (Wn.no rfl rfl rfl rfl) rfl rfl ?_
    refine T.q (q_pickT rfl rfl rfl) (Wt.plain rfl) rfl rfl ?_
    refine T.nil ?_
    refine Ex.next ?_
    refine W.less (L' := [(111, _)]) [false] ⟨rfl, trivial⟩ ?_
    change (_ : List Blk → Prop) []
    refine W.condT rfl ?_
    refine W.seq ?_
    refine W.region ?_
    refine T.q (q_assign rfl rfl) (Wt.plain rfl) rfl rfl ?_
    refine T.nil ?_
    refine Ex.next ?_
    refine W.slots (L' := [(2, _)]) ⟨rfl, trivial⟩ ?_
    refine W.ret ?_
    refine Ex.then_ret ?_
    refine Ex.out1 [] rfl rfl ?_
    exact ⟨congrArg (Value.int .i64) (chkE_no (f := ⟨4, a, l, rs, bs, tok⟩) fun (h : mayN 4 a l bs.length rs.length (risN rs (a + 1) 4611686018427387903) (risN rs 0 a) (tokN tok)) => by unfold mayN at h; omega).symm, rfl⟩
  replace hb5 := of_decide_eq_false hb5
  refine T.q (q_fld fl59_3 rfl rfl) (Wt.yes rfl rfl rfl) rfl rfl ?_
  refine T.q (q_load1 ss56 0 rfl rfl rfl (cell_skip1 (cell_skip1 (cell_skip1 (rfl))))) (Wt.yes rfl rfl rfl) rfl rfl ?_
  refine T.q (q_len sc56 rfl rfl) (Wt.yes rfl rfl rfl) rfl rfl ?_
  refine T.q (q_gtr rfl rfl rfl) (Wt.yes rfl rfl rfl) rfl rfl ?_
  refine T.q (q_pickF rfl rfl rfl) (Wt.plain rfl) rfl rfl ?_
  refine T.q (q_move rfl rfl) (Wt.plain rfl) rfl rfl ?_
  refine T.both (t := 106) _ rfl (fun hb6 => ?_) (fun hb6 => ?_)
  · replace hb6 := of_decide_eq_true hb6
    refine T.no (Wn.no rfl rfl rfl rfl) rfl rfl ?_
    refine T.no (Wn.no rfl rfl rfl rfl) rfl rfl ?_
    refine T.no (Wn.no rfl rfl rfl rfl) rfl rfl ?_
    refine T.no (Wn.no rfl rfl rfl rfl) rfl rfl ?_
    refine T.q (q_pickT rfl rfl rfl) (Wt.plain rfl) rfl rfl ?_
    refine T.nil ?_
    refine Ex.next ?_
    refine W.less (L' := [(111, _)]) [false] ⟨rfl, trivial⟩ ?_
    change (_ : List Blk → Prop) []
    refine W.condT rfl ?_
    refine W.seq ?_
    refine W.region ?_
    refine T.q (q_assign rfl rfl) (Wt.plain rfl) rfl rfl ?_
    refine T.nil ?_
    refine Ex.next ?_
    refine W.slots (L' := [(2, _)]) ⟨rfl, trivial⟩ ?_
    refine W.ret ?_
    refine Ex.then_ret ?_
    refine Ex.out1 [] rfl rfl ?_
    exact ⟨congrArg (Value.int .i64) (chkE_no (f := ⟨4, a, l, rs, bs, tok⟩) fun (h : mayN 4 a l bs.length rs.length (risN rs (a + 1) 4611686018427387903) (risN rs 0 a) (tokN tok)) => by unfold mayN at h; omega).symm, rfl⟩
  replace hb6 := of_decide_eq_false hb6
  refine T.q (q_fld fl59_5 rfl rfl) (Wt.yes rfl rfl rfl) rfl rfl ?_
  refine T.q (q_loadW (wide_ints wd57 (by first | omega | (simp; done) | (simp [-List.getD_eq_getElem?_getD]; omega) | (simp at *; omega) | rfl)) (R_at 0 5 8 rfl (part_skip1 (part_skip1 (part_skip1 (part_skip1 (part_skip1 (part_last (by first | omega | (simp; done) | (simp [-List.getD_eq_getElem?_getD]; omega) | (simp at *; omega) | rfl)))))))) rfl rfl) (Wt.yes rfl rfl rfl) rfl rfl ?_
  refine T.q (q_build (v := .agg (ints .u8 (List.replicate 8 0)).toArray) rfl rfl (fun _ => by kernel_rfl)) (Wt.yes rfl rfl rfl) rfl rfl ?_
  refine T.q (q_bool (b := false) (q_neqA ar57 ss5 un5 eg57 rfl rfl rfl (by first | omega | (simp; done) | (simp [-List.getD_eq_getElem?_getD]; omega) | (simp at *; omega) | rfl) (by first | omega | (simp; done) | (simp [-List.getD_eq_getElem?_getD]; omega) | (simp at *; omega) | rfl)) ?hE) (Wt.yes rfl rfl rfl) rfl rfl ?_
  case hE => simp
  refine T.q (q_pickF rfl rfl rfl) (Wt.plain rfl) rfl rfl ?_
  refine T.nil ?_
  refine Ex.next ?_
  refine W.less (L' := [(111, _)]) [false] ⟨rfl, trivial⟩ ?_
  change (_ : List Blk → Prop) []
  refine W.condF rfl ?_
  refine W.skip ?_
  refine Ex.next ?_
  refine W.slots (L' := []) trivial ?_
  refine W.seq ?_
  refine W.region ?_
  refine T.q (q_assign rfl rfl) (Wt.plain rfl) rfl rfl ?_
  refine T.nil ?_
  refine Ex.next ?_
  refine W.slots (L' := [(2, _)]) ⟨rfl, trivial⟩ ?_
  refine W.ret ?_
  refine Ex.out1 [] rfl rfl ?_
  exact ⟨congrArg (Value.int .i64) (chkE_yes (f := ⟨4, a, l, rs, bs, tok⟩) (show mayN 4 a l bs.length rs.length (risN rs (a + 1) 4611686018427387903) (risN rs 0 a) (tokN tok) by unfold mayN; omega)).symm, rfl⟩
set_option maxRecDepth 100000 in
theorem chk_5 (a l : Int) (rs : List (Int × Int)) (bs tok : List Int) (RA BA : Option Addr) (rc bc : Nat) (_hrl : rs.length ≤ 9223372036854775807) (htok : tok.length = 8) (w0 : World) (_hR : Reads w0 RA (ints .i64 (flat rs))) : Does Try.prog 47 #[.agg (.int .i64 5 :: (.int .i64 a :: (.int .i64 l :: (.slice RA rs.length rc :: (.slice BA bs.length bc :: (ints .u8 tok)))))).toArray] w0 [] (fun v G => v = .int .i64 (chkE ⟨5, a, l, rs, bs, tok⟩) ∧ G = []) := by
  refine spec_of 112 Try.func47 rfl rfl rfl ?_
  refine W.seq ?_
  refine W.region ?_
  refine T.eff (e_box rfl rfl rfl rfl) (Wt.plain rfl) ?_
  rintro _ _ ⟨k1, rfl, rfl⟩
  change (_ : List Blk → Prop) [_]
  change (_ : List Blk → Prop) [⟨some k1, .int .i64 5 :: (.int .i64 a :: (.int .i64 l :: (.slice RA rs.length rc :: (.slice BA bs.length bc :: (ints .u8 tok))))), 59, (0, 0)⟩]
  refine T.q (q_assign rfl rfl) (Wt.plain rfl) rfl rfl ?_
  refine T.nil ?_
  refine Ex.next ?_
  refine W.slots (L' := [(1, _)]) ⟨rfl, trivial⟩ ?_
  refine W.seq ?_
  refine W.region ?_
  refine T.q (q_loadW (wd59.trans (congrArg some (by first | (simp; done) | (simp; omega)))) (R_blk 0 rfl) rfl rfl) (Wt.plain rfl) rfl rfl ?_
  refine T.eff (e_alloc ze59 rfl rfl rfl) (Wt.plain rfl) ?_
  rintro _ _ ⟨k2, rfl, rfl⟩
  change (_ : List Blk → Prop) [_, _]
  refine T.eff (e_storeA (wd59.trans (congrArg some (by first | (simp; done) | (simp; omega)))) 1 rfl rfl rfl rfl (by first | (simp; done) | (simp; omega)) (one_cons rfl (one_cons rfl (one_cons rfl (one_cons rfl (one_cons rfl (ints_one)))))) rfl) (Wt.plain rfl) ?_
  rintro _ _ ⟨rfl, rfl⟩
  change (_ : List Blk → Prop) [_, _]
  refine T.nil ?_
  refine Ex.next ?_
  refine W.slots (L' := [(1, _), (3, _)]) ⟨rfl, rfl, trivial⟩ ?_
  refine W.seq ?_
  refine W.region ?_
  refine T.q (q_fld fl59_0 rfl rfl) (Wt.plain rfl) rfl rfl ?_
  refine T.eff (e_storeP1 ss3 1 rfl rfl rfl rfl (by first | (simp; done) | (simp; omega)) rfl (rfl) rfl) (Wt.plain rfl) ?_
  rintro _ _ ⟨rfl, rfl⟩
  change (_ : List Blk → Prop) [_, _]
  refine T.q (q_fld fl59_1 rfl rfl) (Wt.plain rfl) rfl rfl ?_
  refine T.eff (e_storeP1 ss3 1 rfl rfl rfl rfl (by first | (simp; done) | (simp; omega)) rfl (set_skip1 (rfl)) rfl) (Wt.plain rfl) ?_
  rintro _ _ ⟨rfl, rfl⟩
  change (_ : List Blk → Prop) [_, _]
  refine T.nil ?_
  refine Ex.next ?_
  refine W.slots (L' := [(1, _), (3, _)]) ⟨rfl, rfl, trivial⟩ ?_
  refine W.seq ?_
  refine W.region ?_
  refine T.q (q_fld fl59_1 rfl rfl) (Wt.plain rfl) rfl rfl ?_
  refine T.q (q_load1 ss3 0 rfl rfl rfl (cell_skip1 (rfl))) (Wt.plain rfl) rfl rfl ?_
  refine T.eff (e_call enters64 rfl rfl (fun w hm => num_spec a w) rfl rfl) (Wt.plain rfl) ?_
  rintro _ _ ⟨_, _, ⟨rfl, rfl⟩, rfl, rfl⟩
  change (_ : List Blk → Prop) [_, _]
  refine T.q (q_assign rfl rfl) (Wt.plain rfl) rfl rfl ?_
  refine T.nil ?_
  refine Ex.next ?_
  refine W.slots (L' := [(1, _), (3, _), (4, _)]) ⟨rfl, rfl, rfl, trivial⟩ ?_
  refine W.seq ?_
  refine W.seq ?_
  refine W.region ?_
  refine T.q (q_fld fl59_0 rfl rfl) (Wt.plain rfl) rfl rfl ?_
  refine T.q (q_load1 ss3 0 rfl rfl rfl (rfl)) (Wt.plain rfl) rfl rfl ?_
  refine T.nil ?_
  refine Ex.next ?_
  refine W.slots (L' := [(1, _), (3, _), (4, _), (12, _)]) ⟨rfl, rfl, rfl, rfl, trivial⟩ ?_
  refine W.block ?_
  refine W.seq ?_
  refine W.region ?_
  refine T.q (q_bool (b := false) (q_eql rfl rfl rfl) (decide_eq_false (by decide))) (Wt.plain rfl) rfl rfl ?_
  refine T.q (q_assign rfl rfl) (Wt.plain rfl) rfl rfl ?_
  refine T.nil ?_
  refine Ex.next ?_
  refine W.slots (L' := [(1, _), (3, _), (4, _), (12, _), (13, _)]) ⟨rfl, rfl, rfl, rfl, rfl, trivial⟩ ?_
  refine W.condF rfl ?_
  refine W.seq ?_
  refine W.region ?_
  refine T.q (q_bool (b := false) (q_eql rfl rfl rfl) (decide_eq_false (by decide))) (Wt.plain rfl) rfl rfl ?_
  refine T.q (q_assign rfl rfl) (Wt.plain rfl) rfl rfl ?_
  refine T.nil ?_
  refine Ex.next ?_
  refine W.slots (L' := [(1, _), (3, _), (4, _), (12, _), (29, _)]) ⟨rfl, rfl, rfl, rfl, rfl, trivial⟩ ?_
  refine W.condF rfl ?_
  refine W.seq ?_
  refine W.seq ?_
  refine W.region ?_
  refine T.q (q_bool (b := false) (q_eql rfl rfl rfl) (decide_eq_false (by decide))) (Wt.plain rfl) rfl rfl ?_
  refine T.q (q_assign rfl rfl) (Wt.plain rfl) rfl rfl ?_
  refine T.nil ?_
  refine Ex.next ?_
  refine W.slots (L' := [(1, _), (3, _), (4, _), (12, _), (47, _)]) ⟨rfl, rfl, rfl, rfl, rfl, trivial⟩ ?_
  refine W.condF rfl ?_
  refine W.region ?_
  refine T.q (q_bool (b := false) (q_eql rfl rfl rfl) (decide_eq_false (by decide))) (Wt.plain rfl) rfl rfl ?_
  refine T.q (q_assign rfl rfl) (Wt.plain rfl) rfl rfl ?_
  refine T.nil ?_
  refine Ex.next ?_
  refine W.slots (L' := [(1, _), (3, _), (4, _), (12, _), (47, _)]) ⟨rfl, rfl, rfl, rfl, rfl, trivial⟩ ?_
  refine W.condF rfl ?_
  refine W.seq ?_
  refine W.region ?_
  refine T.q (q_bool (b := true) (q_eql rfl rfl rfl) (decide_eq_true (by decide))) (Wt.plain rfl) rfl rfl ?_
  refine T.q (q_assign rfl rfl) (Wt.plain rfl) rfl rfl ?_
  refine T.nil ?_
  refine Ex.next ?_
  refine W.slots (L' := [(1, _), (3, _), (4, _), (12, _), (55, _)]) ⟨rfl, rfl, rfl, rfl, rfl, trivial⟩ ?_
  refine W.condT rfl ?_
  refine W.region ?_
  refine T.q (q_move rfl rfl) (Wt.plain rfl) rfl rfl ?_
  refine T.q (q_move rfl rfl) (Wt.plain rfl) rfl rfl ?_
  refine T.both (t := 58) _ rfl (fun hb3 => ?_) (fun hb3 => ?_)
  · replace hb3 := of_decide_eq_true hb3
    refine T.q (q_fld fl59_1 rfl rfl) (Wt.yes rfl rfl rfl) rfl rfl ?_
    refine T.q (q_load1 ss3 0 rfl rfl rfl (cell_skip1 (rfl))) (Wt.yes rfl rfl rfl) rfl rfl ?_
    refine T.q (q_leq rfl rfl rfl) (Wt.yes rfl rfl rfl) rfl rfl ?_
    refine T.q (q_pickT rfl rfl rfl) (Wt.plain rfl) rfl rfl ?_
    refine T.q (q_assign rfl rfl) (Wt.plain rfl) rfl rfl ?_
    refine T.nil ?_
    refine Ex.in_normal ?_
    refine Ex.next ?_
    refine W.less (L' := [(3, _), (4, _)]) [false, true] ⟨rfl, rfl, trivial⟩ ?_
    change (_ : List Blk → Prop) [_]
    refine W.seq ?_
    refine W.seq ?_
    refine W.region ?_
    refine T.q (q_move rfl rfl) (Wt.plain rfl) rfl rfl ?_
    refine T.q (q_bool (q_not rfl rfl) (decide_not (p := (a ≤ 65535))).symm) (Wt.plain rfl) rfl rfl ?_
    refine T.q (q_move rfl rfl) (Wt.plain rfl) rfl rfl ?_
    refine T.both (t := 89) _ rfl (fun hb4 => ?_) (fun hb4 => ?_)
    · replace hb4 := of_decide_eq_true hb4
      refine T.no (Wn.no rfl rfl rfl rfl) rfl rfl ?_
      refine T.no (Wn.no rfl rfl rfl rfl) rfl rfl ?_
      refine T.no (Wn.no rfl rfl rfl rfl) rfl rfl ?_
      refine T.q (q_pickT rfl rfl rfl) (Wt.plain rfl) rfl rfl ?_
      refine T.q (q_move rfl rfl) (Wt.plain rfl) rfl rfl ?_
      refine T.no (Wn.no rfl rfl rfl rfl) rfl rfl ?_
      refine T.no (Wn.no rfl rfl rfl rfl) rfl rfl ?_
      refine T.no (Wn.no rfl rfl rfl rfl) rfl rfl ?_
      refine T.no (Wn.no rfl rfl rfl rfl) rfl rfl ?_
      refine T.q (q_pickT rfl rfl rfl) (Wt.plain rfl) rfl rfl ?_
      refine T.q (q_move rfl rfl) (Wt.plain rfl) rfl rfl ?_
      refine T.no (Wn.no rfl rfl rfl rfl) rfl rfl ?_
      refine T.no (Wn.no rfl rfl rfl rfl) rfl rfl ?_
      refine T.no (Wn.no rfl rfl rfl rfl) rfl rfl ?_
      refine T.no (Wn.no rfl rfl rfl rfl) rfl rfl ?_
      refine T.q (q_pickT rfl rfl rfl) (Wt.plain rfl) rfl rfl ?_
      refine T.q (q_move rfl rfl) (Wt.plain rfl) rfl rfl ?_
      refine T.no (Wn.no rfl rfl rfl rfl) rfl rfl ?_
      refine T.no (Wn.no rfl rfl rfl rfl) rfl rfl ?_
      refine T.no (Wn.no rfl rfl rfl rfl) rfl rfl ?_
      refine T.no (Wn.no rfl rfl rfl rfl) rfl rfl ?_
      refine T.q (q_pickT rfl rfl rfl) (Wt.plain rfl) rfl rfl ?_
      refine T.nil ?_
      refine Ex.next ?_
      refine W.less (L' := [(111, _)]) [false] ⟨rfl, trivial⟩ ?_
      change (_ : List Blk → Prop) []
      refine W.condT rfl ?_
      refine W.seq ?_
      refine W.region ?_
      refine T.q (q_assign rfl rfl) (Wt.plain rfl) rfl rfl ?_
      refine T.nil ?_
      refine Ex.next ?_
      refine W.slots (L' := [(2, _)]) ⟨rfl, trivial⟩ ?_
      refine W.ret ?_
      refine Ex.then_ret ?_
      refine Ex.out1 [] rfl rfl ?_
      exact ⟨congrArg (Value.int .i64) (chkE_no (f := ⟨5, a, l, rs, bs, tok⟩) fun (h : mayN 5 a l bs.length rs.length (risN rs (a + 1) 4611686018427387903) (risN rs 0 a) (tokN tok)) => by unfold mayN at h; omega).symm, rfl⟩
    replace hb4 := of_decide_eq_false hb4
    refine T.q (q_fld fl59_2 rfl rfl) (Wt.yes rfl rfl rfl) rfl rfl ?_
    refine T.q (q_load1 ss3 0 rfl rfl rfl (cell_skip1 (cell_skip1 (rfl)))) (Wt.yes rfl rfl rfl) rfl rfl ?_
    refine T.q (q_neq rfl rfl rfl) (Wt.yes rfl rfl rfl) rfl rfl ?_
    refine T.q (q_pickF rfl rfl rfl) (Wt.plain rfl) rfl rfl ?_
    refine T.q (q_move rfl rfl) (Wt.plain rfl) rfl rfl ?_
    refine T.both (t := 94) _ rfl (fun hb5 => ?_) (fun hb5 => ?_)
    · replace hb5 := of_decide_eq_true hb5
      refine T.no (Wn.no rfl rfl rfl rfl) rfl rfl ?_
      refine T.no (Wn.no rfl rfl rfl rfl) rfl rfl ?_
      refine T.no (Wn.no rfl rfl rfl rfl) rfl rfl ?_
      refine T.no (Wn.no rfl rfl rfl rfl) rfl rfl ?_
      refine T.q (q_pickT rfl rfl rfl) (Wt.plain rfl) rfl rfl ?_
      refine T.q (q_move rfl rfl) (Wt.plain rfl) rfl rfl ?_
      refine T.no (Wn.no rfl rfl rfl rfl) rfl rfl ?_
      refine T.no (Wn.no rfl rfl rfl rfl) rfl rfl ?_
      refine T.no (Wn.no rfl rfl rfl rfl) rfl rfl ?_
      refine T.no (Wn.no rfl rfl rfl rfl) rfl rfl ?_
      refine T.q (q_pickT rfl rfl rfl) (Wt.plain rfl) rfl rfl ?_
      refine T.q (q_move rfl rfl) (Wt.plain rfl) rfl rfl ?_
      refine T.no (Wn.no rfl rfl rfl rfl) rfl rfl ?_
      refine T.no (Wn.no rfl rfl rfl rfl) rfl rfl ?_
      refine T.no (Wn.no rfl rfl rfl rfl) rfl rfl ?_
      refine T.no (Wn.no rfl rfl rfl rfl) rfl rfl ?_
      refine T.q (q_pickT rfl rfl rfl) (Wt.plain rfl) rfl rfl ?_
      refine T.nil ?_
      refine Ex.next ?_
      refine W.less (L' := [(111, _)]) [false] ⟨rfl, trivial⟩ ?_
      change (_ : List Blk → Prop) []
      refine W.condT rfl ?_
      refine W.seq ?_
      refine W.region ?_
      refine T.q (q_assign rfl rfl) (Wt.plain rfl) rfl rfl ?_
      refine T.nil ?_
      refine Ex.next ?_
      refine W.slots (L' := [(2, _)]) ⟨rfl, trivial⟩ ?_
      refine W.ret ?_
      refine Ex.then_ret ?_
      refine Ex.out1 [] rfl rfl ?_
      exact ⟨congrArg (Value.int .i64) (chkE_no (f := ⟨5, a, l, rs, bs, tok⟩) fun (h : mayN 5 a l bs.length rs.length (risN rs (a + 1) 4611686018427387903) (risN rs 0 a) (tokN tok)) => by unfold mayN at h; omega).symm, rfl⟩
    replace hb5 := of_decide_eq_false hb5
    refine T.q (q_fld fl59_4 rfl rfl) (Wt.yes rfl rfl rfl) rfl rfl ?_
    refine T.q (q_load1 ss22 0 rfl rfl rfl (cell_skip1 (cell_skip1 (cell_skip1 (cell_skip1 (rfl)))))) (Wt.yes rfl rfl rfl) rfl rfl ?_
    refine T.q (q_len sc22 rfl rfl) (Wt.yes rfl rfl rfl) rfl rfl ?_
    refine T.q (q_gtr rfl rfl rfl) (Wt.yes rfl rfl rfl) rfl rfl ?_
    refine T.q (q_pickF rfl rfl rfl) (Wt.plain rfl) rfl rfl ?_
    refine T.q (q_move rfl rfl) (Wt.plain rfl) rfl rfl ?_
    refine T.both (t := 100) _ rfl (fun hb6 => ?_) (fun hb6 => ?_)
    · replace hb6 := of_decide_eq_true hb6
      refine T.no (Wn.no rfl rfl rfl rfl) rfl rfl ?_
      refine T.no (Wn.no rfl rfl rfl rfl) rfl rfl ?_
      refine T.no (Wn.no rfl rfl rfl rfl) rfl rfl ?_
      refine T.no (Wn.no rfl rfl rfl rfl) rfl rfl ?_
      refine T.q (q_pickT rfl rfl rfl) (Wt.plain rfl) rfl rfl ?_
      refine T.q (q_move rfl rfl) (Wt.plain rfl) rfl rfl ?_
      refine T.no (Wn.no rfl rfl rfl rfl) rfl rfl ?_
      refine T.no (Wn.no rfl rfl rfl rfl) rfl rfl ?_
      refine T.no (Wn.no rfl rfl rfl rfl) rfl rfl ?_
      refine T.no (Wn.no rfl rfl rfl rfl) rfl rfl ?_
      refine T.q (q_pickT rfl rfl rfl) (Wt.plain rfl) rfl rfl ?_
      refine T.nil ?_
      refine Ex.next ?_
      refine W.less (L' := [(111, _)]) [false] ⟨rfl, trivial⟩ ?_
      change (_ : List Blk → Prop) []
      refine W.condT rfl ?_
      refine W.seq ?_
      refine W.region ?_
      refine T.q (q_assign rfl rfl) (Wt.plain rfl) rfl rfl ?_
      refine T.nil ?_
      refine Ex.next ?_
      refine W.slots (L' := [(2, _)]) ⟨rfl, trivial⟩ ?_
      refine W.ret ?_
      refine Ex.then_ret ?_
      refine Ex.out1 [] rfl rfl ?_
      exact ⟨congrArg (Value.int .i64) (chkE_no (f := ⟨5, a, l, rs, bs, tok⟩) fun (h : mayN 5 a l bs.length rs.length (risN rs (a + 1) 4611686018427387903) (risN rs 0 a) (tokN tok)) => by unfold mayN at h; omega).symm, rfl⟩
    replace hb6 := of_decide_eq_false hb6
    refine T.q (q_fld fl59_3 rfl rfl) (Wt.yes rfl rfl rfl) rfl rfl ?_
    refine T.q (q_load1 ss56 0 rfl rfl rfl (cell_skip1 (cell_skip1 (cell_skip1 (rfl))))) (Wt.yes rfl rfl rfl) rfl rfl ?_
    refine T.q (q_len sc56 rfl rfl) (Wt.yes rfl rfl rfl) rfl rfl ?_
    refine T.q (q_gtr rfl rfl rfl) (Wt.yes rfl rfl rfl) rfl rfl ?_
    refine T.q (q_pickF rfl rfl rfl) (Wt.plain rfl) rfl rfl ?_
    refine T.q (q_move rfl rfl) (Wt.plain rfl) rfl rfl ?_
    refine T.both (t := 106) _ rfl (fun hb7 => ?_) (fun hb7 => ?_)
    · replace hb7 := of_decide_eq_true hb7
      refine T.no (Wn.no rfl rfl rfl rfl) rfl rfl ?_
      refine T.no (Wn.no rfl rfl rfl rfl) rfl rfl ?_
      refine T.no (Wn.no rfl rfl rfl rfl) rfl rfl ?_
      refine T.no (Wn.no rfl rfl rfl rfl) rfl rfl ?_
      refine T.q (q_pickT rfl rfl rfl) (Wt.plain rfl) rfl rfl ?_
      refine T.nil ?_
      refine Ex.next ?_
      refine W.less (L' := [(111, _)]) [false] ⟨rfl, trivial⟩ ?_
      change (_ : List Blk → Prop) []
      refine W.condT rfl ?_
      refine W.seq ?_
      refine W.region ?_
      refine T.q (q_assign rfl rfl) (Wt.plain rfl) rfl rfl ?_
      refine T.nil ?_
      refine Ex.next ?_
      refine W.slots (L' := [(2, _)]) ⟨rfl, trivial⟩ ?_
      refine W.ret ?_
      refine Ex.then_ret ?_
      refine Ex.out1 [] rfl rfl ?_
      exact ⟨congrArg (Value.int .i64) (chkE_no (f := ⟨5, a, l, rs, bs, tok⟩) fun (h : mayN 5 a l bs.length rs.length (risN rs (a + 1) 4611686018427387903) (risN rs 0 a) (tokN tok)) => by unfold mayN at h; omega).symm, rfl⟩
    replace hb7 := of_decide_eq_false hb7
    refine T.q (q_fld fl59_5 rfl rfl) (Wt.yes rfl rfl rfl) rfl rfl ?_
    refine T.q (q_loadW (wide_ints wd57 (by first | omega | (simp; done) | (simp [-List.getD_eq_getElem?_getD]; omega) | (simp at *; omega) | rfl)) (R_at 0 5 8 rfl (part_skip1 (part_skip1 (part_skip1 (part_skip1 (part_skip1 (part_last (by first | omega | (simp; done) | (simp [-List.getD_eq_getElem?_getD]; omega) | (simp at *; omega) | rfl)))))))) rfl rfl) (Wt.yes rfl rfl rfl) rfl rfl ?_
    refine T.q (q_build (v := .agg (ints .u8 (List.replicate 8 0)).toArray) rfl rfl (fun _ => by kernel_rfl)) (Wt.yes rfl rfl rfl) rfl rfl ?_
    refine T.q (q_bool (b := decide (tokN tok ≠ 1)) (q_neqA ar57 ss5 un5 eg57 rfl rfl rfl (by first | omega | (simp; done) | (simp [-List.getD_eq_getElem?_getD]; omega) | (simp at *; omega) | rfl) (by first | omega | (simp; done) | (simp [-List.getD_eq_getElem?_getD]; omega) | (simp at *; omega) | rfl)) ?hE) (Wt.yes rfl rfl rfl) rfl rfl ?_
    case hE => exact tok_neq
    refine T.q (q_pickF rfl rfl rfl) (Wt.plain rfl) rfl rfl ?_
    refine T.nil ?_
    refine Ex.next ?_
    refine W.less (L' := [(111, _)]) [false] ⟨rfl, trivial⟩ ?_
    change (_ : List Blk → Prop) []
    refine W.cond _ rfl (fun hb8 => ?_) (fun hb8 => ?_)
    · replace hb8 := of_decide_eq_true hb8
      refine W.seq ?_
      refine W.region ?_
      refine T.q (q_assign rfl rfl) (Wt.plain rfl) rfl rfl ?_
      refine T.nil ?_
      refine Ex.next ?_
      refine W.slots (L' := [(2, _)]) ⟨rfl, trivial⟩ ?_
      refine W.ret ?_
      refine Ex.then_ret ?_
      refine Ex.out1 [] rfl rfl ?_
      exact ⟨congrArg (Value.int .i64) (chkE_no (f := ⟨5, a, l, rs, bs, tok⟩) fun (h : mayN 5 a l bs.length rs.length (risN rs (a + 1) 4611686018427387903) (risN rs 0 a) (tokN tok)) => by unfold mayN at h; omega).symm, rfl⟩
    replace hb8 := of_decide_eq_false hb8
    refine W.skip ?_
    refine Ex.next ?_
    refine W.slots (L' := []) trivial ?_
    refine W.seq ?_
    refine W.region ?_
    refine T.q (q_assign rfl rfl) (Wt.plain rfl) rfl rfl ?_
    refine T.nil ?_
    refine Ex.next ?_
    refine W.slots (L' := [(2, _)]) ⟨rfl, trivial⟩ ?_
    refine W.ret ?_
    refine Ex.out1 [] rfl rfl ?_
    exact ⟨congrArg (Value.int .i64) (chkE_yes (f := ⟨5, a, l, rs, bs, tok⟩) (show mayN 5 a l bs.length rs.length (risN rs (a + 1) 4611686018427387903) (risN rs 0 a) (tokN tok) by unfold mayN; omega)).symm, rfl⟩
  replace hb3 := of_decide_eq_false hb3
  refine T.no (Wn.no rfl rfl rfl rfl) rfl rfl ?_
  refine T.no (Wn.no rfl rfl rfl rfl) rfl rfl ?_
  refine T.no (Wn.no rfl rfl rfl rfl) rfl rfl ?_
  refine T.q (q_pickF rfl rfl rfl) (Wt.plain rfl) rfl rfl ?_
  refine T.q (q_assign rfl rfl) (Wt.plain rfl) rfl rfl ?_
  refine T.nil ?_
  refine Ex.in_normal ?_
  refine Ex.next ?_
  refine W.less (L' := [(3, _), (4, _)]) [false, true] ⟨rfl, rfl, trivial⟩ ?_
  change (_ : List Blk → Prop) [_]
  refine W.seq ?_
  refine W.seq ?_
  refine W.region ?_
  refine T.q (q_move rfl rfl) (Wt.plain rfl) rfl rfl ?_
  refine T.q (q_not rfl rfl) (Wt.plain rfl) rfl rfl ?_
  refine T.q (q_move rfl rfl) (Wt.plain rfl) rfl rfl ?_
  refine T.no (Wn.no rfl rfl rfl rfl) rfl rfl ?_
  refine T.no (Wn.no rfl rfl rfl rfl) rfl rfl ?_
  refine T.no (Wn.no rfl rfl rfl rfl) rfl rfl ?_
  refine T.q (q_pickT rfl rfl rfl) (Wt.plain rfl) rfl rfl ?_
  refine T.q (q_move rfl rfl) (Wt.plain rfl) rfl rfl ?_
  refine T.no (Wn.no rfl rfl rfl rfl) rfl rfl ?_
  refine T.no (Wn.no rfl rfl rfl rfl) rfl rfl ?_
  refine T.no (Wn.no rfl rfl rfl rfl) rfl rfl ?_
  refine T.no (Wn.no rfl rfl rfl rfl) rfl rfl ?_
  refine T.q (q_pickT rfl rfl rfl) (Wt.plain rfl) rfl rfl ?_
  refine T.q (q_move rfl rfl) (Wt.plain rfl) rfl rfl ?_
  refine T.no (Wn.no rfl rfl rfl rfl) rfl rfl ?_
  refine T.no (Wn.no rfl rfl rfl rfl) rfl rfl ?_
  refine T.no (Wn.no rfl rfl rfl rfl) rfl rfl ?_
  refine T.no (Wn.no rfl rfl rfl rfl) rfl rfl ?_
  refine T.q (q_pickT rfl rfl rfl) (Wt.plain rfl) rfl rfl ?_
  refine T.q (q_move rfl rfl) (Wt.plain rfl) rfl rfl ?_
  refine T.no (Wn.no rfl rfl rfl rfl) rfl rfl ?_
  refine T.no (Wn.no rfl rfl rfl rfl) rfl rfl ?_
  refine T.no (Wn.no rfl rfl rfl rfl) rfl rfl ?_
  refine T.no (Wn.no rfl rfl rfl rfl) rfl rfl ?_
  refine T.q (q_pickT rfl rfl rfl) (Wt.plain rfl) rfl rfl ?_
  refine T.nil ?_
  refine Ex.next ?_
  refine W.less (L' := [(111, _)]) [false] ⟨rfl, trivial⟩ ?_
  change (_ : List Blk → Prop) []
  refine W.condT rfl ?_
  refine W.seq ?_
  refine W.region ?_
  refine T.q (q_assign rfl rfl) (Wt.plain rfl) rfl rfl ?_
  refine T.nil ?_
  refine Ex.next ?_
  refine W.slots (L' := [(2, _)]) ⟨rfl, trivial⟩ ?_
  refine W.ret ?_
  refine Ex.then_ret ?_
  refine Ex.out1 [] rfl rfl ?_
  exact ⟨congrArg (Value.int .i64) (chkE_no (f := ⟨5, a, l, rs, bs, tok⟩) fun (h : mayN 5 a l bs.length rs.length (risN rs (a + 1) 4611686018427387903) (risN rs 0 a) (tokN tok)) => by unfold mayN at h; omega).symm, rfl⟩
set_option maxRecDepth 100000 in
theorem chk_6 (a l : Int) (rs : List (Int × Int)) (bs tok : List Int) (RA BA : Option Addr) (rc bc : Nat) (_hrl : rs.length ≤ 9223372036854775807) (htok : tok.length = 8) (w0 : World) (_hR : Reads w0 RA (ints .i64 (flat rs))) : Does Try.prog 47 #[.agg (.int .i64 6 :: (.int .i64 a :: (.int .i64 l :: (.slice RA rs.length rc :: (.slice BA bs.length bc :: (ints .u8 tok)))))).toArray] w0 [] (fun v G => v = .int .i64 (chkE ⟨6, a, l, rs, bs, tok⟩) ∧ G = []) := by
  refine spec_of 112 Try.func47 rfl rfl rfl ?_
  refine W.seq ?_
  refine W.region ?_
  refine T.eff (e_box rfl rfl rfl rfl) (Wt.plain rfl) ?_
  rintro _ _ ⟨k1, rfl, rfl⟩
  change (_ : List Blk → Prop) [_]
  change (_ : List Blk → Prop) [⟨some k1, .int .i64 6 :: (.int .i64 a :: (.int .i64 l :: (.slice RA rs.length rc :: (.slice BA bs.length bc :: (ints .u8 tok))))), 59, (0, 0)⟩]
  refine T.q (q_assign rfl rfl) (Wt.plain rfl) rfl rfl ?_
  refine T.nil ?_
  refine Ex.next ?_
  refine W.slots (L' := [(1, _)]) ⟨rfl, trivial⟩ ?_
  refine W.seq ?_
  refine W.region ?_
  refine T.q (q_loadW (wd59.trans (congrArg some (by first | (simp; done) | (simp; omega)))) (R_blk 0 rfl) rfl rfl) (Wt.plain rfl) rfl rfl ?_
  refine T.eff (e_alloc ze59 rfl rfl rfl) (Wt.plain rfl) ?_
  rintro _ _ ⟨k2, rfl, rfl⟩
  change (_ : List Blk → Prop) [_, _]
  refine T.eff (e_storeA (wd59.trans (congrArg some (by first | (simp; done) | (simp; omega)))) 1 rfl rfl rfl rfl (by first | (simp; done) | (simp; omega)) (one_cons rfl (one_cons rfl (one_cons rfl (one_cons rfl (one_cons rfl (ints_one)))))) rfl) (Wt.plain rfl) ?_
  rintro _ _ ⟨rfl, rfl⟩
  change (_ : List Blk → Prop) [_, _]
  refine T.nil ?_
  refine Ex.next ?_
  refine W.slots (L' := [(1, _), (3, _)]) ⟨rfl, rfl, trivial⟩ ?_
  refine W.seq ?_
  refine W.region ?_
  refine T.q (q_fld fl59_0 rfl rfl) (Wt.plain rfl) rfl rfl ?_
  refine T.eff (e_storeP1 ss3 1 rfl rfl rfl rfl (by first | (simp; done) | (simp; omega)) rfl (rfl) rfl) (Wt.plain rfl) ?_
  rintro _ _ ⟨rfl, rfl⟩
  change (_ : List Blk → Prop) [_, _]
  refine T.q (q_fld fl59_1 rfl rfl) (Wt.plain rfl) rfl rfl ?_
  refine T.eff (e_storeP1 ss3 1 rfl rfl rfl rfl (by first | (simp; done) | (simp; omega)) rfl (set_skip1 (rfl)) rfl) (Wt.plain rfl) ?_
  rintro _ _ ⟨rfl, rfl⟩
  change (_ : List Blk → Prop) [_, _]
  refine T.nil ?_
  refine Ex.next ?_
  refine W.slots (L' := [(1, _), (3, _)]) ⟨rfl, rfl, trivial⟩ ?_
  refine W.seq ?_
  refine W.region ?_
  refine T.q (q_fld fl59_1 rfl rfl) (Wt.plain rfl) rfl rfl ?_
  refine T.q (q_load1 ss3 0 rfl rfl rfl (cell_skip1 (rfl))) (Wt.plain rfl) rfl rfl ?_
  refine T.eff (e_call enters64 rfl rfl (fun w hm => num_spec a w) rfl rfl) (Wt.plain rfl) ?_
  rintro _ _ ⟨_, _, ⟨rfl, rfl⟩, rfl, rfl⟩
  change (_ : List Blk → Prop) [_, _]
  refine T.q (q_assign rfl rfl) (Wt.plain rfl) rfl rfl ?_
  refine T.nil ?_
  refine Ex.next ?_
  refine W.slots (L' := [(1, _), (3, _), (4, _)]) ⟨rfl, rfl, rfl, trivial⟩ ?_
  refine W.seq ?_
  refine W.seq ?_
  refine W.region ?_
  refine T.q (q_fld fl59_0 rfl rfl) (Wt.plain rfl) rfl rfl ?_
  refine T.q (q_load1 ss3 0 rfl rfl rfl (rfl)) (Wt.plain rfl) rfl rfl ?_
  refine T.nil ?_
  refine Ex.next ?_
  refine W.slots (L' := [(1, _), (3, _), (4, _), (12, _)]) ⟨rfl, rfl, rfl, rfl, trivial⟩ ?_
  refine W.block ?_
  refine W.seq ?_
  refine W.region ?_
  refine T.q (q_bool (b := false) (q_eql rfl rfl rfl) (decide_eq_false (by decide))) (Wt.plain rfl) rfl rfl ?_
  refine T.q (q_assign rfl rfl) (Wt.plain rfl) rfl rfl ?_
  refine T.nil ?_
  refine Ex.next ?_
  refine W.slots (L' := [(1, _), (3, _), (4, _), (12, _), (13, _)]) ⟨rfl, rfl, rfl, rfl, rfl, trivial⟩ ?_
  refine W.condF rfl ?_
  refine W.seq ?_
  refine W.region ?_
  refine T.q (q_bool (b := false) (q_eql rfl rfl rfl) (decide_eq_false (by decide))) (Wt.plain rfl) rfl rfl ?_
  refine T.q (q_assign rfl rfl) (Wt.plain rfl) rfl rfl ?_
  refine T.nil ?_
  refine Ex.next ?_
  refine W.slots (L' := [(1, _), (3, _), (4, _), (12, _), (29, _)]) ⟨rfl, rfl, rfl, rfl, rfl, trivial⟩ ?_
  refine W.condF rfl ?_
  refine W.seq ?_
  refine W.seq ?_
  refine W.region ?_
  refine T.q (q_bool (b := false) (q_eql rfl rfl rfl) (decide_eq_false (by decide))) (Wt.plain rfl) rfl rfl ?_
  refine T.q (q_assign rfl rfl) (Wt.plain rfl) rfl rfl ?_
  refine T.nil ?_
  refine Ex.next ?_
  refine W.slots (L' := [(1, _), (3, _), (4, _), (12, _), (47, _)]) ⟨rfl, rfl, rfl, rfl, rfl, trivial⟩ ?_
  refine W.condF rfl ?_
  refine W.region ?_
  refine T.q (q_bool (b := false) (q_eql rfl rfl rfl) (decide_eq_false (by decide))) (Wt.plain rfl) rfl rfl ?_
  refine T.q (q_assign rfl rfl) (Wt.plain rfl) rfl rfl ?_
  refine T.nil ?_
  refine Ex.next ?_
  refine W.slots (L' := [(1, _), (3, _), (4, _), (12, _), (47, _)]) ⟨rfl, rfl, rfl, rfl, rfl, trivial⟩ ?_
  refine W.condF rfl ?_
  refine W.seq ?_
  refine W.region ?_
  refine T.q (q_bool (b := false) (q_eql rfl rfl rfl) (decide_eq_false (by decide))) (Wt.plain rfl) rfl rfl ?_
  refine T.q (q_assign rfl rfl) (Wt.plain rfl) rfl rfl ?_
  refine T.nil ?_
  refine Ex.next ?_
  refine W.slots (L' := [(1, _), (3, _), (4, _), (12, _), (55, _)]) ⟨rfl, rfl, rfl, rfl, rfl, trivial⟩ ?_
  refine W.condF rfl ?_
  refine W.seq ?_
  refine W.region ?_
  refine T.q (q_bool (b := true) (q_eql rfl rfl rfl) (decide_eq_true (by decide))) (Wt.plain rfl) rfl rfl ?_
  refine T.q (q_assign rfl rfl) (Wt.plain rfl) rfl rfl ?_
  refine T.nil ?_
  refine Ex.next ?_
  refine W.slots (L' := [(1, _), (3, _), (4, _), (12, _), (63, _)]) ⟨rfl, rfl, rfl, rfl, rfl, trivial⟩ ?_
  refine W.condT rfl ?_
  refine W.skip ?_
  refine Ex.in_normal ?_
  refine Ex.next ?_
  refine W.less (L' := [(3, _), (4, _)]) [false, true] ⟨rfl, rfl, trivial⟩ ?_
  change (_ : List Blk → Prop) [_]
  refine W.seq ?_
  refine W.seq ?_
  refine W.region ?_
  refine T.q (q_move rfl rfl) (Wt.plain rfl) rfl rfl ?_
  refine T.q (q_bool (q_not rfl rfl) (decide_not (p := (0 ≤ a ∧ a ≤ 4611686018427387903))).symm) (Wt.plain rfl) rfl rfl ?_
  refine T.q (q_move rfl rfl) (Wt.plain rfl) rfl rfl ?_
  refine T.both (t := 89) _ rfl (fun hb3 => ?_) (fun hb3 => ?_)
  · replace hb3 := of_decide_eq_true hb3
    refine T.no (Wn.no rfl rfl rfl rfl) rfl rfl ?_
    refine T.no (Wn.no rfl rfl rfl rfl) rfl rfl ?_
    refine T.no (Wn.no rfl rfl rfl rfl) rfl rfl ?_
    refine T.q (q_pickT rfl rfl rfl) (Wt.plain rfl) rfl rfl ?_
    refine T.q (q_move rfl rfl) (Wt.plain rfl) rfl rfl ?_
    refine T.no (Wn.no rfl rfl rfl rfl) rfl rfl ?_
    refine T.no (Wn.no rfl rfl rfl rfl) rfl rfl ?_
    refine T.no (Wn.no rfl rfl rfl rfl) rfl rfl ?_
    refine T.no (Wn.no rfl rfl rfl rfl) rfl rfl ?_
    refine T.q (q_pickT rfl rfl rfl) (Wt.plain rfl) rfl rfl ?_
    refine T.q (q_move rfl rfl) (Wt.plain rfl) rfl rfl ?_
    refine T.no (Wn.no rfl rfl rfl rfl) rfl rfl ?_
    refine T.no (Wn.no rfl rfl rfl rfl) rfl rfl ?_
    refine T.no (Wn.no rfl rfl rfl rfl) rfl rfl ?_
    refine T.no (Wn.no rfl rfl rfl rfl) rfl rfl ?_
    refine T.q (q_pickT rfl rfl rfl) (Wt.plain rfl) rfl rfl ?_
    refine T.q (q_move rfl rfl) (Wt.plain rfl) rfl rfl ?_
    refine T.no (Wn.no rfl rfl rfl rfl) rfl rfl ?_
    refine T.no (Wn.no rfl rfl rfl rfl) rfl rfl ?_
    refine T.no (Wn.no rfl rfl rfl rfl) rfl rfl ?_
    refine T.no (Wn.no rfl rfl rfl rfl) rfl rfl ?_
    refine T.q (q_pickT rfl rfl rfl) (Wt.plain rfl) rfl rfl ?_
    refine T.nil ?_
    refine Ex.next ?_
    refine W.less (L' := [(111, _)]) [false] ⟨rfl, trivial⟩ ?_
    change (_ : List Blk → Prop) []
    refine W.condT rfl ?_
    refine W.seq ?_
    refine W.region ?_
    refine T.q (q_assign rfl rfl) (Wt.plain rfl) rfl rfl ?_
    refine T.nil ?_
    refine Ex.next ?_
    refine W.slots (L' := [(2, _)]) ⟨rfl, trivial⟩ ?_
    refine W.ret ?_
    refine Ex.then_ret ?_
    refine Ex.out1 [] rfl rfl ?_
    exact ⟨congrArg (Value.int .i64) (chkE_no (f := ⟨6, a, l, rs, bs, tok⟩) fun (h : mayN 6 a l bs.length rs.length (risN rs (a + 1) 4611686018427387903) (risN rs 0 a) (tokN tok)) => by unfold mayN at h; omega).symm, rfl⟩
  replace hb3 := of_decide_eq_false hb3
  refine T.q (q_fld fl59_2 rfl rfl) (Wt.yes rfl rfl rfl) rfl rfl ?_
  refine T.q (q_load1 ss3 0 rfl rfl rfl (cell_skip1 (cell_skip1 (rfl)))) (Wt.yes rfl rfl rfl) rfl rfl ?_
  refine T.q (q_neq rfl rfl rfl) (Wt.yes rfl rfl rfl) rfl rfl ?_
  refine T.q (q_pickF rfl rfl rfl) (Wt.plain rfl) rfl rfl ?_
  refine T.q (q_move rfl rfl) (Wt.plain rfl) rfl rfl ?_
  refine T.both (t := 94) _ rfl (fun hb4 => ?_) (fun hb4 => ?_)
  · replace hb4 := of_decide_eq_true hb4
    refine T.no (Wn.no rfl rfl rfl rfl) rfl rfl ?_
    refine T.no (Wn.no rfl rfl rfl rfl) rfl rfl ?_
    refine T.no (Wn.no rfl rfl rfl rfl) rfl rfl ?_
    refine T.no (Wn.no rfl rfl rfl rfl) rfl rfl ?_
    refine T.q (q_pickT rfl rfl rfl) (Wt.plain rfl) rfl rfl ?_
    refine T.q (q_move rfl rfl) (Wt.plain rfl) rfl rfl ?_
    refine T.no (Wn.no rfl rfl rfl rfl) rfl rfl ?_
    refine T.no (Wn.no rfl rfl rfl rfl) rfl rfl ?_
    refine T.no (Wn.no rfl rfl rfl rfl) rfl rfl ?_
    refine T.no (Wn.no rfl rfl rfl rfl) rfl rfl ?_
    refine T.q (q_pickT rfl rfl rfl) (Wt.plain rfl) rfl rfl ?_
    refine T.q (q_move rfl rfl) (Wt.plain rfl) rfl rfl ?_
    refine T.no (Wn.no rfl rfl rfl rfl) rfl rfl ?_
    refine T.no (Wn.no rfl rfl rfl rfl) rfl rfl ?_
    refine T.no (Wn.no rfl rfl rfl rfl) rfl rfl ?_
    refine T.no (Wn.no rfl rfl rfl rfl) rfl rfl ?_
    refine T.q (q_pickT rfl rfl rfl) (Wt.plain rfl) rfl rfl ?_
    refine T.nil ?_
    refine Ex.next ?_
    refine W.less (L' := [(111, _)]) [false] ⟨rfl, trivial⟩ ?_
    change (_ : List Blk → Prop) []
    refine W.condT rfl ?_
    refine W.seq ?_
    refine W.region ?_
    refine T.q (q_assign rfl rfl) (Wt.plain rfl) rfl rfl ?_
    refine T.nil ?_
    refine Ex.next ?_
    refine W.slots (L' := [(2, _)]) ⟨rfl, trivial⟩ ?_
    refine W.ret ?_
    refine Ex.then_ret ?_
    refine Ex.out1 [] rfl rfl ?_
    exact ⟨congrArg (Value.int .i64) (chkE_no (f := ⟨6, a, l, rs, bs, tok⟩) fun (h : mayN 6 a l bs.length rs.length (risN rs (a + 1) 4611686018427387903) (risN rs 0 a) (tokN tok)) => by unfold mayN at h; omega).symm, rfl⟩
  replace hb4 := of_decide_eq_false hb4
  refine T.q (q_fld fl59_4 rfl rfl) (Wt.yes rfl rfl rfl) rfl rfl ?_
  refine T.q (q_load1 ss22 0 rfl rfl rfl (cell_skip1 (cell_skip1 (cell_skip1 (cell_skip1 (rfl)))))) (Wt.yes rfl rfl rfl) rfl rfl ?_
  refine T.q (q_len sc22 rfl rfl) (Wt.yes rfl rfl rfl) rfl rfl ?_
  refine T.q (q_gtr rfl rfl rfl) (Wt.yes rfl rfl rfl) rfl rfl ?_
  refine T.q (q_pickF rfl rfl rfl) (Wt.plain rfl) rfl rfl ?_
  refine T.q (q_move rfl rfl) (Wt.plain rfl) rfl rfl ?_
  refine T.both (t := 100) _ rfl (fun hb5 => ?_) (fun hb5 => ?_)
  · replace hb5 := of_decide_eq_true hb5
    refine T.no (Wn.no rfl rfl rfl rfl) rfl rfl ?_
    refine T.no (Wn.no rfl rfl rfl rfl) rfl rfl ?_
    refine T.no (Wn.no rfl rfl rfl rfl) rfl rfl ?_
    refine T.no (Wn.no rfl rfl rfl rfl) rfl rfl ?_
    refine T.q (q_pickT rfl rfl rfl) (Wt.plain rfl) rfl rfl ?_
    refine T.q (q_move rfl rfl) (Wt.plain rfl) rfl rfl ?_
    refine T.no (Wn.no rfl rfl rfl rfl) rfl rfl ?_
    refine T.no (Wn.no rfl rfl rfl rfl) rfl rfl ?_
    refine T.no (Wn.no rfl rfl rfl rfl) rfl rfl ?_
    refine T.no (Wn.no rfl rfl rfl rfl) rfl rfl ?_
    refine T.q (q_pickT rfl rfl rfl) (Wt.plain rfl) rfl rfl ?_
    refine T.nil ?_
    refine Ex.next ?_
    refine W.less (L' := [(111, _)]) [false] ⟨rfl, trivial⟩ ?_
    change (_ : List Blk → Prop) []
    refine W.condT rfl ?_
    refine W.seq ?_
    refine W.region ?_
    refine T.q (q_assign rfl rfl) (Wt.plain rfl) rfl rfl ?_
    refine T.nil ?_
    refine Ex.next ?_
    refine W.slots (L' := [(2, _)]) ⟨rfl, trivial⟩ ?_
    refine W.ret ?_
    refine Ex.then_ret ?_
    refine Ex.out1 [] rfl rfl ?_
    exact ⟨congrArg (Value.int .i64) (chkE_no (f := ⟨6, a, l, rs, bs, tok⟩) fun (h : mayN 6 a l bs.length rs.length (risN rs (a + 1) 4611686018427387903) (risN rs 0 a) (tokN tok)) => by unfold mayN at h; omega).symm, rfl⟩
  replace hb5 := of_decide_eq_false hb5
  refine T.q (q_fld fl59_3 rfl rfl) (Wt.yes rfl rfl rfl) rfl rfl ?_
  refine T.q (q_load1 ss56 0 rfl rfl rfl (cell_skip1 (cell_skip1 (cell_skip1 (rfl))))) (Wt.yes rfl rfl rfl) rfl rfl ?_
  refine T.q (q_len sc56 rfl rfl) (Wt.yes rfl rfl rfl) rfl rfl ?_
  refine T.q (q_gtr rfl rfl rfl) (Wt.yes rfl rfl rfl) rfl rfl ?_
  refine T.q (q_pickF rfl rfl rfl) (Wt.plain rfl) rfl rfl ?_
  refine T.q (q_move rfl rfl) (Wt.plain rfl) rfl rfl ?_
  refine T.both (t := 106) _ rfl (fun hb6 => ?_) (fun hb6 => ?_)
  · replace hb6 := of_decide_eq_true hb6
    refine T.no (Wn.no rfl rfl rfl rfl) rfl rfl ?_
    refine T.no (Wn.no rfl rfl rfl rfl) rfl rfl ?_
    refine T.no (Wn.no rfl rfl rfl rfl) rfl rfl ?_
    refine T.no (Wn.no rfl rfl rfl rfl) rfl rfl ?_
    refine T.q (q_pickT rfl rfl rfl) (Wt.plain rfl) rfl rfl ?_
    refine T.nil ?_
    refine Ex.next ?_
    refine W.less (L' := [(111, _)]) [false] ⟨rfl, trivial⟩ ?_
    change (_ : List Blk → Prop) []
    refine W.condT rfl ?_
    refine W.seq ?_
    refine W.region ?_
    refine T.q (q_assign rfl rfl) (Wt.plain rfl) rfl rfl ?_
    refine T.nil ?_
    refine Ex.next ?_
    refine W.slots (L' := [(2, _)]) ⟨rfl, trivial⟩ ?_
    refine W.ret ?_
    refine Ex.then_ret ?_
    refine Ex.out1 [] rfl rfl ?_
    exact ⟨congrArg (Value.int .i64) (chkE_no (f := ⟨6, a, l, rs, bs, tok⟩) fun (h : mayN 6 a l bs.length rs.length (risN rs (a + 1) 4611686018427387903) (risN rs 0 a) (tokN tok)) => by unfold mayN at h; omega).symm, rfl⟩
  replace hb6 := of_decide_eq_false hb6
  refine T.q (q_fld fl59_5 rfl rfl) (Wt.yes rfl rfl rfl) rfl rfl ?_
  refine T.q (q_loadW (wide_ints wd57 (by first | omega | (simp; done) | (simp [-List.getD_eq_getElem?_getD]; omega) | (simp at *; omega) | rfl)) (R_at 0 5 8 rfl (part_skip1 (part_skip1 (part_skip1 (part_skip1 (part_skip1 (part_last (by first | omega | (simp; done) | (simp [-List.getD_eq_getElem?_getD]; omega) | (simp at *; omega) | rfl)))))))) rfl rfl) (Wt.yes rfl rfl rfl) rfl rfl ?_
  refine T.q (q_build (v := .agg (ints .u8 (List.replicate 8 0)).toArray) rfl rfl (fun _ => by kernel_rfl)) (Wt.yes rfl rfl rfl) rfl rfl ?_
  refine T.q (q_bool (b := decide (tokN tok ≠ 1)) (q_neqA ar57 ss5 un5 eg57 rfl rfl rfl (by first | omega | (simp; done) | (simp [-List.getD_eq_getElem?_getD]; omega) | (simp at *; omega) | rfl) (by first | omega | (simp; done) | (simp [-List.getD_eq_getElem?_getD]; omega) | (simp at *; omega) | rfl)) ?hE) (Wt.yes rfl rfl rfl) rfl rfl ?_
  case hE => exact tok_neq
  refine T.q (q_pickF rfl rfl rfl) (Wt.plain rfl) rfl rfl ?_
  refine T.nil ?_
  refine Ex.next ?_
  refine W.less (L' := [(111, _)]) [false] ⟨rfl, trivial⟩ ?_
  change (_ : List Blk → Prop) []
  refine W.cond _ rfl (fun hb7 => ?_) (fun hb7 => ?_)
  · replace hb7 := of_decide_eq_true hb7
    refine W.seq ?_
    refine W.region ?_
    refine T.q (q_assign rfl rfl) (Wt.plain rfl) rfl rfl ?_
    refine T.nil ?_
    refine Ex.next ?_
    refine W.slots (L' := [(2, _)]) ⟨rfl, trivial⟩ ?_
    refine W.ret ?_
    refine Ex.then_ret ?_
    refine Ex.out1 [] rfl rfl ?_
    exact ⟨congrArg (Value.int .i64) (chkE_no (f := ⟨6, a, l, rs, bs, tok⟩) fun (h : mayN 6 a l bs.length rs.length (risN rs (a + 1) 4611686018427387903) (risN rs 0 a) (tokN tok)) => by unfold mayN at h; omega).symm, rfl⟩
  replace hb7 := of_decide_eq_false hb7
  refine W.skip ?_
  refine Ex.next ?_
  refine W.slots (L' := []) trivial ?_
  refine W.seq ?_
  refine W.region ?_
  refine T.q (q_assign rfl rfl) (Wt.plain rfl) rfl rfl ?_
  refine T.nil ?_
  refine Ex.next ?_
  refine W.slots (L' := [(2, _)]) ⟨rfl, trivial⟩ ?_
  refine W.ret ?_
  refine Ex.out1 [] rfl rfl ?_
  exact ⟨congrArg (Value.int .i64) (chkE_yes (f := ⟨6, a, l, rs, bs, tok⟩) (show mayN 6 a l bs.length rs.length (risN rs (a + 1) 4611686018427387903) (risN rs 0 a) (tokN tok) by unfold mayN; omega)).symm, rfl⟩
set_option maxRecDepth 100000 in
theorem chk_7 (a l : Int) (rs : List (Int × Int)) (bs tok : List Int) (RA BA : Option Addr) (rc bc : Nat) (hrl : rs.length ≤ 9223372036854775807) (htok : tok.length = 8) (w0 : World) (hR : Reads w0 RA (ints .i64 (flat rs))) : Does Try.prog 47 #[.agg (.int .i64 7 :: (.int .i64 a :: (.int .i64 l :: (.slice RA rs.length rc :: (.slice BA bs.length bc :: (ints .u8 tok)))))).toArray] w0 [] (fun v G => v = .int .i64 (chkE ⟨7, a, l, rs, bs, tok⟩) ∧ G = []) := by
  refine spec_of 112 Try.func47 rfl rfl rfl ?_
  refine W.seq ?_
  refine W.region ?_
  refine T.eff (e_box rfl rfl rfl rfl) (Wt.plain rfl) ?_
  rintro _ _ ⟨k1, rfl, rfl⟩
  change (_ : List Blk → Prop) [_]
  change (_ : List Blk → Prop) [⟨some k1, .int .i64 7 :: (.int .i64 a :: (.int .i64 l :: (.slice RA rs.length rc :: (.slice BA bs.length bc :: (ints .u8 tok))))), 59, (0, 0)⟩]
  refine T.q (q_assign rfl rfl) (Wt.plain rfl) rfl rfl ?_
  refine T.nil ?_
  refine Ex.next ?_
  refine W.slots (L' := [(1, _)]) ⟨rfl, trivial⟩ ?_
  refine W.seq ?_
  refine W.region ?_
  refine T.q (q_loadW (wd59.trans (congrArg some (by first | (simp; done) | (simp; omega)))) (R_blk 0 rfl) rfl rfl) (Wt.plain rfl) rfl rfl ?_
  refine T.eff (e_alloc ze59 rfl rfl rfl) (Wt.plain rfl) ?_
  rintro _ _ ⟨k2, rfl, rfl⟩
  change (_ : List Blk → Prop) [_, _]
  refine T.eff (e_storeA (wd59.trans (congrArg some (by first | (simp; done) | (simp; omega)))) 1 rfl rfl rfl rfl (by first | (simp; done) | (simp; omega)) (one_cons rfl (one_cons rfl (one_cons rfl (one_cons rfl (one_cons rfl (ints_one)))))) rfl) (Wt.plain rfl) ?_
  rintro _ _ ⟨rfl, rfl⟩
  change (_ : List Blk → Prop) [_, _]
  refine T.nil ?_
  refine Ex.next ?_
  refine W.slots (L' := [(1, _), (3, _)]) ⟨rfl, rfl, trivial⟩ ?_
  refine W.seq ?_
  refine W.region ?_
  refine T.q (q_fld fl59_0 rfl rfl) (Wt.plain rfl) rfl rfl ?_
  refine T.eff (e_storeP1 ss3 1 rfl rfl rfl rfl (by first | (simp; done) | (simp; omega)) rfl (rfl) rfl) (Wt.plain rfl) ?_
  rintro _ _ ⟨rfl, rfl⟩
  change (_ : List Blk → Prop) [_, _]
  refine T.q (q_fld fl59_1 rfl rfl) (Wt.plain rfl) rfl rfl ?_
  refine T.eff (e_storeP1 ss3 1 rfl rfl rfl rfl (by first | (simp; done) | (simp; omega)) rfl (set_skip1 (rfl)) rfl) (Wt.plain rfl) ?_
  rintro _ _ ⟨rfl, rfl⟩
  change (_ : List Blk → Prop) [_, _]
  refine T.nil ?_
  refine Ex.next ?_
  refine W.slots (L' := [(1, _), (3, _)]) ⟨rfl, rfl, trivial⟩ ?_
  refine W.seq ?_
  refine W.region ?_
  refine T.q (q_fld fl59_1 rfl rfl) (Wt.plain rfl) rfl rfl ?_
  refine T.q (q_load1 ss3 0 rfl rfl rfl (cell_skip1 (rfl))) (Wt.plain rfl) rfl rfl ?_
  refine T.eff (e_call enters64 rfl rfl (fun w hm => num_spec a w) rfl rfl) (Wt.plain rfl) ?_
  rintro _ _ ⟨_, _, ⟨rfl, rfl⟩, rfl, rfl⟩
  change (_ : List Blk → Prop) [_, _]
  refine T.q (q_assign rfl rfl) (Wt.plain rfl) rfl rfl ?_
  refine T.nil ?_
  refine Ex.next ?_
  refine W.slots (L' := [(1, _), (3, _), (4, _)]) ⟨rfl, rfl, rfl, trivial⟩ ?_
  refine W.seq ?_
  refine W.seq ?_
  refine W.region ?_
  refine T.q (q_fld fl59_0 rfl rfl) (Wt.plain rfl) rfl rfl ?_
  refine T.q (q_load1 ss3 0 rfl rfl rfl (rfl)) (Wt.plain rfl) rfl rfl ?_
  refine T.nil ?_
  refine Ex.next ?_
  refine W.slots (L' := [(1, _), (3, _), (4, _), (12, _)]) ⟨rfl, rfl, rfl, rfl, trivial⟩ ?_
  refine W.block ?_
  refine W.seq ?_
  refine W.region ?_
  refine T.q (q_bool (b := false) (q_eql rfl rfl rfl) (decide_eq_false (by decide))) (Wt.plain rfl) rfl rfl ?_
  refine T.q (q_assign rfl rfl) (Wt.plain rfl) rfl rfl ?_
  refine T.nil ?_
  refine Ex.next ?_
  refine W.slots (L' := [(1, _), (3, _), (4, _), (12, _), (13, _)]) ⟨rfl, rfl, rfl, rfl, rfl, trivial⟩ ?_
  refine W.condF rfl ?_
  refine W.seq ?_
  refine W.region ?_
  refine T.q (q_bool (b := false) (q_eql rfl rfl rfl) (decide_eq_false (by decide))) (Wt.plain rfl) rfl rfl ?_
  refine T.q (q_assign rfl rfl) (Wt.plain rfl) rfl rfl ?_
  refine T.nil ?_
  refine Ex.next ?_
  refine W.slots (L' := [(1, _), (3, _), (4, _), (12, _), (29, _)]) ⟨rfl, rfl, rfl, rfl, rfl, trivial⟩ ?_
  refine W.condF rfl ?_
  refine W.seq ?_
  refine W.seq ?_
  refine W.region ?_
  refine T.q (q_bool (b := false) (q_eql rfl rfl rfl) (decide_eq_false (by decide))) (Wt.plain rfl) rfl rfl ?_
  refine T.q (q_assign rfl rfl) (Wt.plain rfl) rfl rfl ?_
  refine T.nil ?_
  refine Ex.next ?_
  refine W.slots (L' := [(1, _), (3, _), (4, _), (12, _), (47, _)]) ⟨rfl, rfl, rfl, rfl, rfl, trivial⟩ ?_
  refine W.condF rfl ?_
  refine W.region ?_
  refine T.q (q_bool (b := false) (q_eql rfl rfl rfl) (decide_eq_false (by decide))) (Wt.plain rfl) rfl rfl ?_
  refine T.q (q_assign rfl rfl) (Wt.plain rfl) rfl rfl ?_
  refine T.nil ?_
  refine Ex.next ?_
  refine W.slots (L' := [(1, _), (3, _), (4, _), (12, _), (47, _)]) ⟨rfl, rfl, rfl, rfl, rfl, trivial⟩ ?_
  refine W.condF rfl ?_
  refine W.seq ?_
  refine W.region ?_
  refine T.q (q_bool (b := false) (q_eql rfl rfl rfl) (decide_eq_false (by decide))) (Wt.plain rfl) rfl rfl ?_
  refine T.q (q_assign rfl rfl) (Wt.plain rfl) rfl rfl ?_
  refine T.nil ?_
  refine Ex.next ?_
  refine W.slots (L' := [(1, _), (3, _), (4, _), (12, _), (55, _)]) ⟨rfl, rfl, rfl, rfl, rfl, trivial⟩ ?_
  refine W.condF rfl ?_
  refine W.seq ?_
  refine W.region ?_
  refine T.q (q_bool (b := false) (q_eql rfl rfl rfl) (decide_eq_false (by decide))) (Wt.plain rfl) rfl rfl ?_
  refine T.q (q_assign rfl rfl) (Wt.plain rfl) rfl rfl ?_
  refine T.nil ?_
  refine Ex.next ?_
  refine W.slots (L' := [(1, _), (3, _), (4, _), (12, _), (63, _)]) ⟨rfl, rfl, rfl, rfl, rfl, trivial⟩ ?_
  refine W.condF rfl ?_
  refine W.seq ?_
  refine W.region ?_
  refine T.q (q_bool (b := true) (q_eql rfl rfl rfl) (decide_eq_true (by decide))) (Wt.plain rfl) rfl rfl ?_
  refine T.q (q_assign rfl rfl) (Wt.plain rfl) rfl rfl ?_
  refine T.nil ?_
  refine Ex.next ?_
  refine W.slots (L' := [(1, _), (3, _), (4, _), (65, _)]) ⟨rfl, rfl, rfl, rfl, trivial⟩ ?_
  refine W.condT rfl ?_
  refine W.seq ?_
  refine W.region ?_
  refine T.q (q_move rfl rfl) (Wt.plain rfl) rfl rfl ?_
  refine T.q (q_move rfl rfl) (Wt.plain rfl) rfl rfl ?_
  refine T.both (t := 68) _ rfl (fun hb3 => ?_) (fun hb3 => ?_)
  · replace hb3 := of_decide_eq_true hb3
    refine T.q (q_fld fl59_2 rfl rfl) (Wt.yes rfl rfl rfl) rfl rfl ?_
    refine T.q (q_load1 ss3 0 rfl rfl rfl (cell_skip1 (cell_skip1 (rfl)))) (Wt.yes rfl rfl rfl) rfl rfl ?_
    refine T.q (q_geq rfl rfl rfl) (Wt.yes rfl rfl rfl) rfl rfl ?_
    refine T.q (q_pickT rfl rfl rfl) (Wt.plain rfl) rfl rfl ?_
    refine T.q (q_move rfl rfl) (Wt.plain rfl) rfl rfl ?_
    refine T.both (t := 73) _ rfl (fun hb4 => ?_) (fun hb4 => ?_)
    · replace hb4 := of_decide_eq_true hb4
      refine T.q (q_fld fl59_2 rfl rfl) (Wt.yes rfl rfl rfl) rfl rfl ?_
      refine T.q (q_load1 ss3 0 rfl rfl rfl (cell_skip1 (cell_skip1 (rfl)))) (Wt.yes rfl rfl rfl) rfl rfl ?_
      refine T.q (q_leq rfl rfl rfl) (Wt.yes rfl rfl rfl) rfl rfl ?_
      refine T.q (q_pickT rfl rfl rfl) (Wt.plain rfl) rfl rfl ?_
      refine T.q (q_move rfl rfl) (Wt.plain rfl) rfl rfl ?_
      refine T.both (t := 78) _ rfl (fun hb5 => ?_) (fun hb5 => ?_)
      · replace hb5 := of_decide_eq_true hb5
        refine T.q (q_fld fl59_3 rfl rfl) (Wt.yes rfl rfl rfl) rfl rfl ?_
        refine T.q (q_load1 ss56 0 rfl rfl rfl (cell_skip1 (cell_skip1 (cell_skip1 (rfl))))) (Wt.yes rfl rfl rfl) rfl rfl ?_
        refine T.q (q_fld fl59_1 rfl rfl) (Wt.yes rfl rfl rfl) rfl rfl ?_
        refine T.q (q_load1 ss3 0 rfl rfl rfl (cell_skip1 (rfl))) (Wt.yes rfl rfl rfl) rfl rfl ?_
        refine T.eff (e_call enters65 rfl rfl (fun w hm => ris_spec rs _ _ hrl 0 a (by omega) (by omega) w ((R_ext hR.ext) w hm)) rfl rfl) (Wt.yes rfl rfl rfl) ?_
        rintro _ _ ⟨_, _, ⟨rfl, rfl⟩, rfl, rfl⟩
        change (_ : List Blk → Prop) [_, _]
        refine T.q (q_pickT rfl rfl rfl) (Wt.plain rfl) rfl rfl ?_
        refine T.q (q_assign rfl rfl) (Wt.plain rfl) rfl rfl ?_
        refine T.nil ?_
        refine Ex.next ?_
        refine W.less (L' := [(3, _), (4, _)]) [false, true] ⟨rfl, rfl, trivial⟩ ?_
        change (_ : List Blk → Prop) [_]
        refine W.region ?_
        refine T.q (q_fld fl59_2 rfl rfl) (Wt.plain rfl) rfl rfl ?_
        refine T.eff (e_storeP1 ss3 0 rfl rfl rfl rfl (by first | (simp; done) | (simp; omega)) rfl (set_skip1 (set_skip1 (rfl))) rfl) (Wt.plain rfl) ?_
        rintro _ _ ⟨rfl, rfl⟩
        change (_ : List Blk → Prop) [_]
        refine T.q (q_fld fl59_3 rfl rfl) (Wt.plain rfl) rfl rfl ?_
        refine T.eff (e_storeP1 ss56 0 rfl rfl rfl rfl (by first | (simp; done) | (simp; omega)) rfl (set_skip1 (set_skip1 (set_skip1 (rfl)))) rfl) (Wt.plain rfl) ?_
        rintro _ _ ⟨rfl, rfl⟩
        change (_ : List Blk → Prop) [_]
        refine T.nil ?_
        refine Ex.in_normal ?_
        refine Ex.next ?_
        refine W.slots (L' := [(3, _), (4, _)]) ⟨rfl, rfl, trivial⟩ ?_
        refine W.seq ?_
        refine W.seq ?_
        refine W.region ?_
        refine T.q (q_move rfl rfl) (Wt.plain rfl) rfl rfl ?_
        refine T.q (q_bool (q_not rfl rfl) (decide_not (p := (risN rs 0 a = 1))).symm) (Wt.plain rfl) rfl rfl ?_
        refine T.q (q_move rfl rfl) (Wt.plain rfl) rfl rfl ?_
        refine T.both (t := 89) _ rfl (fun hb6 => ?_) (fun hb6 => ?_)
        · replace hb6 := of_decide_eq_true hb6
          refine T.no (Wn.no rfl rfl rfl rfl) rfl rfl ?_
          refine T.no (Wn.no rfl rfl rfl rfl) rfl rfl ?_
          refine T.no (Wn.no rfl rfl rfl rfl) rfl rfl ?_
          refine T.q (q_pickT rfl rfl rfl) (Wt.plain rfl) rfl rfl ?_
          refine T.q (q_move rfl rfl) (Wt.plain rfl) rfl rfl ?_
          refine T.no (Wn.no rfl rfl rfl rfl) rfl rfl ?_
          refine T.no (Wn.no rfl rfl rfl rfl) rfl rfl ?_
          refine T.no (Wn.no rfl rfl rfl rfl) rfl rfl ?_
          refine T.no (Wn.no rfl rfl rfl rfl) rfl rfl ?_
          refine T.q (q_pickT rfl rfl rfl) (Wt.plain rfl) rfl rfl ?_
          refine T.q (q_move rfl rfl) (Wt.plain rfl) rfl rfl ?_
          refine T.no (Wn.no rfl rfl rfl rfl) rfl rfl ?_
          refine T.no (Wn.no rfl rfl rfl rfl) rfl rfl ?_
          refine T.no (Wn.no rfl rfl rfl rfl) rfl rfl ?_
          refine T.no (Wn.no rfl rfl rfl rfl) rfl rfl ?_
          refine T.q (q_pickT rfl rfl rfl) (Wt.plain rfl) rfl rfl ?_
          refine T.q (q_move rfl rfl) (Wt.plain rfl) rfl rfl ?_
          refine T.no (Wn.no rfl rfl rfl rfl) rfl rfl ?_
          refine T.no (Wn.no rfl rfl rfl rfl) rfl rfl ?_
          refine T.no (Wn.no rfl rfl rfl rfl) rfl rfl ?_
          refine T.no (Wn.no rfl rfl rfl rfl) rfl rfl ?_
          refine T.q (q_pickT rfl rfl rfl) (Wt.plain rfl) rfl rfl ?_
          refine T.nil ?_
          refine Ex.next ?_
          refine W.less (L' := [(111, _)]) [false] ⟨rfl, trivial⟩ ?_
          change (_ : List Blk → Prop) []
          refine W.condT rfl ?_
          refine W.seq ?_
          refine W.region ?_
          refine T.q (q_assign rfl rfl) (Wt.plain rfl) rfl rfl ?_
          refine T.nil ?_
          refine Ex.next ?_
          refine W.slots (L' := [(2, _)]) ⟨rfl, trivial⟩ ?_
          refine W.ret ?_
          refine Ex.then_ret ?_
          refine Ex.out1 [] rfl rfl ?_
          exact ⟨congrArg (Value.int .i64) (chkE_no (f := ⟨7, a, l, rs, bs, tok⟩) fun (h : mayN 7 a l bs.length rs.length (risN rs (a + 1) 4611686018427387903) (risN rs 0 a) (tokN tok)) => by unfold mayN at h; omega).symm, rfl⟩
        replace hb6 := of_decide_eq_false hb6
        refine T.q (q_fld fl59_2 rfl rfl) (Wt.yes rfl rfl rfl) rfl rfl ?_
        refine T.q (q_load1 ss3 0 rfl rfl rfl (cell_skip1 (cell_skip1 (rfl)))) (Wt.yes rfl rfl rfl) rfl rfl ?_
        refine T.q (q_bool (b := false) (q_neq rfl rfl rfl) (decide_eq_false (by decide))) (Wt.yes rfl rfl rfl) rfl rfl ?_
        refine T.q (q_pickF rfl rfl rfl) (Wt.plain rfl) rfl rfl ?_
        refine T.q (q_move rfl rfl) (Wt.plain rfl) rfl rfl ?_
        refine T.q (q_fld fl59_4 rfl rfl) (Wt.yes rfl rfl rfl) rfl rfl ?_
        refine T.q (q_load1 ss22 0 rfl rfl rfl (cell_skip1 (cell_skip1 (cell_skip1 (cell_skip1 (rfl)))))) (Wt.yes rfl rfl rfl) rfl rfl ?_
        refine T.q (q_len sc22 rfl rfl) (Wt.yes rfl rfl rfl) rfl rfl ?_
        refine T.q (q_gtr rfl rfl rfl) (Wt.yes rfl rfl rfl) rfl rfl ?_
        refine T.q (q_pickF rfl rfl rfl) (Wt.plain rfl) rfl rfl ?_
        refine T.q (q_move rfl rfl) (Wt.plain rfl) rfl rfl ?_
        refine T.both (t := 100) _ rfl (fun hb7 => ?_) (fun hb7 => ?_)
        · replace hb7 := of_decide_eq_true hb7
          refine T.no (Wn.no rfl rfl rfl rfl) rfl rfl ?_
          refine T.no (Wn.no rfl rfl rfl rfl) rfl rfl ?_
          refine T.no (Wn.no rfl rfl rfl rfl) rfl rfl ?_
          refine T.no (Wn.no rfl rfl rfl rfl) rfl rfl ?_
          refine T.q (q_pickT rfl rfl rfl) (Wt.plain rfl) rfl rfl ?_
          refine T.q (q_move rfl rfl) (Wt.plain rfl) rfl rfl ?_
          refine T.no (Wn.no rfl rfl rfl rfl) rfl rfl ?_
          refine T.no (Wn.no rfl rfl rfl rfl) rfl rfl ?_
          refine T.no (Wn.no rfl rfl rfl rfl) rfl rfl ?_
          refine T.no (Wn.no rfl rfl rfl rfl) rfl rfl ?_
          refine T.q (q_pickT rfl rfl rfl) (Wt.plain rfl) rfl rfl ?_
          refine T.nil ?_
          refine Ex.next ?_
          refine W.less (L' := [(111, _)]) [false] ⟨rfl, trivial⟩ ?_
          change (_ : List Blk → Prop) []
          refine W.condT rfl ?_
          refine W.seq ?_
          refine W.region ?_
          refine T.q (q_assign rfl rfl) (Wt.plain rfl) rfl rfl ?_
          refine T.nil ?_
          refine Ex.next ?_
          refine W.slots (L' := [(2, _)]) ⟨rfl, trivial⟩ ?_
          refine W.ret ?_
          refine Ex.then_ret ?_
          refine Ex.out1 [] rfl rfl ?_
          exact ⟨congrArg (Value.int .i64) (chkE_no (f := ⟨7, a, l, rs, bs, tok⟩) fun (h : mayN 7 a l bs.length rs.length (risN rs (a + 1) 4611686018427387903) (risN rs 0 a) (tokN tok)) => by unfold mayN at h; omega).symm, rfl⟩
        replace hb7 := of_decide_eq_false hb7
        refine T.q (q_fld fl59_3 rfl rfl) (Wt.yes rfl rfl rfl) rfl rfl ?_
        refine T.q (q_load1 ss56 0 rfl rfl rfl (cell_skip1 (cell_skip1 (cell_skip1 (rfl))))) (Wt.yes rfl rfl rfl) rfl rfl ?_
        refine T.q (q_len sc56 rfl rfl) (Wt.yes rfl rfl rfl) rfl rfl ?_
        refine T.q (q_gtr rfl rfl rfl) (Wt.yes rfl rfl rfl) rfl rfl ?_
        refine T.q (q_pickF rfl rfl rfl) (Wt.plain rfl) rfl rfl ?_
        refine T.q (q_move rfl rfl) (Wt.plain rfl) rfl rfl ?_
        refine T.both (t := 106) _ rfl (fun hb8 => ?_) (fun hb8 => ?_)
        · replace hb8 := of_decide_eq_true hb8
          refine T.no (Wn.no rfl rfl rfl rfl) rfl rfl ?_
          refine T.no (Wn.no rfl rfl rfl rfl) rfl rfl ?_
          refine T.no (Wn.no rfl rfl rfl rfl) rfl rfl ?_
          refine T.no (Wn.no rfl rfl rfl rfl) rfl rfl ?_
          refine T.q (q_pickT rfl rfl rfl) (Wt.plain rfl) rfl rfl ?_
          refine T.nil ?_
          refine Ex.next ?_
          refine W.less (L' := [(111, _)]) [false] ⟨rfl, trivial⟩ ?_
          change (_ : List Blk → Prop) []
          refine W.condT rfl ?_
          refine W.seq ?_
          refine W.region ?_
          refine T.q (q_assign rfl rfl) (Wt.plain rfl) rfl rfl ?_
          refine T.nil ?_
          refine Ex.next ?_
          refine W.slots (L' := [(2, _)]) ⟨rfl, trivial⟩ ?_
          refine W.ret ?_
          refine Ex.then_ret ?_
          refine Ex.out1 [] rfl rfl ?_
          exact ⟨congrArg (Value.int .i64) (chkE_no (f := ⟨7, a, l, rs, bs, tok⟩) fun (h : mayN 7 a l bs.length rs.length (risN rs (a + 1) 4611686018427387903) (risN rs 0 a) (tokN tok)) => by unfold mayN at h; omega).symm, rfl⟩
        replace hb8 := of_decide_eq_false hb8
        refine T.q (q_fld fl59_5 rfl rfl) (Wt.yes rfl rfl rfl) rfl rfl ?_
        refine T.q (q_loadW (wide_ints wd57 (by first | omega | (simp; done) | (simp [-List.getD_eq_getElem?_getD]; omega) | (simp at *; omega) | rfl)) (R_at 0 5 8 rfl (part_skip1 (part_skip1 (part_skip1 (part_skip1 (part_skip1 (part_last (by first | omega | (simp; done) | (simp [-List.getD_eq_getElem?_getD]; omega) | (simp at *; omega) | rfl)))))))) rfl rfl) (Wt.yes rfl rfl rfl) rfl rfl ?_
        refine T.q (q_build (v := .agg (ints .u8 (List.replicate 8 0)).toArray) rfl rfl (fun _ => by kernel_rfl)) (Wt.yes rfl rfl rfl) rfl rfl ?_
        refine T.q (q_bool (b := decide (tokN tok ≠ 1)) (q_neqA ar57 ss5 un5 eg57 rfl rfl rfl (by first | omega | (simp; done) | (simp [-List.getD_eq_getElem?_getD]; omega) | (simp at *; omega) | rfl) (by first | omega | (simp; done) | (simp [-List.getD_eq_getElem?_getD]; omega) | (simp at *; omega) | rfl)) ?hE) (Wt.yes rfl rfl rfl) rfl rfl ?_
        case hE => exact tok_neq
        refine T.q (q_pickF rfl rfl rfl) (Wt.plain rfl) rfl rfl ?_
        refine T.nil ?_
        refine Ex.next ?_
        refine W.less (L' := [(111, _)]) [false] ⟨rfl, trivial⟩ ?_
        change (_ : List Blk → Prop) []
        refine W.cond _ rfl (fun hb9 => ?_) (fun hb9 => ?_)
        · replace hb9 := of_decide_eq_true hb9
          refine W.seq ?_
          refine W.region ?_
          refine T.q (q_assign rfl rfl) (Wt.plain rfl) rfl rfl ?_
          refine T.nil ?_
          refine Ex.next ?_
          refine W.slots (L' := [(2, _)]) ⟨rfl, trivial⟩ ?_
          refine W.ret ?_
          refine Ex.then_ret ?_
          refine Ex.out1 [] rfl rfl ?_
          exact ⟨congrArg (Value.int .i64) (chkE_no (f := ⟨7, a, l, rs, bs, tok⟩) fun (h : mayN 7 a l bs.length rs.length (risN rs (a + 1) 4611686018427387903) (risN rs 0 a) (tokN tok)) => by unfold mayN at h; omega).symm, rfl⟩
        replace hb9 := of_decide_eq_false hb9
        refine W.skip ?_
        refine Ex.next ?_
        refine W.slots (L' := []) trivial ?_
        refine W.seq ?_
        refine W.region ?_
        refine T.q (q_assign rfl rfl) (Wt.plain rfl) rfl rfl ?_
        refine T.nil ?_
        refine Ex.next ?_
        refine W.slots (L' := [(2, _)]) ⟨rfl, trivial⟩ ?_
        refine W.ret ?_
        refine Ex.out1 [] rfl rfl ?_
        exact ⟨congrArg (Value.int .i64) (chkE_yes (f := ⟨7, a, l, rs, bs, tok⟩) (show mayN 7 a l bs.length rs.length (risN rs (a + 1) 4611686018427387903) (risN rs 0 a) (tokN tok) by unfold mayN; omega)).symm, rfl⟩
      replace hb5 := of_decide_eq_false hb5
      refine T.no (Wn.no rfl rfl rfl rfl) rfl rfl ?_
      refine T.no (Wn.no rfl rfl rfl rfl) rfl rfl ?_
      refine T.no (Wn.no rfl rfl rfl rfl) rfl rfl ?_
      refine T.no (Wn.no rfl rfl rfl rfl) rfl rfl ?_
      refine T.no (Wn.no rfl rfl rfl rfl) rfl rfl ?_
      refine T.q (q_pickF rfl rfl rfl) (Wt.plain rfl) rfl rfl ?_
      refine T.q (q_assign rfl rfl) (Wt.plain rfl) rfl rfl ?_
      refine T.nil ?_
      refine Ex.next ?_
      refine W.less (L' := [(3, _), (4, _)]) [false, true] ⟨rfl, rfl, trivial⟩ ?_
      change (_ : List Blk → Prop) [_]
      refine W.region ?_
      refine T.q (q_fld fl59_2 rfl rfl) (Wt.plain rfl) rfl rfl ?_
      refine T.eff (e_storeP1 ss3 0 rfl rfl rfl rfl (by first | (simp; done) | (simp; omega)) rfl (set_skip1 (set_skip1 (rfl))) rfl) (Wt.plain rfl) ?_
      rintro _ _ ⟨rfl, rfl⟩
      change (_ : List Blk → Prop) [_]
      refine T.q (q_fld fl59_3 rfl rfl) (Wt.plain rfl) rfl rfl ?_
      refine T.eff (e_storeP1 ss56 0 rfl rfl rfl rfl (by first | (simp; done) | (simp; omega)) rfl (set_skip1 (set_skip1 (set_skip1 (rfl)))) rfl) (Wt.plain rfl) ?_
      rintro _ _ ⟨rfl, rfl⟩
      change (_ : List Blk → Prop) [_]
      refine T.nil ?_
      refine Ex.in_normal ?_
      refine Ex.next ?_
      refine W.slots (L' := [(3, _), (4, _)]) ⟨rfl, rfl, trivial⟩ ?_
      refine W.seq ?_
      refine W.seq ?_
      refine W.region ?_
      refine T.q (q_move rfl rfl) (Wt.plain rfl) rfl rfl ?_
      refine T.q (q_not rfl rfl) (Wt.plain rfl) rfl rfl ?_
      refine T.q (q_move rfl rfl) (Wt.plain rfl) rfl rfl ?_
      refine T.no (Wn.no rfl rfl rfl rfl) rfl rfl ?_
      refine T.no (Wn.no rfl rfl rfl rfl) rfl rfl ?_
      refine T.no (Wn.no rfl rfl rfl rfl) rfl rfl ?_
      refine T.q (q_pickT rfl rfl rfl) (Wt.plain rfl) rfl rfl ?_
      refine T.q (q_move rfl rfl) (Wt.plain rfl) rfl rfl ?_
      refine T.no (Wn.no rfl rfl rfl rfl) rfl rfl ?_
      refine T.no (Wn.no rfl rfl rfl rfl) rfl rfl ?_
      refine T.no (Wn.no rfl rfl rfl rfl) rfl rfl ?_
      refine T.no (Wn.no rfl rfl rfl rfl) rfl rfl ?_
      refine T.q (q_pickT rfl rfl rfl) (Wt.plain rfl) rfl rfl ?_
      refine T.q (q_move rfl rfl) (Wt.plain rfl) rfl rfl ?_
      refine T.no (Wn.no rfl rfl rfl rfl) rfl rfl ?_
      refine T.no (Wn.no rfl rfl rfl rfl) rfl rfl ?_
      refine T.no (Wn.no rfl rfl rfl rfl) rfl rfl ?_
      refine T.no (Wn.no rfl rfl rfl rfl) rfl rfl ?_
      refine T.q (q_pickT rfl rfl rfl) (Wt.plain rfl) rfl rfl ?_
      refine T.q (q_move rfl rfl) (Wt.plain rfl) rfl rfl ?_
      refine T.no (Wn.no rfl rfl rfl rfl) rfl rfl ?_
      refine T.no (Wn.no rfl rfl rfl rfl) rfl rfl ?_
      refine T.no (Wn.no rfl rfl rfl rfl) rfl rfl ?_
      refine T.no (Wn.no rfl rfl rfl rfl) rfl rfl ?_
      refine T.q (q_pickT rfl rfl rfl) (Wt.plain rfl) rfl rfl ?_
      refine T.nil ?_
      refine Ex.next ?_
      refine W.less (L' := [(111, _)]) [false] ⟨rfl, trivial⟩ ?_
      change (_ : List Blk → Prop) []
      refine W.condT rfl ?_
      refine W.seq ?_
      refine W.region ?_
      refine T.q (q_assign rfl rfl) (Wt.plain rfl) rfl rfl ?_
      refine T.nil ?_
      refine Ex.next ?_
      refine W.slots (L' := [(2, _)]) ⟨rfl, trivial⟩ ?_
      refine W.ret ?_
      refine Ex.then_ret ?_
      refine Ex.out1 [] rfl rfl ?_
      exact ⟨congrArg (Value.int .i64) (chkE_no (f := ⟨7, a, l, rs, bs, tok⟩) fun (h : mayN 7 a l bs.length rs.length (risN rs (a + 1) 4611686018427387903) (risN rs 0 a) (tokN tok)) => by unfold mayN at h; omega).symm, rfl⟩
    replace hb4 := of_decide_eq_false hb4
    refine T.no (Wn.no rfl rfl rfl rfl) rfl rfl ?_
    refine T.no (Wn.no rfl rfl rfl rfl) rfl rfl ?_
    refine T.no (Wn.no rfl rfl rfl rfl) rfl rfl ?_
    refine T.q (q_pickF rfl rfl rfl) (Wt.plain rfl) rfl rfl ?_
    refine T.q (q_move rfl rfl) (Wt.plain rfl) rfl rfl ?_
    refine T.no (Wn.no rfl rfl rfl rfl) rfl rfl ?_
    refine T.no (Wn.no rfl rfl rfl rfl) rfl rfl ?_
    refine T.no (Wn.no rfl rfl rfl rfl) rfl rfl ?_
    refine T.no (Wn.no rfl rfl rfl rfl) rfl rfl ?_
    refine T.no (Wn.no rfl rfl rfl rfl) rfl rfl ?_
    refine T.q (q_pickF rfl rfl rfl) (Wt.plain rfl) rfl rfl ?_
    refine T.q (q_assign rfl rfl) (Wt.plain rfl) rfl rfl ?_
    refine T.nil ?_
    refine Ex.next ?_
    refine W.less (L' := [(3, _), (4, _)]) [false, true] ⟨rfl, rfl, trivial⟩ ?_
    change (_ : List Blk → Prop) [_]
    refine W.region ?_
    refine T.q (q_fld fl59_2 rfl rfl) (Wt.plain rfl) rfl rfl ?_
    refine T.eff (e_storeP1 ss3 0 rfl rfl rfl rfl (by first | (simp; done) | (simp; omega)) rfl (set_skip1 (set_skip1 (rfl))) rfl) (Wt.plain rfl) ?_
    rintro _ _ ⟨rfl, rfl⟩
    change (_ : List Blk → Prop) [_]
    refine T.q (q_fld fl59_3 rfl rfl) (Wt.plain rfl) rfl rfl ?_
    refine T.eff (e_storeP1 ss56 0 rfl rfl rfl rfl (by first | (simp; done) | (simp; omega)) rfl (set_skip1 (set_skip1 (set_skip1 (rfl)))) rfl) (Wt.plain rfl) ?_
    rintro _ _ ⟨rfl, rfl⟩
    change (_ : List Blk → Prop) [_]
    refine T.nil ?_
    refine Ex.in_normal ?_
    refine Ex.next ?_
    refine W.slots (L' := [(3, _), (4, _)]) ⟨rfl, rfl, trivial⟩ ?_
    refine W.seq ?_
    refine W.seq ?_
    refine W.region ?_
    refine T.q (q_move rfl rfl) (Wt.plain rfl) rfl rfl ?_
    refine T.q (q_not rfl rfl) (Wt.plain rfl) rfl rfl ?_
    refine T.q (q_move rfl rfl) (Wt.plain rfl) rfl rfl ?_
    refine T.no (Wn.no rfl rfl rfl rfl) rfl rfl ?_
    refine T.no (Wn.no rfl rfl rfl rfl) rfl rfl ?_
    refine T.no (Wn.no rfl rfl rfl rfl) rfl rfl ?_
    refine T.q (q_pickT rfl rfl rfl) (Wt.plain rfl) rfl rfl ?_
    refine T.q (q_move rfl rfl) (Wt.plain rfl) rfl rfl ?_
    refine T.no (Wn.no rfl rfl rfl rfl) rfl rfl ?_
    refine T.no (Wn.no rfl rfl rfl rfl) rfl rfl ?_
    refine T.no (Wn.no rfl rfl rfl rfl) rfl rfl ?_
    refine T.no (Wn.no rfl rfl rfl rfl) rfl rfl ?_
    refine T.q (q_pickT rfl rfl rfl) (Wt.plain rfl) rfl rfl ?_
    refine T.q (q_move rfl rfl) (Wt.plain rfl) rfl rfl ?_
    refine T.no (Wn.no rfl rfl rfl rfl) rfl rfl ?_
    refine T.no (Wn.no rfl rfl rfl rfl) rfl rfl ?_
    refine T.no (Wn.no rfl rfl rfl rfl) rfl rfl ?_
    refine T.no (Wn.no rfl rfl rfl rfl) rfl rfl ?_
    refine T.q (q_pickT rfl rfl rfl) (Wt.plain rfl) rfl rfl ?_
    refine T.q (q_move rfl rfl) (Wt.plain rfl) rfl rfl ?_
    refine T.no (Wn.no rfl rfl rfl rfl) rfl rfl ?_
    refine T.no (Wn.no rfl rfl rfl rfl) rfl rfl ?_
    refine T.no (Wn.no rfl rfl rfl rfl) rfl rfl ?_
    refine T.no (Wn.no rfl rfl rfl rfl) rfl rfl ?_
    refine T.q (q_pickT rfl rfl rfl) (Wt.plain rfl) rfl rfl ?_
    refine T.nil ?_
    refine Ex.next ?_
    refine W.less (L' := [(111, _)]) [false] ⟨rfl, trivial⟩ ?_
    change (_ : List Blk → Prop) []
    refine W.condT rfl ?_
    refine W.seq ?_
    refine W.region ?_
    refine T.q (q_assign rfl rfl) (Wt.plain rfl) rfl rfl ?_
    refine T.nil ?_
    refine Ex.next ?_
    refine W.slots (L' := [(2, _)]) ⟨rfl, trivial⟩ ?_
    refine W.ret ?_
    refine Ex.then_ret ?_
    refine Ex.out1 [] rfl rfl ?_
    exact ⟨congrArg (Value.int .i64) (chkE_no (f := ⟨7, a, l, rs, bs, tok⟩) fun (h : mayN 7 a l bs.length rs.length (risN rs (a + 1) 4611686018427387903) (risN rs 0 a) (tokN tok)) => by unfold mayN at h; omega).symm, rfl⟩
  replace hb3 := of_decide_eq_false hb3
  refine T.no (Wn.no rfl rfl rfl rfl) rfl rfl ?_
  refine T.no (Wn.no rfl rfl rfl rfl) rfl rfl ?_
  refine T.no (Wn.no rfl rfl rfl rfl) rfl rfl ?_
  refine T.q (q_pickF rfl rfl rfl) (Wt.plain rfl) rfl rfl ?_
  refine T.q (q_move rfl rfl) (Wt.plain rfl) rfl rfl ?_
  refine T.no (Wn.no rfl rfl rfl rfl) rfl rfl ?_
  refine T.no (Wn.no rfl rfl rfl rfl) rfl rfl ?_
  refine T.no (Wn.no rfl rfl rfl rfl) rfl rfl ?_
  refine T.q (q_pickF rfl rfl rfl) (Wt.plain rfl) rfl rfl ?_
  refine T.q (q_move rfl rfl) (Wt.plain rfl) rfl rfl ?_
  refine T.no (Wn.no rfl rfl rfl rfl) rfl rfl ?_
  refine T.no (Wn.no rfl rfl rfl rfl) rfl rfl ?_
  refine T.no (Wn.no rfl rfl rfl rfl) rfl rfl ?_
  refine T.no (Wn.no rfl rfl rfl rfl) rfl rfl ?_
  refine T.no (Wn.no rfl rfl rfl rfl) rfl rfl ?_
  refine T.q (q_pickF rfl rfl rfl) (Wt.plain rfl) rfl rfl ?_
  refine T.q (q_assign rfl rfl) (Wt.plain rfl) rfl rfl ?_
  refine T.nil ?_
  refine Ex.next ?_
  refine W.less (L' := [(3, _), (4, _)]) [false, true] ⟨rfl, rfl, trivial⟩ ?_
  change (_ : List Blk → Prop) [_]
  refine W.region ?_
  refine T.q (q_fld fl59_2 rfl rfl) (Wt.plain rfl) rfl rfl ?_
  refine T.eff (e_storeP1 ss3 0 rfl rfl rfl rfl (by first | (simp; done) | (simp; omega)) rfl (set_skip1 (set_skip1 (rfl))) rfl) (Wt.plain rfl) ?_
  rintro _ _ ⟨rfl, rfl⟩
  change (_ : List Blk → Prop) [_]
  refine T.q (q_fld fl59_3 rfl rfl) (Wt.plain rfl) rfl rfl ?_
  refine T.eff (e_storeP1 ss56 0 rfl rfl rfl rfl (by first | (simp; done) | (simp; omega)) rfl (set_skip1 (set_skip1 (set_skip1 (rfl)))) rfl) (Wt.plain rfl) ?_
  rintro _ _ ⟨rfl, rfl⟩
  change (_ : List Blk → Prop) [_]
  refine T.nil ?_
  refine Ex.in_normal ?_
  refine Ex.next ?_
  refine W.slots (L' := [(3, _), (4, _)]) ⟨rfl, rfl, trivial⟩ ?_
  refine W.seq ?_
  refine W.seq ?_
  refine W.region ?_
  refine T.q (q_move rfl rfl) (Wt.plain rfl) rfl rfl ?_
  refine T.q (q_not rfl rfl) (Wt.plain rfl) rfl rfl ?_
  refine T.q (q_move rfl rfl) (Wt.plain rfl) rfl rfl ?_
  refine T.no (Wn.no rfl rfl rfl rfl) rfl rfl ?_
  refine T.no (Wn.no rfl rfl rfl rfl) rfl rfl ?_
  refine T.no (Wn.no rfl rfl rfl rfl) rfl rfl ?_
  refine T.q (q_pickT rfl rfl rfl) (Wt.plain rfl) rfl rfl ?_
  refine T.q (q_move rfl rfl) (Wt.plain rfl) rfl rfl ?_
  refine T.no (Wn.no rfl rfl rfl rfl) rfl rfl ?_
  refine T.no (Wn.no rfl rfl rfl rfl) rfl rfl ?_
  refine T.no (Wn.no rfl rfl rfl rfl) rfl rfl ?_
  refine T.no (Wn.no rfl rfl rfl rfl) rfl rfl ?_
  refine T.q (q_pickT rfl rfl rfl) (Wt.plain rfl) rfl rfl ?_
  refine T.q (q_move rfl rfl) (Wt.plain rfl) rfl rfl ?_
  refine T.no (Wn.no rfl rfl rfl rfl) rfl rfl ?_
  refine T.no (Wn.no rfl rfl rfl rfl) rfl rfl ?_
  refine T.no (Wn.no rfl rfl rfl rfl) rfl rfl ?_
  refine T.no (Wn.no rfl rfl rfl rfl) rfl rfl ?_
  refine T.q (q_pickT rfl rfl rfl) (Wt.plain rfl) rfl rfl ?_
  refine T.q (q_move rfl rfl) (Wt.plain rfl) rfl rfl ?_
  refine T.no (Wn.no rfl rfl rfl rfl) rfl rfl ?_
  refine T.no (Wn.no rfl rfl rfl rfl) rfl rfl ?_
  refine T.no (Wn.no rfl rfl rfl rfl) rfl rfl ?_
  refine T.no (Wn.no rfl rfl rfl rfl) rfl rfl ?_
  refine T.q (q_pickT rfl rfl rfl) (Wt.plain rfl) rfl rfl ?_
  refine T.nil ?_
  refine Ex.next ?_
  refine W.less (L' := [(111, _)]) [false] ⟨rfl, trivial⟩ ?_
  change (_ : List Blk → Prop) []
  refine W.condT rfl ?_
  refine W.seq ?_
  refine W.region ?_
  refine T.q (q_assign rfl rfl) (Wt.plain rfl) rfl rfl ?_
  refine T.nil ?_
  refine Ex.next ?_
  refine W.slots (L' := [(2, _)]) ⟨rfl, trivial⟩ ?_
  refine W.ret ?_
  refine Ex.then_ret ?_
  refine Ex.out1 [] rfl rfl ?_
  exact ⟨congrArg (Value.int .i64) (chkE_no (f := ⟨7, a, l, rs, bs, tok⟩) fun (h : mayN 7 a l bs.length rs.length (risN rs (a + 1) 4611686018427387903) (risN rs 0 a) (tokN tok)) => by unfold mayN at h; omega).symm, rfl⟩
set_option maxRecDepth 100000 in
theorem chk_k (k : Int) (hk : k < 1 ∨ 7 < k) (a l : Int) (rs : List (Int × Int)) (bs tok : List Int) (RA BA : Option Addr) (rc bc : Nat) (_hrl : rs.length ≤ 9223372036854775807) (htok : tok.length = 8) (w0 : World) (_hR : Reads w0 RA (ints .i64 (flat rs))) : Does Try.prog 47 #[.agg (.int .i64 k :: (.int .i64 a :: (.int .i64 l :: (.slice RA rs.length rc :: (.slice BA bs.length bc :: (ints .u8 tok)))))).toArray] w0 [] (fun v G => v = .int .i64 (chkE ⟨k, a, l, rs, bs, tok⟩) ∧ G = []) := by
  refine spec_of 112 Try.func47 rfl rfl rfl ?_
  refine W.seq ?_
  refine W.region ?_
  refine T.eff (e_box rfl rfl rfl rfl) (Wt.plain rfl) ?_
  rintro _ _ ⟨k1, rfl, rfl⟩
  change (_ : List Blk → Prop) [_]
  change (_ : List Blk → Prop) [⟨some k1, .int .i64 k :: (.int .i64 a :: (.int .i64 l :: (.slice RA rs.length rc :: (.slice BA bs.length bc :: (ints .u8 tok))))), 59, (0, 0)⟩]
  refine T.q (q_assign rfl rfl) (Wt.plain rfl) rfl rfl ?_
  refine T.nil ?_
  refine Ex.next ?_
  refine W.slots (L' := [(1, _)]) ⟨rfl, trivial⟩ ?_
  refine W.seq ?_
  refine W.region ?_
  refine T.q (q_loadW (wd59.trans (congrArg some (by first | (simp; done) | (simp; omega)))) (R_blk 0 rfl) rfl rfl) (Wt.plain rfl) rfl rfl ?_
  refine T.eff (e_alloc ze59 rfl rfl rfl) (Wt.plain rfl) ?_
  rintro _ _ ⟨k2, rfl, rfl⟩
  change (_ : List Blk → Prop) [_, _]
  refine T.eff (e_storeA (wd59.trans (congrArg some (by first | (simp; done) | (simp; omega)))) 1 rfl rfl rfl rfl (by first | (simp; done) | (simp; omega)) (one_cons rfl (one_cons rfl (one_cons rfl (one_cons rfl (one_cons rfl (ints_one)))))) rfl) (Wt.plain rfl) ?_
  rintro _ _ ⟨rfl, rfl⟩
  change (_ : List Blk → Prop) [_, _]
  refine T.nil ?_
  refine Ex.next ?_
  refine W.slots (L' := [(1, _), (3, _)]) ⟨rfl, rfl, trivial⟩ ?_
  refine W.seq ?_
  refine W.region ?_
  refine T.q (q_fld fl59_0 rfl rfl) (Wt.plain rfl) rfl rfl ?_
  refine T.eff (e_storeP1 ss3 1 rfl rfl rfl rfl (by first | (simp; done) | (simp; omega)) rfl (rfl) rfl) (Wt.plain rfl) ?_
  rintro _ _ ⟨rfl, rfl⟩
  change (_ : List Blk → Prop) [_, _]
  refine T.q (q_fld fl59_1 rfl rfl) (Wt.plain rfl) rfl rfl ?_
  refine T.eff (e_storeP1 ss3 1 rfl rfl rfl rfl (by first | (simp; done) | (simp; omega)) rfl (set_skip1 (rfl)) rfl) (Wt.plain rfl) ?_
  rintro _ _ ⟨rfl, rfl⟩
  change (_ : List Blk → Prop) [_, _]
  refine T.nil ?_
  refine Ex.next ?_
  refine W.slots (L' := [(1, _), (3, _)]) ⟨rfl, rfl, trivial⟩ ?_
  refine W.seq ?_
  refine W.region ?_
  refine T.q (q_fld fl59_1 rfl rfl) (Wt.plain rfl) rfl rfl ?_
  refine T.q (q_load1 ss3 0 rfl rfl rfl (cell_skip1 (rfl))) (Wt.plain rfl) rfl rfl ?_
  refine T.eff (e_call enters64 rfl rfl (fun w hm => num_spec a w) rfl rfl) (Wt.plain rfl) ?_
  rintro _ _ ⟨_, _, ⟨rfl, rfl⟩, rfl, rfl⟩
  change (_ : List Blk → Prop) [_, _]
  refine T.q (q_assign rfl rfl) (Wt.plain rfl) rfl rfl ?_
  refine T.nil ?_
  refine Ex.next ?_
  refine W.slots (L' := [(1, _), (3, _), (4, _)]) ⟨rfl, rfl, rfl, trivial⟩ ?_
  refine W.seq ?_
  refine W.seq ?_
  refine W.region ?_
  refine T.q (q_fld fl59_0 rfl rfl) (Wt.plain rfl) rfl rfl ?_
  refine T.q (q_load1 ss3 0 rfl rfl rfl (rfl)) (Wt.plain rfl) rfl rfl ?_
  refine T.nil ?_
  refine Ex.next ?_
  refine W.slots (L' := [(1, _), (3, _), (4, _), (12, _)]) ⟨rfl, rfl, rfl, rfl, trivial⟩ ?_
  refine W.block ?_
  refine W.seq ?_
  refine W.region ?_
  refine T.q (q_bool (b := false) (q_eql rfl rfl rfl) (decide_eq_false (by omega))) (Wt.plain rfl) rfl rfl ?_
  refine T.q (q_assign rfl rfl) (Wt.plain rfl) rfl rfl ?_
  refine T.nil ?_
  refine Ex.next ?_
  refine W.slots (L' := [(1, _), (3, _), (4, _), (12, _), (13, _)]) ⟨rfl, rfl, rfl, rfl, rfl, trivial⟩ ?_
  refine W.condF rfl ?_
  refine W.seq ?_
  refine W.region ?_
  refine T.q (q_bool (b := false) (q_eql rfl rfl rfl) (decide_eq_false (by omega))) (Wt.plain rfl) rfl rfl ?_
  refine T.q (q_assign rfl rfl) (Wt.plain rfl) rfl rfl ?_
  refine T.nil ?_
  refine Ex.next ?_
  refine W.slots (L' := [(1, _), (3, _), (4, _), (12, _), (29, _)]) ⟨rfl, rfl, rfl, rfl, rfl, trivial⟩ ?_
  refine W.condF rfl ?_
  refine W.seq ?_
  refine W.seq ?_
  refine W.region ?_
  refine T.q (q_bool (b := false) (q_eql rfl rfl rfl) (decide_eq_false (by omega))) (Wt.plain rfl) rfl rfl ?_
  refine T.q (q_assign rfl rfl) (Wt.plain rfl) rfl rfl ?_
  refine T.nil ?_
  refine Ex.next ?_
  refine W.slots (L' := [(1, _), (3, _), (4, _), (12, _), (47, _)]) ⟨rfl, rfl, rfl, rfl, rfl, trivial⟩ ?_
  refine W.condF rfl ?_
  refine W.region ?_
  refine T.q (q_bool (b := false) (q_eql rfl rfl rfl) (decide_eq_false (by omega))) (Wt.plain rfl) rfl rfl ?_
  refine T.q (q_assign rfl rfl) (Wt.plain rfl) rfl rfl ?_
  refine T.nil ?_
  refine Ex.next ?_
  refine W.slots (L' := [(1, _), (3, _), (4, _), (12, _), (47, _)]) ⟨rfl, rfl, rfl, rfl, rfl, trivial⟩ ?_
  refine W.condF rfl ?_
  refine W.seq ?_
  refine W.region ?_
  refine T.q (q_bool (b := false) (q_eql rfl rfl rfl) (decide_eq_false (by omega))) (Wt.plain rfl) rfl rfl ?_
  refine T.q (q_assign rfl rfl) (Wt.plain rfl) rfl rfl ?_
  refine T.nil ?_
  refine Ex.next ?_
  refine W.slots (L' := [(1, _), (3, _), (4, _), (12, _), (55, _)]) ⟨rfl, rfl, rfl, rfl, rfl, trivial⟩ ?_
  refine W.condF rfl ?_
  refine W.seq ?_
  refine W.region ?_
  refine T.q (q_bool (b := false) (q_eql rfl rfl rfl) (decide_eq_false (by omega))) (Wt.plain rfl) rfl rfl ?_
  refine T.q (q_assign rfl rfl) (Wt.plain rfl) rfl rfl ?_
  refine T.nil ?_
  refine Ex.next ?_
  refine W.slots (L' := [(1, _), (3, _), (4, _), (12, _), (63, _)]) ⟨rfl, rfl, rfl, rfl, rfl, trivial⟩ ?_
  refine W.condF rfl ?_
  refine W.seq ?_
  refine W.region ?_
  refine T.q (q_bool (b := false) (q_eql rfl rfl rfl) (decide_eq_false (by omega))) (Wt.plain rfl) rfl rfl ?_
  refine T.q (q_assign rfl rfl) (Wt.plain rfl) rfl rfl ?_
  refine T.nil ?_
  refine Ex.next ?_
  refine W.slots (L' := [(1, _), (3, _), (4, _), (65, _)]) ⟨rfl, rfl, rfl, rfl, trivial⟩ ?_
  refine W.condF rfl ?_
  refine W.region ?_
  refine T.q (q_assign rfl rfl) (Wt.plain rfl) rfl rfl ?_
  refine T.nil ?_
  refine Ex.in_normal ?_
  refine Ex.next ?_
  refine W.less (L' := [(3, _), (4, _)]) [false, true] ⟨rfl, rfl, trivial⟩ ?_
  change (_ : List Blk → Prop) [_]
  refine W.seq ?_
  refine W.seq ?_
  refine W.region ?_
  refine T.q (q_move rfl rfl) (Wt.plain rfl) rfl rfl ?_
  refine T.q (q_not rfl rfl) (Wt.plain rfl) rfl rfl ?_
  refine T.q (q_move rfl rfl) (Wt.plain rfl) rfl rfl ?_
  refine T.no (Wn.no rfl rfl rfl rfl) rfl rfl ?_
  refine T.no (Wn.no rfl rfl rfl rfl) rfl rfl ?_
  refine T.no (Wn.no rfl rfl rfl rfl) rfl rfl ?_
  refine T.q (q_pickT rfl rfl rfl) (Wt.plain rfl) rfl rfl ?_
  refine T.q (q_move rfl rfl) (Wt.plain rfl) rfl rfl ?_
  refine T.no (Wn.no rfl rfl rfl rfl) rfl rfl ?_
  refine T.no (Wn.no rfl rfl rfl rfl) rfl rfl ?_
  refine T.no (Wn.no rfl rfl rfl rfl) rfl rfl ?_
  refine T.no (Wn.no rfl rfl rfl rfl) rfl rfl ?_
  refine T.q (q_pickT rfl rfl rfl) (Wt.plain rfl) rfl rfl ?_
  refine T.q (q_move rfl rfl) (Wt.plain rfl) rfl rfl ?_
  refine T.no (Wn.no rfl rfl rfl rfl) rfl rfl ?_
  refine T.no (Wn.no rfl rfl rfl rfl) rfl rfl ?_
  refine T.no (Wn.no rfl rfl rfl rfl) rfl rfl ?_
  refine T.no (Wn.no rfl rfl rfl rfl) rfl rfl ?_
  refine T.q (q_pickT rfl rfl rfl) (Wt.plain rfl) rfl rfl ?_
  refine T.q (q_move rfl rfl) (Wt.plain rfl) rfl rfl ?_
  refine T.no (Wn.no rfl rfl rfl rfl) rfl rfl ?_
  refine T.no (Wn.no rfl rfl rfl rfl) rfl rfl ?_
  refine T.no (Wn.no rfl rfl rfl rfl) rfl rfl ?_
  refine T.no (Wn.no rfl rfl rfl rfl) rfl rfl ?_
  refine T.q (q_pickT rfl rfl rfl) (Wt.plain rfl) rfl rfl ?_
  refine T.nil ?_
  refine Ex.next ?_
  refine W.less (L' := [(111, _)]) [false] ⟨rfl, trivial⟩ ?_
  change (_ : List Blk → Prop) []
  refine W.condT rfl ?_
  refine W.seq ?_
  refine W.region ?_
  refine T.q (q_assign rfl rfl) (Wt.plain rfl) rfl rfl ?_
  refine T.nil ?_
  refine Ex.next ?_
  refine W.slots (L' := [(2, _)]) ⟨rfl, trivial⟩ ?_
  refine W.ret ?_
  refine Ex.then_ret ?_
  refine Ex.out1 [] rfl rfl ?_
  exact ⟨congrArg (Value.int .i64) (chkE_no (f := ⟨k, a, l, rs, bs, tok⟩) fun (h : mayN k a l bs.length rs.length (risN rs (a + 1) 4611686018427387903) (risN rs 0 a) (tokN tok)) => by unfold mayN at h; omega).symm, rfl⟩
theorem chk_spec (k : Int) (a l : Int) (rs : List (Int × Int)) (bs tok : List Int) (RA BA : Option Addr) (rc bc : Nat) (hrl : rs.length ≤ 9223372036854775807) (htok : tok.length = 8) (w0 : World) (hR : Reads w0 RA (ints .i64 (flat rs))) : Does Try.prog 47 #[.agg (.int .i64 k :: .int .i64 a :: .int .i64 l :: .slice RA rs.length rc :: .slice BA bs.length bc :: ints .u8 tok).toArray] w0 [] (fun v G => v = .int .i64 (chkE ⟨k, a, l, rs, bs, tok⟩) ∧ G = []) := by
  by_cases hk : k < 1 ∨ 7 < k
  · exact chk_k k hk a l rs bs tok RA BA rc bc hrl htok w0 hR
  · obtain rfl | rfl | rfl | rfl | rfl | rfl | rfl : k = 1 ∨ k = 2 ∨ k = 3 ∨ k = 4 ∨ k = 5 ∨ k = 6 ∨ k = 7 := by omega
    · exact chk_1 a l rs bs tok RA BA rc bc hrl htok w0 hR
    · exact chk_2 a l rs bs tok RA BA rc bc hrl htok w0 hR
    · exact chk_3 a l rs bs tok RA BA rc bc hrl htok w0 hR
    · exact chk_4 a l rs bs tok RA BA rc bc hrl htok w0 hR
    · exact chk_5 a l rs bs tok RA BA rc bc hrl htok w0 hR
    · exact chk_6 a l rs bs tok RA BA rc bc hrl htok w0 hR
    · exact chk_7 a l rs bs tok RA BA rc bc hrl htok w0 hR
theorem chk_at (m : Fm) (hO : m.OK) (w0 : World) (hR : Reads w0 m.RA (ints .i64 (flat m.f.rs))) : Does Try.prog 47 #[.agg m.cells.toArray] w0 [] (fun v G => v = .int .i64 (chkE m.f) ∧ G = []) :=
  chk_spec m.f.k m.f.a m.f.l m.f.rs m.f.bs m.f.tok m.RA m.BA m.rc m.bc hO.2.1 hO.1 w0 hR
end Go.Proofs.Ytmkjnefongjniaa
