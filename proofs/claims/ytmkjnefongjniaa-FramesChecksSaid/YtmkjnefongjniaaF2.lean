/-
  The walks of layer 10: which frames may be, by the document.
-/
import Derived.Test.YtmkjnefongjniaaF1
namespace Go.Proofs.Ytmkjnefongjniaa
open Go Go.X
set_option maxRecDepth 100000 in
theorem refchk_1 (a l : Int) (rs : List (Int × Int)) (bs tok : List Int) (RA BA : Option Addr) (rc bc : Nat) (_hrl : rs.length ≤ 9223372036854775807) (htok : tok.length = 8) (w0 : World) (_hR : Reads w0 RA (ints .i64 (flat rs))) : Does Try.prog 48 #[.agg (.int .i64 1 :: (.int .i64 a :: (.int .i64 l :: (.slice RA rs.length rc :: (.slice BA bs.length bc :: (ints .u8 tok)))))).toArray] w0 [] (fun v G => v = .int .i64 (chkE ⟨1, a, l, rs, bs, tok⟩) ∧ G = []) := by
  refine spec_of 137 Try.func48 rfl rfl rfl ?_
  refine W.seq ?_
  refine W.region ?_
  refine T.eff (e_box rfl rfl rfl rfl) (Wt.plain rfl) ?_
  rintro _ _ ⟨k1, rfl, rfl⟩
  change (_ : List Blk → Prop) [_]
  change (_ : List Blk → Prop) [⟨some k1, .int .i64 1 :: (.int .i64 a :: (.int .i64 l :: (.slice RA rs.length rc :: (.slice BA bs.length bc :: (ints .u8 tok))))), 59, (0, 0)⟩]
  refine T.q (q_assign rfl rfl) (Wt.plain rfl) rfl rfl ?_
  refine T.nil ?_
  refine Ex.next ?_
  refine W.slots (L' := [(1, _)]) ⟨rfl, trivial⟩ ?_
  refine W.seq ?_
  refine W.region ?_
  refine T.q (q_fld fl59_0 rfl rfl) (Wt.plain rfl) rfl rfl ?_
  refine T.q (q_load1 ss3 0 rfl rfl rfl (rfl)) (Wt.plain rfl) rfl rfl ?_
  refine T.q (q_bool (b := false) (q_eql rfl rfl rfl) (decide_eq_false (by decide))) (Wt.plain rfl) rfl rfl ?_
  refine T.q (q_move rfl rfl) (Wt.plain rfl) rfl rfl ?_
  refine T.q (q_fld fl59_0 rfl rfl) (Wt.yes rfl rfl rfl) rfl rfl ?_
  refine T.q (q_load1 ss3 0 rfl rfl rfl (rfl)) (Wt.yes rfl rfl rfl) rfl rfl ?_
  refine T.q (q_bool (b := false) (q_eql rfl rfl rfl) (decide_eq_false (by decide))) (Wt.yes rfl rfl rfl) rfl rfl ?_
  refine T.q (q_pickF rfl rfl rfl) (Wt.plain rfl) rfl rfl ?_
  refine T.q (q_assign rfl rfl) (Wt.plain rfl) rfl rfl ?_
  refine T.nil ?_
  refine Ex.next ?_
  refine W.slots (L' := [(1, _), (3, _)]) ⟨rfl, rfl, trivial⟩ ?_
  refine W.seq ?_
  refine W.region ?_
  refine T.q (q_assign rfl rfl) (Wt.plain rfl) rfl rfl ?_
  refine T.nil ?_
  refine Ex.next ?_
  refine W.slots (L' := [(1, _), (3, _), (4, _)]) ⟨rfl, rfl, rfl, trivial⟩ ?_
  refine W.seq ?_
  refine W.seq ?_
  refine W.region ?_
  refine T.q (q_fld fl59_0 rfl rfl) (Wt.plain rfl) rfl rfl ?_
  refine T.q (q_load1 ss3 0 rfl rfl rfl (rfl)) (Wt.plain rfl) rfl rfl ?_
  refine T.nil ?_
  refine Ex.next ?_
  refine W.slots (L' := [(1, _), (3, _), (4, _), (14, _)]) ⟨rfl, rfl, rfl, rfl, trivial⟩ ?_
  refine W.block ?_
  refine W.seq ?_
  refine W.region ?_
  refine T.q (q_bool (b := true) (q_eql rfl rfl rfl) (decide_eq_true (by decide))) (Wt.plain rfl) rfl rfl ?_
  refine T.q (q_assign rfl rfl) (Wt.plain rfl) rfl rfl ?_
  refine T.nil ?_
  refine Ex.next ?_
  refine W.slots (L' := [(1, _), (3, _), (4, _), (14, _), (15, _)]) ⟨rfl, rfl, rfl, rfl, rfl, trivial⟩ ?_
  refine W.condT rfl ?_
  refine W.region ?_
  refine T.q (q_fld fl59_4 rfl rfl) (Wt.plain rfl) rfl rfl ?_
  refine T.q (q_load1 ss22 0 rfl rfl rfl (cell_skip1 (cell_skip1 (cell_skip1 (cell_skip1 (rfl)))))) (Wt.plain rfl) rfl rfl ?_
  refine T.q (q_len sc22 rfl rfl) (Wt.plain rfl) rfl rfl ?_
  refine T.q (q_geq rfl rfl rfl) (Wt.plain rfl) rfl rfl ?_
  refine T.q (q_move rfl rfl) (Wt.plain rfl) rfl rfl ?_
  refine T.both (t := 21) _ rfl (fun hb2 => ?_) (fun hb2 => ?_)
  · replace hb2 := of_decide_eq_true hb2
    refine T.q (q_fld fl59_4 rfl rfl) (Wt.yes rfl rfl rfl) rfl rfl ?_
    refine T.q (q_load1 ss22 0 rfl rfl rfl (cell_skip1 (cell_skip1 (cell_skip1 (cell_skip1 (rfl)))))) (Wt.yes rfl rfl rfl) rfl rfl ?_
    refine T.q (q_len sc22 rfl rfl) (Wt.yes rfl rfl rfl) rfl rfl ?_
    refine T.q (q_leq rfl rfl rfl) (Wt.yes rfl rfl rfl) rfl rfl ?_
    refine T.q (q_pickT rfl rfl rfl) (Wt.plain rfl) rfl rfl ?_
    refine T.q (q_assign rfl rfl) (Wt.plain rfl) rfl rfl ?_
    refine T.nil ?_
    refine Ex.in_normal ?_
    refine Ex.next ?_
    refine W.slots (L' := [(1, _), (3, _), (4, _)]) ⟨rfl, rfl, rfl, trivial⟩ ?_
    refine W.seq ?_
    refine W.seq ?_
    refine W.region ?_
    refine T.q (q_fld fl59_0 rfl rfl) (Wt.plain rfl) rfl rfl ?_
    refine T.q (q_load1 ss3 0 rfl rfl rfl (rfl)) (Wt.plain rfl) rfl rfl ?_
    refine T.q (q_bool (b := false) (q_neq rfl rfl rfl) (decide_eq_false (by decide))) (Wt.plain rfl) rfl rfl ?_
    refine T.q (q_move rfl rfl) (Wt.plain rfl) rfl rfl ?_
    refine T.no (Wn.no rfl rfl rfl rfl) rfl rfl ?_
    refine T.no (Wn.no rfl rfl rfl rfl) rfl rfl ?_
    refine T.no (Wn.no rfl rfl rfl rfl) rfl rfl ?_
    refine T.no (Wn.no rfl rfl rfl rfl) rfl rfl ?_
    refine T.q (q_pickF rfl rfl rfl) (Wt.plain rfl) rfl rfl ?_
    refine T.q (q_move rfl rfl) (Wt.plain rfl) rfl rfl ?_
    refine T.q (q_fld fl59_0 rfl rfl) (Wt.yes rfl rfl rfl) rfl rfl ?_
    refine T.q (q_load1 ss3 0 rfl rfl rfl (rfl)) (Wt.yes rfl rfl rfl) rfl rfl ?_
    refine T.q (q_bool (b := true) (q_neq rfl rfl rfl) (decide_eq_true (by decide))) (Wt.yes rfl rfl rfl) rfl rfl ?_
    refine T.q (q_move rfl rfl) (Wt.yes rfl rfl rfl) rfl rfl ?_
    refine T.q (q_fld fl59_0 rfl rfl) (Wt.yes rfl rfl rfl) rfl rfl ?_
    refine T.q (q_load1 ss3 0 rfl rfl rfl (rfl)) (Wt.yes rfl rfl rfl) rfl rfl ?_
    refine T.q (q_bool (b := true) (q_neq rfl rfl rfl) (decide_eq_true (by decide))) (Wt.yes rfl rfl rfl) rfl rfl ?_
    refine T.q (q_pickT rfl rfl rfl) (Wt.yes rfl rfl rfl) rfl rfl ?_
    refine T.q (q_move rfl rfl) (Wt.yes rfl rfl rfl) rfl rfl ?_
    refine T.q (q_fld fl59_2 rfl rfl) (Wt.yes rfl rfl rfl) rfl rfl ?_
    refine T.q (q_load1 ss3 0 rfl rfl rfl (cell_skip1 (cell_skip1 (rfl)))) (Wt.yes rfl rfl rfl) rfl rfl ?_
    refine T.q (q_neq rfl rfl rfl) (Wt.yes rfl rfl rfl) rfl rfl ?_
    refine T.q (q_pickT rfl rfl rfl) (Wt.yes rfl rfl rfl) rfl rfl ?_
    refine T.q (q_pickF rfl rfl rfl) (Wt.plain rfl) rfl rfl ?_
    refine T.q (q_move rfl rfl) (Wt.plain rfl) rfl rfl ?_
    refine T.both (t := 103) _ rfl (fun hb3 => ?_) (fun hb3 => ?_)
    · replace hb3 := of_decide_eq_true hb3
      refine T.no (Wn.no rfl rfl rfl rfl) rfl rfl ?_
      refine T.no (Wn.no rfl rfl rfl rfl) rfl rfl ?_
      refine T.no (Wn.no rfl rfl rfl rfl) rfl rfl ?_
      refine T.no (Wn.no rfl rfl rfl rfl) rfl rfl ?_
      refine T.no (Wn.none rfl rfl rfl) rfl rfl ?_
      refine T.no (Wn.none rfl rfl rfl) rfl rfl ?_
      refine T.no (Wn.none rfl rfl rfl) rfl rfl ?_
      refine T.no (Wn.no rfl rfl rfl rfl) rfl rfl ?_
      refine T.no (Wn.no rfl rfl rfl rfl) rfl rfl ?_
      refine T.no (Wn.none rfl rfl rfl) rfl rfl ?_
      refine T.no (Wn.none rfl rfl rfl) rfl rfl ?_
      refine T.no (Wn.none rfl rfl rfl) rfl rfl ?_
      refine T.no (Wn.none rfl rfl rfl) rfl rfl ?_
      refine T.no (Wn.no rfl rfl rfl rfl) rfl rfl ?_
      refine T.q (q_pickT rfl rfl rfl) (Wt.plain rfl) rfl rfl ?_
      refine T.q (q_move rfl rfl) (Wt.plain rfl) rfl rfl ?_
      refine T.no (Wn.no rfl rfl rfl rfl) rfl rfl ?_
      refine T.no (Wn.no rfl rfl rfl rfl) rfl rfl ?_
      refine T.no (Wn.no rfl rfl rfl rfl) rfl rfl ?_
      refine T.no (Wn.none rfl rfl rfl) rfl rfl ?_
      refine T.no (Wn.none rfl rfl rfl) rfl rfl ?_
      refine T.no (Wn.none rfl rfl rfl) rfl rfl ?_
      refine T.no (Wn.none rfl rfl rfl) rfl rfl ?_
      refine T.no (Wn.no rfl rfl rfl rfl) rfl rfl ?_
      refine T.q (q_pickT rfl rfl rfl) (Wt.plain rfl) rfl rfl ?_
      refine T.nil ?_
      refine Ex.next ?_
      refine W.slots (L' := [(1, _), (4, _), (128, _)]) ⟨rfl, rfl, rfl, trivial⟩ ?_
      refine W.condT rfl ?_
      refine W.region ?_
      refine T.q (q_assign rfl rfl) (Wt.plain rfl) rfl rfl ?_
      refine T.nil ?_
      refine Ex.next ?_
      refine W.slots (L' := [(1, _), (4, _)]) ⟨rfl, rfl, trivial⟩ ?_
      refine W.seq ?_
      refine W.seq ?_
      refine W.region ?_
      refine T.q (q_move rfl rfl) (Wt.plain rfl) rfl rfl ?_
      refine T.q (q_not rfl rfl) (Wt.plain rfl) rfl rfl ?_
      refine T.q (q_move rfl rfl) (Wt.plain rfl) rfl rfl ?_
      refine T.no (Wn.no rfl rfl rfl rfl) rfl rfl ?_
      refine T.no (Wn.no rfl rfl rfl rfl) rfl rfl ?_
      refine T.no (Wn.no rfl rfl rfl rfl) rfl rfl ?_
      refine T.no (Wn.no rfl rfl rfl rfl) rfl rfl ?_
      refine T.q (q_pickT rfl rfl rfl) (Wt.plain rfl) rfl rfl ?_
      refine T.nil ?_
      refine Ex.next ?_
      refine W.less (L' := [(136, _)]) [false] ⟨rfl, trivial⟩ ?_
      change (_ : List Blk → Prop) []
      refine W.condT rfl ?_
      refine W.seq ?_
      refine W.region ?_
      refine T.q (q_assign rfl rfl) (Wt.plain rfl) rfl rfl ?_
      refine T.nil ?_
      refine Ex.next ?_
      refine W.slots (L' := [(2, _)]) ⟨rfl, trivial⟩ ?_
      refine W.ret ?_
      refine Ex.then_ret ?_
      refine Ex.out1 [] rfl rfl ?_
      exact ⟨congrArg (Value.int .i64) (chkE_no (f := ⟨1, a, l, rs, bs, tok⟩) fun (h : mayN 1 a l bs.length rs.length (risN rs (a + 1) 4611686018427387903) (risN rs 0 a) (tokN tok)) => by unfold mayN at h; omega).symm, rfl⟩
    replace hb3 := of_decide_eq_false hb3
    refine T.q (q_fld fl59_0 rfl rfl) (Wt.yes rfl rfl rfl) rfl rfl ?_
    refine T.q (q_load1 ss3 0 rfl rfl rfl (rfl)) (Wt.yes rfl rfl rfl) rfl rfl ?_
    refine T.q (q_bool (b := true) (q_neq rfl rfl rfl) (decide_eq_true (by decide))) (Wt.yes rfl rfl rfl) rfl rfl ?_
    refine T.q (q_move rfl rfl) (Wt.yes rfl rfl rfl) rfl rfl ?_
    refine T.q (q_fld fl59_0 rfl rfl) (Wt.yes rfl rfl rfl) rfl rfl ?_
    refine T.q (q_load1 ss3 0 rfl rfl rfl (rfl)) (Wt.yes rfl rfl rfl) rfl rfl ?_
    refine T.q (q_bool (b := true) (q_neq rfl rfl rfl) (decide_eq_true (by decide))) (Wt.yes rfl rfl rfl) rfl rfl ?_
    refine T.q (q_pickT rfl rfl rfl) (Wt.yes rfl rfl rfl) rfl rfl ?_
    refine T.q (q_move rfl rfl) (Wt.yes rfl rfl rfl) rfl rfl ?_
    refine T.q (q_fld fl59_3 rfl rfl) (Wt.yes rfl rfl rfl) rfl rfl ?_
    refine T.q (q_load1 ss56 0 rfl rfl rfl (cell_skip1 (cell_skip1 (cell_skip1 (rfl))))) (Wt.yes rfl rfl rfl) rfl rfl ?_
    refine T.q (q_len sc56 rfl rfl) (Wt.yes rfl rfl rfl) rfl rfl ?_
    refine T.q (q_gtr rfl rfl rfl) (Wt.yes rfl rfl rfl) rfl rfl ?_
    refine T.q (q_pickT rfl rfl rfl) (Wt.yes rfl rfl rfl) rfl rfl ?_
    refine T.q (q_pickF rfl rfl rfl) (Wt.plain rfl) rfl rfl ?_
    refine T.q (q_move rfl rfl) (Wt.plain rfl) rfl rfl ?_
    refine T.both (t := 119) _ rfl (fun hb4 => ?_) (fun hb4 => ?_)
    · replace hb4 := of_decide_eq_true hb4
      refine T.no (Wn.no rfl rfl rfl rfl) rfl rfl ?_
      refine T.no (Wn.no rfl rfl rfl rfl) rfl rfl ?_
      refine T.no (Wn.no rfl rfl rfl rfl) rfl rfl ?_
      refine T.no (Wn.none rfl rfl rfl) rfl rfl ?_
      refine T.no (Wn.none rfl rfl rfl) rfl rfl ?_
      refine T.no (Wn.none rfl rfl rfl) rfl rfl ?_
      refine T.no (Wn.none rfl rfl rfl) rfl rfl ?_
      refine T.no (Wn.no rfl rfl rfl rfl) rfl rfl ?_
      refine T.q (q_pickT rfl rfl rfl) (Wt.plain rfl) rfl rfl ?_
      refine T.nil ?_
      refine Ex.next ?_
      refine W.slots (L' := [(1, _), (4, _), (128, _)]) ⟨rfl, rfl, rfl, trivial⟩ ?_
      refine W.condT rfl ?_
      refine W.region ?_
      refine T.q (q_assign rfl rfl) (Wt.plain rfl) rfl rfl ?_
      refine T.nil ?_
      refine Ex.next ?_
      refine W.slots (L' := [(1, _), (4, _)]) ⟨rfl, rfl, trivial⟩ ?_
      refine W.seq ?_
      refine W.seq ?_
      refine W.region ?_
      refine T.q (q_move rfl rfl) (Wt.plain rfl) rfl rfl ?_
      refine T.q (q_not rfl rfl) (Wt.plain rfl) rfl rfl ?_
      refine T.q (q_move rfl rfl) (Wt.plain rfl) rfl rfl ?_
      refine T.no (Wn.no rfl rfl rfl rfl) rfl rfl ?_
      refine T.no (Wn.no rfl rfl rfl rfl) rfl rfl ?_
      refine T.no (Wn.no rfl rfl rfl rfl) rfl rfl ?_
      refine T.no (Wn.no rfl rfl rfl rfl) rfl rfl ?_
      refine T.q (q_pickT rfl rfl rfl) (Wt.plain rfl) rfl rfl ?_
      refine T.nil ?_
      refine Ex.next ?_
      refine W.less (L' := [(136, _)]) [false] ⟨rfl, trivial⟩ ?_
      change (_ : List Blk → Prop) []
      refine W.condT rfl ?_
      refine W.seq ?_
      refine W.region ?_
      refine T.q (q_assign rfl rfl) (Wt.plain rfl) rfl rfl ?_
      refine T.nil ?_
      refine Ex.next ?_
      refine W.slots (L' := [(2, _)]) ⟨rfl, trivial⟩ ?_
      refine W.ret ?_
      refine Ex.then_ret ?_
      refine Ex.out1 [] rfl rfl ?_
      exact ⟨congrArg (Value.int .i64) (chkE_no (f := ⟨1, a, l, rs, bs, tok⟩) fun (h : mayN 1 a l bs.length rs.length (risN rs (a + 1) 4611686018427387903) (risN rs 0 a) (tokN tok)) => by unfold mayN at h; omega).symm, rfl⟩
    replace hb4 := of_decide_eq_false hb4
    refine T.q (q_move rfl rfl) (Wt.yes rfl rfl rfl) rfl rfl ?_
    refine T.q (q_not rfl rfl) (Wt.yes rfl rfl rfl) rfl rfl ?_
    refine T.q (q_move rfl rfl) (Wt.yes rfl rfl rfl) rfl rfl ?_
    refine T.q (q_fld fl59_5 rfl rfl) (Wt.yes rfl rfl rfl) rfl rfl ?_
    refine T.q (q_loadW (wide_ints wd57 (by first | omega | (simp; done) | (simp [-List.getD_eq_getElem?_getD]; omega) | (simp at *; omega) | rfl)) (R_at 0 5 8 rfl (part_skip1 (part_skip1 (part_skip1 (part_skip1 (part_skip1 (part_last (by first | omega | (simp; done) | (simp [-List.getD_eq_getElem?_getD]; omega) | (simp at *; omega) | rfl)))))))) rfl rfl) (Wt.yes rfl rfl rfl) rfl rfl ?_
    refine T.q (q_build (v := .agg (ints .u8 (List.replicate 8 0)).toArray) rfl rfl (fun _ => by kernel_rfl)) (Wt.yes rfl rfl rfl) rfl rfl ?_
    refine T.q (q_bool (b := decide (tokN tok ≠ 1)) (q_neqA ar57 ss5 un5 eg57 rfl rfl rfl (by first | omega | (simp; done) | (simp [-List.getD_eq_getElem?_getD]; omega) | (simp at *; omega) | rfl) (by first | omega | (simp; done) | (simp [-List.getD_eq_getElem?_getD]; omega) | (simp at *; omega) | rfl)) ?hE) (Wt.yes rfl rfl rfl) rfl rfl ?_
    case hE => exact tok_neq
    refine T.q (q_pickT rfl rfl rfl) (Wt.yes rfl rfl rfl) rfl rfl ?_
    refine T.q (q_pickF rfl rfl rfl) (Wt.plain rfl) rfl rfl ?_
    refine T.nil ?_
    refine Ex.next ?_
    refine W.slots (L' := [(1, _), (4, _), (128, _)]) ⟨rfl, rfl, rfl, trivial⟩ ?_
    refine W.cond _ rfl (fun hb5 => ?_) (fun hb5 => ?_)
    · replace hb5 := of_decide_eq_true hb5
      refine W.region ?_
      refine T.q (q_assign rfl rfl) (Wt.plain rfl) rfl rfl ?_
      refine T.nil ?_
      refine Ex.next ?_
      refine W.slots (L' := [(1, _), (4, _)]) ⟨rfl, rfl, trivial⟩ ?_
      refine W.seq ?_
      refine W.seq ?_
      refine W.region ?_
      refine T.q (q_move rfl rfl) (Wt.plain rfl) rfl rfl ?_
      refine T.q (q_not rfl rfl) (Wt.plain rfl) rfl rfl ?_
      refine T.q (q_move rfl rfl) (Wt.plain rfl) rfl rfl ?_
      refine T.no (Wn.no rfl rfl rfl rfl) rfl rfl ?_
      refine T.no (Wn.no rfl rfl rfl rfl) rfl rfl ?_
      refine T.no (Wn.no rfl rfl rfl rfl) rfl rfl ?_
      refine T.no (Wn.no rfl rfl rfl rfl) rfl rfl ?_
      refine T.q (q_pickT rfl rfl rfl) (Wt.plain rfl) rfl rfl ?_
      refine T.nil ?_
      refine Ex.next ?_
      refine W.less (L' := [(136, _)]) [false] ⟨rfl, trivial⟩ ?_
      change (_ : List Blk → Prop) []
      refine W.condT rfl ?_
      refine W.seq ?_
      refine W.region ?_
      refine T.q (q_assign rfl rfl) (Wt.plain rfl) rfl rfl ?_
      refine T.nil ?_
      refine Ex.next ?_
      refine W.slots (L' := [(2, _)]) ⟨rfl, trivial⟩ ?_
      refine W.ret ?_
      refine Ex.then_ret ?_
      refine Ex.out1 [] rfl rfl ?_
      exact ⟨congrArg (Value.int .i64) (chkE_no (f := ⟨1, a, l, rs, bs, tok⟩) fun (h : mayN 1 a l bs.length rs.length (risN rs (a + 1) 4611686018427387903) (risN rs 0 a) (tokN tok)) => by unfold mayN at h; omega).symm, rfl⟩
    replace hb5 := of_decide_eq_false hb5
    refine W.skip ?_
    refine Ex.next ?_
    refine W.slots (L' := [(1, _), (4, _)]) ⟨rfl, rfl, trivial⟩ ?_
    refine W.seq ?_
    refine W.seq ?_
    refine W.region ?_
    refine T.q (q_move rfl rfl) (Wt.plain rfl) rfl rfl ?_
    refine T.q (q_bool (q_not rfl rfl) (decide_not (p := (((bs.length : Nat) : Int) ≤ 128))).symm) (Wt.plain rfl) rfl rfl ?_
    refine T.q (q_move rfl rfl) (Wt.plain rfl) rfl rfl ?_
    refine T.both (t := 131) _ rfl (fun hb6 => ?_) (fun hb6 => ?_)
    · replace hb6 := of_decide_eq_true hb6
      refine T.no (Wn.no rfl rfl rfl rfl) rfl rfl ?_
      refine T.no (Wn.no rfl rfl rfl rfl) rfl rfl ?_
      refine T.no (Wn.no rfl rfl rfl rfl) rfl rfl ?_
      refine T.no (Wn.no rfl rfl rfl rfl) rfl rfl ?_
      refine T.q (q_pickT rfl rfl rfl) (Wt.plain rfl) rfl rfl ?_
      refine T.nil ?_
      refine Ex.next ?_
      refine W.less (L' := [(136, _)]) [false] ⟨rfl, trivial⟩ ?_
      change (_ : List Blk → Prop) []
      refine W.condT rfl ?_
      refine W.seq ?_
      refine W.region ?_
      refine T.q (q_assign rfl rfl) (Wt.plain rfl) rfl rfl ?_
      refine T.nil ?_
      refine Ex.next ?_
      refine W.slots (L' := [(2, _)]) ⟨rfl, trivial⟩ ?_
      refine W.ret ?_
      refine Ex.then_ret ?_
      refine Ex.out1 [] rfl rfl ?_
      exact ⟨congrArg (Value.int .i64) (chkE_no (f := ⟨1, a, l, rs, bs, tok⟩) fun (h : mayN 1 a l bs.length rs.length (risN rs (a + 1) 4611686018427387903) (risN rs 0 a) (tokN tok)) => by unfold mayN at h; omega).symm, rfl⟩
    replace hb6 := of_decide_eq_false hb6
    refine T.q (q_fld fl59_1 rfl rfl) (Wt.yes rfl rfl rfl) rfl rfl ?_
    refine T.q (q_load1 ss3 0 rfl rfl rfl (cell_skip1 (rfl))) (Wt.yes rfl rfl rfl) rfl rfl ?_
    refine T.eff (e_call enters66 rfl rfl (fun w hm => refnum_spec a w) rfl rfl) (Wt.yes rfl rfl rfl) ?_
    rintro _ _ ⟨_, _, ⟨rfl, rfl⟩, rfl, rfl⟩
    change (_ : List Blk → Prop) [_]
    refine T.q (q_bool (q_not rfl rfl) (decide_not (p := (0 ≤ a ∧ a ≤ 4611686018427387903))).symm) (Wt.yes rfl rfl rfl) rfl rfl ?_
    refine T.q (q_pickF rfl rfl rfl) (Wt.plain rfl) rfl rfl ?_
    refine T.nil ?_
    refine Ex.next ?_
    refine W.less (L' := [(136, _)]) [false] ⟨rfl, trivial⟩ ?_
    change (_ : List Blk → Prop) []
    refine W.cond _ rfl (fun hb7 => ?_) (fun hb7 => ?_)
    · replace hb7 := of_decide_eq_true hb7
      refine W.seq ?_
      refine W.region ?_
      refine T.q (q_assign rfl rfl) (Wt.plain rfl) rfl rfl ?_
      refine T.nil ?_
      refine Ex.next ?_
      refine W.slots (L' := [(2, _)]) ⟨rfl, trivial⟩ ?_
      refine W.ret ?_
      refine Ex.then_ret ?_
      refine Ex.out1 [] rfl rfl ?_
      exact ⟨congrArg (Value.int .i64) (chkE_no (f := ⟨1, a, l, rs, bs, tok⟩) fun (h : mayN 1 a l bs.length rs.length (risN rs (a + 1) 4611686018427387903) (risN rs 0 a) (tokN tok)) => by unfold mayN at h; omega).symm, rfl⟩
    replace hb7 := of_decide_eq_false hb7
    refine W.skip ?_
    refine Ex.next ?_
    refine W.slots (L' := []) trivial ?_
    refine W.seq ?_
    refine W.region ?_
    refine T.q (q_assign rfl rfl) (Wt.plain rfl) rfl rfl ?_
    refine T.nil ?_
    refine Ex.next ?_
    refine W.slots (L' := [(2, _)]) ⟨rfl, trivial⟩ ?_
    refine W.ret ?_
    refine Ex.out1 [] rfl rfl ?_
    exact ⟨congrArg (Value.int .i64) (chkE_yes (f := ⟨1, a, l, rs, bs, tok⟩) (show mayN 1 a l bs.length rs.length (risN rs (a + 1) 4611686018427387903) (risN rs 0 a) (tokN tok) by unfold mayN; omega)).symm, rfl⟩
  replace hb2 := of_decide_eq_false hb2
  refine T.no (Wn.no rfl rfl rfl rfl) rfl rfl ?_
  refine T.no (Wn.no rfl rfl rfl rfl) rfl rfl ?_
  refine T.no (Wn.no rfl rfl rfl rfl) rfl rfl ?_
  refine T.no (Wn.no rfl rfl rfl rfl) rfl rfl ?_
  refine T.q (q_pickF rfl rfl rfl) (Wt.plain rfl) rfl rfl ?_
  refine T.q (q_assign rfl rfl) (Wt.plain rfl) rfl rfl ?_
  refine T.nil ?_
  refine Ex.in_normal ?_
  refine Ex.next ?_
  refine W.slots (L' := [(1, _), (3, _), (4, _)]) ⟨rfl, rfl, rfl, trivial⟩ ?_
  refine W.seq ?_
  refine W.seq ?_
  refine W.region ?_
  refine T.q (q_fld fl59_0 rfl rfl) (Wt.plain rfl) rfl rfl ?_
  refine T.q (q_load1 ss3 0 rfl rfl rfl (rfl)) (Wt.plain rfl) rfl rfl ?_
  refine T.q (q_bool (b := false) (q_neq rfl rfl rfl) (decide_eq_false (by decide))) (Wt.plain rfl) rfl rfl ?_
  refine T.q (q_move rfl rfl) (Wt.plain rfl) rfl rfl ?_
  refine T.no (Wn.no rfl rfl rfl rfl) rfl rfl ?_
  refine T.no (Wn.no rfl rfl rfl rfl) rfl rfl ?_
  refine T.no (Wn.no rfl rfl rfl rfl) rfl rfl ?_
  refine T.no (Wn.no rfl rfl rfl rfl) rfl rfl ?_
  refine T.q (q_pickF rfl rfl rfl) (Wt.plain rfl) rfl rfl ?_
  refine T.q (q_move rfl rfl) (Wt.plain rfl) rfl rfl ?_
  refine T.q (q_fld fl59_0 rfl rfl) (Wt.yes rfl rfl rfl) rfl rfl ?_
  refine T.q (q_load1 ss3 0 rfl rfl rfl (rfl)) (Wt.yes rfl rfl rfl) rfl rfl ?_
  refine T.q (q_bool (b := true) (q_neq rfl rfl rfl) (decide_eq_true (by decide))) (Wt.yes rfl rfl rfl) rfl rfl ?_
  refine T.q (q_move rfl rfl) (Wt.yes rfl rfl rfl) rfl rfl ?_
  refine T.q (q_fld fl59_0 rfl rfl) (Wt.yes rfl rfl rfl) rfl rfl ?_
  refine T.q (q_load1 ss3 0 rfl rfl rfl (rfl)) (Wt.yes rfl rfl rfl) rfl rfl ?_
  refine T.q (q_bool (b := true) (q_neq rfl rfl rfl) (decide_eq_true (by decide))) (Wt.yes rfl rfl rfl) rfl rfl ?_
  refine T.q (q_pickT rfl rfl rfl) (Wt.yes rfl rfl rfl) rfl rfl ?_
  refine T.q (q_move rfl rfl) (Wt.yes rfl rfl rfl) rfl rfl ?_
  refine T.q (q_fld fl59_2 rfl rfl) (Wt.yes rfl rfl rfl) rfl rfl ?_
  refine T.q (q_load1 ss3 0 rfl rfl rfl (cell_skip1 (cell_skip1 (rfl)))) (Wt.yes rfl rfl rfl) rfl rfl ?_
  refine T.q (q_neq rfl rfl rfl) (Wt.yes rfl rfl rfl) rfl rfl ?_
  refine T.q (q_pickT rfl rfl rfl) (Wt.yes rfl rfl rfl) rfl rfl ?_
  refine T.q (q_pickF rfl rfl rfl) (Wt.plain rfl) rfl rfl ?_
  refine T.q (q_move rfl rfl) (Wt.plain rfl) rfl rfl ?_
  refine T.both (t := 103) _ rfl (fun hb8 => ?_) (fun hb8 => ?_)
  · replace hb8 := of_decide_eq_true hb8
    refine T.no (Wn.no rfl rfl rfl rfl) rfl rfl ?_
    refine T.no (Wn.no rfl rfl rfl rfl) rfl rfl ?_
    refine T.no (Wn.no rfl rfl rfl rfl) rfl rfl ?_
    refine T.no (Wn.no rfl rfl rfl rfl) rfl rfl ?_
    refine T.no (Wn.none rfl rfl rfl) rfl rfl ?_
    refine T.no (Wn.none rfl rfl rfl) rfl rfl ?_
    refine T.no (Wn.none rfl rfl rfl) rfl rfl ?_
    refine T.no (Wn.no rfl rfl rfl rfl) rfl rfl ?_
    refine T.no (Wn.no rfl rfl rfl rfl) rfl rfl ?_
    refine T.no (Wn.none rfl rfl rfl) rfl rfl ?_
    refine T.no (Wn.none rfl rfl rfl) rfl rfl ?_
    refine T.no (Wn.none rfl rfl rfl) rfl rfl ?_
    refine T.no (Wn.none rfl rfl rfl) rfl rfl ?_
    refine T.no (Wn.no rfl rfl rfl rfl) rfl rfl ?_
    refine T.q (q_pickT rfl rfl rfl) (Wt.plain rfl) rfl rfl ?_
    refine T.q (q_move rfl rfl) (Wt.plain rfl) rfl rfl ?_
    refine T.no (Wn.no rfl rfl rfl rfl) rfl rfl ?_
    refine T.no (Wn.no rfl rfl rfl rfl) rfl rfl ?_
    refine T.no (Wn.no rfl rfl rfl rfl) rfl rfl ?_
    refine T.no (Wn.none rfl rfl rfl) rfl rfl ?_
    refine T.no (Wn.none rfl rfl rfl) rfl rfl ?_
    refine T.no (Wn.none rfl rfl rfl) rfl rfl ?_
    refine T.no (Wn.none rfl rfl rfl) rfl rfl ?_
    refine T.no (Wn.no rfl rfl rfl rfl) rfl rfl ?_
    refine T.q (q_pickT rfl rfl rfl) (Wt.plain rfl) rfl rfl ?_
    refine T.nil ?_
    refine Ex.next ?_
    refine W.slots (L' := [(1, _), (4, _), (128, _)]) ⟨rfl, rfl, rfl, trivial⟩ ?_
    refine W.condT rfl ?_
    refine W.region ?_
    refine T.q (q_assign rfl rfl) (Wt.plain rfl) rfl rfl ?_
    refine T.nil ?_
    refine Ex.next ?_
    refine W.slots (L' := [(1, _), (4, _)]) ⟨rfl, rfl, trivial⟩ ?_
    refine W.seq ?_
    refine W.seq ?_
    refine W.region ?_
    refine T.q (q_move rfl rfl) (Wt.plain rfl) rfl rfl ?_
    refine T.q (q_not rfl rfl) (Wt.plain rfl) rfl rfl ?_
    refine T.q (q_move rfl rfl) (Wt.plain rfl) rfl rfl ?_
    refine T.no (Wn.no rfl rfl rfl rfl) rfl rfl ?_
    refine T.no (Wn.no rfl rfl rfl rfl) rfl rfl ?_
    refine T.no (Wn.no rfl rfl rfl rfl) rfl rfl ?_
    refine T.no (Wn.no rfl rfl rfl rfl) rfl rfl ?_
    refine T.q (q_pickT rfl rfl rfl) (Wt.plain rfl) rfl rfl ?_
    refine T.nil ?_
    refine Ex.next ?_
    refine W.less (L' := [(136, _)]) [false] ⟨rfl, trivial⟩ ?_
    change (_ : List Blk → Prop) []
    refine W.condT rfl ?_
    refine W.seq ?_
    refine W.region ?_
    refine T.q (q_assign rfl rfl) (Wt.plain rfl) rfl rfl ?_
    refine T.nil ?_
    refine Ex.next ?_
    refine W.slots (L' := [(2, _)]) ⟨rfl, trivial⟩ ?_
    refine W.ret ?_
    refine Ex.then_ret ?_
    refine Ex.out1 [] rfl rfl ?_
    exact ⟨congrArg (Value.int .i64) (chkE_no (f := ⟨1, a, l, rs, bs, tok⟩) fun (h : mayN 1 a l bs.length rs.length (risN rs (a + 1) 4611686018427387903) (risN rs 0 a) (tokN tok)) => by unfold mayN at h; omega).symm, rfl⟩
  replace hb8 := of_decide_eq_false hb8
  refine T.q (q_fld fl59_0 rfl rfl) (Wt.yes rfl rfl rfl) rfl rfl ?_
  refine T.q (q_load1 ss3 0 rfl rfl rfl (rfl)) (Wt.yes rfl rfl rfl) rfl rfl ?_
  refine T.q (q_bool (b := true) (q_neq rfl rfl rfl) (decide_eq_true (by decide))) (Wt.yes rfl rfl rfl) rfl rfl ?_
  refine T.q (q_move rfl rfl) (Wt.yes rfl rfl rfl) rfl rfl ?_
  refine T.q (q_fld fl59_0 rfl rfl) (Wt.yes rfl rfl rfl) rfl rfl ?_
  refine T.q (q_load1 ss3 0 rfl rfl rfl (rfl)) (Wt.yes rfl rfl rfl) rfl rfl ?_
  refine T.q (q_bool (b := true) (q_neq rfl rfl rfl) (decide_eq_true (by decide))) (Wt.yes rfl rfl rfl) rfl rfl ?_
  refine T.q (q_pickT rfl rfl rfl) (Wt.yes rfl rfl rfl) rfl rfl ?_
  refine T.q (q_move rfl rfl) (Wt.yes rfl rfl rfl) rfl rfl ?_
  refine T.q (q_fld fl59_3 rfl rfl) (Wt.yes rfl rfl rfl) rfl rfl ?_
  refine T.q (q_load1 ss56 0 rfl rfl rfl (cell_skip1 (cell_skip1 (cell_skip1 (rfl))))) (Wt.yes rfl rfl rfl) rfl rfl ?_
  refine T.q (q_len sc56 rfl rfl) (Wt.yes rfl rfl rfl) rfl rfl ?_
  refine T.q (q_gtr rfl rfl rfl) (Wt.yes rfl rfl rfl) rfl rfl ?_
  refine T.q (q_pickT rfl rfl rfl) (Wt.yes rfl rfl rfl) rfl rfl ?_
  refine T.q (q_pickF rfl rfl rfl) (Wt.plain rfl) rfl rfl ?_
  refine T.q (q_move rfl rfl) (Wt.plain rfl) rfl rfl ?_
  refine T.both (t := 119) _ rfl (fun hb9 => ?_) (fun hb9 => ?_)
  · replace hb9 := of_decide_eq_true hb9
    refine T.no (Wn.no rfl rfl rfl rfl) rfl rfl ?_
    refine T.no (Wn.no rfl rfl rfl rfl) rfl rfl ?_
    refine T.no (Wn.no rfl rfl rfl rfl) rfl rfl ?_
    refine T.no (Wn.none rfl rfl rfl) rfl rfl ?_
    refine T.no (Wn.none rfl rfl rfl) rfl rfl ?_
    refine T.no (Wn.none rfl rfl rfl) rfl rfl ?_
    refine T.no (Wn.none rfl rfl rfl) rfl rfl ?_
    refine T.no (Wn.no rfl rfl rfl rfl) rfl rfl ?_
    refine T.q (q_pickT rfl rfl rfl) (Wt.plain rfl) rfl rfl ?_
    refine T.nil ?_
    refine Ex.next ?_
    refine W.slots (L' := [(1, _), (4, _), (128, _)]) ⟨rfl, rfl, rfl, trivial⟩ ?_
    refine W.condT rfl ?_
    refine W.region ?_
    refine T.q (q_assign rfl rfl) (Wt.plain rfl) rfl rfl ?_
    refine T.nil ?_
    refine Ex.next ?_
    refine W.slots (L' := [(1, _), (4, _)]) ⟨rfl, rfl, trivial⟩ ?_
    refine W.seq ?_
    refine W.seq ?_
    refine W.region ?_
    refine T.q (q_move rfl rfl) (Wt.plain rfl) rfl rfl ?_
    refine T.q (q_not rfl rfl) (Wt.plain rfl) rfl rfl ?_
    refine T.q (q_move rfl rfl) (Wt.plain rfl) rfl rfl ?_
    refine T.no (Wn.no rfl rfl rfl rfl) rfl rfl ?_
    refine T.no (Wn.no rfl rfl rfl rfl) rfl rfl ?_
    refine T.no (Wn.no rfl rfl rfl rfl) rfl rfl ?_
    refine T.no (Wn.no rfl rfl rfl rfl) rfl rfl ?_
    refine T.q (q_pickT rfl rfl rfl) (Wt.plain rfl) rfl rfl ?_
    refine T.nil ?_
    refine Ex.next ?_
    refine W.less (L' := [(136, _)]) [false] ⟨rfl, trivial⟩ ?_
    change (_ : List Blk → Prop) []
    refine W.condT rfl ?_
    refine W.seq ?_
    refine W.region ?_
    refine T.q (q_assign rfl rfl) (Wt.plain rfl) rfl rfl ?_
    refine T.nil ?_
    refine Ex.next ?_
    refine W.slots (L' := [(2, _)]) ⟨rfl, trivial⟩ ?_
    refine W.ret ?_
    refine Ex.then_ret ?_
    refine Ex.out1 [] rfl rfl ?_
    exact ⟨congrArg (Value.int .i64) (chkE_no (f := ⟨1, a, l, rs, bs, tok⟩) fun (h : mayN 1 a l bs.length rs.length (risN rs (a + 1) 4611686018427387903) (risN rs 0 a) (tokN tok)) => by unfold mayN at h; omega).symm, rfl⟩
  replace hb9 := of_decide_eq_false hb9
  refine T.q (q_move rfl rfl) (Wt.yes rfl rfl rfl) rfl rfl ?_
  refine T.q (q_not rfl rfl) (Wt.yes rfl rfl rfl) rfl rfl ?_
  refine T.q (q_move rfl rfl) (Wt.yes rfl rfl rfl) rfl rfl ?_
  refine T.q (q_fld fl59_5 rfl rfl) (Wt.yes rfl rfl rfl) rfl rfl ?_
  refine T.q (q_loadW (wide_ints wd57 (by first | omega | (simp; done) | (simp [-List.getD_eq_getElem?_getD]; omega) | (simp at *; omega) | rfl)) (R_at 0 5 8 rfl (part_skip1 (part_skip1 (part_skip1 (part_skip1 (part_skip1 (part_last (by first | omega | (simp; done) | (simp [-List.getD_eq_getElem?_getD]; omega) | (simp at *; omega) | rfl)))))))) rfl rfl) (Wt.yes rfl rfl rfl) rfl rfl ?_
  refine T.q (q_build (v := .agg (ints .u8 (List.replicate 8 0)).toArray) rfl rfl (fun _ => by kernel_rfl)) (Wt.yes rfl rfl rfl) rfl rfl ?_
  refine T.q (q_bool (b := decide (tokN tok ≠ 1)) (q_neqA ar57 ss5 un5 eg57 rfl rfl rfl (by first | omega | (simp; done) | (simp [-List.getD_eq_getElem?_getD]; omega) | (simp at *; omega) | rfl) (by first | omega | (simp; done) | (simp [-List.getD_eq_getElem?_getD]; omega) | (simp at *; omega) | rfl)) ?hE) (Wt.yes rfl rfl rfl) rfl rfl ?_
  case hE => exact tok_neq
  refine T.q (q_pickT rfl rfl rfl) (Wt.yes rfl rfl rfl) rfl rfl ?_
  refine T.q (q_pickF rfl rfl rfl) (Wt.plain rfl) rfl rfl ?_
  refine T.nil ?_
  refine Ex.next ?_
  refine W.slots (L' := [(1, _), (4, _), (128, _)]) ⟨rfl, rfl, rfl, trivial⟩ ?_
  refine W.cond _ rfl (fun hb10 => ?_) (fun hb10 => ?_)
  · replace hb10 := of_decide_eq_true hb10
    refine W.region ?_
    refine T.q (q_assign rfl rfl) (Wt.plain rfl) rfl rfl ?_
    refine T.nil ?_
    refine Ex.next ?_
    refine W.slots (L' := [(1, _), (4, _)]) ⟨rfl, rfl, trivial⟩ ?_
    refine W.seq ?_
    refine W.seq ?_
    refine W.region ?_
    refine T.q (q_move rfl rfl) (Wt.plain rfl) rfl rfl ?_
    refine T.q (q_not rfl rfl) (Wt.plain rfl) rfl rfl ?_
    refine T.q (q_move rfl rfl) (Wt.plain rfl) rfl rfl ?_
    refine T.no (Wn.no rfl rfl rfl rfl) rfl rfl ?_
    refine T.no (Wn.no rfl rfl rfl rfl) rfl rfl ?_
    refine T.no (Wn.no rfl rfl rfl rfl) rfl rfl ?_
    refine T.no (Wn.no rfl rfl rfl rfl) rfl rfl ?_
    refine T.q (q_pickT rfl rfl rfl) (Wt.plain rfl) rfl rfl ?_
    refine T.nil ?_
    refine Ex.next ?_
    refine W.less (L' := [(136, _)]) [false] ⟨rfl, trivial⟩ ?_
    change (_ : List Blk → Prop) []
    refine W.condT rfl ?_
    refine W.seq ?_
    refine W.region ?_
    refine T.q (q_assign rfl rfl) (Wt.plain rfl) rfl rfl ?_
    refine T.nil ?_
    refine Ex.next ?_
    refine W.slots (L' := [(2, _)]) ⟨rfl, trivial⟩ ?_
    refine W.ret ?_
    refine Ex.then_ret ?_
    refine Ex.out1 [] rfl rfl ?_
    exact ⟨congrArg (Value.int .i64) (chkE_no (f := ⟨1, a, l, rs, bs, tok⟩) fun (h : mayN 1 a l bs.length rs.length (risN rs (a + 1) 4611686018427387903) (risN rs 0 a) (tokN tok)) => by unfold mayN at h; omega).symm, rfl⟩
  replace hb10 := of_decide_eq_false hb10
  refine W.skip ?_
  refine Ex.next ?_
  refine W.slots (L' := [(1, _), (4, _)]) ⟨rfl, rfl, trivial⟩ ?_
  refine W.seq ?_
  refine W.seq ?_
  refine W.region ?_
  refine T.q (q_move rfl rfl) (Wt.plain rfl) rfl rfl ?_
  refine T.q (q_not rfl rfl) (Wt.plain rfl) rfl rfl ?_
  refine T.q (q_move rfl rfl) (Wt.plain rfl) rfl rfl ?_
  refine T.no (Wn.no rfl rfl rfl rfl) rfl rfl ?_
  refine T.no (Wn.no rfl rfl rfl rfl) rfl rfl ?_
  refine T.no (Wn.no rfl rfl rfl rfl) rfl rfl ?_
  refine T.no (Wn.no rfl rfl rfl rfl) rfl rfl ?_
  refine T.q (q_pickT rfl rfl rfl) (Wt.plain rfl) rfl rfl ?_
  refine T.nil ?_
  refine Ex.next ?_
  refine W.less (L' := [(136, _)]) [false] ⟨rfl, trivial⟩ ?_
  change (_ : List Blk → Prop) []
  refine W.condT rfl ?_
  refine W.seq ?_
  refine W.region ?_
  refine T.q (q_assign rfl rfl) (Wt.plain rfl) rfl rfl ?_
  refine T.nil ?_
  refine Ex.next ?_
  refine W.slots (L' := [(2, _)]) ⟨rfl, trivial⟩ ?_
  refine W.ret ?_
  refine Ex.then_ret ?_
  refine Ex.out1 [] rfl rfl ?_
  exact ⟨congrArg (Value.int .i64) (chkE_no (f := ⟨1, a, l, rs, bs, tok⟩) fun (h : mayN 1 a l bs.length rs.length (risN rs (a + 1) 4611686018427387903) (risN rs 0 a) (tokN tok)) => by unfold mayN at h; omega).symm, rfl⟩
set_option maxRecDepth 100000 in
theorem refchk_2 (a l : Int) (rs : List (Int × Int)) (bs tok : List Int) (RA BA : Option Addr) (rc bc : Nat) (hrl : rs.length ≤ 9223372036854775807) (htok : tok.length = 8) (w0 : World) (hR : Reads w0 RA (ints .i64 (flat rs))) : Does Try.prog 48 #[.agg (.int .i64 2 :: (.int .i64 a :: (.int .i64 l :: (.slice RA rs.length rc :: (.slice BA bs.length bc :: (ints .u8 tok)))))).toArray] w0 [] (fun v G => v = .int .i64 (chkE ⟨2, a, l, rs, bs, tok⟩) ∧ G = []) := by
  refine spec_of 137 Try.func48 rfl rfl rfl ?_
  refine W.seq ?_
  refine W.region ?_
  refine T.eff (e_box rfl rfl rfl rfl) (Wt.plain rfl) ?_
  rintro _ _ ⟨k1, rfl, rfl⟩
  change (_ : List Blk → Prop) [_]
  change (_ : List Blk → Prop) [⟨some k1, .int .i64 2 :: (.int .i64 a :: (.int .i64 l :: (.slice RA rs.length rc :: (.slice BA bs.length bc :: (ints .u8 tok))))), 59, (0, 0)⟩]
  refine T.q (q_assign rfl rfl) (Wt.plain rfl) rfl rfl ?_
  refine T.nil ?_
  refine Ex.next ?_
  refine W.slots (L' := [(1, _)]) ⟨rfl, trivial⟩ ?_
  refine W.seq ?_
  refine W.region ?_
  refine T.q (q_fld fl59_0 rfl rfl) (Wt.plain rfl) rfl rfl ?_
  refine T.q (q_load1 ss3 0 rfl rfl rfl (rfl)) (Wt.plain rfl) rfl rfl ?_
  refine T.q (q_bool (b := false) (q_eql rfl rfl rfl) (decide_eq_false (by decide))) (Wt.plain rfl) rfl rfl ?_
  refine T.q (q_move rfl rfl) (Wt.plain rfl) rfl rfl ?_
  refine T.q (q_fld fl59_0 rfl rfl) (Wt.yes rfl rfl rfl) rfl rfl ?_
  refine T.q (q_load1 ss3 0 rfl rfl rfl (rfl)) (Wt.yes rfl rfl rfl) rfl rfl ?_
  refine T.q (q_bool (b := false) (q_eql rfl rfl rfl) (decide_eq_false (by decide))) (Wt.yes rfl rfl rfl) rfl rfl ?_
  refine T.q (q_pickF rfl rfl rfl) (Wt.plain rfl) rfl rfl ?_
  refine T.q (q_assign rfl rfl) (Wt.plain rfl) rfl rfl ?_
  refine T.nil ?_
  refine Ex.next ?_
  refine W.slots (L' := [(1, _), (3, _)]) ⟨rfl, rfl, trivial⟩ ?_
  refine W.seq ?_
  refine W.region ?_
  refine T.q (q_assign rfl rfl) (Wt.plain rfl) rfl rfl ?_
  refine T.nil ?_
  refine Ex.next ?_
  refine W.slots (L' := [(1, _), (3, _), (4, _)]) ⟨rfl, rfl, rfl, trivial⟩ ?_
  refine W.seq ?_
  refine W.seq ?_
  refine W.region ?_
  refine T.q (q_fld fl59_0 rfl rfl) (Wt.plain rfl) rfl rfl ?_
  refine T.q (q_load1 ss3 0 rfl rfl rfl (rfl)) (Wt.plain rfl) rfl rfl ?_
  refine T.nil ?_
  refine Ex.next ?_
  refine W.slots (L' := [(1, _), (3, _), (4, _), (14, _)]) ⟨rfl, rfl, rfl, rfl, trivial⟩ ?_
  refine W.block ?_
  refine W.seq ?_
  refine W.region ?_
  refine T.q (q_bool (b := false) (q_eql rfl rfl rfl) (decide_eq_false (by decide))) (Wt.plain rfl) rfl rfl ?_
  refine T.q (q_assign rfl rfl) (Wt.plain rfl) rfl rfl ?_
  refine T.nil ?_
  refine Ex.next ?_
  refine W.slots (L' := [(1, _), (3, _), (4, _), (14, _), (15, _)]) ⟨rfl, rfl, rfl, rfl, rfl, trivial⟩ ?_
  refine W.condF rfl ?_
  refine W.seq ?_
  refine W.region ?_
  refine T.q (q_bool (b := true) (q_eql rfl rfl rfl) (decide_eq_true (by decide))) (Wt.plain rfl) rfl rfl ?_
  refine T.q (q_assign rfl rfl) (Wt.plain rfl) rfl rfl ?_
  refine T.nil ?_
  refine Ex.next ?_
  refine W.slots (L' := [(1, _), (3, _), (4, _), (14, _), (27, _)]) ⟨rfl, rfl, rfl, rfl, rfl, trivial⟩ ?_
  refine W.condT rfl ?_
  refine W.region ?_
  refine T.q (q_fld fl59_1 rfl rfl) (Wt.plain rfl) rfl rfl ?_
  refine T.q (q_load1 ss3 0 rfl rfl rfl (cell_skip1 (rfl))) (Wt.plain rfl) rfl rfl ?_
  refine T.eff (e_call enters66 rfl rfl (fun w hm => refnum_spec a w) rfl rfl) (Wt.plain rfl) ?_
  rintro _ _ ⟨_, _, ⟨rfl, rfl⟩, rfl, rfl⟩
  change (_ : List Blk → Prop) [_]
  refine T.q (q_move rfl rfl) (Wt.plain rfl) rfl rfl ?_
  refine T.both (t := 32) _ rfl (fun hb2 => ?_) (fun hb2 => ?_)
  · replace hb2 := of_decide_eq_true hb2
    refine T.q (q_fld fl59_2 rfl rfl) (Wt.yes rfl rfl rfl) rfl rfl ?_
    refine T.q (q_load1 ss3 0 rfl rfl rfl (cell_skip1 (cell_skip1 (rfl)))) (Wt.yes rfl rfl rfl) rfl rfl ?_
    refine T.eff (e_call enters66 rfl rfl (fun w hm => refnum_spec l w) rfl rfl) (Wt.yes rfl rfl rfl) ?_
    rintro _ _ ⟨_, _, ⟨rfl, rfl⟩, rfl, rfl⟩
    change (_ : List Blk → Prop) [_]
    refine T.q (q_pickT rfl rfl rfl) (Wt.plain rfl) rfl rfl ?_
    refine T.q (q_move rfl rfl) (Wt.plain rfl) rfl rfl ?_
    refine T.both (t := 37) _ rfl (fun hb3 => ?_) (fun hb3 => ?_)
    · replace hb3 := of_decide_eq_true hb3
      refine T.q (q_fld fl59_3 rfl rfl) (Wt.yes rfl rfl rfl) rfl rfl ?_
      refine T.q (q_load1 ss56 0 rfl rfl rfl (cell_skip1 (cell_skip1 (cell_skip1 (rfl))))) (Wt.yes rfl rfl rfl) rfl rfl ?_
      refine T.q (q_fld fl59_1 rfl rfl) (Wt.yes rfl rfl rfl) rfl rfl ?_
      refine T.q (q_load1 ss3 0 rfl rfl rfl (cell_skip1 (rfl))) (Wt.yes rfl rfl rfl) rfl rfl ?_
      refine T.eff (e_call enters67 rfl rfl (fun w hm => refris_up rs _ _ hrl a 4611686018427387903 w ((R_ext hR.ext) w hm)) rfl rfl) (Wt.yes rfl rfl rfl) ?_
      rintro _ _ ⟨_, _, ⟨rfl, rfl⟩, rfl, rfl⟩
      change (_ : List Blk → Prop) [_]
      refine T.q (q_pickT rfl rfl rfl) (Wt.plain rfl) rfl rfl ?_
      refine T.q (q_assign rfl rfl) (Wt.plain rfl) rfl rfl ?_
      refine T.nil ?_
      refine Ex.in_normal ?_
      refine Ex.next ?_
      refine W.slots (L' := [(1, _), (3, _), (4, _)]) ⟨rfl, rfl, rfl, trivial⟩ ?_
      refine W.seq ?_
      refine W.seq ?_
      refine W.region ?_
      refine T.q (q_fld fl59_0 rfl rfl) (Wt.plain rfl) rfl rfl ?_
      refine T.q (q_load1 ss3 0 rfl rfl rfl (rfl)) (Wt.plain rfl) rfl rfl ?_
      refine T.q (q_bool (b := true) (q_neq rfl rfl rfl) (decide_eq_true (by decide))) (Wt.plain rfl) rfl rfl ?_
      refine T.q (q_move rfl rfl) (Wt.plain rfl) rfl rfl ?_
      refine T.q (q_fld fl59_4 rfl rfl) (Wt.yes rfl rfl rfl) rfl rfl ?_
      refine T.q (q_load1 ss22 0 rfl rfl rfl (cell_skip1 (cell_skip1 (cell_skip1 (cell_skip1 (rfl)))))) (Wt.yes rfl rfl rfl) rfl rfl ?_
      refine T.q (q_len sc22 rfl rfl) (Wt.yes rfl rfl rfl) rfl rfl ?_
      refine T.q (q_gtr rfl rfl rfl) (Wt.yes rfl rfl rfl) rfl rfl ?_
      refine T.q (q_pickT rfl rfl rfl) (Wt.plain rfl) rfl rfl ?_
      refine T.q (q_move rfl rfl) (Wt.plain rfl) rfl rfl ?_
      refine T.both (t := 88) _ rfl (fun hb4 => ?_) (fun hb4 => ?_)
      · replace hb4 := of_decide_eq_true hb4
        refine T.no (Wn.no rfl rfl rfl rfl) rfl rfl ?_
        refine T.no (Wn.no rfl rfl rfl rfl) rfl rfl ?_
        refine T.no (Wn.no rfl rfl rfl rfl) rfl rfl ?_
        refine T.no (Wn.no rfl rfl rfl rfl) rfl rfl ?_
        refine T.no (Wn.none rfl rfl rfl) rfl rfl ?_
        refine T.no (Wn.none rfl rfl rfl) rfl rfl ?_
        refine T.no (Wn.none rfl rfl rfl) rfl rfl ?_
        refine T.no (Wn.no rfl rfl rfl rfl) rfl rfl ?_
        refine T.no (Wn.no rfl rfl rfl rfl) rfl rfl ?_
        refine T.no (Wn.none rfl rfl rfl) rfl rfl ?_
        refine T.no (Wn.none rfl rfl rfl) rfl rfl ?_
        refine T.no (Wn.none rfl rfl rfl) rfl rfl ?_
        refine T.no (Wn.no rfl rfl rfl rfl) rfl rfl ?_
        refine T.q (q_pickT rfl rfl rfl) (Wt.plain rfl) rfl rfl ?_
        refine T.q (q_move rfl rfl) (Wt.plain rfl) rfl rfl ?_
        refine T.no (Wn.no rfl rfl rfl rfl) rfl rfl ?_
        refine T.no (Wn.no rfl rfl rfl rfl) rfl rfl ?_
        refine T.no (Wn.no rfl rfl rfl rfl) rfl rfl ?_
        refine T.no (Wn.no rfl rfl rfl rfl) rfl rfl ?_
        refine T.no (Wn.none rfl rfl rfl) rfl rfl ?_
        refine T.no (Wn.none rfl rfl rfl) rfl rfl ?_
        refine T.no (Wn.none rfl rfl rfl) rfl rfl ?_
        refine T.no (Wn.no rfl rfl rfl rfl) rfl rfl ?_
        refine T.no (Wn.no rfl rfl rfl rfl) rfl rfl ?_
        refine T.no (Wn.none rfl rfl rfl) rfl rfl ?_
        refine T.no (Wn.none rfl rfl rfl) rfl rfl ?_
        refine T.no (Wn.none rfl rfl rfl) rfl rfl ?_
        refine T.no (Wn.none rfl rfl rfl) rfl rfl ?_
        refine T.no (Wn.no rfl rfl rfl rfl) rfl rfl ?_
        refine T.q (q_pickT rfl rfl rfl) (Wt.plain rfl) rfl rfl ?_
        refine T.q (q_move rfl rfl) (Wt.plain rfl) rfl rfl ?_
        refine T.no (Wn.no rfl rfl rfl rfl) rfl rfl ?_
        refine T.no (Wn.no rfl rfl rfl rfl) rfl rfl ?_
        refine T.no (Wn.no rfl rfl rfl rfl) rfl rfl ?_
        refine T.no (Wn.none rfl rfl rfl) rfl rfl ?_
        refine T.no (Wn.none rfl rfl rfl) rfl rfl ?_
        refine T.no (Wn.none rfl rfl rfl) rfl rfl ?_
        refine T.no (Wn.none rfl rfl rfl) rfl rfl ?_
        refine T.no (Wn.no rfl rfl rfl rfl) rfl rfl ?_
        refine T.q (q_pickT rfl rfl rfl) (Wt.plain rfl) rfl rfl ?_
        refine T.nil ?_
        refine Ex.next ?_
        refine W.slots (L' := [(1, _), (4, _), (128, _)]) ⟨rfl, rfl, rfl, trivial⟩ ?_
        refine W.condT rfl ?_
        refine W.region ?_
        refine T.q (q_assign rfl rfl) (Wt.plain rfl) rfl rfl ?_
        refine T.nil ?_
        refine Ex.next ?_
        refine W.slots (L' := [(1, _), (4, _)]) ⟨rfl, rfl, trivial⟩ ?_
        refine W.seq ?_
        refine W.seq ?_
        refine W.region ?_
        refine T.q (q_move rfl rfl) (Wt.plain rfl) rfl rfl ?_
        refine T.q (q_not rfl rfl) (Wt.plain rfl) rfl rfl ?_
        refine T.q (q_move rfl rfl) (Wt.plain rfl) rfl rfl ?_
        refine T.no (Wn.no rfl rfl rfl rfl) rfl rfl ?_
        refine T.no (Wn.no rfl rfl rfl rfl) rfl rfl ?_
        refine T.no (Wn.no rfl rfl rfl rfl) rfl rfl ?_
        refine T.no (Wn.no rfl rfl rfl rfl) rfl rfl ?_
        refine T.q (q_pickT rfl rfl rfl) (Wt.plain rfl) rfl rfl ?_
        refine T.nil ?_
        refine Ex.next ?_
        refine W.less (L' := [(136, _)]) [false] ⟨rfl, trivial⟩ ?_
        change (_ : List Blk → Prop) []
        refine W.condT rfl ?_
        refine W.seq ?_
        refine W.region ?_
        refine T.q (q_assign rfl rfl) (Wt.plain rfl) rfl rfl ?_
        refine T.nil ?_
        refine Ex.next ?_
        refine W.slots (L' := [(2, _)]) ⟨rfl, trivial⟩ ?_
        refine W.ret ?_
        refine Ex.then_ret ?_
        refine Ex.out1 [] rfl rfl ?_
        exact ⟨congrArg (Value.int .i64) (chkE_no (f := ⟨2, a, l, rs, bs, tok⟩) fun (h : mayN 2 a l bs.length rs.length (risN rs (a + 1) 4611686018427387903) (risN rs 0 a) (tokN tok)) => by unfold mayN at h; omega).symm, rfl⟩
      replace hb4 := of_decide_eq_false hb4
      refine T.q (q_fld fl59_0 rfl rfl) (Wt.yes rfl rfl rfl) rfl rfl ?_
      refine T.q (q_load1 ss3 0 rfl rfl rfl (rfl)) (Wt.yes rfl rfl rfl) rfl rfl ?_
      refine T.q (q_bool (b := false) (q_neq rfl rfl rfl) (decide_eq_false (by decide))) (Wt.yes rfl rfl rfl) rfl rfl ?_
      refine T.q (q_move rfl rfl) (Wt.yes rfl rfl rfl) rfl rfl ?_
      refine T.no (Wn.no rfl rfl rfl rfl) rfl rfl ?_
      refine T.no (Wn.no rfl rfl rfl rfl) rfl rfl ?_
      refine T.no (Wn.no rfl rfl rfl rfl) rfl rfl ?_
      refine T.q (q_pickF rfl rfl rfl) (Wt.yes rfl rfl rfl) rfl rfl ?_
      refine T.q (q_move rfl rfl) (Wt.yes rfl rfl rfl) rfl rfl ?_
      refine T.no (Wn.no rfl rfl rfl rfl) rfl rfl ?_
      refine T.no (Wn.no rfl rfl rfl rfl) rfl rfl ?_
      refine T.no (Wn.no rfl rfl rfl rfl) rfl rfl ?_
      refine T.q (q_pickF rfl rfl rfl) (Wt.yes rfl rfl rfl) rfl rfl ?_
      refine T.q (q_pickF rfl rfl rfl) (Wt.plain rfl) rfl rfl ?_
      refine T.q (q_move rfl rfl) (Wt.plain rfl) rfl rfl ?_
      refine T.q (q_fld fl59_0 rfl rfl) (Wt.yes rfl rfl rfl) rfl rfl ?_
      refine T.q (q_load1 ss3 0 rfl rfl rfl (rfl)) (Wt.yes rfl rfl rfl) rfl rfl ?_
      refine T.q (q_bool (b := false) (q_neq rfl rfl rfl) (decide_eq_false (by decide))) (Wt.yes rfl rfl rfl) rfl rfl ?_
      refine T.q (q_move rfl rfl) (Wt.yes rfl rfl rfl) rfl rfl ?_
      refine T.no (Wn.no rfl rfl rfl rfl) rfl rfl ?_
      refine T.no (Wn.no rfl rfl rfl rfl) rfl rfl ?_
      refine T.no (Wn.no rfl rfl rfl rfl) rfl rfl ?_
      refine T.q (q_pickF rfl rfl rfl) (Wt.yes rfl rfl rfl) rfl rfl ?_
      refine T.q (q_move rfl rfl) (Wt.yes rfl rfl rfl) rfl rfl ?_
      refine T.no (Wn.no rfl rfl rfl rfl) rfl rfl ?_
      refine T.no (Wn.no rfl rfl rfl rfl) rfl rfl ?_
      refine T.no (Wn.no rfl rfl rfl rfl) rfl rfl ?_
      refine T.no (Wn.no rfl rfl rfl rfl) rfl rfl ?_
      refine T.q (q_pickF rfl rfl rfl) (Wt.yes rfl rfl rfl) rfl rfl ?_
      refine T.q (q_pickF rfl rfl rfl) (Wt.plain rfl) rfl rfl ?_
      refine T.q (q_move rfl rfl) (Wt.plain rfl) rfl rfl ?_
      refine T.q (q_move rfl rfl) (Wt.yes rfl rfl rfl) rfl rfl ?_
      refine T.q (q_not rfl rfl) (Wt.yes rfl rfl rfl) rfl rfl ?_
      refine T.q (q_move rfl rfl) (Wt.yes rfl rfl rfl) rfl rfl ?_
      refine T.q (q_fld fl59_5 rfl rfl) (Wt.yes rfl rfl rfl) rfl rfl ?_
      refine T.q (q_loadW (wide_ints wd57 (by first | omega | (simp; done) | (simp [-List.getD_eq_getElem?_getD]; omega) | (simp at *; omega) | rfl)) (R_at 0 5 8 rfl (part_skip1 (part_skip1 (part_skip1 (part_skip1 (part_skip1 (part_last (by first | omega | (simp; done) | (simp [-List.getD_eq_getElem?_getD]; omega) | (simp at *; omega) | rfl)))))))) rfl rfl) (Wt.yes rfl rfl rfl) rfl rfl ?_
      refine T.q (q_build (v := .agg (ints .u8 (List.replicate 8 0)).toArray) rfl rfl (fun _ => by kernel_rfl)) (Wt.yes rfl rfl rfl) rfl rfl ?_
      refine T.q (q_bool (b := decide (tokN tok ≠ 1)) (q_neqA ar57 ss5 un5 eg57 rfl rfl rfl (by first | omega | (simp; done) | (simp [-List.getD_eq_getElem?_getD]; omega) | (simp at *; omega) | rfl) (by first | omega | (simp; done) | (simp [-List.getD_eq_getElem?_getD]; omega) | (simp at *; omega) | rfl)) ?hE) (Wt.yes rfl rfl rfl) rfl rfl ?_
      case hE => exact tok_neq
      refine T.q (q_pickT rfl rfl rfl) (Wt.yes rfl rfl rfl) rfl rfl ?_
      refine T.q (q_pickF rfl rfl rfl) (Wt.plain rfl) rfl rfl ?_
      refine T.nil ?_
      refine Ex.next ?_
      refine W.slots (L' := [(1, _), (4, _), (128, _)]) ⟨rfl, rfl, rfl, trivial⟩ ?_
      refine W.cond _ rfl (fun hb5 => ?_) (fun hb5 => ?_)
      · replace hb5 := of_decide_eq_true hb5
        refine W.region ?_
        refine T.q (q_assign rfl rfl) (Wt.plain rfl) rfl rfl ?_
        refine T.nil ?_
        refine Ex.next ?_
        refine W.slots (L' := [(1, _), (4, _)]) ⟨rfl, rfl, trivial⟩ ?_
        refine W.seq ?_
        refine W.seq ?_
        refine W.region ?_
        refine T.q (q_move rfl rfl) (Wt.plain rfl) rfl rfl ?_
        refine T.q (q_not rfl rfl) (Wt.plain rfl) rfl rfl ?_
        refine T.q (q_move rfl rfl) (Wt.plain rfl) rfl rfl ?_
        refine T.no (Wn.no rfl rfl rfl rfl) rfl rfl ?_
        refine T.no (Wn.no rfl rfl rfl rfl) rfl rfl ?_
        refine T.no (Wn.no rfl rfl rfl rfl) rfl rfl ?_
        refine T.no (Wn.no rfl rfl rfl rfl) rfl rfl ?_
        refine T.q (q_pickT rfl rfl rfl) (Wt.plain rfl) rfl rfl ?_
        refine T.nil ?_
        refine Ex.next ?_
        refine W.less (L' := [(136, _)]) [false] ⟨rfl, trivial⟩ ?_
        change (_ : List Blk → Prop) []
        refine W.condT rfl ?_
        refine W.seq ?_
        refine W.region ?_
        refine T.q (q_assign rfl rfl) (Wt.plain rfl) rfl rfl ?_
        refine T.nil ?_
        refine Ex.next ?_
        refine W.slots (L' := [(2, _)]) ⟨rfl, trivial⟩ ?_
        refine W.ret ?_
        refine Ex.then_ret ?_
        refine Ex.out1 [] rfl rfl ?_
        exact ⟨congrArg (Value.int .i64) (chkE_no (f := ⟨2, a, l, rs, bs, tok⟩) fun (h : mayN 2 a l bs.length rs.length (risN rs (a + 1) 4611686018427387903) (risN rs 0 a) (tokN tok)) => by unfold mayN at h; omega).symm, rfl⟩
      replace hb5 := of_decide_eq_false hb5
      refine W.skip ?_
      refine Ex.next ?_
      refine W.slots (L' := [(1, _), (4, _)]) ⟨rfl, rfl, trivial⟩ ?_
      refine W.seq ?_
      refine W.seq ?_
      refine W.region ?_
      refine T.q (q_move rfl rfl) (Wt.plain rfl) rfl rfl ?_
      refine T.q (q_bool (q_not rfl rfl) (decide_not (p := (risN rs (a + 1) 4611686018427387903 = 1))).symm) (Wt.plain rfl) rfl rfl ?_
      refine T.q (q_move rfl rfl) (Wt.plain rfl) rfl rfl ?_
      refine T.both (t := 131) _ rfl (fun hb6 => ?_) (fun hb6 => ?_)
      · replace hb6 := of_decide_eq_true hb6
        refine T.no (Wn.no rfl rfl rfl rfl) rfl rfl ?_
        refine T.no (Wn.no rfl rfl rfl rfl) rfl rfl ?_
        refine T.no (Wn.no rfl rfl rfl rfl) rfl rfl ?_
        refine T.no (Wn.no rfl rfl rfl rfl) rfl rfl ?_
        refine T.q (q_pickT rfl rfl rfl) (Wt.plain rfl) rfl rfl ?_
        refine T.nil ?_
        refine Ex.next ?_
        refine W.less (L' := [(136, _)]) [false] ⟨rfl, trivial⟩ ?_
        change (_ : List Blk → Prop) []
        refine W.condT rfl ?_
        refine W.seq ?_
        refine W.region ?_
        refine T.q (q_assign rfl rfl) (Wt.plain rfl) rfl rfl ?_
        refine T.nil ?_
        refine Ex.next ?_
        refine W.slots (L' := [(2, _)]) ⟨rfl, trivial⟩ ?_
        refine W.ret ?_
        refine Ex.then_ret ?_
        refine Ex.out1 [] rfl rfl ?_
        exact ⟨congrArg (Value.int .i64) (chkE_no (f := ⟨2, a, l, rs, bs, tok⟩) fun (h : mayN 2 a l bs.length rs.length (risN rs (a + 1) 4611686018427387903) (risN rs 0 a) (tokN tok)) => by unfold mayN at h; omega).symm, rfl⟩
      replace hb6 := of_decide_eq_false hb6
      refine T.q (q_fld fl59_1 rfl rfl) (Wt.yes rfl rfl rfl) rfl rfl ?_
      refine T.q (q_load1 ss3 0 rfl rfl rfl (cell_skip1 (rfl))) (Wt.yes rfl rfl rfl) rfl rfl ?_
      refine T.eff (e_call enters66 rfl rfl (fun w hm => refnum_spec a w) rfl rfl) (Wt.yes rfl rfl rfl) ?_
      rintro _ _ ⟨_, _, ⟨rfl, rfl⟩, rfl, rfl⟩
      change (_ : List Blk → Prop) [_]
      refine T.q (q_bool (q_not rfl rfl) (decide_not (p := (0 ≤ a ∧ a ≤ 4611686018427387903))).symm) (Wt.yes rfl rfl rfl) rfl rfl ?_
      refine T.q (q_pickF rfl rfl rfl) (Wt.plain rfl) rfl rfl ?_
      refine T.nil ?_
      refine Ex.next ?_
      refine W.less (L' := [(136, _)]) [false] ⟨rfl, trivial⟩ ?_
      change (_ : List Blk → Prop) []
      refine W.cond _ rfl (fun hb7 => ?_) (fun hb7 => ?_)
      · replace hb7 := of_decide_eq_true hb7
        refine W.seq ?_
        refine W.region ?_
        refine T.q (q_assign rfl rfl) (Wt.plain rfl) rfl rfl ?_
        refine T.nil ?_
        refine Ex.next ?_
        refine W.slots (L' := [(2, _)]) ⟨rfl, trivial⟩ ?_
        refine W.ret ?_
        refine Ex.then_ret ?_
        refine Ex.out1 [] rfl rfl ?_
        exact ⟨congrArg (Value.int .i64) (chkE_no (f := ⟨2, a, l, rs, bs, tok⟩) fun (h : mayN 2 a l bs.length rs.length (risN rs (a + 1) 4611686018427387903) (risN rs 0 a) (tokN tok)) => by unfold mayN at h; omega).symm, rfl⟩
      replace hb7 := of_decide_eq_false hb7
      refine W.skip ?_
      refine Ex.next ?_
      refine W.slots (L' := []) trivial ?_
      refine W.seq ?_
      refine W.region ?_
      refine T.q (q_assign rfl rfl) (Wt.plain rfl) rfl rfl ?_
      refine T.nil ?_
      refine Ex.next ?_
      refine W.slots (L' := [(2, _)]) ⟨rfl, trivial⟩ ?_
      refine W.ret ?_
      refine Ex.out1 [] rfl rfl ?_
      exact ⟨congrArg (Value.int .i64) (chkE_yes (f := ⟨2, a, l, rs, bs, tok⟩) (show mayN 2 a l bs.length rs.length (risN rs (a + 1) 4611686018427387903) (risN rs 0 a) (tokN tok) by unfold mayN; omega)).symm, rfl⟩
    replace hb3 := of_decide_eq_false hb3
    refine T.no (Wn.no rfl rfl rfl rfl) rfl rfl ?_
    refine T.no (Wn.no rfl rfl rfl rfl) rfl rfl ?_
    refine T.no (Wn.no rfl rfl rfl rfl) rfl rfl ?_
    refine T.no (Wn.no rfl rfl rfl rfl) rfl rfl ?_
    refine T.no (Wn.no rfl rfl rfl rfl) rfl rfl ?_
    refine T.q (q_pickF rfl rfl rfl) (Wt.plain rfl) rfl rfl ?_
    refine T.q (q_assign rfl rfl) (Wt.plain rfl) rfl rfl ?_
    refine T.nil ?_
    refine Ex.in_normal ?_
    refine Ex.next ?_
    refine W.slots (L' := [(1, _), (3, _), (4, _)]) ⟨rfl, rfl, rfl, trivial⟩ ?_
    refine W.seq ?_
    refine W.seq ?_
    refine W.region ?_
    refine T.q (q_fld fl59_0 rfl rfl) (Wt.plain rfl) rfl rfl ?_
    refine T.q (q_load1 ss3 0 rfl rfl rfl (rfl)) (Wt.plain rfl) rfl rfl ?_
    refine T.q (q_bool (b := true) (q_neq rfl rfl rfl) (decide_eq_true (by decide))) (Wt.plain rfl) rfl rfl ?_
    refine T.q (q_move rfl rfl) (Wt.plain rfl) rfl rfl ?_
    refine T.q (q_fld fl59_4 rfl rfl) (Wt.yes rfl rfl rfl) rfl rfl ?_
    refine T.q (q_load1 ss22 0 rfl rfl rfl (cell_skip1 (cell_skip1 (cell_skip1 (cell_skip1 (rfl)))))) (Wt.yes rfl rfl rfl) rfl rfl ?_
    refine T.q (q_len sc22 rfl rfl) (Wt.yes rfl rfl rfl) rfl rfl ?_
    refine T.q (q_gtr rfl rfl rfl) (Wt.yes rfl rfl rfl) rfl rfl ?_
    refine T.q (q_pickT rfl rfl rfl) (Wt.plain rfl) rfl rfl ?_
    refine T.q (q_move rfl rfl) (Wt.plain rfl) rfl rfl ?_
    refine T.both (t := 88) _ rfl (fun hb8 => ?_) (fun hb8 => ?_)
    · replace hb8 := of_decide_eq_true hb8
      refine T.no (Wn.no rfl rfl rfl rfl) rfl rfl ?_
      refine T.no (Wn.no rfl rfl rfl rfl) rfl rfl ?_
      refine T.no (Wn.no rfl rfl rfl rfl) rfl rfl ?_
      refine T.no (Wn.no rfl rfl rfl rfl) rfl rfl ?_
      refine T.no (Wn.none rfl rfl rfl) rfl rfl ?_
      refine T.no (Wn.none rfl rfl rfl) rfl rfl ?_
      refine T.no (Wn.none rfl rfl rfl) rfl rfl ?_
      refine T.no (Wn.no rfl rfl rfl rfl) rfl rfl ?_
      refine T.no (Wn.no rfl rfl rfl rfl) rfl rfl ?_
      refine T.no (Wn.none rfl rfl rfl) rfl rfl ?_
      refine T.no (Wn.none rfl rfl rfl) rfl rfl ?_
      refine T.no (Wn.none rfl rfl rfl) rfl rfl ?_
      refine T.no (Wn.no rfl rfl rfl rfl) rfl rfl ?_
      refine T.q (q_pickT rfl rfl rfl) (Wt.plain rfl) rfl rfl ?_
      refine T.q (q_move rfl rfl) (Wt.plain rfl) rfl rfl ?_
      refine T.no (Wn.no rfl rfl rfl rfl) rfl rfl ?_
      refine T.no (Wn.no rfl rfl rfl rfl) rfl rfl ?_
      refine T.no (Wn.no rfl rfl rfl rfl) rfl rfl ?_
      refine T.no (Wn.no rfl rfl rfl rfl) rfl rfl ?_
      refine T.no (Wn.none rfl rfl rfl) rfl rfl ?_
      refine T.no (Wn.none rfl rfl rfl) rfl rfl ?_
      refine T.no (Wn.none rfl rfl rfl) rfl rfl ?_
      refine T.no (Wn.no rfl rfl rfl rfl) rfl rfl ?_
      refine T.no (Wn.no rfl rfl rfl rfl) rfl rfl ?_
      refine T.no (Wn.none rfl rfl rfl) rfl rfl ?_
      refine T.no (Wn.none rfl rfl rfl) rfl rfl ?_
      refine T.no (Wn.none rfl rfl rfl) rfl rfl ?_
      refine T.no (Wn.none rfl rfl rfl) rfl rfl ?_
      refine T.no (Wn.no rfl rfl rfl rfl) rfl rfl ?_
      refine T.q (q_pickT rfl rfl rfl) (Wt.plain rfl) rfl rfl ?_
      refine T.q (q_move rfl rfl) (Wt.plain rfl) rfl rfl ?_
      refine T.no (Wn.no rfl rfl rfl rfl) rfl rfl ?_
      refine T.no (Wn.no rfl rfl rfl rfl) rfl rfl ?_
      refine T.no (Wn.no rfl rfl rfl rfl) rfl rfl ?_
      refine T.no (Wn.none rfl rfl rfl) rfl rfl ?_
      refine T.no (Wn.none rfl rfl rfl) rfl rfl ?_
      refine T.no (Wn.none rfl rfl rfl) rfl rfl ?_
      refine T.no (Wn.none rfl rfl rfl) rfl rfl ?_
      refine T.no (Wn.no rfl rfl rfl rfl) rfl rfl ?_
      refine T.q (q_pickT rfl rfl rfl) (Wt.plain rfl) rfl rfl ?_
      refine T.nil ?_
      refine Ex.next ?_
      refine W.slots (L' := [(1, _), (4, _), (128, _)]) ⟨rfl, rfl, rfl, trivial⟩ ?_
      refine W.condT rfl ?_
      refine W.region ?_
      refine T.q (q_assign rfl rfl) (Wt.plain rfl) rfl rfl ?_
      refine T.nil ?_
      refine Ex.next ?_
      refine W.slots (L' := [(1, _), (4, _)]) ⟨rfl, rfl, trivial⟩ ?_
      refine W.seq ?_
      refine W.seq ?_
      refine W.region ?_
      refine T.q (q_move rfl rfl) (Wt.plain rfl) rfl rfl ?_
      refine T.q (q_not rfl rfl) (Wt.plain rfl) rfl rfl ?_
      refine T.q (q_move rfl rfl) (Wt.plain rfl) rfl rfl ?_
      refine T.no (Wn.no rfl rfl rfl rfl) rfl rfl ?_
      refine T.no (Wn.no rfl rfl rfl rfl) rfl rfl ?_
      refine T.no (Wn.no rfl rfl rfl rfl) rfl rfl ?_
      refine T.no (Wn.no rfl rfl rfl rfl) rfl rfl ?_
      refine T.q (q_pickT rfl rfl rfl) (Wt.plain rfl) rfl rfl ?_
      refine T.nil ?_
      refine Ex.next ?_
      refine W.less (L' := [(136, _)]) [false] ⟨rfl, trivial⟩ ?_
      change (_ : List Blk → Prop) []
      refine W.condT rfl ?_
      refine W.seq ?_
      refine W.region ?_
      refine T.q (q_assign rfl rfl) (Wt.plain rfl) rfl rfl ?_
      refine T.nil ?_
      refine Ex.next ?_
      refine W.slots (L' := [(2, _)]) ⟨rfl, trivial⟩ ?_
      refine W.ret ?_
      refine Ex.then_ret ?_
      refine Ex.out1 [] rfl rfl ?_
      exact ⟨congrArg (Value.int .i64) (chkE_no (f := ⟨2, a, l, rs, bs, tok⟩) fun (h : mayN 2 a l bs.length rs.length (risN rs (a + 1) 4611686018427387903) (risN rs 0 a) (tokN tok)) => by unfold mayN at h; omega).symm, rfl⟩
    replace hb8 := of_decide_eq_false hb8
    refine T.q (q_fld fl59_0 rfl rfl) (Wt.yes rfl rfl rfl) rfl rfl ?_
    refine T.q (q_load1 ss3 0 rfl rfl rfl (rfl)) (Wt.yes rfl rfl rfl) rfl rfl ?_
    refine T.q (q_bool (b := false) (q_neq rfl rfl rfl) (decide_eq_false (by decide))) (Wt.yes rfl rfl rfl) rfl rfl ?_
    refine T.q (q_move rfl rfl) (Wt.yes rfl rfl rfl) rfl rfl ?_
    refine T.no (Wn.no rfl rfl rfl rfl) rfl rfl ?_
    refine T.no (Wn.no rfl rfl rfl rfl) rfl rfl ?_
    refine T.no (Wn.no rfl rfl rfl rfl) rfl rfl ?_
    refine T.q (q_pickF rfl rfl rfl) (Wt.yes rfl rfl rfl) rfl rfl ?_
    refine T.q (q_move rfl rfl) (Wt.yes rfl rfl rfl) rfl rfl ?_
    refine T.no (Wn.no rfl rfl rfl rfl) rfl rfl ?_
    refine T.no (Wn.no rfl rfl rfl rfl) rfl rfl ?_
    refine T.no (Wn.no rfl rfl rfl rfl) rfl rfl ?_
    refine T.q (q_pickF rfl rfl rfl) (Wt.yes rfl rfl rfl) rfl rfl ?_
    refine T.q (q_pickF rfl rfl rfl) (Wt.plain rfl) rfl rfl ?_
    refine T.q (q_move rfl rfl) (Wt.plain rfl) rfl rfl ?_
    refine T.q (q_fld fl59_0 rfl rfl) (Wt.yes rfl rfl rfl) rfl rfl ?_
    refine T.q (q_load1 ss3 0 rfl rfl rfl (rfl)) (Wt.yes rfl rfl rfl) rfl rfl ?_
    refine T.q (q_bool (b := false) (q_neq rfl rfl rfl) (decide_eq_false (by decide))) (Wt.yes rfl rfl rfl) rfl rfl ?_
    refine T.q (q_move rfl rfl) (Wt.yes rfl rfl rfl) rfl rfl ?_
    refine T.no (Wn.no rfl rfl rfl rfl) rfl rfl ?_
    refine T.no (Wn.no rfl rfl rfl rfl) rfl rfl ?_
    refine T.no (Wn.no rfl rfl rfl rfl) rfl rfl ?_
    refine T.q (q_pickF rfl rfl rfl) (Wt.yes rfl rfl rfl) rfl rfl ?_
    refine T.q (q_move rfl rfl) (Wt.yes rfl rfl rfl) rfl rfl ?_
    refine T.no (Wn.no rfl rfl rfl rfl) rfl rfl ?_
    refine T.no (Wn.no rfl rfl rfl rfl) rfl rfl ?_
    refine T.no (Wn.no rfl rfl rfl rfl) rfl rfl ?_
    refine T.no (Wn.no rfl rfl rfl rfl) rfl rfl ?_
    refine T.q (q_pickF rfl rfl rfl) (Wt.yes rfl rfl rfl) rfl rfl ?_
    refine T.q (q_pickF rfl rfl rfl) (Wt.plain rfl) rfl rfl ?_
    refine T.q (q_move rfl rfl) (Wt.plain rfl) rfl rfl ?_
    refine T.q (q_move rfl rfl) (Wt.yes rfl rfl rfl) rfl rfl ?_
    refine T.q (q_not rfl rfl) (Wt.yes rfl rfl rfl) rfl rfl ?_
    refine T.q (q_move rfl rfl) (Wt.yes rfl rfl rfl) rfl rfl ?_
    refine T.q (q_fld fl59_5 rfl rfl) (Wt.yes rfl rfl rfl) rfl rfl ?_
    refine T.q (q_loadW (wide_ints wd57 (by first | omega | (simp; done) | (simp [-List.getD_eq_getElem?_getD]; omega) | (simp at *; omega) | rfl)) (R_at 0 5 8 rfl (part_skip1 (part_skip1 (part_skip1 (part_skip1 (part_skip1 (part_last (by first | omega | (simp; done) | (simp [-List.getD_eq_getElem?_getD]; omega) | (simp at *; omega) | rfl)))))))) rfl rfl) (Wt.yes rfl rfl rfl) rfl rfl ?_
    refine T.q (q_build (v := .agg (ints .u8 (List.replicate 8 0)).toArray) rfl rfl (fun _ => by kernel_rfl)) (Wt.yes rfl rfl rfl) rfl rfl ?_
    refine T.q (q_bool (b := decide (tokN tok ≠ 1)) (q_neqA ar57 ss5 un5 eg57 rfl rfl rfl (by first | omega | (simp; done) | (simp [-List.getD_eq_getElem?_getD]; omega) | (simp at *; omega) | rfl) (by first | omega | (simp; done) | (simp [-List.getD_eq_getElem?_getD]; omega) | (simp at *; omega) | rfl)) ?hE) (Wt.yes rfl rfl rfl) rfl rfl ?_
    case hE => exact tok_neq
    refine T.q (q_pickT rfl rfl rfl) (Wt.yes rfl rfl rfl) rfl rfl ?_
    refine T.q (q_pickF rfl rfl rfl) (Wt.plain rfl) rfl rfl ?_
    refine T.nil ?_
    refine Ex.next ?_
    refine W.slots (L' := [(1, _), (4, _), (128, _)]) ⟨rfl, rfl, rfl, trivial⟩ ?_
    refine W.cond _ rfl (fun hb9 => ?_) (fun hb9 => ?_)
    · replace hb9 := of_decide_eq_true hb9
      refine W.region ?_
      refine T.q (q_assign rfl rfl) (Wt.plain rfl) rfl rfl ?_
      refine T.nil ?_
      refine Ex.next ?_
      refine W.slots (L' := [(1, _), (4, _)]) ⟨rfl, rfl, trivial⟩ ?_
      refine W.seq ?_
      refine W.seq ?_
      refine W.region ?_
      refine T.q (q_move rfl rfl) (Wt.plain rfl) rfl rfl ?_
      refine T.q (q_not rfl rfl) (Wt.plain rfl) rfl rfl ?_
      refine T.q (q_move rfl rfl) (Wt.plain rfl) rfl rfl ?_
      refine T.no (Wn.no rfl rfl rfl rfl) rfl rfl ?_
      refine T.no (Wn.no rfl rfl rfl rfl) rfl rfl ?_
      refine T.no (Wn.no rfl rfl rfl rfl) rfl rfl ?_
      refine T.no (Wn.no rfl rfl rfl rfl) rfl rfl ?_
      refine T.q (q_pickT rfl rfl rfl) (Wt.plain rfl) rfl rfl ?_
      refine T.nil ?_
      refine Ex.next ?_
      refine W.less (L' := [(136, _)]) [false] ⟨rfl, trivial⟩ ?_
      change (_ : List Blk → Prop) []
      refine W.condT rfl ?_
      refine W.seq ?_
      refine W.region ?_
      refine T.q (q_assign rfl rfl) (Wt.plain rfl) rfl rfl ?_
      refine T.nil ?_
      refine Ex.next ?_
      refine W.slots (L' := [(2, _)]) ⟨rfl, trivial⟩ ?_
      refine W.ret ?_
      refine Ex.then_ret ?_
      refine Ex.out1 [] rfl rfl ?_
      exact ⟨congrArg (Value.int .i64) (chkE_no (f := ⟨2, a, l, rs, bs, tok⟩) fun (h : mayN 2 a l bs.length rs.length (risN rs (a + 1) 4611686018427387903) (risN rs 0 a) (tokN tok)) => by unfold mayN at h; omega).symm, rfl⟩
    replace hb9 := of_decide_eq_false hb9
    refine W.skip ?_
    refine Ex.next ?_
    refine W.slots (L' := [(1, _), (4, _)]) ⟨rfl, rfl, trivial⟩ ?_
    refine W.seq ?_
    refine W.seq ?_
    refine W.region ?_
    refine T.q (q_move rfl rfl) (Wt.plain rfl) rfl rfl ?_
    refine T.q (q_not rfl rfl) (Wt.plain rfl) rfl rfl ?_
    refine T.q (q_move rfl rfl) (Wt.plain rfl) rfl rfl ?_
    refine T.no (Wn.no rfl rfl rfl rfl) rfl rfl ?_
    refine T.no (Wn.no rfl rfl rfl rfl) rfl rfl ?_
    refine T.no (Wn.no rfl rfl rfl rfl) rfl rfl ?_
    refine T.no (Wn.no rfl rfl rfl rfl) rfl rfl ?_
    refine T.q (q_pickT rfl rfl rfl) (Wt.plain rfl) rfl rfl ?_
    refine T.nil ?_
    refine Ex.next ?_
    refine W.less (L' := [(136, _)]) [false] ⟨rfl, trivial⟩ ?_
    change (_ : List Blk → Prop) []
    refine W.condT rfl ?_
    refine W.seq ?_
    refine W.region ?_
    refine T.q (q_assign rfl rfl) (Wt.plain rfl) rfl rfl ?_
    refine T.nil ?_
    refine Ex.next ?_
    refine W.slots (L' := [(2, _)]) ⟨rfl, trivial⟩ ?_
    refine W.ret ?_
    refine Ex.then_ret ?_
    refine Ex.out1 [] rfl rfl ?_
    exact ⟨congrArg (Value.int .i64) (chkE_no (f := ⟨2, a, l, rs, bs, tok⟩) fun (h : mayN 2 a l bs.length rs.length (risN rs (a + 1) 4611686018427387903) (risN rs 0 a) (tokN tok)) => by unfold mayN at h; omega).symm, rfl⟩
  replace hb2 := of_decide_eq_false hb2
  refine T.no (Wn.no rfl rfl rfl rfl) rfl rfl ?_
  refine T.no (Wn.no rfl rfl rfl rfl) rfl rfl ?_
  refine T.no (Wn.no rfl rfl rfl rfl) rfl rfl ?_
  refine T.q (q_pickF rfl rfl rfl) (Wt.plain rfl) rfl rfl ?_
  refine T.q (q_move rfl rfl) (Wt.plain rfl) rfl rfl ?_
  refine T.no (Wn.no rfl rfl rfl rfl) rfl rfl ?_
  refine T.no (Wn.no rfl rfl rfl rfl) rfl rfl ?_
  refine T.no (Wn.no rfl rfl rfl rfl) rfl rfl ?_
  refine T.no (Wn.no rfl rfl rfl rfl) rfl rfl ?_
  refine T.no (Wn.no rfl rfl rfl rfl) rfl rfl ?_
  refine T.q (q_pickF rfl rfl rfl) (Wt.plain rfl) rfl rfl ?_
  refine T.q (q_assign rfl rfl) (Wt.plain rfl) rfl rfl ?_
  refine T.nil ?_
  refine Ex.in_normal ?_
  refine Ex.next ?_
  refine W.slots (L' := [(1, _), (3, _), (4, _)]) ⟨rfl, rfl, rfl, trivial⟩ ?_
  refine W.seq ?_
  refine W.seq ?_
  refine W.region ?_
  refine T.q (q_fld fl59_0 rfl rfl) (Wt.plain rfl) rfl rfl ?_
  refine T.q (q_load1 ss3 0 rfl rfl rfl (rfl)) (Wt.plain rfl) rfl rfl ?_
  refine T.q (q_bool (b := true) (q_neq rfl rfl rfl) (decide_eq_true (by decide))) (Wt.plain rfl) rfl rfl ?_
  refine T.q (q_move rfl rfl) (Wt.plain rfl) rfl rfl ?_
  refine T.q (q_fld fl59_4 rfl rfl) (Wt.yes rfl rfl rfl) rfl rfl ?_
  refine T.q (q_load1 ss22 0 rfl rfl rfl (cell_skip1 (cell_skip1 (cell_skip1 (cell_skip1 (rfl)))))) (Wt.yes rfl rfl rfl) rfl rfl ?_
  refine T.q (q_len sc22 rfl rfl) (Wt.yes rfl rfl rfl) rfl rfl ?_
  refine T.q (q_gtr rfl rfl rfl) (Wt.yes rfl rfl rfl) rfl rfl ?_
  refine T.q (q_pickT rfl rfl rfl) (Wt.plain rfl) rfl rfl ?_
  refine T.q (q_move rfl rfl) (Wt.plain rfl) rfl rfl ?_
  refine T.both (t := 88) _ rfl (fun hb10 => ?_) (fun hb10 => ?_)
  · replace hb10 := of_decide_eq_true hb10
    refine T.no (Wn.no rfl rfl rfl rfl) rfl rfl ?_
    refine T.no (Wn.no rfl rfl rfl rfl) rfl rfl ?_
    refine T.no (Wn.no rfl rfl rfl rfl) rfl rfl ?_
    refine T.no (Wn.no rfl rfl rfl rfl) rfl rfl ?_
    refine T.no (Wn.none rfl rfl rfl) rfl rfl ?_
    refine T.no (Wn.none rfl rfl rfl) rfl rfl ?_
    refine T.no (Wn.none rfl rfl rfl) rfl rfl ?_
    refine T.no (Wn.no rfl rfl rfl rfl) rfl rfl ?_
    refine T.no (Wn.no rfl rfl rfl rfl) rfl rfl ?_
    refine T.no (Wn.none rfl rfl rfl) rfl rfl ?_
    refine T.no (Wn.none rfl rfl rfl) rfl rfl ?_
    refine T.no (Wn.none rfl rfl rfl) rfl rfl ?_
    refine T.no (Wn.no rfl rfl rfl rfl) rfl rfl ?_
    refine T.q (q_pickT rfl rfl rfl) (Wt.plain rfl) rfl rfl ?_
    refine T.q (q_move rfl rfl) (Wt.plain rfl) rfl rfl ?_
    refine T.no (Wn.no rfl rfl rfl rfl) rfl rfl ?_
    refine T.no (Wn.no rfl rfl rfl rfl) rfl rfl ?_
    refine T.no (Wn.no rfl rfl rfl rfl) rfl rfl ?_
    refine T.no (Wn.no rfl rfl rfl rfl) rfl rfl ?_
    refine T.no (Wn.none rfl rfl rfl) rfl rfl ?_
    refine T.no (Wn.none rfl rfl rfl) rfl rfl ?_
    refine T.no (Wn.none rfl rfl rfl) rfl rfl ?_
    refine T.no (Wn.no rfl rfl rfl rfl) rfl rfl ?_
    refine T.no (Wn.no rfl rfl rfl rfl) rfl rfl ?_
    refine T.no (Wn.none rfl rfl rfl) rfl rfl ?_
    refine T.no (Wn.none rfl rfl rfl) rfl rfl ?_
    refine T.no (Wn.none rfl rfl rfl) rfl rfl ?_
    refine T.no (Wn.none rfl rfl rfl) rfl rfl ?_
    refine T.no (Wn.no rfl rfl rfl rfl) rfl rfl ?_
    refine T.q (q_pickT rfl rfl rfl) (Wt.plain rfl) rfl rfl ?_
    refine T.q (q_move rfl rfl) (Wt.plain rfl) rfl rfl ?_
    refine T.no (Wn.no rfl rfl rfl rfl) rfl rfl ?_
    refine T.no (Wn.no rfl rfl rfl rfl) rfl rfl ?_
    refine T.no (Wn.no rfl rfl rfl rfl) rfl rfl ?_
    refine T.no (Wn.none rfl rfl rfl) rfl rfl ?_
    refine T.no (Wn.none rfl rfl rfl) rfl rfl ?_
    refine T.no (Wn.none rfl rfl rfl) rfl rfl ?_
    refine T.no (Wn.none rfl rfl rfl) rfl rfl ?_
    refine T.no (Wn.no rfl rfl rfl rfl) rfl rfl ?_
    refine T.q (q_pickT rfl rfl rfl) (Wt.plain rfl) rfl rfl ?_
    refine T.nil ?_
    refine Ex.next ?_
    refine W.slots (L' := [(1, _), (4, _), (128, _)]) ⟨rfl, rfl, rfl, trivial⟩ ?_
    refine W.condT rfl ?_
    refine W.region ?_
    refine T.q (q_assign rfl rfl) (Wt.plain rfl) rfl rfl ?_
    refine T.nil ?_
    refine Ex.next ?_
    refine W.slots (L' := [(1, _), (4, _)]) ⟨rfl, rfl, trivial⟩ ?_
    refine W.seq ?_
    refine W.seq ?_
    refine W.region ?_
    refine T.q (q_move rfl rfl) (Wt.plain rfl) rfl rfl ?_
    refine T.q (q_not rfl rfl) (Wt.plain rfl) rfl rfl ?_
    refine T.q (q_move rfl rfl) (Wt.plain rfl) rfl rfl ?_
    refine T.no (Wn.no rfl rfl rfl rfl) rfl rfl ?_
    refine T.no (Wn.no rfl rfl rfl rfl) rfl rfl ?_
    refine T.no (Wn.no rfl rfl rfl rfl) rfl rfl ?_
    refine T.no (Wn.no rfl rfl rfl rfl) rfl rfl ?_
    refine T.q (q_pickT rfl rfl rfl) (Wt.plain rfl) rfl rfl ?_
    refine T.nil ?_
    refine Ex.next ?_
    refine W.less (L' := [(136, _)]) [false] ⟨rfl, trivial⟩ ?_
    change (_ : List Blk → Prop) []
    refine W.condT rfl ?_
    refine W.seq ?_
    refine W.region ?_
    refine T.q (q_assign rfl rfl) (Wt.plain rfl) rfl rfl ?_
    refine T.nil ?_
    refine Ex.next ?_
    refine W.slots (L' := [(2, _)]) ⟨rfl, trivial⟩ ?_
    refine W.ret ?_
    refine Ex.then_ret ?_
    refine Ex.out1 [] rfl rfl ?_
    exact ⟨congrArg (Value.int .i64) (chkE_no (f := ⟨2, a, l, rs, bs, tok⟩) fun (h : mayN 2 a l bs.length rs.length (risN rs (a + 1) 4611686018427387903) (risN rs 0 a) (tokN tok)) => by unfold mayN at h; omega).symm, rfl⟩
  replace hb10 := of_decide_eq_false hb10
  refine T.q (q_fld fl59_0 rfl rfl) (Wt.yes rfl rfl rfl) rfl rfl ?_
  refine T.q (q_load1 ss3 0 rfl rfl rfl (rfl)) (Wt.yes rfl rfl rfl) rfl rfl ?_
  refine T.q (q_bool (b := false) (q_neq rfl rfl rfl) (decide_eq_false (by decide))) (Wt.yes rfl rfl rfl) rfl rfl ?_
  refine T.q (q_move rfl rfl) (Wt.yes rfl rfl rfl) rfl rfl ?_
  refine T.no (Wn.no rfl rfl rfl rfl) rfl rfl ?_
  refine T.no (Wn.no rfl rfl rfl rfl) rfl rfl ?_
  refine T.no (Wn.no rfl rfl rfl rfl) rfl rfl ?_
  refine T.q (q_pickF rfl rfl rfl) (Wt.yes rfl rfl rfl) rfl rfl ?_
  refine T.q (q_move rfl rfl) (Wt.yes rfl rfl rfl) rfl rfl ?_
  refine T.no (Wn.no rfl rfl rfl rfl) rfl rfl ?_
  refine T.no (Wn.no rfl rfl rfl rfl) rfl rfl ?_
  refine T.no (Wn.no rfl rfl rfl rfl) rfl rfl ?_
  refine T.q (q_pickF rfl rfl rfl) (Wt.yes rfl rfl rfl) rfl rfl ?_
  refine T.q (q_pickF rfl rfl rfl) (Wt.plain rfl) rfl rfl ?_
  refine T.q (q_move rfl rfl) (Wt.plain rfl) rfl rfl ?_
  refine T.q (q_fld fl59_0 rfl rfl) (Wt.yes rfl rfl rfl) rfl rfl ?_
  refine T.q (q_load1 ss3 0 rfl rfl rfl (rfl)) (Wt.yes rfl rfl rfl) rfl rfl ?_
  refine T.q (q_bool (b := false) (q_neq rfl rfl rfl) (decide_eq_false (by decide))) (Wt.yes rfl rfl rfl) rfl rfl ?_
  refine T.q (q_move rfl rfl) (Wt.yes rfl rfl rfl) rfl rfl ?_
  refine T.no (Wn.no rfl rfl rfl rfl) rfl rfl ?_
  refine T.no (Wn.no rfl rfl rfl rfl) rfl rfl ?_
  refine T.no (Wn.no rfl rfl rfl rfl) rfl rfl ?_
  refine T.q (q_pickF rfl rfl rfl) (Wt.yes rfl rfl rfl) rfl rfl ?_
  refine T.q (q_move rfl rfl) (Wt.yes rfl rfl rfl) rfl rfl ?_
  refine T.no (Wn.no rfl rfl rfl rfl) rfl rfl ?_
  refine T.no (Wn.no rfl rfl rfl rfl) rfl rfl ?_
  refine T.no (Wn.no rfl rfl rfl rfl) rfl rfl ?_
  refine T.no (Wn.no rfl rfl rfl rfl) rfl rfl ?_
  refine T.q (q_pickF rfl rfl rfl) (Wt.yes rfl rfl rfl) rfl rfl ?_
  refine T.q (q_pickF rfl rfl rfl) (Wt.plain rfl) rfl rfl ?_
  refine T.q (q_move rfl rfl) (Wt.plain rfl) rfl rfl ?_
  refine T.q (q_move rfl rfl) (Wt.yes rfl rfl rfl) rfl rfl ?_
  refine T.q (q_not rfl rfl) (Wt.yes rfl rfl rfl) rfl rfl ?_
  refine T.q (q_move rfl rfl) (Wt.yes rfl rfl rfl) rfl rfl ?_
  refine T.q (q_fld fl59_5 rfl rfl) (Wt.yes rfl rfl rfl) rfl rfl ?_
  refine T.q (q_loadW (wide_ints wd57 (by first | omega | (simp; done) | (simp [-List.getD_eq_getElem?_getD]; omega) | (simp at *; omega) | rfl)) (R_at 0 5 8 rfl (part_skip1 (part_skip1 (part_skip1 (part_skip1 (part_skip1 (part_last (by first | omega | (simp; done) | (simp [-List.getD_eq_getElem?_getD]; omega) | (simp at *; omega) | rfl)))))))) rfl rfl) (Wt.yes rfl rfl rfl) rfl rfl ?_
  refine T.q (q_build (v := .agg (ints .u8 (List.replicate 8 0)).toArray) rfl rfl (fun _ => by kernel_rfl)) (Wt.yes rfl rfl rfl) rfl rfl ?_
  refine T.q (q_bool (b := decide (tokN tok ≠ 1)) (q_neqA ar57 ss5 un5 eg57 rfl rfl rfl (by first | omega | (simp; done) | (simp [-List.getD_eq_getElem?_getD]; omega) | (simp at *; omega) | rfl) (by first | omega | (simp; done) | (simp [-List.getD_eq_getElem?_getD]; omega) | (simp at *; omega) | rfl)) ?hE) (Wt.yes rfl rfl rfl) rfl rfl ?_
  case hE => exact tok_neq
  refine T.q (q_pickT rfl rfl rfl) (Wt.yes rfl rfl rfl) rfl rfl ?_
  refine T.q (q_pickF rfl rfl rfl) (Wt.plain rfl) rfl rfl ?_
  refine T.nil ?_
  refine Ex.next ?_
  refine W.slots (L' := [(1, _), (4, _), (128, _)]) ⟨rfl, rfl, rfl, trivial⟩ ?_
  refine W.cond _ rfl (fun hb11 => ?_) (fun hb11 => ?_)
  · replace hb11 := of_decide_eq_true hb11
    refine W.region ?_
    refine T.q (q_assign rfl rfl) (Wt.plain rfl) rfl rfl ?_
    refine T.nil ?_
    refine Ex.next ?_
    refine W.slots (L' := [(1, _), (4, _)]) ⟨rfl, rfl, trivial⟩ ?_
    refine W.seq ?_
    refine W.seq ?_
    refine W.region ?_
    refine T.q (q_move rfl rfl) (Wt.plain rfl) rfl rfl ?_
    refine T.q (q_not rfl rfl) (Wt.plain rfl) rfl rfl ?_
    refine T.q (q_move rfl rfl) (Wt.plain rfl) rfl rfl ?_
    refine T.no (Wn.no rfl rfl rfl rfl) rfl rfl ?_
    refine T.no (Wn.no rfl rfl rfl rfl) rfl rfl ?_
    refine T.no (Wn.no rfl rfl rfl rfl) rfl rfl ?_
    refine T.no (Wn.no rfl rfl rfl rfl) rfl rfl ?_
    refine T.q (q_pickT rfl rfl rfl) (Wt.plain rfl) rfl rfl ?_
    refine T.nil ?_
    refine Ex.next ?_
    refine W.less (L' := [(136, _)]) [false] ⟨rfl, trivial⟩ ?_
    change (_ : List Blk → Prop) []
    refine W.condT rfl ?_
    refine W.seq ?_
    refine W.region ?_
    refine T.q (q_assign rfl rfl) (Wt.plain rfl) rfl rfl ?_
    refine T.nil ?_
    refine Ex.next ?_
    refine W.slots (L' := [(2, _)]) ⟨rfl, trivial⟩ ?_
    refine W.ret ?_
    refine Ex.then_ret ?_
    refine Ex.out1 [] rfl rfl ?_
    exact ⟨congrArg (Value.int .i64) (chkE_no (f := ⟨2, a, l, rs, bs, tok⟩) fun (h : mayN 2 a l bs.length rs.length (risN rs (a + 1) 4611686018427387903) (risN rs 0 a) (tokN tok)) => by unfold mayN at h; omega).symm, rfl⟩
  replace hb11 := of_decide_eq_false hb11
  refine W.skip ?_
  refine Ex.next ?_
  refine W.slots (L' := [(1, _), (4, _)]) ⟨rfl, rfl, trivial⟩ ?_
  refine W.seq ?_
  refine W.seq ?_
  refine W.region ?_
  refine T.q (q_move rfl rfl) (Wt.plain rfl) rfl rfl ?_
  refine T.q (q_not rfl rfl) (Wt.plain rfl) rfl rfl ?_
  refine T.q (q_move rfl rfl) (Wt.plain rfl) rfl rfl ?_
  refine T.no (Wn.no rfl rfl rfl rfl) rfl rfl ?_
  refine T.no (Wn.no rfl rfl rfl rfl) rfl rfl ?_
  refine T.no (Wn.no rfl rfl rfl rfl) rfl rfl ?_
  refine T.no (Wn.no rfl rfl rfl rfl) rfl rfl ?_
  refine T.q (q_pickT rfl rfl rfl) (Wt.plain rfl) rfl rfl ?_
  refine T.nil ?_
  refine Ex.next ?_
  refine W.less (L' := [(136, _)]) [false] ⟨rfl, trivial⟩ ?_
  change (_ : List Blk → Prop) []
  refine W.condT rfl ?_
  refine W.seq ?_
  refine W.region ?_
  refine T.q (q_assign rfl rfl) (Wt.plain rfl) rfl rfl ?_
  refine T.nil ?_
  refine Ex.next ?_
  refine W.slots (L' := [(2, _)]) ⟨rfl, trivial⟩ ?_
  refine W.ret ?_
  refine Ex.then_ret ?_
  refine Ex.out1 [] rfl rfl ?_
  exact ⟨congrArg (Value.int .i64) (chkE_no (f := ⟨2, a, l, rs, bs, tok⟩) fun (h : mayN 2 a l bs.length rs.length (risN rs (a + 1) 4611686018427387903) (risN rs 0 a) (tokN tok)) => by unfold mayN at h; omega).symm, rfl⟩
set_option maxRecDepth 100000 in
theorem refchk_3 (a l : Int) (rs : List (Int × Int)) (bs tok : List Int) (RA BA : Option Addr) (rc bc : Nat) (_hrl : rs.length ≤ 9223372036854775807) (_htok : tok.length = 8) (w0 : World) (_hR : Reads w0 RA (ints .i64 (flat rs))) : Does Try.prog 48 #[.agg (.int .i64 3 :: (.int .i64 a :: (.int .i64 l :: (.slice RA rs.length rc :: (.slice BA bs.length bc :: (ints .u8 tok)))))).toArray] w0 [] (fun v G => v = .int .i64 (chkE ⟨3, a, l, rs, bs, tok⟩) ∧ G = []) := by
  refine spec_of 137 Try.func48 rfl rfl rfl ?_
  refine W.seq ?_
  refine W.region ?_
  refine T.eff (e_box rfl rfl rfl rfl) (Wt.plain rfl) ?_
  rintro _ _ ⟨k1, rfl, rfl⟩
  change (_ : List Blk → Prop) [_]
  change (_ : List Blk → Prop) [⟨some k1, .int .i64 3 :: (.int .i64 a :: (.int .i64 l :: (.slice RA rs.length rc :: (.slice BA bs.length bc :: (ints .u8 tok))))), 59, (0, 0)⟩]
  refine T.q (q_assign rfl rfl) (Wt.plain rfl) rfl rfl ?_
  refine T.nil ?_
  refine Ex.next ?_
  refine W.slots (L' := [(1, _)]) ⟨rfl, trivial⟩ ?_
  refine W.seq ?_
  refine W.region ?_
  refine T.q (q_fld fl59_0 rfl rfl) (Wt.plain rfl) rfl rfl ?_
  refine T.q (q_load1 ss3 0 rfl rfl rfl (rfl)) (Wt.plain rfl) rfl rfl ?_
  refine T.q (q_bool (b := true) (q_eql rfl rfl rfl) (decide_eq_true (by decide))) (Wt.plain rfl) rfl rfl ?_
  refine T.q (q_move rfl rfl) (Wt.plain rfl) rfl rfl ?_
  refine T.no (Wn.no rfl rfl rfl rfl) rfl rfl ?_
  refine T.no (Wn.no rfl rfl rfl rfl) rfl rfl ?_
  refine T.no (Wn.no rfl rfl rfl rfl) rfl rfl ?_
  refine T.q (q_pickT rfl rfl rfl) (Wt.plain rfl) rfl rfl ?_
  refine T.q (q_assign rfl rfl) (Wt.plain rfl) rfl rfl ?_
  refine T.nil ?_
  refine Ex.next ?_
  refine W.slots (L' := [(1, _), (3, _)]) ⟨rfl, rfl, trivial⟩ ?_
  refine W.seq ?_
  refine W.region ?_
  refine T.q (q_assign rfl rfl) (Wt.plain rfl) rfl rfl ?_
  refine T.nil ?_
  refine Ex.next ?_
  refine W.slots (L' := [(1, _), (3, _), (4, _)]) ⟨rfl, rfl, rfl, trivial⟩ ?_
  refine W.seq ?_
  refine W.seq ?_
  refine W.region ?_
  refine T.q (q_fld fl59_0 rfl rfl) (Wt.plain rfl) rfl rfl ?_
  refine T.q (q_load1 ss3 0 rfl rfl rfl (rfl)) (Wt.plain rfl) rfl rfl ?_
  refine T.nil ?_
  refine Ex.next ?_
  refine W.slots (L' := [(1, _), (3, _), (4, _), (14, _)]) ⟨rfl, rfl, rfl, rfl, trivial⟩ ?_
  refine W.block ?_
  refine W.seq ?_
  refine W.region ?_
  refine T.q (q_bool (b := false) (q_eql rfl rfl rfl) (decide_eq_false (by decide))) (Wt.plain rfl) rfl rfl ?_
  refine T.q (q_assign rfl rfl) (Wt.plain rfl) rfl rfl ?_
  refine T.nil ?_
  refine Ex.next ?_
  refine W.slots (L' := [(1, _), (3, _), (4, _), (14, _), (15, _)]) ⟨rfl, rfl, rfl, rfl, rfl, trivial⟩ ?_
  refine W.condF rfl ?_
  refine W.seq ?_
  refine W.region ?_
  refine T.q (q_bool (b := false) (q_eql rfl rfl rfl) (decide_eq_false (by decide))) (Wt.plain rfl) rfl rfl ?_
  refine T.q (q_assign rfl rfl) (Wt.plain rfl) rfl rfl ?_
  refine T.nil ?_
  refine Ex.next ?_
  refine W.slots (L' := [(1, _), (3, _), (4, _), (14, _), (27, _)]) ⟨rfl, rfl, rfl, rfl, rfl, trivial⟩ ?_
  refine W.condF rfl ?_
  refine W.seq ?_
  refine W.seq ?_
  refine W.region ?_
  refine T.q (q_bool (b := true) (q_eql rfl rfl rfl) (decide_eq_true (by decide))) (Wt.plain rfl) rfl rfl ?_
  refine T.q (q_assign rfl rfl) (Wt.plain rfl) rfl rfl ?_
  refine T.nil ?_
  refine Ex.next ?_
  refine W.slots (L' := [(1, _), (3, _), (4, _), (14, _), (44, _)]) ⟨rfl, rfl, rfl, rfl, rfl, trivial⟩ ?_
  refine W.condT rfl ?_
  refine W.skip ?_
  refine Ex.next ?_
  refine W.slots (L' := [(1, _), (3, _), (4, _), (14, _), (44, _)]) ⟨rfl, rfl, rfl, rfl, rfl, trivial⟩ ?_
  refine W.condT rfl ?_
  refine W.region ?_
  refine T.q (q_fld fl59_1 rfl rfl) (Wt.plain rfl) rfl rfl ?_
  refine T.q (q_load1 ss3 0 rfl rfl rfl (cell_skip1 (rfl))) (Wt.plain rfl) rfl rfl ?_
  refine T.q (q_eql rfl rfl rfl) (Wt.plain rfl) rfl rfl ?_
  refine T.q (q_assign rfl rfl) (Wt.plain rfl) rfl rfl ?_
  refine T.nil ?_
  refine Ex.in_normal ?_
  refine Ex.next ?_
  refine W.slots (L' := [(1, _), (3, _), (4, _)]) ⟨rfl, rfl, rfl, trivial⟩ ?_
  refine W.seq ?_
  refine W.seq ?_
  refine W.region ?_
  refine T.q (q_fld fl59_0 rfl rfl) (Wt.plain rfl) rfl rfl ?_
  refine T.q (q_load1 ss3 0 rfl rfl rfl (rfl)) (Wt.plain rfl) rfl rfl ?_
  refine T.q (q_bool (b := true) (q_neq rfl rfl rfl) (decide_eq_true (by decide))) (Wt.plain rfl) rfl rfl ?_
  refine T.q (q_move rfl rfl) (Wt.plain rfl) rfl rfl ?_
  refine T.q (q_fld fl59_4 rfl rfl) (Wt.yes rfl rfl rfl) rfl rfl ?_
  refine T.q (q_load1 ss22 0 rfl rfl rfl (cell_skip1 (cell_skip1 (cell_skip1 (cell_skip1 (rfl)))))) (Wt.yes rfl rfl rfl) rfl rfl ?_
  refine T.q (q_len sc22 rfl rfl) (Wt.yes rfl rfl rfl) rfl rfl ?_
  refine T.q (q_gtr rfl rfl rfl) (Wt.yes rfl rfl rfl) rfl rfl ?_
  refine T.q (q_pickT rfl rfl rfl) (Wt.plain rfl) rfl rfl ?_
  refine T.q (q_move rfl rfl) (Wt.plain rfl) rfl rfl ?_
  refine T.both (t := 88) _ rfl (fun hb2 => ?_) (fun hb2 => ?_)
  · replace hb2 := of_decide_eq_true hb2
    refine T.no (Wn.no rfl rfl rfl rfl) rfl rfl ?_
    refine T.no (Wn.no rfl rfl rfl rfl) rfl rfl ?_
    refine T.no (Wn.no rfl rfl rfl rfl) rfl rfl ?_
    refine T.no (Wn.no rfl rfl rfl rfl) rfl rfl ?_
    refine T.no (Wn.none rfl rfl rfl) rfl rfl ?_
    refine T.no (Wn.none rfl rfl rfl) rfl rfl ?_
    refine T.no (Wn.none rfl rfl rfl) rfl rfl ?_
    refine T.no (Wn.no rfl rfl rfl rfl) rfl rfl ?_
    refine T.no (Wn.no rfl rfl rfl rfl) rfl rfl ?_
    refine T.no (Wn.none rfl rfl rfl) rfl rfl ?_
    refine T.no (Wn.none rfl rfl rfl) rfl rfl ?_
    refine T.no (Wn.none rfl rfl rfl) rfl rfl ?_
    refine T.no (Wn.no rfl rfl rfl rfl) rfl rfl ?_
    refine T.q (q_pickT rfl rfl rfl) (Wt.plain rfl) rfl rfl ?_
    refine T.q (q_move rfl rfl) (Wt.plain rfl) rfl rfl ?_
    refine T.no (Wn.no rfl rfl rfl rfl) rfl rfl ?_
    refine T.no (Wn.no rfl rfl rfl rfl) rfl rfl ?_
    refine T.no (Wn.no rfl rfl rfl rfl) rfl rfl ?_
    refine T.no (Wn.no rfl rfl rfl rfl) rfl rfl ?_
    refine T.no (Wn.none rfl rfl rfl) rfl rfl ?_
    refine T.no (Wn.none rfl rfl rfl) rfl rfl ?_
    refine T.no (Wn.none rfl rfl rfl) rfl rfl ?_
    refine T.no (Wn.no rfl rfl rfl rfl) rfl rfl ?_
    refine T.no (Wn.no rfl rfl rfl rfl) rfl rfl ?_
    refine T.no (Wn.none rfl rfl rfl) rfl rfl ?_
    refine T.no (Wn.none rfl rfl rfl) rfl rfl ?_
    refine T.no (Wn.none rfl rfl rfl) rfl rfl ?_
    refine T.no (Wn.none rfl rfl rfl) rfl rfl ?_
    refine T.no (Wn.no rfl rfl rfl rfl) rfl rfl ?_
    refine T.q (q_pickT rfl rfl rfl) (Wt.plain rfl) rfl rfl ?_
    refine T.q (q_move rfl rfl) (Wt.plain rfl) rfl rfl ?_
    refine T.no (Wn.no rfl rfl rfl rfl) rfl rfl ?_
    refine T.no (Wn.no rfl rfl rfl rfl) rfl rfl ?_
    refine T.no (Wn.no rfl rfl rfl rfl) rfl rfl ?_
    refine T.no (Wn.none rfl rfl rfl) rfl rfl ?_
    refine T.no (Wn.none rfl rfl rfl) rfl rfl ?_
    refine T.no (Wn.none rfl rfl rfl) rfl rfl ?_
    refine T.no (Wn.none rfl rfl rfl) rfl rfl ?_
    refine T.no (Wn.no rfl rfl rfl rfl) rfl rfl ?_
    refine T.q (q_pickT rfl rfl rfl) (Wt.plain rfl) rfl rfl ?_
    refine T.nil ?_
    refine Ex.next ?_
    refine W.slots (L' := [(1, _), (4, _), (128, _)]) ⟨rfl, rfl, rfl, trivial⟩ ?_
    refine W.condT rfl ?_
    refine W.region ?_
    refine T.q (q_assign rfl rfl) (Wt.plain rfl) rfl rfl ?_
    refine T.nil ?_
    refine Ex.next ?_
    refine W.slots (L' := [(1, _), (4, _)]) ⟨rfl, rfl, trivial⟩ ?_
    refine W.seq ?_
    refine W.seq ?_
    refine W.region ?_
    refine T.q (q_move rfl rfl) (Wt.plain rfl) rfl rfl ?_
    refine T.q (q_not rfl rfl) (Wt.plain rfl) rfl rfl ?_
    refine T.q (q_move rfl rfl) (Wt.plain rfl) rfl rfl ?_
    refine T.no (Wn.no rfl rfl rfl rfl) rfl rfl ?_
    refine T.no (Wn.no rfl rfl rfl rfl) rfl rfl ?_
    refine T.no (Wn.no rfl rfl rfl rfl) rfl rfl ?_
    refine T.no (Wn.no rfl rfl rfl rfl) rfl rfl ?_
    refine T.q (q_pickT rfl rfl rfl) (Wt.plain rfl) rfl rfl ?_
    refine T.nil ?_
    refine Ex.next ?_
    refine W.less (L' := [(136, _)]) [false] ⟨rfl, trivial⟩ ?_
    change (_ : List Blk → Prop) []
    refine W.condT rfl ?_
    refine W.seq ?_
    refine W.region ?_
    refine T.q (q_assign rfl rfl) (Wt.plain rfl) rfl rfl ?_
    refine T.nil ?_
    refine Ex.next ?_
    refine W.slots (L' := [(2, _)]) ⟨rfl, trivial⟩ ?_
    refine W.ret ?_
    refine Ex.then_ret ?_
    refine Ex.out1 [] rfl rfl ?_
    exact ⟨congrArg (Value.int .i64) (chkE_no (f := ⟨3, a, l, rs, bs, tok⟩) fun (h : mayN 3 a l bs.length rs.length (risN rs (a + 1) 4611686018427387903) (risN rs 0 a) (tokN tok)) => by unfold mayN at h; omega).symm, rfl⟩
  replace hb2 := of_decide_eq_false hb2
  refine T.q (q_fld fl59_0 rfl rfl) (Wt.yes rfl rfl rfl) rfl rfl ?_
  refine T.q (q_load1 ss3 0 rfl rfl rfl (rfl)) (Wt.yes rfl rfl rfl) rfl rfl ?_
  refine T.q (q_bool (b := true) (q_neq rfl rfl rfl) (decide_eq_true (by decide))) (Wt.yes rfl rfl rfl) rfl rfl ?_
  refine T.q (q_move rfl rfl) (Wt.yes rfl rfl rfl) rfl rfl ?_
  refine T.q (q_fld fl59_0 rfl rfl) (Wt.yes rfl rfl rfl) rfl rfl ?_
  refine T.q (q_load1 ss3 0 rfl rfl rfl (rfl)) (Wt.yes rfl rfl rfl) rfl rfl ?_
  refine T.q (q_bool (b := true) (q_neq rfl rfl rfl) (decide_eq_true (by decide))) (Wt.yes rfl rfl rfl) rfl rfl ?_
  refine T.q (q_pickT rfl rfl rfl) (Wt.yes rfl rfl rfl) rfl rfl ?_
  refine T.q (q_move rfl rfl) (Wt.yes rfl rfl rfl) rfl rfl ?_
  refine T.q (q_fld fl59_2 rfl rfl) (Wt.yes rfl rfl rfl) rfl rfl ?_
  refine T.q (q_load1 ss3 0 rfl rfl rfl (cell_skip1 (cell_skip1 (rfl)))) (Wt.yes rfl rfl rfl) rfl rfl ?_
  refine T.q (q_neq rfl rfl rfl) (Wt.yes rfl rfl rfl) rfl rfl ?_
  refine T.q (q_pickT rfl rfl rfl) (Wt.yes rfl rfl rfl) rfl rfl ?_
  refine T.q (q_pickF rfl rfl rfl) (Wt.plain rfl) rfl rfl ?_
  refine T.q (q_move rfl rfl) (Wt.plain rfl) rfl rfl ?_
  refine T.both (t := 103) _ rfl (fun hb3 => ?_) (fun hb3 => ?_)
  · replace hb3 := of_decide_eq_true hb3
    refine T.no (Wn.no rfl rfl rfl rfl) rfl rfl ?_
    refine T.no (Wn.no rfl rfl rfl rfl) rfl rfl ?_
    refine T.no (Wn.no rfl rfl rfl rfl) rfl rfl ?_
    refine T.no (Wn.no rfl rfl rfl rfl) rfl rfl ?_
    refine T.no (Wn.none rfl rfl rfl) rfl rfl ?_
    refine T.no (Wn.none rfl rfl rfl) rfl rfl ?_
    refine T.no (Wn.none rfl rfl rfl) rfl rfl ?_
    refine T.no (Wn.no rfl rfl rfl rfl) rfl rfl ?_
    refine T.no (Wn.no rfl rfl rfl rfl) rfl rfl ?_
    refine T.no (Wn.none rfl rfl rfl) rfl rfl ?_
    refine T.no (Wn.none rfl rfl rfl) rfl rfl ?_
    refine T.no (Wn.none rfl rfl rfl) rfl rfl ?_
    refine T.no (Wn.none rfl rfl rfl) rfl rfl ?_
    refine T.no (Wn.no rfl rfl rfl rfl) rfl rfl ?_
    refine T.q (q_pickT rfl rfl rfl) (Wt.plain rfl) rfl rfl ?_
    refine T.q (q_move rfl rfl) (Wt.plain rfl) rfl rfl ?_
    refine T.no (Wn.no rfl rfl rfl rfl) rfl rfl ?_
    refine T.no (Wn.no rfl rfl rfl rfl) rfl rfl ?_
    refine T.no (Wn.no rfl rfl rfl rfl) rfl rfl ?_
    refine T.no (Wn.none rfl rfl rfl) rfl rfl ?_
    refine T.no (Wn.none rfl rfl rfl) rfl rfl ?_
    refine T.no (Wn.none rfl rfl rfl) rfl rfl ?_
    refine T.no (Wn.none rfl rfl rfl) rfl rfl ?_
    refine T.no (Wn.no rfl rfl rfl rfl) rfl rfl ?_
    refine T.q (q_pickT rfl rfl rfl) (Wt.plain rfl) rfl rfl ?_
    refine T.nil ?_
    refine Ex.next ?_
    refine W.slots (L' := [(1, _), (4, _), (128, _)]) ⟨rfl, rfl, rfl, trivial⟩ ?_
    refine W.condT rfl ?_
    refine W.region ?_
    refine T.q (q_assign rfl rfl) (Wt.plain rfl) rfl rfl ?_
    refine T.nil ?_
    refine Ex.next ?_
    refine W.slots (L' := [(1, _), (4, _)]) ⟨rfl, rfl, trivial⟩ ?_
    refine W.seq ?_
    refine W.seq ?_
    refine W.region ?_
    refine T.q (q_move rfl rfl) (Wt.plain rfl) rfl rfl ?_
    refine T.q (q_not rfl rfl) (Wt.plain rfl) rfl rfl ?_
    refine T.q (q_move rfl rfl) (Wt.plain rfl) rfl rfl ?_
    refine T.no (Wn.no rfl rfl rfl rfl) rfl rfl ?_
    refine T.no (Wn.no rfl rfl rfl rfl) rfl rfl ?_
    refine T.no (Wn.no rfl rfl rfl rfl) rfl rfl ?_
    refine T.no (Wn.no rfl rfl rfl rfl) rfl rfl ?_
    refine T.q (q_pickT rfl rfl rfl) (Wt.plain rfl) rfl rfl ?_
    refine T.nil ?_
    refine Ex.next ?_
    refine W.less (L' := [(136, _)]) [false] ⟨rfl, trivial⟩ ?_
    change (_ : List Blk → Prop) []
    refine W.condT rfl ?_
    refine W.seq ?_
    refine W.region ?_
    refine T.q (q_assign rfl rfl) (Wt.plain rfl) rfl rfl ?_
    refine T.nil ?_
    refine Ex.next ?_
    refine W.slots (L' := [(2, _)]) ⟨rfl, trivial⟩ ?_
    refine W.ret ?_
    refine Ex.then_ret ?_
    refine Ex.out1 [] rfl rfl ?_
    exact ⟨congrArg (Value.int .i64) (chkE_no (f := ⟨3, a, l, rs, bs, tok⟩) fun (h : mayN 3 a l bs.length rs.length (risN rs (a + 1) 4611686018427387903) (risN rs 0 a) (tokN tok)) => by unfold mayN at h; omega).symm, rfl⟩
  replace hb3 := of_decide_eq_false hb3
  refine T.q (q_fld fl59_0 rfl rfl) (Wt.yes rfl rfl rfl) rfl rfl ?_
  refine T.q (q_load1 ss3 0 rfl rfl rfl (rfl)) (Wt.yes rfl rfl rfl) rfl rfl ?_
  refine T.q (q_bool (b := true) (q_neq rfl rfl rfl) (decide_eq_true (by decide))) (Wt.yes rfl rfl rfl) rfl rfl ?_
  refine T.q (q_move rfl rfl) (Wt.yes rfl rfl rfl) rfl rfl ?_
  refine T.q (q_fld fl59_0 rfl rfl) (Wt.yes rfl rfl rfl) rfl rfl ?_
  refine T.q (q_load1 ss3 0 rfl rfl rfl (rfl)) (Wt.yes rfl rfl rfl) rfl rfl ?_
  refine T.q (q_bool (b := true) (q_neq rfl rfl rfl) (decide_eq_true (by decide))) (Wt.yes rfl rfl rfl) rfl rfl ?_
  refine T.q (q_pickT rfl rfl rfl) (Wt.yes rfl rfl rfl) rfl rfl ?_
  refine T.q (q_move rfl rfl) (Wt.yes rfl rfl rfl) rfl rfl ?_
  refine T.q (q_fld fl59_3 rfl rfl) (Wt.yes rfl rfl rfl) rfl rfl ?_
  refine T.q (q_load1 ss56 0 rfl rfl rfl (cell_skip1 (cell_skip1 (cell_skip1 (rfl))))) (Wt.yes rfl rfl rfl) rfl rfl ?_
  refine T.q (q_len sc56 rfl rfl) (Wt.yes rfl rfl rfl) rfl rfl ?_
  refine T.q (q_gtr rfl rfl rfl) (Wt.yes rfl rfl rfl) rfl rfl ?_
  refine T.q (q_pickT rfl rfl rfl) (Wt.yes rfl rfl rfl) rfl rfl ?_
  refine T.q (q_pickF rfl rfl rfl) (Wt.plain rfl) rfl rfl ?_
  refine T.q (q_move rfl rfl) (Wt.plain rfl) rfl rfl ?_
  refine T.both (t := 119) _ rfl (fun hb4 => ?_) (fun hb4 => ?_)
  · replace hb4 := of_decide_eq_true hb4
    refine T.no (Wn.no rfl rfl rfl rfl) rfl rfl ?_
    refine T.no (Wn.no rfl rfl rfl rfl) rfl rfl ?_
    refine T.no (Wn.no rfl rfl rfl rfl) rfl rfl ?_
    refine T.no (Wn.none rfl rfl rfl) rfl rfl ?_
    refine T.no (Wn.none rfl rfl rfl) rfl rfl ?_
    refine T.no (Wn.none rfl rfl rfl) rfl rfl ?_
    refine T.no (Wn.none rfl rfl rfl) rfl rfl ?_
    refine T.no (Wn.no rfl rfl rfl rfl) rfl rfl ?_
    refine T.q (q_pickT rfl rfl rfl) (Wt.plain rfl) rfl rfl ?_
    refine T.nil ?_
    refine Ex.next ?_
    refine W.slots (L' := [(1, _), (4, _), (128, _)]) ⟨rfl, rfl, rfl, trivial⟩ ?_
    refine W.condT rfl ?_
    refine W.region ?_
    refine T.q (q_assign rfl rfl) (Wt.plain rfl) rfl rfl ?_
    refine T.nil ?_
    refine Ex.next ?_
    refine W.slots (L' := [(1, _), (4, _)]) ⟨rfl, rfl, trivial⟩ ?_
    refine W.seq ?_
    refine W.seq ?_
    refine W.region ?_
    refine T.q (q_move rfl rfl) (Wt.plain rfl) rfl rfl ?_
    refine T.q (q_not rfl rfl) (Wt.plain rfl) rfl rfl ?_
    refine T.q (q_move rfl rfl) (Wt.plain rfl) rfl rfl ?_
    refine T.no (Wn.no rfl rfl rfl rfl) rfl rfl ?_
    refine T.no (Wn.no rfl rfl rfl rfl) rfl rfl ?_
    refine T.no (Wn.no rfl rfl rfl rfl) rfl rfl ?_
    refine T.no (Wn.no rfl rfl rfl rfl) rfl rfl ?_
    refine T.q (q_pickT rfl rfl rfl) (Wt.plain rfl) rfl rfl ?_
    refine T.nil ?_
    refine Ex.next ?_
    refine W.less (L' := [(136, _)]) [false] ⟨rfl, trivial⟩ ?_
    change (_ : List Blk → Prop) []
    refine W.condT rfl ?_
    refine W.seq ?_
    refine W.region ?_
    refine T.q (q_assign rfl rfl) (Wt.plain rfl) rfl rfl ?_
    refine T.nil ?_
    refine Ex.next ?_
    refine W.slots (L' := [(2, _)]) ⟨rfl, trivial⟩ ?_
    refine W.ret ?_
    refine Ex.then_ret ?_
    refine Ex.out1 [] rfl rfl ?_
    exact ⟨congrArg (Value.int .i64) (chkE_no (f := ⟨3, a, l, rs, bs, tok⟩) fun (h : mayN 3 a l bs.length rs.length (risN rs (a + 1) 4611686018427387903) (risN rs 0 a) (tokN tok)) => by unfold mayN at h; omega).symm, rfl⟩
  replace hb4 := of_decide_eq_false hb4
  refine T.q (q_move rfl rfl) (Wt.yes rfl rfl rfl) rfl rfl ?_
  refine T.q (q_not rfl rfl) (Wt.yes rfl rfl rfl) rfl rfl ?_
  refine T.q (q_move rfl rfl) (Wt.yes rfl rfl rfl) rfl rfl ?_
  refine T.no (Wn.no rfl rfl rfl rfl) rfl rfl ?_
  refine T.no (Wn.no rfl rfl rfl rfl) rfl rfl ?_
  refine T.no (Wn.no rfl rfl rfl rfl) rfl rfl ?_
  refine T.no (Wn.no rfl rfl rfl rfl) rfl rfl ?_
  refine T.q (q_pickF rfl rfl rfl) (Wt.yes rfl rfl rfl) rfl rfl ?_
  refine T.q (q_pickF rfl rfl rfl) (Wt.plain rfl) rfl rfl ?_
  refine T.nil ?_
  refine Ex.next ?_
  refine W.slots (L' := [(1, _), (4, _), (128, _)]) ⟨rfl, rfl, rfl, trivial⟩ ?_
  refine W.condF rfl ?_
  refine W.skip ?_
  refine Ex.next ?_
  refine W.slots (L' := [(1, _), (4, _)]) ⟨rfl, rfl, trivial⟩ ?_
  refine W.seq ?_
  refine W.seq ?_
  refine W.region ?_
  refine T.q (q_move rfl rfl) (Wt.plain rfl) rfl rfl ?_
  refine T.q (q_bool (q_not rfl rfl) (decide_not (p := (a = 0))).symm) (Wt.plain rfl) rfl rfl ?_
  refine T.q (q_move rfl rfl) (Wt.plain rfl) rfl rfl ?_
  refine T.both (t := 131) _ rfl (fun hb5 => ?_) (fun hb5 => ?_)
  · replace hb5 := of_decide_eq_true hb5
    refine T.no (Wn.no rfl rfl rfl rfl) rfl rfl ?_
    refine T.no (Wn.no rfl rfl rfl rfl) rfl rfl ?_
    refine T.no (Wn.no rfl rfl rfl rfl) rfl rfl ?_
    refine T.no (Wn.no rfl rfl rfl rfl) rfl rfl ?_
    refine T.q (q_pickT rfl rfl rfl) (Wt.plain rfl) rfl rfl ?_
    refine T.nil ?_
    refine Ex.next ?_
    refine W.less (L' := [(136, _)]) [false] ⟨rfl, trivial⟩ ?_
    change (_ : List Blk → Prop) []
    refine W.condT rfl ?_
    refine W.seq ?_
    refine W.region ?_
    refine T.q (q_assign rfl rfl) (Wt.plain rfl) rfl rfl ?_
    refine T.nil ?_
    refine Ex.next ?_
    refine W.slots (L' := [(2, _)]) ⟨rfl, trivial⟩ ?_
    refine W.ret ?_
    refine Ex.then_ret ?_
    refine Ex.out1 [] rfl rfl ?_
    exact ⟨congrArg (Value.int .i64) (chkE_no (f := ⟨3, a, l, rs, bs, tok⟩) fun (h : mayN 3 a l bs.length rs.length (risN rs (a + 1) 4611686018427387903) (risN rs 0 a) (tokN tok)) => by unfold mayN at h; omega).symm, rfl⟩
  replace hb5 := of_decide_eq_false hb5
  refine T.q (q_fld fl59_1 rfl rfl) (Wt.yes rfl rfl rfl) rfl rfl ?_
  refine T.q (q_load1 ss3 0 rfl rfl rfl (cell_skip1 (rfl))) (Wt.yes rfl rfl rfl) rfl rfl ?_
  refine T.eff (e_call enters66 rfl rfl (fun w hm => refnum_spec a w) rfl rfl) (Wt.yes rfl rfl rfl) ?_
  rintro _ _ ⟨_, _, ⟨rfl, rfl⟩, rfl, rfl⟩
  change (_ : List Blk → Prop) [_]
  refine T.q (q_bool (q_not rfl rfl) (decide_not (p := (0 ≤ a ∧ a ≤ 4611686018427387903))).symm) (Wt.yes rfl rfl rfl) rfl rfl ?_
  refine T.q (q_pickF rfl rfl rfl) (Wt.plain rfl) rfl rfl ?_
  refine T.nil ?_
  refine Ex.next ?_
  refine W.less (L' := [(136, _)]) [false] ⟨rfl, trivial⟩ ?_
  change (_ : List Blk → Prop) []
  refine W.cond _ rfl (fun hb6 => ?_) (fun hb6 => ?_)
  · replace hb6 := of_decide_eq_true hb6
    refine W.seq ?_
    refine W.region ?_
    refine T.q (q_assign rfl rfl) (Wt.plain rfl) rfl rfl ?_
    refine T.nil ?_
    refine Ex.next ?_
    refine W.slots (L' := [(2, _)]) ⟨rfl, trivial⟩ ?_
    refine W.ret ?_
    refine Ex.then_ret ?_
    refine Ex.out1 [] rfl rfl ?_
    exact ⟨congrArg (Value.int .i64) (chkE_no (f := ⟨3, a, l, rs, bs, tok⟩) fun (h : mayN 3 a l bs.length rs.length (risN rs (a + 1) 4611686018427387903) (risN rs 0 a) (tokN tok)) => by unfold mayN at h; omega).symm, rfl⟩
  replace hb6 := of_decide_eq_false hb6
  refine W.skip ?_
  refine Ex.next ?_
  refine W.slots (L' := []) trivial ?_
  refine W.seq ?_
  refine W.region ?_
  refine T.q (q_assign rfl rfl) (Wt.plain rfl) rfl rfl ?_
  refine T.nil ?_
  refine Ex.next ?_
  refine W.slots (L' := [(2, _)]) ⟨rfl, trivial⟩ ?_
  refine W.ret ?_
  refine Ex.out1 [] rfl rfl ?_
  exact ⟨congrArg (Value.int .i64) (chkE_yes (f := ⟨3, a, l, rs, bs, tok⟩) (show mayN 3 a l bs.length rs.length (risN rs (a + 1) 4611686018427387903) (risN rs 0 a) (tokN tok) by unfold mayN; omega)).symm, rfl⟩
set_option maxRecDepth 100000 in
theorem refchk_4 (a l : Int) (rs : List (Int × Int)) (bs tok : List Int) (RA BA : Option Addr) (rc bc : Nat) (_hrl : rs.length ≤ 9223372036854775807) (_htok : tok.length = 8) (w0 : World) (_hR : Reads w0 RA (ints .i64 (flat rs))) : Does Try.prog 48 #[.agg (.int .i64 4 :: (.int .i64 a :: (.int .i64 l :: (.slice RA rs.length rc :: (.slice BA bs.length bc :: (ints .u8 tok)))))).toArray] w0 [] (fun v G => v = .int .i64 (chkE ⟨4, a, l, rs, bs, tok⟩) ∧ G = []) := by
  refine spec_of 137 Try.func48 rfl rfl rfl ?_
  refine W.seq ?_
  refine W.region ?_
  refine T.eff (e_box rfl rfl rfl rfl) (Wt.plain rfl) ?_
  rintro _ _ ⟨k1, rfl, rfl⟩
  change (_ : List Blk → Prop) [_]
  change (_ : List Blk → Prop) [⟨some k1, .int .i64 4 :: (.int .i64 a :: (.int .i64 l :: (.slice RA rs.length rc :: (.slice BA bs.length bc :: (ints .u8 tok))))), 59, (0, 0)⟩]
  refine T.q (q_assign rfl rfl) (Wt.plain rfl) rfl rfl ?_
  refine T.nil ?_
  refine Ex.next ?_
  refine W.slots (L' := [(1, _)]) ⟨rfl, trivial⟩ ?_
  refine W.seq ?_
  refine W.region ?_
  refine T.q (q_fld fl59_0 rfl rfl) (Wt.plain rfl) rfl rfl ?_
  refine T.q (q_load1 ss3 0 rfl rfl rfl (rfl)) (Wt.plain rfl) rfl rfl ?_
  refine T.q (q_bool (b := false) (q_eql rfl rfl rfl) (decide_eq_false (by decide))) (Wt.plain rfl) rfl rfl ?_
  refine T.q (q_move rfl rfl) (Wt.plain rfl) rfl rfl ?_
  refine T.q (q_fld fl59_0 rfl rfl) (Wt.yes rfl rfl rfl) rfl rfl ?_
  refine T.q (q_load1 ss3 0 rfl rfl rfl (rfl)) (Wt.yes rfl rfl rfl) rfl rfl ?_
  refine T.q (q_bool (b := true) (q_eql rfl rfl rfl) (decide_eq_true (by decide))) (Wt.yes rfl rfl rfl) rfl rfl ?_
  refine T.q (q_pickF rfl rfl rfl) (Wt.plain rfl) rfl rfl ?_
  refine T.q (q_assign rfl rfl) (Wt.plain rfl) rfl rfl ?_
  refine T.nil ?_
  refine Ex.next ?_
  refine W.slots (L' := [(1, _), (3, _)]) ⟨rfl, rfl, trivial⟩ ?_
  refine W.seq ?_
  refine W.region ?_
  refine T.q (q_assign rfl rfl) (Wt.plain rfl) rfl rfl ?_
  refine T.nil ?_
  refine Ex.next ?_
  refine W.slots (L' := [(1, _), (3, _), (4, _)]) ⟨rfl, rfl, rfl, trivial⟩ ?_
  refine W.seq ?_
  refine W.seq ?_
  refine W.region ?_
  refine T.q (q_fld fl59_0 rfl rfl) (Wt.plain rfl) rfl rfl ?_
  refine T.q (q_load1 ss3 0 rfl rfl rfl (rfl)) (Wt.plain rfl) rfl rfl ?_
  refine T.nil ?_
  refine Ex.next ?_
  refine W.slots (L' := [(1, _), (3, _), (4, _), (14, _)]) ⟨rfl, rfl, rfl, rfl, trivial⟩ ?_
  refine W.block ?_
  refine W.seq ?_
  refine W.region ?_
  refine T.q (q_bool (b := false) (q_eql rfl rfl rfl) (decide_eq_false (by decide))) (Wt.plain rfl) rfl rfl ?_
  refine T.q (q_assign rfl rfl) (Wt.plain rfl) rfl rfl ?_
  refine T.nil ?_
  refine Ex.next ?_
  refine W.slots (L' := [(1, _), (3, _), (4, _), (14, _), (15, _)]) ⟨rfl, rfl, rfl, rfl, rfl, trivial⟩ ?_
  refine W.condF rfl ?_
  refine W.seq ?_
  refine W.region ?_
  refine T.q (q_bool (b := false) (q_eql rfl rfl rfl) (decide_eq_false (by decide))) (Wt.plain rfl) rfl rfl ?_
  refine T.q (q_assign rfl rfl) (Wt.plain rfl) rfl rfl ?_
  refine T.nil ?_
  refine Ex.next ?_
  refine W.slots (L' := [(1, _), (3, _), (4, _), (14, _), (27, _)]) ⟨rfl, rfl, rfl, rfl, rfl, trivial⟩ ?_
  refine W.condF rfl ?_
  refine W.seq ?_
  refine W.seq ?_
  refine W.region ?_
  refine T.q (q_bool (b := false) (q_eql rfl rfl rfl) (decide_eq_false (by decide))) (Wt.plain rfl) rfl rfl ?_
  refine T.q (q_assign rfl rfl) (Wt.plain rfl) rfl rfl ?_
  refine T.nil ?_
  refine Ex.next ?_
  refine W.slots (L' := [(1, _), (3, _), (4, _), (14, _), (44, _)]) ⟨rfl, rfl, rfl, rfl, rfl, trivial⟩ ?_
  refine W.condF rfl ?_
  refine W.region ?_
  refine T.q (q_bool (b := true) (q_eql rfl rfl rfl) (decide_eq_true (by decide))) (Wt.plain rfl) rfl rfl ?_
  refine T.q (q_assign rfl rfl) (Wt.plain rfl) rfl rfl ?_
  refine T.nil ?_
  refine Ex.next ?_
  refine W.slots (L' := [(1, _), (3, _), (4, _), (14, _), (44, _)]) ⟨rfl, rfl, rfl, rfl, rfl, trivial⟩ ?_
  refine W.condT rfl ?_
  refine W.region ?_
  refine T.q (q_fld fl59_1 rfl rfl) (Wt.plain rfl) rfl rfl ?_
  refine T.q (q_load1 ss3 0 rfl rfl rfl (cell_skip1 (rfl))) (Wt.plain rfl) rfl rfl ?_
  refine T.q (q_eql rfl rfl rfl) (Wt.plain rfl) rfl rfl ?_
  refine T.q (q_assign rfl rfl) (Wt.plain rfl) rfl rfl ?_
  refine T.nil ?_
  refine Ex.in_normal ?_
  refine Ex.next ?_
  refine W.slots (L' := [(1, _), (3, _), (4, _)]) ⟨rfl, rfl, rfl, trivial⟩ ?_
  refine W.seq ?_
  refine W.seq ?_
  refine W.region ?_
  refine T.q (q_fld fl59_0 rfl rfl) (Wt.plain rfl) rfl rfl ?_
  refine T.q (q_load1 ss3 0 rfl rfl rfl (rfl)) (Wt.plain rfl) rfl rfl ?_
  refine T.q (q_bool (b := true) (q_neq rfl rfl rfl) (decide_eq_true (by decide))) (Wt.plain rfl) rfl rfl ?_
  refine T.q (q_move rfl rfl) (Wt.plain rfl) rfl rfl ?_
  refine T.q (q_fld fl59_4 rfl rfl) (Wt.yes rfl rfl rfl) rfl rfl ?_
  refine T.q (q_load1 ss22 0 rfl rfl rfl (cell_skip1 (cell_skip1 (cell_skip1 (cell_skip1 (rfl)))))) (Wt.yes rfl rfl rfl) rfl rfl ?_
  refine T.q (q_len sc22 rfl rfl) (Wt.yes rfl rfl rfl) rfl rfl ?_
  refine T.q (q_gtr rfl rfl rfl) (Wt.yes rfl rfl rfl) rfl rfl ?_
  refine T.q (q_pickT rfl rfl rfl) (Wt.plain rfl) rfl rfl ?_
  refine T.q (q_move rfl rfl) (Wt.plain rfl) rfl rfl ?_
  refine T.both (t := 88) _ rfl (fun hb2 => ?_) (fun hb2 => ?_)
  · replace hb2 := of_decide_eq_true hb2
    refine T.no (Wn.no rfl rfl rfl rfl) rfl rfl ?_
    refine T.no (Wn.no rfl rfl rfl rfl) rfl rfl ?_
    refine T.no (Wn.no rfl rfl rfl rfl) rfl rfl ?_
    refine T.no (Wn.no rfl rfl rfl rfl) rfl rfl ?_
    refine T.no (Wn.none rfl rfl rfl) rfl rfl ?_
    refine T.no (Wn.none rfl rfl rfl) rfl rfl ?_
    refine T.no (Wn.none rfl rfl rfl) rfl rfl ?_
    refine T.no (Wn.no rfl rfl rfl rfl) rfl rfl ?_
    refine T.no (Wn.no rfl rfl rfl rfl) rfl rfl ?_
    refine T.no (Wn.none rfl rfl rfl) rfl rfl ?_
    refine T.no (Wn.none rfl rfl rfl) rfl rfl ?_
    refine T.no (Wn.none rfl rfl rfl) rfl rfl ?_
    refine T.no (Wn.no rfl rfl rfl rfl) rfl rfl ?_
    refine T.q (q_pickT rfl rfl rfl) (Wt.plain rfl) rfl rfl ?_
    refine T.q (q_move rfl rfl) (Wt.plain rfl) rfl rfl ?_
    refine T.no (Wn.no rfl rfl rfl rfl) rfl rfl ?_
    refine T.no (Wn.no rfl rfl rfl rfl) rfl rfl ?_
    refine T.no (Wn.no rfl rfl rfl rfl) rfl rfl ?_
    refine T.no (Wn.no rfl rfl rfl rfl) rfl rfl ?_
    refine T.no (Wn.none rfl rfl rfl) rfl rfl ?_
    refine T.no (Wn.none rfl rfl rfl) rfl rfl ?_
    refine T.no (Wn.none rfl rfl rfl) rfl rfl ?_
    refine T.no (Wn.no rfl rfl rfl rfl) rfl rfl ?_
    refine T.no (Wn.no rfl rfl rfl rfl) rfl rfl ?_
    refine T.no (Wn.none rfl rfl rfl) rfl rfl ?_
    refine T.no (Wn.none rfl rfl rfl) rfl rfl ?_
    refine T.no (Wn.none rfl rfl rfl) rfl rfl ?_
    refine T.no (Wn.none rfl rfl rfl) rfl rfl ?_
    refine T.no (Wn.no rfl rfl rfl rfl) rfl rfl ?_
    refine T.q (q_pickT rfl rfl rfl) (Wt.plain rfl) rfl rfl ?_
    refine T.q (q_move rfl rfl) (Wt.plain rfl) rfl rfl ?_
    refine T.no (Wn.no rfl rfl rfl rfl) rfl rfl ?_
    refine T.no (Wn.no rfl rfl rfl rfl) rfl rfl ?_
    refine T.no (Wn.no rfl rfl rfl rfl) rfl rfl ?_
    refine T.no (Wn.none rfl rfl rfl) rfl rfl ?_
    refine T.no (Wn.none rfl rfl rfl) rfl rfl ?_
    refine T.no (Wn.none rfl rfl rfl) rfl rfl ?_
    refine T.no (Wn.none rfl rfl rfl) rfl rfl ?_
    refine T.no (Wn.no rfl rfl rfl rfl) rfl rfl ?_
    refine T.q (q_pickT rfl rfl rfl) (Wt.plain rfl) rfl rfl ?_
    refine T.nil ?_
    refine Ex.next ?_
    refine W.slots (L' := [(1, _), (4, _), (128, _)]) ⟨rfl, rfl, rfl, trivial⟩ ?_
    refine W.condT rfl ?_
    refine W.region ?_
    refine T.q (q_assign rfl rfl) (Wt.plain rfl) rfl rfl ?_
    refine T.nil ?_
    refine Ex.next ?_
    refine W.slots (L' := [(1, _), (4, _)]) ⟨rfl, rfl, trivial⟩ ?_
    refine W.seq ?_
    refine W.seq ?_
    refine W.region ?_
    refine T.q (q_move rfl rfl) (Wt.plain rfl) rfl rfl ?_
    refine T.q (q_not rfl rfl) (Wt.plain rfl) rfl rfl ?_
    refine T.q (q_move rfl rfl) (Wt.plain rfl) rfl rfl ?_
    refine T.no (Wn.no rfl rfl rfl rfl) rfl rfl ?_
    refine T.no (Wn.no rfl rfl rfl rfl) rfl rfl ?_
    refine T.no (Wn.no rfl rfl rfl rfl) rfl rfl ?_
    refine T.no (Wn.no rfl rfl rfl rfl) rfl rfl ?_
    refine T.q (q_pickT rfl rfl rfl) (Wt.plain rfl) rfl rfl ?_
    refine T.nil ?_
    refine Ex.next ?_
    refine W.less (L' := [(136, _)]) [false] ⟨rfl, trivial⟩ ?_
    change (_ : List Blk → Prop) []
    refine W.condT rfl ?_
    refine W.seq ?_
    refine W.region ?_
    refine T.q (q_assign rfl rfl) (Wt.plain rfl) rfl rfl ?_
    refine T.nil ?_
    refine Ex.next ?_
    refine W.slots (L' := [(2, _)]) ⟨rfl, trivial⟩ ?_
    refine W.ret ?_
    refine Ex.then_ret ?_
    refine Ex.out1 [] rfl rfl ?_
    exact ⟨congrArg (Value.int .i64) (chkE_no (f := ⟨4, a, l, rs, bs, tok⟩) fun (h : mayN 4 a l bs.length rs.length (risN rs (a + 1) 4611686018427387903) (risN rs 0 a) (tokN tok)) => by unfold mayN at h; omega).symm, rfl⟩
  replace hb2 := of_decide_eq_false hb2
  refine T.q (q_fld fl59_0 rfl rfl) (Wt.yes rfl rfl rfl) rfl rfl ?_
  refine T.q (q_load1 ss3 0 rfl rfl rfl (rfl)) (Wt.yes rfl rfl rfl) rfl rfl ?_
  refine T.q (q_bool (b := true) (q_neq rfl rfl rfl) (decide_eq_true (by decide))) (Wt.yes rfl rfl rfl) rfl rfl ?_
  refine T.q (q_move rfl rfl) (Wt.yes rfl rfl rfl) rfl rfl ?_
  refine T.q (q_fld fl59_0 rfl rfl) (Wt.yes rfl rfl rfl) rfl rfl ?_
  refine T.q (q_load1 ss3 0 rfl rfl rfl (rfl)) (Wt.yes rfl rfl rfl) rfl rfl ?_
  refine T.q (q_bool (b := true) (q_neq rfl rfl rfl) (decide_eq_true (by decide))) (Wt.yes rfl rfl rfl) rfl rfl ?_
  refine T.q (q_pickT rfl rfl rfl) (Wt.yes rfl rfl rfl) rfl rfl ?_
  refine T.q (q_move rfl rfl) (Wt.yes rfl rfl rfl) rfl rfl ?_
  refine T.q (q_fld fl59_2 rfl rfl) (Wt.yes rfl rfl rfl) rfl rfl ?_
  refine T.q (q_load1 ss3 0 rfl rfl rfl (cell_skip1 (cell_skip1 (rfl)))) (Wt.yes rfl rfl rfl) rfl rfl ?_
  refine T.q (q_neq rfl rfl rfl) (Wt.yes rfl rfl rfl) rfl rfl ?_
  refine T.q (q_pickT rfl rfl rfl) (Wt.yes rfl rfl rfl) rfl rfl ?_
  refine T.q (q_pickF rfl rfl rfl) (Wt.plain rfl) rfl rfl ?_
  refine T.q (q_move rfl rfl) (Wt.plain rfl) rfl rfl ?_
  refine T.both (t := 103) _ rfl (fun hb3 => ?_) (fun hb3 => ?_)
  · replace hb3 := of_decide_eq_true hb3
    refine T.no (Wn.no rfl rfl rfl rfl) rfl rfl ?_
    refine T.no (Wn.no rfl rfl rfl rfl) rfl rfl ?_
    refine T.no (Wn.no rfl rfl rfl rfl) rfl rfl ?_
    refine T.no (Wn.no rfl rfl rfl rfl) rfl rfl ?_
    refine T.no (Wn.none rfl rfl rfl) rfl rfl ?_
    refine T.no (Wn.none rfl rfl rfl) rfl rfl ?_
    refine T.no (Wn.none rfl rfl rfl) rfl rfl ?_
    refine T.no (Wn.no rfl rfl rfl rfl) rfl rfl ?_
    refine T.no (Wn.no rfl rfl rfl rfl) rfl rfl ?_
    refine T.no (Wn.none rfl rfl rfl) rfl rfl ?_
    refine T.no (Wn.none rfl rfl rfl) rfl rfl ?_
    refine T.no (Wn.none rfl rfl rfl) rfl rfl ?_
    refine T.no (Wn.none rfl rfl rfl) rfl rfl ?_
    refine T.no (Wn.no rfl rfl rfl rfl) rfl rfl ?_
    refine T.q (q_pickT rfl rfl rfl) (Wt.plain rfl) rfl rfl ?_
    refine T.q (q_move rfl rfl) (Wt.plain rfl) rfl rfl ?_
    refine T.no (Wn.no rfl rfl rfl rfl) rfl rfl ?_
    refine T.no (Wn.no rfl rfl rfl rfl) rfl rfl ?_
    refine T.no (Wn.no rfl rfl rfl rfl) rfl rfl ?_
    refine T.no (Wn.none rfl rfl rfl) rfl rfl ?_
    refine T.no (Wn.none rfl rfl rfl) rfl rfl ?_
    refine T.no (Wn.none rfl rfl rfl) rfl rfl ?_
    refine T.no (Wn.none rfl rfl rfl) rfl rfl ?_
    refine T.no (Wn.no rfl rfl rfl rfl) rfl rfl ?_
    refine T.q (q_pickT rfl rfl rfl) (Wt.plain rfl) rfl rfl ?_
    refine T.nil ?_
    refine Ex.next ?_
    refine W.slots (L' := [(1, _), (4, _), (128, _)]) ⟨rfl, rfl, rfl, trivial⟩ ?_
    refine W.condT rfl ?_
    refine W.region ?_
    refine T.q (q_assign rfl rfl) (Wt.plain rfl) rfl rfl ?_
    refine T.nil ?_
    refine Ex.next ?_
    refine W.slots (L' := [(1, _), (4, _)]) ⟨rfl, rfl, trivial⟩ ?_
    refine W.seq ?_
    refine W.seq ?_
    refine W.region ?_
    refine T.q (q_move rfl rfl) (Wt.plain rfl) rfl rfl ?_
    refine T.q (q_not rfl rfl) (Wt.plain rfl) rfl rfl ?_
    refine T.q (q_move rfl rfl) (Wt.plain rfl) rfl rfl ?_
    refine T.no (Wn.no rfl rfl rfl rfl) rfl rfl ?_
    refine T.no (Wn.no rfl rfl rfl rfl) rfl rfl ?_
    refine T.no (Wn.no rfl rfl rfl rfl) rfl rfl ?_
    refine T.no (Wn.no rfl rfl rfl rfl) rfl rfl ?_
    refine T.q (q_pickT rfl rfl rfl) (Wt.plain rfl) rfl rfl ?_
    refine T.nil ?_
    refine Ex.next ?_
    refine W.less (L' := [(136, _)]) [false] ⟨rfl, trivial⟩ ?_
    change (_ : List Blk → Prop) []
    refine W.condT rfl ?_
    refine W.seq ?_
    refine W.region ?_
    refine T.q (q_assign rfl rfl) (Wt.plain rfl) rfl rfl ?_
    refine T.nil ?_
    refine Ex.next ?_
    refine W.slots (L' := [(2, _)]) ⟨rfl, trivial⟩ ?_
    refine W.ret ?_
    refine Ex.then_ret ?_
    refine Ex.out1 [] rfl rfl ?_
    exact ⟨congrArg (Value.int .i64) (chkE_no (f := ⟨4, a, l, rs, bs, tok⟩) fun (h : mayN 4 a l bs.length rs.length (risN rs (a + 1) 4611686018427387903) (risN rs 0 a) (tokN tok)) => by unfold mayN at h; omega).symm, rfl⟩
  replace hb3 := of_decide_eq_false hb3
  refine T.q (q_fld fl59_0 rfl rfl) (Wt.yes rfl rfl rfl) rfl rfl ?_
  refine T.q (q_load1 ss3 0 rfl rfl rfl (rfl)) (Wt.yes rfl rfl rfl) rfl rfl ?_
  refine T.q (q_bool (b := true) (q_neq rfl rfl rfl) (decide_eq_true (by decide))) (Wt.yes rfl rfl rfl) rfl rfl ?_
  refine T.q (q_move rfl rfl) (Wt.yes rfl rfl rfl) rfl rfl ?_
  refine T.q (q_fld fl59_0 rfl rfl) (Wt.yes rfl rfl rfl) rfl rfl ?_
  refine T.q (q_load1 ss3 0 rfl rfl rfl (rfl)) (Wt.yes rfl rfl rfl) rfl rfl ?_
  refine T.q (q_bool (b := true) (q_neq rfl rfl rfl) (decide_eq_true (by decide))) (Wt.yes rfl rfl rfl) rfl rfl ?_
  refine T.q (q_pickT rfl rfl rfl) (Wt.yes rfl rfl rfl) rfl rfl ?_
  refine T.q (q_move rfl rfl) (Wt.yes rfl rfl rfl) rfl rfl ?_
  refine T.q (q_fld fl59_3 rfl rfl) (Wt.yes rfl rfl rfl) rfl rfl ?_
  refine T.q (q_load1 ss56 0 rfl rfl rfl (cell_skip1 (cell_skip1 (cell_skip1 (rfl))))) (Wt.yes rfl rfl rfl) rfl rfl ?_
  refine T.q (q_len sc56 rfl rfl) (Wt.yes rfl rfl rfl) rfl rfl ?_
  refine T.q (q_gtr rfl rfl rfl) (Wt.yes rfl rfl rfl) rfl rfl ?_
  refine T.q (q_pickT rfl rfl rfl) (Wt.yes rfl rfl rfl) rfl rfl ?_
  refine T.q (q_pickF rfl rfl rfl) (Wt.plain rfl) rfl rfl ?_
  refine T.q (q_move rfl rfl) (Wt.plain rfl) rfl rfl ?_
  refine T.both (t := 119) _ rfl (fun hb4 => ?_) (fun hb4 => ?_)
  · replace hb4 := of_decide_eq_true hb4
    refine T.no (Wn.no rfl rfl rfl rfl) rfl rfl ?_
    refine T.no (Wn.no rfl rfl rfl rfl) rfl rfl ?_
    refine T.no (Wn.no rfl rfl rfl rfl) rfl rfl ?_
    refine T.no (Wn.none rfl rfl rfl) rfl rfl ?_
    refine T.no (Wn.none rfl rfl rfl) rfl rfl ?_
    refine T.no (Wn.none rfl rfl rfl) rfl rfl ?_
    refine T.no (Wn.none rfl rfl rfl) rfl rfl ?_
    refine T.no (Wn.no rfl rfl rfl rfl) rfl rfl ?_
    refine T.q (q_pickT rfl rfl rfl) (Wt.plain rfl) rfl rfl ?_
    refine T.nil ?_
    refine Ex.next ?_
    refine W.slots (L' := [(1, _), (4, _), (128, _)]) ⟨rfl, rfl, rfl, trivial⟩ ?_
    refine W.condT rfl ?_
    refine W.region ?_
    refine T.q (q_assign rfl rfl) (Wt.plain rfl) rfl rfl ?_
    refine T.nil ?_
    refine Ex.next ?_
    refine W.slots (L' := [(1, _), (4, _)]) ⟨rfl, rfl, trivial⟩ ?_
    refine W.seq ?_
    refine W.seq ?_
    refine W.region ?_
    refine T.q (q_move rfl rfl) (Wt.plain rfl) rfl rfl ?_
    refine T.q (q_not rfl rfl) (Wt.plain rfl) rfl rfl ?_
    refine T.q (q_move rfl rfl) (Wt.plain rfl) rfl rfl ?_
    refine T.no (Wn.no rfl rfl rfl rfl) rfl rfl ?_
    refine T.no (Wn.no rfl rfl rfl rfl) rfl rfl ?_
    refine T.no (Wn.no rfl rfl rfl rfl) rfl rfl ?_
    refine T.no (Wn.no rfl rfl rfl rfl) rfl rfl ?_
    refine T.q (q_pickT rfl rfl rfl) (Wt.plain rfl) rfl rfl ?_
    refine T.nil ?_
    refine Ex.next ?_
    refine W.less (L' := [(136, _)]) [false] ⟨rfl, trivial⟩ ?_
    change (_ : List Blk → Prop) []
    refine W.condT rfl ?_
    refine W.seq ?_
    refine W.region ?_
    refine T.q (q_assign rfl rfl) (Wt.plain rfl) rfl rfl ?_
    refine T.nil ?_
    refine Ex.next ?_
    refine W.slots (L' := [(2, _)]) ⟨rfl, trivial⟩ ?_
    refine W.ret ?_
    refine Ex.then_ret ?_
    refine Ex.out1 [] rfl rfl ?_
    exact ⟨congrArg (Value.int .i64) (chkE_no (f := ⟨4, a, l, rs, bs, tok⟩) fun (h : mayN 4 a l bs.length rs.length (risN rs (a + 1) 4611686018427387903) (risN rs 0 a) (tokN tok)) => by unfold mayN at h; omega).symm, rfl⟩
  replace hb4 := of_decide_eq_false hb4
  refine T.q (q_move rfl rfl) (Wt.yes rfl rfl rfl) rfl rfl ?_
  refine T.q (q_not rfl rfl) (Wt.yes rfl rfl rfl) rfl rfl ?_
  refine T.q (q_move rfl rfl) (Wt.yes rfl rfl rfl) rfl rfl ?_
  refine T.no (Wn.no rfl rfl rfl rfl) rfl rfl ?_
  refine T.no (Wn.no rfl rfl rfl rfl) rfl rfl ?_
  refine T.no (Wn.no rfl rfl rfl rfl) rfl rfl ?_
  refine T.no (Wn.no rfl rfl rfl rfl) rfl rfl ?_
  refine T.q (q_pickF rfl rfl rfl) (Wt.yes rfl rfl rfl) rfl rfl ?_
  refine T.q (q_pickF rfl rfl rfl) (Wt.plain rfl) rfl rfl ?_
  refine T.nil ?_
  refine Ex.next ?_
  refine W.slots (L' := [(1, _), (4, _), (128, _)]) ⟨rfl, rfl, rfl, trivial⟩ ?_
  refine W.condF rfl ?_
  refine W.skip ?_
  refine Ex.next ?_
  refine W.slots (L' := [(1, _), (4, _)]) ⟨rfl, rfl, trivial⟩ ?_
  refine W.seq ?_
  refine W.seq ?_
  refine W.region ?_
  refine T.q (q_move rfl rfl) (Wt.plain rfl) rfl rfl ?_
  refine T.q (q_bool (q_not rfl rfl) (decide_not (p := (a = 0))).symm) (Wt.plain rfl) rfl rfl ?_
  refine T.q (q_move rfl rfl) (Wt.plain rfl) rfl rfl ?_
  refine T.both (t := 131) _ rfl (fun hb5 => ?_) (fun hb5 => ?_)
  · replace hb5 := of_decide_eq_true hb5
    refine T.no (Wn.no rfl rfl rfl rfl) rfl rfl ?_
    refine T.no (Wn.no rfl rfl rfl rfl) rfl rfl ?_
    refine T.no (Wn.no rfl rfl rfl rfl) rfl rfl ?_
    refine T.no (Wn.no rfl rfl rfl rfl) rfl rfl ?_
    refine T.q (q_pickT rfl rfl rfl) (Wt.plain rfl) rfl rfl ?_
    refine T.nil ?_
    refine Ex.next ?_
    refine W.less (L' := [(136, _)]) [false] ⟨rfl, trivial⟩ ?_
    change (_ : List Blk → Prop) []
    refine W.condT rfl ?_
    refine W.seq ?_
    refine W.region ?_
    refine T.q (q_assign rfl rfl) (Wt.plain rfl) rfl rfl ?_
    refine T.nil ?_
    refine Ex.next ?_
    refine W.slots (L' := [(2, _)]) ⟨rfl, trivial⟩ ?_
    refine W.ret ?_
    refine Ex.then_ret ?_
    refine Ex.out1 [] rfl rfl ?_
    exact ⟨congrArg (Value.int .i64) (chkE_no (f := ⟨4, a, l, rs, bs, tok⟩) fun (h : mayN 4 a l bs.length rs.length (risN rs (a + 1) 4611686018427387903) (risN rs 0 a) (tokN tok)) => by unfold mayN at h; omega).symm, rfl⟩
  replace hb5 := of_decide_eq_false hb5
  refine T.q (q_fld fl59_1 rfl rfl) (Wt.yes rfl rfl rfl) rfl rfl ?_
  refine T.q (q_load1 ss3 0 rfl rfl rfl (cell_skip1 (rfl))) (Wt.yes rfl rfl rfl) rfl rfl ?_
  refine T.eff (e_call enters66 rfl rfl (fun w hm => refnum_spec a w) rfl rfl) (Wt.yes rfl rfl rfl) ?_
  rintro _ _ ⟨_, _, ⟨rfl, rfl⟩, rfl, rfl⟩
  change (_ : List Blk → Prop) [_]
  refine T.q (q_bool (q_not rfl rfl) (decide_not (p := (0 ≤ a ∧ a ≤ 4611686018427387903))).symm) (Wt.yes rfl rfl rfl) rfl rfl ?_
  refine T.q (q_pickF rfl rfl rfl) (Wt.plain rfl) rfl rfl ?_
  refine T.nil ?_
  refine Ex.next ?_
  refine W.less (L' := [(136, _)]) [false] ⟨rfl, trivial⟩ ?_
  change (_ : List Blk → Prop) []
  refine W.cond _ rfl (fun hb6 => ?_) (fun hb6 => ?_)
  · replace hb6 := of_decide_eq_true hb6
    refine W.seq ?_
    refine W.region ?_
    refine T.q (q_assign rfl rfl) (Wt.plain rfl) rfl rfl ?_
    refine T.nil ?_
    refine Ex.next ?_
    refine W.slots (L' := [(2, _)]) ⟨rfl, trivial⟩ ?_
    refine W.ret ?_
    refine Ex.then_ret ?_
    refine Ex.out1 [] rfl rfl ?_
    exact ⟨congrArg (Value.int .i64) (chkE_no (f := ⟨4, a, l, rs, bs, tok⟩) fun (h : mayN 4 a l bs.length rs.length (risN rs (a + 1) 4611686018427387903) (risN rs 0 a) (tokN tok)) => by unfold mayN at h; omega).symm, rfl⟩
  replace hb6 := of_decide_eq_false hb6
  refine W.skip ?_
  refine Ex.next ?_
  refine W.slots (L' := []) trivial ?_
  refine W.seq ?_
  refine W.region ?_
  refine T.q (q_assign rfl rfl) (Wt.plain rfl) rfl rfl ?_
  refine T.nil ?_
  refine Ex.next ?_
  refine W.slots (L' := [(2, _)]) ⟨rfl, trivial⟩ ?_
  refine W.ret ?_
  refine Ex.out1 [] rfl rfl ?_
  exact ⟨congrArg (Value.int .i64) (chkE_yes (f := ⟨4, a, l, rs, bs, tok⟩) (show mayN 4 a l bs.length rs.length (risN rs (a + 1) 4611686018427387903) (risN rs 0 a) (tokN tok) by unfold mayN; omega)).symm, rfl⟩
set_option maxRecDepth 100000 in
theorem refchk_5 (a l : Int) (rs : List (Int × Int)) (bs tok : List Int) (RA BA : Option Addr) (rc bc : Nat) (_hrl : rs.length ≤ 9223372036854775807) (htok : tok.length = 8) (w0 : World) (_hR : Reads w0 RA (ints .i64 (flat rs))) : Does Try.prog 48 #[.agg (.int .i64 5 :: (.int .i64 a :: (.int .i64 l :: (.slice RA rs.length rc :: (.slice BA bs.length bc :: (ints .u8 tok)))))).toArray] w0 [] (fun v G => v = .int .i64 (chkE ⟨5, a, l, rs, bs, tok⟩) ∧ G = []) := by
  refine spec_of 137 Try.func48 rfl rfl rfl ?_
  refine W.seq ?_
  refine W.region ?_
  refine T.eff (e_box rfl rfl rfl rfl) (Wt.plain rfl) ?_
  rintro _ _ ⟨k1, rfl, rfl⟩
  change (_ : List Blk → Prop) [_]
  change (_ : List Blk → Prop) [⟨some k1, .int .i64 5 :: (.int .i64 a :: (.int .i64 l :: (.slice RA rs.length rc :: (.slice BA bs.length bc :: (ints .u8 tok))))), 59, (0, 0)⟩]
  refine T.q (q_assign rfl rfl) (Wt.plain rfl) rfl rfl ?_
  refine T.nil ?_
  refine Ex.next ?_
  refine W.slots (L' := [(1, _)]) ⟨rfl, trivial⟩ ?_
  refine W.seq ?_
  refine W.region ?_
  refine T.q (q_fld fl59_0 rfl rfl) (Wt.plain rfl) rfl rfl ?_
  refine T.q (q_load1 ss3 0 rfl rfl rfl (rfl)) (Wt.plain rfl) rfl rfl ?_
  refine T.q (q_bool (b := false) (q_eql rfl rfl rfl) (decide_eq_false (by decide))) (Wt.plain rfl) rfl rfl ?_
  refine T.q (q_move rfl rfl) (Wt.plain rfl) rfl rfl ?_
  refine T.q (q_fld fl59_0 rfl rfl) (Wt.yes rfl rfl rfl) rfl rfl ?_
  refine T.q (q_load1 ss3 0 rfl rfl rfl (rfl)) (Wt.yes rfl rfl rfl) rfl rfl ?_
  refine T.q (q_bool (b := false) (q_eql rfl rfl rfl) (decide_eq_false (by decide))) (Wt.yes rfl rfl rfl) rfl rfl ?_
  refine T.q (q_pickF rfl rfl rfl) (Wt.plain rfl) rfl rfl ?_
  refine T.q (q_assign rfl rfl) (Wt.plain rfl) rfl rfl ?_
  refine T.nil ?_
  refine Ex.next ?_
  refine W.slots (L' := [(1, _), (3, _)]) ⟨rfl, rfl, trivial⟩ ?_
  refine W.seq ?_
  refine W.region ?_
  refine T.q (q_assign rfl rfl) (Wt.plain rfl) rfl rfl ?_
  refine T.nil ?_
  refine Ex.next ?_
  refine W.slots (L' := [(1, _), (3, _), (4, _)]) ⟨rfl, rfl, rfl, trivial⟩ ?_
  refine W.seq ?_
  refine W.seq ?_
  refine W.region ?_
  refine T.q (q_fld fl59_0 rfl rfl) (Wt.plain rfl) rfl rfl ?_
  refine T.q (q_load1 ss3 0 rfl rfl rfl (rfl)) (Wt.plain rfl) rfl rfl ?_
  refine T.nil ?_
  refine Ex.next ?_
  refine W.slots (L' := [(1, _), (3, _), (4, _), (14, _)]) ⟨rfl, rfl, rfl, rfl, trivial⟩ ?_
  refine W.block ?_
  refine W.seq ?_
  refine W.region ?_
  refine T.q (q_bool (b := false) (q_eql rfl rfl rfl) (decide_eq_false (by decide))) (Wt.plain rfl) rfl rfl ?_
  refine T.q (q_assign rfl rfl) (Wt.plain rfl) rfl rfl ?_
  refine T.nil ?_
  refine Ex.next ?_
  refine W.slots (L' := [(1, _), (3, _), (4, _), (14, _), (15, _)]) ⟨rfl, rfl, rfl, rfl, rfl, trivial⟩ ?_
  refine W.condF rfl ?_
  refine W.seq ?_
  refine W.region ?_
  refine T.q (q_bool (b := false) (q_eql rfl rfl rfl) (decide_eq_false (by decide))) (Wt.plain rfl) rfl rfl ?_
  refine T.q (q_assign rfl rfl) (Wt.plain rfl) rfl rfl ?_
  refine T.nil ?_
  refine Ex.next ?_
  refine W.slots (L' := [(1, _), (3, _), (4, _), (14, _), (27, _)]) ⟨rfl, rfl, rfl, rfl, rfl, trivial⟩ ?_
  refine W.condF rfl ?_
  refine W.seq ?_
  refine W.seq ?_
  refine W.region ?_
  refine T.q (q_bool (b := false) (q_eql rfl rfl rfl) (decide_eq_false (by decide))) (Wt.plain rfl) rfl rfl ?_
  refine T.q (q_assign rfl rfl) (Wt.plain rfl) rfl rfl ?_
  refine T.nil ?_
  refine Ex.next ?_
  refine W.slots (L' := [(1, _), (3, _), (4, _), (14, _), (44, _)]) ⟨rfl, rfl, rfl, rfl, rfl, trivial⟩ ?_
  refine W.condF rfl ?_
  refine W.region ?_
  refine T.q (q_bool (b := false) (q_eql rfl rfl rfl) (decide_eq_false (by decide))) (Wt.plain rfl) rfl rfl ?_
  refine T.q (q_assign rfl rfl) (Wt.plain rfl) rfl rfl ?_
  refine T.nil ?_
  refine Ex.next ?_
  refine W.slots (L' := [(1, _), (3, _), (4, _), (14, _), (44, _)]) ⟨rfl, rfl, rfl, rfl, rfl, trivial⟩ ?_
  refine W.condF rfl ?_
  refine W.seq ?_
  refine W.region ?_
  refine T.q (q_bool (b := true) (q_eql rfl rfl rfl) (decide_eq_true (by decide))) (Wt.plain rfl) rfl rfl ?_
  refine T.q (q_assign rfl rfl) (Wt.plain rfl) rfl rfl ?_
  refine T.nil ?_
  refine Ex.next ?_
  refine W.slots (L' := [(1, _), (3, _), (4, _), (14, _), (50, _)]) ⟨rfl, rfl, rfl, rfl, rfl, trivial⟩ ?_
  refine W.condT rfl ?_
  refine W.region ?_
  refine T.q (q_fld fl59_1 rfl rfl) (Wt.plain rfl) rfl rfl ?_
  refine T.q (q_load1 ss3 0 rfl rfl rfl (cell_skip1 (rfl))) (Wt.plain rfl) rfl rfl ?_
  refine T.q (q_leq rfl rfl rfl) (Wt.plain rfl) rfl rfl ?_
  refine T.q (q_assign rfl rfl) (Wt.plain rfl) rfl rfl ?_
  refine T.nil ?_
  refine Ex.in_normal ?_
  refine Ex.next ?_
  refine W.slots (L' := [(1, _), (3, _), (4, _)]) ⟨rfl, rfl, rfl, trivial⟩ ?_
  refine W.seq ?_
  refine W.seq ?_
  refine W.region ?_
  refine T.q (q_fld fl59_0 rfl rfl) (Wt.plain rfl) rfl rfl ?_
  refine T.q (q_load1 ss3 0 rfl rfl rfl (rfl)) (Wt.plain rfl) rfl rfl ?_
  refine T.q (q_bool (b := true) (q_neq rfl rfl rfl) (decide_eq_true (by decide))) (Wt.plain rfl) rfl rfl ?_
  refine T.q (q_move rfl rfl) (Wt.plain rfl) rfl rfl ?_
  refine T.q (q_fld fl59_4 rfl rfl) (Wt.yes rfl rfl rfl) rfl rfl ?_
  refine T.q (q_load1 ss22 0 rfl rfl rfl (cell_skip1 (cell_skip1 (cell_skip1 (cell_skip1 (rfl)))))) (Wt.yes rfl rfl rfl) rfl rfl ?_
  refine T.q (q_len sc22 rfl rfl) (Wt.yes rfl rfl rfl) rfl rfl ?_
  refine T.q (q_gtr rfl rfl rfl) (Wt.yes rfl rfl rfl) rfl rfl ?_
  refine T.q (q_pickT rfl rfl rfl) (Wt.plain rfl) rfl rfl ?_
  refine T.q (q_move rfl rfl) (Wt.plain rfl) rfl rfl ?_
  refine T.both (t := 88) _ rfl (fun hb2 => ?_) (fun hb2 => ?_)
  · replace hb2 := of_decide_eq_true hb2
    refine T.no (Wn.no rfl rfl rfl rfl) rfl rfl ?_
    refine T.no (Wn.no rfl rfl rfl rfl) rfl rfl ?_
    refine T.no (Wn.no rfl rfl rfl rfl) rfl rfl ?_
    refine T.no (Wn.no rfl rfl rfl rfl) rfl rfl ?_
    refine T.no (Wn.none rfl rfl rfl) rfl rfl ?_
    refine T.no (Wn.none rfl rfl rfl) rfl rfl ?_
    refine T.no (Wn.none rfl rfl rfl) rfl rfl ?_
    refine T.no (Wn.no rfl rfl rfl rfl) rfl rfl ?_
    refine T.no (Wn.no rfl rfl rfl rfl) rfl rfl ?_
    refine T.no (Wn.none rfl rfl rfl) rfl rfl ?_
    refine T.no (Wn.none rfl rfl rfl) rfl rfl ?_
    refine T.no (Wn.none rfl rfl rfl) rfl rfl ?_
    refine T.no (Wn.no rfl rfl rfl rfl) rfl rfl ?_
    refine T.q (q_pickT rfl rfl rfl) (Wt.plain rfl) rfl rfl ?_
    refine T.q (q_move rfl rfl) (Wt.plain rfl) rfl rfl ?_
    refine T.no (Wn.no rfl rfl rfl rfl) rfl rfl ?_
    refine T.no (Wn.no rfl rfl rfl rfl) rfl rfl ?_
    refine T.no (Wn.no rfl rfl rfl rfl) rfl rfl ?_
    refine T.no (Wn.no rfl rfl rfl rfl) rfl rfl ?_
    refine T.no (Wn.none rfl rfl rfl) rfl rfl ?_
    refine T.no (Wn.none rfl rfl rfl) rfl rfl ?_
    refine T.no (Wn.none rfl rfl rfl) rfl rfl ?_
    refine T.no (Wn.no rfl rfl rfl rfl) rfl rfl ?_
    refine T.no (Wn.no rfl rfl rfl rfl) rfl rfl ?_
    refine T.no (Wn.none rfl rfl rfl) rfl rfl ?_
    refine T.no (Wn.none rfl rfl rfl) rfl rfl ?_
    refine T.no (Wn.none rfl rfl rfl) rfl rfl ?_
    refine T.no (Wn.none rfl rfl rfl) rfl rfl ?_
    refine T.no (Wn.no rfl rfl rfl rfl) rfl rfl ?_
    refine T.q (q_pickT rfl rfl rfl) (Wt.plain rfl) rfl rfl ?_
    refine T.q (q_move rfl rfl) (Wt.plain rfl) rfl rfl ?_
    refine T.no (Wn.no rfl rfl rfl rfl) rfl rfl ?_
    refine T.no (Wn.no rfl rfl rfl rfl) rfl rfl ?_
    refine T.no (Wn.no rfl rfl rfl rfl) rfl rfl ?_
    refine T.no (Wn.none rfl rfl rfl) rfl rfl ?_
    refine T.no (Wn.none rfl rfl rfl) rfl rfl ?_
    refine T.no (Wn.none rfl rfl rfl) rfl rfl ?_
    refine T.no (Wn.none rfl rfl rfl) rfl rfl ?_
    refine T.no (Wn.no rfl rfl rfl rfl) rfl rfl ?_
    refine T.q (q_pickT rfl rfl rfl) (Wt.plain rfl) rfl rfl ?_
    refine T.nil ?_
    refine Ex.next ?_
    refine W.slots (L' := [(1, _), (4, _), (128, _)]) ⟨rfl, rfl, rfl, trivial⟩ ?_
    refine W.condT rfl ?_
    refine W.region ?_
    refine T.q (q_assign rfl rfl) (Wt.plain rfl) rfl rfl ?_
    refine T.nil ?_
    refine Ex.next ?_
    refine W.slots (L' := [(1, _), (4, _)]) ⟨rfl, rfl, trivial⟩ ?_
    refine W.seq ?_
    refine W.seq ?_
    refine W.region ?_
    refine T.q (q_move rfl rfl) (Wt.plain rfl) rfl rfl ?_
    refine T.q (q_not rfl rfl) (Wt.plain rfl) rfl rfl ?_
    refine T.q (q_move rfl rfl) (Wt.plain rfl) rfl rfl ?_
    refine T.no (Wn.no rfl rfl rfl rfl) rfl rfl ?_
    refine T.no (Wn.no rfl rfl rfl rfl) rfl rfl ?_
    refine T.no (Wn.no rfl rfl rfl rfl) rfl rfl ?_
    refine T.no (Wn.no rfl rfl rfl rfl) rfl rfl ?_
    refine T.q (q_pickT rfl rfl rfl) (Wt.plain rfl) rfl rfl ?_
    refine T.nil ?_
    refine Ex.next ?_
    refine W.less (L' := [(136, _)]) [false] ⟨rfl, trivial⟩ ?_
    change (_ : List Blk → Prop) []
    refine W.condT rfl ?_
    refine W.seq ?_
    refine W.region ?_
    refine T.q (q_assign rfl rfl) (Wt.plain rfl) rfl rfl ?_
    refine T.nil ?_
    refine Ex.next ?_
    refine W.slots (L' := [(2, _)]) ⟨rfl, trivial⟩ ?_
    refine W.ret ?_
    refine Ex.then_ret ?_
    refine Ex.out1 [] rfl rfl ?_
    exact ⟨congrArg (Value.int .i64) (chkE_no (f := ⟨5, a, l, rs, bs, tok⟩) fun (h : mayN 5 a l bs.length rs.length (risN rs (a + 1) 4611686018427387903) (risN rs 0 a) (tokN tok)) => by unfold mayN at h; omega).symm, rfl⟩
  replace hb2 := of_decide_eq_false hb2
  refine T.q (q_fld fl59_0 rfl rfl) (Wt.yes rfl rfl rfl) rfl rfl ?_
  refine T.q (q_load1 ss3 0 rfl rfl rfl (rfl)) (Wt.yes rfl rfl rfl) rfl rfl ?_
  refine T.q (q_bool (b := true) (q_neq rfl rfl rfl) (decide_eq_true (by decide))) (Wt.yes rfl rfl rfl) rfl rfl ?_
  refine T.q (q_move rfl rfl) (Wt.yes rfl rfl rfl) rfl rfl ?_
  refine T.q (q_fld fl59_0 rfl rfl) (Wt.yes rfl rfl rfl) rfl rfl ?_
  refine T.q (q_load1 ss3 0 rfl rfl rfl (rfl)) (Wt.yes rfl rfl rfl) rfl rfl ?_
  refine T.q (q_bool (b := true) (q_neq rfl rfl rfl) (decide_eq_true (by decide))) (Wt.yes rfl rfl rfl) rfl rfl ?_
  refine T.q (q_pickT rfl rfl rfl) (Wt.yes rfl rfl rfl) rfl rfl ?_
  refine T.q (q_move rfl rfl) (Wt.yes rfl rfl rfl) rfl rfl ?_
  refine T.q (q_fld fl59_2 rfl rfl) (Wt.yes rfl rfl rfl) rfl rfl ?_
  refine T.q (q_load1 ss3 0 rfl rfl rfl (cell_skip1 (cell_skip1 (rfl)))) (Wt.yes rfl rfl rfl) rfl rfl ?_
  refine T.q (q_neq rfl rfl rfl) (Wt.yes rfl rfl rfl) rfl rfl ?_
  refine T.q (q_pickT rfl rfl rfl) (Wt.yes rfl rfl rfl) rfl rfl ?_
  refine T.q (q_pickF rfl rfl rfl) (Wt.plain rfl) rfl rfl ?_
  refine T.q (q_move rfl rfl) (Wt.plain rfl) rfl rfl ?_
  refine T.both (t := 103) _ rfl (fun hb3 => ?_) (fun hb3 => ?_)
  · replace hb3 := of_decide_eq_true hb3
    refine T.no (Wn.no rfl rfl rfl rfl) rfl rfl ?_
    refine T.no (Wn.no rfl rfl rfl rfl) rfl rfl ?_
    refine T.no (Wn.no rfl rfl rfl rfl) rfl rfl ?_
    refine T.no (Wn.no rfl rfl rfl rfl) rfl rfl ?_
    refine T.no (Wn.none rfl rfl rfl) rfl rfl ?_
    refine T.no (Wn.none rfl rfl rfl) rfl rfl ?_
    refine T.no (Wn.none rfl rfl rfl) rfl rfl ?_
    refine T.no (Wn.no rfl rfl rfl rfl) rfl rfl ?_
    refine T.no (Wn.no rfl rfl rfl rfl) rfl rfl ?_
    refine T.no (Wn.none rfl rfl rfl) rfl rfl ?_
    refine T.no (Wn.none rfl rfl rfl) rfl rfl ?_
    refine T.no (Wn.none rfl rfl rfl) rfl rfl ?_
    refine T.no (Wn.none rfl rfl rfl) rfl rfl ?_
    refine T.no (Wn.no rfl rfl rfl rfl) rfl rfl ?_
    refine T.q (q_pickT rfl rfl rfl) (Wt.plain rfl) rfl rfl ?_
    refine T.q (q_move rfl rfl) (Wt.plain rfl) rfl rfl ?_
    refine T.no (Wn.no rfl rfl rfl rfl) rfl rfl ?_
    refine T.no (Wn.no rfl rfl rfl rfl) rfl rfl ?_
    refine T.no (Wn.no rfl rfl rfl rfl) rfl rfl ?_
    refine T.no (Wn.none rfl rfl rfl) rfl rfl ?_
    refine T.no (Wn.none rfl rfl rfl) rfl rfl ?_
    refine T.no (Wn.none rfl rfl rfl) rfl rfl ?_
    refine T.no (Wn.none rfl rfl rfl) rfl rfl ?_
    refine T.no (Wn.no rfl rfl rfl rfl) rfl rfl ?_
    refine T.q (q_pickT rfl rfl rfl) (Wt.plain rfl) rfl rfl ?_
    refine T.nil ?_
    refine Ex.next ?_
    refine W.slots (L' := [(1, _), (4, _), (128, _)]) ⟨rfl, rfl, rfl, trivial⟩ ?_
    refine W.condT rfl ?_
    refine W.region ?_
    refine T.q (q_assign rfl rfl) (Wt.plain rfl) rfl rfl ?_
    refine T.nil ?_
    refine Ex.next ?_
    refine W.slots (L' := [(1, _), (4, _)]) ⟨rfl, rfl, trivial⟩ ?_
    refine W.seq ?_
    refine W.seq ?_
    refine W.region ?_
    refine T.q (q_move rfl rfl) (Wt.plain rfl) rfl rfl ?_
    refine T.q (q_not rfl rfl) (Wt.plain rfl) rfl rfl ?_
    refine T.q (q_move rfl rfl) (Wt.plain rfl) rfl rfl ?_
    refine T.no (Wn.no rfl rfl rfl rfl) rfl rfl ?_
    refine T.no (Wn.no rfl rfl rfl rfl) rfl rfl ?_
    refine T.no (Wn.no rfl rfl rfl rfl) rfl rfl ?_
    refine T.no (Wn.no rfl rfl rfl rfl) rfl rfl ?_
    refine T.q (q_pickT rfl rfl rfl) (Wt.plain rfl) rfl rfl ?_
    refine T.nil ?_
    refine Ex.next ?_
    refine W.less (L' := [(136, _)]) [false] ⟨rfl, trivial⟩ ?_
    change (_ : List Blk → Prop) []
    refine W.condT rfl ?_
    refine W.seq ?_
    refine W.region ?_
    refine T.q (q_assign rfl rfl) (Wt.plain rfl) rfl rfl ?_
    refine T.nil ?_
    refine Ex.next ?_
    refine W.slots (L' := [(2, _)]) ⟨rfl, trivial⟩ ?_
    refine W.ret ?_
    refine Ex.then_ret ?_
    refine Ex.out1 [] rfl rfl ?_
    exact ⟨congrArg (Value.int .i64) (chkE_no (f := ⟨5, a, l, rs, bs, tok⟩) fun (h : mayN 5 a l bs.length rs.length (risN rs (a + 1) 4611686018427387903) (risN rs 0 a) (tokN tok)) => by unfold mayN at h; omega).symm, rfl⟩
  replace hb3 := of_decide_eq_false hb3
  refine T.q (q_fld fl59_0 rfl rfl) (Wt.yes rfl rfl rfl) rfl rfl ?_
  refine T.q (q_load1 ss3 0 rfl rfl rfl (rfl)) (Wt.yes rfl rfl rfl) rfl rfl ?_
  refine T.q (q_bool (b := true) (q_neq rfl rfl rfl) (decide_eq_true (by decide))) (Wt.yes rfl rfl rfl) rfl rfl ?_
  refine T.q (q_move rfl rfl) (Wt.yes rfl rfl rfl) rfl rfl ?_
  refine T.q (q_fld fl59_0 rfl rfl) (Wt.yes rfl rfl rfl) rfl rfl ?_
  refine T.q (q_load1 ss3 0 rfl rfl rfl (rfl)) (Wt.yes rfl rfl rfl) rfl rfl ?_
  refine T.q (q_bool (b := true) (q_neq rfl rfl rfl) (decide_eq_true (by decide))) (Wt.yes rfl rfl rfl) rfl rfl ?_
  refine T.q (q_pickT rfl rfl rfl) (Wt.yes rfl rfl rfl) rfl rfl ?_
  refine T.q (q_move rfl rfl) (Wt.yes rfl rfl rfl) rfl rfl ?_
  refine T.q (q_fld fl59_3 rfl rfl) (Wt.yes rfl rfl rfl) rfl rfl ?_
  refine T.q (q_load1 ss56 0 rfl rfl rfl (cell_skip1 (cell_skip1 (cell_skip1 (rfl))))) (Wt.yes rfl rfl rfl) rfl rfl ?_
  refine T.q (q_len sc56 rfl rfl) (Wt.yes rfl rfl rfl) rfl rfl ?_
  refine T.q (q_gtr rfl rfl rfl) (Wt.yes rfl rfl rfl) rfl rfl ?_
  refine T.q (q_pickT rfl rfl rfl) (Wt.yes rfl rfl rfl) rfl rfl ?_
  refine T.q (q_pickF rfl rfl rfl) (Wt.plain rfl) rfl rfl ?_
  refine T.q (q_move rfl rfl) (Wt.plain rfl) rfl rfl ?_
  refine T.both (t := 119) _ rfl (fun hb4 => ?_) (fun hb4 => ?_)
  · replace hb4 := of_decide_eq_true hb4
    refine T.no (Wn.no rfl rfl rfl rfl) rfl rfl ?_
    refine T.no (Wn.no rfl rfl rfl rfl) rfl rfl ?_
    refine T.no (Wn.no rfl rfl rfl rfl) rfl rfl ?_
    refine T.no (Wn.none rfl rfl rfl) rfl rfl ?_
    refine T.no (Wn.none rfl rfl rfl) rfl rfl ?_
    refine T.no (Wn.none rfl rfl rfl) rfl rfl ?_
    refine T.no (Wn.none rfl rfl rfl) rfl rfl ?_
    refine T.no (Wn.no rfl rfl rfl rfl) rfl rfl ?_
    refine T.q (q_pickT rfl rfl rfl) (Wt.plain rfl) rfl rfl ?_
    refine T.nil ?_
    refine Ex.next ?_
    refine W.slots (L' := [(1, _), (4, _), (128, _)]) ⟨rfl, rfl, rfl, trivial⟩ ?_
    refine W.condT rfl ?_
    refine W.region ?_
    refine T.q (q_assign rfl rfl) (Wt.plain rfl) rfl rfl ?_
    refine T.nil ?_
    refine Ex.next ?_
    refine W.slots (L' := [(1, _), (4, _)]) ⟨rfl, rfl, trivial⟩ ?_
    refine W.seq ?_
    refine W.seq ?_
    refine W.region ?_
    refine T.q (q_move rfl rfl) (Wt.plain rfl) rfl rfl ?_
    refine T.q (q_not rfl rfl) (Wt.plain rfl) rfl rfl ?_
    refine T.q (q_move rfl rfl) (Wt.plain rfl) rfl rfl ?_
    refine T.no (Wn.no rfl rfl rfl rfl) rfl rfl ?_
    refine T.no (Wn.no rfl rfl rfl rfl) rfl rfl ?_
    refine T.no (Wn.no rfl rfl rfl rfl) rfl rfl ?_
    refine T.no (Wn.no rfl rfl rfl rfl) rfl rfl ?_
    refine T.q (q_pickT rfl rfl rfl) (Wt.plain rfl) rfl rfl ?_
    refine T.nil ?_
    refine Ex.next ?_
    refine W.less (L' := [(136, _)]) [false] ⟨rfl, trivial⟩ ?_
    change (_ : List Blk → Prop) []
    refine W.condT rfl ?_
    refine W.seq ?_
    refine W.region ?_
    refine T.q (q_assign rfl rfl) (Wt.plain rfl) rfl rfl ?_
    refine T.nil ?_
    refine Ex.next ?_
    refine W.slots (L' := [(2, _)]) ⟨rfl, trivial⟩ ?_
    refine W.ret ?_
    refine Ex.then_ret ?_
    refine Ex.out1 [] rfl rfl ?_
    exact ⟨congrArg (Value.int .i64) (chkE_no (f := ⟨5, a, l, rs, bs, tok⟩) fun (h : mayN 5 a l bs.length rs.length (risN rs (a + 1) 4611686018427387903) (risN rs 0 a) (tokN tok)) => by unfold mayN at h; omega).symm, rfl⟩
  replace hb4 := of_decide_eq_false hb4
  refine T.q (q_move rfl rfl) (Wt.yes rfl rfl rfl) rfl rfl ?_
  refine T.q (q_not rfl rfl) (Wt.yes rfl rfl rfl) rfl rfl ?_
  refine T.q (q_move rfl rfl) (Wt.yes rfl rfl rfl) rfl rfl ?_
  refine T.q (q_fld fl59_5 rfl rfl) (Wt.yes rfl rfl rfl) rfl rfl ?_
  refine T.q (q_loadW (wide_ints wd57 (by first | omega | (simp; done) | (simp [-List.getD_eq_getElem?_getD]; omega) | (simp at *; omega) | rfl)) (R_at 0 5 8 rfl (part_skip1 (part_skip1 (part_skip1 (part_skip1 (part_skip1 (part_last (by first | omega | (simp; done) | (simp [-List.getD_eq_getElem?_getD]; omega) | (simp at *; omega) | rfl)))))))) rfl rfl) (Wt.yes rfl rfl rfl) rfl rfl ?_
  refine T.q (q_build (v := .agg (ints .u8 (List.replicate 8 0)).toArray) rfl rfl (fun _ => by kernel_rfl)) (Wt.yes rfl rfl rfl) rfl rfl ?_
  refine T.q (q_bool (b := decide (tokN tok ≠ 1)) (q_neqA ar57 ss5 un5 eg57 rfl rfl rfl (by first | omega | (simp; done) | (simp [-List.getD_eq_getElem?_getD]; omega) | (simp at *; omega) | rfl) (by first | omega | (simp; done) | (simp [-List.getD_eq_getElem?_getD]; omega) | (simp at *; omega) | rfl)) ?hE) (Wt.yes rfl rfl rfl) rfl rfl ?_
  case hE => exact tok_neq
  refine T.q (q_pickT rfl rfl rfl) (Wt.yes rfl rfl rfl) rfl rfl ?_
  refine T.q (q_pickF rfl rfl rfl) (Wt.plain rfl) rfl rfl ?_
  refine T.nil ?_
  refine Ex.next ?_
  refine W.slots (L' := [(1, _), (4, _), (128, _)]) ⟨rfl, rfl, rfl, trivial⟩ ?_
  refine W.cond _ rfl (fun hb5 => ?_) (fun hb5 => ?_)
  · replace hb5 := of_decide_eq_true hb5
    refine W.region ?_
    refine T.q (q_assign rfl rfl) (Wt.plain rfl) rfl rfl ?_
    refine T.nil ?_
    refine Ex.next ?_
    refine W.slots (L' := [(1, _), (4, _)]) ⟨rfl, rfl, trivial⟩ ?_
    refine W.seq ?_
    refine W.seq ?_
    refine W.region ?_
    refine T.q (q_move rfl rfl) (Wt.plain rfl) rfl rfl ?_
    refine T.q (q_not rfl rfl) (Wt.plain rfl) rfl rfl ?_
    refine T.q (q_move rfl rfl) (Wt.plain rfl) rfl rfl ?_
    refine T.no (Wn.no rfl rfl rfl rfl) rfl rfl ?_
    refine T.no (Wn.no rfl rfl rfl rfl) rfl rfl ?_
    refine T.no (Wn.no rfl rfl rfl rfl) rfl rfl ?_
    refine T.no (Wn.no rfl rfl rfl rfl) rfl rfl ?_
    refine T.q (q_pickT rfl rfl rfl) (Wt.plain rfl) rfl rfl ?_
    refine T.nil ?_
    refine Ex.next ?_
    refine W.less (L' := [(136, _)]) [false] ⟨rfl, trivial⟩ ?_
    change (_ : List Blk → Prop) []
    refine W.condT rfl ?_
    refine W.seq ?_
    refine W.region ?_
    refine T.q (q_assign rfl rfl) (Wt.plain rfl) rfl rfl ?_
    refine T.nil ?_
    refine Ex.next ?_
    refine W.slots (L' := [(2, _)]) ⟨rfl, trivial⟩ ?_
    refine W.ret ?_
    refine Ex.then_ret ?_
    refine Ex.out1 [] rfl rfl ?_
    exact ⟨congrArg (Value.int .i64) (chkE_no (f := ⟨5, a, l, rs, bs, tok⟩) fun (h : mayN 5 a l bs.length rs.length (risN rs (a + 1) 4611686018427387903) (risN rs 0 a) (tokN tok)) => by unfold mayN at h; omega).symm, rfl⟩
  replace hb5 := of_decide_eq_false hb5
  refine W.skip ?_
  refine Ex.next ?_
  refine W.slots (L' := [(1, _), (4, _)]) ⟨rfl, rfl, trivial⟩ ?_
  refine W.seq ?_
  refine W.seq ?_
  refine W.region ?_
  refine T.q (q_move rfl rfl) (Wt.plain rfl) rfl rfl ?_
  refine T.q (q_bool (q_not rfl rfl) (decide_not (p := (a ≤ 65535))).symm) (Wt.plain rfl) rfl rfl ?_
  refine T.q (q_move rfl rfl) (Wt.plain rfl) rfl rfl ?_
  refine T.both (t := 131) _ rfl (fun hb6 => ?_) (fun hb6 => ?_)
  · replace hb6 := of_decide_eq_true hb6
    refine T.no (Wn.no rfl rfl rfl rfl) rfl rfl ?_
    refine T.no (Wn.no rfl rfl rfl rfl) rfl rfl ?_
    refine T.no (Wn.no rfl rfl rfl rfl) rfl rfl ?_
    refine T.no (Wn.no rfl rfl rfl rfl) rfl rfl ?_
    refine T.q (q_pickT rfl rfl rfl) (Wt.plain rfl) rfl rfl ?_
    refine T.nil ?_
    refine Ex.next ?_
    refine W.less (L' := [(136, _)]) [false] ⟨rfl, trivial⟩ ?_
    change (_ : List Blk → Prop) []
    refine W.condT rfl ?_
    refine W.seq ?_
    refine W.region ?_
    refine T.q (q_assign rfl rfl) (Wt.plain rfl) rfl rfl ?_
    refine T.nil ?_
    refine Ex.next ?_
    refine W.slots (L' := [(2, _)]) ⟨rfl, trivial⟩ ?_
    refine W.ret ?_
    refine Ex.then_ret ?_
    refine Ex.out1 [] rfl rfl ?_
    exact ⟨congrArg (Value.int .i64) (chkE_no (f := ⟨5, a, l, rs, bs, tok⟩) fun (h : mayN 5 a l bs.length rs.length (risN rs (a + 1) 4611686018427387903) (risN rs 0 a) (tokN tok)) => by unfold mayN at h; omega).symm, rfl⟩
  replace hb6 := of_decide_eq_false hb6
  refine T.q (q_fld fl59_1 rfl rfl) (Wt.yes rfl rfl rfl) rfl rfl ?_
  refine T.q (q_load1 ss3 0 rfl rfl rfl (cell_skip1 (rfl))) (Wt.yes rfl rfl rfl) rfl rfl ?_
  refine T.eff (e_call enters66 rfl rfl (fun w hm => refnum_spec a w) rfl rfl) (Wt.yes rfl rfl rfl) ?_
  rintro _ _ ⟨_, _, ⟨rfl, rfl⟩, rfl, rfl⟩
  change (_ : List Blk → Prop) [_]
  refine T.q (q_bool (q_not rfl rfl) (decide_not (p := (0 ≤ a ∧ a ≤ 4611686018427387903))).symm) (Wt.yes rfl rfl rfl) rfl rfl ?_
  refine T.q (q_pickF rfl rfl rfl) (Wt.plain rfl) rfl rfl ?_
  refine T.nil ?_
  refine Ex.next ?_
  refine W.less (L' := [(136, _)]) [false] ⟨rfl, trivial⟩ ?_
  change (_ : List Blk → Prop) []
  refine W.cond _ rfl (fun hb7 => ?_) (fun hb7 => ?_)
  · replace hb7 := of_decide_eq_true hb7
    refine W.seq ?_
    refine W.region ?_
    refine T.q (q_assign rfl rfl) (Wt.plain rfl) rfl rfl ?_
    refine T.nil ?_
    refine Ex.next ?_
    refine W.slots (L' := [(2, _)]) ⟨rfl, trivial⟩ ?_
    refine W.ret ?_
    refine Ex.then_ret ?_
    refine Ex.out1 [] rfl rfl ?_
    exact ⟨congrArg (Value.int .i64) (chkE_no (f := ⟨5, a, l, rs, bs, tok⟩) fun (h : mayN 5 a l bs.length rs.length (risN rs (a + 1) 4611686018427387903) (risN rs 0 a) (tokN tok)) => by unfold mayN at h; omega).symm, rfl⟩
  replace hb7 := of_decide_eq_false hb7
  refine W.skip ?_
  refine Ex.next ?_
  refine W.slots (L' := []) trivial ?_
  refine W.seq ?_
  refine W.region ?_
  refine T.q (q_assign rfl rfl) (Wt.plain rfl) rfl rfl ?_
  refine T.nil ?_
  refine Ex.next ?_
  refine W.slots (L' := [(2, _)]) ⟨rfl, trivial⟩ ?_
  refine W.ret ?_
  refine Ex.out1 [] rfl rfl ?_
  exact ⟨congrArg (Value.int .i64) (chkE_yes (f := ⟨5, a, l, rs, bs, tok⟩) (show mayN 5 a l bs.length rs.length (risN rs (a + 1) 4611686018427387903) (risN rs 0 a) (tokN tok) by unfold mayN; omega)).symm, rfl⟩
set_option maxRecDepth 100000 in
theorem refchk_6 (a l : Int) (rs : List (Int × Int)) (bs tok : List Int) (RA BA : Option Addr) (rc bc : Nat) (_hrl : rs.length ≤ 9223372036854775807) (htok : tok.length = 8) (w0 : World) (_hR : Reads w0 RA (ints .i64 (flat rs))) : Does Try.prog 48 #[.agg (.int .i64 6 :: (.int .i64 a :: (.int .i64 l :: (.slice RA rs.length rc :: (.slice BA bs.length bc :: (ints .u8 tok)))))).toArray] w0 [] (fun v G => v = .int .i64 (chkE ⟨6, a, l, rs, bs, tok⟩) ∧ G = []) := by
  refine spec_of 137 Try.func48 rfl rfl rfl ?_
  refine W.seq ?_
  refine W.region ?_
  refine T.eff (e_box rfl rfl rfl rfl) (Wt.plain rfl) ?_
  rintro _ _ ⟨k1, rfl, rfl⟩
  change (_ : List Blk → Prop) [_]
  change (_ : List Blk → Prop) [⟨some k1, .int .i64 6 :: (.int .i64 a :: (.int .i64 l :: (.slice RA rs.length rc :: (.slice BA bs.length bc :: (ints .u8 tok))))), 59, (0, 0)⟩]
  refine T.q (q_assign rfl rfl) (Wt.plain rfl) rfl rfl ?_
  refine T.nil ?_
  refine Ex.next ?_
  refine W.slots (L' := [(1, _)]) ⟨rfl, trivial⟩ ?_
  refine W.seq ?_
  refine W.region ?_
  refine T.q (q_fld fl59_0 rfl rfl) (Wt.plain rfl) rfl rfl ?_
  refine T.q (q_load1 ss3 0 rfl rfl rfl (rfl)) (Wt.plain rfl) rfl rfl ?_
  refine T.q (q_bool (b := false) (q_eql rfl rfl rfl) (decide_eq_false (by decide))) (Wt.plain rfl) rfl rfl ?_
  refine T.q (q_move rfl rfl) (Wt.plain rfl) rfl rfl ?_
  refine T.q (q_fld fl59_0 rfl rfl) (Wt.yes rfl rfl rfl) rfl rfl ?_
  refine T.q (q_load1 ss3 0 rfl rfl rfl (rfl)) (Wt.yes rfl rfl rfl) rfl rfl ?_
  refine T.q (q_bool (b := false) (q_eql rfl rfl rfl) (decide_eq_false (by decide))) (Wt.yes rfl rfl rfl) rfl rfl ?_
  refine T.q (q_pickF rfl rfl rfl) (Wt.plain rfl) rfl rfl ?_
  refine T.q (q_assign rfl rfl) (Wt.plain rfl) rfl rfl ?_
  refine T.nil ?_
  refine Ex.next ?_
  refine W.slots (L' := [(1, _), (3, _)]) ⟨rfl, rfl, trivial⟩ ?_
  refine W.seq ?_
  refine W.region ?_
  refine T.q (q_assign rfl rfl) (Wt.plain rfl) rfl rfl ?_
  refine T.nil ?_
  refine Ex.next ?_
  refine W.slots (L' := [(1, _), (3, _), (4, _)]) ⟨rfl, rfl, rfl, trivial⟩ ?_
  refine W.seq ?_
  refine W.seq ?_
  refine W.region ?_
  refine T.q (q_fld fl59_0 rfl rfl) (Wt.plain rfl) rfl rfl ?_
  refine T.q (q_load1 ss3 0 rfl rfl rfl (rfl)) (Wt.plain rfl) rfl rfl ?_
  refine T.nil ?_
  refine Ex.next ?_
  refine W.slots (L' := [(1, _), (3, _), (4, _), (14, _)]) ⟨rfl, rfl, rfl, rfl, trivial⟩ ?_
  refine W.block ?_
  refine W.seq ?_
  refine W.region ?_
  refine T.q (q_bool (b := false) (q_eql rfl rfl rfl) (decide_eq_false (by decide))) (Wt.plain rfl) rfl rfl ?_
  refine T.q (q_assign rfl rfl) (Wt.plain rfl) rfl rfl ?_
  refine T.nil ?_
  refine Ex.next ?_
  refine W.slots (L' := [(1, _), (3, _), (4, _), (14, _), (15, _)]) ⟨rfl, rfl, rfl, rfl, rfl, trivial⟩ ?_
  refine W.condF rfl ?_
  refine W.seq ?_
  refine W.region ?_
  refine T.q (q_bool (b := false) (q_eql rfl rfl rfl) (decide_eq_false (by decide))) (Wt.plain rfl) rfl rfl ?_
  refine T.q (q_assign rfl rfl) (Wt.plain rfl) rfl rfl ?_
  refine T.nil ?_
  refine Ex.next ?_
  refine W.slots (L' := [(1, _), (3, _), (4, _), (14, _), (27, _)]) ⟨rfl, rfl, rfl, rfl, rfl, trivial⟩ ?_
  refine W.condF rfl ?_
  refine W.seq ?_
  refine W.seq ?_
  refine W.region ?_
  refine T.q (q_bool (b := false) (q_eql rfl rfl rfl) (decide_eq_false (by decide))) (Wt.plain rfl) rfl rfl ?_
  refine T.q (q_assign rfl rfl) (Wt.plain rfl) rfl rfl ?_
  refine T.nil ?_
  refine Ex.next ?_
  refine W.slots (L' := [(1, _), (3, _), (4, _), (14, _), (44, _)]) ⟨rfl, rfl, rfl, rfl, rfl, trivial⟩ ?_
  refine W.condF rfl ?_
  refine W.region ?_
  refine T.q (q_bool (b := false) (q_eql rfl rfl rfl) (decide_eq_false (by decide))) (Wt.plain rfl) rfl rfl ?_
  refine T.q (q_assign rfl rfl) (Wt.plain rfl) rfl rfl ?_
  refine T.nil ?_
  refine Ex.next ?_
  refine W.slots (L' := [(1, _), (3, _), (4, _), (14, _), (44, _)]) ⟨rfl, rfl, rfl, rfl, rfl, trivial⟩ ?_
  refine W.condF rfl ?_
  refine W.seq ?_
  refine W.region ?_
  refine T.q (q_bool (b := false) (q_eql rfl rfl rfl) (decide_eq_false (by decide))) (Wt.plain rfl) rfl rfl ?_
  refine T.q (q_assign rfl rfl) (Wt.plain rfl) rfl rfl ?_
  refine T.nil ?_
  refine Ex.next ?_
  refine W.slots (L' := [(1, _), (3, _), (4, _), (14, _), (50, _)]) ⟨rfl, rfl, rfl, rfl, rfl, trivial⟩ ?_
  refine W.condF rfl ?_
  refine W.seq ?_
  refine W.region ?_
  refine T.q (q_bool (b := true) (q_eql rfl rfl rfl) (decide_eq_true (by decide))) (Wt.plain rfl) rfl rfl ?_
  refine T.q (q_assign rfl rfl) (Wt.plain rfl) rfl rfl ?_
  refine T.nil ?_
  refine Ex.next ?_
  refine W.slots (L' := [(1, _), (3, _), (4, _), (14, _), (55, _)]) ⟨rfl, rfl, rfl, rfl, rfl, trivial⟩ ?_
  refine W.condT rfl ?_
  refine W.skip ?_
  refine Ex.in_normal ?_
  refine Ex.next ?_
  refine W.slots (L' := [(1, _), (3, _), (4, _)]) ⟨rfl, rfl, rfl, trivial⟩ ?_
  refine W.seq ?_
  refine W.seq ?_
  refine W.region ?_
  refine T.q (q_fld fl59_0 rfl rfl) (Wt.plain rfl) rfl rfl ?_
  refine T.q (q_load1 ss3 0 rfl rfl rfl (rfl)) (Wt.plain rfl) rfl rfl ?_
  refine T.q (q_bool (b := true) (q_neq rfl rfl rfl) (decide_eq_true (by decide))) (Wt.plain rfl) rfl rfl ?_
  refine T.q (q_move rfl rfl) (Wt.plain rfl) rfl rfl ?_
  refine T.q (q_fld fl59_4 rfl rfl) (Wt.yes rfl rfl rfl) rfl rfl ?_
  refine T.q (q_load1 ss22 0 rfl rfl rfl (cell_skip1 (cell_skip1 (cell_skip1 (cell_skip1 (rfl)))))) (Wt.yes rfl rfl rfl) rfl rfl ?_
  refine T.q (q_len sc22 rfl rfl) (Wt.yes rfl rfl rfl) rfl rfl ?_
  refine T.q (q_gtr rfl rfl rfl) (Wt.yes rfl rfl rfl) rfl rfl ?_
  refine T.q (q_pickT rfl rfl rfl) (Wt.plain rfl) rfl rfl ?_
  refine T.q (q_move rfl rfl) (Wt.plain rfl) rfl rfl ?_
  refine T.both (t := 88) _ rfl (fun hb2 => ?_) (fun hb2 => ?_)
  · replace hb2 := of_decide_eq_true hb2
    refine T.no (Wn.no rfl rfl rfl rfl) rfl rfl ?_
    refine T.no (Wn.no rfl rfl rfl rfl) rfl rfl ?_
    refine T.no (Wn.no rfl rfl rfl rfl) rfl rfl ?_
    refine T.no (Wn.no rfl rfl rfl rfl) rfl rfl ?_
    refine T.no (Wn.none rfl rfl rfl) rfl rfl ?_
    refine T.no (Wn.none rfl rfl rfl) rfl rfl ?_
    refine T.no (Wn.none rfl rfl rfl) rfl rfl ?_
    refine T.no (Wn.no rfl rfl rfl rfl) rfl rfl ?_
    refine T.no (Wn.no rfl rfl rfl rfl) rfl rfl ?_
    refine T.no (Wn.none rfl rfl rfl) rfl rfl ?_
    refine T.no (Wn.none rfl rfl rfl) rfl rfl ?_
    refine T.no (Wn.none rfl rfl rfl) rfl rfl ?_
    refine T.no (Wn.no rfl rfl rfl rfl) rfl rfl ?_
    refine T.q (q_pickT rfl rfl rfl) (Wt.plain rfl) rfl rfl ?_
    refine T.q (q_move rfl rfl) (Wt.plain rfl) rfl rfl ?_
    refine T.no (Wn.no rfl rfl rfl rfl) rfl rfl ?_
    refine T.no (Wn.no rfl rfl rfl rfl) rfl rfl ?_
    refine T.no (Wn.no rfl rfl rfl rfl) rfl rfl ?_
    refine T.no (Wn.no rfl rfl rfl rfl) rfl rfl ?_
    refine T.no (Wn.none rfl rfl rfl) rfl rfl ?_
    refine T.no (Wn.none rfl rfl rfl) rfl rfl ?_
    refine T.no (Wn.none rfl rfl rfl) rfl rfl ?_
    refine T.no (Wn.no rfl rfl rfl rfl) rfl rfl ?_
    refine T.no (Wn.no rfl rfl rfl rfl) rfl rfl ?_
    refine T.no (Wn.none rfl rfl rfl) rfl rfl ?_
    refine T.no (Wn.none rfl rfl rfl) rfl rfl ?_
    refine T.no (Wn.none rfl rfl rfl) rfl rfl ?_
    refine T.no (Wn.none rfl rfl rfl) rfl rfl ?_
    refine T.no (Wn.no rfl rfl rfl rfl) rfl rfl ?_
    refine T.q (q_pickT rfl rfl rfl) (Wt.plain rfl) rfl rfl ?_
    refine T.q (q_move rfl rfl) (Wt.plain rfl) rfl rfl ?_
    refine T.no (Wn.no rfl rfl rfl rfl) rfl rfl ?_
    refine T.no (Wn.no rfl rfl rfl rfl) rfl rfl ?_
    refine T.no (Wn.no rfl rfl rfl rfl) rfl rfl ?_
    refine T.no (Wn.none rfl rfl rfl) rfl rfl ?_
    refine T.no (Wn.none rfl rfl rfl) rfl rfl ?_
    refine T.no (Wn.none rfl rfl rfl) rfl rfl ?_
    refine T.no (Wn.none rfl rfl rfl) rfl rfl ?_
    refine T.no (Wn.no rfl rfl rfl rfl) rfl rfl ?_
    refine T.q (q_pickT rfl rfl rfl) (Wt.plain rfl) rfl rfl ?_
    refine T.nil ?_
    refine Ex.next ?_
    refine W.slots (L' := [(1, _), (4, _), (128, _)]) ⟨rfl, rfl, rfl, trivial⟩ ?_
    refine W.condT rfl ?_
    refine W.region ?_
    refine T.q (q_assign rfl rfl) (Wt.plain rfl) rfl rfl ?_
    refine T.nil ?_
    refine Ex.next ?_
    refine W.slots (L' := [(1, _), (4, _)]) ⟨rfl, rfl, trivial⟩ ?_
    refine W.seq ?_
    refine W.seq ?_
    refine W.region ?_
    refine T.q (q_move rfl rfl) (Wt.plain rfl) rfl rfl ?_
    refine T.q (q_not rfl rfl) (Wt.plain rfl) rfl rfl ?_
    refine T.q (q_move rfl rfl) (Wt.plain rfl) rfl rfl ?_
    refine T.no (Wn.no rfl rfl rfl rfl) rfl rfl ?_
    refine T.no (Wn.no rfl rfl rfl rfl) rfl rfl ?_
    refine T.no (Wn.no rfl rfl rfl rfl) rfl rfl ?_
    refine T.no (Wn.no rfl rfl rfl rfl) rfl rfl ?_
    refine T.q (q_pickT rfl rfl rfl) (Wt.plain rfl) rfl rfl ?_
    refine T.nil ?_
    refine Ex.next ?_
    refine W.less (L' := [(136, _)]) [false] ⟨rfl, trivial⟩ ?_
    change (_ : List Blk → Prop) []
    refine W.condT rfl ?_
    refine W.seq ?_
    refine W.region ?_
    refine T.q (q_assign rfl rfl) (Wt.plain rfl) rfl rfl ?_
    refine T.nil ?_
    refine Ex.next ?_
    refine W.slots (L' := [(2, _)]) ⟨rfl, trivial⟩ ?_
    refine W.ret ?_
    refine Ex.then_ret ?_
    refine Ex.out1 [] rfl rfl ?_
    exact ⟨congrArg (Value.int .i64) (chkE_no (f := ⟨6, a, l, rs, bs, tok⟩) fun (h : mayN 6 a l bs.length rs.length (risN rs (a + 1) 4611686018427387903) (risN rs 0 a) (tokN tok)) => by unfold mayN at h; omega).symm, rfl⟩
  replace hb2 := of_decide_eq_false hb2
  refine T.q (q_fld fl59_0 rfl rfl) (Wt.yes rfl rfl rfl) rfl rfl ?_
  refine T.q (q_load1 ss3 0 rfl rfl rfl (rfl)) (Wt.yes rfl rfl rfl) rfl rfl ?_
  refine T.q (q_bool (b := true) (q_neq rfl rfl rfl) (decide_eq_true (by decide))) (Wt.yes rfl rfl rfl) rfl rfl ?_
  refine T.q (q_move rfl rfl) (Wt.yes rfl rfl rfl) rfl rfl ?_
  refine T.q (q_fld fl59_0 rfl rfl) (Wt.yes rfl rfl rfl) rfl rfl ?_
  refine T.q (q_load1 ss3 0 rfl rfl rfl (rfl)) (Wt.yes rfl rfl rfl) rfl rfl ?_
  refine T.q (q_bool (b := true) (q_neq rfl rfl rfl) (decide_eq_true (by decide))) (Wt.yes rfl rfl rfl) rfl rfl ?_
  refine T.q (q_pickT rfl rfl rfl) (Wt.yes rfl rfl rfl) rfl rfl ?_
  refine T.q (q_move rfl rfl) (Wt.yes rfl rfl rfl) rfl rfl ?_
  refine T.q (q_fld fl59_2 rfl rfl) (Wt.yes rfl rfl rfl) rfl rfl ?_
  refine T.q (q_load1 ss3 0 rfl rfl rfl (cell_skip1 (cell_skip1 (rfl)))) (Wt.yes rfl rfl rfl) rfl rfl ?_
  refine T.q (q_neq rfl rfl rfl) (Wt.yes rfl rfl rfl) rfl rfl ?_
  refine T.q (q_pickT rfl rfl rfl) (Wt.yes rfl rfl rfl) rfl rfl ?_
  refine T.q (q_pickF rfl rfl rfl) (Wt.plain rfl) rfl rfl ?_
  refine T.q (q_move rfl rfl) (Wt.plain rfl) rfl rfl ?_
  refine T.both (t := 103) _ rfl (fun hb3 => ?_) (fun hb3 => ?_)
  · replace hb3 := of_decide_eq_true hb3
    refine T.no (Wn.no rfl rfl rfl rfl) rfl rfl ?_
    refine T.no (Wn.no rfl rfl rfl rfl) rfl rfl ?_
    refine T.no (Wn.no rfl rfl rfl rfl) rfl rfl ?_
    refine T.no (Wn.no rfl rfl rfl rfl) rfl rfl ?_
    refine T.no (Wn.none rfl rfl rfl) rfl rfl ?_
    refine T.no (Wn.none rfl rfl rfl) rfl rfl ?_
    refine T.no (Wn.none rfl rfl rfl) rfl rfl ?_
    refine T.no (Wn.no rfl rfl rfl rfl) rfl rfl ?_
    refine T.no (Wn.no rfl rfl rfl rfl) rfl rfl ?_
    refine T.no (Wn.none rfl rfl rfl) rfl rfl ?_
    refine T.no (Wn.none rfl rfl rfl) rfl rfl ?_
    refine T.no (Wn.none rfl rfl rfl) rfl rfl ?_
    refine T.no (Wn.none rfl rfl rfl) rfl rfl ?_
    refine T.no (Wn.no rfl rfl rfl rfl) rfl rfl ?_
    refine T.q (q_pickT rfl rfl rfl) (Wt.plain rfl) rfl rfl ?_
    refine T.q (q_move rfl rfl) (Wt.plain rfl) rfl rfl ?_
    refine T.no (Wn.no rfl rfl rfl rfl) rfl rfl ?_
    refine T.no (Wn.no rfl rfl rfl rfl) rfl rfl ?_
    refine T.no (Wn.no rfl rfl rfl rfl) rfl rfl ?_
    refine T.no (Wn.none rfl rfl rfl) rfl rfl ?_
    refine T.no (Wn.none rfl rfl rfl) rfl rfl ?_
    refine T.no (Wn.none rfl rfl rfl) rfl rfl ?_
    refine T.no (Wn.none rfl rfl rfl) rfl rfl ?_
    refine T.no (Wn.no rfl rfl rfl rfl) rfl rfl ?_
    refine T.q (q_pickT rfl rfl rfl) (Wt.plain rfl) rfl rfl ?_
    refine T.nil ?_
    refine Ex.next ?_
    refine W.slots (L' := [(1, _), (4, _), (128, _)]) ⟨rfl, rfl, rfl, trivial⟩ ?_
    refine W.condT rfl ?_
    refine W.region ?_
    refine T.q (q_assign rfl rfl) (Wt.plain rfl) rfl rfl ?_
    refine T.nil ?_
    refine Ex.next ?_
    refine W.slots (L' := [(1, _), (4, _)]) ⟨rfl, rfl, trivial⟩ ?_
    refine W.seq ?_
    refine W.seq ?_
    refine W.region ?_
    refine T.q (q_move rfl rfl) (Wt.plain rfl) rfl rfl ?_
    refine T.q (q_not rfl rfl) (Wt.plain rfl) rfl rfl ?_
    refine T.q (q_move rfl rfl) (Wt.plain rfl) rfl rfl ?_
    refine T.no (Wn.no rfl rfl rfl rfl) rfl rfl ?_
    refine T.no (Wn.no rfl rfl rfl rfl) rfl rfl ?_
    refine T.no (Wn.no rfl rfl rfl rfl) rfl rfl ?_
    refine T.no (Wn.no rfl rfl rfl rfl) rfl rfl ?_
    refine T.q (q_pickT rfl rfl rfl) (Wt.plain rfl) rfl rfl ?_
    refine T.nil ?_
    refine Ex.next ?_
    refine W.less (L' := [(136, _)]) [false] ⟨rfl, trivial⟩ ?_
    change (_ : List Blk → Prop) []
    refine W.condT rfl ?_
    refine W.seq ?_
    refine W.region ?_
    refine T.q (q_assign rfl rfl) (Wt.plain rfl) rfl rfl ?_
    refine T.nil ?_
    refine Ex.next ?_
    refine W.slots (L' := [(2, _)]) ⟨rfl, trivial⟩ ?_
    refine W.ret ?_
    refine Ex.then_ret ?_
    refine Ex.out1 [] rfl rfl ?_
    exact ⟨congrArg (Value.int .i64) (chkE_no (f := ⟨6, a, l, rs, bs, tok⟩) fun (h : mayN 6 a l bs.length rs.length (risN rs (a + 1) 4611686018427387903) (risN rs 0 a) (tokN tok)) => by unfold mayN at h; omega).symm, rfl⟩
  replace hb3 := of_decide_eq_false hb3
  refine T.q (q_fld fl59_0 rfl rfl) (Wt.yes rfl rfl rfl) rfl rfl ?_
  refine T.q (q_load1 ss3 0 rfl rfl rfl (rfl)) (Wt.yes rfl rfl rfl) rfl rfl ?_
  refine T.q (q_bool (b := true) (q_neq rfl rfl rfl) (decide_eq_true (by decide))) (Wt.yes rfl rfl rfl) rfl rfl ?_
  refine T.q (q_move rfl rfl) (Wt.yes rfl rfl rfl) rfl rfl ?_
  refine T.q (q_fld fl59_0 rfl rfl) (Wt.yes rfl rfl rfl) rfl rfl ?_
  refine T.q (q_load1 ss3 0 rfl rfl rfl (rfl)) (Wt.yes rfl rfl rfl) rfl rfl ?_
  refine T.q (q_bool (b := true) (q_neq rfl rfl rfl) (decide_eq_true (by decide))) (Wt.yes rfl rfl rfl) rfl rfl ?_
  refine T.q (q_pickT rfl rfl rfl) (Wt.yes rfl rfl rfl) rfl rfl ?_
  refine T.q (q_move rfl rfl) (Wt.yes rfl rfl rfl) rfl rfl ?_
  refine T.q (q_fld fl59_3 rfl rfl) (Wt.yes rfl rfl rfl) rfl rfl ?_
  refine T.q (q_load1 ss56 0 rfl rfl rfl (cell_skip1 (cell_skip1 (cell_skip1 (rfl))))) (Wt.yes rfl rfl rfl) rfl rfl ?_
  refine T.q (q_len sc56 rfl rfl) (Wt.yes rfl rfl rfl) rfl rfl ?_
  refine T.q (q_gtr rfl rfl rfl) (Wt.yes rfl rfl rfl) rfl rfl ?_
  refine T.q (q_pickT rfl rfl rfl) (Wt.yes rfl rfl rfl) rfl rfl ?_
  refine T.q (q_pickF rfl rfl rfl) (Wt.plain rfl) rfl rfl ?_
  refine T.q (q_move rfl rfl) (Wt.plain rfl) rfl rfl ?_
  refine T.both (t := 119) _ rfl (fun hb4 => ?_) (fun hb4 => ?_)
  · replace hb4 := of_decide_eq_true hb4
    refine T.no (Wn.no rfl rfl rfl rfl) rfl rfl ?_
    refine T.no (Wn.no rfl rfl rfl rfl) rfl rfl ?_
    refine T.no (Wn.no rfl rfl rfl rfl) rfl rfl ?_
    refine T.no (Wn.none rfl rfl rfl) rfl rfl ?_
    refine T.no (Wn.none rfl rfl rfl) rfl rfl ?_
    refine T.no (Wn.none rfl rfl rfl) rfl rfl ?_
    refine T.no (Wn.none rfl rfl rfl) rfl rfl ?_
    refine T.no (Wn.no rfl rfl rfl rfl) rfl rfl ?_
    refine T.q (q_pickT rfl rfl rfl) (Wt.plain rfl) rfl rfl ?_
    refine T.nil ?_
    refine Ex.next ?_
    refine W.slots (L' := [(1, _), (4, _), (128, _)]) ⟨rfl, rfl, rfl, trivial⟩ ?_
    refine W.condT rfl ?_
    refine W.region ?_
    refine T.q (q_assign rfl rfl) (Wt.plain rfl) rfl rfl ?_
    refine T.nil ?_
    refine Ex.next ?_
    refine W.slots (L' := [(1, _), (4, _)]) ⟨rfl, rfl, trivial⟩ ?_
    refine W.seq ?_
    refine W.seq ?_
    refine W.region ?_
    refine T.q (q_move rfl rfl) (Wt.plain rfl) rfl rfl ?_
    refine T.q (q_not rfl rfl) (Wt.plain rfl) rfl rfl ?_
    refine T.q (q_move rfl rfl) (Wt.plain rfl) rfl rfl ?_
    refine T.no (Wn.no rfl rfl rfl rfl) rfl rfl ?_
    refine T.no (Wn.no rfl rfl rfl rfl) rfl rfl ?_
    refine T.no (Wn.no rfl rfl rfl rfl) rfl rfl ?_
    refine T.no (Wn.no rfl rfl rfl rfl) rfl rfl ?_
    refine T.q (q_pickT rfl rfl rfl) (Wt.plain rfl) rfl rfl ?_
    refine T.nil ?_
    refine Ex.next ?_
    refine W.less (L' := [(136, _)]) [false] ⟨rfl, trivial⟩ ?_
    change (_ : List Blk → Prop) []
    refine W.condT rfl ?_
    refine W.seq ?_
    refine W.region ?_
    refine T.q (q_assign rfl rfl) (Wt.plain rfl) rfl rfl ?_
    refine T.nil ?_
    refine Ex.next ?_
    refine W.slots (L' := [(2, _)]) ⟨rfl, trivial⟩ ?_
    refine W.ret ?_
    refine Ex.then_ret ?_
    refine Ex.out1 [] rfl rfl ?_
    exact ⟨congrArg (Value.int .i64) (chkE_no (f := ⟨6, a, l, rs, bs, tok⟩) fun (h : mayN 6 a l bs.length rs.length (risN rs (a + 1) 4611686018427387903) (risN rs 0 a) (tokN tok)) => by unfold mayN at h; omega).symm, rfl⟩
  replace hb4 := of_decide_eq_false hb4
  refine T.q (q_move rfl rfl) (Wt.yes rfl rfl rfl) rfl rfl ?_
  refine T.q (q_not rfl rfl) (Wt.yes rfl rfl rfl) rfl rfl ?_
  refine T.q (q_move rfl rfl) (Wt.yes rfl rfl rfl) rfl rfl ?_
  refine T.q (q_fld fl59_5 rfl rfl) (Wt.yes rfl rfl rfl) rfl rfl ?_
  refine T.q (q_loadW (wide_ints wd57 (by first | omega | (simp; done) | (simp [-List.getD_eq_getElem?_getD]; omega) | (simp at *; omega) | rfl)) (R_at 0 5 8 rfl (part_skip1 (part_skip1 (part_skip1 (part_skip1 (part_skip1 (part_last (by first | omega | (simp; done) | (simp [-List.getD_eq_getElem?_getD]; omega) | (simp at *; omega) | rfl)))))))) rfl rfl) (Wt.yes rfl rfl rfl) rfl rfl ?_
  refine T.q (q_build (v := .agg (ints .u8 (List.replicate 8 0)).toArray) rfl rfl (fun _ => by kernel_rfl)) (Wt.yes rfl rfl rfl) rfl rfl ?_
  refine T.q (q_bool (b := decide (tokN tok ≠ 1)) (q_neqA ar57 ss5 un5 eg57 rfl rfl rfl (by first | omega | (simp; done) | (simp [-List.getD_eq_getElem?_getD]; omega) | (simp at *; omega) | rfl) (by first | omega | (simp; done) | (simp [-List.getD_eq_getElem?_getD]; omega) | (simp at *; omega) | rfl)) ?hE) (Wt.yes rfl rfl rfl) rfl rfl ?_
  case hE => exact tok_neq
  refine T.q (q_pickT rfl rfl rfl) (Wt.yes rfl rfl rfl) rfl rfl ?_
  refine T.q (q_pickF rfl rfl rfl) (Wt.plain rfl) rfl rfl ?_
  refine T.nil ?_
  refine Ex.next ?_
  refine W.slots (L' := [(1, _), (4, _), (128, _)]) ⟨rfl, rfl, rfl, trivial⟩ ?_
  refine W.cond _ rfl (fun hb5 => ?_) (fun hb5 => ?_)
  · replace hb5 := of_decide_eq_true hb5
    refine W.region ?_
    refine T.q (q_assign rfl rfl) (Wt.plain rfl) rfl rfl ?_
    refine T.nil ?_
    refine Ex.next ?_
    refine W.slots (L' := [(1, _), (4, _)]) ⟨rfl, rfl, trivial⟩ ?_
    refine W.seq ?_
    refine W.seq ?_
    refine W.region ?_
    refine T.q (q_move rfl rfl) (Wt.plain rfl) rfl rfl ?_
    refine T.q (q_not rfl rfl) (Wt.plain rfl) rfl rfl ?_
    refine T.q (q_move rfl rfl) (Wt.plain rfl) rfl rfl ?_
    refine T.no (Wn.no rfl rfl rfl rfl) rfl rfl ?_
    refine T.no (Wn.no rfl rfl rfl rfl) rfl rfl ?_
    refine T.no (Wn.no rfl rfl rfl rfl) rfl rfl ?_
    refine T.no (Wn.no rfl rfl rfl rfl) rfl rfl ?_
    refine T.q (q_pickT rfl rfl rfl) (Wt.plain rfl) rfl rfl ?_
    refine T.nil ?_
    refine Ex.next ?_
    refine W.less (L' := [(136, _)]) [false] ⟨rfl, trivial⟩ ?_
    change (_ : List Blk → Prop) []
    refine W.condT rfl ?_
    refine W.seq ?_
    refine W.region ?_
    refine T.q (q_assign rfl rfl) (Wt.plain rfl) rfl rfl ?_
    refine T.nil ?_
    refine Ex.next ?_
    refine W.slots (L' := [(2, _)]) ⟨rfl, trivial⟩ ?_
    refine W.ret ?_
    refine Ex.then_ret ?_
    refine Ex.out1 [] rfl rfl ?_
    exact ⟨congrArg (Value.int .i64) (chkE_no (f := ⟨6, a, l, rs, bs, tok⟩) fun (h : mayN 6 a l bs.length rs.length (risN rs (a + 1) 4611686018427387903) (risN rs 0 a) (tokN tok)) => by unfold mayN at h; omega).symm, rfl⟩
  replace hb5 := of_decide_eq_false hb5
  refine W.skip ?_
  refine Ex.next ?_
  refine W.slots (L' := [(1, _), (4, _)]) ⟨rfl, rfl, trivial⟩ ?_
  refine W.seq ?_
  refine W.seq ?_
  refine W.region ?_
  refine T.q (q_move rfl rfl) (Wt.plain rfl) rfl rfl ?_
  refine T.q (q_not rfl rfl) (Wt.plain rfl) rfl rfl ?_
  refine T.q (q_move rfl rfl) (Wt.plain rfl) rfl rfl ?_
  refine T.q (q_fld fl59_1 rfl rfl) (Wt.yes rfl rfl rfl) rfl rfl ?_
  refine T.q (q_load1 ss3 0 rfl rfl rfl (cell_skip1 (rfl))) (Wt.yes rfl rfl rfl) rfl rfl ?_
  refine T.eff (e_call enters66 rfl rfl (fun w hm => refnum_spec a w) rfl rfl) (Wt.yes rfl rfl rfl) ?_
  rintro _ _ ⟨_, _, ⟨rfl, rfl⟩, rfl, rfl⟩
  change (_ : List Blk → Prop) [_]
  refine T.q (q_bool (q_not rfl rfl) (decide_not (p := (0 ≤ a ∧ a ≤ 4611686018427387903))).symm) (Wt.yes rfl rfl rfl) rfl rfl ?_
  refine T.q (q_pickF rfl rfl rfl) (Wt.plain rfl) rfl rfl ?_
  refine T.nil ?_
  refine Ex.next ?_
  refine W.less (L' := [(136, _)]) [false] ⟨rfl, trivial⟩ ?_
  change (_ : List Blk → Prop) []
  refine W.cond _ rfl (fun hb6 => ?_) (fun hb6 => ?_)
  · replace hb6 := of_decide_eq_true hb6
    refine W.seq ?_
    refine W.region ?_
    refine T.q (q_assign rfl rfl) (Wt.plain rfl) rfl rfl ?_
    refine T.nil ?_
    refine Ex.next ?_
    refine W.slots (L' := [(2, _)]) ⟨rfl, trivial⟩ ?_
    refine W.ret ?_
    refine Ex.then_ret ?_
    refine Ex.out1 [] rfl rfl ?_
    exact ⟨congrArg (Value.int .i64) (chkE_no (f := ⟨6, a, l, rs, bs, tok⟩) fun (h : mayN 6 a l bs.length rs.length (risN rs (a + 1) 4611686018427387903) (risN rs 0 a) (tokN tok)) => by unfold mayN at h; omega).symm, rfl⟩
  replace hb6 := of_decide_eq_false hb6
  refine W.skip ?_
  refine Ex.next ?_
  refine W.slots (L' := []) trivial ?_
  refine W.seq ?_
  refine W.region ?_
  refine T.q (q_assign rfl rfl) (Wt.plain rfl) rfl rfl ?_
  refine T.nil ?_
  refine Ex.next ?_
  refine W.slots (L' := [(2, _)]) ⟨rfl, trivial⟩ ?_
  refine W.ret ?_
  refine Ex.out1 [] rfl rfl ?_
  exact ⟨congrArg (Value.int .i64) (chkE_yes (f := ⟨6, a, l, rs, bs, tok⟩) (show mayN 6 a l bs.length rs.length (risN rs (a + 1) 4611686018427387903) (risN rs 0 a) (tokN tok) by unfold mayN; omega)).symm, rfl⟩
set_option maxRecDepth 100000 in
theorem refchk_7 (a l : Int) (rs : List (Int × Int)) (bs tok : List Int) (RA BA : Option Addr) (rc bc : Nat) (hrl : rs.length ≤ 9223372036854775807) (htok : tok.length = 8) (w0 : World) (hR : Reads w0 RA (ints .i64 (flat rs))) : Does Try.prog 48 #[.agg (.int .i64 7 :: (.int .i64 a :: (.int .i64 l :: (.slice RA rs.length rc :: (.slice BA bs.length bc :: (ints .u8 tok)))))).toArray] w0 [] (fun v G => v = .int .i64 (chkE ⟨7, a, l, rs, bs, tok⟩) ∧ G = []) := by
  refine spec_of 137 Try.func48 rfl rfl rfl ?_
  refine W.seq ?_
  refine W.region ?_
  refine T.eff (e_box rfl rfl rfl rfl) (Wt.plain rfl) ?_
  rintro _ _ ⟨k1, rfl, rfl⟩
  change (_ : List Blk → Prop) [_]
  change (_ : List Blk → Prop) [⟨some k1, .int .i64 7 :: (.int .i64 a :: (.int .i64 l :: (.slice RA rs.length rc :: (.slice BA bs.length bc :: (ints .u8 tok))))), 59, (0, 0)⟩]
  refine T.q (q_assign rfl rfl) (Wt.plain rfl) rfl rfl ?_
  refine T.nil ?_
  refine Ex.next ?_
  refine W.slots (L' := [(1, _)]) ⟨rfl, trivial⟩ ?_
  refine W.seq ?_
  refine W.region ?_
  refine T.q (q_fld fl59_0 rfl rfl) (Wt.plain rfl) rfl rfl ?_
  refine T.q (q_load1 ss3 0 rfl rfl rfl (rfl)) (Wt.plain rfl) rfl rfl ?_
  refine T.q (q_bool (b := false) (q_eql rfl rfl rfl) (decide_eq_false (by decide))) (Wt.plain rfl) rfl rfl ?_
  refine T.q (q_move rfl rfl) (Wt.plain rfl) rfl rfl ?_
  refine T.q (q_fld fl59_0 rfl rfl) (Wt.yes rfl rfl rfl) rfl rfl ?_
  refine T.q (q_load1 ss3 0 rfl rfl rfl (rfl)) (Wt.yes rfl rfl rfl) rfl rfl ?_
  refine T.q (q_bool (b := false) (q_eql rfl rfl rfl) (decide_eq_false (by decide))) (Wt.yes rfl rfl rfl) rfl rfl ?_
  refine T.q (q_pickF rfl rfl rfl) (Wt.plain rfl) rfl rfl ?_
  refine T.q (q_assign rfl rfl) (Wt.plain rfl) rfl rfl ?_
  refine T.nil ?_
  refine Ex.next ?_
  refine W.slots (L' := [(1, _), (3, _)]) ⟨rfl, rfl, trivial⟩ ?_
  refine W.seq ?_
  refine W.region ?_
  refine T.q (q_assign rfl rfl) (Wt.plain rfl) rfl rfl ?_
  refine T.nil ?_
  refine Ex.next ?_
  refine W.slots (L' := [(1, _), (3, _), (4, _)]) ⟨rfl, rfl, rfl, trivial⟩ ?_
  refine W.seq ?_
  refine W.seq ?_
  refine W.region ?_
  refine T.q (q_fld fl59_0 rfl rfl) (Wt.plain rfl) rfl rfl ?_
  refine T.q (q_load1 ss3 0 rfl rfl rfl (rfl)) (Wt.plain rfl) rfl rfl ?_
  refine T.nil ?_
  refine Ex.next ?_
  refine W.slots (L' := [(1, _), (3, _), (4, _), (14, _)]) ⟨rfl, rfl, rfl, rfl, trivial⟩ ?_
  refine W.block ?_
  refine W.seq ?_
  refine W.region ?_
  refine T.q (q_bool (b := false) (q_eql rfl rfl rfl) (decide_eq_false (by decide))) (Wt.plain rfl) rfl rfl ?_
  refine T.q (q_assign rfl rfl) (Wt.plain rfl) rfl rfl ?_
  refine T.nil ?_
  refine Ex.next ?_
  refine W.slots (L' := [(1, _), (3, _), (4, _), (14, _), (15, _)]) ⟨rfl, rfl, rfl, rfl, rfl, trivial⟩ ?_
  refine W.condF rfl ?_
  refine W.seq ?_
  refine W.region ?_
  refine T.q (q_bool (b := false) (q_eql rfl rfl rfl) (decide_eq_false (by decide))) (Wt.plain rfl) rfl rfl ?_
  refine T.q (q_assign rfl rfl) (Wt.plain rfl) rfl rfl ?_
  refine T.nil ?_
  refine Ex.next ?_
  refine W.slots (L' := [(1, _), (3, _), (4, _), (14, _), (27, _)]) ⟨rfl, rfl, rfl, rfl, rfl, trivial⟩ ?_
  refine W.condF rfl ?_
  refine W.seq ?_
  refine W.seq ?_
  refine W.region ?_
  refine T.q (q_bool (b := false) (q_eql rfl rfl rfl) (decide_eq_false (by decide))) (Wt.plain rfl) rfl rfl ?_
  refine T.q (q_assign rfl rfl) (Wt.plain rfl) rfl rfl ?_
  refine T.nil ?_
  refine Ex.next ?_
  refine W.slots (L' := [(1, _), (3, _), (4, _), (14, _), (44, _)]) ⟨rfl, rfl, rfl, rfl, rfl, trivial⟩ ?_
  refine W.condF rfl ?_
  refine W.region ?_
  refine T.q (q_bool (b := false) (q_eql rfl rfl rfl) (decide_eq_false (by decide))) (Wt.plain rfl) rfl rfl ?_
  refine T.q (q_assign rfl rfl) (Wt.plain rfl) rfl rfl ?_
  refine T.nil ?_
  refine Ex.next ?_
  refine W.slots (L' := [(1, _), (3, _), (4, _), (14, _), (44, _)]) ⟨rfl, rfl, rfl, rfl, rfl, trivial⟩ ?_
  refine W.condF rfl ?_
  refine W.seq ?_
  refine W.region ?_
  refine T.q (q_bool (b := false) (q_eql rfl rfl rfl) (decide_eq_false (by decide))) (Wt.plain rfl) rfl rfl ?_
  refine T.q (q_assign rfl rfl) (Wt.plain rfl) rfl rfl ?_
  refine T.nil ?_
  refine Ex.next ?_
  refine W.slots (L' := [(1, _), (3, _), (4, _), (14, _), (50, _)]) ⟨rfl, rfl, rfl, rfl, rfl, trivial⟩ ?_
  refine W.condF rfl ?_
  refine W.seq ?_
  refine W.region ?_
  refine T.q (q_bool (b := false) (q_eql rfl rfl rfl) (decide_eq_false (by decide))) (Wt.plain rfl) rfl rfl ?_
  refine T.q (q_assign rfl rfl) (Wt.plain rfl) rfl rfl ?_
  refine T.nil ?_
  refine Ex.next ?_
  refine W.slots (L' := [(1, _), (3, _), (4, _), (14, _), (55, _)]) ⟨rfl, rfl, rfl, rfl, rfl, trivial⟩ ?_
  refine W.condF rfl ?_
  refine W.seq ?_
  refine W.region ?_
  refine T.q (q_bool (b := true) (q_eql rfl rfl rfl) (decide_eq_true (by decide))) (Wt.plain rfl) rfl rfl ?_
  refine T.q (q_assign rfl rfl) (Wt.plain rfl) rfl rfl ?_
  refine T.nil ?_
  refine Ex.next ?_
  refine W.slots (L' := [(1, _), (3, _), (57, _)]) ⟨rfl, rfl, rfl, trivial⟩ ?_
  refine W.condT rfl ?_
  refine W.region ?_
  refine T.q (q_fld fl59_1 rfl rfl) (Wt.plain rfl) rfl rfl ?_
  refine T.q (q_load1 ss3 0 rfl rfl rfl (cell_skip1 (rfl))) (Wt.plain rfl) rfl rfl ?_
  refine T.eff (e_call enters66 rfl rfl (fun w hm => refnum_spec a w) rfl rfl) (Wt.plain rfl) ?_
  rintro _ _ ⟨_, _, ⟨rfl, rfl⟩, rfl, rfl⟩
  change (_ : List Blk → Prop) [_]
  refine T.q (q_move rfl rfl) (Wt.plain rfl) rfl rfl ?_
  refine T.both (t := 62) _ rfl (fun hb2 => ?_) (fun hb2 => ?_)
  · replace hb2 := of_decide_eq_true hb2
    refine T.q (q_fld fl59_2 rfl rfl) (Wt.yes rfl rfl rfl) rfl rfl ?_
    refine T.q (q_load1 ss3 0 rfl rfl rfl (cell_skip1 (cell_skip1 (rfl)))) (Wt.yes rfl rfl rfl) rfl rfl ?_
    refine T.q (q_geq rfl rfl rfl) (Wt.yes rfl rfl rfl) rfl rfl ?_
    refine T.q (q_pickT rfl rfl rfl) (Wt.plain rfl) rfl rfl ?_
    refine T.q (q_move rfl rfl) (Wt.plain rfl) rfl rfl ?_
    refine T.both (t := 67) _ rfl (fun hb3 => ?_) (fun hb3 => ?_)
    · replace hb3 := of_decide_eq_true hb3
      refine T.q (q_fld fl59_2 rfl rfl) (Wt.yes rfl rfl rfl) rfl rfl ?_
      refine T.q (q_load1 ss3 0 rfl rfl rfl (cell_skip1 (cell_skip1 (rfl)))) (Wt.yes rfl rfl rfl) rfl rfl ?_
      refine T.q (q_leq rfl rfl rfl) (Wt.yes rfl rfl rfl) rfl rfl ?_
      refine T.q (q_pickT rfl rfl rfl) (Wt.plain rfl) rfl rfl ?_
      refine T.q (q_move rfl rfl) (Wt.plain rfl) rfl rfl ?_
      refine T.both (t := 72) _ rfl (fun hb4 => ?_) (fun hb4 => ?_)
      · replace hb4 := of_decide_eq_true hb4
        refine T.q (q_fld fl59_3 rfl rfl) (Wt.yes rfl rfl rfl) rfl rfl ?_
        refine T.q (q_load1 ss56 0 rfl rfl rfl (cell_skip1 (cell_skip1 (cell_skip1 (rfl))))) (Wt.yes rfl rfl rfl) rfl rfl ?_
        refine T.q (q_fld fl59_1 rfl rfl) (Wt.yes rfl rfl rfl) rfl rfl ?_
        refine T.q (q_load1 ss3 0 rfl rfl rfl (cell_skip1 (rfl))) (Wt.yes rfl rfl rfl) rfl rfl ?_
        refine T.eff (e_call enters67 rfl rfl (fun w hm => refris_at rs _ _ hrl a w ((R_ext hR.ext) w hm)) rfl rfl) (Wt.yes rfl rfl rfl) ?_
        rintro _ _ ⟨_, _, ⟨rfl, rfl⟩, rfl, rfl⟩
        change (_ : List Blk → Prop) [_]
        refine T.q (q_pickT rfl rfl rfl) (Wt.plain rfl) rfl rfl ?_
        refine T.q (q_assign rfl rfl) (Wt.plain rfl) rfl rfl ?_
        refine T.nil ?_
        refine Ex.in_normal ?_
        refine Ex.next ?_
        refine W.slots (L' := [(1, _), (3, _), (4, _)]) ⟨rfl, rfl, rfl, trivial⟩ ?_
        refine W.seq ?_
        refine W.seq ?_
        refine W.region ?_
        refine T.q (q_fld fl59_0 rfl rfl) (Wt.plain rfl) rfl rfl ?_
        refine T.q (q_load1 ss3 0 rfl rfl rfl (rfl)) (Wt.plain rfl) rfl rfl ?_
        refine T.q (q_bool (b := true) (q_neq rfl rfl rfl) (decide_eq_true (by decide))) (Wt.plain rfl) rfl rfl ?_
        refine T.q (q_move rfl rfl) (Wt.plain rfl) rfl rfl ?_
        refine T.q (q_fld fl59_4 rfl rfl) (Wt.yes rfl rfl rfl) rfl rfl ?_
        refine T.q (q_load1 ss22 0 rfl rfl rfl (cell_skip1 (cell_skip1 (cell_skip1 (cell_skip1 (rfl)))))) (Wt.yes rfl rfl rfl) rfl rfl ?_
        refine T.q (q_len sc22 rfl rfl) (Wt.yes rfl rfl rfl) rfl rfl ?_
        refine T.q (q_gtr rfl rfl rfl) (Wt.yes rfl rfl rfl) rfl rfl ?_
        refine T.q (q_pickT rfl rfl rfl) (Wt.plain rfl) rfl rfl ?_
        refine T.q (q_move rfl rfl) (Wt.plain rfl) rfl rfl ?_
        refine T.both (t := 88) _ rfl (fun hb5 => ?_) (fun hb5 => ?_)
        · replace hb5 := of_decide_eq_true hb5
          refine T.no (Wn.no rfl rfl rfl rfl) rfl rfl ?_
          refine T.no (Wn.no rfl rfl rfl rfl) rfl rfl ?_
          refine T.no (Wn.no rfl rfl rfl rfl) rfl rfl ?_
          refine T.no (Wn.no rfl rfl rfl rfl) rfl rfl ?_
          refine T.no (Wn.none rfl rfl rfl) rfl rfl ?_
          refine T.no (Wn.none rfl rfl rfl) rfl rfl ?_
          refine T.no (Wn.none rfl rfl rfl) rfl rfl ?_
          refine T.no (Wn.no rfl rfl rfl rfl) rfl rfl ?_
          refine T.no (Wn.no rfl rfl rfl rfl) rfl rfl ?_
          refine T.no (Wn.none rfl rfl rfl) rfl rfl ?_
          refine T.no (Wn.none rfl rfl rfl) rfl rfl ?_
          refine T.no (Wn.none rfl rfl rfl) rfl rfl ?_
          refine T.no (Wn.no rfl rfl rfl rfl) rfl rfl ?_
          refine T.q (q_pickT rfl rfl rfl) (Wt.plain rfl) rfl rfl ?_
          refine T.q (q_move rfl rfl) (Wt.plain rfl) rfl rfl ?_
          refine T.no (Wn.no rfl rfl rfl rfl) rfl rfl ?_
          refine T.no (Wn.no rfl rfl rfl rfl) rfl rfl ?_
          refine T.no (Wn.no rfl rfl rfl rfl) rfl rfl ?_
          refine T.no (Wn.no rfl rfl rfl rfl) rfl rfl ?_
          refine T.no (Wn.none rfl rfl rfl) rfl rfl ?_
          refine T.no (Wn.none rfl rfl rfl) rfl rfl ?_
          refine T.no (Wn.none rfl rfl rfl) rfl rfl ?_
          refine T.no (Wn.no rfl rfl rfl rfl) rfl rfl ?_
          refine T.no (Wn.no rfl rfl rfl rfl) rfl rfl ?_
          refine T.no (Wn.none rfl rfl rfl) rfl rfl ?_
          refine T.no (Wn.none rfl rfl rfl) rfl rfl ?_
          refine T.no (Wn.none rfl rfl rfl) rfl rfl ?_
          refine T.no (Wn.none rfl rfl rfl) rfl rfl ?_
          refine T.no (Wn.no rfl rfl rfl rfl) rfl rfl ?_
          refine T.q (q_pickT rfl rfl rfl) (Wt.plain rfl) rfl rfl ?_
          refine T.q (q_move rfl rfl) (Wt.plain rfl) rfl rfl ?_
          refine T.no (Wn.no rfl rfl rfl rfl) rfl rfl ?_
          refine T.no (Wn.no rfl rfl rfl rfl) rfl rfl ?_
          refine T.no (Wn.no rfl rfl rfl rfl) rfl rfl ?_
          refine T.no (Wn.none rfl rfl rfl) rfl rfl ?_
          refine T.no (Wn.none rfl rfl rfl) rfl rfl ?_
          refine T.no (Wn.none rfl rfl rfl) rfl rfl ?_
          refine T.no (Wn.none rfl rfl rfl) rfl rfl ?_
          refine T.no (Wn.no rfl rfl rfl rfl) rfl rfl ?_
          refine T.q (q_pickT rfl rfl rfl) (Wt.plain rfl) rfl rfl ?_
          refine T.nil ?_
          refine Ex.next ?_
          refine W.slots (L' := [(1, _), (4, _), (128, _)]) ⟨rfl, rfl, rfl, trivial⟩ ?_
          refine W.condT rfl ?_
          refine W.region ?_
          refine T.q (q_assign rfl rfl) (Wt.plain rfl) rfl rfl ?_
          refine T.nil ?_
          refine Ex.next ?_
          refine W.slots (L' := [(1, _), (4, _)]) ⟨rfl, rfl, trivial⟩ ?_
          refine W.seq ?_
          refine W.seq ?_
          refine W.region ?_
          refine T.q (q_move rfl rfl) (Wt.plain rfl) rfl rfl ?_
          refine T.q (q_not rfl rfl) (Wt.plain rfl) rfl rfl ?_
          refine T.q (q_move rfl rfl) (Wt.plain rfl) rfl rfl ?_
          refine T.no (Wn.no rfl rfl rfl rfl) rfl rfl ?_
          refine T.no (Wn.no rfl rfl rfl rfl) rfl rfl ?_
          refine T.no (Wn.no rfl rfl rfl rfl) rfl rfl ?_
          refine T.no (Wn.no rfl rfl rfl rfl) rfl rfl ?_
          refine T.q (q_pickT rfl rfl rfl) (Wt.plain rfl) rfl rfl ?_
          refine T.nil ?_
          refine Ex.next ?_
          refine W.less (L' := [(136, _)]) [false] ⟨rfl, trivial⟩ ?_
          change (_ : List Blk → Prop) []
          refine W.condT rfl ?_
          refine W.seq ?_
          refine W.region ?_
          refine T.q (q_assign rfl rfl) (Wt.plain rfl) rfl rfl ?_
          refine T.nil ?_
          refine Ex.next ?_
          refine W.slots (L' := [(2, _)]) ⟨rfl, trivial⟩ ?_
          refine W.ret ?_
          refine Ex.then_ret ?_
          refine Ex.out1 [] rfl rfl ?_
          exact ⟨congrArg (Value.int .i64) (chkE_no (f := ⟨7, a, l, rs, bs, tok⟩) fun (h : mayN 7 a l bs.length rs.length (risN rs (a + 1) 4611686018427387903) (risN rs 0 a) (tokN tok)) => by unfold mayN at h; omega).symm, rfl⟩
        replace hb5 := of_decide_eq_false hb5
        refine T.q (q_fld fl59_0 rfl rfl) (Wt.yes rfl rfl rfl) rfl rfl ?_
        refine T.q (q_load1 ss3 0 rfl rfl rfl (rfl)) (Wt.yes rfl rfl rfl) rfl rfl ?_
        refine T.q (q_bool (b := true) (q_neq rfl rfl rfl) (decide_eq_true (by decide))) (Wt.yes rfl rfl rfl) rfl rfl ?_
        refine T.q (q_move rfl rfl) (Wt.yes rfl rfl rfl) rfl rfl ?_
        refine T.q (q_fld fl59_0 rfl rfl) (Wt.yes rfl rfl rfl) rfl rfl ?_
        refine T.q (q_load1 ss3 0 rfl rfl rfl (rfl)) (Wt.yes rfl rfl rfl) rfl rfl ?_
        refine T.q (q_bool (b := false) (q_neq rfl rfl rfl) (decide_eq_false (by decide))) (Wt.yes rfl rfl rfl) rfl rfl ?_
        refine T.q (q_pickT rfl rfl rfl) (Wt.yes rfl rfl rfl) rfl rfl ?_
        refine T.q (q_move rfl rfl) (Wt.yes rfl rfl rfl) rfl rfl ?_
        refine T.no (Wn.no rfl rfl rfl rfl) rfl rfl ?_
        refine T.no (Wn.no rfl rfl rfl rfl) rfl rfl ?_
        refine T.no (Wn.no rfl rfl rfl rfl) rfl rfl ?_
        refine T.q (q_pickF rfl rfl rfl) (Wt.yes rfl rfl rfl) rfl rfl ?_
        refine T.q (q_pickF rfl rfl rfl) (Wt.plain rfl) rfl rfl ?_
        refine T.q (q_move rfl rfl) (Wt.plain rfl) rfl rfl ?_
        refine T.q (q_fld fl59_0 rfl rfl) (Wt.yes rfl rfl rfl) rfl rfl ?_
        refine T.q (q_load1 ss3 0 rfl rfl rfl (rfl)) (Wt.yes rfl rfl rfl) rfl rfl ?_
        refine T.q (q_bool (b := true) (q_neq rfl rfl rfl) (decide_eq_true (by decide))) (Wt.yes rfl rfl rfl) rfl rfl ?_
        refine T.q (q_move rfl rfl) (Wt.yes rfl rfl rfl) rfl rfl ?_
        refine T.q (q_fld fl59_0 rfl rfl) (Wt.yes rfl rfl rfl) rfl rfl ?_
        refine T.q (q_load1 ss3 0 rfl rfl rfl (rfl)) (Wt.yes rfl rfl rfl) rfl rfl ?_
        refine T.q (q_bool (b := false) (q_neq rfl rfl rfl) (decide_eq_false (by decide))) (Wt.yes rfl rfl rfl) rfl rfl ?_
        refine T.q (q_pickT rfl rfl rfl) (Wt.yes rfl rfl rfl) rfl rfl ?_
        refine T.q (q_move rfl rfl) (Wt.yes rfl rfl rfl) rfl rfl ?_
        refine T.no (Wn.no rfl rfl rfl rfl) rfl rfl ?_
        refine T.no (Wn.no rfl rfl rfl rfl) rfl rfl ?_
        refine T.no (Wn.no rfl rfl rfl rfl) rfl rfl ?_
        refine T.no (Wn.no rfl rfl rfl rfl) rfl rfl ?_
        refine T.q (q_pickF rfl rfl rfl) (Wt.yes rfl rfl rfl) rfl rfl ?_
        refine T.q (q_pickF rfl rfl rfl) (Wt.plain rfl) rfl rfl ?_
        refine T.q (q_move rfl rfl) (Wt.plain rfl) rfl rfl ?_
        refine T.q (q_move rfl rfl) (Wt.yes rfl rfl rfl) rfl rfl ?_
        refine T.q (q_not rfl rfl) (Wt.yes rfl rfl rfl) rfl rfl ?_
        refine T.q (q_move rfl rfl) (Wt.yes rfl rfl rfl) rfl rfl ?_
        refine T.q (q_fld fl59_5 rfl rfl) (Wt.yes rfl rfl rfl) rfl rfl ?_
        refine T.q (q_loadW (wide_ints wd57 (by first | omega | (simp; done) | (simp [-List.getD_eq_getElem?_getD]; omega) | (simp at *; omega) | rfl)) (R_at 0 5 8 rfl (part_skip1 (part_skip1 (part_skip1 (part_skip1 (part_skip1 (part_last (by first | omega | (simp; done) | (simp [-List.getD_eq_getElem?_getD]; omega) | (simp at *; omega) | rfl)))))))) rfl rfl) (Wt.yes rfl rfl rfl) rfl rfl ?_
        refine T.q (q_build (v := .agg (ints .u8 (List.replicate 8 0)).toArray) rfl rfl (fun _ => by kernel_rfl)) (Wt.yes rfl rfl rfl) rfl rfl ?_
        refine T.q (q_bool (b := decide (tokN tok ≠ 1)) (q_neqA ar57 ss5 un5 eg57 rfl rfl rfl (by first | omega | (simp; done) | (simp [-List.getD_eq_getElem?_getD]; omega) | (simp at *; omega) | rfl) (by first | omega | (simp; done) | (simp [-List.getD_eq_getElem?_getD]; omega) | (simp at *; omega) | rfl)) ?hE) (Wt.yes rfl rfl rfl) rfl rfl ?_
        case hE => exact tok_neq
        refine T.q (q_pickT rfl rfl rfl) (Wt.yes rfl rfl rfl) rfl rfl ?_
        refine T.q (q_pickF rfl rfl rfl) (Wt.plain rfl) rfl rfl ?_
        refine T.nil ?_
        refine Ex.next ?_
        refine W.slots (L' := [(1, _), (4, _), (128, _)]) ⟨rfl, rfl, rfl, trivial⟩ ?_
        refine W.cond _ rfl (fun hb6 => ?_) (fun hb6 => ?_)
        · replace hb6 := of_decide_eq_true hb6
          refine W.region ?_
          refine T.q (q_assign rfl rfl) (Wt.plain rfl) rfl rfl ?_
          refine T.nil ?_
          refine Ex.next ?_
          refine W.slots (L' := [(1, _), (4, _)]) ⟨rfl, rfl, trivial⟩ ?_
          refine W.seq ?_
          refine W.seq ?_
          refine W.region ?_
          refine T.q (q_move rfl rfl) (Wt.plain rfl) rfl rfl ?_
          refine T.q (q_not rfl rfl) (Wt.plain rfl) rfl rfl ?_
          refine T.q (q_move rfl rfl) (Wt.plain rfl) rfl rfl ?_
          refine T.no (Wn.no rfl rfl rfl rfl) rfl rfl ?_
          refine T.no (Wn.no rfl rfl rfl rfl) rfl rfl ?_
          refine T.no (Wn.no rfl rfl rfl rfl) rfl rfl ?_
          refine T.no (Wn.no rfl rfl rfl rfl) rfl rfl ?_
          refine T.q (q_pickT rfl rfl rfl) (Wt.plain rfl) rfl rfl ?_
          refine T.nil ?_
          refine Ex.next ?_
          refine W.less (L' := [(136, _)]) [false] ⟨rfl, trivial⟩ ?_
          change (_ : List Blk → Prop) []
          refine W.condT rfl ?_
          refine W.seq ?_
          refine W.region ?_
          refine T.q (q_assign rfl rfl) (Wt.plain rfl) rfl rfl ?_
          refine T.nil ?_
          refine Ex.next ?_
          refine W.slots (L' := [(2, _)]) ⟨rfl, trivial⟩ ?_
          refine W.ret ?_
          refine Ex.then_ret ?_
          refine Ex.out1 [] rfl rfl ?_
          exact ⟨congrArg (Value.int .i64) (chkE_no (f := ⟨7, a, l, rs, bs, tok⟩) fun (h : mayN 7 a l bs.length rs.length (risN rs (a + 1) 4611686018427387903) (risN rs 0 a) (tokN tok)) => by unfold mayN at h; omega).symm, rfl⟩
        replace hb6 := of_decide_eq_false hb6
        refine W.skip ?_
        refine Ex.next ?_
        refine W.slots (L' := [(1, _), (4, _)]) ⟨rfl, rfl, trivial⟩ ?_
        refine W.seq ?_
        refine W.seq ?_
        refine W.region ?_
        refine T.q (q_move rfl rfl) (Wt.plain rfl) rfl rfl ?_
        refine T.q (q_bool (q_not rfl rfl) (decide_not (p := (risN rs 0 a = 1))).symm) (Wt.plain rfl) rfl rfl ?_
        refine T.q (q_move rfl rfl) (Wt.plain rfl) rfl rfl ?_
        refine T.both (t := 131) _ rfl (fun hb7 => ?_) (fun hb7 => ?_)
        · replace hb7 := of_decide_eq_true hb7
          refine T.no (Wn.no rfl rfl rfl rfl) rfl rfl ?_
          refine T.no (Wn.no rfl rfl rfl rfl) rfl rfl ?_
          refine T.no (Wn.no rfl rfl rfl rfl) rfl rfl ?_
          refine T.no (Wn.no rfl rfl rfl rfl) rfl rfl ?_
          refine T.q (q_pickT rfl rfl rfl) (Wt.plain rfl) rfl rfl ?_
          refine T.nil ?_
          refine Ex.next ?_
          refine W.less (L' := [(136, _)]) [false] ⟨rfl, trivial⟩ ?_
          change (_ : List Blk → Prop) []
          refine W.condT rfl ?_
          refine W.seq ?_
          refine W.region ?_
          refine T.q (q_assign rfl rfl) (Wt.plain rfl) rfl rfl ?_
          refine T.nil ?_
          refine Ex.next ?_
          refine W.slots (L' := [(2, _)]) ⟨rfl, trivial⟩ ?_
          refine W.ret ?_
          refine Ex.then_ret ?_
          refine Ex.out1 [] rfl rfl ?_
          exact ⟨congrArg (Value.int .i64) (chkE_no (f := ⟨7, a, l, rs, bs, tok⟩) fun (h : mayN 7 a l bs.length rs.length (risN rs (a + 1) 4611686018427387903) (risN rs 0 a) (tokN tok)) => by unfold mayN at h; omega).symm, rfl⟩
        replace hb7 := of_decide_eq_false hb7
        refine T.q (q_fld fl59_1 rfl rfl) (Wt.yes rfl rfl rfl) rfl rfl ?_
        refine T.q (q_load1 ss3 0 rfl rfl rfl (cell_skip1 (rfl))) (Wt.yes rfl rfl rfl) rfl rfl ?_
        refine T.eff (e_call enters66 rfl rfl (fun w hm => refnum_spec a w) rfl rfl) (Wt.yes rfl rfl rfl) ?_
        rintro _ _ ⟨_, _, ⟨rfl, rfl⟩, rfl, rfl⟩
        change (_ : List Blk → Prop) [_]
        refine T.q (q_bool (q_not rfl rfl) (decide_not (p := (0 ≤ a ∧ a ≤ 4611686018427387903))).symm) (Wt.yes rfl rfl rfl) rfl rfl ?_
        refine T.q (q_pickF rfl rfl rfl) (Wt.plain rfl) rfl rfl ?_
        refine T.nil ?_
        refine Ex.next ?_
        refine W.less (L' := [(136, _)]) [false] ⟨rfl, trivial⟩ ?_
        change (_ : List Blk → Prop) []
        refine W.cond _ rfl (fun hb8 => ?_) (fun hb8 => ?_)
        · replace hb8 := of_decide_eq_true hb8
          refine W.seq ?_
          refine W.region ?_
          refine T.q (q_assign rfl rfl) (Wt.plain rfl) rfl rfl ?_
          refine T.nil ?_
          refine Ex.next ?_
          refine W.slots (L' := [(2, _)]) ⟨rfl, trivial⟩ ?_
          refine W.ret ?_
          refine Ex.then_ret ?_
          refine Ex.out1 [] rfl rfl ?_
          exact ⟨congrArg (Value.int .i64) (chkE_no (f := ⟨7, a, l, rs, bs, tok⟩) fun (h : mayN 7 a l bs.length rs.length (risN rs (a + 1) 4611686018427387903) (risN rs 0 a) (tokN tok)) => by unfold mayN at h; omega).symm, rfl⟩
        replace hb8 := of_decide_eq_false hb8
        refine W.skip ?_
        refine Ex.next ?_
        refine W.slots (L' := []) trivial ?_
        refine W.seq ?_
        refine W.region ?_
        refine T.q (q_assign rfl rfl) (Wt.plain rfl) rfl rfl ?_
        refine T.nil ?_
        refine Ex.next ?_
        refine W.slots (L' := [(2, _)]) ⟨rfl, trivial⟩ ?_
        refine W.ret ?_
        refine Ex.out1 [] rfl rfl ?_
        exact ⟨congrArg (Value.int .i64) (chkE_yes (f := ⟨7, a, l, rs, bs, tok⟩) (show mayN 7 a l bs.length rs.length (risN rs (a + 1) 4611686018427387903) (risN rs 0 a) (tokN tok) by unfold mayN; omega)).symm, rfl⟩
      replace hb4 := of_decide_eq_false hb4
      refine T.no (Wn.no rfl rfl rfl rfl) rfl rfl ?_
      refine T.no (Wn.no rfl rfl rfl rfl) rfl rfl ?_
      refine T.no (Wn.no rfl rfl rfl rfl) rfl rfl ?_
      refine T.no (Wn.no rfl rfl rfl rfl) rfl rfl ?_
      refine T.no (Wn.no rfl rfl rfl rfl) rfl rfl ?_
      refine T.q (q_pickF rfl rfl rfl) (Wt.plain rfl) rfl rfl ?_
      refine T.q (q_assign rfl rfl) (Wt.plain rfl) rfl rfl ?_
      refine T.nil ?_
      refine Ex.in_normal ?_
      refine Ex.next ?_
      refine W.slots (L' := [(1, _), (3, _), (4, _)]) ⟨rfl, rfl, rfl, trivial⟩ ?_
      refine W.seq ?_
      refine W.seq ?_
      refine W.region ?_
      refine T.q (q_fld fl59_0 rfl rfl) (Wt.plain rfl) rfl rfl ?_
      refine T.q (q_load1 ss3 0 rfl rfl rfl (rfl)) (Wt.plain rfl) rfl rfl ?_
      refine T.q (q_bool (b := true) (q_neq rfl rfl rfl) (decide_eq_true (by decide))) (Wt.plain rfl) rfl rfl ?_
      refine T.q (q_move rfl rfl) (Wt.plain rfl) rfl rfl ?_
      refine T.q (q_fld fl59_4 rfl rfl) (Wt.yes rfl rfl rfl) rfl rfl ?_
      refine T.q (q_load1 ss22 0 rfl rfl rfl (cell_skip1 (cell_skip1 (cell_skip1 (cell_skip1 (rfl)))))) (Wt.yes rfl rfl rfl) rfl rfl ?_
      refine T.q (q_len sc22 rfl rfl) (Wt.yes rfl rfl rfl) rfl rfl ?_
      refine T.q (q_gtr rfl rfl rfl) (Wt.yes rfl rfl rfl) rfl rfl ?_
      refine T.q (q_pickT rfl rfl rfl) (Wt.plain rfl) rfl rfl ?_
      refine T.q (q_move rfl rfl) (Wt.plain rfl) rfl rfl ?_
      refine T.both (t := 88) _ rfl (fun hb9 => ?_) (fun hb9 => ?_)
      · replace hb9 := of_decide_eq_true hb9
        refine T.no (Wn.no rfl rfl rfl rfl) rfl rfl ?_
        refine T.no (Wn.no rfl rfl rfl rfl) rfl rfl ?_
        refine T.no (Wn.no rfl rfl rfl rfl) rfl rfl ?_
        refine T.no (Wn.no rfl rfl rfl rfl) rfl rfl ?_
        refine T.no (Wn.none rfl rfl rfl) rfl rfl ?_
        refine T.no (Wn.none rfl rfl rfl) rfl rfl ?_
        refine T.no (Wn.none rfl rfl rfl) rfl rfl ?_
        refine T.no (Wn.no rfl rfl rfl rfl) rfl rfl ?_
        refine T.no (Wn.no rfl rfl rfl rfl) rfl rfl ?_
        refine T.no (Wn.none rfl rfl rfl) rfl rfl ?_
        refine T.no (Wn.none rfl rfl rfl) rfl rfl ?_
        refine T.no (Wn.none rfl rfl rfl) rfl rfl ?_
        refine T.no (Wn.no rfl rfl rfl rfl) rfl rfl ?_
        refine T.q (q_pickT rfl rfl rfl) (Wt.plain rfl) rfl rfl ?_
        refine T.q (q_move rfl rfl) (Wt.plain rfl) rfl rfl ?_
        refine T.no (Wn.no rfl rfl rfl rfl) rfl rfl ?_
        refine T.no (Wn.no rfl rfl rfl rfl) rfl rfl ?_
        refine T.no (Wn.no rfl rfl rfl rfl) rfl rfl ?_
        refine T.no (Wn.no rfl rfl rfl rfl) rfl rfl ?_
        refine T.no (Wn.none rfl rfl rfl) rfl rfl ?_
        refine T.no (Wn.none rfl rfl rfl) rfl rfl ?_
        refine T.no (Wn.none rfl rfl rfl) rfl rfl ?_
        refine T.no (Wn.no rfl rfl rfl rfl) rfl rfl ?_
        refine T.no (Wn.no rfl rfl rfl rfl) rfl rfl ?_
        refine T.no (Wn.none rfl rfl rfl) rfl rfl ?_
        refine T.no (Wn.none rfl rfl rfl) rfl rfl ?_
        refine T.no (Wn.none rfl rfl rfl) rfl rfl ?_
        refine T.no (Wn.none rfl rfl rfl) rfl rfl ?_
        refine T.no (Wn.no rfl rfl rfl rfl) rfl rfl ?_
        refine T.q (q_pickT rfl rfl rfl) (Wt.plain rfl) rfl rfl ?_
        refine T.q (q_move rfl rfl) (Wt.plain rfl) rfl rfl ?_
        refine T.no (Wn.no rfl rfl rfl rfl) rfl rfl ?_
        refine T.no (Wn.no rfl rfl rfl rfl) rfl rfl ?_
        refine T.no (Wn.no rfl rfl rfl rfl) rfl rfl ?_
        refine T.no (Wn.none rfl rfl rfl) rfl rfl ?_
        refine T.no (Wn.none rfl rfl rfl) rfl rfl ?_
        refine T.no (Wn.none rfl rfl rfl) rfl rfl ?_
        refine T.no (Wn.none rfl rfl rfl) rfl rfl ?_
        refine T.no (Wn.no rfl rfl rfl rfl) rfl rfl ?_
        refine T.q (q_pickT rfl rfl rfl) (Wt.plain rfl) rfl rfl ?_
        refine T.nil ?_
        refine Ex.next ?_
        refine W.slots (L' := [(1, _), (4, _), (128, _)]) ⟨rfl, rfl, rfl, trivial⟩ ?_
        refine W.condT rfl ?_
        refine W.region ?_
        refine T.q (q_assign rfl rfl) (Wt.plain rfl) rfl rfl ?_
        refine T.nil ?_
        refine Ex.next ?_
        refine W.slots (L' := [(1, _), (4, _)]) ⟨rfl, rfl, trivial⟩ ?_
        refine W.seq ?_
        refine W.seq ?_
        refine W.region ?_
        refine T.q (q_move rfl rfl) (Wt.plain rfl) rfl rfl ?_
        refine T.q (q_not rfl rfl) (Wt.plain rfl) rfl rfl ?_
        refine T.q (q_move rfl rfl) (Wt.plain rfl) rfl rfl ?_
        refine T.no (Wn.no rfl rfl rfl rfl) rfl rfl ?_
        refine T.no (Wn.no rfl rfl rfl rfl) rfl rfl ?_
        refine T.no (Wn.no rfl rfl rfl rfl) rfl rfl ?_
        refine T.no (Wn.no rfl rfl rfl rfl) rfl rfl ?_
        refine T.q (q_pickT rfl rfl rfl) (Wt.plain rfl) rfl rfl ?_
        refine T.nil ?_
        refine Ex.next ?_
        refine W.less (L' := [(136, _)]) [false] ⟨rfl, trivial⟩ ?_
        change (_ : List Blk → Prop) []
        refine W.condT rfl ?_
        refine W.seq ?_
        refine W.region ?_
        refine T.q (q_assign rfl rfl) (Wt.plain rfl) rfl rfl ?_
        refine T.nil ?_
        refine Ex.next ?_
        refine W.slots (L' := [(2, _)]) ⟨rfl, trivial⟩ ?_
        refine W.ret ?_
        refine Ex.then_ret ?_
        refine Ex.out1 [] rfl rfl ?_
        exact ⟨congrArg (Value.int .i64) (chkE_no (f := ⟨7, a, l, rs, bs, tok⟩) fun (h : mayN 7 a l bs.length rs.length (risN rs (a + 1) 4611686018427387903) (risN rs 0 a) (tokN tok)) => by unfold mayN at h; omega).symm, rfl⟩
      replace hb9 := of_decide_eq_false hb9
      refine T.q (q_fld fl59_0 rfl rfl) (Wt.yes rfl rfl rfl) rfl rfl ?_
      refine T.q (q_load1 ss3 0 rfl rfl rfl (rfl)) (Wt.yes rfl rfl rfl) rfl rfl ?_
      refine T.q (q_bool (b := true) (q_neq rfl rfl rfl) (decide_eq_true (by decide))) (Wt.yes rfl rfl rfl) rfl rfl ?_
      refine T.q (q_move rfl rfl) (Wt.yes rfl rfl rfl) rfl rfl ?_
      refine T.q (q_fld fl59_0 rfl rfl) (Wt.yes rfl rfl rfl) rfl rfl ?_
      refine T.q (q_load1 ss3 0 rfl rfl rfl (rfl)) (Wt.yes rfl rfl rfl) rfl rfl ?_
      refine T.q (q_bool (b := false) (q_neq rfl rfl rfl) (decide_eq_false (by decide))) (Wt.yes rfl rfl rfl) rfl rfl ?_
      refine T.q (q_pickT rfl rfl rfl) (Wt.yes rfl rfl rfl) rfl rfl ?_
      refine T.q (q_move rfl rfl) (Wt.yes rfl rfl rfl) rfl rfl ?_
      refine T.no (Wn.no rfl rfl rfl rfl) rfl rfl ?_
      refine T.no (Wn.no rfl rfl rfl rfl) rfl rfl ?_
      refine T.no (Wn.no rfl rfl rfl rfl) rfl rfl ?_
      refine T.q (q_pickF rfl rfl rfl) (Wt.yes rfl rfl rfl) rfl rfl ?_
      refine T.q (q_pickF rfl rfl rfl) (Wt.plain rfl) rfl rfl ?_
      refine T.q (q_move rfl rfl) (Wt.plain rfl) rfl rfl ?_
      refine T.q (q_fld fl59_0 rfl rfl) (Wt.yes rfl rfl rfl) rfl rfl ?_
      refine T.q (q_load1 ss3 0 rfl rfl rfl (rfl)) (Wt.yes rfl rfl rfl) rfl rfl ?_
      refine T.q (q_bool (b := true) (q_neq rfl rfl rfl) (decide_eq_true (by decide))) (Wt.yes rfl rfl rfl) rfl rfl ?_
      refine T.q (q_move rfl rfl) (Wt.yes rfl rfl rfl) rfl rfl ?_
      refine T.q (q_fld fl59_0 rfl rfl) (Wt.yes rfl rfl rfl) rfl rfl ?_
      refine T.q (q_load1 ss3 0 rfl rfl rfl (rfl)) (Wt.yes rfl rfl rfl) rfl rfl ?_
      refine T.q (q_bool (b := false) (q_neq rfl rfl rfl) (decide_eq_false (by decide))) (Wt.yes rfl rfl rfl) rfl rfl ?_
      refine T.q (q_pickT rfl rfl rfl) (Wt.yes rfl rfl rfl) rfl rfl ?_
      refine T.q (q_move rfl rfl) (Wt.yes rfl rfl rfl) rfl rfl ?_
      refine T.no (Wn.no rfl rfl rfl rfl) rfl rfl ?_
      refine T.no (Wn.no rfl rfl rfl rfl) rfl rfl ?_
      refine T.no (Wn.no rfl rfl rfl rfl) rfl rfl ?_
      refine T.no (Wn.no rfl rfl rfl rfl) rfl rfl ?_
      refine T.q (q_pickF rfl rfl rfl) (Wt.yes rfl rfl rfl) rfl rfl ?_
      refine T.q (q_pickF rfl rfl rfl) (Wt.plain rfl) rfl rfl ?_
      refine T.q (q_move rfl rfl) (Wt.plain rfl) rfl rfl ?_
      refine T.q (q_move rfl rfl) (Wt.yes rfl rfl rfl) rfl rfl ?_
      refine T.q (q_not rfl rfl) (Wt.yes rfl rfl rfl) rfl rfl ?_
      refine T.q (q_move rfl rfl) (Wt.yes rfl rfl rfl) rfl rfl ?_
      refine T.q (q_fld fl59_5 rfl rfl) (Wt.yes rfl rfl rfl) rfl rfl ?_
      refine T.q (q_loadW (wide_ints wd57 (by first | omega | (simp; done) | (simp [-List.getD_eq_getElem?_getD]; omega) | (simp at *; omega) | rfl)) (R_at 0 5 8 rfl (part_skip1 (part_skip1 (part_skip1 (part_skip1 (part_skip1 (part_last (by first | omega | (simp; done) | (simp [-List.getD_eq_getElem?_getD]; omega) | (simp at *; omega) | rfl)))))))) rfl rfl) (Wt.yes rfl rfl rfl) rfl rfl ?_
      refine T.q (q_build (v := .agg (ints .u8 (List.replicate 8 0)).toArray) rfl rfl (fun _ => by kernel_rfl)) (Wt.yes rfl rfl rfl) rfl rfl ?_
      refine T.q (q_bool (b := decide (tokN tok ≠ 1)) (q_neqA ar57 ss5 un5 eg57 rfl rfl rfl (by first | omega | (simp; done) | (simp [-List.getD_eq_getElem?_getD]; omega) | (simp at *; omega) | rfl) (by first | omega | (simp; done) | (simp [-List.getD_eq_getElem?_getD]; omega) | (simp at *; omega) | rfl)) ?hE) (Wt.yes rfl rfl rfl) rfl rfl ?_
      case hE => exact tok_neq
      refine T.q (q_pickT rfl rfl rfl) (Wt.yes rfl rfl rfl) rfl rfl ?_
      refine T.q (q_pickF rfl rfl rfl) (Wt.plain rfl) rfl rfl ?_
      refine T.nil ?_
      refine Ex.next ?_
      refine W.slots (L' := [(1, _), (4, _), (128, _)]) ⟨rfl, rfl, rfl, trivial⟩ ?_
      refine W.cond _ rfl (fun hb10 => ?_) (fun hb10 => ?_)
      · replace hb10 := of_decide_eq_true hb10
        refine W.region ?_
        refine T.q (q_assign rfl rfl) (Wt.plain rfl) rfl rfl ?_
        refine T.nil ?_
        refine Ex.next ?_
        refine W.slots (L' := [(1, _), (4, _)]) ⟨rfl, rfl, trivial⟩ ?_
        refine W.seq ?_
        refine W.seq ?_
        refine W.region ?_
        refine T.q (q_move rfl rfl) (Wt.plain rfl) rfl rfl ?_
        refine T.q (q_not rfl rfl) (Wt.plain rfl) rfl rfl ?_
        refine T.q (q_move rfl rfl) (Wt.plain rfl) rfl rfl ?_
        refine T.no (Wn.no rfl rfl rfl rfl) rfl rfl ?_
        refine T.no (Wn.no rfl rfl rfl rfl) rfl rfl ?_
        refine T.no (Wn.no rfl rfl rfl rfl) rfl rfl ?_
        refine T.no (Wn.no rfl rfl rfl rfl) rfl rfl ?_
        refine T.q (q_pickT rfl rfl rfl) (Wt.plain rfl) rfl rfl ?_
        refine T.nil ?_
        refine Ex.next ?_
        refine W.less (L' := [(136, _)]) [false] ⟨rfl, trivial⟩ ?_
        change (_ : List Blk → Prop) []
        refine W.condT rfl ?_
        refine W.seq ?_
        refine W.region ?_
        refine T.q (q_assign rfl rfl) (Wt.plain rfl) rfl rfl ?_
        refine T.nil ?_
        refine Ex.next ?_
        refine W.slots (L' := [(2, _)]) ⟨rfl, trivial⟩ ?_
        refine W.ret ?_
        refine Ex.then_ret ?_
        refine Ex.out1 [] rfl rfl ?_
        exact ⟨congrArg (Value.int .i64) (chkE_no (f := ⟨7, a, l, rs, bs, tok⟩) fun (h : mayN 7 a l bs.length rs.length (risN rs (a + 1) 4611686018427387903) (risN rs 0 a) (tokN tok)) => by unfold mayN at h; omega).symm, rfl⟩
      replace hb10 := of_decide_eq_false hb10
      refine W.skip ?_
      refine Ex.next ?_
      refine W.slots (L' := [(1, _), (4, _)]) ⟨rfl, rfl, trivial⟩ ?_
      refine W.seq ?_
      refine W.seq ?_
      refine W.region ?_
      refine T.q (q_move rfl rfl) (Wt.plain rfl) rfl rfl ?_
      refine T.q (q_not rfl rfl) (Wt.plain rfl) rfl rfl ?_
      refine T.q (q_move rfl rfl) (Wt.plain rfl) rfl rfl ?_
      refine T.no (Wn.no rfl rfl rfl rfl) rfl rfl ?_
      refine T.no (Wn.no rfl rfl rfl rfl) rfl rfl ?_
      refine T.no (Wn.no rfl rfl rfl rfl) rfl rfl ?_
      refine T.no (Wn.no rfl rfl rfl rfl) rfl rfl ?_
      refine T.q (q_pickT rfl rfl rfl) (Wt.plain rfl) rfl rfl ?_
      refine T.nil ?_
      refine Ex.next ?_
      refine W.less (L' := [(136, _)]) [false] ⟨rfl, trivial⟩ ?_
      change (_ : List Blk → Prop) []
      refine W.condT rfl ?_
      refine W.seq ?_
      refine W.region ?_
      refine T.q (q_assign rfl rfl) (Wt.plain rfl) rfl rfl ?_
      refine T.nil ?_
      refine Ex.next ?_
      refine W.slots (L' := [(2, _)]) ⟨rfl, trivial⟩ ?_
      refine W.ret ?_
      refine Ex.then_ret ?_
      refine Ex.out1 [] rfl rfl ?_
      exact ⟨congrArg (Value.int .i64) (chkE_no (f := ⟨7, a, l, rs, bs, tok⟩) fun (h : mayN 7 a l bs.length rs.length (risN rs (a + 1) 4611686018427387903) (risN rs 0 a) (tokN tok)) => by unfold mayN at h; omega).symm, rfl⟩
    replace hb3 := of_decide_eq_false hb3
    refine T.no (Wn.no rfl rfl rfl rfl) rfl rfl ?_
    refine T.no (Wn.no rfl rfl rfl rfl) rfl rfl ?_
    refine T.no (Wn.no rfl rfl rfl rfl) rfl rfl ?_
    refine T.q (q_pickF rfl rfl rfl) (Wt.plain rfl) rfl rfl ?_
    refine T.q (q_move rfl rfl) (Wt.plain rfl) rfl rfl ?_
    refine T.no (Wn.no rfl rfl rfl rfl) rfl rfl ?_
    refine T.no (Wn.no rfl rfl rfl rfl) rfl rfl ?_
    refine T.no (Wn.no rfl rfl rfl rfl) rfl rfl ?_
    refine T.no (Wn.no rfl rfl rfl rfl) rfl rfl ?_
    refine T.no (Wn.no rfl rfl rfl rfl) rfl rfl ?_
    refine T.q (q_pickF rfl rfl rfl) (Wt.plain rfl) rfl rfl ?_
    refine T.q (q_assign rfl rfl) (Wt.plain rfl) rfl rfl ?_
    refine T.nil ?_
    refine Ex.in_normal ?_
    refine Ex.next ?_
    refine W.slots (L' := [(1, _), (3, _), (4, _)]) ⟨rfl, rfl, rfl, trivial⟩ ?_
    refine W.seq ?_
    refine W.seq ?_
    refine W.region ?_
    refine T.q (q_fld fl59_0 rfl rfl) (Wt.plain rfl) rfl rfl ?_
    refine T.q (q_load1 ss3 0 rfl rfl rfl (rfl)) (Wt.plain rfl) rfl rfl ?_
    refine T.q (q_bool (b := true) (q_neq rfl rfl rfl) (decide_eq_true (by decide))) (Wt.plain rfl) rfl rfl ?_
    refine T.q (q_move rfl rfl) (Wt.plain rfl) rfl rfl ?_
    refine T.q (q_fld fl59_4 rfl rfl) (Wt.yes rfl rfl rfl) rfl rfl ?_
    refine T.q (q_load1 ss22 0 rfl rfl rfl (cell_skip1 (cell_skip1 (cell_skip1 (cell_skip1 (rfl)))))) (Wt.yes rfl rfl rfl) rfl rfl ?_
    refine T.q (q_len sc22 rfl rfl) (Wt.yes rfl rfl rfl) rfl rfl ?_
    refine T.q (q_gtr rfl rfl rfl) (Wt.yes rfl rfl rfl) rfl rfl ?_
    refine T.q (q_pickT rfl rfl rfl) (Wt.plain rfl) rfl rfl ?_
    refine T.q (q_move rfl rfl) (Wt.plain rfl) rfl rfl ?_
    refine T.both (t := 88) _ rfl (fun hb11 => ?_) (fun hb11 => ?_)
    · replace hb11 := of_decide_eq_true hb11
      refine T.no (Wn.no rfl rfl rfl rfl) rfl rfl ?_
      refine T.no (Wn.no rfl rfl rfl rfl) rfl rfl ?_
      refine T.no (Wn.no rfl rfl rfl rfl) rfl rfl ?_
      refine T.no (Wn.no rfl rfl rfl rfl) rfl rfl ?_
      refine T.no (Wn.none rfl rfl rfl) rfl rfl ?_
      refine T.no (Wn.none rfl rfl rfl) rfl rfl ?_
      refine T.no (Wn.none rfl rfl rfl) rfl rfl ?_
      refine T.no (Wn.no rfl rfl rfl rfl) rfl rfl ?_
      refine T.no (Wn.no rfl rfl rfl rfl) rfl rfl ?_
      refine T.no (Wn.none rfl rfl rfl) rfl rfl ?_
      refine T.no (Wn.none rfl rfl rfl) rfl rfl ?_
      refine T.no (Wn.none rfl rfl rfl) rfl rfl ?_
      refine T.no (Wn.no rfl rfl rfl rfl) rfl rfl ?_
      refine T.q (q_pickT rfl rfl rfl) (Wt.plain rfl) rfl rfl ?_
      refine T.q (q_move rfl rfl) (Wt.plain rfl) rfl rfl ?_
      refine T.no (Wn.no rfl rfl rfl rfl) rfl rfl ?_
      refine T.no (Wn.no rfl rfl rfl rfl) rfl rfl ?_
      refine T.no (Wn.no rfl rfl rfl rfl) rfl rfl ?_
      refine T.no (Wn.no rfl rfl rfl rfl) rfl rfl ?_
      refine T.no (Wn.none rfl rfl rfl) rfl rfl ?_
      refine T.no (Wn.none rfl rfl rfl) rfl rfl ?_
      refine T.no (Wn.none rfl rfl rfl) rfl rfl ?_
      refine T.no (Wn.no rfl rfl rfl rfl) rfl rfl ?_
      refine T.no (Wn.no rfl rfl rfl rfl) rfl rfl ?_
      refine T.no (Wn.none rfl rfl rfl) rfl rfl ?_
      refine T.no (Wn.none rfl rfl rfl) rfl rfl ?_
      refine T.no (Wn.none rfl rfl rfl) rfl rfl ?_
      refine T.no (Wn.none rfl rfl rfl) rfl rfl ?_
      refine T.no (Wn.no rfl rfl rfl rfl) rfl rfl ?_
      refine T.q (q_pickT rfl rfl rfl) (Wt.plain rfl) rfl rfl ?_
      refine T.q (q_move rfl rfl) (Wt.plain rfl) rfl rfl ?_
      refine T.no (Wn.no rfl rfl rfl rfl) rfl rfl ?_
      refine T.no (Wn.no rfl rfl rfl rfl) rfl rfl ?_
      refine T.no (Wn.no rfl rfl rfl rfl) rfl rfl ?_
      refine T.no (Wn.none rfl rfl rfl) rfl rfl ?_
      refine T.no (Wn.none rfl rfl rfl) rfl rfl ?_
      refine T.no (Wn.none rfl rfl rfl) rfl rfl ?_
      refine T.no (Wn.none rfl rfl rfl) rfl rfl ?_
      refine T.no (Wn.no rfl rfl rfl rfl) rfl rfl ?_
      refine T.q (q_pickT rfl rfl rfl) (Wt.plain rfl) rfl rfl ?_
      refine T.nil ?_
      refine Ex.next ?_
      refine W.slots (L' := [(1, _), (4, _), (128, _)]) ⟨rfl, rfl, rfl, trivial⟩ ?_
      refine W.condT rfl ?_
      refine W.region ?_
      refine T.q (q_assign rfl rfl) (Wt.plain rfl) rfl rfl ?_
      refine T.nil ?_
      refine Ex.next ?_
      refine W.slots (L' := [(1, _), (4, _)]) ⟨rfl, rfl, trivial⟩ ?_
      refine W.seq ?_
      refine W.seq ?_
      refine W.region ?_
      refine T.q (q_move rfl rfl) (Wt.plain rfl) rfl rfl ?_
      refine T.q (q_not rfl rfl) (Wt.plain rfl) rfl rfl ?_
      refine T.q (q_move rfl rfl) (Wt.plain rfl) rfl rfl ?_
      refine T.no (Wn.no rfl rfl rfl rfl) rfl rfl ?_
      refine T.no (Wn.no rfl rfl rfl rfl) rfl rfl ?_
      refine T.no (Wn.no rfl rfl rfl rfl) rfl rfl ?_
      refine T.no (Wn.no rfl rfl rfl rfl) rfl rfl ?_
      refine T.q (q_pickT rfl rfl rfl) (Wt.plain rfl) rfl rfl ?_
      refine T.nil ?_
      refine Ex.next ?_
      refine W.less (L' := [(136, _)]) [false] ⟨rfl, trivial⟩ ?_
      change (_ : List Blk → Prop) []
      refine W.condT rfl ?_
      refine W.seq ?_
      refine W.region ?_
      refine T.q (q_assign rfl rfl) (Wt.plain rfl) rfl rfl ?_
      refine T.nil ?_
      refine Ex.next ?_
      refine W.slots (L' := [(2, _)]) ⟨rfl, trivial⟩ ?_
      refine W.ret ?_
      refine Ex.then_ret ?_
      refine Ex.out1 [] rfl rfl ?_
      exact ⟨congrArg (Value.int .i64) (chkE_no (f := ⟨7, a, l, rs, bs, tok⟩) fun (h : mayN 7 a l bs.length rs.length (risN rs (a + 1) 4611686018427387903) (risN rs 0 a) (tokN tok)) => by unfold mayN at h; omega).symm, rfl⟩
    replace hb11 := of_decide_eq_false hb11
    refine T.q (q_fld fl59_0 rfl rfl) (Wt.yes rfl rfl rfl) rfl rfl ?_
    refine T.q (q_load1 ss3 0 rfl rfl rfl (rfl)) (Wt.yes rfl rfl rfl) rfl rfl ?_
    refine T.q (q_bool (b := true) (q_neq rfl rfl rfl) (decide_eq_true (by decide))) (Wt.yes rfl rfl rfl) rfl rfl ?_
    refine T.q (q_move rfl rfl) (Wt.yes rfl rfl rfl) rfl rfl ?_
    refine T.q (q_fld fl59_0 rfl rfl) (Wt.yes rfl rfl rfl) rfl rfl ?_
    refine T.q (q_load1 ss3 0 rfl rfl rfl (rfl)) (Wt.yes rfl rfl rfl) rfl rfl ?_
    refine T.q (q_bool (b := false) (q_neq rfl rfl rfl) (decide_eq_false (by decide))) (Wt.yes rfl rfl rfl) rfl rfl ?_
    refine T.q (q_pickT rfl rfl rfl) (Wt.yes rfl rfl rfl) rfl rfl ?_
    refine T.q (q_move rfl rfl) (Wt.yes rfl rfl rfl) rfl rfl ?_
    refine T.no (Wn.no rfl rfl rfl rfl) rfl rfl ?_
    refine T.no (Wn.no rfl rfl rfl rfl) rfl rfl ?_
    refine T.no (Wn.no rfl rfl rfl rfl) rfl rfl ?_
    refine T.q (q_pickF rfl rfl rfl) (Wt.yes rfl rfl rfl) rfl rfl ?_
    refine T.q (q_pickF rfl rfl rfl) (Wt.plain rfl) rfl rfl ?_
    refine T.q (q_move rfl rfl) (Wt.plain rfl) rfl rfl ?_
    refine T.q (q_fld fl59_0 rfl rfl) (Wt.yes rfl rfl rfl) rfl rfl ?_
    refine T.q (q_load1 ss3 0 rfl rfl rfl (rfl)) (Wt.yes rfl rfl rfl) rfl rfl ?_
    refine T.q (q_bool (b := true) (q_neq rfl rfl rfl) (decide_eq_true (by decide))) (Wt.yes rfl rfl rfl) rfl rfl ?_
    refine T.q (q_move rfl rfl) (Wt.yes rfl rfl rfl) rfl rfl ?_
    refine T.q (q_fld fl59_0 rfl rfl) (Wt.yes rfl rfl rfl) rfl rfl ?_
    refine T.q (q_load1 ss3 0 rfl rfl rfl (rfl)) (Wt.yes rfl rfl rfl) rfl rfl ?_
    refine T.q (q_bool (b := false) (q_neq rfl rfl rfl) (decide_eq_false (by decide))) (Wt.yes rfl rfl rfl) rfl rfl ?_
    refine T.q (q_pickT rfl rfl rfl) (Wt.yes rfl rfl rfl) rfl rfl ?_
    refine T.q (q_move rfl rfl) (Wt.yes rfl rfl rfl) rfl rfl ?_
    refine T.no (Wn.no rfl rfl rfl rfl) rfl rfl ?_
    refine T.no (Wn.no rfl rfl rfl rfl) rfl rfl ?_
    refine T.no (Wn.no rfl rfl rfl rfl) rfl rfl ?_
    refine T.no (Wn.no rfl rfl rfl rfl) rfl rfl ?_
    refine T.q (q_pickF rfl rfl rfl) (Wt.yes rfl rfl rfl) rfl rfl ?_
    refine T.q (q_pickF rfl rfl rfl) (Wt.plain rfl) rfl rfl ?_
    refine T.q (q_move rfl rfl) (Wt.plain rfl) rfl rfl ?_
    refine T.q (q_move rfl rfl) (Wt.yes rfl rfl rfl) rfl rfl ?_
    refine T.q (q_not rfl rfl) (Wt.yes rfl rfl rfl) rfl rfl ?_
    refine T.q (q_move rfl rfl) (Wt.yes rfl rfl rfl) rfl rfl ?_
    refine T.q (q_fld fl59_5 rfl rfl) (Wt.yes rfl rfl rfl) rfl rfl ?_
    refine T.q (q_loadW (wide_ints wd57 (by first | omega | (simp; done) | (simp [-List.getD_eq_getElem?_getD]; omega) | (simp at *; omega) | rfl)) (R_at 0 5 8 rfl (part_skip1 (part_skip1 (part_skip1 (part_skip1 (part_skip1 (part_last (by first | omega | (simp; done) | (simp [-List.getD_eq_getElem?_getD]; omega) | (simp at *; omega) | rfl)))))))) rfl rfl) (Wt.yes rfl rfl rfl) rfl rfl ?_
    refine T.q (q_build (v := .agg (ints .u8 (List.replicate 8 0)).toArray) rfl rfl (fun _ => by kernel_rfl)) (Wt.yes rfl rfl rfl) rfl rfl ?_
    refine T.q (q_bool (b := decide (tokN tok ≠ 1)) (q_neqA ar57 ss5 un5 eg57 rfl rfl rfl (by first | omega | (simp; done) | (simp [-List.getD_eq_getElem?_getD]; omega) | (simp at *; omega) | rfl) (by first | omega | (simp; done) | (simp [-List.getD_eq_getElem?_getD]; omega) | (simp at *; omega) | rfl)) ?hE) (Wt.yes rfl rfl rfl) rfl rfl ?_
    case hE => exact tok_neq
    refine T.q (q_pickT rfl rfl rfl) (Wt.yes rfl rfl rfl) rfl rfl ?_
    refine T.q (q_pickF rfl rfl rfl) (Wt.plain rfl) rfl rfl ?_
    refine T.nil ?_
    refine Ex.next ?_
    refine W.slots (L' := [(1, _), (4, _), (128, _)]) ⟨rfl, rfl, rfl, trivial⟩ ?_
    refine W.cond _ rfl (fun hb12 => ?_) (fun hb12 => ?_)
    · replace hb12 := of_decide_eq_true hb12
      refine W.region ?_
      refine T.q (q_assign rfl rfl) (Wt.plain rfl) rfl rfl ?_
      refine T.nil ?_
      refine Ex.next ?_
      refine W.slots (L' := [(1, _), (4, _)]) ⟨rfl, rfl, trivial⟩ ?_
      refine W.seq ?_
      refine W.seq ?_
      refine W.region ?_
      refine T.q (q_move rfl rfl) (Wt.plain rfl) rfl rfl ?_
      refine T.q (q_not rfl rfl) (Wt.plain rfl) rfl rfl ?_
      refine T.q (q_move rfl rfl) (Wt.plain rfl) rfl rfl ?_
      refine T.no (Wn.no rfl rfl rfl rfl) rfl rfl ?_
      refine T.no (Wn.no rfl rfl rfl rfl) rfl rfl ?_
      refine T.no (Wn.no rfl rfl rfl rfl) rfl rfl ?_
      refine T.no (Wn.no rfl rfl rfl rfl) rfl rfl ?_
      refine T.q (q_pickT rfl rfl rfl) (Wt.plain rfl) rfl rfl ?_
      refine T.nil ?_
      refine Ex.next ?_
      refine W.less (L' := [(136, _)]) [false] ⟨rfl, trivial⟩ ?_
      change (_ : List Blk → Prop) []
      refine W.condT rfl ?_
      refine W.seq ?_
      refine W.region ?_
      refine T.q (q_assign rfl rfl) (Wt.plain rfl) rfl rfl ?_
      refine T.nil ?_
      refine Ex.next ?_
      refine W.slots (L' := [(2, _)]) ⟨rfl, trivial⟩ ?_
      refine W.ret ?_
      refine Ex.then_ret ?_
      refine Ex.out1 [] rfl rfl ?_
      exact ⟨congrArg (Value.int .i64) (chkE_no (f := ⟨7, a, l, rs, bs, tok⟩) fun (h : mayN 7 a l bs.length rs.length (risN rs (a + 1) 4611686018427387903) (risN rs 0 a) (tokN tok)) => by unfold mayN at h; omega).symm, rfl⟩
    replace hb12 := of_decide_eq_false hb12
    refine W.skip ?_
    refine Ex.next ?_
    refine W.slots (L' := [(1, _), (4, _)]) ⟨rfl, rfl, trivial⟩ ?_
    refine W.seq ?_
    refine W.seq ?_
    refine W.region ?_
    refine T.q (q_move rfl rfl) (Wt.plain rfl) rfl rfl ?_
    refine T.q (q_not rfl rfl) (Wt.plain rfl) rfl rfl ?_
    refine T.q (q_move rfl rfl) (Wt.plain rfl) rfl rfl ?_
    refine T.no (Wn.no rfl rfl rfl rfl) rfl rfl ?_
    refine T.no (Wn.no rfl rfl rfl rfl) rfl rfl ?_
    refine T.no (Wn.no rfl rfl rfl rfl) rfl rfl ?_
    refine T.no (Wn.no rfl rfl rfl rfl) rfl rfl ?_
    refine T.q (q_pickT rfl rfl rfl) (Wt.plain rfl) rfl rfl ?_
    refine T.nil ?_
    refine Ex.next ?_
    refine W.less (L' := [(136, _)]) [false] ⟨rfl, trivial⟩ ?_
    change (_ : List Blk → Prop) []
    refine W.condT rfl ?_
    refine W.seq ?_
    refine W.region ?_
    refine T.q (q_assign rfl rfl) (Wt.plain rfl) rfl rfl ?_
    refine T.nil ?_
    refine Ex.next ?_
    refine W.slots (L' := [(2, _)]) ⟨rfl, trivial⟩ ?_
    refine W.ret ?_
    refine Ex.then_ret ?_
    refine Ex.out1 [] rfl rfl ?_
    exact ⟨congrArg (Value.int .i64) (chkE_no (f := ⟨7, a, l, rs, bs, tok⟩) fun (h : mayN 7 a l bs.length rs.length (risN rs (a + 1) 4611686018427387903) (risN rs 0 a) (tokN tok)) => by unfold mayN at h; omega).symm, rfl⟩
  replace hb2 := of_decide_eq_false hb2
  refine T.no (Wn.no rfl rfl rfl rfl) rfl rfl ?_
  refine T.no (Wn.no rfl rfl rfl rfl) rfl rfl ?_
  refine T.no (Wn.no rfl rfl rfl rfl) rfl rfl ?_
  refine T.q (q_pickF rfl rfl rfl) (Wt.plain rfl) rfl rfl ?_
  refine T.q (q_move rfl rfl) (Wt.plain rfl) rfl rfl ?_
  refine T.no (Wn.no rfl rfl rfl rfl) rfl rfl ?_
  refine T.no (Wn.no rfl rfl rfl rfl) rfl rfl ?_
  refine T.no (Wn.no rfl rfl rfl rfl) rfl rfl ?_
  refine T.q (q_pickF rfl rfl rfl) (Wt.plain rfl) rfl rfl ?_
  refine T.q (q_move rfl rfl) (Wt.plain rfl) rfl rfl ?_
  refine T.no (Wn.no rfl rfl rfl rfl) rfl rfl ?_
  refine T.no (Wn.no rfl rfl rfl rfl) rfl rfl ?_
  refine T.no (Wn.no rfl rfl rfl rfl) rfl rfl ?_
  refine T.no (Wn.no rfl rfl rfl rfl) rfl rfl ?_
  refine T.no (Wn.no rfl rfl rfl rfl) rfl rfl ?_
  refine T.q (q_pickF rfl rfl rfl) (Wt.plain rfl) rfl rfl ?_
  refine T.q (q_assign rfl rfl) (Wt.plain rfl) rfl rfl ?_
  refine T.nil ?_
  refine Ex.in_normal ?_
  refine Ex.next ?_
  refine W.slots (L' := [(1, _), (3, _), (4, _)]) ⟨rfl, rfl, rfl, trivial⟩ ?_
  refine W.seq ?_
  refine W.seq ?_
  refine W.region ?_
  refine T.q (q_fld fl59_0 rfl rfl) (Wt.plain rfl) rfl rfl ?_
  refine T.q (q_load1 ss3 0 rfl rfl rfl (rfl)) (Wt.plain rfl) rfl rfl ?_
  refine T.q (q_bool (b := true) (q_neq rfl rfl rfl) (decide_eq_true (by decide))) (Wt.plain rfl) rfl rfl ?_
  refine T.q (q_move rfl rfl) (Wt.plain rfl) rfl rfl ?_
  refine T.q (q_fld fl59_4 rfl rfl) (Wt.yes rfl rfl rfl) rfl rfl ?_
  refine T.q (q_load1 ss22 0 rfl rfl rfl (cell_skip1 (cell_skip1 (cell_skip1 (cell_skip1 (rfl)))))) (Wt.yes rfl rfl rfl) rfl rfl ?_
  refine T.q (q_len sc22 rfl rfl) (Wt.yes rfl rfl rfl) rfl rfl ?_
  refine T.q (q_gtr rfl rfl rfl) (Wt.yes rfl rfl rfl) rfl rfl ?_
  refine T.q (q_pickT rfl rfl rfl) (Wt.plain rfl) rfl rfl ?_
  refine T.q (q_move rfl rfl) (Wt.plain rfl) rfl rfl ?_
  refine T.both (t := 88) _ rfl (fun hb13 => ?_) (fun hb13 => ?_)
  · replace hb13 := of_decide_eq_true hb13
    refine T.no (Wn.no rfl rfl rfl rfl) rfl rfl ?_
    refine T.no (Wn.no rfl rfl rfl rfl) rfl rfl ?_
    refine T.no (Wn.no rfl rfl rfl rfl) rfl rfl ?_
    refine T.no (Wn.no rfl rfl rfl rfl) rfl rfl ?_
    refine T.no (Wn.none rfl rfl rfl) rfl rfl ?_
    refine T.no (Wn.none rfl rfl rfl) rfl rfl ?_
    refine T.no (Wn.none rfl rfl rfl) rfl rfl ?_
    refine T.no (Wn.no rfl rfl rfl rfl) rfl rfl ?_
    refine T.no (Wn.no rfl rfl rfl rfl) rfl rfl ?_
    refine T.no (Wn.none rfl rfl rfl) rfl rfl ?_
    refine T.no (Wn.none rfl rfl rfl) rfl rfl ?_
    refine T.no (Wn.none rfl rfl rfl) rfl rfl ?_
    refine T.no (Wn.no rfl rfl rfl rfl) rfl rfl ?_
    refine T.q (q_pickT rfl rfl rfl) (Wt.plain rfl) rfl rfl ?_
    refine T.q (q_move rfl rfl) (Wt.plain rfl) rfl rfl ?_
    refine T.no (Wn.no rfl rfl rfl rfl) rfl rfl ?_
    refine T.no (Wn.no rfl rfl rfl rfl) rfl rfl ?_
    refine T.no (Wn.no rfl rfl rfl rfl) rfl rfl ?_
    refine T.no (Wn.no rfl rfl rfl rfl) rfl rfl ?_
    refine T.no (Wn.none rfl rfl rfl) rfl rfl ?_
    refine T.no (Wn.none rfl rfl rfl) rfl rfl ?_
    refine T.no (Wn.none rfl rfl rfl) rfl rfl ?_
    refine T.no (Wn.no rfl rfl rfl rfl) rfl rfl ?_
    refine T.no (Wn.no rfl rfl rfl rfl) rfl rfl ?_
    refine T.no (Wn.none rfl rfl rfl) rfl rfl ?_
    refine T.no (Wn.none rfl rfl rfl) rfl rfl ?_
    refine T.no (Wn.none rfl rfl rfl) rfl rfl ?_
    refine T.no (Wn.none rfl rfl rfl) rfl rfl ?_
    refine T.no (Wn.no rfl rfl rfl rfl) rfl rfl ?_
    refine T.q (q_pickT rfl rfl rfl) (Wt.plain rfl) rfl rfl ?_
    refine T.q (q_move rfl rfl) (Wt.plain rfl) rfl rfl ?_
    refine T.no (Wn.no rfl rfl rfl rfl) rfl rfl ?_
    refine T.no (Wn.no rfl rfl rfl rfl) rfl rfl ?_
    refine T.no (Wn.no rfl rfl rfl rfl) rfl rfl ?_
    refine T.no (Wn.none rfl rfl rfl) rfl rfl ?_
    refine T.no (Wn.none rfl rfl rfl) rfl rfl ?_
    refine T.no (Wn.none rfl rfl rfl) rfl rfl ?_
    refine T.no (Wn.none rfl rfl rfl) rfl rfl ?_
    refine T.no (Wn.no rfl rfl rfl rfl) rfl rfl ?_
    refine T.q (q_pickT rfl rfl rfl) (Wt.plain rfl) rfl rfl ?_
    refine T.nil ?_
    refine Ex.next ?_
    refine W.slots (L' := [(1, _), (4, _), (128, _)]) ⟨rfl, rfl, rfl, trivial⟩ ?_
    refine W.condT rfl ?_
    refine W.region ?_
    refine T.q (q_assign rfl rfl) (Wt.plain rfl) rfl rfl ?_
    refine T.nil ?_
    refine Ex.next ?_
    refine W.slots (L' := [(1, _), (4, _)]) ⟨rfl, rfl, trivial⟩ ?_
    refine W.seq ?_
    refine W.seq ?_
    refine W.region ?_
    refine T.q (q_move rfl rfl) (Wt.plain rfl) rfl rfl ?_
    refine T.q (q_not rfl rfl) (Wt.plain rfl) rfl rfl ?_
    refine T.q (q_move rfl rfl) (Wt.plain rfl) rfl rfl ?_
    refine T.no (Wn.no rfl rfl rfl rfl) rfl rfl ?_
    refine T.no (Wn.no rfl rfl rfl rfl) rfl rfl ?_
    refine T.no (Wn.no rfl rfl rfl rfl) rfl rfl ?_
    refine T.no (Wn.no rfl rfl rfl rfl) rfl rfl ?_
    refine T.q (q_pickT rfl rfl rfl) (Wt.plain rfl) rfl rfl ?_
    refine T.nil ?_
    refine Ex.next ?_
    refine W.less (L' := [(136, _)]) [false] ⟨rfl, trivial⟩ ?_
    change (_ : List Blk → Prop) []
    refine W.condT rfl ?_
    refine W.seq ?_
    refine W.region ?_
    refine T.q (q_assign rfl rfl) (Wt.plain rfl) rfl rfl ?_
    refine T.nil ?_
    refine Ex.next ?_
    refine W.slots (L' := [(2, _)]) ⟨rfl, trivial⟩ ?_
    refine W.ret ?_
    refine Ex.then_ret ?_
    refine Ex.out1 [] rfl rfl ?_
    exact ⟨congrArg (Value.int .i64) (chkE_no (f := ⟨7, a, l, rs, bs, tok⟩) fun (h : mayN 7 a l bs.length rs.length (risN rs (a + 1) 4611686018427387903) (risN rs 0 a) (tokN tok)) => by unfold mayN at h; omega).symm, rfl⟩
  replace hb13 := of_decide_eq_false hb13
  refine T.q (q_fld fl59_0 rfl rfl) (Wt.yes rfl rfl rfl) rfl rfl ?_
  refine T.q (q_load1 ss3 0 rfl rfl rfl (rfl)) (Wt.yes rfl rfl rfl) rfl rfl ?_
  refine T.q (q_bool (b := true) (q_neq rfl rfl rfl) (decide_eq_true (by decide))) (Wt.yes rfl rfl rfl) rfl rfl ?_
  refine T.q (q_move rfl rfl) (Wt.yes rfl rfl rfl) rfl rfl ?_
  refine T.q (q_fld fl59_0 rfl rfl) (Wt.yes rfl rfl rfl) rfl rfl ?_
  refine T.q (q_load1 ss3 0 rfl rfl rfl (rfl)) (Wt.yes rfl rfl rfl) rfl rfl ?_
  refine T.q (q_bool (b := false) (q_neq rfl rfl rfl) (decide_eq_false (by decide))) (Wt.yes rfl rfl rfl) rfl rfl ?_
  refine T.q (q_pickT rfl rfl rfl) (Wt.yes rfl rfl rfl) rfl rfl ?_
  refine T.q (q_move rfl rfl) (Wt.yes rfl rfl rfl) rfl rfl ?_
  refine T.no (Wn.no rfl rfl rfl rfl) rfl rfl ?_
  refine T.no (Wn.no rfl rfl rfl rfl) rfl rfl ?_
  refine T.no (Wn.no rfl rfl rfl rfl) rfl rfl ?_
  refine T.q (q_pickF rfl rfl rfl) (Wt.yes rfl rfl rfl) rfl rfl ?_
  refine T.q (q_pickF rfl rfl rfl) (Wt.plain rfl) rfl rfl ?_
  refine T.q (q_move rfl rfl) (Wt.plain rfl) rfl rfl ?_
  refine T.q (q_fld fl59_0 rfl rfl) (Wt.yes rfl rfl rfl) rfl rfl ?_
  refine T.q (q_load1 ss3 0 rfl rfl rfl (rfl)) (Wt.yes rfl rfl rfl) rfl rfl ?_
  refine T.q (q_bool (b := true) (q_neq rfl rfl rfl) (decide_eq_true (by decide))) (Wt.yes rfl rfl rfl) rfl rfl ?_
  refine T.q (q_move rfl rfl) (Wt.yes rfl rfl rfl) rfl rfl ?_
  refine T.q (q_fld fl59_0 rfl rfl) (Wt.yes rfl rfl rfl) rfl rfl ?_
  refine T.q (q_load1 ss3 0 rfl rfl rfl (rfl)) (Wt.yes rfl rfl rfl) rfl rfl ?_
  refine T.q (q_bool (b := false) (q_neq rfl rfl rfl) (decide_eq_false (by decide))) (Wt.yes rfl rfl rfl) rfl rfl ?_
  refine T.q (q_pickT rfl rfl rfl) (Wt.yes rfl rfl rfl) rfl rfl ?_
  refine T.q (q_move rfl rfl) (Wt.yes rfl rfl rfl) rfl rfl ?_
  refine T.no (Wn.no rfl rfl rfl rfl) rfl rfl ?_
  refine T.no (Wn.no rfl rfl rfl rfl) rfl rfl ?_
  refine T.no (Wn.no rfl rfl rfl rfl) rfl rfl ?_
  refine T.no (Wn.no rfl rfl rfl rfl) rfl rfl ?_
  refine T.q (q_pickF rfl rfl rfl) (Wt.yes rfl rfl rfl) rfl rfl ?_
  refine T.q (q_pickF rfl rfl rfl) (Wt.plain rfl) rfl rfl ?_
  refine T.q (q_move rfl rfl) (Wt.plain rfl) rfl rfl ?_
  refine T.q (q_move rfl rfl) (Wt.yes rfl rfl rfl) rfl rfl ?_
  refine T.q (q_not rfl rfl) (Wt.yes rfl rfl rfl) rfl rfl ?_
  refine T.q (q_move rfl rfl) (Wt.yes rfl rfl rfl) rfl rfl ?_
  refine T.q (q_fld fl59_5 rfl rfl) (Wt.yes rfl rfl rfl) rfl rfl ?_
  refine T.q (q_loadW (wide_ints wd57 (by first | omega | (simp; done) | (simp [-List.getD_eq_getElem?_getD]; omega) | (simp at *; omega) | rfl)) (R_at 0 5 8 rfl (part_skip1 (part_skip1 (part_skip1 (part_skip1 (part_skip1 (part_last (by first | omega | (simp; done) | (simp [-List.getD_eq_getElem?_getD]; omega) | (simp at *; omega) | rfl)))))))) rfl rfl) (Wt.yes rfl rfl rfl) rfl rfl ?_
  refine T.q (q_build (v := .agg (ints .u8 (List.replicate 8 0)).toArray) rfl rfl (fun _ => by kernel_rfl)) (Wt.yes rfl rfl rfl) rfl rfl ?_
  refine T.q (q_bool (b := decide (tokN tok ≠ 1)) (q_neqA ar57 ss5 un5 eg57 rfl rfl rfl (by first | omega | (simp; done) | (simp [-List.getD_eq_getElem?_getD]; omega) | (simp at *; omega) | rfl) (by first | omega | (simp; done) | (simp [-List.getD_eq_getElem?_getD]; omega) | (simp at *; omega) | rfl)) ?hE) (Wt.yes rfl rfl rfl) rfl rfl ?_
  case hE => exact tok_neq
  refine T.q (q_pickT rfl rfl rfl) (Wt.yes rfl rfl rfl) rfl rfl ?_
  refine T.q (q_pickF rfl rfl rfl) (Wt.plain rfl) rfl rfl ?_
  refine T.nil ?_
  refine Ex.next ?_
  refine W.slots (L' := [(1, _), (4, _), (128, _)]) ⟨rfl, rfl, rfl, trivial⟩ ?_
  refine W.cond _ rfl (fun hb14 => ?_) (fun hb14 => ?_)
  · replace hb14 := of_decide_eq_true hb14
    refine W.region ?_
    refine T.q (q_assign rfl rfl) (Wt.plain rfl) rfl rfl ?_
    refine T.nil ?_
    refine Ex.next ?_
    refine W.slots (L' := [(1, _), (4, _)]) ⟨rfl, rfl, trivial⟩ ?_
    refine W.seq ?_
    refine W.seq ?_
    refine W.region ?_
    refine T.q (q_move rfl rfl) (Wt.plain rfl) rfl rfl ?_
    refine T.q (q_not rfl rfl) (Wt.plain rfl) rfl rfl ?_
    refine T.q (q_move rfl rfl) (Wt.plain rfl) rfl rfl ?_
    refine T.no (Wn.no rfl rfl rfl rfl) rfl rfl ?_
    refine T.no (Wn.no rfl rfl rfl rfl) rfl rfl ?_
    refine T.no (Wn.no rfl rfl rfl rfl) rfl rfl ?_
    refine T.no (Wn.no rfl rfl rfl rfl) rfl rfl ?_
    refine T.q (q_pickT rfl rfl rfl) (Wt.plain rfl) rfl rfl ?_
    refine T.nil ?_
    refine Ex.next ?_
    refine W.less (L' := [(136, _)]) [false] ⟨rfl, trivial⟩ ?_
    change (_ : List Blk → Prop) []
    refine W.condT rfl ?_
    refine W.seq ?_
    refine W.region ?_
    refine T.q (q_assign rfl rfl) (Wt.plain rfl) rfl rfl ?_
    refine T.nil ?_
    refine Ex.next ?_
    refine W.slots (L' := [(2, _)]) ⟨rfl, trivial⟩ ?_
    refine W.ret ?_
    refine Ex.then_ret ?_
    refine Ex.out1 [] rfl rfl ?_
    exact ⟨congrArg (Value.int .i64) (chkE_no (f := ⟨7, a, l, rs, bs, tok⟩) fun (h : mayN 7 a l bs.length rs.length (risN rs (a + 1) 4611686018427387903) (risN rs 0 a) (tokN tok)) => by unfold mayN at h; omega).symm, rfl⟩
  replace hb14 := of_decide_eq_false hb14
  refine W.skip ?_
  refine Ex.next ?_
  refine W.slots (L' := [(1, _), (4, _)]) ⟨rfl, rfl, trivial⟩ ?_
  refine W.seq ?_
  refine W.seq ?_
  refine W.region ?_
  refine T.q (q_move rfl rfl) (Wt.plain rfl) rfl rfl ?_
  refine T.q (q_not rfl rfl) (Wt.plain rfl) rfl rfl ?_
  refine T.q (q_move rfl rfl) (Wt.plain rfl) rfl rfl ?_
  refine T.no (Wn.no rfl rfl rfl rfl) rfl rfl ?_
  refine T.no (Wn.no rfl rfl rfl rfl) rfl rfl ?_
  refine T.no (Wn.no rfl rfl rfl rfl) rfl rfl ?_
  refine T.no (Wn.no rfl rfl rfl rfl) rfl rfl ?_
  refine T.q (q_pickT rfl rfl rfl) (Wt.plain rfl) rfl rfl ?_
  refine T.nil ?_
  refine Ex.next ?_
  refine W.less (L' := [(136, _)]) [false] ⟨rfl, trivial⟩ ?_
  change (_ : List Blk → Prop) []
  refine W.condT rfl ?_
  refine W.seq ?_
  refine W.region ?_
  refine T.q (q_assign rfl rfl) (Wt.plain rfl) rfl rfl ?_
  refine T.nil ?_
  refine Ex.next ?_
  refine W.slots (L' := [(2, _)]) ⟨rfl, trivial⟩ ?_
  refine W.ret ?_
  refine Ex.then_ret ?_
  refine Ex.out1 [] rfl rfl ?_
  exact ⟨congrArg (Value.int .i64) (chkE_no (f := ⟨7, a, l, rs, bs, tok⟩) fun (h : mayN 7 a l bs.length rs.length (risN rs (a + 1) 4611686018427387903) (risN rs 0 a) (tokN tok)) => by unfold mayN at h; omega).symm, rfl⟩
set_option maxRecDepth 100000 in
theorem refchk_k (k : Int) (hk : k < 1 ∨ 7 < k) (a l : Int) (rs : List (Int × Int)) (bs tok : List Int) (RA BA : Option Addr) (rc bc : Nat) (_hrl : rs.length ≤ 9223372036854775807) (htok : tok.length = 8) (w0 : World) (_hR : Reads w0 RA (ints .i64 (flat rs))) : Does Try.prog 48 #[.agg (.int .i64 k :: (.int .i64 a :: (.int .i64 l :: (.slice RA rs.length rc :: (.slice BA bs.length bc :: (ints .u8 tok)))))).toArray] w0 [] (fun v G => v = .int .i64 (chkE ⟨k, a, l, rs, bs, tok⟩) ∧ G = []) := by
  refine spec_of 137 Try.func48 rfl rfl rfl ?_
  refine W.seq ?_
  refine W.region ?_
  refine T.eff (e_box rfl rfl rfl rfl) (Wt.plain rfl) ?_
  rintro _ _ ⟨k1, rfl, rfl⟩
  change (_ : List Blk → Prop) [_]
  change (_ : List Blk → Prop) [⟨some k1, .int .i64 k :: (.int .i64 a :: (.int .i64 l :: (.slice RA rs.length rc :: (.slice BA bs.length bc :: (ints .u8 tok))))), 59, (0, 0)⟩]
  refine T.q (q_assign rfl rfl) (Wt.plain rfl) rfl rfl ?_
  refine T.nil ?_
  refine Ex.next ?_
  refine W.slots (L' := [(1, _)]) ⟨rfl, trivial⟩ ?_
  refine W.seq ?_
  refine W.region ?_
  refine T.q (q_fld fl59_0 rfl rfl) (Wt.plain rfl) rfl rfl ?_
  refine T.q (q_load1 ss3 0 rfl rfl rfl (rfl)) (Wt.plain rfl) rfl rfl ?_
  refine T.q (q_bool (b := false) (q_eql rfl rfl rfl) (decide_eq_false (by omega))) (Wt.plain rfl) rfl rfl ?_
  refine T.q (q_move rfl rfl) (Wt.plain rfl) rfl rfl ?_
  refine T.q (q_fld fl59_0 rfl rfl) (Wt.yes rfl rfl rfl) rfl rfl ?_
  refine T.q (q_load1 ss3 0 rfl rfl rfl (rfl)) (Wt.yes rfl rfl rfl) rfl rfl ?_
  refine T.q (q_bool (b := false) (q_eql rfl rfl rfl) (decide_eq_false (by omega))) (Wt.yes rfl rfl rfl) rfl rfl ?_
  refine T.q (q_pickF rfl rfl rfl) (Wt.plain rfl) rfl rfl ?_
  refine T.q (q_assign rfl rfl) (Wt.plain rfl) rfl rfl ?_
  refine T.nil ?_
  refine Ex.next ?_
  refine W.slots (L' := [(1, _), (3, _)]) ⟨rfl, rfl, trivial⟩ ?_
  refine W.seq ?_
  refine W.region ?_
  refine T.q (q_assign rfl rfl) (Wt.plain rfl) rfl rfl ?_
  refine T.nil ?_
  refine Ex.next ?_
  refine W.slots (L' := [(1, _), (3, _), (4, _)]) ⟨rfl, rfl, rfl, trivial⟩ ?_
  refine W.seq ?_
  refine W.seq ?_
  refine W.region ?_
  refine T.q (q_fld fl59_0 rfl rfl) (Wt.plain rfl) rfl rfl ?_
  refine T.q (q_load1 ss3 0 rfl rfl rfl (rfl)) (Wt.plain rfl) rfl rfl ?_
  refine T.nil ?_
  refine Ex.next ?_
  refine W.slots (L' := [(1, _), (3, _), (4, _), (14, _)]) ⟨rfl, rfl, rfl, rfl, trivial⟩ ?_
  refine W.block ?_
  refine W.seq ?_
  refine W.region ?_
  refine T.q (q_bool (b := false) (q_eql rfl rfl rfl) (decide_eq_false (by omega))) (Wt.plain rfl) rfl rfl ?_
  refine T.q (q_assign rfl rfl) (Wt.plain rfl) rfl rfl ?_
  refine T.nil ?_
  refine Ex.next ?_
  refine W.slots (L' := [(1, _), (3, _), (4, _), (14, _), (15, _)]) ⟨rfl, rfl, rfl, rfl, rfl, trivial⟩ ?_
  refine W.condF rfl ?_
  refine W.seq ?_
  refine W.region ?_
  refine T.q (q_bool (b := false) (q_eql rfl rfl rfl) (decide_eq_false (by omega))) (Wt.plain rfl) rfl rfl ?_
  refine T.q (q_assign rfl rfl) (Wt.plain rfl) rfl rfl ?_
  refine T.nil ?_
  refine Ex.next ?_
  refine W.slots (L' := [(1, _), (3, _), (4, _), (14, _), (27, _)]) ⟨rfl, rfl, rfl, rfl, rfl, trivial⟩ ?_
  refine W.condF rfl ?_
  refine W.seq ?_
  refine W.seq ?_
  refine W.region ?_
  refine T.q (q_bool (b := false) (q_eql rfl rfl rfl) (decide_eq_false (by omega))) (Wt.plain rfl) rfl rfl ?_
  refine T.q (q_assign rfl rfl) (Wt.plain rfl) rfl rfl ?_
  refine T.nil ?_
  refine Ex.next ?_
  refine W.slots (L' := [(1, _), (3, _), (4, _), (14, _), (44, _)]) ⟨rfl, rfl, rfl, rfl, rfl, trivial⟩ ?_
  refine W.condF rfl ?_
  refine W.region ?_
  refine T.q (q_bool (b := false) (q_eql rfl rfl rfl) (decide_eq_false (by omega))) (Wt.plain rfl) rfl rfl ?_
  refine T.q (q_assign rfl rfl) (Wt.plain rfl) rfl rfl ?_
  refine T.nil ?_
  refine Ex.next ?_
  refine W.slots (L' := [(1, _), (3, _), (4, _), (14, _), (44, _)]) ⟨rfl, rfl, rfl, rfl, rfl, trivial⟩ ?_
  refine W.condF rfl ?_
  refine W.seq ?_
  refine W.region ?_
  refine T.q (q_bool (b := false) (q_eql rfl rfl rfl) (decide_eq_false (by omega))) (Wt.plain rfl) rfl rfl ?_
  refine T.q (q_assign rfl rfl) (Wt.plain rfl) rfl rfl ?_
  refine T.nil ?_
  refine Ex.next ?_
  refine W.slots (L' := [(1, _), (3, _), (4, _), (14, _), (50, _)]) ⟨rfl, rfl, rfl, rfl, rfl, trivial⟩ ?_
  refine W.condF rfl ?_
  refine W.seq ?_
  refine W.region ?_
  refine T.q (q_bool (b := false) (q_eql rfl rfl rfl) (decide_eq_false (by omega))) (Wt.plain rfl) rfl rfl ?_
  refine T.q (q_assign rfl rfl) (Wt.plain rfl) rfl rfl ?_
  refine T.nil ?_
  refine Ex.next ?_
  refine W.slots (L' := [(1, _), (3, _), (4, _), (14, _), (55, _)]) ⟨rfl, rfl, rfl, rfl, rfl, trivial⟩ ?_
  refine W.condF rfl ?_
  refine W.seq ?_
  refine W.region ?_
  refine T.q (q_bool (b := false) (q_eql rfl rfl rfl) (decide_eq_false (by omega))) (Wt.plain rfl) rfl rfl ?_
  refine T.q (q_assign rfl rfl) (Wt.plain rfl) rfl rfl ?_
  refine T.nil ?_
  refine Ex.next ?_
  refine W.slots (L' := [(1, _), (3, _), (57, _)]) ⟨rfl, rfl, rfl, trivial⟩ ?_
  refine W.condF rfl ?_
  refine W.region ?_
  refine T.q (q_assign rfl rfl) (Wt.plain rfl) rfl rfl ?_
  refine T.nil ?_
  refine Ex.in_normal ?_
  refine Ex.next ?_
  refine W.slots (L' := [(1, _), (3, _), (4, _)]) ⟨rfl, rfl, rfl, trivial⟩ ?_
  refine W.seq ?_
  refine W.seq ?_
  refine W.region ?_
  refine T.q (q_fld fl59_0 rfl rfl) (Wt.plain rfl) rfl rfl ?_
  refine T.q (q_load1 ss3 0 rfl rfl rfl (rfl)) (Wt.plain rfl) rfl rfl ?_
  refine T.q (q_bool (b := true) (q_neq rfl rfl rfl) (decide_eq_true (by omega))) (Wt.plain rfl) rfl rfl ?_
  refine T.q (q_move rfl rfl) (Wt.plain rfl) rfl rfl ?_
  refine T.q (q_fld fl59_4 rfl rfl) (Wt.yes rfl rfl rfl) rfl rfl ?_
  refine T.q (q_load1 ss22 0 rfl rfl rfl (cell_skip1 (cell_skip1 (cell_skip1 (cell_skip1 (rfl)))))) (Wt.yes rfl rfl rfl) rfl rfl ?_
  refine T.q (q_len sc22 rfl rfl) (Wt.yes rfl rfl rfl) rfl rfl ?_
  refine T.q (q_gtr rfl rfl rfl) (Wt.yes rfl rfl rfl) rfl rfl ?_
  refine T.q (q_pickT rfl rfl rfl) (Wt.plain rfl) rfl rfl ?_
  refine T.q (q_move rfl rfl) (Wt.plain rfl) rfl rfl ?_
  refine T.both (t := 88) _ rfl (fun hb2 => ?_) (fun hb2 => ?_)
  · replace hb2 := of_decide_eq_true hb2
    refine T.no (Wn.no rfl rfl rfl rfl) rfl rfl ?_
    refine T.no (Wn.no rfl rfl rfl rfl) rfl rfl ?_
    refine T.no (Wn.no rfl rfl rfl rfl) rfl rfl ?_
    refine T.no (Wn.no rfl rfl rfl rfl) rfl rfl ?_
    refine T.no (Wn.none rfl rfl rfl) rfl rfl ?_
    refine T.no (Wn.none rfl rfl rfl) rfl rfl ?_
    refine T.no (Wn.none rfl rfl rfl) rfl rfl ?_
    refine T.no (Wn.no rfl rfl rfl rfl) rfl rfl ?_
    refine T.no (Wn.no rfl rfl rfl rfl) rfl rfl ?_
    refine T.no (Wn.none rfl rfl rfl) rfl rfl ?_
    refine T.no (Wn.none rfl rfl rfl) rfl rfl ?_
    refine T.no (Wn.none rfl rfl rfl) rfl rfl ?_
    refine T.no (Wn.no rfl rfl rfl rfl) rfl rfl ?_
    refine T.q (q_pickT rfl rfl rfl) (Wt.plain rfl) rfl rfl ?_
    refine T.q (q_move rfl rfl) (Wt.plain rfl) rfl rfl ?_
    refine T.no (Wn.no rfl rfl rfl rfl) rfl rfl ?_
    refine T.no (Wn.no rfl rfl rfl rfl) rfl rfl ?_
    refine T.no (Wn.no rfl rfl rfl rfl) rfl rfl ?_
    refine T.no (Wn.no rfl rfl rfl rfl) rfl rfl ?_
    refine T.no (Wn.none rfl rfl rfl) rfl rfl ?_
    refine T.no (Wn.none rfl rfl rfl) rfl rfl ?_
    refine T.no (Wn.none rfl rfl rfl) rfl rfl ?_
    refine T.no (Wn.no rfl rfl rfl rfl) rfl rfl ?_
    refine T.no (Wn.no rfl rfl rfl rfl) rfl rfl ?_
    refine T.no (Wn.none rfl rfl rfl) rfl rfl ?_
    refine T.no (Wn.none rfl rfl rfl) rfl rfl ?_
    refine T.no (Wn.none rfl rfl rfl) rfl rfl ?_
    refine T.no (Wn.none rfl rfl rfl) rfl rfl ?_
    refine T.no (Wn.no rfl rfl rfl rfl) rfl rfl ?_
    refine T.q (q_pickT rfl rfl rfl) (Wt.plain rfl) rfl rfl ?_
    refine T.q (q_move rfl rfl) (Wt.plain rfl) rfl rfl ?_
    refine T.no (Wn.no rfl rfl rfl rfl) rfl rfl ?_
    refine T.no (Wn.no rfl rfl rfl rfl) rfl rfl ?_
    refine T.no (Wn.no rfl rfl rfl rfl) rfl rfl ?_
    refine T.no (Wn.none rfl rfl rfl) rfl rfl ?_
    refine T.no (Wn.none rfl rfl rfl) rfl rfl ?_
    refine T.no (Wn.none rfl rfl rfl) rfl rfl ?_
    refine T.no (Wn.none rfl rfl rfl) rfl rfl ?_
    refine T.no (Wn.no rfl rfl rfl rfl) rfl rfl ?_
    refine T.q (q_pickT rfl rfl rfl) (Wt.plain rfl) rfl rfl ?_
    refine T.nil ?_
    refine Ex.next ?_
    refine W.slots (L' := [(1, _), (4, _), (128, _)]) ⟨rfl, rfl, rfl, trivial⟩ ?_
    refine W.condT rfl ?_
    refine W.region ?_
    refine T.q (q_assign rfl rfl) (Wt.plain rfl) rfl rfl ?_
    refine T.nil ?_
    refine Ex.next ?_
    refine W.slots (L' := [(1, _), (4, _)]) ⟨rfl, rfl, trivial⟩ ?_
    refine W.seq ?_
    refine W.seq ?_
    refine W.region ?_
    refine T.q (q_move rfl rfl) (Wt.plain rfl) rfl rfl ?_
    refine T.q (q_not rfl rfl) (Wt.plain rfl) rfl rfl ?_
    refine T.q (q_move rfl rfl) (Wt.plain rfl) rfl rfl ?_
    refine T.no (Wn.no rfl rfl rfl rfl) rfl rfl ?_
    refine T.no (Wn.no rfl rfl rfl rfl) rfl rfl ?_
    refine T.no (Wn.no rfl rfl rfl rfl) rfl rfl ?_
    refine T.no (Wn.no rfl rfl rfl rfl) rfl rfl ?_
    refine T.q (q_pickT rfl rfl rfl) (Wt.plain rfl) rfl rfl ?_
    refine T.nil ?_
    refine Ex.next ?_
    refine W.less (L' := [(136, _)]) [false] ⟨rfl, trivial⟩ ?_
    change (_ : List Blk → Prop) []
    refine W.condT rfl ?_
    refine W.seq ?_
    refine W.region ?_
    refine T.q (q_assign rfl rfl) (Wt.plain rfl) rfl rfl ?_
    refine T.nil ?_
    refine Ex.next ?_
    refine W.slots (L' := [(2, _)]) ⟨rfl, trivial⟩ ?_
    refine W.ret ?_
    refine Ex.then_ret ?_
    refine Ex.out1 [] rfl rfl ?_
    exact ⟨congrArg (Value.int .i64) (chkE_no (f := ⟨k, a, l, rs, bs, tok⟩) fun (h : mayN k a l bs.length rs.length (risN rs (a + 1) 4611686018427387903) (risN rs 0 a) (tokN tok)) => by unfold mayN at h; omega).symm, rfl⟩
  replace hb2 := of_decide_eq_false hb2
  refine T.q (q_fld fl59_0 rfl rfl) (Wt.yes rfl rfl rfl) rfl rfl ?_
  refine T.q (q_load1 ss3 0 rfl rfl rfl (rfl)) (Wt.yes rfl rfl rfl) rfl rfl ?_
  refine T.q (q_bool (b := true) (q_neq rfl rfl rfl) (decide_eq_true (by omega))) (Wt.yes rfl rfl rfl) rfl rfl ?_
  refine T.q (q_move rfl rfl) (Wt.yes rfl rfl rfl) rfl rfl ?_
  refine T.q (q_fld fl59_0 rfl rfl) (Wt.yes rfl rfl rfl) rfl rfl ?_
  refine T.q (q_load1 ss3 0 rfl rfl rfl (rfl)) (Wt.yes rfl rfl rfl) rfl rfl ?_
  refine T.q (q_bool (b := true) (q_neq rfl rfl rfl) (decide_eq_true (by omega))) (Wt.yes rfl rfl rfl) rfl rfl ?_
  refine T.q (q_pickT rfl rfl rfl) (Wt.yes rfl rfl rfl) rfl rfl ?_
  refine T.q (q_move rfl rfl) (Wt.yes rfl rfl rfl) rfl rfl ?_
  refine T.q (q_fld fl59_2 rfl rfl) (Wt.yes rfl rfl rfl) rfl rfl ?_
  refine T.q (q_load1 ss3 0 rfl rfl rfl (cell_skip1 (cell_skip1 (rfl)))) (Wt.yes rfl rfl rfl) rfl rfl ?_
  refine T.q (q_neq rfl rfl rfl) (Wt.yes rfl rfl rfl) rfl rfl ?_
  refine T.q (q_pickT rfl rfl rfl) (Wt.yes rfl rfl rfl) rfl rfl ?_
  refine T.q (q_pickF rfl rfl rfl) (Wt.plain rfl) rfl rfl ?_
  refine T.q (q_move rfl rfl) (Wt.plain rfl) rfl rfl ?_
  refine T.both (t := 103) _ rfl (fun hb3 => ?_) (fun hb3 => ?_)
  · replace hb3 := of_decide_eq_true hb3
    refine T.no (Wn.no rfl rfl rfl rfl) rfl rfl ?_
    refine T.no (Wn.no rfl rfl rfl rfl) rfl rfl ?_
    refine T.no (Wn.no rfl rfl rfl rfl) rfl rfl ?_
    refine T.no (Wn.no rfl rfl rfl rfl) rfl rfl ?_
    refine T.no (Wn.none rfl rfl rfl) rfl rfl ?_
    refine T.no (Wn.none rfl rfl rfl) rfl rfl ?_
    refine T.no (Wn.none rfl rfl rfl) rfl rfl ?_
    refine T.no (Wn.no rfl rfl rfl rfl) rfl rfl ?_
    refine T.no (Wn.no rfl rfl rfl rfl) rfl rfl ?_
    refine T.no (Wn.none rfl rfl rfl) rfl rfl ?_
    refine T.no (Wn.none rfl rfl rfl) rfl rfl ?_
    refine T.no (Wn.none rfl rfl rfl) rfl rfl ?_
    refine T.no (Wn.none rfl rfl rfl) rfl rfl ?_
    refine T.no (Wn.no rfl rfl rfl rfl) rfl rfl ?_
    refine T.q (q_pickT rfl rfl rfl) (Wt.plain rfl) rfl rfl ?_
    refine T.q (q_move rfl rfl) (Wt.plain rfl) rfl rfl ?_
    refine T.no (Wn.no rfl rfl rfl rfl) rfl rfl ?_
    refine T.no (Wn.no rfl rfl rfl rfl) rfl rfl ?_
    refine T.no (Wn.no rfl rfl rfl rfl) rfl rfl ?_
    refine T.no (Wn.none rfl rfl rfl) rfl rfl ?_
    refine T.no (Wn.none rfl rfl rfl) rfl rfl ?_
    refine T.no (Wn.none rfl rfl rfl) rfl rfl ?_
    refine T.no (Wn.none rfl rfl rfl) rfl rfl ?_
    refine T.no (Wn.no rfl rfl rfl rfl) rfl rfl ?_
    refine T.q (q_pickT rfl rfl rfl) (Wt.plain rfl) rfl rfl ?_
    refine T.nil ?_
    refine Ex.next ?_
    refine W.slots (L' := [(1, _), (4, _), (128, _)]) ⟨rfl, rfl, rfl, trivial⟩ ?_
    refine W.condT rfl ?_
    refine W.region ?_
    refine T.q (q_assign rfl rfl) (Wt.plain rfl) rfl rfl ?_
    refine T.nil ?_
    refine Ex.next ?_
    refine W.slots (L' := [(1, _), (4, _)]) ⟨rfl, rfl, trivial⟩ ?_
    refine W.seq ?_
    refine W.seq ?_
    refine W.region ?_
    refine T.q (q_move rfl rfl) (Wt.plain rfl) rfl rfl ?_
    refine T.q (q_not rfl rfl) (Wt.plain rfl) rfl rfl ?_
    refine T.q (q_move rfl rfl) (Wt.plain rfl) rfl rfl ?_
    refine T.no (Wn.no rfl rfl rfl rfl) rfl rfl ?_
    refine T.no (Wn.no rfl rfl rfl rfl) rfl rfl ?_
    refine T.no (Wn.no rfl rfl rfl rfl) rfl rfl ?_
    refine T.no (Wn.no rfl rfl rfl rfl) rfl rfl ?_
    refine T.q (q_pickT rfl rfl rfl) (Wt.plain rfl) rfl rfl ?_
    refine T.nil ?_
    refine Ex.next ?_
    refine W.less (L' := [(136, _)]) [false] ⟨rfl, trivial⟩ ?_
    change (_ : List Blk → Prop) []
    refine W.condT rfl ?_
    refine W.seq ?_
    refine W.region ?_
    refine T.q (q_assign rfl rfl) (Wt.plain rfl) rfl rfl ?_
    refine T.nil ?_
    refine Ex.next ?_
    refine W.slots (L' := [(2, _)]) ⟨rfl, trivial⟩ ?_
    refine W.ret ?_
    refine Ex.then_ret ?_
    refine Ex.out1 [] rfl rfl ?_
    exact ⟨congrArg (Value.int .i64) (chkE_no (f := ⟨k, a, l, rs, bs, tok⟩) fun (h : mayN k a l bs.length rs.length (risN rs (a + 1) 4611686018427387903) (risN rs 0 a) (tokN tok)) => by unfold mayN at h; omega).symm, rfl⟩
  replace hb3 := of_decide_eq_false hb3
  refine T.q (q_fld fl59_0 rfl rfl) (Wt.yes rfl rfl rfl) rfl rfl ?_
  refine T.q (q_load1 ss3 0 rfl rfl rfl (rfl)) (Wt.yes rfl rfl rfl) rfl rfl ?_
  refine T.q (q_bool (b := true) (q_neq rfl rfl rfl) (decide_eq_true (by omega))) (Wt.yes rfl rfl rfl) rfl rfl ?_
  refine T.q (q_move rfl rfl) (Wt.yes rfl rfl rfl) rfl rfl ?_
  refine T.q (q_fld fl59_0 rfl rfl) (Wt.yes rfl rfl rfl) rfl rfl ?_
  refine T.q (q_load1 ss3 0 rfl rfl rfl (rfl)) (Wt.yes rfl rfl rfl) rfl rfl ?_
  refine T.q (q_bool (b := true) (q_neq rfl rfl rfl) (decide_eq_true (by omega))) (Wt.yes rfl rfl rfl) rfl rfl ?_
  refine T.q (q_pickT rfl rfl rfl) (Wt.yes rfl rfl rfl) rfl rfl ?_
  refine T.q (q_move rfl rfl) (Wt.yes rfl rfl rfl) rfl rfl ?_
  refine T.q (q_fld fl59_3 rfl rfl) (Wt.yes rfl rfl rfl) rfl rfl ?_
  refine T.q (q_load1 ss56 0 rfl rfl rfl (cell_skip1 (cell_skip1 (cell_skip1 (rfl))))) (Wt.yes rfl rfl rfl) rfl rfl ?_
  refine T.q (q_len sc56 rfl rfl) (Wt.yes rfl rfl rfl) rfl rfl ?_
  refine T.q (q_gtr rfl rfl rfl) (Wt.yes rfl rfl rfl) rfl rfl ?_
  refine T.q (q_pickT rfl rfl rfl) (Wt.yes rfl rfl rfl) rfl rfl ?_
  refine T.q (q_pickF rfl rfl rfl) (Wt.plain rfl) rfl rfl ?_
  refine T.q (q_move rfl rfl) (Wt.plain rfl) rfl rfl ?_
  refine T.both (t := 119) _ rfl (fun hb4 => ?_) (fun hb4 => ?_)
  · replace hb4 := of_decide_eq_true hb4
    refine T.no (Wn.no rfl rfl rfl rfl) rfl rfl ?_
    refine T.no (Wn.no rfl rfl rfl rfl) rfl rfl ?_
    refine T.no (Wn.no rfl rfl rfl rfl) rfl rfl ?_
    refine T.no (Wn.none rfl rfl rfl) rfl rfl ?_
    refine T.no (Wn.none rfl rfl rfl) rfl rfl ?_
    refine T.no (Wn.none rfl rfl rfl) rfl rfl ?_
    refine T.no (Wn.none rfl rfl rfl) rfl rfl ?_
    refine T.no (Wn.no rfl rfl rfl rfl) rfl rfl ?_
    refine T.q (q_pickT rfl rfl rfl) (Wt.plain rfl) rfl rfl ?_
    refine T.nil ?_
    refine Ex.next ?_
    refine W.slots (L' := [(1, _), (4, _), (128, _)]) ⟨rfl, rfl, rfl, trivial⟩ ?_
    refine W.condT rfl ?_
    refine W.region ?_
    refine T.q (q_assign rfl rfl) (Wt.plain rfl) rfl rfl ?_
    refine T.nil ?_
    refine Ex.next ?_
    refine W.slots (L' := [(1, _), (4, _)]) ⟨rfl, rfl, trivial⟩ ?_
    refine W.seq ?_
    refine W.seq ?_
    refine W.region ?_
    refine T.q (q_move rfl rfl) (Wt.plain rfl) rfl rfl ?_
    refine T.q (q_not rfl rfl) (Wt.plain rfl) rfl rfl ?_
    refine T.q (q_move rfl rfl) (Wt.plain rfl) rfl rfl ?_
    refine T.no (Wn.no rfl rfl rfl rfl) rfl rfl ?_
    refine T.no (Wn.no rfl rfl rfl rfl) rfl rfl ?_
    refine T.no (Wn.no rfl rfl rfl rfl) rfl rfl ?_
    refine T.no (Wn.no rfl rfl rfl rfl) rfl rfl ?_
    refine T.q (q_pickT rfl rfl rfl) (Wt.plain rfl) rfl rfl ?_
    refine T.nil ?_
    refine Ex.next ?_
    refine W.less (L' := [(136, _)]) [false] ⟨rfl, trivial⟩ ?_
    change (_ : List Blk → Prop) []
    refine W.condT rfl ?_
    refine W.seq ?_
    refine W.region ?_
    refine T.q (q_assign rfl rfl) (Wt.plain rfl) rfl rfl ?_
    refine T.nil ?_
    refine Ex.next ?_
    refine W.slots (L' := [(2, _)]) ⟨rfl, trivial⟩ ?_
    refine W.ret ?_
    refine Ex.then_ret ?_
    refine Ex.out1 [] rfl rfl ?_
    exact ⟨congrArg (Value.int .i64) (chkE_no (f := ⟨k, a, l, rs, bs, tok⟩) fun (h : mayN k a l bs.length rs.length (risN rs (a + 1) 4611686018427387903) (risN rs 0 a) (tokN tok)) => by unfold mayN at h; omega).symm, rfl⟩
  replace hb4 := of_decide_eq_false hb4
  refine T.q (q_move rfl rfl) (Wt.yes rfl rfl rfl) rfl rfl ?_
  refine T.q (q_not rfl rfl) (Wt.yes rfl rfl rfl) rfl rfl ?_
  refine T.q (q_move rfl rfl) (Wt.yes rfl rfl rfl) rfl rfl ?_
  refine T.q (q_fld fl59_5 rfl rfl) (Wt.yes rfl rfl rfl) rfl rfl ?_
  refine T.q (q_loadW (wide_ints wd57 (by first | omega | (simp; done) | (simp [-List.getD_eq_getElem?_getD]; omega) | (simp at *; omega) | rfl)) (R_at 0 5 8 rfl (part_skip1 (part_skip1 (part_skip1 (part_skip1 (part_skip1 (part_last (by first | omega | (simp; done) | (simp [-List.getD_eq_getElem?_getD]; omega) | (simp at *; omega) | rfl)))))))) rfl rfl) (Wt.yes rfl rfl rfl) rfl rfl ?_
  refine T.q (q_build (v := .agg (ints .u8 (List.replicate 8 0)).toArray) rfl rfl (fun _ => by kernel_rfl)) (Wt.yes rfl rfl rfl) rfl rfl ?_
  refine T.q (q_bool (b := decide (tokN tok ≠ 1)) (q_neqA ar57 ss5 un5 eg57 rfl rfl rfl (by first | omega | (simp; done) | (simp [-List.getD_eq_getElem?_getD]; omega) | (simp at *; omega) | rfl) (by first | omega | (simp; done) | (simp [-List.getD_eq_getElem?_getD]; omega) | (simp at *; omega) | rfl)) ?hE) (Wt.yes rfl rfl rfl) rfl rfl ?_
  case hE => exact tok_neq
  refine T.q (q_pickT rfl rfl rfl) (Wt.yes rfl rfl rfl) rfl rfl ?_
  refine T.q (q_pickF rfl rfl rfl) (Wt.plain rfl) rfl rfl ?_
  refine T.nil ?_
  refine Ex.next ?_
  refine W.slots (L' := [(1, _), (4, _), (128, _)]) ⟨rfl, rfl, rfl, trivial⟩ ?_
  refine W.cond _ rfl (fun hb5 => ?_) (fun hb5 => ?_)
  · replace hb5 := of_decide_eq_true hb5
    refine W.region ?_
    refine T.q (q_assign rfl rfl) (Wt.plain rfl) rfl rfl ?_
    refine T.nil ?_
    refine Ex.next ?_
    refine W.slots (L' := [(1, _), (4, _)]) ⟨rfl, rfl, trivial⟩ ?_
    refine W.seq ?_
    refine W.seq ?_
    refine W.region ?_
    refine T.q (q_move rfl rfl) (Wt.plain rfl) rfl rfl ?_
    refine T.q (q_not rfl rfl) (Wt.plain rfl) rfl rfl ?_
    refine T.q (q_move rfl rfl) (Wt.plain rfl) rfl rfl ?_
    refine T.no (Wn.no rfl rfl rfl rfl) rfl rfl ?_
    refine T.no (Wn.no rfl rfl rfl rfl) rfl rfl ?_
    refine T.no (Wn.no rfl rfl rfl rfl) rfl rfl ?_
    refine T.no (Wn.no rfl rfl rfl rfl) rfl rfl ?_
    refine T.q (q_pickT rfl rfl rfl) (Wt.plain rfl) rfl rfl ?_
    refine T.nil ?_
    refine Ex.next ?_
    refine W.less (L' := [(136, _)]) [false] ⟨rfl, trivial⟩ ?_
    change (_ : List Blk → Prop) []
    refine W.condT rfl ?_
    refine W.seq ?_
    refine W.region ?_
    refine T.q (q_assign rfl rfl) (Wt.plain rfl) rfl rfl ?_
    refine T.nil ?_
    refine Ex.next ?_
    refine W.slots (L' := [(2, _)]) ⟨rfl, trivial⟩ ?_
    refine W.ret ?_
    refine Ex.then_ret ?_
    refine Ex.out1 [] rfl rfl ?_
    exact ⟨congrArg (Value.int .i64) (chkE_no (f := ⟨k, a, l, rs, bs, tok⟩) fun (h : mayN k a l bs.length rs.length (risN rs (a + 1) 4611686018427387903) (risN rs 0 a) (tokN tok)) => by unfold mayN at h; omega).symm, rfl⟩
  replace hb5 := of_decide_eq_false hb5
  refine W.skip ?_
  refine Ex.next ?_
  refine W.slots (L' := [(1, _), (4, _)]) ⟨rfl, rfl, trivial⟩ ?_
  refine W.seq ?_
  refine W.seq ?_
  refine W.region ?_
  refine T.q (q_move rfl rfl) (Wt.plain rfl) rfl rfl ?_
  refine T.q (q_not rfl rfl) (Wt.plain rfl) rfl rfl ?_
  refine T.q (q_move rfl rfl) (Wt.plain rfl) rfl rfl ?_
  refine T.no (Wn.no rfl rfl rfl rfl) rfl rfl ?_
  refine T.no (Wn.no rfl rfl rfl rfl) rfl rfl ?_
  refine T.no (Wn.no rfl rfl rfl rfl) rfl rfl ?_
  refine T.no (Wn.no rfl rfl rfl rfl) rfl rfl ?_
  refine T.q (q_pickT rfl rfl rfl) (Wt.plain rfl) rfl rfl ?_
  refine T.nil ?_
  refine Ex.next ?_
  refine W.less (L' := [(136, _)]) [false] ⟨rfl, trivial⟩ ?_
  change (_ : List Blk → Prop) []
  refine W.condT rfl ?_
  refine W.seq ?_
  refine W.region ?_
  refine T.q (q_assign rfl rfl) (Wt.plain rfl) rfl rfl ?_
  refine T.nil ?_
  refine Ex.next ?_
  refine W.slots (L' := [(2, _)]) ⟨rfl, trivial⟩ ?_
  refine W.ret ?_
  refine Ex.then_ret ?_
  refine Ex.out1 [] rfl rfl ?_
  exact ⟨congrArg (Value.int .i64) (chkE_no (f := ⟨k, a, l, rs, bs, tok⟩) fun (h : mayN k a l bs.length rs.length (risN rs (a + 1) 4611686018427387903) (risN rs 0 a) (tokN tok)) => by unfold mayN at h; omega).symm, rfl⟩
theorem refchk_spec (k : Int) (a l : Int) (rs : List (Int × Int)) (bs tok : List Int) (RA BA : Option Addr) (rc bc : Nat) (hrl : rs.length ≤ 9223372036854775807) (htok : tok.length = 8) (w0 : World) (hR : Reads w0 RA (ints .i64 (flat rs))) : Does Try.prog 48 #[.agg (.int .i64 k :: .int .i64 a :: .int .i64 l :: .slice RA rs.length rc :: .slice BA bs.length bc :: ints .u8 tok).toArray] w0 [] (fun v G => v = .int .i64 (chkE ⟨k, a, l, rs, bs, tok⟩) ∧ G = []) := by
  by_cases hk : k < 1 ∨ 7 < k
  · exact refchk_k k hk a l rs bs tok RA BA rc bc hrl htok w0 hR
  · obtain rfl | rfl | rfl | rfl | rfl | rfl | rfl : k = 1 ∨ k = 2 ∨ k = 3 ∨ k = 4 ∨ k = 5 ∨ k = 6 ∨ k = 7 := by omega
    · exact refchk_1 a l rs bs tok RA BA rc bc hrl htok w0 hR
    · exact refchk_2 a l rs bs tok RA BA rc bc hrl htok w0 hR
    · exact refchk_3 a l rs bs tok RA BA rc bc hrl htok w0 hR
    · exact refchk_4 a l rs bs tok RA BA rc bc hrl htok w0 hR
    · exact refchk_5 a l rs bs tok RA BA rc bc hrl htok w0 hR
    · exact refchk_6 a l rs bs tok RA BA rc bc hrl htok w0 hR
    · exact refchk_7 a l rs bs tok RA BA rc bc hrl htok w0 hR
theorem refchk_at (m : Fm) (hO : m.OK) (w0 : World) (hR : Reads w0 m.RA (ints .i64 (flat m.f.rs))) : Does Try.prog 48 #[.agg m.cells.toArray] w0 [] (fun v G => v = .int .i64 (chkE m.f) ∧ G = []) :=
  refchk_spec m.f.k m.f.a m.f.l m.f.rs m.f.bs m.f.tok m.RA m.BA m.rc m.bc hO.2.1 hO.1 w0 hR
end Go.Proofs.Ytmkjnefongjniaa
