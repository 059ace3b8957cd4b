/-
  The walks of layer 11: which packets may be.
-/
import Derived.Test.YtmkjnefongjniaaHQ
namespace Go.Proofs.Ytmkjnefongjniaa
open Go Go.X

set_option maxRecDepth 100000 in
theorem in_spec (z g : Int) (w0 : World) : Does Try.prog 73 #[.int .i64 z, .int .i64 g] w0 [] (fun v G => v = .bool (decide (0 ≤ z ∧ z ≤ g)) ∧ G = []) := by
  refine spec_of 12 Try.func73 rfl rfl rfl ?_
  refine W.seq ?_
  refine W.region ?_
  refine T.q (q_assign rfl rfl) (Wt.plain rfl) rfl rfl ?_
  refine T.nil ?_
  refine Ex.next ?_
  refine W.slots (L' := [(0, _), (1, _)]) ⟨rfl, rfl, trivial⟩ ?_
  refine W.seq ?_
  refine W.region ?_
  refine T.q (q_move rfl rfl) (Wt.plain rfl) rfl rfl ?_
  refine T.q (q_geq rfl rfl rfl) (Wt.plain rfl) rfl rfl ?_
  refine T.q (q_move rfl rfl) (Wt.plain rfl) rfl rfl ?_
  refine T.both (t := 7) _ rfl (fun hb1 => ?_) (fun hb1 => ?_)
  · replace hb1 := of_decide_eq_true hb1
    refine T.q (q_move rfl rfl) (Wt.yes rfl rfl rfl) rfl rfl ?_
    refine T.q (q_move rfl rfl) (Wt.yes rfl rfl rfl) rfl rfl ?_
    refine T.q (q_leq rfl rfl rfl) (Wt.yes rfl rfl rfl) rfl rfl ?_
    refine T.q (q_pickT rfl rfl rfl) (Wt.plain rfl) rfl rfl ?_
    refine T.q (q_assign rfl rfl) (Wt.plain rfl) rfl rfl ?_
    refine T.nil ?_
    refine Ex.next ?_
    refine W.slots (L' := [(4, _)]) ⟨rfl, trivial⟩ ?_
    refine W.ret ?_
    refine Ex.out1 [] rfl rfl ?_
    exact ⟨by first | (exact congrArg Value.bool (decide_eq_false (by omega)).symm) | (exact congrArg Value.bool (decide_eq_decide.2 (by omega))), rfl⟩
  · replace hb1 := of_decide_eq_false hb1
    refine T.no (Wn.no rfl rfl rfl rfl) rfl rfl ?_
    refine T.no (Wn.no rfl rfl rfl rfl) rfl rfl ?_
    refine T.no (Wn.no rfl rfl rfl rfl) rfl rfl ?_
    refine T.q (q_pickF rfl rfl rfl) (Wt.plain rfl) rfl rfl ?_
    refine T.q (q_assign rfl rfl) (Wt.plain rfl) rfl rfl ?_
    refine T.nil ?_
    refine Ex.next ?_
    refine W.slots (L' := [(4, _)]) ⟨rfl, trivial⟩ ?_
    refine W.ret ?_
    refine Ex.out1 [] rfl rfl ?_
    exact ⟨by first | (exact congrArg Value.bool (decide_eq_false (by omega)).symm) | (exact congrArg Value.bool (decide_eq_decide.2 (by omega))), rfl⟩
set_option maxRecDepth 100000 in
theorem rec_spec (pk pr pp pe pc : Int) (PA : Option Addr) (n bc : Nat) (w0 : World) : Does Try.prog 58 #[.agg #[.int .i64 pk, .int .i64 pr, .int .i64 pp, .int .i64 pe, .int .i64 pc, .slice PA n bc]] w0 [] (fun v G => v = .bool (decide (recP pk pr pp pe pc n)) ∧ G = []) := by
  refine spec_of 38 Try.func58 rfl rfl rfl ?_
  refine W.seq ?_
  refine W.region ?_
  refine T.eff (e_box rfl rfl rfl rfl) (Wt.plain rfl) ?_
  rintro _ _ ⟨k1, rfl, rfl⟩
  change (_ : List Blk → Prop) [_]
  change (_ : List Blk → Prop) [⟨some k1, [.int .i64 pk, .int .i64 pr, .int .i64 pp, .int .i64 pe, .int .i64 pc, .slice PA n bc], 40, (0, 0)⟩]
  refine T.q (q_assign rfl rfl) (Wt.plain rfl) rfl rfl ?_
  refine T.nil ?_
  refine Ex.next ?_
  refine W.slots (L' := [(1, _)]) ⟨rfl, trivial⟩ ?_
  refine W.seq ?_
  refine W.region ?_
  refine T.q (q_fld fl40_0 rfl rfl) (Wt.plain rfl) rfl rfl ?_
  refine T.q (q_load1 ss3 0 rfl rfl rfl rfl) (Wt.plain rfl) rfl rfl ?_
  refine T.q (q_eql rfl rfl rfl) (Wt.plain rfl) rfl rfl ?_
  refine T.q (q_move rfl rfl) (Wt.plain rfl) rfl rfl ?_
  refine T.both (t := 6) _ rfl (fun hb2 => ?_) (fun hb2 => ?_)
  · replace hb2 := of_decide_eq_true hb2
    refine T.q (q_fld fl40_1 rfl rfl) (Wt.yes rfl rfl rfl) rfl rfl ?_
    refine T.q (q_load1 ss3 0 rfl rfl rfl rfl) (Wt.yes rfl rfl rfl) rfl rfl ?_
    refine T.eff (e_call enters73 rfl rfl (fun w hm => in_spec pr 1 w) rfl rfl) (Wt.yes rfl rfl rfl) ?_
    rintro _ _ ⟨_, _, ⟨rfl, rfl⟩, rfl, rfl⟩
    change (_ : List Blk → Prop) [_]
    refine T.q (q_pickT rfl rfl rfl) (Wt.plain rfl) rfl rfl ?_
    refine T.q (q_move rfl rfl) (Wt.plain rfl) rfl rfl ?_
    refine T.both (t := 11) _ rfl (fun hb3 => ?_) (fun hb3 => ?_)
    · replace hb3 := of_decide_eq_true hb3
      refine T.q (q_fld fl40_2 rfl rfl) (Wt.yes rfl rfl rfl) rfl rfl ?_
      refine T.q (q_load1 ss3 0 rfl rfl rfl rfl) (Wt.yes rfl rfl rfl) rfl rfl ?_
      refine T.eff (e_call enters73 rfl rfl (fun w hm => in_spec pp 255 w) rfl rfl) (Wt.yes rfl rfl rfl) ?_
      rintro _ _ ⟨_, _, ⟨rfl, rfl⟩, rfl, rfl⟩
      change (_ : List Blk → Prop) [_]
      refine T.q (q_pickT rfl rfl rfl) (Wt.plain rfl) rfl rfl ?_
      refine T.q (q_move rfl rfl) (Wt.plain rfl) rfl rfl ?_
      refine T.both (t := 16) _ rfl (fun hb4 => ?_) (fun hb4 => ?_)
      · replace hb4 := of_decide_eq_true hb4
        refine T.q (q_fld fl40_3 rfl rfl) (Wt.yes rfl rfl rfl) rfl rfl ?_
        refine T.q (q_load1 ss3 0 rfl rfl rfl rfl) (Wt.yes rfl rfl rfl) rfl rfl ?_
        refine T.eff (e_call enters73 rfl rfl (fun w hm => in_spec pe 65535 w) rfl rfl) (Wt.yes rfl rfl rfl) ?_
        rintro _ _ ⟨_, _, ⟨rfl, rfl⟩, rfl, rfl⟩
        change (_ : List Blk → Prop) [_]
        refine T.q (q_pickT rfl rfl rfl) (Wt.plain rfl) rfl rfl ?_
        refine T.q (q_move rfl rfl) (Wt.plain rfl) rfl rfl ?_
        refine T.both (t := 21) _ rfl (fun hb5 => ?_) (fun hb5 => ?_)
        · replace hb5 := of_decide_eq_true hb5
          refine T.q (q_fld fl40_4 rfl rfl) (Wt.yes rfl rfl rfl) rfl rfl ?_
          refine T.q (q_load1 ss3 0 rfl rfl rfl rfl) (Wt.yes rfl rfl rfl) rfl rfl ?_
          refine T.eff (e_call enters73 rfl rfl (fun w hm => in_spec pc 281474976710655 w) rfl rfl) (Wt.yes rfl rfl rfl) ?_
          rintro _ _ ⟨_, _, ⟨rfl, rfl⟩, rfl, rfl⟩
          change (_ : List Blk → Prop) [_]
          refine T.q (q_pickT rfl rfl rfl) (Wt.plain rfl) rfl rfl ?_
          refine T.q (q_move rfl rfl) (Wt.plain rfl) rfl rfl ?_
          refine T.both (t := 26) _ rfl (fun hb6 => ?_) (fun hb6 => ?_)
          · replace hb6 := of_decide_eq_true hb6
            refine T.q (q_fld fl40_5 rfl rfl) (Wt.yes rfl rfl rfl) rfl rfl ?_
            refine T.q (q_load1 ss22 0 rfl rfl rfl rfl) (Wt.yes rfl rfl rfl) rfl rfl ?_
            refine T.q (q_len sc22 rfl rfl) (Wt.yes rfl rfl rfl) rfl rfl ?_
            refine T.q (q_geq rfl rfl rfl) (Wt.yes rfl rfl rfl) rfl rfl ?_
            refine T.q (q_pickT rfl rfl rfl) (Wt.plain rfl) rfl rfl ?_
            refine T.q (q_move rfl rfl) (Wt.plain rfl) rfl rfl ?_
            refine T.both (t := 32) _ rfl (fun hb7 => ?_) (fun hb7 => ?_)
            · replace hb7 := of_decide_eq_true hb7
              refine T.q (q_fld fl40_5 rfl rfl) (Wt.yes rfl rfl rfl) rfl rfl ?_
              refine T.q (q_load1 ss22 0 rfl rfl rfl rfl) (Wt.yes rfl rfl rfl) rfl rfl ?_
              refine T.q (q_len sc22 rfl rfl) (Wt.yes rfl rfl rfl) rfl rfl ?_
              refine T.q (q_leq rfl rfl rfl) (Wt.yes rfl rfl rfl) rfl rfl ?_
              refine T.q (q_pickT rfl rfl rfl) (Wt.plain rfl) rfl rfl ?_
              refine T.q (q_assign rfl rfl) (Wt.plain rfl) rfl rfl ?_
              refine T.nil ?_
              refine Ex.next ?_
              refine W.less (L' := [(2, _)]) [false] ⟨rfl, trivial⟩ ?_
              change (_ : List Blk → Prop) []
              refine W.ret ?_
              refine Ex.out1 [] rfl rfl ?_
              exact ⟨by unfold recP; first | (exact congrArg Value.bool (decide_eq_false (by omega)).symm) | (exact congrArg Value.bool (decide_eq_decide.2 (by omega))) | (exact congrArg Value.bool (decide_eq_true (by omega)).symm), rfl⟩
            · replace hb7 := of_decide_eq_false hb7
              refine T.no (Wn.no rfl rfl rfl rfl) rfl rfl ?_
              refine T.no (Wn.no rfl rfl rfl rfl) rfl rfl ?_
              refine T.no (Wn.no rfl rfl rfl rfl) rfl rfl ?_
              refine T.no (Wn.no rfl rfl rfl rfl) rfl rfl ?_
              refine T.q (q_pickF rfl rfl rfl) (Wt.plain rfl) rfl rfl ?_
              refine T.q (q_assign rfl rfl) (Wt.plain rfl) rfl rfl ?_
              refine T.nil ?_
              refine Ex.next ?_
              refine W.less (L' := [(2, _)]) [false] ⟨rfl, trivial⟩ ?_
              change (_ : List Blk → Prop) []
              refine W.ret ?_
              refine Ex.out1 [] rfl rfl ?_
              exact ⟨by unfold recP; first | (exact congrArg Value.bool (decide_eq_false (by omega)).symm) | (exact congrArg Value.bool (decide_eq_decide.2 (by omega))) | (exact congrArg Value.bool (decide_eq_true (by omega)).symm), rfl⟩
          · replace hb6 := of_decide_eq_false hb6
            refine T.no (Wn.no rfl rfl rfl rfl) rfl rfl ?_
            refine T.no (Wn.no rfl rfl rfl rfl) rfl rfl ?_
            refine T.no (Wn.no rfl rfl rfl rfl) rfl rfl ?_
            refine T.no (Wn.no rfl rfl rfl rfl) rfl rfl ?_
            refine T.q (q_pickF rfl rfl rfl) (Wt.plain rfl) rfl rfl ?_
            refine T.q (q_move rfl rfl) (Wt.plain rfl) rfl rfl ?_
            refine T.no (Wn.no rfl rfl rfl rfl) rfl rfl ?_
            refine T.no (Wn.no rfl rfl rfl rfl) rfl rfl ?_
            refine T.no (Wn.no rfl rfl rfl rfl) rfl rfl ?_
            refine T.no (Wn.no rfl rfl rfl rfl) rfl rfl ?_
            refine T.q (q_pickF rfl rfl rfl) (Wt.plain rfl) rfl rfl ?_
            refine T.q (q_assign rfl rfl) (Wt.plain rfl) rfl rfl ?_
            refine T.nil ?_
            refine Ex.next ?_
            refine W.less (L' := [(2, _)]) [false] ⟨rfl, trivial⟩ ?_
            change (_ : List Blk → Prop) []
            refine W.ret ?_
            refine Ex.out1 [] rfl rfl ?_
            exact ⟨by unfold recP; first | (exact congrArg Value.bool (decide_eq_false (by omega)).symm) | (exact congrArg Value.bool (decide_eq_decide.2 (by omega))) | (exact congrArg Value.bool (decide_eq_true (by omega)).symm), rfl⟩
        · replace hb5 := of_decide_eq_false hb5
          refine T.no (Wn.no rfl rfl rfl rfl) rfl rfl ?_
          refine T.no (Wn.no rfl rfl rfl rfl) rfl rfl ?_
          refine T.no (Wn.no rfl rfl rfl rfl) rfl rfl ?_
          refine T.q (q_pickF rfl rfl rfl) (Wt.plain rfl) rfl rfl ?_
          refine T.q (q_move rfl rfl) (Wt.plain rfl) rfl rfl ?_
          refine T.no (Wn.no rfl rfl rfl rfl) rfl rfl ?_
          refine T.no (Wn.no rfl rfl rfl rfl) rfl rfl ?_
          refine T.no (Wn.no rfl rfl rfl rfl) rfl rfl ?_
          refine T.no (Wn.no rfl rfl rfl rfl) rfl rfl ?_
          refine T.q (q_pickF rfl rfl rfl) (Wt.plain rfl) rfl rfl ?_
          refine T.q (q_move rfl rfl) (Wt.plain rfl) rfl rfl ?_
          refine T.no (Wn.no rfl rfl rfl rfl) rfl rfl ?_
          refine T.no (Wn.no rfl rfl rfl rfl) rfl rfl ?_
          refine T.no (Wn.no rfl rfl rfl rfl) rfl rfl ?_
          refine T.no (Wn.no rfl rfl rfl rfl) rfl rfl ?_
          refine T.q (q_pickF rfl rfl rfl) (Wt.plain rfl) rfl rfl ?_
          refine T.q (q_assign rfl rfl) (Wt.plain rfl) rfl rfl ?_
          refine T.nil ?_
          refine Ex.next ?_
          refine W.less (L' := [(2, _)]) [false] ⟨rfl, trivial⟩ ?_
          change (_ : List Blk → Prop) []
          refine W.ret ?_
          refine Ex.out1 [] rfl rfl ?_
          exact ⟨by unfold recP; first | (exact congrArg Value.bool (decide_eq_false (by omega)).symm) | (exact congrArg Value.bool (decide_eq_decide.2 (by omega))) | (exact congrArg Value.bool (decide_eq_true (by omega)).symm), rfl⟩
      · replace hb4 := of_decide_eq_false hb4
        refine T.no (Wn.no rfl rfl rfl rfl) rfl rfl ?_
        refine T.no (Wn.no rfl rfl rfl rfl) rfl rfl ?_
        refine T.no (Wn.no rfl rfl rfl rfl) rfl rfl ?_
        refine T.q (q_pickF rfl rfl rfl) (Wt.plain rfl) rfl rfl ?_
        refine T.q (q_move rfl rfl) (Wt.plain rfl) rfl rfl ?_
        refine T.no (Wn.no rfl rfl rfl rfl) rfl rfl ?_
        refine T.no (Wn.no rfl rfl rfl rfl) rfl rfl ?_
        refine T.no (Wn.no rfl rfl rfl rfl) rfl rfl ?_
        refine T.q (q_pickF rfl rfl rfl) (Wt.plain rfl) rfl rfl ?_
        refine T.q (q_move rfl rfl) (Wt.plain rfl) rfl rfl ?_
        refine T.no (Wn.no rfl rfl rfl rfl) rfl rfl ?_
        refine T.no (Wn.no rfl rfl rfl rfl) rfl rfl ?_
        refine T.no (Wn.no rfl rfl rfl rfl) rfl rfl ?_
        refine T.no (Wn.no rfl rfl rfl rfl) rfl rfl ?_
        refine T.q (q_pickF rfl rfl rfl) (Wt.plain rfl) rfl rfl ?_
        refine T.q (q_move rfl rfl) (Wt.plain rfl) rfl rfl ?_
        refine T.no (Wn.no rfl rfl rfl rfl) rfl rfl ?_
        refine T.no (Wn.no rfl rfl rfl rfl) rfl rfl ?_
        refine T.no (Wn.no rfl rfl rfl rfl) rfl rfl ?_
        refine T.no (Wn.no rfl rfl rfl rfl) rfl rfl ?_
        refine T.q (q_pickF rfl rfl rfl) (Wt.plain rfl) rfl rfl ?_
        refine T.q (q_assign rfl rfl) (Wt.plain rfl) rfl rfl ?_
        refine T.nil ?_
        refine Ex.next ?_
        refine W.less (L' := [(2, _)]) [false] ⟨rfl, trivial⟩ ?_
        change (_ : List Blk → Prop) []
        refine W.ret ?_
        refine Ex.out1 [] rfl rfl ?_
        exact ⟨by unfold recP; first | (exact congrArg Value.bool (decide_eq_false (by omega)).symm) | (exact congrArg Value.bool (decide_eq_decide.2 (by omega))) | (exact congrArg Value.bool (decide_eq_true (by omega)).symm), rfl⟩
    · replace hb3 := of_decide_eq_false hb3
      refine T.no (Wn.no rfl rfl rfl rfl) rfl rfl ?_
      refine T.no (Wn.no rfl rfl rfl rfl) rfl rfl ?_
      refine T.no (Wn.no rfl rfl rfl rfl) rfl rfl ?_
      refine T.q (q_pickF rfl rfl rfl) (Wt.plain rfl) rfl rfl ?_
      refine T.q (q_move rfl rfl) (Wt.plain rfl) rfl rfl ?_
      refine T.no (Wn.no rfl rfl rfl rfl) rfl rfl ?_
      refine T.no (Wn.no rfl rfl rfl rfl) rfl rfl ?_
      refine T.no (Wn.no rfl rfl rfl rfl) rfl rfl ?_
      refine T.q (q_pickF rfl rfl rfl) (Wt.plain rfl) rfl rfl ?_
      refine T.q (q_move rfl rfl) (Wt.plain rfl) rfl rfl ?_
      refine T.no (Wn.no rfl rfl rfl rfl) rfl rfl ?_
      refine T.no (Wn.no rfl rfl rfl rfl) rfl rfl ?_
      refine T.no (Wn.no rfl rfl rfl rfl) rfl rfl ?_
      refine T.q (q_pickF rfl rfl rfl) (Wt.plain rfl) rfl rfl ?_
      refine T.q (q_move rfl rfl) (Wt.plain rfl) rfl rfl ?_
      refine T.no (Wn.no rfl rfl rfl rfl) rfl rfl ?_
      refine T.no (Wn.no rfl rfl rfl rfl) rfl rfl ?_
      refine T.no (Wn.no rfl rfl rfl rfl) rfl rfl ?_
      refine T.no (Wn.no rfl rfl rfl rfl) rfl rfl ?_
      refine T.q (q_pickF rfl rfl rfl) (Wt.plain rfl) rfl rfl ?_
      refine T.q (q_move rfl rfl) (Wt.plain rfl) rfl rfl ?_
      refine T.no (Wn.no rfl rfl rfl rfl) rfl rfl ?_
      refine T.no (Wn.no rfl rfl rfl rfl) rfl rfl ?_
      refine T.no (Wn.no rfl rfl rfl rfl) rfl rfl ?_
      refine T.no (Wn.no rfl rfl rfl rfl) rfl rfl ?_
      refine T.q (q_pickF rfl rfl rfl) (Wt.plain rfl) rfl rfl ?_
      refine T.q (q_assign rfl rfl) (Wt.plain rfl) rfl rfl ?_
      refine T.nil ?_
      refine Ex.next ?_
      refine W.less (L' := [(2, _)]) [false] ⟨rfl, trivial⟩ ?_
      change (_ : List Blk → Prop) []
      refine W.ret ?_
      refine Ex.out1 [] rfl rfl ?_
      exact ⟨by unfold recP; first | (exact congrArg Value.bool (decide_eq_false (by omega)).symm) | (exact congrArg Value.bool (decide_eq_decide.2 (by omega))) | (exact congrArg Value.bool (decide_eq_true (by omega)).symm), rfl⟩
  · replace hb2 := of_decide_eq_false hb2
    refine T.no (Wn.no rfl rfl rfl rfl) rfl rfl ?_
    refine T.no (Wn.no rfl rfl rfl rfl) rfl rfl ?_
    refine T.no (Wn.no rfl rfl rfl rfl) rfl rfl ?_
    refine T.q (q_pickF rfl rfl rfl) (Wt.plain rfl) rfl rfl ?_
    refine T.q (q_move rfl rfl) (Wt.plain rfl) rfl rfl ?_
    refine T.no (Wn.no rfl rfl rfl rfl) rfl rfl ?_
    refine T.no (Wn.no rfl rfl rfl rfl) rfl rfl ?_
    refine T.no (Wn.no rfl rfl rfl rfl) rfl rfl ?_
    refine T.q (q_pickF rfl rfl rfl) (Wt.plain rfl) rfl rfl ?_
    refine T.q (q_move rfl rfl) (Wt.plain rfl) rfl rfl ?_
    refine T.no (Wn.no rfl rfl rfl rfl) rfl rfl ?_
    refine T.no (Wn.no rfl rfl rfl rfl) rfl rfl ?_
    refine T.no (Wn.no rfl rfl rfl rfl) rfl rfl ?_
    refine T.q (q_pickF rfl rfl rfl) (Wt.plain rfl) rfl rfl ?_
    refine T.q (q_move rfl rfl) (Wt.plain rfl) rfl rfl ?_
    refine T.no (Wn.no rfl rfl rfl rfl) rfl rfl ?_
    refine T.no (Wn.no rfl rfl rfl rfl) rfl rfl ?_
    refine T.no (Wn.no rfl rfl rfl rfl) rfl rfl ?_
    refine T.q (q_pickF rfl rfl rfl) (Wt.plain rfl) rfl rfl ?_
    refine T.q (q_move rfl rfl) (Wt.plain rfl) rfl rfl ?_
    refine T.no (Wn.no rfl rfl rfl rfl) rfl rfl ?_
    refine T.no (Wn.no rfl rfl rfl rfl) rfl rfl ?_
    refine T.no (Wn.no rfl rfl rfl rfl) rfl rfl ?_
    refine T.no (Wn.no rfl rfl rfl rfl) rfl rfl ?_
    refine T.q (q_pickF rfl rfl rfl) (Wt.plain rfl) rfl rfl ?_
    refine T.q (q_move rfl rfl) (Wt.plain rfl) rfl rfl ?_
    refine T.no (Wn.no rfl rfl rfl rfl) rfl rfl ?_
    refine T.no (Wn.no rfl rfl rfl rfl) rfl rfl ?_
    refine T.no (Wn.no rfl rfl rfl rfl) rfl rfl ?_
    refine T.no (Wn.no rfl rfl rfl rfl) rfl rfl ?_
    refine T.q (q_pickF rfl rfl rfl) (Wt.plain rfl) rfl rfl ?_
    refine T.q (q_assign rfl rfl) (Wt.plain rfl) rfl rfl ?_
    refine T.nil ?_
    refine Ex.next ?_
    refine W.less (L' := [(2, _)]) [false] ⟨rfl, trivial⟩ ?_
    change (_ : List Blk → Prop) []
    refine W.ret ?_
    refine Ex.out1 [] rfl rfl ?_
    exact ⟨by unfold recP; first | (exact congrArg Value.bool (decide_eq_false (by omega)).symm) | (exact congrArg Value.bool (decide_eq_decide.2 (by omega))) | (exact congrArg Value.bool (decide_eq_true (by omega)).symm), rfl⟩
set_option maxRecDepth 100000 in
theorem oth_spec (pk pr pp pe pc : Int) (PA : Option Addr) (n bc : Nat) (w0 : World) : Does Try.prog 59 #[.agg #[.int .i64 pk, .int .i64 pr, .int .i64 pp, .int .i64 pe, .int .i64 pc, .slice PA n bc]] w0 [] (fun v G => v = .bool (decide (othP pk pr pp pe pc n)) ∧ G = []) := by
  refine spec_of 45 Try.func59 rfl rfl rfl ?_
  refine W.seq ?_
  refine W.region ?_
  refine T.eff (e_box rfl rfl rfl rfl) (Wt.plain rfl) ?_
  rintro _ _ ⟨k1, rfl, rfl⟩
  change (_ : List Blk → Prop) [_]
  change (_ : List Blk → Prop) [⟨some k1, [.int .i64 pk, .int .i64 pr, .int .i64 pp, .int .i64 pe, .int .i64 pc, .slice PA n bc], 40, (0, 0)⟩]
  refine T.q (q_assign rfl rfl) (Wt.plain rfl) rfl rfl ?_
  refine T.nil ?_
  refine Ex.next ?_
  refine W.slots (L' := [(1, _)]) ⟨rfl, trivial⟩ ?_
  refine W.seq ?_
  refine W.region ?_
  refine T.q (q_fld fl40_1 rfl rfl) (Wt.plain rfl) rfl rfl ?_
  refine T.q (q_load1 ss3 0 rfl rfl rfl rfl) (Wt.plain rfl) rfl rfl ?_
  refine T.q (q_eql rfl rfl rfl) (Wt.plain rfl) rfl rfl ?_
  refine T.q (q_move rfl rfl) (Wt.plain rfl) rfl rfl ?_
  refine T.both (t := 7) _ rfl (fun hb2 => ?_) (fun hb2 => ?_)
  · replace hb2 := of_decide_eq_true hb2
    refine T.q (q_fld fl40_2 rfl rfl) (Wt.yes rfl rfl rfl) rfl rfl ?_
    refine T.q (q_load1 ss3 0 rfl rfl rfl rfl) (Wt.yes rfl rfl rfl) rfl rfl ?_
    refine T.q (q_eql rfl rfl rfl) (Wt.yes rfl rfl rfl) rfl rfl ?_
    refine T.q (q_pickT rfl rfl rfl) (Wt.plain rfl) rfl rfl ?_
    refine T.q (q_move rfl rfl) (Wt.plain rfl) rfl rfl ?_
    refine T.both (t := 12) _ rfl (fun hb3 => ?_) (fun hb3 => ?_)
    · replace hb3 := of_decide_eq_true hb3
      refine T.q (q_fld fl40_3 rfl rfl) (Wt.yes rfl rfl rfl) rfl rfl ?_
      refine T.q (q_load1 ss3 0 rfl rfl rfl rfl) (Wt.yes rfl rfl rfl) rfl rfl ?_
      refine T.q (q_eql rfl rfl rfl) (Wt.yes rfl rfl rfl) rfl rfl ?_
      refine T.q (q_pickT rfl rfl rfl) (Wt.plain rfl) rfl rfl ?_
      refine T.q (q_move rfl rfl) (Wt.plain rfl) rfl rfl ?_
      refine T.both (t := 17) _ rfl (fun hb4 => ?_) (fun hb4 => ?_)
      · replace hb4 := of_decide_eq_true hb4
        refine T.q (q_fld fl40_4 rfl rfl) (Wt.yes rfl rfl rfl) rfl rfl ?_
        refine T.q (q_load1 ss3 0 rfl rfl rfl rfl) (Wt.yes rfl rfl rfl) rfl rfl ?_
        refine T.q (q_eql rfl rfl rfl) (Wt.yes rfl rfl rfl) rfl rfl ?_
        refine T.q (q_pickT rfl rfl rfl) (Wt.plain rfl) rfl rfl ?_
        refine T.q (q_assign rfl rfl) (Wt.plain rfl) rfl rfl ?_
        refine T.nil ?_
        refine Ex.next ?_
        refine W.slots (L' := [(1, _), (3, _)]) ⟨rfl, rfl, trivial⟩ ?_
        refine W.seq ?_
        refine W.region ?_
        refine T.q (q_fld fl40_0 rfl rfl) (Wt.plain rfl) rfl rfl ?_
        refine T.q (q_load1 ss3 0 rfl rfl rfl rfl) (Wt.plain rfl) rfl rfl ?_
        refine T.q (q_eql rfl rfl rfl) (Wt.plain rfl) rfl rfl ?_
        refine T.q (q_move rfl rfl) (Wt.plain rfl) rfl rfl ?_
        refine T.both (t := 25) _ rfl (fun hb5 => ?_) (fun hb5 => ?_)
        · replace hb5 := of_decide_eq_true hb5
          refine T.no (Wn.no rfl rfl rfl rfl) rfl rfl ?_
          refine T.no (Wn.no rfl rfl rfl rfl) rfl rfl ?_
          refine T.no (Wn.no rfl rfl rfl rfl) rfl rfl ?_
          refine T.q (q_pickT rfl rfl rfl) (Wt.plain rfl) rfl rfl ?_
          refine T.q (q_move rfl rfl) (Wt.plain rfl) rfl rfl ?_
          refine T.q (q_move rfl rfl) (Wt.yes rfl rfl rfl) rfl rfl ?_
          refine T.q (q_pickT rfl rfl rfl) (Wt.plain rfl) rfl rfl ?_
          refine T.q (q_move rfl rfl) (Wt.plain rfl) rfl rfl ?_
          refine T.both (t := 33) _ rfl (fun hb6 => ?_) (fun hb6 => ?_)
          · replace hb6 := of_decide_eq_true hb6
            refine T.q (q_fld fl40_5 rfl rfl) (Wt.yes rfl rfl rfl) rfl rfl ?_
            refine T.q (q_load1 ss22 0 rfl rfl rfl rfl) (Wt.yes rfl rfl rfl) rfl rfl ?_
            refine T.q (q_len sc22 rfl rfl) (Wt.yes rfl rfl rfl) rfl rfl ?_
            refine T.q (q_geq rfl rfl rfl) (Wt.yes rfl rfl rfl) rfl rfl ?_
            refine T.q (q_pickT rfl rfl rfl) (Wt.plain rfl) rfl rfl ?_
            refine T.q (q_move rfl rfl) (Wt.plain rfl) rfl rfl ?_
            refine T.both (t := 39) _ rfl (fun hb7 => ?_) (fun hb7 => ?_)
            · replace hb7 := of_decide_eq_true hb7
              refine T.q (q_fld fl40_5 rfl rfl) (Wt.yes rfl rfl rfl) rfl rfl ?_
              refine T.q (q_load1 ss22 0 rfl rfl rfl rfl) (Wt.yes rfl rfl rfl) rfl rfl ?_
              refine T.q (q_len sc22 rfl rfl) (Wt.yes rfl rfl rfl) rfl rfl ?_
              refine T.q (q_leq rfl rfl rfl) (Wt.yes rfl rfl rfl) rfl rfl ?_
              refine T.q (q_pickT rfl rfl rfl) (Wt.plain rfl) rfl rfl ?_
              refine T.q (q_assign rfl rfl) (Wt.plain rfl) rfl rfl ?_
              refine T.nil ?_
              refine Ex.next ?_
              refine W.less (L' := [(2, _)]) [false] ⟨rfl, trivial⟩ ?_
              change (_ : List Blk → Prop) []
              refine W.ret ?_
              refine Ex.out1 [] rfl rfl ?_
              exact ⟨by unfold othP; first | (exact congrArg Value.bool (decide_eq_false (by omega)).symm) | (exact congrArg Value.bool (decide_eq_decide.2 (by omega))) | (exact congrArg Value.bool (decide_eq_true (by omega)).symm), rfl⟩
            · replace hb7 := of_decide_eq_false hb7
              refine T.no (Wn.no rfl rfl rfl rfl) rfl rfl ?_
              refine T.no (Wn.no rfl rfl rfl rfl) rfl rfl ?_
              refine T.no (Wn.no rfl rfl rfl rfl) rfl rfl ?_
              refine T.no (Wn.no rfl rfl rfl rfl) rfl rfl ?_
              refine T.q (q_pickF rfl rfl rfl) (Wt.plain rfl) rfl rfl ?_
              refine T.q (q_assign rfl rfl) (Wt.plain rfl) rfl rfl ?_
              refine T.nil ?_
              refine Ex.next ?_
              refine W.less (L' := [(2, _)]) [false] ⟨rfl, trivial⟩ ?_
              change (_ : List Blk → Prop) []
              refine W.ret ?_
              refine Ex.out1 [] rfl rfl ?_
              exact ⟨by unfold othP; first | (exact congrArg Value.bool (decide_eq_false (by omega)).symm) | (exact congrArg Value.bool (decide_eq_decide.2 (by omega))) | (exact congrArg Value.bool (decide_eq_true (by omega)).symm), rfl⟩
          · replace hb6 := of_decide_eq_false hb6
            refine T.no (Wn.no rfl rfl rfl rfl) rfl rfl ?_
            refine T.no (Wn.no rfl rfl rfl rfl) rfl rfl ?_
            refine T.no (Wn.no rfl rfl rfl rfl) rfl rfl ?_
            refine T.no (Wn.no rfl rfl rfl rfl) rfl rfl ?_
            refine T.q (q_pickF rfl rfl rfl) (Wt.plain rfl) rfl rfl ?_
            refine T.q (q_move rfl rfl) (Wt.plain rfl) rfl rfl ?_
            refine T.no (Wn.no rfl rfl rfl rfl) rfl rfl ?_
            refine T.no (Wn.no rfl rfl rfl rfl) rfl rfl ?_
            refine T.no (Wn.no rfl rfl rfl rfl) rfl rfl ?_
            refine T.no (Wn.no rfl rfl rfl rfl) rfl rfl ?_
            refine T.q (q_pickF rfl rfl rfl) (Wt.plain rfl) rfl rfl ?_
            refine T.q (q_assign rfl rfl) (Wt.plain rfl) rfl rfl ?_
            refine T.nil ?_
            refine Ex.next ?_
            refine W.less (L' := [(2, _)]) [false] ⟨rfl, trivial⟩ ?_
            change (_ : List Blk → Prop) []
            refine W.ret ?_
            refine Ex.out1 [] rfl rfl ?_
            exact ⟨by unfold othP; first | (exact congrArg Value.bool (decide_eq_false (by omega)).symm) | (exact congrArg Value.bool (decide_eq_decide.2 (by omega))) | (exact congrArg Value.bool (decide_eq_true (by omega)).symm), rfl⟩
        · replace hb5 := of_decide_eq_false hb5
          refine T.q (q_fld fl40_0 rfl rfl) (Wt.yes rfl rfl rfl) rfl rfl ?_
          refine T.q (q_load1 ss3 0 rfl rfl rfl rfl) (Wt.yes rfl rfl rfl) rfl rfl ?_
          refine T.q (q_eql rfl rfl rfl) (Wt.yes rfl rfl rfl) rfl rfl ?_
          refine T.q (q_pickF rfl rfl rfl) (Wt.plain rfl) rfl rfl ?_
          refine T.q (q_move rfl rfl) (Wt.plain rfl) rfl rfl ?_
          refine T.both (t := 30) _ rfl (fun hb8 => ?_) (fun hb8 => ?_)
          · replace hb8 := of_decide_eq_true hb8
            refine T.q (q_move rfl rfl) (Wt.yes rfl rfl rfl) rfl rfl ?_
            refine T.q (q_pickT rfl rfl rfl) (Wt.plain rfl) rfl rfl ?_
            refine T.q (q_move rfl rfl) (Wt.plain rfl) rfl rfl ?_
            refine T.both (t := 33) _ rfl (fun hb9 => ?_) (fun hb9 => ?_)
            · replace hb9 := of_decide_eq_true hb9
              refine T.q (q_fld fl40_5 rfl rfl) (Wt.yes rfl rfl rfl) rfl rfl ?_
              refine T.q (q_load1 ss22 0 rfl rfl rfl rfl) (Wt.yes rfl rfl rfl) rfl rfl ?_
              refine T.q (q_len sc22 rfl rfl) (Wt.yes rfl rfl rfl) rfl rfl ?_
              refine T.q (q_geq rfl rfl rfl) (Wt.yes rfl rfl rfl) rfl rfl ?_
              refine T.q (q_pickT rfl rfl rfl) (Wt.plain rfl) rfl rfl ?_
              refine T.q (q_move rfl rfl) (Wt.plain rfl) rfl rfl ?_
              refine T.both (t := 39) _ rfl (fun hb10 => ?_) (fun hb10 => ?_)
              · replace hb10 := of_decide_eq_true hb10
                refine T.q (q_fld fl40_5 rfl rfl) (Wt.yes rfl rfl rfl) rfl rfl ?_
                refine T.q (q_load1 ss22 0 rfl rfl rfl rfl) (Wt.yes rfl rfl rfl) rfl rfl ?_
                refine T.q (q_len sc22 rfl rfl) (Wt.yes rfl rfl rfl) rfl rfl ?_
                refine T.q (q_leq rfl rfl rfl) (Wt.yes rfl rfl rfl) rfl rfl ?_
                refine T.q (q_pickT rfl rfl rfl) (Wt.plain rfl) rfl rfl ?_
                refine T.q (q_assign rfl rfl) (Wt.plain rfl) rfl rfl ?_
                refine T.nil ?_
                refine Ex.next ?_
                refine W.less (L' := [(2, _)]) [false] ⟨rfl, trivial⟩ ?_
                change (_ : List Blk → Prop) []
                refine W.ret ?_
                refine Ex.out1 [] rfl rfl ?_
                exact ⟨by unfold othP; first | (exact congrArg Value.bool (decide_eq_false (by omega)).symm) | (exact congrArg Value.bool (decide_eq_decide.2 (by omega))) | (exact congrArg Value.bool (decide_eq_true (by omega)).symm), rfl⟩
              · replace hb10 := of_decide_eq_false hb10
                refine T.no (Wn.no rfl rfl rfl rfl) rfl rfl ?_
                refine T.no (Wn.no rfl rfl rfl rfl) rfl rfl ?_
                refine T.no (Wn.no rfl rfl rfl rfl) rfl rfl ?_
                refine T.no (Wn.no rfl rfl rfl rfl) rfl rfl ?_
                refine T.q (q_pickF rfl rfl rfl) (Wt.plain rfl) rfl rfl ?_
                refine T.q (q_assign rfl rfl) (Wt.plain rfl) rfl rfl ?_
                refine T.nil ?_
                refine Ex.next ?_
                refine W.less (L' := [(2, _)]) [false] ⟨rfl, trivial⟩ ?_
                change (_ : List Blk → Prop) []
                refine W.ret ?_
                refine Ex.out1 [] rfl rfl ?_
                exact ⟨by unfold othP; first | (exact congrArg Value.bool (decide_eq_false (by omega)).symm) | (exact congrArg Value.bool (decide_eq_decide.2 (by omega))) | (exact congrArg Value.bool (decide_eq_true (by omega)).symm), rfl⟩
            · replace hb9 := of_decide_eq_false hb9
              refine T.no (Wn.no rfl rfl rfl rfl) rfl rfl ?_
              refine T.no (Wn.no rfl rfl rfl rfl) rfl rfl ?_
              refine T.no (Wn.no rfl rfl rfl rfl) rfl rfl ?_
              refine T.no (Wn.no rfl rfl rfl rfl) rfl rfl ?_
              refine T.q (q_pickF rfl rfl rfl) (Wt.plain rfl) rfl rfl ?_
              refine T.q (q_move rfl rfl) (Wt.plain rfl) rfl rfl ?_
              refine T.no (Wn.no rfl rfl rfl rfl) rfl rfl ?_
              refine T.no (Wn.no rfl rfl rfl rfl) rfl rfl ?_
              refine T.no (Wn.no rfl rfl rfl rfl) rfl rfl ?_
              refine T.no (Wn.no rfl rfl rfl rfl) rfl rfl ?_
              refine T.q (q_pickF rfl rfl rfl) (Wt.plain rfl) rfl rfl ?_
              refine T.q (q_assign rfl rfl) (Wt.plain rfl) rfl rfl ?_
              refine T.nil ?_
              refine Ex.next ?_
              refine W.less (L' := [(2, _)]) [false] ⟨rfl, trivial⟩ ?_
              change (_ : List Blk → Prop) []
              refine W.ret ?_
              refine Ex.out1 [] rfl rfl ?_
              exact ⟨by unfold othP; first | (exact congrArg Value.bool (decide_eq_false (by omega)).symm) | (exact congrArg Value.bool (decide_eq_decide.2 (by omega))) | (exact congrArg Value.bool (decide_eq_true (by omega)).symm), rfl⟩
          · replace hb8 := of_decide_eq_false hb8
            refine T.no (Wn.no rfl rfl rfl rfl) rfl rfl ?_
            refine T.q (q_pickF rfl rfl rfl) (Wt.plain rfl) rfl rfl ?_
            refine T.q (q_move rfl rfl) (Wt.plain rfl) rfl rfl ?_
            refine T.no (Wn.no rfl rfl rfl rfl) rfl rfl ?_
            refine T.no (Wn.no rfl rfl rfl rfl) rfl rfl ?_
            refine T.no (Wn.no rfl rfl rfl rfl) rfl rfl ?_
            refine T.no (Wn.no rfl rfl rfl rfl) rfl rfl ?_
            refine T.q (q_pickF rfl rfl rfl) (Wt.plain rfl) rfl rfl ?_
            refine T.q (q_move rfl rfl) (Wt.plain rfl) rfl rfl ?_
            refine T.no (Wn.no rfl rfl rfl rfl) rfl rfl ?_
            refine T.no (Wn.no rfl rfl rfl rfl) rfl rfl ?_
            refine T.no (Wn.no rfl rfl rfl rfl) rfl rfl ?_
            refine T.no (Wn.no rfl rfl rfl rfl) rfl rfl ?_
            refine T.q (q_pickF rfl rfl rfl) (Wt.plain rfl) rfl rfl ?_
            refine T.q (q_assign rfl rfl) (Wt.plain rfl) rfl rfl ?_
            refine T.nil ?_
            refine Ex.next ?_
            refine W.less (L' := [(2, _)]) [false] ⟨rfl, trivial⟩ ?_
            change (_ : List Blk → Prop) []
            refine W.ret ?_
            refine Ex.out1 [] rfl rfl ?_
            exact ⟨by unfold othP; first | (exact congrArg Value.bool (decide_eq_false (by omega)).symm) | (exact congrArg Value.bool (decide_eq_decide.2 (by omega))) | (exact congrArg Value.bool (decide_eq_true (by omega)).symm), rfl⟩
      · replace hb4 := of_decide_eq_false hb4
        refine T.no (Wn.no rfl rfl rfl rfl) rfl rfl ?_
        refine T.no (Wn.no rfl rfl rfl rfl) rfl rfl ?_
        refine T.no (Wn.no rfl rfl rfl rfl) rfl rfl ?_
        refine T.q (q_pickF rfl rfl rfl) (Wt.plain rfl) rfl rfl ?_
        refine T.q (q_assign rfl rfl) (Wt.plain rfl) rfl rfl ?_
        refine T.nil ?_
        refine Ex.next ?_
        refine W.slots (L' := [(1, _), (3, _)]) ⟨rfl, rfl, trivial⟩ ?_
        refine W.seq ?_
        refine W.region ?_
        refine T.q (q_fld fl40_0 rfl rfl) (Wt.plain rfl) rfl rfl ?_
        refine T.q (q_load1 ss3 0 rfl rfl rfl rfl) (Wt.plain rfl) rfl rfl ?_
        refine T.q (q_eql rfl rfl rfl) (Wt.plain rfl) rfl rfl ?_
        refine T.q (q_move rfl rfl) (Wt.plain rfl) rfl rfl ?_
        refine T.both (t := 25) _ rfl (fun hb11 => ?_) (fun hb11 => ?_)
        · replace hb11 := of_decide_eq_true hb11
          refine T.no (Wn.no rfl rfl rfl rfl) rfl rfl ?_
          refine T.no (Wn.no rfl rfl rfl rfl) rfl rfl ?_
          refine T.no (Wn.no rfl rfl rfl rfl) rfl rfl ?_
          refine T.q (q_pickT rfl rfl rfl) (Wt.plain rfl) rfl rfl ?_
          refine T.q (q_move rfl rfl) (Wt.plain rfl) rfl rfl ?_
          refine T.q (q_move rfl rfl) (Wt.yes rfl rfl rfl) rfl rfl ?_
          refine T.q (q_pickT rfl rfl rfl) (Wt.plain rfl) rfl rfl ?_
          refine T.q (q_move rfl rfl) (Wt.plain rfl) rfl rfl ?_
          refine T.no (Wn.no rfl rfl rfl rfl) rfl rfl ?_
          refine T.no (Wn.no rfl rfl rfl rfl) rfl rfl ?_
          refine T.no (Wn.no rfl rfl rfl rfl) rfl rfl ?_
          refine T.no (Wn.no rfl rfl rfl rfl) rfl rfl ?_
          refine T.q (q_pickF rfl rfl rfl) (Wt.plain rfl) rfl rfl ?_
          refine T.q (q_move rfl rfl) (Wt.plain rfl) rfl rfl ?_
          refine T.no (Wn.no rfl rfl rfl rfl) rfl rfl ?_
          refine T.no (Wn.no rfl rfl rfl rfl) rfl rfl ?_
          refine T.no (Wn.no rfl rfl rfl rfl) rfl rfl ?_
          refine T.no (Wn.no rfl rfl rfl rfl) rfl rfl ?_
          refine T.q (q_pickF rfl rfl rfl) (Wt.plain rfl) rfl rfl ?_
          refine T.q (q_assign rfl rfl) (Wt.plain rfl) rfl rfl ?_
          refine T.nil ?_
          refine Ex.next ?_
          refine W.less (L' := [(2, _)]) [false] ⟨rfl, trivial⟩ ?_
          change (_ : List Blk → Prop) []
          refine W.ret ?_
          refine Ex.out1 [] rfl rfl ?_
          exact ⟨by unfold othP; first | (exact congrArg Value.bool (decide_eq_false (by omega)).symm) | (exact congrArg Value.bool (decide_eq_decide.2 (by omega))) | (exact congrArg Value.bool (decide_eq_true (by omega)).symm), rfl⟩
        · replace hb11 := of_decide_eq_false hb11
          refine T.q (q_fld fl40_0 rfl rfl) (Wt.yes rfl rfl rfl) rfl rfl ?_
          refine T.q (q_load1 ss3 0 rfl rfl rfl rfl) (Wt.yes rfl rfl rfl) rfl rfl ?_
          refine T.q (q_eql rfl rfl rfl) (Wt.yes rfl rfl rfl) rfl rfl ?_
          refine T.q (q_pickF rfl rfl rfl) (Wt.plain rfl) rfl rfl ?_
          refine T.q (q_move rfl rfl) (Wt.plain rfl) rfl rfl ?_
          refine T.both (t := 30) _ rfl (fun hb12 => ?_) (fun hb12 => ?_)
          · replace hb12 := of_decide_eq_true hb12
            refine T.q (q_move rfl rfl) (Wt.yes rfl rfl rfl) rfl rfl ?_
            refine T.q (q_pickT rfl rfl rfl) (Wt.plain rfl) rfl rfl ?_
            refine T.q (q_move rfl rfl) (Wt.plain rfl) rfl rfl ?_
            refine T.no (Wn.no rfl rfl rfl rfl) rfl rfl ?_
            refine T.no (Wn.no rfl rfl rfl rfl) rfl rfl ?_
            refine T.no (Wn.no rfl rfl rfl rfl) rfl rfl ?_
            refine T.no (Wn.no rfl rfl rfl rfl) rfl rfl ?_
            refine T.q (q_pickF rfl rfl rfl) (Wt.plain rfl) rfl rfl ?_
            refine T.q (q_move rfl rfl) (Wt.plain rfl) rfl rfl ?_
            refine T.no (Wn.no rfl rfl rfl rfl) rfl rfl ?_
            refine T.no (Wn.no rfl rfl rfl rfl) rfl rfl ?_
            refine T.no (Wn.no rfl rfl rfl rfl) rfl rfl ?_
            refine T.no (Wn.no rfl rfl rfl rfl) rfl rfl ?_
            refine T.q (q_pickF rfl rfl rfl) (Wt.plain rfl) rfl rfl ?_
            refine T.q (q_assign rfl rfl) (Wt.plain rfl) rfl rfl ?_
            refine T.nil ?_
            refine Ex.next ?_
            refine W.less (L' := [(2, _)]) [false] ⟨rfl, trivial⟩ ?_
            change (_ : List Blk → Prop) []
            refine W.ret ?_
            refine Ex.out1 [] rfl rfl ?_
            exact ⟨by unfold othP; first | (exact congrArg Value.bool (decide_eq_false (by omega)).symm) | (exact congrArg Value.bool (decide_eq_decide.2 (by omega))) | (exact congrArg Value.bool (decide_eq_true (by omega)).symm), rfl⟩
          · replace hb12 := of_decide_eq_false hb12
            refine T.no (Wn.no rfl rfl rfl rfl) rfl rfl ?_
            refine T.q (q_pickF rfl rfl rfl) (Wt.plain rfl) rfl rfl ?_
            refine T.q (q_move rfl rfl) (Wt.plain rfl) rfl rfl ?_
            refine T.no (Wn.no rfl rfl rfl rfl) rfl rfl ?_
            refine T.no (Wn.no rfl rfl rfl rfl) rfl rfl ?_
            refine T.no (Wn.no rfl rfl rfl rfl) rfl rfl ?_
            refine T.no (Wn.no rfl rfl rfl rfl) rfl rfl ?_
            refine T.q (q_pickF rfl rfl rfl) (Wt.plain rfl) rfl rfl ?_
            refine T.q (q_move rfl rfl) (Wt.plain rfl) rfl rfl ?_
            refine T.no (Wn.no rfl rfl rfl rfl) rfl rfl ?_
            refine T.no (Wn.no rfl rfl rfl rfl) rfl rfl ?_
            refine T.no (Wn.no rfl rfl rfl rfl) rfl rfl ?_
            refine T.no (Wn.no rfl rfl rfl rfl) rfl rfl ?_
            refine T.q (q_pickF rfl rfl rfl) (Wt.plain rfl) rfl rfl ?_
            refine T.q (q_assign rfl rfl) (Wt.plain rfl) rfl rfl ?_
            refine T.nil ?_
            refine Ex.next ?_
            refine W.less (L' := [(2, _)]) [false] ⟨rfl, trivial⟩ ?_
            change (_ : List Blk → Prop) []
            refine W.ret ?_
            refine Ex.out1 [] rfl rfl ?_
            exact ⟨by unfold othP; first | (exact congrArg Value.bool (decide_eq_false (by omega)).symm) | (exact congrArg Value.bool (decide_eq_decide.2 (by omega))) | (exact congrArg Value.bool (decide_eq_true (by omega)).symm), rfl⟩
    · replace hb3 := of_decide_eq_false hb3
      refine T.no (Wn.no rfl rfl rfl rfl) rfl rfl ?_
      refine T.no (Wn.no rfl rfl rfl rfl) rfl rfl ?_
      refine T.no (Wn.no rfl rfl rfl rfl) rfl rfl ?_
      refine T.q (q_pickF rfl rfl rfl) (Wt.plain rfl) rfl rfl ?_
      refine T.q (q_move rfl rfl) (Wt.plain rfl) rfl rfl ?_
      refine T.no (Wn.no rfl rfl rfl rfl) rfl rfl ?_
      refine T.no (Wn.no rfl rfl rfl rfl) rfl rfl ?_
      refine T.no (Wn.no rfl rfl rfl rfl) rfl rfl ?_
      refine T.q (q_pickF rfl rfl rfl) (Wt.plain rfl) rfl rfl ?_
      refine T.q (q_assign rfl rfl) (Wt.plain rfl) rfl rfl ?_
      refine T.nil ?_
      refine Ex.next ?_
      refine W.slots (L' := [(1, _), (3, _)]) ⟨rfl, rfl, trivial⟩ ?_
      refine W.seq ?_
      refine W.region ?_
      refine T.q (q_fld fl40_0 rfl rfl) (Wt.plain rfl) rfl rfl ?_
      refine T.q (q_load1 ss3 0 rfl rfl rfl rfl) (Wt.plain rfl) rfl rfl ?_
      refine T.q (q_eql rfl rfl rfl) (Wt.plain rfl) rfl rfl ?_
      refine T.q (q_move rfl rfl) (Wt.plain rfl) rfl rfl ?_
      refine T.both (t := 25) _ rfl (fun hb13 => ?_) (fun hb13 => ?_)
      · replace hb13 := of_decide_eq_true hb13
        refine T.no (Wn.no rfl rfl rfl rfl) rfl rfl ?_
        refine T.no (Wn.no rfl rfl rfl rfl) rfl rfl ?_
        refine T.no (Wn.no rfl rfl rfl rfl) rfl rfl ?_
        refine T.q (q_pickT rfl rfl rfl) (Wt.plain rfl) rfl rfl ?_
        refine T.q (q_move rfl rfl) (Wt.plain rfl) rfl rfl ?_
        refine T.q (q_move rfl rfl) (Wt.yes rfl rfl rfl) rfl rfl ?_
        refine T.q (q_pickT rfl rfl rfl) (Wt.plain rfl) rfl rfl ?_
        refine T.q (q_move rfl rfl) (Wt.plain rfl) rfl rfl ?_
        refine T.no (Wn.no rfl rfl rfl rfl) rfl rfl ?_
        refine T.no (Wn.no rfl rfl rfl rfl) rfl rfl ?_
        refine T.no (Wn.no rfl rfl rfl rfl) rfl rfl ?_
        refine T.no (Wn.no rfl rfl rfl rfl) rfl rfl ?_
        refine T.q (q_pickF rfl rfl rfl) (Wt.plain rfl) rfl rfl ?_
        refine T.q (q_move rfl rfl) (Wt.plain rfl) rfl rfl ?_
        refine T.no (Wn.no rfl rfl rfl rfl) rfl rfl ?_
        refine T.no (Wn.no rfl rfl rfl rfl) rfl rfl ?_
        refine T.no (Wn.no rfl rfl rfl rfl) rfl rfl ?_
        refine T.no (Wn.no rfl rfl rfl rfl) rfl rfl ?_
        refine T.q (q_pickF rfl rfl rfl) (Wt.plain rfl) rfl rfl ?_
        refine T.q (q_assign rfl rfl) (Wt.plain rfl) rfl rfl ?_
        refine T.nil ?_
        refine Ex.next ?_
        refine W.less (L' := [(2, _)]) [false] ⟨rfl, trivial⟩ ?_
        change (_ : List Blk → Prop) []
        refine W.ret ?_
        refine Ex.out1 [] rfl rfl ?_
        exact ⟨by unfold othP; first | (exact congrArg Value.bool (decide_eq_false (by omega)).symm) | (exact congrArg Value.bool (decide_eq_decide.2 (by omega))) | (exact congrArg Value.bool (decide_eq_true (by omega)).symm), rfl⟩
      · replace hb13 := of_decide_eq_false hb13
        refine T.q (q_fld fl40_0 rfl rfl) (Wt.yes rfl rfl rfl) rfl rfl ?_
        refine T.q (q_load1 ss3 0 rfl rfl rfl rfl) (Wt.yes rfl rfl rfl) rfl rfl ?_
        refine T.q (q_eql rfl rfl rfl) (Wt.yes rfl rfl rfl) rfl rfl ?_
        refine T.q (q_pickF rfl rfl rfl) (Wt.plain rfl) rfl rfl ?_
        refine T.q (q_move rfl rfl) (Wt.plain rfl) rfl rfl ?_
        refine T.both (t := 30) _ rfl (fun hb14 => ?_) (fun hb14 => ?_)
        · replace hb14 := of_decide_eq_true hb14
          refine T.q (q_move rfl rfl) (Wt.yes rfl rfl rfl) rfl rfl ?_
          refine T.q (q_pickT rfl rfl rfl) (Wt.plain rfl) rfl rfl ?_
          refine T.q (q_move rfl rfl) (Wt.plain rfl) rfl rfl ?_
          refine T.no (Wn.no rfl rfl rfl rfl) rfl rfl ?_
          refine T.no (Wn.no rfl rfl rfl rfl) rfl rfl ?_
          refine T.no (Wn.no rfl rfl rfl rfl) rfl rfl ?_
          refine T.no (Wn.no rfl rfl rfl rfl) rfl rfl ?_
          refine T.q (q_pickF rfl rfl rfl) (Wt.plain rfl) rfl rfl ?_
          refine T.q (q_move rfl rfl) (Wt.plain rfl) rfl rfl ?_
          refine T.no (Wn.no rfl rfl rfl rfl) rfl rfl ?_
          refine T.no (Wn.no rfl rfl rfl rfl) rfl rfl ?_
          refine T.no (Wn.no rfl rfl rfl rfl) rfl rfl ?_
          refine T.no (Wn.no rfl rfl rfl rfl) rfl rfl ?_
          refine T.q (q_pickF rfl rfl rfl) (Wt.plain rfl) rfl rfl ?_
          refine T.q (q_assign rfl rfl) (Wt.plain rfl) rfl rfl ?_
          refine T.nil ?_
          refine Ex.next ?_
          refine W.less (L' := [(2, _)]) [false] ⟨rfl, trivial⟩ ?_
          change (_ : List Blk → Prop) []
          refine W.ret ?_
          refine Ex.out1 [] rfl rfl ?_
          exact ⟨by unfold othP; first | (exact congrArg Value.bool (decide_eq_false (by omega)).symm) | (exact congrArg Value.bool (decide_eq_decide.2 (by omega))) | (exact congrArg Value.bool (decide_eq_true (by omega)).symm), rfl⟩
        · replace hb14 := of_decide_eq_false hb14
          refine T.no (Wn.no rfl rfl rfl rfl) rfl rfl ?_
          refine T.q (q_pickF rfl rfl rfl) (Wt.plain rfl) rfl rfl ?_
          refine T.q (q_move rfl rfl) (Wt.plain rfl) rfl rfl ?_
          refine T.no (Wn.no rfl rfl rfl rfl) rfl rfl ?_
          refine T.no (Wn.no rfl rfl rfl rfl) rfl rfl ?_
          refine T.no (Wn.no rfl rfl rfl rfl) rfl rfl ?_
          refine T.no (Wn.no rfl rfl rfl rfl) rfl rfl ?_
          refine T.q (q_pickF rfl rfl rfl) (Wt.plain rfl) rfl rfl ?_
          refine T.q (q_move rfl rfl) (Wt.plain rfl) rfl rfl ?_
          refine T.no (Wn.no rfl rfl rfl rfl) rfl rfl ?_
          refine T.no (Wn.no rfl rfl rfl rfl) rfl rfl ?_
          refine T.no (Wn.no rfl rfl rfl rfl) rfl rfl ?_
          refine T.no (Wn.no rfl rfl rfl rfl) rfl rfl ?_
          refine T.q (q_pickF rfl rfl rfl) (Wt.plain rfl) rfl rfl ?_
          refine T.q (q_assign rfl rfl) (Wt.plain rfl) rfl rfl ?_
          refine T.nil ?_
          refine Ex.next ?_
          refine W.less (L' := [(2, _)]) [false] ⟨rfl, trivial⟩ ?_
          change (_ : List Blk → Prop) []
          refine W.ret ?_
          refine Ex.out1 [] rfl rfl ?_
          exact ⟨by unfold othP; first | (exact congrArg Value.bool (decide_eq_false (by omega)).symm) | (exact congrArg Value.bool (decide_eq_decide.2 (by omega))) | (exact congrArg Value.bool (decide_eq_true (by omega)).symm), rfl⟩
  · replace hb2 := of_decide_eq_false hb2
    refine T.no (Wn.no rfl rfl rfl rfl) rfl rfl ?_
    refine T.no (Wn.no rfl rfl rfl rfl) rfl rfl ?_
    refine T.no (Wn.no rfl rfl rfl rfl) rfl rfl ?_
    refine T.q (q_pickF rfl rfl rfl) (Wt.plain rfl) rfl rfl ?_
    refine T.q (q_move rfl rfl) (Wt.plain rfl) rfl rfl ?_
    refine T.no (Wn.no rfl rfl rfl rfl) rfl rfl ?_
    refine T.no (Wn.no rfl rfl rfl rfl) rfl rfl ?_
    refine T.no (Wn.no rfl rfl rfl rfl) rfl rfl ?_
    refine T.q (q_pickF rfl rfl rfl) (Wt.plain rfl) rfl rfl ?_
    refine T.q (q_move rfl rfl) (Wt.plain rfl) rfl rfl ?_
    refine T.no (Wn.no rfl rfl rfl rfl) rfl rfl ?_
    refine T.no (Wn.no rfl rfl rfl rfl) rfl rfl ?_
    refine T.no (Wn.no rfl rfl rfl rfl) rfl rfl ?_
    refine T.q (q_pickF rfl rfl rfl) (Wt.plain rfl) rfl rfl ?_
    refine T.q (q_assign rfl rfl) (Wt.plain rfl) rfl rfl ?_
    refine T.nil ?_
    refine Ex.next ?_
    refine W.slots (L' := [(1, _), (3, _)]) ⟨rfl, rfl, trivial⟩ ?_
    refine W.seq ?_
    refine W.region ?_
    refine T.q (q_fld fl40_0 rfl rfl) (Wt.plain rfl) rfl rfl ?_
    refine T.q (q_load1 ss3 0 rfl rfl rfl rfl) (Wt.plain rfl) rfl rfl ?_
    refine T.q (q_eql rfl rfl rfl) (Wt.plain rfl) rfl rfl ?_
    refine T.q (q_move rfl rfl) (Wt.plain rfl) rfl rfl ?_
    refine T.both (t := 25) _ rfl (fun hb15 => ?_) (fun hb15 => ?_)
    · replace hb15 := of_decide_eq_true hb15
      refine T.no (Wn.no rfl rfl rfl rfl) rfl rfl ?_
      refine T.no (Wn.no rfl rfl rfl rfl) rfl rfl ?_
      refine T.no (Wn.no rfl rfl rfl rfl) rfl rfl ?_
      refine T.q (q_pickT rfl rfl rfl) (Wt.plain rfl) rfl rfl ?_
      refine T.q (q_move rfl rfl) (Wt.plain rfl) rfl rfl ?_
      refine T.q (q_move rfl rfl) (Wt.yes rfl rfl rfl) rfl rfl ?_
      refine T.q (q_pickT rfl rfl rfl) (Wt.plain rfl) rfl rfl ?_
      refine T.q (q_move rfl rfl) (Wt.plain rfl) rfl rfl ?_
      refine T.no (Wn.no rfl rfl rfl rfl) rfl rfl ?_
      refine T.no (Wn.no rfl rfl rfl rfl) rfl rfl ?_
      refine T.no (Wn.no rfl rfl rfl rfl) rfl rfl ?_
      refine T.no (Wn.no rfl rfl rfl rfl) rfl rfl ?_
      refine T.q (q_pickF rfl rfl rfl) (Wt.plain rfl) rfl rfl ?_
      refine T.q (q_move rfl rfl) (Wt.plain rfl) rfl rfl ?_
      refine T.no (Wn.no rfl rfl rfl rfl) rfl rfl ?_
      refine T.no (Wn.no rfl rfl rfl rfl) rfl rfl ?_
      refine T.no (Wn.no rfl rfl rfl rfl) rfl rfl ?_
      refine T.no (Wn.no rfl rfl rfl rfl) rfl rfl ?_
      refine T.q (q_pickF rfl rfl rfl) (Wt.plain rfl) rfl rfl ?_
      refine T.q (q_assign rfl rfl) (Wt.plain rfl) rfl rfl ?_
      refine T.nil ?_
      refine Ex.next ?_
      refine W.less (L' := [(2, _)]) [false] ⟨rfl, trivial⟩ ?_
      change (_ : List Blk → Prop) []
      refine W.ret ?_
      refine Ex.out1 [] rfl rfl ?_
      exact ⟨by unfold othP; first | (exact congrArg Value.bool (decide_eq_false (by omega)).symm) | (exact congrArg Value.bool (decide_eq_decide.2 (by omega))) | (exact congrArg Value.bool (decide_eq_true (by omega)).symm), rfl⟩
    · replace hb15 := of_decide_eq_false hb15
      refine T.q (q_fld fl40_0 rfl rfl) (Wt.yes rfl rfl rfl) rfl rfl ?_
      refine T.q (q_load1 ss3 0 rfl rfl rfl rfl) (Wt.yes rfl rfl rfl) rfl rfl ?_
      refine T.q (q_eql rfl rfl rfl) (Wt.yes rfl rfl rfl) rfl rfl ?_
      refine T.q (q_pickF rfl rfl rfl) (Wt.plain rfl) rfl rfl ?_
      refine T.q (q_move rfl rfl) (Wt.plain rfl) rfl rfl ?_
      refine T.both (t := 30) _ rfl (fun hb16 => ?_) (fun hb16 => ?_)
      · replace hb16 := of_decide_eq_true hb16
        refine T.q (q_move rfl rfl) (Wt.yes rfl rfl rfl) rfl rfl ?_
        refine T.q (q_pickT rfl rfl rfl) (Wt.plain rfl) rfl rfl ?_
        refine T.q (q_move rfl rfl) (Wt.plain rfl) rfl rfl ?_
        refine T.no (Wn.no rfl rfl rfl rfl) rfl rfl ?_
        refine T.no (Wn.no rfl rfl rfl rfl) rfl rfl ?_
        refine T.no (Wn.no rfl rfl rfl rfl) rfl rfl ?_
        refine T.no (Wn.no rfl rfl rfl rfl) rfl rfl ?_
        refine T.q (q_pickF rfl rfl rfl) (Wt.plain rfl) rfl rfl ?_
        refine T.q (q_move rfl rfl) (Wt.plain rfl) rfl rfl ?_
        refine T.no (Wn.no rfl rfl rfl rfl) rfl rfl ?_
        refine T.no (Wn.no rfl rfl rfl rfl) rfl rfl ?_
        refine T.no (Wn.no rfl rfl rfl rfl) rfl rfl ?_
        refine T.no (Wn.no rfl rfl rfl rfl) rfl rfl ?_
        refine T.q (q_pickF rfl rfl rfl) (Wt.plain rfl) rfl rfl ?_
        refine T.q (q_assign rfl rfl) (Wt.plain rfl) rfl rfl ?_
        refine T.nil ?_
        refine Ex.next ?_
        refine W.less (L' := [(2, _)]) [false] ⟨rfl, trivial⟩ ?_
        change (_ : List Blk → Prop) []
        refine W.ret ?_
        refine Ex.out1 [] rfl rfl ?_
        exact ⟨by unfold othP; first | (exact congrArg Value.bool (decide_eq_false (by omega)).symm) | (exact congrArg Value.bool (decide_eq_decide.2 (by omega))) | (exact congrArg Value.bool (decide_eq_true (by omega)).symm), rfl⟩
      · replace hb16 := of_decide_eq_false hb16
        refine T.no (Wn.no rfl rfl rfl rfl) rfl rfl ?_
        refine T.q (q_pickF rfl rfl rfl) (Wt.plain rfl) rfl rfl ?_
        refine T.q (q_move rfl rfl) (Wt.plain rfl) rfl rfl ?_
        refine T.no (Wn.no rfl rfl rfl rfl) rfl rfl ?_
        refine T.no (Wn.no rfl rfl rfl rfl) rfl rfl ?_
        refine T.no (Wn.no rfl rfl rfl rfl) rfl rfl ?_
        refine T.no (Wn.no rfl rfl rfl rfl) rfl rfl ?_
        refine T.q (q_pickF rfl rfl rfl) (Wt.plain rfl) rfl rfl ?_
        refine T.q (q_move rfl rfl) (Wt.plain rfl) rfl rfl ?_
        refine T.no (Wn.no rfl rfl rfl rfl) rfl rfl ?_
        refine T.no (Wn.no rfl rfl rfl rfl) rfl rfl ?_
        refine T.no (Wn.no rfl rfl rfl rfl) rfl rfl ?_
        refine T.no (Wn.no rfl rfl rfl rfl) rfl rfl ?_
        refine T.q (q_pickF rfl rfl rfl) (Wt.plain rfl) rfl rfl ?_
        refine T.q (q_assign rfl rfl) (Wt.plain rfl) rfl rfl ?_
        refine T.nil ?_
        refine Ex.next ?_
        refine W.less (L' := [(2, _)]) [false] ⟨rfl, trivial⟩ ?_
        change (_ : List Blk → Prop) []
        refine W.ret ?_
        refine Ex.out1 [] rfl rfl ?_
        exact ⟨by unfold othP; first | (exact congrArg Value.bool (decide_eq_false (by omega)).symm) | (exact congrArg Value.bool (decide_eq_decide.2 (by omega))) | (exact congrArg Value.bool (decide_eq_true (by omega)).symm), rfl⟩
set_option maxRecDepth 100000 in
theorem may_spec (pk pr pp pe pc : Int) (PA : Option Addr) (n bc : Nat) (w0 : World) : Does Try.prog 42 #[.agg #[.int .i64 pk, .int .i64 pr, .int .i64 pp, .int .i64 pe, .int .i64 pc, .slice PA n bc]] w0 [] (fun v G => v = .bool (decide (mayP pk pr pp pe pc n)) ∧ G = []) := by
  refine spec_of 90 Try.func42 rfl rfl rfl ?_
  refine W.seq ?_
  refine W.region ?_
  refine T.eff (e_box rfl rfl rfl rfl) (Wt.plain rfl) ?_
  rintro _ _ ⟨k1, rfl, rfl⟩
  change (_ : List Blk → Prop) [_]
  change (_ : List Blk → Prop) [⟨some k1, [.int .i64 pk, .int .i64 pr, .int .i64 pp, .int .i64 pe, .int .i64 pc, .slice PA n bc], 40, (0, 0)⟩]
  refine T.q (q_assign rfl rfl) (Wt.plain rfl) rfl rfl ?_
  refine T.nil ?_
  refine Ex.next ?_
  refine W.slots (L' := [(1, _)]) ⟨rfl, trivial⟩ ?_
  refine W.seq ?_
  refine W.seq ?_
  refine W.region ?_
  refine T.q (q_fld fl40_0 rfl rfl) (Wt.plain rfl) rfl rfl ?_
  refine T.q (q_load1 ss3 0 rfl rfl rfl rfl) (Wt.plain rfl) rfl rfl ?_
  refine T.nil ?_
  refine Ex.next ?_
  refine W.slots (L' := [(1, _), (4, _)]) ⟨rfl, rfl, trivial⟩ ?_
  refine W.block ?_
  refine W.seq ?_
  refine W.seq ?_
  refine W.region ?_
  refine T.q (q_eql rfl rfl rfl) (Wt.plain rfl) rfl rfl ?_
  refine T.q (q_assign rfl rfl) (Wt.plain rfl) rfl rfl ?_
  refine T.nil ?_
  refine Ex.next ?_
  refine W.slots (L' := [(1, _), (4, _), (5, _)]) ⟨rfl, rfl, rfl, trivial⟩ ?_
  refine W.cond _ rfl (fun hb2 => ?_) (fun hb2 => ?_)
  · replace hb2 := of_decide_eq_true hb2
    refine W.skip ?_
    refine Ex.next ?_
    refine W.slots (L' := [(1, _), (4, _), (5, _)]) ⟨rfl, rfl, rfl, trivial⟩ ?_
    refine W.cond _ rfl (fun hb3 => ?_) (fun hb3 => ?_)
    · replace hb3 := of_decide_eq_true hb3
      refine W.seq ?_
      refine W.region ?_
      refine T.q (q_fld fl40_5 rfl rfl) (Wt.plain rfl) rfl rfl ?_
      refine T.q (q_load1 ss22 0 rfl rfl rfl rfl) (Wt.plain rfl) rfl rfl ?_
      refine T.q (q_len sc22 rfl rfl) (Wt.plain rfl) rfl rfl ?_
      refine T.q (q_geq rfl rfl rfl) (Wt.plain rfl) rfl rfl ?_
      refine T.q (q_move rfl rfl) (Wt.plain rfl) rfl rfl ?_
      refine T.both (t := 12) _ rfl (fun hb4 => ?_) (fun hb4 => ?_)
      · replace hb4 := of_decide_eq_true hb4
        refine T.q (q_fld fl40_5 rfl rfl) (Wt.yes rfl rfl rfl) rfl rfl ?_
        refine T.q (q_load1 ss22 0 rfl rfl rfl rfl) (Wt.yes rfl rfl rfl) rfl rfl ?_
        refine T.q (q_len sc22 rfl rfl) (Wt.yes rfl rfl rfl) rfl rfl ?_
        refine T.q (q_leq rfl rfl rfl) (Wt.yes rfl rfl rfl) rfl rfl ?_
        refine T.q (q_pickT rfl rfl rfl) (Wt.plain rfl) rfl rfl ?_
        refine T.q (q_move rfl rfl) (Wt.plain rfl) rfl rfl ?_
        refine T.both (t := 18) _ rfl (fun hb5 => ?_) (fun hb5 => ?_)
        · replace hb5 := of_decide_eq_true hb5
          refine T.q (q_fld fl40_1 rfl rfl) (Wt.yes rfl rfl rfl) rfl rfl ?_
          refine T.q (q_load1 ss3 0 rfl rfl rfl rfl) (Wt.yes rfl rfl rfl) rfl rfl ?_
          refine T.q (q_eql rfl rfl rfl) (Wt.yes rfl rfl rfl) rfl rfl ?_
          refine T.q (q_pickT rfl rfl rfl) (Wt.plain rfl) rfl rfl ?_
          refine T.q (q_move rfl rfl) (Wt.plain rfl) rfl rfl ?_
          refine T.both (t := 23) _ rfl (fun hb6 => ?_) (fun hb6 => ?_)
          · replace hb6 := of_decide_eq_true hb6
            refine T.q (q_fld fl40_2 rfl rfl) (Wt.yes rfl rfl rfl) rfl rfl ?_
            refine T.q (q_load1 ss3 0 rfl rfl rfl rfl) (Wt.yes rfl rfl rfl) rfl rfl ?_
            refine T.q (q_eql rfl rfl rfl) (Wt.yes rfl rfl rfl) rfl rfl ?_
            refine T.q (q_pickT rfl rfl rfl) (Wt.plain rfl) rfl rfl ?_
            refine T.q (q_move rfl rfl) (Wt.plain rfl) rfl rfl ?_
            refine T.both (t := 28) _ rfl (fun hb7 => ?_) (fun hb7 => ?_)
            · replace hb7 := of_decide_eq_true hb7
              refine T.q (q_fld fl40_3 rfl rfl) (Wt.yes rfl rfl rfl) rfl rfl ?_
              refine T.q (q_load1 ss3 0 rfl rfl rfl rfl) (Wt.yes rfl rfl rfl) rfl rfl ?_
              refine T.q (q_eql rfl rfl rfl) (Wt.yes rfl rfl rfl) rfl rfl ?_
              refine T.q (q_pickT rfl rfl rfl) (Wt.plain rfl) rfl rfl ?_
              refine T.q (q_move rfl rfl) (Wt.plain rfl) rfl rfl ?_
              refine T.both (t := 33) _ rfl (fun hb8 => ?_) (fun hb8 => ?_)
              · replace hb8 := of_decide_eq_true hb8
                refine T.q (q_fld fl40_4 rfl rfl) (Wt.yes rfl rfl rfl) rfl rfl ?_
                refine T.q (q_load1 ss3 0 rfl rfl rfl rfl) (Wt.yes rfl rfl rfl) rfl rfl ?_
                refine T.q (q_eql rfl rfl rfl) (Wt.yes rfl rfl rfl) rfl rfl ?_
                refine T.q (q_pickT rfl rfl rfl) (Wt.plain rfl) rfl rfl ?_
                refine T.q (q_assign rfl rfl) (Wt.plain rfl) rfl rfl ?_
                refine T.nil ?_
                refine Ex.next ?_
                refine W.less (L' := [(2, _)]) [false] ⟨rfl, trivial⟩ ?_
                change (_ : List Blk → Prop) []
                refine W.ret ?_
                refine Ex.in_ret ?_
                refine Ex.then_ret ?_
                refine Ex.out1 [] rfl rfl ?_
                exact ⟨by unfold mayP recP othP; first | (exact congrArg Value.bool (decide_eq_false (by omega)).symm) | (exact congrArg Value.bool (decide_eq_decide.2 (by omega))) | (exact congrArg Value.bool (decide_eq_true (by omega)).symm), rfl⟩
              · replace hb8 := of_decide_eq_false hb8
                refine T.no (Wn.no rfl rfl rfl rfl) rfl rfl ?_
                refine T.no (Wn.no rfl rfl rfl rfl) rfl rfl ?_
                refine T.no (Wn.no rfl rfl rfl rfl) rfl rfl ?_
                refine T.q (q_pickF rfl rfl rfl) (Wt.plain rfl) rfl rfl ?_
                refine T.q (q_assign rfl rfl) (Wt.plain rfl) rfl rfl ?_
                refine T.nil ?_
                refine Ex.next ?_
                refine W.less (L' := [(2, _)]) [false] ⟨rfl, trivial⟩ ?_
                change (_ : List Blk → Prop) []
                refine W.ret ?_
                refine Ex.in_ret ?_
                refine Ex.then_ret ?_
                refine Ex.out1 [] rfl rfl ?_
                exact ⟨by unfold mayP recP othP; first | (exact congrArg Value.bool (decide_eq_false (by omega)).symm) | (exact congrArg Value.bool (decide_eq_decide.2 (by omega))) | (exact congrArg Value.bool (decide_eq_true (by omega)).symm), rfl⟩
            · replace hb7 := of_decide_eq_false hb7
              refine T.no (Wn.no rfl rfl rfl rfl) rfl rfl ?_
              refine T.no (Wn.no rfl rfl rfl rfl) rfl rfl ?_
              refine T.no (Wn.no rfl rfl rfl rfl) rfl rfl ?_
              refine T.q (q_pickF rfl rfl rfl) (Wt.plain rfl) rfl rfl ?_
              refine T.q (q_move rfl rfl) (Wt.plain rfl) rfl rfl ?_
              refine T.no (Wn.no rfl rfl rfl rfl) rfl rfl ?_
              refine T.no (Wn.no rfl rfl rfl rfl) rfl rfl ?_
              refine T.no (Wn.no rfl rfl rfl rfl) rfl rfl ?_
              refine T.q (q_pickF rfl rfl rfl) (Wt.plain rfl) rfl rfl ?_
              refine T.q (q_assign rfl rfl) (Wt.plain rfl) rfl rfl ?_
              refine T.nil ?_
              refine Ex.next ?_
              refine W.less (L' := [(2, _)]) [false] ⟨rfl, trivial⟩ ?_
              change (_ : List Blk → Prop) []
              refine W.ret ?_
              refine Ex.in_ret ?_
              refine Ex.then_ret ?_
              refine Ex.out1 [] rfl rfl ?_
              exact ⟨by unfold mayP recP othP; first | (exact congrArg Value.bool (decide_eq_false (by omega)).symm) | (exact congrArg Value.bool (decide_eq_decide.2 (by omega))) | (exact congrArg Value.bool (decide_eq_true (by omega)).symm), rfl⟩
          · replace hb6 := of_decide_eq_false hb6
            refine T.no (Wn.no rfl rfl rfl rfl) rfl rfl ?_
            refine T.no (Wn.no rfl rfl rfl rfl) rfl rfl ?_
            refine T.no (Wn.no rfl rfl rfl rfl) rfl rfl ?_
            refine T.q (q_pickF rfl rfl rfl) (Wt.plain rfl) rfl rfl ?_
            refine T.q (q_move rfl rfl) (Wt.plain rfl) rfl rfl ?_
            refine T.no (Wn.no rfl rfl rfl rfl) rfl rfl ?_
            refine T.no (Wn.no rfl rfl rfl rfl) rfl rfl ?_
            refine T.no (Wn.no rfl rfl rfl rfl) rfl rfl ?_
            refine T.q (q_pickF rfl rfl rfl) (Wt.plain rfl) rfl rfl ?_
            refine T.q (q_move rfl rfl) (Wt.plain rfl) rfl rfl ?_
            refine T.no (Wn.no rfl rfl rfl rfl) rfl rfl ?_
            refine T.no (Wn.no rfl rfl rfl rfl) rfl rfl ?_
            refine T.no (Wn.no rfl rfl rfl rfl) rfl rfl ?_
            refine T.q (q_pickF rfl rfl rfl) (Wt.plain rfl) rfl rfl ?_
            refine T.q (q_assign rfl rfl) (Wt.plain rfl) rfl rfl ?_
            refine T.nil ?_
            refine Ex.next ?_
            refine W.less (L' := [(2, _)]) [false] ⟨rfl, trivial⟩ ?_
            change (_ : List Blk → Prop) []
            refine W.ret ?_
            refine Ex.in_ret ?_
            refine Ex.then_ret ?_
            refine Ex.out1 [] rfl rfl ?_
            exact ⟨by unfold mayP recP othP; first | (exact congrArg Value.bool (decide_eq_false (by omega)).symm) | (exact congrArg Value.bool (decide_eq_decide.2 (by omega))) | (exact congrArg Value.bool (decide_eq_true (by omega)).symm), rfl⟩
        · replace hb5 := of_decide_eq_false hb5
          refine T.no (Wn.no rfl rfl rfl rfl) rfl rfl ?_
          refine T.no (Wn.no rfl rfl rfl rfl) rfl rfl ?_
          refine T.no (Wn.no rfl rfl rfl rfl) rfl rfl ?_
          refine T.q (q_pickF rfl rfl rfl) (Wt.plain rfl) rfl rfl ?_
          refine T.q (q_move rfl rfl) (Wt.plain rfl) rfl rfl ?_
          refine T.no (Wn.no rfl rfl rfl rfl) rfl rfl ?_
          refine T.no (Wn.no rfl rfl rfl rfl) rfl rfl ?_
          refine T.no (Wn.no rfl rfl rfl rfl) rfl rfl ?_
          refine T.q (q_pickF rfl rfl rfl) (Wt.plain rfl) rfl rfl ?_
          refine T.q (q_move rfl rfl) (Wt.plain rfl) rfl rfl ?_
          refine T.no (Wn.no rfl rfl rfl rfl) rfl rfl ?_
          refine T.no (Wn.no rfl rfl rfl rfl) rfl rfl ?_
          refine T.no (Wn.no rfl rfl rfl rfl) rfl rfl ?_
          refine T.q (q_pickF rfl rfl rfl) (Wt.plain rfl) rfl rfl ?_
          refine T.q (q_move rfl rfl) (Wt.plain rfl) rfl rfl ?_
          refine T.no (Wn.no rfl rfl rfl rfl) rfl rfl ?_
          refine T.no (Wn.no rfl rfl rfl rfl) rfl rfl ?_
          refine T.no (Wn.no rfl rfl rfl rfl) rfl rfl ?_
          refine T.q (q_pickF rfl rfl rfl) (Wt.plain rfl) rfl rfl ?_
          refine T.q (q_assign rfl rfl) (Wt.plain rfl) rfl rfl ?_
          refine T.nil ?_
          refine Ex.next ?_
          refine W.less (L' := [(2, _)]) [false] ⟨rfl, trivial⟩ ?_
          change (_ : List Blk → Prop) []
          refine W.ret ?_
          refine Ex.in_ret ?_
          refine Ex.then_ret ?_
          refine Ex.out1 [] rfl rfl ?_
          exact ⟨by unfold mayP recP othP; first | (exact congrArg Value.bool (decide_eq_false (by omega)).symm) | (exact congrArg Value.bool (decide_eq_decide.2 (by omega))) | (exact congrArg Value.bool (decide_eq_true (by omega)).symm), rfl⟩
      · replace hb4 := of_decide_eq_false hb4
        refine T.no (Wn.no rfl rfl rfl rfl) rfl rfl ?_
        refine T.no (Wn.no rfl rfl rfl rfl) rfl rfl ?_
        refine T.no (Wn.no rfl rfl rfl rfl) rfl rfl ?_
        refine T.no (Wn.no rfl rfl rfl rfl) rfl rfl ?_
        refine T.q (q_pickF rfl rfl rfl) (Wt.plain rfl) rfl rfl ?_
        refine T.q (q_move rfl rfl) (Wt.plain rfl) rfl rfl ?_
        refine T.no (Wn.no rfl rfl rfl rfl) rfl rfl ?_
        refine T.no (Wn.no rfl rfl rfl rfl) rfl rfl ?_
        refine T.no (Wn.no rfl rfl rfl rfl) rfl rfl ?_
        refine T.q (q_pickF rfl rfl rfl) (Wt.plain rfl) rfl rfl ?_
        refine T.q (q_move rfl rfl) (Wt.plain rfl) rfl rfl ?_
        refine T.no (Wn.no rfl rfl rfl rfl) rfl rfl ?_
        refine T.no (Wn.no rfl rfl rfl rfl) rfl rfl ?_
        refine T.no (Wn.no rfl rfl rfl rfl) rfl rfl ?_
        refine T.q (q_pickF rfl rfl rfl) (Wt.plain rfl) rfl rfl ?_
        refine T.q (q_move rfl rfl) (Wt.plain rfl) rfl rfl ?_
        refine T.no (Wn.no rfl rfl rfl rfl) rfl rfl ?_
        refine T.no (Wn.no rfl rfl rfl rfl) rfl rfl ?_
        refine T.no (Wn.no rfl rfl rfl rfl) rfl rfl ?_
        refine T.q (q_pickF rfl rfl rfl) (Wt.plain rfl) rfl rfl ?_
        refine T.q (q_move rfl rfl) (Wt.plain rfl) rfl rfl ?_
        refine T.no (Wn.no rfl rfl rfl rfl) rfl rfl ?_
        refine T.no (Wn.no rfl rfl rfl rfl) rfl rfl ?_
        refine T.no (Wn.no rfl rfl rfl rfl) rfl rfl ?_
        refine T.q (q_pickF rfl rfl rfl) (Wt.plain rfl) rfl rfl ?_
        refine T.q (q_assign rfl rfl) (Wt.plain rfl) rfl rfl ?_
        refine T.nil ?_
        refine Ex.next ?_
        refine W.less (L' := [(2, _)]) [false] ⟨rfl, trivial⟩ ?_
        change (_ : List Blk → Prop) []
        refine W.ret ?_
        refine Ex.in_ret ?_
        refine Ex.then_ret ?_
        refine Ex.out1 [] rfl rfl ?_
        exact ⟨by unfold mayP recP othP; first | (exact congrArg Value.bool (decide_eq_false (by omega)).symm) | (exact congrArg Value.bool (decide_eq_decide.2 (by omega))) | (exact congrArg Value.bool (decide_eq_true (by omega)).symm), rfl⟩
    · replace hb3 := of_decide_eq_false hb3
      refine W.seq ?_
      refine W.region ?_
      refine T.q (q_eql rfl rfl rfl) (Wt.plain rfl) rfl rfl ?_
      refine T.q (q_assign rfl rfl) (Wt.plain rfl) rfl rfl ?_
      refine T.nil ?_
      refine Ex.next ?_
      refine W.slots (L' := [(1, _), (38, _)]) ⟨rfl, rfl, trivial⟩ ?_
      refine W.cond _ rfl (fun hb9 => ?_) (fun hb9 => ?_)
      · replace hb9 := of_decide_eq_true hb9
        refine W.seq ?_
        refine W.region ?_
        refine T.q (q_fld fl40_1 rfl rfl) (Wt.plain rfl) rfl rfl ?_
        refine T.q (q_load1 ss3 0 rfl rfl rfl rfl) (Wt.plain rfl) rfl rfl ?_
        refine T.q (q_geq rfl rfl rfl) (Wt.plain rfl) rfl rfl ?_
        refine T.q (q_move rfl rfl) (Wt.plain rfl) rfl rfl ?_
        refine T.both (t := 43) _ rfl (fun hb10 => ?_) (fun hb10 => ?_)
        · replace hb10 := of_decide_eq_true hb10
          refine T.q (q_fld fl40_1 rfl rfl) (Wt.yes rfl rfl rfl) rfl rfl ?_
          refine T.q (q_load1 ss3 0 rfl rfl rfl rfl) (Wt.yes rfl rfl rfl) rfl rfl ?_
          refine T.q (q_leq rfl rfl rfl) (Wt.yes rfl rfl rfl) rfl rfl ?_
          refine T.q (q_pickT rfl rfl rfl) (Wt.plain rfl) rfl rfl ?_
          refine T.q (q_move rfl rfl) (Wt.plain rfl) rfl rfl ?_
          refine T.both (t := 48) _ rfl (fun hb11 => ?_) (fun hb11 => ?_)
          · replace hb11 := of_decide_eq_true hb11
            refine T.q (q_fld fl40_2 rfl rfl) (Wt.yes rfl rfl rfl) rfl rfl ?_
            refine T.q (q_load1 ss3 0 rfl rfl rfl rfl) (Wt.yes rfl rfl rfl) rfl rfl ?_
            refine T.q (q_geq rfl rfl rfl) (Wt.yes rfl rfl rfl) rfl rfl ?_
            refine T.q (q_pickT rfl rfl rfl) (Wt.plain rfl) rfl rfl ?_
            refine T.q (q_move rfl rfl) (Wt.plain rfl) rfl rfl ?_
            refine T.both (t := 53) _ rfl (fun hb12 => ?_) (fun hb12 => ?_)
            · replace hb12 := of_decide_eq_true hb12
              refine T.q (q_fld fl40_2 rfl rfl) (Wt.yes rfl rfl rfl) rfl rfl ?_
              refine T.q (q_load1 ss3 0 rfl rfl rfl rfl) (Wt.yes rfl rfl rfl) rfl rfl ?_
              refine T.q (q_leq rfl rfl rfl) (Wt.yes rfl rfl rfl) rfl rfl ?_
              refine T.q (q_pickT rfl rfl rfl) (Wt.plain rfl) rfl rfl ?_
              refine T.q (q_move rfl rfl) (Wt.plain rfl) rfl rfl ?_
              refine T.both (t := 58) _ rfl (fun hb13 => ?_) (fun hb13 => ?_)
              · replace hb13 := of_decide_eq_true hb13
                refine T.q (q_fld fl40_3 rfl rfl) (Wt.yes rfl rfl rfl) rfl rfl ?_
                refine T.q (q_load1 ss3 0 rfl rfl rfl rfl) (Wt.yes rfl rfl rfl) rfl rfl ?_
                refine T.q (q_geq rfl rfl rfl) (Wt.yes rfl rfl rfl) rfl rfl ?_
                refine T.q (q_pickT rfl rfl rfl) (Wt.plain rfl) rfl rfl ?_
                refine T.q (q_move rfl rfl) (Wt.plain rfl) rfl rfl ?_
                refine T.both (t := 63) _ rfl (fun hb14 => ?_) (fun hb14 => ?_)
                · replace hb14 := of_decide_eq_true hb14
                  refine T.q (q_fld fl40_3 rfl rfl) (Wt.yes rfl rfl rfl) rfl rfl ?_
                  refine T.q (q_load1 ss3 0 rfl rfl rfl rfl) (Wt.yes rfl rfl rfl) rfl rfl ?_
                  refine T.q (q_leq rfl rfl rfl) (Wt.yes rfl rfl rfl) rfl rfl ?_
                  refine T.q (q_pickT rfl rfl rfl) (Wt.plain rfl) rfl rfl ?_
                  refine T.q (q_move rfl rfl) (Wt.plain rfl) rfl rfl ?_
                  refine T.both (t := 68) _ rfl (fun hb15 => ?_) (fun hb15 => ?_)
                  · replace hb15 := of_decide_eq_true hb15
                    refine T.q (q_fld fl40_4 rfl rfl) (Wt.yes rfl rfl rfl) rfl rfl ?_
                    refine T.q (q_load1 ss3 0 rfl rfl rfl rfl) (Wt.yes rfl rfl rfl) rfl rfl ?_
                    refine T.q (q_geq rfl rfl rfl) (Wt.yes rfl rfl rfl) rfl rfl ?_
                    refine T.q (q_pickT rfl rfl rfl) (Wt.plain rfl) rfl rfl ?_
                    refine T.q (q_move rfl rfl) (Wt.plain rfl) rfl rfl ?_
                    refine T.both (t := 73) _ rfl (fun hb16 => ?_) (fun hb16 => ?_)
                    · replace hb16 := of_decide_eq_true hb16
                      refine T.q (q_fld fl40_4 rfl rfl) (Wt.yes rfl rfl rfl) rfl rfl ?_
                      refine T.q (q_load1 ss3 0 rfl rfl rfl rfl) (Wt.yes rfl rfl rfl) rfl rfl ?_
                      refine T.q (q_leq rfl rfl rfl) (Wt.yes rfl rfl rfl) rfl rfl ?_
                      refine T.q (q_pickT rfl rfl rfl) (Wt.plain rfl) rfl rfl ?_
                      refine T.q (q_move rfl rfl) (Wt.plain rfl) rfl rfl ?_
                      refine T.both (t := 78) _ rfl (fun hb17 => ?_) (fun hb17 => ?_)
                      · replace hb17 := of_decide_eq_true hb17
                        refine T.q (q_fld fl40_5 rfl rfl) (Wt.yes rfl rfl rfl) rfl rfl ?_
                        refine T.q (q_load1 ss22 0 rfl rfl rfl rfl) (Wt.yes rfl rfl rfl) rfl rfl ?_
                        refine T.q (q_len sc22 rfl rfl) (Wt.yes rfl rfl rfl) rfl rfl ?_
                        refine T.q (q_geq rfl rfl rfl) (Wt.yes rfl rfl rfl) rfl rfl ?_
                        refine T.q (q_pickT rfl rfl rfl) (Wt.plain rfl) rfl rfl ?_
                        refine T.q (q_move rfl rfl) (Wt.plain rfl) rfl rfl ?_
                        refine T.both (t := 84) _ rfl (fun hb18 => ?_) (fun hb18 => ?_)
                        · replace hb18 := of_decide_eq_true hb18
                          refine T.q (q_fld fl40_5 rfl rfl) (Wt.yes rfl rfl rfl) rfl rfl ?_
                          refine T.q (q_load1 ss22 0 rfl rfl rfl rfl) (Wt.yes rfl rfl rfl) rfl rfl ?_
                          refine T.q (q_len sc22 rfl rfl) (Wt.yes rfl rfl rfl) rfl rfl ?_
                          refine T.q (q_leq rfl rfl rfl) (Wt.yes rfl rfl rfl) rfl rfl ?_
                          refine T.q (q_pickT rfl rfl rfl) (Wt.plain rfl) rfl rfl ?_
                          refine T.q (q_assign rfl rfl) (Wt.plain rfl) rfl rfl ?_
                          refine T.nil ?_
                          refine Ex.next ?_
                          refine W.less (L' := [(2, _)]) [false] ⟨rfl, trivial⟩ ?_
                          change (_ : List Blk → Prop) []
                          refine W.ret ?_
                          refine Ex.in_ret ?_
                          refine Ex.then_ret ?_
                          refine Ex.out1 [] rfl rfl ?_
                          exact ⟨by unfold mayP recP othP; first | (exact congrArg Value.bool (decide_eq_false (by omega)).symm) | (exact congrArg Value.bool (decide_eq_decide.2 (by omega))) | (exact congrArg Value.bool (decide_eq_true (by omega)).symm), rfl⟩
                        · replace hb18 := of_decide_eq_false hb18
                          refine T.no (Wn.no rfl rfl rfl rfl) rfl rfl ?_
                          refine T.no (Wn.no rfl rfl rfl rfl) rfl rfl ?_
                          refine T.no (Wn.no rfl rfl rfl rfl) rfl rfl ?_
                          refine T.no (Wn.no rfl rfl rfl rfl) rfl rfl ?_
                          refine T.q (q_pickF rfl rfl rfl) (Wt.plain rfl) rfl rfl ?_
                          refine T.q (q_assign rfl rfl) (Wt.plain rfl) rfl rfl ?_
                          refine T.nil ?_
                          refine Ex.next ?_
                          refine W.less (L' := [(2, _)]) [false] ⟨rfl, trivial⟩ ?_
                          change (_ : List Blk → Prop) []
                          refine W.ret ?_
                          refine Ex.in_ret ?_
                          refine Ex.then_ret ?_
                          refine Ex.out1 [] rfl rfl ?_
                          exact ⟨by unfold mayP recP othP; first | (exact congrArg Value.bool (decide_eq_false (by omega)).symm) | (exact congrArg Value.bool (decide_eq_decide.2 (by omega))) | (exact congrArg Value.bool (decide_eq_true (by omega)).symm), rfl⟩
                      · replace hb17 := of_decide_eq_false hb17
                        refine T.no (Wn.no rfl rfl rfl rfl) rfl rfl ?_
                        refine T.no (Wn.no rfl rfl rfl rfl) rfl rfl ?_
                        refine T.no (Wn.no rfl rfl rfl rfl) rfl rfl ?_
                        refine T.no (Wn.no rfl rfl rfl rfl) rfl rfl ?_
                        refine T.q (q_pickF rfl rfl rfl) (Wt.plain rfl) rfl rfl ?_
                        refine T.q (q_move rfl rfl) (Wt.plain rfl) rfl rfl ?_
                        refine T.no (Wn.no rfl rfl rfl rfl) rfl rfl ?_
                        refine T.no (Wn.no rfl rfl rfl rfl) rfl rfl ?_
                        refine T.no (Wn.no rfl rfl rfl rfl) rfl rfl ?_
                        refine T.no (Wn.no rfl rfl rfl rfl) rfl rfl ?_
                        refine T.q (q_pickF rfl rfl rfl) (Wt.plain rfl) rfl rfl ?_
                        refine T.q (q_assign rfl rfl) (Wt.plain rfl) rfl rfl ?_
                        refine T.nil ?_
                        refine Ex.next ?_
                        refine W.less (L' := [(2, _)]) [false] ⟨rfl, trivial⟩ ?_
                        change (_ : List Blk → Prop) []
                        refine W.ret ?_
                        refine Ex.in_ret ?_
                        refine Ex.then_ret ?_
                        refine Ex.out1 [] rfl rfl ?_
                        exact ⟨by unfold mayP recP othP; first | (exact congrArg Value.bool (decide_eq_false (by omega)).symm) | (exact congrArg Value.bool (decide_eq_decide.2 (by omega))) | (exact congrArg Value.bool (decide_eq_true (by omega)).symm), rfl⟩
                    · replace hb16 := of_decide_eq_false hb16
                      refine T.no (Wn.no rfl rfl rfl rfl) rfl rfl ?_
                      refine T.no (Wn.no rfl rfl rfl rfl) rfl rfl ?_
                      refine T.no (Wn.no rfl rfl rfl rfl) rfl rfl ?_
                      refine T.q (q_pickF rfl rfl rfl) (Wt.plain rfl) rfl rfl ?_
                      refine T.q (q_move rfl rfl) (Wt.plain rfl) rfl rfl ?_
                      refine T.no (Wn.no rfl rfl rfl rfl) rfl rfl ?_
                      refine T.no (Wn.no rfl rfl rfl rfl) rfl rfl ?_
                      refine T.no (Wn.no rfl rfl rfl rfl) rfl rfl ?_
                      refine T.no (Wn.no rfl rfl rfl rfl) rfl rfl ?_
                      refine T.q (q_pickF rfl rfl rfl) (Wt.plain rfl) rfl rfl ?_
                      refine T.q (q_move rfl rfl) (Wt.plain rfl) rfl rfl ?_
                      refine T.no (Wn.no rfl rfl rfl rfl) rfl rfl ?_
                      refine T.no (Wn.no rfl rfl rfl rfl) rfl rfl ?_
                      refine T.no (Wn.no rfl rfl rfl rfl) rfl rfl ?_
                      refine T.no (Wn.no rfl rfl rfl rfl) rfl rfl ?_
                      refine T.q (q_pickF rfl rfl rfl) (Wt.plain rfl) rfl rfl ?_
                      refine T.q (q_assign rfl rfl) (Wt.plain rfl) rfl rfl ?_
                      refine T.nil ?_
                      refine Ex.next ?_
                      refine W.less (L' := [(2, _)]) [false] ⟨rfl, trivial⟩ ?_
                      change (_ : List Blk → Prop) []
                      refine W.ret ?_
                      refine Ex.in_ret ?_
                      refine Ex.then_ret ?_
                      refine Ex.out1 [] rfl rfl ?_
                      exact ⟨by unfold mayP recP othP; first | (exact congrArg Value.bool (decide_eq_false (by omega)).symm) | (exact congrArg Value.bool (decide_eq_decide.2 (by omega))) | (exact congrArg Value.bool (decide_eq_true (by omega)).symm), rfl⟩
                  · replace hb15 := of_decide_eq_false hb15
                    refine T.no (Wn.no rfl rfl rfl rfl) rfl rfl ?_
                    refine T.no (Wn.no rfl rfl rfl rfl) rfl rfl ?_
                    refine T.no (Wn.no rfl rfl rfl rfl) rfl rfl ?_
                    refine T.q (q_pickF rfl rfl rfl) (Wt.plain rfl) rfl rfl ?_
                    refine T.q (q_move rfl rfl) (Wt.plain rfl) rfl rfl ?_
                    refine T.no (Wn.no rfl rfl rfl rfl) rfl rfl ?_
                    refine T.no (Wn.no rfl rfl rfl rfl) rfl rfl ?_
                    refine T.no (Wn.no rfl rfl rfl rfl) rfl rfl ?_
                    refine T.q (q_pickF rfl rfl rfl) (Wt.plain rfl) rfl rfl ?_
                    refine T.q (q_move rfl rfl) (Wt.plain rfl) rfl rfl ?_
                    refine T.no (Wn.no rfl rfl rfl rfl) rfl rfl ?_
                    refine T.no (Wn.no rfl rfl rfl rfl) rfl rfl ?_
                    refine T.no (Wn.no rfl rfl rfl rfl) rfl rfl ?_
                    refine T.no (Wn.no rfl rfl rfl rfl) rfl rfl ?_
                    refine T.q (q_pickF rfl rfl rfl) (Wt.plain rfl) rfl rfl ?_
                    refine T.q (q_move rfl rfl) (Wt.plain rfl) rfl rfl ?_
                    refine T.no (Wn.no rfl rfl rfl rfl) rfl rfl ?_
                    refine T.no (Wn.no rfl rfl rfl rfl) rfl rfl ?_
                    refine T.no (Wn.no rfl rfl rfl rfl) rfl rfl ?_
                    refine T.no (Wn.no rfl rfl rfl rfl) rfl rfl ?_
                    refine T.q (q_pickF rfl rfl rfl) (Wt.plain rfl) rfl rfl ?_
                    refine T.q (q_assign rfl rfl) (Wt.plain rfl) rfl rfl ?_
                    refine T.nil ?_
                    refine Ex.next ?_
                    refine W.less (L' := [(2, _)]) [false] ⟨rfl, trivial⟩ ?_
                    change (_ : List Blk → Prop) []
                    refine W.ret ?_
                    refine Ex.in_ret ?_
                    refine Ex.then_ret ?_
                    refine Ex.out1 [] rfl rfl ?_
                    exact ⟨by unfold mayP recP othP; first | (exact congrArg Value.bool (decide_eq_false (by omega)).symm) | (exact congrArg Value.bool (decide_eq_decide.2 (by omega))) | (exact congrArg Value.bool (decide_eq_true (by omega)).symm), rfl⟩
                · replace hb14 := of_decide_eq_false hb14
                  refine T.no (Wn.no rfl rfl rfl rfl) rfl rfl ?_
                  refine T.no (Wn.no rfl rfl rfl rfl) rfl rfl ?_
                  refine T.no (Wn.no rfl rfl rfl rfl) rfl rfl ?_
                  refine T.q (q_pickF rfl rfl rfl) (Wt.plain rfl) rfl rfl ?_
                  refine T.q (q_move rfl rfl) (Wt.plain rfl) rfl rfl ?_
                  refine T.no (Wn.no rfl rfl rfl rfl) rfl rfl ?_
                  refine T.no (Wn.no rfl rfl rfl rfl) rfl rfl ?_
                  refine T.no (Wn.no rfl rfl rfl rfl) rfl rfl ?_
                  refine T.q (q_pickF rfl rfl rfl) (Wt.plain rfl) rfl rfl ?_
                  refine T.q (q_move rfl rfl) (Wt.plain rfl) rfl rfl ?_
                  refine T.no (Wn.no rfl rfl rfl rfl) rfl rfl ?_
                  refine T.no (Wn.no rfl rfl rfl rfl) rfl rfl ?_
                  refine T.no (Wn.no rfl rfl rfl rfl) rfl rfl ?_
                  refine T.q (q_pickF rfl rfl rfl) (Wt.plain rfl) rfl rfl ?_
                  refine T.q (q_move rfl rfl) (Wt.plain rfl) rfl rfl ?_
                  refine T.no (Wn.no rfl rfl rfl rfl) rfl rfl ?_
                  refine T.no (Wn.no rfl rfl rfl rfl) rfl rfl ?_
                  refine T.no (Wn.no rfl rfl rfl rfl) rfl rfl ?_
                  refine T.no (Wn.no rfl rfl rfl rfl) rfl rfl ?_
                  refine T.q (q_pickF rfl rfl rfl) (Wt.plain rfl) rfl rfl ?_
                  refine T.q (q_move rfl rfl) (Wt.plain rfl) rfl rfl ?_
                  refine T.no (Wn.no rfl rfl rfl rfl) rfl rfl ?_
                  refine T.no (Wn.no rfl rfl rfl rfl) rfl rfl ?_
                  refine T.no (Wn.no rfl rfl rfl rfl) rfl rfl ?_
                  refine T.no (Wn.no rfl rfl rfl rfl) rfl rfl ?_
                  refine T.q (q_pickF rfl rfl rfl) (Wt.plain rfl) rfl rfl ?_
                  refine T.q (q_assign rfl rfl) (Wt.plain rfl) rfl rfl ?_
                  refine T.nil ?_
                  refine Ex.next ?_
                  refine W.less (L' := [(2, _)]) [false] ⟨rfl, trivial⟩ ?_
                  change (_ : List Blk → Prop) []
                  refine W.ret ?_
                  refine Ex.in_ret ?_
                  refine Ex.then_ret ?_
                  refine Ex.out1 [] rfl rfl ?_
                  exact ⟨by unfold mayP recP othP; first | (exact congrArg Value.bool (decide_eq_false (by omega)).symm) | (exact congrArg Value.bool (decide_eq_decide.2 (by omega))) | (exact congrArg Value.bool (decide_eq_true (by omega)).symm), rfl⟩
              · replace hb13 := of_decide_eq_false hb13
                refine T.no (Wn.no rfl rfl rfl rfl) rfl rfl ?_
                refine T.no (Wn.no rfl rfl rfl rfl) rfl rfl ?_
                refine T.no (Wn.no rfl rfl rfl rfl) rfl rfl ?_
                refine T.q (q_pickF rfl rfl rfl) (Wt.plain rfl) rfl rfl ?_
                refine T.q (q_move rfl rfl) (Wt.plain rfl) rfl rfl ?_
                refine T.no (Wn.no rfl rfl rfl rfl) rfl rfl ?_
                refine T.no (Wn.no rfl rfl rfl rfl) rfl rfl ?_
                refine T.no (Wn.no rfl rfl rfl rfl) rfl rfl ?_
                refine T.q (q_pickF rfl rfl rfl) (Wt.plain rfl) rfl rfl ?_
                refine T.q (q_move rfl rfl) (Wt.plain rfl) rfl rfl ?_
                refine T.no (Wn.no rfl rfl rfl rfl) rfl rfl ?_
                refine T.no (Wn.no rfl rfl rfl rfl) rfl rfl ?_
                refine T.no (Wn.no rfl rfl rfl rfl) rfl rfl ?_
                refine T.q (q_pickF rfl rfl rfl) (Wt.plain rfl) rfl rfl ?_
                refine T.q (q_move rfl rfl) (Wt.plain rfl) rfl rfl ?_
                refine T.no (Wn.no rfl rfl rfl rfl) rfl rfl ?_
                refine T.no (Wn.no rfl rfl rfl rfl) rfl rfl ?_
                refine T.no (Wn.no rfl rfl rfl rfl) rfl rfl ?_
                refine T.q (q_pickF rfl rfl rfl) (Wt.plain rfl) rfl rfl ?_
                refine T.q (q_move rfl rfl) (Wt.plain rfl) rfl rfl ?_
                refine T.no (Wn.no rfl rfl rfl rfl) rfl rfl ?_
                refine T.no (Wn.no rfl rfl rfl rfl) rfl rfl ?_
                refine T.no (Wn.no rfl rfl rfl rfl) rfl rfl ?_
                refine T.no (Wn.no rfl rfl rfl rfl) rfl rfl ?_
                refine T.q (q_pickF rfl rfl rfl) (Wt.plain rfl) rfl rfl ?_
                refine T.q (q_move rfl rfl) (Wt.plain rfl) rfl rfl ?_
                refine T.no (Wn.no rfl rfl rfl rfl) rfl rfl ?_
                refine T.no (Wn.no rfl rfl rfl rfl) rfl rfl ?_
                refine T.no (Wn.no rfl rfl rfl rfl) rfl rfl ?_
                refine T.no (Wn.no rfl rfl rfl rfl) rfl rfl ?_
                refine T.q (q_pickF rfl rfl rfl) (Wt.plain rfl) rfl rfl ?_
                refine T.q (q_assign rfl rfl) (Wt.plain rfl) rfl rfl ?_
                refine T.nil ?_
                refine Ex.next ?_
                refine W.less (L' := [(2, _)]) [false] ⟨rfl, trivial⟩ ?_
                change (_ : List Blk → Prop) []
                refine W.ret ?_
                refine Ex.in_ret ?_
                refine Ex.then_ret ?_
                refine Ex.out1 [] rfl rfl ?_
                exact ⟨by unfold mayP recP othP; first | (exact congrArg Value.bool (decide_eq_false (by omega)).symm) | (exact congrArg Value.bool (decide_eq_decide.2 (by omega))) | (exact congrArg Value.bool (decide_eq_true (by omega)).symm), rfl⟩
            · replace hb12 := of_decide_eq_false hb12
              refine T.no (Wn.no rfl rfl rfl rfl) rfl rfl ?_
              refine T.no (Wn.no rfl rfl rfl rfl) rfl rfl ?_
              refine T.no (Wn.no rfl rfl rfl rfl) rfl rfl ?_
              refine T.q (q_pickF rfl rfl rfl) (Wt.plain rfl) rfl rfl ?_
              refine T.q (q_move rfl rfl) (Wt.plain rfl) rfl rfl ?_
              refine T.no (Wn.no rfl rfl rfl rfl) rfl rfl ?_
              refine T.no (Wn.no rfl rfl rfl rfl) rfl rfl ?_
              refine T.no (Wn.no rfl rfl rfl rfl) rfl rfl ?_
              refine T.q (q_pickF rfl rfl rfl) (Wt.plain rfl) rfl rfl ?_
              refine T.q (q_move rfl rfl) (Wt.plain rfl) rfl rfl ?_
              refine T.no (Wn.no rfl rfl rfl rfl) rfl rfl ?_
              refine T.no (Wn.no rfl rfl rfl rfl) rfl rfl ?_
              refine T.no (Wn.no rfl rfl rfl rfl) rfl rfl ?_
              refine T.q (q_pickF rfl rfl rfl) (Wt.plain rfl) rfl rfl ?_
              refine T.q (q_move rfl rfl) (Wt.plain rfl) rfl rfl ?_
              refine T.no (Wn.no rfl rfl rfl rfl) rfl rfl ?_
              refine T.no (Wn.no rfl rfl rfl rfl) rfl rfl ?_
              refine T.no (Wn.no rfl rfl rfl rfl) rfl rfl ?_
              refine T.q (q_pickF rfl rfl rfl) (Wt.plain rfl) rfl rfl ?_
              refine T.q (q_move rfl rfl) (Wt.plain rfl) rfl rfl ?_
              refine T.no (Wn.no rfl rfl rfl rfl) rfl rfl ?_
              refine T.no (Wn.no rfl rfl rfl rfl) rfl rfl ?_
              refine T.no (Wn.no rfl rfl rfl rfl) rfl rfl ?_
              refine T.q (q_pickF rfl rfl rfl) (Wt.plain rfl) rfl rfl ?_
              refine T.q (q_move rfl rfl) (Wt.plain rfl) rfl rfl ?_
              refine T.no (Wn.no rfl rfl rfl rfl) rfl rfl ?_
              refine T.no (Wn.no rfl rfl rfl rfl) rfl rfl ?_
              refine T.no (Wn.no rfl rfl rfl rfl) rfl rfl ?_
              refine T.no (Wn.no rfl rfl rfl rfl) rfl rfl ?_
              refine T.q (q_pickF rfl rfl rfl) (Wt.plain rfl) rfl rfl ?_
              refine T.q (q_move rfl rfl) (Wt.plain rfl) rfl rfl ?_
              refine T.no (Wn.no rfl rfl rfl rfl) rfl rfl ?_
              refine T.no (Wn.no rfl rfl rfl rfl) rfl rfl ?_
              refine T.no (Wn.no rfl rfl rfl rfl) rfl rfl ?_
              refine T.no (Wn.no rfl rfl rfl rfl) rfl rfl ?_
              refine T.q (q_pickF rfl rfl rfl) (Wt.plain rfl) rfl rfl ?_
              refine T.q (q_assign rfl rfl) (Wt.plain rfl) rfl rfl ?_
              refine T.nil ?_
              refine Ex.next ?_
              refine W.less (L' := [(2, _)]) [false] ⟨rfl, trivial⟩ ?_
              change (_ : List Blk → Prop) []
              refine W.ret ?_
              refine Ex.in_ret ?_
              refine Ex.then_ret ?_
              refine Ex.out1 [] rfl rfl ?_
              exact ⟨by unfold mayP recP othP; first | (exact congrArg Value.bool (decide_eq_false (by omega)).symm) | (exact congrArg Value.bool (decide_eq_decide.2 (by omega))) | (exact congrArg Value.bool (decide_eq_true (by omega)).symm), rfl⟩
          · replace hb11 := of_decide_eq_false hb11
            refine T.no (Wn.no rfl rfl rfl rfl) rfl rfl ?_
            refine T.no (Wn.no rfl rfl rfl rfl) rfl rfl ?_
            refine T.no (Wn.no rfl rfl rfl rfl) rfl rfl ?_
            refine T.q (q_pickF rfl rfl rfl) (Wt.plain rfl) rfl rfl ?_
            refine T.q (q_move rfl rfl) (Wt.plain rfl) rfl rfl ?_
            refine T.no (Wn.no rfl rfl rfl rfl) rfl rfl ?_
            refine T.no (Wn.no rfl rfl rfl rfl) rfl rfl ?_
            refine T.no (Wn.no rfl rfl rfl rfl) rfl rfl ?_
            refine T.q (q_pickF rfl rfl rfl) (Wt.plain rfl) rfl rfl ?_
            refine T.q (q_move rfl rfl) (Wt.plain rfl) rfl rfl ?_
            refine T.no (Wn.no rfl rfl rfl rfl) rfl rfl ?_
            refine T.no (Wn.no rfl rfl rfl rfl) rfl rfl ?_
            refine T.no (Wn.no rfl rfl rfl rfl) rfl rfl ?_
            refine T.q (q_pickF rfl rfl rfl) (Wt.plain rfl) rfl rfl ?_
            refine T.q (q_move rfl rfl) (Wt.plain rfl) rfl rfl ?_
            refine T.no (Wn.no rfl rfl rfl rfl) rfl rfl ?_
            refine T.no (Wn.no rfl rfl rfl rfl) rfl rfl ?_
            refine T.no (Wn.no rfl rfl rfl rfl) rfl rfl ?_
            refine T.q (q_pickF rfl rfl rfl) (Wt.plain rfl) rfl rfl ?_
            refine T.q (q_move rfl rfl) (Wt.plain rfl) rfl rfl ?_
            refine T.no (Wn.no rfl rfl rfl rfl) rfl rfl ?_
            refine T.no (Wn.no rfl rfl rfl rfl) rfl rfl ?_
            refine T.no (Wn.no rfl rfl rfl rfl) rfl rfl ?_
            refine T.q (q_pickF rfl rfl rfl) (Wt.plain rfl) rfl rfl ?_
            refine T.q (q_move rfl rfl) (Wt.plain rfl) rfl rfl ?_
            refine T.no (Wn.no rfl rfl rfl rfl) rfl rfl ?_
            refine T.no (Wn.no rfl rfl rfl rfl) rfl rfl ?_
            refine T.no (Wn.no rfl rfl rfl rfl) rfl rfl ?_
            refine T.q (q_pickF rfl rfl rfl) (Wt.plain rfl) rfl rfl ?_
            refine T.q (q_move rfl rfl) (Wt.plain rfl) rfl rfl ?_
            refine T.no (Wn.no rfl rfl rfl rfl) rfl rfl ?_
            refine T.no (Wn.no rfl rfl rfl rfl) rfl rfl ?_
            refine T.no (Wn.no rfl rfl rfl rfl) rfl rfl ?_
            refine T.no (Wn.no rfl rfl rfl rfl) rfl rfl ?_
            refine T.q (q_pickF rfl rfl rfl) (Wt.plain rfl) rfl rfl ?_
            refine T.q (q_move rfl rfl) (Wt.plain rfl) rfl rfl ?_
            refine T.no (Wn.no rfl rfl rfl rfl) rfl rfl ?_
            refine T.no (Wn.no rfl rfl rfl rfl) rfl rfl ?_
            refine T.no (Wn.no rfl rfl rfl rfl) rfl rfl ?_
            refine T.no (Wn.no rfl rfl rfl rfl) rfl rfl ?_
            refine T.q (q_pickF rfl rfl rfl) (Wt.plain rfl) rfl rfl ?_
            refine T.q (q_assign rfl rfl) (Wt.plain rfl) rfl rfl ?_
            refine T.nil ?_
            refine Ex.next ?_
            refine W.less (L' := [(2, _)]) [false] ⟨rfl, trivial⟩ ?_
            change (_ : List Blk → Prop) []
            refine W.ret ?_
            refine Ex.in_ret ?_
            refine Ex.then_ret ?_
            refine Ex.out1 [] rfl rfl ?_
            exact ⟨by unfold mayP recP othP; first | (exact congrArg Value.bool (decide_eq_false (by omega)).symm) | (exact congrArg Value.bool (decide_eq_decide.2 (by omega))) | (exact congrArg Value.bool (decide_eq_true (by omega)).symm), rfl⟩
        · replace hb10 := of_decide_eq_false hb10
          refine T.no (Wn.no rfl rfl rfl rfl) rfl rfl ?_
          refine T.no (Wn.no rfl rfl rfl rfl) rfl rfl ?_
          refine T.no (Wn.no rfl rfl rfl rfl) rfl rfl ?_
          refine T.q (q_pickF rfl rfl rfl) (Wt.plain rfl) rfl rfl ?_
          refine T.q (q_move rfl rfl) (Wt.plain rfl) rfl rfl ?_
          refine T.no (Wn.no rfl rfl rfl rfl) rfl rfl ?_
          refine T.no (Wn.no rfl rfl rfl rfl) rfl rfl ?_
          refine T.no (Wn.no rfl rfl rfl rfl) rfl rfl ?_
          refine T.q (q_pickF rfl rfl rfl) (Wt.plain rfl) rfl rfl ?_
          refine T.q (q_move rfl rfl) (Wt.plain rfl) rfl rfl ?_
          refine T.no (Wn.no rfl rfl rfl rfl) rfl rfl ?_
          refine T.no (Wn.no rfl rfl rfl rfl) rfl rfl ?_
          refine T.no (Wn.no rfl rfl rfl rfl) rfl rfl ?_
          refine T.q (q_pickF rfl rfl rfl) (Wt.plain rfl) rfl rfl ?_
          refine T.q (q_move rfl rfl) (Wt.plain rfl) rfl rfl ?_
          refine T.no (Wn.no rfl rfl rfl rfl) rfl rfl ?_
          refine T.no (Wn.no rfl rfl rfl rfl) rfl rfl ?_
          refine T.no (Wn.no rfl rfl rfl rfl) rfl rfl ?_
          refine T.q (q_pickF rfl rfl rfl) (Wt.plain rfl) rfl rfl ?_
          refine T.q (q_move rfl rfl) (Wt.plain rfl) rfl rfl ?_
          refine T.no (Wn.no rfl rfl rfl rfl) rfl rfl ?_
          refine T.no (Wn.no rfl rfl rfl rfl) rfl rfl ?_
          refine T.no (Wn.no rfl rfl rfl rfl) rfl rfl ?_
          refine T.q (q_pickF rfl rfl rfl) (Wt.plain rfl) rfl rfl ?_
          refine T.q (q_move rfl rfl) (Wt.plain rfl) rfl rfl ?_
          refine T.no (Wn.no rfl rfl rfl rfl) rfl rfl ?_
          refine T.no (Wn.no rfl rfl rfl rfl) rfl rfl ?_
          refine T.no (Wn.no rfl rfl rfl rfl) rfl rfl ?_
          refine T.q (q_pickF rfl rfl rfl) (Wt.plain rfl) rfl rfl ?_
          refine T.q (q_move rfl rfl) (Wt.plain rfl) rfl rfl ?_
          refine T.no (Wn.no rfl rfl rfl rfl) rfl rfl ?_
          refine T.no (Wn.no rfl rfl rfl rfl) rfl rfl ?_
          refine T.no (Wn.no rfl rfl rfl rfl) rfl rfl ?_
          refine T.q (q_pickF rfl rfl rfl) (Wt.plain rfl) rfl rfl ?_
          refine T.q (q_move rfl rfl) (Wt.plain rfl) rfl rfl ?_
          refine T.no (Wn.no rfl rfl rfl rfl) rfl rfl ?_
          refine T.no (Wn.no rfl rfl rfl rfl) rfl rfl ?_
          refine T.no (Wn.no rfl rfl rfl rfl) rfl rfl ?_
          refine T.no (Wn.no rfl rfl rfl rfl) rfl rfl ?_
          refine T.q (q_pickF rfl rfl rfl) (Wt.plain rfl) rfl rfl ?_
          refine T.q (q_move rfl rfl) (Wt.plain rfl) rfl rfl ?_
          refine T.no (Wn.no rfl rfl rfl rfl) rfl rfl ?_
          refine T.no (Wn.no rfl rfl rfl rfl) rfl rfl ?_
          refine T.no (Wn.no rfl rfl rfl rfl) rfl rfl ?_
          refine T.no (Wn.no rfl rfl rfl rfl) rfl rfl ?_
          refine T.q (q_pickF rfl rfl rfl) (Wt.plain rfl) rfl rfl ?_
          refine T.q (q_assign rfl rfl) (Wt.plain rfl) rfl rfl ?_
          refine T.nil ?_
          refine Ex.next ?_
          refine W.less (L' := [(2, _)]) [false] ⟨rfl, trivial⟩ ?_
          change (_ : List Blk → Prop) []
          refine W.ret ?_
          refine Ex.in_ret ?_
          refine Ex.then_ret ?_
          refine Ex.out1 [] rfl rfl ?_
          exact ⟨by unfold mayP recP othP; first | (exact congrArg Value.bool (decide_eq_false (by omega)).symm) | (exact congrArg Value.bool (decide_eq_decide.2 (by omega))) | (exact congrArg Value.bool (decide_eq_true (by omega)).symm), rfl⟩
      · replace hb9 := of_decide_eq_false hb9
        refine W.skip ?_
        refine Ex.in_normal ?_
        refine Ex.next ?_
        refine W.less (L' := []) [false] trivial ?_
        change (_ : List Blk → Prop) []
        refine W.seq ?_
        refine W.region ?_
        refine T.q (q_assign rfl rfl) (Wt.plain rfl) rfl rfl ?_
        refine T.nil ?_
        refine Ex.next ?_
        refine W.slots (L' := [(2, _)]) ⟨rfl, trivial⟩ ?_
        refine W.ret ?_
        refine Ex.out1 [] rfl rfl ?_
        exact ⟨by unfold mayP recP othP; first | (exact congrArg Value.bool (decide_eq_false (by omega)).symm) | (exact congrArg Value.bool (decide_eq_decide.2 (by omega))) | (exact congrArg Value.bool (decide_eq_true (by omega)).symm), rfl⟩
  · replace hb2 := of_decide_eq_false hb2
    refine W.region ?_
    refine T.q (q_eql rfl rfl rfl) (Wt.plain rfl) rfl rfl ?_
    refine T.q (q_assign rfl rfl) (Wt.plain rfl) rfl rfl ?_
    refine T.nil ?_
    refine Ex.next ?_
    refine W.slots (L' := [(1, _), (4, _), (5, _)]) ⟨rfl, rfl, rfl, trivial⟩ ?_
    refine W.cond _ rfl (fun hb19 => ?_) (fun hb19 => ?_)
    · replace hb19 := of_decide_eq_true hb19
      refine W.seq ?_
      refine W.region ?_
      refine T.q (q_fld fl40_5 rfl rfl) (Wt.plain rfl) rfl rfl ?_
      refine T.q (q_load1 ss22 0 rfl rfl rfl rfl) (Wt.plain rfl) rfl rfl ?_
      refine T.q (q_len sc22 rfl rfl) (Wt.plain rfl) rfl rfl ?_
      refine T.q (q_geq rfl rfl rfl) (Wt.plain rfl) rfl rfl ?_
      refine T.q (q_move rfl rfl) (Wt.plain rfl) rfl rfl ?_
      refine T.both (t := 12) _ rfl (fun hb20 => ?_) (fun hb20 => ?_)
      · replace hb20 := of_decide_eq_true hb20
        refine T.q (q_fld fl40_5 rfl rfl) (Wt.yes rfl rfl rfl) rfl rfl ?_
        refine T.q (q_load1 ss22 0 rfl rfl rfl rfl) (Wt.yes rfl rfl rfl) rfl rfl ?_
        refine T.q (q_len sc22 rfl rfl) (Wt.yes rfl rfl rfl) rfl rfl ?_
        refine T.q (q_leq rfl rfl rfl) (Wt.yes rfl rfl rfl) rfl rfl ?_
        refine T.q (q_pickT rfl rfl rfl) (Wt.plain rfl) rfl rfl ?_
        refine T.q (q_move rfl rfl) (Wt.plain rfl) rfl rfl ?_
        refine T.both (t := 18) _ rfl (fun hb21 => ?_) (fun hb21 => ?_)
        · replace hb21 := of_decide_eq_true hb21
          refine T.q (q_fld fl40_1 rfl rfl) (Wt.yes rfl rfl rfl) rfl rfl ?_
          refine T.q (q_load1 ss3 0 rfl rfl rfl rfl) (Wt.yes rfl rfl rfl) rfl rfl ?_
          refine T.q (q_eql rfl rfl rfl) (Wt.yes rfl rfl rfl) rfl rfl ?_
          refine T.q (q_pickT rfl rfl rfl) (Wt.plain rfl) rfl rfl ?_
          refine T.q (q_move rfl rfl) (Wt.plain rfl) rfl rfl ?_
          refine T.both (t := 23) _ rfl (fun hb22 => ?_) (fun hb22 => ?_)
          · replace hb22 := of_decide_eq_true hb22
            refine T.q (q_fld fl40_2 rfl rfl) (Wt.yes rfl rfl rfl) rfl rfl ?_
            refine T.q (q_load1 ss3 0 rfl rfl rfl rfl) (Wt.yes rfl rfl rfl) rfl rfl ?_
            refine T.q (q_eql rfl rfl rfl) (Wt.yes rfl rfl rfl) rfl rfl ?_
            refine T.q (q_pickT rfl rfl rfl) (Wt.plain rfl) rfl rfl ?_
            refine T.q (q_move rfl rfl) (Wt.plain rfl) rfl rfl ?_
            refine T.both (t := 28) _ rfl (fun hb23 => ?_) (fun hb23 => ?_)
            · replace hb23 := of_decide_eq_true hb23
              refine T.q (q_fld fl40_3 rfl rfl) (Wt.yes rfl rfl rfl) rfl rfl ?_
              refine T.q (q_load1 ss3 0 rfl rfl rfl rfl) (Wt.yes rfl rfl rfl) rfl rfl ?_
              refine T.q (q_eql rfl rfl rfl) (Wt.yes rfl rfl rfl) rfl rfl ?_
              refine T.q (q_pickT rfl rfl rfl) (Wt.plain rfl) rfl rfl ?_
              refine T.q (q_move rfl rfl) (Wt.plain rfl) rfl rfl ?_
              refine T.both (t := 33) _ rfl (fun hb24 => ?_) (fun hb24 => ?_)
              · replace hb24 := of_decide_eq_true hb24
                refine T.q (q_fld fl40_4 rfl rfl) (Wt.yes rfl rfl rfl) rfl rfl ?_
                refine T.q (q_load1 ss3 0 rfl rfl rfl rfl) (Wt.yes rfl rfl rfl) rfl rfl ?_
                refine T.q (q_eql rfl rfl rfl) (Wt.yes rfl rfl rfl) rfl rfl ?_
                refine T.q (q_pickT rfl rfl rfl) (Wt.plain rfl) rfl rfl ?_
                refine T.q (q_assign rfl rfl) (Wt.plain rfl) rfl rfl ?_
                refine T.nil ?_
                refine Ex.next ?_
                refine W.less (L' := [(2, _)]) [false] ⟨rfl, trivial⟩ ?_
                change (_ : List Blk → Prop) []
                refine W.ret ?_
                refine Ex.in_ret ?_
                refine Ex.then_ret ?_
                refine Ex.out1 [] rfl rfl ?_
                exact ⟨by unfold mayP recP othP; first | (exact congrArg Value.bool (decide_eq_false (by omega)).symm) | (exact congrArg Value.bool (decide_eq_decide.2 (by omega))) | (exact congrArg Value.bool (decide_eq_true (by omega)).symm), rfl⟩
              · replace hb24 := of_decide_eq_false hb24
                refine T.no (Wn.no rfl rfl rfl rfl) rfl rfl ?_
                refine T.no (Wn.no rfl rfl rfl rfl) rfl rfl ?_
                refine T.no (Wn.no rfl rfl rfl rfl) rfl rfl ?_
                refine T.q (q_pickF rfl rfl rfl) (Wt.plain rfl) rfl rfl ?_
                refine T.q (q_assign rfl rfl) (Wt.plain rfl) rfl rfl ?_
                refine T.nil ?_
                refine Ex.next ?_
                refine W.less (L' := [(2, _)]) [false] ⟨rfl, trivial⟩ ?_
                change (_ : List Blk → Prop) []
                refine W.ret ?_
                refine Ex.in_ret ?_
                refine Ex.then_ret ?_
                refine Ex.out1 [] rfl rfl ?_
                exact ⟨by unfold mayP recP othP; first | (exact congrArg Value.bool (decide_eq_false (by omega)).symm) | (exact congrArg Value.bool (decide_eq_decide.2 (by omega))) | (exact congrArg Value.bool (decide_eq_true (by omega)).symm), rfl⟩
            · replace hb23 := of_decide_eq_false hb23
              refine T.no (Wn.no rfl rfl rfl rfl) rfl rfl ?_
              refine T.no (Wn.no rfl rfl rfl rfl) rfl rfl ?_
              refine T.no (Wn.no rfl rfl rfl rfl) rfl rfl ?_
              refine T.q (q_pickF rfl rfl rfl) (Wt.plain rfl) rfl rfl ?_
              refine T.q (q_move rfl rfl) (Wt.plain rfl) rfl rfl ?_
              refine T.no (Wn.no rfl rfl rfl rfl) rfl rfl ?_
              refine T.no (Wn.no rfl rfl rfl rfl) rfl rfl ?_
              refine T.no (Wn.no rfl rfl rfl rfl) rfl rfl ?_
              refine T.q (q_pickF rfl rfl rfl) (Wt.plain rfl) rfl rfl ?_
              refine T.q (q_assign rfl rfl) (Wt.plain rfl) rfl rfl ?_
              refine T.nil ?_
              refine Ex.next ?_
              refine W.less (L' := [(2, _)]) [false] ⟨rfl, trivial⟩ ?_
              change (_ : List Blk → Prop) []
              refine W.ret ?_
              refine Ex.in_ret ?_
              refine Ex.then_ret ?_
              refine Ex.out1 [] rfl rfl ?_
              exact ⟨by unfold mayP recP othP; first | (exact congrArg Value.bool (decide_eq_false (by omega)).symm) | (exact congrArg Value.bool (decide_eq_decide.2 (by omega))) | (exact congrArg Value.bool (decide_eq_true (by omega)).symm), rfl⟩
          · replace hb22 := of_decide_eq_false hb22
            refine T.no (Wn.no rfl rfl rfl rfl) rfl rfl ?_
            refine T.no (Wn.no rfl rfl rfl rfl) rfl rfl ?_
            refine T.no (Wn.no rfl rfl rfl rfl) rfl rfl ?_
            refine T.q (q_pickF rfl rfl rfl) (Wt.plain rfl) rfl rfl ?_
            refine T.q (q_move rfl rfl) (Wt.plain rfl) rfl rfl ?_
            refine T.no (Wn.no rfl rfl rfl rfl) rfl rfl ?_
            refine T.no (Wn.no rfl rfl rfl rfl) rfl rfl ?_
            refine T.no (Wn.no rfl rfl rfl rfl) rfl rfl ?_
            refine T.q (q_pickF rfl rfl rfl) (Wt.plain rfl) rfl rfl ?_
            refine T.q (q_move rfl rfl) (Wt.plain rfl) rfl rfl ?_
            refine T.no (Wn.no rfl rfl rfl rfl) rfl rfl ?_
            refine T.no (Wn.no rfl rfl rfl rfl) rfl rfl ?_
            refine T.no (Wn.no rfl rfl rfl rfl) rfl rfl ?_
            refine T.q (q_pickF rfl rfl rfl) (Wt.plain rfl) rfl rfl ?_
            refine T.q (q_assign rfl rfl) (Wt.plain rfl) rfl rfl ?_
            refine T.nil ?_
            refine Ex.next ?_
            refine W.less (L' := [(2, _)]) [false] ⟨rfl, trivial⟩ ?_
            change (_ : List Blk → Prop) []
            refine W.ret ?_
            refine Ex.in_ret ?_
            refine Ex.then_ret ?_
            refine Ex.out1 [] rfl rfl ?_
            exact ⟨by unfold mayP recP othP; first | (exact congrArg Value.bool (decide_eq_false (by omega)).symm) | (exact congrArg Value.bool (decide_eq_decide.2 (by omega))) | (exact congrArg Value.bool (decide_eq_true (by omega)).symm), rfl⟩
        · replace hb21 := of_decide_eq_false hb21
          refine T.no (Wn.no rfl rfl rfl rfl) rfl rfl ?_
          refine T.no (Wn.no rfl rfl rfl rfl) rfl rfl ?_
          refine T.no (Wn.no rfl rfl rfl rfl) rfl rfl ?_
          refine T.q (q_pickF rfl rfl rfl) (Wt.plain rfl) rfl rfl ?_
          refine T.q (q_move rfl rfl) (Wt.plain rfl) rfl rfl ?_
          refine T.no (Wn.no rfl rfl rfl rfl) rfl rfl ?_
          refine T.no (Wn.no rfl rfl rfl rfl) rfl rfl ?_
          refine T.no (Wn.no rfl rfl rfl rfl) rfl rfl ?_
          refine T.q (q_pickF rfl rfl rfl) (Wt.plain rfl) rfl rfl ?_
          refine T.q (q_move rfl rfl) (Wt.plain rfl) rfl rfl ?_
          refine T.no (Wn.no rfl rfl rfl rfl) rfl rfl ?_
          refine T.no (Wn.no rfl rfl rfl rfl) rfl rfl ?_
          refine T.no (Wn.no rfl rfl rfl rfl) rfl rfl ?_
          refine T.q (q_pickF rfl rfl rfl) (Wt.plain rfl) rfl rfl ?_
          refine T.q (q_move rfl rfl) (Wt.plain rfl) rfl rfl ?_
          refine T.no (Wn.no rfl rfl rfl rfl) rfl rfl ?_
          refine T.no (Wn.no rfl rfl rfl rfl) rfl rfl ?_
          refine T.no (Wn.no rfl rfl rfl rfl) rfl rfl ?_
          refine T.q (q_pickF rfl rfl rfl) (Wt.plain rfl) rfl rfl ?_
          refine T.q (q_assign rfl rfl) (Wt.plain rfl) rfl rfl ?_
          refine T.nil ?_
          refine Ex.next ?_
          refine W.less (L' := [(2, _)]) [false] ⟨rfl, trivial⟩ ?_
          change (_ : List Blk → Prop) []
          refine W.ret ?_
          refine Ex.in_ret ?_
          refine Ex.then_ret ?_
          refine Ex.out1 [] rfl rfl ?_
          exact ⟨by unfold mayP recP othP; first | (exact congrArg Value.bool (decide_eq_false (by omega)).symm) | (exact congrArg Value.bool (decide_eq_decide.2 (by omega))) | (exact congrArg Value.bool (decide_eq_true (by omega)).symm), rfl⟩
      · replace hb20 := of_decide_eq_false hb20
        refine T.no (Wn.no rfl rfl rfl rfl) rfl rfl ?_
        refine T.no (Wn.no rfl rfl rfl rfl) rfl rfl ?_
        refine T.no (Wn.no rfl rfl rfl rfl) rfl rfl ?_
        refine T.no (Wn.no rfl rfl rfl rfl) rfl rfl ?_
        refine T.q (q_pickF rfl rfl rfl) (Wt.plain rfl) rfl rfl ?_
        refine T.q (q_move rfl rfl) (Wt.plain rfl) rfl rfl ?_
        refine T.no (Wn.no rfl rfl rfl rfl) rfl rfl ?_
        refine T.no (Wn.no rfl rfl rfl rfl) rfl rfl ?_
        refine T.no (Wn.no rfl rfl rfl rfl) rfl rfl ?_
        refine T.q (q_pickF rfl rfl rfl) (Wt.plain rfl) rfl rfl ?_
        refine T.q (q_move rfl rfl) (Wt.plain rfl) rfl rfl ?_
        refine T.no (Wn.no rfl rfl rfl rfl) rfl rfl ?_
        refine T.no (Wn.no rfl rfl rfl rfl) rfl rfl ?_
        refine T.no (Wn.no rfl rfl rfl rfl) rfl rfl ?_
        refine T.q (q_pickF rfl rfl rfl) (Wt.plain rfl) rfl rfl ?_
        refine T.q (q_move rfl rfl) (Wt.plain rfl) rfl rfl ?_
        refine T.no (Wn.no rfl rfl rfl rfl) rfl rfl ?_
        refine T.no (Wn.no rfl rfl rfl rfl) rfl rfl ?_
        refine T.no (Wn.no rfl rfl rfl rfl) rfl rfl ?_
        refine T.q (q_pickF rfl rfl rfl) (Wt.plain rfl) rfl rfl ?_
        refine T.q (q_move rfl rfl) (Wt.plain rfl) rfl rfl ?_
        refine T.no (Wn.no rfl rfl rfl rfl) rfl rfl ?_
        refine T.no (Wn.no rfl rfl rfl rfl) rfl rfl ?_
        refine T.no (Wn.no rfl rfl rfl rfl) rfl rfl ?_
        refine T.q (q_pickF rfl rfl rfl) (Wt.plain rfl) rfl rfl ?_
        refine T.q (q_assign rfl rfl) (Wt.plain rfl) rfl rfl ?_
        refine T.nil ?_
        refine Ex.next ?_
        refine W.less (L' := [(2, _)]) [false] ⟨rfl, trivial⟩ ?_
        change (_ : List Blk → Prop) []
        refine W.ret ?_
        refine Ex.in_ret ?_
        refine Ex.then_ret ?_
        refine Ex.out1 [] rfl rfl ?_
        exact ⟨by unfold mayP recP othP; first | (exact congrArg Value.bool (decide_eq_false (by omega)).symm) | (exact congrArg Value.bool (decide_eq_decide.2 (by omega))) | (exact congrArg Value.bool (decide_eq_true (by omega)).symm), rfl⟩
    · replace hb19 := of_decide_eq_false hb19
      refine W.seq ?_
      refine W.region ?_
      refine T.q (q_eql rfl rfl rfl) (Wt.plain rfl) rfl rfl ?_
      refine T.q (q_assign rfl rfl) (Wt.plain rfl) rfl rfl ?_
      refine T.nil ?_
      refine Ex.next ?_
      refine W.slots (L' := [(1, _), (38, _)]) ⟨rfl, rfl, trivial⟩ ?_
      refine W.cond _ rfl (fun hb25 => ?_) (fun hb25 => ?_)
      · replace hb25 := of_decide_eq_true hb25
        refine W.seq ?_
        refine W.region ?_
        refine T.q (q_fld fl40_1 rfl rfl) (Wt.plain rfl) rfl rfl ?_
        refine T.q (q_load1 ss3 0 rfl rfl rfl rfl) (Wt.plain rfl) rfl rfl ?_
        refine T.q (q_geq rfl rfl rfl) (Wt.plain rfl) rfl rfl ?_
        refine T.q (q_move rfl rfl) (Wt.plain rfl) rfl rfl ?_
        refine T.both (t := 43) _ rfl (fun hb26 => ?_) (fun hb26 => ?_)
        · replace hb26 := of_decide_eq_true hb26
          refine T.q (q_fld fl40_1 rfl rfl) (Wt.yes rfl rfl rfl) rfl rfl ?_
          refine T.q (q_load1 ss3 0 rfl rfl rfl rfl) (Wt.yes rfl rfl rfl) rfl rfl ?_
          refine T.q (q_leq rfl rfl rfl) (Wt.yes rfl rfl rfl) rfl rfl ?_
          refine T.q (q_pickT rfl rfl rfl) (Wt.plain rfl) rfl rfl ?_
          refine T.q (q_move rfl rfl) (Wt.plain rfl) rfl rfl ?_
          refine T.both (t := 48) _ rfl (fun hb27 => ?_) (fun hb27 => ?_)
          · replace hb27 := of_decide_eq_true hb27
            refine T.q (q_fld fl40_2 rfl rfl) (Wt.yes rfl rfl rfl) rfl rfl ?_
            refine T.q (q_load1 ss3 0 rfl rfl rfl rfl) (Wt.yes rfl rfl rfl) rfl rfl ?_
            refine T.q (q_geq rfl rfl rfl) (Wt.yes rfl rfl rfl) rfl rfl ?_
            refine T.q (q_pickT rfl rfl rfl) (Wt.plain rfl) rfl rfl ?_
            refine T.q (q_move rfl rfl) (Wt.plain rfl) rfl rfl ?_
            refine T.both (t := 53) _ rfl (fun hb28 => ?_) (fun hb28 => ?_)
            · replace hb28 := of_decide_eq_true hb28
              refine T.q (q_fld fl40_2 rfl rfl) (Wt.yes rfl rfl rfl) rfl rfl ?_
              refine T.q (q_load1 ss3 0 rfl rfl rfl rfl) (Wt.yes rfl rfl rfl) rfl rfl ?_
              refine T.q (q_leq rfl rfl rfl) (Wt.yes rfl rfl rfl) rfl rfl ?_
              refine T.q (q_pickT rfl rfl rfl) (Wt.plain rfl) rfl rfl ?_
              refine T.q (q_move rfl rfl) (Wt.plain rfl) rfl rfl ?_
              refine T.both (t := 58) _ rfl (fun hb29 => ?_) (fun hb29 => ?_)
              · replace hb29 := of_decide_eq_true hb29
                refine T.q (q_fld fl40_3 rfl rfl) (Wt.yes rfl rfl rfl) rfl rfl ?_
                refine T.q (q_load1 ss3 0 rfl rfl rfl rfl) (Wt.yes rfl rfl rfl) rfl rfl ?_
                refine T.q (q_geq rfl rfl rfl) (Wt.yes rfl rfl rfl) rfl rfl ?_
                refine T.q (q_pickT rfl rfl rfl) (Wt.plain rfl) rfl rfl ?_
                refine T.q (q_move rfl rfl) (Wt.plain rfl) rfl rfl ?_
                refine T.both (t := 63) _ rfl (fun hb30 => ?_) (fun hb30 => ?_)
                · replace hb30 := of_decide_eq_true hb30
                  refine T.q (q_fld fl40_3 rfl rfl) (Wt.yes rfl rfl rfl) rfl rfl ?_
                  refine T.q (q_load1 ss3 0 rfl rfl rfl rfl) (Wt.yes rfl rfl rfl) rfl rfl ?_
                  refine T.q (q_leq rfl rfl rfl) (Wt.yes rfl rfl rfl) rfl rfl ?_
                  refine T.q (q_pickT rfl rfl rfl) (Wt.plain rfl) rfl rfl ?_
                  refine T.q (q_move rfl rfl) (Wt.plain rfl) rfl rfl ?_
                  refine T.both (t := 68) _ rfl (fun hb31 => ?_) (fun hb31 => ?_)
                  · replace hb31 := of_decide_eq_true hb31
                    refine T.q (q_fld fl40_4 rfl rfl) (Wt.yes rfl rfl rfl) rfl rfl ?_
                    refine T.q (q_load1 ss3 0 rfl rfl rfl rfl) (Wt.yes rfl rfl rfl) rfl rfl ?_
                    refine T.q (q_geq rfl rfl rfl) (Wt.yes rfl rfl rfl) rfl rfl ?_
                    refine T.q (q_pickT rfl rfl rfl) (Wt.plain rfl) rfl rfl ?_
                    refine T.q (q_move rfl rfl) (Wt.plain rfl) rfl rfl ?_
                    refine T.both (t := 73) _ rfl (fun hb32 => ?_) (fun hb32 => ?_)
                    · replace hb32 := of_decide_eq_true hb32
                      refine T.q (q_fld fl40_4 rfl rfl) (Wt.yes rfl rfl rfl) rfl rfl ?_
                      refine T.q (q_load1 ss3 0 rfl rfl rfl rfl) (Wt.yes rfl rfl rfl) rfl rfl ?_
                      refine T.q (q_leq rfl rfl rfl) (Wt.yes rfl rfl rfl) rfl rfl ?_
                      refine T.q (q_pickT rfl rfl rfl) (Wt.plain rfl) rfl rfl ?_
                      refine T.q (q_move rfl rfl) (Wt.plain rfl) rfl rfl ?_
                      refine T.both (t := 78) _ rfl (fun hb33 => ?_) (fun hb33 => ?_)
                      · replace hb33 := of_decide_eq_true hb33
                        refine T.q (q_fld fl40_5 rfl rfl) (Wt.yes rfl rfl rfl) rfl rfl ?_
                        refine T.q (q_load1 ss22 0 rfl rfl rfl rfl) (Wt.yes rfl rfl rfl) rfl rfl ?_
                        refine T.q (q_len sc22 rfl rfl) (Wt.yes rfl rfl rfl) rfl rfl ?_
                        refine T.q (q_geq rfl rfl rfl) (Wt.yes rfl rfl rfl) rfl rfl ?_
                        refine T.q (q_pickT rfl rfl rfl) (Wt.plain rfl) rfl rfl ?_
                        refine T.q (q_move rfl rfl) (Wt.plain rfl) rfl rfl ?_
                        refine T.both (t := 84) _ rfl (fun hb34 => ?_) (fun hb34 => ?_)
                        · replace hb34 := of_decide_eq_true hb34
                          refine T.q (q_fld fl40_5 rfl rfl) (Wt.yes rfl rfl rfl) rfl rfl ?_
                          refine T.q (q_load1 ss22 0 rfl rfl rfl rfl) (Wt.yes rfl rfl rfl) rfl rfl ?_
                          refine T.q (q_len sc22 rfl rfl) (Wt.yes rfl rfl rfl) rfl rfl ?_
                          refine T.q (q_leq rfl rfl rfl) (Wt.yes rfl rfl rfl) rfl rfl ?_
                          refine T.q (q_pickT rfl rfl rfl) (Wt.plain rfl) rfl rfl ?_
                          refine T.q (q_assign rfl rfl) (Wt.plain rfl) rfl rfl ?_
                          refine T.nil ?_
                          refine Ex.next ?_
                          refine W.less (L' := [(2, _)]) [false] ⟨rfl, trivial⟩ ?_
                          change (_ : List Blk → Prop) []
                          refine W.ret ?_
                          refine Ex.in_ret ?_
                          refine Ex.then_ret ?_
                          refine Ex.out1 [] rfl rfl ?_
                          exact ⟨by unfold mayP recP othP; first | (exact congrArg Value.bool (decide_eq_false (by omega)).symm) | (exact congrArg Value.bool (decide_eq_decide.2 (by omega))) | (exact congrArg Value.bool (decide_eq_true (by omega)).symm), rfl⟩
                        · replace hb34 := of_decide_eq_false hb34
                          refine T.no (Wn.no rfl rfl rfl rfl) rfl rfl ?_
                          refine T.no (Wn.no rfl rfl rfl rfl) rfl rfl ?_
                          refine T.no (Wn.no rfl rfl rfl rfl) rfl rfl ?_
                          refine T.no (Wn.no rfl rfl rfl rfl) rfl rfl ?_
                          refine T.q (q_pickF rfl rfl rfl) (Wt.plain rfl) rfl rfl ?_
                          refine T.q (q_assign rfl rfl) (Wt.plain rfl) rfl rfl ?_
                          refine T.nil ?_
                          refine Ex.next ?_
                          refine W.less (L' := [(2, _)]) [false] ⟨rfl, trivial⟩ ?_
                          change (_ : List Blk → Prop) []
                          refine W.ret ?_
                          refine Ex.in_ret ?_
                          refine Ex.then_ret ?_
                          refine Ex.out1 [] rfl rfl ?_
                          exact ⟨by unfold mayP recP othP; first | (exact congrArg Value.bool (decide_eq_false (by omega)).symm) | (exact congrArg Value.bool (decide_eq_decide.2 (by omega))) | (exact congrArg Value.bool (decide_eq_true (by omega)).symm), rfl⟩
                      · replace hb33 := of_decide_eq_false hb33
                        refine T.no (Wn.no rfl rfl rfl rfl) rfl rfl ?_
                        refine T.no (Wn.no rfl rfl rfl rfl) rfl rfl ?_
                        refine T.no (Wn.no rfl rfl rfl rfl) rfl rfl ?_
                        refine T.no (Wn.no rfl rfl rfl rfl) rfl rfl ?_
                        refine T.q (q_pickF rfl rfl rfl) (Wt.plain rfl) rfl rfl ?_
                        refine T.q (q_move rfl rfl) (Wt.plain rfl) rfl rfl ?_
                        refine T.no (Wn.no rfl rfl rfl rfl) rfl rfl ?_
                        refine T.no (Wn.no rfl rfl rfl rfl) rfl rfl ?_
                        refine T.no (Wn.no rfl rfl rfl rfl) rfl rfl ?_
                        refine T.no (Wn.no rfl rfl rfl rfl) rfl rfl ?_
                        refine T.q (q_pickF rfl rfl rfl) (Wt.plain rfl) rfl rfl ?_
                        refine T.q (q_assign rfl rfl) (Wt.plain rfl) rfl rfl ?_
                        refine T.nil ?_
                        refine Ex.next ?_
                        refine W.less (L' := [(2, _)]) [false] ⟨rfl, trivial⟩ ?_
                        change (_ : List Blk → Prop) []
                        refine W.ret ?_
                        refine Ex.in_ret ?_
                        refine Ex.then_ret ?_
                        refine Ex.out1 [] rfl rfl ?_
                        exact ⟨by unfold mayP recP othP; first | (exact congrArg Value.bool (decide_eq_false (by omega)).symm) | (exact congrArg Value.bool (decide_eq_decide.2 (by omega))) | (exact congrArg Value.bool (decide_eq_true (by omega)).symm), rfl⟩
                    · replace hb32 := of_decide_eq_false hb32
                      refine T.no (Wn.no rfl rfl rfl rfl) rfl rfl ?_
                      refine T.no (Wn.no rfl rfl rfl rfl) rfl rfl ?_
                      refine T.no (Wn.no rfl rfl rfl rfl) rfl rfl ?_
                      refine T.q (q_pickF rfl rfl rfl) (Wt.plain rfl) rfl rfl ?_
                      refine T.q (q_move rfl rfl) (Wt.plain rfl) rfl rfl ?_
                      refine T.no (Wn.no rfl rfl rfl rfl) rfl rfl ?_
                      refine T.no (Wn.no rfl rfl rfl rfl) rfl rfl ?_
                      refine T.no (Wn.no rfl rfl rfl rfl) rfl rfl ?_
                      refine T.no (Wn.no rfl rfl rfl rfl) rfl rfl ?_
                      refine T.q (q_pickF rfl rfl rfl) (Wt.plain rfl) rfl rfl ?_
                      refine T.q (q_move rfl rfl) (Wt.plain rfl) rfl rfl ?_
                      refine T.no (Wn.no rfl rfl rfl rfl) rfl rfl ?_
                      refine T.no (Wn.no rfl rfl rfl rfl) rfl rfl ?_
                      refine T.no (Wn.no rfl rfl rfl rfl) rfl rfl ?_
                      refine T.no (Wn.no rfl rfl rfl rfl) rfl rfl ?_
                      refine T.q (q_pickF rfl rfl rfl) (Wt.plain rfl) rfl rfl ?_
                      refine T.q (q_assign rfl rfl) (Wt.plain rfl) rfl rfl ?_
                      refine T.nil ?_
                      refine Ex.next ?_
                      refine W.less (L' := [(2, _)]) [false] ⟨rfl, trivial⟩ ?_
                      change (_ : List Blk → Prop) []
                      refine W.ret ?_
                      refine Ex.in_ret ?_
                      refine Ex.then_ret ?_
                      refine Ex.out1 [] rfl rfl ?_
                      exact ⟨by unfold mayP recP othP; first | (exact congrArg Value.bool (decide_eq_false (by omega)).symm) | (exact congrArg Value.bool (decide_eq_decide.2 (by omega))) | (exact congrArg Value.bool (decide_eq_true (by omega)).symm), rfl⟩
                  · replace hb31 := of_decide_eq_false hb31
                    refine T.no (Wn.no rfl rfl rfl rfl) rfl rfl ?_
                    refine T.no (Wn.no rfl rfl rfl rfl) rfl rfl ?_
                    refine T.no (Wn.no rfl rfl rfl rfl) rfl rfl ?_
                    refine T.q (q_pickF rfl rfl rfl) (Wt.plain rfl) rfl rfl ?_
                    refine T.q (q_move rfl rfl) (Wt.plain rfl) rfl rfl ?_
                    refine T.no (Wn.no rfl rfl rfl rfl) rfl rfl ?_
                    refine T.no (Wn.no rfl rfl rfl rfl) rfl rfl ?_
                    refine T.no (Wn.no rfl rfl rfl rfl) rfl rfl ?_
                    refine T.q (q_pickF rfl rfl rfl) (Wt.plain rfl) rfl rfl ?_
                    refine T.q (q_move rfl rfl) (Wt.plain rfl) rfl rfl ?_
                    refine T.no (Wn.no rfl rfl rfl rfl) rfl rfl ?_
                    refine T.no (Wn.no rfl rfl rfl rfl) rfl rfl ?_
                    refine T.no (Wn.no rfl rfl rfl rfl) rfl rfl ?_
                    refine T.no (Wn.no rfl rfl rfl rfl) rfl rfl ?_
                    refine T.q (q_pickF rfl rfl rfl) (Wt.plain rfl) rfl rfl ?_
                    refine T.q (q_move rfl rfl) (Wt.plain rfl) rfl rfl ?_
                    refine T.no (Wn.no rfl rfl rfl rfl) rfl rfl ?_
                    refine T.no (Wn.no rfl rfl rfl rfl) rfl rfl ?_
                    refine T.no (Wn.no rfl rfl rfl rfl) rfl rfl ?_
                    refine T.no (Wn.no rfl rfl rfl rfl) rfl rfl ?_
                    refine T.q (q_pickF rfl rfl rfl) (Wt.plain rfl) rfl rfl ?_
                    refine T.q (q_assign rfl rfl) (Wt.plain rfl) rfl rfl ?_
                    refine T.nil ?_
                    refine Ex.next ?_
                    refine W.less (L' := [(2, _)]) [false] ⟨rfl, trivial⟩ ?_
                    change (_ : List Blk → Prop) []
                    refine W.ret ?_
                    refine Ex.in_ret ?_
                    refine Ex.then_ret ?_
                    refine Ex.out1 [] rfl rfl ?_
                    exact ⟨by unfold mayP recP othP; first | (exact congrArg Value.bool (decide_eq_false (by omega)).symm) | (exact congrArg Value.bool (decide_eq_decide.2 (by omega))) | (exact congrArg Value.bool (decide_eq_true (by omega)).symm), rfl⟩
                · replace hb30 := of_decide_eq_false hb30
                  refine T.no (Wn.no rfl rfl rfl rfl) rfl rfl ?_
                  refine T.no (Wn.no rfl rfl rfl rfl) rfl rfl ?_
                  refine T.no (Wn.no rfl rfl rfl rfl) rfl rfl ?_
                  refine T.q (q_pickF rfl rfl rfl) (Wt.plain rfl) rfl rfl ?_
                  refine T.q (q_move rfl rfl) (Wt.plain rfl) rfl rfl ?_
                  refine T.no (Wn.no rfl rfl rfl rfl) rfl rfl ?_
                  refine T.no (Wn.no rfl rfl rfl rfl) rfl rfl ?_
                  refine T.no (Wn.no rfl rfl rfl rfl) rfl rfl ?_
                  refine T.q (q_pickF rfl rfl rfl) (Wt.plain rfl) rfl rfl ?_
                  refine T.q (q_move rfl rfl) (Wt.plain rfl) rfl rfl ?_
                  refine T.no (Wn.no rfl rfl rfl rfl) rfl rfl ?_
                  refine T.no (Wn.no rfl rfl rfl rfl) rfl rfl ?_
                  refine T.no (Wn.no rfl rfl rfl rfl) rfl rfl ?_
                  refine T.q (q_pickF rfl rfl rfl) (Wt.plain rfl) rfl rfl ?_
                  refine T.q (q_move rfl rfl) (Wt.plain rfl) rfl rfl ?_
                  refine T.no (Wn.no rfl rfl rfl rfl) rfl rfl ?_
                  refine T.no (Wn.no rfl rfl rfl rfl) rfl rfl ?_
                  refine T.no (Wn.no rfl rfl rfl rfl) rfl rfl ?_
                  refine T.no (Wn.no rfl rfl rfl rfl) rfl rfl ?_
                  refine T.q (q_pickF rfl rfl rfl) (Wt.plain rfl) rfl rfl ?_
                  refine T.q (q_move rfl rfl) (Wt.plain rfl) rfl rfl ?_
                  refine T.no (Wn.no rfl rfl rfl rfl) rfl rfl ?_
                  refine T.no (Wn.no rfl rfl rfl rfl) rfl rfl ?_
                  refine T.no (Wn.no rfl rfl rfl rfl) rfl rfl ?_
                  refine T.no (Wn.no rfl rfl rfl rfl) rfl rfl ?_
                  refine T.q (q_pickF rfl rfl rfl) (Wt.plain rfl) rfl rfl ?_
                  refine T.q (q_assign rfl rfl) (Wt.plain rfl) rfl rfl ?_
                  refine T.nil ?_
                  refine Ex.next ?_
                  refine W.less (L' := [(2, _)]) [false] ⟨rfl, trivial⟩ ?_
                  change (_ : List Blk → Prop) []
                  refine W.ret ?_
                  refine Ex.in_ret ?_
                  refine Ex.then_ret ?_
                  refine Ex.out1 [] rfl rfl ?_
                  exact ⟨by unfold mayP recP othP; first | (exact congrArg Value.bool (decide_eq_false (by omega)).symm) | (exact congrArg Value.bool (decide_eq_decide.2 (by omega))) | (exact congrArg Value.bool (decide_eq_true (by omega)).symm), rfl⟩
              · replace hb29 := of_decide_eq_false hb29
                refine T.no (Wn.no rfl rfl rfl rfl) rfl rfl ?_
                refine T.no (Wn.no rfl rfl rfl rfl) rfl rfl ?_
                refine T.no (Wn.no rfl rfl rfl rfl) rfl rfl ?_
                refine T.q (q_pickF rfl rfl rfl) (Wt.plain rfl) rfl rfl ?_
                refine T.q (q_move rfl rfl) (Wt.plain rfl) rfl rfl ?_
                refine T.no (Wn.no rfl rfl rfl rfl) rfl rfl ?_
                refine T.no (Wn.no rfl rfl rfl rfl) rfl rfl ?_
                refine T.no (Wn.no rfl rfl rfl rfl) rfl rfl ?_
                refine T.q (q_pickF rfl rfl rfl) (Wt.plain rfl) rfl rfl ?_
                refine T.q (q_move rfl rfl) (Wt.plain rfl) rfl rfl ?_
                refine T.no (Wn.no rfl rfl rfl rfl) rfl rfl ?_
                refine T.no (Wn.no rfl rfl rfl rfl) rfl rfl ?_
                refine T.no (Wn.no rfl rfl rfl rfl) rfl rfl ?_
                refine T.q (q_pickF rfl rfl rfl) (Wt.plain rfl) rfl rfl ?_
                refine T.q (q_move rfl rfl) (Wt.plain rfl) rfl rfl ?_
                refine T.no (Wn.no rfl rfl rfl rfl) rfl rfl ?_
                refine T.no (Wn.no rfl rfl rfl rfl) rfl rfl ?_
                refine T.no (Wn.no rfl rfl rfl rfl) rfl rfl ?_
                refine T.q (q_pickF rfl rfl rfl) (Wt.plain rfl) rfl rfl ?_
                refine T.q (q_move rfl rfl) (Wt.plain rfl) rfl rfl ?_
                refine T.no (Wn.no rfl rfl rfl rfl) rfl rfl ?_
                refine T.no (Wn.no rfl rfl rfl rfl) rfl rfl ?_
                refine T.no (Wn.no rfl rfl rfl rfl) rfl rfl ?_
                refine T.no (Wn.no rfl rfl rfl rfl) rfl rfl ?_
                refine T.q (q_pickF rfl rfl rfl) (Wt.plain rfl) rfl rfl ?_
                refine T.q (q_move rfl rfl) (Wt.plain rfl) rfl rfl ?_
                refine T.no (Wn.no rfl rfl rfl rfl) rfl rfl ?_
                refine T.no (Wn.no rfl rfl rfl rfl) rfl rfl ?_
                refine T.no (Wn.no rfl rfl rfl rfl) rfl rfl ?_
                refine T.no (Wn.no rfl rfl rfl rfl) rfl rfl ?_
                refine T.q (q_pickF rfl rfl rfl) (Wt.plain rfl) rfl rfl ?_
                refine T.q (q_assign rfl rfl) (Wt.plain rfl) rfl rfl ?_
                refine T.nil ?_
                refine Ex.next ?_
                refine W.less (L' := [(2, _)]) [false] ⟨rfl, trivial⟩ ?_
                change (_ : List Blk → Prop) []
                refine W.ret ?_
                refine Ex.in_ret ?_
                refine Ex.then_ret ?_
                refine Ex.out1 [] rfl rfl ?_
                exact ⟨by unfold mayP recP othP; first | (exact congrArg Value.bool (decide_eq_false (by omega)).symm) | (exact congrArg Value.bool (decide_eq_decide.2 (by omega))) | (exact congrArg Value.bool (decide_eq_true (by omega)).symm), rfl⟩
            · replace hb28 := of_decide_eq_false hb28
              refine T.no (Wn.no rfl rfl rfl rfl) rfl rfl ?_
              refine T.no (Wn.no rfl rfl rfl rfl) rfl rfl ?_
              refine T.no (Wn.no rfl rfl rfl rfl) rfl rfl ?_
              refine T.q (q_pickF rfl rfl rfl) (Wt.plain rfl) rfl rfl ?_
              refine T.q (q_move rfl rfl) (Wt.plain rfl) rfl rfl ?_
              refine T.no (Wn.no rfl rfl rfl rfl) rfl rfl ?_
              refine T.no (Wn.no rfl rfl rfl rfl) rfl rfl ?_
              refine T.no (Wn.no rfl rfl rfl rfl) rfl rfl ?_
              refine T.q (q_pickF rfl rfl rfl) (Wt.plain rfl) rfl rfl ?_
              refine T.q (q_move rfl rfl) (Wt.plain rfl) rfl rfl ?_
              refine T.no (Wn.no rfl rfl rfl rfl) rfl rfl ?_
              refine T.no (Wn.no rfl rfl rfl rfl) rfl rfl ?_
              refine T.no (Wn.no rfl rfl rfl rfl) rfl rfl ?_
              refine T.q (q_pickF rfl rfl rfl) (Wt.plain rfl) rfl rfl ?_
              refine T.q (q_move rfl rfl) (Wt.plain rfl) rfl rfl ?_
              refine T.no (Wn.no rfl rfl rfl rfl) rfl rfl ?_
              refine T.no (Wn.no rfl rfl rfl rfl) rfl rfl ?_
              refine T.no (Wn.no rfl rfl rfl rfl) rfl rfl ?_
              refine T.q (q_pickF rfl rfl rfl) (Wt.plain rfl) rfl rfl ?_
              refine T.q (q_move rfl rfl) (Wt.plain rfl) rfl rfl ?_
              refine T.no (Wn.no rfl rfl rfl rfl) rfl rfl ?_
              refine T.no (Wn.no rfl rfl rfl rfl) rfl rfl ?_
              refine T.no (Wn.no rfl rfl rfl rfl) rfl rfl ?_
              refine T.q (q_pickF rfl rfl rfl) (Wt.plain rfl) rfl rfl ?_
              refine T.q (q_move rfl rfl) (Wt.plain rfl) rfl rfl ?_
              refine T.no (Wn.no rfl rfl rfl rfl) rfl rfl ?_
              refine T.no (Wn.no rfl rfl rfl rfl) rfl rfl ?_
              refine T.no (Wn.no rfl rfl rfl rfl) rfl rfl ?_
              refine T.no (Wn.no rfl rfl rfl rfl) rfl rfl ?_
              refine T.q (q_pickF rfl rfl rfl) (Wt.plain rfl) rfl rfl ?_
              refine T.q (q_move rfl rfl) (Wt.plain rfl) rfl rfl ?_
              refine T.no (Wn.no rfl rfl rfl rfl) rfl rfl ?_
              refine T.no (Wn.no rfl rfl rfl rfl) rfl rfl ?_
              refine T.no (Wn.no rfl rfl rfl rfl) rfl rfl ?_
              refine T.no (Wn.no rfl rfl rfl rfl) rfl rfl ?_
              refine T.q (q_pickF rfl rfl rfl) (Wt.plain rfl) rfl rfl ?_
              refine T.q (q_assign rfl rfl) (Wt.plain rfl) rfl rfl ?_
              refine T.nil ?_
              refine Ex.next ?_
              refine W.less (L' := [(2, _)]) [false] ⟨rfl, trivial⟩ ?_
              change (_ : List Blk → Prop) []
              refine W.ret ?_
              refine Ex.in_ret ?_
              refine Ex.then_ret ?_
              refine Ex.out1 [] rfl rfl ?_
              exact ⟨by unfold mayP recP othP; first | (exact congrArg Value.bool (decide_eq_false (by omega)).symm) | (exact congrArg Value.bool (decide_eq_decide.2 (by omega))) | (exact congrArg Value.bool (decide_eq_true (by omega)).symm), rfl⟩
          · replace hb27 := of_decide_eq_false hb27
            refine T.no (Wn.no rfl rfl rfl rfl) rfl rfl ?_
            refine T.no (Wn.no rfl rfl rfl rfl) rfl rfl ?_
            refine T.no (Wn.no rfl rfl rfl rfl) rfl rfl ?_
            refine T.q (q_pickF rfl rfl rfl) (Wt.plain rfl) rfl rfl ?_
            refine T.q (q_move rfl rfl) (Wt.plain rfl) rfl rfl ?_
            refine T.no (Wn.no rfl rfl rfl rfl) rfl rfl ?_
            refine T.no (Wn.no rfl rfl rfl rfl) rfl rfl ?_
            refine T.no (Wn.no rfl rfl rfl rfl) rfl rfl ?_
            refine T.q (q_pickF rfl rfl rfl) (Wt.plain rfl) rfl rfl ?_
            refine T.q (q_move rfl rfl) (Wt.plain rfl) rfl rfl ?_
            refine T.no (Wn.no rfl rfl rfl rfl) rfl rfl ?_
            refine T.no (Wn.no rfl rfl rfl rfl) rfl rfl ?_
            refine T.no (Wn.no rfl rfl rfl rfl) rfl rfl ?_
            refine T.q (q_pickF rfl rfl rfl) (Wt.plain rfl) rfl rfl ?_
            refine T.q (q_move rfl rfl) (Wt.plain rfl) rfl rfl ?_
            refine T.no (Wn.no rfl rfl rfl rfl) rfl rfl ?_
            refine T.no (Wn.no rfl rfl rfl rfl) rfl rfl ?_
            refine T.no (Wn.no rfl rfl rfl rfl) rfl rfl ?_
            refine T.q (q_pickF rfl rfl rfl) (Wt.plain rfl) rfl rfl ?_
            refine T.q (q_move rfl rfl) (Wt.plain rfl) rfl rfl ?_
            refine T.no (Wn.no rfl rfl rfl rfl) rfl rfl ?_
            refine T.no (Wn.no rfl rfl rfl rfl) rfl rfl ?_
            refine T.no (Wn.no rfl rfl rfl rfl) rfl rfl ?_
            refine T.q (q_pickF rfl rfl rfl) (Wt.plain rfl) rfl rfl ?_
            refine T.q (q_move rfl rfl) (Wt.plain rfl) rfl rfl ?_
            refine T.no (Wn.no rfl rfl rfl rfl) rfl rfl ?_
            refine T.no (Wn.no rfl rfl rfl rfl) rfl rfl ?_
            refine T.no (Wn.no rfl rfl rfl rfl) rfl rfl ?_
            refine T.q (q_pickF rfl rfl rfl) (Wt.plain rfl) rfl rfl ?_
            refine T.q (q_move rfl rfl) (Wt.plain rfl) rfl rfl ?_
            refine T.no (Wn.no rfl rfl rfl rfl) rfl rfl ?_
            refine T.no (Wn.no rfl rfl rfl rfl) rfl rfl ?_
            refine T.no (Wn.no rfl rfl rfl rfl) rfl rfl ?_
            refine T.no (Wn.no rfl rfl rfl rfl) rfl rfl ?_
            refine T.q (q_pickF rfl rfl rfl) (Wt.plain rfl) rfl rfl ?_
            refine T.q (q_move rfl rfl) (Wt.plain rfl) rfl rfl ?_
            refine T.no (Wn.no rfl rfl rfl rfl) rfl rfl ?_
            refine T.no (Wn.no rfl rfl rfl rfl) rfl rfl ?_
            refine T.no (Wn.no rfl rfl rfl rfl) rfl rfl ?_
            refine T.no (Wn.no rfl rfl rfl rfl) rfl rfl ?_
            refine T.q (q_pickF rfl rfl rfl) (Wt.plain rfl) rfl rfl ?_
            refine T.q (q_assign rfl rfl) (Wt.plain rfl) rfl rfl ?_
            refine T.nil ?_
            refine Ex.next ?_
            refine W.less (L' := [(2, _)]) [false] ⟨rfl, trivial⟩ ?_
            change (_ : List Blk → Prop) []
            refine W.ret ?_
            refine Ex.in_ret ?_
            refine Ex.then_ret ?_
            refine Ex.out1 [] rfl rfl ?_
            exact ⟨by unfold mayP recP othP; first | (exact congrArg Value.bool (decide_eq_false (by omega)).symm) | (exact congrArg Value.bool (decide_eq_decide.2 (by omega))) | (exact congrArg Value.bool (decide_eq_true (by omega)).symm), rfl⟩
        · replace hb26 := of_decide_eq_false hb26
          refine T.no (Wn.no rfl rfl rfl rfl) rfl rfl ?_
          refine T.no (Wn.no rfl rfl rfl rfl) rfl rfl ?_
          refine T.no (Wn.no rfl rfl rfl rfl) rfl rfl ?_
          refine T.q (q_pickF rfl rfl rfl) (Wt.plain rfl) rfl rfl ?_
          refine T.q (q_move rfl rfl) (Wt.plain rfl) rfl rfl ?_
          refine T.no (Wn.no rfl rfl rfl rfl) rfl rfl ?_
          refine T.no (Wn.no rfl rfl rfl rfl) rfl rfl ?_
          refine T.no (Wn.no rfl rfl rfl rfl) rfl rfl ?_
          refine T.q (q_pickF rfl rfl rfl) (Wt.plain rfl) rfl rfl ?_
          refine T.q (q_move rfl rfl) (Wt.plain rfl) rfl rfl ?_
          refine T.no (Wn.no rfl rfl rfl rfl) rfl rfl ?_
          refine T.no (Wn.no rfl rfl rfl rfl) rfl rfl ?_
          refine T.no (Wn.no rfl rfl rfl rfl) rfl rfl ?_
          refine T.q (q_pickF rfl rfl rfl) (Wt.plain rfl) rfl rfl ?_
          refine T.q (q_move rfl rfl) (Wt.plain rfl) rfl rfl ?_
          refine T.no (Wn.no rfl rfl rfl rfl) rfl rfl ?_
          refine T.no (Wn.no rfl rfl rfl rfl) rfl rfl ?_
          refine T.no (Wn.no rfl rfl rfl rfl) rfl rfl ?_
          refine T.q (q_pickF rfl rfl rfl) (Wt.plain rfl) rfl rfl ?_
          refine T.q (q_move rfl rfl) (Wt.plain rfl) rfl rfl ?_
          refine T.no (Wn.no rfl rfl rfl rfl) rfl rfl ?_
          refine T.no (Wn.no rfl rfl rfl rfl) rfl rfl ?_
          refine T.no (Wn.no rfl rfl rfl rfl) rfl rfl ?_
          refine T.q (q_pickF rfl rfl rfl) (Wt.plain rfl) rfl rfl ?_
          refine T.q (q_move rfl rfl) (Wt.plain rfl) rfl rfl ?_
          refine T.no (Wn.no rfl rfl rfl rfl) rfl rfl ?_
          refine T.no (Wn.no rfl rfl rfl rfl) rfl rfl ?_
          refine T.no (Wn.no rfl rfl rfl rfl) rfl rfl ?_
          refine T.q (q_pickF rfl rfl rfl) (Wt.plain rfl) rfl rfl ?_
          refine T.q (q_move rfl rfl) (Wt.plain rfl) rfl rfl ?_
          refine T.no (Wn.no rfl rfl rfl rfl) rfl rfl ?_
          refine T.no (Wn.no rfl rfl rfl rfl) rfl rfl ?_
          refine T.no (Wn.no rfl rfl rfl rfl) rfl rfl ?_
          refine T.q (q_pickF rfl rfl rfl) (Wt.plain rfl) rfl rfl ?_
          refine T.q (q_move rfl rfl) (Wt.plain rfl) rfl rfl ?_
          refine T.no (Wn.no rfl rfl rfl rfl) rfl rfl ?_
          refine T.no (Wn.no rfl rfl rfl rfl) rfl rfl ?_
          refine T.no (Wn.no rfl rfl rfl rfl) rfl rfl ?_
          refine T.no (Wn.no rfl rfl rfl rfl) rfl rfl ?_
          refine T.q (q_pickF rfl rfl rfl) (Wt.plain rfl) rfl rfl ?_
          refine T.q (q_move rfl rfl) (Wt.plain rfl) rfl rfl ?_
          refine T.no (Wn.no rfl rfl rfl rfl) rfl rfl ?_
          refine T.no (Wn.no rfl rfl rfl rfl) rfl rfl ?_
          refine T.no (Wn.no rfl rfl rfl rfl) rfl rfl ?_
          refine T.no (Wn.no rfl rfl rfl rfl) rfl rfl ?_
          refine T.q (q_pickF rfl rfl rfl) (Wt.plain rfl) rfl rfl ?_
          refine T.q (q_assign rfl rfl) (Wt.plain rfl) rfl rfl ?_
          refine T.nil ?_
          refine Ex.next ?_
          refine W.less (L' := [(2, _)]) [false] ⟨rfl, trivial⟩ ?_
          change (_ : List Blk → Prop) []
          refine W.ret ?_
          refine Ex.in_ret ?_
          refine Ex.then_ret ?_
          refine Ex.out1 [] rfl rfl ?_
          exact ⟨by unfold mayP recP othP; first | (exact congrArg Value.bool (decide_eq_false (by omega)).symm) | (exact congrArg Value.bool (decide_eq_decide.2 (by omega))) | (exact congrArg Value.bool (decide_eq_true (by omega)).symm), rfl⟩
      · replace hb25 := of_decide_eq_false hb25
        refine W.skip ?_
        refine Ex.in_normal ?_
        refine Ex.next ?_
        refine W.less (L' := []) [false] trivial ?_
        change (_ : List Blk → Prop) []
        refine W.seq ?_
        refine W.region ?_
        refine T.q (q_assign rfl rfl) (Wt.plain rfl) rfl rfl ?_
        refine T.nil ?_
        refine Ex.next ?_
        refine W.slots (L' := [(2, _)]) ⟨rfl, trivial⟩ ?_
        refine W.ret ?_
        refine Ex.out1 [] rfl rfl ?_
        exact ⟨by unfold mayP recP othP; first | (exact congrArg Value.bool (decide_eq_false (by omega)).symm) | (exact congrArg Value.bool (decide_eq_decide.2 (by omega))) | (exact congrArg Value.bool (decide_eq_true (by omega)).symm), rfl⟩
set_option maxRecDepth 100000 in
theorem same_spec0 (pk pr pp pe pc : Int) (PA QA : Option Addr) (bd : List Int) (bc qc : Nat) (hbl : bd.length ≤ 140737488354000) (w0 : World) (hP : Reads w0 PA (ints .u8 bd)) (hQ : Reads w0 QA (ints .u8 bd)) : Does Try.prog 41 #[.agg #[.int .i64 pk, .int .i64 pr, .int .i64 pp, .int .i64 pe, .int .i64 pc, .slice PA bd.length bc], .agg #[.int .i64 pk, .int .i64 pr, .int .i64 pp, .int .i64 pe, .int .i64 pc, .slice QA bd.length qc]] w0 [] (fun v G => v = .bool true ∧ G = []) := by
  refine spec_of 47 Try.func41 rfl rfl rfl ?_
  refine W.seq ?_
  refine W.region ?_
  refine T.eff (e_box rfl rfl rfl rfl) (Wt.plain rfl) ?_
  rintro _ _ ⟨k1, rfl, rfl⟩
  change (_ : List Blk → Prop) [_]
  change (_ : List Blk → Prop) [⟨some k1, [.int .i64 pk, .int .i64 pr, .int .i64 pp, .int .i64 pe, .int .i64 pc, .slice PA bd.length bc], 40, (0, 0)⟩]
  refine T.eff (e_box rfl rfl rfl rfl) (Wt.plain rfl) ?_
  rintro _ _ ⟨k2, rfl, rfl⟩
  change (_ : List Blk → Prop) [_, _]
  change (_ : List Blk → Prop) [_, ⟨some k2, [.int .i64 pk, .int .i64 pr, .int .i64 pp, .int .i64 pe, .int .i64 pc, .slice QA bd.length qc], 40, (0, 0)⟩]
  refine T.q (q_assign rfl rfl) (Wt.plain rfl) rfl rfl ?_
  refine T.nil ?_
  refine Ex.next ?_
  refine W.slots (L' := [(2, _), (3, _)]) ⟨rfl, rfl, trivial⟩ ?_
  refine W.seq ?_
  refine W.region ?_
  refine T.q (q_fld fl40_0 rfl rfl) (Wt.plain rfl) rfl rfl ?_
  refine T.q (q_load1 ss3 0 rfl rfl rfl rfl) (Wt.plain rfl) rfl rfl ?_
  refine T.q (q_fld fl40_0 rfl rfl) (Wt.plain rfl) rfl rfl ?_
  refine T.q (q_load1 ss3 1 rfl rfl rfl rfl) (Wt.plain rfl) rfl rfl ?_
  refine T.q (q_bool (b := true) (q_eql rfl rfl rfl) (decide_eq_true rfl)) (Wt.plain rfl) rfl rfl ?_
  refine T.q (q_move rfl rfl) (Wt.plain rfl) rfl rfl ?_
  refine T.q (q_fld fl40_1 rfl rfl) (Wt.yes rfl rfl rfl) rfl rfl ?_
  refine T.q (q_load1 ss3 0 rfl rfl rfl rfl) (Wt.yes rfl rfl rfl) rfl rfl ?_
  refine T.q (q_fld fl40_1 rfl rfl) (Wt.yes rfl rfl rfl) rfl rfl ?_
  refine T.q (q_load1 ss3 1 rfl rfl rfl rfl) (Wt.yes rfl rfl rfl) rfl rfl ?_
  refine T.q (q_bool (b := true) (q_eql rfl rfl rfl) (decide_eq_true rfl)) (Wt.yes rfl rfl rfl) rfl rfl ?_
  refine T.q (q_pickT rfl rfl rfl) (Wt.plain rfl) rfl rfl ?_
  refine T.q (q_move rfl rfl) (Wt.plain rfl) rfl rfl ?_
  refine T.q (q_fld fl40_2 rfl rfl) (Wt.yes rfl rfl rfl) rfl rfl ?_
  refine T.q (q_load1 ss3 0 rfl rfl rfl rfl) (Wt.yes rfl rfl rfl) rfl rfl ?_
  refine T.q (q_fld fl40_2 rfl rfl) (Wt.yes rfl rfl rfl) rfl rfl ?_
  refine T.q (q_load1 ss3 1 rfl rfl rfl rfl) (Wt.yes rfl rfl rfl) rfl rfl ?_
  refine T.q (q_bool (b := true) (q_eql rfl rfl rfl) (decide_eq_true rfl)) (Wt.yes rfl rfl rfl) rfl rfl ?_
  refine T.q (q_pickT rfl rfl rfl) (Wt.plain rfl) rfl rfl ?_
  refine T.q (q_move rfl rfl) (Wt.plain rfl) rfl rfl ?_
  refine T.q (q_fld fl40_3 rfl rfl) (Wt.yes rfl rfl rfl) rfl rfl ?_
  refine T.q (q_load1 ss3 0 rfl rfl rfl rfl) (Wt.yes rfl rfl rfl) rfl rfl ?_
  refine T.q (q_fld fl40_3 rfl rfl) (Wt.yes rfl rfl rfl) rfl rfl ?_
  refine T.q (q_load1 ss3 1 rfl rfl rfl rfl) (Wt.yes rfl rfl rfl) rfl rfl ?_
  refine T.q (q_bool (b := true) (q_eql rfl rfl rfl) (decide_eq_true rfl)) (Wt.yes rfl rfl rfl) rfl rfl ?_
  refine T.q (q_pickT rfl rfl rfl) (Wt.plain rfl) rfl rfl ?_
  refine T.q (q_move rfl rfl) (Wt.plain rfl) rfl rfl ?_
  refine T.q (q_fld fl40_4 rfl rfl) (Wt.yes rfl rfl rfl) rfl rfl ?_
  refine T.q (q_load1 ss3 0 rfl rfl rfl rfl) (Wt.yes rfl rfl rfl) rfl rfl ?_
  refine T.q (q_fld fl40_4 rfl rfl) (Wt.yes rfl rfl rfl) rfl rfl ?_
  refine T.q (q_load1 ss3 1 rfl rfl rfl rfl) (Wt.yes rfl rfl rfl) rfl rfl ?_
  refine T.q (q_bool (b := true) (q_eql rfl rfl rfl) (decide_eq_true rfl)) (Wt.yes rfl rfl rfl) rfl rfl ?_
  refine T.q (q_pickT rfl rfl rfl) (Wt.plain rfl) rfl rfl ?_
  refine T.q (q_move rfl rfl) (Wt.plain rfl) rfl rfl ?_
  refine T.q (q_fld fl40_5 rfl rfl) (Wt.yes rfl rfl rfl) rfl rfl ?_
  refine T.q (q_load1 ss22 0 rfl rfl rfl rfl) (Wt.yes rfl rfl rfl) rfl rfl ?_
  refine T.q (q_bstr sc22 un5 un9 (R_ext hP.ext) (by first | omega | (simp; done) | (simp [-List.getD_eq_getElem?_getD]; omega) | (simp at *; omega) | rfl) rfl rfl) (Wt.yes rfl rfl rfl) rfl rfl ?_
  refine T.q (q_fld fl40_5 rfl rfl) (Wt.yes rfl rfl rfl) rfl rfl ?_
  refine T.q (q_load1 ss22 1 rfl rfl rfl rfl) (Wt.yes rfl rfl rfl) rfl rfl ?_
  refine T.q (q_bstr sc22 un5 un9 (R_ext hQ.ext) (by first | omega | (simp; done) | (simp [-List.getD_eq_getElem?_getD]; omega) | (simp at *; omega) | rfl) rfl rfl) (Wt.yes rfl rfl rfl) rfl rfl ?_
  refine T.q (q_bool (b := true) (q_eqlS rfl rfl rfl) (beq_self_eq_true _)) (Wt.yes rfl rfl rfl) rfl rfl ?_
  refine T.q (q_pickT rfl rfl rfl) (Wt.plain rfl) rfl rfl ?_
  refine T.q (q_assign rfl rfl) (Wt.plain rfl) rfl rfl ?_
  refine T.nil ?_
  refine Ex.next ?_
  refine W.less (L' := [(4, _)]) [false, false] ⟨rfl, trivial⟩ ?_
  change (_ : List Blk → Prop) []
  refine W.ret ?_
  refine Ex.out1 [] rfl rfl ?_
  exact ⟨rfl, rfl⟩
theorem rec_true {pk pr pp pe pc : Int} {PA : Option Addr} {n bc : Nat} (h : recP pk pr pp pe pc n) (w0 : World) : Does Try.prog 58 #[.agg #[.int .i64 pk, .int .i64 pr, .int .i64 pp, .int .i64 pe, .int .i64 pc, .slice PA n bc]] w0 [] (fun v G => v = .bool true ∧ G = []) :=
  (rec_spec pk pr pp pe pc PA n bc w0).mono fun v G h1 => ⟨by rw [h1.1, decide_eq_true h], h1.2⟩
theorem rec_false {pk pr pp pe pc : Int} {PA : Option Addr} {n bc : Nat} (h : ¬ recP pk pr pp pe pc n) (w0 : World) : Does Try.prog 58 #[.agg #[.int .i64 pk, .int .i64 pr, .int .i64 pp, .int .i64 pe, .int .i64 pc, .slice PA n bc]] w0 [] (fun v G => v = .bool false ∧ G = []) :=
  (rec_spec pk pr pp pe pc PA n bc w0).mono fun v G h1 => ⟨by rw [h1.1, decide_eq_false h], h1.2⟩
theorem oth_true {pk pr pp pe pc : Int} {PA : Option Addr} {n bc : Nat} (h : othP pk pr pp pe pc n) (w0 : World) : Does Try.prog 59 #[.agg #[.int .i64 pk, .int .i64 pr, .int .i64 pp, .int .i64 pe, .int .i64 pc, .slice PA n bc]] w0 [] (fun v G => v = .bool true ∧ G = []) :=
  (oth_spec pk pr pp pe pc PA n bc w0).mono fun v G h1 => ⟨by rw [h1.1, decide_eq_true h], h1.2⟩
theorem oth_false {pk pr pp pe pc : Int} {PA : Option Addr} {n bc : Nat} (h : ¬ othP pk pr pp pe pc n) (w0 : World) : Does Try.prog 59 #[.agg #[.int .i64 pk, .int .i64 pr, .int .i64 pp, .int .i64 pe, .int .i64 pc, .slice PA n bc]] w0 [] (fun v G => v = .bool false ∧ G = []) :=
  (oth_spec pk pr pp pe pc PA n bc w0).mono fun v G h1 => ⟨by rw [h1.1, decide_eq_false h], h1.2⟩
theorem may_true {pk pr pp pe pc : Int} {PA : Option Addr} {n bc : Nat} (h : mayP pk pr pp pe pc n) (w0 : World) : Does Try.prog 42 #[.agg #[.int .i64 pk, .int .i64 pr, .int .i64 pp, .int .i64 pe, .int .i64 pc, .slice PA n bc]] w0 [] (fun v G => v = .bool true ∧ G = []) :=
  (may_spec pk pr pp pe pc PA n bc w0).mono fun v G h1 => ⟨by rw [h1.1, decide_eq_true h], h1.2⟩
theorem may_false {pk pr pp pe pc : Int} {PA : Option Addr} {n bc : Nat} (h : ¬ mayP pk pr pp pe pc n) (w0 : World) : Does Try.prog 42 #[.agg #[.int .i64 pk, .int .i64 pr, .int .i64 pp, .int .i64 pe, .int .i64 pc, .slice PA n bc]] w0 [] (fun v G => v = .bool false ∧ G = []) :=
  (may_spec pk pr pp pe pc PA n bc w0).mono fun v G h1 => ⟨by rw [h1.1, decide_eq_false h], h1.2⟩

end Go.Proofs.Ytmkjnefongjniaa
