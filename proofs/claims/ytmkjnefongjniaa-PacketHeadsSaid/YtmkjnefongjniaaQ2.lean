/-
  The walks of layer 11: heads.
-/
import Derived.Test.YtmkjnefongjniaaQ1
import Derived.Test.YtmkjnefongjniaaO10
namespace Go.Proofs.Ytmkjnefongjniaa
open Go Go.X

set_option maxRecDepth 100000 in
theorem head_yes (r p e c : Nat) (hr : r ≤ 1) (hp : p ≤ 255) (he : e ≤ 65535) (hc : c ≤ 281474976710655) (PA : Option Addr) (n bc : Nat) (h16 : 16 ≤ n) (h272 : n ≤ 272) (w0 : World) : Does Try.prog 35 #[.agg #[.int .i64 3, .int .i64 ((r : Nat) : Int), .int .i64 ((p : Nat) : Int), .int .i64 ((e : Nat) : Int), .int .i64 ((c : Nat) : Int), .slice PA n bc]] w0 [] (fun v G => ∃ (k cap : Nat) (junk : List Value), v = .slice (some ⟨k, 0, none⟩) 11 cap ∧ 11 + junk.length = cap ∧ G = [⟨some k, ints .u8 (hd r p e c) ++ junk, 5, (0, 0)⟩]) := by
  refine spec_of 32 Try.func35 rfl rfl rfl ?_
  refine W.seq ?_
  refine W.region ?_
  refine T.eff (e_box rfl rfl rfl rfl) (Wt.plain rfl) ?_
  rintro _ _ ⟨k1, rfl, rfl⟩
  change (_ : List Blk → Prop) [_]
  change (_ : List Blk → Prop) [⟨some k1, [.int .i64 3, .int .i64 ((r : Nat) : Int), .int .i64 ((p : Nat) : Int), .int .i64 ((e : Nat) : Int), .int .i64 ((c : Nat) : Int), .slice PA n bc], 40, (0, 0)⟩]
  refine T.q (q_assign rfl rfl) (Wt.plain rfl) rfl rfl ?_
  refine T.nil ?_
  refine Ex.next ?_
  refine W.slots (L' := [(1, _)]) ⟨rfl, trivial⟩ ?_
  refine W.seq ?_
  refine W.seq ?_
  refine W.region ?_
  refine T.q (q_loadW wd40 (R_blk 0 rfl) rfl rfl) (Wt.plain rfl) rfl rfl ?_
  refine T.eff (e_call enters58 rfl rfl (fun w hm => rec_true (by first | assumption | (unfold recP; omega) | (unfold othP; omega) | (unfold mayP recP othP at *; omega) | (unfold recP at *; omega)) w) rfl rfl) (Wt.plain rfl) ?_
  rintro _ _ ⟨_, _, ⟨rfl, rfl⟩, rfl, rfl⟩
  change (_ : List Blk → Prop) [_]
  refine T.q (q_not rfl rfl) (Wt.plain rfl) rfl rfl ?_
  refine T.nil ?_
  refine Ex.next ?_
  refine W.slots (L' := [(1, _), (6, _)]) ⟨rfl, rfl, trivial⟩ ?_
  refine W.condF rfl ?_
  refine W.skip ?_
  refine Ex.next ?_
  refine W.slots (L' := [(1, _)]) ⟨rfl, trivial⟩ ?_
  refine W.seq ?_
  refine W.region ?_
  refine T.q (q_fld fl40_0 rfl rfl) (Wt.plain rfl) rfl rfl ?_
  refine T.q (q_load1 ss3 0 rfl rfl rfl rfl) (Wt.plain rfl) rfl rfl ?_
  refine T.q (q_int (b := 3) (q_conv un3 un5 rfl rfl) (wrap8_of (by omega) (by omega))) (Wt.plain rfl) rfl rfl ?_
  refine T.q (q_fld fl40_1 rfl rfl) (Wt.plain rfl) rfl rfl ?_
  refine T.q (q_load1 ss3 0 rfl rfl rfl rfl) (Wt.plain rfl) rfl rfl ?_
  refine T.q (q_int (b := ((r : Nat) : Int)) (q_conv un3 un5 rfl rfl) (wrap8_of (by omega) (by omega))) (Wt.plain rfl) rfl rfl ?_
  refine T.q (q_fld fl40_2 rfl rfl) (Wt.plain rfl) rfl rfl ?_
  refine T.q (q_load1 ss3 0 rfl rfl rfl rfl) (Wt.plain rfl) rfl rfl ?_
  refine T.q (q_int (b := ((p : Nat) : Int)) (q_conv un3 un5 rfl rfl) (wrap8_of (by omega) (by omega))) (Wt.plain rfl) rfl rfl ?_
  refine T.eff (e_litA sc22 ze5 rfl rfl rfl (by simp [Value.cells]) rfl rfl rfl) (Wt.plain rfl) ?_
  rintro _ _ ⟨k2, rfl, rfl⟩
  change (_ : List Blk → Prop) [_, _]
  refine T.q (q_assign rfl rfl) (Wt.plain rfl) rfl rfl ?_
  refine T.nil ?_
  refine Ex.next ?_
  refine W.slots (L' := [(1, _), (3, _)]) ⟨rfl, rfl, trivial⟩ ?_
  refine W.seq ?_
  refine W.region ?_
  refine T.q (q_move rfl rfl) (Wt.plain rfl) rfl rfl ?_
  refine T.q (q_fld fl40_3 rfl rfl) (Wt.plain rfl) rfl rfl ?_
  refine T.q (q_load1 ss3 0 rfl rfl rfl rfl) (Wt.plain rfl) rfl rfl ?_
  refine T.eff (e_call enters30 rfl rfl (fun w hm => putf_at [3, ((r : Nat) : Int), ((p : Nat) : Int)] _ _ (by first | omega | (simp; done) | (simp; omega) | (simp at *; omega)) (by first | omega | (simp; done) | (simp; omega) | (simp at *; omega)) e (by first | omega | (simp; done) | (simp; omega) | (simp at *; omega)) 2 (by first | omega | (simp; done) | (simp; omega) | (simp at *; omega)) (by first | omega | (simp; done) | (simp; omega) | (simp at *; omega)) (Nat.lt_of_lt_of_le (show e < 65536 by omega) (by decide)) w ((R_blk 1 rfl) w hm) (by first | omega | (simp; done) | (simp [-List.getD_eq_getElem?_getD]; omega) | (simp at *; omega) | rfl)) rfl rfl) (Wt.plain rfl) ?_
  rintro _ _ ⟨_, _, ⟨k3, cap4, junk5, rfl, hc6, rfl⟩, rfl, rfl⟩
  change (_ : List Blk → Prop) [_, _, _]
  refine T.q (q_move rfl rfl) (Wt.plain rfl) rfl rfl ?_
  refine T.q (q_extract rfl rfl rfl) (Wt.plain rfl) rfl rfl ?_
  refine T.q (q_extract rfl rfl rfl) (Wt.plain rfl) rfl rfl ?_
  refine T.q (q_assign rfl rfl) (Wt.plain rfl) rfl rfl ?_
  refine T.nil ?_
  refine Ex.next ?_
  refine W.less (L' := [(1, _), (3, _)]) [true, false, true] ⟨rfl, rfl, trivial⟩ ?_
  change (_ : List Blk → Prop) [_, _]
  refine W.seq ?_
  refine W.region ?_
  refine T.q (q_move rfl rfl) (Wt.plain rfl) rfl rfl ?_
  refine T.q (q_fld fl40_4 rfl rfl) (Wt.plain rfl) rfl rfl ?_
  refine T.q (q_load1 ss3 0 rfl rfl rfl rfl) (Wt.plain rfl) rfl rfl ?_
  refine T.eff (e_call enters30 rfl rfl (fun w hm => putf_at ([3, ((r : Nat) : Int), ((p : Nat) : Int)] ++ bigS e 2) _ _ (by first | omega | (simp; done) | (simp; omega) | (simp at *; omega)) (by first | omega | (simp; done) | (simp; omega) | (simp at *; omega)) c (by first | omega | (simp; done) | (simp; omega) | (simp at *; omega)) 6 (by first | omega | (simp; done) | (simp; omega) | (simp at *; omega)) (by first | omega | (simp; done) | (simp; omega) | (simp at *; omega)) (Nat.lt_of_lt_of_le (show c < 281474976710656 by omega) (by decide)) w ((R_pre 1 rfl) w hm) (by first | omega | (simp; done) | (simp [-List.getD_eq_getElem?_getD]; omega) | (simp at *; omega) | rfl)) rfl rfl) (Wt.plain rfl) ?_
  rintro _ _ ⟨_, _, ⟨k7, cap8, junk9, rfl, hc10, rfl⟩, rfl, rfl⟩
  change (_ : List Blk → Prop) [_, _, _]
  refine T.q (q_move rfl rfl) (Wt.plain rfl) rfl rfl ?_
  refine T.q (q_extract rfl rfl rfl) (Wt.plain rfl) rfl rfl ?_
  refine T.q (q_extract rfl rfl rfl) (Wt.plain rfl) rfl rfl ?_
  refine T.q (q_assign rfl rfl) (Wt.plain rfl) rfl rfl ?_
  refine T.nil ?_
  refine Ex.next ?_
  refine W.less (L' := [(3, _)]) [false, false, true] ⟨rfl, trivial⟩ ?_
  change (_ : List Blk → Prop) [_]
  refine W.seq ?_
  refine W.region ?_
  refine T.q (q_move rfl rfl) (Wt.plain rfl) rfl rfl ?_
  refine T.q (q_assign rfl rfl) (Wt.plain rfl) rfl rfl ?_
  refine T.nil ?_
  refine Ex.next ?_
  refine W.slots (L' := [(2, _)]) ⟨rfl, trivial⟩ ?_
  refine W.ret ?_
  refine Ex.out1 [true] rfl rfl ?_
  exact ⟨_, _, _, rfl, by first | assumption | omega, rfl⟩
set_option maxRecDepth 100000 in
theorem refhead_yes (r p e c : Nat) (hr : r ≤ 1) (hp : p ≤ 255) (he : e ≤ 65535) (hc : c ≤ 281474976710655) (PA : Option Addr) (n bc : Nat) (h16 : 16 ≤ n) (h272 : n ≤ 272) (w0 : World) : Does Try.prog 36 #[.agg #[.int .i64 3, .int .i64 ((r : Nat) : Int), .int .i64 ((p : Nat) : Int), .int .i64 ((e : Nat) : Int), .int .i64 ((c : Nat) : Int), .slice PA n bc]] w0 [] (fun v G => ∃ (k cap : Nat) (junk : List Value), v = .slice (some ⟨k, 0, none⟩) 11 cap ∧ 11 + junk.length = cap ∧ G = [⟨some k, ints .u8 (hd r p e c) ++ junk, 5, (0, 0)⟩]) := by
  refine spec_of 34 Try.func36 rfl rfl rfl ?_
  refine W.seq ?_
  refine W.region ?_
  refine T.eff (e_box rfl rfl rfl rfl) (Wt.plain rfl) ?_
  rintro _ _ ⟨k1, rfl, rfl⟩
  change (_ : List Blk → Prop) [_]
  change (_ : List Blk → Prop) [⟨some k1, [.int .i64 3, .int .i64 ((r : Nat) : Int), .int .i64 ((p : Nat) : Int), .int .i64 ((e : Nat) : Int), .int .i64 ((c : Nat) : Int), .slice PA n bc], 40, (0, 0)⟩]
  refine T.q (q_assign rfl rfl) (Wt.plain rfl) rfl rfl ?_
  refine T.nil ?_
  refine Ex.next ?_
  refine W.slots (L' := [(1, _)]) ⟨rfl, trivial⟩ ?_
  refine W.seq ?_
  refine W.seq ?_
  refine W.region ?_
  refine T.q (q_fld fl40_0 rfl rfl) (Wt.plain rfl) rfl rfl ?_
  refine T.q (q_load1 ss3 0 rfl rfl rfl rfl) (Wt.plain rfl) rfl rfl ?_
  refine T.q (q_bool (b := false) (q_neq rfl rfl rfl) (decide_eq_false (by omega))) (Wt.plain rfl) rfl rfl ?_
  refine T.q (q_move rfl rfl) (Wt.plain rfl) rfl rfl ?_
  refine T.q (q_loadW wd40 (R_blk 0 rfl) rfl rfl) (Wt.yes rfl rfl rfl) rfl rfl ?_
  refine T.eff (e_call enters42 rfl rfl (fun w hm => may_true (by first | assumption | (unfold recP; omega) | (unfold othP; omega) | (unfold mayP recP othP at *; omega) | (unfold recP at *; omega)) w) rfl rfl) (Wt.yes rfl rfl rfl) ?_
  rintro _ _ ⟨_, _, ⟨rfl, rfl⟩, rfl, rfl⟩
  change (_ : List Blk → Prop) [_]
  refine T.q (q_not rfl rfl) (Wt.yes rfl rfl rfl) rfl rfl ?_
  refine T.q (q_pickF rfl rfl rfl) (Wt.plain rfl) rfl rfl ?_
  refine T.nil ?_
  refine Ex.next ?_
  refine W.slots (L' := [(1, _), (11, _)]) ⟨rfl, rfl, trivial⟩ ?_
  refine W.condF rfl ?_
  refine W.skip ?_
  refine Ex.next ?_
  refine W.slots (L' := [(1, _)]) ⟨rfl, trivial⟩ ?_
  refine W.seq ?_
  refine W.region ?_
  refine T.q (q_fld fl40_1 rfl rfl) (Wt.plain rfl) rfl rfl ?_
  refine T.q (q_load1 ss3 0 rfl rfl rfl rfl) (Wt.plain rfl) rfl rfl ?_
  refine T.q (q_int (b := ((r : Nat) : Int)) (q_conv un3 un5 rfl rfl) (wrap8_of (by omega) (by omega))) (Wt.plain rfl) rfl rfl ?_
  refine T.q (q_fld fl40_2 rfl rfl) (Wt.plain rfl) rfl rfl ?_
  refine T.q (q_load1 ss3 0 rfl rfl rfl rfl) (Wt.plain rfl) rfl rfl ?_
  refine T.q (q_int (b := ((p : Nat) : Int)) (q_conv un3 un5 rfl rfl) (wrap8_of (by omega) (by omega))) (Wt.plain rfl) rfl rfl ?_
  refine T.eff (e_litA sc22 ze5 rfl rfl rfl (by simp [Value.cells]) rfl rfl rfl) (Wt.plain rfl) ?_
  rintro _ _ ⟨k2, rfl, rfl⟩
  change (_ : List Blk → Prop) [_, _]
  refine T.q (q_assign rfl rfl) (Wt.plain rfl) rfl rfl ?_
  refine T.nil ?_
  refine Ex.next ?_
  refine W.slots (L' := [(1, _), (3, _)]) ⟨rfl, rfl, trivial⟩ ?_
  refine W.seq ?_
  refine W.region ?_
  refine T.q (q_move rfl rfl) (Wt.plain rfl) rfl rfl ?_
  refine T.q (q_fld fl40_3 rfl rfl) (Wt.plain rfl) rfl rfl ?_
  refine T.q (q_load1 ss3 0 rfl rfl rfl rfl) (Wt.plain rfl) rfl rfl ?_
  refine T.eff (e_call enters31 rfl rfl (fun w hm => refputf_at [3, ((r : Nat) : Int), ((p : Nat) : Int)] _ _ (by first | omega | (simp; done) | (simp; omega) | (simp at *; omega)) (by first | omega | (simp; done) | (simp; omega) | (simp at *; omega)) e (by first | omega | (simp; done) | (simp; omega) | (simp at *; omega)) 2 (by first | omega | (simp; done) | (simp; omega) | (simp at *; omega)) (by first | omega | (simp; done) | (simp; omega) | (simp at *; omega)) (Nat.lt_of_lt_of_le (show e < 65536 by omega) (by decide)) w ((R_blk 1 rfl) w hm) (by first | omega | (simp; done) | (simp [-List.getD_eq_getElem?_getD]; omega) | (simp at *; omega) | rfl)) rfl rfl) (Wt.plain rfl) ?_
  rintro _ _ ⟨_, _, ⟨k3, cap4, junk5, rfl, hc6, rfl⟩, rfl, rfl⟩
  change (_ : List Blk → Prop) [_, _, _]
  refine T.q (q_move rfl rfl) (Wt.plain rfl) rfl rfl ?_
  refine T.q (q_extract rfl rfl rfl) (Wt.plain rfl) rfl rfl ?_
  refine T.q (q_extract rfl rfl rfl) (Wt.plain rfl) rfl rfl ?_
  refine T.q (q_assign rfl rfl) (Wt.plain rfl) rfl rfl ?_
  refine T.nil ?_
  refine Ex.next ?_
  refine W.less (L' := [(1, _), (3, _)]) [true, false, true] ⟨rfl, rfl, trivial⟩ ?_
  change (_ : List Blk → Prop) [_, _]
  refine W.seq ?_
  refine W.region ?_
  refine T.q (q_move rfl rfl) (Wt.plain rfl) rfl rfl ?_
  refine T.q (q_fld fl40_4 rfl rfl) (Wt.plain rfl) rfl rfl ?_
  refine T.q (q_load1 ss3 0 rfl rfl rfl rfl) (Wt.plain rfl) rfl rfl ?_
  refine T.eff (e_call enters31 rfl rfl (fun w hm => refputf_at ([3, ((r : Nat) : Int), ((p : Nat) : Int)] ++ bigS e 2) _ _ (by first | omega | (simp; done) | (simp; omega) | (simp at *; omega)) (by first | omega | (simp; done) | (simp; omega) | (simp at *; omega)) c (by first | omega | (simp; done) | (simp; omega) | (simp at *; omega)) 6 (by first | omega | (simp; done) | (simp; omega) | (simp at *; omega)) (by first | omega | (simp; done) | (simp; omega) | (simp at *; omega)) (Nat.lt_of_lt_of_le (show c < 281474976710656 by omega) (by decide)) w ((R_pre 1 rfl) w hm) (by first | omega | (simp; done) | (simp [-List.getD_eq_getElem?_getD]; omega) | (simp at *; omega) | rfl)) rfl rfl) (Wt.plain rfl) ?_
  rintro _ _ ⟨_, _, ⟨k7, cap8, junk9, rfl, hc10, rfl⟩, rfl, rfl⟩
  change (_ : List Blk → Prop) [_, _, _]
  refine T.q (q_move rfl rfl) (Wt.plain rfl) rfl rfl ?_
  refine T.q (q_extract rfl rfl rfl) (Wt.plain rfl) rfl rfl ?_
  refine T.q (q_extract rfl rfl rfl) (Wt.plain rfl) rfl rfl ?_
  refine T.q (q_assign rfl rfl) (Wt.plain rfl) rfl rfl ?_
  refine T.nil ?_
  refine Ex.next ?_
  refine W.less (L' := [(3, _)]) [false, false, true] ⟨rfl, trivial⟩ ?_
  change (_ : List Blk → Prop) [_]
  refine W.seq ?_
  refine W.region ?_
  refine T.q (q_move rfl rfl) (Wt.plain rfl) rfl rfl ?_
  refine T.q (q_assign rfl rfl) (Wt.plain rfl) rfl rfl ?_
  refine T.nil ?_
  refine Ex.next ?_
  refine W.slots (L' := [(2, _)]) ⟨rfl, trivial⟩ ?_
  refine W.ret ?_
  refine Ex.out1 [true] rfl rfl ?_
  exact ⟨_, _, _, rfl, by first | assumption | omega, rfl⟩
set_option maxRecDepth 100000 in
theorem head_no (pk pr pp pe pc : Int) (PA : Option Addr) (n bc : Nat) (hno : ¬ recP pk pr pp pe pc n) (w0 : World) : Does Try.prog 35 #[.agg #[.int .i64 pk, .int .i64 pr, .int .i64 pp, .int .i64 pe, .int .i64 pc, .slice PA n bc]] w0 [] (fun v G => v = .slice none 0 0 ∧ G = []) := by
  refine spec_of 32 Try.func35 rfl rfl rfl ?_
  refine W.seq ?_
  refine W.region ?_
  refine T.eff (e_box rfl rfl rfl rfl) (Wt.plain rfl) ?_
  rintro _ _ ⟨k1, rfl, rfl⟩
  change (_ : List Blk → Prop) [_]
  change (_ : List Blk → Prop) [⟨some k1, [.int .i64 pk, .int .i64 pr, .int .i64 pp, .int .i64 pe, .int .i64 pc, .slice PA n bc], 40, (0, 0)⟩]
  refine T.q (q_assign rfl rfl) (Wt.plain rfl) rfl rfl ?_
  refine T.nil ?_
  refine Ex.next ?_
  refine W.slots (L' := [(1, _)]) ⟨rfl, trivial⟩ ?_
  refine W.seq ?_
  refine W.seq ?_
  refine W.region ?_
  refine T.q (q_loadW wd40 (R_blk 0 rfl) rfl rfl) (Wt.plain rfl) rfl rfl ?_
  refine T.eff (e_call enters58 rfl rfl (fun w hm => rec_false (by first | assumption | (unfold recP; omega) | (unfold othP; omega) | (unfold mayP recP othP at *; omega) | (unfold recP at *; omega)) w) rfl rfl) (Wt.plain rfl) ?_
  rintro _ _ ⟨_, _, ⟨rfl, rfl⟩, rfl, rfl⟩
  change (_ : List Blk → Prop) [_]
  refine T.q (q_not rfl rfl) (Wt.plain rfl) rfl rfl ?_
  refine T.nil ?_
  refine Ex.next ?_
  refine W.slots (L' := [(1, _), (6, _)]) ⟨rfl, rfl, trivial⟩ ?_
  refine W.condT rfl ?_
  refine W.seq ?_
  refine W.region ?_
  refine T.q (q_assign rfl rfl) (Wt.plain rfl) rfl rfl ?_
  refine T.nil ?_
  refine Ex.next ?_
  refine W.less (L' := [(2, _)]) [false] ⟨rfl, trivial⟩ ?_
  change (_ : List Blk → Prop) []
  refine W.ret ?_
  refine Ex.then_ret ?_
  refine Ex.out1 [] rfl rfl ?_
  exact ⟨rfl, rfl⟩
set_option maxRecDepth 100000 in
theorem refhead_no (pk pr pp pe pc : Int) (PA : Option Addr) (n bc : Nat) (hno : ¬ recP pk pr pp pe pc n) (w0 : World) : Does Try.prog 36 #[.agg #[.int .i64 pk, .int .i64 pr, .int .i64 pp, .int .i64 pe, .int .i64 pc, .slice PA n bc]] w0 [] (fun v G => v = .slice none 0 0 ∧ G = []) := by
  refine spec_of 34 Try.func36 rfl rfl rfl ?_
  refine W.seq ?_
  refine W.region ?_
  refine T.eff (e_box rfl rfl rfl rfl) (Wt.plain rfl) ?_
  rintro _ _ ⟨k1, rfl, rfl⟩
  change (_ : List Blk → Prop) [_]
  change (_ : List Blk → Prop) [⟨some k1, [.int .i64 pk, .int .i64 pr, .int .i64 pp, .int .i64 pe, .int .i64 pc, .slice PA n bc], 40, (0, 0)⟩]
  refine T.q (q_assign rfl rfl) (Wt.plain rfl) rfl rfl ?_
  refine T.nil ?_
  refine Ex.next ?_
  refine W.slots (L' := [(1, _)]) ⟨rfl, trivial⟩ ?_
  refine W.seq ?_
  refine W.seq ?_
  refine W.region ?_
  refine T.q (q_fld fl40_0 rfl rfl) (Wt.plain rfl) rfl rfl ?_
  refine T.q (q_load1 ss3 0 rfl rfl rfl rfl) (Wt.plain rfl) rfl rfl ?_
  refine T.q (q_neq rfl rfl rfl) (Wt.plain rfl) rfl rfl ?_
  refine T.q (q_move rfl rfl) (Wt.plain rfl) rfl rfl ?_
  refine T.both (t := 7) _ rfl (fun hb2 => ?_) (fun hb2 => ?_)
  · replace hb2 := of_decide_eq_true hb2
    refine T.no (Wn.no rfl rfl rfl rfl) rfl rfl ?_
    refine T.no (Wn.no rfl rfl rfl rfl) rfl rfl ?_
    refine T.no (Wn.no rfl rfl rfl rfl) rfl rfl ?_
    refine T.q (q_pickT rfl rfl rfl) (Wt.plain rfl) rfl rfl ?_
    refine T.nil ?_
    refine Ex.next ?_
    refine W.slots (L' := [(1, _), (11, _)]) ⟨rfl, rfl, trivial⟩ ?_
    refine W.condT rfl ?_
    refine W.seq ?_
    refine W.region ?_
    refine T.q (q_assign rfl rfl) (Wt.plain rfl) rfl rfl ?_
    refine T.nil ?_
    refine Ex.next ?_
    refine W.less (L' := [(2, _)]) [false] ⟨rfl, trivial⟩ ?_
    change (_ : List Blk → Prop) []
    refine W.ret ?_
    refine Ex.then_ret ?_
    refine Ex.out1 [] rfl rfl ?_
    exact ⟨rfl, rfl⟩
  · replace hb2 := of_decide_eq_false hb2
    refine T.q (q_loadW wd40 (R_blk 0 rfl) rfl rfl) (Wt.yes rfl rfl rfl) rfl rfl ?_
    refine T.eff (e_call enters42 rfl rfl (fun w hm => may_false (by first | assumption | (unfold recP; omega) | (unfold othP; omega) | (unfold mayP recP othP at *; omega) | (unfold recP at *; omega)) w) rfl rfl) (Wt.yes rfl rfl rfl) ?_
    rintro _ _ ⟨_, _, ⟨rfl, rfl⟩, rfl, rfl⟩
    change (_ : List Blk → Prop) [_]
    refine T.q (q_not rfl rfl) (Wt.yes rfl rfl rfl) rfl rfl ?_
    refine T.q (q_pickF rfl rfl rfl) (Wt.plain rfl) rfl rfl ?_
    refine T.nil ?_
    refine Ex.next ?_
    refine W.slots (L' := [(1, _), (11, _)]) ⟨rfl, rfl, trivial⟩ ?_
    refine W.condT rfl ?_
    refine W.seq ?_
    refine W.region ?_
    refine T.q (q_assign rfl rfl) (Wt.plain rfl) rfl rfl ?_
    refine T.nil ?_
    refine Ex.next ?_
    refine W.less (L' := [(2, _)]) [false] ⟨rfl, trivial⟩ ?_
    change (_ : List Blk → Prop) []
    refine W.ret ?_
    refine Ex.then_ret ?_
    refine Ex.out1 [] rfl rfl ?_
    exact ⟨rfl, rfl⟩

end Go.Proofs.Ytmkjnefongjniaa
