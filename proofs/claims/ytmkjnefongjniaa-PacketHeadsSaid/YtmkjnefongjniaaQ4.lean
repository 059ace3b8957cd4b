/-
  The walks of layer 11: what is written.
-/
import Derived.Test.YtmkjnefongjniaaQ2
namespace Go.Proofs.Ytmkjnefongjniaa
open Go Go.X

set_option maxRecDepth 100000 in
theorem print_A (r p e c : Nat) (hr : r ≤ 1) (hp : p ≤ 255) (he : e ≤ 65535) (hc : c ≤ 281474976710655) (PA : Option Addr) (bd : List Int) (bc : Nat) (hbc : bd.length ≤ bc) (h16 : 16 ≤ bd.length) (h272 : bd.length ≤ 272) (w0 : World) (hP : Reads w0 PA (ints .u8 bd)) : Does Try.prog 33 #[.agg #[.int .i64 3, .int .i64 ((r : Nat) : Int), .int .i64 ((p : Nat) : Int), .int .i64 ((e : Nat) : Int), .int .i64 ((c : Nat) : Int), .slice PA bd.length bc]] w0 [] (fun v G => ∃ (k cap : Nat) (junk : List Value), v = .tuple #[.slice (some ⟨k, 0, none⟩) (11 + bd.length) cap, .int .i64 0] ∧ 11 + bd.length + junk.length = cap ∧ G = [⟨some k, ints .u8 (hd r p e c ++ bd) ++ junk, 5, (0, 0)⟩]) := by
  refine spec_of 22 Try.func33 rfl rfl rfl ?_
  refine W.seq ?_
  refine W.region ?_
  refine T.eff (e_box rfl rfl rfl rfl) (Wt.plain rfl) ?_
  rintro _ _ ⟨k1, rfl, rfl⟩
  change (_ : List Blk → Prop) [_]
  change (_ : List Blk → Prop) [⟨some k1, [.int .i64 3, .int .i64 ((r : Nat) : Int), .int .i64 ((p : Nat) : Int), .int .i64 ((e : Nat) : Int), .int .i64 ((c : Nat) : Int), .slice PA bd.length bc], 40, (0, 0)⟩]
  refine T.q (q_assign rfl rfl) (Wt.plain rfl) rfl rfl ?_
  refine T.q (q_assign rfl rfl) (Wt.plain rfl) rfl rfl ?_
  refine T.nil ?_
  refine Ex.next ?_
  refine W.slots (L' := [(1, _)]) ⟨rfl, trivial⟩ ?_
  refine W.seq ?_
  refine W.block ?_
  refine W.seq ?_
  refine W.region ?_
  refine T.q (q_loadW wd40 (R_blk 0 rfl) rfl rfl) (Wt.plain rfl) rfl rfl ?_
  refine T.eff (e_call enters58 rfl rfl (fun w hm => rec_true (by first | assumption | (unfold recP; omega) | (unfold othP; omega) | (unfold mayP recP othP at *; omega) | (unfold recP at *; omega)) w) rfl rfl) (Wt.plain rfl) ?_
  rintro _ _ ⟨_, _, ⟨rfl, rfl⟩, rfl, rfl⟩
  change (_ : List Blk → Prop) [_]
  refine T.q (q_assign rfl rfl) (Wt.plain rfl) rfl rfl ?_
  refine T.nil ?_
  refine Ex.next ?_
  refine W.slots (L' := [(1, _), (4, _)]) ⟨rfl, rfl, trivial⟩ ?_
  refine W.condT rfl ?_
  refine W.seq ?_
  refine W.draw 5 (by kernel_rfl) ?_
  refine D.take 0 rfl (by kernel_rfl) (fun _ h => h) (q_loadW wd40 (R_blk 0 rfl) rfl rfl) (Wt.plain rfl) rfl rfl ?_
  refine D.take 2 rfl (by kernel_rfl) (fun _ h => h) (q_fld fl40_5 rfl rfl) (Wt.plain rfl) rfl rfl ?_
  refine D.take 3 rfl (by kernel_rfl) (fun _ h => h) (q_load1 ss22 0 rfl rfl rfl rfl) (Wt.plain rfl) rfl rfl ?_
  refine D.one 1 (by kernel_rfl) ?_
  refine Up.eff rfl (e_call enters35 rfl rfl (fun w hm => head_yes r p e c (by first | omega | (simp; done) | (simp; omega) | (simp at *; omega)) (by first | omega | (simp; done) | (simp; omega) | (simp at *; omega)) (by first | omega | (simp; done) | (simp; omega) | (simp at *; omega)) (by first | omega | (simp; done) | (simp; omega) | (simp at *; omega)) _ _ _ (by first | omega | (simp; done) | (simp; omega) | (simp at *; omega)) (by first | omega | (simp; done) | (simp; omega) | (simp at *; omega)) w) rfl rfl) (Wt.plain rfl) ?_
  rintro _ _ ⟨_, _, ⟨k2, cap3, junk4, rfl, hc5, rfl⟩, rfl, rfl⟩
  refine ⟨fun _ => (S_sub (((List.Sublist.slnil).cons _).cons_cons _)), ?_⟩
  change (_ : List Blk → Prop) [_, _]
  refine D.one 4 (by kernel_rfl) ?_
  refine Up.eff rfl (e_appendI sc22 ze5 rfl 1 .u8 (hd r p e c) bd junk4 (rfl) (R_ext hP.ext) rfl rfl rfl rfl (by first | omega | (simp; done) | (simp [-List.getD_eq_getElem?_getD]; omega) | (simp at *; omega) | rfl) (by first | omega | (simp; done) | (simp [-List.getD_eq_getElem?_getD]; omega) | (simp at *; omega) | rfl) (by first | omega | (simp; done) | (simp [-List.getD_eq_getElem?_getD]; omega) | (simp at *; omega) | rfl) (by first | omega | (simp; done) | (simp [-List.getD_eq_getElem?_getD]; omega)) (by first | omega | (simp; done) | (simp [-List.getD_eq_getElem?_getD]; omega)) rfl rfl) (Wt.plain rfl) ?_
  rintro _ _ ⟨k6, cap7, junk8, hc9, rfl, rfl⟩
  refine ⟨fun _ => (S_sub (((List.Sublist.slnil).cons _).cons_cons _)), ?_⟩
  change (_ : List Blk → Prop) [_, _]
  refine D.one 5 (by kernel_rfl) ?_
  refine Up.q rfl (q_assign rfl rfl) (Wt.plain rfl) rfl rfl (fun h => absurd h (by decide)) ?_
  refine D.one 6 (by kernel_rfl) ?_
  refine Up.q rfl (q_assign rfl rfl) (Wt.plain rfl) rfl rfl (fun h => absurd h (by decide)) ?_
  refine D.done (by kernel_rfl) ?_
  refine Ex.next ?_
  refine W.less (L' := [(2, _), (3, _)]) [false, true] ⟨rfl, rfl, trivial⟩ ?_
  change (_ : List Blk → Prop) [_]
  refine W.ret ?_
  refine Ex.in_ret ?_
  refine Ex.then_ret ?_
  refine Ex.out2 [true] rfl rfl rfl ?_
  exact ⟨_, _, _, rfl, by first | assumption | omega, rfl⟩
set_option maxRecDepth 100000 in
theorem refprint_A (r p e c : Nat) (hr : r ≤ 1) (hp : p ≤ 255) (he : e ≤ 65535) (hc : c ≤ 281474976710655) (PA : Option Addr) (bd : List Int) (bc : Nat) (hbc : bd.length ≤ bc) (h16 : 16 ≤ bd.length) (h272 : bd.length ≤ 272) (w0 : World) (hP : Reads w0 PA (ints .u8 bd)) : Does Try.prog 34 #[.agg #[.int .i64 3, .int .i64 ((r : Nat) : Int), .int .i64 ((p : Nat) : Int), .int .i64 ((e : Nat) : Int), .int .i64 ((c : Nat) : Int), .slice PA bd.length bc]] w0 [] (fun v G => ∃ (k cap : Nat) (junk : List Value), v = .tuple #[.slice (some ⟨k, 0, none⟩) (11 + bd.length) cap, .int .i64 0] ∧ 11 + bd.length + junk.length = cap ∧ G = [⟨some k, ints .u8 (hd r p e c ++ bd) ++ junk, 5, (0, 0)⟩]) := by
  refine spec_of 21 Try.func34 rfl rfl rfl ?_
  refine W.seq ?_
  refine W.region ?_
  refine T.eff (e_box rfl rfl rfl rfl) (Wt.plain rfl) ?_
  rintro _ _ ⟨k1, rfl, rfl⟩
  change (_ : List Blk → Prop) [_]
  change (_ : List Blk → Prop) [⟨some k1, [.int .i64 3, .int .i64 ((r : Nat) : Int), .int .i64 ((p : Nat) : Int), .int .i64 ((e : Nat) : Int), .int .i64 ((c : Nat) : Int), .slice PA bd.length bc], 40, (0, 0)⟩]
  refine T.q (q_assign rfl rfl) (Wt.plain rfl) rfl rfl ?_
  refine T.q (q_assign rfl rfl) (Wt.plain rfl) rfl rfl ?_
  refine T.nil ?_
  refine Ex.next ?_
  refine W.slots (L' := [(1, _)]) ⟨rfl, trivial⟩ ?_
  refine W.seq ?_
  refine W.seq ?_
  refine W.region ?_
  refine T.q (q_loadW wd40 (R_blk 0 rfl) rfl rfl) (Wt.plain rfl) rfl rfl ?_
  refine T.eff (e_call enters42 rfl rfl (fun w hm => may_true (by first | assumption | (unfold recP; omega) | (unfold othP; omega) | (unfold mayP recP othP at *; omega) | (unfold recP at *; omega)) w) rfl rfl) (Wt.plain rfl) ?_
  rintro _ _ ⟨_, _, ⟨rfl, rfl⟩, rfl, rfl⟩
  change (_ : List Blk → Prop) [_]
  refine T.q (q_not rfl rfl) (Wt.plain rfl) rfl rfl ?_
  refine T.nil ?_
  refine Ex.next ?_
  refine W.slots (L' := [(1, _), (7, _)]) ⟨rfl, rfl, trivial⟩ ?_
  refine W.condF rfl ?_
  refine W.skip ?_
  refine Ex.next ?_
  refine W.slots (L' := [(1, _)]) ⟨rfl, trivial⟩ ?_
  refine W.seq ?_
  refine W.region ?_
  refine T.q (q_loadW wd40 (R_blk 0 rfl) rfl rfl) (Wt.plain rfl) rfl rfl ?_
  refine T.eff (e_call enters36 rfl rfl (fun w hm => refhead_yes r p e c (by first | omega | (simp; done) | (simp; omega) | (simp at *; omega)) (by first | omega | (simp; done) | (simp; omega) | (simp at *; omega)) (by first | omega | (simp; done) | (simp; omega) | (simp at *; omega)) (by first | omega | (simp; done) | (simp; omega) | (simp at *; omega)) _ _ _ (by first | omega | (simp; done) | (simp; omega) | (simp at *; omega)) (by first | omega | (simp; done) | (simp; omega) | (simp at *; omega)) w) rfl rfl) (Wt.plain rfl) ?_
  rintro _ _ ⟨_, _, ⟨k2, cap3, junk4, rfl, hc5, rfl⟩, rfl, rfl⟩
  change (_ : List Blk → Prop) [_, _]
  refine T.q (q_assign rfl rfl) (Wt.plain rfl) rfl rfl ?_
  refine T.nil ?_
  refine Ex.next ?_
  refine W.slots (L' := [(1, _), (4, _)]) ⟨rfl, rfl, trivial⟩ ?_
  refine W.seq ?_
  refine W.seq ?_
  refine W.region ?_
  refine T.q (q_fld fl40_0 rfl rfl) (Wt.plain rfl) rfl rfl ?_
  refine T.q (q_load1 ss3 0 rfl rfl rfl rfl) (Wt.plain rfl) rfl rfl ?_
  refine T.q (q_bool (b := false) (q_neq rfl rfl rfl) (decide_eq_false (by omega))) (Wt.plain rfl) rfl rfl ?_
  refine T.nil ?_
  refine Ex.next ?_
  refine W.slots (L' := [(1, _), (4, _), (12, _)]) ⟨rfl, rfl, rfl, trivial⟩ ?_
  refine W.condF rfl ?_
  refine W.skip ?_
  refine Ex.next ?_
  refine W.slots (L' := [(1, _), (4, _)]) ⟨rfl, rfl, trivial⟩ ?_
  refine W.seq ?_
  refine W.region ?_
  refine T.q (q_move rfl rfl) (Wt.plain rfl) rfl rfl ?_
  refine T.q (q_fld fl40_5 rfl rfl) (Wt.plain rfl) rfl rfl ?_
  refine T.q (q_load1 ss22 0 rfl rfl rfl rfl) (Wt.plain rfl) rfl rfl ?_
  refine T.eff (e_appendI sc22 ze5 rfl 1 .u8 (hd r p e c) bd junk4 (rfl) (R_ext hP.ext) rfl rfl rfl rfl (by first | omega | (simp; done) | (simp [-List.getD_eq_getElem?_getD]; omega) | (simp at *; omega) | rfl) (by first | omega | (simp; done) | (simp [-List.getD_eq_getElem?_getD]; omega) | (simp at *; omega) | rfl) (by first | omega | (simp; done) | (simp [-List.getD_eq_getElem?_getD]; omega) | (simp at *; omega) | rfl) (by first | omega | (simp; done) | (simp [-List.getD_eq_getElem?_getD]; omega)) (by first | omega | (simp; done) | (simp [-List.getD_eq_getElem?_getD]; omega)) rfl rfl) (Wt.plain rfl) ?_
  rintro _ _ ⟨k6, cap7, junk8, hc9, rfl, rfl⟩
  change (_ : List Blk → Prop) [_, _]
  refine T.q (q_assign rfl rfl) (Wt.plain rfl) rfl rfl ?_
  refine T.q (q_assign rfl rfl) (Wt.plain rfl) rfl rfl ?_
  refine T.nil ?_
  refine Ex.next ?_
  refine W.less (L' := [(2, _), (3, _)]) [false, true] ⟨rfl, rfl, trivial⟩ ?_
  change (_ : List Blk → Prop) [_]
  refine W.ret ?_
  refine Ex.out2 [true] rfl rfl rfl ?_
  exact ⟨_, _, _, rfl, by first | assumption | omega, rfl⟩
set_option maxRecDepth 100000 in
theorem print_B (pk : Int) (hk : pk = 1 ∨ pk = 2) (PA : Option Addr) (bd : List Int) (bc : Nat) (hbc : bd.length ≤ bc) (h1 : 1 ≤ bd.length) (h300 : bd.length ≤ 300) (w0 : World) (hP : Reads w0 PA (ints .u8 bd)) : Does Try.prog 33 #[.agg #[.int .i64 pk, .int .i64 0, .int .i64 0, .int .i64 0, .int .i64 0, .slice PA bd.length bc]] w0 [] (fun v G => ∃ (k cap : Nat) (junk : List Value), v = .tuple #[.slice (some ⟨k, 0, none⟩) (1 + bd.length) cap, .int .i64 0] ∧ 1 + bd.length + junk.length = cap ∧ G = [⟨some k, ints .u8 ([pk] ++ bd) ++ junk, 5, (0, 0)⟩]) := by
  refine spec_of 22 Try.func33 rfl rfl rfl ?_
  refine W.seq ?_
  refine W.region ?_
  refine T.eff (e_box rfl rfl rfl rfl) (Wt.plain rfl) ?_
  rintro _ _ ⟨k1, rfl, rfl⟩
  change (_ : List Blk → Prop) [_]
  change (_ : List Blk → Prop) [⟨some k1, [.int .i64 pk, .int .i64 0, .int .i64 0, .int .i64 0, .int .i64 0, .slice PA bd.length bc], 40, (0, 0)⟩]
  refine T.q (q_assign rfl rfl) (Wt.plain rfl) rfl rfl ?_
  refine T.q (q_assign rfl rfl) (Wt.plain rfl) rfl rfl ?_
  refine T.nil ?_
  refine Ex.next ?_
  refine W.slots (L' := [(1, _)]) ⟨rfl, trivial⟩ ?_
  refine W.seq ?_
  refine W.block ?_
  refine W.seq ?_
  refine W.region ?_
  refine T.q (q_loadW wd40 (R_blk 0 rfl) rfl rfl) (Wt.plain rfl) rfl rfl ?_
  refine T.eff (e_call enters58 rfl rfl (fun w hm => rec_false (by first | assumption | (unfold recP; omega) | (unfold othP; omega) | (unfold mayP recP othP at *; omega) | (unfold recP at *; omega)) w) rfl rfl) (Wt.plain rfl) ?_
  rintro _ _ ⟨_, _, ⟨rfl, rfl⟩, rfl, rfl⟩
  change (_ : List Blk → Prop) [_]
  refine T.q (q_assign rfl rfl) (Wt.plain rfl) rfl rfl ?_
  refine T.nil ?_
  refine Ex.next ?_
  refine W.slots (L' := [(1, _), (4, _)]) ⟨rfl, rfl, trivial⟩ ?_
  refine W.condF rfl ?_
  refine W.seq ?_
  refine W.region ?_
  refine T.q (q_loadW wd40 (R_blk 0 rfl) rfl rfl) (Wt.plain rfl) rfl rfl ?_
  refine T.eff (e_call enters59 rfl rfl (fun w hm => oth_true (by first | assumption | (unfold recP; omega) | (unfold othP; omega) | (unfold mayP recP othP at *; omega) | (unfold recP at *; omega)) w) rfl rfl) (Wt.plain rfl) ?_
  rintro _ _ ⟨_, _, ⟨rfl, rfl⟩, rfl, rfl⟩
  change (_ : List Blk → Prop) [_]
  refine T.q (q_assign rfl rfl) (Wt.plain rfl) rfl rfl ?_
  refine T.nil ?_
  refine Ex.next ?_
  refine W.slots (L' := [(1, _), (12, _)]) ⟨rfl, rfl, trivial⟩ ?_
  refine W.condT rfl ?_
  refine W.seq ?_
  refine W.region ?_
  refine T.q (q_fld fl40_0 rfl rfl) (Wt.plain rfl) rfl rfl ?_
  refine T.q (q_load1 ss3 0 rfl rfl rfl rfl) (Wt.plain rfl) rfl rfl ?_
  refine T.q (q_int (b := pk) (q_conv un3 un5 rfl rfl) (wrap8_of (by omega) (by omega))) (Wt.plain rfl) rfl rfl ?_
  refine T.eff (e_litA sc22 ze5 rfl rfl rfl (by simp [Value.cells]) rfl rfl rfl) (Wt.plain rfl) ?_
  rintro _ _ ⟨k2, rfl, rfl⟩
  change (_ : List Blk → Prop) [_, _]
  refine T.q (q_fld fl40_5 rfl rfl) (Wt.plain rfl) rfl rfl ?_
  refine T.q (q_load1 ss22 0 rfl rfl rfl rfl) (Wt.plain rfl) rfl rfl ?_
  refine T.eff (e_appendI sc22 ze5 rfl 1 .u8 [pk] bd [] ((List.append_nil _).symm) (R_ext hP.ext) rfl rfl rfl rfl (by first | omega | (simp; done) | (simp [-List.getD_eq_getElem?_getD]; omega) | (simp at *; omega) | rfl) (by first | omega | (simp; done) | (simp [-List.getD_eq_getElem?_getD]; omega) | (simp at *; omega) | rfl) (by first | omega | (simp; done) | (simp [-List.getD_eq_getElem?_getD]; omega) | (simp at *; omega) | rfl) (by first | omega | (simp; done) | (simp [-List.getD_eq_getElem?_getD]; omega)) (by first | omega | (simp; done) | (simp [-List.getD_eq_getElem?_getD]; omega)) rfl rfl) (Wt.plain rfl) ?_
  rintro _ _ ⟨k3, cap4, junk5, hc6, rfl, rfl⟩
  change (_ : List Blk → Prop) [_, _]
  refine T.q (q_assign rfl rfl) (Wt.plain rfl) rfl rfl ?_
  refine T.q (q_assign rfl rfl) (Wt.plain rfl) rfl rfl ?_
  refine T.nil ?_
  refine Ex.next ?_
  refine W.less (L' := [(2, _), (3, _)]) [false, true] ⟨rfl, rfl, trivial⟩ ?_
  change (_ : List Blk → Prop) [_]
  refine W.ret ?_
  refine Ex.in_ret ?_
  refine Ex.then_ret ?_
  refine Ex.out2 [true] rfl rfl rfl ?_
  exact ⟨_, _, _, rfl, by first | assumption | omega, rfl⟩
set_option maxRecDepth 100000 in
theorem refprint_B (pk : Int) (hk : pk = 1 ∨ pk = 2) (PA : Option Addr) (bd : List Int) (bc : Nat) (hbc : bd.length ≤ bc) (h1 : 1 ≤ bd.length) (h300 : bd.length ≤ 300) (w0 : World) (hP : Reads w0 PA (ints .u8 bd)) : Does Try.prog 34 #[.agg #[.int .i64 pk, .int .i64 0, .int .i64 0, .int .i64 0, .int .i64 0, .slice PA bd.length bc]] w0 [] (fun v G => ∃ (k cap : Nat) (junk : List Value), v = .tuple #[.slice (some ⟨k, 0, none⟩) (1 + bd.length) cap, .int .i64 0] ∧ 1 + bd.length + junk.length = cap ∧ G = [⟨some k, ints .u8 ([pk] ++ bd) ++ junk, 5, (0, 0)⟩]) := by
  refine spec_of 21 Try.func34 rfl rfl rfl ?_
  refine W.seq ?_
  refine W.region ?_
  refine T.eff (e_box rfl rfl rfl rfl) (Wt.plain rfl) ?_
  rintro _ _ ⟨k1, rfl, rfl⟩
  change (_ : List Blk → Prop) [_]
  change (_ : List Blk → Prop) [⟨some k1, [.int .i64 pk, .int .i64 0, .int .i64 0, .int .i64 0, .int .i64 0, .slice PA bd.length bc], 40, (0, 0)⟩]
  refine T.q (q_assign rfl rfl) (Wt.plain rfl) rfl rfl ?_
  refine T.q (q_assign rfl rfl) (Wt.plain rfl) rfl rfl ?_
  refine T.nil ?_
  refine Ex.next ?_
  refine W.slots (L' := [(1, _)]) ⟨rfl, trivial⟩ ?_
  refine W.seq ?_
  refine W.seq ?_
  refine W.region ?_
  refine T.q (q_loadW wd40 (R_blk 0 rfl) rfl rfl) (Wt.plain rfl) rfl rfl ?_
  refine T.eff (e_call enters42 rfl rfl (fun w hm => may_true (by first | assumption | (unfold recP; omega) | (unfold othP; omega) | (unfold mayP recP othP at *; omega) | (unfold recP at *; omega)) w) rfl rfl) (Wt.plain rfl) ?_
  rintro _ _ ⟨_, _, ⟨rfl, rfl⟩, rfl, rfl⟩
  change (_ : List Blk → Prop) [_]
  refine T.q (q_not rfl rfl) (Wt.plain rfl) rfl rfl ?_
  refine T.nil ?_
  refine Ex.next ?_
  refine W.slots (L' := [(1, _), (7, _)]) ⟨rfl, rfl, trivial⟩ ?_
  refine W.condF rfl ?_
  refine W.skip ?_
  refine Ex.next ?_
  refine W.slots (L' := [(1, _)]) ⟨rfl, trivial⟩ ?_
  refine W.seq ?_
  refine W.region ?_
  refine T.q (q_loadW wd40 (R_blk 0 rfl) rfl rfl) (Wt.plain rfl) rfl rfl ?_
  refine T.eff (e_call enters36 rfl rfl (fun w hm => refhead_no _ _ _ _ _ _ _ _ (by first | assumption | (unfold recP; omega) | (unfold othP; omega) | (unfold mayP recP othP at *; omega) | (unfold recP at *; omega)) w) rfl rfl) (Wt.plain rfl) ?_
  rintro _ _ ⟨_, _, ⟨rfl, rfl⟩, rfl, rfl⟩
  change (_ : List Blk → Prop) [_]
  refine T.q (q_assign rfl rfl) (Wt.plain rfl) rfl rfl ?_
  refine T.nil ?_
  refine Ex.next ?_
  refine W.slots (L' := [(1, _), (4, _)]) ⟨rfl, rfl, trivial⟩ ?_
  refine W.seq ?_
  refine W.seq ?_
  refine W.region ?_
  refine T.q (q_fld fl40_0 rfl rfl) (Wt.plain rfl) rfl rfl ?_
  refine T.q (q_load1 ss3 0 rfl rfl rfl rfl) (Wt.plain rfl) rfl rfl ?_
  refine T.q (q_bool (b := true) (q_neq rfl rfl rfl) (decide_eq_true (by omega))) (Wt.plain rfl) rfl rfl ?_
  refine T.nil ?_
  refine Ex.next ?_
  refine W.slots (L' := [(1, _), (4, _), (12, _)]) ⟨rfl, rfl, rfl, trivial⟩ ?_
  refine W.condT rfl ?_
  refine W.region ?_
  refine T.q (q_fld fl40_0 rfl rfl) (Wt.plain rfl) rfl rfl ?_
  refine T.q (q_load1 ss3 0 rfl rfl rfl rfl) (Wt.plain rfl) rfl rfl ?_
  refine T.q (q_int (b := pk) (q_conv un3 un5 rfl rfl) (wrap8_of (by omega) (by omega))) (Wt.plain rfl) rfl rfl ?_
  refine T.eff (e_litA sc22 ze5 rfl rfl rfl (by simp [Value.cells]) rfl rfl rfl) (Wt.plain rfl) ?_
  rintro _ _ ⟨k2, rfl, rfl⟩
  change (_ : List Blk → Prop) [_, _]
  refine T.q (q_assign rfl rfl) (Wt.plain rfl) rfl rfl ?_
  refine T.nil ?_
  refine Ex.next ?_
  refine W.slots (L' := [(1, _), (4, _)]) ⟨rfl, rfl, trivial⟩ ?_
  refine W.seq ?_
  refine W.region ?_
  refine T.q (q_move rfl rfl) (Wt.plain rfl) rfl rfl ?_
  refine T.q (q_fld fl40_5 rfl rfl) (Wt.plain rfl) rfl rfl ?_
  refine T.q (q_load1 ss22 0 rfl rfl rfl rfl) (Wt.plain rfl) rfl rfl ?_
  refine T.eff (e_appendI sc22 ze5 rfl 1 .u8 [pk] bd [] ((List.append_nil _).symm) (R_ext hP.ext) rfl rfl rfl rfl (by first | omega | (simp; done) | (simp [-List.getD_eq_getElem?_getD]; omega) | (simp at *; omega) | rfl) (by first | omega | (simp; done) | (simp [-List.getD_eq_getElem?_getD]; omega) | (simp at *; omega) | rfl) (by first | omega | (simp; done) | (simp [-List.getD_eq_getElem?_getD]; omega) | (simp at *; omega) | rfl) (by first | omega | (simp; done) | (simp [-List.getD_eq_getElem?_getD]; omega)) (by first | omega | (simp; done) | (simp [-List.getD_eq_getElem?_getD]; omega)) rfl rfl) (Wt.plain rfl) ?_
  rintro _ _ ⟨k3, cap4, junk5, hc6, rfl, rfl⟩
  change (_ : List Blk → Prop) [_, _]
  refine T.q (q_assign rfl rfl) (Wt.plain rfl) rfl rfl ?_
  refine T.q (q_assign rfl rfl) (Wt.plain rfl) rfl rfl ?_
  refine T.nil ?_
  refine Ex.next ?_
  refine W.less (L' := [(2, _), (3, _)]) [false, true] ⟨rfl, rfl, trivial⟩ ?_
  change (_ : List Blk → Prop) [_]
  refine W.ret ?_
  refine Ex.out2 [true] rfl rfl rfl ?_
  exact ⟨_, _, _, rfl, by first | assumption | omega, rfl⟩
set_option maxRecDepth 100000 in
theorem print_C (pk pr pp pe pc : Int) (PA : Option Addr) (n bc : Nat) (hno : ¬ recP pk pr pp pe pc n) (hnt : ¬ othP pk pr pp pe pc n) (w0 : World) : Does Try.prog 33 #[.agg #[.int .i64 pk, .int .i64 pr, .int .i64 pp, .int .i64 pe, .int .i64 pc, .slice PA n bc]] w0 [] (fun v G => v = .tuple #[.slice none 0 0, .int .i64 110] ∧ G = []) := by
  refine spec_of 22 Try.func33 rfl rfl rfl ?_
  refine W.seq ?_
  refine W.region ?_
  refine T.eff (e_box rfl rfl rfl rfl) (Wt.plain rfl) ?_
  rintro _ _ ⟨k1, rfl, rfl⟩
  change (_ : List Blk → Prop) [_]
  change (_ : List Blk → Prop) [⟨some k1, [.int .i64 pk, .int .i64 pr, .int .i64 pp, .int .i64 pe, .int .i64 pc, .slice PA n bc], 40, (0, 0)⟩]
  refine T.q (q_assign rfl rfl) (Wt.plain rfl) rfl rfl ?_
  refine T.q (q_assign rfl rfl) (Wt.plain rfl) rfl rfl ?_
  refine T.nil ?_
  refine Ex.next ?_
  refine W.slots (L' := [(1, _)]) ⟨rfl, trivial⟩ ?_
  refine W.seq ?_
  refine W.block ?_
  refine W.seq ?_
  refine W.region ?_
  refine T.q (q_loadW wd40 (R_blk 0 rfl) rfl rfl) (Wt.plain rfl) rfl rfl ?_
  refine T.eff (e_call enters58 rfl rfl (fun w hm => rec_false (by first | assumption | (unfold recP; omega) | (unfold othP; omega) | (unfold mayP recP othP at *; omega) | (unfold recP at *; omega)) w) rfl rfl) (Wt.plain rfl) ?_
  rintro _ _ ⟨_, _, ⟨rfl, rfl⟩, rfl, rfl⟩
  change (_ : List Blk → Prop) [_]
  refine T.q (q_assign rfl rfl) (Wt.plain rfl) rfl rfl ?_
  refine T.nil ?_
  refine Ex.next ?_
  refine W.slots (L' := [(1, _), (4, _)]) ⟨rfl, rfl, trivial⟩ ?_
  refine W.condF rfl ?_
  refine W.seq ?_
  refine W.region ?_
  refine T.q (q_loadW wd40 (R_blk 0 rfl) rfl rfl) (Wt.plain rfl) rfl rfl ?_
  refine T.eff (e_call enters59 rfl rfl (fun w hm => oth_false (by first | assumption | (unfold recP; omega) | (unfold othP; omega) | (unfold mayP recP othP at *; omega) | (unfold recP at *; omega)) w) rfl rfl) (Wt.plain rfl) ?_
  rintro _ _ ⟨_, _, ⟨rfl, rfl⟩, rfl, rfl⟩
  change (_ : List Blk → Prop) [_]
  refine T.q (q_assign rfl rfl) (Wt.plain rfl) rfl rfl ?_
  refine T.nil ?_
  refine Ex.next ?_
  refine W.slots (L' := [(1, _), (12, _)]) ⟨rfl, rfl, trivial⟩ ?_
  refine W.condF rfl ?_
  refine W.skip ?_
  refine Ex.in_normal ?_
  refine Ex.next ?_
  refine W.less (L' := []) [false] trivial ?_
  change (_ : List Blk → Prop) []
  refine W.seq ?_
  refine W.region ?_
  refine T.q (q_assign rfl rfl) (Wt.plain rfl) rfl rfl ?_
  refine T.q (q_assign rfl rfl) (Wt.plain rfl) rfl rfl ?_
  refine T.nil ?_
  refine Ex.next ?_
  refine W.slots (L' := [(2, _), (3, _)]) ⟨rfl, rfl, trivial⟩ ?_
  refine W.ret ?_
  refine Ex.out2 [] rfl rfl rfl ?_
  exact ⟨rfl, rfl⟩
set_option maxRecDepth 100000 in
theorem refprint_C (pk pr pp pe pc : Int) (PA : Option Addr) (n bc : Nat) (hno : ¬ recP pk pr pp pe pc n) (hnt : ¬ othP pk pr pp pe pc n) (w0 : World) : Does Try.prog 34 #[.agg #[.int .i64 pk, .int .i64 pr, .int .i64 pp, .int .i64 pe, .int .i64 pc, .slice PA n bc]] w0 [] (fun v G => v = .tuple #[.slice none 0 0, .int .i64 110] ∧ G = []) := by
  refine spec_of 21 Try.func34 rfl rfl rfl ?_
  refine W.seq ?_
  refine W.region ?_
  refine T.eff (e_box rfl rfl rfl rfl) (Wt.plain rfl) ?_
  rintro _ _ ⟨k1, rfl, rfl⟩
  change (_ : List Blk → Prop) [_]
  change (_ : List Blk → Prop) [⟨some k1, [.int .i64 pk, .int .i64 pr, .int .i64 pp, .int .i64 pe, .int .i64 pc, .slice PA n bc], 40, (0, 0)⟩]
  refine T.q (q_assign rfl rfl) (Wt.plain rfl) rfl rfl ?_
  refine T.q (q_assign rfl rfl) (Wt.plain rfl) rfl rfl ?_
  refine T.nil ?_
  refine Ex.next ?_
  refine W.slots (L' := [(1, _)]) ⟨rfl, trivial⟩ ?_
  refine W.seq ?_
  refine W.seq ?_
  refine W.region ?_
  refine T.q (q_loadW wd40 (R_blk 0 rfl) rfl rfl) (Wt.plain rfl) rfl rfl ?_
  refine T.eff (e_call enters42 rfl rfl (fun w hm => may_false (fun h => h.elim hno hnt) w) rfl rfl) (Wt.plain rfl) ?_
  rintro _ _ ⟨_, _, ⟨rfl, rfl⟩, rfl, rfl⟩
  change (_ : List Blk → Prop) [_]
  refine T.q (q_not rfl rfl) (Wt.plain rfl) rfl rfl ?_
  refine T.nil ?_
  refine Ex.next ?_
  refine W.slots (L' := [(1, _), (7, _)]) ⟨rfl, rfl, trivial⟩ ?_
  refine W.condT rfl ?_
  refine W.seq ?_
  refine W.region ?_
  refine T.q (q_assign rfl rfl) (Wt.plain rfl) rfl rfl ?_
  refine T.q (q_assign rfl rfl) (Wt.plain rfl) rfl rfl ?_
  refine T.nil ?_
  refine Ex.next ?_
  refine W.less (L' := [(2, _), (3, _)]) [false] ⟨rfl, rfl, trivial⟩ ?_
  change (_ : List Blk → Prop) []
  refine W.ret ?_
  refine Ex.then_ret ?_
  refine Ex.out2 [] rfl rfl rfl ?_
  exact ⟨rfl, rfl⟩

end Go.Proofs.Ytmkjnefongjniaa
