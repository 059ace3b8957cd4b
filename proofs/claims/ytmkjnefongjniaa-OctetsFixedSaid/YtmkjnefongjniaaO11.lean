/-
  Statements of layer 9.
-/
import Derived.Test.YtmkjnefongjniaaO10
namespace Go.Proofs.Ytmkjnefongjniaa
open Go Go.X

set_option maxRecDepth 100000 in
theorem vars_good (b : List Int) (BA : Option Addr) (bc : Nat) (hbc : b.length ≤ bc) (hbl : b.length ≤ 140737488351232) (_hbb : Bytes b) (n : Nat) (hn : n < 4611686018427387904) (w0 : World) (hB : Reads w0 BA (ints .u8 b)) : Does Try.prog 3 #[.slice BA b.length bc, .int .i64 ((n : Nat) : Int)] w0 [] (fun v G => v = .bool true ∧ G = []) := by
  refine spec_of 47 Try.func3 rfl rfl rfl ?_
  refine W.seq ?_
  refine W.region ?_
  refine T.q (q_assign rfl rfl) (Wt.plain rfl) rfl rfl ?_
  refine T.nil ?_
  refine Ex.next ?_
  refine W.slots (L' := [(0, _), (1, _)]) ⟨rfl, rfl, trivial⟩ ?_
  refine W.seq ?_
  refine W.region ?_
  refine T.eff (e_call enters19 rfl rfl (fun w hm => shown09_spec w) rfl rfl) (Wt.plain rfl) ?_
  rintro _ _ ⟨_, _, ⟨rfl, rfl⟩, rfl, rfl⟩
  change (_ : List Blk → Prop) []
  refine T.q (q_assign rfl rfl) (Wt.plain rfl) rfl rfl ?_
  refine T.nil ?_
  refine Ex.next ?_
  refine W.slots (L' := [(0, _), (1, _), (5, _)]) ⟨rfl, rfl, rfl, trivial⟩ ?_
  refine W.seq ?_
  refine W.region ?_
  refine T.eff (e_litA sc22 ze5 rfl rfl rfl (by simp [Value.cells]) rfl rfl rfl) (Wt.plain rfl) ?_
  rintro _ _ ⟨k1, rfl, rfl⟩
  change (_ : List Blk → Prop) [_]
  refine T.q (q_move rfl rfl) (Wt.plain rfl) rfl rfl ?_
  refine T.eff (e_appendI sc22 ze5 rfl 0 .u8 [] b [] ((List.append_nil _).symm) (R_ext hB.ext) rfl rfl rfl rfl (by first | omega | (simp; done) | (simp [-List.getD_eq_getElem?_getD]; omega) | (simp at *; omega) | rfl) (by first | omega | (simp; done) | (simp [-List.getD_eq_getElem?_getD]; omega) | (simp at *; omega) | rfl) (by first | omega | (simp; done) | (simp [-List.getD_eq_getElem?_getD]; omega) | (simp at *; omega) | rfl) (by first | omega | (simp; done) | (simp [-List.getD_eq_getElem?_getD]; omega)) (by first | omega | (simp; done) | (simp [-List.getD_eq_getElem?_getD]; omega)) rfl rfl) (Wt.plain rfl) ?_
  rintro _ _ ⟨k2, cap3, junk4, hc5, rfl, rfl⟩
  change (_ : List Blk → Prop) [_]
  change (_ : List Blk → Prop) [⟨some k2, ints .u8 b ++ junk4, 5, (0, 0)⟩]
  refine T.q (q_assign rfl rfl) (Wt.plain rfl) rfl rfl ?_
  refine T.nil ?_
  refine Ex.next ?_
  refine W.slots (L' := [(0, _), (1, _), (5, _), (6, _)]) ⟨rfl, rfl, rfl, rfl, trivial⟩ ?_
  refine W.seq ?_
  refine W.region ?_
  refine T.q (q_move rfl rfl) (Wt.plain rfl) rfl rfl ?_
  refine T.q (q_move rfl rfl) (Wt.plain rfl) rfl rfl ?_
  refine T.eff (e_call enters20 rfl rfl (fun w hm => put_at b _ _ (by first | omega | (simp; done) | (simp; omega) | (simp at *; omega)) (by first | omega | (simp; done) | (simp; omega) | (simp at *; omega)) n (by first | omega | (simp; done) | (simp; omega) | (simp at *; omega)) w ((R_pre 0 rfl) w hm) (by first | omega | (simp; done) | (simp [-List.getD_eq_getElem?_getD]; omega) | (simp at *; omega) | rfl)) rfl rfl) (Wt.plain rfl) ?_
  rintro _ _ ⟨_, _, ⟨k6, cap7, junk8, rfl, hc9, rfl⟩, rfl, rfl⟩
  change (_ : List Blk → Prop) [_, _]
  refine T.q (q_move rfl rfl) (Wt.plain rfl) rfl rfl ?_
  refine T.q (q_extract rfl rfl rfl) (Wt.plain rfl) rfl rfl ?_
  refine T.q (q_extract rfl rfl rfl) (Wt.plain rfl) rfl rfl ?_
  refine T.q (q_assign rfl rfl) (Wt.plain rfl) rfl rfl ?_
  refine T.q (q_assign rfl rfl) (Wt.plain rfl) rfl rfl ?_
  refine T.nil ?_
  refine Ex.next ?_
  refine W.slots (L' := [(0, _), (1, _), (5, _), (6, _), (7, _), (8, _)]) ⟨rfl, rfl, rfl, rfl, rfl, rfl, trivial⟩ ?_
  refine W.seq ?_
  refine W.region ?_
  refine T.q (q_move rfl rfl) (Wt.plain rfl) rfl rfl ?_
  refine T.q (q_move rfl rfl) (Wt.plain rfl) rfl rfl ?_
  refine T.eff (e_call enters21 rfl rfl (fun w hm => refput_at b _ _ (by first | omega | (simp; done) | (simp; omega) | (simp at *; omega)) (by first | omega | (simp; done) | (simp; omega) | (simp at *; omega)) n (by first | omega | (simp; done) | (simp; omega) | (simp at *; omega)) w ((R_ext hB.ext) w hm) (by first | omega | (simp; done) | (simp [-List.getD_eq_getElem?_getD]; omega) | (simp at *; omega) | rfl)) rfl rfl) (Wt.plain rfl) ?_
  rintro _ _ ⟨_, _, ⟨k10, cap11, junk12, rfl, hc13, rfl⟩, rfl, rfl⟩
  change (_ : List Blk → Prop) [_, _, _]
  refine T.q (q_move rfl rfl) (Wt.plain rfl) rfl rfl ?_
  refine T.q (q_extract rfl rfl rfl) (Wt.plain rfl) rfl rfl ?_
  refine T.q (q_extract rfl rfl rfl) (Wt.plain rfl) rfl rfl ?_
  refine T.q (q_assign rfl rfl) (Wt.plain rfl) rfl rfl ?_
  refine T.q (q_assign rfl rfl) (Wt.plain rfl) rfl rfl ?_
  refine T.nil ?_
  refine Ex.next ?_
  refine W.slots (L' := [(0, _), (5, _), (6, _), (7, _), (8, _), (9, _), (10, _)]) ⟨rfl, rfl, rfl, rfl, rfl, rfl, rfl, trivial⟩ ?_
  refine W.seq ?_
  refine W.region ?_
  refine T.q (q_move rfl rfl) (Wt.plain rfl) rfl rfl ?_
  refine T.q (q_move rfl rfl) (Wt.plain rfl) rfl rfl ?_
  refine T.q (q_move rfl rfl) (Wt.yes rfl rfl rfl) rfl rfl ?_
  refine T.q (q_bstr sc22 un5 un9 (R_pre 1 rfl) (by first | omega | (simp; done) | (simp [-List.getD_eq_getElem?_getD]; omega) | (simp at *; omega) | rfl) rfl rfl) (Wt.yes rfl rfl rfl) rfl rfl ?_
  refine T.q (q_move rfl rfl) (Wt.yes rfl rfl rfl) rfl rfl ?_
  refine T.q (q_bstr sc22 un5 un9 (R_pre 2 rfl) (by first | omega | (simp; done) | (simp [-List.getD_eq_getElem?_getD]; omega) | (simp at *; omega) | rfl) rfl rfl) (Wt.yes rfl rfl rfl) rfl rfl ?_
  refine T.q (q_bool (b := true) (q_eqlS rfl rfl rfl) (beq_self_eq_true _)) (Wt.yes rfl rfl rfl) rfl rfl ?_
  refine T.q (q_pickT rfl rfl rfl) (Wt.plain rfl) rfl rfl ?_
  refine T.q (q_move rfl rfl) (Wt.plain rfl) rfl rfl ?_
  refine T.q (q_move rfl rfl) (Wt.yes rfl rfl rfl) rfl rfl ?_
  refine T.q (q_move rfl rfl) (Wt.yes rfl rfl rfl) rfl rfl ?_
  refine T.q (q_bool (b := true) (q_eql rfl rfl rfl) (decide_eq_true rfl)) (Wt.yes rfl rfl rfl) rfl rfl ?_
  refine T.q (q_pickT rfl rfl rfl) (Wt.plain rfl) rfl rfl ?_
  refine T.q (q_move rfl rfl) (Wt.plain rfl) rfl rfl ?_
  refine T.q (q_move rfl rfl) (Wt.yes rfl rfl rfl) rfl rfl ?_
  refine T.q (q_bstr sc22 un5 un9 (R_pre 0 rfl) (by first | omega | (simp; done) | (simp [-List.getD_eq_getElem?_getD]; omega) | (simp at *; omega) | rfl) rfl rfl) (Wt.yes rfl rfl rfl) rfl rfl ?_
  refine T.q (q_move rfl rfl) (Wt.yes rfl rfl rfl) rfl rfl ?_
  refine T.q (q_bstr sc22 un5 un9 (R_ext hB.ext) (by first | omega | (simp; done) | (simp [-List.getD_eq_getElem?_getD]; omega) | (simp at *; omega) | rfl) rfl rfl) (Wt.yes rfl rfl rfl) rfl rfl ?_
  refine T.q (q_bool (b := true) (q_eqlS rfl rfl rfl) (beq_self_eq_true _)) (Wt.yes rfl rfl rfl) rfl rfl ?_
  refine T.q (q_pickT rfl rfl rfl) (Wt.plain rfl) rfl rfl ?_
  refine T.q (q_assign rfl rfl) (Wt.plain rfl) rfl rfl ?_
  refine T.nil ?_
  refine Ex.next ?_
  refine W.less (L' := [(4, _)]) [false, false, false] ⟨rfl, trivial⟩ ?_
  change (_ : List Blk → Prop) []
  refine W.ret ?_
  refine Ex.out1 [] rfl rfl ?_
  exact ⟨rfl, rfl⟩
set_option maxRecDepth 100000 in
theorem vars_bad (b : List Int) (BA : Option Addr) (bc : Nat) (hbc : b.length ≤ bc) (hbl : b.length ≤ 140737488351232) (_hbb : Bytes b) (z : Int) (hbad : z < 0 ∨ 4611686018427387904 ≤ z) (w0 : World) (hB : Reads w0 BA (ints .u8 b)) : Does Try.prog 3 #[.slice BA b.length bc, .int .i64 z] w0 [] (fun v G => v = .bool true ∧ G = []) := by
  refine spec_of 47 Try.func3 rfl rfl rfl ?_
  refine W.seq ?_
  refine W.region ?_
  refine T.q (q_assign rfl rfl) (Wt.plain rfl) rfl rfl ?_
  refine T.nil ?_
  refine Ex.next ?_
  refine W.slots (L' := [(0, _), (1, _)]) ⟨rfl, rfl, trivial⟩ ?_
  refine W.seq ?_
  refine W.region ?_
  refine T.eff (e_call enters19 rfl rfl (fun w hm => shown09_spec w) rfl rfl) (Wt.plain rfl) ?_
  rintro _ _ ⟨_, _, ⟨rfl, rfl⟩, rfl, rfl⟩
  change (_ : List Blk → Prop) []
  refine T.q (q_assign rfl rfl) (Wt.plain rfl) rfl rfl ?_
  refine T.nil ?_
  refine Ex.next ?_
  refine W.slots (L' := [(0, _), (1, _), (5, _)]) ⟨rfl, rfl, rfl, trivial⟩ ?_
  refine W.seq ?_
  refine W.region ?_
  refine T.eff (e_litA sc22 ze5 rfl rfl rfl (by simp [Value.cells]) rfl rfl rfl) (Wt.plain rfl) ?_
  rintro _ _ ⟨k1, rfl, rfl⟩
  change (_ : List Blk → Prop) [_]
  refine T.q (q_move rfl rfl) (Wt.plain rfl) rfl rfl ?_
  refine T.eff (e_appendI sc22 ze5 rfl 0 .u8 [] b [] ((List.append_nil _).symm) (R_ext hB.ext) rfl rfl rfl rfl (by first | omega | (simp; done) | (simp [-List.getD_eq_getElem?_getD]; omega) | (simp at *; omega) | rfl) (by first | omega | (simp; done) | (simp [-List.getD_eq_getElem?_getD]; omega) | (simp at *; omega) | rfl) (by first | omega | (simp; done) | (simp [-List.getD_eq_getElem?_getD]; omega) | (simp at *; omega) | rfl) (by first | omega | (simp; done) | (simp [-List.getD_eq_getElem?_getD]; omega)) (by first | omega | (simp; done) | (simp [-List.getD_eq_getElem?_getD]; omega)) rfl rfl) (Wt.plain rfl) ?_
  rintro _ _ ⟨k2, cap3, junk4, hc5, rfl, rfl⟩
  change (_ : List Blk → Prop) [_]
  change (_ : List Blk → Prop) [⟨some k2, ints .u8 b ++ junk4, 5, (0, 0)⟩]
  refine T.q (q_assign rfl rfl) (Wt.plain rfl) rfl rfl ?_
  refine T.nil ?_
  refine Ex.next ?_
  refine W.slots (L' := [(0, _), (1, _), (5, _), (6, _)]) ⟨rfl, rfl, rfl, rfl, trivial⟩ ?_
  refine W.seq ?_
  refine W.region ?_
  refine T.q (q_move rfl rfl) (Wt.plain rfl) rfl rfl ?_
  refine T.q (q_move rfl rfl) (Wt.plain rfl) rfl rfl ?_
  refine T.eff (e_call enters20 rfl rfl (fun w hm => put_bad_at b _ _ (by first | omega | (simp; done) | (simp; omega) | (simp at *; omega)) (by first | omega | (simp; done) | (simp; omega) | (simp at *; omega)) z (hbad) w ((R_pre 0 rfl) w hm) (by first | omega | (simp; done) | (simp [-List.getD_eq_getElem?_getD]; omega) | (simp at *; omega) | rfl)) rfl rfl) (Wt.plain rfl) ?_
  rintro _ _ ⟨_, _, ⟨rfl, rfl⟩, rfl, rfl⟩
  change (_ : List Blk → Prop) [_]
  refine T.q (q_move rfl rfl) (Wt.plain rfl) rfl rfl ?_
  refine T.q (q_extract rfl rfl rfl) (Wt.plain rfl) rfl rfl ?_
  refine T.q (q_extract rfl rfl rfl) (Wt.plain rfl) rfl rfl ?_
  refine T.q (q_assign rfl rfl) (Wt.plain rfl) rfl rfl ?_
  refine T.q (q_assign rfl rfl) (Wt.plain rfl) rfl rfl ?_
  refine T.nil ?_
  refine Ex.next ?_
  refine W.slots (L' := [(0, _), (1, _), (5, _), (6, _), (7, _), (8, _)]) ⟨rfl, rfl, rfl, rfl, rfl, rfl, trivial⟩ ?_
  refine W.seq ?_
  refine W.region ?_
  refine T.q (q_move rfl rfl) (Wt.plain rfl) rfl rfl ?_
  refine T.q (q_move rfl rfl) (Wt.plain rfl) rfl rfl ?_
  refine T.eff (e_call enters21 rfl rfl (fun w hm => refput_bad_at b _ _ (by first | omega | (simp; done) | (simp; omega) | (simp at *; omega)) (by first | omega | (simp; done) | (simp; omega) | (simp at *; omega)) z (hbad) w ((R_ext hB.ext) w hm) (by first | omega | (simp; done) | (simp [-List.getD_eq_getElem?_getD]; omega) | (simp at *; omega) | rfl)) rfl rfl) (Wt.plain rfl) ?_
  rintro _ _ ⟨_, _, ⟨rfl, rfl⟩, rfl, rfl⟩
  change (_ : List Blk → Prop) [_]
  refine T.q (q_move rfl rfl) (Wt.plain rfl) rfl rfl ?_
  refine T.q (q_extract rfl rfl rfl) (Wt.plain rfl) rfl rfl ?_
  refine T.q (q_extract rfl rfl rfl) (Wt.plain rfl) rfl rfl ?_
  refine T.q (q_assign rfl rfl) (Wt.plain rfl) rfl rfl ?_
  refine T.q (q_assign rfl rfl) (Wt.plain rfl) rfl rfl ?_
  refine T.nil ?_
  refine Ex.next ?_
  refine W.slots (L' := [(0, _), (5, _), (6, _), (7, _), (8, _), (9, _), (10, _)]) ⟨rfl, rfl, rfl, rfl, rfl, rfl, rfl, trivial⟩ ?_
  refine W.seq ?_
  refine W.region ?_
  refine T.q (q_move rfl rfl) (Wt.plain rfl) rfl rfl ?_
  refine T.q (q_move rfl rfl) (Wt.plain rfl) rfl rfl ?_
  refine T.q (q_move rfl rfl) (Wt.yes rfl rfl rfl) rfl rfl ?_
  refine T.q (q_bstr sc22 un5 un9 (R_nilI .u8) (by first | omega | (simp; done) | (simp [-List.getD_eq_getElem?_getD]; omega) | (simp at *; omega) | rfl) rfl rfl) (Wt.yes rfl rfl rfl) rfl rfl ?_
  refine T.q (q_move rfl rfl) (Wt.yes rfl rfl rfl) rfl rfl ?_
  refine T.q (q_bstr sc22 un5 un9 (R_nilI .u8) (by first | omega | (simp; done) | (simp [-List.getD_eq_getElem?_getD]; omega) | (simp at *; omega) | rfl) rfl rfl) (Wt.yes rfl rfl rfl) rfl rfl ?_
  refine T.q (q_bool (b := true) (q_eqlS rfl rfl rfl) (beq_self_eq_true _)) (Wt.yes rfl rfl rfl) rfl rfl ?_
  refine T.q (q_pickT rfl rfl rfl) (Wt.plain rfl) rfl rfl ?_
  refine T.q (q_move rfl rfl) (Wt.plain rfl) rfl rfl ?_
  refine T.q (q_move rfl rfl) (Wt.yes rfl rfl rfl) rfl rfl ?_
  refine T.q (q_move rfl rfl) (Wt.yes rfl rfl rfl) rfl rfl ?_
  refine T.q (q_bool (b := true) (q_eql rfl rfl rfl) (decide_eq_true rfl)) (Wt.yes rfl rfl rfl) rfl rfl ?_
  refine T.q (q_pickT rfl rfl rfl) (Wt.plain rfl) rfl rfl ?_
  refine T.q (q_move rfl rfl) (Wt.plain rfl) rfl rfl ?_
  refine T.q (q_move rfl rfl) (Wt.yes rfl rfl rfl) rfl rfl ?_
  refine T.q (q_bstr sc22 un5 un9 (R_pre 0 rfl) (by first | omega | (simp; done) | (simp [-List.getD_eq_getElem?_getD]; omega) | (simp at *; omega) | rfl) rfl rfl) (Wt.yes rfl rfl rfl) rfl rfl ?_
  refine T.q (q_move rfl rfl) (Wt.yes rfl rfl rfl) rfl rfl ?_
  refine T.q (q_bstr sc22 un5 un9 (R_ext hB.ext) (by first | omega | (simp; done) | (simp [-List.getD_eq_getElem?_getD]; omega) | (simp at *; omega) | rfl) rfl rfl) (Wt.yes rfl rfl rfl) rfl rfl ?_
  refine T.q (q_bool (b := true) (q_eqlS rfl rfl rfl) (beq_self_eq_true _)) (Wt.yes rfl rfl rfl) rfl rfl ?_
  refine T.q (q_pickT rfl rfl rfl) (Wt.plain rfl) rfl rfl ?_
  refine T.q (q_assign rfl rfl) (Wt.plain rfl) rfl rfl ?_
  refine T.nil ?_
  refine Ex.next ?_
  refine W.less (L' := [(4, _)]) [false] ⟨rfl, trivial⟩ ?_
  change (_ : List Blk → Prop) []
  refine W.ret ?_
  refine Ex.out1 [] rfl rfl ?_
  exact ⟨rfl, rfl⟩
set_option maxRecDepth 100000 in
theorem back_gt (b : List Int) (BA : Option Addr) (bc : Nat) (hbc : b.length ≤ bc) (hbl : b.length ≤ 140737488351232) (hbb : Bytes b) (n : Nat) (hn : n < 4611686018427387904) (ho : takeOk b = true) (w0 : World) (hB : Reads w0 BA (ints .u8 b)) : Does Try.prog 4 #[.int .i64 ((n : Nat) : Int), .slice BA b.length bc] w0 [] (fun v G => v = .bool true ∧ G = []) := by
  have hk8 := pow_kd_le n
  obtain ⟨ho0, hol, hok⟩ := take_ok ho
  have htv := tv_lt hbb hol
  have hk9 := pow_kd_le (tv b)
  refine spec_of 75 Try.func4 rfl rfl rfl ?_
  refine W.seq ?_
  refine W.region ?_
  refine T.q (q_assign rfl rfl) (Wt.plain rfl) rfl rfl ?_
  refine T.nil ?_
  refine Ex.next ?_
  refine W.slots (L' := [(0, _), (1, _)]) ⟨rfl, rfl, trivial⟩ ?_
  refine W.seq ?_
  refine W.region ?_
  refine T.eff (e_call enters19 rfl rfl (fun w hm => shown09_spec w) rfl rfl) (Wt.plain rfl) ?_
  rintro _ _ ⟨_, _, ⟨rfl, rfl⟩, rfl, rfl⟩
  change (_ : List Blk → Prop) []
  refine T.q (q_assign rfl rfl) (Wt.plain rfl) rfl rfl ?_
  refine T.nil ?_
  refine Ex.next ?_
  refine W.slots (L' := [(0, _), (1, _), (5, _)]) ⟨rfl, rfl, rfl, trivial⟩ ?_
  refine W.seq ?_
  refine W.region ?_
  refine T.q (q_move rfl rfl) (Wt.plain rfl) rfl rfl ?_
  refine T.eff (e_call enters20 rfl rfl (fun w hm => put_at [] _ _ (by first | omega | (simp; done) | (simp; omega) | (simp at *; omega)) (by first | omega | (simp; done) | (simp; omega) | (simp at *; omega)) n (by first | omega | (simp; done) | (simp; omega) | (simp at *; omega)) w ((R_nilI .u8) w hm) (by first | omega | (simp; done) | (simp [-List.getD_eq_getElem?_getD]; omega) | (simp at *; omega) | rfl)) rfl rfl) (Wt.plain rfl) ?_
  rintro _ _ ⟨_, _, ⟨k1, cap2, junk3, rfl, hc4, rfl⟩, rfl, rfl⟩
  change (_ : List Blk → Prop) [_]
  refine T.q (q_move rfl rfl) (Wt.plain rfl) rfl rfl ?_
  refine T.q (q_extract rfl rfl rfl) (Wt.plain rfl) rfl rfl ?_
  refine T.q (q_extract rfl rfl rfl) (Wt.plain rfl) rfl rfl ?_
  refine T.q (q_assign rfl rfl) (Wt.plain rfl) rfl rfl ?_
  refine T.q (q_assign rfl rfl) (Wt.plain rfl) rfl rfl ?_
  refine T.nil ?_
  refine Ex.next ?_
  refine W.slots (L' := [(0, _), (1, _), (5, _), (6, _), (7, _)]) ⟨rfl, rfl, rfl, rfl, rfl, trivial⟩ ?_
  refine W.seq ?_
  refine W.seq ?_
  refine W.region ?_
  refine T.q (q_move rfl rfl) (Wt.plain rfl) rfl rfl ?_
  refine T.q (q_bool (b := true) (q_eql rfl rfl rfl) ?hE) (Wt.plain rfl) rfl rfl ?_
  case hE => decide
  refine T.nil ?_
  refine Ex.next ?_
  refine W.slots (L' := [(0, _), (1, _), (5, _), (6, _), (23, _)]) ⟨rfl, rfl, rfl, rfl, rfl, trivial⟩ ?_
  refine W.condT rfl ?_
  refine W.seq ?_
  refine W.region ?_
  refine T.q (q_move rfl rfl) (Wt.plain rfl) rfl rfl ?_
  refine T.q (q_move rfl rfl) (Wt.plain rfl) rfl rfl ?_
  refine T.eff (e_appendI sc22 ze5 rfl 0 .u8 ([] ++ putV n) b junk3 (rfl) (R_ext hB.ext) rfl rfl rfl rfl (by first | omega | (simp; done) | (simp [-List.getD_eq_getElem?_getD]; omega) | (simp at *; omega) | rfl) (by first | omega | (simp; done) | (simp [-List.getD_eq_getElem?_getD]; omega) | (simp at *; omega) | rfl) (by first | omega | (simp; done) | (simp [-List.getD_eq_getElem?_getD]; omega) | (simp at *; omega) | rfl) (by first | omega | (simp; done) | (simp [-List.getD_eq_getElem?_getD]; omega)) (by first | omega | (simp; done) | (simp [-List.getD_eq_getElem?_getD]; omega)) rfl rfl) (Wt.plain rfl) ?_
  rintro _ _ ⟨k5, cap6, junk7, hc8, rfl, rfl⟩
  change (_ : List Blk → Prop) [_]
  conv => rhs; rw [List.nil_append]
  refine T.eff (e_call enters22 rfl rfl (fun w hm => take_at (putV n ++ b) _ _ (by first | omega | (simp; done) | (simp; omega) | (simp at *; omega)) (by first | omega | (simp; done) | (simp; omega) | (simp at *; omega)) ((Bytes.putV hn).app hbb) (take_put n hn b) w ((R_pre 0 rfl) w hm) (by first | omega | (simp; done) | (simp [-List.getD_eq_getElem?_getD]; omega) | (simp at *; omega) | rfl)) rfl rfl) (Wt.plain rfl) ?_
  rintro _ _ ⟨_, _, ⟨k9, cap10, junk11, rfl, hc12, rfl⟩, rfl, rfl⟩
  change (_ : List Blk → Prop) [_, _]
  refine T.q (q_move rfl rfl) (Wt.plain rfl) rfl rfl ?_
  refine T.q (q_extract rfl rfl rfl) (Wt.plain rfl) rfl rfl ?_
  refine T.q (q_extract rfl rfl rfl) (Wt.plain rfl) rfl rfl ?_
  refine T.q (q_extract rfl rfl rfl) (Wt.plain rfl) rfl rfl ?_
  refine T.q (q_assign rfl rfl) (Wt.plain rfl) rfl rfl ?_
  refine T.q (q_assign rfl rfl) (Wt.plain rfl) rfl rfl ?_
  refine T.q (q_assign rfl rfl) (Wt.plain rfl) rfl rfl ?_
  refine T.nil ?_
  refine Ex.next ?_
  refine W.less (L' := [(0, _), (1, _), (5, _), (8, _), (9, _), (10, _)]) [false, true] ⟨rfl, rfl, rfl, rfl, rfl, rfl, trivial⟩ ?_
  change (_ : List Blk → Prop) [_]
  refine W.seq ?_
  refine W.region ?_
  refine T.q (q_move rfl rfl) (Wt.plain rfl) rfl rfl ?_
  refine T.q (q_bool (b := false) (q_neq rfl rfl rfl) ?hE) (Wt.plain rfl) rfl rfl ?_
  case hE => simp
  refine T.q (q_move rfl rfl) (Wt.plain rfl) rfl rfl ?_
  refine T.q (q_move rfl rfl) (Wt.yes rfl rfl rfl) rfl rfl ?_
  refine T.q (q_move rfl rfl) (Wt.yes rfl rfl rfl) rfl rfl ?_
  refine T.q (q_bool (b := false) (q_neq rfl rfl rfl) ?hE) (Wt.yes rfl rfl rfl) rfl rfl ?_
  case hE => rw [tv_put n hn b]; simp
  refine T.q (q_pickF rfl rfl rfl) (Wt.plain rfl) rfl rfl ?_
  refine T.q (q_move rfl rfl) (Wt.plain rfl) rfl rfl ?_
  refine T.q (q_move rfl rfl) (Wt.yes rfl rfl rfl) rfl rfl ?_
  refine T.q (q_bstr sc22 un5 un9 (R_opre 0 rfl) (by first | omega | (simp; done) | (simp [-List.getD_eq_getElem?_getD]; omega) | (simp at *; omega) | rfl) rfl rfl) (Wt.yes rfl rfl rfl) rfl rfl ?_
  refine T.q (q_move rfl rfl) (Wt.yes rfl rfl rfl) rfl rfl ?_
  refine T.q (q_bstr sc22 un5 un9 (R_ext hB.ext) (by first | omega | (simp; done) | (simp [-List.getD_eq_getElem?_getD]; omega) | (simp at *; omega) | rfl) rfl rfl) (Wt.yes rfl rfl rfl) rfl rfl ?_
  refine T.q (q_bool (b := false) (q_neqS rfl rfl rfl) ?hE) (Wt.yes rfl rfl rfl) rfl rfl ?_
  case hE => rw [drop_put n hn b]; simp
  refine T.q (q_pickF rfl rfl rfl) (Wt.plain rfl) rfl rfl ?_
  refine T.nil ?_
  refine Ex.next ?_
  refine W.less (L' := [(1, _), (5, _), (45, _)]) [false] ⟨rfl, rfl, rfl, trivial⟩ ?_
  change (_ : List Blk → Prop) []
  refine W.condF rfl ?_
  refine W.skip ?_
  refine Ex.next ?_
  refine W.slots (L' := [(1, _), (5, _)]) ⟨rfl, rfl, trivial⟩ ?_
  refine W.seq ?_
  refine W.region ?_
  refine T.q (q_move rfl rfl) (Wt.plain rfl) rfl rfl ?_
  refine T.eff (e_call enters22 rfl rfl (fun w hm => take_at b _ _ (by first | omega | (simp; done) | (simp; omega) | (simp at *; omega)) (by first | omega | (simp; done) | (simp; omega) | (simp at *; omega)) hbb ho w ((R_ext hB.ext) w hm) (by first | omega | (simp; done) | (simp [-List.getD_eq_getElem?_getD]; omega) | (simp at *; omega) | rfl)) rfl rfl) (Wt.plain rfl) ?_
  rintro _ _ ⟨_, _, ⟨k13, cap14, junk15, rfl, hc16, rfl⟩, rfl, rfl⟩
  change (_ : List Blk → Prop) [_]
  refine T.q (q_move rfl rfl) (Wt.plain rfl) rfl rfl ?_
  refine T.q (q_extract rfl rfl rfl) (Wt.plain rfl) rfl rfl ?_
  refine T.q (q_extract rfl rfl rfl) (Wt.plain rfl) rfl rfl ?_
  refine T.q (q_extract rfl rfl rfl) (Wt.plain rfl) rfl rfl ?_
  refine T.q (q_assign rfl rfl) (Wt.plain rfl) rfl rfl ?_
  refine T.q (q_assign rfl rfl) (Wt.plain rfl) rfl rfl ?_
  refine T.q (q_assign rfl rfl) (Wt.plain rfl) rfl rfl ?_
  refine T.nil ?_
  refine Ex.next ?_
  refine W.slots (L' := [(1, _), (5, _), (11, _), (12, _), (13, _)]) ⟨rfl, rfl, rfl, rfl, rfl, trivial⟩ ?_
  refine W.seq ?_
  refine W.seq ?_
  refine W.region ?_
  refine T.q (q_move rfl rfl) (Wt.plain rfl) rfl rfl ?_
  refine T.q (q_bool (b := false) (q_neq rfl rfl rfl) ?hE) (Wt.plain rfl) rfl rfl ?_
  case hE => simp
  refine T.nil ?_
  refine Ex.next ?_
  refine W.slots (L' := [(1, _), (5, _), (11, _), (12, _), (53, _)]) ⟨rfl, rfl, rfl, rfl, rfl, trivial⟩ ?_
  refine W.condF rfl ?_
  refine W.skip ?_
  refine Ex.next ?_
  refine W.slots (L' := [(1, _), (5, _), (11, _), (12, _)]) ⟨rfl, rfl, rfl, rfl, trivial⟩ ?_
  refine W.seq ?_
  refine W.region ?_
  refine T.q (q_move rfl rfl) (Wt.plain rfl) rfl rfl ?_
  refine T.eff (e_call enters20 rfl rfl (fun w hm => put_at [] _ _ (by first | omega | (simp; done) | (simp; omega) | (simp at *; omega)) (by first | omega | (simp; done) | (simp; omega) | (simp at *; omega)) (tv b) (by first | omega | (simp; done) | (simp; omega) | (simp at *; omega)) w ((R_nilI .u8) w hm) (by first | omega | (simp; done) | (simp [-List.getD_eq_getElem?_getD]; omega) | (simp at *; omega) | rfl)) rfl rfl) (Wt.plain rfl) ?_
  rintro _ _ ⟨_, _, ⟨k17, cap18, junk19, rfl, hc20, rfl⟩, rfl, rfl⟩
  change (_ : List Blk → Prop) [_, _]
  refine T.q (q_move rfl rfl) (Wt.plain rfl) rfl rfl ?_
  refine T.q (q_extract rfl rfl rfl) (Wt.plain rfl) rfl rfl ?_
  refine T.q (q_extract rfl rfl rfl) (Wt.plain rfl) rfl rfl ?_
  refine T.q (q_assign rfl rfl) (Wt.plain rfl) rfl rfl ?_
  refine T.q (q_assign rfl rfl) (Wt.plain rfl) rfl rfl ?_
  refine T.nil ?_
  refine Ex.next ?_
  refine W.slots (L' := [(1, _), (5, _), (12, _), (14, _), (15, _)]) ⟨rfl, rfl, rfl, rfl, rfl, trivial⟩ ?_
  refine W.seq ?_
  refine W.region ?_
  refine T.q (q_move rfl rfl) (Wt.plain rfl) rfl rfl ?_
  refine T.q (q_move rfl rfl) (Wt.plain rfl) rfl rfl ?_
  refine T.q (q_move rfl rfl) (Wt.yes rfl rfl rfl) rfl rfl ?_
  refine T.q (q_bool (b := true) (q_eql rfl rfl rfl) (decide_eq_true rfl)) (Wt.yes rfl rfl rfl) rfl rfl ?_
  refine T.q (q_pickT rfl rfl rfl) (Wt.plain rfl) rfl rfl ?_
  refine T.q (q_move rfl rfl) (Wt.plain rfl) rfl rfl ?_
  refine T.q (q_move rfl rfl) (Wt.yes rfl rfl rfl) rfl rfl ?_
  refine T.q (q_bstr sc22 un5 un9 (R_pre 1 rfl) (by first | omega | (simp; done) | (simp [-List.getD_eq_getElem?_getD]; omega) | (simp at *; omega) | rfl) rfl rfl) (Wt.yes rfl rfl rfl) rfl rfl ?_
  refine T.q (q_move rfl rfl) (Wt.yes rfl rfl rfl) rfl rfl ?_
  refine T.q (q_bstr sc22 un5 un9 (R_opre 0 rfl) (by first | omega | (simp; done) | (simp [-List.getD_eq_getElem?_getD]; omega) | (simp at *; omega) | rfl) rfl rfl) (Wt.yes rfl rfl rfl) rfl rfl ?_
  refine T.q (q_catS rfl rfl rfl (cat_ok _ _ hbl)) (Wt.yes rfl rfl rfl) rfl rfl ?_
  refine T.q (q_move rfl rfl) (Wt.yes rfl rfl rfl) rfl rfl ?_
  refine T.q (q_bstr sc22 un5 un9 (R_ext hB.ext) (by first | omega | (simp; done) | (simp [-List.getD_eq_getElem?_getD]; omega) | (simp at *; omega) | rfl) rfl rfl) (Wt.yes rfl rfl rfl) rfl rfl ?_
  refine T.q (q_bool (b := true) (q_eqlS rfl rfl rfl) ?hE) (Wt.yes rfl rfl rfl) rfl rfl ?_
  case hE => rw [List.nil_append, put_take_bstr hbb ho]; exact beq_self_eq_true _
  refine T.q (q_pickT rfl rfl rfl) (Wt.plain rfl) rfl rfl ?_
  refine T.q (q_assign rfl rfl) (Wt.plain rfl) rfl rfl ?_
  refine T.nil ?_
  refine Ex.next ?_
  refine W.less (L' := [(4, _)]) [false, false] ⟨rfl, trivial⟩ ?_
  change (_ : List Blk → Prop) []
  refine W.ret ?_
  refine Ex.out1 [] rfl rfl ?_
  exact ⟨rfl, rfl⟩
set_option maxRecDepth 100000 in
theorem back_gf (b : List Int) (BA : Option Addr) (bc : Nat) (hbc : b.length ≤ bc) (hbl : b.length ≤ 140737488351232) (hbb : Bytes b) (n : Nat) (hn : n < 4611686018427387904) (hbo : takeOk b = false) (w0 : World) (hB : Reads w0 BA (ints .u8 b)) : Does Try.prog 4 #[.int .i64 ((n : Nat) : Int), .slice BA b.length bc] w0 [] (fun v G => v = .bool true ∧ G = []) := by
  have hk8 := pow_kd_le n
  refine spec_of 75 Try.func4 rfl rfl rfl ?_
  refine W.seq ?_
  refine W.region ?_
  refine T.q (q_assign rfl rfl) (Wt.plain rfl) rfl rfl ?_
  refine T.nil ?_
  refine Ex.next ?_
  refine W.slots (L' := [(0, _), (1, _)]) ⟨rfl, rfl, trivial⟩ ?_
  refine W.seq ?_
  refine W.region ?_
  refine T.eff (e_call enters19 rfl rfl (fun w hm => shown09_spec w) rfl rfl) (Wt.plain rfl) ?_
  rintro _ _ ⟨_, _, ⟨rfl, rfl⟩, rfl, rfl⟩
  change (_ : List Blk → Prop) []
  refine T.q (q_assign rfl rfl) (Wt.plain rfl) rfl rfl ?_
  refine T.nil ?_
  refine Ex.next ?_
  refine W.slots (L' := [(0, _), (1, _), (5, _)]) ⟨rfl, rfl, rfl, trivial⟩ ?_
  refine W.seq ?_
  refine W.region ?_
  refine T.q (q_move rfl rfl) (Wt.plain rfl) rfl rfl ?_
  refine T.eff (e_call enters20 rfl rfl (fun w hm => put_at [] _ _ (by first | omega | (simp; done) | (simp; omega) | (simp at *; omega)) (by first | omega | (simp; done) | (simp; omega) | (simp at *; omega)) n (by first | omega | (simp; done) | (simp; omega) | (simp at *; omega)) w ((R_nilI .u8) w hm) (by first | omega | (simp; done) | (simp [-List.getD_eq_getElem?_getD]; omega) | (simp at *; omega) | rfl)) rfl rfl) (Wt.plain rfl) ?_
  rintro _ _ ⟨_, _, ⟨k1, cap2, junk3, rfl, hc4, rfl⟩, rfl, rfl⟩
  change (_ : List Blk → Prop) [_]
  refine T.q (q_move rfl rfl) (Wt.plain rfl) rfl rfl ?_
  refine T.q (q_extract rfl rfl rfl) (Wt.plain rfl) rfl rfl ?_
  refine T.q (q_extract rfl rfl rfl) (Wt.plain rfl) rfl rfl ?_
  refine T.q (q_assign rfl rfl) (Wt.plain rfl) rfl rfl ?_
  refine T.q (q_assign rfl rfl) (Wt.plain rfl) rfl rfl ?_
  refine T.nil ?_
  refine Ex.next ?_
  refine W.slots (L' := [(0, _), (1, _), (5, _), (6, _), (7, _)]) ⟨rfl, rfl, rfl, rfl, rfl, trivial⟩ ?_
  refine W.seq ?_
  refine W.seq ?_
  refine W.region ?_
  refine T.q (q_move rfl rfl) (Wt.plain rfl) rfl rfl ?_
  refine T.q (q_bool (b := true) (q_eql rfl rfl rfl) ?hE) (Wt.plain rfl) rfl rfl ?_
  case hE => decide
  refine T.nil ?_
  refine Ex.next ?_
  refine W.slots (L' := [(0, _), (1, _), (5, _), (6, _), (23, _)]) ⟨rfl, rfl, rfl, rfl, rfl, trivial⟩ ?_
  refine W.condT rfl ?_
  refine W.seq ?_
  refine W.region ?_
  refine T.q (q_move rfl rfl) (Wt.plain rfl) rfl rfl ?_
  refine T.q (q_move rfl rfl) (Wt.plain rfl) rfl rfl ?_
  refine T.eff (e_appendI sc22 ze5 rfl 0 .u8 ([] ++ putV n) b junk3 (rfl) (R_ext hB.ext) rfl rfl rfl rfl (by first | omega | (simp; done) | (simp [-List.getD_eq_getElem?_getD]; omega) | (simp at *; omega) | rfl) (by first | omega | (simp; done) | (simp [-List.getD_eq_getElem?_getD]; omega) | (simp at *; omega) | rfl) (by first | omega | (simp; done) | (simp [-List.getD_eq_getElem?_getD]; omega) | (simp at *; omega) | rfl) (by first | omega | (simp; done) | (simp [-List.getD_eq_getElem?_getD]; omega)) (by first | omega | (simp; done) | (simp [-List.getD_eq_getElem?_getD]; omega)) rfl rfl) (Wt.plain rfl) ?_
  rintro _ _ ⟨k5, cap6, junk7, hc8, rfl, rfl⟩
  change (_ : List Blk → Prop) [_]
  conv => rhs; rw [List.nil_append]
  refine T.eff (e_call enters22 rfl rfl (fun w hm => take_at (putV n ++ b) _ _ (by first | omega | (simp; done) | (simp; omega) | (simp at *; omega)) (by first | omega | (simp; done) | (simp; omega) | (simp at *; omega)) ((Bytes.putV hn).app hbb) (take_put n hn b) w ((R_pre 0 rfl) w hm) (by first | omega | (simp; done) | (simp [-List.getD_eq_getElem?_getD]; omega) | (simp at *; omega) | rfl)) rfl rfl) (Wt.plain rfl) ?_
  rintro _ _ ⟨_, _, ⟨k9, cap10, junk11, rfl, hc12, rfl⟩, rfl, rfl⟩
  change (_ : List Blk → Prop) [_, _]
  refine T.q (q_move rfl rfl) (Wt.plain rfl) rfl rfl ?_
  refine T.q (q_extract rfl rfl rfl) (Wt.plain rfl) rfl rfl ?_
  refine T.q (q_extract rfl rfl rfl) (Wt.plain rfl) rfl rfl ?_
  refine T.q (q_extract rfl rfl rfl) (Wt.plain rfl) rfl rfl ?_
  refine T.q (q_assign rfl rfl) (Wt.plain rfl) rfl rfl ?_
  refine T.q (q_assign rfl rfl) (Wt.plain rfl) rfl rfl ?_
  refine T.q (q_assign rfl rfl) (Wt.plain rfl) rfl rfl ?_
  refine T.nil ?_
  refine Ex.next ?_
  refine W.less (L' := [(0, _), (1, _), (5, _), (8, _), (9, _), (10, _)]) [false, true] ⟨rfl, rfl, rfl, rfl, rfl, rfl, trivial⟩ ?_
  change (_ : List Blk → Prop) [_]
  refine W.seq ?_
  refine W.region ?_
  refine T.q (q_move rfl rfl) (Wt.plain rfl) rfl rfl ?_
  refine T.q (q_bool (b := false) (q_neq rfl rfl rfl) ?hE) (Wt.plain rfl) rfl rfl ?_
  case hE => simp
  refine T.q (q_move rfl rfl) (Wt.plain rfl) rfl rfl ?_
  refine T.q (q_move rfl rfl) (Wt.yes rfl rfl rfl) rfl rfl ?_
  refine T.q (q_move rfl rfl) (Wt.yes rfl rfl rfl) rfl rfl ?_
  refine T.q (q_bool (b := false) (q_neq rfl rfl rfl) ?hE) (Wt.yes rfl rfl rfl) rfl rfl ?_
  case hE => rw [tv_put n hn b]; simp
  refine T.q (q_pickF rfl rfl rfl) (Wt.plain rfl) rfl rfl ?_
  refine T.q (q_move rfl rfl) (Wt.plain rfl) rfl rfl ?_
  refine T.q (q_move rfl rfl) (Wt.yes rfl rfl rfl) rfl rfl ?_
  refine T.q (q_bstr sc22 un5 un9 (R_opre 0 rfl) (by first | omega | (simp; done) | (simp [-List.getD_eq_getElem?_getD]; omega) | (simp at *; omega) | rfl) rfl rfl) (Wt.yes rfl rfl rfl) rfl rfl ?_
  refine T.q (q_move rfl rfl) (Wt.yes rfl rfl rfl) rfl rfl ?_
  refine T.q (q_bstr sc22 un5 un9 (R_ext hB.ext) (by first | omega | (simp; done) | (simp [-List.getD_eq_getElem?_getD]; omega) | (simp at *; omega) | rfl) rfl rfl) (Wt.yes rfl rfl rfl) rfl rfl ?_
  refine T.q (q_bool (b := false) (q_neqS rfl rfl rfl) ?hE) (Wt.yes rfl rfl rfl) rfl rfl ?_
  case hE => rw [drop_put n hn b]; simp
  refine T.q (q_pickF rfl rfl rfl) (Wt.plain rfl) rfl rfl ?_
  refine T.nil ?_
  refine Ex.next ?_
  refine W.less (L' := [(1, _), (5, _), (45, _)]) [false] ⟨rfl, rfl, rfl, trivial⟩ ?_
  change (_ : List Blk → Prop) []
  refine W.condF rfl ?_
  refine W.skip ?_
  refine Ex.next ?_
  refine W.slots (L' := [(1, _), (5, _)]) ⟨rfl, rfl, trivial⟩ ?_
  refine W.seq ?_
  refine W.region ?_
  refine T.q (q_move rfl rfl) (Wt.plain rfl) rfl rfl ?_
  refine T.eff (e_call enters22 rfl rfl (fun w hm => take_bad_at b _ _ (by first | omega | (simp; done) | (simp; omega) | (simp at *; omega)) (by first | omega | (simp; done) | (simp; omega) | (simp at *; omega)) hbb hbo w ((R_ext hB.ext) w hm) (by first | omega | (simp; done) | (simp [-List.getD_eq_getElem?_getD]; omega) | (simp at *; omega) | rfl)) rfl rfl) (Wt.plain rfl) ?_
  rintro _ _ ⟨_, _, ⟨rfl, rfl⟩, rfl, rfl⟩
  change (_ : List Blk → Prop) []
  refine T.q (q_move rfl rfl) (Wt.plain rfl) rfl rfl ?_
  refine T.q (q_extract rfl rfl rfl) (Wt.plain rfl) rfl rfl ?_
  refine T.q (q_extract rfl rfl rfl) (Wt.plain rfl) rfl rfl ?_
  refine T.q (q_extract rfl rfl rfl) (Wt.plain rfl) rfl rfl ?_
  refine T.q (q_assign rfl rfl) (Wt.plain rfl) rfl rfl ?_
  refine T.q (q_assign rfl rfl) (Wt.plain rfl) rfl rfl ?_
  refine T.q (q_assign rfl rfl) (Wt.plain rfl) rfl rfl ?_
  refine T.nil ?_
  refine Ex.next ?_
  refine W.slots (L' := [(1, _), (5, _), (11, _), (12, _), (13, _)]) ⟨rfl, rfl, rfl, rfl, rfl, trivial⟩ ?_
  refine W.seq ?_
  refine W.seq ?_
  refine W.region ?_
  refine T.q (q_move rfl rfl) (Wt.plain rfl) rfl rfl ?_
  refine T.q (q_bool (b := true) (q_neq rfl rfl rfl) (decide_eq_true (takeE_ne b))) (Wt.plain rfl) rfl rfl ?_
  refine T.nil ?_
  refine Ex.next ?_
  refine W.slots (L' := [(1, _), (5, _), (11, _), (12, _), (53, _)]) ⟨rfl, rfl, rfl, rfl, rfl, trivial⟩ ?_
  refine W.condT rfl ?_
  refine W.seq ?_
  refine W.region ?_
  refine T.q (q_move rfl rfl) (Wt.plain rfl) rfl rfl ?_
  refine T.q (q_assign rfl rfl) (Wt.plain rfl) rfl rfl ?_
  refine T.nil ?_
  refine Ex.next ?_
  refine W.slots (L' := [(4, _)]) ⟨rfl, trivial⟩ ?_
  refine W.ret ?_
  refine Ex.then_ret ?_
  refine Ex.out1 [] rfl rfl ?_
  exact ⟨rfl, rfl⟩
set_option maxRecDepth 100000 in
theorem back_bt (b : List Int) (BA : Option Addr) (bc : Nat) (hbc : b.length ≤ bc) (hbl : b.length ≤ 140737488351232) (hbb : Bytes b) (z : Int) (hbad : z < 0 ∨ 4611686018427387904 ≤ z) (ho : takeOk b = true) (w0 : World) (hB : Reads w0 BA (ints .u8 b)) : Does Try.prog 4 #[.int .i64 z, .slice BA b.length bc] w0 [] (fun v G => v = .bool true ∧ G = []) := by
  obtain ⟨ho0, hol, hok⟩ := take_ok ho
  have htv := tv_lt hbb hol
  have hk9 := pow_kd_le (tv b)
  refine spec_of 75 Try.func4 rfl rfl rfl ?_
  refine W.seq ?_
  refine W.region ?_
  refine T.q (q_assign rfl rfl) (Wt.plain rfl) rfl rfl ?_
  refine T.nil ?_
  refine Ex.next ?_
  refine W.slots (L' := [(0, _), (1, _)]) ⟨rfl, rfl, trivial⟩ ?_
  refine W.seq ?_
  refine W.region ?_
  refine T.eff (e_call enters19 rfl rfl (fun w hm => shown09_spec w) rfl rfl) (Wt.plain rfl) ?_
  rintro _ _ ⟨_, _, ⟨rfl, rfl⟩, rfl, rfl⟩
  change (_ : List Blk → Prop) []
  refine T.q (q_assign rfl rfl) (Wt.plain rfl) rfl rfl ?_
  refine T.nil ?_
  refine Ex.next ?_
  refine W.slots (L' := [(0, _), (1, _), (5, _)]) ⟨rfl, rfl, rfl, trivial⟩ ?_
  refine W.seq ?_
  refine W.region ?_
  refine T.q (q_move rfl rfl) (Wt.plain rfl) rfl rfl ?_
  refine T.eff (e_call enters20 rfl rfl (fun w hm => put_bad_at [] _ _ (by first | omega | (simp; done) | (simp; omega) | (simp at *; omega)) (by first | omega | (simp; done) | (simp; omega) | (simp at *; omega)) z (hbad) w ((R_nilI .u8) w hm) (by first | omega | (simp; done) | (simp [-List.getD_eq_getElem?_getD]; omega) | (simp at *; omega) | rfl)) rfl rfl) (Wt.plain rfl) ?_
  rintro _ _ ⟨_, _, ⟨rfl, rfl⟩, rfl, rfl⟩
  change (_ : List Blk → Prop) []
  refine T.q (q_move rfl rfl) (Wt.plain rfl) rfl rfl ?_
  refine T.q (q_extract rfl rfl rfl) (Wt.plain rfl) rfl rfl ?_
  refine T.q (q_extract rfl rfl rfl) (Wt.plain rfl) rfl rfl ?_
  refine T.q (q_assign rfl rfl) (Wt.plain rfl) rfl rfl ?_
  refine T.q (q_assign rfl rfl) (Wt.plain rfl) rfl rfl ?_
  refine T.nil ?_
  refine Ex.next ?_
  refine W.slots (L' := [(0, _), (1, _), (5, _), (6, _), (7, _)]) ⟨rfl, rfl, rfl, rfl, rfl, trivial⟩ ?_
  refine W.seq ?_
  refine W.seq ?_
  refine W.region ?_
  refine T.q (q_move rfl rfl) (Wt.plain rfl) rfl rfl ?_
  refine T.q (q_bool (b := false) (q_eql rfl rfl rfl) ?hE) (Wt.plain rfl) rfl rfl ?_
  case hE => decide
  refine T.nil ?_
  refine Ex.next ?_
  refine W.slots (L' := [(0, _), (1, _), (5, _), (6, _), (23, _)]) ⟨rfl, rfl, rfl, rfl, rfl, trivial⟩ ?_
  refine W.condF rfl ?_
  refine W.skip ?_
  refine Ex.next ?_
  refine W.slots (L' := [(1, _), (5, _)]) ⟨rfl, rfl, trivial⟩ ?_
  refine W.seq ?_
  refine W.region ?_
  refine T.q (q_move rfl rfl) (Wt.plain rfl) rfl rfl ?_
  refine T.eff (e_call enters22 rfl rfl (fun w hm => take_at b _ _ (by first | omega | (simp; done) | (simp; omega) | (simp at *; omega)) (by first | omega | (simp; done) | (simp; omega) | (simp at *; omega)) hbb ho w ((R_ext hB.ext) w hm) (by first | omega | (simp; done) | (simp [-List.getD_eq_getElem?_getD]; omega) | (simp at *; omega) | rfl)) rfl rfl) (Wt.plain rfl) ?_
  rintro _ _ ⟨_, _, ⟨k1, cap2, junk3, rfl, hc4, rfl⟩, rfl, rfl⟩
  change (_ : List Blk → Prop) [_]
  refine T.q (q_move rfl rfl) (Wt.plain rfl) rfl rfl ?_
  refine T.q (q_extract rfl rfl rfl) (Wt.plain rfl) rfl rfl ?_
  refine T.q (q_extract rfl rfl rfl) (Wt.plain rfl) rfl rfl ?_
  refine T.q (q_extract rfl rfl rfl) (Wt.plain rfl) rfl rfl ?_
  refine T.q (q_assign rfl rfl) (Wt.plain rfl) rfl rfl ?_
  refine T.q (q_assign rfl rfl) (Wt.plain rfl) rfl rfl ?_
  refine T.q (q_assign rfl rfl) (Wt.plain rfl) rfl rfl ?_
  refine T.nil ?_
  refine Ex.next ?_
  refine W.slots (L' := [(1, _), (5, _), (11, _), (12, _), (13, _)]) ⟨rfl, rfl, rfl, rfl, rfl, trivial⟩ ?_
  refine W.seq ?_
  refine W.seq ?_
  refine W.region ?_
  refine T.q (q_move rfl rfl) (Wt.plain rfl) rfl rfl ?_
  refine T.q (q_bool (b := false) (q_neq rfl rfl rfl) ?hE) (Wt.plain rfl) rfl rfl ?_
  case hE => simp
  refine T.nil ?_
  refine Ex.next ?_
  refine W.slots (L' := [(1, _), (5, _), (11, _), (12, _), (53, _)]) ⟨rfl, rfl, rfl, rfl, rfl, trivial⟩ ?_
  refine W.condF rfl ?_
  refine W.skip ?_
  refine Ex.next ?_
  refine W.slots (L' := [(1, _), (5, _), (11, _), (12, _)]) ⟨rfl, rfl, rfl, rfl, trivial⟩ ?_
  refine W.seq ?_
  refine W.region ?_
  refine T.q (q_move rfl rfl) (Wt.plain rfl) rfl rfl ?_
  refine T.eff (e_call enters20 rfl rfl (fun w hm => put_at [] _ _ (by first | omega | (simp; done) | (simp; omega) | (simp at *; omega)) (by first | omega | (simp; done) | (simp; omega) | (simp at *; omega)) (tv b) (by first | omega | (simp; done) | (simp; omega) | (simp at *; omega)) w ((R_nilI .u8) w hm) (by first | omega | (simp; done) | (simp [-List.getD_eq_getElem?_getD]; omega) | (simp at *; omega) | rfl)) rfl rfl) (Wt.plain rfl) ?_
  rintro _ _ ⟨_, _, ⟨k5, cap6, junk7, rfl, hc8, rfl⟩, rfl, rfl⟩
  change (_ : List Blk → Prop) [_, _]
  refine T.q (q_move rfl rfl) (Wt.plain rfl) rfl rfl ?_
  refine T.q (q_extract rfl rfl rfl) (Wt.plain rfl) rfl rfl ?_
  refine T.q (q_extract rfl rfl rfl) (Wt.plain rfl) rfl rfl ?_
  refine T.q (q_assign rfl rfl) (Wt.plain rfl) rfl rfl ?_
  refine T.q (q_assign rfl rfl) (Wt.plain rfl) rfl rfl ?_
  refine T.nil ?_
  refine Ex.next ?_
  refine W.slots (L' := [(1, _), (5, _), (12, _), (14, _), (15, _)]) ⟨rfl, rfl, rfl, rfl, rfl, trivial⟩ ?_
  refine W.seq ?_
  refine W.region ?_
  refine T.q (q_move rfl rfl) (Wt.plain rfl) rfl rfl ?_
  refine T.q (q_move rfl rfl) (Wt.plain rfl) rfl rfl ?_
  refine T.q (q_move rfl rfl) (Wt.yes rfl rfl rfl) rfl rfl ?_
  refine T.q (q_bool (b := true) (q_eql rfl rfl rfl) (decide_eq_true rfl)) (Wt.yes rfl rfl rfl) rfl rfl ?_
  refine T.q (q_pickT rfl rfl rfl) (Wt.plain rfl) rfl rfl ?_
  refine T.q (q_move rfl rfl) (Wt.plain rfl) rfl rfl ?_
  refine T.q (q_move rfl rfl) (Wt.yes rfl rfl rfl) rfl rfl ?_
  refine T.q (q_bstr sc22 un5 un9 (R_pre 1 rfl) (by first | omega | (simp; done) | (simp [-List.getD_eq_getElem?_getD]; omega) | (simp at *; omega) | rfl) rfl rfl) (Wt.yes rfl rfl rfl) rfl rfl ?_
  refine T.q (q_move rfl rfl) (Wt.yes rfl rfl rfl) rfl rfl ?_
  refine T.q (q_bstr sc22 un5 un9 (R_opre 0 rfl) (by first | omega | (simp; done) | (simp [-List.getD_eq_getElem?_getD]; omega) | (simp at *; omega) | rfl) rfl rfl) (Wt.yes rfl rfl rfl) rfl rfl ?_
  refine T.q (q_catS rfl rfl rfl (cat_ok _ _ hbl)) (Wt.yes rfl rfl rfl) rfl rfl ?_
  refine T.q (q_move rfl rfl) (Wt.yes rfl rfl rfl) rfl rfl ?_
  refine T.q (q_bstr sc22 un5 un9 (R_ext hB.ext) (by first | omega | (simp; done) | (simp [-List.getD_eq_getElem?_getD]; omega) | (simp at *; omega) | rfl) rfl rfl) (Wt.yes rfl rfl rfl) rfl rfl ?_
  refine T.q (q_bool (b := true) (q_eqlS rfl rfl rfl) ?hE) (Wt.yes rfl rfl rfl) rfl rfl ?_
  case hE => rw [List.nil_append, put_take_bstr hbb ho]; exact beq_self_eq_true _
  refine T.q (q_pickT rfl rfl rfl) (Wt.plain rfl) rfl rfl ?_
  refine T.q (q_assign rfl rfl) (Wt.plain rfl) rfl rfl ?_
  refine T.nil ?_
  refine Ex.next ?_
  refine W.less (L' := [(4, _)]) [false, false] ⟨rfl, trivial⟩ ?_
  change (_ : List Blk → Prop) []
  refine W.ret ?_
  refine Ex.out1 [] rfl rfl ?_
  exact ⟨rfl, rfl⟩
set_option maxRecDepth 100000 in
theorem back_bf (b : List Int) (BA : Option Addr) (bc : Nat) (hbc : b.length ≤ bc) (hbl : b.length ≤ 140737488351232) (hbb : Bytes b) (z : Int) (hbad : z < 0 ∨ 4611686018427387904 ≤ z) (hbo : takeOk b = false) (w0 : World) (hB : Reads w0 BA (ints .u8 b)) : Does Try.prog 4 #[.int .i64 z, .slice BA b.length bc] w0 [] (fun v G => v = .bool true ∧ G = []) := by
  refine spec_of 75 Try.func4 rfl rfl rfl ?_
  refine W.seq ?_
  refine W.region ?_
  refine T.q (q_assign rfl rfl) (Wt.plain rfl) rfl rfl ?_
  refine T.nil ?_
  refine Ex.next ?_
  refine W.slots (L' := [(0, _), (1, _)]) ⟨rfl, rfl, trivial⟩ ?_
  refine W.seq ?_
  refine W.region ?_
  refine T.eff (e_call enters19 rfl rfl (fun w hm => shown09_spec w) rfl rfl) (Wt.plain rfl) ?_
  rintro _ _ ⟨_, _, ⟨rfl, rfl⟩, rfl, rfl⟩
  change (_ : List Blk → Prop) []
  refine T.q (q_assign rfl rfl) (Wt.plain rfl) rfl rfl ?_
  refine T.nil ?_
  refine Ex.next ?_
  refine W.slots (L' := [(0, _), (1, _), (5, _)]) ⟨rfl, rfl, rfl, trivial⟩ ?_
  refine W.seq ?_
  refine W.region ?_
  refine T.q (q_move rfl rfl) (Wt.plain rfl) rfl rfl ?_
  refine T.eff (e_call enters20 rfl rfl (fun w hm => put_bad_at [] _ _ (by first | omega | (simp; done) | (simp; omega) | (simp at *; omega)) (by first | omega | (simp; done) | (simp; omega) | (simp at *; omega)) z (hbad) w ((R_nilI .u8) w hm) (by first | omega | (simp; done) | (simp [-List.getD_eq_getElem?_getD]; omega) | (simp at *; omega) | rfl)) rfl rfl) (Wt.plain rfl) ?_
  rintro _ _ ⟨_, _, ⟨rfl, rfl⟩, rfl, rfl⟩
  change (_ : List Blk → Prop) []
  refine T.q (q_move rfl rfl) (Wt.plain rfl) rfl rfl ?_
  refine T.q (q_extract rfl rfl rfl) (Wt.plain rfl) rfl rfl ?_
  refine T.q (q_extract rfl rfl rfl) (Wt.plain rfl) rfl rfl ?_
  refine T.q (q_assign rfl rfl) (Wt.plain rfl) rfl rfl ?_
  refine T.q (q_assign rfl rfl) (Wt.plain rfl) rfl rfl ?_
  refine T.nil ?_
  refine Ex.next ?_
  refine W.slots (L' := [(0, _), (1, _), (5, _), (6, _), (7, _)]) ⟨rfl, rfl, rfl, rfl, rfl, trivial⟩ ?_
  refine W.seq ?_
  refine W.seq ?_
  refine W.region ?_
  refine T.q (q_move rfl rfl) (Wt.plain rfl) rfl rfl ?_
  refine T.q (q_bool (b := false) (q_eql rfl rfl rfl) ?hE) (Wt.plain rfl) rfl rfl ?_
  case hE => decide
  refine T.nil ?_
  refine Ex.next ?_
  refine W.slots (L' := [(0, _), (1, _), (5, _), (6, _), (23, _)]) ⟨rfl, rfl, rfl, rfl, rfl, trivial⟩ ?_
  refine W.condF rfl ?_
  refine W.skip ?_
  refine Ex.next ?_
  refine W.slots (L' := [(1, _), (5, _)]) ⟨rfl, rfl, trivial⟩ ?_
  refine W.seq ?_
  refine W.region ?_
  refine T.q (q_move rfl rfl) (Wt.plain rfl) rfl rfl ?_
  refine T.eff (e_call enters22 rfl rfl (fun w hm => take_bad_at b _ _ (by first | omega | (simp; done) | (simp; omega) | (simp at *; omega)) (by first | omega | (simp; done) | (simp; omega) | (simp at *; omega)) hbb hbo w ((R_ext hB.ext) w hm) (by first | omega | (simp; done) | (simp [-List.getD_eq_getElem?_getD]; omega) | (simp at *; omega) | rfl)) rfl rfl) (Wt.plain rfl) ?_
  rintro _ _ ⟨_, _, ⟨rfl, rfl⟩, rfl, rfl⟩
  change (_ : List Blk → Prop) []
  refine T.q (q_move rfl rfl) (Wt.plain rfl) rfl rfl ?_
  refine T.q (q_extract rfl rfl rfl) (Wt.plain rfl) rfl rfl ?_
  refine T.q (q_extract rfl rfl rfl) (Wt.plain rfl) rfl rfl ?_
  refine T.q (q_extract rfl rfl rfl) (Wt.plain rfl) rfl rfl ?_
  refine T.q (q_assign rfl rfl) (Wt.plain rfl) rfl rfl ?_
  refine T.q (q_assign rfl rfl) (Wt.plain rfl) rfl rfl ?_
  refine T.q (q_assign rfl rfl) (Wt.plain rfl) rfl rfl ?_
  refine T.nil ?_
  refine Ex.next ?_
  refine W.slots (L' := [(1, _), (5, _), (11, _), (12, _), (13, _)]) ⟨rfl, rfl, rfl, rfl, rfl, trivial⟩ ?_
  refine W.seq ?_
  refine W.seq ?_
  refine W.region ?_
  refine T.q (q_move rfl rfl) (Wt.plain rfl) rfl rfl ?_
  refine T.q (q_bool (b := true) (q_neq rfl rfl rfl) (decide_eq_true (takeE_ne b))) (Wt.plain rfl) rfl rfl ?_
  refine T.nil ?_
  refine Ex.next ?_
  refine W.slots (L' := [(1, _), (5, _), (11, _), (12, _), (53, _)]) ⟨rfl, rfl, rfl, rfl, rfl, trivial⟩ ?_
  refine W.condT rfl ?_
  refine W.seq ?_
  refine W.region ?_
  refine T.q (q_move rfl rfl) (Wt.plain rfl) rfl rfl ?_
  refine T.q (q_assign rfl rfl) (Wt.plain rfl) rfl rfl ?_
  refine T.nil ?_
  refine Ex.next ?_
  refine W.slots (L' := [(4, _)]) ⟨rfl, trivial⟩ ?_
  refine W.ret ?_
  refine Ex.then_ret ?_
  refine Ex.out1 [] rfl rfl ?_
  exact ⟨rfl, rfl⟩
set_option maxRecDepth 100000 in
theorem takes_t1 (b : List Int) (BA : Option Addr) (bc : Nat) (hbc : b.length ≤ bc) (hbl : b.length ≤ 140737488351232) (hbb : Bytes b) (u : Int) (hbad : u < 1 ∨ 7 < u) (ho : takeOk b = true) (w0 : World) (hB : Reads w0 BA (ints .u8 b)) : Does Try.prog 7 #[.slice BA b.length bc, .int .i64 u] w0 [] (fun v G => v = .bool true ∧ G = []) := by
  obtain ⟨ho0, hol, hok⟩ := take_ok ho
  refine spec_of 91 Try.func7 rfl rfl rfl ?_
  refine W.seq ?_
  refine W.region ?_
  refine T.q (q_assign rfl rfl) (Wt.plain rfl) rfl rfl ?_
  refine T.nil ?_
  refine Ex.next ?_
  refine W.slots (L' := [(0, _), (1, _)]) ⟨rfl, rfl, trivial⟩ ?_
  refine W.seq ?_
  refine W.region ?_
  refine T.eff (e_call enters19 rfl rfl (fun w hm => shown09_spec w) rfl rfl) (Wt.plain rfl) ?_
  rintro _ _ ⟨_, _, ⟨rfl, rfl⟩, rfl, rfl⟩
  change (_ : List Blk → Prop) []
  refine T.q (q_assign rfl rfl) (Wt.plain rfl) rfl rfl ?_
  refine T.nil ?_
  refine Ex.next ?_
  refine W.slots (L' := [(0, _), (1, _), (5, _)]) ⟨rfl, rfl, rfl, trivial⟩ ?_
  refine W.seq ?_
  refine W.region ?_
  refine T.eff (e_litA sc22 ze5 rfl rfl rfl (by simp [Value.cells]) rfl rfl rfl) (Wt.plain rfl) ?_
  rintro _ _ ⟨k1, rfl, rfl⟩
  change (_ : List Blk → Prop) [_]
  refine T.q (q_move rfl rfl) (Wt.plain rfl) rfl rfl ?_
  refine T.eff (e_appendI sc22 ze5 rfl 0 .u8 [] b [] ((List.append_nil _).symm) (R_ext hB.ext) rfl rfl rfl rfl (by first | omega | (simp; done) | (simp [-List.getD_eq_getElem?_getD]; omega) | (simp at *; omega) | rfl) (by first | omega | (simp; done) | (simp [-List.getD_eq_getElem?_getD]; omega) | (simp at *; omega) | rfl) (by first | omega | (simp; done) | (simp [-List.getD_eq_getElem?_getD]; omega) | (simp at *; omega) | rfl) (by first | omega | (simp; done) | (simp [-List.getD_eq_getElem?_getD]; omega)) (by first | omega | (simp; done) | (simp [-List.getD_eq_getElem?_getD]; omega)) rfl rfl) (Wt.plain rfl) ?_
  rintro _ _ ⟨k2, cap3, junk4, hc5, rfl, rfl⟩
  change (_ : List Blk → Prop) [_]
  change (_ : List Blk → Prop) [⟨some k2, ints .u8 b ++ junk4, 5, (0, 0)⟩]
  refine T.q (q_assign rfl rfl) (Wt.plain rfl) rfl rfl ?_
  refine T.nil ?_
  refine Ex.next ?_
  refine W.slots (L' := [(0, _), (1, _), (5, _), (6, _)]) ⟨rfl, rfl, rfl, rfl, trivial⟩ ?_
  refine W.seq ?_
  refine W.region ?_
  refine T.q (q_move rfl rfl) (Wt.plain rfl) rfl rfl ?_
  refine T.eff (e_call enters22 rfl rfl (fun w hm => take_at b _ _ (by first | omega | (simp; done) | (simp; omega) | (simp at *; omega)) (by first | omega | (simp; done) | (simp; omega) | (simp at *; omega)) hbb ho w ((R_pre 0 rfl) w hm) (by first | omega | (simp; done) | (simp [-List.getD_eq_getElem?_getD]; omega) | (simp at *; omega) | rfl)) rfl rfl) (Wt.plain rfl) ?_
  rintro _ _ ⟨_, _, ⟨k6, cap7, junk8, rfl, hc9, rfl⟩, rfl, rfl⟩
  change (_ : List Blk → Prop) [_, _]
  refine T.q (q_move rfl rfl) (Wt.plain rfl) rfl rfl ?_
  refine T.q (q_extract rfl rfl rfl) (Wt.plain rfl) rfl rfl ?_
  refine T.q (q_extract rfl rfl rfl) (Wt.plain rfl) rfl rfl ?_
  refine T.q (q_extract rfl rfl rfl) (Wt.plain rfl) rfl rfl ?_
  refine T.q (q_assign rfl rfl) (Wt.plain rfl) rfl rfl ?_
  refine T.q (q_assign rfl rfl) (Wt.plain rfl) rfl rfl ?_
  refine T.q (q_assign rfl rfl) (Wt.plain rfl) rfl rfl ?_
  refine T.nil ?_
  refine Ex.next ?_
  refine W.slots (L' := [(0, _), (1, _), (5, _), (6, _), (7, _), (8, _), (9, _)]) ⟨rfl, rfl, rfl, rfl, rfl, rfl, rfl, trivial⟩ ?_
  refine W.seq ?_
  refine W.region ?_
  refine T.q (q_move rfl rfl) (Wt.plain rfl) rfl rfl ?_
  refine T.eff (e_call enters27 rfl rfl (fun w hm => reftake_at b _ _ (by first | omega | (simp; done) | (simp; omega) | (simp at *; omega)) (by first | omega | (simp; done) | (simp; omega) | (simp at *; omega)) hbb ho w ((R_ext hB.ext) w hm) (by first | omega | (simp; done) | (simp [-List.getD_eq_getElem?_getD]; omega) | (simp at *; omega) | rfl)) rfl rfl) (Wt.plain rfl) ?_
  rintro _ _ ⟨_, _, ⟨k10, cap11, junk12, rfl, hc13, rfl⟩, rfl, rfl⟩
  change (_ : List Blk → Prop) [_, _, _]
  refine T.q (q_move rfl rfl) (Wt.plain rfl) rfl rfl ?_
  refine T.q (q_extract rfl rfl rfl) (Wt.plain rfl) rfl rfl ?_
  refine T.q (q_extract rfl rfl rfl) (Wt.plain rfl) rfl rfl ?_
  refine T.q (q_extract rfl rfl rfl) (Wt.plain rfl) rfl rfl ?_
  refine T.q (q_assign rfl rfl) (Wt.plain rfl) rfl rfl ?_
  refine T.q (q_assign rfl rfl) (Wt.plain rfl) rfl rfl ?_
  refine T.q (q_assign rfl rfl) (Wt.plain rfl) rfl rfl ?_
  refine T.nil ?_
  refine Ex.next ?_
  refine W.slots (L' := [(0, _), (1, _), (5, _), (6, _), (7, _), (8, _), (9, _), (10, _), (11, _), (12, _)]) ⟨rfl, rfl, rfl, rfl, rfl, rfl, rfl, rfl, rfl, rfl, trivial⟩ ?_
  refine W.seq ?_
  refine W.region ?_
  refine T.q (q_move rfl rfl) (Wt.plain rfl) rfl rfl ?_
  refine T.q (q_move rfl rfl) (Wt.plain rfl) rfl rfl ?_
  refine T.eff (e_call enters28 rfl rfl (fun w hm => takef_bad1_at b _ _ (by first | omega | (simp; done) | (simp; omega) | (simp at *; omega)) (by first | omega | (simp; done) | (simp; omega) | (simp at *; omega)) u (hbad) w ((R_pre 0 rfl) w hm) (by first | omega | (simp; done) | (simp [-List.getD_eq_getElem?_getD]; omega) | (simp at *; omega) | rfl)) rfl rfl) (Wt.plain rfl) ?_
  rintro _ _ ⟨_, _, ⟨rfl, rfl⟩, rfl, rfl⟩
  change (_ : List Blk → Prop) [_, _, _]
  refine T.q (q_move rfl rfl) (Wt.plain rfl) rfl rfl ?_
  refine T.q (q_extract rfl rfl rfl) (Wt.plain rfl) rfl rfl ?_
  refine T.q (q_extract rfl rfl rfl) (Wt.plain rfl) rfl rfl ?_
  refine T.q (q_extract rfl rfl rfl) (Wt.plain rfl) rfl rfl ?_
  refine T.q (q_assign rfl rfl) (Wt.plain rfl) rfl rfl ?_
  refine T.q (q_assign rfl rfl) (Wt.plain rfl) rfl rfl ?_
  refine T.q (q_assign rfl rfl) (Wt.plain rfl) rfl rfl ?_
  refine T.nil ?_
  refine Ex.next ?_
  refine W.slots (L' := [(0, _), (1, _), (5, _), (6, _), (7, _), (8, _), (9, _), (10, _), (11, _), (12, _), (13, _), (14, _), (15, _)]) ⟨rfl, rfl, rfl, rfl, rfl, rfl, rfl, rfl, rfl, rfl, rfl, rfl, rfl, trivial⟩ ?_
  refine W.seq ?_
  refine W.region ?_
  refine T.q (q_move rfl rfl) (Wt.plain rfl) rfl rfl ?_
  refine T.q (q_move rfl rfl) (Wt.plain rfl) rfl rfl ?_
  refine T.eff (e_call enters29 rfl rfl (fun w hm => reftakef_bad1_at b _ _ (by first | omega | (simp; done) | (simp; omega) | (simp at *; omega)) (by first | omega | (simp; done) | (simp; omega) | (simp at *; omega)) u (hbad) w ((R_ext hB.ext) w hm) (by first | omega | (simp; done) | (simp [-List.getD_eq_getElem?_getD]; omega) | (simp at *; omega) | rfl)) rfl rfl) (Wt.plain rfl) ?_
  rintro _ _ ⟨_, _, ⟨rfl, rfl⟩, rfl, rfl⟩
  change (_ : List Blk → Prop) [_, _, _]
  refine T.q (q_move rfl rfl) (Wt.plain rfl) rfl rfl ?_
  refine T.q (q_extract rfl rfl rfl) (Wt.plain rfl) rfl rfl ?_
  refine T.q (q_extract rfl rfl rfl) (Wt.plain rfl) rfl rfl ?_
  refine T.q (q_extract rfl rfl rfl) (Wt.plain rfl) rfl rfl ?_
  refine T.q (q_assign rfl rfl) (Wt.plain rfl) rfl rfl ?_
  refine T.q (q_assign rfl rfl) (Wt.plain rfl) rfl rfl ?_
  refine T.q (q_assign rfl rfl) (Wt.plain rfl) rfl rfl ?_
  refine T.nil ?_
  refine Ex.next ?_
  refine W.slots (L' := [(0, _), (5, _), (6, _), (7, _), (8, _), (9, _), (10, _), (11, _), (12, _), (13, _), (14, _), (15, _), (16, _), (17, _), (18, _)]) ⟨rfl, rfl, rfl, rfl, rfl, rfl, rfl, rfl, rfl, rfl, rfl, rfl, rfl, rfl, rfl, trivial⟩ ?_
  refine W.seq ?_
  refine W.region ?_
  refine T.q (q_move rfl rfl) (Wt.plain rfl) rfl rfl ?_
  refine T.q (q_move rfl rfl) (Wt.plain rfl) rfl rfl ?_
  refine T.q (q_move rfl rfl) (Wt.yes rfl rfl rfl) rfl rfl ?_
  refine T.q (q_move rfl rfl) (Wt.yes rfl rfl rfl) rfl rfl ?_
  refine T.q (q_bool (b := true) (q_eql rfl rfl rfl) (decide_eq_true rfl)) (Wt.yes rfl rfl rfl) rfl rfl ?_
  refine T.q (q_pickT rfl rfl rfl) (Wt.plain rfl) rfl rfl ?_
  refine T.q (q_move rfl rfl) (Wt.plain rfl) rfl rfl ?_
  refine T.q (q_move rfl rfl) (Wt.yes rfl rfl rfl) rfl rfl ?_
  refine T.q (q_bstr sc22 un5 un9 (R_opre 1 rfl) (by first | omega | (simp; done) | (simp [-List.getD_eq_getElem?_getD]; omega) | (simp at *; omega) | rfl) rfl rfl) (Wt.yes rfl rfl rfl) rfl rfl ?_
  refine T.q (q_move rfl rfl) (Wt.yes rfl rfl rfl) rfl rfl ?_
  refine T.q (q_bstr sc22 un5 un9 (R_pre 2 rfl) (by first | omega | (simp; done) | (simp [-List.getD_eq_getElem?_getD]; omega) | (simp at *; omega) | rfl) rfl rfl) (Wt.yes rfl rfl rfl) rfl rfl ?_
  refine T.q (q_bool (b := true) (q_eqlS rfl rfl rfl) (beq_self_eq_true _)) (Wt.yes rfl rfl rfl) rfl rfl ?_
  refine T.q (q_pickT rfl rfl rfl) (Wt.plain rfl) rfl rfl ?_
  refine T.q (q_move rfl rfl) (Wt.plain rfl) rfl rfl ?_
  refine T.q (q_move rfl rfl) (Wt.yes rfl rfl rfl) rfl rfl ?_
  refine T.q (q_move rfl rfl) (Wt.yes rfl rfl rfl) rfl rfl ?_
  refine T.q (q_bool (b := true) (q_eql rfl rfl rfl) (decide_eq_true rfl)) (Wt.yes rfl rfl rfl) rfl rfl ?_
  refine T.q (q_pickT rfl rfl rfl) (Wt.plain rfl) rfl rfl ?_
  refine T.q (q_move rfl rfl) (Wt.plain rfl) rfl rfl ?_
  refine T.q (q_move rfl rfl) (Wt.yes rfl rfl rfl) rfl rfl ?_
  refine T.q (q_move rfl rfl) (Wt.yes rfl rfl rfl) rfl rfl ?_
  refine T.q (q_bool (b := true) (q_eql rfl rfl rfl) (decide_eq_true rfl)) (Wt.yes rfl rfl rfl) rfl rfl ?_
  refine T.q (q_pickT rfl rfl rfl) (Wt.plain rfl) rfl rfl ?_
  refine T.q (q_move rfl rfl) (Wt.plain rfl) rfl rfl ?_
  refine T.q (q_move rfl rfl) (Wt.yes rfl rfl rfl) rfl rfl ?_
  refine T.q (q_bstr sc22 un5 un9 (R_nilI .u8) (by first | omega | (simp; done) | (simp [-List.getD_eq_getElem?_getD]; omega) | (simp at *; omega) | rfl) rfl rfl) (Wt.yes rfl rfl rfl) rfl rfl ?_
  refine T.q (q_move rfl rfl) (Wt.yes rfl rfl rfl) rfl rfl ?_
  refine T.q (q_bstr sc22 un5 un9 (R_nilI .u8) (by first | omega | (simp; done) | (simp [-List.getD_eq_getElem?_getD]; omega) | (simp at *; omega) | rfl) rfl rfl) (Wt.yes rfl rfl rfl) rfl rfl ?_
  refine T.q (q_bool (b := true) (q_eqlS rfl rfl rfl) (beq_self_eq_true _)) (Wt.yes rfl rfl rfl) rfl rfl ?_
  refine T.q (q_pickT rfl rfl rfl) (Wt.plain rfl) rfl rfl ?_
  refine T.q (q_move rfl rfl) (Wt.plain rfl) rfl rfl ?_
  refine T.q (q_move rfl rfl) (Wt.yes rfl rfl rfl) rfl rfl ?_
  refine T.q (q_move rfl rfl) (Wt.yes rfl rfl rfl) rfl rfl ?_
  refine T.q (q_bool (b := true) (q_eql rfl rfl rfl) (decide_eq_true rfl)) (Wt.yes rfl rfl rfl) rfl rfl ?_
  refine T.q (q_pickT rfl rfl rfl) (Wt.plain rfl) rfl rfl ?_
  refine T.q (q_move rfl rfl) (Wt.plain rfl) rfl rfl ?_
  refine T.q (q_move rfl rfl) (Wt.yes rfl rfl rfl) rfl rfl ?_
  refine T.q (q_bstr sc22 un5 un9 (R_pre 0 rfl) (by first | omega | (simp; done) | (simp [-List.getD_eq_getElem?_getD]; omega) | (simp at *; omega) | rfl) rfl rfl) (Wt.yes rfl rfl rfl) rfl rfl ?_
  refine T.q (q_move rfl rfl) (Wt.yes rfl rfl rfl) rfl rfl ?_
  refine T.q (q_bstr sc22 un5 un9 (R_ext hB.ext) (by first | omega | (simp; done) | (simp [-List.getD_eq_getElem?_getD]; omega) | (simp at *; omega) | rfl) rfl rfl) (Wt.yes rfl rfl rfl) rfl rfl ?_
  refine T.q (q_bool (b := true) (q_eqlS rfl rfl rfl) (beq_self_eq_true _)) (Wt.yes rfl rfl rfl) rfl rfl ?_
  refine T.q (q_pickT rfl rfl rfl) (Wt.plain rfl) rfl rfl ?_
  refine T.q (q_assign rfl rfl) (Wt.plain rfl) rfl rfl ?_
  refine T.nil ?_
  refine Ex.next ?_
  refine W.less (L' := [(4, _)]) [false, false, false] ⟨rfl, trivial⟩ ?_
  change (_ : List Blk → Prop) []
  refine W.ret ?_
  refine Ex.out1 [] rfl rfl ?_
  exact ⟨rfl, rfl⟩
set_option maxRecDepth 100000 in
theorem takes_t2 (b : List Int) (BA : Option Addr) (bc : Nat) (hbc : b.length ≤ bc) (hbl : b.length ≤ 140737488351232) (hbb : Bytes b) (s : Nat) (hs1 : 1 ≤ s) (hs7 : s ≤ 7) (hlt : b.length < s) (ho : takeOk b = true) (w0 : World) (hB : Reads w0 BA (ints .u8 b)) : Does Try.prog 7 #[.slice BA b.length bc, .int .i64 ((s : Nat) : Int)] w0 [] (fun v G => v = .bool true ∧ G = []) := by
  obtain ⟨ho0, hol, hok⟩ := take_ok ho
  refine spec_of 91 Try.func7 rfl rfl rfl ?_
  refine W.seq ?_
  refine W.region ?_
  refine T.q (q_assign rfl rfl) (Wt.plain rfl) rfl rfl ?_
  refine T.nil ?_
  refine Ex.next ?_
  refine W.slots (L' := [(0, _), (1, _)]) ⟨rfl, rfl, trivial⟩ ?_
  refine W.seq ?_
  refine W.region ?_
  refine T.eff (e_call enters19 rfl rfl (fun w hm => shown09_spec w) rfl rfl) (Wt.plain rfl) ?_
  rintro _ _ ⟨_, _, ⟨rfl, rfl⟩, rfl, rfl⟩
  change (_ : List Blk → Prop) []
  refine T.q (q_assign rfl rfl) (Wt.plain rfl) rfl rfl ?_
  refine T.nil ?_
  refine Ex.next ?_
  refine W.slots (L' := [(0, _), (1, _), (5, _)]) ⟨rfl, rfl, rfl, trivial⟩ ?_
  refine W.seq ?_
  refine W.region ?_
  refine T.eff (e_litA sc22 ze5 rfl rfl rfl (by simp [Value.cells]) rfl rfl rfl) (Wt.plain rfl) ?_
  rintro _ _ ⟨k1, rfl, rfl⟩
  change (_ : List Blk → Prop) [_]
  refine T.q (q_move rfl rfl) (Wt.plain rfl) rfl rfl ?_
  refine T.eff (e_appendI sc22 ze5 rfl 0 .u8 [] b [] ((List.append_nil _).symm) (R_ext hB.ext) rfl rfl rfl rfl (by first | omega | (simp; done) | (simp [-List.getD_eq_getElem?_getD]; omega) | (simp at *; omega) | rfl) (by first | omega | (simp; done) | (simp [-List.getD_eq_getElem?_getD]; omega) | (simp at *; omega) | rfl) (by first | omega | (simp; done) | (simp [-List.getD_eq_getElem?_getD]; omega) | (simp at *; omega) | rfl) (by first | omega | (simp; done) | (simp [-List.getD_eq_getElem?_getD]; omega)) (by first | omega | (simp; done) | (simp [-List.getD_eq_getElem?_getD]; omega)) rfl rfl) (Wt.plain rfl) ?_
  rintro _ _ ⟨k2, cap3, junk4, hc5, rfl, rfl⟩
  change (_ : List Blk → Prop) [_]
  change (_ : List Blk → Prop) [⟨some k2, ints .u8 b ++ junk4, 5, (0, 0)⟩]
  refine T.q (q_assign rfl rfl) (Wt.plain rfl) rfl rfl ?_
  refine T.nil ?_
  refine Ex.next ?_
  refine W.slots (L' := [(0, _), (1, _), (5, _), (6, _)]) ⟨rfl, rfl, rfl, rfl, trivial⟩ ?_
  refine W.seq ?_
  refine W.region ?_
  refine T.q (q_move rfl rfl) (Wt.plain rfl) rfl rfl ?_
  refine T.eff (e_call enters22 rfl rfl (fun w hm => take_at b _ _ (by first | omega | (simp; done) | (simp; omega) | (simp at *; omega)) (by first | omega | (simp; done) | (simp; omega) | (simp at *; omega)) hbb ho w ((R_pre 0 rfl) w hm) (by first | omega | (simp; done) | (simp [-List.getD_eq_getElem?_getD]; omega) | (simp at *; omega) | rfl)) rfl rfl) (Wt.plain rfl) ?_
  rintro _ _ ⟨_, _, ⟨k6, cap7, junk8, rfl, hc9, rfl⟩, rfl, rfl⟩
  change (_ : List Blk → Prop) [_, _]
  refine T.q (q_move rfl rfl) (Wt.plain rfl) rfl rfl ?_
  refine T.q (q_extract rfl rfl rfl) (Wt.plain rfl) rfl rfl ?_
  refine T.q (q_extract rfl rfl rfl) (Wt.plain rfl) rfl rfl ?_
  refine T.q (q_extract rfl rfl rfl) (Wt.plain rfl) rfl rfl ?_
  refine T.q (q_assign rfl rfl) (Wt.plain rfl) rfl rfl ?_
  refine T.q (q_assign rfl rfl) (Wt.plain rfl) rfl rfl ?_
  refine T.q (q_assign rfl rfl) (Wt.plain rfl) rfl rfl ?_
  refine T.nil ?_
  refine Ex.next ?_
  refine W.slots (L' := [(0, _), (1, _), (5, _), (6, _), (7, _), (8, _), (9, _)]) ⟨rfl, rfl, rfl, rfl, rfl, rfl, rfl, trivial⟩ ?_
  refine W.seq ?_
  refine W.region ?_
  refine T.q (q_move rfl rfl) (Wt.plain rfl) rfl rfl ?_
  refine T.eff (e_call enters27 rfl rfl (fun w hm => reftake_at b _ _ (by first | omega | (simp; done) | (simp; omega) | (simp at *; omega)) (by first | omega | (simp; done) | (simp; omega) | (simp at *; omega)) hbb ho w ((R_ext hB.ext) w hm) (by first | omega | (simp; done) | (simp [-List.getD_eq_getElem?_getD]; omega) | (simp at *; omega) | rfl)) rfl rfl) (Wt.plain rfl) ?_
  rintro _ _ ⟨_, _, ⟨k10, cap11, junk12, rfl, hc13, rfl⟩, rfl, rfl⟩
  change (_ : List Blk → Prop) [_, _, _]
  refine T.q (q_move rfl rfl) (Wt.plain rfl) rfl rfl ?_
  refine T.q (q_extract rfl rfl rfl) (Wt.plain rfl) rfl rfl ?_
  refine T.q (q_extract rfl rfl rfl) (Wt.plain rfl) rfl rfl ?_
  refine T.q (q_extract rfl rfl rfl) (Wt.plain rfl) rfl rfl ?_
  refine T.q (q_assign rfl rfl) (Wt.plain rfl) rfl rfl ?_
  refine T.q (q_assign rfl rfl) (Wt.plain rfl) rfl rfl ?_
  refine T.q (q_assign rfl rfl) (Wt.plain rfl) rfl rfl ?_
  refine T.nil ?_
  refine Ex.next ?_
  refine W.slots (L' := [(0, _), (1, _), (5, _), (6, _), (7, _), (8, _), (9, _), (10, _), (11, _), (12, _)]) ⟨rfl, rfl, rfl, rfl, rfl, rfl, rfl, rfl, rfl, rfl, trivial⟩ ?_
  refine W.seq ?_
  refine W.region ?_
  refine T.q (q_move rfl rfl) (Wt.plain rfl) rfl rfl ?_
  refine T.q (q_move rfl rfl) (Wt.plain rfl) rfl rfl ?_
  refine T.eff (e_call enters28 rfl rfl (fun w hm => takef_bad2_at b _ _ (by first | omega | (simp; done) | (simp; omega) | (simp at *; omega)) (by first | omega | (simp; done) | (simp; omega) | (simp at *; omega)) s (by first | omega | (simp; done) | (simp; omega) | (simp at *; omega)) (by first | omega | (simp; done) | (simp; omega) | (simp at *; omega)) (by first | omega | (simp; done) | (simp; omega) | (simp at *; omega)) w ((R_pre 0 rfl) w hm) (by first | omega | (simp; done) | (simp [-List.getD_eq_getElem?_getD]; omega) | (simp at *; omega) | rfl)) rfl rfl) (Wt.plain rfl) ?_
  rintro _ _ ⟨_, _, ⟨rfl, rfl⟩, rfl, rfl⟩
  change (_ : List Blk → Prop) [_, _, _]
  refine T.q (q_move rfl rfl) (Wt.plain rfl) rfl rfl ?_
  refine T.q (q_extract rfl rfl rfl) (Wt.plain rfl) rfl rfl ?_
  refine T.q (q_extract rfl rfl rfl) (Wt.plain rfl) rfl rfl ?_
  refine T.q (q_extract rfl rfl rfl) (Wt.plain rfl) rfl rfl ?_
  refine T.q (q_assign rfl rfl) (Wt.plain rfl) rfl rfl ?_
  refine T.q (q_assign rfl rfl) (Wt.plain rfl) rfl rfl ?_
  refine T.q (q_assign rfl rfl) (Wt.plain rfl) rfl rfl ?_
  refine T.nil ?_
  refine Ex.next ?_
  refine W.slots (L' := [(0, _), (1, _), (5, _), (6, _), (7, _), (8, _), (9, _), (10, _), (11, _), (12, _), (13, _), (14, _), (15, _)]) ⟨rfl, rfl, rfl, rfl, rfl, rfl, rfl, rfl, rfl, rfl, rfl, rfl, rfl, trivial⟩ ?_
  refine W.seq ?_
  refine W.region ?_
  refine T.q (q_move rfl rfl) (Wt.plain rfl) rfl rfl ?_
  refine T.q (q_move rfl rfl) (Wt.plain rfl) rfl rfl ?_
  refine T.eff (e_call enters29 rfl rfl (fun w hm => reftakef_bad2_at b _ _ (by first | omega | (simp; done) | (simp; omega) | (simp at *; omega)) (by first | omega | (simp; done) | (simp; omega) | (simp at *; omega)) s (by first | omega | (simp; done) | (simp; omega) | (simp at *; omega)) (by first | omega | (simp; done) | (simp; omega) | (simp at *; omega)) (by first | omega | (simp; done) | (simp; omega) | (simp at *; omega)) w ((R_ext hB.ext) w hm) (by first | omega | (simp; done) | (simp [-List.getD_eq_getElem?_getD]; omega) | (simp at *; omega) | rfl)) rfl rfl) (Wt.plain rfl) ?_
  rintro _ _ ⟨_, _, ⟨rfl, rfl⟩, rfl, rfl⟩
  change (_ : List Blk → Prop) [_, _, _]
  refine T.q (q_move rfl rfl) (Wt.plain rfl) rfl rfl ?_
  refine T.q (q_extract rfl rfl rfl) (Wt.plain rfl) rfl rfl ?_
  refine T.q (q_extract rfl rfl rfl) (Wt.plain rfl) rfl rfl ?_
  refine T.q (q_extract rfl rfl rfl) (Wt.plain rfl) rfl rfl ?_
  refine T.q (q_assign rfl rfl) (Wt.plain rfl) rfl rfl ?_
  refine T.q (q_assign rfl rfl) (Wt.plain rfl) rfl rfl ?_
  refine T.q (q_assign rfl rfl) (Wt.plain rfl) rfl rfl ?_
  refine T.nil ?_
  refine Ex.next ?_
  refine W.slots (L' := [(0, _), (5, _), (6, _), (7, _), (8, _), (9, _), (10, _), (11, _), (12, _), (13, _), (14, _), (15, _), (16, _), (17, _), (18, _)]) ⟨rfl, rfl, rfl, rfl, rfl, rfl, rfl, rfl, rfl, rfl, rfl, rfl, rfl, rfl, rfl, trivial⟩ ?_
  refine W.seq ?_
  refine W.region ?_
  refine T.q (q_move rfl rfl) (Wt.plain rfl) rfl rfl ?_
  refine T.q (q_move rfl rfl) (Wt.plain rfl) rfl rfl ?_
  refine T.q (q_move rfl rfl) (Wt.yes rfl rfl rfl) rfl rfl ?_
  refine T.q (q_move rfl rfl) (Wt.yes rfl rfl rfl) rfl rfl ?_
  refine T.q (q_bool (b := true) (q_eql rfl rfl rfl) (decide_eq_true rfl)) (Wt.yes rfl rfl rfl) rfl rfl ?_
  refine T.q (q_pickT rfl rfl rfl) (Wt.plain rfl) rfl rfl ?_
  refine T.q (q_move rfl rfl) (Wt.plain rfl) rfl rfl ?_
  refine T.q (q_move rfl rfl) (Wt.yes rfl rfl rfl) rfl rfl ?_
  refine T.q (q_bstr sc22 un5 un9 (R_opre 1 rfl) (by first | omega | (simp; done) | (simp [-List.getD_eq_getElem?_getD]; omega) | (simp at *; omega) | rfl) rfl rfl) (Wt.yes rfl rfl rfl) rfl rfl ?_
  refine T.q (q_move rfl rfl) (Wt.yes rfl rfl rfl) rfl rfl ?_
  refine T.q (q_bstr sc22 un5 un9 (R_pre 2 rfl) (by first | omega | (simp; done) | (simp [-List.getD_eq_getElem?_getD]; omega) | (simp at *; omega) | rfl) rfl rfl) (Wt.yes rfl rfl rfl) rfl rfl ?_
  refine T.q (q_bool (b := true) (q_eqlS rfl rfl rfl) (beq_self_eq_true _)) (Wt.yes rfl rfl rfl) rfl rfl ?_
  refine T.q (q_pickT rfl rfl rfl) (Wt.plain rfl) rfl rfl ?_
  refine T.q (q_move rfl rfl) (Wt.plain rfl) rfl rfl ?_
  refine T.q (q_move rfl rfl) (Wt.yes rfl rfl rfl) rfl rfl ?_
  refine T.q (q_move rfl rfl) (Wt.yes rfl rfl rfl) rfl rfl ?_
  refine T.q (q_bool (b := true) (q_eql rfl rfl rfl) (decide_eq_true rfl)) (Wt.yes rfl rfl rfl) rfl rfl ?_
  refine T.q (q_pickT rfl rfl rfl) (Wt.plain rfl) rfl rfl ?_
  refine T.q (q_move rfl rfl) (Wt.plain rfl) rfl rfl ?_
  refine T.q (q_move rfl rfl) (Wt.yes rfl rfl rfl) rfl rfl ?_
  refine T.q (q_move rfl rfl) (Wt.yes rfl rfl rfl) rfl rfl ?_
  refine T.q (q_bool (b := true) (q_eql rfl rfl rfl) (decide_eq_true rfl)) (Wt.yes rfl rfl rfl) rfl rfl ?_
  refine T.q (q_pickT rfl rfl rfl) (Wt.plain rfl) rfl rfl ?_
  refine T.q (q_move rfl rfl) (Wt.plain rfl) rfl rfl ?_
  refine T.q (q_move rfl rfl) (Wt.yes rfl rfl rfl) rfl rfl ?_
  refine T.q (q_bstr sc22 un5 un9 (R_nilI .u8) (by first | omega | (simp; done) | (simp [-List.getD_eq_getElem?_getD]; omega) | (simp at *; omega) | rfl) rfl rfl) (Wt.yes rfl rfl rfl) rfl rfl ?_
  refine T.q (q_move rfl rfl) (Wt.yes rfl rfl rfl) rfl rfl ?_
  refine T.q (q_bstr sc22 un5 un9 (R_nilI .u8) (by first | omega | (simp; done) | (simp [-List.getD_eq_getElem?_getD]; omega) | (simp at *; omega) | rfl) rfl rfl) (Wt.yes rfl rfl rfl) rfl rfl ?_
  refine T.q (q_bool (b := true) (q_eqlS rfl rfl rfl) (beq_self_eq_true _)) (Wt.yes rfl rfl rfl) rfl rfl ?_
  refine T.q (q_pickT rfl rfl rfl) (Wt.plain rfl) rfl rfl ?_
  refine T.q (q_move rfl rfl) (Wt.plain rfl) rfl rfl ?_
  refine T.q (q_move rfl rfl) (Wt.yes rfl rfl rfl) rfl rfl ?_
  refine T.q (q_move rfl rfl) (Wt.yes rfl rfl rfl) rfl rfl ?_
  refine T.q (q_bool (b := true) (q_eql rfl rfl rfl) (decide_eq_true rfl)) (Wt.yes rfl rfl rfl) rfl rfl ?_
  refine T.q (q_pickT rfl rfl rfl) (Wt.plain rfl) rfl rfl ?_
  refine T.q (q_move rfl rfl) (Wt.plain rfl) rfl rfl ?_
  refine T.q (q_move rfl rfl) (Wt.yes rfl rfl rfl) rfl rfl ?_
  refine T.q (q_bstr sc22 un5 un9 (R_pre 0 rfl) (by first | omega | (simp; done) | (simp [-List.getD_eq_getElem?_getD]; omega) | (simp at *; omega) | rfl) rfl rfl) (Wt.yes rfl rfl rfl) rfl rfl ?_
  refine T.q (q_move rfl rfl) (Wt.yes rfl rfl rfl) rfl rfl ?_
  refine T.q (q_bstr sc22 un5 un9 (R_ext hB.ext) (by first | omega | (simp; done) | (simp [-List.getD_eq_getElem?_getD]; omega) | (simp at *; omega) | rfl) rfl rfl) (Wt.yes rfl rfl rfl) rfl rfl ?_
  refine T.q (q_bool (b := true) (q_eqlS rfl rfl rfl) (beq_self_eq_true _)) (Wt.yes rfl rfl rfl) rfl rfl ?_
  refine T.q (q_pickT rfl rfl rfl) (Wt.plain rfl) rfl rfl ?_
  refine T.q (q_assign rfl rfl) (Wt.plain rfl) rfl rfl ?_
  refine T.nil ?_
  refine Ex.next ?_
  refine W.less (L' := [(4, _)]) [false, false, false] ⟨rfl, trivial⟩ ?_
  change (_ : List Blk → Prop) []
  refine W.ret ?_
  refine Ex.out1 [] rfl rfl ?_
  exact ⟨rfl, rfl⟩
set_option maxRecDepth 100000 in
theorem takes_tg (b : List Int) (BA : Option Addr) (bc : Nat) (hbc : b.length ≤ bc) (hbl : b.length ≤ 140737488351232) (hbb : Bytes b) (s : Nat) (hs1 : 1 ≤ s) (hs7 : s ≤ 7) (hle : s ≤ b.length) (ho : takeOk b = true) (w0 : World) (hB : Reads w0 BA (ints .u8 b)) : Does Try.prog 7 #[.slice BA b.length bc, .int .i64 ((s : Nat) : Int)] w0 [] (fun v G => v = .bool true ∧ G = []) := by
  obtain ⟨ho0, hol, hok⟩ := take_ok ho
  refine spec_of 91 Try.func7 rfl rfl rfl ?_
  refine W.seq ?_
  refine W.region ?_
  refine T.q (q_assign rfl rfl) (Wt.plain rfl) rfl rfl ?_
  refine T.nil ?_
  refine Ex.next ?_
  refine W.slots (L' := [(0, _), (1, _)]) ⟨rfl, rfl, trivial⟩ ?_
  refine W.seq ?_
  refine W.region ?_
  refine T.eff (e_call enters19 rfl rfl (fun w hm => shown09_spec w) rfl rfl) (Wt.plain rfl) ?_
  rintro _ _ ⟨_, _, ⟨rfl, rfl⟩, rfl, rfl⟩
  change (_ : List Blk → Prop) []
  refine T.q (q_assign rfl rfl) (Wt.plain rfl) rfl rfl ?_
  refine T.nil ?_
  refine Ex.next ?_
  refine W.slots (L' := [(0, _), (1, _), (5, _)]) ⟨rfl, rfl, rfl, trivial⟩ ?_
  refine W.seq ?_
  refine W.region ?_
  refine T.eff (e_litA sc22 ze5 rfl rfl rfl (by simp [Value.cells]) rfl rfl rfl) (Wt.plain rfl) ?_
  rintro _ _ ⟨k1, rfl, rfl⟩
  change (_ : List Blk → Prop) [_]
  refine T.q (q_move rfl rfl) (Wt.plain rfl) rfl rfl ?_
  refine T.eff (e_appendI sc22 ze5 rfl 0 .u8 [] b [] ((List.append_nil _).symm) (R_ext hB.ext) rfl rfl rfl rfl (by first | omega | (simp; done) | (simp [-List.getD_eq_getElem?_getD]; omega) | (simp at *; omega) | rfl) (by first | omega | (simp; done) | (simp [-List.getD_eq_getElem?_getD]; omega) | (simp at *; omega) | rfl) (by first | omega | (simp; done) | (simp [-List.getD_eq_getElem?_getD]; omega) | (simp at *; omega) | rfl) (by first | omega | (simp; done) | (simp [-List.getD_eq_getElem?_getD]; omega)) (by first | omega | (simp; done) | (simp [-List.getD_eq_getElem?_getD]; omega)) rfl rfl) (Wt.plain rfl) ?_
  rintro _ _ ⟨k2, cap3, junk4, hc5, rfl, rfl⟩
  change (_ : List Blk → Prop) [_]
  change (_ : List Blk → Prop) [⟨some k2, ints .u8 b ++ junk4, 5, (0, 0)⟩]
  refine T.q (q_assign rfl rfl) (Wt.plain rfl) rfl rfl ?_
  refine T.nil ?_
  refine Ex.next ?_
  refine W.slots (L' := [(0, _), (1, _), (5, _), (6, _)]) ⟨rfl, rfl, rfl, rfl, trivial⟩ ?_
  refine W.seq ?_
  refine W.region ?_
  refine T.q (q_move rfl rfl) (Wt.plain rfl) rfl rfl ?_
  refine T.eff (e_call enters22 rfl rfl (fun w hm => take_at b _ _ (by first | omega | (simp; done) | (simp; omega) | (simp at *; omega)) (by first | omega | (simp; done) | (simp; omega) | (simp at *; omega)) hbb ho w ((R_pre 0 rfl) w hm) (by first | omega | (simp; done) | (simp [-List.getD_eq_getElem?_getD]; omega) | (simp at *; omega) | rfl)) rfl rfl) (Wt.plain rfl) ?_
  rintro _ _ ⟨_, _, ⟨k6, cap7, junk8, rfl, hc9, rfl⟩, rfl, rfl⟩
  change (_ : List Blk → Prop) [_, _]
  refine T.q (q_move rfl rfl) (Wt.plain rfl) rfl rfl ?_
  refine T.q (q_extract rfl rfl rfl) (Wt.plain rfl) rfl rfl ?_
  refine T.q (q_extract rfl rfl rfl) (Wt.plain rfl) rfl rfl ?_
  refine T.q (q_extract rfl rfl rfl) (Wt.plain rfl) rfl rfl ?_
  refine T.q (q_assign rfl rfl) (Wt.plain rfl) rfl rfl ?_
  refine T.q (q_assign rfl rfl) (Wt.plain rfl) rfl rfl ?_
  refine T.q (q_assign rfl rfl) (Wt.plain rfl) rfl rfl ?_
  refine T.nil ?_
  refine Ex.next ?_
  refine W.slots (L' := [(0, _), (1, _), (5, _), (6, _), (7, _), (8, _), (9, _)]) ⟨rfl, rfl, rfl, rfl, rfl, rfl, rfl, trivial⟩ ?_
  refine W.seq ?_
  refine W.region ?_
  refine T.q (q_move rfl rfl) (Wt.plain rfl) rfl rfl ?_
  refine T.eff (e_call enters27 rfl rfl (fun w hm => reftake_at b _ _ (by first | omega | (simp; done) | (simp; omega) | (simp at *; omega)) (by first | omega | (simp; done) | (simp; omega) | (simp at *; omega)) hbb ho w ((R_ext hB.ext) w hm) (by first | omega | (simp; done) | (simp [-List.getD_eq_getElem?_getD]; omega) | (simp at *; omega) | rfl)) rfl rfl) (Wt.plain rfl) ?_
  rintro _ _ ⟨_, _, ⟨k10, cap11, junk12, rfl, hc13, rfl⟩, rfl, rfl⟩
  change (_ : List Blk → Prop) [_, _, _]
  refine T.q (q_move rfl rfl) (Wt.plain rfl) rfl rfl ?_
  refine T.q (q_extract rfl rfl rfl) (Wt.plain rfl) rfl rfl ?_
  refine T.q (q_extract rfl rfl rfl) (Wt.plain rfl) rfl rfl ?_
  refine T.q (q_extract rfl rfl rfl) (Wt.plain rfl) rfl rfl ?_
  refine T.q (q_assign rfl rfl) (Wt.plain rfl) rfl rfl ?_
  refine T.q (q_assign rfl rfl) (Wt.plain rfl) rfl rfl ?_
  refine T.q (q_assign rfl rfl) (Wt.plain rfl) rfl rfl ?_
  refine T.nil ?_
  refine Ex.next ?_
  refine W.slots (L' := [(0, _), (1, _), (5, _), (6, _), (7, _), (8, _), (9, _), (10, _), (11, _), (12, _)]) ⟨rfl, rfl, rfl, rfl, rfl, rfl, rfl, rfl, rfl, rfl, trivial⟩ ?_
  refine W.seq ?_
  refine W.region ?_
  refine T.q (q_move rfl rfl) (Wt.plain rfl) rfl rfl ?_
  refine T.q (q_move rfl rfl) (Wt.plain rfl) rfl rfl ?_
  refine T.eff (e_call enters28 rfl rfl (fun w hm => takef_at b _ _ (by first | omega | (simp; done) | (simp; omega) | (simp at *; omega)) (by first | omega | (simp; done) | (simp; omega) | (simp at *; omega)) hbb s (by first | omega | (simp; done) | (simp; omega) | (simp at *; omega)) (by first | omega | (simp; done) | (simp; omega) | (simp at *; omega)) (by first | omega | (simp; done) | (simp; omega) | (simp at *; omega)) w ((R_pre 0 rfl) w hm) (by first | omega | (simp; done) | (simp [-List.getD_eq_getElem?_getD]; omega) | (simp at *; omega) | rfl)) rfl rfl) (Wt.plain rfl) ?_
  rintro _ _ ⟨_, _, ⟨k14, cap15, junk16, rfl, hc17, rfl⟩, rfl, rfl⟩
  change (_ : List Blk → Prop) [_, _, _, _]
  refine T.q (q_move rfl rfl) (Wt.plain rfl) rfl rfl ?_
  refine T.q (q_extract rfl rfl rfl) (Wt.plain rfl) rfl rfl ?_
  refine T.q (q_extract rfl rfl rfl) (Wt.plain rfl) rfl rfl ?_
  refine T.q (q_extract rfl rfl rfl) (Wt.plain rfl) rfl rfl ?_
  refine T.q (q_assign rfl rfl) (Wt.plain rfl) rfl rfl ?_
  refine T.q (q_assign rfl rfl) (Wt.plain rfl) rfl rfl ?_
  refine T.q (q_assign rfl rfl) (Wt.plain rfl) rfl rfl ?_
  refine T.nil ?_
  refine Ex.next ?_
  refine W.slots (L' := [(0, _), (1, _), (5, _), (6, _), (7, _), (8, _), (9, _), (10, _), (11, _), (12, _), (13, _), (14, _), (15, _)]) ⟨rfl, rfl, rfl, rfl, rfl, rfl, rfl, rfl, rfl, rfl, rfl, rfl, rfl, trivial⟩ ?_
  refine W.seq ?_
  refine W.region ?_
  refine T.q (q_move rfl rfl) (Wt.plain rfl) rfl rfl ?_
  refine T.q (q_move rfl rfl) (Wt.plain rfl) rfl rfl ?_
  refine T.eff (e_call enters29 rfl rfl (fun w hm => reftakef_at b _ _ (by first | omega | (simp; done) | (simp; omega) | (simp at *; omega)) (by first | omega | (simp; done) | (simp; omega) | (simp at *; omega)) hbb s (by first | omega | (simp; done) | (simp; omega) | (simp at *; omega)) (by first | omega | (simp; done) | (simp; omega) | (simp at *; omega)) (by first | omega | (simp; done) | (simp; omega) | (simp at *; omega)) w ((R_ext hB.ext) w hm) (by first | omega | (simp; done) | (simp [-List.getD_eq_getElem?_getD]; omega) | (simp at *; omega) | rfl)) rfl rfl) (Wt.plain rfl) ?_
  rintro _ _ ⟨_, _, ⟨k18, cap19, junk20, rfl, hc21, rfl⟩, rfl, rfl⟩
  change (_ : List Blk → Prop) [_, _, _, _, _]
  refine T.q (q_move rfl rfl) (Wt.plain rfl) rfl rfl ?_
  refine T.q (q_extract rfl rfl rfl) (Wt.plain rfl) rfl rfl ?_
  refine T.q (q_extract rfl rfl rfl) (Wt.plain rfl) rfl rfl ?_
  refine T.q (q_extract rfl rfl rfl) (Wt.plain rfl) rfl rfl ?_
  refine T.q (q_assign rfl rfl) (Wt.plain rfl) rfl rfl ?_
  refine T.q (q_assign rfl rfl) (Wt.plain rfl) rfl rfl ?_
  refine T.q (q_assign rfl rfl) (Wt.plain rfl) rfl rfl ?_
  refine T.nil ?_
  refine Ex.next ?_
  refine W.slots (L' := [(0, _), (5, _), (6, _), (7, _), (8, _), (9, _), (10, _), (11, _), (12, _), (13, _), (14, _), (15, _), (16, _), (17, _), (18, _)]) ⟨rfl, rfl, rfl, rfl, rfl, rfl, rfl, rfl, rfl, rfl, rfl, rfl, rfl, rfl, rfl, trivial⟩ ?_
  refine W.seq ?_
  refine W.region ?_
  refine T.q (q_move rfl rfl) (Wt.plain rfl) rfl rfl ?_
  refine T.q (q_move rfl rfl) (Wt.plain rfl) rfl rfl ?_
  refine T.q (q_move rfl rfl) (Wt.yes rfl rfl rfl) rfl rfl ?_
  refine T.q (q_move rfl rfl) (Wt.yes rfl rfl rfl) rfl rfl ?_
  refine T.q (q_bool (b := true) (q_eql rfl rfl rfl) (decide_eq_true rfl)) (Wt.yes rfl rfl rfl) rfl rfl ?_
  refine T.q (q_pickT rfl rfl rfl) (Wt.plain rfl) rfl rfl ?_
  refine T.q (q_move rfl rfl) (Wt.plain rfl) rfl rfl ?_
  refine T.q (q_move rfl rfl) (Wt.yes rfl rfl rfl) rfl rfl ?_
  refine T.q (q_bstr sc22 un5 un9 (R_opre 1 rfl) (by first | omega | (simp; done) | (simp [-List.getD_eq_getElem?_getD]; omega) | (simp at *; omega) | rfl) rfl rfl) (Wt.yes rfl rfl rfl) rfl rfl ?_
  refine T.q (q_move rfl rfl) (Wt.yes rfl rfl rfl) rfl rfl ?_
  refine T.q (q_bstr sc22 un5 un9 (R_pre 2 rfl) (by first | omega | (simp; done) | (simp [-List.getD_eq_getElem?_getD]; omega) | (simp at *; omega) | rfl) rfl rfl) (Wt.yes rfl rfl rfl) rfl rfl ?_
  refine T.q (q_bool (b := true) (q_eqlS rfl rfl rfl) (beq_self_eq_true _)) (Wt.yes rfl rfl rfl) rfl rfl ?_
  refine T.q (q_pickT rfl rfl rfl) (Wt.plain rfl) rfl rfl ?_
  refine T.q (q_move rfl rfl) (Wt.plain rfl) rfl rfl ?_
  refine T.q (q_move rfl rfl) (Wt.yes rfl rfl rfl) rfl rfl ?_
  refine T.q (q_move rfl rfl) (Wt.yes rfl rfl rfl) rfl rfl ?_
  refine T.q (q_bool (b := true) (q_eql rfl rfl rfl) (decide_eq_true rfl)) (Wt.yes rfl rfl rfl) rfl rfl ?_
  refine T.q (q_pickT rfl rfl rfl) (Wt.plain rfl) rfl rfl ?_
  refine T.q (q_move rfl rfl) (Wt.plain rfl) rfl rfl ?_
  refine T.q (q_move rfl rfl) (Wt.yes rfl rfl rfl) rfl rfl ?_
  refine T.q (q_move rfl rfl) (Wt.yes rfl rfl rfl) rfl rfl ?_
  refine T.q (q_bool (b := true) (q_eql rfl rfl rfl) (decide_eq_true rfl)) (Wt.yes rfl rfl rfl) rfl rfl ?_
  refine T.q (q_pickT rfl rfl rfl) (Wt.plain rfl) rfl rfl ?_
  refine T.q (q_move rfl rfl) (Wt.plain rfl) rfl rfl ?_
  refine T.q (q_move rfl rfl) (Wt.yes rfl rfl rfl) rfl rfl ?_
  refine T.q (q_bstr sc22 un5 un9 (R_opre 3 rfl) (by first | omega | (simp; done) | (simp [-List.getD_eq_getElem?_getD]; omega) | (simp at *; omega) | rfl) rfl rfl) (Wt.yes rfl rfl rfl) rfl rfl ?_
  refine T.q (q_move rfl rfl) (Wt.yes rfl rfl rfl) rfl rfl ?_
  refine T.q (q_bstr sc22 un5 un9 (R_pre 4 rfl) (by first | omega | (simp; done) | (simp [-List.getD_eq_getElem?_getD]; omega) | (simp at *; omega) | rfl) rfl rfl) (Wt.yes rfl rfl rfl) rfl rfl ?_
  refine T.q (q_bool (b := true) (q_eqlS rfl rfl rfl) (beq_self_eq_true _)) (Wt.yes rfl rfl rfl) rfl rfl ?_
  refine T.q (q_pickT rfl rfl rfl) (Wt.plain rfl) rfl rfl ?_
  refine T.q (q_move rfl rfl) (Wt.plain rfl) rfl rfl ?_
  refine T.q (q_move rfl rfl) (Wt.yes rfl rfl rfl) rfl rfl ?_
  refine T.q (q_move rfl rfl) (Wt.yes rfl rfl rfl) rfl rfl ?_
  refine T.q (q_bool (b := true) (q_eql rfl rfl rfl) (decide_eq_true rfl)) (Wt.yes rfl rfl rfl) rfl rfl ?_
  refine T.q (q_pickT rfl rfl rfl) (Wt.plain rfl) rfl rfl ?_
  refine T.q (q_move rfl rfl) (Wt.plain rfl) rfl rfl ?_
  refine T.q (q_move rfl rfl) (Wt.yes rfl rfl rfl) rfl rfl ?_
  refine T.q (q_bstr sc22 un5 un9 (R_pre 0 rfl) (by first | omega | (simp; done) | (simp [-List.getD_eq_getElem?_getD]; omega) | (simp at *; omega) | rfl) rfl rfl) (Wt.yes rfl rfl rfl) rfl rfl ?_
  refine T.q (q_move rfl rfl) (Wt.yes rfl rfl rfl) rfl rfl ?_
  refine T.q (q_bstr sc22 un5 un9 (R_ext hB.ext) (by first | omega | (simp; done) | (simp [-List.getD_eq_getElem?_getD]; omega) | (simp at *; omega) | rfl) rfl rfl) (Wt.yes rfl rfl rfl) rfl rfl ?_
  refine T.q (q_bool (b := true) (q_eqlS rfl rfl rfl) (beq_self_eq_true _)) (Wt.yes rfl rfl rfl) rfl rfl ?_
  refine T.q (q_pickT rfl rfl rfl) (Wt.plain rfl) rfl rfl ?_
  refine T.q (q_assign rfl rfl) (Wt.plain rfl) rfl rfl ?_
  refine T.nil ?_
  refine Ex.next ?_
  refine W.less (L' := [(4, _)]) [false, false, false, false, false] ⟨rfl, trivial⟩ ?_
  change (_ : List Blk → Prop) []
  refine W.ret ?_
  refine Ex.out1 [] rfl rfl ?_
  exact ⟨rfl, rfl⟩
set_option maxRecDepth 100000 in
theorem takes_f1 (b : List Int) (BA : Option Addr) (bc : Nat) (hbc : b.length ≤ bc) (hbl : b.length ≤ 140737488351232) (hbb : Bytes b) (u : Int) (hbad : u < 1 ∨ 7 < u) (hbo : takeOk b = false) (w0 : World) (hB : Reads w0 BA (ints .u8 b)) : Does Try.prog 7 #[.slice BA b.length bc, .int .i64 u] w0 [] (fun v G => v = .bool true ∧ G = []) := by
  refine spec_of 91 Try.func7 rfl rfl rfl ?_
  refine W.seq ?_
  refine W.region ?_
  refine T.q (q_assign rfl rfl) (Wt.plain rfl) rfl rfl ?_
  refine T.nil ?_
  refine Ex.next ?_
  refine W.slots (L' := [(0, _), (1, _)]) ⟨rfl, rfl, trivial⟩ ?_
  refine W.seq ?_
  refine W.region ?_
  refine T.eff (e_call enters19 rfl rfl (fun w hm => shown09_spec w) rfl rfl) (Wt.plain rfl) ?_
  rintro _ _ ⟨_, _, ⟨rfl, rfl⟩, rfl, rfl⟩
  change (_ : List Blk → Prop) []
  refine T.q (q_assign rfl rfl) (Wt.plain rfl) rfl rfl ?_
  refine T.nil ?_
  refine Ex.next ?_
  refine W.slots (L' := [(0, _), (1, _), (5, _)]) ⟨rfl, rfl, rfl, trivial⟩ ?_
  refine W.seq ?_
  refine W.region ?_
  refine T.eff (e_litA sc22 ze5 rfl rfl rfl (by simp [Value.cells]) rfl rfl rfl) (Wt.plain rfl) ?_
  rintro _ _ ⟨k1, rfl, rfl⟩
  change (_ : List Blk → Prop) [_]
  refine T.q (q_move rfl rfl) (Wt.plain rfl) rfl rfl ?_
  refine T.eff (e_appendI sc22 ze5 rfl 0 .u8 [] b [] ((List.append_nil _).symm) (R_ext hB.ext) rfl rfl rfl rfl (by first | omega | (simp; done) | (simp [-List.getD_eq_getElem?_getD]; omega) | (simp at *; omega) | rfl) (by first | omega | (simp; done) | (simp [-List.getD_eq_getElem?_getD]; omega) | (simp at *; omega) | rfl) (by first | omega | (simp; done) | (simp [-List.getD_eq_getElem?_getD]; omega) | (simp at *; omega) | rfl) (by first | omega | (simp; done) | (simp [-List.getD_eq_getElem?_getD]; omega)) (by first | omega | (simp; done) | (simp [-List.getD_eq_getElem?_getD]; omega)) rfl rfl) (Wt.plain rfl) ?_
  rintro _ _ ⟨k2, cap3, junk4, hc5, rfl, rfl⟩
  change (_ : List Blk → Prop) [_]
  change (_ : List Blk → Prop) [⟨some k2, ints .u8 b ++ junk4, 5, (0, 0)⟩]
  refine T.q (q_assign rfl rfl) (Wt.plain rfl) rfl rfl ?_
  refine T.nil ?_
  refine Ex.next ?_
  refine W.slots (L' := [(0, _), (1, _), (5, _), (6, _)]) ⟨rfl, rfl, rfl, rfl, trivial⟩ ?_
  refine W.seq ?_
  refine W.region ?_
  refine T.q (q_move rfl rfl) (Wt.plain rfl) rfl rfl ?_
  refine T.eff (e_call enters22 rfl rfl (fun w hm => take_bad_at b _ _ (by first | omega | (simp; done) | (simp; omega) | (simp at *; omega)) (by first | omega | (simp; done) | (simp; omega) | (simp at *; omega)) hbb hbo w ((R_pre 0 rfl) w hm) (by first | omega | (simp; done) | (simp [-List.getD_eq_getElem?_getD]; omega) | (simp at *; omega) | rfl)) rfl rfl) (Wt.plain rfl) ?_
  rintro _ _ ⟨_, _, ⟨rfl, rfl⟩, rfl, rfl⟩
  change (_ : List Blk → Prop) [_]
  refine T.q (q_move rfl rfl) (Wt.plain rfl) rfl rfl ?_
  refine T.q (q_extract rfl rfl rfl) (Wt.plain rfl) rfl rfl ?_
  refine T.q (q_extract rfl rfl rfl) (Wt.plain rfl) rfl rfl ?_
  refine T.q (q_extract rfl rfl rfl) (Wt.plain rfl) rfl rfl ?_
  refine T.q (q_assign rfl rfl) (Wt.plain rfl) rfl rfl ?_
  refine T.q (q_assign rfl rfl) (Wt.plain rfl) rfl rfl ?_
  refine T.q (q_assign rfl rfl) (Wt.plain rfl) rfl rfl ?_
  refine T.nil ?_
  refine Ex.next ?_
  refine W.slots (L' := [(0, _), (1, _), (5, _), (6, _), (7, _), (8, _), (9, _)]) ⟨rfl, rfl, rfl, rfl, rfl, rfl, rfl, trivial⟩ ?_
  refine W.seq ?_
  refine W.region ?_
  refine T.q (q_move rfl rfl) (Wt.plain rfl) rfl rfl ?_
  refine T.eff (e_call enters27 rfl rfl (fun w hm => reftake_bad_at b _ _ (by first | omega | (simp; done) | (simp; omega) | (simp at *; omega)) (by first | omega | (simp; done) | (simp; omega) | (simp at *; omega)) hbb hbo w ((R_ext hB.ext) w hm) (by first | omega | (simp; done) | (simp [-List.getD_eq_getElem?_getD]; omega) | (simp at *; omega) | rfl)) rfl rfl) (Wt.plain rfl) ?_
  rintro _ _ ⟨_, _, ⟨rfl, rfl⟩, rfl, rfl⟩
  change (_ : List Blk → Prop) [_]
  refine T.q (q_move rfl rfl) (Wt.plain rfl) rfl rfl ?_
  refine T.q (q_extract rfl rfl rfl) (Wt.plain rfl) rfl rfl ?_
  refine T.q (q_extract rfl rfl rfl) (Wt.plain rfl) rfl rfl ?_
  refine T.q (q_extract rfl rfl rfl) (Wt.plain rfl) rfl rfl ?_
  refine T.q (q_assign rfl rfl) (Wt.plain rfl) rfl rfl ?_
  refine T.q (q_assign rfl rfl) (Wt.plain rfl) rfl rfl ?_
  refine T.q (q_assign rfl rfl) (Wt.plain rfl) rfl rfl ?_
  refine T.nil ?_
  refine Ex.next ?_
  refine W.slots (L' := [(0, _), (1, _), (5, _), (6, _), (7, _), (8, _), (9, _), (10, _), (11, _), (12, _)]) ⟨rfl, rfl, rfl, rfl, rfl, rfl, rfl, rfl, rfl, rfl, trivial⟩ ?_
  refine W.seq ?_
  refine W.region ?_
  refine T.q (q_move rfl rfl) (Wt.plain rfl) rfl rfl ?_
  refine T.q (q_move rfl rfl) (Wt.plain rfl) rfl rfl ?_
  refine T.eff (e_call enters28 rfl rfl (fun w hm => takef_bad1_at b _ _ (by first | omega | (simp; done) | (simp; omega) | (simp at *; omega)) (by first | omega | (simp; done) | (simp; omega) | (simp at *; omega)) u (hbad) w ((R_pre 0 rfl) w hm) (by first | omega | (simp; done) | (simp [-List.getD_eq_getElem?_getD]; omega) | (simp at *; omega) | rfl)) rfl rfl) (Wt.plain rfl) ?_
  rintro _ _ ⟨_, _, ⟨rfl, rfl⟩, rfl, rfl⟩
  change (_ : List Blk → Prop) [_]
  refine T.q (q_move rfl rfl) (Wt.plain rfl) rfl rfl ?_
  refine T.q (q_extract rfl rfl rfl) (Wt.plain rfl) rfl rfl ?_
  refine T.q (q_extract rfl rfl rfl) (Wt.plain rfl) rfl rfl ?_
  refine T.q (q_extract rfl rfl rfl) (Wt.plain rfl) rfl rfl ?_
  refine T.q (q_assign rfl rfl) (Wt.plain rfl) rfl rfl ?_
  refine T.q (q_assign rfl rfl) (Wt.plain rfl) rfl rfl ?_
  refine T.q (q_assign rfl rfl) (Wt.plain rfl) rfl rfl ?_
  refine T.nil ?_
  refine Ex.next ?_
  refine W.slots (L' := [(0, _), (1, _), (5, _), (6, _), (7, _), (8, _), (9, _), (10, _), (11, _), (12, _), (13, _), (14, _), (15, _)]) ⟨rfl, rfl, rfl, rfl, rfl, rfl, rfl, rfl, rfl, rfl, rfl, rfl, rfl, trivial⟩ ?_
  refine W.seq ?_
  refine W.region ?_
  refine T.q (q_move rfl rfl) (Wt.plain rfl) rfl rfl ?_
  refine T.q (q_move rfl rfl) (Wt.plain rfl) rfl rfl ?_
  refine T.eff (e_call enters29 rfl rfl (fun w hm => reftakef_bad1_at b _ _ (by first | omega | (simp; done) | (simp; omega) | (simp at *; omega)) (by first | omega | (simp; done) | (simp; omega) | (simp at *; omega)) u (hbad) w ((R_ext hB.ext) w hm) (by first | omega | (simp; done) | (simp [-List.getD_eq_getElem?_getD]; omega) | (simp at *; omega) | rfl)) rfl rfl) (Wt.plain rfl) ?_
  rintro _ _ ⟨_, _, ⟨rfl, rfl⟩, rfl, rfl⟩
  change (_ : List Blk → Prop) [_]
  refine T.q (q_move rfl rfl) (Wt.plain rfl) rfl rfl ?_
  refine T.q (q_extract rfl rfl rfl) (Wt.plain rfl) rfl rfl ?_
  refine T.q (q_extract rfl rfl rfl) (Wt.plain rfl) rfl rfl ?_
  refine T.q (q_extract rfl rfl rfl) (Wt.plain rfl) rfl rfl ?_
  refine T.q (q_assign rfl rfl) (Wt.plain rfl) rfl rfl ?_
  refine T.q (q_assign rfl rfl) (Wt.plain rfl) rfl rfl ?_
  refine T.q (q_assign rfl rfl) (Wt.plain rfl) rfl rfl ?_
  refine T.nil ?_
  refine Ex.next ?_
  refine W.slots (L' := [(0, _), (5, _), (6, _), (7, _), (8, _), (9, _), (10, _), (11, _), (12, _), (13, _), (14, _), (15, _), (16, _), (17, _), (18, _)]) ⟨rfl, rfl, rfl, rfl, rfl, rfl, rfl, rfl, rfl, rfl, rfl, rfl, rfl, rfl, rfl, trivial⟩ ?_
  refine W.seq ?_
  refine W.region ?_
  refine T.q (q_move rfl rfl) (Wt.plain rfl) rfl rfl ?_
  refine T.q (q_move rfl rfl) (Wt.plain rfl) rfl rfl ?_
  refine T.q (q_move rfl rfl) (Wt.yes rfl rfl rfl) rfl rfl ?_
  refine T.q (q_move rfl rfl) (Wt.yes rfl rfl rfl) rfl rfl ?_
  refine T.q (q_bool (b := true) (q_eql rfl rfl rfl) (decide_eq_true rfl)) (Wt.yes rfl rfl rfl) rfl rfl ?_
  refine T.q (q_pickT rfl rfl rfl) (Wt.plain rfl) rfl rfl ?_
  refine T.q (q_move rfl rfl) (Wt.plain rfl) rfl rfl ?_
  refine T.q (q_move rfl rfl) (Wt.yes rfl rfl rfl) rfl rfl ?_
  refine T.q (q_bstr sc22 un5 un9 (R_nilI .u8) (by first | omega | (simp; done) | (simp [-List.getD_eq_getElem?_getD]; omega) | (simp at *; omega) | rfl) rfl rfl) (Wt.yes rfl rfl rfl) rfl rfl ?_
  refine T.q (q_move rfl rfl) (Wt.yes rfl rfl rfl) rfl rfl ?_
  refine T.q (q_bstr sc22 un5 un9 (R_nilI .u8) (by first | omega | (simp; done) | (simp [-List.getD_eq_getElem?_getD]; omega) | (simp at *; omega) | rfl) rfl rfl) (Wt.yes rfl rfl rfl) rfl rfl ?_
  refine T.q (q_bool (b := true) (q_eqlS rfl rfl rfl) (beq_self_eq_true _)) (Wt.yes rfl rfl rfl) rfl rfl ?_
  refine T.q (q_pickT rfl rfl rfl) (Wt.plain rfl) rfl rfl ?_
  refine T.q (q_move rfl rfl) (Wt.plain rfl) rfl rfl ?_
  refine T.q (q_move rfl rfl) (Wt.yes rfl rfl rfl) rfl rfl ?_
  refine T.q (q_move rfl rfl) (Wt.yes rfl rfl rfl) rfl rfl ?_
  refine T.q (q_bool (b := true) (q_eql rfl rfl rfl) (decide_eq_true rfl)) (Wt.yes rfl rfl rfl) rfl rfl ?_
  refine T.q (q_pickT rfl rfl rfl) (Wt.plain rfl) rfl rfl ?_
  refine T.q (q_move rfl rfl) (Wt.plain rfl) rfl rfl ?_
  refine T.q (q_move rfl rfl) (Wt.yes rfl rfl rfl) rfl rfl ?_
  refine T.q (q_move rfl rfl) (Wt.yes rfl rfl rfl) rfl rfl ?_
  refine T.q (q_bool (b := true) (q_eql rfl rfl rfl) (decide_eq_true rfl)) (Wt.yes rfl rfl rfl) rfl rfl ?_
  refine T.q (q_pickT rfl rfl rfl) (Wt.plain rfl) rfl rfl ?_
  refine T.q (q_move rfl rfl) (Wt.plain rfl) rfl rfl ?_
  refine T.q (q_move rfl rfl) (Wt.yes rfl rfl rfl) rfl rfl ?_
  refine T.q (q_bstr sc22 un5 un9 (R_nilI .u8) (by first | omega | (simp; done) | (simp [-List.getD_eq_getElem?_getD]; omega) | (simp at *; omega) | rfl) rfl rfl) (Wt.yes rfl rfl rfl) rfl rfl ?_
  refine T.q (q_move rfl rfl) (Wt.yes rfl rfl rfl) rfl rfl ?_
  refine T.q (q_bstr sc22 un5 un9 (R_nilI .u8) (by first | omega | (simp; done) | (simp [-List.getD_eq_getElem?_getD]; omega) | (simp at *; omega) | rfl) rfl rfl) (Wt.yes rfl rfl rfl) rfl rfl ?_
  refine T.q (q_bool (b := true) (q_eqlS rfl rfl rfl) (beq_self_eq_true _)) (Wt.yes rfl rfl rfl) rfl rfl ?_
  refine T.q (q_pickT rfl rfl rfl) (Wt.plain rfl) rfl rfl ?_
  refine T.q (q_move rfl rfl) (Wt.plain rfl) rfl rfl ?_
  refine T.q (q_move rfl rfl) (Wt.yes rfl rfl rfl) rfl rfl ?_
  refine T.q (q_move rfl rfl) (Wt.yes rfl rfl rfl) rfl rfl ?_
  refine T.q (q_bool (b := true) (q_eql rfl rfl rfl) (decide_eq_true rfl)) (Wt.yes rfl rfl rfl) rfl rfl ?_
  refine T.q (q_pickT rfl rfl rfl) (Wt.plain rfl) rfl rfl ?_
  refine T.q (q_move rfl rfl) (Wt.plain rfl) rfl rfl ?_
  refine T.q (q_move rfl rfl) (Wt.yes rfl rfl rfl) rfl rfl ?_
  refine T.q (q_bstr sc22 un5 un9 (R_pre 0 rfl) (by first | omega | (simp; done) | (simp [-List.getD_eq_getElem?_getD]; omega) | (simp at *; omega) | rfl) rfl rfl) (Wt.yes rfl rfl rfl) rfl rfl ?_
  refine T.q (q_move rfl rfl) (Wt.yes rfl rfl rfl) rfl rfl ?_
  refine T.q (q_bstr sc22 un5 un9 (R_ext hB.ext) (by first | omega | (simp; done) | (simp [-List.getD_eq_getElem?_getD]; omega) | (simp at *; omega) | rfl) rfl rfl) (Wt.yes rfl rfl rfl) rfl rfl ?_
  refine T.q (q_bool (b := true) (q_eqlS rfl rfl rfl) (beq_self_eq_true _)) (Wt.yes rfl rfl rfl) rfl rfl ?_
  refine T.q (q_pickT rfl rfl rfl) (Wt.plain rfl) rfl rfl ?_
  refine T.q (q_assign rfl rfl) (Wt.plain rfl) rfl rfl ?_
  refine T.nil ?_
  refine Ex.next ?_
  refine W.less (L' := [(4, _)]) [false] ⟨rfl, trivial⟩ ?_
  change (_ : List Blk → Prop) []
  refine W.ret ?_
  refine Ex.out1 [] rfl rfl ?_
  exact ⟨rfl, rfl⟩
set_option maxRecDepth 100000 in
theorem takes_f2 (b : List Int) (BA : Option Addr) (bc : Nat) (hbc : b.length ≤ bc) (hbl : b.length ≤ 140737488351232) (hbb : Bytes b) (s : Nat) (hs1 : 1 ≤ s) (hs7 : s ≤ 7) (hlt : b.length < s) (hbo : takeOk b = false) (w0 : World) (hB : Reads w0 BA (ints .u8 b)) : Does Try.prog 7 #[.slice BA b.length bc, .int .i64 ((s : Nat) : Int)] w0 [] (fun v G => v = .bool true ∧ G = []) := by
  refine spec_of 91 Try.func7 rfl rfl rfl ?_
  refine W.seq ?_
  refine W.region ?_
  refine T.q (q_assign rfl rfl) (Wt.plain rfl) rfl rfl ?_
  refine T.nil ?_
  refine Ex.next ?_
  refine W.slots (L' := [(0, _), (1, _)]) ⟨rfl, rfl, trivial⟩ ?_
  refine W.seq ?_
  refine W.region ?_
  refine T.eff (e_call enters19 rfl rfl (fun w hm => shown09_spec w) rfl rfl) (Wt.plain rfl) ?_
  rintro _ _ ⟨_, _, ⟨rfl, rfl⟩, rfl, rfl⟩
  change (_ : List Blk → Prop) []
  refine T.q (q_assign rfl rfl) (Wt.plain rfl) rfl rfl ?_
  refine T.nil ?_
  refine Ex.next ?_
  refine W.slots (L' := [(0, _), (1, _), (5, _)]) ⟨rfl, rfl, rfl, trivial⟩ ?_
  refine W.seq ?_
  refine W.region ?_
  refine T.eff (e_litA sc22 ze5 rfl rfl rfl (by simp [Value.cells]) rfl rfl rfl) (Wt.plain rfl) ?_
  rintro _ _ ⟨k1, rfl, rfl⟩
  change (_ : List Blk → Prop) [_]
  refine T.q (q_move rfl rfl) (Wt.plain rfl) rfl rfl ?_
  refine T.eff (e_appendI sc22 ze5 rfl 0 .u8 [] b [] ((List.append_nil _).symm) (R_ext hB.ext) rfl rfl rfl rfl (by first | omega | (simp; done) | (simp [-List.getD_eq_getElem?_getD]; omega) | (simp at *; omega) | rfl) (by first | omega | (simp; done) | (simp [-List.getD_eq_getElem?_getD]; omega) | (simp at *; omega) | rfl) (by first | omega | (simp; done) | (simp [-List.getD_eq_getElem?_getD]; omega) | (simp at *; omega) | rfl) (by first | omega | (simp; done) | (simp [-List.getD_eq_getElem?_getD]; omega)) (by first | omega | (simp; done) | (simp [-List.getD_eq_getElem?_getD]; omega)) rfl rfl) (Wt.plain rfl) ?_
  rintro _ _ ⟨k2, cap3, junk4, hc5, rfl, rfl⟩
  change (_ : List Blk → Prop) [_]
  change (_ : List Blk → Prop) [⟨some k2, ints .u8 b ++ junk4, 5, (0, 0)⟩]
  refine T.q (q_assign rfl rfl) (Wt.plain rfl) rfl rfl ?_
  refine T.nil ?_
  refine Ex.next ?_
  refine W.slots (L' := [(0, _), (1, _), (5, _), (6, _)]) ⟨rfl, rfl, rfl, rfl, trivial⟩ ?_
  refine W.seq ?_
  refine W.region ?_
  refine T.q (q_move rfl rfl) (Wt.plain rfl) rfl rfl ?_
  refine T.eff (e_call enters22 rfl rfl (fun w hm => take_bad_at b _ _ (by first | omega | (simp; done) | (simp; omega) | (simp at *; omega)) (by first | omega | (simp; done) | (simp; omega) | (simp at *; omega)) hbb hbo w ((R_pre 0 rfl) w hm) (by first | omega | (simp; done) | (simp [-List.getD_eq_getElem?_getD]; omega) | (simp at *; omega) | rfl)) rfl rfl) (Wt.plain rfl) ?_
  rintro _ _ ⟨_, _, ⟨rfl, rfl⟩, rfl, rfl⟩
  change (_ : List Blk → Prop) [_]
  refine T.q (q_move rfl rfl) (Wt.plain rfl) rfl rfl ?_
  refine T.q (q_extract rfl rfl rfl) (Wt.plain rfl) rfl rfl ?_
  refine T.q (q_extract rfl rfl rfl) (Wt.plain rfl) rfl rfl ?_
  refine T.q (q_extract rfl rfl rfl) (Wt.plain rfl) rfl rfl ?_
  refine T.q (q_assign rfl rfl) (Wt.plain rfl) rfl rfl ?_
  refine T.q (q_assign rfl rfl) (Wt.plain rfl) rfl rfl ?_
  refine T.q (q_assign rfl rfl) (Wt.plain rfl) rfl rfl ?_
  refine T.nil ?_
  refine Ex.next ?_
  refine W.slots (L' := [(0, _), (1, _), (5, _), (6, _), (7, _), (8, _), (9, _)]) ⟨rfl, rfl, rfl, rfl, rfl, rfl, rfl, trivial⟩ ?_
  refine W.seq ?_
  refine W.region ?_
  refine T.q (q_move rfl rfl) (Wt.plain rfl) rfl rfl ?_
  refine T.eff (e_call enters27 rfl rfl (fun w hm => reftake_bad_at b _ _ (by first | omega | (simp; done) | (simp; omega) | (simp at *; omega)) (by first | omega | (simp; done) | (simp; omega) | (simp at *; omega)) hbb hbo w ((R_ext hB.ext) w hm) (by first | omega | (simp; done) | (simp [-List.getD_eq_getElem?_getD]; omega) | (simp at *; omega) | rfl)) rfl rfl) (Wt.plain rfl) ?_
  rintro _ _ ⟨_, _, ⟨rfl, rfl⟩, rfl, rfl⟩
  change (_ : List Blk → Prop) [_]
  refine T.q (q_move rfl rfl) (Wt.plain rfl) rfl rfl ?_
  refine T.q (q_extract rfl rfl rfl) (Wt.plain rfl) rfl rfl ?_
  refine T.q (q_extract rfl rfl rfl) (Wt.plain rfl) rfl rfl ?_
  refine T.q (q_extract rfl rfl rfl) (Wt.plain rfl) rfl rfl ?_
  refine T.q (q_assign rfl rfl) (Wt.plain rfl) rfl rfl ?_
  refine T.q (q_assign rfl rfl) (Wt.plain rfl) rfl rfl ?_
  refine T.q (q_assign rfl rfl) (Wt.plain rfl) rfl rfl ?_
  refine T.nil ?_
  refine Ex.next ?_
  refine W.slots (L' := [(0, _), (1, _), (5, _), (6, _), (7, _), (8, _), (9, _), (10, _), (11, _), (12, _)]) ⟨rfl, rfl, rfl, rfl, rfl, rfl, rfl, rfl, rfl, rfl, trivial⟩ ?_
  refine W.seq ?_
  refine W.region ?_
  refine T.q (q_move rfl rfl) (Wt.plain rfl) rfl rfl ?_
  refine T.q (q_move rfl rfl) (Wt.plain rfl) rfl rfl ?_
  refine T.eff (e_call enters28 rfl rfl (fun w hm => takef_bad2_at b _ _ (by first | omega | (simp; done) | (simp; omega) | (simp at *; omega)) (by first | omega | (simp; done) | (simp; omega) | (simp at *; omega)) s (by first | omega | (simp; done) | (simp; omega) | (simp at *; omega)) (by first | omega | (simp; done) | (simp; omega) | (simp at *; omega)) (by first | omega | (simp; done) | (simp; omega) | (simp at *; omega)) w ((R_pre 0 rfl) w hm) (by first | omega | (simp; done) | (simp [-List.getD_eq_getElem?_getD]; omega) | (simp at *; omega) | rfl)) rfl rfl) (Wt.plain rfl) ?_
  rintro _ _ ⟨_, _, ⟨rfl, rfl⟩, rfl, rfl⟩
  change (_ : List Blk → Prop) [_]
  refine T.q (q_move rfl rfl) (Wt.plain rfl) rfl rfl ?_
  refine T.q (q_extract rfl rfl rfl) (Wt.plain rfl) rfl rfl ?_
  refine T.q (q_extract rfl rfl rfl) (Wt.plain rfl) rfl rfl ?_
  refine T.q (q_extract rfl rfl rfl) (Wt.plain rfl) rfl rfl ?_
  refine T.q (q_assign rfl rfl) (Wt.plain rfl) rfl rfl ?_
  refine T.q (q_assign rfl rfl) (Wt.plain rfl) rfl rfl ?_
  refine T.q (q_assign rfl rfl) (Wt.plain rfl) rfl rfl ?_
  refine T.nil ?_
  refine Ex.next ?_
  refine W.slots (L' := [(0, _), (1, _), (5, _), (6, _), (7, _), (8, _), (9, _), (10, _), (11, _), (12, _), (13, _), (14, _), (15, _)]) ⟨rfl, rfl, rfl, rfl, rfl, rfl, rfl, rfl, rfl, rfl, rfl, rfl, rfl, trivial⟩ ?_
  refine W.seq ?_
  refine W.region ?_
  refine T.q (q_move rfl rfl) (Wt.plain rfl) rfl rfl ?_
  refine T.q (q_move rfl rfl) (Wt.plain rfl) rfl rfl ?_
  refine T.eff (e_call enters29 rfl rfl (fun w hm => reftakef_bad2_at b _ _ (by first | omega | (simp; done) | (simp; omega) | (simp at *; omega)) (by first | omega | (simp; done) | (simp; omega) | (simp at *; omega)) s (by first | omega | (simp; done) | (simp; omega) | (simp at *; omega)) (by first | omega | (simp; done) | (simp; omega) | (simp at *; omega)) (by first | omega | (simp; done) | (simp; omega) | (simp at *; omega)) w ((R_ext hB.ext) w hm) (by first | omega | (simp; done) | (simp [-List.getD_eq_getElem?_getD]; omega) | (simp at *; omega) | rfl)) rfl rfl) (Wt.plain rfl) ?_
  rintro _ _ ⟨_, _, ⟨rfl, rfl⟩, rfl, rfl⟩
  change (_ : List Blk → Prop) [_]
  refine T.q (q_move rfl rfl) (Wt.plain rfl) rfl rfl ?_
  refine T.q (q_extract rfl rfl rfl) (Wt.plain rfl) rfl rfl ?_
  refine T.q (q_extract rfl rfl rfl) (Wt.plain rfl) rfl rfl ?_
  refine T.q (q_extract rfl rfl rfl) (Wt.plain rfl) rfl rfl ?_
  refine T.q (q_assign rfl rfl) (Wt.plain rfl) rfl rfl ?_
  refine T.q (q_assign rfl rfl) (Wt.plain rfl) rfl rfl ?_
  refine T.q (q_assign rfl rfl) (Wt.plain rfl) rfl rfl ?_
  refine T.nil ?_
  refine Ex.next ?_
  refine W.slots (L' := [(0, _), (5, _), (6, _), (7, _), (8, _), (9, _), (10, _), (11, _), (12, _), (13, _), (14, _), (15, _), (16, _), (17, _), (18, _)]) ⟨rfl, rfl, rfl, rfl, rfl, rfl, rfl, rfl, rfl, rfl, rfl, rfl, rfl, rfl, rfl, trivial⟩ ?_
  refine W.seq ?_
  refine W.region ?_
  refine T.q (q_move rfl rfl) (Wt.plain rfl) rfl rfl ?_
  refine T.q (q_move rfl rfl) (Wt.plain rfl) rfl rfl ?_
  refine T.q (q_move rfl rfl) (Wt.yes rfl rfl rfl) rfl rfl ?_
  refine T.q (q_move rfl rfl) (Wt.yes rfl rfl rfl) rfl rfl ?_
  refine T.q (q_bool (b := true) (q_eql rfl rfl rfl) (decide_eq_true rfl)) (Wt.yes rfl rfl rfl) rfl rfl ?_
  refine T.q (q_pickT rfl rfl rfl) (Wt.plain rfl) rfl rfl ?_
  refine T.q (q_move rfl rfl) (Wt.plain rfl) rfl rfl ?_
  refine T.q (q_move rfl rfl) (Wt.yes rfl rfl rfl) rfl rfl ?_
  refine T.q (q_bstr sc22 un5 un9 (R_nilI .u8) (by first | omega | (simp; done) | (simp [-List.getD_eq_getElem?_getD]; omega) | (simp at *; omega) | rfl) rfl rfl) (Wt.yes rfl rfl rfl) rfl rfl ?_
  refine T.q (q_move rfl rfl) (Wt.yes rfl rfl rfl) rfl rfl ?_
  refine T.q (q_bstr sc22 un5 un9 (R_nilI .u8) (by first | omega | (simp; done) | (simp [-List.getD_eq_getElem?_getD]; omega) | (simp at *; omega) | rfl) rfl rfl) (Wt.yes rfl rfl rfl) rfl rfl ?_
  refine T.q (q_bool (b := true) (q_eqlS rfl rfl rfl) (beq_self_eq_true _)) (Wt.yes rfl rfl rfl) rfl rfl ?_
  refine T.q (q_pickT rfl rfl rfl) (Wt.plain rfl) rfl rfl ?_
  refine T.q (q_move rfl rfl) (Wt.plain rfl) rfl rfl ?_
  refine T.q (q_move rfl rfl) (Wt.yes rfl rfl rfl) rfl rfl ?_
  refine T.q (q_move rfl rfl) (Wt.yes rfl rfl rfl) rfl rfl ?_
  refine T.q (q_bool (b := true) (q_eql rfl rfl rfl) (decide_eq_true rfl)) (Wt.yes rfl rfl rfl) rfl rfl ?_
  refine T.q (q_pickT rfl rfl rfl) (Wt.plain rfl) rfl rfl ?_
  refine T.q (q_move rfl rfl) (Wt.plain rfl) rfl rfl ?_
  refine T.q (q_move rfl rfl) (Wt.yes rfl rfl rfl) rfl rfl ?_
  refine T.q (q_move rfl rfl) (Wt.yes rfl rfl rfl) rfl rfl ?_
  refine T.q (q_bool (b := true) (q_eql rfl rfl rfl) (decide_eq_true rfl)) (Wt.yes rfl rfl rfl) rfl rfl ?_
  refine T.q (q_pickT rfl rfl rfl) (Wt.plain rfl) rfl rfl ?_
  refine T.q (q_move rfl rfl) (Wt.plain rfl) rfl rfl ?_
  refine T.q (q_move rfl rfl) (Wt.yes rfl rfl rfl) rfl rfl ?_
  refine T.q (q_bstr sc22 un5 un9 (R_nilI .u8) (by first | omega | (simp; done) | (simp [-List.getD_eq_getElem?_getD]; omega) | (simp at *; omega) | rfl) rfl rfl) (Wt.yes rfl rfl rfl) rfl rfl ?_
  refine T.q (q_move rfl rfl) (Wt.yes rfl rfl rfl) rfl rfl ?_
  refine T.q (q_bstr sc22 un5 un9 (R_nilI .u8) (by first | omega | (simp; done) | (simp [-List.getD_eq_getElem?_getD]; omega) | (simp at *; omega) | rfl) rfl rfl) (Wt.yes rfl rfl rfl) rfl rfl ?_
  refine T.q (q_bool (b := true) (q_eqlS rfl rfl rfl) (beq_self_eq_true _)) (Wt.yes rfl rfl rfl) rfl rfl ?_
  refine T.q (q_pickT rfl rfl rfl) (Wt.plain rfl) rfl rfl ?_
  refine T.q (q_move rfl rfl) (Wt.plain rfl) rfl rfl ?_
  refine T.q (q_move rfl rfl) (Wt.yes rfl rfl rfl) rfl rfl ?_
  refine T.q (q_move rfl rfl) (Wt.yes rfl rfl rfl) rfl rfl ?_
  refine T.q (q_bool (b := true) (q_eql rfl rfl rfl) (decide_eq_true rfl)) (Wt.yes rfl rfl rfl) rfl rfl ?_
  refine T.q (q_pickT rfl rfl rfl) (Wt.plain rfl) rfl rfl ?_
  refine T.q (q_move rfl rfl) (Wt.plain rfl) rfl rfl ?_
  refine T.q (q_move rfl rfl) (Wt.yes rfl rfl rfl) rfl rfl ?_
  refine T.q (q_bstr sc22 un5 un9 (R_pre 0 rfl) (by first | omega | (simp; done) | (simp [-List.getD_eq_getElem?_getD]; omega) | (simp at *; omega) | rfl) rfl rfl) (Wt.yes rfl rfl rfl) rfl rfl ?_
  refine T.q (q_move rfl rfl) (Wt.yes rfl rfl rfl) rfl rfl ?_
  refine T.q (q_bstr sc22 un5 un9 (R_ext hB.ext) (by first | omega | (simp; done) | (simp [-List.getD_eq_getElem?_getD]; omega) | (simp at *; omega) | rfl) rfl rfl) (Wt.yes rfl rfl rfl) rfl rfl ?_
  refine T.q (q_bool (b := true) (q_eqlS rfl rfl rfl) (beq_self_eq_true _)) (Wt.yes rfl rfl rfl) rfl rfl ?_
  refine T.q (q_pickT rfl rfl rfl) (Wt.plain rfl) rfl rfl ?_
  refine T.q (q_assign rfl rfl) (Wt.plain rfl) rfl rfl ?_
  refine T.nil ?_
  refine Ex.next ?_
  refine W.less (L' := [(4, _)]) [false] ⟨rfl, trivial⟩ ?_
  change (_ : List Blk → Prop) []
  refine W.ret ?_
  refine Ex.out1 [] rfl rfl ?_
  exact ⟨rfl, rfl⟩
set_option maxRecDepth 100000 in
theorem takes_fg (b : List Int) (BA : Option Addr) (bc : Nat) (hbc : b.length ≤ bc) (hbl : b.length ≤ 140737488351232) (hbb : Bytes b) (s : Nat) (hs1 : 1 ≤ s) (hs7 : s ≤ 7) (hle : s ≤ b.length) (hbo : takeOk b = false) (w0 : World) (hB : Reads w0 BA (ints .u8 b)) : Does Try.prog 7 #[.slice BA b.length bc, .int .i64 ((s : Nat) : Int)] w0 [] (fun v G => v = .bool true ∧ G = []) := by
  refine spec_of 91 Try.func7 rfl rfl rfl ?_
  refine W.seq ?_
  refine W.region ?_
  refine T.q (q_assign rfl rfl) (Wt.plain rfl) rfl rfl ?_
  refine T.nil ?_
  refine Ex.next ?_
  refine W.slots (L' := [(0, _), (1, _)]) ⟨rfl, rfl, trivial⟩ ?_
  refine W.seq ?_
  refine W.region ?_
  refine T.eff (e_call enters19 rfl rfl (fun w hm => shown09_spec w) rfl rfl) (Wt.plain rfl) ?_
  rintro _ _ ⟨_, _, ⟨rfl, rfl⟩, rfl, rfl⟩
  change (_ : List Blk → Prop) []
  refine T.q (q_assign rfl rfl) (Wt.plain rfl) rfl rfl ?_
  refine T.nil ?_
  refine Ex.next ?_
  refine W.slots (L' := [(0, _), (1, _), (5, _)]) ⟨rfl, rfl, rfl, trivial⟩ ?_
  refine W.seq ?_
  refine W.region ?_
  refine T.eff (e_litA sc22 ze5 rfl rfl rfl (by simp [Value.cells]) rfl rfl rfl) (Wt.plain rfl) ?_
  rintro _ _ ⟨k1, rfl, rfl⟩
  change (_ : List Blk → Prop) [_]
  refine T.q (q_move rfl rfl) (Wt.plain rfl) rfl rfl ?_
  refine T.eff (e_appendI sc22 ze5 rfl 0 .u8 [] b [] ((List.append_nil _).symm) (R_ext hB.ext) rfl rfl rfl rfl (by first | omega | (simp; done) | (simp [-List.getD_eq_getElem?_getD]; omega) | (simp at *; omega) | rfl) (by first | omega | (simp; done) | (simp [-List.getD_eq_getElem?_getD]; omega) | (simp at *; omega) | rfl) (by first | omega | (simp; done) | (simp [-List.getD_eq_getElem?_getD]; omega) | (simp at *; omega) | rfl) (by first | omega | (simp; done) | (simp [-List.getD_eq_getElem?_getD]; omega)) (by first | omega | (simp; done) | (simp [-List.getD_eq_getElem?_getD]; omega)) rfl rfl) (Wt.plain rfl) ?_
  rintro _ _ ⟨k2, cap3, junk4, hc5, rfl, rfl⟩
  change (_ : List Blk → Prop) [_]
  change (_ : List Blk → Prop) [⟨some k2, ints .u8 b ++ junk4, 5, (0, 0)⟩]
  refine T.q (q_assign rfl rfl) (Wt.plain rfl) rfl rfl ?_
  refine T.nil ?_
  refine Ex.next ?_
  refine W.slots (L' := [(0, _), (1, _), (5, _), (6, _)]) ⟨rfl, rfl, rfl, rfl, trivial⟩ ?_
  refine W.seq ?_
  refine W.region ?_
  refine T.q (q_move rfl rfl) (Wt.plain rfl) rfl rfl ?_
  refine T.eff (e_call enters22 rfl rfl (fun w hm => take_bad_at b _ _ (by first | omega | (simp; done) | (simp; omega) | (simp at *; omega)) (by first | omega | (simp; done) | (simp; omega) | (simp at *; omega)) hbb hbo w ((R_pre 0 rfl) w hm) (by first | omega | (simp; done) | (simp [-List.getD_eq_getElem?_getD]; omega) | (simp at *; omega) | rfl)) rfl rfl) (Wt.plain rfl) ?_
  rintro _ _ ⟨_, _, ⟨rfl, rfl⟩, rfl, rfl⟩
  change (_ : List Blk → Prop) [_]
  refine T.q (q_move rfl rfl) (Wt.plain rfl) rfl rfl ?_
  refine T.q (q_extract rfl rfl rfl) (Wt.plain rfl) rfl rfl ?_
  refine T.q (q_extract rfl rfl rfl) (Wt.plain rfl) rfl rfl ?_
  refine T.q (q_extract rfl rfl rfl) (Wt.plain rfl) rfl rfl ?_
  refine T.q (q_assign rfl rfl) (Wt.plain rfl) rfl rfl ?_
  refine T.q (q_assign rfl rfl) (Wt.plain rfl) rfl rfl ?_
  refine T.q (q_assign rfl rfl) (Wt.plain rfl) rfl rfl ?_
  refine T.nil ?_
  refine Ex.next ?_
  refine W.slots (L' := [(0, _), (1, _), (5, _), (6, _), (7, _), (8, _), (9, _)]) ⟨rfl, rfl, rfl, rfl, rfl, rfl, rfl, trivial⟩ ?_
  refine W.seq ?_
  refine W.region ?_
  refine T.q (q_move rfl rfl) (Wt.plain rfl) rfl rfl ?_
  refine T.eff (e_call enters27 rfl rfl (fun w hm => reftake_bad_at b _ _ (by first | omega | (simp; done) | (simp; omega) | (simp at *; omega)) (by first | omega | (simp; done) | (simp; omega) | (simp at *; omega)) hbb hbo w ((R_ext hB.ext) w hm) (by first | omega | (simp; done) | (simp [-List.getD_eq_getElem?_getD]; omega) | (simp at *; omega) | rfl)) rfl rfl) (Wt.plain rfl) ?_
  rintro _ _ ⟨_, _, ⟨rfl, rfl⟩, rfl, rfl⟩
  change (_ : List Blk → Prop) [_]
  refine T.q (q_move rfl rfl) (Wt.plain rfl) rfl rfl ?_
  refine T.q (q_extract rfl rfl rfl) (Wt.plain rfl) rfl rfl ?_
  refine T.q (q_extract rfl rfl rfl) (Wt.plain rfl) rfl rfl ?_
  refine T.q (q_extract rfl rfl rfl) (Wt.plain rfl) rfl rfl ?_
  refine T.q (q_assign rfl rfl) (Wt.plain rfl) rfl rfl ?_
  refine T.q (q_assign rfl rfl) (Wt.plain rfl) rfl rfl ?_
  refine T.q (q_assign rfl rfl) (Wt.plain rfl) rfl rfl ?_
  refine T.nil ?_
  refine Ex.next ?_
  refine W.slots (L' := [(0, _), (1, _), (5, _), (6, _), (7, _), (8, _), (9, _), (10, _), (11, _), (12, _)]) ⟨rfl, rfl, rfl, rfl, rfl, rfl, rfl, rfl, rfl, rfl, trivial⟩ ?_
  refine W.seq ?_
  refine W.region ?_
  refine T.q (q_move rfl rfl) (Wt.plain rfl) rfl rfl ?_
  refine T.q (q_move rfl rfl) (Wt.plain rfl) rfl rfl ?_
  refine T.eff (e_call enters28 rfl rfl (fun w hm => takef_at b _ _ (by first | omega | (simp; done) | (simp; omega) | (simp at *; omega)) (by first | omega | (simp; done) | (simp; omega) | (simp at *; omega)) hbb s (by first | omega | (simp; done) | (simp; omega) | (simp at *; omega)) (by first | omega | (simp; done) | (simp; omega) | (simp at *; omega)) (by first | omega | (simp; done) | (simp; omega) | (simp at *; omega)) w ((R_pre 0 rfl) w hm) (by first | omega | (simp; done) | (simp [-List.getD_eq_getElem?_getD]; omega) | (simp at *; omega) | rfl)) rfl rfl) (Wt.plain rfl) ?_
  rintro _ _ ⟨_, _, ⟨k6, cap7, junk8, rfl, hc9, rfl⟩, rfl, rfl⟩
  change (_ : List Blk → Prop) [_, _]
  refine T.q (q_move rfl rfl) (Wt.plain rfl) rfl rfl ?_
  refine T.q (q_extract rfl rfl rfl) (Wt.plain rfl) rfl rfl ?_
  refine T.q (q_extract rfl rfl rfl) (Wt.plain rfl) rfl rfl ?_
  refine T.q (q_extract rfl rfl rfl) (Wt.plain rfl) rfl rfl ?_
  refine T.q (q_assign rfl rfl) (Wt.plain rfl) rfl rfl ?_
  refine T.q (q_assign rfl rfl) (Wt.plain rfl) rfl rfl ?_
  refine T.q (q_assign rfl rfl) (Wt.plain rfl) rfl rfl ?_
  refine T.nil ?_
  refine Ex.next ?_
  refine W.slots (L' := [(0, _), (1, _), (5, _), (6, _), (7, _), (8, _), (9, _), (10, _), (11, _), (12, _), (13, _), (14, _), (15, _)]) ⟨rfl, rfl, rfl, rfl, rfl, rfl, rfl, rfl, rfl, rfl, rfl, rfl, rfl, trivial⟩ ?_
  refine W.seq ?_
  refine W.region ?_
  refine T.q (q_move rfl rfl) (Wt.plain rfl) rfl rfl ?_
  refine T.q (q_move rfl rfl) (Wt.plain rfl) rfl rfl ?_
  refine T.eff (e_call enters29 rfl rfl (fun w hm => reftakef_at b _ _ (by first | omega | (simp; done) | (simp; omega) | (simp at *; omega)) (by first | omega | (simp; done) | (simp; omega) | (simp at *; omega)) hbb s (by first | omega | (simp; done) | (simp; omega) | (simp at *; omega)) (by first | omega | (simp; done) | (simp; omega) | (simp at *; omega)) (by first | omega | (simp; done) | (simp; omega) | (simp at *; omega)) w ((R_ext hB.ext) w hm) (by first | omega | (simp; done) | (simp [-List.getD_eq_getElem?_getD]; omega) | (simp at *; omega) | rfl)) rfl rfl) (Wt.plain rfl) ?_
  rintro _ _ ⟨_, _, ⟨k10, cap11, junk12, rfl, hc13, rfl⟩, rfl, rfl⟩
  change (_ : List Blk → Prop) [_, _, _]
  refine T.q (q_move rfl rfl) (Wt.plain rfl) rfl rfl ?_
  refine T.q (q_extract rfl rfl rfl) (Wt.plain rfl) rfl rfl ?_
  refine T.q (q_extract rfl rfl rfl) (Wt.plain rfl) rfl rfl ?_
  refine T.q (q_extract rfl rfl rfl) (Wt.plain rfl) rfl rfl ?_
  refine T.q (q_assign rfl rfl) (Wt.plain rfl) rfl rfl ?_
  refine T.q (q_assign rfl rfl) (Wt.plain rfl) rfl rfl ?_
  refine T.q (q_assign rfl rfl) (Wt.plain rfl) rfl rfl ?_
  refine T.nil ?_
  refine Ex.next ?_
  refine W.slots (L' := [(0, _), (5, _), (6, _), (7, _), (8, _), (9, _), (10, _), (11, _), (12, _), (13, _), (14, _), (15, _), (16, _), (17, _), (18, _)]) ⟨rfl, rfl, rfl, rfl, rfl, rfl, rfl, rfl, rfl, rfl, rfl, rfl, rfl, rfl, rfl, trivial⟩ ?_
  refine W.seq ?_
  refine W.region ?_
  refine T.q (q_move rfl rfl) (Wt.plain rfl) rfl rfl ?_
  refine T.q (q_move rfl rfl) (Wt.plain rfl) rfl rfl ?_
  refine T.q (q_move rfl rfl) (Wt.yes rfl rfl rfl) rfl rfl ?_
  refine T.q (q_move rfl rfl) (Wt.yes rfl rfl rfl) rfl rfl ?_
  refine T.q (q_bool (b := true) (q_eql rfl rfl rfl) (decide_eq_true rfl)) (Wt.yes rfl rfl rfl) rfl rfl ?_
  refine T.q (q_pickT rfl rfl rfl) (Wt.plain rfl) rfl rfl ?_
  refine T.q (q_move rfl rfl) (Wt.plain rfl) rfl rfl ?_
  refine T.q (q_move rfl rfl) (Wt.yes rfl rfl rfl) rfl rfl ?_
  refine T.q (q_bstr sc22 un5 un9 (R_nilI .u8) (by first | omega | (simp; done) | (simp [-List.getD_eq_getElem?_getD]; omega) | (simp at *; omega) | rfl) rfl rfl) (Wt.yes rfl rfl rfl) rfl rfl ?_
  refine T.q (q_move rfl rfl) (Wt.yes rfl rfl rfl) rfl rfl ?_
  refine T.q (q_bstr sc22 un5 un9 (R_nilI .u8) (by first | omega | (simp; done) | (simp [-List.getD_eq_getElem?_getD]; omega) | (simp at *; omega) | rfl) rfl rfl) (Wt.yes rfl rfl rfl) rfl rfl ?_
  refine T.q (q_bool (b := true) (q_eqlS rfl rfl rfl) (beq_self_eq_true _)) (Wt.yes rfl rfl rfl) rfl rfl ?_
  refine T.q (q_pickT rfl rfl rfl) (Wt.plain rfl) rfl rfl ?_
  refine T.q (q_move rfl rfl) (Wt.plain rfl) rfl rfl ?_
  refine T.q (q_move rfl rfl) (Wt.yes rfl rfl rfl) rfl rfl ?_
  refine T.q (q_move rfl rfl) (Wt.yes rfl rfl rfl) rfl rfl ?_
  refine T.q (q_bool (b := true) (q_eql rfl rfl rfl) (decide_eq_true rfl)) (Wt.yes rfl rfl rfl) rfl rfl ?_
  refine T.q (q_pickT rfl rfl rfl) (Wt.plain rfl) rfl rfl ?_
  refine T.q (q_move rfl rfl) (Wt.plain rfl) rfl rfl ?_
  refine T.q (q_move rfl rfl) (Wt.yes rfl rfl rfl) rfl rfl ?_
  refine T.q (q_move rfl rfl) (Wt.yes rfl rfl rfl) rfl rfl ?_
  refine T.q (q_bool (b := true) (q_eql rfl rfl rfl) (decide_eq_true rfl)) (Wt.yes rfl rfl rfl) rfl rfl ?_
  refine T.q (q_pickT rfl rfl rfl) (Wt.plain rfl) rfl rfl ?_
  refine T.q (q_move rfl rfl) (Wt.plain rfl) rfl rfl ?_
  refine T.q (q_move rfl rfl) (Wt.yes rfl rfl rfl) rfl rfl ?_
  refine T.q (q_bstr sc22 un5 un9 (R_opre 1 rfl) (by first | omega | (simp; done) | (simp [-List.getD_eq_getElem?_getD]; omega) | (simp at *; omega) | rfl) rfl rfl) (Wt.yes rfl rfl rfl) rfl rfl ?_
  refine T.q (q_move rfl rfl) (Wt.yes rfl rfl rfl) rfl rfl ?_
  refine T.q (q_bstr sc22 un5 un9 (R_pre 2 rfl) (by first | omega | (simp; done) | (simp [-List.getD_eq_getElem?_getD]; omega) | (simp at *; omega) | rfl) rfl rfl) (Wt.yes rfl rfl rfl) rfl rfl ?_
  refine T.q (q_bool (b := true) (q_eqlS rfl rfl rfl) (beq_self_eq_true _)) (Wt.yes rfl rfl rfl) rfl rfl ?_
  refine T.q (q_pickT rfl rfl rfl) (Wt.plain rfl) rfl rfl ?_
  refine T.q (q_move rfl rfl) (Wt.plain rfl) rfl rfl ?_
  refine T.q (q_move rfl rfl) (Wt.yes rfl rfl rfl) rfl rfl ?_
  refine T.q (q_move rfl rfl) (Wt.yes rfl rfl rfl) rfl rfl ?_
  refine T.q (q_bool (b := true) (q_eql rfl rfl rfl) (decide_eq_true rfl)) (Wt.yes rfl rfl rfl) rfl rfl ?_
  refine T.q (q_pickT rfl rfl rfl) (Wt.plain rfl) rfl rfl ?_
  refine T.q (q_move rfl rfl) (Wt.plain rfl) rfl rfl ?_
  refine T.q (q_move rfl rfl) (Wt.yes rfl rfl rfl) rfl rfl ?_
  refine T.q (q_bstr sc22 un5 un9 (R_pre 0 rfl) (by first | omega | (simp; done) | (simp [-List.getD_eq_getElem?_getD]; omega) | (simp at *; omega) | rfl) rfl rfl) (Wt.yes rfl rfl rfl) rfl rfl ?_
  refine T.q (q_move rfl rfl) (Wt.yes rfl rfl rfl) rfl rfl ?_
  refine T.q (q_bstr sc22 un5 un9 (R_ext hB.ext) (by first | omega | (simp; done) | (simp [-List.getD_eq_getElem?_getD]; omega) | (simp at *; omega) | rfl) rfl rfl) (Wt.yes rfl rfl rfl) rfl rfl ?_
  refine T.q (q_bool (b := true) (q_eqlS rfl rfl rfl) (beq_self_eq_true _)) (Wt.yes rfl rfl rfl) rfl rfl ?_
  refine T.q (q_pickT rfl rfl rfl) (Wt.plain rfl) rfl rfl ?_
  refine T.q (q_assign rfl rfl) (Wt.plain rfl) rfl rfl ?_
  refine T.nil ?_
  refine Ex.next ?_
  refine W.less (L' := [(4, _)]) [false, false, false] ⟨rfl, trivial⟩ ?_
  change (_ : List Blk → Prop) []
  refine W.ret ?_
  refine Ex.out1 [] rfl rfl ?_
  exact ⟨rfl, rfl⟩
set_option maxRecDepth 100000 in
theorem fixed_1 (b : List Int) (BA : Option Addr) (bc : Nat) (hbc : b.length ≤ bc) (hbl : b.length ≤ 140737488351232) (hbb : Bytes b) (z u : Int) (hbad : u < 1 ∨ 7 < u ∨ z < 0) (w0 : World) (hB : Reads w0 BA (ints .u8 b)) : Does Try.prog 8 #[.slice BA b.length bc, .int .i64 z, .int .i64 u] w0 [] (fun v G => v = .bool true ∧ G = []) := by
  refine spec_of 74 Try.func8 rfl rfl rfl ?_
  refine W.seq ?_
  refine W.region ?_
  refine T.q (q_assign rfl rfl) (Wt.plain rfl) rfl rfl ?_
  refine T.nil ?_
  refine Ex.next ?_
  refine W.slots (L' := [(0, _), (1, _), (2, _)]) ⟨rfl, rfl, rfl, trivial⟩ ?_
  refine W.seq ?_
  refine W.region ?_
  refine T.eff (e_call enters19 rfl rfl (fun w hm => shown09_spec w) rfl rfl) (Wt.plain rfl) ?_
  rintro _ _ ⟨_, _, ⟨rfl, rfl⟩, rfl, rfl⟩
  change (_ : List Blk → Prop) []
  refine T.q (q_assign rfl rfl) (Wt.plain rfl) rfl rfl ?_
  refine T.nil ?_
  refine Ex.next ?_
  refine W.slots (L' := [(0, _), (1, _), (2, _), (7, _)]) ⟨rfl, rfl, rfl, rfl, trivial⟩ ?_
  refine W.seq ?_
  refine W.region ?_
  refine T.q (q_move rfl rfl) (Wt.plain rfl) rfl rfl ?_
  refine T.q (q_move rfl rfl) (Wt.plain rfl) rfl rfl ?_
  refine T.q (q_move rfl rfl) (Wt.plain rfl) rfl rfl ?_
  refine T.eff (e_call enters30 rfl rfl (fun w hm => putf_bad1_at b _ _ (by first | omega | (simp; done) | (simp; omega) | (simp at *; omega)) (by first | omega | (simp; done) | (simp; omega) | (simp at *; omega)) z u (hbad) w ((R_ext hB.ext) w hm) (by first | omega | (simp; done) | (simp [-List.getD_eq_getElem?_getD]; omega) | (simp at *; omega) | rfl)) rfl rfl) (Wt.plain rfl) ?_
  rintro _ _ ⟨_, _, ⟨rfl, rfl⟩, rfl, rfl⟩
  change (_ : List Blk → Prop) []
  refine T.q (q_move rfl rfl) (Wt.plain rfl) rfl rfl ?_
  refine T.q (q_extract rfl rfl rfl) (Wt.plain rfl) rfl rfl ?_
  refine T.q (q_extract rfl rfl rfl) (Wt.plain rfl) rfl rfl ?_
  refine T.q (q_assign rfl rfl) (Wt.plain rfl) rfl rfl ?_
  refine T.q (q_assign rfl rfl) (Wt.plain rfl) rfl rfl ?_
  refine T.nil ?_
  refine Ex.next ?_
  refine W.slots (L' := [(0, _), (1, _), (2, _), (7, _), (8, _), (9, _)]) ⟨rfl, rfl, rfl, rfl, rfl, rfl, trivial⟩ ?_
  refine W.seq ?_
  refine W.region ?_
  refine T.q (q_move rfl rfl) (Wt.plain rfl) rfl rfl ?_
  refine T.q (q_move rfl rfl) (Wt.plain rfl) rfl rfl ?_
  refine T.q (q_move rfl rfl) (Wt.plain rfl) rfl rfl ?_
  refine T.eff (e_call enters31 rfl rfl (fun w hm => refputf_bad1_at b _ _ (by first | omega | (simp; done) | (simp; omega) | (simp at *; omega)) (by first | omega | (simp; done) | (simp; omega) | (simp at *; omega)) z u (hbad) w ((R_ext hB.ext) w hm) (by first | omega | (simp; done) | (simp [-List.getD_eq_getElem?_getD]; omega) | (simp at *; omega) | rfl)) rfl rfl) (Wt.plain rfl) ?_
  rintro _ _ ⟨_, _, ⟨rfl, rfl⟩, rfl, rfl⟩
  change (_ : List Blk → Prop) []
  refine T.q (q_move rfl rfl) (Wt.plain rfl) rfl rfl ?_
  refine T.q (q_extract rfl rfl rfl) (Wt.plain rfl) rfl rfl ?_
  refine T.q (q_extract rfl rfl rfl) (Wt.plain rfl) rfl rfl ?_
  refine T.q (q_assign rfl rfl) (Wt.plain rfl) rfl rfl ?_
  refine T.q (q_assign rfl rfl) (Wt.plain rfl) rfl rfl ?_
  refine T.nil ?_
  refine Ex.next ?_
  refine W.slots (L' := [(0, _), (1, _), (2, _), (7, _), (8, _), (9, _), (10, _), (11, _)]) ⟨rfl, rfl, rfl, rfl, rfl, rfl, rfl, rfl, trivial⟩ ?_
  refine W.seq ?_
  refine W.seq ?_
  refine W.region ?_
  refine T.q (q_move rfl rfl) (Wt.plain rfl) rfl rfl ?_
  refine T.q (q_not rfl rfl) (Wt.plain rfl) rfl rfl ?_
  refine T.q (q_move rfl rfl) (Wt.plain rfl) rfl rfl ?_
  refine T.q (q_move rfl rfl) (Wt.yes rfl rfl rfl) rfl rfl ?_
  refine T.q (q_bstr sc22 un5 un9 (R_nilI .u8) (by first | omega | (simp; done) | (simp [-List.getD_eq_getElem?_getD]; omega) | (simp at *; omega) | rfl) rfl rfl) (Wt.yes rfl rfl rfl) rfl rfl ?_
  refine T.q (q_move rfl rfl) (Wt.yes rfl rfl rfl) rfl rfl ?_
  refine T.q (q_bstr sc22 un5 un9 (R_nilI .u8) (by first | omega | (simp; done) | (simp [-List.getD_eq_getElem?_getD]; omega) | (simp at *; omega) | rfl) rfl rfl) (Wt.yes rfl rfl rfl) rfl rfl ?_
  refine T.q (q_bool (b := false) (q_neqS rfl rfl rfl) ?hE) (Wt.yes rfl rfl rfl) rfl rfl ?_
  case hE => simp
  refine T.q (q_pickF rfl rfl rfl) (Wt.plain rfl) rfl rfl ?_
  refine T.q (q_move rfl rfl) (Wt.plain rfl) rfl rfl ?_
  refine T.q (q_move rfl rfl) (Wt.yes rfl rfl rfl) rfl rfl ?_
  refine T.q (q_move rfl rfl) (Wt.yes rfl rfl rfl) rfl rfl ?_
  refine T.q (q_bool (b := false) (q_neq rfl rfl rfl) ?hE) (Wt.yes rfl rfl rfl) rfl rfl ?_
  case hE => simp
  refine T.q (q_pickF rfl rfl rfl) (Wt.plain rfl) rfl rfl ?_
  refine T.nil ?_
  refine Ex.next ?_
  refine W.slots (L' := [(0, _), (1, _), (2, _), (8, _), (9, _), (43, _)]) ⟨rfl, rfl, rfl, rfl, rfl, rfl, trivial⟩ ?_
  refine W.condF rfl ?_
  refine W.skip ?_
  refine Ex.next ?_
  refine W.slots (L' := [(0, _), (1, _), (2, _), (8, _), (9, _)]) ⟨rfl, rfl, rfl, rfl, rfl, trivial⟩ ?_
  refine W.seq ?_
  refine W.seq ?_
  refine W.region ?_
  refine T.q (q_move rfl rfl) (Wt.plain rfl) rfl rfl ?_
  refine T.q (q_bool (b := true) (q_neq rfl rfl rfl) ?hE) (Wt.plain rfl) rfl rfl ?_
  case hE => decide
  refine T.nil ?_
  refine Ex.next ?_
  refine W.slots (L' := [(0, _), (1, _), (2, _), (8, _), (45, _)]) ⟨rfl, rfl, rfl, rfl, rfl, trivial⟩ ?_
  refine W.condT rfl ?_
  refine W.seq ?_
  refine W.region ?_
  refine T.q (q_assign rfl rfl) (Wt.plain rfl) rfl rfl ?_
  refine T.nil ?_
  refine Ex.next ?_
  refine W.slots (L' := [(6, _)]) ⟨rfl, trivial⟩ ?_
  refine W.ret ?_
  refine Ex.then_ret ?_
  refine Ex.out1 [] rfl rfl ?_
  exact ⟨rfl, rfl⟩
set_option maxRecDepth 100000 in
theorem fixed_2 (b : List Int) (BA : Option Addr) (bc : Nat) (hbc : b.length ≤ bc) (hbl : b.length ≤ 140737488351232) (hbb : Bytes b) (n : Nat) (hn : n < 9223372036854775808) (s : Nat) (hs1 : 1 ≤ s) (hs7 : s ≤ 7) (hge : 256 ^ s ≤ n) (w0 : World) (hB : Reads w0 BA (ints .u8 b)) : Does Try.prog 8 #[.slice BA b.length bc, .int .i64 ((n : Nat) : Int), .int .i64 ((s : Nat) : Int)] w0 [] (fun v G => v = .bool true ∧ G = []) := by
  refine spec_of 74 Try.func8 rfl rfl rfl ?_
  refine W.seq ?_
  refine W.region ?_
  refine T.q (q_assign rfl rfl) (Wt.plain rfl) rfl rfl ?_
  refine T.nil ?_
  refine Ex.next ?_
  refine W.slots (L' := [(0, _), (1, _), (2, _)]) ⟨rfl, rfl, rfl, trivial⟩ ?_
  refine W.seq ?_
  refine W.region ?_
  refine T.eff (e_call enters19 rfl rfl (fun w hm => shown09_spec w) rfl rfl) (Wt.plain rfl) ?_
  rintro _ _ ⟨_, _, ⟨rfl, rfl⟩, rfl, rfl⟩
  change (_ : List Blk → Prop) []
  refine T.q (q_assign rfl rfl) (Wt.plain rfl) rfl rfl ?_
  refine T.nil ?_
  refine Ex.next ?_
  refine W.slots (L' := [(0, _), (1, _), (2, _), (7, _)]) ⟨rfl, rfl, rfl, rfl, trivial⟩ ?_
  refine W.seq ?_
  refine W.region ?_
  refine T.q (q_move rfl rfl) (Wt.plain rfl) rfl rfl ?_
  refine T.q (q_move rfl rfl) (Wt.plain rfl) rfl rfl ?_
  refine T.q (q_move rfl rfl) (Wt.plain rfl) rfl rfl ?_
  refine T.eff (e_call enters30 rfl rfl (fun w hm => putf_bad2_at b _ _ (by first | omega | (simp; done) | (simp; omega) | (simp at *; omega)) (by first | omega | (simp; done) | (simp; omega) | (simp at *; omega)) n (by first | omega | (simp; done) | (simp; omega) | (simp at *; omega)) s (by first | omega | (simp; done) | (simp; omega) | (simp at *; omega)) (by first | omega | (simp; done) | (simp; omega) | (simp at *; omega)) (hge) w ((R_ext hB.ext) w hm) (by first | omega | (simp; done) | (simp [-List.getD_eq_getElem?_getD]; omega) | (simp at *; omega) | rfl)) rfl rfl) (Wt.plain rfl) ?_
  rintro _ _ ⟨_, _, ⟨rfl, rfl⟩, rfl, rfl⟩
  change (_ : List Blk → Prop) []
  refine T.q (q_move rfl rfl) (Wt.plain rfl) rfl rfl ?_
  refine T.q (q_extract rfl rfl rfl) (Wt.plain rfl) rfl rfl ?_
  refine T.q (q_extract rfl rfl rfl) (Wt.plain rfl) rfl rfl ?_
  refine T.q (q_assign rfl rfl) (Wt.plain rfl) rfl rfl ?_
  refine T.q (q_assign rfl rfl) (Wt.plain rfl) rfl rfl ?_
  refine T.nil ?_
  refine Ex.next ?_
  refine W.slots (L' := [(0, _), (1, _), (2, _), (7, _), (8, _), (9, _)]) ⟨rfl, rfl, rfl, rfl, rfl, rfl, trivial⟩ ?_
  refine W.seq ?_
  refine W.region ?_
  refine T.q (q_move rfl rfl) (Wt.plain rfl) rfl rfl ?_
  refine T.q (q_move rfl rfl) (Wt.plain rfl) rfl rfl ?_
  refine T.q (q_move rfl rfl) (Wt.plain rfl) rfl rfl ?_
  refine T.eff (e_call enters31 rfl rfl (fun w hm => refputf_bad2_at b _ _ (by first | omega | (simp; done) | (simp; omega) | (simp at *; omega)) (by first | omega | (simp; done) | (simp; omega) | (simp at *; omega)) n (by first | omega | (simp; done) | (simp; omega) | (simp at *; omega)) s (by first | omega | (simp; done) | (simp; omega) | (simp at *; omega)) (by first | omega | (simp; done) | (simp; omega) | (simp at *; omega)) (hge) w ((R_ext hB.ext) w hm) (by first | omega | (simp; done) | (simp [-List.getD_eq_getElem?_getD]; omega) | (simp at *; omega) | rfl)) rfl rfl) (Wt.plain rfl) ?_
  rintro _ _ ⟨_, _, ⟨rfl, rfl⟩, rfl, rfl⟩
  change (_ : List Blk → Prop) []
  refine T.q (q_move rfl rfl) (Wt.plain rfl) rfl rfl ?_
  refine T.q (q_extract rfl rfl rfl) (Wt.plain rfl) rfl rfl ?_
  refine T.q (q_extract rfl rfl rfl) (Wt.plain rfl) rfl rfl ?_
  refine T.q (q_assign rfl rfl) (Wt.plain rfl) rfl rfl ?_
  refine T.q (q_assign rfl rfl) (Wt.plain rfl) rfl rfl ?_
  refine T.nil ?_
  refine Ex.next ?_
  refine W.slots (L' := [(0, _), (1, _), (2, _), (7, _), (8, _), (9, _), (10, _), (11, _)]) ⟨rfl, rfl, rfl, rfl, rfl, rfl, rfl, rfl, trivial⟩ ?_
  refine W.seq ?_
  refine W.seq ?_
  refine W.region ?_
  refine T.q (q_move rfl rfl) (Wt.plain rfl) rfl rfl ?_
  refine T.q (q_not rfl rfl) (Wt.plain rfl) rfl rfl ?_
  refine T.q (q_move rfl rfl) (Wt.plain rfl) rfl rfl ?_
  refine T.q (q_move rfl rfl) (Wt.yes rfl rfl rfl) rfl rfl ?_
  refine T.q (q_bstr sc22 un5 un9 (R_nilI .u8) (by first | omega | (simp; done) | (simp [-List.getD_eq_getElem?_getD]; omega) | (simp at *; omega) | rfl) rfl rfl) (Wt.yes rfl rfl rfl) rfl rfl ?_
  refine T.q (q_move rfl rfl) (Wt.yes rfl rfl rfl) rfl rfl ?_
  refine T.q (q_bstr sc22 un5 un9 (R_nilI .u8) (by first | omega | (simp; done) | (simp [-List.getD_eq_getElem?_getD]; omega) | (simp at *; omega) | rfl) rfl rfl) (Wt.yes rfl rfl rfl) rfl rfl ?_
  refine T.q (q_bool (b := false) (q_neqS rfl rfl rfl) ?hE) (Wt.yes rfl rfl rfl) rfl rfl ?_
  case hE => simp
  refine T.q (q_pickF rfl rfl rfl) (Wt.plain rfl) rfl rfl ?_
  refine T.q (q_move rfl rfl) (Wt.plain rfl) rfl rfl ?_
  refine T.q (q_move rfl rfl) (Wt.yes rfl rfl rfl) rfl rfl ?_
  refine T.q (q_move rfl rfl) (Wt.yes rfl rfl rfl) rfl rfl ?_
  refine T.q (q_bool (b := false) (q_neq rfl rfl rfl) ?hE) (Wt.yes rfl rfl rfl) rfl rfl ?_
  case hE => simp
  refine T.q (q_pickF rfl rfl rfl) (Wt.plain rfl) rfl rfl ?_
  refine T.nil ?_
  refine Ex.next ?_
  refine W.slots (L' := [(0, _), (1, _), (2, _), (8, _), (9, _), (43, _)]) ⟨rfl, rfl, rfl, rfl, rfl, rfl, trivial⟩ ?_
  refine W.condF rfl ?_
  refine W.skip ?_
  refine Ex.next ?_
  refine W.slots (L' := [(0, _), (1, _), (2, _), (8, _), (9, _)]) ⟨rfl, rfl, rfl, rfl, rfl, trivial⟩ ?_
  refine W.seq ?_
  refine W.seq ?_
  refine W.region ?_
  refine T.q (q_move rfl rfl) (Wt.plain rfl) rfl rfl ?_
  refine T.q (q_bool (b := true) (q_neq rfl rfl rfl) ?hE) (Wt.plain rfl) rfl rfl ?_
  case hE => decide
  refine T.nil ?_
  refine Ex.next ?_
  refine W.slots (L' := [(0, _), (1, _), (2, _), (8, _), (45, _)]) ⟨rfl, rfl, rfl, rfl, rfl, trivial⟩ ?_
  refine W.condT rfl ?_
  refine W.seq ?_
  refine W.region ?_
  refine T.q (q_assign rfl rfl) (Wt.plain rfl) rfl rfl ?_
  refine T.nil ?_
  refine Ex.next ?_
  refine W.slots (L' := [(6, _)]) ⟨rfl, trivial⟩ ?_
  refine W.ret ?_
  refine Ex.then_ret ?_
  refine Ex.out1 [] rfl rfl ?_
  exact ⟨rfl, rfl⟩
set_option maxRecDepth 100000 in
theorem fixed_g (b : List Int) (BA : Option Addr) (bc : Nat) (hbc : b.length ≤ bc) (hbl : b.length ≤ 140737488351232) (hbb : Bytes b) (n : Nat) (hn : n < 9223372036854775808) (s : Nat) (hs1 : 1 ≤ s) (hs7 : s ≤ 7) (hlt : n < 256 ^ s) (w0 : World) (hB : Reads w0 BA (ints .u8 b)) : Does Try.prog 8 #[.slice BA b.length bc, .int .i64 ((n : Nat) : Int), .int .i64 ((s : Nat) : Int)] w0 [] (fun v G => v = .bool true ∧ G = []) := by
  refine spec_of 74 Try.func8 rfl rfl rfl ?_
  refine W.seq ?_
  refine W.region ?_
  refine T.q (q_assign rfl rfl) (Wt.plain rfl) rfl rfl ?_
  refine T.nil ?_
  refine Ex.next ?_
  refine W.slots (L' := [(0, _), (1, _), (2, _)]) ⟨rfl, rfl, rfl, trivial⟩ ?_
  refine W.seq ?_
  refine W.region ?_
  refine T.eff (e_call enters19 rfl rfl (fun w hm => shown09_spec w) rfl rfl) (Wt.plain rfl) ?_
  rintro _ _ ⟨_, _, ⟨rfl, rfl⟩, rfl, rfl⟩
  change (_ : List Blk → Prop) []
  refine T.q (q_assign rfl rfl) (Wt.plain rfl) rfl rfl ?_
  refine T.nil ?_
  refine Ex.next ?_
  refine W.slots (L' := [(0, _), (1, _), (2, _), (7, _)]) ⟨rfl, rfl, rfl, rfl, trivial⟩ ?_
  refine W.seq ?_
  refine W.region ?_
  refine T.q (q_move rfl rfl) (Wt.plain rfl) rfl rfl ?_
  refine T.q (q_move rfl rfl) (Wt.plain rfl) rfl rfl ?_
  refine T.q (q_move rfl rfl) (Wt.plain rfl) rfl rfl ?_
  refine T.eff (e_call enters30 rfl rfl (fun w hm => putf_at b _ _ (by first | omega | (simp; done) | (simp; omega) | (simp at *; omega)) (by first | omega | (simp; done) | (simp; omega) | (simp at *; omega)) n (by first | omega | (simp; done) | (simp; omega) | (simp at *; omega)) s (by first | omega | (simp; done) | (simp; omega) | (simp at *; omega)) (by first | omega | (simp; done) | (simp; omega) | (simp at *; omega)) (hlt) w ((R_ext hB.ext) w hm) (by first | omega | (simp; done) | (simp [-List.getD_eq_getElem?_getD]; omega) | (simp at *; omega) | rfl)) rfl rfl) (Wt.plain rfl) ?_
  rintro _ _ ⟨_, _, ⟨k1, cap2, junk3, rfl, hc4, rfl⟩, rfl, rfl⟩
  change (_ : List Blk → Prop) [_]
  refine T.q (q_move rfl rfl) (Wt.plain rfl) rfl rfl ?_
  refine T.q (q_extract rfl rfl rfl) (Wt.plain rfl) rfl rfl ?_
  refine T.q (q_extract rfl rfl rfl) (Wt.plain rfl) rfl rfl ?_
  refine T.q (q_assign rfl rfl) (Wt.plain rfl) rfl rfl ?_
  refine T.q (q_assign rfl rfl) (Wt.plain rfl) rfl rfl ?_
  refine T.nil ?_
  refine Ex.next ?_
  refine W.slots (L' := [(0, _), (1, _), (2, _), (7, _), (8, _), (9, _)]) ⟨rfl, rfl, rfl, rfl, rfl, rfl, trivial⟩ ?_
  refine W.seq ?_
  refine W.region ?_
  refine T.q (q_move rfl rfl) (Wt.plain rfl) rfl rfl ?_
  refine T.q (q_move rfl rfl) (Wt.plain rfl) rfl rfl ?_
  refine T.q (q_move rfl rfl) (Wt.plain rfl) rfl rfl ?_
  refine T.eff (e_call enters31 rfl rfl (fun w hm => refputf_at b _ _ (by first | omega | (simp; done) | (simp; omega) | (simp at *; omega)) (by first | omega | (simp; done) | (simp; omega) | (simp at *; omega)) n (by first | omega | (simp; done) | (simp; omega) | (simp at *; omega)) s (by first | omega | (simp; done) | (simp; omega) | (simp at *; omega)) (by first | omega | (simp; done) | (simp; omega) | (simp at *; omega)) (hlt) w ((R_ext hB.ext) w hm) (by first | omega | (simp; done) | (simp [-List.getD_eq_getElem?_getD]; omega) | (simp at *; omega) | rfl)) rfl rfl) (Wt.plain rfl) ?_
  rintro _ _ ⟨_, _, ⟨k5, cap6, junk7, rfl, hc8, rfl⟩, rfl, rfl⟩
  change (_ : List Blk → Prop) [_, _]
  refine T.q (q_move rfl rfl) (Wt.plain rfl) rfl rfl ?_
  refine T.q (q_extract rfl rfl rfl) (Wt.plain rfl) rfl rfl ?_
  refine T.q (q_extract rfl rfl rfl) (Wt.plain rfl) rfl rfl ?_
  refine T.q (q_assign rfl rfl) (Wt.plain rfl) rfl rfl ?_
  refine T.q (q_assign rfl rfl) (Wt.plain rfl) rfl rfl ?_
  refine T.nil ?_
  refine Ex.next ?_
  refine W.slots (L' := [(0, _), (1, _), (2, _), (7, _), (8, _), (9, _), (10, _), (11, _)]) ⟨rfl, rfl, rfl, rfl, rfl, rfl, rfl, rfl, trivial⟩ ?_
  refine W.seq ?_
  refine W.seq ?_
  refine W.region ?_
  refine T.q (q_move rfl rfl) (Wt.plain rfl) rfl rfl ?_
  refine T.q (q_not rfl rfl) (Wt.plain rfl) rfl rfl ?_
  refine T.q (q_move rfl rfl) (Wt.plain rfl) rfl rfl ?_
  refine T.q (q_move rfl rfl) (Wt.yes rfl rfl rfl) rfl rfl ?_
  refine T.q (q_bstr sc22 un5 un9 (R_pre 0 rfl) (by first | omega | (simp; done) | (simp [-List.getD_eq_getElem?_getD]; omega) | (simp at *; omega) | rfl) rfl rfl) (Wt.yes rfl rfl rfl) rfl rfl ?_
  refine T.q (q_move rfl rfl) (Wt.yes rfl rfl rfl) rfl rfl ?_
  refine T.q (q_bstr sc22 un5 un9 (R_pre 1 rfl) (by first | omega | (simp; done) | (simp [-List.getD_eq_getElem?_getD]; omega) | (simp at *; omega) | rfl) rfl rfl) (Wt.yes rfl rfl rfl) rfl rfl ?_
  refine T.q (q_bool (b := false) (q_neqS rfl rfl rfl) ?hE) (Wt.yes rfl rfl rfl) rfl rfl ?_
  case hE => simp
  refine T.q (q_pickF rfl rfl rfl) (Wt.plain rfl) rfl rfl ?_
  refine T.q (q_move rfl rfl) (Wt.plain rfl) rfl rfl ?_
  refine T.q (q_move rfl rfl) (Wt.yes rfl rfl rfl) rfl rfl ?_
  refine T.q (q_move rfl rfl) (Wt.yes rfl rfl rfl) rfl rfl ?_
  refine T.q (q_bool (b := false) (q_neq rfl rfl rfl) ?hE) (Wt.yes rfl rfl rfl) rfl rfl ?_
  case hE => simp
  refine T.q (q_pickF rfl rfl rfl) (Wt.plain rfl) rfl rfl ?_
  refine T.nil ?_
  refine Ex.next ?_
  refine W.less (L' := [(0, _), (1, _), (2, _), (8, _), (9, _), (43, _)]) [true, false] ⟨rfl, rfl, rfl, rfl, rfl, rfl, trivial⟩ ?_
  change (_ : List Blk → Prop) [_]
  refine W.condF rfl ?_
  refine W.skip ?_
  refine Ex.next ?_
  refine W.slots (L' := [(0, _), (1, _), (2, _), (8, _), (9, _)]) ⟨rfl, rfl, rfl, rfl, rfl, trivial⟩ ?_
  refine W.seq ?_
  refine W.seq ?_
  refine W.region ?_
  refine T.q (q_move rfl rfl) (Wt.plain rfl) rfl rfl ?_
  refine T.q (q_bool (b := false) (q_neq rfl rfl rfl) ?hE) (Wt.plain rfl) rfl rfl ?_
  case hE => simp
  refine T.nil ?_
  refine Ex.next ?_
  refine W.slots (L' := [(0, _), (1, _), (2, _), (8, _), (45, _)]) ⟨rfl, rfl, rfl, rfl, rfl, trivial⟩ ?_
  refine W.condF rfl ?_
  refine W.skip ?_
  refine Ex.next ?_
  refine W.slots (L' := [(0, _), (1, _), (2, _), (8, _)]) ⟨rfl, rfl, rfl, rfl, trivial⟩ ?_
  refine W.seq ?_
  refine W.region ?_
  refine T.eff (e_litA sc22 ze5 rfl rfl rfl (by simp [Value.cells]) rfl rfl rfl) (Wt.plain rfl) ?_
  rintro _ _ ⟨k9, rfl, rfl⟩
  change (_ : List Blk → Prop) [_, _]
  refine T.q (q_move rfl rfl) (Wt.plain rfl) rfl rfl ?_
  refine T.q (q_move rfl rfl) (Wt.plain rfl) rfl rfl ?_
  refine T.q (q_len sc22 rfl rfl) (Wt.plain rfl) rfl rfl ?_
  refine T.q (q_sl sc22 b.length (b.length + s) cap2 rfl rfl ⟨_, _, rfl, by omega⟩ rfl rfl (by first | omega | (simp; done) | (simp [-List.getD_eq_getElem?_getD]; omega)) (by first | omega | (simp; done) | (simp [-List.getD_eq_getElem?_getD]; omega)) (by first | omega | (simp; done) | (simp [-List.getD_eq_getElem?_getD]; omega)) (by simp)) (Wt.plain rfl) rfl rfl ?_
  refine T.eff (e_appendI sc22 ze5 rfl 1 .u8 [] ((b ++ bigS n s).drop b.length) [] ((List.append_nil _).symm) (R_cutI (R_pre 0 rfl) (by first | omega | (simp; done) | (simp [-List.getD_eq_getElem?_getD]; omega) | (simp at *; omega) | rfl)) rfl rfl rfl rfl (by first | omega | (simp; done) | (simp [-List.getD_eq_getElem?_getD]; omega) | (simp at *; omega) | rfl) (by first | omega | (simp; done) | (simp [-List.getD_eq_getElem?_getD]; omega) | (simp at *; omega) | rfl) (by first | omega | (simp; done) | (simp [-List.getD_eq_getElem?_getD]; omega) | (simp at *; omega) | rfl) (by first | omega | (simp; done) | (simp [-List.getD_eq_getElem?_getD]; omega)) (by first | omega | (simp; done) | (simp [-List.getD_eq_getElem?_getD]; omega)) rfl rfl) (Wt.plain rfl) ?_
  rintro _ _ ⟨k10, cap11, junk12, hc13, rfl, rfl⟩
  change (_ : List Blk → Prop) [_, _]
  refine T.q (q_move rfl rfl) (Wt.plain rfl) rfl rfl ?_
  refine T.eff (e_appendI sc22 ze5 rfl 1 .u8 ([] ++ (b ++ bigS n s).drop b.length) b junk12 (rfl) (R_ext hB.ext) rfl rfl rfl rfl (by first | omega | (simp; done) | (simp [-List.getD_eq_getElem?_getD]; omega) | (simp at *; omega) | rfl) (by first | omega | (simp; done) | (simp [-List.getD_eq_getElem?_getD]; omega) | (simp at *; omega) | rfl) (by first | omega | (simp; done) | (simp [-List.getD_eq_getElem?_getD]; omega) | (simp at *; omega) | rfl) (by first | omega | (simp; done) | (simp [-List.getD_eq_getElem?_getD]; omega)) (by first | omega | (simp; done) | (simp [-List.getD_eq_getElem?_getD]; omega)) rfl rfl) (Wt.plain rfl) ?_
  rintro _ _ ⟨k14, cap15, junk16, hc17, rfl, rfl⟩
  change (_ : List Blk → Prop) [_, _]
  conv => rhs; rw [show ([] ++ (b ++ bigS n s).drop b.length) ++ b = bigS n s ++ b by simp]
  refine T.q (q_move rfl rfl) (Wt.plain rfl) rfl rfl ?_
  refine T.eff (e_call enters28 rfl rfl (fun w hm => takef_at (bigS n s ++ b) _ _ (by first | omega | (simp; done) | (simp; omega) | (simp at *; omega)) (by first | omega | (simp; done) | (simp; omega) | (simp at *; omega)) ((Bytes.bigS n s).app hbb) s (by first | omega | (simp; done) | (simp; omega) | (simp at *; omega)) (by first | omega | (simp; done) | (simp; omega) | (simp at *; omega)) (by first | omega | (simp; done) | (simp; omega) | (simp at *; omega)) w ((R_pre 1 rfl) w hm) (by first | omega | (simp; done) | (simp [-List.getD_eq_getElem?_getD]; omega) | (simp at *; omega) | rfl)) rfl rfl) (Wt.plain rfl) ?_
  rintro _ _ ⟨_, _, ⟨k18, cap19, junk20, rfl, hc21, rfl⟩, rfl, rfl⟩
  change (_ : List Blk → Prop) [_, _, _]
  refine T.q (q_move rfl rfl) (Wt.plain rfl) rfl rfl ?_
  refine T.q (q_extract rfl rfl rfl) (Wt.plain rfl) rfl rfl ?_
  refine T.q (q_extract rfl rfl rfl) (Wt.plain rfl) rfl rfl ?_
  refine T.q (q_extract rfl rfl rfl) (Wt.plain rfl) rfl rfl ?_
  refine T.q (q_assign rfl rfl) (Wt.plain rfl) rfl rfl ?_
  refine T.q (q_assign rfl rfl) (Wt.plain rfl) rfl rfl ?_
  refine T.q (q_assign rfl rfl) (Wt.plain rfl) rfl rfl ?_
  refine T.nil ?_
  refine Ex.next ?_
  refine W.less (L' := [(0, _), (1, _), (12, _), (13, _), (14, _)]) [false, false, true] ⟨rfl, rfl, rfl, rfl, rfl, trivial⟩ ?_
  change (_ : List Blk → Prop) [_]
  refine W.seq ?_
  refine W.region ?_
  refine T.q (q_move rfl rfl) (Wt.plain rfl) rfl rfl ?_
  refine T.q (q_bool (b := true) (q_eql rfl rfl rfl) (decide_eq_true rfl)) (Wt.plain rfl) rfl rfl ?_
  refine T.q (q_move rfl rfl) (Wt.plain rfl) rfl rfl ?_
  refine T.q (q_move rfl rfl) (Wt.yes rfl rfl rfl) rfl rfl ?_
  refine T.q (q_move rfl rfl) (Wt.yes rfl rfl rfl) rfl rfl ?_
  refine T.q (q_bool (b := true) (q_eql rfl rfl rfl) ?hE) (Wt.yes rfl rfl rfl) rfl rfl ?_
  case hE => rw [fixed_back n s hlt b]; exact decide_eq_true rfl
  refine T.q (q_pickT rfl rfl rfl) (Wt.plain rfl) rfl rfl ?_
  refine T.q (q_move rfl rfl) (Wt.plain rfl) rfl rfl ?_
  refine T.q (q_move rfl rfl) (Wt.yes rfl rfl rfl) rfl rfl ?_
  refine T.q (q_bstr sc22 un5 un9 (R_opre 0 rfl) (by first | omega | (simp; done) | (simp [-List.getD_eq_getElem?_getD]; omega) | (simp at *; omega) | rfl) rfl rfl) (Wt.yes rfl rfl rfl) rfl rfl ?_
  refine T.q (q_move rfl rfl) (Wt.yes rfl rfl rfl) rfl rfl ?_
  refine T.q (q_bstr sc22 un5 un9 (R_ext hB.ext) (by first | omega | (simp; done) | (simp [-List.getD_eq_getElem?_getD]; omega) | (simp at *; omega) | rfl) rfl rfl) (Wt.yes rfl rfl rfl) rfl rfl ?_
  refine T.q (q_bool (b := true) (q_eqlS rfl rfl rfl) ?hE) (Wt.yes rfl rfl rfl) rfl rfl ?_
  case hE => rw [fixed_rest n s b]; exact beq_self_eq_true _
  refine T.q (q_pickT rfl rfl rfl) (Wt.plain rfl) rfl rfl ?_
  refine T.q (q_assign rfl rfl) (Wt.plain rfl) rfl rfl ?_
  refine T.nil ?_
  refine Ex.next ?_
  refine W.less (L' := [(6, _)]) [false] ⟨rfl, trivial⟩ ?_
  change (_ : List Blk → Prop) []
  refine W.ret ?_
  refine Ex.out1 [] rfl rfl ?_
  exact ⟨rfl, rfl⟩
theorem vars_law (b : List Int) (BA : Option Addr) (bc : Nat) (hbc : b.length ≤ bc) (hbl : b.length ≤ 140737488351232) (hbb : Bytes b) (z : Int) (w0 : World) (hB : Reads w0 BA (ints .u8 b)) : Does Try.prog 3 #[.slice BA b.length bc, .int .i64 z] w0 [] (fun v G => v = .bool true ∧ G = []) := by
  by_cases h : z < 0 ∨ 4611686018427387904 ≤ z
  · exact vars_bad b BA bc hbc hbl hbb z h w0 hB
  · obtain ⟨n, rfl⟩ := Int.eq_ofNat_of_zero_le (show 0 ≤ z by omega)
    exact vars_good b BA bc hbc hbl hbb n (by omega) w0 hB
theorem back_law (b : List Int) (BA : Option Addr) (bc : Nat) (hbc : b.length ≤ bc) (hbl : b.length ≤ 140737488351232) (hbb : Bytes b) (z : Int) (w0 : World) (hB : Reads w0 BA (ints .u8 b)) : Does Try.prog 4 #[.int .i64 z, .slice BA b.length bc] w0 [] (fun v G => v = .bool true ∧ G = []) := by
  have e : takeOk b = true ∨ takeOk b = false := by cases takeOk b <;> simp
  by_cases h : z < 0 ∨ 4611686018427387904 ≤ z
  · rcases e with e | e
    · exact back_bt b BA bc hbc hbl hbb z h e w0 hB
    · exact back_bf b BA bc hbc hbl hbb z h e w0 hB
  · obtain ⟨n, rfl⟩ := Int.eq_ofNat_of_zero_le (show 0 ≤ z by omega)
    rcases e with e | e
    · exact back_gt b BA bc hbc hbl hbb n (by omega) e w0 hB
    · exact back_gf b BA bc hbc hbl hbb n (by omega) e w0 hB
theorem takes_law (b : List Int) (BA : Option Addr) (bc : Nat) (hbc : b.length ≤ bc) (hbl : b.length ≤ 140737488351232) (hbb : Bytes b) (z : Int) (w0 : World) (hB : Reads w0 BA (ints .u8 b)) : Does Try.prog 7 #[.slice BA b.length bc, .int .i64 z] w0 [] (fun v G => v = .bool true ∧ G = []) := by
  have e : takeOk b = true ∨ takeOk b = false := by cases takeOk b <;> simp
  by_cases h : z < 1 ∨ 7 < z
  · rcases e with e | e
    · exact takes_t1 b BA bc hbc hbl hbb z h e w0 hB
    · exact takes_f1 b BA bc hbc hbl hbb z h e w0 hB
  · obtain ⟨s, rfl⟩ := Int.eq_ofNat_of_zero_le (show 0 ≤ z by omega)
    by_cases hl : b.length < s
    · rcases e with e | e
      · exact takes_t2 b BA bc hbc hbl hbb s (by omega) (by omega) hl e w0 hB
      · exact takes_f2 b BA bc hbc hbl hbb s (by omega) (by omega) hl e w0 hB
    · rcases e with e | e
      · exact takes_tg b BA bc hbc hbl hbb s (by omega) (by omega) (by omega) e w0 hB
      · exact takes_fg b BA bc hbc hbl hbb s (by omega) (by omega) (by omega) e w0 hB
theorem fixed_law (b : List Int) (BA : Option Addr) (bc : Nat) (hbc : b.length ≤ bc) (hbl : b.length ≤ 140737488351232) (hbb : Bytes b) (z : Int) (u : Int) (hz : z ≤ 9223372036854775807) (w0 : World) (hB : Reads w0 BA (ints .u8 b)) : Does Try.prog 8 #[.slice BA b.length bc, .int .i64 z, .int .i64 u] w0 [] (fun v G => v = .bool true ∧ G = []) := by
  by_cases h : u < 1 ∨ 7 < u ∨ z < 0
  · exact fixed_1 b BA bc hbc hbl hbb z u h w0 hB
  · obtain ⟨n, rfl⟩ := Int.eq_ofNat_of_zero_le (show 0 ≤ z by omega)
    obtain ⟨s, rfl⟩ := Int.eq_ofNat_of_zero_le (show 0 ≤ u by omega)
    by_cases hl : n < 256 ^ s
    · exact fixed_g b BA bc hbc hbl hbb n (by omega) s (by omega) (by omega) hl w0 hB
    · exact fixed_2 b BA bc hbc hbl hbb n (by omega) s (by omega) (by omega) (by omega) w0 hB

end Go.Proofs.Ytmkjnefongjniaa
