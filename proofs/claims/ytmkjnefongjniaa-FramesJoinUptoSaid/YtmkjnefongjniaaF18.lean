/-
  What the document shows of layer 10.
-/
import Derived.Test.YtmkjnefongjniaaF15
import Derived.Test.YtmkjnefongjniaaF5
namespace Go.Proofs.Ytmkjnefongjniaa
open Go Go.X
set_option maxRecDepth 100000 in
theorem shown10_spec (w0 : World) : Does Try.prog 43 #[] w0 [] (fun v G => v = .bool true ∧ G = []) := by
  refine spec_of 83 Try.func43 rfl rfl rfl ?_
  refine W.seq ?_
  refine W.region ?_
  refine T.q (q_assign rfl rfl) (Wt.plain rfl) rfl rfl ?_
  refine T.nil ?_
  refine Ex.next ?_
  refine W.slots (L' := []) trivial ?_
  refine W.seq ?_
  refine W.region ?_
  refine T.eff (e_litA sc22 ze5 rfl rfl rfl (by simp [Value.cells]) rfl rfl rfl) (Wt.plain rfl) ?_
  rintro _ _ ⟨k1, rfl, rfl⟩
  change (_ : List Blk → Prop) [_]
  refine T.eff (e_mark un22 un5 rfl rfl 0 rfl rfl rfl) (Wt.plain rfl) ?_
  rintro _ _ ⟨hc2, rfl, rfl⟩
  change (_ : List Blk → Prop) [_]
  refine T.q (q_buildP (cells := .int .i64 1 :: (.int .i64 5 :: (.int .i64 0 :: (.slice none 0 0 :: (.slice (some ⟨k1, 0, none⟩) 2 2 :: (ints .u8 (List.replicate 8 0))))))) bp59 ze59 rfl rfl ⟨_, _, [.int .i64 1], _, rfl, rfl, rfl, (Nat.le_of_ble_eq_true rfl), rfl, _, _, [.int .i64 5], _, rfl, rfl, rfl, (Nat.le_of_ble_eq_true rfl), rfl, _, _, [.slice (some ⟨k1, 0, none⟩) 2 2], _, rfl, rfl, rfl, (Nat.le_of_ble_eq_true rfl), rfl, rfl⟩) (Wt.plain rfl) rfl rfl ?_
  refine T.q (q_buildP (cells := .int .i64 6 :: (.int .i64 7 :: (.int .i64 0 :: (.slice none 0 0 :: (.slice none 0 0 :: (ints .u8 (List.replicate 8 0))))))) bp59 ze59 rfl rfl ⟨_, _, [.int .i64 6], _, rfl, rfl, rfl, (Nat.le_of_ble_eq_true rfl), rfl, _, _, [.int .i64 7], _, rfl, rfl, rfl, (Nat.le_of_ble_eq_true rfl), rfl, rfl⟩) (Wt.plain rfl) rfl rfl ?_
  refine T.eff (e_litS sc52 ze59 [.int .i64 1 :: (.int .i64 5 :: (.int .i64 0 :: (.slice none 0 0 :: (.slice (some ⟨k1, 0, none⟩) 2 2 :: (ints .u8 (List.replicate 8 0)))))), .int .i64 6 :: (.int .i64 7 :: (.int .i64 0 :: (.slice none 0 0 :: (.slice none 0 0 :: (ints .u8 (List.replicate 8 0))))))] rfl rfl rfl (by simp) rfl rfl rfl) (Wt.plain rfl) ?_
  rintro _ _ ⟨k3, rfl, rfl⟩
  change (_ : List Blk → Prop) [_, _]
  change (_ : List Blk → Prop) [_, ⟨some k3, (.int .i64 1 :: (.int .i64 5 :: (.int .i64 0 :: (.slice none 0 0 :: (.slice (some ⟨k1, 0, none⟩) 2 2 :: (ints .u8 (List.replicate 8 0))))))) ++ (.int .i64 6 :: (.int .i64 7 :: (.int .i64 0 :: (.slice none 0 0 :: (.slice none 0 0 :: (ints .u8 (List.replicate 8 0))))))), 59, (0, 0)⟩]
  refine T.eff (e_call enters44 rfl rfl (fun w hm => enc_at [⟨⟨1, 5, 0, [], [97, 98], List.replicate 8 0⟩, none, 0, some ⟨k1, 0, none⟩, 2⟩, ⟨⟨6, 7, 0, [], [], List.replicate 8 0⟩, none, 0, none, 0⟩] rfl _ _ (by first | omega | (simp; done) | (simp; omega) | (simp at *; omega)) (by intro m hm; rcases List.mem_cons.1 hm with rfl | hm; exact Fm.ok_of (by decide +kernel); rw [List.mem_singleton] at hm; subst hm; exact Fm.ok_of (by decide +kernel)) (fs := [⟨1, 5, 0, [], [97, 98], List.replicate 8 0⟩, ⟨6, 7, 0, [], [], List.replicate 8 0⟩]) rfl w ((R_blk 1 rfl) w hm) (by intro m hm2; rcases List.mem_cons.1 hm2 with rfl | hm2; exact ⟨Reads.nil w none, (R_blk 0 rfl) w hm⟩; rw [List.mem_singleton] at hm2; subst hm2; exact ⟨Reads.nil w none, Reads.nil w none⟩)) rfl rfl) (Wt.plain rfl) ?_
  rintro _ _ ⟨_, _, ⟨k4, cap5, junk6, rfl, hc7, rfl⟩, rfl, rfl⟩
  change (_ : List Blk → Prop) [_, _, _]
  refine T.q (q_move rfl rfl) (Wt.plain rfl) rfl rfl ?_
  refine T.q (q_extract rfl rfl rfl) (Wt.plain rfl) rfl rfl ?_
  refine T.q (q_extract rfl rfl rfl) (Wt.plain rfl) rfl rfl ?_
  refine T.q (q_assign rfl rfl) (Wt.plain rfl) rfl rfl ?_
  refine T.q (q_assign rfl rfl) (Wt.plain rfl) rfl rfl ?_
  refine T.nil ?_
  refine Ex.next ?_
  refine W.less (L' := [(1, _), (2, _)]) [false, false, true] ⟨rfl, rfl, trivial⟩ ?_
  change (_ : List Blk → Prop) [_]
  refine W.seq ?_
  refine W.region ?_
  refine T.q (q_buildP (cells := [.int .i64 6, .int .i64 8]) bp74 ze74 rfl rfl ⟨_, _, [.int .i64 6], _, rfl, rfl, rfl, (Nat.le_of_ble_eq_true rfl), rfl, _, _, [.int .i64 8], _, rfl, rfl, rfl, (Nat.le_of_ble_eq_true rfl), rfl, rfl⟩) (Wt.plain rfl) rfl rfl ?_
  refine T.q (q_buildP (cells := [.int .i64 10, .int .i64 11]) bp74 ze74 rfl rfl ⟨_, _, [.int .i64 10], _, rfl, rfl, rfl, (Nat.le_of_ble_eq_true rfl), rfl, _, _, [.int .i64 11], _, rfl, rfl, rfl, (Nat.le_of_ble_eq_true rfl), rfl, rfl⟩) (Wt.plain rfl) rfl rfl ?_
  refine T.eff (e_litS sc56 ze74 [[.int .i64 6, .int .i64 8], [.int .i64 10, .int .i64 11]] rfl rfl rfl (by simp) rfl rfl rfl) (Wt.plain rfl) ?_
  rintro _ _ ⟨k8, rfl, rfl⟩
  change (_ : List Blk → Prop) [_, _]
  change (_ : List Blk → Prop) [_, ⟨some k8, [.int .i64 6, .int .i64 8, .int .i64 10, .int .i64 11], 74, (0, 0)⟩]
  refine T.q (q_buildP (cells := .int .i64 2 :: (.int .i64 5 :: (.int .i64 9 :: (.slice (some ⟨k8, 0, none⟩) 2 2 :: (.slice none 0 0 :: (ints .u8 (List.replicate 8 0))))))) bp59 ze59 rfl rfl ⟨_, _, [.int .i64 2], _, rfl, rfl, rfl, (Nat.le_of_ble_eq_true rfl), rfl, _, _, [.int .i64 5], _, rfl, rfl, rfl, (Nat.le_of_ble_eq_true rfl), rfl, _, _, [.int .i64 9], _, rfl, rfl, rfl, (Nat.le_of_ble_eq_true rfl), rfl, _, _, [.slice (some ⟨k8, 0, none⟩) 2 2], _, rfl, rfl, rfl, (Nat.le_of_ble_eq_true rfl), rfl, rfl⟩) (Wt.plain rfl) rfl rfl ?_
  refine T.eff (e_litS1 sc52 ze59 (.int .i64 2 :: (.int .i64 5 :: (.int .i64 9 :: (.slice (some ⟨k8, 0, none⟩) 2 2 :: (.slice none 0 0 :: (ints .u8 (List.replicate 8 0))))))) rfl rfl (by simp) rfl rfl rfl) (Wt.plain rfl) ?_
  rintro _ _ ⟨k9, rfl, rfl⟩
  change (_ : List Blk → Prop) [_, _, _]
  refine T.eff (e_call enters44 rfl rfl (fun w hm => enc_at [⟨⟨2, 5, 9, [(6, 8), (10, 11)], [], List.replicate 8 0⟩, some ⟨k8, 0, none⟩, 2, none, 0⟩] rfl _ _ (by first | omega | (simp; done) | (simp; omega) | (simp at *; omega)) (by intro m hm; rw [List.mem_singleton] at hm; subst hm; exact Fm.ok_of (by decide +kernel)) (fs := [⟨2, 5, 9, [(6, 8), (10, 11)], [], List.replicate 8 0⟩]) rfl w ((R_blk 2 rfl) w hm) (by intro m hm2; rw [List.mem_singleton] at hm2; subst hm2; exact ⟨(R_blk 1 rfl) w hm, Reads.nil w none⟩)) rfl rfl) (Wt.plain rfl) ?_
  rintro _ _ ⟨_, _, ⟨k10, cap11, junk12, rfl, hc13, rfl⟩, rfl, rfl⟩
  change (_ : List Blk → Prop) [_, _, _, _]
  refine T.q (q_move rfl rfl) (Wt.plain rfl) rfl rfl ?_
  refine T.q (q_extract rfl rfl rfl) (Wt.plain rfl) rfl rfl ?_
  refine T.q (q_extract rfl rfl rfl) (Wt.plain rfl) rfl rfl ?_
  refine T.q (q_assign rfl rfl) (Wt.plain rfl) rfl rfl ?_
  refine T.q (q_assign rfl rfl) (Wt.plain rfl) rfl rfl ?_
  refine T.nil ?_
  refine Ex.next ?_
  refine W.less (L' := [(1, _), (2, _), (3, _), (4, _)]) [true, false, false, true] ⟨rfl, rfl, rfl, rfl, trivial⟩ ?_
  change (_ : List Blk → Prop) [_, _]
  refine W.seq ?_
  refine W.region ?_
  refine T.eff (e_litA sc22 ze5 rfl rfl rfl (by simp [Value.cells]) rfl rfl rfl) (Wt.plain rfl) ?_
  rintro _ _ ⟨k14, rfl, rfl⟩
  change (_ : List Blk → Prop) [_, _, _]
  refine T.eff (e_call enters46 rfl rfl (fun w hm => dec_no [1, 5, 0] (by first | omega | (simp; done) | (simp [-List.getD_eq_getElem?_getD]; omega) | (simp at *; omega) | rfl) _ _ (by first | omega | (simp; done) | (simp; omega) | (simp at *; omega)) (by first | omega | (simp; done) | (simp; omega) | (simp at *; omega)) (by intro x hx; simp at hx; omega) (rfl) w ((R_blk 2 rfl) w hm)) rfl rfl) (Wt.plain rfl) ?_
  rintro _ _ ⟨_, _, ⟨rfl, rfl⟩, rfl, rfl⟩
  change (_ : List Blk → Prop) [_, _, _]
  refine T.q (q_move rfl rfl) (Wt.plain rfl) rfl rfl ?_
  refine T.q (q_extract rfl rfl rfl) (Wt.plain rfl) rfl rfl ?_
  refine T.q (q_extract rfl rfl rfl) (Wt.plain rfl) rfl rfl ?_
  refine T.q (q_assign rfl rfl) (Wt.plain rfl) rfl rfl ?_
  refine T.q (q_assign rfl rfl) (Wt.plain rfl) rfl rfl ?_
  refine T.nil ?_
  refine Ex.next ?_
  refine W.less (L' := [(1, _), (2, _), (3, _), (4, _), (6, _)]) [true, true, false] ⟨rfl, rfl, rfl, rfl, rfl, trivial⟩ ?_
  change (_ : List Blk → Prop) [_, _]
  refine W.seq ?_
  refine W.region ?_
  refine T.eff (e_litA sc22 ze5 rfl rfl rfl (by simp [Value.cells]) rfl rfl rfl) (Wt.plain rfl) ?_
  rintro _ _ ⟨k15, rfl, rfl⟩
  change (_ : List Blk → Prop) [_, _, _]
  refine T.eff (e_call enters46 rfl rfl (fun w hm => dec_no [8] (by first | omega | (simp; done) | (simp [-List.getD_eq_getElem?_getD]; omega) | (simp at *; omega) | rfl) _ _ (by first | omega | (simp; done) | (simp; omega) | (simp at *; omega)) (by first | omega | (simp; done) | (simp; omega) | (simp at *; omega)) (by intro x hx; simp at hx; omega) (rfl) w ((R_blk 2 rfl) w hm)) rfl rfl) (Wt.plain rfl) ?_
  rintro _ _ ⟨_, _, ⟨rfl, rfl⟩, rfl, rfl⟩
  change (_ : List Blk → Prop) [_, _, _]
  refine T.q (q_move rfl rfl) (Wt.plain rfl) rfl rfl ?_
  refine T.q (q_extract rfl rfl rfl) (Wt.plain rfl) rfl rfl ?_
  refine T.q (q_extract rfl rfl rfl) (Wt.plain rfl) rfl rfl ?_
  refine T.q (q_assign rfl rfl) (Wt.plain rfl) rfl rfl ?_
  refine T.q (q_assign rfl rfl) (Wt.plain rfl) rfl rfl ?_
  refine T.nil ?_
  refine Ex.next ?_
  refine W.less (L' := [(1, _), (2, _), (3, _), (4, _), (6, _), (8, _)]) [true, true, false] ⟨rfl, rfl, rfl, rfl, rfl, rfl, trivial⟩ ?_
  change (_ : List Blk → Prop) [_, _]
  refine W.seq ?_
  refine W.region ?_
  refine T.eff (e_litA sc22 ze5 rfl rfl rfl (by simp [Value.cells]) rfl rfl rfl) (Wt.plain rfl) ?_
  rintro _ _ ⟨k16, rfl, rfl⟩
  change (_ : List Blk → Prop) [_, _, _]
  refine T.eff (e_call enters46 rfl rfl (fun w hm => dec_no [6, 64, 7] (by first | omega | (simp; done) | (simp [-List.getD_eq_getElem?_getD]; omega) | (simp at *; omega) | rfl) _ _ (by first | omega | (simp; done) | (simp; omega) | (simp at *; omega)) (by first | omega | (simp; done) | (simp; omega) | (simp at *; omega)) (by intro x hx; simp at hx; omega) (rfl) w ((R_blk 2 rfl) w hm)) rfl rfl) (Wt.plain rfl) ?_
  rintro _ _ ⟨_, _, ⟨rfl, rfl⟩, rfl, rfl⟩
  change (_ : List Blk → Prop) [_, _, _]
  refine T.q (q_move rfl rfl) (Wt.plain rfl) rfl rfl ?_
  refine T.q (q_extract rfl rfl rfl) (Wt.plain rfl) rfl rfl ?_
  refine T.q (q_extract rfl rfl rfl) (Wt.plain rfl) rfl rfl ?_
  refine T.q (q_assign rfl rfl) (Wt.plain rfl) rfl rfl ?_
  refine T.q (q_assign rfl rfl) (Wt.plain rfl) rfl rfl ?_
  refine T.nil ?_
  refine Ex.next ?_
  refine W.less (L' := [(1, _), (2, _), (3, _), (4, _), (6, _), (8, _), (10, _)]) [true, true, false] ⟨rfl, rfl, rfl, rfl, rfl, rfl, rfl, trivial⟩ ?_
  change (_ : List Blk → Prop) [_, _]
  refine W.seq ?_
  refine W.region ?_
  refine T.eff (e_litA sc22 ze5 rfl rfl rfl (by simp [Value.cells]) rfl rfl rfl) (Wt.plain rfl) ?_
  rintro _ _ ⟨k17, rfl, rfl⟩
  change (_ : List Blk → Prop) [_, _, _]
  refine T.eff (e_call enters46 rfl rfl (fun w hm => dec_no [1, 5, 2, 97] (by first | omega | (simp; done) | (simp [-List.getD_eq_getElem?_getD]; omega) | (simp at *; omega) | rfl) _ _ (by first | omega | (simp; done) | (simp; omega) | (simp at *; omega)) (by first | omega | (simp; done) | (simp; omega) | (simp at *; omega)) (by intro x hx; simp at hx; omega) (rfl) w ((R_blk 2 rfl) w hm)) rfl rfl) (Wt.plain rfl) ?_
  rintro _ _ ⟨_, _, ⟨rfl, rfl⟩, rfl, rfl⟩
  change (_ : List Blk → Prop) [_, _, _]
  refine T.q (q_move rfl rfl) (Wt.plain rfl) rfl rfl ?_
  refine T.q (q_extract rfl rfl rfl) (Wt.plain rfl) rfl rfl ?_
  refine T.q (q_extract rfl rfl rfl) (Wt.plain rfl) rfl rfl ?_
  refine T.q (q_assign rfl rfl) (Wt.plain rfl) rfl rfl ?_
  refine T.q (q_assign rfl rfl) (Wt.plain rfl) rfl rfl ?_
  refine T.nil ?_
  refine Ex.next ?_
  refine W.less (L' := [(1, _), (2, _), (3, _), (4, _), (6, _), (8, _), (10, _), (12, _)]) [true, true, false] ⟨rfl, rfl, rfl, rfl, rfl, rfl, rfl, rfl, trivial⟩ ?_
  change (_ : List Blk → Prop) [_, _]
  refine W.seq ?_
  refine W.region ?_
  refine T.q (q_move rfl rfl) (Wt.plain rfl) rfl rfl ?_
  refine T.q (q_bstr sc22 un5 un9 (R_opre 0 rfl) (by first | omega | (simp; done) | (simp [-List.getD_eq_getElem?_getD]; omega) | (simp at *; omega) | rfl) rfl rfl) (Wt.plain rfl) rfl rfl ?_
  refine T.q (q_bool (b := true) (q_eqlS rfl rfl rfl) ?hE) (Wt.plain rfl) rfl rfl ?_
  case hE => decide +kernel
  refine T.q (q_move rfl rfl) (Wt.plain rfl) rfl rfl ?_
  refine T.q (q_move rfl rfl) (Wt.yes rfl rfl rfl) rfl rfl ?_
  refine T.q (q_bool (b := true) (q_eql rfl rfl rfl) ?hE) (Wt.yes rfl rfl rfl) rfl rfl ?_
  case hE => decide +kernel
  refine T.q (q_pickT rfl rfl rfl) (Wt.plain rfl) rfl rfl ?_
  refine T.q (q_move rfl rfl) (Wt.plain rfl) rfl rfl ?_
  refine T.q (q_move rfl rfl) (Wt.yes rfl rfl rfl) rfl rfl ?_
  refine T.q (q_bstr sc22 un5 un9 (R_opre 1 rfl) (by first | omega | (simp; done) | (simp [-List.getD_eq_getElem?_getD]; omega) | (simp at *; omega) | rfl) rfl rfl) (Wt.yes rfl rfl rfl) rfl rfl ?_
  refine T.q (q_bool (b := true) (q_eqlS rfl rfl rfl) ?hE) (Wt.yes rfl rfl rfl) rfl rfl ?_
  case hE => decide +kernel
  refine T.q (q_pickT rfl rfl rfl) (Wt.plain rfl) rfl rfl ?_
  refine T.q (q_move rfl rfl) (Wt.plain rfl) rfl rfl ?_
  refine T.q (q_move rfl rfl) (Wt.yes rfl rfl rfl) rfl rfl ?_
  refine T.q (q_bool (b := true) (q_eql rfl rfl rfl) ?hE) (Wt.yes rfl rfl rfl) rfl rfl ?_
  case hE => decide +kernel
  refine T.q (q_pickT rfl rfl rfl) (Wt.plain rfl) rfl rfl ?_
  refine T.q (q_move rfl rfl) (Wt.plain rfl) rfl rfl ?_
  refine T.q (q_move rfl rfl) (Wt.yes rfl rfl rfl) rfl rfl ?_
  refine T.q (q_bool (b := true) (q_eql rfl rfl rfl) (decide_eq_true (by decide))) (Wt.yes rfl rfl rfl) rfl rfl ?_
  refine T.q (q_pickT rfl rfl rfl) (Wt.plain rfl) rfl rfl ?_
  refine T.q (q_move rfl rfl) (Wt.plain rfl) rfl rfl ?_
  refine T.q (q_move rfl rfl) (Wt.yes rfl rfl rfl) rfl rfl ?_
  refine T.q (q_bool (b := true) (q_eql rfl rfl rfl) (decide_eq_true (by decide))) (Wt.yes rfl rfl rfl) rfl rfl ?_
  refine T.q (q_pickT rfl rfl rfl) (Wt.plain rfl) rfl rfl ?_
  refine T.q (q_move rfl rfl) (Wt.plain rfl) rfl rfl ?_
  refine T.q (q_move rfl rfl) (Wt.yes rfl rfl rfl) rfl rfl ?_
  refine T.q (q_bool (b := true) (q_eql rfl rfl rfl) (decide_eq_true (by decide))) (Wt.yes rfl rfl rfl) rfl rfl ?_
  refine T.q (q_pickT rfl rfl rfl) (Wt.plain rfl) rfl rfl ?_
  refine T.q (q_move rfl rfl) (Wt.plain rfl) rfl rfl ?_
  refine T.q (q_move rfl rfl) (Wt.yes rfl rfl rfl) rfl rfl ?_
  refine T.q (q_bool (b := true) (q_eql rfl rfl rfl) (decide_eq_true (by decide))) (Wt.yes rfl rfl rfl) rfl rfl ?_
  refine T.q (q_pickT rfl rfl rfl) (Wt.plain rfl) rfl rfl ?_
  refine T.q (q_assign rfl rfl) (Wt.plain rfl) rfl rfl ?_
  refine T.nil ?_
  refine Ex.next ?_
  refine W.less (L' := [(0, _)]) [false, false] ⟨rfl, trivial⟩ ?_
  change (_ : List Blk → Prop) []
  refine W.ret ?_
  refine Ex.out1 [] rfl rfl ?_
  exact ⟨rfl, rfl⟩
end Go.Proofs.Ytmkjnefongjniaa
