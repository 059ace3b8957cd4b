/-
  The statements of layer 15.
-/
import Derived.Test.YtkoomaoelekpaaaDoorP1
import Derived.Test.YtkoomaoelekpaaaDoorP2
namespace Go.Proofs.YtkoomaoelekpaaaDoor
open Go Go.X

set_option maxRecDepth 100000 in
set_option maxHeartbeats 1000000 in
theorem shown15_spec (w0 : World) (hg0 : Reads w0 (some ⟨0, 0, none⟩) (ints .u32 startW)) (hg1 : Reads w0 (some ⟨1, 0, none⟩) (ints .u8 sgm)) (hg2 : Reads w0 (some ⟨2, 0, none⟩) (ints .u8 tbl)) : Does Tryd.prog 36 #[] w0 [] (fun v G => v = .bool true ∧ G = []) := by
  refine spec_of 101 Tryd.func36 rfl rfl rfl ?_
  refine W.seq ?_
  refine W.region ?_
  refine T.q (q_assign rfl rfl) (Wt.plain rfl) rfl rfl ?_
  refine T.nil ?_
  refine Ex.next ?_
  refine W.slots (L' := []) trivial ?_
  refine W.seq ?_
  refine W.region ?_
  refine T.q (q_to (v := .agg (ints .u8 k7).toArray) (q_build (v := .agg (ints .u8 [7, 0, 0, 0, 0, 0, 0, 0, 0, 0, 0, 0, 0, 0, 0, 0, 0, 0, 0, 0, 0, 0, 0, 0, 0, 0, 0, 0, 0, 0, 0, 0]).toArray) rfl rfl (fun _ => by kernel_rfl)) rfl) (Wt.plain rfl) rfl rfl ?_
  refine T.eff (e_call enters37 rfl rfl (fun w hm => new_spec k7 (by first | omega | (simp; done) | (simp; omega) | (simp at *; omega)) w) rfl rfl) (Wt.plain rfl) ?_
  rintro _ _ ⟨_, _, ⟨k1, rfl, rfl⟩, rfl, rfl⟩
  change (_ : List Blk → Prop) [_]
  refine T.q (q_assign rfl rfl) (Wt.plain rfl) rfl rfl ?_
  refine T.nil ?_
  refine Ex.next ?_
  refine W.slots (L' := [(1, _)]) ⟨rfl, trivial⟩ ?_
  refine W.seq ?_
  refine W.seq ?_
  refine W.region ?_
  refine T.q (q_move rfl rfl) (Wt.plain rfl) rfl rfl ?_
  refine T.q (q_eqlPN pt43 rfl rfl rfl) (Wt.plain rfl) rfl rfl ?_
  refine T.nil ?_
  refine Ex.next ?_
  refine W.slots (L' := [(1, _), (20, _)]) ⟨rfl, rfl, trivial⟩ ?_
  refine W.condF rfl ?_
  refine W.skip ?_
  refine Ex.next ?_
  refine W.slots (L' := [(1, _)]) ⟨rfl, trivial⟩ ?_
  refine W.seq ?_
  refine W.region ?_
  refine T.q (q_move rfl rfl) (Wt.plain rfl) rfl rfl ?_
  refine T.eff (e_call enters41 rfl rfl (fun w hm => epoch_spec 0 0 k7 (List.replicate 32 0) k1 (by first | omega | (simp; done) | (simp; omega) | (simp at *; omega)) (by first | omega | (simp; done) | (simp; omega) | (simp at *; omega)) (by first | omega | (simp; done) | (simp; omega) | (simp at *; omega)) (by first | omega | (simp; done) | (simp; omega) | (simp at *; omega)) w ((R_blk 0 rfl) w hm)) rfl rfl) (Wt.plain rfl) ?_
  rintro _ _ ⟨_, _, ⟨rfl, rfl⟩, rfl, rfl⟩
  change (_ : List Blk → Prop) [_]
  refine T.q (q_assign rfl rfl) (Wt.plain rfl) rfl rfl ?_
  refine T.nil ?_
  refine Ex.next ?_
  refine W.slots (L' := [(1, _), (2, _)]) ⟨rfl, rfl, trivial⟩ ?_
  refine W.seq ?_
  refine W.region ?_
  refine T.q (q_move rfl rfl) (Wt.plain rfl) rfl rfl ?_
  refine T.eff (e_call enters40 rfl rfl (fun w hm => key_spec 0 0 k7 (List.replicate 32 0) k1 (by first | omega | (simp; done) | (simp; omega) | (simp at *; omega)) (by first | omega | (simp; done) | (simp; omega) | (simp at *; omega)) (by first | omega | (simp; done) | (simp; omega) | (simp at *; omega)) (by first | omega | (simp; done) | (simp; omega) | (simp at *; omega)) (by first | omega | (simp; done) | (simp; omega) | (simp at *; omega)) 1 w ((R_blk 0 rfl) w hm) (R_ext hg0.ext w hm) (R_ext hg1.ext w hm) (R_ext hg2.ext w hm)) rfl rfl) (Wt.plain rfl) ?_
  rintro _ _ ⟨_, _, ⟨rfl, rfl⟩, rfl, rfl⟩
  change (_ : List Blk → Prop) [_]
  refine T.q (q_move rfl rfl) (Wt.plain rfl) rfl rfl ?_
  refine T.q (q_extract rfl rfl rfl) (Wt.plain rfl) rfl rfl ?_
  refine T.q (q_extract rfl rfl rfl) (Wt.plain rfl) rfl rfl ?_
  refine T.eff (e_alloc ze29 rfl rfl rfl) (Wt.plain rfl) ?_
  rintro _ _ ⟨k2, rfl, rfl⟩
  change (_ : List Blk → Prop) [_, _]
  refine T.eff (e_storeA (wide_ints wd29 (by first | omega | (simp; done) | (simp [-List.getD_eq_getElem?_getD]; omega) | (simp at *; omega) | rfl)) 1 rfl rfl rfl rfl (by first | omega | (simp; done) | (simp [-List.getD_eq_getElem?_getD]; omega) | (simp at *; omega) | rfl) ints_one rfl) (Wt.plain rfl) ?_
  rintro _ _ ⟨rfl, rfl⟩
  change (_ : List Blk → Prop) [_, _]
  refine T.q (q_assign rfl rfl) (Wt.plain rfl) rfl rfl ?_
  refine T.nil ?_
  refine Ex.next ?_
  refine W.less (L' := [(1, _), (2, _), (4, _)]) [true, false] ⟨rfl, rfl, rfl, trivial⟩ ?_
  change (_ : List Blk → Prop) [_]
  refine W.seq ?_
  refine W.region ?_
  refine T.q (q_move rfl rfl) (Wt.plain rfl) rfl rfl ?_
  refine T.eff (e_call enters40 rfl rfl (fun w hm => key_spec 0 0 k7 (List.replicate 32 0) k1 (by first | omega | (simp; done) | (simp; omega) | (simp at *; omega)) (by first | omega | (simp; done) | (simp; omega) | (simp at *; omega)) (by first | omega | (simp; done) | (simp; omega) | (simp at *; omega)) (by first | omega | (simp; done) | (simp; omega) | (simp at *; omega)) (by first | omega | (simp; done) | (simp; omega) | (simp at *; omega)) (-1) w ((R_blk 0 rfl) w hm) (R_ext hg0.ext w hm) (R_ext hg1.ext w hm) (R_ext hg2.ext w hm)) rfl rfl) (Wt.plain rfl) ?_
  rintro _ _ ⟨_, _, ⟨rfl, rfl⟩, rfl, rfl⟩
  change (_ : List Blk → Prop) [_]
  refine T.q (q_move rfl rfl) (Wt.plain rfl) rfl rfl ?_
  refine T.q (q_extract rfl rfl rfl) (Wt.plain rfl) rfl rfl ?_
  refine T.q (q_extract rfl rfl rfl) (Wt.plain rfl) rfl rfl ?_
  refine T.eff (e_alloc ze29 rfl rfl rfl) (Wt.plain rfl) ?_
  rintro _ _ ⟨k3, rfl, rfl⟩
  change (_ : List Blk → Prop) [_, _]
  refine T.eff (e_storeA (wide_ints wd29 (by first | omega | (simp; done) | (simp [-List.getD_eq_getElem?_getD]; omega) | (simp at *; omega) | rfl)) 1 rfl rfl rfl rfl (by first | omega | (simp; done) | (simp [-List.getD_eq_getElem?_getD]; omega) | (simp at *; omega) | rfl) ints_one rfl) (Wt.plain rfl) ?_
  rintro _ _ ⟨rfl, rfl⟩
  change (_ : List Blk → Prop) [_, _]
  refine T.q (q_assign rfl rfl) (Wt.plain rfl) rfl rfl ?_
  refine T.nil ?_
  refine Ex.next ?_
  refine W.less (L' := [(1, _), (2, _), (4, _), (6, _)]) [true, false] ⟨rfl, rfl, rfl, rfl, trivial⟩ ?_
  change (_ : List Blk → Prop) [_]
  refine W.seq ?_
  refine W.region ?_
  refine T.q (q_move rfl rfl) (Wt.plain rfl) rfl rfl ?_
  refine T.eff (e_call enters40 rfl rfl (fun w hm => key_spec 0 0 k7 (List.replicate 32 0) k1 (by first | omega | (simp; done) | (simp; omega) | (simp at *; omega)) (by first | omega | (simp; done) | (simp; omega) | (simp at *; omega)) (by first | omega | (simp; done) | (simp; omega) | (simp at *; omega)) (by first | omega | (simp; done) | (simp; omega) | (simp at *; omega)) (by first | omega | (simp; done) | (simp; omega) | (simp at *; omega)) 0 w ((R_blk 0 rfl) w hm) (R_ext hg0.ext w hm) (R_ext hg1.ext w hm) (R_ext hg2.ext w hm)) rfl rfl) (Wt.plain rfl) ?_
  rintro _ _ ⟨_, _, ⟨rfl, rfl⟩, rfl, rfl⟩
  change (_ : List Blk → Prop) [_]
  refine T.q (q_move rfl rfl) (Wt.plain rfl) rfl rfl ?_
  refine T.q (q_extract rfl rfl rfl) (Wt.plain rfl) rfl rfl ?_
  refine T.q (q_extract rfl rfl rfl) (Wt.plain rfl) rfl rfl ?_
  refine T.eff (e_alloc ze29 rfl rfl rfl) (Wt.plain rfl) ?_
  rintro _ _ ⟨k4, rfl, rfl⟩
  change (_ : List Blk → Prop) [_, _]
  refine T.eff (e_storeA (wide_ints wd29 (by first | omega | (simp; done) | (simp [-List.getD_eq_getElem?_getD]; omega) | (simp at *; omega) | rfl)) 1 rfl rfl rfl rfl (by first | omega | (simp; done) | (simp [-List.getD_eq_getElem?_getD]; omega) | (simp at *; omega) | rfl) ints_one rfl) (Wt.plain rfl) ?_
  rintro _ _ ⟨rfl, rfl⟩
  change (_ : List Blk → Prop) [_, _]
  refine T.q (q_assign rfl rfl) (Wt.plain rfl) rfl rfl ?_
  refine T.nil ?_
  refine Ex.next ?_
  refine W.slots (L' := [(1, _), (2, _), (4, _), (6, _), (7, _), (8, _)]) ⟨rfl, rfl, rfl, rfl, rfl, rfl, trivial⟩ ?_
  refine W.seq ?_
  refine W.region ?_
  refine T.q (q_move rfl rfl) (Wt.plain rfl) rfl rfl ?_
  refine T.eff (e_callB 0 enters38 rfl rfl rfl (fun w hm => adv_spec 0 0 k7 (List.replicate 32 0) k1 (by first | omega | (simp; done) | (simp; omega) | (simp at *; omega)) (by first | omega | (simp; done) | (simp; omega) | (simp at *; omega)) (by first | omega | (simp; done) | (simp; omega) | (simp at *; omega)) (by first | omega | (simp; done) | (simp; omega) | (simp at *; omega)) (hm.neG (i := 0) rfl hg0) (hm.neG (i := 0) rfl hg1) (hm.neG (i := 0) rfl hg2) w (hm.at 0 rfl) (R_ext hg0.ext w hm) (R_ext hg1.ext w hm) (R_ext hg2.ext w hm)) rfl rfl) (Wt.plain rfl) ?_
  rintro _ _ ⟨_, _, _, ⟨rfl, rfl, rfl⟩, rfl, rfl⟩
  change (_ : List Blk → Prop) [_, _]
  conv => rhs; rw [advE_lt (by omega), advK_lt (by omega), advL_lt (by omega)]
  refine T.q (q_assign rfl rfl) (Wt.plain rfl) rfl rfl ?_
  refine T.nil ?_
  refine Ex.next ?_
  refine W.slots (L' := [(1, _), (2, _), (4, _), (6, _), (7, _), (8, _), (9, _)]) ⟨rfl, rfl, rfl, rfl, rfl, rfl, rfl, trivial⟩ ?_
  refine W.seq ?_
  refine W.region ?_
  refine T.q (q_move rfl rfl) (Wt.plain rfl) rfl rfl ?_
  refine T.eff (e_callB 0 enters38 rfl rfl rfl (fun w hm => adv_spec (0 + 1) 0 (laterS k7) k7 k1 (by first | omega | (simp; done) | (simp; omega) | (simp at *; omega)) (by first | omega | (simp; done) | (simp; omega) | (simp at *; omega)) (by first | omega | (simp; done) | (simp; omega) | (simp at *; omega)) (by first | omega | (simp; done) | (simp; omega) | (simp at *; omega)) (hm.neG (i := 0) rfl hg0) (hm.neG (i := 0) rfl hg1) (hm.neG (i := 0) rfl hg2) w (hm.at 0 rfl) (R_ext hg0.ext w hm) (R_ext hg1.ext w hm) (R_ext hg2.ext w hm)) rfl rfl) (Wt.plain rfl) ?_
  rintro _ _ ⟨_, _, _, ⟨rfl, rfl, rfl⟩, rfl, rfl⟩
  change (_ : List Blk → Prop) [_, _]
  conv => rhs; rw [advE_lt (by omega), advK_lt (by omega), advL_lt (by omega)]
  refine T.q (q_assign rfl rfl) (Wt.plain rfl) rfl rfl ?_
  refine T.nil ?_
  refine Ex.next ?_
  refine W.slots (L' := [(1, _), (2, _), (4, _), (6, _), (7, _), (8, _), (9, _), (10, _)]) ⟨rfl, rfl, rfl, rfl, rfl, rfl, rfl, rfl, trivial⟩ ?_
  refine W.seq ?_
  refine W.region ?_
  refine T.q (q_move rfl rfl) (Wt.plain rfl) rfl rfl ?_
  refine T.eff (e_call enters40 rfl rfl (fun w hm => key_spec ((0 + 1) + 1) 0 (laterS (laterS k7)) (laterS k7) k1 (by first | omega | (simp; done) | (simp; omega) | (simp at *; omega)) (by first | omega | (simp; done) | (simp; omega) | (simp at *; omega)) (by first | omega | (simp; done) | (simp; omega) | (simp at *; omega)) (by first | omega | (simp; done) | (simp; omega) | (simp at *; omega)) (by first | omega | (simp; done) | (simp; omega) | (simp at *; omega)) 0 w ((R_blk 0 rfl) w hm) (R_ext hg0.ext w hm) (R_ext hg1.ext w hm) (R_ext hg2.ext w hm)) rfl rfl) (Wt.plain rfl) ?_
  rintro _ _ ⟨_, _, ⟨rfl, rfl⟩, rfl, rfl⟩
  change (_ : List Blk → Prop) [_, _]
  refine T.q (q_move rfl rfl) (Wt.plain rfl) rfl rfl ?_
  refine T.q (q_extract rfl rfl rfl) (Wt.plain rfl) rfl rfl ?_
  refine T.q (q_extract rfl rfl rfl) (Wt.plain rfl) rfl rfl ?_
  refine T.eff (e_alloc ze29 rfl rfl rfl) (Wt.plain rfl) ?_
  rintro _ _ ⟨k5, rfl, rfl⟩
  change (_ : List Blk → Prop) [_, _, _]
  refine T.eff (e_storeA (wide_ints wd29 (by first | omega | (simp; done) | (simp [-List.getD_eq_getElem?_getD]; omega) | (simp at *; omega) | rfl)) 2 rfl rfl rfl rfl (by first | omega | (simp; done) | (simp [-List.getD_eq_getElem?_getD]; omega) | (simp at *; omega) | rfl) ints_one rfl) (Wt.plain rfl) ?_
  rintro _ _ ⟨rfl, rfl⟩
  change (_ : List Blk → Prop) [_, _, _]
  refine T.q (q_assign rfl rfl) (Wt.plain rfl) rfl rfl ?_
  refine T.nil ?_
  refine Ex.next ?_
  refine W.less (L' := [(1, _), (2, _), (4, _), (6, _), (7, _), (8, _), (9, _), (10, _), (12, _)]) [true, true, false] ⟨rfl, rfl, rfl, rfl, rfl, rfl, rfl, rfl, rfl, trivial⟩ ?_
  change (_ : List Blk → Prop) [_, _]
  refine W.seq ?_
  refine W.region ?_
  refine T.q (q_move rfl rfl) (Wt.plain rfl) rfl rfl ?_
  refine T.eff (e_call enters40 rfl rfl (fun w hm => key_spec ((0 + 1) + 1) 0 (laterS (laterS k7)) (laterS k7) k1 (by first | omega | (simp; done) | (simp; omega) | (simp at *; omega)) (by first | omega | (simp; done) | (simp; omega) | (simp at *; omega)) (by first | omega | (simp; done) | (simp; omega) | (simp at *; omega)) (by first | omega | (simp; done) | (simp; omega) | (simp at *; omega)) (by first | omega | (simp; done) | (simp; omega) | (simp at *; omega)) 1 w ((R_blk 0 rfl) w hm) (R_ext hg0.ext w hm) (R_ext hg1.ext w hm) (R_ext hg2.ext w hm)) rfl rfl) (Wt.plain rfl) ?_
  rintro _ _ ⟨_, _, ⟨rfl, rfl⟩, rfl, rfl⟩
  change (_ : List Blk → Prop) [_, _]
  refine T.q (q_move rfl rfl) (Wt.plain rfl) rfl rfl ?_
  refine T.q (q_extract rfl rfl rfl) (Wt.plain rfl) rfl rfl ?_
  refine T.q (q_extract rfl rfl rfl) (Wt.plain rfl) rfl rfl ?_
  refine T.eff (e_alloc ze29 rfl rfl rfl) (Wt.plain rfl) ?_
  rintro _ _ ⟨k6, rfl, rfl⟩
  change (_ : List Blk → Prop) [_, _, _]
  refine T.eff (e_storeA (wide_ints wd29 (by first | omega | (simp; done) | (simp [-List.getD_eq_getElem?_getD]; omega) | (simp at *; omega) | rfl)) 2 rfl rfl rfl rfl (by first | omega | (simp; done) | (simp [-List.getD_eq_getElem?_getD]; omega) | (simp at *; omega) | rfl) ints_one rfl) (Wt.plain rfl) ?_
  rintro _ _ ⟨rfl, rfl⟩
  change (_ : List Blk → Prop) [_, _, _]
  refine T.q (q_assign rfl rfl) (Wt.plain rfl) rfl rfl ?_
  refine T.nil ?_
  refine Ex.next ?_
  refine W.slots (L' := [(1, _), (2, _), (4, _), (6, _), (7, _), (8, _), (9, _), (10, _), (12, _), (13, _), (14, _)]) ⟨rfl, rfl, rfl, rfl, rfl, rfl, rfl, rfl, rfl, rfl, rfl, trivial⟩ ?_
  refine W.seq ?_
  refine W.region ?_
  refine T.q (q_move rfl rfl) (Wt.plain rfl) rfl rfl ?_
  refine T.eff (e_call enters40 rfl rfl (fun w hm => key_spec ((0 + 1) + 1) 0 (laterS (laterS k7)) (laterS k7) k1 (by first | omega | (simp; done) | (simp; omega) | (simp at *; omega)) (by first | omega | (simp; done) | (simp; omega) | (simp at *; omega)) (by first | omega | (simp; done) | (simp; omega) | (simp at *; omega)) (by first | omega | (simp; done) | (simp; omega) | (simp at *; omega)) (by first | omega | (simp; done) | (simp; omega) | (simp at *; omega)) 2 w ((R_blk 0 rfl) w hm) (R_ext hg0.ext w hm) (R_ext hg1.ext w hm) (R_ext hg2.ext w hm)) rfl rfl) (Wt.plain rfl) ?_
  rintro _ _ ⟨_, _, ⟨rfl, rfl⟩, rfl, rfl⟩
  change (_ : List Blk → Prop) [_, _, _]
  refine T.q (q_move rfl rfl) (Wt.plain rfl) rfl rfl ?_
  refine T.q (q_extract rfl rfl rfl) (Wt.plain rfl) rfl rfl ?_
  refine T.q (q_extract rfl rfl rfl) (Wt.plain rfl) rfl rfl ?_
  refine T.eff (e_alloc ze29 rfl rfl rfl) (Wt.plain rfl) ?_
  rintro _ _ ⟨k7, rfl, rfl⟩
  change (_ : List Blk → Prop) [_, _, _, _]
  refine T.eff (e_storeA (wide_ints wd29 (by first | omega | (simp; done) | (simp [-List.getD_eq_getElem?_getD]; omega) | (simp at *; omega) | rfl)) 3 rfl rfl rfl rfl (by first | omega | (simp; done) | (simp [-List.getD_eq_getElem?_getD]; omega) | (simp at *; omega) | rfl) ints_one rfl) (Wt.plain rfl) ?_
  rintro _ _ ⟨rfl, rfl⟩
  change (_ : List Blk → Prop) [_, _, _, _]
  refine T.q (q_assign rfl rfl) (Wt.plain rfl) rfl rfl ?_
  refine T.nil ?_
  refine Ex.next ?_
  refine W.less (L' := [(2, _), (4, _), (6, _), (7, _), (8, _), (9, _), (10, _), (12, _), (13, _), (14, _), (15, _), (16, _)]) [false, true, true, true] ⟨rfl, rfl, rfl, rfl, rfl, rfl, rfl, rfl, rfl, rfl, rfl, rfl, trivial⟩ ?_
  change (_ : List Blk → Prop) [_, _, _]
  refine W.seq ?_
  refine W.region ?_
  refine T.q (q_move rfl rfl) (Wt.plain rfl) rfl rfl ?_
  refine T.q (q_bool (b := true) (q_eql rfl rfl rfl) (decide_eq_true rfl)) (Wt.plain rfl) rfl rfl ?_
  refine T.q (q_move rfl rfl) (Wt.plain rfl) rfl rfl ?_
  refine T.q (q_move rfl rfl) (Wt.yes rfl rfl rfl) rfl rfl ?_
  refine T.q (q_bool (b := true) (q_eql rfl rfl rfl) ?hE) (Wt.yes rfl rfl rfl) rfl rfl ?_
  case hE => rw [keyS_none _ _ _ _ _ (by omega)]; rfl
  refine T.q (q_pickT rfl rfl rfl) (Wt.plain rfl) rfl rfl ?_
  refine T.q (q_move rfl rfl) (Wt.plain rfl) rfl rfl ?_
  refine T.q (q_move rfl rfl) (Wt.yes rfl rfl rfl) rfl rfl ?_
  refine T.q (q_bool (b := true) (q_eql rfl rfl rfl) ?hE) (Wt.yes rfl rfl rfl) rfl rfl ?_
  case hE => rw [keyS_none _ _ _ _ _ (by omega)]; rfl
  refine T.q (q_pickT rfl rfl rfl) (Wt.plain rfl) rfl rfl ?_
  refine T.q (q_move rfl rfl) (Wt.plain rfl) rfl rfl ?_
  refine T.q (q_move rfl rfl) (Wt.yes rfl rfl rfl) rfl rfl ?_
  refine T.q (q_bool (b := true) (q_eql rfl rfl rfl) ?hE) (Wt.yes rfl rfl rfl) rfl rfl ?_
  case hE => rw [keyS_now _ _ _ _ (by omega)]; rfl
  refine T.q (q_pickT rfl rfl rfl) (Wt.plain rfl) rfl rfl ?_
  refine T.q (q_move rfl rfl) (Wt.plain rfl) rfl rfl ?_
  refine T.q (q_move rfl rfl) (Wt.yes rfl rfl rfl) rfl rfl ?_
  refine T.q (q_bool (b := true) (q_eql rfl rfl rfl) ?hE) (Wt.yes rfl rfl rfl) rfl rfl ?_
  case hE => rw [advR_lt (by omega)]; rfl
  refine T.q (q_pickT rfl rfl rfl) (Wt.plain rfl) rfl rfl ?_
  refine T.q (q_move rfl rfl) (Wt.plain rfl) rfl rfl ?_
  refine T.q (q_move rfl rfl) (Wt.yes rfl rfl rfl) rfl rfl ?_
  refine T.q (q_bool (b := true) (q_eql rfl rfl rfl) ?hE) (Wt.yes rfl rfl rfl) rfl rfl ?_
  case hE => rw [advR_lt (by omega)]; rfl
  refine T.q (q_pickT rfl rfl rfl) (Wt.plain rfl) rfl rfl ?_
  refine T.q (q_move rfl rfl) (Wt.plain rfl) rfl rfl ?_
  refine T.q (q_move rfl rfl) (Wt.yes rfl rfl rfl) rfl rfl ?_
  refine T.q (q_bool (b := true) (q_eql rfl rfl rfl) ?hE) (Wt.yes rfl rfl rfl) rfl rfl ?_
  case hE => rw [keyS_none _ _ _ _ _ (by omega)]; rfl
  refine T.q (q_pickT rfl rfl rfl) (Wt.plain rfl) rfl rfl ?_
  refine T.q (q_move rfl rfl) (Wt.plain rfl) rfl rfl ?_
  refine T.q (q_move rfl rfl) (Wt.yes rfl rfl rfl) rfl rfl ?_
  refine T.q (q_bool (b := true) (q_eql rfl rfl rfl) ?hE) (Wt.yes rfl rfl rfl) rfl rfl ?_
  case hE => rw [keyS_last _ _ _ _ _ (by omega) (by omega)]; rfl
  refine T.q (q_pickT rfl rfl rfl) (Wt.plain rfl) rfl rfl ?_
  refine T.q (q_move rfl rfl) (Wt.plain rfl) rfl rfl ?_
  refine T.q (q_move rfl rfl) (Wt.yes rfl rfl rfl) rfl rfl ?_
  refine T.q (q_bool (b := true) (q_eql rfl rfl rfl) ?hE) (Wt.yes rfl rfl rfl) rfl rfl ?_
  case hE => rw [show (2 : Int) = 0 + 1 + 1 from rfl, keyS_now _ _ _ _ (by omega)]; rfl
  refine T.q (q_pickT rfl rfl rfl) (Wt.plain rfl) rfl rfl ?_
  refine T.q (q_move rfl rfl) (Wt.plain rfl) rfl rfl ?_
  refine T.q (q_loadW (wide_ints wd29 (by first | omega | (simp; done) | (simp [-List.getD_eq_getElem?_getD]; omega) | (simp at *; omega) | rfl)) (R_blk 0 rfl) rfl rfl) (Wt.yes rfl rfl rfl) rfl rfl ?_
  refine T.q (q_loadW (wide_ints wd29 (by first | omega | (simp; done) | (simp [-List.getD_eq_getElem?_getD]; omega) | (simp at *; omega) | rfl)) (R_blk 1 rfl) rfl rfl) (Wt.yes rfl rfl rfl) rfl rfl ?_
  refine T.q (q_bool (b := true) (q_neqA ar29 ss5 un5 eg29 rfl rfl rfl (by first | omega | (simp; done) | (simp [-List.getD_eq_getElem?_getD]; omega) | (simp at *; omega) | rfl) (by first | omega | (simp; done) | (simp [-List.getD_eq_getElem?_getD]; omega) | (simp at *; omega) | rfl)) ?hE) (Wt.yes rfl rfl rfl) rfl rfl ?_
  case hE => rw [keyS_now _ _ _ _ (by omega), keyS_last _ _ _ _ _ (by omega) (by omega)]; exact k7a
  refine T.q (q_pickT rfl rfl rfl) (Wt.plain rfl) rfl rfl ?_
  refine T.q (q_move rfl rfl) (Wt.plain rfl) rfl rfl ?_
  refine T.q (q_loadW (wide_ints wd29 (by first | omega | (simp; done) | (simp [-List.getD_eq_getElem?_getD]; omega) | (simp at *; omega) | rfl)) (R_blk 1 rfl) rfl rfl) (Wt.yes rfl rfl rfl) rfl rfl ?_
  refine T.q (q_loadW (wide_ints wd29 (by first | omega | (simp; done) | (simp [-List.getD_eq_getElem?_getD]; omega) | (simp at *; omega) | rfl)) (R_blk 2 rfl) rfl rfl) (Wt.yes rfl rfl rfl) rfl rfl ?_
  refine T.q (q_bool (b := true) (q_neqA ar29 ss5 un5 eg29 rfl rfl rfl (by first | omega | (simp; done) | (simp [-List.getD_eq_getElem?_getD]; omega) | (simp at *; omega) | rfl) (by first | omega | (simp; done) | (simp [-List.getD_eq_getElem?_getD]; omega) | (simp at *; omega) | rfl)) ?hE) (Wt.yes rfl rfl rfl) rfl rfl ?_
  case hE => rw [keyS_last _ _ _ _ _ (by omega) (by omega), show (2 : Int) = 0 + 1 + 1 from rfl, keyS_now _ _ _ _ (by omega)]; exact k7b
  refine T.q (q_pickT rfl rfl rfl) (Wt.plain rfl) rfl rfl ?_
  refine T.q (q_assign rfl rfl) (Wt.plain rfl) rfl rfl ?_
  refine T.nil ?_
  refine Ex.next ?_
  refine W.less (L' := [(0, _)]) [false, false, false] ⟨rfl, trivial⟩ ?_
  change (_ : List Blk → Prop) []
  refine W.ret ?_
  refine Ex.out1 [] rfl rfl ?_
  exact ⟨rfl, rfl⟩
set_option maxRecDepth 100000 in
set_option maxHeartbeats 2000000 in
theorem stay_law (key : List Int) (hk : key.length = 32) (z : Int) (hz1 : -9223372036854775808 ≤ z) (hz2 : z ≤ 9223372036854775807) (w0 : World) (hg0 : Reads w0 (some ⟨0, 0, none⟩) (ints .u32 startW)) (hg1 : Reads w0 (some ⟨1, 0, none⟩) (ints .u8 sgm)) (hg2 : Reads w0 (some ⟨2, 0, none⟩) (ints .u8 tbl)) : Does Tryd.prog 15 #[.agg (ints .u8 key).toArray, .int .i64 z] w0 [] (fun v G => v = .bool true ∧ G = []) := by
  refine spec_of 118 Tryd.func15 rfl rfl rfl ?_
  refine W.seq ?_
  refine W.region ?_
  refine T.eff (e_box rfl rfl rfl rfl) (Wt.plain rfl) ?_
  rintro _ _ ⟨k1, rfl, rfl⟩
  change (_ : List Blk → Prop) [_]
  refine T.q (q_assign rfl rfl) (Wt.plain rfl) rfl rfl ?_
  refine T.nil ?_
  refine Ex.next ?_
  refine W.slots (L' := [(1, _), (2, _)]) ⟨rfl, rfl, trivial⟩ ?_
  refine W.seq ?_
  refine W.region ?_
  refine T.eff (e_call enters36 rfl rfl (fun w hm => shown15_spec w (R_ext hg0.ext w hm) (R_ext hg1.ext w hm) (R_ext hg2.ext w hm)) rfl rfl) (Wt.plain rfl) ?_
  rintro _ _ ⟨_, _, ⟨rfl, rfl⟩, rfl, rfl⟩
  change (_ : List Blk → Prop) [_]
  refine T.q (q_assign rfl rfl) (Wt.plain rfl) rfl rfl ?_
  refine T.nil ?_
  refine Ex.next ?_
  refine W.slots (L' := [(1, _), (2, _), (5, _)]) ⟨rfl, rfl, rfl, trivial⟩ ?_
  refine W.seq ?_
  refine W.region ?_
  refine T.q (q_loadW (wide_ints wd29 (by first | omega | (simp; done) | (simp [-List.getD_eq_getElem?_getD]; omega) | (simp at *; omega) | rfl)) (R_blk 0 rfl) rfl rfl) (Wt.plain rfl) rfl rfl ?_
  refine T.eff (e_call enters37 rfl rfl (fun w hm => new_spec key (by first | omega | (simp; done) | (simp; omega) | (simp at *; omega)) w) rfl rfl) (Wt.plain rfl) ?_
  rintro _ _ ⟨_, _, ⟨k2, rfl, rfl⟩, rfl, rfl⟩
  change (_ : List Blk → Prop) [_, _]
  refine T.q (q_assign rfl rfl) (Wt.plain rfl) rfl rfl ?_
  refine T.nil ?_
  refine Ex.next ?_
  refine W.less (L' := [(1, _), (5, _), (6, _)]) [false, true] ⟨rfl, rfl, rfl, trivial⟩ ?_
  change (_ : List Blk → Prop) [_]
  refine W.seq ?_
  refine W.seq ?_
  refine W.region ?_
  refine T.q (q_move rfl rfl) (Wt.plain rfl) rfl rfl ?_
  refine T.q (q_not rfl rfl) (Wt.plain rfl) rfl rfl ?_
  refine T.q (q_move rfl rfl) (Wt.plain rfl) rfl rfl ?_
  refine T.q (q_move rfl rfl) (Wt.yes rfl rfl rfl) rfl rfl ?_
  refine T.q (q_eqlPN pt43 rfl rfl rfl) (Wt.yes rfl rfl rfl) rfl rfl ?_
  refine T.q (q_pickF rfl rfl rfl) (Wt.plain rfl) rfl rfl ?_
  refine T.nil ?_
  refine Ex.next ?_
  refine W.slots (L' := [(1, _), (6, _), (27, _)]) ⟨rfl, rfl, rfl, trivial⟩ ?_
  refine W.condF rfl ?_
  refine W.skip ?_
  refine Ex.next ?_
  refine W.slots (L' := [(1, _), (6, _)]) ⟨rfl, rfl, trivial⟩ ?_
  refine W.meet (α := Int) (fun nn => [(1, .int .i64 nn), (6, .pointer (some ⟨k2, 0, none⟩))]) (fun nn => [⟨some k2, .int .i64 0 :: (.int .i64 0 :: (ints .u8 key ++ (ints .u8 (List.replicate 32 0)))), 76, (0, 0)⟩]) (fun nn => 0 ≤ nn ∧ nn ≤ 9223372036854775807) ?_ ?_
  ·
    refine W.seq ?_
    refine W.region ?_
    refine T.q (q_move rfl rfl) (Wt.plain rfl) rfl rfl ?_
    refine T.q (q_lss rfl rfl rfl) (Wt.plain rfl) rfl rfl ?_
    refine T.nil ?_
    refine Ex.next ?_
    refine W.slots (L' := [(1, _), (6, _), (29, _)]) ⟨rfl, rfl, rfl, trivial⟩ ?_
    refine W.cond _ rfl (fun hb3 => ?_) (fun hb3 => ?_)
    · replace hb3 := of_decide_eq_true hb3
      refine W.region ?_
      refine T.q (q_move rfl rfl) (Wt.plain rfl) rfl rfl ?_
      refine T.q (q_addi rfl rfl rfl (by omega) (by omega)) (Wt.plain rfl) rfl rfl ?_
      refine T.q (q_int (b := (-z - 1)) (q_neg rfl rfl) ?hE) (Wt.plain rfl) rfl rfl ?_
      case hE => rw [i64_wrap (by omega) (by omega)]; omega
      refine T.q (q_assign rfl rfl) (Wt.plain rfl) rfl rfl ?_
      refine T.nil ?_
      exact Ex.met [true] (-z - 1) (by first | omega | (dsimp only; omega)) ⟨rfl, rfl, trivial⟩ rfl
    · replace hb3 := of_decide_eq_false hb3
      refine W.skip ?_
      exact Ex.met [true] z (by first | omega | (dsimp only; omega)) ⟨rfl, rfl, trivial⟩ rfl
  ·
    rintro nn ⟨hn0, hn1⟩
    obtain ⟨r, hr1, hr2⟩ : ∃ r : Nat, nn % 20 = (r : Int) ∧ r < 20 := ⟨(nn % 20).toNat, by omega, by omega⟩
    refine W.seq ?_
    refine W.region ?_
    refine T.q (q_move rfl rfl) (Wt.plain rfl) rfl rfl ?_
    refine T.q (q_int (b := ((r : Nat) : Int)) (q_rem rfl rfl rfl (by omega) (by decide)) hr1) (Wt.plain rfl) rfl rfl ?_
    refine T.q (q_assign rfl rfl) (Wt.plain rfl) rfl rfl ?_
    refine T.nil ?_
    refine Ex.next ?_
    refine W.slots (L' := [(1, _), (6, _)]) ⟨rfl, rfl, trivial⟩ ?_
    refine W.seq ?_
    refine W.seq ?_
    refine W.region ?_
    refine T.q (q_assign rfl rfl) (Wt.plain rfl) rfl rfl ?_
    refine T.nil ?_
    refine Ex.next ?_
    refine W.slots (L' := [(1, _), (6, _), (7, _)]) ⟨rfl, rfl, rfl, trivial⟩ ?_
    refine W.block ?_
    refine W.loop (α := Nat × List Int) (fun x_ => [(1, .int .i64 ((r : Nat) : Int)), (6, .pointer (some ⟨k2, 0, none⟩)), (7, .int .i64 ((x_.1 : Nat) : Int))]) (fun x_ => [⟨some k2, .int .i64 ((x_.1 : Nat) : Int) :: (.int .i64 0 :: (ints .u8 (itS key x_.1) ++ (ints .u8 x_.2))), 76, (0, 0)⟩]) (fun x_ => x_.1 ≤ r ∧ x_.2.length = 32) (fun x_ => r - x_.1) [true] (⟨0, List.replicate 32 0⟩) ⟨by dsimp only; omega, by dsimp only; simp⟩ ⟨rfl, rfl, rfl, trivial⟩ rfl ?_
    rintro ⟨i, s1⟩ ⟨hi, hs1⟩
    conv => rhs; dsimp only
    conv => arg -2; dsimp only
    dsimp only at hi hs1
    have hit := itS_length hk i
    refine W.seq ?_
    refine W.seq ?_
    refine W.region ?_
    refine T.q (q_move rfl rfl) (Wt.plain rfl) rfl rfl ?_
    refine T.q (q_move rfl rfl) (Wt.plain rfl) rfl rfl ?_
    refine T.q (q_lss rfl rfl rfl) (Wt.plain rfl) rfl rfl ?_
    refine T.nil ?_
    refine Ex.next ?_
    refine W.slots (L' := [(1, _), (6, _), (7, _), (37, _)]) ⟨rfl, rfl, rfl, rfl, trivial⟩ ?_
    refine W.cond _ rfl (fun hb4 => ?_) (fun hb4 => ?_)
    · replace hb4 := of_decide_eq_true hb4
      refine W.skip ?_
      refine Ex.next ?_
      refine W.slots (L' := [(1, _), (6, _), (7, _)]) ⟨rfl, rfl, rfl, trivial⟩ ?_
      refine W.seq ?_
      refine W.block ?_
      refine W.seq ?_
      refine W.region ?_
      refine T.q (q_move rfl rfl) (Wt.plain rfl) rfl rfl ?_
      refine T.eff (e_callB 0 enters38 rfl rfl rfl (fun w hm => adv_spec ((i : Nat) : Int) 0 (itS key i) s1 k2 (by first | omega | (simp; done) | (simp; omega) | (simp at *; omega)) (by first | omega | (simp; done) | (simp; omega) | (simp at *; omega)) (by first | omega | (simp; done) | (simp; omega) | (simp at *; omega)) (by first | omega | (simp; done) | (simp; omega) | (simp at *; omega)) (hm.neG (i := 0) rfl hg0) (hm.neG (i := 0) rfl hg1) (hm.neG (i := 0) rfl hg2) w (hm.at 0 rfl) (R_ext hg0.ext w hm) (R_ext hg1.ext w hm) (R_ext hg2.ext w hm)) rfl rfl) (Wt.plain rfl) ?_
      rintro _ _ ⟨_, _, _, ⟨rfl, rfl, rfl⟩, rfl, rfl⟩
      change (_ : List Blk → Prop) [_]
      conv => rhs; rw [advE_lt (by omega), advK_lt (by omega), advL_lt (by omega)]
      refine T.q (q_bool (b := false) (q_neq rfl rfl rfl) ?hE) (Wt.plain rfl) rfl rfl ?_
      case hE => rw [advR_lt (by omega)]; rfl
      refine T.nil ?_
      refine Ex.next ?_
      refine W.slots (L' := [(1, _), (6, _), (7, _), (42, _)]) ⟨rfl, rfl, rfl, rfl, trivial⟩ ?_
      refine W.condF rfl ?_
      refine W.skip ?_
      refine Ex.in_normal ?_
      refine Ex.next ?_
      refine W.slots (L' := [(1, _), (6, _), (7, _)]) ⟨rfl, rfl, rfl, trivial⟩ ?_
      refine W.region ?_
      refine T.q (q_move rfl rfl) (Wt.plain rfl) rfl rfl ?_
      refine T.q (q_addi rfl rfl rfl (by omega) (by omega)) (Wt.plain rfl) rfl rfl ?_
      refine T.q (q_assign rfl rfl) (Wt.plain rfl) rfl rfl ?_
      refine T.nil ?_
      exact Ex.again [true] (⟨i + 1, itS key i⟩ : Nat × List Int) (by dsimp only; omega) ⟨by dsimp only; omega, by dsimp only; exact itS_length hk i⟩ ⟨rfl, rfl, rfl, trivial⟩ (by first | (dsimp only [pick]; done) | rfl)
    · replace hb4 := of_decide_eq_false hb4
      obtain rfl : r = i := by omega
      refine W.exit ?_
      refine Ex.then_exit ?_
      refine Ex.then_exit ?_
      refine Ex.in_here ?_
      refine Ex.next ?_
      refine W.slots (L' := [(1, _), (6, _)]) ⟨rfl, rfl, trivial⟩ ?_
      refine W.seq ?_
      refine W.region ?_
      refine T.q (q_move rfl rfl) (Wt.plain rfl) rfl rfl ?_
      refine T.eff (e_call enters39 rfl rfl (fun w hm => next_spec ((r : Nat) : Int) 0 (itS key r) s1 k2 (by first | omega | (simp; done) | (simp; omega) | (simp at *; omega)) (by first | omega | (simp; done) | (simp; omega) | (simp at *; omega)) (by first | omega | (simp; done) | (simp; omega) | (simp at *; omega)) (by first | omega | (simp; done) | (simp; omega) | (simp at *; omega)) w ((R_blk 0 rfl) w hm) (R_ext hg0.ext w hm) (R_ext hg1.ext w hm) (R_ext hg2.ext w hm)) rfl rfl) (Wt.plain rfl) ?_
      rintro _ _ ⟨_, _, ⟨rfl, rfl⟩, rfl, rfl⟩
      change (_ : List Blk → Prop) [_]
      refine T.q (q_move rfl rfl) (Wt.plain rfl) rfl rfl ?_
      refine T.q (q_extract rfl rfl rfl) (Wt.plain rfl) rfl rfl ?_
      refine T.q (q_extract rfl rfl rfl) (Wt.plain rfl) rfl rfl ?_
      refine T.eff (e_alloc ze29 rfl rfl rfl) (Wt.plain rfl) ?_
      rintro _ _ ⟨k5, rfl, rfl⟩
      change (_ : List Blk → Prop) [_, _]
      refine T.eff (e_storeA (wide_ints wd29 (by first | omega | (simp; done) | (simp [-List.getD_eq_getElem?_getD]; omega) | (simp at *; omega) | rfl)) 1 rfl rfl rfl rfl (by first | omega | (simp; done) | (simp [-List.getD_eq_getElem?_getD]; omega) | (simp at *; omega) | rfl) ints_one rfl) (Wt.plain rfl) ?_
      rintro _ _ ⟨rfl, rfl⟩
      change (_ : List Blk → Prop) [_, _]
      refine T.q (q_assign rfl rfl) (Wt.plain rfl) rfl rfl ?_
      refine T.nil ?_
      refine Ex.next ?_
      refine W.slots (L' := [(1, _), (6, _), (8, _), (9, _)]) ⟨rfl, rfl, rfl, rfl, trivial⟩ ?_
      refine W.seq ?_
      refine W.region ?_
      refine T.q (q_move rfl rfl) (Wt.plain rfl) rfl rfl ?_
      refine T.eff (e_callB 0 enters38 rfl rfl rfl (fun w hm => adv_spec ((r : Nat) : Int) 0 (itS key r) s1 k2 (by first | omega | (simp; done) | (simp; omega) | (simp at *; omega)) (by first | omega | (simp; done) | (simp; omega) | (simp at *; omega)) (by first | omega | (simp; done) | (simp; omega) | (simp at *; omega)) (by first | omega | (simp; done) | (simp; omega) | (simp at *; omega)) (hm.neG (i := 0) rfl hg0) (hm.neG (i := 0) rfl hg1) (hm.neG (i := 0) rfl hg2) w (hm.at 0 rfl) (R_ext hg0.ext w hm) (R_ext hg1.ext w hm) (R_ext hg2.ext w hm)) rfl rfl) (Wt.plain rfl) ?_
      rintro _ _ ⟨_, _, _, ⟨rfl, rfl, rfl⟩, rfl, rfl⟩
      change (_ : List Blk → Prop) [_, _]
      conv => rhs; rw [advE_lt (by omega), advK_lt (by omega), advL_lt (by omega)]
      refine T.q (q_assign rfl rfl) (Wt.plain rfl) rfl rfl ?_
      refine T.nil ?_
      refine Ex.next ?_
      refine W.slots (L' := [(1, _), (6, _), (8, _), (9, _), (10, _)]) ⟨rfl, rfl, rfl, rfl, rfl, trivial⟩ ?_
      refine W.seq ?_
      refine W.region ?_
      refine T.q (q_move rfl rfl) (Wt.plain rfl) rfl rfl ?_
      refine T.q (q_move rfl rfl) (Wt.plain rfl) rfl rfl ?_
      refine T.q (q_addi rfl rfl rfl (by omega) (by omega)) (Wt.plain rfl) rfl rfl ?_
      refine T.eff (e_call enters40 rfl rfl (fun w hm => key_spec (((r : Nat) : Int) + 1) 0 (laterS (itS key r)) (itS key r) k2 (by first | omega | (simp; done) | (simp; omega) | (simp at *; omega)) (by first | omega | (simp; done) | (simp; omega) | (simp at *; omega)) (by first | omega | (simp; done) | (simp; omega) | (simp at *; omega)) (by first | omega | (simp; done) | (simp; omega) | (simp at *; omega)) (by first | omega | (simp; done) | (simp; omega) | (simp at *; omega)) (((r : Nat) : Int) + 1) w ((R_blk 0 rfl) w hm) (R_ext hg0.ext w hm) (R_ext hg1.ext w hm) (R_ext hg2.ext w hm)) rfl rfl) (Wt.plain rfl) ?_
      rintro _ _ ⟨_, _, ⟨rfl, rfl⟩, rfl, rfl⟩
      change (_ : List Blk → Prop) [_, _]
      refine T.q (q_move rfl rfl) (Wt.plain rfl) rfl rfl ?_
      refine T.q (q_extract rfl rfl rfl) (Wt.plain rfl) rfl rfl ?_
      refine T.q (q_extract rfl rfl rfl) (Wt.plain rfl) rfl rfl ?_
      refine T.eff (e_alloc ze29 rfl rfl rfl) (Wt.plain rfl) ?_
      rintro _ _ ⟨k6, rfl, rfl⟩
      change (_ : List Blk → Prop) [_, _, _]
      refine T.eff (e_storeA (wide_ints wd29 (by first | omega | (simp; done) | (simp [-List.getD_eq_getElem?_getD]; omega) | (simp at *; omega) | rfl)) 2 rfl rfl rfl rfl (by first | omega | (simp; done) | (simp [-List.getD_eq_getElem?_getD]; omega) | (simp at *; omega) | rfl) ints_one rfl) (Wt.plain rfl) ?_
      rintro _ _ ⟨rfl, rfl⟩
      change (_ : List Blk → Prop) [_, _, _]
      refine T.q (q_assign rfl rfl) (Wt.plain rfl) rfl rfl ?_
      refine T.nil ?_
      refine Ex.next ?_
      refine W.slots (L' := [(1, _), (6, _), (8, _), (9, _), (10, _), (11, _), (12, _)]) ⟨rfl, rfl, rfl, rfl, rfl, rfl, rfl, trivial⟩ ?_
      refine W.seq ?_
      refine W.region ?_
      refine T.q (q_move rfl rfl) (Wt.plain rfl) rfl rfl ?_
      refine T.eff (e_callB 0 enters38 rfl rfl rfl (fun w hm => adv_spec (((r : Nat) : Int) + 1) 0 (laterS (itS key r)) (itS key r) k2 (by first | omega | (simp; done) | (simp; omega) | (simp at *; omega)) (by first | omega | (simp; done) | (simp; omega) | (simp at *; omega)) (by first | omega | (simp; done) | (simp; omega) | (simp at *; omega)) (by first | omega | (simp; done) | (simp; omega) | (simp at *; omega)) (hm.neG (i := 0) rfl hg0) (hm.neG (i := 0) rfl hg1) (hm.neG (i := 0) rfl hg2) w (hm.at 0 rfl) (R_ext hg0.ext w hm) (R_ext hg1.ext w hm) (R_ext hg2.ext w hm)) rfl rfl) (Wt.plain rfl) ?_
      rintro _ _ ⟨_, _, _, ⟨rfl, rfl, rfl⟩, rfl, rfl⟩
      change (_ : List Blk → Prop) [_, _, _]
      conv => rhs; rw [advE_lt (by omega), advK_lt (by omega), advL_lt (by omega)]
      refine T.q (q_assign rfl rfl) (Wt.plain rfl) rfl rfl ?_
      refine T.nil ?_
      refine Ex.next ?_
      refine W.slots (L' := [(1, _), (6, _), (8, _), (9, _), (10, _), (11, _), (12, _), (13, _)]) ⟨rfl, rfl, rfl, rfl, rfl, rfl, rfl, rfl, trivial⟩ ?_
      refine W.seq ?_
      refine W.region ?_
      refine T.q (q_move rfl rfl) (Wt.plain rfl) rfl rfl ?_
      refine T.q (q_move rfl rfl) (Wt.plain rfl) rfl rfl ?_
      refine T.q (q_addi rfl rfl rfl (by omega) (by omega)) (Wt.plain rfl) rfl rfl ?_
      refine T.eff (e_call enters40 rfl rfl (fun w hm => key_spec ((((r : Nat) : Int) + 1) + 1) 0 (laterS (laterS (itS key r))) (laterS (itS key r)) k2 (by first | omega | (simp; done) | (simp; omega) | (simp at *; omega)) (by first | omega | (simp; done) | (simp; omega) | (simp at *; omega)) (by first | omega | (simp; done) | (simp; omega) | (simp at *; omega)) (by first | omega | (simp; done) | (simp; omega) | (simp at *; omega)) (by first | omega | (simp; done) | (simp; omega) | (simp at *; omega)) (((r : Nat) : Int) + 1) w ((R_blk 0 rfl) w hm) (R_ext hg0.ext w hm) (R_ext hg1.ext w hm) (R_ext hg2.ext w hm)) rfl rfl) (Wt.plain rfl) ?_
      rintro _ _ ⟨_, _, ⟨rfl, rfl⟩, rfl, rfl⟩
      change (_ : List Blk → Prop) [_, _, _]
      refine T.q (q_move rfl rfl) (Wt.plain rfl) rfl rfl ?_
      refine T.q (q_extract rfl rfl rfl) (Wt.plain rfl) rfl rfl ?_
      refine T.q (q_extract rfl rfl rfl) (Wt.plain rfl) rfl rfl ?_
      refine T.eff (e_alloc ze29 rfl rfl rfl) (Wt.plain rfl) ?_
      rintro _ _ ⟨k7, rfl, rfl⟩
      change (_ : List Blk → Prop) [_, _, _, _]
      refine T.eff (e_storeA (wide_ints wd29 (by first | omega | (simp; done) | (simp [-List.getD_eq_getElem?_getD]; omega) | (simp at *; omega) | rfl)) 3 rfl rfl rfl rfl (by first | omega | (simp; done) | (simp [-List.getD_eq_getElem?_getD]; omega) | (simp at *; omega) | rfl) ints_one rfl) (Wt.plain rfl) ?_
      rintro _ _ ⟨rfl, rfl⟩
      change (_ : List Blk → Prop) [_, _, _, _]
      refine T.q (q_assign rfl rfl) (Wt.plain rfl) rfl rfl ?_
      refine T.nil ?_
      refine Ex.next ?_
      refine W.slots (L' := [(1, _), (6, _), (8, _), (9, _), (10, _), (11, _), (12, _), (13, _), (14, _), (15, _)]) ⟨rfl, rfl, rfl, rfl, rfl, rfl, rfl, rfl, rfl, rfl, trivial⟩ ?_
      refine W.seq ?_
      refine W.region ?_
      refine T.q (q_move rfl rfl) (Wt.plain rfl) rfl rfl ?_
      refine T.eff (e_callB 0 enters38 rfl rfl rfl (fun w hm => adv_spec ((((r : Nat) : Int) + 1) + 1) 0 (laterS (laterS (itS key r))) (laterS (itS key r)) k2 (by first | omega | (simp; done) | (simp; omega) | (simp at *; omega)) (by first | omega | (simp; done) | (simp; omega) | (simp at *; omega)) (by first | omega | (simp; done) | (simp; omega) | (simp at *; omega)) (by first | omega | (simp; done) | (simp; omega) | (simp at *; omega)) (hm.neG (i := 0) rfl hg0) (hm.neG (i := 0) rfl hg1) (hm.neG (i := 0) rfl hg2) w (hm.at 0 rfl) (R_ext hg0.ext w hm) (R_ext hg1.ext w hm) (R_ext hg2.ext w hm)) rfl rfl) (Wt.plain rfl) ?_
      rintro _ _ ⟨_, _, _, ⟨rfl, rfl, rfl⟩, rfl, rfl⟩
      change (_ : List Blk → Prop) [_, _, _, _]
      conv => rhs; rw [advE_lt (by omega), advK_lt (by omega), advL_lt (by omega)]
      refine T.q (q_assign rfl rfl) (Wt.plain rfl) rfl rfl ?_
      refine T.nil ?_
      refine Ex.next ?_
      refine W.slots (L' := [(1, _), (6, _), (8, _), (9, _), (10, _), (11, _), (12, _), (13, _), (14, _), (15, _), (16, _)]) ⟨rfl, rfl, rfl, rfl, rfl, rfl, rfl, rfl, rfl, rfl, rfl, trivial⟩ ?_
      refine W.seq ?_
      refine W.region ?_
      refine T.q (q_move rfl rfl) (Wt.plain rfl) rfl rfl ?_
      refine T.q (q_move rfl rfl) (Wt.plain rfl) rfl rfl ?_
      refine T.q (q_addi rfl rfl rfl (by omega) (by omega)) (Wt.plain rfl) rfl rfl ?_
      refine T.eff (e_call enters40 rfl rfl (fun w hm => key_spec (((((r : Nat) : Int) + 1) + 1) + 1) 0 (laterS (laterS (laterS (itS key r)))) (laterS (laterS (itS key r))) k2 (by first | omega | (simp; done) | (simp; omega) | (simp at *; omega)) (by first | omega | (simp; done) | (simp; omega) | (simp at *; omega)) (by first | omega | (simp; done) | (simp; omega) | (simp at *; omega)) (by first | omega | (simp; done) | (simp; omega) | (simp at *; omega)) (by first | omega | (simp; done) | (simp; omega) | (simp at *; omega)) (((r : Nat) : Int) + 1) w ((R_blk 0 rfl) w hm) (R_ext hg0.ext w hm) (R_ext hg1.ext w hm) (R_ext hg2.ext w hm)) rfl rfl) (Wt.plain rfl) ?_
      rintro _ _ ⟨_, _, ⟨rfl, rfl⟩, rfl, rfl⟩
      change (_ : List Blk → Prop) [_, _, _, _]
      refine T.q (q_move rfl rfl) (Wt.plain rfl) rfl rfl ?_
      refine T.q (q_extract rfl rfl rfl) (Wt.plain rfl) rfl rfl ?_
      refine T.q (q_extract rfl rfl rfl) (Wt.plain rfl) rfl rfl ?_
      refine T.eff (e_alloc ze29 rfl rfl rfl) (Wt.plain rfl) ?_
      rintro _ _ ⟨k8, rfl, rfl⟩
      change (_ : List Blk → Prop) [_, _, _, _, _]
      refine T.eff (e_storeA (wide_ints wd29 (by first | omega | (simp; done) | (simp [-List.getD_eq_getElem?_getD]; omega) | (simp at *; omega) | rfl)) 4 rfl rfl rfl rfl (by first | omega | (simp; done) | (simp [-List.getD_eq_getElem?_getD]; omega) | (simp at *; omega) | rfl) ints_one rfl) (Wt.plain rfl) ?_
      rintro _ _ ⟨rfl, rfl⟩
      change (_ : List Blk → Prop) [_, _, _, _, _]
      refine T.q (q_assign rfl rfl) (Wt.plain rfl) rfl rfl ?_
      refine T.nil ?_
      refine Ex.next ?_
      refine W.less (L' := [(1, _), (6, _), (8, _), (9, _), (10, _), (11, _), (12, _), (13, _), (14, _), (15, _), (16, _), (18, _)]) [true, true, true, true, false] ⟨rfl, rfl, rfl, rfl, rfl, rfl, rfl, rfl, rfl, rfl, rfl, rfl, trivial⟩ ?_
      change (_ : List Blk → Prop) [_, _, _, _]
      refine W.seq ?_
      refine W.region ?_
      refine T.q (q_move rfl rfl) (Wt.plain rfl) rfl rfl ?_
      refine T.q (q_bool (b := true) (q_eql rfl rfl rfl) ?hE) (Wt.plain rfl) rfl rfl ?_
      case hE => rw [nextS_lt (by omega)]; rfl
      refine T.q (q_move rfl rfl) (Wt.plain rfl) rfl rfl ?_
      refine T.q (q_move rfl rfl) (Wt.yes rfl rfl rfl) rfl rfl ?_
      refine T.q (q_bool (b := true) (q_eql rfl rfl rfl) ?hE) (Wt.yes rfl rfl rfl) rfl rfl ?_
      case hE => rw [advR_lt (by omega)]; rfl
      refine T.q (q_pickT rfl rfl rfl) (Wt.plain rfl) rfl rfl ?_
      refine T.q (q_move rfl rfl) (Wt.plain rfl) rfl rfl ?_
      refine T.q (q_move rfl rfl) (Wt.yes rfl rfl rfl) rfl rfl ?_
      refine T.q (q_bool (b := true) (q_eql rfl rfl rfl) ?hE) (Wt.yes rfl rfl rfl) rfl rfl ?_
      case hE => rw [keyS_now _ _ _ _ (by omega)]; rfl
      refine T.q (q_pickT rfl rfl rfl) (Wt.plain rfl) rfl rfl ?_
      refine T.q (q_move rfl rfl) (Wt.plain rfl) rfl rfl ?_
      refine T.q (q_loadW (wide_ints wd29 (by first | omega | (simp; done) | (simp [-List.getD_eq_getElem?_getD]; omega) | (simp at *; omega) | rfl)) (R_blk 1 rfl) rfl rfl) (Wt.yes rfl rfl rfl) rfl rfl ?_
      refine T.q (q_loadW (wide_ints wd29 (by first | omega | (simp; done) | (simp [-List.getD_eq_getElem?_getD]; omega) | (simp at *; omega) | rfl)) (R_blk 2 rfl) rfl rfl) (Wt.yes rfl rfl rfl) rfl rfl ?_
      refine T.q (q_bool (b := true) (q_eqlA ar29 ss5 un5 eg29 rfl rfl rfl (by first | omega | (simp; done) | (simp [-List.getD_eq_getElem?_getD]; omega) | (simp at *; omega) | rfl) (by first | omega | (simp; done) | (simp [-List.getD_eq_getElem?_getD]; omega) | (simp at *; omega) | rfl)) ?hE) (Wt.yes rfl rfl rfl) rfl rfl ?_
      case hE => rw [nextS_lt (by omega), keyS_now _ _ _ _ (by omega)]; exact decide_eq_true rfl
      refine T.q (q_pickT rfl rfl rfl) (Wt.plain rfl) rfl rfl ?_
      refine T.q (q_move rfl rfl) (Wt.plain rfl) rfl rfl ?_
      refine T.q (q_move rfl rfl) (Wt.yes rfl rfl rfl) rfl rfl ?_
      refine T.q (q_bool (b := true) (q_eql rfl rfl rfl) ?hE) (Wt.yes rfl rfl rfl) rfl rfl ?_
      case hE => rw [advR_lt (by omega)]; rfl
      refine T.q (q_pickT rfl rfl rfl) (Wt.plain rfl) rfl rfl ?_
      refine T.q (q_move rfl rfl) (Wt.plain rfl) rfl rfl ?_
      refine T.q (q_move rfl rfl) (Wt.yes rfl rfl rfl) rfl rfl ?_
      refine T.q (q_bool (b := true) (q_eql rfl rfl rfl) ?hE) (Wt.yes rfl rfl rfl) rfl rfl ?_
      case hE => rw [keyS_last _ _ _ _ _ (by omega) (by omega)]; rfl
      refine T.q (q_pickT rfl rfl rfl) (Wt.plain rfl) rfl rfl ?_
      refine T.q (q_move rfl rfl) (Wt.plain rfl) rfl rfl ?_
      refine T.q (q_loadW (wide_ints wd29 (by first | omega | (simp; done) | (simp [-List.getD_eq_getElem?_getD]; omega) | (simp at *; omega) | rfl)) (R_blk 1 rfl) rfl rfl) (Wt.yes rfl rfl rfl) rfl rfl ?_
      refine T.q (q_loadW (wide_ints wd29 (by first | omega | (simp; done) | (simp [-List.getD_eq_getElem?_getD]; omega) | (simp at *; omega) | rfl)) (R_blk 3 rfl) rfl rfl) (Wt.yes rfl rfl rfl) rfl rfl ?_
      refine T.q (q_bool (b := true) (q_eqlA ar29 ss5 un5 eg29 rfl rfl rfl (by first | omega | (simp; done) | (simp [-List.getD_eq_getElem?_getD]; omega) | (simp at *; omega) | rfl) (by first | omega | (simp; done) | (simp [-List.getD_eq_getElem?_getD]; omega) | (simp at *; omega) | rfl)) ?hE) (Wt.yes rfl rfl rfl) rfl rfl ?_
      case hE => rw [nextS_lt (by omega), keyS_last _ _ _ _ _ (by omega) (by omega)]; exact decide_eq_true rfl
      refine T.q (q_pickT rfl rfl rfl) (Wt.plain rfl) rfl rfl ?_
      refine T.q (q_move rfl rfl) (Wt.plain rfl) rfl rfl ?_
      refine T.q (q_move rfl rfl) (Wt.yes rfl rfl rfl) rfl rfl ?_
      refine T.q (q_bool (b := true) (q_eql rfl rfl rfl) ?hE) (Wt.yes rfl rfl rfl) rfl rfl ?_
      case hE => rw [advR_lt (by omega)]; rfl
      refine T.q (q_pickT rfl rfl rfl) (Wt.plain rfl) rfl rfl ?_
      refine T.q (q_move rfl rfl) (Wt.plain rfl) rfl rfl ?_
      refine T.q (q_move rfl rfl) (Wt.yes rfl rfl rfl) rfl rfl ?_
      refine T.q (q_bool (b := true) (q_eql rfl rfl rfl) ?hE) (Wt.yes rfl rfl rfl) rfl rfl ?_
      case hE => rw [keyS_none _ _ _ _ _ (by omega)]; rfl
      refine T.q (q_pickT rfl rfl rfl) (Wt.plain rfl) rfl rfl ?_
      refine T.q (q_move rfl rfl) (Wt.plain rfl) rfl rfl ?_
      refine T.q (q_move rfl rfl) (Wt.yes rfl rfl rfl) rfl rfl ?_
      refine T.eff (e_call enters41 rfl rfl (fun w hm => epoch_spec (((((r : Nat) : Int) + 1) + 1) + 1) 0 (laterS (laterS (laterS (itS key r)))) (laterS (laterS (itS key r))) k2 (by first | omega | (simp; done) | (simp; omega) | (simp at *; omega)) (by first | omega | (simp; done) | (simp; omega) | (simp at *; omega)) (by first | omega | (simp; done) | (simp; omega) | (simp at *; omega)) (by first | omega | (simp; done) | (simp; omega) | (simp at *; omega)) w ((R_blk 0 rfl) w hm)) rfl rfl) (Wt.yes rfl rfl rfl) ?_
      rintro _ _ ⟨_, _, ⟨rfl, rfl⟩, rfl, rfl⟩
      change (_ : List Blk → Prop) [_, _, _, _]
      refine T.q (q_move rfl rfl) (Wt.yes rfl rfl rfl) rfl rfl ?_
      refine T.q (q_addi rfl rfl rfl (by omega) (by omega)) (Wt.yes rfl rfl rfl) rfl rfl ?_
      refine T.q (q_bool (b := true) (q_eql rfl rfl rfl) (decide_eq_true (by omega))) (Wt.yes rfl rfl rfl) rfl rfl ?_
      refine T.q (q_pickT rfl rfl rfl) (Wt.plain rfl) rfl rfl ?_
      refine T.q (q_assign rfl rfl) (Wt.plain rfl) rfl rfl ?_
      refine T.nil ?_
      refine Ex.next ?_
      refine W.less (L' := [(4, _)]) [true, false, false, false] ⟨rfl, trivial⟩ ?_
      change (_ : List Blk → Prop) [_]
      refine W.ret ?_
      refine Ex.out1 [false] rfl rfl ?_
      exact ⟨rfl, rfl⟩
set_option maxRecDepth 100000 in
set_option maxHeartbeats 2000000 in
theorem end_law (key : List Int) (hk : key.length = 32) (z : Int) (u : Int) (hz1 : -9223372036854775808 ≤ u) (hz2 : u ≤ 9223372036854775807) (w0 : World) (hg0 : Reads w0 (some ⟨0, 0, none⟩) (ints .u32 startW)) (hg1 : Reads w0 (some ⟨1, 0, none⟩) (ints .u8 sgm)) (hg2 : Reads w0 (some ⟨2, 0, none⟩) (ints .u8 tbl)) : Does Tryd.prog 16 #[.agg (ints .u8 key).toArray, .int .i64 z, .int .i64 u] w0 [] (fun v G => v = .bool true ∧ G = []) := by
  have hez := eS_ok z
  refine spec_of 137 Tryd.func16 rfl rfl rfl ?_
  refine W.seq ?_
  refine W.region ?_
  refine T.eff (e_box rfl rfl rfl rfl) (Wt.plain rfl) ?_
  rintro _ _ ⟨k1, rfl, rfl⟩
  change (_ : List Blk → Prop) [_]
  refine T.q (q_assign rfl rfl) (Wt.plain rfl) rfl rfl ?_
  refine T.nil ?_
  refine Ex.next ?_
  refine W.slots (L' := [(1, _), (2, _), (3, _)]) ⟨rfl, rfl, rfl, trivial⟩ ?_
  refine W.seq ?_
  refine W.region ?_
  refine T.eff (e_call enters36 rfl rfl (fun w hm => shown15_spec w (R_ext hg0.ext w hm) (R_ext hg1.ext w hm) (R_ext hg2.ext w hm)) rfl rfl) (Wt.plain rfl) ?_
  rintro _ _ ⟨_, _, ⟨rfl, rfl⟩, rfl, rfl⟩
  change (_ : List Blk → Prop) [_]
  refine T.q (q_assign rfl rfl) (Wt.plain rfl) rfl rfl ?_
  refine T.nil ?_
  refine Ex.next ?_
  refine W.slots (L' := [(1, _), (2, _), (3, _), (7, _)]) ⟨rfl, rfl, rfl, rfl, trivial⟩ ?_
  refine W.seq ?_
  refine W.region ?_
  refine T.q (q_loadW (wide_ints wd29 (by first | omega | (simp; done) | (simp [-List.getD_eq_getElem?_getD]; omega) | (simp at *; omega) | rfl)) (R_blk 0 rfl) rfl rfl) (Wt.plain rfl) rfl rfl ?_
  refine T.q (q_move rfl rfl) (Wt.plain rfl) rfl rfl ?_
  refine T.eff (e_call enters42 rfl rfl (fun w hm => at_spec key (by first | omega | (simp; done) | (simp; omega) | (simp at *; omega)) z w) rfl rfl) (Wt.plain rfl) ?_
  rintro _ _ ⟨_, _, ⟨k2, rfl, rfl⟩, rfl, rfl⟩
  change (_ : List Blk → Prop) [_, _]
  refine T.q (q_assign rfl rfl) (Wt.plain rfl) rfl rfl ?_
  refine T.nil ?_
  refine Ex.next ?_
  refine W.slots (L' := [(1, _), (2, _), (3, _), (7, _), (8, _)]) ⟨rfl, rfl, rfl, rfl, rfl, trivial⟩ ?_
  refine W.seq ?_
  refine W.region ?_
  refine T.q (q_loadW (wide_ints wd29 (by first | omega | (simp; done) | (simp [-List.getD_eq_getElem?_getD]; omega) | (simp at *; omega) | rfl)) (R_blk 0 rfl) rfl rfl) (Wt.plain rfl) rfl rfl ?_
  refine T.q (q_move rfl rfl) (Wt.plain rfl) rfl rfl ?_
  refine T.eff (e_call enters43 rfl rfl (fun w hm => refat_spec key (by first | omega | (simp; done) | (simp; omega) | (simp at *; omega)) z w) rfl rfl) (Wt.plain rfl) ?_
  rintro _ _ ⟨_, _, ⟨k3, rfl, rfl⟩, rfl, rfl⟩
  change (_ : List Blk → Prop) [_, _, _]
  refine T.q (q_assign rfl rfl) (Wt.plain rfl) rfl rfl ?_
  refine T.nil ?_
  refine Ex.next ?_
  refine W.less (L' := [(2, _), (7, _), (8, _), (9, _)]) [false, true, true] ⟨rfl, rfl, rfl, rfl, trivial⟩ ?_
  change (_ : List Blk → Prop) [_, _]
  refine W.seq ?_
  refine W.seq ?_
  refine W.region ?_
  refine T.q (q_move rfl rfl) (Wt.plain rfl) rfl rfl ?_
  refine T.q (q_not rfl rfl) (Wt.plain rfl) rfl rfl ?_
  refine T.q (q_move rfl rfl) (Wt.plain rfl) rfl rfl ?_
  refine T.q (q_move rfl rfl) (Wt.yes rfl rfl rfl) rfl rfl ?_
  refine T.q (q_eqlPN pt43 rfl rfl rfl) (Wt.yes rfl rfl rfl) rfl rfl ?_
  refine T.q (q_pickF rfl rfl rfl) (Wt.plain rfl) rfl rfl ?_
  refine T.nil ?_
  refine Ex.next ?_
  refine W.slots (L' := [(2, _), (8, _), (9, _), (35, _)]) ⟨rfl, rfl, rfl, rfl, trivial⟩ ?_
  refine W.condF rfl ?_
  refine W.skip ?_
  refine Ex.next ?_
  refine W.slots (L' := [(2, _), (8, _), (9, _)]) ⟨rfl, rfl, rfl, trivial⟩ ?_
  refine W.meet (α := Int) (fun nn => [(2, .int .i64 nn), (8, .pointer (some ⟨k2, 0, none⟩)), (9, .pointer (some ⟨k3, 0, none⟩))]) (fun nn => [⟨some k2, .int .i64 (eS z) :: (.int .i64 (eS z) :: (ints .u8 key ++ (ints .u8 (List.replicate 32 0)))), 76, (0, 0)⟩, ⟨some k3, .int .i64 (eS z) :: (ints .u8 key ++ (ints .u8 (List.replicate 32 0) ++ [.bool false])), 55, (0, 0)⟩]) (fun nn => 0 ≤ nn ∧ nn ≤ 9223372036854775807) ?_ ?_
  ·
    refine W.seq ?_
    refine W.region ?_
    refine T.q (q_move rfl rfl) (Wt.plain rfl) rfl rfl ?_
    refine T.q (q_lss rfl rfl rfl) (Wt.plain rfl) rfl rfl ?_
    refine T.nil ?_
    refine Ex.next ?_
    refine W.slots (L' := [(2, _), (8, _), (9, _), (37, _)]) ⟨rfl, rfl, rfl, rfl, trivial⟩ ?_
    refine W.cond _ rfl (fun hb4 => ?_) (fun hb4 => ?_)
    · replace hb4 := of_decide_eq_true hb4
      refine W.region ?_
      refine T.q (q_move rfl rfl) (Wt.plain rfl) rfl rfl ?_
      refine T.q (q_addi rfl rfl rfl (by omega) (by omega)) (Wt.plain rfl) rfl rfl ?_
      refine T.q (q_int (b := (-u - 1)) (q_neg rfl rfl) ?hE) (Wt.plain rfl) rfl rfl ?_
      case hE => rw [i64_wrap (by omega) (by omega)]; omega
      refine T.q (q_assign rfl rfl) (Wt.plain rfl) rfl rfl ?_
      refine T.nil ?_
      exact Ex.met [true, true] (-u - 1) (by first | omega | (dsimp only; omega)) ⟨rfl, rfl, rfl, trivial⟩ rfl
    · replace hb4 := of_decide_eq_false hb4
      refine W.skip ?_
      exact Ex.met [true, true] u (by first | omega | (dsimp only; omega)) ⟨rfl, rfl, rfl, trivial⟩ rfl
  ·
    rintro nn ⟨hn0, hn1⟩
    refine W.seq ?_
    refine W.seq ?_
    refine W.region ?_
    refine T.q (q_assign rfl rfl) (Wt.plain rfl) rfl rfl ?_
    refine T.nil ?_
    refine Ex.next ?_
    refine W.slots (L' := [(2, _), (8, _), (9, _), (10, _)]) ⟨rfl, rfl, rfl, rfl, trivial⟩ ?_
    refine W.block ?_
    refine W.loop (α := Nat × Int × List Int × List Int) (fun x_ => [(2, .int .i64 nn), (8, .pointer (some ⟨k2, 0, none⟩)), (9, .pointer (some ⟨k3, 0, none⟩)), (10, .int .i64 ((x_.1 : Nat) : Int))]) (fun x_ => [⟨some k2, .int .i64 x_.2.1 :: (.int .i64 (eS z) :: (ints .u8 x_.2.2.1 ++ (ints .u8 x_.2.2.2))), 76, (0, 0)⟩, ⟨some k3, .int .i64 x_.2.1 :: (ints .u8 x_.2.2.1 ++ (ints .u8 x_.2.2.2 ++ [.bool (decide (eS z < x_.2.1))])), 55, (0, 0)⟩]) (fun x_ => x_.1 ≤ 6 ∧ eS z ≤ x_.2.1 ∧ x_.2.1 ≤ 65535 ∧ x_.2.2.1.length = 32 ∧ x_.2.2.2.length = 32) (fun x_ => 6 - x_.1) [true, true] (⟨0, eS z, key, List.replicate 32 0⟩) ⟨by dsimp only; omega, by dsimp only; omega, (eS_ok z).2, hk, by dsimp only; simp⟩ ⟨rfl, rfl, rfl, rfl, trivial⟩ (by dsimp only [pick]; rw [show decide (eS z < eS z) = false from decide_eq_false (by omega)]) ?_
    rintro ⟨i, E, s0, s1⟩ ⟨hi, hE0, hE1, hs0, hs1⟩
    conv => rhs; dsimp only
    conv => arg -2; dsimp only
    dsimp only at hi hE0 hE1 hs0 hs1
    have hez := eS_ok z
    refine W.seq ?_
    refine W.seq ?_
    refine W.region ?_
    refine T.q (q_move rfl rfl) (Wt.plain rfl) rfl rfl ?_
    refine T.q (q_move rfl rfl) (Wt.plain rfl) rfl rfl ?_
    refine T.q (q_rem rfl rfl rfl (by omega) (by decide)) (Wt.plain rfl) rfl rfl ?_
    refine T.q (q_leq rfl rfl rfl) (Wt.plain rfl) rfl rfl ?_
    refine T.nil ?_
    refine Ex.next ?_
    refine W.slots (L' := [(2, _), (8, _), (9, _), (10, _), (44, _)]) ⟨rfl, rfl, rfl, rfl, rfl, trivial⟩ ?_
    refine W.cond _ rfl (fun hb5 => ?_) (fun hb5 => ?_)
    · replace hb5 := of_decide_eq_true hb5
      refine W.skip ?_
      refine Ex.next ?_
      refine W.slots (L' := [(2, _), (8, _), (9, _), (10, _)]) ⟨rfl, rfl, rfl, rfl, trivial⟩ ?_
      refine W.seq ?_
      refine W.block ?_
      refine W.seq ?_
      refine W.region ?_
      refine T.q (q_move rfl rfl) (Wt.plain rfl) rfl rfl ?_
      refine T.q (q_move rfl rfl) (Wt.plain rfl) rfl rfl ?_
      refine T.q (q_nil rfl rfl) (Wt.plain rfl) rfl rfl ?_
      refine T.q (q_fld fl55_0 rfl rfl) (Wt.plain rfl) rfl rfl ?_
      refine T.q (q_load1 ss3 1 rfl rfl rfl (rfl)) (Wt.plain rfl) rfl rfl ?_
      refine T.eff (e_call enters40 rfl rfl (fun w hm => key_spec E (eS z) s0 s1 k2 (by first | omega | (simp; done) | (simp; omega) | (simp at *; omega)) (by first | omega | (simp; done) | (simp; omega) | (simp at *; omega)) (by first | omega | (simp; done) | (simp; omega) | (simp at *; omega)) (by first | omega | (simp; done) | (simp; omega) | (simp at *; omega)) (by first | omega | (simp; done) | (simp; omega) | (simp at *; omega)) E w ((R_blk 0 rfl) w hm) (R_ext hg0.ext w hm) (R_ext hg1.ext w hm) (R_ext hg2.ext w hm)) rfl rfl) (Wt.plain rfl) ?_
      rintro _ _ ⟨_, _, ⟨rfl, rfl⟩, rfl, rfl⟩
      change (_ : List Blk → Prop) [_, _]
      refine T.q (q_move rfl rfl) (Wt.plain rfl) rfl rfl ?_
      refine T.q (q_extract rfl rfl rfl) (Wt.plain rfl) rfl rfl ?_
      refine T.q (q_extract rfl rfl rfl) (Wt.plain rfl) rfl rfl ?_
      refine T.eff (e_alloc ze29 rfl rfl rfl) (Wt.plain rfl) ?_
      rintro _ _ ⟨k6, rfl, rfl⟩
      change (_ : List Blk → Prop) [_, _, _]
      refine T.eff (e_storeA (wide_ints wd29 (by first | omega | (simp; done) | (simp [-List.getD_eq_getElem?_getD]; omega) | (simp at *; omega) | rfl)) 2 rfl rfl rfl rfl (by first | omega | (simp; done) | (simp [-List.getD_eq_getElem?_getD]; omega) | (simp at *; omega) | rfl) ints_one rfl) (Wt.plain rfl) ?_
      rintro _ _ ⟨rfl, rfl⟩
      change (_ : List Blk → Prop) [_, _, _]
      refine T.q (q_assign rfl rfl) (Wt.plain rfl) rfl rfl ?_
      refine T.nil ?_
      refine Ex.next ?_
      refine W.slots (L' := [(2, _), (8, _), (9, _), (10, _), (11, _), (12, _)]) ⟨rfl, rfl, rfl, rfl, rfl, rfl, trivial⟩ ?_
      refine W.seq ?_
      refine W.region ?_
      refine T.q (q_move rfl rfl) (Wt.plain rfl) rfl rfl ?_
      refine T.q (q_move rfl rfl) (Wt.plain rfl) rfl rfl ?_
      refine T.q (q_nil rfl rfl) (Wt.plain rfl) rfl rfl ?_
      refine T.q (q_fld fl55_0 rfl rfl) (Wt.plain rfl) rfl rfl ?_
      refine T.q (q_load1 ss3 1 rfl rfl rfl (rfl)) (Wt.plain rfl) rfl rfl ?_
      refine T.eff (e_call enters44 rfl rfl (fun w hm => refkey_spec E s0 s1 (decide (eS z < E)) k3 (by first | omega | (simp; done) | (simp; omega) | (simp at *; omega)) (by first | omega | (simp; done) | (simp; omega) | (simp at *; omega)) (by first | omega | (simp; done) | (simp; omega) | (simp at *; omega)) (by first | omega | (simp; done) | (simp; omega) | (simp at *; omega)) E w ((R_blk 1 rfl) w hm)) rfl rfl) (Wt.plain rfl) ?_
      rintro _ _ ⟨_, _, ⟨rfl, rfl⟩, rfl, rfl⟩
      change (_ : List Blk → Prop) [_, _, _]
      refine T.q (q_move rfl rfl) (Wt.plain rfl) rfl rfl ?_
      refine T.q (q_extract rfl rfl rfl) (Wt.plain rfl) rfl rfl ?_
      refine T.q (q_extract rfl rfl rfl) (Wt.plain rfl) rfl rfl ?_
      refine T.eff (e_alloc ze29 rfl rfl rfl) (Wt.plain rfl) ?_
      rintro _ _ ⟨k7, rfl, rfl⟩
      change (_ : List Blk → Prop) [_, _, _, _]
      refine T.eff (e_storeA (wide_ints wd29 (by first | omega | (simp; done) | (simp [-List.getD_eq_getElem?_getD]; omega) | (simp at *; omega) | rfl)) 3 rfl rfl rfl rfl (by first | omega | (simp; done) | (simp [-List.getD_eq_getElem?_getD]; omega) | (simp at *; omega) | rfl) ints_one rfl) (Wt.plain rfl) ?_
      rintro _ _ ⟨rfl, rfl⟩
      change (_ : List Blk → Prop) [_, _, _, _]
      refine T.q (q_assign rfl rfl) (Wt.plain rfl) rfl rfl ?_
      refine T.nil ?_
      refine Ex.next ?_
      refine W.slots (L' := [(2, _), (8, _), (9, _), (10, _), (11, _), (12, _), (13, _), (14, _)]) ⟨rfl, rfl, rfl, rfl, rfl, rfl, rfl, rfl, trivial⟩ ?_
      refine W.seq ?_
      refine W.region ?_
      refine T.q (q_move rfl rfl) (Wt.plain rfl) rfl rfl ?_
      refine T.q (q_move rfl rfl) (Wt.plain rfl) rfl rfl ?_
      refine T.q (q_nil rfl rfl) (Wt.plain rfl) rfl rfl ?_
      refine T.q (q_fld fl55_0 rfl rfl) (Wt.plain rfl) rfl rfl ?_
      refine T.q (q_load1 ss3 1 rfl rfl rfl (rfl)) (Wt.plain rfl) rfl rfl ?_
      refine T.q (q_subi rfl rfl rfl (by omega) (by omega)) (Wt.plain rfl) rfl rfl ?_
      refine T.eff (e_call enters40 rfl rfl (fun w hm => key_spec E (eS z) s0 s1 k2 (by first | omega | (simp; done) | (simp; omega) | (simp at *; omega)) (by first | omega | (simp; done) | (simp; omega) | (simp at *; omega)) (by first | omega | (simp; done) | (simp; omega) | (simp at *; omega)) (by first | omega | (simp; done) | (simp; omega) | (simp at *; omega)) (by first | omega | (simp; done) | (simp; omega) | (simp at *; omega)) (E - 1) w ((R_blk 0 rfl) w hm) (R_ext hg0.ext w hm) (R_ext hg1.ext w hm) (R_ext hg2.ext w hm)) rfl rfl) (Wt.plain rfl) ?_
      rintro _ _ ⟨_, _, ⟨rfl, rfl⟩, rfl, rfl⟩
      change (_ : List Blk → Prop) [_, _, _, _]
      refine T.q (q_move rfl rfl) (Wt.plain rfl) rfl rfl ?_
      refine T.q (q_extract rfl rfl rfl) (Wt.plain rfl) rfl rfl ?_
      refine T.q (q_extract rfl rfl rfl) (Wt.plain rfl) rfl rfl ?_
      refine T.eff (e_alloc ze29 rfl rfl rfl) (Wt.plain rfl) ?_
      rintro _ _ ⟨k8, rfl, rfl⟩
      change (_ : List Blk → Prop) [_, _, _, _, _]
      refine T.eff (e_storeA (wide_ints wd29 (by first | omega | (simp; done) | (simp [-List.getD_eq_getElem?_getD]; omega) | (simp at *; omega) | rfl)) 4 rfl rfl rfl rfl (by first | omega | (simp; done) | (simp [-List.getD_eq_getElem?_getD]; omega) | (simp at *; omega) | rfl) ints_one rfl) (Wt.plain rfl) ?_
      rintro _ _ ⟨rfl, rfl⟩
      change (_ : List Blk → Prop) [_, _, _, _, _]
      refine T.q (q_assign rfl rfl) (Wt.plain rfl) rfl rfl ?_
      refine T.nil ?_
      refine Ex.next ?_
      refine W.slots (L' := [(2, _), (8, _), (9, _), (10, _), (11, _), (12, _), (13, _), (14, _), (15, _), (16, _)]) ⟨rfl, rfl, rfl, rfl, rfl, rfl, rfl, rfl, rfl, rfl, trivial⟩ ?_
      refine W.seq ?_
      refine W.region ?_
      refine T.q (q_move rfl rfl) (Wt.plain rfl) rfl rfl ?_
      refine T.q (q_move rfl rfl) (Wt.plain rfl) rfl rfl ?_
      refine T.q (q_nil rfl rfl) (Wt.plain rfl) rfl rfl ?_
      refine T.q (q_fld fl55_0 rfl rfl) (Wt.plain rfl) rfl rfl ?_
      refine T.q (q_load1 ss3 1 rfl rfl rfl (rfl)) (Wt.plain rfl) rfl rfl ?_
      refine T.q (q_subi rfl rfl rfl (by omega) (by omega)) (Wt.plain rfl) rfl rfl ?_
      refine T.eff (e_call enters44 rfl rfl (fun w hm => refkey_spec E s0 s1 (decide (eS z < E)) k3 (by first | omega | (simp; done) | (simp; omega) | (simp at *; omega)) (by first | omega | (simp; done) | (simp; omega) | (simp at *; omega)) (by first | omega | (simp; done) | (simp; omega) | (simp at *; omega)) (by first | omega | (simp; done) | (simp; omega) | (simp at *; omega)) (E - 1) w ((R_blk 1 rfl) w hm)) rfl rfl) (Wt.plain rfl) ?_
      rintro _ _ ⟨_, _, ⟨rfl, rfl⟩, rfl, rfl⟩
      change (_ : List Blk → Prop) [_, _, _, _, _]
      refine T.q (q_move rfl rfl) (Wt.plain rfl) rfl rfl ?_
      refine T.q (q_extract rfl rfl rfl) (Wt.plain rfl) rfl rfl ?_
      refine T.q (q_extract rfl rfl rfl) (Wt.plain rfl) rfl rfl ?_
      refine T.eff (e_alloc ze29 rfl rfl rfl) (Wt.plain rfl) ?_
      rintro _ _ ⟨k9, rfl, rfl⟩
      change (_ : List Blk → Prop) [_, _, _, _, _, _]
      refine T.eff (e_storeA (wide_ints wd29 (by first | omega | (simp; done) | (simp [-List.getD_eq_getElem?_getD]; omega) | (simp at *; omega) | rfl)) 5 rfl rfl rfl rfl (by first | omega | (simp; done) | (simp [-List.getD_eq_getElem?_getD]; omega) | (simp at *; omega) | rfl) ints_one rfl) (Wt.plain rfl) ?_
      rintro _ _ ⟨rfl, rfl⟩
      change (_ : List Blk → Prop) [_, _, _, _, _, _]
      refine T.q (q_assign rfl rfl) (Wt.plain rfl) rfl rfl ?_
      refine T.nil ?_
      refine Ex.next ?_
      refine W.slots (L' := [(2, _), (8, _), (9, _), (10, _), (11, _), (12, _), (13, _), (14, _), (15, _), (16, _), (17, _), (18, _)]) ⟨rfl, rfl, rfl, rfl, rfl, rfl, rfl, rfl, rfl, rfl, rfl, rfl, trivial⟩ ?_
      refine W.seq ?_
      refine W.region ?_
      refine T.q (q_move rfl rfl) (Wt.plain rfl) rfl rfl ?_
      refine T.eff (e_call enters39 rfl rfl (fun w hm => next_spec E (eS z) s0 s1 k2 (by first | omega | (simp; done) | (simp; omega) | (simp at *; omega)) (by first | omega | (simp; done) | (simp; omega) | (simp at *; omega)) (by first | omega | (simp; done) | (simp; omega) | (simp at *; omega)) (by first | omega | (simp; done) | (simp; omega) | (simp at *; omega)) w ((R_blk 0 rfl) w hm) (R_ext hg0.ext w hm) (R_ext hg1.ext w hm) (R_ext hg2.ext w hm)) rfl rfl) (Wt.plain rfl) ?_
      rintro _ _ ⟨_, _, ⟨rfl, rfl⟩, rfl, rfl⟩
      change (_ : List Blk → Prop) [_, _, _, _, _, _]
      refine T.q (q_move rfl rfl) (Wt.plain rfl) rfl rfl ?_
      refine T.q (q_extract rfl rfl rfl) (Wt.plain rfl) rfl rfl ?_
      refine T.q (q_extract rfl rfl rfl) (Wt.plain rfl) rfl rfl ?_
      refine T.eff (e_alloc ze29 rfl rfl rfl) (Wt.plain rfl) ?_
      rintro _ _ ⟨k10, rfl, rfl⟩
      change (_ : List Blk → Prop) [_, _, _, _, _, _, _]
      refine T.eff (e_storeA (wide_ints wd29 (by first | omega | (simp; done) | (simp [-List.getD_eq_getElem?_getD]; omega) | (simp at *; omega) | rfl)) 6 rfl rfl rfl rfl (by first | omega | (simp; done) | (simp [-List.getD_eq_getElem?_getD]; omega) | (simp at *; omega) | rfl) ints_one rfl) (Wt.plain rfl) ?_
      rintro _ _ ⟨rfl, rfl⟩
      change (_ : List Blk → Prop) [_, _, _, _, _, _, _]
      refine T.q (q_assign rfl rfl) (Wt.plain rfl) rfl rfl ?_
      refine T.nil ?_
      refine Ex.next ?_
      refine W.slots (L' := [(2, _), (8, _), (9, _), (10, _), (11, _), (12, _), (13, _), (14, _), (15, _), (16, _), (17, _), (18, _), (19, _), (20, _)]) ⟨rfl, rfl, rfl, rfl, rfl, rfl, rfl, rfl, rfl, rfl, rfl, rfl, rfl, rfl, trivial⟩ ?_
      refine W.seq ?_
      refine W.region ?_
      refine T.q (q_move rfl rfl) (Wt.plain rfl) rfl rfl ?_
      refine T.eff (e_call enters45 rfl rfl (fun w hm => refnext_spec E s0 s1 (decide (eS z < E)) k3 (by first | omega | (simp; done) | (simp; omega) | (simp at *; omega)) (by first | omega | (simp; done) | (simp; omega) | (simp at *; omega)) (by first | omega | (simp; done) | (simp; omega) | (simp at *; omega)) (by first | omega | (simp; done) | (simp; omega) | (simp at *; omega)) w ((R_blk 1 rfl) w hm)) rfl rfl) (Wt.plain rfl) ?_
      rintro _ _ ⟨_, _, ⟨rfl, rfl⟩, rfl, rfl⟩
      change (_ : List Blk → Prop) [_, _, _, _, _, _, _]
      refine T.q (q_move rfl rfl) (Wt.plain rfl) rfl rfl ?_
      refine T.q (q_extract rfl rfl rfl) (Wt.plain rfl) rfl rfl ?_
      refine T.q (q_extract rfl rfl rfl) (Wt.plain rfl) rfl rfl ?_
      refine T.eff (e_alloc ze29 rfl rfl rfl) (Wt.plain rfl) ?_
      rintro _ _ ⟨k11, rfl, rfl⟩
      change (_ : List Blk → Prop) [_, _, _, _, _, _, _, _]
      refine T.eff (e_storeA (wide_ints wd29 (by first | omega | (simp; done) | (simp [-List.getD_eq_getElem?_getD]; omega) | (simp at *; omega) | rfl)) 7 rfl rfl rfl rfl (by first | omega | (simp; done) | (simp [-List.getD_eq_getElem?_getD]; omega) | (simp at *; omega) | rfl) ints_one rfl) (Wt.plain rfl) ?_
      rintro _ _ ⟨rfl, rfl⟩
      change (_ : List Blk → Prop) [_, _, _, _, _, _, _, _]
      refine T.q (q_assign rfl rfl) (Wt.plain rfl) rfl rfl ?_
      refine T.nil ?_
      refine Ex.next ?_
      refine W.slots (L' := [(2, _), (8, _), (9, _), (10, _), (11, _), (12, _), (13, _), (14, _), (15, _), (16, _), (17, _), (18, _), (19, _), (20, _), (21, _), (22, _)]) ⟨rfl, rfl, rfl, rfl, rfl, rfl, rfl, rfl, rfl, rfl, rfl, rfl, rfl, rfl, rfl, rfl, trivial⟩ ?_
      refine W.seq ?_
      refine W.seq ?_
      refine W.draw 37 (by kernel_rfl) ?_
      refine D.take 0 rfl (by kernel_rfl) (fun _ h => h) (q_loadW (wide_ints wd29 (by first | omega | (simp; done) | (simp [-List.getD_eq_getElem?_getD]; omega) | (simp at *; omega) | rfl)) (R_blk 2 rfl) rfl rfl) (Wt.plain rfl) rfl rfl ?_
      refine D.take 1 rfl (by kernel_rfl) (fun _ h => h) (q_loadW (wide_ints wd29 (by first | omega | (simp; done) | (simp [-List.getD_eq_getElem?_getD]; omega) | (simp at *; omega) | rfl)) (R_blk 3 rfl) rfl rfl) (Wt.plain rfl) rfl rfl ?_
      refine D.take 2 rfl (by kernel_rfl) (fun _ h => h) (q_bool (b := false) (q_neqA ar29 ss5 un5 eg29 rfl rfl rfl (by first | omega | (simp; done) | (simp [-List.getD_eq_getElem?_getD]; omega) | (simp at *; omega) | rfl) (by first | omega | (simp; done) | (simp [-List.getD_eq_getElem?_getD]; omega) | (simp at *; omega) | rfl)) ?hE) (Wt.plain rfl) rfl rfl ?_
      case hE => rw [keyS_ref (by omega)]; simp
      refine D.take 3 rfl (by kernel_rfl) (fun _ h => h) (q_move rfl rfl) (Wt.plain rfl) rfl rfl ?_
      refine D.take 4 rfl (by kernel_rfl) (fun _ h => h) (q_move rfl rfl) (Wt.yes rfl rfl rfl) rfl rfl ?_
      refine D.take 5 rfl (by kernel_rfl) (fun _ h => h) (q_move rfl rfl) (Wt.yes rfl rfl rfl) rfl rfl ?_
      refine D.take 6 rfl (by kernel_rfl) (fun _ h => h) (q_bool (b := false) (q_neq rfl rfl rfl) ?hE) (Wt.yes rfl rfl rfl) rfl rfl ?_
      case hE => rw [keyS_ref (by omega)]; simp
      refine D.take 7 rfl (by kernel_rfl) (fun _ h => h) (q_pickF rfl rfl rfl) (Wt.plain rfl) rfl rfl ?_
      refine D.take 8 rfl (by kernel_rfl) (fun _ h => h) (q_move rfl rfl) (Wt.plain rfl) rfl rfl ?_
      refine D.take 9 rfl (by kernel_rfl) (fun _ h => h) (q_loadW (wide_ints wd29 (by first | omega | (simp; done) | (simp [-List.getD_eq_getElem?_getD]; omega) | (simp at *; omega) | rfl)) (R_blk 4 rfl) rfl rfl) (Wt.yes rfl rfl rfl) rfl rfl ?_
      refine D.take 10 rfl (by kernel_rfl) (fun _ h => h) (q_loadW (wide_ints wd29 (by first | omega | (simp; done) | (simp [-List.getD_eq_getElem?_getD]; omega) | (simp at *; omega) | rfl)) (R_blk 5 rfl) rfl rfl) (Wt.yes rfl rfl rfl) rfl rfl ?_
      refine D.take 11 rfl (by kernel_rfl) (fun _ h => h) (q_bool (b := false) (q_neqA ar29 ss5 un5 eg29 rfl rfl rfl (by first | omega | (simp; done) | (simp [-List.getD_eq_getElem?_getD]; omega) | (simp at *; omega) | rfl) (by first | omega | (simp; done) | (simp [-List.getD_eq_getElem?_getD]; omega) | (simp at *; omega) | rfl)) ?hE) (Wt.yes rfl rfl rfl) rfl rfl ?_
      case hE => rw [keyS_ref (by omega)]; simp
      refine D.take 12 rfl (by kernel_rfl) (fun _ h => h) (q_pickF rfl rfl rfl) (Wt.plain rfl) rfl rfl ?_
      refine D.take 13 rfl (by kernel_rfl) (fun _ h => h) (q_move rfl rfl) (Wt.plain rfl) rfl rfl ?_
      refine D.take 14 rfl (by kernel_rfl) (fun _ h => h) (q_move rfl rfl) (Wt.yes rfl rfl rfl) rfl rfl ?_
      refine D.take 15 rfl (by kernel_rfl) (fun _ h => h) (q_move rfl rfl) (Wt.yes rfl rfl rfl) rfl rfl ?_
      refine D.take 16 rfl (by kernel_rfl) (fun _ h => h) (q_bool (b := false) (q_neq rfl rfl rfl) ?hE) (Wt.yes rfl rfl rfl) rfl rfl ?_
      case hE => rw [keyS_ref (by omega)]; simp
      refine D.take 17 rfl (by kernel_rfl) (fun _ h => h) (q_pickF rfl rfl rfl) (Wt.plain rfl) rfl rfl ?_
      refine D.take 18 rfl (by kernel_rfl) (fun _ h => h) (q_move rfl rfl) (Wt.plain rfl) rfl rfl ?_
      refine D.take 19 rfl (by kernel_rfl) (fun _ h => h) (q_loadW (wide_ints wd29 (by first | omega | (simp; done) | (simp [-List.getD_eq_getElem?_getD]; omega) | (simp at *; omega) | rfl)) (R_blk 6 rfl) rfl rfl) (Wt.yes rfl rfl rfl) rfl rfl ?_
      refine D.take 20 rfl (by kernel_rfl) (fun _ h => h) (q_loadW (wide_ints wd29 (by first | omega | (simp; done) | (simp [-List.getD_eq_getElem?_getD]; omega) | (simp at *; omega) | rfl)) (R_blk 7 rfl) rfl rfl) (Wt.yes rfl rfl rfl) rfl rfl ?_
      refine D.take 21 rfl (by kernel_rfl) (fun _ h => h) (q_bool (b := false) (q_neqA ar29 ss5 un5 eg29 rfl rfl rfl (by first | omega | (simp; done) | (simp [-List.getD_eq_getElem?_getD]; omega) | (simp at *; omega) | rfl) (by first | omega | (simp; done) | (simp [-List.getD_eq_getElem?_getD]; omega) | (simp at *; omega) | rfl)) ?hE) (Wt.yes rfl rfl rfl) rfl rfl ?_
      case hE => simp
      refine D.take 22 rfl (by kernel_rfl) (fun _ h => h) (q_pickF rfl rfl rfl) (Wt.plain rfl) rfl rfl ?_
      refine D.take 23 rfl (by kernel_rfl) (fun _ h => h) (q_move rfl rfl) (Wt.plain rfl) rfl rfl ?_
      refine D.take 24 rfl (by kernel_rfl) (fun _ h => h) (q_move rfl rfl) (Wt.yes rfl rfl rfl) rfl rfl ?_
      refine D.take 25 rfl (by kernel_rfl) (fun _ h => h) (q_move rfl rfl) (Wt.yes rfl rfl rfl) rfl rfl ?_
      refine D.take 26 rfl (by kernel_rfl) (fun _ h => h) (q_bool (b := false) (q_neq rfl rfl rfl) ?hE) (Wt.yes rfl rfl rfl) rfl rfl ?_
      case hE => simp
      refine D.take 27 rfl (by kernel_rfl) (fun _ h => h) (q_pickF rfl rfl rfl) (Wt.plain rfl) rfl rfl ?_
      refine D.take 28 rfl (by kernel_rfl) (fun _ h => h) (q_move rfl rfl) (Wt.plain rfl) rfl rfl ?_
      refine D.take 29 rfl (by kernel_rfl) (fun _ h => h) (q_move rfl rfl) (Wt.yes rfl rfl rfl) rfl rfl ?_
      refine D.take 31 rfl (by kernel_rfl) (fun _ h => h) (q_move rfl rfl) (Wt.yes rfl rfl rfl) rfl rfl ?_
      refine D.take 32 rfl (by kernel_rfl) (fun _ h => h) (q_nil rfl rfl) (Wt.yes rfl rfl rfl) rfl rfl ?_
      refine D.take 33 rfl (by kernel_rfl) (fun _ h => h) (q_fld fl55_0 rfl rfl) (Wt.yes rfl rfl rfl) rfl rfl ?_
      refine D.take 34 rfl (by kernel_rfl) (fun _ h => h) (q_load1 ss3 1 rfl rfl rfl (rfl)) (Wt.yes rfl rfl rfl) rfl rfl ?_
      refine D.one 30 (by kernel_rfl) ?_
      refine Up.eff rfl (e_call enters41 rfl rfl (fun w hm => epoch_spec E (eS z) s0 s1 k2 (by first | omega | (simp; done) | (simp; omega) | (simp at *; omega)) (by first | omega | (simp; done) | (simp; omega) | (simp at *; omega)) (by first | omega | (simp; done) | (simp; omega) | (simp at *; omega)) (by first | omega | (simp; done) | (simp; omega) | (simp at *; omega)) w ((R_blk 0 rfl) w hm)) rfl rfl) (Wt.yes rfl rfl rfl) ?_
      rintro _ _ ⟨_, _, ⟨rfl, rfl⟩, rfl, rfl⟩
      refine ⟨fun _ => (fun _ h => h), ?_⟩
      change (_ : List Blk → Prop) [_, _, _, _, _, _, _, _]
      refine D.take 35 rfl (by kernel_rfl) (fun _ h => h) (q_bool (b := false) (q_neq rfl rfl rfl) ?hE) (Wt.yes rfl rfl rfl) rfl rfl ?_
      case hE => simp
      refine D.take 36 rfl (by kernel_rfl) (fun _ h => h) (q_pickF rfl rfl rfl) (Wt.plain rfl) rfl rfl ?_
      refine D.done (by kernel_rfl) ?_
      refine Ex.next ?_
      refine W.less (L' := [(2, _), (8, _), (9, _), (10, _), (131, _)]) [true, true, false, false, false, false, false, false] ⟨rfl, rfl, rfl, rfl, rfl, trivial⟩ ?_
      change (_ : List Blk → Prop) [_, _]
      refine W.condF rfl ?_
      refine W.skip ?_
      refine Ex.next ?_
      refine W.slots (L' := [(2, _), (8, _), (9, _), (10, _)]) ⟨rfl, rfl, rfl, rfl, trivial⟩ ?_
      refine W.seq ?_
      refine W.region ?_
      refine T.q (q_move rfl rfl) (Wt.plain rfl) rfl rfl ?_
      refine T.eff (e_callB 0 enters38 rfl rfl rfl (fun w hm => adv_spec E (eS z) s0 s1 k2 (by first | omega | (simp; done) | (simp; omega) | (simp at *; omega)) (by first | omega | (simp; done) | (simp; omega) | (simp at *; omega)) (by first | omega | (simp; done) | (simp; omega) | (simp at *; omega)) (by first | omega | (simp; done) | (simp; omega) | (simp at *; omega)) (hm.neG (i := 0) rfl hg0) (hm.neG (i := 0) rfl hg1) (hm.neG (i := 0) rfl hg2) w (hm.at 0 rfl) (R_ext hg0.ext w hm) (R_ext hg1.ext w hm) (R_ext hg2.ext w hm)) rfl rfl) (Wt.plain rfl) ?_
      rintro _ _ ⟨_, _, _, ⟨rfl, rfl, rfl⟩, rfl, rfl⟩
      change (_ : List Blk → Prop) [_, _]
      refine T.q (q_move rfl rfl) (Wt.plain rfl) rfl rfl ?_
      refine T.eff (e_callB 1 enters46 rfl rfl rfl (fun w hm => refadv_spec E s0 s1 (decide (eS z < E)) k3 (by first | omega | (simp; done) | (simp; omega) | (simp at *; omega)) (by first | omega | (simp; done) | (simp; omega) | (simp at *; omega)) (by first | omega | (simp; done) | (simp; omega) | (simp at *; omega)) (by first | omega | (simp; done) | (simp; omega) | (simp at *; omega)) w (hm.at 1 rfl)) rfl rfl) (Wt.plain rfl) ?_
      rintro _ _ ⟨_, _, _, ⟨rfl, rfl, rfl⟩, rfl, rfl⟩
      change (_ : List Blk → Prop) [_, _]
      refine T.q (q_bool (b := false) (q_neq rfl rfl rfl) ?hE) (Wt.plain rfl) rfl rfl ?_
      case hE => simp
      refine T.nil ?_
      refine Ex.next ?_
      refine W.slots (L' := [(2, _), (8, _), (9, _), (10, _), (136, _)]) ⟨rfl, rfl, rfl, rfl, rfl, trivial⟩ ?_
      refine W.condF rfl ?_
      refine W.skip ?_
      refine Ex.in_normal ?_
      refine Ex.next ?_
      refine W.slots (L' := [(2, _), (8, _), (9, _), (10, _)]) ⟨rfl, rfl, rfl, rfl, trivial⟩ ?_
      refine W.region ?_
      refine T.q (q_move rfl rfl) (Wt.plain rfl) rfl rfl ?_
      refine T.q (q_addi rfl rfl rfl (by omega) (by omega)) (Wt.plain rfl) rfl rfl ?_
      refine T.q (q_assign rfl rfl) (Wt.plain rfl) rfl rfl ?_
      refine T.nil ?_
      exact Ex.again [true, true] (⟨i + 1, advE E, advK E s0, advL E s0 s1⟩ : Nat × Int × List Int × List Int) (by dsimp only; omega) ⟨by dsimp only; omega, by have := @advE_ge E; dsimp only; omega, by dsimp only; exact advE_le hE1, by dsimp only; exact advK_length hs0, by dsimp only; exact advL_length hs0 hs1⟩ ⟨rfl, rfl, rfl, rfl, trivial⟩ (by dsimp only [pick]; rw [advH_eq (by omega)])
    · replace hb5 := of_decide_eq_false hb5
      refine W.exit ?_
      refine Ex.then_exit ?_
      refine Ex.then_exit ?_
      refine Ex.in_here ?_
      refine Ex.next ?_
      refine W.slots (L' := []) trivial ?_
      refine W.seq ?_
      refine W.region ?_
      refine T.q (q_assign rfl rfl) (Wt.plain rfl) rfl rfl ?_
      refine T.nil ?_
      refine Ex.next ?_
      refine W.slots (L' := [(6, _)]) ⟨rfl, trivial⟩ ?_
      refine W.ret ?_
      refine Ex.out1 [false, false] rfl rfl ?_
      exact ⟨rfl, rfl⟩
set_option maxRecDepth 100000 in
set_option maxHeartbeats 2000000 in
theorem plays_law (key : List Int) (hk : key.length = 32) (xs : List Int) (LA : Option Addr) (lc : Nat) (hlc : xs.length ≤ lc) (w0 : World) (hL : Reads w0 LA (ints .i64 xs)) (hg0 : Reads w0 (some ⟨0, 0, none⟩) (ints .u32 startW)) (hg1 : Reads w0 (some ⟨1, 0, none⟩) (ints .u8 sgm)) (hg2 : Reads w0 (some ⟨2, 0, none⟩) (ints .u8 tbl)) : Does Tryd.prog 17 #[.agg (ints .u8 key).toArray, .slice LA xs.length lc] w0 [] (fun v G => v = .bool true ∧ G = []) := by
  refine spec_of 124 Tryd.func17 rfl rfl rfl ?_
  refine W.seq ?_
  refine W.region ?_
  refine T.eff (e_box rfl rfl rfl rfl) (Wt.plain rfl) ?_
  rintro _ _ ⟨k1, rfl, rfl⟩
  change (_ : List Blk → Prop) [_]
  refine T.q (q_assign rfl rfl) (Wt.plain rfl) rfl rfl ?_
  refine T.nil ?_
  refine Ex.next ?_
  refine W.slots (L' := [(1, _), (2, _)]) ⟨rfl, rfl, trivial⟩ ?_
  refine W.seq ?_
  refine W.region ?_
  refine T.eff (e_call enters36 rfl rfl (fun w hm => shown15_spec w (R_ext hg0.ext w hm) (R_ext hg1.ext w hm) (R_ext hg2.ext w hm)) rfl rfl) (Wt.plain rfl) ?_
  rintro _ _ ⟨_, _, ⟨rfl, rfl⟩, rfl, rfl⟩
  change (_ : List Blk → Prop) [_]
  refine T.q (q_assign rfl rfl) (Wt.plain rfl) rfl rfl ?_
  refine T.nil ?_
  refine Ex.next ?_
  refine W.slots (L' := [(1, _), (2, _), (5, _)]) ⟨rfl, rfl, rfl, trivial⟩ ?_
  refine W.seq ?_
  refine W.region ?_
  refine T.q (q_loadW (wide_ints wd29 (by first | omega | (simp; done) | (simp [-List.getD_eq_getElem?_getD]; omega) | (simp at *; omega) | rfl)) (R_blk 0 rfl) rfl rfl) (Wt.plain rfl) rfl rfl ?_
  refine T.eff (e_call enters37 rfl rfl (fun w hm => new_spec key (by first | omega | (simp; done) | (simp; omega) | (simp at *; omega)) w) rfl rfl) (Wt.plain rfl) ?_
  rintro _ _ ⟨_, _, ⟨k2, rfl, rfl⟩, rfl, rfl⟩
  change (_ : List Blk → Prop) [_, _]
  refine T.q (q_assign rfl rfl) (Wt.plain rfl) rfl rfl ?_
  refine T.nil ?_
  refine Ex.next ?_
  refine W.slots (L' := [(1, _), (2, _), (5, _), (6, _)]) ⟨rfl, rfl, rfl, rfl, trivial⟩ ?_
  refine W.seq ?_
  refine W.region ?_
  refine T.q (q_loadW (wide_ints wd29 (by first | omega | (simp; done) | (simp [-List.getD_eq_getElem?_getD]; omega) | (simp at *; omega) | rfl)) (R_blk 0 rfl) rfl rfl) (Wt.plain rfl) rfl rfl ?_
  refine T.eff (e_call enters47 rfl rfl (fun w hm => refnew_spec key (by first | omega | (simp; done) | (simp; omega) | (simp at *; omega)) w) rfl rfl) (Wt.plain rfl) ?_
  rintro _ _ ⟨_, _, ⟨k3, rfl, rfl⟩, rfl, rfl⟩
  change (_ : List Blk → Prop) [_, _, _]
  refine T.q (q_assign rfl rfl) (Wt.plain rfl) rfl rfl ?_
  refine T.nil ?_
  refine Ex.next ?_
  refine W.less (L' := [(1, _), (5, _), (6, _), (7, _)]) [false, true, true] ⟨rfl, rfl, rfl, rfl, trivial⟩ ?_
  change (_ : List Blk → Prop) [_, _]
  refine W.seq ?_
  refine W.seq ?_
  refine W.region ?_
  refine T.q (q_move rfl rfl) (Wt.plain rfl) rfl rfl ?_
  refine T.q (q_not rfl rfl) (Wt.plain rfl) rfl rfl ?_
  refine T.q (q_move rfl rfl) (Wt.plain rfl) rfl rfl ?_
  refine T.q (q_move rfl rfl) (Wt.yes rfl rfl rfl) rfl rfl ?_
  refine T.q (q_eqlPN pt43 rfl rfl rfl) (Wt.yes rfl rfl rfl) rfl rfl ?_
  refine T.q (q_pickF rfl rfl rfl) (Wt.plain rfl) rfl rfl ?_
  refine T.nil ?_
  refine Ex.next ?_
  refine W.slots (L' := [(1, _), (6, _), (7, _), (30, _)]) ⟨rfl, rfl, rfl, rfl, trivial⟩ ?_
  refine W.condF rfl ?_
  refine W.skip ?_
  refine Ex.next ?_
  refine W.slots (L' := [(1, _), (6, _), (7, _)]) ⟨rfl, rfl, rfl, trivial⟩ ?_
  refine W.seq ?_
  refine W.seq ?_
  refine W.region ?_
  refine T.q (q_assign rfl rfl) (Wt.plain rfl) rfl rfl ?_
  refine T.nil ?_
  refine Ex.next ?_
  refine W.slots (L' := [(1, _), (6, _), (7, _), (8, _)]) ⟨rfl, rfl, rfl, rfl, trivial⟩ ?_
  refine W.block ?_
  refine W.loop (α := Nat × Int × List Int × List Int) (fun x_ => [(1, .slice LA xs.length lc), (6, .pointer (some ⟨k2, 0, none⟩)), (7, .pointer (some ⟨k3, 0, none⟩)), (8, .int .i64 ((x_.1 : Nat) : Int))]) (fun x_ => [⟨some k2, .int .i64 x_.2.1 :: (.int .i64 0 :: (ints .u8 x_.2.2.1 ++ (ints .u8 x_.2.2.2))), 76, (0, 0)⟩, ⟨some k3, .int .i64 x_.2.1 :: (ints .u8 x_.2.2.1 ++ (ints .u8 x_.2.2.2 ++ [.bool (decide (0 < x_.2.1))])), 55, (0, 0)⟩]) (fun x_ => x_.1 ≤ 12 ∧ 0 ≤ x_.2.1 ∧ x_.2.1 ≤ (x_.1 : Int) ∧ x_.2.2.1.length = 32 ∧ x_.2.2.2.length = 32) (fun x_ => 12 - x_.1) [true, true] (⟨0, 0, key, List.replicate 32 0⟩) ⟨by dsimp only; omega, by dsimp only; omega, by dsimp only; omega, hk, by dsimp only; simp⟩ ⟨rfl, rfl, rfl, rfl, trivial⟩ rfl ?_
  rintro ⟨i, E, s0, s1⟩ ⟨hi, hE0, hE1, hs0, hs1⟩
  conv => rhs; dsimp only
  conv => arg -2; dsimp only
  dsimp only at hi hE0 hE1 hs0 hs1
  refine W.seq ?_
  refine W.seq ?_
  refine W.region ?_
  refine T.q (q_move rfl rfl) (Wt.plain rfl) rfl rfl ?_
  refine T.q (q_move rfl rfl) (Wt.plain rfl) rfl rfl ?_
  refine T.q (q_len sc57 rfl rfl) (Wt.plain rfl) rfl rfl ?_
  refine T.q (q_lss rfl rfl rfl) (Wt.plain rfl) rfl rfl ?_
  refine T.q (q_move rfl rfl) (Wt.plain rfl) rfl rfl ?_
  refine T.both (t := 35) _ rfl (fun hb4 => ?_) (fun hb4 => ?_)
  · replace hb4 := of_decide_eq_true hb4
    refine T.q (q_move rfl rfl) (Wt.yes rfl rfl rfl) rfl rfl ?_
    refine T.q (q_lss rfl rfl rfl) (Wt.yes rfl rfl rfl) rfl rfl ?_
    refine T.q (q_pickT rfl rfl rfl) (Wt.plain rfl) rfl rfl ?_
    refine T.nil ?_
    refine Ex.next ?_
    refine W.slots (L' := [(1, _), (6, _), (7, _), (8, _), (38, _)]) ⟨rfl, rfl, rfl, rfl, rfl, trivial⟩ ?_
    refine W.cond _ rfl (fun hb5 => ?_) (fun hb5 => ?_)
    · replace hb5 := of_decide_eq_true hb5
      refine W.skip ?_
      refine Ex.next ?_
      refine W.slots (L' := [(1, _), (6, _), (7, _), (8, _)]) ⟨rfl, rfl, rfl, rfl, trivial⟩ ?_
      refine W.seq ?_
      refine W.block ?_
      refine W.meet (α := Int × List Int × List Int) (fun x_ => [(1, .slice LA xs.length lc), (6, .pointer (some ⟨k2, 0, none⟩)), (7, .pointer (some ⟨k3, 0, none⟩)), (8, .int .i64 ((i : Nat) : Int))]) (fun x_ => [⟨some k2, .int .i64 x_.1 :: (.int .i64 0 :: (ints .u8 x_.2.1 ++ (ints .u8 x_.2.2))), 76, (0, 0)⟩, ⟨some k3, .int .i64 x_.1 :: (ints .u8 x_.2.1 ++ (ints .u8 x_.2.2 ++ [.bool (decide (0 < x_.1))])), 55, (0, 0)⟩]) (fun x_ => 0 ≤ x_.1 ∧ x_.1 ≤ (i : Int) + 1 ∧ x_.2.1.length = 32 ∧ x_.2.2.length = 32) ?_ ?_
      ·
        refine W.seq ?_
        refine W.region ?_
        refine T.q (q_move rfl rfl) (Wt.plain rfl) rfl rfl ?_
        refine T.q (q_move rfl rfl) (Wt.plain rfl) rfl rfl ?_
        refine T.q (q_ixE1 sc57 i (R_ext hL.ext) rfl rfl rfl (by omega) (by omega) (by first | omega | (simp; done) | (simp [-List.getD_eq_getElem?_getD]; omega))) (Wt.plain rfl) rfl rfl ?_
        refine T.q (q_loadE ss3 (R_ext hL.ext) rfl rfl (ints_get (by first | omega | (simp; done) | (simp [-List.getD_eq_getElem?_getD]; omega)))) (Wt.plain rfl) rfl rfl ?_
        refine T.q (q_lss rfl rfl rfl) (Wt.plain rfl) rfl rfl ?_
        refine T.nil ?_
        refine Ex.next ?_
        refine W.slots (L' := [(1, _), (6, _), (7, _), (8, _), (45, _)]) ⟨rfl, rfl, rfl, rfl, rfl, trivial⟩ ?_
        refine W.cond _ rfl (fun hb6 => ?_) (fun hb6 => ?_)
        · replace hb6 := of_decide_eq_true hb6
          refine W.seq ?_
          refine W.region ?_
          refine T.q (q_move rfl rfl) (Wt.plain rfl) rfl rfl ?_
          refine T.eff (e_call enters48 rfl rfl (fun w hm => clone_spec E 0 s0 s1 k2 (by first | omega | (simp; done) | (simp; omega) | (simp at *; omega)) (by first | omega | (simp; done) | (simp; omega) | (simp at *; omega)) (by first | omega | (simp; done) | (simp; omega) | (simp at *; omega)) (by first | omega | (simp; done) | (simp; omega) | (simp at *; omega)) w ((R_blk 0 rfl) w hm)) rfl rfl) (Wt.plain rfl) ?_
          rintro _ _ ⟨_, _, ⟨k7, rfl, rfl⟩, rfl, rfl⟩
          change (_ : List Blk → Prop) [_, _, _]
          refine T.q (q_assign rfl rfl) (Wt.plain rfl) rfl rfl ?_
          refine T.nil ?_
          refine Ex.next ?_
          refine W.slots (L' := [(1, _), (6, _), (7, _), (8, _), (9, _)]) ⟨rfl, rfl, rfl, rfl, rfl, trivial⟩ ?_
          refine W.seq ?_
          refine W.region ?_
          refine T.q (q_move rfl rfl) (Wt.plain rfl) rfl rfl ?_
          refine T.eff (e_callB 0 enters38 rfl rfl rfl (fun w hm => adv_spec E 0 s0 s1 k2 (by first | omega | (simp; done) | (simp; omega) | (simp at *; omega)) (by first | omega | (simp; done) | (simp; omega) | (simp at *; omega)) (by first | omega | (simp; done) | (simp; omega) | (simp at *; omega)) (by first | omega | (simp; done) | (simp; omega) | (simp at *; omega)) (hm.neG (i := 0) rfl hg0) (hm.neG (i := 0) rfl hg1) (hm.neG (i := 0) rfl hg2) w (hm.at 0 rfl) (R_ext hg0.ext w hm) (R_ext hg1.ext w hm) (R_ext hg2.ext w hm)) rfl rfl) (Wt.plain rfl) ?_
          rintro _ _ ⟨_, _, _, ⟨rfl, rfl, rfl⟩, rfl, rfl⟩
          change (_ : List Blk → Prop) [_, _, _]
          refine T.q (q_assign rfl rfl) (Wt.plain rfl) rfl rfl ?_
          refine T.nil ?_
          refine Ex.next ?_
          refine W.slots (L' := [(1, _), (6, _), (7, _), (8, _), (9, _), (10, _)]) ⟨rfl, rfl, rfl, rfl, rfl, rfl, trivial⟩ ?_
          refine W.seq ?_
          refine W.region ?_
          refine T.q (q_move rfl rfl) (Wt.plain rfl) rfl rfl ?_
          refine T.eff (e_callB 1 enters46 rfl rfl rfl (fun w hm => refadv_spec E s0 s1 (decide (0 < E)) k3 (by first | omega | (simp; done) | (simp; omega) | (simp at *; omega)) (by first | omega | (simp; done) | (simp; omega) | (simp at *; omega)) (by first | omega | (simp; done) | (simp; omega) | (simp at *; omega)) (by first | omega | (simp; done) | (simp; omega) | (simp at *; omega)) w (hm.at 1 rfl)) rfl rfl) (Wt.plain rfl) ?_
          rintro _ _ ⟨_, _, _, ⟨rfl, rfl, rfl⟩, rfl, rfl⟩
          change (_ : List Blk → Prop) [_, _, _]
          conv => rhs; rw [advH_eq (by omega)]
          have hae := @advE_ge E
          refine T.q (q_assign rfl rfl) (Wt.plain rfl) rfl rfl ?_
          refine T.nil ?_
          refine Ex.next ?_
          refine W.slots (L' := [(1, _), (6, _), (7, _), (8, _), (9, _), (10, _), (11, _)]) ⟨rfl, rfl, rfl, rfl, rfl, rfl, rfl, trivial⟩ ?_
          refine W.seq ?_
          refine W.draw 17 (by kernel_rfl) ?_
          refine D.take 0 rfl (by kernel_rfl) (fun _ h => h) (q_move rfl rfl) (Wt.plain rfl) rfl rfl ?_
          refine D.take 1 rfl (by kernel_rfl) (fun _ h => h) (q_move rfl rfl) (Wt.plain rfl) rfl rfl ?_
          refine D.take 2 rfl (by kernel_rfl) (fun _ h => h) (q_bool (b := false) (q_neq rfl rfl rfl) ?hE) (Wt.plain rfl) rfl rfl ?_
          case hE => simp
          refine D.take 3 rfl (by kernel_rfl) (fun _ h => h) (q_move rfl rfl) (Wt.plain rfl) rfl rfl ?_
          refine D.take 4 rfl (by kernel_rfl) (fun _ h => h) (q_move rfl rfl) (Wt.yes rfl rfl rfl) rfl rfl ?_
          refine D.take 5 rfl (by kernel_rfl) (fun _ h => h) (q_eqlPN pt43 rfl rfl rfl) (Wt.yes rfl rfl rfl) rfl rfl ?_
          refine D.take 6 rfl (by kernel_rfl) (fun _ h => h) (q_pickF rfl rfl rfl) (Wt.plain rfl) rfl rfl ?_
          refine D.take 7 rfl (by kernel_rfl) (fun _ h => h) (q_move rfl rfl) (Wt.plain rfl) rfl rfl ?_
          refine D.take 8 rfl (by kernel_rfl) (fun _ h => h) (q_move rfl rfl) (Wt.yes rfl rfl rfl) rfl rfl ?_
          refine D.take 10 rfl (by kernel_rfl) (fun _ h => h) (q_move rfl rfl) (Wt.yes rfl rfl rfl) rfl rfl ?_
          refine D.take 11 rfl (by kernel_rfl) (fun _ h => h) (q_nil rfl rfl) (Wt.yes rfl rfl rfl) rfl rfl ?_
          refine D.take 12 rfl (by kernel_rfl) (fun _ h => h) (q_fld fl55_0 rfl rfl) (Wt.yes rfl rfl rfl) rfl rfl ?_
          refine D.take 13 rfl (by kernel_rfl) (fun _ h => h) (q_load1 ss3 1 rfl rfl rfl (rfl)) (Wt.yes rfl rfl rfl) rfl rfl ?_
          refine D.take 14 rfl (by kernel_rfl) (fun _ h => h) (q_subi rfl rfl rfl (by omega) (by omega)) (Wt.yes rfl rfl rfl) rfl rfl ?_
          refine D.one 9 (by kernel_rfl) ?_
          refine Up.eff rfl (e_call enters41 rfl rfl (fun w hm => epoch_spec E 0 s0 s1 k7 (by first | omega | (simp; done) | (simp; omega) | (simp at *; omega)) (by first | omega | (simp; done) | (simp; omega) | (simp at *; omega)) (by first | omega | (simp; done) | (simp; omega) | (simp at *; omega)) (by first | omega | (simp; done) | (simp; omega) | (simp at *; omega)) w ((R_blk 2 rfl) w hm)) rfl rfl) (Wt.yes rfl rfl rfl) ?_
          rintro _ _ ⟨_, _, ⟨rfl, rfl⟩, rfl, rfl⟩
          refine ⟨fun _ => (fun _ h => h), ?_⟩
          change (_ : List Blk → Prop) [_, _, _]
          refine D.take 15 rfl (by kernel_rfl) (fun _ h => h) (q_bool (b := false) (q_neq rfl rfl rfl) ?hE) (Wt.yes rfl rfl rfl) rfl rfl ?_
          case hE => rw [advE_lt (by omega)]; simp
          refine D.take 16 rfl (by kernel_rfl) (fun _ h => h) (q_pickF rfl rfl rfl) (Wt.plain rfl) rfl rfl ?_
          refine D.done (by kernel_rfl) ?_
          refine Ex.next ?_
          refine W.less (L' := [(1, _), (6, _), (7, _), (8, _), (68, _)]) [true, true, false] ⟨rfl, rfl, rfl, rfl, rfl, trivial⟩ ?_
          change (_ : List Blk → Prop) [_, _]
          refine W.condF rfl ?_
          refine W.skip ?_
          exact Ex.met [true, true] (⟨(advE E), advK E s0, advL E s0 s1⟩ : Int × List Int × List Int) ⟨by have := @advE_ge E; dsimp only; omega, by have := @advE_ge E; dsimp only; omega, by dsimp only; first | omega | exact advK_length hs0, by dsimp only; first | omega | exact advL_length hs0 hs1⟩ ⟨rfl, rfl, rfl, rfl, trivial⟩ (by first | (dsimp only [pick]; done) | rfl)
        · replace hb6 := of_decide_eq_false hb6
          refine W.skip ?_
          exact Ex.met [true, true] (⟨E, s0, s1⟩ : Int × List Int × List Int) ⟨by have := @advE_ge E; dsimp only; omega, by have := @advE_ge E; dsimp only; omega, by dsimp only; first | omega | exact advK_length hs0, by dsimp only; first | omega | exact advL_length hs0 hs1⟩ ⟨rfl, rfl, rfl, rfl, trivial⟩ (by first | (dsimp only [pick]; done) | rfl)
      ·
        rintro ⟨E2, t0, t1⟩ ⟨hE2a, hE2b, ht0, ht1⟩
        conv => rhs; dsimp only
        conv => arg -2; dsimp only
        dsimp only at hE2a hE2b ht0 ht1
        refine W.seq ?_
        refine W.region ?_
        refine T.q (q_move rfl rfl) (Wt.plain rfl) rfl rfl ?_
        refine T.q (q_move rfl rfl) (Wt.plain rfl) rfl rfl ?_
        refine T.q (q_move rfl rfl) (Wt.plain rfl) rfl rfl ?_
        refine T.q (q_ixE1 sc57 i (R_ext hL.ext) rfl rfl rfl (by omega) (by omega) (by first | omega | (simp; done) | (simp [-List.getD_eq_getElem?_getD]; omega))) (Wt.plain rfl) rfl rfl ?_
        refine T.q (q_loadE ss3 (R_ext hL.ext) rfl rfl (ints_get (by first | omega | (simp; done) | (simp [-List.getD_eq_getElem?_getD]; omega)))) (Wt.plain rfl) rfl rfl ?_
        refine T.eff (e_call enters40 rfl rfl (fun w hm => key_spec E2 0 t0 t1 k2 (by first | omega | (simp; done) | (simp; omega) | (simp at *; omega)) (by first | omega | (simp; done) | (simp; omega) | (simp at *; omega)) (by first | omega | (simp; done) | (simp; omega) | (simp at *; omega)) (by first | omega | (simp; done) | (simp; omega) | (simp at *; omega)) (by first | omega | (simp; done) | (simp; omega) | (simp at *; omega)) ((xs).getD i 0) w ((R_blk 0 rfl) w hm) (R_ext hg0.ext w hm) (R_ext hg1.ext w hm) (R_ext hg2.ext w hm)) rfl rfl) (Wt.plain rfl) ?_
        rintro _ _ ⟨_, _, ⟨rfl, rfl⟩, rfl, rfl⟩
        change (_ : List Blk → Prop) [_, _]
        refine T.q (q_move rfl rfl) (Wt.plain rfl) rfl rfl ?_
        refine T.q (q_extract rfl rfl rfl) (Wt.plain rfl) rfl rfl ?_
        refine T.q (q_extract rfl rfl rfl) (Wt.plain rfl) rfl rfl ?_
        refine T.eff (e_alloc ze29 rfl rfl rfl) (Wt.plain rfl) ?_
        rintro _ _ ⟨k8, rfl, rfl⟩
        change (_ : List Blk → Prop) [_, _, _]
        refine T.eff (e_storeA (wide_ints wd29 (by first | omega | (simp; done) | (simp [-List.getD_eq_getElem?_getD]; omega) | (simp at *; omega) | rfl)) 2 rfl rfl rfl rfl (by first | omega | (simp; done) | (simp [-List.getD_eq_getElem?_getD]; omega) | (simp at *; omega) | rfl) ints_one rfl) (Wt.plain rfl) ?_
        rintro _ _ ⟨rfl, rfl⟩
        change (_ : List Blk → Prop) [_, _, _]
        refine T.q (q_assign rfl rfl) (Wt.plain rfl) rfl rfl ?_
        refine T.nil ?_
        refine Ex.next ?_
        refine W.slots (L' := [(1, _), (6, _), (7, _), (8, _), (12, _), (13, _)]) ⟨rfl, rfl, rfl, rfl, rfl, rfl, trivial⟩ ?_
        refine W.seq ?_
        refine W.region ?_
        refine T.q (q_move rfl rfl) (Wt.plain rfl) rfl rfl ?_
        refine T.q (q_move rfl rfl) (Wt.plain rfl) rfl rfl ?_
        refine T.q (q_move rfl rfl) (Wt.plain rfl) rfl rfl ?_
        refine T.q (q_ixE1 sc57 i (R_ext hL.ext) rfl rfl rfl (by omega) (by omega) (by first | omega | (simp; done) | (simp [-List.getD_eq_getElem?_getD]; omega))) (Wt.plain rfl) rfl rfl ?_
        refine T.q (q_loadE ss3 (R_ext hL.ext) rfl rfl (ints_get (by first | omega | (simp; done) | (simp [-List.getD_eq_getElem?_getD]; omega)))) (Wt.plain rfl) rfl rfl ?_
        refine T.eff (e_call enters44 rfl rfl (fun w hm => refkey_spec E2 t0 t1 (decide (0 < E2)) k3 (by first | omega | (simp; done) | (simp; omega) | (simp at *; omega)) (by first | omega | (simp; done) | (simp; omega) | (simp at *; omega)) (by first | omega | (simp; done) | (simp; omega) | (simp at *; omega)) (by first | omega | (simp; done) | (simp; omega) | (simp at *; omega)) ((xs).getD i 0) w ((R_blk 1 rfl) w hm)) rfl rfl) (Wt.plain rfl) ?_
        rintro _ _ ⟨_, _, ⟨rfl, rfl⟩, rfl, rfl⟩
        change (_ : List Blk → Prop) [_, _, _]
        refine T.q (q_move rfl rfl) (Wt.plain rfl) rfl rfl ?_
        refine T.q (q_extract rfl rfl rfl) (Wt.plain rfl) rfl rfl ?_
        refine T.q (q_extract rfl rfl rfl) (Wt.plain rfl) rfl rfl ?_
        refine T.eff (e_alloc ze29 rfl rfl rfl) (Wt.plain rfl) ?_
        rintro _ _ ⟨k9, rfl, rfl⟩
        change (_ : List Blk → Prop) [_, _, _, _]
        refine T.eff (e_storeA (wide_ints wd29 (by first | omega | (simp; done) | (simp [-List.getD_eq_getElem?_getD]; omega) | (simp at *; omega) | rfl)) 3 rfl rfl rfl rfl (by first | omega | (simp; done) | (simp [-List.getD_eq_getElem?_getD]; omega) | (simp at *; omega) | rfl) ints_one rfl) (Wt.plain rfl) ?_
        rintro _ _ ⟨rfl, rfl⟩
        change (_ : List Blk → Prop) [_, _, _, _]
        refine T.q (q_assign rfl rfl) (Wt.plain rfl) rfl rfl ?_
        refine T.nil ?_
        refine Ex.next ?_
        refine W.slots (L' := [(1, _), (6, _), (7, _), (8, _), (12, _), (13, _), (14, _), (15, _)]) ⟨rfl, rfl, rfl, rfl, rfl, rfl, rfl, rfl, trivial⟩ ?_
        refine W.seq ?_
        refine W.region ?_
        refine T.q (q_move rfl rfl) (Wt.plain rfl) rfl rfl ?_
        refine T.eff (e_call enters39 rfl rfl (fun w hm => next_spec E2 0 t0 t1 k2 (by first | omega | (simp; done) | (simp; omega) | (simp at *; omega)) (by first | omega | (simp; done) | (simp; omega) | (simp at *; omega)) (by first | omega | (simp; done) | (simp; omega) | (simp at *; omega)) (by first | omega | (simp; done) | (simp; omega) | (simp at *; omega)) w ((R_blk 0 rfl) w hm) (R_ext hg0.ext w hm) (R_ext hg1.ext w hm) (R_ext hg2.ext w hm)) rfl rfl) (Wt.plain rfl) ?_
        rintro _ _ ⟨_, _, ⟨rfl, rfl⟩, rfl, rfl⟩
        change (_ : List Blk → Prop) [_, _, _, _]
        refine T.q (q_move rfl rfl) (Wt.plain rfl) rfl rfl ?_
        refine T.q (q_extract rfl rfl rfl) (Wt.plain rfl) rfl rfl ?_
        refine T.q (q_extract rfl rfl rfl) (Wt.plain rfl) rfl rfl ?_
        refine T.eff (e_alloc ze29 rfl rfl rfl) (Wt.plain rfl) ?_
        rintro _ _ ⟨k10, rfl, rfl⟩
        change (_ : List Blk → Prop) [_, _, _, _, _]
        refine T.eff (e_storeA (wide_ints wd29 (by first | omega | (simp; done) | (simp [-List.getD_eq_getElem?_getD]; omega) | (simp at *; omega) | rfl)) 4 rfl rfl rfl rfl (by first | omega | (simp; done) | (simp [-List.getD_eq_getElem?_getD]; omega) | (simp at *; omega) | rfl) ints_one rfl) (Wt.plain rfl) ?_
        rintro _ _ ⟨rfl, rfl⟩
        change (_ : List Blk → Prop) [_, _, _, _, _]
        refine T.q (q_assign rfl rfl) (Wt.plain rfl) rfl rfl ?_
        refine T.nil ?_
        refine Ex.next ?_
        refine W.slots (L' := [(1, _), (6, _), (7, _), (8, _), (12, _), (13, _), (14, _), (15, _), (16, _), (17, _)]) ⟨rfl, rfl, rfl, rfl, rfl, rfl, rfl, rfl, rfl, rfl, trivial⟩ ?_
        refine W.seq ?_
        refine W.region ?_
        refine T.q (q_move rfl rfl) (Wt.plain rfl) rfl rfl ?_
        refine T.eff (e_call enters45 rfl rfl (fun w hm => refnext_spec E2 t0 t1 (decide (0 < E2)) k3 (by first | omega | (simp; done) | (simp; omega) | (simp at *; omega)) (by first | omega | (simp; done) | (simp; omega) | (simp at *; omega)) (by first | omega | (simp; done) | (simp; omega) | (simp at *; omega)) (by first | omega | (simp; done) | (simp; omega) | (simp at *; omega)) w ((R_blk 1 rfl) w hm)) rfl rfl) (Wt.plain rfl) ?_
        rintro _ _ ⟨_, _, ⟨rfl, rfl⟩, rfl, rfl⟩
        change (_ : List Blk → Prop) [_, _, _, _, _]
        refine T.q (q_move rfl rfl) (Wt.plain rfl) rfl rfl ?_
        refine T.q (q_extract rfl rfl rfl) (Wt.plain rfl) rfl rfl ?_
        refine T.q (q_extract rfl rfl rfl) (Wt.plain rfl) rfl rfl ?_
        refine T.eff (e_alloc ze29 rfl rfl rfl) (Wt.plain rfl) ?_
        rintro _ _ ⟨k11, rfl, rfl⟩
        change (_ : List Blk → Prop) [_, _, _, _, _, _]
        refine T.eff (e_storeA (wide_ints wd29 (by first | omega | (simp; done) | (simp [-List.getD_eq_getElem?_getD]; omega) | (simp at *; omega) | rfl)) 5 rfl rfl rfl rfl (by first | omega | (simp; done) | (simp [-List.getD_eq_getElem?_getD]; omega) | (simp at *; omega) | rfl) ints_one rfl) (Wt.plain rfl) ?_
        rintro _ _ ⟨rfl, rfl⟩
        change (_ : List Blk → Prop) [_, _, _, _, _, _]
        refine T.q (q_assign rfl rfl) (Wt.plain rfl) rfl rfl ?_
        refine T.nil ?_
        refine Ex.next ?_
        refine W.slots (L' := [(1, _), (6, _), (7, _), (8, _), (12, _), (13, _), (14, _), (15, _), (16, _), (17, _), (18, _), (19, _)]) ⟨rfl, rfl, rfl, rfl, rfl, rfl, rfl, rfl, rfl, rfl, rfl, rfl, trivial⟩ ?_
        refine W.seq ?_
        refine W.draw 27 (by kernel_rfl) ?_
        refine D.take 0 rfl (by kernel_rfl) (fun _ h => h) (q_loadW (wide_ints wd29 (by first | omega | (simp; done) | (simp [-List.getD_eq_getElem?_getD]; omega) | (simp at *; omega) | rfl)) (R_blk 2 rfl) rfl rfl) (Wt.plain rfl) rfl rfl ?_
        refine D.take 1 rfl (by kernel_rfl) (fun _ h => h) (q_loadW (wide_ints wd29 (by first | omega | (simp; done) | (simp [-List.getD_eq_getElem?_getD]; omega) | (simp at *; omega) | rfl)) (R_blk 3 rfl) rfl rfl) (Wt.plain rfl) rfl rfl ?_
        refine D.take 2 rfl (by kernel_rfl) (fun _ h => h) (q_bool (b := false) (q_neqA ar29 ss5 un5 eg29 rfl rfl rfl (by first | omega | (simp; done) | (simp [-List.getD_eq_getElem?_getD]; omega) | (simp at *; omega) | rfl) (by first | omega | (simp; done) | (simp [-List.getD_eq_getElem?_getD]; omega) | (simp at *; omega) | rfl)) ?hE) (Wt.plain rfl) rfl rfl ?_
        case hE => rw [keyS_ref (by omega)]; simp
        refine D.take 3 rfl (by kernel_rfl) (fun _ h => h) (q_move rfl rfl) (Wt.plain rfl) rfl rfl ?_
        refine D.take 4 rfl (by kernel_rfl) (fun _ h => h) (q_move rfl rfl) (Wt.yes rfl rfl rfl) rfl rfl ?_
        refine D.take 5 rfl (by kernel_rfl) (fun _ h => h) (q_move rfl rfl) (Wt.yes rfl rfl rfl) rfl rfl ?_
        refine D.take 6 rfl (by kernel_rfl) (fun _ h => h) (q_bool (b := false) (q_neq rfl rfl rfl) ?hE) (Wt.yes rfl rfl rfl) rfl rfl ?_
        case hE => rw [keyS_ref (by omega)]; simp
        refine D.take 7 rfl (by kernel_rfl) (fun _ h => h) (q_pickF rfl rfl rfl) (Wt.plain rfl) rfl rfl ?_
        refine D.take 8 rfl (by kernel_rfl) (fun _ h => h) (q_move rfl rfl) (Wt.plain rfl) rfl rfl ?_
        refine D.take 9 rfl (by kernel_rfl) (fun _ h => h) (q_loadW (wide_ints wd29 (by first | omega | (simp; done) | (simp [-List.getD_eq_getElem?_getD]; omega) | (simp at *; omega) | rfl)) (R_blk 4 rfl) rfl rfl) (Wt.yes rfl rfl rfl) rfl rfl ?_
        refine D.take 10 rfl (by kernel_rfl) (fun _ h => h) (q_loadW (wide_ints wd29 (by first | omega | (simp; done) | (simp [-List.getD_eq_getElem?_getD]; omega) | (simp at *; omega) | rfl)) (R_blk 5 rfl) rfl rfl) (Wt.yes rfl rfl rfl) rfl rfl ?_
        refine D.take 11 rfl (by kernel_rfl) (fun _ h => h) (q_bool (b := false) (q_neqA ar29 ss5 un5 eg29 rfl rfl rfl (by first | omega | (simp; done) | (simp [-List.getD_eq_getElem?_getD]; omega) | (simp at *; omega) | rfl) (by first | omega | (simp; done) | (simp [-List.getD_eq_getElem?_getD]; omega) | (simp at *; omega) | rfl)) ?hE) (Wt.yes rfl rfl rfl) rfl rfl ?_
        case hE => simp
        refine D.take 12 rfl (by kernel_rfl) (fun _ h => h) (q_pickF rfl rfl rfl) (Wt.plain rfl) rfl rfl ?_
        refine D.take 13 rfl (by kernel_rfl) (fun _ h => h) (q_move rfl rfl) (Wt.plain rfl) rfl rfl ?_
        refine D.take 14 rfl (by kernel_rfl) (fun _ h => h) (q_move rfl rfl) (Wt.yes rfl rfl rfl) rfl rfl ?_
        refine D.take 15 rfl (by kernel_rfl) (fun _ h => h) (q_move rfl rfl) (Wt.yes rfl rfl rfl) rfl rfl ?_
        refine D.take 16 rfl (by kernel_rfl) (fun _ h => h) (q_bool (b := false) (q_neq rfl rfl rfl) ?hE) (Wt.yes rfl rfl rfl) rfl rfl ?_
        case hE => simp
        refine D.take 17 rfl (by kernel_rfl) (fun _ h => h) (q_pickF rfl rfl rfl) (Wt.plain rfl) rfl rfl ?_
        refine D.take 18 rfl (by kernel_rfl) (fun _ h => h) (q_move rfl rfl) (Wt.plain rfl) rfl rfl ?_
        refine D.take 19 rfl (by kernel_rfl) (fun _ h => h) (q_move rfl rfl) (Wt.yes rfl rfl rfl) rfl rfl ?_
        refine D.take 21 rfl (by kernel_rfl) (fun _ h => h) (q_move rfl rfl) (Wt.yes rfl rfl rfl) rfl rfl ?_
        refine D.take 22 rfl (by kernel_rfl) (fun _ h => h) (q_nil rfl rfl) (Wt.yes rfl rfl rfl) rfl rfl ?_
        refine D.take 23 rfl (by kernel_rfl) (fun _ h => h) (q_fld fl55_0 rfl rfl) (Wt.yes rfl rfl rfl) rfl rfl ?_
        refine D.take 24 rfl (by kernel_rfl) (fun _ h => h) (q_load1 ss3 1 rfl rfl rfl (rfl)) (Wt.yes rfl rfl rfl) rfl rfl ?_
        refine D.one 20 (by kernel_rfl) ?_
        refine Up.eff rfl (e_call enters41 rfl rfl (fun w hm => epoch_spec E2 0 t0 t1 k2 (by first | omega | (simp; done) | (simp; omega) | (simp at *; omega)) (by first | omega | (simp; done) | (simp; omega) | (simp at *; omega)) (by first | omega | (simp; done) | (simp; omega) | (simp at *; omega)) (by first | omega | (simp; done) | (simp; omega) | (simp at *; omega)) w ((R_blk 0 rfl) w hm)) rfl rfl) (Wt.yes rfl rfl rfl) ?_
        rintro _ _ ⟨_, _, ⟨rfl, rfl⟩, rfl, rfl⟩
        refine ⟨fun _ => (fun _ h => h), ?_⟩
        change (_ : List Blk → Prop) [_, _, _, _, _, _]
        refine D.take 25 rfl (by kernel_rfl) (fun _ h => h) (q_bool (b := false) (q_neq rfl rfl rfl) ?hE) (Wt.yes rfl rfl rfl) rfl rfl ?_
        case hE => simp
        refine D.take 26 rfl (by kernel_rfl) (fun _ h => h) (q_pickF rfl rfl rfl) (Wt.plain rfl) rfl rfl ?_
        refine D.done (by kernel_rfl) ?_
        refine Ex.next ?_
        refine W.less (L' := [(1, _), (6, _), (7, _), (8, _), (123, _)]) [true, true, false, false, false, false] ⟨rfl, rfl, rfl, rfl, rfl, trivial⟩ ?_
        change (_ : List Blk → Prop) [_, _]
        refine W.condF rfl ?_
        refine W.skip ?_
        refine Ex.in_normal ?_
        refine Ex.next ?_
        refine W.slots (L' := [(1, _), (6, _), (7, _), (8, _)]) ⟨rfl, rfl, rfl, rfl, trivial⟩ ?_
        refine W.region ?_
        refine T.q (q_move rfl rfl) (Wt.plain rfl) rfl rfl ?_
        refine T.q (q_addi rfl rfl rfl (by omega) (by omega)) (Wt.plain rfl) rfl rfl ?_
        refine T.q (q_assign rfl rfl) (Wt.plain rfl) rfl rfl ?_
        refine T.nil ?_
        exact Ex.again [true, true] (⟨i + 1, E2, t0, t1⟩ : Nat × Int × List Int × List Int) (by dsimp only; omega) ⟨by dsimp only; omega, by dsimp only; omega, by dsimp only; omega, by dsimp only; omega, by dsimp only; omega⟩ ⟨rfl, rfl, rfl, rfl, trivial⟩ (by first | (dsimp only [pick]; done) | rfl)
    · replace hb5 := of_decide_eq_false hb5
      refine W.exit ?_
      refine Ex.then_exit ?_
      refine Ex.then_exit ?_
      refine Ex.in_here ?_
      refine Ex.next ?_
      refine W.slots (L' := []) trivial ?_
      refine W.seq ?_
      refine W.region ?_
      refine T.q (q_assign rfl rfl) (Wt.plain rfl) rfl rfl ?_
      refine T.nil ?_
      refine Ex.next ?_
      refine W.slots (L' := [(4, _)]) ⟨rfl, trivial⟩ ?_
      refine W.ret ?_
      refine Ex.out1 [false, false] rfl rfl ?_
      exact ⟨rfl, rfl⟩
  · replace hb4 := of_decide_eq_false hb4
    refine T.no (Wn.no rfl rfl rfl rfl) rfl rfl ?_
    refine T.no (Wn.no rfl rfl rfl rfl) rfl rfl ?_
    refine T.q (q_pickF rfl rfl rfl) (Wt.plain rfl) rfl rfl ?_
    refine T.nil ?_
    refine Ex.next ?_
    refine W.slots (L' := [(1, _), (6, _), (7, _), (8, _), (38, _)]) ⟨rfl, rfl, rfl, rfl, rfl, trivial⟩ ?_
    refine W.condF rfl ?_
    refine W.exit ?_
    refine Ex.then_exit ?_
    refine Ex.then_exit ?_
    refine Ex.in_here ?_
    refine Ex.next ?_
    refine W.slots (L' := []) trivial ?_
    refine W.seq ?_
    refine W.region ?_
    refine T.q (q_assign rfl rfl) (Wt.plain rfl) rfl rfl ?_
    refine T.nil ?_
    refine Ex.next ?_
    refine W.slots (L' := [(4, _)]) ⟨rfl, trivial⟩ ?_
    refine W.ret ?_
    refine Ex.out1 [false, false] rfl rfl ?_
    exact ⟨rfl, rfl⟩

end Go.Proofs.YtkoomaoelekpaaaDoor
