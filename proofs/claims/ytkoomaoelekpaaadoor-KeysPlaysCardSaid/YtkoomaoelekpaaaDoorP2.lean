/-
  The walks of layer 15: keys go on.
-/
import Derived.Test.YtkoomaoelekpaaaDoorK5
import Derived.Test.YtkoomaoelekpaaaDoorX14
import Derived.Test.YtkoomaoelekpaaaDoorPureK
import Derived.Test.YtkoomaoelekpaaaDoorHP
namespace Go.Proofs.YtkoomaoelekpaaaDoor
open Go Go.X

set_option maxRecDepth 100000 in
set_option maxHeartbeats 1000000 in
theorem adv_spec (E f : Int) (s0 s1 : List Int) (kp : Nat) (hE : 0 ≤ E) (hE2 : E ≤ 65535) (h0 : s0.length = 32) (h1 : s1.length = 32) (hq0 : 0 ≠ kp) (hq1 : 1 ≠ kp) (hq2 : 2 ≠ kp) (w0 : World) (hk : (⟨some kp, .int .i64 E :: (.int .i64 f :: (ints .u8 s0 ++ (ints .u8 s1))), 76, (0, 0)⟩ : Blk).here w0) (hg0 : Reads w0 (some ⟨0, 0, none⟩) (ints .u32 startW)) (hg1 : Reads w0 (some ⟨1, 0, none⟩) (ints .u8 sgm)) (hg2 : Reads w0 (some ⟨2, 0, none⟩) (ints .u8 tbl)) : Does Tryd.prog 38 #[.pointer (some ⟨kp, 0, none⟩)] w0 [kp] (fun r G => ∃ cs G2, (r = .int .i64 (advR E) ∧ cs = .int .i64 (advE E) :: (.int .i64 f :: (ints .u8 (advK E s0) ++ (ints .u8 (advL E s0 s1)))) ∧ G2 = []) ∧ G = ⟨some kp, cs, 76, (0, 0)⟩ :: G2) := by
  refine spec_ofB 34 [⟨some kp, .int .i64 E :: (.int .i64 f :: (ints .u8 s0 ++ (ints .u8 s1))), 76, (0, 0)⟩] (Mem.own1 rfl hk) Tryd.func38 rfl rfl rfl ?_
  refine W.seq ?_
  refine W.region ?_
  refine T.q (q_assign rfl rfl) (Wt.plain rfl) rfl rfl ?_
  refine T.nil ?_
  refine Ex.next ?_
  refine W.slots (L' := [(0, _)]) ⟨rfl, trivial⟩ ?_
  refine W.seq ?_
  refine W.seq ?_
  refine W.region ?_
  refine T.q (q_move rfl rfl) (Wt.plain rfl) rfl rfl ?_
  refine T.q (q_nil rfl rfl) (Wt.plain rfl) rfl rfl ?_
  refine T.q (q_fld fl76_0 rfl rfl) (Wt.plain rfl) rfl rfl ?_
  refine T.q (q_load1 ss3 0 rfl rfl rfl (rfl)) (Wt.plain rfl) rfl rfl ?_
  refine T.q (q_geq rfl rfl rfl) (Wt.plain rfl) rfl rfl ?_
  refine T.nil ?_
  refine Ex.next ?_
  refine W.slots (L' := [(0, _), (7, _)]) ⟨rfl, rfl, trivial⟩ ?_
  refine W.cond _ rfl (fun hb1 => ?_) (fun hb1 => ?_)
  · replace hb1 := of_decide_eq_true hb1
    refine W.seq ?_
    refine W.region ?_
    refine T.q (q_assign rfl rfl) (Wt.plain rfl) rfl rfl ?_
    refine T.nil ?_
    refine Ex.next ?_
    refine W.slots (L' := [(2, _)]) ⟨rfl, trivial⟩ ?_
    refine W.ret ?_
    refine Ex.then_ret ?_
    refine Ex.out1 [true] rfl rfl ?_
    exact ⟨_, _, ⟨by rw [advR, if_pos (by omega)], by rw [advE, if_pos (by omega), advK, if_pos (by omega), advL, if_pos (by omega)] <;> rfl, rfl⟩, rfl⟩
  · replace hb1 := of_decide_eq_false hb1
    refine W.skip ?_
    refine Ex.next ?_
    refine W.slots (L' := [(0, _)]) ⟨rfl, trivial⟩ ?_
    refine W.seq ?_
    refine W.drawP 21 [false] (by kernel_rfl) ?_
    refine D.take 0 rfl (by kernel_rfl) (S_sub ((List.Sublist.slnil).cons _)) (q_move rfl rfl) (Wt.plain rfl) rfl rfl ?_
    refine D.take 1 rfl (by kernel_rfl) (S_sub ((List.Sublist.slnil).cons _)) (q_move rfl rfl) (Wt.plain rfl) rfl rfl ?_
    refine D.take 2 rfl (by kernel_rfl) (S_sub ((List.Sublist.slnil).cons _)) (q_move rfl rfl) (Wt.plain rfl) rfl rfl ?_
    refine D.take 3 rfl (by kernel_rfl) (S_sub ((List.Sublist.slnil).cons _)) (q_nil rfl rfl) (Wt.plain rfl) rfl rfl ?_
    refine D.take 4 rfl (by kernel_rfl) (S_sub ((List.Sublist.slnil).cons _)) (q_fld fl76_2 rfl rfl) (Wt.plain rfl) rfl rfl ?_
    refine D.take 5 rfl (by kernel_rfl) (S_sub ((List.Sublist.slnil).cons _)) (q_ixAs ar74 0 rfl rfl rfl (rfl) (by decide)) (Wt.plain rfl) rfl rfl ?_
    refine D.take 8 rfl (by kernel_rfl) (S_sub ((List.Sublist.slnil).cons _)) (q_move rfl rfl) (Wt.plain rfl) rfl rfl ?_
    refine D.take 9 rfl (by kernel_rfl) (S_sub ((List.Sublist.slnil).cons _)) (q_nil rfl rfl) (Wt.plain rfl) rfl rfl ?_
    refine D.take 10 rfl (by kernel_rfl) (S_sub ((List.Sublist.slnil).cons _)) (q_fld fl76_2 rfl rfl) (Wt.plain rfl) rfl rfl ?_
    refine D.take 11 rfl (by kernel_rfl) (S_sub ((List.Sublist.slnil).cons _)) (q_ixAs ar74 0 rfl rfl rfl (rfl) (by decide)) (Wt.plain rfl) rfl rfl ?_
    refine D.take 13 rfl (by kernel_rfl) (S_sub ((List.Sublist.slnil).cons _)) (q_nil rfl rfl) (Wt.plain rfl) rfl rfl ?_
    refine D.take 14 rfl (by kernel_rfl) (S_sub ((List.Sublist.slnil).cons _)) (q_fld fl76_2 rfl rfl) (Wt.plain rfl) rfl rfl ?_
    refine D.take 17 rfl (by kernel_rfl) (S_sub ((List.Sublist.slnil).cons _)) (q_nil rfl rfl) (Wt.plain rfl) rfl rfl ?_
    refine D.take 18 rfl (by kernel_rfl) (S_sub ((List.Sublist.slnil).cons _)) (q_fld fl76_2 rfl rfl) (Wt.plain rfl) rfl rfl ?_
    refine D.two 6 12 (by kernel_rfl) ?_ ?_
    ·
      refine Up.q rfl (q_loadW (wide_ints wd29 (by first | omega | (simp; done) | (simp [-List.getD_eq_getElem?_getD]; omega) | (simp at *; omega) | rfl)) (R_at 0 2 32 rfl (part_skip1 (part_skip1 (part_first (by first | omega | (simp; done) | (simp [-List.getD_eq_getElem?_getD]; omega) | (simp at *; omega) | rfl))))) rfl rfl) (Wt.plain rfl) rfl rfl (fun _ => (S_sub ((List.Sublist.slnil).cons _))) ?_
      refine D.two 7 12 (by kernel_rfl) ?_ ?_
      ·
        refine Up.eff rfl (e_call enters30 rfl rfl (fun w hm => later_spec s0 (by first | omega | (simp; done) | (simp; omega) | (simp at *; omega)) w (R_ext (hg0.extX hq0) w hm) (R_ext (hg1.extX hq1) w hm) (R_ext (hg2.extX hq2) w hm)) rfl rfl) (Wt.plain rfl) ?_
        rintro _ _ ⟨_, _, ⟨rfl, rfl⟩, rfl, rfl⟩
        refine ⟨fun _ => (S_sub ((List.Sublist.slnil).cons _)), ?_⟩
        change (_ : List Blk → Prop) [_]
        refine D.one 12 (by kernel_rfl) ?_
        refine Up.q rfl (q_loadW (wide_ints wd29 (by first | omega | (simp; done) | (simp [-List.getD_eq_getElem?_getD]; omega) | (simp at *; omega) | rfl)) (R_at 0 2 32 rfl (part_skip1 (part_skip1 (part_first (by first | omega | (simp; done) | (simp [-List.getD_eq_getElem?_getD]; omega) | (simp at *; omega) | rfl))))) rfl rfl) (Wt.plain rfl) rfl rfl (fun _ => (S_sub ((List.Sublist.slnil).cons _))) ?_
        refine D.take 15 rfl (by kernel_rfl) (S_sub ((List.Sublist.slnil).cons _)) (q_ixAs ar74 0 rfl rfl rfl (rfl) (by decide)) (Wt.plain rfl) rfl rfl ?_
        refine D.one 16 (by kernel_rfl) ?_
        refine Up.eff rfl (e_storeP (wide_ints wd29 (by first | omega | (simp; done) | (simp [-List.getD_eq_getElem?_getD]; omega) | (simp at *; omega) | rfl)) 0 rfl rfl rfl rfl (by first | (simp; done) | (simp; omega)) ints_one (put_skip1 (put_skip1 (put_first (by first | omega | (simp; done) | (simp [-List.getD_eq_getElem?_getD]; omega) | (simp at *; omega) | rfl)))) rfl) (Wt.plain rfl) ?_
        rintro _ _ ⟨rfl, rfl⟩
        refine ⟨fun _ => (S_sub ((List.Sublist.slnil).cons _)), ?_⟩
        change (_ : List Blk → Prop) [_]
        refine D.take 19 rfl (by kernel_rfl) (S_sub ((List.Sublist.slnil).cons _)) (q_ixAs ar74 1 rfl rfl rfl (rfl) (by decide)) (Wt.plain rfl) rfl rfl ?_
        refine D.one 20 (by kernel_rfl) ?_
        refine Up.eff rfl (e_storeP (wide_ints wd29 (by first | omega | (simp; done) | (simp [-List.getD_eq_getElem?_getD]; omega) | (simp at *; omega) | rfl)) 0 rfl rfl rfl rfl (by first | (simp; done) | (simp; omega)) ints_one (put_skip1 (put_skip1 (put_skip 32 (by first | omega | (simp; done) | (simp [-List.getD_eq_getElem?_getD]; omega) | (simp at *; omega) | rfl) rfl (put_last (by first | omega | (simp; done) | (simp [-List.getD_eq_getElem?_getD]; omega) | (simp at *; omega) | rfl))))) rfl) (Wt.plain rfl) ?_
        rintro _ _ ⟨rfl, rfl⟩
        refine ⟨fun _ => (S_sub ((List.Sublist.slnil).cons _)), ?_⟩
        change (_ : List Blk → Prop) [_]
        refine D.done (by kernel_rfl) ?_
        refine Ex.next ?_
        refine W.slots (L' := [(0, _)]) ⟨rfl, trivial⟩ ?_
        refine W.seq ?_
        refine W.region ?_
        refine T.q (q_move rfl rfl) (Wt.plain rfl) rfl rfl ?_
        refine T.q (q_nil rfl rfl) (Wt.plain rfl) rfl rfl ?_
        refine T.q (q_fld fl76_0 rfl rfl) (Wt.plain rfl) rfl rfl ?_
        refine T.q (q_load1 ss3 0 rfl rfl rfl (rfl)) (Wt.plain rfl) rfl rfl ?_
        refine T.q (q_addi rfl rfl rfl (by omega) (by omega)) (Wt.plain rfl) rfl rfl ?_
        refine T.q (q_nil rfl rfl) (Wt.plain rfl) rfl rfl ?_
        refine T.q (q_fld fl76_0 rfl rfl) (Wt.plain rfl) rfl rfl ?_
        refine T.eff (e_storeP1 ss3 0 rfl rfl rfl rfl (by first | (simp; done) | (simp; omega)) rfl (rfl) rfl) (Wt.plain rfl) ?_
        rintro _ _ ⟨rfl, rfl⟩
        change (_ : List Blk → Prop) [_]
        refine T.nil ?_
        refine Ex.next ?_
        refine W.slots (L' := []) trivial ?_
        refine W.seq ?_
        refine W.region ?_
        refine T.q (q_assign rfl rfl) (Wt.plain rfl) rfl rfl ?_
        refine T.nil ?_
        refine Ex.next ?_
        refine W.slots (L' := [(2, _)]) ⟨rfl, trivial⟩ ?_
        refine W.ret ?_
        refine Ex.out1 [true] rfl rfl ?_
        exact ⟨_, _, ⟨by rw [advR, if_neg (by omega)], by rw [advE, if_neg (by omega), advK, if_neg (by omega), advL, if_neg (by omega)] <;> rfl, rfl⟩, rfl⟩
      ·
        refine Up.q rfl (q_loadW (wide_ints wd29 (by first | omega | (simp; done) | (simp [-List.getD_eq_getElem?_getD]; omega) | (simp at *; omega) | rfl)) (R_at 0 2 32 rfl (part_skip1 (part_skip1 (part_first (by first | omega | (simp; done) | (simp [-List.getD_eq_getElem?_getD]; omega) | (simp at *; omega) | rfl))))) rfl rfl) (Wt.plain rfl) rfl rfl (fun _ => (S_sub ((List.Sublist.slnil).cons _))) ?_
        refine D.one 7 (by kernel_rfl) ?_
        refine Up.eff rfl (e_call enters30 rfl rfl (fun w hm => later_spec s0 (by first | omega | (simp; done) | (simp; omega) | (simp at *; omega)) w (R_ext (hg0.extX hq0) w hm) (R_ext (hg1.extX hq1) w hm) (R_ext (hg2.extX hq2) w hm)) rfl rfl) (Wt.plain rfl) ?_
        rintro _ _ ⟨_, _, ⟨rfl, rfl⟩, rfl, rfl⟩
        refine ⟨fun _ => (S_sub ((List.Sublist.slnil).cons _)), ?_⟩
        change (_ : List Blk → Prop) [_]
        refine D.take 15 rfl (by kernel_rfl) (S_sub ((List.Sublist.slnil).cons _)) (q_ixAs ar74 0 rfl rfl rfl (rfl) (by decide)) (Wt.plain rfl) rfl rfl ?_
        refine D.one 16 (by kernel_rfl) ?_
        refine Up.eff rfl (e_storeP (wide_ints wd29 (by first | omega | (simp; done) | (simp [-List.getD_eq_getElem?_getD]; omega) | (simp at *; omega) | rfl)) 0 rfl rfl rfl rfl (by first | (simp; done) | (simp; omega)) ints_one (put_skip1 (put_skip1 (put_first (by first | omega | (simp; done) | (simp [-List.getD_eq_getElem?_getD]; omega) | (simp at *; omega) | rfl)))) rfl) (Wt.plain rfl) ?_
        rintro _ _ ⟨rfl, rfl⟩
        refine ⟨fun _ => (S_sub ((List.Sublist.slnil).cons _)), ?_⟩
        change (_ : List Blk → Prop) [_]
        refine D.take 19 rfl (by kernel_rfl) (S_sub ((List.Sublist.slnil).cons _)) (q_ixAs ar74 1 rfl rfl rfl (rfl) (by decide)) (Wt.plain rfl) rfl rfl ?_
        refine D.one 20 (by kernel_rfl) ?_
        refine Up.eff rfl (e_storeP (wide_ints wd29 (by first | omega | (simp; done) | (simp [-List.getD_eq_getElem?_getD]; omega) | (simp at *; omega) | rfl)) 0 rfl rfl rfl rfl (by first | (simp; done) | (simp; omega)) ints_one (put_skip1 (put_skip1 (put_skip 32 (by first | omega | (simp; done) | (simp [-List.getD_eq_getElem?_getD]; omega) | (simp at *; omega) | rfl) rfl (put_last (by first | omega | (simp; done) | (simp [-List.getD_eq_getElem?_getD]; omega) | (simp at *; omega) | rfl))))) rfl) (Wt.plain rfl) ?_
        rintro _ _ ⟨rfl, rfl⟩
        refine ⟨fun _ => (S_sub ((List.Sublist.slnil).cons _)), ?_⟩
        change (_ : List Blk → Prop) [_]
        refine D.done (by kernel_rfl) ?_
        refine Ex.next ?_
        refine W.slots (L' := [(0, _)]) ⟨rfl, trivial⟩ ?_
        refine W.seq ?_
        refine W.region ?_
        refine T.q (q_move rfl rfl) (Wt.plain rfl) rfl rfl ?_
        refine T.q (q_nil rfl rfl) (Wt.plain rfl) rfl rfl ?_
        refine T.q (q_fld fl76_0 rfl rfl) (Wt.plain rfl) rfl rfl ?_
        refine T.q (q_load1 ss3 0 rfl rfl rfl (rfl)) (Wt.plain rfl) rfl rfl ?_
        refine T.q (q_addi rfl rfl rfl (by omega) (by omega)) (Wt.plain rfl) rfl rfl ?_
        refine T.q (q_nil rfl rfl) (Wt.plain rfl) rfl rfl ?_
        refine T.q (q_fld fl76_0 rfl rfl) (Wt.plain rfl) rfl rfl ?_
        refine T.eff (e_storeP1 ss3 0 rfl rfl rfl rfl (by first | (simp; done) | (simp; omega)) rfl (rfl) rfl) (Wt.plain rfl) ?_
        rintro _ _ ⟨rfl, rfl⟩
        change (_ : List Blk → Prop) [_]
        refine T.nil ?_
        refine Ex.next ?_
        refine W.slots (L' := []) trivial ?_
        refine W.seq ?_
        refine W.region ?_
        refine T.q (q_assign rfl rfl) (Wt.plain rfl) rfl rfl ?_
        refine T.nil ?_
        refine Ex.next ?_
        refine W.slots (L' := [(2, _)]) ⟨rfl, trivial⟩ ?_
        refine W.ret ?_
        refine Ex.out1 [true] rfl rfl ?_
        exact ⟨_, _, ⟨by rw [advR, if_neg (by omega)], by rw [advE, if_neg (by omega), advK, if_neg (by omega), advL, if_neg (by omega)] <;> rfl, rfl⟩, rfl⟩
    ·
      refine Up.q rfl (q_loadW (wide_ints wd29 (by first | omega | (simp; done) | (simp [-List.getD_eq_getElem?_getD]; omega) | (simp at *; omega) | rfl)) (R_at 0 2 32 rfl (part_skip1 (part_skip1 (part_first (by first | omega | (simp; done) | (simp [-List.getD_eq_getElem?_getD]; omega) | (simp at *; omega) | rfl))))) rfl rfl) (Wt.plain rfl) rfl rfl (fun _ => (S_sub ((List.Sublist.slnil).cons _))) ?_
      refine D.one 6 (by kernel_rfl) ?_
      refine Up.q rfl (q_loadW (wide_ints wd29 (by first | omega | (simp; done) | (simp [-List.getD_eq_getElem?_getD]; omega) | (simp at *; omega) | rfl)) (R_at 0 2 32 rfl (part_skip1 (part_skip1 (part_first (by first | omega | (simp; done) | (simp [-List.getD_eq_getElem?_getD]; omega) | (simp at *; omega) | rfl))))) rfl rfl) (Wt.plain rfl) rfl rfl (fun _ => (S_sub ((List.Sublist.slnil).cons _))) ?_
      refine D.one 7 (by kernel_rfl) ?_
      refine Up.eff rfl (e_call enters30 rfl rfl (fun w hm => later_spec s0 (by first | omega | (simp; done) | (simp; omega) | (simp at *; omega)) w (R_ext (hg0.extX hq0) w hm) (R_ext (hg1.extX hq1) w hm) (R_ext (hg2.extX hq2) w hm)) rfl rfl) (Wt.plain rfl) ?_
      rintro _ _ ⟨_, _, ⟨rfl, rfl⟩, rfl, rfl⟩
      refine ⟨fun _ => (S_sub ((List.Sublist.slnil).cons _)), ?_⟩
      change (_ : List Blk → Prop) [_]
      refine D.take 15 rfl (by kernel_rfl) (S_sub ((List.Sublist.slnil).cons _)) (q_ixAs ar74 0 rfl rfl rfl (rfl) (by decide)) (Wt.plain rfl) rfl rfl ?_
      refine D.one 16 (by kernel_rfl) ?_
      refine Up.eff rfl (e_storeP (wide_ints wd29 (by first | omega | (simp; done) | (simp [-List.getD_eq_getElem?_getD]; omega) | (simp at *; omega) | rfl)) 0 rfl rfl rfl rfl (by first | (simp; done) | (simp; omega)) ints_one (put_skip1 (put_skip1 (put_first (by first | omega | (simp; done) | (simp [-List.getD_eq_getElem?_getD]; omega) | (simp at *; omega) | rfl)))) rfl) (Wt.plain rfl) ?_
      rintro _ _ ⟨rfl, rfl⟩
      refine ⟨fun _ => (S_sub ((List.Sublist.slnil).cons _)), ?_⟩
      change (_ : List Blk → Prop) [_]
      refine D.take 19 rfl (by kernel_rfl) (S_sub ((List.Sublist.slnil).cons _)) (q_ixAs ar74 1 rfl rfl rfl (rfl) (by decide)) (Wt.plain rfl) rfl rfl ?_
      refine D.one 20 (by kernel_rfl) ?_
      refine Up.eff rfl (e_storeP (wide_ints wd29 (by first | omega | (simp; done) | (simp [-List.getD_eq_getElem?_getD]; omega) | (simp at *; omega) | rfl)) 0 rfl rfl rfl rfl (by first | (simp; done) | (simp; omega)) ints_one (put_skip1 (put_skip1 (put_skip 32 (by first | omega | (simp; done) | (simp [-List.getD_eq_getElem?_getD]; omega) | (simp at *; omega) | rfl) rfl (put_last (by first | omega | (simp; done) | (simp [-List.getD_eq_getElem?_getD]; omega) | (simp at *; omega) | rfl))))) rfl) (Wt.plain rfl) ?_
      rintro _ _ ⟨rfl, rfl⟩
      refine ⟨fun _ => (S_sub ((List.Sublist.slnil).cons _)), ?_⟩
      change (_ : List Blk → Prop) [_]
      refine D.done (by kernel_rfl) ?_
      refine Ex.next ?_
      refine W.slots (L' := [(0, _)]) ⟨rfl, trivial⟩ ?_
      refine W.seq ?_
      refine W.region ?_
      refine T.q (q_move rfl rfl) (Wt.plain rfl) rfl rfl ?_
      refine T.q (q_nil rfl rfl) (Wt.plain rfl) rfl rfl ?_
      refine T.q (q_fld fl76_0 rfl rfl) (Wt.plain rfl) rfl rfl ?_
      refine T.q (q_load1 ss3 0 rfl rfl rfl (rfl)) (Wt.plain rfl) rfl rfl ?_
      refine T.q (q_addi rfl rfl rfl (by omega) (by omega)) (Wt.plain rfl) rfl rfl ?_
      refine T.q (q_nil rfl rfl) (Wt.plain rfl) rfl rfl ?_
      refine T.q (q_fld fl76_0 rfl rfl) (Wt.plain rfl) rfl rfl ?_
      refine T.eff (e_storeP1 ss3 0 rfl rfl rfl rfl (by first | (simp; done) | (simp; omega)) rfl (rfl) rfl) (Wt.plain rfl) ?_
      rintro _ _ ⟨rfl, rfl⟩
      change (_ : List Blk → Prop) [_]
      refine T.nil ?_
      refine Ex.next ?_
      refine W.slots (L' := []) trivial ?_
      refine W.seq ?_
      refine W.region ?_
      refine T.q (q_assign rfl rfl) (Wt.plain rfl) rfl rfl ?_
      refine T.nil ?_
      refine Ex.next ?_
      refine W.slots (L' := [(2, _)]) ⟨rfl, trivial⟩ ?_
      refine W.ret ?_
      refine Ex.out1 [true] rfl rfl ?_
      exact ⟨_, _, ⟨by rw [advR, if_neg (by omega)], by rw [advE, if_neg (by omega), advK, if_neg (by omega), advL, if_neg (by omega)] <;> rfl, rfl⟩, rfl⟩
set_option maxRecDepth 100000 in
theorem refadv_spec (E : Int) (s0 s1 : List Int) (hs : Bool) (kp : Nat) (hE : 0 ≤ E) (hE2 : E ≤ 65535) (h0 : s0.length = 32) (h1 : s1.length = 32) (w0 : World) (hk : (⟨some kp, .int .i64 E :: (ints .u8 s0 ++ (ints .u8 s1 ++ [.bool hs])), 55, (0, 0)⟩ : Blk).here w0) : Does Tryd.prog 46 #[.pointer (some ⟨kp, 0, none⟩)] w0 [kp] (fun r G => ∃ cs G2, (r = .int .i64 (advR E) ∧ cs = .int .i64 (advE E) :: (ints .u8 (advK E s0) ++ (ints .u8 (advL E s0 s1) ++ [.bool (advH E hs)])) ∧ G2 = []) ∧ G = ⟨some kp, cs, 55, (0, 0)⟩ :: G2) := by
  refine spec_ofB 33 [⟨some kp, .int .i64 E :: (ints .u8 s0 ++ (ints .u8 s1 ++ [.bool hs])), 55, (0, 0)⟩] (Mem.own1 rfl hk) Tryd.func46 rfl rfl rfl ?_
  refine W.seq ?_
  refine W.region ?_
  refine T.q (q_assign rfl rfl) (Wt.plain rfl) rfl rfl ?_
  refine T.nil ?_
  refine Ex.next ?_
  refine W.slots (L' := [(0, _)]) ⟨rfl, trivial⟩ ?_
  refine W.seq ?_
  refine W.seq ?_
  refine W.region ?_
  refine T.q (q_move rfl rfl) (Wt.plain rfl) rfl rfl ?_
  refine T.q (q_nil rfl rfl) (Wt.plain rfl) rfl rfl ?_
  refine T.q (q_fld fl55_0 rfl rfl) (Wt.plain rfl) rfl rfl ?_
  refine T.q (q_load1 ss3 0 rfl rfl rfl (rfl)) (Wt.plain rfl) rfl rfl ?_
  refine T.q (q_geq rfl rfl rfl) (Wt.plain rfl) rfl rfl ?_
  refine T.nil ?_
  refine Ex.next ?_
  refine W.slots (L' := [(0, _), (7, _)]) ⟨rfl, rfl, trivial⟩ ?_
  refine W.cond _ rfl (fun hb1 => ?_) (fun hb1 => ?_)
  · replace hb1 := of_decide_eq_true hb1
    refine W.seq ?_
    refine W.region ?_
    refine T.q (q_assign rfl rfl) (Wt.plain rfl) rfl rfl ?_
    refine T.nil ?_
    refine Ex.next ?_
    refine W.slots (L' := [(2, _)]) ⟨rfl, trivial⟩ ?_
    refine W.ret ?_
    refine Ex.then_ret ?_
    refine Ex.out1 [true] rfl rfl ?_
    exact ⟨_, _, ⟨by rw [advR, if_pos (by omega)], by rw [advE, if_pos (by omega), advK, if_pos (by omega), advL, if_pos (by omega), advH, if_pos (by omega)] <;> rfl, rfl⟩, rfl⟩
  · replace hb1 := of_decide_eq_false hb1
    refine W.skip ?_
    refine Ex.next ?_
    refine W.slots (L' := [(0, _)]) ⟨rfl, trivial⟩ ?_
    refine W.seq ?_
    refine W.region ?_
    refine T.q (q_move rfl rfl) (Wt.plain rfl) rfl rfl ?_
    refine T.q (q_move rfl rfl) (Wt.plain rfl) rfl rfl ?_
    refine T.q (q_nil rfl rfl) (Wt.plain rfl) rfl rfl ?_
    refine T.q (q_fld fl55_1 rfl rfl) (Wt.plain rfl) rfl rfl ?_
    refine T.q (q_loadW (wide_ints wd29 (by first | omega | (simp; done) | (simp [-List.getD_eq_getElem?_getD]; omega) | (simp at *; omega) | rfl)) (R_at 0 1 32 rfl (part_skip1 (part_first (by first | omega | (simp; done) | (simp [-List.getD_eq_getElem?_getD]; omega) | (simp at *; omega) | rfl)))) rfl rfl) (Wt.plain rfl) rfl rfl ?_
    refine T.q (q_nil rfl rfl) (Wt.plain rfl) rfl rfl ?_
    refine T.q (q_fld fl55_2 rfl rfl) (Wt.plain rfl) rfl rfl ?_
    refine T.eff (e_storeP (wide_ints wd29 (by first | omega | (simp; done) | (simp [-List.getD_eq_getElem?_getD]; omega) | (simp at *; omega) | rfl)) 0 rfl rfl rfl rfl (by first | (simp; done) | (simp; omega)) ints_one (put_skip1 (put_skip 32 (by first | omega | (simp; done) | (simp [-List.getD_eq_getElem?_getD]; omega) | (simp at *; omega) | rfl) rfl (put_first (by first | omega | (simp; done) | (simp [-List.getD_eq_getElem?_getD]; omega) | (simp at *; omega) | rfl)))) rfl) (Wt.plain rfl) ?_
    rintro _ _ ⟨rfl, rfl⟩
    change (_ : List Blk → Prop) [_]
    refine T.nil ?_
    refine Ex.next ?_
    refine W.slots (L' := [(0, _)]) ⟨rfl, trivial⟩ ?_
    refine W.seq ?_
    refine W.region ?_
    refine T.q (q_move rfl rfl) (Wt.plain rfl) rfl rfl ?_
    refine T.q (q_nil rfl rfl) (Wt.plain rfl) rfl rfl ?_
    refine T.q (q_fld fl55_3 rfl rfl) (Wt.plain rfl) rfl rfl ?_
    refine T.eff (e_storeP1 ss4 0 rfl rfl rfl rfl (by first | (simp; done) | (simp; omega)) rfl (set_skip1 (set_skip 32 (by first | omega | (simp; done) | (simp [-List.getD_eq_getElem?_getD]; omega) | (simp at *; omega) | rfl) rfl (set_skip 32 (by first | omega | (simp; done) | (simp [-List.getD_eq_getElem?_getD]; omega) | (simp at *; omega) | rfl) rfl (rfl)))) rfl) (Wt.plain rfl) ?_
    rintro _ _ ⟨rfl, rfl⟩
    change (_ : List Blk → Prop) [_]
    refine T.nil ?_
    refine Ex.next ?_
    refine W.slots (L' := [(0, _)]) ⟨rfl, trivial⟩ ?_
    refine W.seq ?_
    refine W.region ?_
    refine T.q (q_move rfl rfl) (Wt.plain rfl) rfl rfl ?_
    refine T.q (q_move rfl rfl) (Wt.plain rfl) rfl rfl ?_
    refine T.q (q_nil rfl rfl) (Wt.plain rfl) rfl rfl ?_
    refine T.q (q_fld fl55_1 rfl rfl) (Wt.plain rfl) rfl rfl ?_
    refine T.q (q_loadW (wide_ints wd29 (by first | omega | (simp; done) | (simp [-List.getD_eq_getElem?_getD]; omega) | (simp at *; omega) | rfl)) (R_at 0 1 32 rfl (part_skip1 (part_first (by first | omega | (simp; done) | (simp [-List.getD_eq_getElem?_getD]; omega) | (simp at *; omega) | rfl)))) rfl rfl) (Wt.plain rfl) rfl rfl ?_
    refine T.eff (e_call enters31 rfl rfl (fun w hm => reflater_spec s0 (by first | omega | (simp; done) | (simp; omega) | (simp at *; omega)) w) rfl rfl) (Wt.plain rfl) ?_
    rintro _ _ ⟨_, _, ⟨rfl, rfl⟩, rfl, rfl⟩
    change (_ : List Blk → Prop) [_]
    refine T.q (q_nil rfl rfl) (Wt.plain rfl) rfl rfl ?_
    refine T.q (q_fld fl55_1 rfl rfl) (Wt.plain rfl) rfl rfl ?_
    refine T.eff (e_storeP (wide_ints wd29 (by first | omega | (simp; done) | (simp [-List.getD_eq_getElem?_getD]; omega) | (simp at *; omega) | rfl)) 0 rfl rfl rfl rfl (by first | (simp; done) | (simp; omega)) ints_one (put_skip1 (put_first (by first | omega | (simp; done) | (simp [-List.getD_eq_getElem?_getD]; omega) | (simp at *; omega) | rfl))) rfl) (Wt.plain rfl) ?_
    rintro _ _ ⟨rfl, rfl⟩
    change (_ : List Blk → Prop) [_]
    refine T.nil ?_
    refine Ex.next ?_
    refine W.slots (L' := [(0, _)]) ⟨rfl, trivial⟩ ?_
    refine W.seq ?_
    refine W.region ?_
    refine T.q (q_move rfl rfl) (Wt.plain rfl) rfl rfl ?_
    refine T.q (q_nil rfl rfl) (Wt.plain rfl) rfl rfl ?_
    refine T.q (q_fld fl55_0 rfl rfl) (Wt.plain rfl) rfl rfl ?_
    refine T.q (q_load1 ss3 0 rfl rfl rfl (rfl)) (Wt.plain rfl) rfl rfl ?_
    refine T.q (q_addi rfl rfl rfl (by omega) (by omega)) (Wt.plain rfl) rfl rfl ?_
    refine T.q (q_nil rfl rfl) (Wt.plain rfl) rfl rfl ?_
    refine T.q (q_fld fl55_0 rfl rfl) (Wt.plain rfl) rfl rfl ?_
    refine T.eff (e_storeP1 ss3 0 rfl rfl rfl rfl (by first | (simp; done) | (simp; omega)) rfl (rfl) rfl) (Wt.plain rfl) ?_
    rintro _ _ ⟨rfl, rfl⟩
    change (_ : List Blk → Prop) [_]
    refine T.nil ?_
    refine Ex.next ?_
    refine W.slots (L' := []) trivial ?_
    refine W.seq ?_
    refine W.region ?_
    refine T.q (q_assign rfl rfl) (Wt.plain rfl) rfl rfl ?_
    refine T.nil ?_
    refine Ex.next ?_
    refine W.slots (L' := [(2, _)]) ⟨rfl, trivial⟩ ?_
    refine W.ret ?_
    refine Ex.out1 [true] rfl rfl ?_
    exact ⟨_, _, ⟨by rw [advR, if_neg (by omega)], by rw [advE, if_neg (by omega), advK, if_neg (by omega), advL, if_neg (by omega), advH, if_neg (by omega)] <;> rfl, rfl⟩, rfl⟩

end Go.Proofs.YtkoomaoelekpaaaDoor
