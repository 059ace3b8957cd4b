/-
  The walks of layer 4: the reference of a block.
-/
import Derived.Test.YtgljacciacbggaaDoorW1
namespace Go.Proofs.YtgljacciacbggaaDoor
open Go Go.X
set_option maxRecDepth 100000 in
set_option maxHeartbeats 2000000 in
theorem refblock_spec (key nonce : List Int) (ctr : Int) (hk : key.length = 32) (hnn : nonce.length = 12) (w0 : World) : Does Tryd.prog 13 #[.agg (ints .u8 key).toArray, .int .u32 ctr, .agg (ints .u8 nonce).toArray] w0 [] (fun v G => v = .agg (ints .u8 (block key nonce ctr)).toArray ∧ G = []) := by
  refine spec_of 155 Tryd.func13 rfl rfl rfl ?_
  refine W.seq ?_
  refine W.region ?_
  refine T.eff (e_box rfl rfl rfl rfl) (Wt.plain rfl) ?_
  rintro _ _ ⟨k1, rfl, rfl⟩
  change (_ : List Blk → Prop) [_]
  refine T.eff (e_box rfl rfl rfl rfl) (Wt.plain rfl) ?_
  rintro _ _ ⟨k2, rfl, rfl⟩
  change (_ : List Blk → Prop) [_, _]
  refine T.eff (e_alloc ze31 rfl rfl rfl) (Wt.plain rfl) ?_
  rintro _ _ ⟨k3, rfl, rfl⟩
  change (_ : List Blk → Prop) [_, _, _]
  refine T.nil ?_
  refine Ex.next ?_
  refine W.slots (L' := [(1, _), (3, _), (5, _), (6, _)]) ⟨rfl, rfl, rfl, rfl, trivial⟩ ?_
  refine W.seq ?_
  refine W.region ?_
  refine T.eff (e_litA sc48 ze22 rfl rfl rfl (by simp [Value.cells]) rfl rfl rfl) (Wt.plain rfl) ?_
  rintro _ _ ⟨k4, rfl, rfl⟩
  change (_ : List Blk → Prop) [_, _, _, _]
  refine T.q (q_assign rfl rfl) (Wt.plain rfl) rfl rfl ?_
  refine T.nil ?_
  refine Ex.next ?_
  refine W.slots (L' := [(1, _), (3, _), (5, _), (6, _), (7, _)]) ⟨rfl, rfl, rfl, rfl, rfl, trivial⟩ ?_
  refine W.seq ?_
  refine W.seq ?_
  refine W.region ?_
  refine T.q (q_assign rfl rfl) (Wt.plain rfl) rfl rfl ?_
  refine T.nil ?_
  refine Ex.next ?_
  refine W.slots (L' := [(1, _), (3, _), (5, _), (6, _), (7, _), (8, _)]) ⟨rfl, rfl, rfl, rfl, rfl, rfl, trivial⟩ ?_
  refine W.block ?_
  refine W.loop (α := Nat × Nat × Nat × List Value) (fun x_ => [(1, .int .u32 ctr), (3, .pointer (some ⟨k1, 0, none⟩)), (5, .pointer (some ⟨k2, 0, none⟩)), (6, .pointer (some ⟨k3, 0, none⟩)), (7, .slice (some ⟨x_.2.1, 0, none⟩) (4 + x_.1) x_.2.2.1), (8, .int .i64 ((x_.1 : Nat) : Int))]) (fun x_ => [⟨some k1, ints .u8 key, 28, (0, 0)⟩, ⟨some k2, ints .u8 nonce, 30, (0, 0)⟩, ⟨some k3, ints .u8 (List.replicate 64 0), 31, (0, 0)⟩, ⟨some x_.2.1, ints .u32 (gather (fun q => word (key.drop (4 * q))) x_.1 (headW)) ++ x_.2.2.2, 22, (0, 0)⟩]) (fun x_ => x_.1 ≤ 8 ∧ (4 + x_.1) + x_.2.2.2.length = x_.2.2.1) (fun x_ => 8 - x_.1) [true, true, true, true] (⟨0, k4, 4, []⟩) (by first | (simp; done) | (dsimp only; omega) | (dsimp only; simp at *; omega)) ⟨rfl, rfl, rfl, rfl, rfl, rfl, trivial⟩ rfl ?_
  rintro ⟨i, kk, cc, jj⟩ ⟨hi, hjj⟩
  conv => rhs; dsimp only
  conv => arg -2; dsimp only
  dsimp only at hi hjj
  refine W.seq ?_
  refine W.seq ?_
  refine W.region ?_
  refine T.q (q_move rfl rfl) (Wt.plain rfl) rfl rfl ?_
  refine T.q (q_lss rfl rfl rfl) (Wt.plain rfl) rfl rfl ?_
  refine T.nil ?_
  refine Ex.next ?_
  refine W.slots (L' := [(1, _), (3, _), (5, _), (6, _), (7, _), (8, _), (25, _)]) ⟨rfl, rfl, rfl, rfl, rfl, rfl, rfl, trivial⟩ ?_
  refine W.cond _ rfl (fun hb5 => ?_) (fun hb5 => ?_)
  · replace hb5 := of_decide_eq_true hb5
    refine W.skip ?_
    refine Ex.next ?_
    refine W.slots (L' := [(1, _), (3, _), (5, _), (6, _), (7, _), (8, _)]) ⟨rfl, rfl, rfl, rfl, rfl, rfl, trivial⟩ ?_
    refine W.seq ?_
    refine W.block ?_
    refine W.region ?_
    refine T.q (q_move rfl rfl) (Wt.plain rfl) rfl rfl ?_
    refine T.q (q_move rfl rfl) (Wt.plain rfl) rfl rfl ?_
    refine T.q (q_muli rfl rfl rfl (by omega) (by omega)) (Wt.plain rfl) rfl rfl ?_
    refine T.q (q_move rfl rfl) (Wt.plain rfl) rfl rfl ?_
    refine T.q (q_muli rfl rfl rfl (by omega) (by omega)) (Wt.plain rfl) rfl rfl ?_
    refine T.q (q_addi rfl rfl rfl (by omega) (by omega)) (Wt.plain rfl) rfl rfl ?_
    refine T.q (q_slA ar28 (4 * i) ((4 * i) + 4) 32 rfl rfl ⟨_, _, rfl, by omega⟩ ⟨_, _, rfl, by omega⟩ rfl (by first | omega | (simp; done) | (simp [-List.getD_eq_getElem?_getD]; omega)) (by first | omega | (simp; done) | (simp [-List.getD_eq_getElem?_getD]; omega)) (by first | omega | (simp; done) | (simp [-List.getD_eq_getElem?_getD]; omega)) (by simp)) (Wt.plain rfl) rfl rfl ?_
    refine T.eff (e_call enters19 rfl rfl (fun w hm => refword_spec _ _ _ ((key).drop (4 * i)) (by omega) (by simp; omega) w ((R_cutI (R_blk 0 rfl) (by first | omega | (simp; done) | (simp [-List.getD_eq_getElem?_getD]; omega))) w hm)) rfl rfl) (Wt.plain rfl) ?_
    rintro _ _ ⟨_, _, ⟨rfl, rfl⟩, rfl, rfl⟩
    change (_ : List Blk → Prop) [_, _, _, _]
    refine T.eff (e_litA sc48 ze22 rfl rfl rfl (by simp [Value.cells]) rfl rfl rfl) (Wt.plain rfl) ?_
    rintro _ _ ⟨k6, rfl, rfl⟩
    change (_ : List Blk → Prop) [_, _, _, _, _]
    refine T.eff (e_appendI sc48 ze22 rfl 3 .u32 (gather (fun q => word (key.drop (4 * q))) i (headW)) [word ((key).drop (4 * i))] jj (rfl) (R_blk 4 rfl) rfl rfl rfl rfl (by first | omega | (simp; done) | (simp [-List.getD_eq_getElem?_getD]; omega) | (simp at *; omega) | rfl) (by first | omega | (simp; done) | (simp [-List.getD_eq_getElem?_getD]; omega) | (simp at *; omega) | rfl) (by first | omega | (simp; done) | (simp [-List.getD_eq_getElem?_getD]; omega) | (simp at *; omega) | rfl) (by first | omega | (simp; done) | (simp [-List.getD_eq_getElem?_getD]; omega)) (by first | omega | (simp; done) | (simp [-List.getD_eq_getElem?_getD]; omega)) rfl rfl) (Wt.plain rfl) ?_
    rintro _ _ ⟨k7, cap8, junk9, hc10, rfl, rfl⟩
    change (_ : List Blk → Prop) [_, _, _, _, _]
    refine T.q (q_assign rfl rfl) (Wt.plain rfl) rfl rfl ?_
    refine T.nil ?_
    refine Ex.in_normal ?_
    refine Ex.next ?_
    refine W.less (L' := [(1, _), (3, _), (5, _), (6, _), (7, _), (8, _)]) [true, true, true, true, false] ⟨rfl, rfl, rfl, rfl, rfl, rfl, trivial⟩ ?_
    change (_ : List Blk → Prop) [_, _, _, _]
    refine W.region ?_
    refine T.q (q_move rfl rfl) (Wt.plain rfl) rfl rfl ?_
    refine T.q (q_addi rfl rfl rfl (by omega) (by omega)) (Wt.plain rfl) rfl rfl ?_
    refine T.q (q_assign rfl rfl) (Wt.plain rfl) rfl rfl ?_
    refine T.nil ?_
    exact Ex.again [true, true, true, true] (⟨i + 1, k7, cap8, junk9⟩ : Nat × Nat × Nat × List Value) (by dsimp only; omega) (by dsimp only; simp at *; omega) ⟨rfl, rfl, rfl, rfl, rfl, rfl, trivial⟩ (by first | (dsimp only [pick]; done) | rfl)
  · replace hb5 := of_decide_eq_false hb5
    obtain rfl : i = 8 := by omega
    refine W.exit ?_
    refine Ex.then_exit ?_
    refine Ex.then_exit ?_
    refine Ex.in_here ?_
    refine Ex.next ?_
    refine W.less (L' := [(1, _), (5, _), (6, _), (7, _)]) [false, true, true, true] ⟨rfl, rfl, rfl, rfl, trivial⟩ ?_
    change (_ : List Blk → Prop) [_, _, _]
    refine W.seq ?_
    refine W.region ?_
    refine T.q (q_move rfl rfl) (Wt.plain rfl) rfl rfl ?_
    refine T.q (q_move rfl rfl) (Wt.plain rfl) rfl rfl ?_
    refine T.eff (e_litA sc48 ze22 rfl rfl rfl (by simp [Value.cells]) rfl rfl rfl) (Wt.plain rfl) ?_
    rintro _ _ ⟨k11, rfl, rfl⟩
    change (_ : List Blk → Prop) [_, _, _, _]
    refine T.eff (e_appendI sc48 ze22 rfl 2 .u32 (gather (fun q => word (key.drop (4 * q))) 8 (headW)) [ctr] jj (rfl) (R_blk 3 rfl) rfl rfl rfl rfl (by first | omega | (simp; done) | (simp [-List.getD_eq_getElem?_getD]; omega) | (simp at *; omega) | rfl) (by first | omega | (simp; done) | (simp [-List.getD_eq_getElem?_getD]; omega) | (simp at *; omega) | rfl) (by first | omega | (simp; done) | (simp [-List.getD_eq_getElem?_getD]; omega) | (simp at *; omega) | rfl) (by first | omega | (simp; done) | (simp [-List.getD_eq_getElem?_getD]; omega)) (by first | omega | (simp; done) | (simp [-List.getD_eq_getElem?_getD]; omega)) rfl rfl) (Wt.plain rfl) ?_
    rintro _ _ ⟨k12, cap13, junk14, hc15, rfl, rfl⟩
    change (_ : List Blk → Prop) [_, _, _, _]
    refine T.q (q_assign rfl rfl) (Wt.plain rfl) rfl rfl ?_
    refine T.nil ?_
    refine Ex.next ?_
    refine W.less (L' := [(5, _), (6, _), (7, _)]) [true, true, true, false] ⟨rfl, rfl, rfl, trivial⟩ ?_
    change (_ : List Blk → Prop) [_, _, _]
    refine W.seq ?_
    refine W.seq ?_
    refine W.region ?_
    refine T.q (q_assign rfl rfl) (Wt.plain rfl) rfl rfl ?_
    refine T.nil ?_
    refine Ex.next ?_
    refine W.slots (L' := [(5, _), (6, _), (7, _), (9, _)]) ⟨rfl, rfl, rfl, rfl, trivial⟩ ?_
    refine W.block ?_
    refine W.loop (α := Nat × Nat × Nat × List Value) (fun x_ => [(5, .pointer (some ⟨k2, 0, none⟩)), (6, .pointer (some ⟨k3, 0, none⟩)), (7, .slice (some ⟨x_.2.1, 0, none⟩) (13 + x_.1) x_.2.2.1), (9, .int .i64 ((x_.1 : Nat) : Int))]) (fun x_ => [⟨some k2, ints .u8 nonce, 30, (0, 0)⟩, ⟨some k3, ints .u8 (List.replicate 64 0), 31, (0, 0)⟩, ⟨some x_.2.1, ints .u32 (gather (fun q => word (nonce.drop (4 * q))) x_.1 (gather (fun q => word (key.drop (4 * q))) 8 headW ++ [ctr])) ++ x_.2.2.2, 22, (0, 0)⟩]) (fun x_ => x_.1 ≤ 3 ∧ (13 + x_.1) + x_.2.2.2.length = x_.2.2.1) (fun x_ => 3 - x_.1) [true, true, true] (⟨0, k12, cap13, junk14⟩) (by first | (simp; done) | (dsimp only; omega) | (dsimp only; simp at *; omega)) ⟨rfl, rfl, rfl, rfl, trivial⟩ rfl ?_
    rintro ⟨i, kk, cc, jj⟩ ⟨hi, hjj⟩
    conv => rhs; dsimp only
    conv => arg -2; dsimp only
    dsimp only at hi hjj
    refine W.seq ?_
    refine W.seq ?_
    refine W.region ?_
    refine T.q (q_move rfl rfl) (Wt.plain rfl) rfl rfl ?_
    refine T.q (q_lss rfl rfl rfl) (Wt.plain rfl) rfl rfl ?_
    refine T.nil ?_
    refine Ex.next ?_
    refine W.slots (L' := [(5, _), (6, _), (7, _), (9, _), (43, _)]) ⟨rfl, rfl, rfl, rfl, rfl, trivial⟩ ?_
    refine W.cond _ rfl (fun hb16 => ?_) (fun hb16 => ?_)
    · replace hb16 := of_decide_eq_true hb16
      refine W.skip ?_
      refine Ex.next ?_
      refine W.slots (L' := [(5, _), (6, _), (7, _), (9, _)]) ⟨rfl, rfl, rfl, rfl, trivial⟩ ?_
      refine W.seq ?_
      refine W.block ?_
      refine W.region ?_
      refine T.q (q_move rfl rfl) (Wt.plain rfl) rfl rfl ?_
      refine T.q (q_move rfl rfl) (Wt.plain rfl) rfl rfl ?_
      refine T.q (q_muli rfl rfl rfl (by omega) (by omega)) (Wt.plain rfl) rfl rfl ?_
      refine T.q (q_move rfl rfl) (Wt.plain rfl) rfl rfl ?_
      refine T.q (q_muli rfl rfl rfl (by omega) (by omega)) (Wt.plain rfl) rfl rfl ?_
      refine T.q (q_addi rfl rfl rfl (by omega) (by omega)) (Wt.plain rfl) rfl rfl ?_
      refine T.q (q_slA ar30 (4 * i) ((4 * i) + 4) 12 rfl rfl ⟨_, _, rfl, by omega⟩ ⟨_, _, rfl, by omega⟩ rfl (by first | omega | (simp; done) | (simp [-List.getD_eq_getElem?_getD]; omega)) (by first | omega | (simp; done) | (simp [-List.getD_eq_getElem?_getD]; omega)) (by first | omega | (simp; done) | (simp [-List.getD_eq_getElem?_getD]; omega)) (by simp)) (Wt.plain rfl) rfl rfl ?_
      refine T.eff (e_call enters19 rfl rfl (fun w hm => refword_spec _ _ _ ((nonce).drop (4 * i)) (by omega) (by simp; omega) w ((R_cutI (R_blk 0 rfl) (by first | omega | (simp; done) | (simp [-List.getD_eq_getElem?_getD]; omega))) w hm)) rfl rfl) (Wt.plain rfl) ?_
      rintro _ _ ⟨_, _, ⟨rfl, rfl⟩, rfl, rfl⟩
      change (_ : List Blk → Prop) [_, _, _]
      refine T.eff (e_litA sc48 ze22 rfl rfl rfl (by simp [Value.cells]) rfl rfl rfl) (Wt.plain rfl) ?_
      rintro _ _ ⟨k17, rfl, rfl⟩
      change (_ : List Blk → Prop) [_, _, _, _]
      refine T.eff (e_appendI sc48 ze22 rfl 2 .u32 (gather (fun q => word (nonce.drop (4 * q))) i (gather (fun q => word (key.drop (4 * q))) 8 headW ++ [ctr])) [word ((nonce).drop (4 * i))] jj (rfl) (R_blk 3 rfl) rfl rfl rfl rfl (by first | omega | (simp; done) | (simp [-List.getD_eq_getElem?_getD]; omega) | (simp at *; omega) | rfl) (by first | omega | (simp; done) | (simp [-List.getD_eq_getElem?_getD]; omega) | (simp at *; omega) | rfl) (by first | omega | (simp; done) | (simp [-List.getD_eq_getElem?_getD]; omega) | (simp at *; omega) | rfl) (by first | omega | (simp; done) | (simp [-List.getD_eq_getElem?_getD]; omega)) (by first | omega | (simp; done) | (simp [-List.getD_eq_getElem?_getD]; omega)) rfl rfl) (Wt.plain rfl) ?_
      rintro _ _ ⟨k18, cap19, junk20, hc21, rfl, rfl⟩
      change (_ : List Blk → Prop) [_, _, _, _]
      refine T.q (q_assign rfl rfl) (Wt.plain rfl) rfl rfl ?_
      refine T.nil ?_
      refine Ex.in_normal ?_
      refine Ex.next ?_
      refine W.less (L' := [(5, _), (6, _), (7, _), (9, _)]) [true, true, true, false] ⟨rfl, rfl, rfl, rfl, trivial⟩ ?_
      change (_ : List Blk → Prop) [_, _, _]
      refine W.region ?_
      refine T.q (q_move rfl rfl) (Wt.plain rfl) rfl rfl ?_
      refine T.q (q_addi rfl rfl rfl (by omega) (by omega)) (Wt.plain rfl) rfl rfl ?_
      refine T.q (q_assign rfl rfl) (Wt.plain rfl) rfl rfl ?_
      refine T.nil ?_
      exact Ex.again [true, true, true] (⟨i + 1, k18, cap19, junk20⟩ : Nat × Nat × Nat × List Value) (by dsimp only; omega) (by dsimp only; simp at *; omega) ⟨rfl, rfl, rfl, rfl, trivial⟩ (by first | (dsimp only [pick]; done) | rfl)
    · replace hb16 := of_decide_eq_false hb16
      obtain rfl : i = 3 := by omega
      refine W.exit ?_
      refine Ex.then_exit ?_
      refine Ex.then_exit ?_
      refine Ex.in_here ?_
      refine Ex.next ?_
      refine W.less (L' := [(6, _), (7, _)]) [false, true, true] ⟨rfl, rfl, trivial⟩ ?_
      change (_ : List Blk → Prop) [_, _]
      refine W.seq ?_
      refine W.region ?_
      refine T.eff (e_litA sc48 ze22 rfl rfl rfl (by simp [Value.cells]) rfl rfl rfl) (Wt.plain rfl) ?_
      rintro _ _ ⟨k22, rfl, rfl⟩
      change (_ : List Blk → Prop) [_, _, _]
      refine T.q (q_move rfl rfl) (Wt.plain rfl) rfl rfl ?_
      refine T.eff (e_appendI sc48 ze22 rfl 2 .u32 [] (gather (fun q => word (nonce.drop (4 * q))) 3 (gather (fun q => word (key.drop (4 * q))) 8 headW ++ [ctr])) [] ((List.append_nil _).symm) (R_pre 1 rfl) rfl rfl rfl rfl (by first | omega | (simp; done) | (simp [-List.getD_eq_getElem?_getD]; omega) | (simp at *; omega) | rfl) (by first | omega | (simp; done) | (simp [-List.getD_eq_getElem?_getD]; omega) | (simp at *; omega) | rfl) (by first | omega | (simp; done) | (simp [-List.getD_eq_getElem?_getD]; omega) | (simp at *; omega) | rfl) (by first | omega | (simp; done) | (simp [-List.getD_eq_getElem?_getD]; omega)) (by first | omega | (simp; done) | (simp [-List.getD_eq_getElem?_getD]; omega)) rfl rfl) (Wt.plain rfl) ?_
      rintro _ _ ⟨k23, cap24, junk25, hc26, rfl, rfl⟩
      change (_ : List Blk → Prop) [_, _, _]
      refine T.q (q_assign rfl rfl) (Wt.plain rfl) rfl rfl ?_
      refine T.nil ?_
      refine Ex.next ?_
      refine W.slots (L' := [(6, _), (7, _), (10, _)]) ⟨rfl, rfl, rfl, trivial⟩ ?_
      refine W.seq ?_
      refine W.seq ?_
      refine W.region ?_
      refine T.q (q_assign rfl rfl) (Wt.plain rfl) rfl rfl ?_
      refine T.nil ?_
      refine Ex.next ?_
      refine W.slots (L' := [(6, _), (7, _), (10, _), (11, _)]) ⟨rfl, rfl, rfl, rfl, trivial⟩ ?_
      refine W.block ?_
      refine W.loop (α := Nat) (fun n => [(6, .pointer (some ⟨k3, 0, none⟩)), (7, .slice (some ⟨kk, 0, none⟩) (13 + 3) cc), (10, .slice (some ⟨k23, 0, none⟩) (0 + (13 + 3)) cap24), (11, .int .i64 ((n : Nat) : Int))]) (fun n => [⟨some k3, ints .u8 (List.replicate 64 0), 31, (0, 0)⟩, ⟨some kk, ints .u32 (initS key nonce ctr) ++ jj, 22, (0, 0)⟩, ⟨some k23, ints .u32 (rn n (initS key nonce ctr)) ++ junk25, 22, (0, 0)⟩]) (fun n => n ≤ 10) (fun n => 10 - n) [true, true, true] 0 (by omega) ⟨rfl, rfl, rfl, rfl, trivial⟩ rfl ?_
      rintro n hn
      refine W.seq ?_
      refine W.seq ?_
      refine W.region ?_
      refine T.q (q_move rfl rfl) (Wt.plain rfl) rfl rfl ?_
      refine T.q (q_lss rfl rfl rfl) (Wt.plain rfl) rfl rfl ?_
      refine T.nil ?_
      refine Ex.next ?_
      refine W.slots (L' := [(6, _), (7, _), (10, _), (11, _), (60, _)]) ⟨rfl, rfl, rfl, rfl, rfl, trivial⟩ ?_
      refine W.cond _ rfl (fun hb27 => ?_) (fun hb27 => ?_)
      · replace hb27 := of_decide_eq_true hb27
        refine W.skip ?_
        refine Ex.next ?_
        refine W.slots (L' := [(6, _), (7, _), (10, _), (11, _)]) ⟨rfl, rfl, rfl, rfl, trivial⟩ ?_
        refine W.seq ?_
        refine W.block ?_
        refine W.seq ?_
        refine W.region ?_
        refine T.q (q_assign rfl rfl) (Wt.plain rfl) rfl rfl ?_
        refine T.nil ?_
        refine Ex.next ?_
        refine W.slots (L' := [(6, _), (7, _), (10, _), (11, _), (12, _)]) ⟨rfl, rfl, rfl, rfl, rfl, trivial⟩ ?_
        refine W.block ?_
        refine W.loop (α := Nat) (fun j => [(6, .pointer (some ⟨k3, 0, none⟩)), (7, .slice (some ⟨kk, 0, none⟩) (13 + 3) cc), (10, .slice (some ⟨k23, 0, none⟩) (0 + (13 + 3)) cap24), (11, .int .i64 ((n : Nat) : Int)), (12, .int .i64 ((j : Nat) : Int))]) (fun j => [⟨some k3, ints .u8 (List.replicate 64 0), 31, (0, 0)⟩, ⟨some kk, ints .u32 (initS key nonce ctr) ++ jj, 22, (0, 0)⟩, ⟨some k23, ints .u32 (dr j (rn n (initS key nonce ctr))) ++ junk25, 22, (0, 0)⟩]) (fun j => j ≤ 8) (fun j => 8 - j) [true, true, true] 0 (by omega) ⟨rfl, rfl, rfl, rfl, rfl, trivial⟩ rfl ?_
        rintro j hj
        refine W.seq ?_
        refine W.seq ?_
        refine W.region ?_
        refine T.q (q_move rfl rfl) (Wt.plain rfl) rfl rfl ?_
        refine T.q (q_lss rfl rfl rfl) (Wt.plain rfl) rfl rfl ?_
        refine T.nil ?_
        refine Ex.next ?_
        refine W.slots (L' := [(6, _), (7, _), (10, _), (11, _), (12, _), (64, _)]) ⟨rfl, rfl, rfl, rfl, rfl, rfl, trivial⟩ ?_
        refine W.cond _ rfl (fun hb28 => ?_) (fun hb28 => ?_)
        · replace hb28 := of_decide_eq_true hb28
          refine W.skip ?_
          refine Ex.next ?_
          refine W.slots (L' := [(6, _), (7, _), (10, _), (11, _), (12, _)]) ⟨rfl, rfl, rfl, rfl, rfl, trivial⟩ ?_
          refine W.seq ?_
          refine W.block ?_
          refine W.seq ?_
          refine W.region ?_
          refine T.q (q_assign rfl rfl) (Wt.plain rfl) rfl rfl ?_
          refine T.nil ?_
          refine Ex.next ?_
          refine W.slots (L' := [(6, _), (7, _), (10, _), (11, _), (12, _), (13, _)]) ⟨rfl, rfl, rfl, rfl, rfl, rfl, trivial⟩ ?_
          refine W.seq ?_
          refine W.seq ?_
          refine W.region ?_
          refine T.q (q_move rfl rfl) (Wt.plain rfl) rfl rfl ?_
          refine T.q (q_geq rfl rfl rfl) (Wt.plain rfl) rfl rfl ?_
          refine T.nil ?_
          refine Ex.next ?_
          refine W.slots (L' := [(6, _), (7, _), (10, _), (11, _), (12, _), (13, _), (68, _)]) ⟨rfl, rfl, rfl, rfl, rfl, rfl, rfl, trivial⟩ ?_
          refine W.cond _ rfl (fun hb29 => ?_) (fun hb29 => ?_)
          · replace hb29 := of_decide_eq_true hb29
            refine W.region ?_
            refine T.q (q_assign rfl rfl) (Wt.plain rfl) rfl rfl ?_
            refine T.nil ?_
            refine Ex.next ?_
            refine W.slots (L' := [(6, _), (7, _), (10, _), (11, _), (12, _), (13, _)]) ⟨rfl, rfl, rfl, rfl, rfl, rfl, trivial⟩ ?_
            refine W.seq ?_
            refine W.region ?_
            refine T.q (q_move rfl rfl) (Wt.plain rfl) rfl rfl ?_
            refine T.q (q_rem rfl rfl rfl (by omega) (by decide)) (Wt.plain rfl) rfl rfl ?_
            refine T.q (q_assign rfl rfl) (Wt.plain rfl) rfl rfl ?_
            refine T.nil ?_
            refine Ex.next ?_
            refine W.slots (L' := [(6, _), (7, _), (10, _), (11, _), (12, _), (13, _), (14, _)]) ⟨rfl, rfl, rfl, rfl, rfl, rfl, rfl, trivial⟩ ?_
            refine W.seq ?_
            refine W.region ?_
            refine T.q (q_move rfl rfl) (Wt.plain rfl) rfl rfl ?_
            refine T.q (q_move rfl rfl) (Wt.plain rfl) rfl rfl ?_
            refine T.q (q_addi rfl rfl rfl (by omega) (by omega)) (Wt.plain rfl) rfl rfl ?_
            refine T.q (q_rem rfl rfl rfl (by omega) (by decide)) (Wt.plain rfl) rfl rfl ?_
            refine T.q (q_addi rfl rfl rfl (by omega) (by omega)) (Wt.plain rfl) rfl rfl ?_
            refine T.q (q_assign rfl rfl) (Wt.plain rfl) rfl rfl ?_
            refine T.nil ?_
            refine Ex.next ?_
            refine W.slots (L' := [(6, _), (7, _), (10, _), (11, _), (12, _), (13, _), (14, _), (15, _)]) ⟨rfl, rfl, rfl, rfl, rfl, rfl, rfl, rfl, trivial⟩ ?_
            refine W.seq ?_
            refine W.region ?_
            refine T.q (q_move rfl rfl) (Wt.plain rfl) rfl rfl ?_
            refine T.q (q_move rfl rfl) (Wt.plain rfl) rfl rfl ?_
            refine T.q (q_muli rfl rfl rfl (by omega) (by omega)) (Wt.plain rfl) rfl rfl ?_
            refine T.q (q_addi rfl rfl rfl (by omega) (by omega)) (Wt.plain rfl) rfl rfl ?_
            refine T.q (q_rem rfl rfl rfl (by omega) (by decide)) (Wt.plain rfl) rfl rfl ?_
            refine T.q (q_addi rfl rfl rfl (by omega) (by omega)) (Wt.plain rfl) rfl rfl ?_
            refine T.q (q_assign rfl rfl) (Wt.plain rfl) rfl rfl ?_
            refine T.nil ?_
            refine Ex.next ?_
            refine W.slots (L' := [(6, _), (7, _), (10, _), (11, _), (12, _), (13, _), (14, _), (15, _), (16, _)]) ⟨rfl, rfl, rfl, rfl, rfl, rfl, rfl, rfl, rfl, trivial⟩ ?_
            refine W.seq ?_
            refine W.region ?_
            refine T.q (q_move rfl rfl) (Wt.plain rfl) rfl rfl ?_
            refine T.q (q_move rfl rfl) (Wt.plain rfl) rfl rfl ?_
            refine T.q (q_muli rfl rfl rfl (by omega) (by omega)) (Wt.plain rfl) rfl rfl ?_
            refine T.q (q_addi rfl rfl rfl (by omega) (by omega)) (Wt.plain rfl) rfl rfl ?_
            refine T.q (q_rem rfl rfl rfl (by omega) (by decide)) (Wt.plain rfl) rfl rfl ?_
            refine T.q (q_addi rfl rfl rfl (by omega) (by omega)) (Wt.plain rfl) rfl rfl ?_
            refine T.q (q_assign rfl rfl) (Wt.plain rfl) rfl rfl ?_
            refine T.nil ?_
            refine Ex.next ?_
            refine W.slots (L' := [(6, _), (7, _), (10, _), (11, _), (12, _), (14, _), (15, _), (16, _), (17, _)]) ⟨rfl, rfl, rfl, rfl, rfl, rfl, rfl, rfl, rfl, trivial⟩ ?_
            refine W.seq ?_
            refine W.draw 19 (by kernel_rfl) ?_
            refine D.take 0 rfl (by kernel_rfl) (fun _ h => h) (q_move rfl rfl) (Wt.plain rfl) rfl rfl ?_
            refine D.take 1 rfl (by kernel_rfl) (fun _ h => h) (q_move rfl rfl) (Wt.plain rfl) rfl rfl ?_
            refine D.take 2 rfl (by kernel_rfl) (fun _ h => h) (q_ixS0 sc48 (j % 4) rfl rfl rfl (by omega) (by omega)) (Wt.plain rfl) rfl rfl ?_
            refine D.take 3 rfl (by kernel_rfl) (fun _ h => h) (q_loadIJ ss22 2 rfl rfl rfl (by first | omega | (simp; done) | (simp [-List.getD_eq_getElem?_getD]; omega))) (Wt.plain rfl) rfl rfl ?_
            refine D.take 4 rfl (by kernel_rfl) (fun _ h => h) (q_move rfl rfl) (Wt.plain rfl) rfl rfl ?_
            refine D.take 5 rfl (by kernel_rfl) (fun _ h => h) (q_move rfl rfl) (Wt.plain rfl) rfl rfl ?_
            refine D.take 6 rfl (by kernel_rfl) (fun _ h => h) (q_ixS0 sc48 (4 + ((j + 1) % 4)) rfl rfl rfl (by omega) (by omega)) (Wt.plain rfl) rfl rfl ?_
            refine D.take 7 rfl (by kernel_rfl) (fun _ h => h) (q_loadIJ ss22 2 rfl rfl rfl (by first | omega | (simp; done) | (simp [-List.getD_eq_getElem?_getD]; omega))) (Wt.plain rfl) rfl rfl ?_
            refine D.take 8 rfl (by kernel_rfl) (fun _ h => h) (q_move rfl rfl) (Wt.plain rfl) rfl rfl ?_
            refine D.take 9 rfl (by kernel_rfl) (fun _ h => h) (q_move rfl rfl) (Wt.plain rfl) rfl rfl ?_
            refine D.take 10 rfl (by kernel_rfl) (fun _ h => h) (q_ixS0 sc48 (8 + ((j + (2 * 1)) % 4)) rfl rfl rfl (by omega) (by omega)) (Wt.plain rfl) rfl rfl ?_
            refine D.take 11 rfl (by kernel_rfl) (fun _ h => h) (q_loadIJ ss22 2 rfl rfl rfl (by first | omega | (simp; done) | (simp [-List.getD_eq_getElem?_getD]; omega))) (Wt.plain rfl) rfl rfl ?_
            refine D.take 12 rfl (by kernel_rfl) (fun _ h => h) (q_move rfl rfl) (Wt.plain rfl) rfl rfl ?_
            refine D.take 13 rfl (by kernel_rfl) (fun _ h => h) (q_move rfl rfl) (Wt.plain rfl) rfl rfl ?_
            refine D.take 14 rfl (by kernel_rfl) (fun _ h => h) (q_ixS0 sc48 (12 + ((j + (3 * 1)) % 4)) rfl rfl rfl (by omega) (by omega)) (Wt.plain rfl) rfl rfl ?_
            refine D.take 15 rfl (by kernel_rfl) (fun _ h => h) (q_loadIJ ss22 2 rfl rfl rfl (by first | omega | (simp; done) | (simp [-List.getD_eq_getElem?_getD]; omega))) (Wt.plain rfl) rfl rfl ?_
            refine D.take 16 rfl (by kernel_rfl) (fun _ h => h) (q_buildA ar23 ze23 rfl rfl rfl rfl (by simp [Value.cells])) (Wt.plain rfl) rfl rfl ?_
            refine D.two 17 18 (by kernel_rfl) ?_ ?_
            ·
              refine Up.eff rfl (e_call enters11 rfl rfl (fun w hm => refquarter_spec [_, _, _, _] rfl w) rfl rfl) (Wt.plain rfl) ?_
              rintro _ _ ⟨_, _, ⟨rfl, rfl⟩, rfl, rfl⟩
              refine ⟨fun _ => (fun _ h => h), ?_⟩
              refine D.one 18 (by kernel_rfl) ?_
              refine Up.eff rfl (e_alloc ze23 rfl rfl rfl) (Wt.plain rfl) ?_
              rintro _ _ ⟨k30, rfl, rfl⟩
              refine ⟨fun _ => (S_sub (((((List.Sublist.slnil).cons _).cons_cons _).cons_cons _).cons_cons _)), ?_⟩
              refine D.one 19 (by kernel_rfl) ?_
              refine Up.eff rfl (e_storeA (wide_ints wd23 (by first | omega | (simp; done) | (simp [-List.getD_eq_getElem?_getD]; omega) | (simp at *; omega) | rfl)) 3 rfl rfl rfl rfl (by first | omega | (simp; done) | (simp [-List.getD_eq_getElem?_getD]; omega) | (simp at *; omega) | rfl) ints_one rfl) (Wt.plain rfl) ?_
              rintro _ _ ⟨rfl, rfl⟩
              refine ⟨fun h => absurd h (by decide), ?_⟩
              refine D.done (by kernel_rfl) ?_
              refine Ex.next ?_
              refine W.slots (L' := [(6, _), (7, _), (10, _), (11, _), (12, _), (14, _), (15, _), (16, _), (17, _), (18, _)]) ⟨rfl, rfl, rfl, rfl, rfl, rfl, rfl, rfl, rfl, rfl, trivial⟩ ?_
              refine W.seq ?_
              refine W.region ?_
              refine T.q (q_move rfl rfl) (Wt.plain rfl) rfl rfl ?_
              refine T.q (q_move rfl rfl) (Wt.plain rfl) rfl rfl ?_
              refine T.q (q_ixA0 ar23 0 rfl rfl rfl (rfl) (by decide)) (Wt.plain rfl) rfl rfl ?_
              refine T.q (q_loadI ss22 3 rfl rfl rfl (by first | omega | (simp; done) | (simp [-List.getD_eq_getElem?_getD]; omega))) (Wt.plain rfl) rfl rfl ?_
              refine T.q (q_ixS0 sc48 (j % 4) rfl rfl rfl (by omega) (by omega)) (Wt.plain rfl) rfl rfl ?_
              refine T.eff (e_storeIJ ss22 2 rfl rfl rfl rfl (by first | omega | (simp; done) | (simp [-List.getD_eq_getElem?_getD]; omega)) rfl) (Wt.plain rfl) ?_
              rintro _ _ ⟨rfl, rfl⟩
              change (_ : List Blk → Prop) [_, _, _, _]
              refine T.nil ?_
              refine Ex.next ?_
              refine W.slots (L' := [(6, _), (7, _), (10, _), (11, _), (12, _), (15, _), (16, _), (17, _), (18, _)]) ⟨rfl, rfl, rfl, rfl, rfl, rfl, rfl, rfl, rfl, trivial⟩ ?_
              refine W.seq ?_
              refine W.region ?_
              refine T.q (q_move rfl rfl) (Wt.plain rfl) rfl rfl ?_
              refine T.q (q_move rfl rfl) (Wt.plain rfl) rfl rfl ?_
              refine T.q (q_ixA0 ar23 1 rfl rfl rfl (rfl) (by decide)) (Wt.plain rfl) rfl rfl ?_
              refine T.q (q_loadI ss22 3 rfl rfl rfl (by first | omega | (simp; done) | (simp [-List.getD_eq_getElem?_getD]; omega))) (Wt.plain rfl) rfl rfl ?_
              refine T.q (q_ixS0 sc48 (4 + ((j + 1) % 4)) rfl rfl rfl (by omega) (by omega)) (Wt.plain rfl) rfl rfl ?_
              refine T.eff (e_storeIJ ss22 2 rfl rfl rfl rfl (by first | omega | (simp; done) | (simp [-List.getD_eq_getElem?_getD]; omega)) rfl) (Wt.plain rfl) ?_
              rintro _ _ ⟨rfl, rfl⟩
              change (_ : List Blk → Prop) [_, _, _, _]
              refine T.nil ?_
              refine Ex.next ?_
              refine W.slots (L' := [(6, _), (7, _), (10, _), (11, _), (12, _), (16, _), (17, _), (18, _)]) ⟨rfl, rfl, rfl, rfl, rfl, rfl, rfl, rfl, trivial⟩ ?_
              refine W.seq ?_
              refine W.region ?_
              refine T.q (q_move rfl rfl) (Wt.plain rfl) rfl rfl ?_
              refine T.q (q_move rfl rfl) (Wt.plain rfl) rfl rfl ?_
              refine T.q (q_ixA0 ar23 2 rfl rfl rfl (rfl) (by decide)) (Wt.plain rfl) rfl rfl ?_
              refine T.q (q_loadI ss22 3 rfl rfl rfl (by first | omega | (simp; done) | (simp [-List.getD_eq_getElem?_getD]; omega))) (Wt.plain rfl) rfl rfl ?_
              refine T.q (q_ixS0 sc48 (8 + ((j + (2 * 1)) % 4)) rfl rfl rfl (by omega) (by omega)) (Wt.plain rfl) rfl rfl ?_
              refine T.eff (e_storeIJ ss22 2 rfl rfl rfl rfl (by first | omega | (simp; done) | (simp [-List.getD_eq_getElem?_getD]; omega)) rfl) (Wt.plain rfl) ?_
              rintro _ _ ⟨rfl, rfl⟩
              change (_ : List Blk → Prop) [_, _, _, _]
              refine T.nil ?_
              refine Ex.next ?_
              refine W.slots (L' := [(6, _), (7, _), (10, _), (11, _), (12, _), (17, _), (18, _)]) ⟨rfl, rfl, rfl, rfl, rfl, rfl, rfl, trivial⟩ ?_
              refine W.region ?_
              refine T.q (q_move rfl rfl) (Wt.plain rfl) rfl rfl ?_
              refine T.q (q_move rfl rfl) (Wt.plain rfl) rfl rfl ?_
              refine T.q (q_ixA0 ar23 3 rfl rfl rfl (rfl) (by decide)) (Wt.plain rfl) rfl rfl ?_
              refine T.q (q_loadI ss22 3 rfl rfl rfl (by first | omega | (simp; done) | (simp [-List.getD_eq_getElem?_getD]; omega))) (Wt.plain rfl) rfl rfl ?_
              refine T.q (q_ixS0 sc48 (12 + ((j + (3 * 1)) % 4)) rfl rfl rfl (by omega) (by omega)) (Wt.plain rfl) rfl rfl ?_
              refine T.eff (e_storeIJ ss22 2 rfl rfl rfl rfl (by first | omega | (simp; done) | (simp [-List.getD_eq_getElem?_getD]; omega)) rfl) (Wt.plain rfl) ?_
              rintro _ _ ⟨rfl, rfl⟩
              change (_ : List Blk → Prop) [_, _, _, _]
              refine T.nil ?_
              refine Ex.in_normal ?_
              refine Ex.next ?_
              refine W.less (L' := [(6, _), (7, _), (10, _), (11, _), (12, _)]) [true, true, true, false] ⟨rfl, rfl, rfl, rfl, rfl, trivial⟩ ?_
              change (_ : List Blk → Prop) [_, _, _]
              refine W.region ?_
              refine T.q (q_move rfl rfl) (Wt.plain rfl) rfl rfl ?_
              refine T.q (q_addi rfl rfl rfl (by omega) (by omega)) (Wt.plain rfl) rfl rfl ?_
              refine T.q (q_assign rfl rfl) (Wt.plain rfl) rfl rfl ?_
              refine T.nil ?_
              exact Ex.again [true, true, true] (j + 1) (by omega) (by omega) ⟨rfl, rfl, rfl, rfl, rfl, trivial⟩ (congrArg (fun r_ : List Int => ([⟨some k3, ints .u8 (List.replicate 64 0), 31, (0, 0)⟩, ⟨some kk, ints .u32 (initS key nonce ctr) ++ jj, 22, (0, 0)⟩, ⟨some k23, ints .u32 r_ ++ junk25, 22, (0, 0)⟩] : List Blk)) (rstep_hi (by omega) (by omega) _))
            ·
              refine Up.eff rfl (e_alloc ze23 rfl rfl rfl) (Wt.plain rfl) ?_
              rintro _ _ ⟨k31, rfl, rfl⟩
              refine ⟨fun _ => (S_sub (((((List.Sublist.slnil).cons _).cons_cons _).cons_cons _).cons_cons _)), ?_⟩
              refine D.one 17 (by kernel_rfl) ?_
              refine Up.eff rfl (e_call enters11 rfl rfl (fun w hm => refquarter_spec [_, _, _, _] rfl w) rfl rfl) (Wt.plain rfl) ?_
              rintro _ _ ⟨_, _, ⟨rfl, rfl⟩, rfl, rfl⟩
              refine ⟨fun _ => (S_sub (((((List.Sublist.slnil).cons _).cons_cons _).cons_cons _).cons_cons _)), ?_⟩
              refine D.one 19 (by kernel_rfl) ?_
              refine Up.eff rfl (e_storeA (wide_ints wd23 (by first | omega | (simp; done) | (simp [-List.getD_eq_getElem?_getD]; omega) | (simp at *; omega) | rfl)) 3 rfl rfl rfl rfl (by first | omega | (simp; done) | (simp [-List.getD_eq_getElem?_getD]; omega) | (simp at *; omega) | rfl) ints_one rfl) (Wt.plain rfl) ?_
              rintro _ _ ⟨rfl, rfl⟩
              refine ⟨fun h => absurd h (by decide), ?_⟩
              refine D.done (by kernel_rfl) ?_
              refine Ex.next ?_
              refine W.slots (L' := [(6, _), (7, _), (10, _), (11, _), (12, _), (14, _), (15, _), (16, _), (17, _), (18, _)]) ⟨rfl, rfl, rfl, rfl, rfl, rfl, rfl, rfl, rfl, rfl, trivial⟩ ?_
              refine W.seq ?_
              refine W.region ?_
              refine T.q (q_move rfl rfl) (Wt.plain rfl) rfl rfl ?_
              refine T.q (q_move rfl rfl) (Wt.plain rfl) rfl rfl ?_
              refine T.q (q_ixA0 ar23 0 rfl rfl rfl (rfl) (by decide)) (Wt.plain rfl) rfl rfl ?_
              refine T.q (q_loadI ss22 3 rfl rfl rfl (by first | omega | (simp; done) | (simp [-List.getD_eq_getElem?_getD]; omega))) (Wt.plain rfl) rfl rfl ?_
              refine T.q (q_ixS0 sc48 (j % 4) rfl rfl rfl (by omega) (by omega)) (Wt.plain rfl) rfl rfl ?_
              refine T.eff (e_storeIJ ss22 2 rfl rfl rfl rfl (by first | omega | (simp; done) | (simp [-List.getD_eq_getElem?_getD]; omega)) rfl) (Wt.plain rfl) ?_
              rintro _ _ ⟨rfl, rfl⟩
              change (_ : List Blk → Prop) [_, _, _, _]
              refine T.nil ?_
              refine Ex.next ?_
              refine W.slots (L' := [(6, _), (7, _), (10, _), (11, _), (12, _), (15, _), (16, _), (17, _), (18, _)]) ⟨rfl, rfl, rfl, rfl, rfl, rfl, rfl, rfl, rfl, trivial⟩ ?_
              refine W.seq ?_
              refine W.region ?_
              refine T.q (q_move rfl rfl) (Wt.plain rfl) rfl rfl ?_
              refine T.q (q_move rfl rfl) (Wt.plain rfl) rfl rfl ?_
              refine T.q (q_ixA0 ar23 1 rfl rfl rfl (rfl) (by decide)) (Wt.plain rfl) rfl rfl ?_
              refine T.q (q_loadI ss22 3 rfl rfl rfl (by first | omega | (simp; done) | (simp [-List.getD_eq_getElem?_getD]; omega))) (Wt.plain rfl) rfl rfl ?_
              refine T.q (q_ixS0 sc48 (4 + ((j + 1) % 4)) rfl rfl rfl (by omega) (by omega)) (Wt.plain rfl) rfl rfl ?_
              refine T.eff (e_storeIJ ss22 2 rfl rfl rfl rfl (by first | omega | (simp; done) | (simp [-List.getD_eq_getElem?_getD]; omega)) rfl) (Wt.plain rfl) ?_
              rintro _ _ ⟨rfl, rfl⟩
              change (_ : List Blk → Prop) [_, _, _, _]
              refine T.nil ?_
              refine Ex.next ?_
              refine W.slots (L' := [(6, _), (7, _), (10, _), (11, _), (12, _), (16, _), (17, _), (18, _)]) ⟨rfl, rfl, rfl, rfl, rfl, rfl, rfl, rfl, trivial⟩ ?_
              refine W.seq ?_
              refine W.region ?_
              refine T.q (q_move rfl rfl) (Wt.plain rfl) rfl rfl ?_
              refine T.q (q_move rfl rfl) (Wt.plain rfl) rfl rfl ?_
              refine T.q (q_ixA0 ar23 2 rfl rfl rfl (rfl) (by decide)) (Wt.plain rfl) rfl rfl ?_
              refine T.q (q_loadI ss22 3 rfl rfl rfl (by first | omega | (simp; done) | (simp [-List.getD_eq_getElem?_getD]; omega))) (Wt.plain rfl) rfl rfl ?_
              refine T.q (q_ixS0 sc48 (8 + ((j + (2 * 1)) % 4)) rfl rfl rfl (by omega) (by omega)) (Wt.plain rfl) rfl rfl ?_
              refine T.eff (e_storeIJ ss22 2 rfl rfl rfl rfl (by first | omega | (simp; done) | (simp [-List.getD_eq_getElem?_getD]; omega)) rfl) (Wt.plain rfl) ?_
              rintro _ _ ⟨rfl, rfl⟩
              change (_ : List Blk → Prop) [_, _, _, _]
              refine T.nil ?_
              refine Ex.next ?_
              refine W.slots (L' := [(6, _), (7, _), (10, _), (11, _), (12, _), (17, _), (18, _)]) ⟨rfl, rfl, rfl, rfl, rfl, rfl, rfl, trivial⟩ ?_
              refine W.region ?_
              refine T.q (q_move rfl rfl) (Wt.plain rfl) rfl rfl ?_
              refine T.q (q_move rfl rfl) (Wt.plain rfl) rfl rfl ?_
              refine T.q (q_ixA0 ar23 3 rfl rfl rfl (rfl) (by decide)) (Wt.plain rfl) rfl rfl ?_
              refine T.q (q_loadI ss22 3 rfl rfl rfl (by first | omega | (simp; done) | (simp [-List.getD_eq_getElem?_getD]; omega))) (Wt.plain rfl) rfl rfl ?_
              refine T.q (q_ixS0 sc48 (12 + ((j + (3 * 1)) % 4)) rfl rfl rfl (by omega) (by omega)) (Wt.plain rfl) rfl rfl ?_
              refine T.eff (e_storeIJ ss22 2 rfl rfl rfl rfl (by first | omega | (simp; done) | (simp [-List.getD_eq_getElem?_getD]; omega)) rfl) (Wt.plain rfl) ?_
              rintro _ _ ⟨rfl, rfl⟩
              change (_ : List Blk → Prop) [_, _, _, _]
              refine T.nil ?_
              refine Ex.in_normal ?_
              refine Ex.next ?_
              refine W.less (L' := [(6, _), (7, _), (10, _), (11, _), (12, _)]) [true, true, true, false] ⟨rfl, rfl, rfl, rfl, rfl, trivial⟩ ?_
              change (_ : List Blk → Prop) [_, _, _]
              refine W.region ?_
              refine T.q (q_move rfl rfl) (Wt.plain rfl) rfl rfl ?_
              refine T.q (q_addi rfl rfl rfl (by omega) (by omega)) (Wt.plain rfl) rfl rfl ?_
              refine T.q (q_assign rfl rfl) (Wt.plain rfl) rfl rfl ?_
              refine T.nil ?_
              exact Ex.again [true, true, true] (j + 1) (by omega) (by omega) ⟨rfl, rfl, rfl, rfl, rfl, trivial⟩ (congrArg (fun r_ : List Int => ([⟨some k3, ints .u8 (List.replicate 64 0), 31, (0, 0)⟩, ⟨some kk, ints .u32 (initS key nonce ctr) ++ jj, 22, (0, 0)⟩, ⟨some k23, ints .u32 r_ ++ junk25, 22, (0, 0)⟩] : List Blk)) (rstep_hi (by omega) (by omega) _))
          · replace hb29 := of_decide_eq_false hb29
            refine W.skip ?_
            refine Ex.next ?_
            refine W.slots (L' := [(6, _), (7, _), (10, _), (11, _), (12, _), (13, _)]) ⟨rfl, rfl, rfl, rfl, rfl, rfl, trivial⟩ ?_
            refine W.seq ?_
            refine W.region ?_
            refine T.q (q_move rfl rfl) (Wt.plain rfl) rfl rfl ?_
            refine T.q (q_rem rfl rfl rfl (by omega) (by decide)) (Wt.plain rfl) rfl rfl ?_
            refine T.q (q_assign rfl rfl) (Wt.plain rfl) rfl rfl ?_
            refine T.nil ?_
            refine Ex.next ?_
            refine W.slots (L' := [(6, _), (7, _), (10, _), (11, _), (12, _), (13, _), (14, _)]) ⟨rfl, rfl, rfl, rfl, rfl, rfl, rfl, trivial⟩ ?_
            refine W.seq ?_
            refine W.region ?_
            refine T.q (q_move rfl rfl) (Wt.plain rfl) rfl rfl ?_
            refine T.q (q_move rfl rfl) (Wt.plain rfl) rfl rfl ?_
            refine T.q (q_addi rfl rfl rfl (by omega) (by omega)) (Wt.plain rfl) rfl rfl ?_
            refine T.q (q_rem rfl rfl rfl (by omega) (by decide)) (Wt.plain rfl) rfl rfl ?_
            refine T.q (q_addi rfl rfl rfl (by omega) (by omega)) (Wt.plain rfl) rfl rfl ?_
            refine T.q (q_assign rfl rfl) (Wt.plain rfl) rfl rfl ?_
            refine T.nil ?_
            refine Ex.next ?_
            refine W.slots (L' := [(6, _), (7, _), (10, _), (11, _), (12, _), (13, _), (14, _), (15, _)]) ⟨rfl, rfl, rfl, rfl, rfl, rfl, rfl, rfl, trivial⟩ ?_
            refine W.seq ?_
            refine W.region ?_
            refine T.q (q_move rfl rfl) (Wt.plain rfl) rfl rfl ?_
            refine T.q (q_move rfl rfl) (Wt.plain rfl) rfl rfl ?_
            refine T.q (q_muli rfl rfl rfl (by omega) (by omega)) (Wt.plain rfl) rfl rfl ?_
            refine T.q (q_addi rfl rfl rfl (by omega) (by omega)) (Wt.plain rfl) rfl rfl ?_
            refine T.q (q_rem rfl rfl rfl (by omega) (by decide)) (Wt.plain rfl) rfl rfl ?_
            refine T.q (q_addi rfl rfl rfl (by omega) (by omega)) (Wt.plain rfl) rfl rfl ?_
            refine T.q (q_assign rfl rfl) (Wt.plain rfl) rfl rfl ?_
            refine T.nil ?_
            refine Ex.next ?_
            refine W.slots (L' := [(6, _), (7, _), (10, _), (11, _), (12, _), (13, _), (14, _), (15, _), (16, _)]) ⟨rfl, rfl, rfl, rfl, rfl, rfl, rfl, rfl, rfl, trivial⟩ ?_
            refine W.seq ?_
            refine W.region ?_
            refine T.q (q_move rfl rfl) (Wt.plain rfl) rfl rfl ?_
            refine T.q (q_move rfl rfl) (Wt.plain rfl) rfl rfl ?_
            refine T.q (q_muli rfl rfl rfl (by omega) (by omega)) (Wt.plain rfl) rfl rfl ?_
            refine T.q (q_addi rfl rfl rfl (by omega) (by omega)) (Wt.plain rfl) rfl rfl ?_
            refine T.q (q_rem rfl rfl rfl (by omega) (by decide)) (Wt.plain rfl) rfl rfl ?_
            refine T.q (q_addi rfl rfl rfl (by omega) (by omega)) (Wt.plain rfl) rfl rfl ?_
            refine T.q (q_assign rfl rfl) (Wt.plain rfl) rfl rfl ?_
            refine T.nil ?_
            refine Ex.next ?_
            refine W.slots (L' := [(6, _), (7, _), (10, _), (11, _), (12, _), (14, _), (15, _), (16, _), (17, _)]) ⟨rfl, rfl, rfl, rfl, rfl, rfl, rfl, rfl, rfl, trivial⟩ ?_
            refine W.seq ?_
            refine W.draw 19 (by kernel_rfl) ?_
            refine D.take 0 rfl (by kernel_rfl) (fun _ h => h) (q_move rfl rfl) (Wt.plain rfl) rfl rfl ?_
            refine D.take 1 rfl (by kernel_rfl) (fun _ h => h) (q_move rfl rfl) (Wt.plain rfl) rfl rfl ?_
            refine D.take 2 rfl (by kernel_rfl) (fun _ h => h) (q_ixS0 sc48 (j % 4) rfl rfl rfl (by omega) (by omega)) (Wt.plain rfl) rfl rfl ?_
            refine D.take 3 rfl (by kernel_rfl) (fun _ h => h) (q_loadIJ ss22 2 rfl rfl rfl (by first | omega | (simp; done) | (simp [-List.getD_eq_getElem?_getD]; omega))) (Wt.plain rfl) rfl rfl ?_
            refine D.take 4 rfl (by kernel_rfl) (fun _ h => h) (q_move rfl rfl) (Wt.plain rfl) rfl rfl ?_
            refine D.take 5 rfl (by kernel_rfl) (fun _ h => h) (q_move rfl rfl) (Wt.plain rfl) rfl rfl ?_
            refine D.take 6 rfl (by kernel_rfl) (fun _ h => h) (q_ixS0 sc48 (4 + ((j + 0) % 4)) rfl rfl rfl (by omega) (by omega)) (Wt.plain rfl) rfl rfl ?_
            refine D.take 7 rfl (by kernel_rfl) (fun _ h => h) (q_loadIJ ss22 2 rfl rfl rfl (by first | omega | (simp; done) | (simp [-List.getD_eq_getElem?_getD]; omega))) (Wt.plain rfl) rfl rfl ?_
            refine D.take 8 rfl (by kernel_rfl) (fun _ h => h) (q_move rfl rfl) (Wt.plain rfl) rfl rfl ?_
            refine D.take 9 rfl (by kernel_rfl) (fun _ h => h) (q_move rfl rfl) (Wt.plain rfl) rfl rfl ?_
            refine D.take 10 rfl (by kernel_rfl) (fun _ h => h) (q_ixS0 sc48 (8 + ((j + (2 * 0)) % 4)) rfl rfl rfl (by omega) (by omega)) (Wt.plain rfl) rfl rfl ?_
            refine D.take 11 rfl (by kernel_rfl) (fun _ h => h) (q_loadIJ ss22 2 rfl rfl rfl (by first | omega | (simp; done) | (simp [-List.getD_eq_getElem?_getD]; omega))) (Wt.plain rfl) rfl rfl ?_
            refine D.take 12 rfl (by kernel_rfl) (fun _ h => h) (q_move rfl rfl) (Wt.plain rfl) rfl rfl ?_
            refine D.take 13 rfl (by kernel_rfl) (fun _ h => h) (q_move rfl rfl) (Wt.plain rfl) rfl rfl ?_
            refine D.take 14 rfl (by kernel_rfl) (fun _ h => h) (q_ixS0 sc48 (12 + ((j + (3 * 0)) % 4)) rfl rfl rfl (by omega) (by omega)) (Wt.plain rfl) rfl rfl ?_
            refine D.take 15 rfl (by kernel_rfl) (fun _ h => h) (q_loadIJ ss22 2 rfl rfl rfl (by first | omega | (simp; done) | (simp [-List.getD_eq_getElem?_getD]; omega))) (Wt.plain rfl) rfl rfl ?_
            refine D.take 16 rfl (by kernel_rfl) (fun _ h => h) (q_buildA ar23 ze23 rfl rfl rfl rfl (by simp [Value.cells])) (Wt.plain rfl) rfl rfl ?_
            refine D.two 17 18 (by kernel_rfl) ?_ ?_
            ·
              refine Up.eff rfl (e_call enters11 rfl rfl (fun w hm => refquarter_spec [_, _, _, _] rfl w) rfl rfl) (Wt.plain rfl) ?_
              rintro _ _ ⟨_, _, ⟨rfl, rfl⟩, rfl, rfl⟩
              refine ⟨fun _ => (fun _ h => h), ?_⟩
              refine D.one 18 (by kernel_rfl) ?_
              refine Up.eff rfl (e_alloc ze23 rfl rfl rfl) (Wt.plain rfl) ?_
              rintro _ _ ⟨k32, rfl, rfl⟩
              refine ⟨fun _ => (S_sub (((((List.Sublist.slnil).cons _).cons_cons _).cons_cons _).cons_cons _)), ?_⟩
              refine D.one 19 (by kernel_rfl) ?_
              refine Up.eff rfl (e_storeA (wide_ints wd23 (by first | omega | (simp; done) | (simp [-List.getD_eq_getElem?_getD]; omega) | (simp at *; omega) | rfl)) 3 rfl rfl rfl rfl (by first | omega | (simp; done) | (simp [-List.getD_eq_getElem?_getD]; omega) | (simp at *; omega) | rfl) ints_one rfl) (Wt.plain rfl) ?_
              rintro _ _ ⟨rfl, rfl⟩
              refine ⟨fun h => absurd h (by decide), ?_⟩
              refine D.done (by kernel_rfl) ?_
              refine Ex.next ?_
              refine W.slots (L' := [(6, _), (7, _), (10, _), (11, _), (12, _), (14, _), (15, _), (16, _), (17, _), (18, _)]) ⟨rfl, rfl, rfl, rfl, rfl, rfl, rfl, rfl, rfl, rfl, trivial⟩ ?_
              refine W.seq ?_
              refine W.region ?_
              refine T.q (q_move rfl rfl) (Wt.plain rfl) rfl rfl ?_
              refine T.q (q_move rfl rfl) (Wt.plain rfl) rfl rfl ?_
              refine T.q (q_ixA0 ar23 0 rfl rfl rfl (rfl) (by decide)) (Wt.plain rfl) rfl rfl ?_
              refine T.q (q_loadI ss22 3 rfl rfl rfl (by first | omega | (simp; done) | (simp [-List.getD_eq_getElem?_getD]; omega))) (Wt.plain rfl) rfl rfl ?_
              refine T.q (q_ixS0 sc48 (j % 4) rfl rfl rfl (by omega) (by omega)) (Wt.plain rfl) rfl rfl ?_
              refine T.eff (e_storeIJ ss22 2 rfl rfl rfl rfl (by first | omega | (simp; done) | (simp [-List.getD_eq_getElem?_getD]; omega)) rfl) (Wt.plain rfl) ?_
              rintro _ _ ⟨rfl, rfl⟩
              change (_ : List Blk → Prop) [_, _, _, _]
              refine T.nil ?_
              refine Ex.next ?_
              refine W.slots (L' := [(6, _), (7, _), (10, _), (11, _), (12, _), (15, _), (16, _), (17, _), (18, _)]) ⟨rfl, rfl, rfl, rfl, rfl, rfl, rfl, rfl, rfl, trivial⟩ ?_
              refine W.seq ?_
              refine W.region ?_
              refine T.q (q_move rfl rfl) (Wt.plain rfl) rfl rfl ?_
              refine T.q (q_move rfl rfl) (Wt.plain rfl) rfl rfl ?_
              refine T.q (q_ixA0 ar23 1 rfl rfl rfl (rfl) (by decide)) (Wt.plain rfl) rfl rfl ?_
              refine T.q (q_loadI ss22 3 rfl rfl rfl (by first | omega | (simp; done) | (simp [-List.getD_eq_getElem?_getD]; omega))) (Wt.plain rfl) rfl rfl ?_
              refine T.q (q_ixS0 sc48 (4 + ((j + 0) % 4)) rfl rfl rfl (by omega) (by omega)) (Wt.plain rfl) rfl rfl ?_
              refine T.eff (e_storeIJ ss22 2 rfl rfl rfl rfl (by first | omega | (simp; done) | (simp [-List.getD_eq_getElem?_getD]; omega)) rfl) (Wt.plain rfl) ?_
              rintro _ _ ⟨rfl, rfl⟩
              change (_ : List Blk → Prop) [_, _, _, _]
              refine T.nil ?_
              refine Ex.next ?_
              refine W.slots (L' := [(6, _), (7, _), (10, _), (11, _), (12, _), (16, _), (17, _), (18, _)]) ⟨rfl, rfl, rfl, rfl, rfl, rfl, rfl, rfl, trivial⟩ ?_
              refine W.seq ?_
              refine W.region ?_
              refine T.q (q_move rfl rfl) (Wt.plain rfl) rfl rfl ?_
              refine T.q (q_move rfl rfl) (Wt.plain rfl) rfl rfl ?_
              refine T.q (q_ixA0 ar23 2 rfl rfl rfl (rfl) (by decide)) (Wt.plain rfl) rfl rfl ?_
              refine T.q (q_loadI ss22 3 rfl rfl rfl (by first | omega | (simp; done) | (simp [-List.getD_eq_getElem?_getD]; omega))) (Wt.plain rfl) rfl rfl ?_
              refine T.q (q_ixS0 sc48 (8 + ((j + (2 * 0)) % 4)) rfl rfl rfl (by omega) (by omega)) (Wt.plain rfl) rfl rfl ?_
              refine T.eff (e_storeIJ ss22 2 rfl rfl rfl rfl (by first | omega | (simp; done) | (simp [-List.getD_eq_getElem?_getD]; omega)) rfl) (Wt.plain rfl) ?_
              rintro _ _ ⟨rfl, rfl⟩
              change (_ : List Blk → Prop) [_, _, _, _]
              refine T.nil ?_
              refine Ex.next ?_
              refine W.slots (L' := [(6, _), (7, _), (10, _), (11, _), (12, _), (17, _), (18, _)]) ⟨rfl, rfl, rfl, rfl, rfl, rfl, rfl, trivial⟩ ?_
              refine W.region ?_
              refine T.q (q_move rfl rfl) (Wt.plain rfl) rfl rfl ?_
              refine T.q (q_move rfl rfl) (Wt.plain rfl) rfl rfl ?_
              refine T.q (q_ixA0 ar23 3 rfl rfl rfl (rfl) (by decide)) (Wt.plain rfl) rfl rfl ?_
              refine T.q (q_loadI ss22 3 rfl rfl rfl (by first | omega | (simp; done) | (simp [-List.getD_eq_getElem?_getD]; omega))) (Wt.plain rfl) rfl rfl ?_
              refine T.q (q_ixS0 sc48 (12 + ((j + (3 * 0)) % 4)) rfl rfl rfl (by omega) (by omega)) (Wt.plain rfl) rfl rfl ?_
              refine T.eff (e_storeIJ ss22 2 rfl rfl rfl rfl (by first | omega | (simp; done) | (simp [-List.getD_eq_getElem?_getD]; omega)) rfl) (Wt.plain rfl) ?_
              rintro _ _ ⟨rfl, rfl⟩
              change (_ : List Blk → Prop) [_, _, _, _]
              refine T.nil ?_
              refine Ex.in_normal ?_
              refine Ex.next ?_
              refine W.less (L' := [(6, _), (7, _), (10, _), (11, _), (12, _)]) [true, true, true, false] ⟨rfl, rfl, rfl, rfl, rfl, trivial⟩ ?_
              change (_ : List Blk → Prop) [_, _, _]
              refine W.region ?_
              refine T.q (q_move rfl rfl) (Wt.plain rfl) rfl rfl ?_
              refine T.q (q_addi rfl rfl rfl (by omega) (by omega)) (Wt.plain rfl) rfl rfl ?_
              refine T.q (q_assign rfl rfl) (Wt.plain rfl) rfl rfl ?_
              refine T.nil ?_
              exact Ex.again [true, true, true] (j + 1) (by omega) (by omega) ⟨rfl, rfl, rfl, rfl, rfl, trivial⟩ (congrArg (fun r_ : List Int => ([⟨some k3, ints .u8 (List.replicate 64 0), 31, (0, 0)⟩, ⟨some kk, ints .u32 (initS key nonce ctr) ++ jj, 22, (0, 0)⟩, ⟨some k23, ints .u32 r_ ++ junk25, 22, (0, 0)⟩] : List Blk)) (rstep_lo (by omega) _))
            ·
              refine Up.eff rfl (e_alloc ze23 rfl rfl rfl) (Wt.plain rfl) ?_
              rintro _ _ ⟨k33, rfl, rfl⟩
              refine ⟨fun _ => (S_sub (((((List.Sublist.slnil).cons _).cons_cons _).cons_cons _).cons_cons _)), ?_⟩
              refine D.one 17 (by kernel_rfl) ?_
              refine Up.eff rfl (e_call enters11 rfl rfl (fun w hm => refquarter_spec [_, _, _, _] rfl w) rfl rfl) (Wt.plain rfl) ?_
              rintro _ _ ⟨_, _, ⟨rfl, rfl⟩, rfl, rfl⟩
              refine ⟨fun _ => (S_sub (((((List.Sublist.slnil).cons _).cons_cons _).cons_cons _).cons_cons _)), ?_⟩
              refine D.one 19 (by kernel_rfl) ?_
              refine Up.eff rfl (e_storeA (wide_ints wd23 (by first | omega | (simp; done) | (simp [-List.getD_eq_getElem?_getD]; omega) | (simp at *; omega) | rfl)) 3 rfl rfl rfl rfl (by first | omega | (simp; done) | (simp [-List.getD_eq_getElem?_getD]; omega) | (simp at *; omega) | rfl) ints_one rfl) (Wt.plain rfl) ?_
              rintro _ _ ⟨rfl, rfl⟩
              refine ⟨fun h => absurd h (by decide), ?_⟩
              refine D.done (by kernel_rfl) ?_
              refine Ex.next ?_
              refine W.slots (L' := [(6, _), (7, _), (10, _), (11, _), (12, _), (14, _), (15, _), (16, _), (17, _), (18, _)]) ⟨rfl, rfl, rfl, rfl, rfl, rfl, rfl, rfl, rfl, rfl, trivial⟩ ?_
              refine W.seq ?_
              refine W.region ?_
              refine T.q (q_move rfl rfl) (Wt.plain rfl) rfl rfl ?_
              refine T.q (q_move rfl rfl) (Wt.plain rfl) rfl rfl ?_
              refine T.q (q_ixA0 ar23 0 rfl rfl rfl (rfl) (by decide)) (Wt.plain rfl) rfl rfl ?_
              refine T.q (q_loadI ss22 3 rfl rfl rfl (by first | omega | (simp; done) | (simp [-List.getD_eq_getElem?_getD]; omega))) (Wt.plain rfl) rfl rfl ?_
              refine T.q (q_ixS0 sc48 (j % 4) rfl rfl rfl (by omega) (by omega)) (Wt.plain rfl) rfl rfl ?_
              refine T.eff (e_storeIJ ss22 2 rfl rfl rfl rfl (by first | omega | (simp; done) | (simp [-List.getD_eq_getElem?_getD]; omega)) rfl) (Wt.plain rfl) ?_
              rintro _ _ ⟨rfl, rfl⟩
              change (_ : List Blk → Prop) [_, _, _, _]
              refine T.nil ?_
              refine Ex.next ?_
              refine W.slots (L' := [(6, _), (7, _), (10, _), (11, _), (12, _), (15, _), (16, _), (17, _), (18, _)]) ⟨rfl, rfl, rfl, rfl, rfl, rfl, rfl, rfl, rfl, trivial⟩ ?_
              refine W.seq ?_
              refine W.region ?_
              refine T.q (q_move rfl rfl) (Wt.plain rfl) rfl rfl ?_
              refine T.q (q_move rfl rfl) (Wt.plain rfl) rfl rfl ?_
              refine T.q (q_ixA0 ar23 1 rfl rfl rfl (rfl) (by decide)) (Wt.plain rfl) rfl rfl ?_
              refine T.q (q_loadI ss22 3 rfl rfl rfl (by first | omega | (simp; done) | (simp [-List.getD_eq_getElem?_getD]; omega))) (Wt.plain rfl) rfl rfl ?_
              refine T.q (q_ixS0 sc48 (4 + ((j + 0) % 4)) rfl rfl rfl (by omega) (by omega)) (Wt.plain rfl) rfl rfl ?_
              refine T.eff (e_storeIJ ss22 2 rfl rfl rfl rfl (by first | omega | (simp; done) | (simp [-List.getD_eq_getElem?_getD]; omega)) rfl) (Wt.plain rfl) ?_
              rintro _ _ ⟨rfl, rfl⟩
              change (_ : List Blk → Prop) [_, _, _, _]
              refine T.nil ?_
              refine Ex.next ?_
              refine W.slots (L' := [(6, _), (7, _), (10, _), (11, _), (12, _), (16, _), (17, _), (18, _)]) ⟨rfl, rfl, rfl, rfl, rfl, rfl, rfl, rfl, trivial⟩ ?_
              refine W.seq ?_
              refine W.region ?_
              refine T.q (q_move rfl rfl) (Wt.plain rfl) rfl rfl ?_
              refine T.q (q_move rfl rfl) (Wt.plain rfl) rfl rfl ?_
              refine T.q (q_ixA0 ar23 2 rfl rfl rfl (rfl) (by decide)) (Wt.plain rfl) rfl rfl ?_
              refine T.q (q_loadI ss22 3 rfl rfl rfl (by first | omega | (simp; done) | (simp [-List.getD_eq_getElem?_getD]; omega))) (Wt.plain rfl) rfl rfl ?_
              refine T.q (q_ixS0 sc48 (8 + ((j + (2 * 0)) % 4)) rfl rfl rfl (by omega) (by omega)) (Wt.plain rfl) rfl rfl ?_
              refine T.eff (e_storeIJ ss22 2 rfl rfl rfl rfl (by first | omega | (simp; done) | (simp [-List.getD_eq_getElem?_getD]; omega)) rfl) (Wt.plain rfl) ?_
              rintro _ _ ⟨rfl, rfl⟩
              change (_ : List Blk → Prop) [_, _, _, _]
              refine T.nil ?_
              refine Ex.next ?_
              refine W.slots (L' := [(6, _), (7, _), (10, _), (11, _), (12, _), (17, _), (18, _)]) ⟨rfl, rfl, rfl, rfl, rfl, rfl, rfl, trivial⟩ ?_
              refine W.region ?_
              refine T.q (q_move rfl rfl) (Wt.plain rfl) rfl rfl ?_
              refine T.q (q_move rfl rfl) (Wt.plain rfl) rfl rfl ?_
              refine T.q (q_ixA0 ar23 3 rfl rfl rfl (rfl) (by decide)) (Wt.plain rfl) rfl rfl ?_
              refine T.q (q_loadI ss22 3 rfl rfl rfl (by first | omega | (simp; done) | (simp [-List.getD_eq_getElem?_getD]; omega))) (Wt.plain rfl) rfl rfl ?_
              refine T.q (q_ixS0 sc48 (12 + ((j + (3 * 0)) % 4)) rfl rfl rfl (by omega) (by omega)) (Wt.plain rfl) rfl rfl ?_
              refine T.eff (e_storeIJ ss22 2 rfl rfl rfl rfl (by first | omega | (simp; done) | (simp [-List.getD_eq_getElem?_getD]; omega)) rfl) (Wt.plain rfl) ?_
              rintro _ _ ⟨rfl, rfl⟩
              change (_ : List Blk → Prop) [_, _, _, _]
              refine T.nil ?_
              refine Ex.in_normal ?_
              refine Ex.next ?_
              refine W.less (L' := [(6, _), (7, _), (10, _), (11, _), (12, _)]) [true, true, true, false] ⟨rfl, rfl, rfl, rfl, rfl, trivial⟩ ?_
              change (_ : List Blk → Prop) [_, _, _]
              refine W.region ?_
              refine T.q (q_move rfl rfl) (Wt.plain rfl) rfl rfl ?_
              refine T.q (q_addi rfl rfl rfl (by omega) (by omega)) (Wt.plain rfl) rfl rfl ?_
              refine T.q (q_assign rfl rfl) (Wt.plain rfl) rfl rfl ?_
              refine T.nil ?_
              exact Ex.again [true, true, true] (j + 1) (by omega) (by omega) ⟨rfl, rfl, rfl, rfl, rfl, trivial⟩ (congrArg (fun r_ : List Int => ([⟨some k3, ints .u8 (List.replicate 64 0), 31, (0, 0)⟩, ⟨some kk, ints .u32 (initS key nonce ctr) ++ jj, 22, (0, 0)⟩, ⟨some k23, ints .u32 r_ ++ junk25, 22, (0, 0)⟩] : List Blk)) (rstep_lo (by omega) _))
        · replace hb28 := of_decide_eq_false hb28
          obtain rfl : j = 8 := by omega
          refine W.exit ?_
          refine Ex.then_exit ?_
          refine Ex.then_exit ?_
          refine Ex.in_here ?_
          refine Ex.in_normal ?_
          refine Ex.next ?_
          refine W.slots (L' := [(6, _), (7, _), (10, _), (11, _)]) ⟨rfl, rfl, rfl, rfl, trivial⟩ ?_
          refine W.region ?_
          refine T.q (q_move rfl rfl) (Wt.plain rfl) rfl rfl ?_
          refine T.q (q_addi rfl rfl rfl (by omega) (by omega)) (Wt.plain rfl) rfl rfl ?_
          refine T.q (q_assign rfl rfl) (Wt.plain rfl) rfl rfl ?_
          refine T.nil ?_
          exact Ex.again [true, true, true] (n + 1) (by omega) (by omega) ⟨rfl, rfl, rfl, rfl, trivial⟩ rfl
      · replace hb27 := of_decide_eq_false hb27
        obtain rfl : n = 10 := by omega
        refine W.exit ?_
        refine Ex.then_exit ?_
        refine Ex.then_exit ?_
        refine Ex.in_here ?_
        refine Ex.next ?_
        refine W.slots (L' := [(6, _), (7, _), (10, _)]) ⟨rfl, rfl, rfl, trivial⟩ ?_
        refine W.seq ?_
        refine W.region ?_
        refine T.q (q_build (v := .agg (ints .u8 (List.replicate 64 0)).toArray) rfl rfl (fun _ => by kernel_rfl)) (Wt.plain rfl) rfl rfl ?_
        refine T.eff (e_alloc ze31 rfl rfl rfl) (Wt.plain rfl) ?_
        rintro _ _ ⟨k34, rfl, rfl⟩
        change (_ : List Blk → Prop) [_, _, _, _]
        refine T.eff (e_storeA (wide_ints wd31 (by first | omega | (simp; done) | (simp [-List.getD_eq_getElem?_getD]; omega) | (simp at *; omega) | rfl)) 3 rfl rfl rfl rfl (by first | omega | (simp; done) | (simp [-List.getD_eq_getElem?_getD]; omega) | (simp at *; omega) | rfl) ints_one rfl) (Wt.plain rfl) ?_
        rintro _ _ ⟨rfl, rfl⟩
        change (_ : List Blk → Prop) [_, _, _, _]
        refine T.nil ?_
        refine Ex.next ?_
        refine W.slots (L' := [(6, _), (7, _), (10, _), (19, _)]) ⟨rfl, rfl, rfl, rfl, trivial⟩ ?_
        refine W.seq ?_
        refine W.seq ?_
        refine W.region ?_
        refine T.q (q_assign rfl rfl) (Wt.plain rfl) rfl rfl ?_
        refine T.nil ?_
        refine Ex.next ?_
        refine W.slots (L' := [(6, _), (7, _), (10, _), (19, _), (20, _)]) ⟨rfl, rfl, rfl, rfl, rfl, trivial⟩ ?_
        refine W.block ?_
        refine W.loop (α := Nat) (fun i => [(6, .pointer (some ⟨k3, 0, none⟩)), (7, .slice (some ⟨kk, 0, none⟩) (13 + 3) cc), (10, .slice (some ⟨k23, 0, none⟩) (0 + (13 + 3)) cap24), (19, .pointer (some ⟨k34, 0, none⟩)), (20, .int .i64 ((i : Nat) : Int))]) (fun i => [⟨some k3, ints .u8 (List.replicate 64 0), 31, (0, 0)⟩, ⟨some kk, ints .u32 (initS key nonce ctr) ++ jj, 22, (0, 0)⟩, ⟨some k23, ints .u32 (rn 10 (initS key nonce ctr)) ++ junk25, 22, (0, 0)⟩, ⟨some k34, ints .u8 (ser (fun q => IntKind.u32.wrap ((rn 10 (initS key nonce ctr)).getD q 0 + (initS key nonce ctr).getD q 0)) i), 31, (0, 0)⟩]) (fun i => i ≤ 16) (fun i => 16 - i) [true, true, true, true] 0 (by omega) ⟨rfl, rfl, rfl, rfl, rfl, trivial⟩ rfl ?_
        rintro i hi
        refine W.seq ?_
        refine W.seq ?_
        refine W.region ?_
        refine T.q (q_move rfl rfl) (Wt.plain rfl) rfl rfl ?_
        refine T.q (q_lss rfl rfl rfl) (Wt.plain rfl) rfl rfl ?_
        refine T.nil ?_
        refine Ex.next ?_
        refine W.slots (L' := [(6, _), (7, _), (10, _), (19, _), (20, _), (128, _)]) ⟨rfl, rfl, rfl, rfl, rfl, rfl, trivial⟩ ?_
        refine W.cond _ rfl (fun hb35 => ?_) (fun hb35 => ?_)
        · replace hb35 := of_decide_eq_true hb35
          refine W.skip ?_
          refine Ex.next ?_
          refine W.slots (L' := [(6, _), (7, _), (10, _), (19, _), (20, _)]) ⟨rfl, rfl, rfl, rfl, rfl, trivial⟩ ?_
          refine W.seq ?_
          refine W.block ?_
          refine W.seq ?_
          refine W.draw 9 (by kernel_rfl) ?_
          refine D.take 0 rfl (by kernel_rfl) (fun _ h => h) (q_move rfl rfl) (Wt.plain rfl) rfl rfl ?_
          refine D.take 1 rfl (by kernel_rfl) (fun _ h => h) (q_move rfl rfl) (Wt.plain rfl) rfl rfl ?_
          refine D.take 2 rfl (by kernel_rfl) (fun _ h => h) (q_ixS0 sc48 i rfl rfl rfl (by omega) (by omega)) (Wt.plain rfl) rfl rfl ?_
          refine D.take 3 rfl (by kernel_rfl) (fun _ h => h) (q_loadIJ ss22 2 rfl rfl rfl (by first | omega | (simp; done) | (simp [-List.getD_eq_getElem?_getD]; omega))) (Wt.plain rfl) rfl rfl ?_
          refine D.take 4 rfl (by kernel_rfl) (fun _ h => h) (q_move rfl rfl) (Wt.plain rfl) rfl rfl ?_
          refine D.take 5 rfl (by kernel_rfl) (fun _ h => h) (q_move rfl rfl) (Wt.plain rfl) rfl rfl ?_
          refine D.take 6 rfl (by kernel_rfl) (fun _ h => h) (q_ixS0 sc48 i rfl rfl rfl (by omega) (by omega)) (Wt.plain rfl) rfl rfl ?_
          refine D.take 7 rfl (by kernel_rfl) (fun _ h => h) (q_loadIJ ss22 1 rfl rfl rfl (by first | omega | (simp; done) | (simp [-List.getD_eq_getElem?_getD]; omega))) (Wt.plain rfl) rfl rfl ?_
          refine D.take 8 rfl (by kernel_rfl) (fun _ h => h) (q_add rfl rfl rfl) (Wt.plain rfl) rfl rfl ?_
          refine D.one 9 (by kernel_rfl) ?_
          refine Up.q rfl (q_assign rfl rfl) (Wt.plain rfl) rfl rfl (fun h => absurd h (by decide)) ?_
          refine D.done (by kernel_rfl) ?_
          refine Ex.next ?_
          refine W.slots (L' := [(6, _), (7, _), (10, _), (19, _), (20, _), (21, _)]) ⟨rfl, rfl, rfl, rfl, rfl, rfl, trivial⟩ ?_
          refine W.seq ?_
          refine W.region ?_
          refine T.q (q_assign rfl rfl) (Wt.plain rfl) rfl rfl ?_
          refine T.nil ?_
          refine Ex.next ?_
          refine W.slots (L' := [(6, _), (7, _), (10, _), (19, _), (20, _), (21, _), (22, _)]) ⟨rfl, rfl, rfl, rfl, rfl, rfl, rfl, trivial⟩ ?_
          refine W.block ?_
          refine W.loop (α := Nat) (fun k => [(6, .pointer (some ⟨k3, 0, none⟩)), (7, .slice (some ⟨kk, 0, none⟩) (13 + 3) cc), (10, .slice (some ⟨k23, 0, none⟩) (0 + (13 + 3)) cap24), (19, .pointer (some ⟨k34, 0, none⟩)), (20, .int .i64 ((i : Nat) : Int)), (21, .int .u32 (IntKind.u32.wrap (((rn 10 (initS key nonce ctr)).getD i 0) + ((initS key nonce ctr).getD i 0)))), (22, .int .i64 ((k : Nat) : Int))]) (fun k => [⟨some k3, ints .u8 (List.replicate 64 0), 31, (0, 0)⟩, ⟨some kk, ints .u32 (initS key nonce ctr) ++ jj, 22, (0, 0)⟩, ⟨some k23, ints .u32 (rn 10 (initS key nonce ctr)) ++ junk25, 22, (0, 0)⟩, ⟨some k34, ints .u8 (fillAt (fun q => 4 * i + q) (fun q => IntKind.u8.wrap (shr .u32 (IntKind.u32.wrap ((rn 10 (initS key nonce ctr)).getD i 0 + (initS key nonce ctr).getD i 0)) (8 * (q : Int)))) k (ser (fun q => IntKind.u32.wrap ((rn 10 (initS key nonce ctr)).getD q 0 + (initS key nonce ctr).getD q 0)) i)), 31, (0, 0)⟩]) (fun k => k ≤ 4) (fun k => 4 - k) [true, true, true, true] 0 (by omega) ⟨rfl, rfl, rfl, rfl, rfl, rfl, rfl, trivial⟩ rfl ?_
          rintro k hk
          refine W.seq ?_
          refine W.seq ?_
          refine W.region ?_
          refine T.q (q_move rfl rfl) (Wt.plain rfl) rfl rfl ?_
          refine T.q (q_lss rfl rfl rfl) (Wt.plain rfl) rfl rfl ?_
          refine T.nil ?_
          refine Ex.next ?_
          refine W.slots (L' := [(6, _), (7, _), (10, _), (19, _), (20, _), (21, _), (22, _), (141, _)]) ⟨rfl, rfl, rfl, rfl, rfl, rfl, rfl, rfl, trivial⟩ ?_
          refine W.cond _ rfl (fun hb36 => ?_) (fun hb36 => ?_)
          · replace hb36 := of_decide_eq_true hb36
            refine W.skip ?_
            refine Ex.next ?_
            refine W.slots (L' := [(6, _), (7, _), (10, _), (19, _), (20, _), (21, _), (22, _)]) ⟨rfl, rfl, rfl, rfl, rfl, rfl, rfl, trivial⟩ ?_
            refine W.seq ?_
            refine W.block ?_
            refine W.region ?_
            refine T.q (q_move rfl rfl) (Wt.plain rfl) rfl rfl ?_
            refine T.q (q_muli rfl rfl rfl (by omega) (by omega)) (Wt.plain rfl) rfl rfl ?_
            refine T.q (q_move rfl rfl) (Wt.plain rfl) rfl rfl ?_
            refine T.q (q_addi rfl rfl rfl (by omega) (by omega)) (Wt.plain rfl) rfl rfl ?_
            refine T.q (q_move rfl rfl) (Wt.plain rfl) rfl rfl ?_
            refine T.q (q_move rfl rfl) (Wt.plain rfl) rfl rfl ?_
            refine T.q (q_muli rfl rfl rfl (by omega) (by omega)) (Wt.plain rfl) rfl rfl ?_
            refine T.q (q_shr rfl rfl rfl (by omega)) (Wt.plain rfl) rfl rfl ?_
            refine T.q (q_conv un22 un5 rfl rfl) (Wt.plain rfl) rfl rfl ?_
            refine T.q (q_ixA0 ar31 ((4 * i) + k) rfl rfl rfl (by omega) (by omega)) (Wt.plain rfl) rfl rfl ?_
            refine T.eff (e_storeI ss5 3 rfl rfl rfl rfl (by first | omega | (simp; done) | (simp [-List.getD_eq_getElem?_getD]; omega)) rfl) (Wt.plain rfl) ?_
            rintro _ _ ⟨rfl, rfl⟩
            change (_ : List Blk → Prop) [_, _, _, _]
            refine T.nil ?_
            refine Ex.in_normal ?_
            refine Ex.next ?_
            refine W.slots (L' := [(6, _), (7, _), (10, _), (19, _), (20, _), (21, _), (22, _)]) ⟨rfl, rfl, rfl, rfl, rfl, rfl, rfl, trivial⟩ ?_
            refine W.region ?_
            refine T.q (q_move rfl rfl) (Wt.plain rfl) rfl rfl ?_
            refine T.q (q_addi rfl rfl rfl (by omega) (by omega)) (Wt.plain rfl) rfl rfl ?_
            refine T.q (q_assign rfl rfl) (Wt.plain rfl) rfl rfl ?_
            refine T.nil ?_
            exact Ex.again [true, true, true, true] (k + 1) (by omega) (by omega) ⟨rfl, rfl, rfl, rfl, rfl, rfl, rfl, trivial⟩ rfl
          · replace hb36 := of_decide_eq_false hb36
            obtain rfl : k = 4 := by omega
            refine W.exit ?_
            refine Ex.then_exit ?_
            refine Ex.then_exit ?_
            refine Ex.in_here ?_
            refine Ex.in_normal ?_
            refine Ex.next ?_
            refine W.slots (L' := [(6, _), (7, _), (10, _), (19, _), (20, _)]) ⟨rfl, rfl, rfl, rfl, rfl, trivial⟩ ?_
            refine W.region ?_
            refine T.q (q_move rfl rfl) (Wt.plain rfl) rfl rfl ?_
            refine T.q (q_addi rfl rfl rfl (by omega) (by omega)) (Wt.plain rfl) rfl rfl ?_
            refine T.q (q_assign rfl rfl) (Wt.plain rfl) rfl rfl ?_
            refine T.nil ?_
            exact Ex.again [true, true, true, true] (i + 1) (by omega) (by omega) ⟨rfl, rfl, rfl, rfl, rfl, trivial⟩ rfl
        · replace hb35 := of_decide_eq_false hb35
          obtain rfl : i = 16 := by omega
          refine W.exit ?_
          refine Ex.then_exit ?_
          refine Ex.then_exit ?_
          refine Ex.in_here ?_
          refine Ex.next ?_
          refine W.less (L' := [(6, _), (19, _)]) [true, false, false, true] ⟨rfl, rfl, trivial⟩ ?_
          change (_ : List Blk → Prop) [_, _]
          refine W.seq ?_
          refine W.region ?_
          refine T.q (q_loadW (wide_ints wd31 (by first | omega | (simp; done) | (simp [-List.getD_eq_getElem?_getD]; omega) | (simp at *; omega) | rfl)) (R_blk 1 rfl) rfl rfl) (Wt.plain rfl) rfl rfl ?_
          refine T.eff (e_storeA (wide_ints wd31 (by first | omega | (simp; done) | (simp [-List.getD_eq_getElem?_getD]; omega) | (simp at *; omega) | rfl)) 0 rfl rfl rfl rfl (by first | omega | (simp; done) | (simp [-List.getD_eq_getElem?_getD]; omega) | (simp at *; omega) | rfl) ints_one rfl) (Wt.plain rfl) ?_
          rintro _ _ ⟨rfl, rfl⟩
          change (_ : List Blk → Prop) [_, _]
          refine T.nil ?_
          refine Ex.next ?_
          refine W.less (L' := [(6, _)]) [true, false] ⟨rfl, trivial⟩ ?_
          change (_ : List Blk → Prop) [_]
          refine W.ret ?_
          refine Ex.outC [false] 0 rfl (by exact (wide_ints wd31 (by first | omega | (simp; done) | (simp [-List.getD_eq_getElem?_getD]; omega) | (simp at *; omega) | rfl))) rfl rfl ?_
          exact ⟨rfl, rfl⟩
end Go.Proofs.YtgljacciacbggaaDoor
