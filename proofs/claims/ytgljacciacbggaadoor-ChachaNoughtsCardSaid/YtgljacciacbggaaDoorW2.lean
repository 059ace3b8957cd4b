/-
  The walks of layer 4: a block.
-/
import Derived.Test.YtgljacciacbggaaDoorW1
namespace Go.Proofs.YtgljacciacbggaaDoor
open Go Go.X
set_option maxRecDepth 100000 in
set_option maxHeartbeats 1000000 in
theorem block_spec (key nonce : List Int) (ctr : Int) (hk : key.length = 32) (hnn : nonce.length = 12) (w0 : World) (hh : Reads w0 (some ⟨0, 0, none⟩) (ints .u32 headW)) (ht : Reads w0 (some ⟨1, 0, none⟩) (ints .i64 tbl)) : Does Tryd.prog 12 #[.agg (ints .u8 key).toArray, .int .u32 ctr, .agg (ints .u8 nonce).toArray] w0 [] (fun v G => v = .agg (ints .u8 (block key nonce ctr)).toArray ∧ G = []) := by
  refine spec_of 119 Tryd.func12 rfl rfl rfl ?_
  refine W.seq ?_
  refine W.region ?_
  refine T.eff (e_box rfl rfl rfl rfl) (Wt.plain rfl) ?_
  rintro _ _ ⟨k1, rfl, rfl⟩
  change (_ : List Blk → Prop) [_]
  refine T.eff (e_box rfl rfl rfl rfl) (Wt.plain rfl) ?_
  rintro _ _ ⟨k2, rfl, rfl⟩
  change (_ : List Blk → Prop) [_, _]
  refine T.eff (e_alloc ze31 rfl rfl rfl) (Wt.plain rfl) ?_
  rintro _ _ ⟨k3, rfl, rfl⟩
  change (_ : List Blk → Prop) [_, _, _]
  refine T.nil ?_
  refine Ex.next ?_
  refine W.slots (L' := [(1, _), (3, _), (5, _), (6, _)]) ⟨rfl, rfl, rfl, rfl, trivial⟩ ?_
  refine W.seq ?_
  refine W.region ?_
  refine T.eff (e_alloc ze44 rfl rfl rfl) (Wt.plain rfl) ?_
  rintro _ _ ⟨k4, rfl, rfl⟩
  change (_ : List Blk → Prop) [_, _, _, _]
  refine T.nil ?_
  refine Ex.next ?_
  refine W.slots (L' := [(1, _), (3, _), (5, _), (6, _), (7, _)]) ⟨rfl, rfl, rfl, rfl, rfl, trivial⟩ ?_
  refine W.seq ?_
  refine W.seq ?_
  refine W.region ?_
  refine T.q (q_loadW (wide_ints wd23 (by first | omega | (simp; done) | (simp [-List.getD_eq_getElem?_getD]; omega) | (simp at *; omega) | rfl)) (R_ext hh.ext) rfl rfl) (Wt.plain rfl) rfl rfl ?_
  refine T.q (q_move rfl rfl) (Wt.plain rfl) rfl rfl ?_
  refine T.nil ?_
  refine Ex.next ?_
  refine W.slots (L' := [(1, _), (3, _), (5, _), (6, _), (7, _), (22, _), (23, _)]) ⟨rfl, rfl, rfl, rfl, rfl, rfl, rfl, trivial⟩ ?_
  refine W.block ?_
  refine W.loop (α := Nat) (fun i => [(1, .int .u32 ctr), (3, .pointer (some ⟨k1, 0, none⟩)), (5, .pointer (some ⟨k2, 0, none⟩)), (6, .pointer (some ⟨k3, 0, none⟩)), (7, .pointer (some ⟨k4, 0, none⟩)), (22, .agg (ints .u32 headW).toArray), (23, .int .i64 ((i : Nat) : Int))]) (fun i => [⟨some k1, ints .u8 key, 28, (0, 0)⟩, ⟨some k2, ints .u8 nonce, 30, (0, 0)⟩, ⟨some k3, ints .u8 (List.replicate 64 0), 31, (0, 0)⟩, ⟨some k4, ints .u32 (fillAt (fun q => q) (fun q => headW.getD q 0) i (List.replicate 16 0)), 44, (0, 0)⟩]) (fun i => i ≤ 4) (fun i => 4 - i) [true, true, true, true] 0 (by omega) ⟨rfl, rfl, rfl, rfl, rfl, rfl, rfl, trivial⟩ rfl ?_
  rintro i hi
  refine W.seq ?_
  refine W.region ?_
  refine T.q (q_lss rfl rfl rfl) (Wt.plain rfl) rfl rfl ?_
  refine T.nil ?_
  refine Ex.next ?_
  refine W.slots (L' := [(1, _), (3, _), (5, _), (6, _), (7, _), (22, _), (23, _), (24, _)]) ⟨rfl, rfl, rfl, rfl, rfl, rfl, rfl, rfl, trivial⟩ ?_
  refine W.seq ?_
  refine W.cond _ rfl (fun hb5 => ?_) (fun hb5 => ?_)
  · replace hb5 := of_decide_eq_true hb5
    refine W.skip ?_
    refine Ex.next ?_
    refine W.slots (L' := [(1, _), (3, _), (5, _), (6, _), (7, _), (22, _), (23, _)]) ⟨rfl, rfl, rfl, rfl, rfl, rfl, rfl, trivial⟩ ?_
    refine W.seq ?_
    refine W.block ?_
    refine W.seq ?_
    refine W.region ?_
    refine T.q (q_move rfl rfl) (Wt.plain rfl) rfl rfl ?_
    refine T.q (q_ixVI ar23 ss22 i rfl rfl rfl (by omega) (by omega) (by first | omega | (simp; done) | (simp [-List.getD_eq_getElem?_getD]; omega))) (Wt.plain rfl) rfl rfl ?_
    refine T.q (q_assign rfl rfl) (Wt.plain rfl) rfl rfl ?_
    refine T.q (q_assign rfl rfl) (Wt.plain rfl) rfl rfl ?_
    refine T.nil ?_
    refine Ex.next ?_
    refine W.slots (L' := [(1, _), (3, _), (5, _), (6, _), (7, _), (8, _), (9, _), (22, _), (23, _)]) ⟨rfl, rfl, rfl, rfl, rfl, rfl, rfl, rfl, rfl, trivial⟩ ?_
    refine W.region ?_
    refine T.q (q_move rfl rfl) (Wt.plain rfl) rfl rfl ?_
    refine T.q (q_move rfl rfl) (Wt.plain rfl) rfl rfl ?_
    refine T.q (q_ixA0 ar44 i rfl rfl rfl (by omega) (by omega)) (Wt.plain rfl) rfl rfl ?_
    refine T.eff (e_storeI ss22 3 rfl rfl rfl rfl (by first | omega | (simp; done) | (simp [-List.getD_eq_getElem?_getD]; omega)) rfl) (Wt.plain rfl) ?_
    rintro _ _ ⟨rfl, rfl⟩
    change (_ : List Blk → Prop) [_, _, _, _]
    refine T.nil ?_
    refine Ex.in_normal ?_
    refine Ex.next ?_
    refine W.slots (L' := [(1, _), (3, _), (5, _), (6, _), (7, _), (22, _), (23, _)]) ⟨rfl, rfl, rfl, rfl, rfl, rfl, rfl, trivial⟩ ?_
    refine W.region ?_
    refine T.q (q_addi rfl rfl rfl (by omega) (by omega)) (Wt.plain rfl) rfl rfl ?_
    refine T.q (q_move rfl rfl) (Wt.plain rfl) rfl rfl ?_
    refine T.nil ?_
    exact Ex.again [true, true, true, true] (i + 1) (by omega) (by omega) ⟨rfl, rfl, rfl, rfl, rfl, rfl, rfl, trivial⟩ rfl
  · replace hb5 := of_decide_eq_false hb5
    obtain rfl : i = 4 := by omega
    refine W.exit ?_
    refine Ex.then_exit ?_
    refine Ex.then_exit ?_
    refine Ex.in_here ?_
    refine Ex.next ?_
    refine W.slots (L' := [(1, _), (3, _), (5, _), (6, _), (7, _)]) ⟨rfl, rfl, rfl, rfl, rfl, trivial⟩ ?_
    refine W.seq ?_
    refine W.seq ?_
    refine W.region ?_
    refine T.q (q_move rfl rfl) (Wt.plain rfl) rfl rfl ?_
    refine T.nil ?_
    refine Ex.next ?_
    refine W.slots (L' := [(1, _), (3, _), (5, _), (6, _), (7, _), (31, _)]) ⟨rfl, rfl, rfl, rfl, rfl, rfl, trivial⟩ ?_
    refine W.block ?_
    refine W.loop (α := Nat) (fun i => [(1, .int .u32 ctr), (3, .pointer (some ⟨k1, 0, none⟩)), (5, .pointer (some ⟨k2, 0, none⟩)), (6, .pointer (some ⟨k3, 0, none⟩)), (7, .pointer (some ⟨k4, 0, none⟩)), (31, .int .i64 ((i : Nat) : Int))]) (fun i => [⟨some k1, ints .u8 key, 28, (0, 0)⟩, ⟨some k2, ints .u8 nonce, 30, (0, 0)⟩, ⟨some k3, ints .u8 (List.replicate 64 0), 31, (0, 0)⟩, ⟨some k4, ints .u32 (fillAt (fun q => 4 + q) (fun q => word (key.drop (4 * q))) i (fillAt (fun q => q) (fun q => headW.getD q 0) 4 (List.replicate 16 0))), 44, (0, 0)⟩]) (fun i => i ≤ 8) (fun i => 8 - i) [true, true, true, true] 0 (by omega) ⟨rfl, rfl, rfl, rfl, rfl, rfl, trivial⟩ rfl ?_
    rintro i hi
    refine W.seq ?_
    refine W.region ?_
    refine T.q (q_lss rfl rfl rfl) (Wt.plain rfl) rfl rfl ?_
    refine T.nil ?_
    refine Ex.next ?_
    refine W.slots (L' := [(1, _), (3, _), (5, _), (6, _), (7, _), (31, _), (32, _)]) ⟨rfl, rfl, rfl, rfl, rfl, rfl, rfl, trivial⟩ ?_
    refine W.seq ?_
    refine W.cond _ rfl (fun hb6 => ?_) (fun hb6 => ?_)
    · replace hb6 := of_decide_eq_true hb6
      refine W.skip ?_
      refine Ex.next ?_
      refine W.slots (L' := [(1, _), (3, _), (5, _), (6, _), (7, _), (31, _)]) ⟨rfl, rfl, rfl, rfl, rfl, rfl, trivial⟩ ?_
      refine W.seq ?_
      refine W.block ?_
      refine W.seq ?_
      refine W.region ?_
      refine T.q (q_move rfl rfl) (Wt.plain rfl) rfl rfl ?_
      refine T.q (q_assign rfl rfl) (Wt.plain rfl) rfl rfl ?_
      refine T.nil ?_
      refine Ex.next ?_
      refine W.slots (L' := [(1, _), (3, _), (5, _), (6, _), (7, _), (10, _), (31, _)]) ⟨rfl, rfl, rfl, rfl, rfl, rfl, rfl, trivial⟩ ?_
      refine W.region ?_
      refine T.q (q_move rfl rfl) (Wt.plain rfl) rfl rfl ?_
      refine T.q (q_addi rfl rfl rfl (by omega) (by omega)) (Wt.plain rfl) rfl rfl ?_
      refine T.q (q_move rfl rfl) (Wt.plain rfl) rfl rfl ?_
      refine T.q (q_muli rfl rfl rfl (by omega) (by omega)) (Wt.plain rfl) rfl rfl ?_
      refine T.q (q_slA ar28 (4 * i) 32 32 rfl rfl ⟨_, _, rfl, by omega⟩ rfl rfl (by first | omega | (simp; done) | (simp [-List.getD_eq_getElem?_getD]; omega)) (by first | omega | (simp; done) | (simp [-List.getD_eq_getElem?_getD]; omega)) (by first | omega | (simp; done) | (simp [-List.getD_eq_getElem?_getD]; omega)) (by simp)) (Wt.plain rfl) rfl rfl ?_
      refine T.eff (e_call enters18 rfl rfl (fun w hm => word_spec _ _ _ ((key).drop (4 * i)) (by omega) (by simp; omega) w ((R_cutI (R_blk 0 rfl) (by first | omega | (simp; done) | (simp [-List.getD_eq_getElem?_getD]; omega))) w hm)) rfl rfl) (Wt.plain rfl) ?_
      rintro _ _ ⟨_, _, ⟨rfl, rfl⟩, rfl, rfl⟩
      change (_ : List Blk → Prop) [_, _, _, _]
      refine T.q (q_ixA0 ar44 (4 + i) rfl rfl rfl (by omega) (by omega)) (Wt.plain rfl) rfl rfl ?_
      refine T.eff (e_storeI ss22 3 rfl rfl rfl rfl (by first | omega | (simp; done) | (simp [-List.getD_eq_getElem?_getD]; omega)) rfl) (Wt.plain rfl) ?_
      rintro _ _ ⟨rfl, rfl⟩
      change (_ : List Blk → Prop) [_, _, _, _]
      refine T.nil ?_
      refine Ex.in_normal ?_
      refine Ex.next ?_
      refine W.slots (L' := [(1, _), (3, _), (5, _), (6, _), (7, _), (31, _)]) ⟨rfl, rfl, rfl, rfl, rfl, rfl, trivial⟩ ?_
      refine W.region ?_
      refine T.q (q_addi rfl rfl rfl (by omega) (by omega)) (Wt.plain rfl) rfl rfl ?_
      refine T.q (q_move rfl rfl) (Wt.plain rfl) rfl rfl ?_
      refine T.nil ?_
      exact Ex.again [true, true, true, true] (i + 1) (by omega) (by omega) ⟨rfl, rfl, rfl, rfl, rfl, rfl, trivial⟩ rfl
    · replace hb6 := of_decide_eq_false hb6
      obtain rfl : i = 8 := by omega
      refine W.exit ?_
      refine Ex.then_exit ?_
      refine Ex.then_exit ?_
      refine Ex.in_here ?_
      refine Ex.next ?_
      refine W.less (L' := [(1, _), (5, _), (6, _), (7, _)]) [false, true, true, true] ⟨rfl, rfl, rfl, rfl, trivial⟩ ?_
      change (_ : List Blk → Prop) [_, _, _]
      refine W.seq ?_
      refine W.region ?_
      refine T.q (q_move rfl rfl) (Wt.plain rfl) rfl rfl ?_
      refine T.q (q_ixA0 ar44 12 rfl rfl rfl (rfl) (by decide)) (Wt.plain rfl) rfl rfl ?_
      refine T.eff (e_storeI ss22 2 rfl rfl rfl rfl (by first | omega | (simp; done) | (simp [-List.getD_eq_getElem?_getD]; omega)) rfl) (Wt.plain rfl) ?_
      rintro _ _ ⟨rfl, rfl⟩
      change (_ : List Blk → Prop) [_, _, _]
      refine T.nil ?_
      refine Ex.next ?_
      refine W.slots (L' := [(5, _), (6, _), (7, _)]) ⟨rfl, rfl, rfl, trivial⟩ ?_
      refine W.seq ?_
      refine W.seq ?_
      refine W.region ?_
      refine T.q (q_move rfl rfl) (Wt.plain rfl) rfl rfl ?_
      refine T.nil ?_
      refine Ex.next ?_
      refine W.slots (L' := [(5, _), (6, _), (7, _), (44, _)]) ⟨rfl, rfl, rfl, rfl, trivial⟩ ?_
      refine W.block ?_
      refine W.loop (α := Nat) (fun i => [(5, .pointer (some ⟨k2, 0, none⟩)), (6, .pointer (some ⟨k3, 0, none⟩)), (7, .pointer (some ⟨k4, 0, none⟩)), (44, .int .i64 ((i : Nat) : Int))]) (fun i => [⟨some k2, ints .u8 nonce, 30, (0, 0)⟩, ⟨some k3, ints .u8 (List.replicate 64 0), 31, (0, 0)⟩, ⟨some k4, ints .u32 (fillAt (fun q => 13 + q) (fun q => word (nonce.drop (4 * q))) i ((fillAt (fun q => 4 + q) (fun q => word (key.drop (4 * q))) 8 (fillAt (fun q => q) (fun q => headW.getD q 0) 4 (List.replicate 16 0))).set 12 ctr)), 44, (0, 0)⟩]) (fun i => i ≤ 3) (fun i => 3 - i) [true, true, true] 0 (by omega) ⟨rfl, rfl, rfl, rfl, trivial⟩ rfl ?_
      rintro i hi
      refine W.seq ?_
      refine W.region ?_
      refine T.q (q_lss rfl rfl rfl) (Wt.plain rfl) rfl rfl ?_
      refine T.nil ?_
      refine Ex.next ?_
      refine W.slots (L' := [(5, _), (6, _), (7, _), (44, _), (45, _)]) ⟨rfl, rfl, rfl, rfl, rfl, trivial⟩ ?_
      refine W.seq ?_
      refine W.cond _ rfl (fun hb7 => ?_) (fun hb7 => ?_)
      · replace hb7 := of_decide_eq_true hb7
        refine W.skip ?_
        refine Ex.next ?_
        refine W.slots (L' := [(5, _), (6, _), (7, _), (44, _)]) ⟨rfl, rfl, rfl, rfl, trivial⟩ ?_
        refine W.seq ?_
        refine W.block ?_
        refine W.seq ?_
        refine W.region ?_
        refine T.q (q_move rfl rfl) (Wt.plain rfl) rfl rfl ?_
        refine T.q (q_assign rfl rfl) (Wt.plain rfl) rfl rfl ?_
        refine T.nil ?_
        refine Ex.next ?_
        refine W.slots (L' := [(5, _), (6, _), (7, _), (11, _), (44, _)]) ⟨rfl, rfl, rfl, rfl, rfl, trivial⟩ ?_
        refine W.region ?_
        refine T.q (q_move rfl rfl) (Wt.plain rfl) rfl rfl ?_
        refine T.q (q_addi rfl rfl rfl (by omega) (by omega)) (Wt.plain rfl) rfl rfl ?_
        refine T.q (q_move rfl rfl) (Wt.plain rfl) rfl rfl ?_
        refine T.q (q_muli rfl rfl rfl (by omega) (by omega)) (Wt.plain rfl) rfl rfl ?_
        refine T.q (q_slA ar30 (4 * i) 12 12 rfl rfl ⟨_, _, rfl, by omega⟩ rfl rfl (by first | omega | (simp; done) | (simp [-List.getD_eq_getElem?_getD]; omega)) (by first | omega | (simp; done) | (simp [-List.getD_eq_getElem?_getD]; omega)) (by first | omega | (simp; done) | (simp [-List.getD_eq_getElem?_getD]; omega)) (by simp)) (Wt.plain rfl) rfl rfl ?_
        refine T.eff (e_call enters18 rfl rfl (fun w hm => word_spec _ _ _ ((nonce).drop (4 * i)) (by omega) (by simp; omega) w ((R_cutI (R_blk 0 rfl) (by first | omega | (simp; done) | (simp [-List.getD_eq_getElem?_getD]; omega))) w hm)) rfl rfl) (Wt.plain rfl) ?_
        rintro _ _ ⟨_, _, ⟨rfl, rfl⟩, rfl, rfl⟩
        change (_ : List Blk → Prop) [_, _, _]
        refine T.q (q_ixA0 ar44 (13 + i) rfl rfl rfl (by omega) (by omega)) (Wt.plain rfl) rfl rfl ?_
        refine T.eff (e_storeI ss22 2 rfl rfl rfl rfl (by first | omega | (simp; done) | (simp [-List.getD_eq_getElem?_getD]; omega)) rfl) (Wt.plain rfl) ?_
        rintro _ _ ⟨rfl, rfl⟩
        change (_ : List Blk → Prop) [_, _, _]
        refine T.nil ?_
        refine Ex.in_normal ?_
        refine Ex.next ?_
        refine W.slots (L' := [(5, _), (6, _), (7, _), (44, _)]) ⟨rfl, rfl, rfl, rfl, trivial⟩ ?_
        refine W.region ?_
        refine T.q (q_addi rfl rfl rfl (by omega) (by omega)) (Wt.plain rfl) rfl rfl ?_
        refine T.q (q_move rfl rfl) (Wt.plain rfl) rfl rfl ?_
        refine T.nil ?_
        exact Ex.again [true, true, true] (i + 1) (by omega) (by omega) ⟨rfl, rfl, rfl, rfl, trivial⟩ rfl
      · replace hb7 := of_decide_eq_false hb7
        obtain rfl : i = 3 := by omega
        refine W.exit ?_
        refine Ex.then_exit ?_
        refine Ex.then_exit ?_
        refine Ex.in_here ?_
        refine Ex.next ?_
        refine W.less (L' := [(6, _), (7, _)]) [false, true, true] ⟨rfl, rfl, trivial⟩ ?_
        change (_ : List Blk → Prop) [_, _]
        refine W.seq ?_
        refine W.region ?_
        refine T.q (q_loadW (wide_ints wd44 (by first | omega | (simp; done) | (simp [-List.getD_eq_getElem?_getD]; omega) | (simp at *; omega) | rfl)) (R_blk 1 rfl) rfl rfl) (Wt.plain rfl) rfl rfl ?_
        refine T.eff (e_alloc ze44 rfl rfl rfl) (Wt.plain rfl) ?_
        rintro _ _ ⟨k8, rfl, rfl⟩
        change (_ : List Blk → Prop) [_, _, _]
        refine T.eff (e_storeA (wide_ints wd44 (by first | omega | (simp; done) | (simp [-List.getD_eq_getElem?_getD]; omega) | (simp at *; omega) | rfl)) 2 rfl rfl rfl rfl (by first | omega | (simp; done) | (simp [-List.getD_eq_getElem?_getD]; omega) | (simp at *; omega) | rfl) ints_one rfl) (Wt.plain rfl) ?_
        rintro _ _ ⟨rfl, rfl⟩
        change (_ : List Blk → Prop) [_, _, _]
        refine T.nil ?_
        refine Ex.next ?_
        refine W.slots (L' := [(6, _), (7, _), (12, _)]) ⟨rfl, rfl, rfl, trivial⟩ ?_
        refine W.seq ?_
        refine W.seq ?_
        refine W.region ?_
        refine T.q (q_move rfl rfl) (Wt.plain rfl) rfl rfl ?_
        refine T.nil ?_
        refine Ex.next ?_
        refine W.slots (L' := [(6, _), (7, _), (12, _), (56, _)]) ⟨rfl, rfl, rfl, rfl, trivial⟩ ?_
        refine W.block ?_
        refine W.loop (α := Nat) (fun n => [(6, .pointer (some ⟨k3, 0, none⟩)), (7, .pointer (some ⟨k4, 0, none⟩)), (12, .pointer (some ⟨k8, 0, none⟩)), (56, .int .i64 ((n : Nat) : Int))]) (fun n => [⟨some k3, ints .u8 (List.replicate 64 0), 31, (0, 0)⟩, ⟨some k4, ints .u32 (initS key nonce ctr), 44, (0, 0)⟩, ⟨some k8, ints .u32 (rn n (initS key nonce ctr)), 44, (0, 0)⟩]) (fun n => n ≤ 10) (fun n => 10 - n) [true, true, true] 0 (by omega) ⟨rfl, rfl, rfl, rfl, trivial⟩ rfl ?_
        rintro n hn
        refine W.seq ?_
        refine W.region ?_
        refine T.q (q_lss rfl rfl rfl) (Wt.plain rfl) rfl rfl ?_
        refine T.nil ?_
        refine Ex.next ?_
        refine W.slots (L' := [(6, _), (7, _), (12, _), (56, _), (57, _)]) ⟨rfl, rfl, rfl, rfl, rfl, trivial⟩ ?_
        refine W.seq ?_
        refine W.cond _ rfl (fun hb9 => ?_) (fun hb9 => ?_)
        · replace hb9 := of_decide_eq_true hb9
          refine W.skip ?_
          refine Ex.next ?_
          refine W.slots (L' := [(6, _), (7, _), (12, _), (56, _)]) ⟨rfl, rfl, rfl, rfl, trivial⟩ ?_
          refine W.seq ?_
          refine W.block ?_
          refine W.seq ?_
          refine W.region ?_
          refine T.q (q_loadW (wide_ints wd47 (by first | omega | (simp; done) | (simp [-List.getD_eq_getElem?_getD]; omega) | (simp at *; omega) | rfl)) (R_ext ht.ext) rfl rfl) (Wt.plain rfl) rfl rfl ?_
          refine T.q (q_move rfl rfl) (Wt.plain rfl) rfl rfl ?_
          refine T.nil ?_
          refine Ex.next ?_
          refine W.slots (L' := [(6, _), (7, _), (12, _), (56, _), (58, _), (59, _)]) ⟨rfl, rfl, rfl, rfl, rfl, rfl, trivial⟩ ?_
          refine W.block ?_
          refine W.loop (α := Nat) (fun j => [(6, .pointer (some ⟨k3, 0, none⟩)), (7, .pointer (some ⟨k4, 0, none⟩)), (12, .pointer (some ⟨k8, 0, none⟩)), (56, .int .i64 ((n : Nat) : Int)), (58, .agg (ints .i64 tbl).toArray), (59, .int .i64 ((j : Nat) : Int))]) (fun j => [⟨some k3, ints .u8 (List.replicate 64 0), 31, (0, 0)⟩, ⟨some k4, ints .u32 (initS key nonce ctr), 44, (0, 0)⟩, ⟨some k8, ints .u32 (dr j (rn n (initS key nonce ctr))), 44, (0, 0)⟩]) (fun j => j ≤ 8) (fun j => 8 - j) [true, true, true] 0 (by omega) ⟨rfl, rfl, rfl, rfl, rfl, rfl, trivial⟩ rfl ?_
          rintro j hj
          refine W.seq ?_
          refine W.region ?_
          refine T.q (q_lss rfl rfl rfl) (Wt.plain rfl) rfl rfl ?_
          refine T.nil ?_
          refine Ex.next ?_
          refine W.slots (L' := [(6, _), (7, _), (12, _), (56, _), (58, _), (59, _), (60, _)]) ⟨rfl, rfl, rfl, rfl, rfl, rfl, rfl, trivial⟩ ?_
          refine W.seq ?_
          refine W.cond _ rfl (fun hb10 => ?_) (fun hb10 => ?_)
          · replace hb10 := of_decide_eq_true hb10
            have hj8 : j < 8 := by omega
            have hpl := pl_length hj8
            have p0 := pl_ok hj8 (by decide : 0 < 4)
            have p1 := pl_ok hj8 (by decide : 1 < 4)
            have p2 := pl_ok hj8 (by decide : 2 < 4)
            have p3 := pl_ok hj8 (by decide : 3 < 4)
            refine W.skip ?_
            refine Ex.next ?_
            refine W.slots (L' := [(6, _), (7, _), (12, _), (56, _), (58, _), (59, _)]) ⟨rfl, rfl, rfl, rfl, rfl, rfl, trivial⟩ ?_
            refine W.seq ?_
            refine W.block ?_
            refine W.seq ?_
            refine W.region ?_
            refine T.q (q_ixVW (p := ints .i64 (pl j)) ar47 wd46 j rfl rfl rfl (by omega) (by omega) (by simp [ints_drop, ints_take, pl])) (Wt.plain rfl) rfl rfl ?_
            refine T.eff (e_alloc ze46 rfl rfl rfl) (Wt.plain rfl) ?_
            rintro _ _ ⟨k11, rfl, rfl⟩
            change (_ : List Blk → Prop) [_, _, _, _]
            refine T.eff (e_storeA (wide_ints wd46 (by first | omega | (simp; done) | (simp [-List.getD_eq_getElem?_getD]; omega) | (simp at *; omega) | rfl)) 3 rfl rfl rfl rfl (by first | omega | (simp; done) | (simp [-List.getD_eq_getElem?_getD]; omega) | (simp at *; omega) | rfl) ints_one rfl) (Wt.plain rfl) ?_
            rintro _ _ ⟨rfl, rfl⟩
            change (_ : List Blk → Prop) [_, _, _, _]
            refine T.nil ?_
            refine Ex.next ?_
            refine W.slots (L' := [(6, _), (7, _), (12, _), (14, _), (56, _), (58, _), (59, _)]) ⟨rfl, rfl, rfl, rfl, rfl, rfl, rfl, trivial⟩ ?_
            refine W.seq ?_
            refine W.draw 19 (by kernel_rfl) ?_
            refine D.take 0 rfl (by kernel_rfl) (fun _ h => h) (q_ixA0 ar46 0 rfl rfl rfl (rfl) (by decide)) (Wt.plain rfl) rfl rfl ?_
            refine D.take 1 rfl (by kernel_rfl) (fun _ h => h) (q_loadI ss3 3 rfl rfl rfl (by first | omega | (simp; done) | (simp [-List.getD_eq_getElem?_getD]; omega))) (Wt.plain rfl) rfl rfl ?_
            refine D.take 2 rfl (by kernel_rfl) (fun _ h => h) (q_ixA0 ar44 (((pl j).getD 0 0).toNat) rfl rfl rfl (by omega) (by omega)) (Wt.plain rfl) rfl rfl ?_
            refine D.take 3 rfl (by kernel_rfl) (fun _ h => h) (q_loadI ss22 2 rfl rfl rfl (by first | omega | (simp; done) | (simp [-List.getD_eq_getElem?_getD]; omega))) (Wt.plain rfl) rfl rfl ?_
            refine D.take 4 rfl (by kernel_rfl) (fun _ h => h) (q_ixA0 ar46 1 rfl rfl rfl (rfl) (by decide)) (Wt.plain rfl) rfl rfl ?_
            refine D.take 5 rfl (by kernel_rfl) (fun _ h => h) (q_loadI ss3 3 rfl rfl rfl (by first | omega | (simp; done) | (simp [-List.getD_eq_getElem?_getD]; omega))) (Wt.plain rfl) rfl rfl ?_
            refine D.take 6 rfl (by kernel_rfl) (fun _ h => h) (q_ixA0 ar44 (((pl j).getD 1 0).toNat) rfl rfl rfl (by omega) (by omega)) (Wt.plain rfl) rfl rfl ?_
            refine D.take 7 rfl (by kernel_rfl) (fun _ h => h) (q_loadI ss22 2 rfl rfl rfl (by first | omega | (simp; done) | (simp [-List.getD_eq_getElem?_getD]; omega))) (Wt.plain rfl) rfl rfl ?_
            refine D.take 8 rfl (by kernel_rfl) (fun _ h => h) (q_ixA0 ar46 2 rfl rfl rfl (rfl) (by decide)) (Wt.plain rfl) rfl rfl ?_
            refine D.take 9 rfl (by kernel_rfl) (fun _ h => h) (q_loadI ss3 3 rfl rfl rfl (by first | omega | (simp; done) | (simp [-List.getD_eq_getElem?_getD]; omega))) (Wt.plain rfl) rfl rfl ?_
            refine D.take 10 rfl (by kernel_rfl) (fun _ h => h) (q_ixA0 ar44 (((pl j).getD 2 0).toNat) rfl rfl rfl (by omega) (by omega)) (Wt.plain rfl) rfl rfl ?_
            refine D.take 11 rfl (by kernel_rfl) (fun _ h => h) (q_loadI ss22 2 rfl rfl rfl (by first | omega | (simp; done) | (simp [-List.getD_eq_getElem?_getD]; omega))) (Wt.plain rfl) rfl rfl ?_
            refine D.take 12 rfl (by kernel_rfl) (fun _ h => h) (q_ixA0 ar46 3 rfl rfl rfl (rfl) (by decide)) (Wt.plain rfl) rfl rfl ?_
            refine D.take 13 rfl (by kernel_rfl) (fun _ h => h) (q_loadI ss3 3 rfl rfl rfl (by first | omega | (simp; done) | (simp [-List.getD_eq_getElem?_getD]; omega))) (Wt.plain rfl) rfl rfl ?_
            refine D.take 14 rfl (by kernel_rfl) (fun _ h => h) (q_ixA0 ar44 (((pl j).getD 3 0).toNat) rfl rfl rfl (by omega) (by omega)) (Wt.plain rfl) rfl rfl ?_
            refine D.take 15 rfl (by kernel_rfl) (fun _ h => h) (q_loadI ss22 2 rfl rfl rfl (by first | omega | (simp; done) | (simp [-List.getD_eq_getElem?_getD]; omega))) (Wt.plain rfl) rfl rfl ?_
            refine D.take 16 rfl (by kernel_rfl) (fun _ h => h) (q_buildA ar23 ze23 rfl rfl rfl rfl (by simp [Value.cells])) (Wt.plain rfl) rfl rfl ?_
            refine D.two 17 18 (by kernel_rfl) ?_ ?_
            ·
              refine Up.eff rfl (e_call enters10 rfl rfl (fun w hm => quarter_spec [_, _, _, _] rfl w) rfl rfl) (Wt.plain rfl) ?_
              rintro _ _ ⟨_, _, ⟨rfl, rfl⟩, rfl, rfl⟩
              refine ⟨fun _ => (fun _ h => h), ?_⟩
              refine D.one 18 (by kernel_rfl) ?_
              refine Up.eff rfl (e_alloc ze23 rfl rfl rfl) (Wt.plain rfl) ?_
              rintro _ _ ⟨k12, rfl, rfl⟩
              refine ⟨fun _ => (S_sub ((((((List.Sublist.slnil).cons _).cons_cons _).cons_cons _).cons_cons _).cons_cons _)), ?_⟩
              refine D.one 19 (by kernel_rfl) ?_
              refine Up.eff rfl (e_storeA (wide_ints wd23 (by first | omega | (simp; done) | (simp [-List.getD_eq_getElem?_getD]; omega) | (simp at *; omega) | rfl)) 4 rfl rfl rfl rfl (by first | omega | (simp; done) | (simp [-List.getD_eq_getElem?_getD]; omega) | (simp at *; omega) | rfl) ints_one rfl) (Wt.plain rfl) ?_
              rintro _ _ ⟨rfl, rfl⟩
              refine ⟨fun h => absurd h (by decide), ?_⟩
              refine D.done (by kernel_rfl) ?_
              refine Ex.next ?_
              refine W.slots (L' := [(6, _), (7, _), (12, _), (14, _), (15, _), (56, _), (58, _), (59, _)]) ⟨rfl, rfl, rfl, rfl, rfl, rfl, rfl, rfl, trivial⟩ ?_
              refine W.seq ?_
              refine W.region ?_
              refine T.q (q_loadW (wide_ints wd46 (by first | omega | (simp; done) | (simp [-List.getD_eq_getElem?_getD]; omega) | (simp at *; omega) | rfl)) (R_blk 3 rfl) rfl rfl) (Wt.plain rfl) rfl rfl ?_
              refine T.q (q_move rfl rfl) (Wt.plain rfl) rfl rfl ?_
              refine T.nil ?_
              refine Ex.next ?_
              refine W.less (L' := [(6, _), (7, _), (12, _), (15, _), (56, _), (58, _), (59, _), (80, _), (81, _)]) [true, true, true, false, true] ⟨rfl, rfl, rfl, rfl, rfl, rfl, rfl, rfl, rfl, trivial⟩ ?_
              change (_ : List Blk → Prop) [_, _, _, _]
              refine W.block ?_
              refine W.loop (α := Nat) (fun i => [(6, .pointer (some ⟨k3, 0, none⟩)), (7, .pointer (some ⟨k4, 0, none⟩)), (12, .pointer (some ⟨k8, 0, none⟩)), (15, .pointer (some ⟨k12, 0, none⟩)), (56, .int .i64 ((n : Nat) : Int)), (58, .agg (ints .i64 tbl).toArray), (59, .int .i64 ((j : Nat) : Int)), (80, .agg (ints .i64 (pl j)).toArray), (81, .int .i64 ((i : Nat) : Int))]) (fun i => [⟨some k3, ints .u8 (List.replicate 64 0), 31, (0, 0)⟩, ⟨some k4, ints .u32 (initS key nonce ctr), 44, (0, 0)⟩, ⟨some k8, ints .u32 (fillAt (fun q => ((pl j).getD q 0).toNat) (fun q => (qof (pl j) (dr j (rn n (initS key nonce ctr)))).getD q 0) i (dr j (rn n (initS key nonce ctr)))), 44, (0, 0)⟩, ⟨some k12, ints .u32 (qof (pl j) (dr j (rn n (initS key nonce ctr)))), 23, (0, 0)⟩]) (fun i => i ≤ 4) (fun i => 4 - i) [true, true, true, true] 0 (by omega) ⟨rfl, rfl, rfl, rfl, rfl, rfl, rfl, rfl, rfl, trivial⟩ rfl ?_
              rintro i hi
              refine W.seq ?_
              refine W.region ?_
              refine T.q (q_lss rfl rfl rfl) (Wt.plain rfl) rfl rfl ?_
              refine T.nil ?_
              refine Ex.next ?_
              refine W.slots (L' := [(6, _), (7, _), (12, _), (15, _), (56, _), (58, _), (59, _), (80, _), (81, _), (82, _)]) ⟨rfl, rfl, rfl, rfl, rfl, rfl, rfl, rfl, rfl, rfl, trivial⟩ ?_
              refine W.seq ?_
              refine W.cond _ rfl (fun hb13 => ?_) (fun hb13 => ?_)
              · replace hb13 := of_decide_eq_true hb13
                have hi4 : i < 4 := by omega
                have pi := pl_ok hj8 hi4
                refine W.skip ?_
                refine Ex.next ?_
                refine W.slots (L' := [(6, _), (7, _), (12, _), (15, _), (56, _), (58, _), (59, _), (80, _), (81, _)]) ⟨rfl, rfl, rfl, rfl, rfl, rfl, rfl, rfl, rfl, trivial⟩ ?_
                refine W.seq ?_
                refine W.block ?_
                refine W.seq ?_
                refine W.region ?_
                refine T.q (q_move rfl rfl) (Wt.plain rfl) rfl rfl ?_
                refine T.q (q_ixVI ar46 ss3 i rfl rfl rfl (by omega) (by omega) (by first | omega | (simp; done) | (simp [-List.getD_eq_getElem?_getD]; omega))) (Wt.plain rfl) rfl rfl ?_
                refine T.q (q_assign rfl rfl) (Wt.plain rfl) rfl rfl ?_
                refine T.q (q_assign rfl rfl) (Wt.plain rfl) rfl rfl ?_
                refine T.nil ?_
                refine Ex.next ?_
                refine W.slots (L' := [(6, _), (7, _), (12, _), (15, _), (16, _), (17, _), (56, _), (58, _), (59, _), (80, _), (81, _)]) ⟨rfl, rfl, rfl, rfl, rfl, rfl, rfl, rfl, rfl, rfl, rfl, trivial⟩ ?_
                refine W.region ?_
                refine T.q (q_move rfl rfl) (Wt.plain rfl) rfl rfl ?_
                refine T.q (q_move rfl rfl) (Wt.plain rfl) rfl rfl ?_
                refine T.q (q_ixA0 ar23 i rfl rfl rfl (by omega) (by omega)) (Wt.plain rfl) rfl rfl ?_
                refine T.q (q_loadI ss22 3 rfl rfl rfl (by first | omega | (simp; done) | (simp [-List.getD_eq_getElem?_getD]; omega))) (Wt.plain rfl) rfl rfl ?_
                refine T.q (q_ixA0 ar44 (((pl j).getD i 0).toNat) rfl rfl rfl (by omega) (by omega)) (Wt.plain rfl) rfl rfl ?_
                refine T.eff (e_storeI ss22 2 rfl rfl rfl rfl (by first | omega | (simp; done) | (simp [-List.getD_eq_getElem?_getD]; omega)) rfl) (Wt.plain rfl) ?_
                rintro _ _ ⟨rfl, rfl⟩
                change (_ : List Blk → Prop) [_, _, _, _]
                refine T.nil ?_
                refine Ex.in_normal ?_
                refine Ex.next ?_
                refine W.slots (L' := [(6, _), (7, _), (12, _), (15, _), (56, _), (58, _), (59, _), (80, _), (81, _)]) ⟨rfl, rfl, rfl, rfl, rfl, rfl, rfl, rfl, rfl, trivial⟩ ?_
                refine W.region ?_
                refine T.q (q_addi rfl rfl rfl (by omega) (by omega)) (Wt.plain rfl) rfl rfl ?_
                refine T.q (q_move rfl rfl) (Wt.plain rfl) rfl rfl ?_
                refine T.nil ?_
                exact Ex.again [true, true, true, true] (i + 1) (by omega) (by omega) ⟨rfl, rfl, rfl, rfl, rfl, rfl, rfl, rfl, rfl, trivial⟩ rfl
              · replace hb13 := of_decide_eq_false hb13
                obtain rfl : i = 4 := by omega
                refine W.exit ?_
                refine Ex.then_exit ?_
                refine Ex.then_exit ?_
                refine Ex.in_here ?_
                refine Ex.in_normal ?_
                refine Ex.next ?_
                refine W.less (L' := [(6, _), (7, _), (12, _), (56, _), (58, _), (59, _)]) [true, true, true, false] ⟨rfl, rfl, rfl, rfl, rfl, rfl, trivial⟩ ?_
                change (_ : List Blk → Prop) [_, _, _]
                refine W.region ?_
                refine T.q (q_addi rfl rfl rfl (by omega) (by omega)) (Wt.plain rfl) rfl rfl ?_
                refine T.q (q_move rfl rfl) (Wt.plain rfl) rfl rfl ?_
                refine T.nil ?_
                exact Ex.again [true, true, true] (j + 1) (by omega) (by omega) ⟨rfl, rfl, rfl, rfl, rfl, rfl, trivial⟩ rfl
            ·
              refine Up.eff rfl (e_alloc ze23 rfl rfl rfl) (Wt.plain rfl) ?_
              rintro _ _ ⟨k14, rfl, rfl⟩
              refine ⟨fun _ => (S_sub ((((((List.Sublist.slnil).cons _).cons_cons _).cons_cons _).cons_cons _).cons_cons _)), ?_⟩
              refine D.one 17 (by kernel_rfl) ?_
              refine Up.eff rfl (e_call enters10 rfl rfl (fun w hm => quarter_spec [_, _, _, _] rfl w) rfl rfl) (Wt.plain rfl) ?_
              rintro _ _ ⟨_, _, ⟨rfl, rfl⟩, rfl, rfl⟩
              refine ⟨fun _ => (S_sub ((((((List.Sublist.slnil).cons _).cons_cons _).cons_cons _).cons_cons _).cons_cons _)), ?_⟩
              refine D.one 19 (by kernel_rfl) ?_
              refine Up.eff rfl (e_storeA (wide_ints wd23 (by first | omega | (simp; done) | (simp [-List.getD_eq_getElem?_getD]; omega) | (simp at *; omega) | rfl)) 4 rfl rfl rfl rfl (by first | omega | (simp; done) | (simp [-List.getD_eq_getElem?_getD]; omega) | (simp at *; omega) | rfl) ints_one rfl) (Wt.plain rfl) ?_
              rintro _ _ ⟨rfl, rfl⟩
              refine ⟨fun h => absurd h (by decide), ?_⟩
              refine D.done (by kernel_rfl) ?_
              refine Ex.next ?_
              refine W.slots (L' := [(6, _), (7, _), (12, _), (14, _), (15, _), (56, _), (58, _), (59, _)]) ⟨rfl, rfl, rfl, rfl, rfl, rfl, rfl, rfl, trivial⟩ ?_
              refine W.seq ?_
              refine W.region ?_
              refine T.q (q_loadW (wide_ints wd46 (by first | omega | (simp; done) | (simp [-List.getD_eq_getElem?_getD]; omega) | (simp at *; omega) | rfl)) (R_blk 3 rfl) rfl rfl) (Wt.plain rfl) rfl rfl ?_
              refine T.q (q_move rfl rfl) (Wt.plain rfl) rfl rfl ?_
              refine T.nil ?_
              refine Ex.next ?_
              refine W.less (L' := [(6, _), (7, _), (12, _), (15, _), (56, _), (58, _), (59, _), (80, _), (81, _)]) [true, true, true, false, true] ⟨rfl, rfl, rfl, rfl, rfl, rfl, rfl, rfl, rfl, trivial⟩ ?_
              change (_ : List Blk → Prop) [_, _, _, _]
              refine W.block ?_
              refine W.loop (α := Nat) (fun i => [(6, .pointer (some ⟨k3, 0, none⟩)), (7, .pointer (some ⟨k4, 0, none⟩)), (12, .pointer (some ⟨k8, 0, none⟩)), (15, .pointer (some ⟨k14, 0, none⟩)), (56, .int .i64 ((n : Nat) : Int)), (58, .agg (ints .i64 tbl).toArray), (59, .int .i64 ((j : Nat) : Int)), (80, .agg (ints .i64 (pl j)).toArray), (81, .int .i64 ((i : Nat) : Int))]) (fun i => [⟨some k3, ints .u8 (List.replicate 64 0), 31, (0, 0)⟩, ⟨some k4, ints .u32 (initS key nonce ctr), 44, (0, 0)⟩, ⟨some k8, ints .u32 (fillAt (fun q => ((pl j).getD q 0).toNat) (fun q => (qof (pl j) (dr j (rn n (initS key nonce ctr)))).getD q 0) i (dr j (rn n (initS key nonce ctr)))), 44, (0, 0)⟩, ⟨some k14, ints .u32 (qof (pl j) (dr j (rn n (initS key nonce ctr)))), 23, (0, 0)⟩]) (fun i => i ≤ 4) (fun i => 4 - i) [true, true, true, true] 0 (by omega) ⟨rfl, rfl, rfl, rfl, rfl, rfl, rfl, rfl, rfl, trivial⟩ rfl ?_
              rintro i hi
              refine W.seq ?_
              refine W.region ?_
              refine T.q (q_lss rfl rfl rfl) (Wt.plain rfl) rfl rfl ?_
              refine T.nil ?_
              refine Ex.next ?_
              refine W.slots (L' := [(6, _), (7, _), (12, _), (15, _), (56, _), (58, _), (59, _), (80, _), (81, _), (82, _)]) ⟨rfl, rfl, rfl, rfl, rfl, rfl, rfl, rfl, rfl, rfl, trivial⟩ ?_
              refine W.seq ?_
              refine W.cond _ rfl (fun hb15 => ?_) (fun hb15 => ?_)
              · replace hb15 := of_decide_eq_true hb15
                have hi4 : i < 4 := by omega
                have pi := pl_ok hj8 hi4
                refine W.skip ?_
                refine Ex.next ?_
                refine W.slots (L' := [(6, _), (7, _), (12, _), (15, _), (56, _), (58, _), (59, _), (80, _), (81, _)]) ⟨rfl, rfl, rfl, rfl, rfl, rfl, rfl, rfl, rfl, trivial⟩ ?_
                refine W.seq ?_
                refine W.block ?_
                refine W.seq ?_
                refine W.region ?_
                refine T.q (q_move rfl rfl) (Wt.plain rfl) rfl rfl ?_
                refine T.q (q_ixVI ar46 ss3 i rfl rfl rfl (by omega) (by omega) (by first | omega | (simp; done) | (simp [-List.getD_eq_getElem?_getD]; omega))) (Wt.plain rfl) rfl rfl ?_
                refine T.q (q_assign rfl rfl) (Wt.plain rfl) rfl rfl ?_
                refine T.q (q_assign rfl rfl) (Wt.plain rfl) rfl rfl ?_
                refine T.nil ?_
                refine Ex.next ?_
                refine W.slots (L' := [(6, _), (7, _), (12, _), (15, _), (16, _), (17, _), (56, _), (58, _), (59, _), (80, _), (81, _)]) ⟨rfl, rfl, rfl, rfl, rfl, rfl, rfl, rfl, rfl, rfl, rfl, trivial⟩ ?_
                refine W.region ?_
                refine T.q (q_move rfl rfl) (Wt.plain rfl) rfl rfl ?_
                refine T.q (q_move rfl rfl) (Wt.plain rfl) rfl rfl ?_
                refine T.q (q_ixA0 ar23 i rfl rfl rfl (by omega) (by omega)) (Wt.plain rfl) rfl rfl ?_
                refine T.q (q_loadI ss22 3 rfl rfl rfl (by first | omega | (simp; done) | (simp [-List.getD_eq_getElem?_getD]; omega))) (Wt.plain rfl) rfl rfl ?_
                refine T.q (q_ixA0 ar44 (((pl j).getD i 0).toNat) rfl rfl rfl (by omega) (by omega)) (Wt.plain rfl) rfl rfl ?_
                refine T.eff (e_storeI ss22 2 rfl rfl rfl rfl (by first | omega | (simp; done) | (simp [-List.getD_eq_getElem?_getD]; omega)) rfl) (Wt.plain rfl) ?_
                rintro _ _ ⟨rfl, rfl⟩
                change (_ : List Blk → Prop) [_, _, _, _]
                refine T.nil ?_
                refine Ex.in_normal ?_
                refine Ex.next ?_
                refine W.slots (L' := [(6, _), (7, _), (12, _), (15, _), (56, _), (58, _), (59, _), (80, _), (81, _)]) ⟨rfl, rfl, rfl, rfl, rfl, rfl, rfl, rfl, rfl, trivial⟩ ?_
                refine W.region ?_
                refine T.q (q_addi rfl rfl rfl (by omega) (by omega)) (Wt.plain rfl) rfl rfl ?_
                refine T.q (q_move rfl rfl) (Wt.plain rfl) rfl rfl ?_
                refine T.nil ?_
                exact Ex.again [true, true, true, true] (i + 1) (by omega) (by omega) ⟨rfl, rfl, rfl, rfl, rfl, rfl, rfl, rfl, rfl, trivial⟩ rfl
              · replace hb15 := of_decide_eq_false hb15
                obtain rfl : i = 4 := by omega
                refine W.exit ?_
                refine Ex.then_exit ?_
                refine Ex.then_exit ?_
                refine Ex.in_here ?_
                refine Ex.in_normal ?_
                refine Ex.next ?_
                refine W.less (L' := [(6, _), (7, _), (12, _), (56, _), (58, _), (59, _)]) [true, true, true, false] ⟨rfl, rfl, rfl, rfl, rfl, rfl, trivial⟩ ?_
                change (_ : List Blk → Prop) [_, _, _]
                refine W.region ?_
                refine T.q (q_addi rfl rfl rfl (by omega) (by omega)) (Wt.plain rfl) rfl rfl ?_
                refine T.q (q_move rfl rfl) (Wt.plain rfl) rfl rfl ?_
                refine T.nil ?_
                exact Ex.again [true, true, true] (j + 1) (by omega) (by omega) ⟨rfl, rfl, rfl, rfl, rfl, rfl, trivial⟩ rfl
          · replace hb10 := of_decide_eq_false hb10
            obtain rfl : j = 8 := by omega
            refine W.exit ?_
            refine Ex.then_exit ?_
            refine Ex.then_exit ?_
            refine Ex.in_here ?_
            refine Ex.in_normal ?_
            refine Ex.next ?_
            refine W.slots (L' := [(6, _), (7, _), (12, _), (56, _)]) ⟨rfl, rfl, rfl, rfl, trivial⟩ ?_
            refine W.region ?_
            refine T.q (q_addi rfl rfl rfl (by omega) (by omega)) (Wt.plain rfl) rfl rfl ?_
            refine T.q (q_move rfl rfl) (Wt.plain rfl) rfl rfl ?_
            refine T.nil ?_
            exact Ex.again [true, true, true] (n + 1) (by omega) (by omega) ⟨rfl, rfl, rfl, rfl, trivial⟩ rfl
        · replace hb9 := of_decide_eq_false hb9
          obtain rfl : n = 10 := by omega
          refine W.exit ?_
          refine Ex.then_exit ?_
          refine Ex.then_exit ?_
          refine Ex.in_here ?_
          refine Ex.next ?_
          refine W.slots (L' := [(6, _), (7, _), (12, _)]) ⟨rfl, rfl, rfl, trivial⟩ ?_
          refine W.seq ?_
          refine W.region ?_
          refine T.eff (e_alloc ze31 rfl rfl rfl) (Wt.plain rfl) ?_
          rintro _ _ ⟨k16, rfl, rfl⟩
          change (_ : List Blk → Prop) [_, _, _, _]
          refine T.nil ?_
          refine Ex.next ?_
          refine W.slots (L' := [(6, _), (7, _), (12, _), (18, _)]) ⟨rfl, rfl, rfl, rfl, trivial⟩ ?_
          refine W.seq ?_
          refine W.seq ?_
          refine W.region ?_
          refine T.q (q_move rfl rfl) (Wt.plain rfl) rfl rfl ?_
          refine T.nil ?_
          refine Ex.next ?_
          refine W.slots (L' := [(6, _), (7, _), (12, _), (18, _), (93, _)]) ⟨rfl, rfl, rfl, rfl, rfl, trivial⟩ ?_
          refine W.block ?_
          refine W.loop (α := Nat) (fun i => [(6, .pointer (some ⟨k3, 0, none⟩)), (7, .pointer (some ⟨k4, 0, none⟩)), (12, .pointer (some ⟨k8, 0, none⟩)), (18, .pointer (some ⟨k16, 0, none⟩)), (93, .int .i64 ((i : Nat) : Int))]) (fun i => [⟨some k3, ints .u8 (List.replicate 64 0), 31, (0, 0)⟩, ⟨some k4, ints .u32 (initS key nonce ctr), 44, (0, 0)⟩, ⟨some k8, ints .u32 (rn 10 (initS key nonce ctr)), 44, (0, 0)⟩, ⟨some k16, ints .u8 (ser (fun q => IntKind.u32.wrap ((rn 10 (initS key nonce ctr)).getD q 0 + (initS key nonce ctr).getD q 0)) i), 31, (0, 0)⟩]) (fun i => i ≤ 16) (fun i => 16 - i) [true, true, true, true] 0 (by omega) ⟨rfl, rfl, rfl, rfl, rfl, trivial⟩ rfl ?_
          rintro i hi
          refine W.seq ?_
          refine W.region ?_
          refine T.q (q_lss rfl rfl rfl) (Wt.plain rfl) rfl rfl ?_
          refine T.nil ?_
          refine Ex.next ?_
          refine W.slots (L' := [(6, _), (7, _), (12, _), (18, _), (93, _), (94, _)]) ⟨rfl, rfl, rfl, rfl, rfl, rfl, trivial⟩ ?_
          refine W.seq ?_
          refine W.cond _ rfl (fun hb17 => ?_) (fun hb17 => ?_)
          · replace hb17 := of_decide_eq_true hb17
            refine W.skip ?_
            refine Ex.next ?_
            refine W.slots (L' := [(6, _), (7, _), (12, _), (18, _), (93, _)]) ⟨rfl, rfl, rfl, rfl, rfl, trivial⟩ ?_
            refine W.seq ?_
            refine W.block ?_
            refine W.seq ?_
            refine W.region ?_
            refine T.q (q_move rfl rfl) (Wt.plain rfl) rfl rfl ?_
            refine T.q (q_assign rfl rfl) (Wt.plain rfl) rfl rfl ?_
            refine T.nil ?_
            refine Ex.next ?_
            refine W.slots (L' := [(6, _), (7, _), (12, _), (18, _), (19, _), (93, _)]) ⟨rfl, rfl, rfl, rfl, rfl, rfl, trivial⟩ ?_
            refine W.seq ?_
            refine W.draw 7 (by kernel_rfl) ?_
            refine D.take 0 rfl (by kernel_rfl) (fun _ h => h) (q_move rfl rfl) (Wt.plain rfl) rfl rfl ?_
            refine D.take 1 rfl (by kernel_rfl) (fun _ h => h) (q_ixA0 ar44 i rfl rfl rfl (by omega) (by omega)) (Wt.plain rfl) rfl rfl ?_
            refine D.take 2 rfl (by kernel_rfl) (fun _ h => h) (q_loadI ss22 2 rfl rfl rfl (by first | omega | (simp; done) | (simp [-List.getD_eq_getElem?_getD]; omega))) (Wt.plain rfl) rfl rfl ?_
            refine D.take 3 rfl (by kernel_rfl) (fun _ h => h) (q_move rfl rfl) (Wt.plain rfl) rfl rfl ?_
            refine D.take 4 rfl (by kernel_rfl) (fun _ h => h) (q_ixA0 ar44 i rfl rfl rfl (by omega) (by omega)) (Wt.plain rfl) rfl rfl ?_
            refine D.take 5 rfl (by kernel_rfl) (fun _ h => h) (q_loadI ss22 1 rfl rfl rfl (by first | omega | (simp; done) | (simp [-List.getD_eq_getElem?_getD]; omega))) (Wt.plain rfl) rfl rfl ?_
            refine D.take 6 rfl (by kernel_rfl) (fun _ h => h) (q_add rfl rfl rfl) (Wt.plain rfl) rfl rfl ?_
            refine D.one 7 (by kernel_rfl) ?_
            refine Up.q rfl (q_assign rfl rfl) (Wt.plain rfl) rfl rfl (fun h => absurd h (by decide)) ?_
            refine D.done (by kernel_rfl) ?_
            refine Ex.next ?_
            refine W.slots (L' := [(6, _), (7, _), (12, _), (18, _), (19, _), (20, _), (93, _)]) ⟨rfl, rfl, rfl, rfl, rfl, rfl, rfl, trivial⟩ ?_
            refine W.seq ?_
            refine W.region ?_
            refine T.q (q_move rfl rfl) (Wt.plain rfl) rfl rfl ?_
            refine T.nil ?_
            refine Ex.next ?_
            refine W.slots (L' := [(6, _), (7, _), (12, _), (18, _), (19, _), (20, _), (93, _), (103, _)]) ⟨rfl, rfl, rfl, rfl, rfl, rfl, rfl, rfl, trivial⟩ ?_
            refine W.block ?_
            refine W.loop (α := Nat) (fun k => [(6, .pointer (some ⟨k3, 0, none⟩)), (7, .pointer (some ⟨k4, 0, none⟩)), (12, .pointer (some ⟨k8, 0, none⟩)), (18, .pointer (some ⟨k16, 0, none⟩)), (19, .int .i64 ((i : Nat) : Int)), (20, .int .u32 (IntKind.u32.wrap (((rn 10 (initS key nonce ctr)).getD i 0) + ((initS key nonce ctr).getD i 0)))), (93, .int .i64 ((i : Nat) : Int)), (103, .int .i64 ((k : Nat) : Int))]) (fun k => [⟨some k3, ints .u8 (List.replicate 64 0), 31, (0, 0)⟩, ⟨some k4, ints .u32 (initS key nonce ctr), 44, (0, 0)⟩, ⟨some k8, ints .u32 (rn 10 (initS key nonce ctr)), 44, (0, 0)⟩, ⟨some k16, ints .u8 (fillAt (fun q => 4 * i + q) (fun q => IntKind.u8.wrap (shr .u32 (IntKind.u32.wrap ((rn 10 (initS key nonce ctr)).getD i 0 + (initS key nonce ctr).getD i 0)) (8 * (q : Int)))) k (ser (fun q => IntKind.u32.wrap ((rn 10 (initS key nonce ctr)).getD q 0 + (initS key nonce ctr).getD q 0)) i)), 31, (0, 0)⟩]) (fun k => k ≤ 4) (fun k => 4 - k) [true, true, true, true] 0 (by omega) ⟨rfl, rfl, rfl, rfl, rfl, rfl, rfl, rfl, trivial⟩ rfl ?_
            rintro k hk
            refine W.seq ?_
            refine W.region ?_
            refine T.q (q_lss rfl rfl rfl) (Wt.plain rfl) rfl rfl ?_
            refine T.nil ?_
            refine Ex.next ?_
            refine W.slots (L' := [(6, _), (7, _), (12, _), (18, _), (19, _), (20, _), (93, _), (103, _), (104, _)]) ⟨rfl, rfl, rfl, rfl, rfl, rfl, rfl, rfl, rfl, trivial⟩ ?_
            refine W.seq ?_
            refine W.cond _ rfl (fun hb18 => ?_) (fun hb18 => ?_)
            · replace hb18 := of_decide_eq_true hb18
              refine W.skip ?_
              refine Ex.next ?_
              refine W.slots (L' := [(6, _), (7, _), (12, _), (18, _), (19, _), (20, _), (93, _), (103, _)]) ⟨rfl, rfl, rfl, rfl, rfl, rfl, rfl, rfl, trivial⟩ ?_
              refine W.seq ?_
              refine W.block ?_
              refine W.seq ?_
              refine W.region ?_
              refine T.q (q_move rfl rfl) (Wt.plain rfl) rfl rfl ?_
              refine T.q (q_assign rfl rfl) (Wt.plain rfl) rfl rfl ?_
              refine T.nil ?_
              refine Ex.next ?_
              refine W.slots (L' := [(6, _), (7, _), (12, _), (18, _), (19, _), (20, _), (21, _), (93, _), (103, _)]) ⟨rfl, rfl, rfl, rfl, rfl, rfl, rfl, rfl, rfl, trivial⟩ ?_
              refine W.region ?_
              refine T.q (q_move rfl rfl) (Wt.plain rfl) rfl rfl ?_
              refine T.q (q_muli rfl rfl rfl (by omega) (by omega)) (Wt.plain rfl) rfl rfl ?_
              refine T.q (q_move rfl rfl) (Wt.plain rfl) rfl rfl ?_
              refine T.q (q_addi rfl rfl rfl (by omega) (by omega)) (Wt.plain rfl) rfl rfl ?_
              refine T.q (q_move rfl rfl) (Wt.plain rfl) rfl rfl ?_
              refine T.q (q_move rfl rfl) (Wt.plain rfl) rfl rfl ?_
              refine T.q (q_muli rfl rfl rfl (by omega) (by omega)) (Wt.plain rfl) rfl rfl ?_
              refine T.q (q_shr rfl rfl rfl (by omega)) (Wt.plain rfl) rfl rfl ?_
              refine T.q (q_conv un22 un5 rfl rfl) (Wt.plain rfl) rfl rfl ?_
              refine T.q (q_ixA0 ar31 ((4 * i) + k) rfl rfl rfl (by omega) (by omega)) (Wt.plain rfl) rfl rfl ?_
              refine T.eff (e_storeI ss5 3 rfl rfl rfl rfl (by first | omega | (simp; done) | (simp [-List.getD_eq_getElem?_getD]; omega)) rfl) (Wt.plain rfl) ?_
              rintro _ _ ⟨rfl, rfl⟩
              change (_ : List Blk → Prop) [_, _, _, _]
              refine T.nil ?_
              refine Ex.in_normal ?_
              refine Ex.next ?_
              refine W.slots (L' := [(6, _), (7, _), (12, _), (18, _), (19, _), (20, _), (93, _), (103, _)]) ⟨rfl, rfl, rfl, rfl, rfl, rfl, rfl, rfl, trivial⟩ ?_
              refine W.region ?_
              refine T.q (q_addi rfl rfl rfl (by omega) (by omega)) (Wt.plain rfl) rfl rfl ?_
              refine T.q (q_move rfl rfl) (Wt.plain rfl) rfl rfl ?_
              refine T.nil ?_
              exact Ex.again [true, true, true, true] (k + 1) (by omega) (by omega) ⟨rfl, rfl, rfl, rfl, rfl, rfl, rfl, rfl, trivial⟩ rfl
            · replace hb18 := of_decide_eq_false hb18
              obtain rfl : k = 4 := by omega
              refine W.exit ?_
              refine Ex.then_exit ?_
              refine Ex.then_exit ?_
              refine Ex.in_here ?_
              refine Ex.in_normal ?_
              refine Ex.next ?_
              refine W.slots (L' := [(6, _), (7, _), (12, _), (18, _), (93, _)]) ⟨rfl, rfl, rfl, rfl, rfl, trivial⟩ ?_
              refine W.region ?_
              refine T.q (q_addi rfl rfl rfl (by omega) (by omega)) (Wt.plain rfl) rfl rfl ?_
              refine T.q (q_move rfl rfl) (Wt.plain rfl) rfl rfl ?_
              refine T.nil ?_
              exact Ex.again [true, true, true, true] (i + 1) (by omega) (by omega) ⟨rfl, rfl, rfl, rfl, rfl, trivial⟩ rfl
          · replace hb17 := of_decide_eq_false hb17
            obtain rfl : i = 16 := by omega
            refine W.exit ?_
            refine Ex.then_exit ?_
            refine Ex.then_exit ?_
            refine Ex.in_here ?_
            refine Ex.next ?_
            refine W.less (L' := [(6, _), (18, _)]) [true, false, false, true] ⟨rfl, rfl, trivial⟩ ?_
            change (_ : List Blk → Prop) [_, _]
            refine W.seq ?_
            refine W.region ?_
            refine T.q (q_loadW (wide_ints wd31 (by first | omega | (simp; done) | (simp [-List.getD_eq_getElem?_getD]; omega) | (simp at *; omega) | rfl)) (R_blk 1 rfl) rfl rfl) (Wt.plain rfl) rfl rfl ?_
            refine T.eff (e_storeA (wide_ints wd31 (by first | omega | (simp; done) | (simp [-List.getD_eq_getElem?_getD]; omega) | (simp at *; omega) | rfl)) 0 rfl rfl rfl rfl (by first | omega | (simp; done) | (simp [-List.getD_eq_getElem?_getD]; omega) | (simp at *; omega) | rfl) ints_one rfl) (Wt.plain rfl) ?_
            rintro _ _ ⟨rfl, rfl⟩
            change (_ : List Blk → Prop) [_, _]
            refine T.nil ?_
            refine Ex.next ?_
            refine W.less (L' := [(6, _)]) [true, false] ⟨rfl, trivial⟩ ?_
            change (_ : List Blk → Prop) [_]
            refine W.ret ?_
            refine Ex.outC [false] 0 rfl (by exact (wide_ints wd31 (by first | omega | (simp; done) | (simp [-List.getD_eq_getElem?_getD]; omega) | (simp at *; omega) | rfl))) rfl rfl ?_
            exact ⟨rfl, rfl⟩
end Go.Proofs.YtgljacciacbggaaDoor
