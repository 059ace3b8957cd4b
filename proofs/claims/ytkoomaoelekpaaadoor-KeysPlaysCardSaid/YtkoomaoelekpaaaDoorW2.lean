/-
  The walks of layer 6: a piece is pressed.
-/
import Derived.Test.YtkoomaoelekpaaaDoorW1
namespace Go.Proofs.YtkoomaoelekpaaaDoor
open Go Go.X

set_option maxRecDepth 100000 in
set_option maxHeartbeats 1000000 in
theorem press_spec (h bs : List Int) (t : Int) (last : Bool) (A : Option Addr) (n c : Nat) (hl8 : h.length = 8) (hb : 64 ≤ bs.length) (hn : 64 ≤ n) (w0 : World) (hR : Reads w0 A (ints .u8 bs)) (hg0 : Reads w0 (some ⟨0, 0, none⟩) (ints .u32 startW)) (hg1 : Reads w0 (some ⟨1, 0, none⟩) (ints .u8 sgm)) (hg2 : Reads w0 (some ⟨2, 0, none⟩) (ints .u8 tbl)) : Does Tryd.prog 49 #[.agg (ints .u32 h).toArray, .slice A n c, .int .u64 t, .bool last] w0 [] (fun v G => v = .agg (ints .u32 (pressS h bs t last)).toArray ∧ G = []) := by
  refine spec_of 145 Tryd.func49 rfl rfl rfl ?_
  refine W.seq ?_
  refine W.region ?_
  refine T.eff (e_box rfl rfl rfl rfl) (Wt.plain rfl) ?_
  rintro _ _ ⟨k1, rfl, rfl⟩
  change (_ : List Blk → Prop) [_]
  refine T.eff (e_alloc ze62 rfl rfl rfl) (Wt.plain rfl) ?_
  rintro _ _ ⟨k2, rfl, rfl⟩
  change (_ : List Blk → Prop) [_, _]
  refine T.nil ?_
  refine Ex.next ?_
  refine W.slots (L' := [(1, _), (2, _), (3, _), (4, _), (8, _)]) ⟨rfl, rfl, rfl, rfl, rfl, trivial⟩ ?_
  refine W.seq ?_
  refine W.region ?_
  refine T.eff (e_alloc ze77 rfl rfl rfl) (Wt.plain rfl) ?_
  rintro _ _ ⟨k3, rfl, rfl⟩
  change (_ : List Blk → Prop) [_, _, _]
  refine T.eff (e_alloc ze77 rfl rfl rfl) (Wt.plain rfl) ?_
  rintro _ _ ⟨k4, rfl, rfl⟩
  change (_ : List Blk → Prop) [_, _, _, _]
  refine T.nil ?_
  refine Ex.next ?_
  refine W.slots (L' := [(1, _), (2, _), (3, _), (4, _), (8, _), (9, _), (10, _)]) ⟨rfl, rfl, rfl, rfl, rfl, rfl, rfl, trivial⟩ ?_
  refine W.seq ?_
  refine W.seq ?_
  refine W.region ?_
  refine T.q (q_move rfl rfl) (Wt.plain rfl) rfl rfl ?_
  refine T.nil ?_
  refine Ex.next ?_
  refine W.slots (L' := [(1, _), (2, _), (3, _), (4, _), (8, _), (9, _), (10, _), (18, _)]) ⟨rfl, rfl, rfl, rfl, rfl, rfl, rfl, rfl, trivial⟩ ?_
  refine W.block ?_
  refine W.loop (α := Nat) (fun i => [(1, .slice A n c), (2, .int .u64 t), (3, .bool last), (4, .pointer (some ⟨k1, 0, none⟩)), (8, .pointer (some ⟨k2, 0, none⟩)), (9, .pointer (some ⟨k3, 0, none⟩)), (10, .pointer (some ⟨k4, 0, none⟩)), (18, .int .i64 ((i : Nat) : Int))]) (fun i => [⟨some k1, ints .u32 h, 62, (0, 0)⟩, ⟨some k2, ints .u32 (List.replicate 8 0), 62, (0, 0)⟩, ⟨some k3, ints .u32 (fillAt (fun q => q) (fun q => wordAt bs (4 * q)) i (List.replicate 16 0)), 77, (0, 0)⟩, ⟨some k4, ints .u32 (List.replicate 16 0), 77, (0, 0)⟩]) (fun i => i ≤ 16) (fun i => 16 - i) [true, true, true, true] 0 (by omega) ⟨rfl, rfl, rfl, rfl, rfl, rfl, rfl, rfl, trivial⟩ rfl ?_
  rintro i hi
  refine W.seq ?_
  refine W.region ?_
  refine T.q (q_lss rfl rfl rfl) (Wt.plain rfl) rfl rfl ?_
  refine T.nil ?_
  refine Ex.next ?_
  refine W.slots (L' := [(1, _), (2, _), (3, _), (4, _), (8, _), (9, _), (10, _), (18, _), (19, _)]) ⟨rfl, rfl, rfl, rfl, rfl, rfl, rfl, rfl, rfl, trivial⟩ ?_
  refine W.seq ?_
  refine W.cond _ rfl (fun hb5 => ?_) (fun hb5 => ?_)
  · replace hb5 := of_decide_eq_true hb5
    refine W.skip ?_
    refine Ex.next ?_
    refine W.slots (L' := [(1, _), (2, _), (3, _), (4, _), (8, _), (9, _), (10, _), (18, _)]) ⟨rfl, rfl, rfl, rfl, rfl, rfl, rfl, rfl, trivial⟩ ?_
    refine W.seq ?_
    refine W.block ?_
    refine W.seq ?_
    refine W.region ?_
    refine T.q (q_move rfl rfl) (Wt.plain rfl) rfl rfl ?_
    refine T.q (q_assign rfl rfl) (Wt.plain rfl) rfl rfl ?_
    refine T.nil ?_
    refine Ex.next ?_
    refine W.slots (L' := [(1, _), (2, _), (3, _), (4, _), (8, _), (9, _), (10, _), (11, _), (18, _)]) ⟨rfl, rfl, rfl, rfl, rfl, rfl, rfl, rfl, rfl, trivial⟩ ?_
    refine W.draw 34 (by kernel_rfl) ?_
    refine D.take 0 rfl (by kernel_rfl) (fun _ h => h) (q_move rfl rfl) (Wt.plain rfl) rfl rfl ?_
    refine D.take 1 rfl (by kernel_rfl) (fun _ h => h) (q_move rfl rfl) (Wt.plain rfl) rfl rfl ?_
    refine D.take 2 rfl (by kernel_rfl) (fun _ h => h) (q_move rfl rfl) (Wt.plain rfl) rfl rfl ?_
    refine D.take 3 rfl (by kernel_rfl) (fun _ h => h) (q_muli rfl rfl rfl (by omega) (by omega)) (Wt.plain rfl) rfl rfl ?_
    refine D.take 4 rfl (by kernel_rfl) (fun _ h => h) (q_ixE1 sc22 (4 * i) (R_ext hR.ext) rfl rfl rfl (by omega) (by omega) (by first | omega | (simp; done) | (simp [-List.getD_eq_getElem?_getD]; omega))) (Wt.plain rfl) rfl rfl ?_
    refine D.take 5 rfl (by kernel_rfl) (fun _ h => h) (q_loadE ss5 (R_ext hR.ext) rfl rfl (ints_get (by first | omega | (simp; done) | (simp [-List.getD_eq_getElem?_getD]; omega)))) (Wt.plain rfl) rfl rfl ?_
    refine D.take 6 rfl (by kernel_rfl) (fun _ h => h) (q_conv un5 un61 rfl rfl) (Wt.plain rfl) rfl rfl ?_
    refine D.take 7 rfl (by kernel_rfl) (fun _ h => h) (q_move rfl rfl) (Wt.plain rfl) rfl rfl ?_
    refine D.take 8 rfl (by kernel_rfl) (fun _ h => h) (q_move rfl rfl) (Wt.plain rfl) rfl rfl ?_
    refine D.take 9 rfl (by kernel_rfl) (fun _ h => h) (q_muli rfl rfl rfl (by omega) (by omega)) (Wt.plain rfl) rfl rfl ?_
    refine D.take 10 rfl (by kernel_rfl) (fun _ h => h) (q_addi rfl rfl rfl (by omega) (by omega)) (Wt.plain rfl) rfl rfl ?_
    refine D.take 11 rfl (by kernel_rfl) (fun _ h => h) (q_ixE1 sc22 ((4 * i) + 1) (R_ext hR.ext) rfl rfl rfl (by omega) (by omega) (by first | omega | (simp; done) | (simp [-List.getD_eq_getElem?_getD]; omega))) (Wt.plain rfl) rfl rfl ?_
    refine D.take 12 rfl (by kernel_rfl) (fun _ h => h) (q_loadE ss5 (R_ext hR.ext) rfl rfl (ints_get (by first | omega | (simp; done) | (simp [-List.getD_eq_getElem?_getD]; omega)))) (Wt.plain rfl) rfl rfl ?_
    refine D.take 13 rfl (by kernel_rfl) (fun _ h => h) (q_conv un5 un61 rfl rfl) (Wt.plain rfl) rfl rfl ?_
    refine D.take 14 rfl (by kernel_rfl) (fun _ h => h) (q_shl rfl rfl rfl (by decide)) (Wt.plain rfl) rfl rfl ?_
    refine D.take 15 rfl (by kernel_rfl) (fun _ h => h) (q_or rfl rfl rfl) (Wt.plain rfl) rfl rfl ?_
    refine D.take 16 rfl (by kernel_rfl) (fun _ h => h) (q_move rfl rfl) (Wt.plain rfl) rfl rfl ?_
    refine D.take 17 rfl (by kernel_rfl) (fun _ h => h) (q_move rfl rfl) (Wt.plain rfl) rfl rfl ?_
    refine D.take 18 rfl (by kernel_rfl) (fun _ h => h) (q_muli rfl rfl rfl (by omega) (by omega)) (Wt.plain rfl) rfl rfl ?_
    refine D.take 19 rfl (by kernel_rfl) (fun _ h => h) (q_addi rfl rfl rfl (by omega) (by omega)) (Wt.plain rfl) rfl rfl ?_
    refine D.take 20 rfl (by kernel_rfl) (fun _ h => h) (q_ixE1 sc22 ((4 * i) + 2) (R_ext hR.ext) rfl rfl rfl (by omega) (by omega) (by first | omega | (simp; done) | (simp [-List.getD_eq_getElem?_getD]; omega))) (Wt.plain rfl) rfl rfl ?_
    refine D.take 21 rfl (by kernel_rfl) (fun _ h => h) (q_loadE ss5 (R_ext hR.ext) rfl rfl (ints_get (by first | omega | (simp; done) | (simp [-List.getD_eq_getElem?_getD]; omega)))) (Wt.plain rfl) rfl rfl ?_
    refine D.take 22 rfl (by kernel_rfl) (fun _ h => h) (q_conv un5 un61 rfl rfl) (Wt.plain rfl) rfl rfl ?_
    refine D.take 23 rfl (by kernel_rfl) (fun _ h => h) (q_shl rfl rfl rfl (by decide)) (Wt.plain rfl) rfl rfl ?_
    refine D.take 24 rfl (by kernel_rfl) (fun _ h => h) (q_or rfl rfl rfl) (Wt.plain rfl) rfl rfl ?_
    refine D.take 25 rfl (by kernel_rfl) (fun _ h => h) (q_move rfl rfl) (Wt.plain rfl) rfl rfl ?_
    refine D.take 26 rfl (by kernel_rfl) (fun _ h => h) (q_move rfl rfl) (Wt.plain rfl) rfl rfl ?_
    refine D.take 27 rfl (by kernel_rfl) (fun _ h => h) (q_muli rfl rfl rfl (by omega) (by omega)) (Wt.plain rfl) rfl rfl ?_
    refine D.take 28 rfl (by kernel_rfl) (fun _ h => h) (q_addi rfl rfl rfl (by omega) (by omega)) (Wt.plain rfl) rfl rfl ?_
    refine D.take 29 rfl (by kernel_rfl) (fun _ h => h) (q_ixE1 sc22 ((4 * i) + 3) (R_ext hR.ext) rfl rfl rfl (by omega) (by omega) (by first | omega | (simp; done) | (simp [-List.getD_eq_getElem?_getD]; omega))) (Wt.plain rfl) rfl rfl ?_
    refine D.take 30 rfl (by kernel_rfl) (fun _ h => h) (q_loadE ss5 (R_ext hR.ext) rfl rfl (ints_get (by first | omega | (simp; done) | (simp [-List.getD_eq_getElem?_getD]; omega)))) (Wt.plain rfl) rfl rfl ?_
    refine D.take 31 rfl (by kernel_rfl) (fun _ h => h) (q_conv un5 un61 rfl rfl) (Wt.plain rfl) rfl rfl ?_
    refine D.take 32 rfl (by kernel_rfl) (fun _ h => h) (q_shl rfl rfl rfl (by decide)) (Wt.plain rfl) rfl rfl ?_
    refine D.take 33 rfl (by kernel_rfl) (fun _ h => h) (q_or rfl rfl rfl) (Wt.plain rfl) rfl rfl ?_
    refine D.one 34 (by kernel_rfl) ?_
    refine Up.q rfl (q_ixA0 ar77 i rfl rfl rfl (by omega) (by omega)) (Wt.plain rfl) rfl rfl (fun h => absurd h (by decide)) ?_
    refine D.one 35 (by kernel_rfl) ?_
    refine Up.eff rfl (e_storeI ss61 2 rfl rfl rfl rfl (by first | omega | (simp; done) | (simp [-List.getD_eq_getElem?_getD]; omega)) rfl) (Wt.plain rfl) ?_
    rintro _ _ ⟨rfl, rfl⟩
    refine ⟨fun h => absurd h (by decide), ?_⟩
    change (_ : List Blk → Prop) [_, _, _, _]
    refine D.done (by kernel_rfl) ?_
    refine Ex.in_normal ?_
    refine Ex.next ?_
    refine W.slots (L' := [(1, _), (2, _), (3, _), (4, _), (8, _), (9, _), (10, _), (18, _)]) ⟨rfl, rfl, rfl, rfl, rfl, rfl, rfl, rfl, trivial⟩ ?_
    refine W.region ?_
    refine T.q (q_addi rfl rfl rfl (by omega) (by omega)) (Wt.plain rfl) rfl rfl ?_
    refine T.q (q_move rfl rfl) (Wt.plain rfl) rfl rfl ?_
    refine T.nil ?_
    exact Ex.again [true, true, true, true] (i + 1) (by omega) (by omega) ⟨rfl, rfl, rfl, rfl, rfl, rfl, rfl, rfl, trivial⟩ rfl
  · replace hb5 := of_decide_eq_false hb5
    obtain rfl : i = 16 := by omega
    conv => rhs; rw [show fillAt (fun q => q) (fun q => wordAt bs (4 * q)) 16 (List.replicate 16 0) = msg bs from fillAt_all _ 16]
    refine W.exit ?_
    refine Ex.then_exit ?_
    refine Ex.then_exit ?_
    refine Ex.in_here ?_
    refine Ex.next ?_
    refine W.slots (L' := [(2, _), (3, _), (4, _), (8, _), (9, _), (10, _)]) ⟨rfl, rfl, rfl, rfl, rfl, rfl, trivial⟩ ?_
    refine W.seq ?_
    refine W.seq ?_
    refine W.region ?_
    refine T.q (q_move rfl rfl) (Wt.plain rfl) rfl rfl ?_
    refine T.nil ?_
    refine Ex.next ?_
    refine W.slots (L' := [(2, _), (3, _), (4, _), (8, _), (9, _), (10, _), (57, _)]) ⟨rfl, rfl, rfl, rfl, rfl, rfl, rfl, trivial⟩ ?_
    refine W.block ?_
    refine W.loop (α := Nat) (fun i => [(2, .int .u64 t), (3, .bool last), (4, .pointer (some ⟨k1, 0, none⟩)), (8, .pointer (some ⟨k2, 0, none⟩)), (9, .pointer (some ⟨k3, 0, none⟩)), (10, .pointer (some ⟨k4, 0, none⟩)), (57, .int .i64 ((i : Nat) : Int))]) (fun i => [⟨some k1, ints .u32 h, 62, (0, 0)⟩, ⟨some k2, ints .u32 (List.replicate 8 0), 62, (0, 0)⟩, ⟨some k3, ints .u32 (msg bs), 77, (0, 0)⟩, ⟨some k4, ints .u32 (vfill h i), 77, (0, 0)⟩]) (fun i => i ≤ 8) (fun i => 8 - i) [true, true, true, true] 0 (by omega) ⟨rfl, rfl, rfl, rfl, rfl, rfl, rfl, trivial⟩ rfl ?_
    rintro i hi
    refine W.seq ?_
    refine W.region ?_
    refine T.q (q_lss rfl rfl rfl) (Wt.plain rfl) rfl rfl ?_
    refine T.nil ?_
    refine Ex.next ?_
    refine W.slots (L' := [(2, _), (3, _), (4, _), (8, _), (9, _), (10, _), (57, _), (58, _)]) ⟨rfl, rfl, rfl, rfl, rfl, rfl, rfl, rfl, trivial⟩ ?_
    refine W.seq ?_
    refine W.cond _ rfl (fun hb6 => ?_) (fun hb6 => ?_)
    · replace hb6 := of_decide_eq_true hb6
      refine W.skip ?_
      refine Ex.next ?_
      refine W.slots (L' := [(2, _), (3, _), (4, _), (8, _), (9, _), (10, _), (57, _)]) ⟨rfl, rfl, rfl, rfl, rfl, rfl, rfl, trivial⟩ ?_
      refine W.seq ?_
      refine W.block ?_
      refine W.seq ?_
      refine W.region ?_
      refine T.q (q_move rfl rfl) (Wt.plain rfl) rfl rfl ?_
      refine T.q (q_assign rfl rfl) (Wt.plain rfl) rfl rfl ?_
      refine T.nil ?_
      refine Ex.next ?_
      refine W.slots (L' := [(2, _), (3, _), (4, _), (8, _), (9, _), (10, _), (12, _), (57, _)]) ⟨rfl, rfl, rfl, rfl, rfl, rfl, rfl, rfl, trivial⟩ ?_
      refine W.drawP 11 [true, true, true, false] (by kernel_rfl) ?_
      refine D.take 0 rfl (by kernel_rfl) (S_sub (((((List.Sublist.slnil).cons _).cons_cons _).cons_cons _).cons_cons _)) (q_move rfl rfl) (Wt.plain rfl) rfl rfl ?_
      refine D.take 1 rfl (by kernel_rfl) (S_sub (((((List.Sublist.slnil).cons _).cons_cons _).cons_cons _).cons_cons _)) (q_move rfl rfl) (Wt.plain rfl) rfl rfl ?_
      refine D.take 2 rfl (by kernel_rfl) (S_sub (((((List.Sublist.slnil).cons _).cons_cons _).cons_cons _).cons_cons _)) (q_addi rfl rfl rfl (by omega) (by omega)) (Wt.plain rfl) rfl rfl ?_
      refine D.take 3 rfl (by kernel_rfl) (S_sub (((((List.Sublist.slnil).cons _).cons_cons _).cons_cons _).cons_cons _)) (q_move rfl rfl) (Wt.plain rfl) rfl rfl ?_
      refine D.take 4 rfl (by kernel_rfl) (S_sub (((((List.Sublist.slnil).cons _).cons_cons _).cons_cons _).cons_cons _)) (q_ixA0 ar62 i rfl rfl rfl (by omega) (by omega)) (Wt.plain rfl) rfl rfl ?_
      refine D.take 5 rfl (by kernel_rfl) (S_sub (((((List.Sublist.slnil).cons _).cons_cons _).cons_cons _).cons_cons _)) (q_loadI ss61 0 rfl rfl rfl (by first | omega | (simp; done) | (simp [-List.getD_eq_getElem?_getD]; omega))) (Wt.plain rfl) rfl rfl ?_
      refine D.take 6 rfl (by kernel_rfl) (S_sub (((((List.Sublist.slnil).cons _).cons_cons _).cons_cons _).cons_cons _)) (q_move rfl rfl) (Wt.plain rfl) rfl rfl ?_
      refine D.take 7 rfl (by kernel_rfl) (S_sub (((((List.Sublist.slnil).cons _).cons_cons _).cons_cons _).cons_cons _)) (q_ixA0 ar62 i rfl rfl rfl (by omega) (by omega)) (Wt.plain rfl) rfl rfl ?_
      refine D.take 8 rfl (by kernel_rfl) (S_sub (((((List.Sublist.slnil).cons _).cons_cons _).cons_cons _).cons_cons _)) (q_loadG ss61 (R_ext hg0.ext) rfl rfl (ints_get (by first | omega | (simp; done) | (simp [-List.getD_eq_getElem?_getD]; omega)))) (Wt.plain rfl) rfl rfl ?_
      refine D.take 9 rfl (by kernel_rfl) (S_sub (((((List.Sublist.slnil).cons _).cons_cons _).cons_cons _).cons_cons _)) (q_ixA0 ar77 i rfl rfl rfl (by omega) (by omega)) (Wt.plain rfl) rfl rfl ?_
      refine D.one 10 (by kernel_rfl) ?_
      refine Up.eff rfl (e_storeI ss61 3 rfl rfl rfl rfl (by first | omega | (simp; done) | (simp [-List.getD_eq_getElem?_getD]; omega)) rfl) (Wt.plain rfl) ?_
      rintro _ _ ⟨rfl, rfl⟩
      refine ⟨fun _ => (S_sub (((((List.Sublist.slnil).cons _).cons_cons _).cons_cons _).cons_cons _)), ?_⟩
      change (_ : List Blk → Prop) [_, _, _, _]
      refine D.one 11 (by kernel_rfl) ?_
      refine Up.q rfl (q_ixA0 ar77 (8 + i) rfl rfl rfl (by omega) (by omega)) (Wt.plain rfl) rfl rfl (fun h => absurd h (by decide)) ?_
      refine D.one 12 (by kernel_rfl) ?_
      refine Up.eff rfl (e_storeI ss61 3 rfl rfl rfl rfl (by first | omega | (simp; done) | (simp [-List.getD_eq_getElem?_getD]; omega)) rfl) (Wt.plain rfl) ?_
      rintro _ _ ⟨rfl, rfl⟩
      refine ⟨fun h => absurd h (by decide), ?_⟩
      change (_ : List Blk → Prop) [_, _, _, _]
      refine D.done (by kernel_rfl) ?_
      refine Ex.in_normal ?_
      refine Ex.next ?_
      refine W.slots (L' := [(2, _), (3, _), (4, _), (8, _), (9, _), (10, _), (57, _)]) ⟨rfl, rfl, rfl, rfl, rfl, rfl, rfl, trivial⟩ ?_
      refine W.region ?_
      refine T.q (q_addi rfl rfl rfl (by omega) (by omega)) (Wt.plain rfl) rfl rfl ?_
      refine T.q (q_move rfl rfl) (Wt.plain rfl) rfl rfl ?_
      refine T.nil ?_
      exact Ex.again [true, true, true, true] (i + 1) (by omega) (by omega) ⟨rfl, rfl, rfl, rfl, rfl, rfl, rfl, trivial⟩ rfl
    · replace hb6 := of_decide_eq_false hb6
      obtain rfl : i = 8 := by omega
      refine W.exit ?_
      refine Ex.then_exit ?_
      refine Ex.then_exit ?_
      refine Ex.in_here ?_
      refine Ex.next ?_
      refine W.slots (L' := [(2, _), (3, _), (4, _), (8, _), (9, _), (10, _)]) ⟨rfl, rfl, rfl, rfl, rfl, rfl, trivial⟩ ?_
      refine W.seq ?_
      refine W.region ?_
      refine T.q (q_ixA0 ar77 12 rfl rfl rfl (rfl) (by decide)) (Wt.plain rfl) rfl rfl ?_
      refine T.q (q_loadI ss61 3 rfl rfl rfl (by first | omega | (simp; done) | (simp [-List.getD_eq_getElem?_getD]; omega))) (Wt.plain rfl) rfl rfl ?_
      refine T.q (q_move rfl rfl) (Wt.plain rfl) rfl rfl ?_
      refine T.q (q_conv un64 un61 rfl rfl) (Wt.plain rfl) rfl rfl ?_
      refine T.q (q_xor rfl rfl rfl) (Wt.plain rfl) rfl rfl ?_
      refine T.q (q_ixA0 ar77 12 rfl rfl rfl (rfl) (by decide)) (Wt.plain rfl) rfl rfl ?_
      refine T.eff (e_storeI ss61 3 rfl rfl rfl rfl (by first | omega | (simp; done) | (simp [-List.getD_eq_getElem?_getD]; omega)) rfl) (Wt.plain rfl) ?_
      rintro _ _ ⟨rfl, rfl⟩
      change (_ : List Blk → Prop) [_, _, _, _]
      refine T.nil ?_
      refine Ex.next ?_
      refine W.slots (L' := [(2, _), (3, _), (4, _), (8, _), (9, _), (10, _)]) ⟨rfl, rfl, rfl, rfl, rfl, rfl, trivial⟩ ?_
      refine W.seq ?_
      refine W.region ?_
      refine T.q (q_ixA0 ar77 13 rfl rfl rfl (rfl) (by decide)) (Wt.plain rfl) rfl rfl ?_
      refine T.q (q_loadI ss61 3 rfl rfl rfl (by first | omega | (simp; done) | (simp [-List.getD_eq_getElem?_getD]; omega))) (Wt.plain rfl) rfl rfl ?_
      refine T.q (q_move rfl rfl) (Wt.plain rfl) rfl rfl ?_
      refine T.q (q_shr rfl rfl rfl (by decide)) (Wt.plain rfl) rfl rfl ?_
      refine T.q (q_conv un64 un61 rfl rfl) (Wt.plain rfl) rfl rfl ?_
      refine T.q (q_xor rfl rfl rfl) (Wt.plain rfl) rfl rfl ?_
      refine T.q (q_ixA0 ar77 13 rfl rfl rfl (rfl) (by decide)) (Wt.plain rfl) rfl rfl ?_
      refine T.eff (e_storeI ss61 3 rfl rfl rfl rfl (by first | omega | (simp; done) | (simp [-List.getD_eq_getElem?_getD]; omega)) rfl) (Wt.plain rfl) ?_
      rintro _ _ ⟨rfl, rfl⟩
      change (_ : List Blk → Prop) [_, _, _, _]
      change (_ : List Blk → Prop) [_, _, _, ⟨some k4, ints .u32 (vtold (vfill h 8) t), 77, (0, 0)⟩]
      refine T.nil ?_
      refine Ex.next ?_
      refine W.slots (L' := [(3, _), (4, _), (8, _), (9, _), (10, _)]) ⟨rfl, rfl, rfl, rfl, rfl, trivial⟩ ?_
      refine W.meet (α := List Int) (fun vv => [(4, .pointer (some ⟨k1, 0, none⟩)), (8, .pointer (some ⟨k2, 0, none⟩)), (9, .pointer (some ⟨k3, 0, none⟩)), (10, .pointer (some ⟨k4, 0, none⟩))]) (fun vv => [⟨some k1, ints .u32 h, 62, (0, 0)⟩, ⟨some k2, ints .u32 (List.replicate 8 0), 62, (0, 0)⟩, ⟨some k3, ints .u32 (msg bs), 77, (0, 0)⟩, ⟨some k4, ints .u32 vv, 77, (0, 0)⟩]) (fun vv => vv = vstart h t last) ?_ ?_
      ·
        refine W.seq ?_
        refine W.region ?_
        refine T.q (q_move rfl rfl) (Wt.plain rfl) rfl rfl ?_
        refine T.nil ?_
        refine Ex.next ?_
        refine W.slots (L' := [(4, _), (8, _), (9, _), (10, _), (85, _)]) ⟨rfl, rfl, rfl, rfl, rfl, trivial⟩ ?_
        refine W.cond _ rfl (fun hb7 => ?_) (fun hb7 => ?_)
        · skip
          refine W.region ?_
          refine T.q (q_ixA0 ar77 14 rfl rfl rfl (rfl) (by decide)) (Wt.plain rfl) rfl rfl ?_
          refine T.q (q_loadI ss61 3 rfl rfl rfl (by first | omega | (simp; done) | (simp [-List.getD_eq_getElem?_getD]; omega))) (Wt.plain rfl) rfl rfl ?_
          refine T.q (q_cpl rfl rfl) (Wt.plain rfl) rfl rfl ?_
          refine T.q (q_ixA0 ar77 14 rfl rfl rfl (rfl) (by decide)) (Wt.plain rfl) rfl rfl ?_
          refine T.eff (e_storeI ss61 3 rfl rfl rfl rfl (by first | omega | (simp; done) | (simp [-List.getD_eq_getElem?_getD]; omega)) rfl) (Wt.plain rfl) ?_
          rintro _ _ ⟨rfl, rfl⟩
          change (_ : List Blk → Prop) [_, _, _, _]
          change (_ : List Blk → Prop) [_, _, _, ⟨some k4, ints .u32 (vlast (vtold (vfill h 8) t)), 77, (0, 0)⟩]
          refine T.nil ?_
          exact Ex.met [true, true, true, true] (vlast (vtold (vfill h 8) t)) (by rw [vstart, hb7, vfill_all h hl8]; rfl) ⟨rfl, rfl, rfl, rfl, trivial⟩ rfl
        · skip
          refine W.skip ?_
          exact Ex.met [true, true, true, true] (vtold (vfill h 8) t) (by rw [vstart, hb7, vfill_all h hl8]; rfl) ⟨rfl, rfl, rfl, rfl, trivial⟩ rfl
      ·
        rintro vv hvv
        have hvl : vv.length = 16 := by rw [hvv]; exact vstart_length h t last hl8
        refine W.seq ?_
        refine W.seq ?_
        refine W.region ?_
        refine T.q (q_loadW (wide_ints wd79 (by first | omega | (simp; done) | (simp [-List.getD_eq_getElem?_getD]; omega) | (simp at *; omega) | rfl)) (R_ext hg1.ext) rfl rfl) (Wt.plain rfl) rfl rfl ?_
        refine T.q (q_move rfl rfl) (Wt.plain rfl) rfl rfl ?_
        refine T.nil ?_
        refine Ex.next ?_
        refine W.slots (L' := [(4, _), (8, _), (9, _), (10, _), (90, _), (91, _)]) ⟨rfl, rfl, rfl, rfl, rfl, rfl, trivial⟩ ?_
        refine W.block ?_
        refine W.loop (α := Nat) (fun r => [(4, .pointer (some ⟨k1, 0, none⟩)), (8, .pointer (some ⟨k2, 0, none⟩)), (9, .pointer (some ⟨k3, 0, none⟩)), (10, .pointer (some ⟨k4, 0, none⟩)), (90, .agg (ints .u8 sgm).toArray), (91, .int .i64 ((r : Nat) : Int))]) (fun r => [⟨some k1, ints .u32 h, 62, (0, 0)⟩, ⟨some k2, ints .u32 (List.replicate 8 0), 62, (0, 0)⟩, ⟨some k3, ints .u32 (msg bs), 77, (0, 0)⟩, ⟨some k4, ints .u32 (brn (msg bs) vv r), 77, (0, 0)⟩]) (fun r => r ≤ 10) (fun r => 10 - r) [true, true, true, true] 0 (by omega) ⟨rfl, rfl, rfl, rfl, rfl, rfl, trivial⟩ rfl ?_
        rintro r hr
        refine W.seq ?_
        refine W.region ?_
        refine T.q (q_lss rfl rfl rfl) (Wt.plain rfl) rfl rfl ?_
        refine T.nil ?_
        refine Ex.next ?_
        refine W.slots (L' := [(4, _), (8, _), (9, _), (10, _), (90, _), (91, _), (92, _)]) ⟨rfl, rfl, rfl, rfl, rfl, rfl, rfl, trivial⟩ ?_
        refine W.seq ?_
        refine W.cond _ rfl (fun hb8 => ?_) (fun hb8 => ?_)
        · replace hb8 := of_decide_eq_true hb8
          have hr10 : r < 10 := by omega
          have hsg := sg_length hr10
          refine W.skip ?_
          refine Ex.next ?_
          refine W.slots (L' := [(4, _), (8, _), (9, _), (10, _), (90, _), (91, _)]) ⟨rfl, rfl, rfl, rfl, rfl, rfl, trivial⟩ ?_
          refine W.seq ?_
          refine W.block ?_
          refine W.seq ?_
          refine W.region ?_
          refine T.q (q_ixVW (p := ints .u8 (sg r)) ar79 wd78 r rfl rfl rfl (by omega) (by omega) (by simp [ints_drop, ints_take, sg])) (Wt.plain rfl) rfl rfl ?_
          refine T.eff (e_alloc ze78 rfl rfl rfl) (Wt.plain rfl) ?_
          rintro _ _ ⟨k9, rfl, rfl⟩
          change (_ : List Blk → Prop) [_, _, _, _, _]
          refine T.eff (e_storeA (wide_ints wd78 (by first | omega | (simp; done) | (simp [-List.getD_eq_getElem?_getD]; omega) | (simp at *; omega) | rfl)) 4 rfl rfl rfl rfl (by first | omega | (simp; done) | (simp [-List.getD_eq_getElem?_getD]; omega) | (simp at *; omega) | rfl) ints_one rfl) (Wt.plain rfl) ?_
          rintro _ _ ⟨rfl, rfl⟩
          change (_ : List Blk → Prop) [_, _, _, _, _]
          refine T.nil ?_
          refine Ex.next ?_
          refine W.slots (L' := [(4, _), (8, _), (9, _), (10, _), (14, _), (90, _), (91, _)]) ⟨rfl, rfl, rfl, rfl, rfl, rfl, rfl, trivial⟩ ?_
          refine W.seq ?_
          refine W.region ?_
          refine T.q (q_loadW (wide_ints wd81 (by first | omega | (simp; done) | (simp [-List.getD_eq_getElem?_getD]; omega) | (simp at *; omega) | rfl)) (R_ext hg2.ext) rfl rfl) (Wt.plain rfl) rfl rfl ?_
          refine T.q (q_move rfl rfl) (Wt.plain rfl) rfl rfl ?_
          refine T.nil ?_
          refine Ex.next ?_
          refine W.slots (L' := [(4, _), (8, _), (9, _), (10, _), (14, _), (90, _), (91, _), (94, _), (95, _)]) ⟨rfl, rfl, rfl, rfl, rfl, rfl, rfl, rfl, rfl, trivial⟩ ?_
          refine W.block ?_
          refine W.loop (α := Nat) (fun j => [(4, .pointer (some ⟨k1, 0, none⟩)), (8, .pointer (some ⟨k2, 0, none⟩)), (9, .pointer (some ⟨k3, 0, none⟩)), (10, .pointer (some ⟨k4, 0, none⟩)), (14, .pointer (some ⟨k9, 0, none⟩)), (90, .agg (ints .u8 sgm).toArray), (91, .int .i64 ((r : Nat) : Int)), (94, .agg (ints .u8 tbl).toArray), (95, .int .i64 ((j : Nat) : Int))]) (fun j => [⟨some k1, ints .u32 h, 62, (0, 0)⟩, ⟨some k2, ints .u32 (List.replicate 8 0), 62, (0, 0)⟩, ⟨some k3, ints .u32 (msg bs), 77, (0, 0)⟩, ⟨some k4, ints .u32 (bdr (sg r) (msg bs) (brn (msg bs) vv r) j), 77, (0, 0)⟩, ⟨some k9, ints .u8 (sg r), 78, (0, 0)⟩]) (fun j => j ≤ 8) (fun j => 8 - j) [true, true, true, true, true] 0 (by omega) ⟨rfl, rfl, rfl, rfl, rfl, rfl, rfl, rfl, rfl, trivial⟩ rfl ?_
          rintro j hj
          refine W.seq ?_
          refine W.region ?_
          refine T.q (q_lss rfl rfl rfl) (Wt.plain rfl) rfl rfl ?_
          refine T.nil ?_
          refine Ex.next ?_
          refine W.slots (L' := [(4, _), (8, _), (9, _), (10, _), (14, _), (90, _), (91, _), (94, _), (95, _), (96, _)]) ⟨rfl, rfl, rfl, rfl, rfl, rfl, rfl, rfl, rfl, rfl, trivial⟩ ?_
          refine W.seq ?_
          refine W.cond _ rfl (fun hb10 => ?_) (fun hb10 => ?_)
          · replace hb10 := of_decide_eq_true hb10
            have hj8 : j < 8 := by omega
            have hpl := pl_length hj8
            have p0 := pl_ok hj8 (by decide : 0 < 4)
            have p1 := pl_ok hj8 (by decide : 1 < 4)
            have p2 := pl_ok hj8 (by decide : 2 < 4)
            have p3 := pl_ok hj8 (by decide : 3 < 4)
            have q0 := sg_ok hr10 (by omega : 2 * j < 16)
            have q1 := sg_ok hr10 (by omega : 2 * j + 1 < 16)
            refine W.skip ?_
            refine Ex.next ?_
            refine W.slots (L' := [(4, _), (8, _), (9, _), (10, _), (14, _), (90, _), (91, _), (94, _), (95, _)]) ⟨rfl, rfl, rfl, rfl, rfl, rfl, rfl, rfl, rfl, trivial⟩ ?_
            refine W.seq ?_
            refine W.block ?_
            refine W.seq ?_
            refine W.region ?_
            refine T.q (q_move rfl rfl) (Wt.plain rfl) rfl rfl ?_
            refine T.q (q_ixVW (p := ints .u8 (pl j)) ar81 wd80 j rfl rfl rfl (by omega) (by omega) (by simp [ints_drop, ints_take, pl])) (Wt.plain rfl) rfl rfl ?_
            refine T.eff (e_alloc ze80 rfl rfl rfl) (Wt.plain rfl) ?_
            rintro _ _ ⟨k11, rfl, rfl⟩
            change (_ : List Blk → Prop) [_, _, _, _, _, _]
            refine T.q (q_assign rfl rfl) (Wt.plain rfl) rfl rfl ?_
            refine T.eff (e_storeA (wide_ints wd80 (by first | omega | (simp; done) | (simp [-List.getD_eq_getElem?_getD]; omega) | (simp at *; omega) | rfl)) 5 rfl rfl rfl rfl (by first | omega | (simp; done) | (simp [-List.getD_eq_getElem?_getD]; omega) | (simp at *; omega) | rfl) ints_one rfl) (Wt.plain rfl) ?_
            rintro _ _ ⟨rfl, rfl⟩
            change (_ : List Blk → Prop) [_, _, _, _, _, _]
            refine T.nil ?_
            refine Ex.next ?_
            refine W.slots (L' := [(4, _), (8, _), (9, _), (10, _), (14, _), (15, _), (16, _), (90, _), (91, _), (94, _), (95, _)]) ⟨rfl, rfl, rfl, rfl, rfl, rfl, rfl, rfl, rfl, rfl, rfl, trivial⟩ ?_
            refine W.drawP 26 [true, true, true, false, true, true] (by kernel_rfl) ?_
            refine D.take 0 rfl (by kernel_rfl) (S_sub (((((((List.Sublist.slnil).cons_cons _).cons_cons _).cons _).cons_cons _).cons_cons _).cons_cons _)) (q_ixA0 ar80 0 rfl rfl rfl (rfl) (by decide)) (Wt.plain rfl) rfl rfl ?_
            refine D.take 1 rfl (by kernel_rfl) (S_sub (((((((List.Sublist.slnil).cons_cons _).cons_cons _).cons _).cons_cons _).cons_cons _).cons_cons _)) (q_loadI ss5 4 rfl rfl rfl (by first | omega | (simp; done) | (simp [-List.getD_eq_getElem?_getD]; omega))) (Wt.plain rfl) rfl rfl ?_
            refine D.take 2 rfl (by kernel_rfl) (S_sub (((((((List.Sublist.slnil).cons_cons _).cons_cons _).cons _).cons_cons _).cons_cons _).cons_cons _)) (q_ixA0 ar77 (((pl j).getD 0 0).toNat) rfl rfl rfl (by omega) (by omega)) (Wt.plain rfl) rfl rfl ?_
            refine D.take 3 rfl (by kernel_rfl) (S_sub (((((((List.Sublist.slnil).cons_cons _).cons_cons _).cons _).cons_cons _).cons_cons _).cons_cons _)) (q_ixA0 ar80 1 rfl rfl rfl (rfl) (by decide)) (Wt.plain rfl) rfl rfl ?_
            refine D.take 4 rfl (by kernel_rfl) (S_sub (((((((List.Sublist.slnil).cons_cons _).cons_cons _).cons _).cons_cons _).cons_cons _).cons_cons _)) (q_loadI ss5 4 rfl rfl rfl (by first | omega | (simp; done) | (simp [-List.getD_eq_getElem?_getD]; omega))) (Wt.plain rfl) rfl rfl ?_
            refine D.take 5 rfl (by kernel_rfl) (S_sub (((((((List.Sublist.slnil).cons_cons _).cons_cons _).cons _).cons_cons _).cons_cons _).cons_cons _)) (q_ixA0 ar77 (((pl j).getD 1 0).toNat) rfl rfl rfl (by omega) (by omega)) (Wt.plain rfl) rfl rfl ?_
            refine D.take 6 rfl (by kernel_rfl) (S_sub (((((((List.Sublist.slnil).cons_cons _).cons_cons _).cons _).cons_cons _).cons_cons _).cons_cons _)) (q_ixA0 ar80 2 rfl rfl rfl (rfl) (by decide)) (Wt.plain rfl) rfl rfl ?_
            refine D.take 7 rfl (by kernel_rfl) (S_sub (((((((List.Sublist.slnil).cons_cons _).cons_cons _).cons _).cons_cons _).cons_cons _).cons_cons _)) (q_loadI ss5 4 rfl rfl rfl (by first | omega | (simp; done) | (simp [-List.getD_eq_getElem?_getD]; omega))) (Wt.plain rfl) rfl rfl ?_
            refine D.take 8 rfl (by kernel_rfl) (S_sub (((((((List.Sublist.slnil).cons_cons _).cons_cons _).cons _).cons_cons _).cons_cons _).cons_cons _)) (q_ixA0 ar77 (((pl j).getD 2 0).toNat) rfl rfl rfl (by omega) (by omega)) (Wt.plain rfl) rfl rfl ?_
            refine D.take 9 rfl (by kernel_rfl) (S_sub (((((((List.Sublist.slnil).cons_cons _).cons_cons _).cons _).cons_cons _).cons_cons _).cons_cons _)) (q_ixA0 ar80 3 rfl rfl rfl (rfl) (by decide)) (Wt.plain rfl) rfl rfl ?_
            refine D.take 10 rfl (by kernel_rfl) (S_sub (((((((List.Sublist.slnil).cons_cons _).cons_cons _).cons _).cons_cons _).cons_cons _).cons_cons _)) (q_loadI ss5 4 rfl rfl rfl (by first | omega | (simp; done) | (simp [-List.getD_eq_getElem?_getD]; omega))) (Wt.plain rfl) rfl rfl ?_
            refine D.take 11 rfl (by kernel_rfl) (S_sub (((((((List.Sublist.slnil).cons_cons _).cons_cons _).cons _).cons_cons _).cons_cons _).cons_cons _)) (q_ixA0 ar77 (((pl j).getD 3 0).toNat) rfl rfl rfl (by omega) (by omega)) (Wt.plain rfl) rfl rfl ?_
            refine D.take 12 rfl (by kernel_rfl) (S_sub (((((((List.Sublist.slnil).cons_cons _).cons_cons _).cons _).cons_cons _).cons_cons _).cons_cons _)) (q_move rfl rfl) (Wt.plain rfl) rfl rfl ?_
            refine D.take 13 rfl (by kernel_rfl) (S_sub (((((((List.Sublist.slnil).cons_cons _).cons_cons _).cons _).cons_cons _).cons_cons _).cons_cons _)) (q_muli rfl rfl rfl (by omega) (by omega)) (Wt.plain rfl) rfl rfl ?_
            refine D.take 14 rfl (by kernel_rfl) (S_sub (((((((List.Sublist.slnil).cons_cons _).cons_cons _).cons _).cons_cons _).cons_cons _).cons_cons _)) (q_ixA0 ar78 (2 * j) rfl rfl rfl (by omega) (by omega)) (Wt.plain rfl) rfl rfl ?_
            refine D.take 15 rfl (by kernel_rfl) (S_sub (((((((List.Sublist.slnil).cons_cons _).cons_cons _).cons _).cons_cons _).cons_cons _).cons_cons _)) (q_loadI ss5 3 rfl rfl rfl (by first | omega | (simp; done) | (simp [-List.getD_eq_getElem?_getD]; omega))) (Wt.plain rfl) rfl rfl ?_
            refine D.take 16 rfl (by kernel_rfl) (S_sub (((((((List.Sublist.slnil).cons_cons _).cons_cons _).cons _).cons_cons _).cons_cons _).cons_cons _)) (q_ixA0 ar77 (((sg r).getD (2 * j) 0).toNat) rfl rfl rfl (by omega) (by omega)) (Wt.plain rfl) rfl rfl ?_
            refine D.take 17 rfl (by kernel_rfl) (S_sub (((((((List.Sublist.slnil).cons_cons _).cons_cons _).cons _).cons_cons _).cons_cons _).cons_cons _)) (q_loadI ss61 2 rfl rfl rfl (by first | omega | (simp; done) | (simp [-List.getD_eq_getElem?_getD]; omega))) (Wt.plain rfl) rfl rfl ?_
            refine D.take 18 rfl (by kernel_rfl) (S_sub (((((((List.Sublist.slnil).cons_cons _).cons_cons _).cons _).cons_cons _).cons_cons _).cons_cons _)) (q_move rfl rfl) (Wt.plain rfl) rfl rfl ?_
            refine D.take 19 rfl (by kernel_rfl) (S_sub (((((((List.Sublist.slnil).cons_cons _).cons_cons _).cons _).cons_cons _).cons_cons _).cons_cons _)) (q_muli rfl rfl rfl (by omega) (by omega)) (Wt.plain rfl) rfl rfl ?_
            refine D.take 20 rfl (by kernel_rfl) (S_sub (((((((List.Sublist.slnil).cons_cons _).cons_cons _).cons _).cons_cons _).cons_cons _).cons_cons _)) (q_addi rfl rfl rfl (by omega) (by omega)) (Wt.plain rfl) rfl rfl ?_
            refine D.take 21 rfl (by kernel_rfl) (S_sub (((((((List.Sublist.slnil).cons_cons _).cons_cons _).cons _).cons_cons _).cons_cons _).cons_cons _)) (q_ixA0 ar78 ((2 * j) + 1) rfl rfl rfl (by omega) (by omega)) (Wt.plain rfl) rfl rfl ?_
            refine D.take 22 rfl (by kernel_rfl) (S_sub (((((((List.Sublist.slnil).cons_cons _).cons_cons _).cons _).cons_cons _).cons_cons _).cons_cons _)) (q_loadI ss5 3 rfl rfl rfl (by first | omega | (simp; done) | (simp [-List.getD_eq_getElem?_getD]; omega))) (Wt.plain rfl) rfl rfl ?_
            refine D.take 23 rfl (by kernel_rfl) (S_sub (((((((List.Sublist.slnil).cons_cons _).cons_cons _).cons _).cons_cons _).cons_cons _).cons_cons _)) (q_ixA0 ar77 (((sg r).getD (2 * j + 1) 0).toNat) rfl rfl rfl (by omega) (by omega)) (Wt.plain rfl) rfl rfl ?_
            refine D.take 24 rfl (by kernel_rfl) (S_sub (((((((List.Sublist.slnil).cons_cons _).cons_cons _).cons _).cons_cons _).cons_cons _).cons_cons _)) (q_loadI ss61 2 rfl rfl rfl (by first | omega | (simp; done) | (simp [-List.getD_eq_getElem?_getD]; omega))) (Wt.plain rfl) rfl rfl ?_
            refine D.one 25 (by kernel_rfl) ?_
            refine Up.eff rfl (e_callB 3 enters56 rfl rfl rfl (fun w hm => mix_spec _ _ _ _ _ _ _ _ _ (by simp [hvl]) (by omega) (by omega) (by omega) (by omega) w (hm.at 3 rfl)) rfl rfl) (Wt.plain rfl) ?_
            rintro _ _ ⟨_, _, _, ⟨rfl, rfl, rfl⟩, rfl, rfl⟩
            refine ⟨fun _ => (S_sub (((((((List.Sublist.slnil).cons_cons _).cons_cons _).cons _).cons_cons _).cons_cons _).cons_cons _)), ?_⟩
            change (_ : List Blk → Prop) [_, _, _, _, _, _]
            refine D.done (by kernel_rfl) ?_
            refine Ex.in_normal ?_
            refine Ex.next ?_
            refine W.less (L' := [(4, _), (8, _), (9, _), (10, _), (14, _), (90, _), (91, _), (94, _), (95, _)]) [true, true, true, true, true, false] ⟨rfl, rfl, rfl, rfl, rfl, rfl, rfl, rfl, rfl, trivial⟩ ?_
            change (_ : List Blk → Prop) [_, _, _, _, _]
            refine W.region ?_
            refine T.q (q_addi rfl rfl rfl (by omega) (by omega)) (Wt.plain rfl) rfl rfl ?_
            refine T.q (q_move rfl rfl) (Wt.plain rfl) rfl rfl ?_
            refine T.nil ?_
            exact Ex.again [true, true, true, true, true] (j + 1) (by omega) (by omega) ⟨rfl, rfl, rfl, rfl, rfl, rfl, rfl, rfl, rfl, trivial⟩ rfl
          · replace hb10 := of_decide_eq_false hb10
            obtain rfl : j = 8 := by omega
            refine W.exit ?_
            refine Ex.then_exit ?_
            refine Ex.then_exit ?_
            refine Ex.in_here ?_
            refine Ex.in_normal ?_
            refine Ex.next ?_
            refine W.less (L' := [(4, _), (8, _), (9, _), (10, _), (90, _), (91, _)]) [true, true, true, true, false] ⟨rfl, rfl, rfl, rfl, rfl, rfl, trivial⟩ ?_
            change (_ : List Blk → Prop) [_, _, _, _]
            refine W.region ?_
            refine T.q (q_addi rfl rfl rfl (by omega) (by omega)) (Wt.plain rfl) rfl rfl ?_
            refine T.q (q_move rfl rfl) (Wt.plain rfl) rfl rfl ?_
            refine T.nil ?_
            exact Ex.again [true, true, true, true] (r + 1) (by omega) (by omega) ⟨rfl, rfl, rfl, rfl, rfl, rfl, trivial⟩ rfl
        · replace hb8 := of_decide_eq_false hb8
          obtain rfl : r = 10 := by omega
          refine W.exit ?_
          refine Ex.then_exit ?_
          refine Ex.then_exit ?_
          refine Ex.in_here ?_
          refine Ex.next ?_
          refine W.less (L' := [(4, _), (8, _), (10, _)]) [true, true, false, true] ⟨rfl, rfl, rfl, trivial⟩ ?_
          change (_ : List Blk → Prop) [_, _, _]
          refine W.seq ?_
          refine W.seq ?_
          refine W.region ?_
          refine T.q (q_move rfl rfl) (Wt.plain rfl) rfl rfl ?_
          refine T.nil ?_
          refine Ex.next ?_
          refine W.slots (L' := [(4, _), (8, _), (10, _), (127, _)]) ⟨rfl, rfl, rfl, rfl, trivial⟩ ?_
          refine W.block ?_
          refine W.loop (α := Nat) (fun i => [(4, .pointer (some ⟨k1, 0, none⟩)), (8, .pointer (some ⟨k2, 0, none⟩)), (10, .pointer (some ⟨k4, 0, none⟩)), (127, .int .i64 ((i : Nat) : Int))]) (fun i => [⟨some k1, ints .u32 (hfold (brn (msg bs) vv 10) i h), 62, (0, 0)⟩, ⟨some k2, ints .u32 (List.replicate 8 0), 62, (0, 0)⟩, ⟨some k4, ints .u32 (brn (msg bs) vv 10), 77, (0, 0)⟩]) (fun i => i ≤ 8) (fun i => 8 - i) [true, true, true] 0 (by omega) ⟨rfl, rfl, rfl, rfl, trivial⟩ rfl ?_
          rintro i hi
          refine W.seq ?_
          refine W.region ?_
          refine T.q (q_lss rfl rfl rfl) (Wt.plain rfl) rfl rfl ?_
          refine T.nil ?_
          refine Ex.next ?_
          refine W.slots (L' := [(4, _), (8, _), (10, _), (127, _), (128, _)]) ⟨rfl, rfl, rfl, rfl, rfl, trivial⟩ ?_
          refine W.seq ?_
          refine W.cond _ rfl (fun hb12 => ?_) (fun hb12 => ?_)
          · replace hb12 := of_decide_eq_true hb12
            refine W.skip ?_
            refine Ex.next ?_
            refine W.slots (L' := [(4, _), (8, _), (10, _), (127, _)]) ⟨rfl, rfl, rfl, rfl, trivial⟩ ?_
            refine W.seq ?_
            refine W.block ?_
            refine W.seq ?_
            refine W.region ?_
            refine T.q (q_move rfl rfl) (Wt.plain rfl) rfl rfl ?_
            refine T.q (q_assign rfl rfl) (Wt.plain rfl) rfl rfl ?_
            refine T.nil ?_
            refine Ex.next ?_
            refine W.slots (L' := [(4, _), (8, _), (10, _), (17, _), (127, _)]) ⟨rfl, rfl, rfl, rfl, rfl, trivial⟩ ?_
            refine W.draw 12 (by kernel_rfl) ?_
            refine D.take 0 rfl (by kernel_rfl) (fun _ h => h) (q_move rfl rfl) (Wt.plain rfl) rfl rfl ?_
            refine D.take 1 rfl (by kernel_rfl) (fun _ h => h) (q_ixA0 ar62 i rfl rfl rfl (by omega) (by omega)) (Wt.plain rfl) rfl rfl ?_
            refine D.take 2 rfl (by kernel_rfl) (fun _ h => h) (q_loadI ss61 0 rfl rfl rfl (by first | omega | (simp; done) | (simp [-List.getD_eq_getElem?_getD]; omega))) (Wt.plain rfl) rfl rfl ?_
            refine D.take 3 rfl (by kernel_rfl) (fun _ h => h) (q_move rfl rfl) (Wt.plain rfl) rfl rfl ?_
            refine D.take 4 rfl (by kernel_rfl) (fun _ h => h) (q_ixA0 ar77 i rfl rfl rfl (by omega) (by omega)) (Wt.plain rfl) rfl rfl ?_
            refine D.take 5 rfl (by kernel_rfl) (fun _ h => h) (q_loadI ss61 2 rfl rfl rfl (by first | omega | (simp; done) | (simp [-List.getD_eq_getElem?_getD]; omega))) (Wt.plain rfl) rfl rfl ?_
            refine D.take 6 rfl (by kernel_rfl) (fun _ h => h) (q_move rfl rfl) (Wt.plain rfl) rfl rfl ?_
            refine D.take 7 rfl (by kernel_rfl) (fun _ h => h) (q_addi rfl rfl rfl (by omega) (by omega)) (Wt.plain rfl) rfl rfl ?_
            refine D.take 8 rfl (by kernel_rfl) (fun _ h => h) (q_ixA0 ar77 (8 + i) rfl rfl rfl (by omega) (by omega)) (Wt.plain rfl) rfl rfl ?_
            refine D.take 9 rfl (by kernel_rfl) (fun _ h => h) (q_loadI ss61 2 rfl rfl rfl (by first | omega | (simp; done) | (simp [-List.getD_eq_getElem?_getD]; omega))) (Wt.plain rfl) rfl rfl ?_
            refine D.take 10 rfl (by kernel_rfl) (fun _ h => h) (q_xor rfl rfl rfl) (Wt.plain rfl) rfl rfl ?_
            refine D.take 11 rfl (by kernel_rfl) (fun _ h => h) (q_xor rfl rfl rfl) (Wt.plain rfl) rfl rfl ?_
            refine D.one 12 (by kernel_rfl) ?_
            refine Up.q rfl (q_ixA0 ar62 i rfl rfl rfl (by omega) (by omega)) (Wt.plain rfl) rfl rfl (fun h => absurd h (by decide)) ?_
            refine D.one 13 (by kernel_rfl) ?_
            refine Up.eff rfl (e_storeI ss61 0 rfl rfl rfl rfl (by first | omega | (simp; done) | (simp [-List.getD_eq_getElem?_getD]; omega)) rfl) (Wt.plain rfl) ?_
            rintro _ _ ⟨rfl, rfl⟩
            refine ⟨fun h => absurd h (by decide), ?_⟩
            change (_ : List Blk → Prop) [_, _, _]
            refine D.done (by kernel_rfl) ?_
            refine Ex.in_normal ?_
            refine Ex.next ?_
            refine W.slots (L' := [(4, _), (8, _), (10, _), (127, _)]) ⟨rfl, rfl, rfl, rfl, trivial⟩ ?_
            refine W.region ?_
            refine T.q (q_addi rfl rfl rfl (by omega) (by omega)) (Wt.plain rfl) rfl rfl ?_
            refine T.q (q_move rfl rfl) (Wt.plain rfl) rfl rfl ?_
            refine T.nil ?_
            exact Ex.again [true, true, true] (i + 1) (by omega) (by omega) ⟨rfl, rfl, rfl, rfl, trivial⟩ rfl
          · replace hb12 := of_decide_eq_false hb12
            obtain rfl : i = 8 := by omega
            refine W.exit ?_
            refine Ex.then_exit ?_
            refine Ex.then_exit ?_
            refine Ex.in_here ?_
            refine Ex.next ?_
            refine W.less (L' := [(4, _), (8, _)]) [true, true, false] ⟨rfl, rfl, trivial⟩ ?_
            change (_ : List Blk → Prop) [_, _]
            refine W.seq ?_
            refine W.region ?_
            refine T.q (q_loadW (wide_ints wd62 (by first | omega | (simp; done) | (simp [-List.getD_eq_getElem?_getD]; omega) | (simp at *; omega) | rfl)) (R_blk 0 rfl) rfl rfl) (Wt.plain rfl) rfl rfl ?_
            refine T.eff (e_storeA (wide_ints wd62 (by first | omega | (simp; done) | (simp [-List.getD_eq_getElem?_getD]; omega) | (simp at *; omega) | rfl)) 1 rfl rfl rfl rfl (by first | omega | (simp; done) | (simp [-List.getD_eq_getElem?_getD]; omega) | (simp at *; omega) | rfl) ints_one rfl) (Wt.plain rfl) ?_
            rintro _ _ ⟨rfl, rfl⟩
            change (_ : List Blk → Prop) [_, _]
            refine T.nil ?_
            refine Ex.next ?_
            refine W.less (L' := [(8, _)]) [false, true] ⟨rfl, trivial⟩ ?_
            change (_ : List Blk → Prop) [_]
            refine W.ret ?_
            refine Ex.outC [false] 0 rfl (by exact (wide_ints wd62 (by first | omega | (simp; done) | (simp [-List.getD_eq_getElem?_getD]; omega) | (simp at *; omega) | rfl))) rfl rfl ?_
            exact ⟨by rw [pressS, ← hvv], rfl⟩

end Go.Proofs.YtkoomaoelekpaaaDoor
