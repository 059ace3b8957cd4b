/-
  The walks of layer 6: a piece is pressed, by the reference.
-/
import Derived.Test.YtkoomaoelekpaaaDoorW1
namespace Go.Proofs.YtkoomaoelekpaaaDoor
open Go Go.X

set_option maxRecDepth 100000 in
theorem start_spec (w0 : World) : Does Tryd.prog 50 #[] w0 [] (fun v G => ∃ k, v = .slice (some ⟨k, 0, none⟩) 8 8 ∧ G = [⟨some k, ints .u32 startW, 61, (0, 0)⟩]) := by
  refine spec_of 2 Tryd.func50 rfl rfl rfl ?_
  refine W.seq ?_
  refine W.region ?_
  refine T.q (q_assign rfl rfl) (Wt.plain rfl) rfl rfl ?_
  refine T.nil ?_
  refine Ex.next ?_
  refine W.slots (L' := []) trivial ?_
  refine W.seq ?_
  refine W.region ?_
  refine T.eff (e_litA sc67 ze61 rfl rfl rfl (by simp [Value.cells]) rfl rfl rfl) (Wt.plain rfl) ?_
  rintro _ _ ⟨k1, rfl, rfl⟩
  change (_ : List Blk → Prop) [_]
  refine T.q (q_assign rfl rfl) (Wt.plain rfl) rfl rfl ?_
  refine T.nil ?_
  refine Ex.next ?_
  refine W.slots (L' := [(0, _)]) ⟨rfl, trivial⟩ ?_
  refine W.ret ?_
  refine Ex.out1 [true] rfl rfl ?_
  exact ⟨_, rfl, rfl⟩
set_option maxRecDepth 100000 in
set_option maxHeartbeats 1000000 in
theorem rows_spec (w0 : World) : Does Tryd.prog 57 #[] w0 [] (fun v G => ∃ n0 n1 n2 n3 n4 n5 n6 n7 n8 n9 k : Nat, v = .slice (some ⟨k, 0, none⟩) 10 10 ∧ G = [⟨some n0, ints .i64 (sg 0), 3, (0, 0)⟩, ⟨some n1, ints .i64 (sg 1), 3, (0, 0)⟩, ⟨some n2, ints .i64 (sg 2), 3, (0, 0)⟩, ⟨some n3, ints .i64 (sg 3), 3, (0, 0)⟩, ⟨some n4, ints .i64 (sg 4), 3, (0, 0)⟩, ⟨some n5, ints .i64 (sg 5), 3, (0, 0)⟩, ⟨some n6, ints .i64 (sg 6), 3, (0, 0)⟩, ⟨some n7, ints .i64 (sg 7), 3, (0, 0)⟩, ⟨some n8, ints .i64 (sg 8), 3, (0, 0)⟩, ⟨some n9, ints .i64 (sg 9), 3, (0, 0)⟩, ⟨some k, [n0, n1, n2, n3, n4, n5, n6, n7, n8, n9].map (fun q => Value.slice (some ⟨q, 0, none⟩) 16 16), 57, (0, 0)⟩]) := by
  refine spec_of 12 Tryd.func57 rfl rfl rfl ?_
  refine W.seq ?_
  refine W.region ?_
  refine T.q (q_assign rfl rfl) (Wt.plain rfl) rfl rfl ?_
  refine T.nil ?_
  refine Ex.next ?_
  refine W.slots (L' := []) trivial ?_
  refine W.seq ?_
  refine W.region ?_
  refine T.eff (e_litA sc57 ze3 rfl rfl rfl (by simp [Value.cells]) rfl rfl rfl) (Wt.plain rfl) ?_
  rintro _ _ ⟨k1, rfl, rfl⟩
  change (_ : List Blk → Prop) [_]
  refine T.eff (e_litA sc57 ze3 rfl rfl rfl (by simp [Value.cells]) rfl rfl rfl) (Wt.plain rfl) ?_
  rintro _ _ ⟨k2, rfl, rfl⟩
  change (_ : List Blk → Prop) [_, _]
  refine T.eff (e_litA sc57 ze3 rfl rfl rfl (by simp [Value.cells]) rfl rfl rfl) (Wt.plain rfl) ?_
  rintro _ _ ⟨k3, rfl, rfl⟩
  change (_ : List Blk → Prop) [_, _, _]
  refine T.eff (e_litA sc57 ze3 rfl rfl rfl (by simp [Value.cells]) rfl rfl rfl) (Wt.plain rfl) ?_
  rintro _ _ ⟨k4, rfl, rfl⟩
  change (_ : List Blk → Prop) [_, _, _, _]
  refine T.eff (e_litA sc57 ze3 rfl rfl rfl (by simp [Value.cells]) rfl rfl rfl) (Wt.plain rfl) ?_
  rintro _ _ ⟨k5, rfl, rfl⟩
  change (_ : List Blk → Prop) [_, _, _, _, _]
  refine T.eff (e_litA sc57 ze3 rfl rfl rfl (by simp [Value.cells]) rfl rfl rfl) (Wt.plain rfl) ?_
  rintro _ _ ⟨k6, rfl, rfl⟩
  change (_ : List Blk → Prop) [_, _, _, _, _, _]
  refine T.eff (e_litA sc57 ze3 rfl rfl rfl (by simp [Value.cells]) rfl rfl rfl) (Wt.plain rfl) ?_
  rintro _ _ ⟨k7, rfl, rfl⟩
  change (_ : List Blk → Prop) [_, _, _, _, _, _, _]
  refine T.eff (e_litA sc57 ze3 rfl rfl rfl (by simp [Value.cells]) rfl rfl rfl) (Wt.plain rfl) ?_
  rintro _ _ ⟨k8, rfl, rfl⟩
  change (_ : List Blk → Prop) [_, _, _, _, _, _, _, _]
  refine T.eff (e_litA sc57 ze3 rfl rfl rfl (by simp [Value.cells]) rfl rfl rfl) (Wt.plain rfl) ?_
  rintro _ _ ⟨k9, rfl, rfl⟩
  change (_ : List Blk → Prop) [_, _, _, _, _, _, _, _, _]
  refine T.eff (e_litA sc57 ze3 rfl rfl rfl (by simp [Value.cells]) rfl rfl rfl) (Wt.plain rfl) ?_
  rintro _ _ ⟨k10, rfl, rfl⟩
  change (_ : List Blk → Prop) [_, _, _, _, _, _, _, _, _, _]
  refine T.eff (e_litA sc84 ze57 rfl rfl rfl (by simp [Value.cells]) rfl rfl rfl) (Wt.plain rfl) ?_
  rintro _ _ ⟨k11, rfl, rfl⟩
  change (_ : List Blk → Prop) [_, _, _, _, _, _, _, _, _, _, _]
  refine T.q (q_assign rfl rfl) (Wt.plain rfl) rfl rfl ?_
  refine T.nil ?_
  refine Ex.next ?_
  refine W.slots (L' := [(0, _)]) ⟨rfl, trivial⟩ ?_
  refine W.ret ?_
  refine Ex.out1 [true, true, true, true, true, true, true, true, true, true, true] rfl rfl ?_
  exact ⟨_, _, _, _, _, _, _, _, _, _, _, rfl, rfl⟩
set_option maxRecDepth 100000 in
set_option maxHeartbeats 2000000 in
theorem refpress_spec (h bs : List Int) (t : Int) (last : Bool) (A : Option Addr) (n c : Nat) (A1 : Option Addr) (c1 : Nat) (hl8 : h.length = 8) (hb : 64 ≤ bs.length) (hn : 64 ≤ n) (ht0 : 0 ≤ t) (ht1 : t < 18446744073709551616) (w0 : World) (hR1 : Reads w0 A1 (ints .u32 h)) (hR : Reads w0 A (ints .u8 bs)) : Does Tryd.prog 51 #[.slice A1 8 c1, .slice A n c, .int .u64 t, .bool last] w0 [] (fun v G => ∃ (k cap : Nat) (junk : List Value), v = .slice (some ⟨k, 0, none⟩) 8 cap ∧ 8 + junk.length = cap ∧ G = [⟨some k, ints .u32 (pressS h bs t last) ++ junk, 61, (0, 0)⟩]) := by
  refine spec_of 186 Tryd.func51 rfl rfl rfl ?_
  refine W.seq ?_
  refine W.region ?_
  refine T.q (q_assign rfl rfl) (Wt.plain rfl) rfl rfl ?_
  refine T.nil ?_
  refine Ex.next ?_
  refine W.slots (L' := [(0, _), (1, _), (2, _), (3, _)]) ⟨rfl, rfl, rfl, rfl, trivial⟩ ?_
  refine W.seq ?_
  refine W.region ?_
  refine T.eff (e_litA sc67 ze61 rfl rfl rfl (by simp [Value.cells]) rfl rfl rfl) (Wt.plain rfl) ?_
  rintro _ _ ⟨k1, rfl, rfl⟩
  change (_ : List Blk → Prop) [_]
  refine T.q (q_assign rfl rfl) (Wt.plain rfl) rfl rfl ?_
  refine T.nil ?_
  refine Ex.next ?_
  refine W.slots (L' := [(0, _), (1, _), (2, _), (3, _), (9, _)]) ⟨rfl, rfl, rfl, rfl, rfl, trivial⟩ ?_
  refine W.seq ?_
  refine W.seq ?_
  refine W.region ?_
  refine T.q (q_assign rfl rfl) (Wt.plain rfl) rfl rfl ?_
  refine T.nil ?_
  refine Ex.next ?_
  refine W.slots (L' := [(0, _), (1, _), (2, _), (3, _), (9, _), (10, _)]) ⟨rfl, rfl, rfl, rfl, rfl, rfl, trivial⟩ ?_
  refine W.block ?_
  refine W.loop (α := Nat × Nat × Nat × List Value) (fun x_ => [(0, .slice A1 8 c1), (1, .slice A n c), (2, .int .u64 t), (3, .bool last), (9, .slice (some ⟨x_.2.1, 0, none⟩) x_.1 x_.2.2.1), (10, .int .i64 (((4 * x_.1) : Nat) : Int))]) (fun x_ => [⟨some x_.2.1, ints .u32 (gather (fun q => wordAt bs (4 * q)) x_.1 []) ++ x_.2.2.2, 61, (0, 0)⟩]) (fun x_ => x_.1 ≤ 16 ∧ x_.1 + x_.2.2.2.length = x_.2.2.1) (fun x_ => 16 - x_.1) [true] (⟨0, k1, 0, []⟩) (by simp) ⟨rfl, rfl, rfl, rfl, rfl, rfl, trivial⟩ rfl ?_
  rintro ⟨i, kk, cp, jj⟩ ⟨hi, hj⟩
  conv => rhs; dsimp only
  conv => arg -2; dsimp only
  dsimp only at hi hj
  refine W.seq ?_
  refine W.seq ?_
  refine W.region ?_
  refine T.q (q_move rfl rfl) (Wt.plain rfl) rfl rfl ?_
  refine T.q (q_lss rfl rfl rfl) (Wt.plain rfl) rfl rfl ?_
  refine T.nil ?_
  refine Ex.next ?_
  refine W.slots (L' := [(0, _), (1, _), (2, _), (3, _), (9, _), (10, _), (21, _)]) ⟨rfl, rfl, rfl, rfl, rfl, rfl, rfl, trivial⟩ ?_
  refine W.cond _ rfl (fun hb2 => ?_) (fun hb2 => ?_)
  · replace hb2 := of_decide_eq_true hb2
    refine W.skip ?_
    refine Ex.next ?_
    refine W.slots (L' := [(0, _), (1, _), (2, _), (3, _), (9, _), (10, _)]) ⟨rfl, rfl, rfl, rfl, rfl, rfl, trivial⟩ ?_
    refine W.seq ?_
    refine W.block ?_
    refine W.drawP 32 [false] (by kernel_rfl) ?_
    refine D.take 0 rfl (by kernel_rfl) (S_sub ((List.Sublist.slnil).cons _)) (q_move rfl rfl) (Wt.plain rfl) rfl rfl ?_
    refine D.take 1 rfl (by kernel_rfl) (S_sub ((List.Sublist.slnil).cons _)) (q_move rfl rfl) (Wt.plain rfl) rfl rfl ?_
    refine D.take 2 rfl (by kernel_rfl) (S_sub ((List.Sublist.slnil).cons _)) (q_move rfl rfl) (Wt.plain rfl) rfl rfl ?_
    refine D.take 3 rfl (by kernel_rfl) (S_sub ((List.Sublist.slnil).cons _)) (q_ixE1 sc22 (4 * i) (R_ext hR.ext) rfl rfl rfl (by omega) (by omega) (by first | omega | (simp; done) | (simp [-List.getD_eq_getElem?_getD]; omega))) (Wt.plain rfl) rfl rfl ?_
    refine D.take 4 rfl (by kernel_rfl) (S_sub ((List.Sublist.slnil).cons _)) (q_loadE ss5 (R_ext hR.ext) rfl rfl (ints_get (by first | omega | (simp; done) | (simp [-List.getD_eq_getElem?_getD]; omega)))) (Wt.plain rfl) rfl rfl ?_
    refine D.take 5 rfl (by kernel_rfl) (S_sub ((List.Sublist.slnil).cons _)) (q_conv un5 un61 rfl rfl) (Wt.plain rfl) rfl rfl ?_
    refine D.take 6 rfl (by kernel_rfl) (S_sub ((List.Sublist.slnil).cons _)) (q_move rfl rfl) (Wt.plain rfl) rfl rfl ?_
    refine D.take 7 rfl (by kernel_rfl) (S_sub ((List.Sublist.slnil).cons _)) (q_move rfl rfl) (Wt.plain rfl) rfl rfl ?_
    refine D.take 8 rfl (by kernel_rfl) (S_sub ((List.Sublist.slnil).cons _)) (q_addi rfl rfl rfl (by omega) (by omega)) (Wt.plain rfl) rfl rfl ?_
    refine D.take 9 rfl (by kernel_rfl) (S_sub ((List.Sublist.slnil).cons _)) (q_ixE1 sc22 ((4 * i) + 1) (R_ext hR.ext) rfl rfl rfl (by omega) (by omega) (by first | omega | (simp; done) | (simp [-List.getD_eq_getElem?_getD]; omega))) (Wt.plain rfl) rfl rfl ?_
    refine D.take 10 rfl (by kernel_rfl) (S_sub ((List.Sublist.slnil).cons _)) (q_loadE ss5 (R_ext hR.ext) rfl rfl (ints_get (by first | omega | (simp; done) | (simp [-List.getD_eq_getElem?_getD]; omega)))) (Wt.plain rfl) rfl rfl ?_
    refine D.take 11 rfl (by kernel_rfl) (S_sub ((List.Sublist.slnil).cons _)) (q_conv un5 un61 rfl rfl) (Wt.plain rfl) rfl rfl ?_
    refine D.take 12 rfl (by kernel_rfl) (S_sub ((List.Sublist.slnil).cons _)) (q_shl rfl rfl rfl (by decide)) (Wt.plain rfl) rfl rfl ?_
    refine D.take 13 rfl (by kernel_rfl) (S_sub ((List.Sublist.slnil).cons _)) (q_or rfl rfl rfl) (Wt.plain rfl) rfl rfl ?_
    refine D.take 14 rfl (by kernel_rfl) (S_sub ((List.Sublist.slnil).cons _)) (q_move rfl rfl) (Wt.plain rfl) rfl rfl ?_
    refine D.take 15 rfl (by kernel_rfl) (S_sub ((List.Sublist.slnil).cons _)) (q_move rfl rfl) (Wt.plain rfl) rfl rfl ?_
    refine D.take 16 rfl (by kernel_rfl) (S_sub ((List.Sublist.slnil).cons _)) (q_addi rfl rfl rfl (by omega) (by omega)) (Wt.plain rfl) rfl rfl ?_
    refine D.take 17 rfl (by kernel_rfl) (S_sub ((List.Sublist.slnil).cons _)) (q_ixE1 sc22 ((4 * i) + 2) (R_ext hR.ext) rfl rfl rfl (by omega) (by omega) (by first | omega | (simp; done) | (simp [-List.getD_eq_getElem?_getD]; omega))) (Wt.plain rfl) rfl rfl ?_
    refine D.take 18 rfl (by kernel_rfl) (S_sub ((List.Sublist.slnil).cons _)) (q_loadE ss5 (R_ext hR.ext) rfl rfl (ints_get (by first | omega | (simp; done) | (simp [-List.getD_eq_getElem?_getD]; omega)))) (Wt.plain rfl) rfl rfl ?_
    refine D.take 19 rfl (by kernel_rfl) (S_sub ((List.Sublist.slnil).cons _)) (q_conv un5 un61 rfl rfl) (Wt.plain rfl) rfl rfl ?_
    refine D.take 20 rfl (by kernel_rfl) (S_sub ((List.Sublist.slnil).cons _)) (q_shl rfl rfl rfl (by decide)) (Wt.plain rfl) rfl rfl ?_
    refine D.take 21 rfl (by kernel_rfl) (S_sub ((List.Sublist.slnil).cons _)) (q_or rfl rfl rfl) (Wt.plain rfl) rfl rfl ?_
    refine D.take 22 rfl (by kernel_rfl) (S_sub ((List.Sublist.slnil).cons _)) (q_move rfl rfl) (Wt.plain rfl) rfl rfl ?_
    refine D.take 23 rfl (by kernel_rfl) (S_sub ((List.Sublist.slnil).cons _)) (q_move rfl rfl) (Wt.plain rfl) rfl rfl ?_
    refine D.take 24 rfl (by kernel_rfl) (S_sub ((List.Sublist.slnil).cons _)) (q_addi rfl rfl rfl (by omega) (by omega)) (Wt.plain rfl) rfl rfl ?_
    refine D.take 25 rfl (by kernel_rfl) (S_sub ((List.Sublist.slnil).cons _)) (q_ixE1 sc22 ((4 * i) + 3) (R_ext hR.ext) rfl rfl rfl (by omega) (by omega) (by first | omega | (simp; done) | (simp [-List.getD_eq_getElem?_getD]; omega))) (Wt.plain rfl) rfl rfl ?_
    refine D.take 26 rfl (by kernel_rfl) (S_sub ((List.Sublist.slnil).cons _)) (q_loadE ss5 (R_ext hR.ext) rfl rfl (ints_get (by first | omega | (simp; done) | (simp [-List.getD_eq_getElem?_getD]; omega)))) (Wt.plain rfl) rfl rfl ?_
    refine D.take 27 rfl (by kernel_rfl) (S_sub ((List.Sublist.slnil).cons _)) (q_conv un5 un61 rfl rfl) (Wt.plain rfl) rfl rfl ?_
    refine D.take 28 rfl (by kernel_rfl) (S_sub ((List.Sublist.slnil).cons _)) (q_shl rfl rfl rfl (by decide)) (Wt.plain rfl) rfl rfl ?_
    refine D.take 29 rfl (by kernel_rfl) (S_sub ((List.Sublist.slnil).cons _)) (q_or rfl rfl rfl) (Wt.plain rfl) rfl rfl ?_
    refine D.one 30 (by kernel_rfl) ?_
    refine Up.eff rfl (e_litA sc67 ze61 rfl rfl rfl (by simp [Value.cells]) rfl rfl rfl) (Wt.plain rfl) ?_
    rintro _ _ ⟨k3, rfl, rfl⟩
    refine ⟨fun _ => (S_sub (((List.Sublist.slnil).cons _).cons _)), ?_⟩
    change (_ : List Blk → Prop) [_, _]
    refine D.one 31 (by kernel_rfl) ?_
    refine Up.eff rfl (e_appendI sc67 ze61 rfl 0 .u32 (gather (fun q => wordAt bs (4 * q)) i []) [bits .or .u32 (bits .or .u32 (bits .or .u32 (IntKind.u32.wrap ((bs).getD (4 * i) 0)) (shl .u32 (IntKind.u32.wrap ((bs).getD ((4 * i) + 1) 0)) 8)) (shl .u32 (IntKind.u32.wrap ((bs).getD ((4 * i) + 2) 0)) 16)) (shl .u32 (IntKind.u32.wrap ((bs).getD ((4 * i) + 3) 0)) 24)] jj (rfl) (R_blk 1 rfl) rfl rfl rfl rfl (by first | omega | (simp; done) | (simp [-List.getD_eq_getElem?_getD]; omega) | (simp at *; omega) | rfl) (by first | omega | (simp; done) | (simp [-List.getD_eq_getElem?_getD]; omega) | (simp at *; omega) | rfl) (by first | omega | (simp; done) | (simp [-List.getD_eq_getElem?_getD]; omega) | (simp at *; omega) | rfl) (by first | omega | (simp; done) | (simp [-List.getD_eq_getElem?_getD]; omega)) (by first | omega | (simp; done) | (simp [-List.getD_eq_getElem?_getD]; omega)) rfl rfl) (Wt.plain rfl) ?_
    rintro _ _ ⟨k4, cap5, junk6, hc7, rfl, rfl⟩
    refine ⟨fun _ => (S_sub (((List.Sublist.slnil).cons _).cons _)), ?_⟩
    change (_ : List Blk → Prop) [_, _]
    refine D.one 32 (by kernel_rfl) ?_
    refine Up.q rfl (q_assign rfl rfl) (Wt.plain rfl) rfl rfl (fun h => absurd h (by decide)) ?_
    refine D.done (by kernel_rfl) ?_
    refine Ex.in_normal ?_
    refine Ex.next ?_
    refine W.less (L' := [(0, _), (1, _), (2, _), (3, _), (9, _), (10, _)]) [true, false] ⟨rfl, rfl, rfl, rfl, rfl, rfl, trivial⟩ ?_
    change (_ : List Blk → Prop) [_]
    refine W.region ?_
    refine T.q (q_move rfl rfl) (Wt.plain rfl) rfl rfl ?_
    refine T.q (q_addi rfl rfl rfl (by omega) (by omega)) (Wt.plain rfl) rfl rfl ?_
    refine T.q (q_assign rfl rfl) (Wt.plain rfl) rfl rfl ?_
    refine T.nil ?_
    exact Ex.again [true] (⟨i + 1, k4, cap5, junk6⟩ : Nat × Nat × Nat × List Value) (by dsimp only; omega) (by dsimp only; simp at *; omega) ⟨rfl, rfl, rfl, rfl, rfl, rfl, trivial⟩ (by first | (dsimp only [pick]; done) | rfl)
  · replace hb2 := of_decide_eq_false hb2
    obtain rfl : i = 16 := by omega
    change (_ : List Blk → Prop) [⟨some kk, ints .u32 (msg bs) ++ jj, 61, (0, 0)⟩]
    refine W.exit ?_
    refine Ex.then_exit ?_
    refine Ex.then_exit ?_
    refine Ex.in_here ?_
    refine Ex.next ?_
    refine W.slots (L' := [(0, _), (2, _), (3, _), (9, _)]) ⟨rfl, rfl, rfl, rfl, trivial⟩ ?_
    refine W.seq ?_
    refine W.region ?_
    refine T.eff (e_litA sc67 ze61 rfl rfl rfl (by simp [Value.cells]) rfl rfl rfl) (Wt.plain rfl) ?_
    rintro _ _ ⟨k8, rfl, rfl⟩
    change (_ : List Blk → Prop) [_, _]
    refine T.q (q_move rfl rfl) (Wt.plain rfl) rfl rfl ?_
    refine T.eff (e_appendI sc67 ze61 rfl 1 .u32 [] h [] ((List.append_nil _).symm) (R_ext hR1.ext) rfl rfl rfl rfl (by first | omega | (simp; done) | (simp [-List.getD_eq_getElem?_getD]; omega) | (simp at *; omega) | rfl) (by first | omega | (simp; done) | (simp [-List.getD_eq_getElem?_getD]; omega) | (simp at *; omega) | rfl) (by first | omega | (simp; done) | (simp [-List.getD_eq_getElem?_getD]; omega) | (simp at *; omega) | rfl) (by first | omega | (simp; done) | (simp [-List.getD_eq_getElem?_getD]; omega)) (by first | omega | (simp; done) | (simp [-List.getD_eq_getElem?_getD]; omega)) rfl rfl) (Wt.plain rfl) ?_
    rintro _ _ ⟨k9, cap10, junk11, hc12, rfl, rfl⟩
    change (_ : List Blk → Prop) [_, _]
    refine T.eff (e_call enters50 rfl rfl (fun w hm => start_spec w) rfl rfl) (Wt.plain rfl) ?_
    rintro _ _ ⟨_, _, ⟨k13, rfl, rfl⟩, rfl, rfl⟩
    change (_ : List Blk → Prop) [_, _, _]
    refine T.eff (e_appendI sc67 ze61 rfl 1 .u32 ([] ++ h) startW junk11 (rfl) (R_blk 2 rfl) rfl rfl rfl rfl (by first | omega | (simp; done) | (simp [-List.getD_eq_getElem?_getD]; omega) | (simp at *; omega) | rfl) (by first | omega | (simp; done) | (simp [-List.getD_eq_getElem?_getD]; omega) | (simp at *; omega) | rfl) (by first | omega | (simp; done) | (simp [-List.getD_eq_getElem?_getD]; omega) | (simp at *; omega) | rfl) (by first | omega | (simp; done) | (simp [-List.getD_eq_getElem?_getD]; omega)) (by first | omega | (simp; done) | (simp [-List.getD_eq_getElem?_getD]; omega)) rfl rfl) (Wt.plain rfl) ?_
    rintro _ _ ⟨k14, cap15, junk16, hc17, rfl, rfl⟩
    change (_ : List Blk → Prop) [_, _, _]
    refine T.q (q_assign rfl rfl) (Wt.plain rfl) rfl rfl ?_
    refine T.nil ?_
    refine Ex.next ?_
    refine W.less (L' := [(0, _), (2, _), (3, _), (9, _), (11, _)]) [true, true, false] ⟨rfl, rfl, rfl, rfl, rfl, trivial⟩ ?_
    change (_ : List Blk → Prop) [_, _]
    refine W.seq ?_
    refine W.region ?_
    refine T.q (q_move rfl rfl) (Wt.plain rfl) rfl rfl ?_
    refine T.q (q_move rfl rfl) (Wt.plain rfl) rfl rfl ?_
    refine T.q (q_ixS0 sc67 12 rfl rfl rfl (rfl) (by omega)) (Wt.plain rfl) rfl rfl ?_
    refine T.q (q_loadIJ ss61 1 rfl rfl rfl (by first | omega | (simp; done) | (simp [-List.getD_eq_getElem?_getD]; omega))) (Wt.plain rfl) rfl rfl ?_
    refine T.q (q_move rfl rfl) (Wt.plain rfl) rfl rfl ?_
    refine T.q (q_and rfl rfl rfl) (Wt.plain rfl) rfl rfl ?_
    refine T.q (q_int (b := IntKind.u32.wrap t) (q_conv un64 un61 rfl rfl) (low32 t ht0 ht1)) (Wt.plain rfl) rfl rfl ?_
    refine T.q (q_xor rfl rfl rfl) (Wt.plain rfl) rfl rfl ?_
    refine T.q (q_ixS0 sc67 12 rfl rfl rfl (rfl) (by omega)) (Wt.plain rfl) rfl rfl ?_
    refine T.eff (e_storeIJ ss61 1 rfl rfl rfl rfl (by first | omega | (simp; done) | (simp [-List.getD_eq_getElem?_getD]; omega)) rfl) (Wt.plain rfl) ?_
    rintro _ _ ⟨rfl, rfl⟩
    change (_ : List Blk → Prop) [_, _]
    refine T.nil ?_
    refine Ex.next ?_
    refine W.slots (L' := [(0, _), (2, _), (3, _), (9, _), (11, _)]) ⟨rfl, rfl, rfl, rfl, rfl, trivial⟩ ?_
    refine W.seq ?_
    refine W.region ?_
    refine T.q (q_move rfl rfl) (Wt.plain rfl) rfl rfl ?_
    refine T.q (q_move rfl rfl) (Wt.plain rfl) rfl rfl ?_
    refine T.q (q_ixS0 sc67 13 rfl rfl rfl (rfl) (by omega)) (Wt.plain rfl) rfl rfl ?_
    refine T.q (q_loadIJ ss61 1 rfl rfl rfl (by first | omega | (simp; done) | (simp [-List.getD_eq_getElem?_getD]; omega))) (Wt.plain rfl) rfl rfl ?_
    refine T.q (q_move rfl rfl) (Wt.plain rfl) rfl rfl ?_
    refine T.q (q_shr rfl rfl rfl (by decide)) (Wt.plain rfl) rfl rfl ?_
    refine T.q (q_conv un64 un61 rfl rfl) (Wt.plain rfl) rfl rfl ?_
    refine T.q (q_xor rfl rfl rfl) (Wt.plain rfl) rfl rfl ?_
    refine T.q (q_ixS0 sc67 13 rfl rfl rfl (rfl) (by omega)) (Wt.plain rfl) rfl rfl ?_
    refine T.eff (e_storeIJ ss61 1 rfl rfl rfl rfl (by first | omega | (simp; done) | (simp [-List.getD_eq_getElem?_getD]; omega)) rfl) (Wt.plain rfl) ?_
    rintro _ _ ⟨rfl, rfl⟩
    change (_ : List Blk → Prop) [_, _]
    change (_ : List Blk → Prop) [_, ⟨some k14, ints .u32 (vtold (h ++ startW) t) ++ junk16, 61, (0, 0)⟩]
    refine T.nil ?_
    refine Ex.next ?_
    refine W.slots (L' := [(0, _), (3, _), (9, _), (11, _)]) ⟨rfl, rfl, rfl, rfl, trivial⟩ ?_
    refine W.meet (α := List Int) (fun vv => [(0, .slice A1 8 c1), (9, .slice (some ⟨kk, 0, none⟩) 16 cp), (11, .slice (some ⟨k14, 0, none⟩) ((0 + 8) + 8) cap15)]) (fun vv => [⟨some kk, ints .u32 (msg bs) ++ jj, 61, (0, 0)⟩, ⟨some k14, ints .u32 vv ++ junk16, 61, (0, 0)⟩]) (fun vv => vv = vstart h t last) ?_ ?_
    ·
      refine W.seq ?_
      refine W.region ?_
      refine T.q (q_move rfl rfl) (Wt.plain rfl) rfl rfl ?_
      refine T.nil ?_
      refine Ex.next ?_
      refine W.slots (L' := [(0, _), (9, _), (11, _), (79, _)]) ⟨rfl, rfl, rfl, rfl, trivial⟩ ?_
      refine W.cond _ rfl (fun hb18 => ?_) (fun hb18 => ?_)
      · skip
        refine W.region ?_
        refine T.q (q_move rfl rfl) (Wt.plain rfl) rfl rfl ?_
        refine T.q (q_move rfl rfl) (Wt.plain rfl) rfl rfl ?_
        refine T.q (q_ixS0 sc67 14 rfl rfl rfl (rfl) (by omega)) (Wt.plain rfl) rfl rfl ?_
        refine T.q (q_loadIJ ss61 1 rfl rfl rfl (by first | omega | (simp; done) | (simp [-List.getD_eq_getElem?_getD]; omega))) (Wt.plain rfl) rfl rfl ?_
        refine T.q (q_cpl rfl rfl) (Wt.plain rfl) rfl rfl ?_
        refine T.q (q_ixS0 sc67 14 rfl rfl rfl (rfl) (by omega)) (Wt.plain rfl) rfl rfl ?_
        refine T.eff (e_storeIJ ss61 1 rfl rfl rfl rfl (by first | omega | (simp; done) | (simp [-List.getD_eq_getElem?_getD]; omega)) rfl) (Wt.plain rfl) ?_
        rintro _ _ ⟨rfl, rfl⟩
        change (_ : List Blk → Prop) [_, _]
        change (_ : List Blk → Prop) [_, ⟨some k14, ints .u32 (vlast (vtold (h ++ startW) t)) ++ junk16, 61, (0, 0)⟩]
        refine T.nil ?_
        exact Ex.met [true, true] (vlast (vtold (h ++ startW) t)) (by rw [vstart, hb18]; rfl) ⟨rfl, rfl, rfl, trivial⟩ rfl
      · skip
        refine W.skip ?_
        exact Ex.met [true, true] (vtold (h ++ startW) t) (by rw [vstart, hb18]; rfl) ⟨rfl, rfl, rfl, trivial⟩ rfl
    ·
      rintro vv hvv
      have hvl : vv.length = 16 := by rw [hvv]; exact vstart_length h t last hl8
      refine W.seq ?_
      refine W.region ?_
      refine T.eff (e_call enters57 rfl rfl (fun w hm => rows_spec w) rfl rfl) (Wt.plain rfl) ?_
      rintro _ _ ⟨_, _, ⟨n0, n1, n2, n3, n4, n5, n6, n7, n8, n9, k19, rfl, rfl⟩, rfl, rfl⟩
      change (_ : List Blk → Prop) [_, _, _, _, _, _, _, _, _, _, _, _, _]
      refine T.q (q_assign rfl rfl) (Wt.plain rfl) rfl rfl ?_
      refine T.nil ?_
      refine Ex.next ?_
      refine W.slots (L' := [(0, _), (9, _), (11, _), (12, _)]) ⟨rfl, rfl, rfl, rfl, trivial⟩ ?_
      refine W.seq ?_
      refine W.seq ?_
      refine W.region ?_
      refine T.q (q_assign rfl rfl) (Wt.plain rfl) rfl rfl ?_
      refine T.nil ?_
      refine Ex.next ?_
      refine W.slots (L' := [(0, _), (9, _), (11, _), (12, _), (13, _)]) ⟨rfl, rfl, rfl, rfl, rfl, trivial⟩ ?_
      refine W.block ?_
      refine W.loop (α := Nat) (fun r => [(0, .slice A1 8 c1), (9, .slice (some ⟨kk, 0, none⟩) 16 cp), (11, .slice (some ⟨k14, 0, none⟩) ((0 + 8) + 8) cap15), (12, .slice (some ⟨k19, 0, none⟩) 10 10), (13, .int .i64 ((r : Nat) : Int))]) (fun r => [⟨some kk, ints .u32 (msg bs) ++ jj, 61, (0, 0)⟩, ⟨some k14, ints .u32 (brn (msg bs) vv r) ++ junk16, 61, (0, 0)⟩, ⟨some n0, ints .i64 (sg 0), 3, (0, 0)⟩, ⟨some n1, ints .i64 (sg 1), 3, (0, 0)⟩, ⟨some n2, ints .i64 (sg 2), 3, (0, 0)⟩, ⟨some n3, ints .i64 (sg 3), 3, (0, 0)⟩, ⟨some n4, ints .i64 (sg 4), 3, (0, 0)⟩, ⟨some n5, ints .i64 (sg 5), 3, (0, 0)⟩, ⟨some n6, ints .i64 (sg 6), 3, (0, 0)⟩, ⟨some n7, ints .i64 (sg 7), 3, (0, 0)⟩, ⟨some n8, ints .i64 (sg 8), 3, (0, 0)⟩, ⟨some n9, ints .i64 (sg 9), 3, (0, 0)⟩, ⟨some k19, [n0, n1, n2, n3, n4, n5, n6, n7, n8, n9].map (fun q => Value.slice (some ⟨q, 0, none⟩) 16 16), 57, (0, 0)⟩]) (fun r => r ≤ 10) (fun r => 10 - r) [true, true, true, true, true, true, true, true, true, true, true, true, true] 0 (by omega) ⟨rfl, rfl, rfl, rfl, rfl, trivial⟩ rfl ?_
      rintro r hr
      refine W.seq ?_
      refine W.seq ?_
      refine W.region ?_
      refine T.q (q_move rfl rfl) (Wt.plain rfl) rfl rfl ?_
      refine T.q (q_lss rfl rfl rfl) (Wt.plain rfl) rfl rfl ?_
      refine T.nil ?_
      refine Ex.next ?_
      refine W.slots (L' := [(0, _), (9, _), (11, _), (12, _), (13, _), (88, _)]) ⟨rfl, rfl, rfl, rfl, rfl, rfl, trivial⟩ ?_
      refine W.cond _ rfl (fun hb20 => ?_) (fun hb20 => ?_)
      · replace hb20 := of_decide_eq_true hb20
        have hr10 : r < 10 := by omega
        have hsg := sg_length hr10
        refine W.skip ?_
        refine Ex.next ?_
        refine W.slots (L' := [(0, _), (9, _), (11, _), (12, _), (13, _)]) ⟨rfl, rfl, rfl, rfl, rfl, trivial⟩ ?_
        refine W.seq ?_
        refine W.block ?_
        refine W.seq ?_
        refine W.region ?_
        refine T.q (q_move rfl rfl) (Wt.plain rfl) rfl rfl ?_
        refine T.q (q_move rfl rfl) (Wt.plain rfl) rfl rfl ?_
        refine T.q (q_ixS0 sc84 r rfl rfl rfl (by omega) (by omega)) (Wt.plain rfl) rfl rfl ?_
        refine T.q (q_load1 ss57 12 rfl rfl rfl (map_get _ 0 (show r < 10 by omega))) (Wt.plain rfl) rfl rfl ?_
        refine T.q (q_assign rfl rfl) (Wt.plain rfl) rfl rfl ?_
        refine T.nil ?_
        refine Ex.next ?_
        refine W.slots (L' := [(0, _), (9, _), (11, _), (12, _), (13, _), (14, _)]) ⟨rfl, rfl, rfl, rfl, rfl, rfl, trivial⟩ ?_
        refine W.seq ?_
        refine W.seq ?_
        refine W.region ?_
        refine T.q (q_assign rfl rfl) (Wt.plain rfl) rfl rfl ?_
        refine T.nil ?_
        refine Ex.next ?_
        refine W.slots (L' := [(0, _), (9, _), (11, _), (12, _), (13, _), (14, _), (15, _)]) ⟨rfl, rfl, rfl, rfl, rfl, rfl, rfl, trivial⟩ ?_
        refine W.block ?_
        refine W.loop (α := Nat) (fun j => [(0, .slice A1 8 c1), (9, .slice (some ⟨kk, 0, none⟩) 16 cp), (11, .slice (some ⟨k14, 0, none⟩) ((0 + 8) + 8) cap15), (12, .slice (some ⟨k19, 0, none⟩) 10 10), (13, .int .i64 ((r : Nat) : Int)), (14, .slice (some ⟨[n0, n1, n2, n3, n4, n5, n6, n7, n8, n9].getD r 0, 0, none⟩) 16 16), (15, .int .i64 ((j : Nat) : Int))]) (fun j => [⟨some kk, ints .u32 (msg bs) ++ jj, 61, (0, 0)⟩, ⟨some k14, ints .u32 (bdr (sg r) (msg bs) (brn (msg bs) vv r) j) ++ junk16, 61, (0, 0)⟩, ⟨some n0, ints .i64 (sg 0), 3, (0, 0)⟩, ⟨some n1, ints .i64 (sg 1), 3, (0, 0)⟩, ⟨some n2, ints .i64 (sg 2), 3, (0, 0)⟩, ⟨some n3, ints .i64 (sg 3), 3, (0, 0)⟩, ⟨some n4, ints .i64 (sg 4), 3, (0, 0)⟩, ⟨some n5, ints .i64 (sg 5), 3, (0, 0)⟩, ⟨some n6, ints .i64 (sg 6), 3, (0, 0)⟩, ⟨some n7, ints .i64 (sg 7), 3, (0, 0)⟩, ⟨some n8, ints .i64 (sg 8), 3, (0, 0)⟩, ⟨some n9, ints .i64 (sg 9), 3, (0, 0)⟩, ⟨some k19, [n0, n1, n2, n3, n4, n5, n6, n7, n8, n9].map (fun q => Value.slice (some ⟨q, 0, none⟩) 16 16), 57, (0, 0)⟩]) (fun j => j ≤ 4) (fun j => 4 - j) [true, true, true, true, true, true, true, true, true, true, true, true, true] 0 (by omega) ⟨rfl, rfl, rfl, rfl, rfl, rfl, rfl, trivial⟩ rfl ?_
        rintro j hj
        refine W.seq ?_
        refine W.seq ?_
        refine W.region ?_
        refine T.q (q_move rfl rfl) (Wt.plain rfl) rfl rfl ?_
        refine T.q (q_lss rfl rfl rfl) (Wt.plain rfl) rfl rfl ?_
        refine T.nil ?_
        refine Ex.next ?_
        refine W.slots (L' := [(0, _), (9, _), (11, _), (12, _), (13, _), (14, _), (15, _), (96, _)]) ⟨rfl, rfl, rfl, rfl, rfl, rfl, rfl, rfl, trivial⟩ ?_
        refine W.cond _ rfl (fun hb21 => ?_) (fun hb21 => ?_)
        · replace hb21 := of_decide_eq_true hb21
          have hj4 : j < 4 := by omega
          have q0 := sg_ok hr10 (by omega : 2 * j < 16)
          have q1 := sg_ok hr10 (by omega : 2 * j + 1 < 16)
          refine W.skip ?_
          refine Ex.next ?_
          refine W.slots (L' := [(0, _), (9, _), (11, _), (12, _), (13, _), (14, _), (15, _)]) ⟨rfl, rfl, rfl, rfl, rfl, rfl, rfl, trivial⟩ ?_
          refine W.seq ?_
          refine W.block ?_
          refine W.drawP 26 [true, false, true, true, true, true, true, true, true, true, true, true, true] (by kernel_rfl) ?_
          refine D.take 0 rfl (by kernel_rfl) (S_sub ((((((((((((((List.Sublist.slnil).cons_cons _).cons_cons _).cons_cons _).cons_cons _).cons_cons _).cons_cons _).cons_cons _).cons_cons _).cons_cons _).cons_cons _).cons_cons _).cons _).cons_cons _)) (q_move rfl rfl) (Wt.plain rfl) rfl rfl ?_
          refine D.take 1 rfl (by kernel_rfl) (S_sub ((((((((((((((List.Sublist.slnil).cons_cons _).cons_cons _).cons_cons _).cons_cons _).cons_cons _).cons_cons _).cons_cons _).cons_cons _).cons_cons _).cons_cons _).cons_cons _).cons _).cons_cons _)) (q_move rfl rfl) (Wt.plain rfl) rfl rfl ?_
          refine D.take 2 rfl (by kernel_rfl) (S_sub ((((((((((((((List.Sublist.slnil).cons_cons _).cons_cons _).cons_cons _).cons_cons _).cons_cons _).cons_cons _).cons_cons _).cons_cons _).cons_cons _).cons_cons _).cons_cons _).cons _).cons_cons _)) (q_move rfl rfl) (Wt.plain rfl) rfl rfl ?_
          refine D.take 3 rfl (by kernel_rfl) (S_sub ((((((((((((((List.Sublist.slnil).cons_cons _).cons_cons _).cons_cons _).cons_cons _).cons_cons _).cons_cons _).cons_cons _).cons_cons _).cons_cons _).cons_cons _).cons_cons _).cons _).cons_cons _)) (q_addi rfl rfl rfl (by omega) (by omega)) (Wt.plain rfl) rfl rfl ?_
          refine D.take 4 rfl (by kernel_rfl) (S_sub ((((((((((((((List.Sublist.slnil).cons_cons _).cons_cons _).cons_cons _).cons_cons _).cons_cons _).cons_cons _).cons_cons _).cons_cons _).cons_cons _).cons_cons _).cons_cons _).cons _).cons_cons _)) (q_move rfl rfl) (Wt.plain rfl) rfl rfl ?_
          refine D.take 5 rfl (by kernel_rfl) (S_sub ((((((((((((((List.Sublist.slnil).cons_cons _).cons_cons _).cons_cons _).cons_cons _).cons_cons _).cons_cons _).cons_cons _).cons_cons _).cons_cons _).cons_cons _).cons_cons _).cons _).cons_cons _)) (q_addi rfl rfl rfl (by omega) (by omega)) (Wt.plain rfl) rfl rfl ?_
          refine D.take 6 rfl (by kernel_rfl) (S_sub ((((((((((((((List.Sublist.slnil).cons_cons _).cons_cons _).cons_cons _).cons_cons _).cons_cons _).cons_cons _).cons_cons _).cons_cons _).cons_cons _).cons_cons _).cons_cons _).cons _).cons_cons _)) (q_move rfl rfl) (Wt.plain rfl) rfl rfl ?_
          refine D.take 7 rfl (by kernel_rfl) (S_sub ((((((((((((((List.Sublist.slnil).cons_cons _).cons_cons _).cons_cons _).cons_cons _).cons_cons _).cons_cons _).cons_cons _).cons_cons _).cons_cons _).cons_cons _).cons_cons _).cons _).cons_cons _)) (q_addi rfl rfl rfl (by omega) (by omega)) (Wt.plain rfl) rfl rfl ?_
          refine D.take 8 rfl (by kernel_rfl) (S_sub ((((((((((((((List.Sublist.slnil).cons_cons _).cons_cons _).cons_cons _).cons_cons _).cons_cons _).cons_cons _).cons_cons _).cons_cons _).cons_cons _).cons_cons _).cons_cons _).cons _).cons_cons _)) (q_move rfl rfl) (Wt.plain rfl) rfl rfl ?_
          refine D.take 9 rfl (by kernel_rfl) (S_sub ((((((((((((((List.Sublist.slnil).cons_cons _).cons_cons _).cons_cons _).cons_cons _).cons_cons _).cons_cons _).cons_cons _).cons_cons _).cons_cons _).cons_cons _).cons_cons _).cons _).cons_cons _)) (q_move rfl rfl) (Wt.plain rfl) rfl rfl ?_
          refine D.take 10 rfl (by kernel_rfl) (S_sub ((((((((((((((List.Sublist.slnil).cons_cons _).cons_cons _).cons_cons _).cons_cons _).cons_cons _).cons_cons _).cons_cons _).cons_cons _).cons_cons _).cons_cons _).cons_cons _).cons _).cons_cons _)) (q_move rfl rfl) (Wt.plain rfl) rfl rfl ?_
          refine D.take 11 rfl (by kernel_rfl) (S_sub ((((((((((((((List.Sublist.slnil).cons_cons _).cons_cons _).cons_cons _).cons_cons _).cons_cons _).cons_cons _).cons_cons _).cons_cons _).cons_cons _).cons_cons _).cons_cons _).cons _).cons_cons _)) (q_muli rfl rfl rfl (by omega) (by omega)) (Wt.plain rfl) rfl rfl ?_
          refine D.take 12 rfl (by kernel_rfl) (S_sub ((((((((((((((List.Sublist.slnil).cons_cons _).cons_cons _).cons_cons _).cons_cons _).cons_cons _).cons_cons _).cons_cons _).cons_cons _).cons_cons _).cons_cons _).cons_cons _).cons _).cons_cons _)) (q_ixE1 sc57 (2 * j) (R_ten [n0, n1, n2, n3, n4, n5, n6, n7, n8, n9] sg 1 r hr10 (lt10 rfl rfl rfl rfl rfl rfl rfl rfl rfl rfl)) rfl rfl rfl (by omega) (by omega) (by first | omega | (simp; done) | (simp [-List.getD_eq_getElem?_getD]; omega))) (Wt.plain rfl) rfl rfl ?_
          refine D.take 13 rfl (by kernel_rfl) (S_sub ((((((((((((((List.Sublist.slnil).cons_cons _).cons_cons _).cons_cons _).cons_cons _).cons_cons _).cons_cons _).cons_cons _).cons_cons _).cons_cons _).cons_cons _).cons_cons _).cons _).cons_cons _)) (q_loadE ss3 (R_ten [n0, n1, n2, n3, n4, n5, n6, n7, n8, n9] sg 1 r hr10 (lt10 rfl rfl rfl rfl rfl rfl rfl rfl rfl rfl)) rfl rfl (ints_get (by first | omega | (simp; done) | (simp [-List.getD_eq_getElem?_getD]; omega)))) (Wt.plain rfl) rfl rfl ?_
          refine D.take 14 rfl (by kernel_rfl) (S_sub ((((((((((((((List.Sublist.slnil).cons_cons _).cons_cons _).cons_cons _).cons_cons _).cons_cons _).cons_cons _).cons_cons _).cons_cons _).cons_cons _).cons_cons _).cons_cons _).cons _).cons_cons _)) (q_ixS0 sc67 (((sg r).getD (2 * j) 0).toNat) rfl rfl rfl (by omega) (by omega)) (Wt.plain rfl) rfl rfl ?_
          refine D.take 15 rfl (by kernel_rfl) (S_sub ((((((((((((((List.Sublist.slnil).cons_cons _).cons_cons _).cons_cons _).cons_cons _).cons_cons _).cons_cons _).cons_cons _).cons_cons _).cons_cons _).cons_cons _).cons_cons _).cons _).cons_cons _)) (q_loadIJ ss61 0 rfl rfl rfl (by first | omega | (simp; done) | (simp [-List.getD_eq_getElem?_getD]; omega))) (Wt.plain rfl) rfl rfl ?_
          refine D.take 16 rfl (by kernel_rfl) (S_sub ((((((((((((((List.Sublist.slnil).cons_cons _).cons_cons _).cons_cons _).cons_cons _).cons_cons _).cons_cons _).cons_cons _).cons_cons _).cons_cons _).cons_cons _).cons_cons _).cons _).cons_cons _)) (q_move rfl rfl) (Wt.plain rfl) rfl rfl ?_
          refine D.take 17 rfl (by kernel_rfl) (S_sub ((((((((((((((List.Sublist.slnil).cons_cons _).cons_cons _).cons_cons _).cons_cons _).cons_cons _).cons_cons _).cons_cons _).cons_cons _).cons_cons _).cons_cons _).cons_cons _).cons _).cons_cons _)) (q_move rfl rfl) (Wt.plain rfl) rfl rfl ?_
          refine D.take 18 rfl (by kernel_rfl) (S_sub ((((((((((((((List.Sublist.slnil).cons_cons _).cons_cons _).cons_cons _).cons_cons _).cons_cons _).cons_cons _).cons_cons _).cons_cons _).cons_cons _).cons_cons _).cons_cons _).cons _).cons_cons _)) (q_move rfl rfl) (Wt.plain rfl) rfl rfl ?_
          refine D.take 19 rfl (by kernel_rfl) (S_sub ((((((((((((((List.Sublist.slnil).cons_cons _).cons_cons _).cons_cons _).cons_cons _).cons_cons _).cons_cons _).cons_cons _).cons_cons _).cons_cons _).cons_cons _).cons_cons _).cons _).cons_cons _)) (q_muli rfl rfl rfl (by omega) (by omega)) (Wt.plain rfl) rfl rfl ?_
          refine D.take 20 rfl (by kernel_rfl) (S_sub ((((((((((((((List.Sublist.slnil).cons_cons _).cons_cons _).cons_cons _).cons_cons _).cons_cons _).cons_cons _).cons_cons _).cons_cons _).cons_cons _).cons_cons _).cons_cons _).cons _).cons_cons _)) (q_addi rfl rfl rfl (by omega) (by omega)) (Wt.plain rfl) rfl rfl ?_
          refine D.take 21 rfl (by kernel_rfl) (S_sub ((((((((((((((List.Sublist.slnil).cons_cons _).cons_cons _).cons_cons _).cons_cons _).cons_cons _).cons_cons _).cons_cons _).cons_cons _).cons_cons _).cons_cons _).cons_cons _).cons _).cons_cons _)) (q_ixE1 sc57 ((2 * j) + 1) (R_ten [n0, n1, n2, n3, n4, n5, n6, n7, n8, n9] sg 1 r hr10 (lt10 rfl rfl rfl rfl rfl rfl rfl rfl rfl rfl)) rfl rfl rfl (by omega) (by omega) (by first | omega | (simp; done) | (simp [-List.getD_eq_getElem?_getD]; omega))) (Wt.plain rfl) rfl rfl ?_
          refine D.take 22 rfl (by kernel_rfl) (S_sub ((((((((((((((List.Sublist.slnil).cons_cons _).cons_cons _).cons_cons _).cons_cons _).cons_cons _).cons_cons _).cons_cons _).cons_cons _).cons_cons _).cons_cons _).cons_cons _).cons _).cons_cons _)) (q_loadE ss3 (R_ten [n0, n1, n2, n3, n4, n5, n6, n7, n8, n9] sg 1 r hr10 (lt10 rfl rfl rfl rfl rfl rfl rfl rfl rfl rfl)) rfl rfl (ints_get (by first | omega | (simp; done) | (simp [-List.getD_eq_getElem?_getD]; omega)))) (Wt.plain rfl) rfl rfl ?_
          refine D.take 23 rfl (by kernel_rfl) (S_sub ((((((((((((((List.Sublist.slnil).cons_cons _).cons_cons _).cons_cons _).cons_cons _).cons_cons _).cons_cons _).cons_cons _).cons_cons _).cons_cons _).cons_cons _).cons_cons _).cons _).cons_cons _)) (q_ixS0 sc67 (((sg r).getD (2 * j + 1) 0).toNat) rfl rfl rfl (by omega) (by omega)) (Wt.plain rfl) rfl rfl ?_
          refine D.take 24 rfl (by kernel_rfl) (S_sub ((((((((((((((List.Sublist.slnil).cons_cons _).cons_cons _).cons_cons _).cons_cons _).cons_cons _).cons_cons _).cons_cons _).cons_cons _).cons_cons _).cons_cons _).cons_cons _).cons _).cons_cons _)) (q_loadIJ ss61 0 rfl rfl rfl (by first | omega | (simp; done) | (simp [-List.getD_eq_getElem?_getD]; omega))) (Wt.plain rfl) rfl rfl ?_
          refine D.one 25 (by kernel_rfl) ?_
          refine Up.eff rfl (e_callB 1 enters58 rfl rfl rfl (fun w hm => refmix_spec _ _ _ _ j (4 + j) (8 + j) (12 + j) _ _ _ (by simp [hvl]) (by omega) (by omega) (by omega) (by omega) w (hm.at 1 rfl)) rfl rfl) (Wt.plain rfl) ?_
          rintro _ _ ⟨_, _, _, ⟨rfl, rfl, rfl⟩, rfl, rfl⟩
          refine ⟨fun _ => (S_sub ((((((((((((((List.Sublist.slnil).cons_cons _).cons_cons _).cons_cons _).cons_cons _).cons_cons _).cons_cons _).cons_cons _).cons_cons _).cons_cons _).cons_cons _).cons_cons _).cons _).cons_cons _)), ?_⟩
          change (_ : List Blk → Prop) [_, _, _, _, _, _, _, _, _, _, _, _, _]
          refine D.done (by kernel_rfl) ?_
          refine Ex.in_normal ?_
          refine Ex.next ?_
          refine W.slots (L' := [(0, _), (9, _), (11, _), (12, _), (13, _), (14, _), (15, _)]) ⟨rfl, rfl, rfl, rfl, rfl, rfl, rfl, trivial⟩ ?_
          refine W.region ?_
          refine T.q (q_move rfl rfl) (Wt.plain rfl) rfl rfl ?_
          refine T.q (q_addi rfl rfl rfl (by omega) (by omega)) (Wt.plain rfl) rfl rfl ?_
          refine T.q (q_assign rfl rfl) (Wt.plain rfl) rfl rfl ?_
          refine T.nil ?_
          exact Ex.again [true, true, true, true, true, true, true, true, true, true, true, true, true] (j + 1) (by omega) (by omega) ⟨rfl, rfl, rfl, rfl, rfl, rfl, rfl, trivial⟩ (congrArg (fun r_ : List Int => ([⟨some kk, ints .u32 (msg bs) ++ jj, 61, (0, 0)⟩, ⟨some k14, ints .u32 r_ ++ junk16, 61, (0, 0)⟩, ⟨some n0, ints .i64 (sg 0), 3, (0, 0)⟩, ⟨some n1, ints .i64 (sg 1), 3, (0, 0)⟩, ⟨some n2, ints .i64 (sg 2), 3, (0, 0)⟩, ⟨some n3, ints .i64 (sg 3), 3, (0, 0)⟩, ⟨some n4, ints .i64 (sg 4), 3, (0, 0)⟩, ⟨some n5, ints .i64 (sg 5), 3, (0, 0)⟩, ⟨some n6, ints .i64 (sg 6), 3, (0, 0)⟩, ⟨some n7, ints .i64 (sg 7), 3, (0, 0)⟩, ⟨some n8, ints .i64 (sg 8), 3, (0, 0)⟩, ⟨some n9, ints .i64 (sg 9), 3, (0, 0)⟩, ⟨some k19, [n0, n1, n2, n3, n4, n5, n6, n7, n8, n9].map (fun q => Value.slice (some ⟨q, 0, none⟩) 16 16), 57, (0, 0)⟩] : List Blk)) (bstep_lo hj4 _ _ _))
        · replace hb21 := of_decide_eq_false hb21
          obtain rfl : j = 4 := by omega
          refine W.exit ?_
          refine Ex.then_exit ?_
          refine Ex.then_exit ?_
          refine Ex.in_here ?_
          refine Ex.next ?_
          refine W.slots (L' := [(0, _), (9, _), (11, _), (12, _), (13, _), (14, _)]) ⟨rfl, rfl, rfl, rfl, rfl, rfl, trivial⟩ ?_
          refine W.seq ?_
          refine W.region ?_
          refine T.q (q_assign rfl rfl) (Wt.plain rfl) rfl rfl ?_
          refine T.nil ?_
          refine Ex.next ?_
          refine W.slots (L' := [(0, _), (9, _), (11, _), (12, _), (13, _), (14, _), (16, _)]) ⟨rfl, rfl, rfl, rfl, rfl, rfl, rfl, trivial⟩ ?_
          refine W.block ?_
          refine W.loop (α := Nat) (fun j => [(0, .slice A1 8 c1), (9, .slice (some ⟨kk, 0, none⟩) 16 cp), (11, .slice (some ⟨k14, 0, none⟩) ((0 + 8) + 8) cap15), (12, .slice (some ⟨k19, 0, none⟩) 10 10), (13, .int .i64 ((r : Nat) : Int)), (14, .slice (some ⟨[n0, n1, n2, n3, n4, n5, n6, n7, n8, n9].getD r 0, 0, none⟩) 16 16), (16, .int .i64 ((j : Nat) : Int))]) (fun j => [⟨some kk, ints .u32 (msg bs) ++ jj, 61, (0, 0)⟩, ⟨some k14, ints .u32 (bdr (sg r) (msg bs) (brn (msg bs) vv r) (4 + j)) ++ junk16, 61, (0, 0)⟩, ⟨some n0, ints .i64 (sg 0), 3, (0, 0)⟩, ⟨some n1, ints .i64 (sg 1), 3, (0, 0)⟩, ⟨some n2, ints .i64 (sg 2), 3, (0, 0)⟩, ⟨some n3, ints .i64 (sg 3), 3, (0, 0)⟩, ⟨some n4, ints .i64 (sg 4), 3, (0, 0)⟩, ⟨some n5, ints .i64 (sg 5), 3, (0, 0)⟩, ⟨some n6, ints .i64 (sg 6), 3, (0, 0)⟩, ⟨some n7, ints .i64 (sg 7), 3, (0, 0)⟩, ⟨some n8, ints .i64 (sg 8), 3, (0, 0)⟩, ⟨some n9, ints .i64 (sg 9), 3, (0, 0)⟩, ⟨some k19, [n0, n1, n2, n3, n4, n5, n6, n7, n8, n9].map (fun q => Value.slice (some ⟨q, 0, none⟩) 16 16), 57, (0, 0)⟩]) (fun j => j ≤ 4) (fun j => 4 - j) [true, true, true, true, true, true, true, true, true, true, true, true, true] 0 (by omega) ⟨rfl, rfl, rfl, rfl, rfl, rfl, rfl, trivial⟩ rfl ?_
          rintro j hj
          refine W.seq ?_
          refine W.seq ?_
          refine W.region ?_
          refine T.q (q_move rfl rfl) (Wt.plain rfl) rfl rfl ?_
          refine T.q (q_lss rfl rfl rfl) (Wt.plain rfl) rfl rfl ?_
          refine T.nil ?_
          refine Ex.next ?_
          refine W.slots (L' := [(0, _), (9, _), (11, _), (12, _), (13, _), (14, _), (16, _), (126, _)]) ⟨rfl, rfl, rfl, rfl, rfl, rfl, rfl, rfl, trivial⟩ ?_
          refine W.cond _ rfl (fun hb22 => ?_) (fun hb22 => ?_)
          · replace hb22 := of_decide_eq_true hb22
            have hj4 : j < 4 := by omega
            have q0 := sg_ok hr10 (by omega : 8 + 2 * j < 16)
            have q1 := sg_ok hr10 (by omega : 9 + 2 * j < 16)
            refine W.skip ?_
            refine Ex.next ?_
            refine W.slots (L' := [(0, _), (9, _), (11, _), (12, _), (13, _), (14, _), (16, _)]) ⟨rfl, rfl, rfl, rfl, rfl, rfl, rfl, trivial⟩ ?_
            refine W.seq ?_
            refine W.block ?_
            refine W.drawP 33 [true, false, true, true, true, true, true, true, true, true, true, true, true] (by kernel_rfl) ?_
            refine D.take 0 rfl (by kernel_rfl) (S_sub ((((((((((((((List.Sublist.slnil).cons_cons _).cons_cons _).cons_cons _).cons_cons _).cons_cons _).cons_cons _).cons_cons _).cons_cons _).cons_cons _).cons_cons _).cons_cons _).cons _).cons_cons _)) (q_move rfl rfl) (Wt.plain rfl) rfl rfl ?_
            refine D.take 1 rfl (by kernel_rfl) (S_sub ((((((((((((((List.Sublist.slnil).cons_cons _).cons_cons _).cons_cons _).cons_cons _).cons_cons _).cons_cons _).cons_cons _).cons_cons _).cons_cons _).cons_cons _).cons_cons _).cons _).cons_cons _)) (q_move rfl rfl) (Wt.plain rfl) rfl rfl ?_
            refine D.take 2 rfl (by kernel_rfl) (S_sub ((((((((((((((List.Sublist.slnil).cons_cons _).cons_cons _).cons_cons _).cons_cons _).cons_cons _).cons_cons _).cons_cons _).cons_cons _).cons_cons _).cons_cons _).cons_cons _).cons _).cons_cons _)) (q_move rfl rfl) (Wt.plain rfl) rfl rfl ?_
            refine D.take 3 rfl (by kernel_rfl) (S_sub ((((((((((((((List.Sublist.slnil).cons_cons _).cons_cons _).cons_cons _).cons_cons _).cons_cons _).cons_cons _).cons_cons _).cons_cons _).cons_cons _).cons_cons _).cons_cons _).cons _).cons_cons _)) (q_addi rfl rfl rfl (by omega) (by omega)) (Wt.plain rfl) rfl rfl ?_
            refine D.take 4 rfl (by kernel_rfl) (S_sub ((((((((((((((List.Sublist.slnil).cons_cons _).cons_cons _).cons_cons _).cons_cons _).cons_cons _).cons_cons _).cons_cons _).cons_cons _).cons_cons _).cons_cons _).cons_cons _).cons _).cons_cons _)) (q_rem rfl rfl rfl (by omega) (by decide)) (Wt.plain rfl) rfl rfl ?_
            refine D.take 5 rfl (by kernel_rfl) (S_sub ((((((((((((((List.Sublist.slnil).cons_cons _).cons_cons _).cons_cons _).cons_cons _).cons_cons _).cons_cons _).cons_cons _).cons_cons _).cons_cons _).cons_cons _).cons_cons _).cons _).cons_cons _)) (q_addi rfl rfl rfl (by omega) (by omega)) (Wt.plain rfl) rfl rfl ?_
            refine D.take 6 rfl (by kernel_rfl) (S_sub ((((((((((((((List.Sublist.slnil).cons_cons _).cons_cons _).cons_cons _).cons_cons _).cons_cons _).cons_cons _).cons_cons _).cons_cons _).cons_cons _).cons_cons _).cons_cons _).cons _).cons_cons _)) (q_move rfl rfl) (Wt.plain rfl) rfl rfl ?_
            refine D.take 7 rfl (by kernel_rfl) (S_sub ((((((((((((((List.Sublist.slnil).cons_cons _).cons_cons _).cons_cons _).cons_cons _).cons_cons _).cons_cons _).cons_cons _).cons_cons _).cons_cons _).cons_cons _).cons_cons _).cons _).cons_cons _)) (q_addi rfl rfl rfl (by omega) (by omega)) (Wt.plain rfl) rfl rfl ?_
            refine D.take 8 rfl (by kernel_rfl) (S_sub ((((((((((((((List.Sublist.slnil).cons_cons _).cons_cons _).cons_cons _).cons_cons _).cons_cons _).cons_cons _).cons_cons _).cons_cons _).cons_cons _).cons_cons _).cons_cons _).cons _).cons_cons _)) (q_rem rfl rfl rfl (by omega) (by decide)) (Wt.plain rfl) rfl rfl ?_
            refine D.take 9 rfl (by kernel_rfl) (S_sub ((((((((((((((List.Sublist.slnil).cons_cons _).cons_cons _).cons_cons _).cons_cons _).cons_cons _).cons_cons _).cons_cons _).cons_cons _).cons_cons _).cons_cons _).cons_cons _).cons _).cons_cons _)) (q_addi rfl rfl rfl (by omega) (by omega)) (Wt.plain rfl) rfl rfl ?_
            refine D.take 10 rfl (by kernel_rfl) (S_sub ((((((((((((((List.Sublist.slnil).cons_cons _).cons_cons _).cons_cons _).cons_cons _).cons_cons _).cons_cons _).cons_cons _).cons_cons _).cons_cons _).cons_cons _).cons_cons _).cons _).cons_cons _)) (q_move rfl rfl) (Wt.plain rfl) rfl rfl ?_
            refine D.take 11 rfl (by kernel_rfl) (S_sub ((((((((((((((List.Sublist.slnil).cons_cons _).cons_cons _).cons_cons _).cons_cons _).cons_cons _).cons_cons _).cons_cons _).cons_cons _).cons_cons _).cons_cons _).cons_cons _).cons _).cons_cons _)) (q_addi rfl rfl rfl (by omega) (by omega)) (Wt.plain rfl) rfl rfl ?_
            refine D.take 12 rfl (by kernel_rfl) (S_sub ((((((((((((((List.Sublist.slnil).cons_cons _).cons_cons _).cons_cons _).cons_cons _).cons_cons _).cons_cons _).cons_cons _).cons_cons _).cons_cons _).cons_cons _).cons_cons _).cons _).cons_cons _)) (q_rem rfl rfl rfl (by omega) (by decide)) (Wt.plain rfl) rfl rfl ?_
            refine D.take 13 rfl (by kernel_rfl) (S_sub ((((((((((((((List.Sublist.slnil).cons_cons _).cons_cons _).cons_cons _).cons_cons _).cons_cons _).cons_cons _).cons_cons _).cons_cons _).cons_cons _).cons_cons _).cons_cons _).cons _).cons_cons _)) (q_addi rfl rfl rfl (by omega) (by omega)) (Wt.plain rfl) rfl rfl ?_
            refine D.take 14 rfl (by kernel_rfl) (S_sub ((((((((((((((List.Sublist.slnil).cons_cons _).cons_cons _).cons_cons _).cons_cons _).cons_cons _).cons_cons _).cons_cons _).cons_cons _).cons_cons _).cons_cons _).cons_cons _).cons _).cons_cons _)) (q_move rfl rfl) (Wt.plain rfl) rfl rfl ?_
            refine D.take 15 rfl (by kernel_rfl) (S_sub ((((((((((((((List.Sublist.slnil).cons_cons _).cons_cons _).cons_cons _).cons_cons _).cons_cons _).cons_cons _).cons_cons _).cons_cons _).cons_cons _).cons_cons _).cons_cons _).cons _).cons_cons _)) (q_move rfl rfl) (Wt.plain rfl) rfl rfl ?_
            refine D.take 16 rfl (by kernel_rfl) (S_sub ((((((((((((((List.Sublist.slnil).cons_cons _).cons_cons _).cons_cons _).cons_cons _).cons_cons _).cons_cons _).cons_cons _).cons_cons _).cons_cons _).cons_cons _).cons_cons _).cons _).cons_cons _)) (q_move rfl rfl) (Wt.plain rfl) rfl rfl ?_
            refine D.take 17 rfl (by kernel_rfl) (S_sub ((((((((((((((List.Sublist.slnil).cons_cons _).cons_cons _).cons_cons _).cons_cons _).cons_cons _).cons_cons _).cons_cons _).cons_cons _).cons_cons _).cons_cons _).cons_cons _).cons _).cons_cons _)) (q_muli rfl rfl rfl (by omega) (by omega)) (Wt.plain rfl) rfl rfl ?_
            refine D.take 18 rfl (by kernel_rfl) (S_sub ((((((((((((((List.Sublist.slnil).cons_cons _).cons_cons _).cons_cons _).cons_cons _).cons_cons _).cons_cons _).cons_cons _).cons_cons _).cons_cons _).cons_cons _).cons_cons _).cons _).cons_cons _)) (q_addi rfl rfl rfl (by omega) (by omega)) (Wt.plain rfl) rfl rfl ?_
            refine D.take 19 rfl (by kernel_rfl) (S_sub ((((((((((((((List.Sublist.slnil).cons_cons _).cons_cons _).cons_cons _).cons_cons _).cons_cons _).cons_cons _).cons_cons _).cons_cons _).cons_cons _).cons_cons _).cons_cons _).cons _).cons_cons _)) (q_ixE1 sc57 (8 + (2 * j)) (R_ten [n0, n1, n2, n3, n4, n5, n6, n7, n8, n9] sg 1 r hr10 (lt10 rfl rfl rfl rfl rfl rfl rfl rfl rfl rfl)) rfl rfl rfl (by omega) (by omega) (by first | omega | (simp; done) | (simp [-List.getD_eq_getElem?_getD]; omega))) (Wt.plain rfl) rfl rfl ?_
            refine D.take 20 rfl (by kernel_rfl) (S_sub ((((((((((((((List.Sublist.slnil).cons_cons _).cons_cons _).cons_cons _).cons_cons _).cons_cons _).cons_cons _).cons_cons _).cons_cons _).cons_cons _).cons_cons _).cons_cons _).cons _).cons_cons _)) (q_loadE ss3 (R_ten [n0, n1, n2, n3, n4, n5, n6, n7, n8, n9] sg 1 r hr10 (lt10 rfl rfl rfl rfl rfl rfl rfl rfl rfl rfl)) rfl rfl (ints_get (by first | omega | (simp; done) | (simp [-List.getD_eq_getElem?_getD]; omega)))) (Wt.plain rfl) rfl rfl ?_
            refine D.take 21 rfl (by kernel_rfl) (S_sub ((((((((((((((List.Sublist.slnil).cons_cons _).cons_cons _).cons_cons _).cons_cons _).cons_cons _).cons_cons _).cons_cons _).cons_cons _).cons_cons _).cons_cons _).cons_cons _).cons _).cons_cons _)) (q_ixS0 sc67 (((sg r).getD (8 + 2 * j) 0).toNat) rfl rfl rfl (by omega) (by omega)) (Wt.plain rfl) rfl rfl ?_
            refine D.take 22 rfl (by kernel_rfl) (S_sub ((((((((((((((List.Sublist.slnil).cons_cons _).cons_cons _).cons_cons _).cons_cons _).cons_cons _).cons_cons _).cons_cons _).cons_cons _).cons_cons _).cons_cons _).cons_cons _).cons _).cons_cons _)) (q_loadIJ ss61 0 rfl rfl rfl (by first | omega | (simp; done) | (simp [-List.getD_eq_getElem?_getD]; omega))) (Wt.plain rfl) rfl rfl ?_
            refine D.take 23 rfl (by kernel_rfl) (S_sub ((((((((((((((List.Sublist.slnil).cons_cons _).cons_cons _).cons_cons _).cons_cons _).cons_cons _).cons_cons _).cons_cons _).cons_cons _).cons_cons _).cons_cons _).cons_cons _).cons _).cons_cons _)) (q_move rfl rfl) (Wt.plain rfl) rfl rfl ?_
            refine D.take 24 rfl (by kernel_rfl) (S_sub ((((((((((((((List.Sublist.slnil).cons_cons _).cons_cons _).cons_cons _).cons_cons _).cons_cons _).cons_cons _).cons_cons _).cons_cons _).cons_cons _).cons_cons _).cons_cons _).cons _).cons_cons _)) (q_move rfl rfl) (Wt.plain rfl) rfl rfl ?_
            refine D.take 25 rfl (by kernel_rfl) (S_sub ((((((((((((((List.Sublist.slnil).cons_cons _).cons_cons _).cons_cons _).cons_cons _).cons_cons _).cons_cons _).cons_cons _).cons_cons _).cons_cons _).cons_cons _).cons_cons _).cons _).cons_cons _)) (q_move rfl rfl) (Wt.plain rfl) rfl rfl ?_
            refine D.take 26 rfl (by kernel_rfl) (S_sub ((((((((((((((List.Sublist.slnil).cons_cons _).cons_cons _).cons_cons _).cons_cons _).cons_cons _).cons_cons _).cons_cons _).cons_cons _).cons_cons _).cons_cons _).cons_cons _).cons _).cons_cons _)) (q_muli rfl rfl rfl (by omega) (by omega)) (Wt.plain rfl) rfl rfl ?_
            refine D.take 27 rfl (by kernel_rfl) (S_sub ((((((((((((((List.Sublist.slnil).cons_cons _).cons_cons _).cons_cons _).cons_cons _).cons_cons _).cons_cons _).cons_cons _).cons_cons _).cons_cons _).cons_cons _).cons_cons _).cons _).cons_cons _)) (q_addi rfl rfl rfl (by omega) (by omega)) (Wt.plain rfl) rfl rfl ?_
            refine D.take 28 rfl (by kernel_rfl) (S_sub ((((((((((((((List.Sublist.slnil).cons_cons _).cons_cons _).cons_cons _).cons_cons _).cons_cons _).cons_cons _).cons_cons _).cons_cons _).cons_cons _).cons_cons _).cons_cons _).cons _).cons_cons _)) (q_ixE1 sc57 (9 + (2 * j)) (R_ten [n0, n1, n2, n3, n4, n5, n6, n7, n8, n9] sg 1 r hr10 (lt10 rfl rfl rfl rfl rfl rfl rfl rfl rfl rfl)) rfl rfl rfl (by omega) (by omega) (by first | omega | (simp; done) | (simp [-List.getD_eq_getElem?_getD]; omega))) (Wt.plain rfl) rfl rfl ?_
            refine D.take 29 rfl (by kernel_rfl) (S_sub ((((((((((((((List.Sublist.slnil).cons_cons _).cons_cons _).cons_cons _).cons_cons _).cons_cons _).cons_cons _).cons_cons _).cons_cons _).cons_cons _).cons_cons _).cons_cons _).cons _).cons_cons _)) (q_loadE ss3 (R_ten [n0, n1, n2, n3, n4, n5, n6, n7, n8, n9] sg 1 r hr10 (lt10 rfl rfl rfl rfl rfl rfl rfl rfl rfl rfl)) rfl rfl (ints_get (by first | omega | (simp; done) | (simp [-List.getD_eq_getElem?_getD]; omega)))) (Wt.plain rfl) rfl rfl ?_
            refine D.take 30 rfl (by kernel_rfl) (S_sub ((((((((((((((List.Sublist.slnil).cons_cons _).cons_cons _).cons_cons _).cons_cons _).cons_cons _).cons_cons _).cons_cons _).cons_cons _).cons_cons _).cons_cons _).cons_cons _).cons _).cons_cons _)) (q_ixS0 sc67 (((sg r).getD (9 + 2 * j) 0).toNat) rfl rfl rfl (by omega) (by omega)) (Wt.plain rfl) rfl rfl ?_
            refine D.take 31 rfl (by kernel_rfl) (S_sub ((((((((((((((List.Sublist.slnil).cons_cons _).cons_cons _).cons_cons _).cons_cons _).cons_cons _).cons_cons _).cons_cons _).cons_cons _).cons_cons _).cons_cons _).cons_cons _).cons _).cons_cons _)) (q_loadIJ ss61 0 rfl rfl rfl (by first | omega | (simp; done) | (simp [-List.getD_eq_getElem?_getD]; omega))) (Wt.plain rfl) rfl rfl ?_
            refine D.one 32 (by kernel_rfl) ?_
            refine Up.eff rfl (e_callB 1 enters58 rfl rfl rfl (fun w hm => refmix_spec _ _ _ _ j (4 + ((j + 1) % 4)) (8 + ((j + 2) % 4)) (12 + ((j + 3) % 4)) _ _ _ (by simp [hvl]) (by omega) (by omega) (by omega) (by omega) w (hm.at 1 rfl)) rfl rfl) (Wt.plain rfl) ?_
            rintro _ _ ⟨_, _, _, ⟨rfl, rfl, rfl⟩, rfl, rfl⟩
            refine ⟨fun _ => (S_sub ((((((((((((((List.Sublist.slnil).cons_cons _).cons_cons _).cons_cons _).cons_cons _).cons_cons _).cons_cons _).cons_cons _).cons_cons _).cons_cons _).cons_cons _).cons_cons _).cons _).cons_cons _)), ?_⟩
            change (_ : List Blk → Prop) [_, _, _, _, _, _, _, _, _, _, _, _, _]
            refine D.done (by kernel_rfl) ?_
            refine Ex.in_normal ?_
            refine Ex.next ?_
            refine W.slots (L' := [(0, _), (9, _), (11, _), (12, _), (13, _), (14, _), (16, _)]) ⟨rfl, rfl, rfl, rfl, rfl, rfl, rfl, trivial⟩ ?_
            refine W.region ?_
            refine T.q (q_move rfl rfl) (Wt.plain rfl) rfl rfl ?_
            refine T.q (q_addi rfl rfl rfl (by omega) (by omega)) (Wt.plain rfl) rfl rfl ?_
            refine T.q (q_assign rfl rfl) (Wt.plain rfl) rfl rfl ?_
            refine T.nil ?_
            exact Ex.again [true, true, true, true, true, true, true, true, true, true, true, true, true] (j + 1) (by omega) (by omega) ⟨rfl, rfl, rfl, rfl, rfl, rfl, rfl, trivial⟩ (congrArg (fun r_ : List Int => ([⟨some kk, ints .u32 (msg bs) ++ jj, 61, (0, 0)⟩, ⟨some k14, ints .u32 r_ ++ junk16, 61, (0, 0)⟩, ⟨some n0, ints .i64 (sg 0), 3, (0, 0)⟩, ⟨some n1, ints .i64 (sg 1), 3, (0, 0)⟩, ⟨some n2, ints .i64 (sg 2), 3, (0, 0)⟩, ⟨some n3, ints .i64 (sg 3), 3, (0, 0)⟩, ⟨some n4, ints .i64 (sg 4), 3, (0, 0)⟩, ⟨some n5, ints .i64 (sg 5), 3, (0, 0)⟩, ⟨some n6, ints .i64 (sg 6), 3, (0, 0)⟩, ⟨some n7, ints .i64 (sg 7), 3, (0, 0)⟩, ⟨some n8, ints .i64 (sg 8), 3, (0, 0)⟩, ⟨some n9, ints .i64 (sg 9), 3, (0, 0)⟩, ⟨some k19, [n0, n1, n2, n3, n4, n5, n6, n7, n8, n9].map (fun q => Value.slice (some ⟨q, 0, none⟩) 16 16), 57, (0, 0)⟩] : List Blk)) (bstep_hi hj4 _ _ _))
          · replace hb22 := of_decide_eq_false hb22
            obtain rfl : j = 4 := by omega
            refine W.exit ?_
            refine Ex.then_exit ?_
            refine Ex.then_exit ?_
            refine Ex.in_here ?_
            refine Ex.in_normal ?_
            refine Ex.next ?_
            refine W.slots (L' := [(0, _), (9, _), (11, _), (12, _), (13, _)]) ⟨rfl, rfl, rfl, rfl, rfl, trivial⟩ ?_
            refine W.region ?_
            refine T.q (q_move rfl rfl) (Wt.plain rfl) rfl rfl ?_
            refine T.q (q_addi rfl rfl rfl (by omega) (by omega)) (Wt.plain rfl) rfl rfl ?_
            refine T.q (q_assign rfl rfl) (Wt.plain rfl) rfl rfl ?_
            refine T.nil ?_
            exact Ex.again [true, true, true, true, true, true, true, true, true, true, true, true, true] (r + 1) (by omega) (by omega) ⟨rfl, rfl, rfl, rfl, rfl, trivial⟩ rfl
      · replace hb20 := of_decide_eq_false hb20
        obtain rfl : r = 10 := by omega
        refine W.exit ?_
        refine Ex.then_exit ?_
        refine Ex.then_exit ?_
        refine Ex.in_here ?_
        refine Ex.next ?_
        refine W.slots (L' := [(0, _), (11, _)]) ⟨rfl, rfl, trivial⟩ ?_
        refine W.seq ?_
        refine W.region ?_
        refine T.eff (e_litA sc67 ze61 rfl rfl rfl (by simp [Value.cells]) rfl rfl rfl) (Wt.plain rfl) ?_
        rintro _ _ ⟨k23, rfl, rfl⟩
        change (_ : List Blk → Prop) [_, _, _, _, _, _, _, _, _, _, _, _, _, _]
        refine T.q (q_assign rfl rfl) (Wt.plain rfl) rfl rfl ?_
        refine T.nil ?_
        refine Ex.next ?_
        refine W.slots (L' := [(0, _), (11, _), (17, _)]) ⟨rfl, rfl, rfl, trivial⟩ ?_
        refine W.seq ?_
        refine W.seq ?_
        refine W.region ?_
        refine T.q (q_assign rfl rfl) (Wt.plain rfl) rfl rfl ?_
        refine T.nil ?_
        refine Ex.next ?_
        refine W.slots (L' := [(0, _), (11, _), (17, _), (18, _)]) ⟨rfl, rfl, rfl, rfl, trivial⟩ ?_
        refine W.block ?_
        refine W.loop (α := Nat × Nat × Nat × List Value) (fun x_ => [(0, .slice A1 8 c1), (11, .slice (some ⟨k14, 0, none⟩) ((0 + 8) + 8) cap15), (17, .slice (some ⟨x_.2.1, 0, none⟩) x_.1 x_.2.2.1), (18, .int .i64 ((x_.1 : Nat) : Int))]) (fun x_ => [⟨some kk, ints .u32 (msg bs) ++ jj, 61, (0, 0)⟩, ⟨some k14, ints .u32 (brn (msg bs) vv 10) ++ junk16, 61, (0, 0)⟩, ⟨some n0, ints .i64 (sg 0), 3, (0, 0)⟩, ⟨some n1, ints .i64 (sg 1), 3, (0, 0)⟩, ⟨some n2, ints .i64 (sg 2), 3, (0, 0)⟩, ⟨some n3, ints .i64 (sg 3), 3, (0, 0)⟩, ⟨some n4, ints .i64 (sg 4), 3, (0, 0)⟩, ⟨some n5, ints .i64 (sg 5), 3, (0, 0)⟩, ⟨some n6, ints .i64 (sg 6), 3, (0, 0)⟩, ⟨some n7, ints .i64 (sg 7), 3, (0, 0)⟩, ⟨some n8, ints .i64 (sg 8), 3, (0, 0)⟩, ⟨some n9, ints .i64 (sg 9), 3, (0, 0)⟩, ⟨some k19, [n0, n1, n2, n3, n4, n5, n6, n7, n8, n9].map (fun q => Value.slice (some ⟨q, 0, none⟩) 16 16), 57, (0, 0)⟩, ⟨some x_.2.1, ints .u32 (gather (fun q => bits .xor .u32 (bits .xor .u32 (h.getD q 0) ((brn (msg bs) vv 10).getD q 0)) ((brn (msg bs) vv 10).getD (q + 8) 0)) x_.1 []) ++ x_.2.2.2, 61, (0, 0)⟩]) (fun x_ => x_.1 ≤ 8 ∧ x_.1 + x_.2.2.2.length = x_.2.2.1) (fun x_ => 8 - x_.1) [true, true, true, true, true, true, true, true, true, true, true, true, true, true] (⟨0, k23, 0, []⟩) (by simp) ⟨rfl, rfl, rfl, rfl, trivial⟩ rfl ?_
        rintro ⟨i, kq, cq, jq⟩ ⟨hi, hj⟩
        conv => rhs; dsimp only
        conv => arg -2; dsimp only
        dsimp only at hi hj
        refine W.seq ?_
        refine W.seq ?_
        refine W.region ?_
        refine T.q (q_move rfl rfl) (Wt.plain rfl) rfl rfl ?_
        refine T.q (q_lss rfl rfl rfl) (Wt.plain rfl) rfl rfl ?_
        refine T.nil ?_
        refine Ex.next ?_
        refine W.slots (L' := [(0, _), (11, _), (17, _), (18, _), (164, _)]) ⟨rfl, rfl, rfl, rfl, rfl, trivial⟩ ?_
        refine W.cond _ rfl (fun hb24 => ?_) (fun hb24 => ?_)
        · replace hb24 := of_decide_eq_true hb24
          refine W.skip ?_
          refine Ex.next ?_
          refine W.slots (L' := [(0, _), (11, _), (17, _), (18, _)]) ⟨rfl, rfl, rfl, rfl, trivial⟩ ?_
          refine W.seq ?_
          refine W.block ?_
          refine W.drawP 18 [true, true, true, true, true, true, true, true, true, true, true, true, true, false] (by kernel_rfl) ?_
          refine D.take 0 rfl (by kernel_rfl) (S_sub (((((((((((((((List.Sublist.slnil).cons _).cons_cons _).cons_cons _).cons_cons _).cons_cons _).cons_cons _).cons_cons _).cons_cons _).cons_cons _).cons_cons _).cons_cons _).cons_cons _).cons_cons _).cons_cons _)) (q_move rfl rfl) (Wt.plain rfl) rfl rfl ?_
          refine D.take 1 rfl (by kernel_rfl) (S_sub (((((((((((((((List.Sublist.slnil).cons _).cons_cons _).cons_cons _).cons_cons _).cons_cons _).cons_cons _).cons_cons _).cons_cons _).cons_cons _).cons_cons _).cons_cons _).cons_cons _).cons_cons _).cons_cons _)) (q_move rfl rfl) (Wt.plain rfl) rfl rfl ?_
          refine D.take 2 rfl (by kernel_rfl) (S_sub (((((((((((((((List.Sublist.slnil).cons _).cons_cons _).cons_cons _).cons_cons _).cons_cons _).cons_cons _).cons_cons _).cons_cons _).cons_cons _).cons_cons _).cons_cons _).cons_cons _).cons_cons _).cons_cons _)) (q_move rfl rfl) (Wt.plain rfl) rfl rfl ?_
          refine D.take 3 rfl (by kernel_rfl) (S_sub (((((((((((((((List.Sublist.slnil).cons _).cons_cons _).cons_cons _).cons_cons _).cons_cons _).cons_cons _).cons_cons _).cons_cons _).cons_cons _).cons_cons _).cons_cons _).cons_cons _).cons_cons _).cons_cons _)) (q_ixE1 sc67 i (R_ext hR1.ext) rfl rfl rfl (by omega) (by omega) (by first | omega | (simp; done) | (simp [-List.getD_eq_getElem?_getD]; omega))) (Wt.plain rfl) rfl rfl ?_
          refine D.take 4 rfl (by kernel_rfl) (S_sub (((((((((((((((List.Sublist.slnil).cons _).cons_cons _).cons_cons _).cons_cons _).cons_cons _).cons_cons _).cons_cons _).cons_cons _).cons_cons _).cons_cons _).cons_cons _).cons_cons _).cons_cons _).cons_cons _)) (q_loadE ss61 (R_ext hR1.ext) rfl rfl (ints_get (by first | omega | (simp; done) | (simp [-List.getD_eq_getElem?_getD]; omega)))) (Wt.plain rfl) rfl rfl ?_
          refine D.take 5 rfl (by kernel_rfl) (S_sub (((((((((((((((List.Sublist.slnil).cons _).cons_cons _).cons_cons _).cons_cons _).cons_cons _).cons_cons _).cons_cons _).cons_cons _).cons_cons _).cons_cons _).cons_cons _).cons_cons _).cons_cons _).cons_cons _)) (q_move rfl rfl) (Wt.plain rfl) rfl rfl ?_
          refine D.take 6 rfl (by kernel_rfl) (S_sub (((((((((((((((List.Sublist.slnil).cons _).cons_cons _).cons_cons _).cons_cons _).cons_cons _).cons_cons _).cons_cons _).cons_cons _).cons_cons _).cons_cons _).cons_cons _).cons_cons _).cons_cons _).cons_cons _)) (q_move rfl rfl) (Wt.plain rfl) rfl rfl ?_
          refine D.take 7 rfl (by kernel_rfl) (S_sub (((((((((((((((List.Sublist.slnil).cons _).cons_cons _).cons_cons _).cons_cons _).cons_cons _).cons_cons _).cons_cons _).cons_cons _).cons_cons _).cons_cons _).cons_cons _).cons_cons _).cons_cons _).cons_cons _)) (q_ixS0 sc67 i rfl rfl rfl (by omega) (by omega)) (Wt.plain rfl) rfl rfl ?_
          refine D.take 8 rfl (by kernel_rfl) (S_sub (((((((((((((((List.Sublist.slnil).cons _).cons_cons _).cons_cons _).cons_cons _).cons_cons _).cons_cons _).cons_cons _).cons_cons _).cons_cons _).cons_cons _).cons_cons _).cons_cons _).cons_cons _).cons_cons _)) (q_loadIJ ss61 1 rfl rfl rfl (by first | omega | (simp; done) | (simp [-List.getD_eq_getElem?_getD]; omega))) (Wt.plain rfl) rfl rfl ?_
          refine D.take 9 rfl (by kernel_rfl) (S_sub (((((((((((((((List.Sublist.slnil).cons _).cons_cons _).cons_cons _).cons_cons _).cons_cons _).cons_cons _).cons_cons _).cons_cons _).cons_cons _).cons_cons _).cons_cons _).cons_cons _).cons_cons _).cons_cons _)) (q_xor rfl rfl rfl) (Wt.plain rfl) rfl rfl ?_
          refine D.take 10 rfl (by kernel_rfl) (S_sub (((((((((((((((List.Sublist.slnil).cons _).cons_cons _).cons_cons _).cons_cons _).cons_cons _).cons_cons _).cons_cons _).cons_cons _).cons_cons _).cons_cons _).cons_cons _).cons_cons _).cons_cons _).cons_cons _)) (q_move rfl rfl) (Wt.plain rfl) rfl rfl ?_
          refine D.take 11 rfl (by kernel_rfl) (S_sub (((((((((((((((List.Sublist.slnil).cons _).cons_cons _).cons_cons _).cons_cons _).cons_cons _).cons_cons _).cons_cons _).cons_cons _).cons_cons _).cons_cons _).cons_cons _).cons_cons _).cons_cons _).cons_cons _)) (q_move rfl rfl) (Wt.plain rfl) rfl rfl ?_
          refine D.take 12 rfl (by kernel_rfl) (S_sub (((((((((((((((List.Sublist.slnil).cons _).cons_cons _).cons_cons _).cons_cons _).cons_cons _).cons_cons _).cons_cons _).cons_cons _).cons_cons _).cons_cons _).cons_cons _).cons_cons _).cons_cons _).cons_cons _)) (q_addi rfl rfl rfl (by omega) (by omega)) (Wt.plain rfl) rfl rfl ?_
          refine D.take 13 rfl (by kernel_rfl) (S_sub (((((((((((((((List.Sublist.slnil).cons _).cons_cons _).cons_cons _).cons_cons _).cons_cons _).cons_cons _).cons_cons _).cons_cons _).cons_cons _).cons_cons _).cons_cons _).cons_cons _).cons_cons _).cons_cons _)) (q_ixS0 sc67 (i + 8) rfl rfl rfl (by omega) (by omega)) (Wt.plain rfl) rfl rfl ?_
          refine D.take 14 rfl (by kernel_rfl) (S_sub (((((((((((((((List.Sublist.slnil).cons _).cons_cons _).cons_cons _).cons_cons _).cons_cons _).cons_cons _).cons_cons _).cons_cons _).cons_cons _).cons_cons _).cons_cons _).cons_cons _).cons_cons _).cons_cons _)) (q_loadIJ ss61 1 rfl rfl rfl (by first | omega | (simp; done) | (simp [-List.getD_eq_getElem?_getD]; omega))) (Wt.plain rfl) rfl rfl ?_
          refine D.take 15 rfl (by kernel_rfl) (S_sub (((((((((((((((List.Sublist.slnil).cons _).cons_cons _).cons_cons _).cons_cons _).cons_cons _).cons_cons _).cons_cons _).cons_cons _).cons_cons _).cons_cons _).cons_cons _).cons_cons _).cons_cons _).cons_cons _)) (q_xor rfl rfl rfl) (Wt.plain rfl) rfl rfl ?_
          refine D.one 16 (by kernel_rfl) ?_
          refine Up.eff rfl (e_litA sc67 ze61 rfl rfl rfl (by simp [Value.cells]) rfl rfl rfl) (Wt.plain rfl) ?_
          rintro _ _ ⟨k25, rfl, rfl⟩
          refine ⟨fun _ => (S_sub ((((((((((((((((List.Sublist.slnil).cons _).cons _).cons_cons _).cons_cons _).cons_cons _).cons_cons _).cons_cons _).cons_cons _).cons_cons _).cons_cons _).cons_cons _).cons_cons _).cons_cons _).cons_cons _).cons_cons _)), ?_⟩
          change (_ : List Blk → Prop) [_, _, _, _, _, _, _, _, _, _, _, _, _, _, _]
          refine D.one 17 (by kernel_rfl) ?_
          refine Up.eff rfl (e_appendI sc67 ze61 rfl 13 .u32 (gather (fun q => bits .xor .u32 (bits .xor .u32 (h.getD q 0) ((brn (msg bs) vv 10).getD q 0)) ((brn (msg bs) vv 10).getD (q + 8) 0)) i []) [bits .xor .u32 (bits .xor .u32 ((h).getD i 0) ((brn (msg bs) vv 10).getD i 0)) ((brn (msg bs) vv 10).getD (i + 8) 0)] jq (rfl) (R_blk 14 rfl) rfl rfl rfl rfl (by first | omega | (simp; done) | (simp [-List.getD_eq_getElem?_getD]; omega) | (simp at *; omega) | rfl) (by first | omega | (simp; done) | (simp [-List.getD_eq_getElem?_getD]; omega) | (simp at *; omega) | rfl) (by first | omega | (simp; done) | (simp [-List.getD_eq_getElem?_getD]; omega) | (simp at *; omega) | rfl) (by first | omega | (simp; done) | (simp [-List.getD_eq_getElem?_getD]; omega)) (by first | omega | (simp; done) | (simp [-List.getD_eq_getElem?_getD]; omega)) rfl rfl) (Wt.plain rfl) ?_
          rintro _ _ ⟨k26, cap27, junk28, hc29, rfl, rfl⟩
          refine ⟨fun _ => (S_sub ((((((((((((((((List.Sublist.slnil).cons _).cons _).cons_cons _).cons_cons _).cons_cons _).cons_cons _).cons_cons _).cons_cons _).cons_cons _).cons_cons _).cons_cons _).cons_cons _).cons_cons _).cons_cons _).cons_cons _)), ?_⟩
          change (_ : List Blk → Prop) [_, _, _, _, _, _, _, _, _, _, _, _, _, _, _]
          refine D.one 18 (by kernel_rfl) ?_
          refine Up.q rfl (q_assign rfl rfl) (Wt.plain rfl) rfl rfl (fun h => absurd h (by decide)) ?_
          refine D.done (by kernel_rfl) ?_
          refine Ex.in_normal ?_
          refine Ex.next ?_
          refine W.less (L' := [(0, _), (11, _), (17, _), (18, _)]) [true, true, true, true, true, true, true, true, true, true, true, true, true, true, false] ⟨rfl, rfl, rfl, rfl, trivial⟩ ?_
          change (_ : List Blk → Prop) [_, _, _, _, _, _, _, _, _, _, _, _, _, _]
          refine W.region ?_
          refine T.q (q_move rfl rfl) (Wt.plain rfl) rfl rfl ?_
          refine T.q (q_addi rfl rfl rfl (by omega) (by omega)) (Wt.plain rfl) rfl rfl ?_
          refine T.q (q_assign rfl rfl) (Wt.plain rfl) rfl rfl ?_
          refine T.nil ?_
          exact Ex.again [true, true, true, true, true, true, true, true, true, true, true, true, true, true] (⟨i + 1, k26, cap27, junk28⟩ : Nat × Nat × Nat × List Value) (by dsimp only; omega) (by dsimp only; simp at *; omega) ⟨rfl, rfl, rfl, rfl, trivial⟩ (by first | (dsimp only [pick]; done) | rfl)
        · replace hb24 := of_decide_eq_false hb24
          obtain rfl : i = 8 := by omega
          refine W.exit ?_
          refine Ex.then_exit ?_
          refine Ex.then_exit ?_
          refine Ex.in_here ?_
          refine Ex.next ?_
          refine W.less (L' := [(17, _)]) [true, false, true, true, true, true, true, true, true, true, true, true, true, true] ⟨rfl, trivial⟩ ?_
          change (_ : List Blk → Prop) [_, _, _, _, _, _, _, _, _, _, _, _, _]
          refine W.seq ?_
          refine W.region ?_
          refine T.q (q_move rfl rfl) (Wt.plain rfl) rfl rfl ?_
          refine T.q (q_assign rfl rfl) (Wt.plain rfl) rfl rfl ?_
          refine T.nil ?_
          refine Ex.next ?_
          refine W.slots (L' := [(8, _)]) ⟨rfl, trivial⟩ ?_
          refine W.ret ?_
          refine Ex.out1 [false, false, false, false, false, false, false, false, false, false, false, false, true] rfl rfl ?_
          exact ⟨_, _, _, rfl, hj, by rw [pressS, ← hvv, ← hfold_gather _ h hl8]; dsimp only [pick]⟩

end Go.Proofs.YtkoomaoelekpaaaDoor
