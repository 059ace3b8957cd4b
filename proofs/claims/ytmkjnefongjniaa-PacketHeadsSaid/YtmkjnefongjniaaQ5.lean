/-
  The walks of layer 11: nonces.
-/
import Derived.Test.YtmkjnefongjniaaQ2
namespace Go.Proofs.Ytmkjnefongjniaa
open Go Go.X

set_option maxRecDepth 100000 in
theorem nonce_yes (r p e c : Nat) (hr : r ≤ 1) (hp : p ≤ 255) (he : e ≤ 65535) (hc : c ≤ 281474976710655) (PA : Option Addr) (n bc : Nat) (h16 : 16 ≤ n) (h272 : n ≤ 272) (w0 : World) : Does Try.prog 37 #[.agg #[.int .i64 3, .int .i64 ((r : Nat) : Int), .int .i64 ((p : Nat) : Int), .int .i64 ((e : Nat) : Int), .int .i64 ((c : Nat) : Int), .slice PA n bc]] w0 [] (fun v G => v = .agg (ints .u8 (nn p e c)).toArray ∧ G = []) := by
  refine spec_of 19 Try.func37 rfl rfl rfl ?_
  refine W.seq ?_
  refine W.region ?_
  refine T.eff (e_box rfl rfl rfl rfl) (Wt.plain rfl) ?_
  rintro _ _ ⟨k1, rfl, rfl⟩
  change (_ : List Blk → Prop) [_]
  change (_ : List Blk → Prop) [⟨some k1, [.int .i64 3, .int .i64 ((r : Nat) : Int), .int .i64 ((p : Nat) : Int), .int .i64 ((e : Nat) : Int), .int .i64 ((c : Nat) : Int), .slice PA n bc], 40, (0, 0)⟩]
  refine T.eff (e_alloc ze44 rfl rfl rfl) (Wt.plain rfl) ?_
  rintro _ _ ⟨k2, rfl, rfl⟩
  change (_ : List Blk → Prop) [_, _]
  refine T.nil ?_
  refine Ex.next ?_
  refine W.slots (L' := [(1, _), (2, _)]) ⟨rfl, rfl, trivial⟩ ?_
  refine W.seq ?_
  refine W.region ?_
  refine T.eff (e_alloc ze44 rfl rfl rfl) (Wt.plain rfl) ?_
  rintro _ _ ⟨k3, rfl, rfl⟩
  change (_ : List Blk → Prop) [_, _, _]
  refine T.nil ?_
  refine Ex.next ?_
  refine W.slots (L' := [(1, _), (2, _), (3, _)]) ⟨rfl, rfl, rfl, trivial⟩ ?_
  refine W.seq ?_
  refine W.seq ?_
  refine W.region ?_
  refine T.q (q_loadW wd40 (R_blk 0 rfl) rfl rfl) (Wt.plain rfl) rfl rfl ?_
  refine T.eff (e_call enters35 rfl rfl (fun w hm => head_yes r p e c (by first | omega | (simp; done) | (simp; omega) | (simp at *; omega)) (by first | omega | (simp; done) | (simp; omega) | (simp at *; omega)) (by first | omega | (simp; done) | (simp; omega) | (simp at *; omega)) (by first | omega | (simp; done) | (simp; omega) | (simp at *; omega)) _ _ _ (by first | omega | (simp; done) | (simp; omega) | (simp at *; omega)) (by first | omega | (simp; done) | (simp; omega) | (simp at *; omega)) w) rfl rfl) (Wt.plain rfl) ?_
  rintro _ _ ⟨_, _, ⟨k4, cap5, junk6, rfl, hc7, rfl⟩, rfl, rfl⟩
  change (_ : List Blk → Prop) [_, _, _, _]
  refine T.q (q_assign rfl rfl) (Wt.plain rfl) rfl rfl ?_
  refine T.nil ?_
  refine Ex.next ?_
  refine W.less (L' := [(2, _), (3, _), (4, _)]) [false, true, true, true] ⟨rfl, rfl, rfl, trivial⟩ ?_
  change (_ : List Blk → Prop) [_, _, _]
  refine W.seq ?_
  refine W.region ?_
  refine T.q (q_move rfl rfl) (Wt.plain rfl) rfl rfl ?_
  refine T.q (q_len sc22 rfl rfl) (Wt.plain rfl) rfl rfl ?_
  refine T.q (q_bool (b := true) (q_eql rfl rfl rfl) (decide_eq_true (by omega))) (Wt.plain rfl) rfl rfl ?_
  refine T.nil ?_
  refine Ex.next ?_
  refine W.slots (L' := [(2, _), (3, _), (4, _), (9, _)]) ⟨rfl, rfl, rfl, rfl, trivial⟩ ?_
  refine W.condT rfl ?_
  refine W.seq ?_
  refine W.drawP 4 [true, false, true] (by kernel_rfl) ?_
  refine D.take 0 rfl (by kernel_rfl) (S_sub ((((List.Sublist.slnil).cons_cons _).cons _).cons_cons _)) (q_slA ar44 0 3 12 rfl rfl rfl ⟨_, _, rfl, rfl⟩ rfl (by first | omega | (simp; done) | (simp [-List.getD_eq_getElem?_getD]; omega)) (by first | omega | (simp; done) | (simp [-List.getD_eq_getElem?_getD]; omega)) (by first | omega | (simp; done) | (simp [-List.getD_eq_getElem?_getD]; omega)) (by simp)) (Wt.plain rfl) rfl rfl ?_
  refine D.take 1 rfl (by kernel_rfl) (S_sub ((((List.Sublist.slnil).cons_cons _).cons _).cons_cons _)) (q_move rfl rfl) (Wt.plain rfl) rfl rfl ?_
  refine D.take 2 rfl (by kernel_rfl) (S_sub ((((List.Sublist.slnil).cons_cons _).cons _).cons_cons _)) (q_sl sc22 2 5 cap5 rfl rfl ⟨_, _, rfl, rfl⟩ ⟨_, _, rfl, rfl⟩ rfl (by first | omega | (simp; done) | (simp [-List.getD_eq_getElem?_getD]; omega)) (by first | omega | (simp; done) | (simp [-List.getD_eq_getElem?_getD]; omega)) (by first | omega | (simp; done) | (simp [-List.getD_eq_getElem?_getD]; omega)) (by simp)) (Wt.plain rfl) rfl rfl ?_
  refine D.one 3 (by kernel_rfl) ?_
  refine Up.eff rfl (e_copyO sc22 1 0 (List.replicate 12 0) (((hd r p e c).drop 2).take (5 - 2)) (R_takeI (R_cutI (R_pre 2 rfl) (by first | omega | (simp; done) | (simp [-List.getD_eq_getElem?_getD]; omega) | (simp at *; omega) | rfl)) (5 - 2)) rfl rfl rfl rfl rfl (by first | omega | (simp; done) | (simp [-List.getD_eq_getElem?_getD]; omega) | (simp at *; omega) | rfl) (by first | omega | (simp; done) | (simp [-List.getD_eq_getElem?_getD]; omega)) (by first | omega | (simp; done) | (simp [-List.getD_eq_getElem?_getD]; omega) | (simp at *; omega) | rfl) rfl rfl) (Wt.plain rfl) ?_
  rintro _ _ ⟨rfl, rfl⟩
  refine ⟨fun _ => (S_sub ((((List.Sublist.slnil).cons_cons _).cons _).cons_cons _)), ?_⟩
  change (_ : List Blk → Prop) [_, _, _]
  change (_ : List Blk → Prop) [_, ⟨some k3, ints .u8 [((p : Nat) : Int), bt e 1, bt e 0, 0, 0, 0, 0, 0, 0, 0, 0, 0], 44, (0, 0)⟩, _]
  refine D.done (by kernel_rfl) ?_
  refine Ex.next ?_
  refine W.slots (L' := [(2, _), (3, _), (4, _)]) ⟨rfl, rfl, rfl, trivial⟩ ?_
  refine W.drawP 4 [true, false, true] (by kernel_rfl) ?_
  refine D.take 0 rfl (by kernel_rfl) (S_sub ((((List.Sublist.slnil).cons_cons _).cons _).cons_cons _)) (q_slA ar44 6 12 12 rfl rfl ⟨_, _, rfl, rfl⟩ rfl rfl (by first | omega | (simp; done) | (simp [-List.getD_eq_getElem?_getD]; omega)) (by first | omega | (simp; done) | (simp [-List.getD_eq_getElem?_getD]; omega)) (by first | omega | (simp; done) | (simp [-List.getD_eq_getElem?_getD]; omega)) (by simp)) (Wt.plain rfl) rfl rfl ?_
  refine D.take 1 rfl (by kernel_rfl) (S_sub ((((List.Sublist.slnil).cons_cons _).cons _).cons_cons _)) (q_move rfl rfl) (Wt.plain rfl) rfl rfl ?_
  refine D.take 2 rfl (by kernel_rfl) (S_sub ((((List.Sublist.slnil).cons_cons _).cons _).cons_cons _)) (q_sl sc22 5 11 cap5 rfl rfl ⟨_, _, rfl, rfl⟩ rfl rfl (by first | omega | (simp; done) | (simp [-List.getD_eq_getElem?_getD]; omega)) (by first | omega | (simp; done) | (simp [-List.getD_eq_getElem?_getD]; omega)) (by first | omega | (simp; done) | (simp [-List.getD_eq_getElem?_getD]; omega)) (by simp)) (Wt.plain rfl) rfl rfl ?_
  refine D.one 3 (by kernel_rfl) ?_
  refine Up.eff rfl (e_copyO sc22 1 6 [((p : Nat) : Int), bt e 1, bt e 0, 0, 0, 0, 0, 0, 0, 0, 0, 0] ((hd r p e c).drop 5) (R_cutI (R_pre 2 rfl) (by first | omega | (simp; done) | (simp [-List.getD_eq_getElem?_getD]; omega) | (simp at *; omega) | rfl)) rfl rfl rfl rfl rfl (by first | omega | (simp; done) | (simp [-List.getD_eq_getElem?_getD]; omega) | (simp at *; omega) | rfl) (by first | omega | (simp; done) | (simp [-List.getD_eq_getElem?_getD]; omega)) (by first | omega | (simp; done) | (simp [-List.getD_eq_getElem?_getD]; omega) | (simp at *; omega) | rfl) rfl rfl) (Wt.plain rfl) ?_
  rintro _ _ ⟨rfl, rfl⟩
  refine ⟨fun _ => (S_sub ((((List.Sublist.slnil).cons_cons _).cons _).cons_cons _)), ?_⟩
  change (_ : List Blk → Prop) [_, _, _]
  change (_ : List Blk → Prop) [_, ⟨some k3, ints .u8 (nn p e c), 44, (0, 0)⟩, _]
  refine D.done (by kernel_rfl) ?_
  refine Ex.next ?_
  refine W.less (L' := [(2, _), (3, _)]) [true, true, false] ⟨rfl, rfl, trivial⟩ ?_
  change (_ : List Blk → Prop) [_, _]
  refine W.seq ?_
  refine W.region ?_
  refine T.q (q_loadW (wide_ints wd44 (by first | omega | (simp; done) | (simp [-List.getD_eq_getElem?_getD]; omega) | (simp at *; omega) | rfl)) (R_blk 1 rfl) rfl rfl) (Wt.plain rfl) rfl rfl ?_
  refine T.eff (e_storeA (wide_ints wd44 (by first | omega | (simp; done) | (simp [-List.getD_eq_getElem?_getD]; omega) | (simp at *; omega) | rfl)) 0 rfl rfl rfl rfl (by first | omega | (simp; done) | (simp [-List.getD_eq_getElem?_getD]; omega) | (simp at *; omega) | rfl) ints_one rfl) (Wt.plain rfl) ?_
  rintro _ _ ⟨rfl, rfl⟩
  change (_ : List Blk → Prop) [_, _]
  refine T.nil ?_
  refine Ex.next ?_
  refine W.less (L' := [(2, _)]) [true, false] ⟨rfl, trivial⟩ ?_
  change (_ : List Blk → Prop) [_]
  refine W.ret ?_
  refine Ex.outC [false] 0 rfl (by exact wd44) rfl rfl ?_
  exact ⟨rfl, rfl⟩
set_option maxRecDepth 100000 in
theorem nonce_no (pk pr pp pe pc : Int) (PA : Option Addr) (n bc : Nat) (hno : ¬ recP pk pr pp pe pc n) (w0 : World) : Does Try.prog 37 #[.agg #[.int .i64 pk, .int .i64 pr, .int .i64 pp, .int .i64 pe, .int .i64 pc, .slice PA n bc]] w0 [] (fun v G => v = .agg (ints .u8 (List.replicate 12 0)).toArray ∧ G = []) := by
  refine spec_of 19 Try.func37 rfl rfl rfl ?_
  refine W.seq ?_
  refine W.region ?_
  refine T.eff (e_box rfl rfl rfl rfl) (Wt.plain rfl) ?_
  rintro _ _ ⟨k1, rfl, rfl⟩
  change (_ : List Blk → Prop) [_]
  change (_ : List Blk → Prop) [⟨some k1, [.int .i64 pk, .int .i64 pr, .int .i64 pp, .int .i64 pe, .int .i64 pc, .slice PA n bc], 40, (0, 0)⟩]
  refine T.eff (e_alloc ze44 rfl rfl rfl) (Wt.plain rfl) ?_
  rintro _ _ ⟨k2, rfl, rfl⟩
  change (_ : List Blk → Prop) [_, _]
  refine T.nil ?_
  refine Ex.next ?_
  refine W.slots (L' := [(1, _), (2, _)]) ⟨rfl, rfl, trivial⟩ ?_
  refine W.seq ?_
  refine W.region ?_
  refine T.eff (e_alloc ze44 rfl rfl rfl) (Wt.plain rfl) ?_
  rintro _ _ ⟨k3, rfl, rfl⟩
  change (_ : List Blk → Prop) [_, _, _]
  refine T.nil ?_
  refine Ex.next ?_
  refine W.slots (L' := [(1, _), (2, _), (3, _)]) ⟨rfl, rfl, rfl, trivial⟩ ?_
  refine W.seq ?_
  refine W.seq ?_
  refine W.region ?_
  refine T.q (q_loadW wd40 (R_blk 0 rfl) rfl rfl) (Wt.plain rfl) rfl rfl ?_
  refine T.eff (e_call enters35 rfl rfl (fun w hm => head_no _ _ _ _ _ _ _ _ (by first | assumption | (unfold recP; omega) | (unfold othP; omega) | (unfold mayP recP othP at *; omega) | (unfold recP at *; omega)) w) rfl rfl) (Wt.plain rfl) ?_
  rintro _ _ ⟨_, _, ⟨rfl, rfl⟩, rfl, rfl⟩
  change (_ : List Blk → Prop) [_, _, _]
  refine T.q (q_assign rfl rfl) (Wt.plain rfl) rfl rfl ?_
  refine T.nil ?_
  refine Ex.next ?_
  refine W.less (L' := [(2, _), (3, _), (4, _)]) [false, true, true] ⟨rfl, rfl, rfl, trivial⟩ ?_
  change (_ : List Blk → Prop) [_, _]
  refine W.seq ?_
  refine W.region ?_
  refine T.q (q_move rfl rfl) (Wt.plain rfl) rfl rfl ?_
  refine T.q (q_len sc22 rfl rfl) (Wt.plain rfl) rfl rfl ?_
  refine T.q (q_bool (b := false) (q_eql rfl rfl rfl) (decide_eq_false (by omega))) (Wt.plain rfl) rfl rfl ?_
  refine T.nil ?_
  refine Ex.next ?_
  refine W.slots (L' := [(2, _), (3, _), (4, _), (9, _)]) ⟨rfl, rfl, rfl, rfl, trivial⟩ ?_
  refine W.condF rfl ?_
  refine W.skip ?_
  refine Ex.next ?_
  refine W.slots (L' := [(2, _), (3, _)]) ⟨rfl, rfl, trivial⟩ ?_
  refine W.seq ?_
  refine W.region ?_
  refine T.q (q_loadW (wide_ints wd44 (by first | omega | (simp; done) | (simp [-List.getD_eq_getElem?_getD]; omega) | (simp at *; omega) | rfl)) (R_blk 1 rfl) rfl rfl) (Wt.plain rfl) rfl rfl ?_
  refine T.eff (e_storeA (wide_ints wd44 (by first | omega | (simp; done) | (simp [-List.getD_eq_getElem?_getD]; omega) | (simp at *; omega) | rfl)) 0 rfl rfl rfl rfl (by first | omega | (simp; done) | (simp [-List.getD_eq_getElem?_getD]; omega) | (simp at *; omega) | rfl) ints_one rfl) (Wt.plain rfl) ?_
  rintro _ _ ⟨rfl, rfl⟩
  change (_ : List Blk → Prop) [_, _]
  refine T.nil ?_
  refine Ex.next ?_
  refine W.less (L' := [(2, _)]) [true, false] ⟨rfl, trivial⟩ ?_
  change (_ : List Blk → Prop) [_]
  refine W.ret ?_
  refine Ex.outC [false] 0 rfl (by exact wd44) rfl rfl ?_
  exact ⟨rfl, rfl⟩
set_option maxRecDepth 100000 in
theorem refnonce_yes (r p e c : Nat) (hr : r ≤ 1) (hp : p ≤ 255) (he : e ≤ 65535) (hc : c ≤ 281474976710655) (PA : Option Addr) (n bc : Nat) (h16 : 16 ≤ n) (h272 : n ≤ 272) (w0 : World) : Does Try.prog 38 #[.agg #[.int .i64 3, .int .i64 ((r : Nat) : Int), .int .i64 ((p : Nat) : Int), .int .i64 ((e : Nat) : Int), .int .i64 ((c : Nat) : Int), .slice PA n bc]] w0 [] (fun v G => v = .agg (ints .u8 (nn p e c)).toArray ∧ G = []) := by
  refine spec_of 38 Try.func38 rfl rfl rfl ?_
  refine W.seq ?_
  refine W.region ?_
  refine T.eff (e_box rfl rfl rfl rfl) (Wt.plain rfl) ?_
  rintro _ _ ⟨k1, rfl, rfl⟩
  change (_ : List Blk → Prop) [_]
  change (_ : List Blk → Prop) [⟨some k1, [.int .i64 3, .int .i64 ((r : Nat) : Int), .int .i64 ((p : Nat) : Int), .int .i64 ((e : Nat) : Int), .int .i64 ((c : Nat) : Int), .slice PA n bc], 40, (0, 0)⟩]
  refine T.eff (e_alloc ze44 rfl rfl rfl) (Wt.plain rfl) ?_
  rintro _ _ ⟨k2, rfl, rfl⟩
  change (_ : List Blk → Prop) [_, _]
  refine T.nil ?_
  refine Ex.next ?_
  refine W.slots (L' := [(1, _), (2, _)]) ⟨rfl, rfl, trivial⟩ ?_
  refine W.seq ?_
  refine W.region ?_
  refine T.q (q_build (v := .agg (ints .u8 (List.replicate 12 0)).toArray) rfl rfl (fun _ => by kernel_rfl)) (Wt.plain rfl) rfl rfl ?_
  refine T.eff (e_alloc ze44 rfl rfl rfl) (Wt.plain rfl) ?_
  rintro _ _ ⟨k3, rfl, rfl⟩
  change (_ : List Blk → Prop) [_, _, _]
  refine T.eff (e_storeA (wide_ints wd44 (by first | omega | (simp; done) | (simp [-List.getD_eq_getElem?_getD]; omega) | (simp at *; omega) | rfl)) 2 rfl rfl rfl rfl (by first | omega | (simp; done) | (simp [-List.getD_eq_getElem?_getD]; omega) | (simp at *; omega) | rfl) ints_one rfl) (Wt.plain rfl) ?_
  rintro _ _ ⟨rfl, rfl⟩
  change (_ : List Blk → Prop) [_, _, _]
  refine T.nil ?_
  refine Ex.next ?_
  refine W.slots (L' := [(1, _), (2, _), (3, _)]) ⟨rfl, rfl, rfl, trivial⟩ ?_
  refine W.seq ?_
  refine W.region ?_
  refine T.q (q_loadW wd40 (R_blk 0 rfl) rfl rfl) (Wt.plain rfl) rfl rfl ?_
  refine T.eff (e_call enters36 rfl rfl (fun w hm => refhead_yes r p e c (by first | omega | (simp; done) | (simp; omega) | (simp at *; omega)) (by first | omega | (simp; done) | (simp; omega) | (simp at *; omega)) (by first | omega | (simp; done) | (simp; omega) | (simp at *; omega)) (by first | omega | (simp; done) | (simp; omega) | (simp at *; omega)) _ _ _ (by first | omega | (simp; done) | (simp; omega) | (simp at *; omega)) (by first | omega | (simp; done) | (simp; omega) | (simp at *; omega)) w) rfl rfl) (Wt.plain rfl) ?_
  rintro _ _ ⟨_, _, ⟨k4, cap5, junk6, rfl, hc7, rfl⟩, rfl, rfl⟩
  change (_ : List Blk → Prop) [_, _, _, _]
  refine T.q (q_assign rfl rfl) (Wt.plain rfl) rfl rfl ?_
  refine T.nil ?_
  refine Ex.next ?_
  refine W.less (L' := [(2, _), (3, _), (4, _)]) [false, true, true, true] ⟨rfl, rfl, rfl, trivial⟩ ?_
  change (_ : List Blk → Prop) [_, _, _]
  refine W.seq ?_
  refine W.seq ?_
  refine W.region ?_
  refine T.q (q_move rfl rfl) (Wt.plain rfl) rfl rfl ?_
  refine T.q (q_len sc22 rfl rfl) (Wt.plain rfl) rfl rfl ?_
  refine T.q (q_bool (b := false) (q_eql rfl rfl rfl) (decide_eq_false (by omega))) (Wt.plain rfl) rfl rfl ?_
  refine T.nil ?_
  refine Ex.next ?_
  refine W.slots (L' := [(2, _), (3, _), (4, _), (12, _)]) ⟨rfl, rfl, rfl, rfl, trivial⟩ ?_
  refine W.condF rfl ?_
  refine W.skip ?_
  refine Ex.next ?_
  refine W.slots (L' := [(2, _), (3, _), (4, _)]) ⟨rfl, rfl, rfl, trivial⟩ ?_
  refine W.seq ?_
  refine W.seq ?_
  refine W.region ?_
  refine T.q (q_assign rfl rfl) (Wt.plain rfl) rfl rfl ?_
  refine T.nil ?_
  refine Ex.next ?_
  refine W.slots (L' := [(2, _), (3, _), (4, _), (5, _)]) ⟨rfl, rfl, rfl, rfl, trivial⟩ ?_
  refine W.block ?_
  refine W.loop (α := Nat) (fun i => [(2, .pointer (some ⟨k2, 0, none⟩)), (3, .pointer (some ⟨k3, 0, none⟩)), (4, .slice (some ⟨k4, 0, none⟩) 11 cap5), (5, .int .i64 ((i : Nat) : Int))]) (fun i => [⟨some k2, ints .u8 (List.replicate 12 0), 44, (0, 0)⟩, ⟨some k3, ints .u8 (nnA r p e c i), 44, (0, 0)⟩, ⟨some k4, ints .u8 (hd r p e c) ++ junk6, 5, (0, 0)⟩]) (fun i => i ≤ 3) (fun i => 3 - i) [true, true, true] 0 (by omega) ⟨rfl, rfl, rfl, rfl, trivial⟩ rfl ?_
  rintro i hi
  refine W.seq ?_
  refine W.seq ?_
  refine W.region ?_
  refine T.q (q_move rfl rfl) (Wt.plain rfl) rfl rfl ?_
  refine T.q (q_lss rfl rfl rfl) (Wt.plain rfl) rfl rfl ?_
  refine T.nil ?_
  refine Ex.next ?_
  refine W.slots (L' := [(2, _), (3, _), (4, _), (5, _), (15, _)]) ⟨rfl, rfl, rfl, rfl, rfl, trivial⟩ ?_
  refine W.cond _ rfl (fun hb8 => ?_) (fun hb8 => ?_)
  · replace hb8 := of_decide_eq_true hb8
    have hin : i < 3 := by omega
    refine W.skip ?_
    refine Ex.next ?_
    refine W.slots (L' := [(2, _), (3, _), (4, _), (5, _)]) ⟨rfl, rfl, rfl, rfl, trivial⟩ ?_
    refine W.seq ?_
    refine W.block ?_
    refine W.region ?_
    refine T.q (q_move rfl rfl) (Wt.plain rfl) rfl rfl ?_
    refine T.q (q_move rfl rfl) (Wt.plain rfl) rfl rfl ?_
    refine T.q (q_move rfl rfl) (Wt.plain rfl) rfl rfl ?_
    refine T.q (q_addi rfl rfl rfl (by omega) (by omega)) (Wt.plain rfl) rfl rfl ?_
    refine T.q (q_ixS0 sc22 (2 + i) rfl rfl rfl (by omega) (by omega)) (Wt.plain rfl) rfl rfl ?_
    refine T.q (q_loadIJ ss5 2 rfl rfl rfl (by first | omega | (simp; done) | (simp [-List.getD_eq_getElem?_getD]; omega))) (Wt.plain rfl) rfl rfl ?_
    refine T.q (q_ixA0 ar44 i rfl rfl rfl (by omega) (by omega)) (Wt.plain rfl) rfl rfl ?_
    refine T.eff (e_storeI ss5 1 rfl rfl rfl rfl (by rw [nnA_length] <;> omega) rfl) (Wt.plain rfl) ?_
    rintro _ _ ⟨rfl, rfl⟩
    change (_ : List Blk → Prop) [_, _, _]
    refine T.nil ?_
    refine Ex.in_normal ?_
    refine Ex.next ?_
    refine W.slots (L' := [(2, _), (3, _), (4, _), (5, _)]) ⟨rfl, rfl, rfl, rfl, trivial⟩ ?_
    refine W.region ?_
    refine T.q (q_move rfl rfl) (Wt.plain rfl) rfl rfl ?_
    refine T.q (q_addi rfl rfl rfl (by omega) (by omega)) (Wt.plain rfl) rfl rfl ?_
    refine T.q (q_assign rfl rfl) (Wt.plain rfl) rfl rfl ?_
    refine T.nil ?_
    exact Ex.again [true, true, true] (i + 1) (by omega) (by omega) ⟨rfl, rfl, rfl, rfl, trivial⟩ (congrArg (fun r_ : List Int => ([⟨some k2, ints .u8 (List.replicate 12 0), 44, (0, 0)⟩, ⟨some k3, ints .u8 r_, 44, (0, 0)⟩, ⟨some k4, ints .u8 (hd r p e c) ++ junk6, 5, (0, 0)⟩] : List Blk)) (nnA_step r p e c hin))
  · replace hb8 := of_decide_eq_false hb8
    obtain rfl : i = 3 := by omega
    refine W.exit ?_
    refine Ex.then_exit ?_
    refine Ex.then_exit ?_
    refine Ex.in_here ?_
    refine Ex.next ?_
    refine W.slots (L' := [(2, _), (3, _), (4, _)]) ⟨rfl, rfl, rfl, trivial⟩ ?_
    refine W.seq ?_
    refine W.seq ?_
    refine W.region ?_
    refine T.q (q_assign rfl rfl) (Wt.plain rfl) rfl rfl ?_
    refine T.nil ?_
    refine Ex.next ?_
    refine W.slots (L' := [(2, _), (3, _), (4, _), (6, _)]) ⟨rfl, rfl, rfl, rfl, trivial⟩ ?_
    refine W.block ?_
    refine W.loop (α := Nat) (fun j => [(2, .pointer (some ⟨k2, 0, none⟩)), (3, .pointer (some ⟨k3, 0, none⟩)), (4, .slice (some ⟨k4, 0, none⟩) 11 cap5), (6, .int .i64 ((j : Nat) : Int))]) (fun j => [⟨some k2, ints .u8 (List.replicate 12 0), 44, (0, 0)⟩, ⟨some k3, ints .u8 (nnB r p e c j), 44, (0, 0)⟩, ⟨some k4, ints .u8 (hd r p e c) ++ junk6, 5, (0, 0)⟩]) (fun j => j ≤ 6) (fun j => 6 - j) [true, true, true] 0 (by omega) ⟨rfl, rfl, rfl, rfl, trivial⟩ rfl ?_
    rintro j hj
    refine W.seq ?_
    refine W.seq ?_
    refine W.region ?_
    refine T.q (q_move rfl rfl) (Wt.plain rfl) rfl rfl ?_
    refine T.q (q_lss rfl rfl rfl) (Wt.plain rfl) rfl rfl ?_
    refine T.nil ?_
    refine Ex.next ?_
    refine W.slots (L' := [(2, _), (3, _), (4, _), (6, _), (26, _)]) ⟨rfl, rfl, rfl, rfl, rfl, trivial⟩ ?_
    refine W.cond _ rfl (fun hb9 => ?_) (fun hb9 => ?_)
    · replace hb9 := of_decide_eq_true hb9
      have hjn : j < 6 := by omega
      refine W.skip ?_
      refine Ex.next ?_
      refine W.slots (L' := [(2, _), (3, _), (4, _), (6, _)]) ⟨rfl, rfl, rfl, rfl, trivial⟩ ?_
      refine W.seq ?_
      refine W.block ?_
      refine W.region ?_
      refine T.q (q_move rfl rfl) (Wt.plain rfl) rfl rfl ?_
      refine T.q (q_addi rfl rfl rfl (by omega) (by omega)) (Wt.plain rfl) rfl rfl ?_
      refine T.q (q_move rfl rfl) (Wt.plain rfl) rfl rfl ?_
      refine T.q (q_move rfl rfl) (Wt.plain rfl) rfl rfl ?_
      refine T.q (q_addi rfl rfl rfl (by omega) (by omega)) (Wt.plain rfl) rfl rfl ?_
      refine T.q (q_ixS0 sc22 (5 + j) rfl rfl rfl (by omega) (by omega)) (Wt.plain rfl) rfl rfl ?_
      refine T.q (q_loadIJ ss5 2 rfl rfl rfl (by first | omega | (simp; done) | (simp [-List.getD_eq_getElem?_getD]; omega))) (Wt.plain rfl) rfl rfl ?_
      refine T.q (q_ixA0 ar44 (6 + j) rfl rfl rfl (by omega) (by omega)) (Wt.plain rfl) rfl rfl ?_
      refine T.eff (e_storeI ss5 1 rfl rfl rfl rfl (by rw [nnB_length] <;> omega) rfl) (Wt.plain rfl) ?_
      rintro _ _ ⟨rfl, rfl⟩
      change (_ : List Blk → Prop) [_, _, _]
      refine T.nil ?_
      refine Ex.in_normal ?_
      refine Ex.next ?_
      refine W.slots (L' := [(2, _), (3, _), (4, _), (6, _)]) ⟨rfl, rfl, rfl, rfl, trivial⟩ ?_
      refine W.region ?_
      refine T.q (q_move rfl rfl) (Wt.plain rfl) rfl rfl ?_
      refine T.q (q_addi rfl rfl rfl (by omega) (by omega)) (Wt.plain rfl) rfl rfl ?_
      refine T.q (q_assign rfl rfl) (Wt.plain rfl) rfl rfl ?_
      refine T.nil ?_
      exact Ex.again [true, true, true] (j + 1) (by omega) (by omega) ⟨rfl, rfl, rfl, rfl, trivial⟩ (congrArg (fun r_ : List Int => ([⟨some k2, ints .u8 (List.replicate 12 0), 44, (0, 0)⟩, ⟨some k3, ints .u8 r_, 44, (0, 0)⟩, ⟨some k4, ints .u8 (hd r p e c) ++ junk6, 5, (0, 0)⟩] : List Blk)) (nnB_step r p e c hjn))
    · replace hb9 := of_decide_eq_false hb9
      obtain rfl : j = 6 := by omega
      refine W.exit ?_
      refine Ex.then_exit ?_
      refine Ex.then_exit ?_
      refine Ex.in_here ?_
      refine Ex.next ?_
      refine W.less (L' := [(2, _), (3, _)]) [true, true, false] ⟨rfl, rfl, trivial⟩ ?_
      change (_ : List Blk → Prop) [_, _]
      refine W.seq ?_
      refine W.region ?_
      refine T.q (q_loadW (wide_ints wd44 (by first | omega | (simp; done) | (simp [-List.getD_eq_getElem?_getD]; omega) | (simp at *; omega) | rfl)) (R_blk 1 rfl) rfl rfl) (Wt.plain rfl) rfl rfl ?_
      refine T.eff (e_storeA (wide_ints wd44 (by first | omega | (simp; done) | (simp [-List.getD_eq_getElem?_getD]; omega) | (simp at *; omega) | rfl)) 0 rfl rfl rfl rfl (by first | omega | (simp; done) | (simp [-List.getD_eq_getElem?_getD]; omega) | (simp at *; omega) | rfl) ints_one rfl) (Wt.plain rfl) ?_
      rintro _ _ ⟨rfl, rfl⟩
      change (_ : List Blk → Prop) [_, _]
      refine T.nil ?_
      refine Ex.next ?_
      refine W.less (L' := [(2, _)]) [true, false] ⟨rfl, trivial⟩ ?_
      change (_ : List Blk → Prop) [_]
      refine W.ret ?_
      refine Ex.outC [false] 0 rfl (by exact wd44) rfl rfl ?_
      exact ⟨rfl, rfl⟩
set_option maxRecDepth 100000 in
theorem refnonce_no (pk pr pp pe pc : Int) (PA : Option Addr) (n bc : Nat) (hno : ¬ recP pk pr pp pe pc n) (w0 : World) : Does Try.prog 38 #[.agg #[.int .i64 pk, .int .i64 pr, .int .i64 pp, .int .i64 pe, .int .i64 pc, .slice PA n bc]] w0 [] (fun v G => v = .agg (ints .u8 (List.replicate 12 0)).toArray ∧ G = []) := by
  refine spec_of 38 Try.func38 rfl rfl rfl ?_
  refine W.seq ?_
  refine W.region ?_
  refine T.eff (e_box rfl rfl rfl rfl) (Wt.plain rfl) ?_
  rintro _ _ ⟨k1, rfl, rfl⟩
  change (_ : List Blk → Prop) [_]
  change (_ : List Blk → Prop) [⟨some k1, [.int .i64 pk, .int .i64 pr, .int .i64 pp, .int .i64 pe, .int .i64 pc, .slice PA n bc], 40, (0, 0)⟩]
  refine T.eff (e_alloc ze44 rfl rfl rfl) (Wt.plain rfl) ?_
  rintro _ _ ⟨k2, rfl, rfl⟩
  change (_ : List Blk → Prop) [_, _]
  refine T.nil ?_
  refine Ex.next ?_
  refine W.slots (L' := [(1, _), (2, _)]) ⟨rfl, rfl, trivial⟩ ?_
  refine W.seq ?_
  refine W.region ?_
  refine T.q (q_build (v := .agg (ints .u8 (List.replicate 12 0)).toArray) rfl rfl (fun _ => by kernel_rfl)) (Wt.plain rfl) rfl rfl ?_
  refine T.eff (e_alloc ze44 rfl rfl rfl) (Wt.plain rfl) ?_
  rintro _ _ ⟨k3, rfl, rfl⟩
  change (_ : List Blk → Prop) [_, _, _]
  refine T.eff (e_storeA (wide_ints wd44 (by first | omega | (simp; done) | (simp [-List.getD_eq_getElem?_getD]; omega) | (simp at *; omega) | rfl)) 2 rfl rfl rfl rfl (by first | omega | (simp; done) | (simp [-List.getD_eq_getElem?_getD]; omega) | (simp at *; omega) | rfl) ints_one rfl) (Wt.plain rfl) ?_
  rintro _ _ ⟨rfl, rfl⟩
  change (_ : List Blk → Prop) [_, _, _]
  refine T.nil ?_
  refine Ex.next ?_
  refine W.slots (L' := [(1, _), (2, _), (3, _)]) ⟨rfl, rfl, rfl, trivial⟩ ?_
  refine W.seq ?_
  refine W.region ?_
  refine T.q (q_loadW wd40 (R_blk 0 rfl) rfl rfl) (Wt.plain rfl) rfl rfl ?_
  refine T.eff (e_call enters36 rfl rfl (fun w hm => refhead_no _ _ _ _ _ _ _ _ (by first | assumption | (unfold recP; omega) | (unfold othP; omega) | (unfold mayP recP othP at *; omega) | (unfold recP at *; omega)) w) rfl rfl) (Wt.plain rfl) ?_
  rintro _ _ ⟨_, _, ⟨rfl, rfl⟩, rfl, rfl⟩
  change (_ : List Blk → Prop) [_, _, _]
  refine T.q (q_assign rfl rfl) (Wt.plain rfl) rfl rfl ?_
  refine T.nil ?_
  refine Ex.next ?_
  refine W.less (L' := [(2, _), (3, _), (4, _)]) [false, true, true] ⟨rfl, rfl, rfl, trivial⟩ ?_
  change (_ : List Blk → Prop) [_, _]
  refine W.seq ?_
  refine W.seq ?_
  refine W.region ?_
  refine T.q (q_move rfl rfl) (Wt.plain rfl) rfl rfl ?_
  refine T.q (q_len sc22 rfl rfl) (Wt.plain rfl) rfl rfl ?_
  refine T.q (q_bool (b := true) (q_eql rfl rfl rfl) (decide_eq_true (by omega))) (Wt.plain rfl) rfl rfl ?_
  refine T.nil ?_
  refine Ex.next ?_
  refine W.slots (L' := [(2, _), (3, _), (4, _), (12, _)]) ⟨rfl, rfl, rfl, rfl, trivial⟩ ?_
  refine W.condT rfl ?_
  refine W.seq ?_
  refine W.region ?_
  refine T.q (q_loadW (wide_ints wd44 (by first | omega | (simp; done) | (simp [-List.getD_eq_getElem?_getD]; omega) | (simp at *; omega) | rfl)) (R_blk 1 rfl) rfl rfl) (Wt.plain rfl) rfl rfl ?_
  refine T.eff (e_storeA (wide_ints wd44 (by first | omega | (simp; done) | (simp [-List.getD_eq_getElem?_getD]; omega) | (simp at *; omega) | rfl)) 0 rfl rfl rfl rfl (by first | omega | (simp; done) | (simp [-List.getD_eq_getElem?_getD]; omega) | (simp at *; omega) | rfl) ints_one rfl) (Wt.plain rfl) ?_
  rintro _ _ ⟨rfl, rfl⟩
  change (_ : List Blk → Prop) [_, _]
  refine T.nil ?_
  refine Ex.next ?_
  refine W.less (L' := [(2, _)]) [true, false] ⟨rfl, trivial⟩ ?_
  change (_ : List Blk → Prop) [_]
  refine W.ret ?_
  refine Ex.then_ret ?_
  refine Ex.outC [false] 0 rfl (by exact wd44) rfl rfl ?_
  exact ⟨rfl, rfl⟩

end Go.Proofs.Ytmkjnefongjniaa
