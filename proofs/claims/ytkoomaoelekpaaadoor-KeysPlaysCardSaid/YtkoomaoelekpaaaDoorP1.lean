/-
  The walks of layer 15: what reads keys, and begins them.
-/
import Derived.Test.YtkoomaoelekpaaaDoorK5
import Derived.Test.YtkoomaoelekpaaaDoorX14
import Derived.Test.YtkoomaoelekpaaaDoorPureK
import Derived.Test.YtkoomaoelekpaaaDoorHP
namespace Go.Proofs.YtkoomaoelekpaaaDoor
open Go Go.X

set_option maxRecDepth 100000 in
theorem epoch_spec (E f : Int) (s0 s1 : List Int) (kp : Nat) (_hE : 0 ≤ E) (_hE2 : E ≤ 65535) (_h0 : s0.length = 32) (_h1 : s1.length = 32) (w0 : World) (hR : Reads w0 (some ⟨kp, 0, none⟩) (.int .i64 E :: (.int .i64 f :: (ints .u8 s0 ++ (ints .u8 s1))))) : Does Tryd.prog 41 #[.pointer (some ⟨kp, 0, none⟩)] w0 [] (fun v G => v = .int .i64 E ∧ G = []) := by
  refine spec_of 7 Tryd.func41 rfl rfl rfl ?_
  refine W.seq ?_
  refine W.region ?_
  refine T.q (q_assign rfl rfl) (Wt.plain rfl) rfl rfl ?_
  refine T.nil ?_
  refine Ex.next ?_
  refine W.slots (L' := [(0, _)]) ⟨rfl, trivial⟩ ?_
  refine W.seq ?_
  refine W.region ?_
  refine T.q (q_move rfl rfl) (Wt.plain rfl) rfl rfl ?_
  refine T.q (q_nil rfl rfl) (Wt.plain rfl) rfl rfl ?_
  refine T.q (q_fld fl76_0 rfl rfl) (Wt.plain rfl) rfl rfl ?_
  refine T.q (q_loadG ss3 (R_ext hR.ext) rfl rfl (rfl)) (Wt.plain rfl) rfl rfl ?_
  refine T.q (q_assign rfl rfl) (Wt.plain rfl) rfl rfl ?_
  refine T.nil ?_
  refine Ex.next ?_
  refine W.slots (L' := [(2, _)]) ⟨rfl, trivial⟩ ?_
  refine W.ret ?_
  refine Ex.out1 [] rfl rfl ?_
  exact ⟨rfl, rfl⟩
set_option maxRecDepth 100000 in
theorem key_none (E f : Int) (s0 s1 : List Int) (kp : Nat) (hE : 0 ≤ E) (_hE2 : E ≤ 65535) (_h0 : s0.length = 32) (_h1 : s1.length = 32) (e : Int) (hb : e < f ∨ (e ≠ E ∧ e ≠ E - 1)) (w0 : World) (hR : Reads w0 (some ⟨kp, 0, none⟩) (.int .i64 E :: (.int .i64 f :: (ints .u8 s0 ++ (ints .u8 s1))))) (_hg0 : Reads w0 (some ⟨0, 0, none⟩) (ints .u32 startW)) (_hg1 : Reads w0 (some ⟨1, 0, none⟩) (ints .u8 sgm)) (_hg2 : Reads w0 (some ⟨2, 0, none⟩) (ints .u8 tbl)) : Does Tryd.prog 40 #[.pointer (some ⟨kp, 0, none⟩), .int .i64 e] w0 [] (fun v G => v = .tuple #[.agg (ints .u8 (keyS E f s0 s1 e).1).toArray, .int .i64 (keyS E f s0 s1 e).2] ∧ G = []) := by
  refine spec_of 42 Tryd.func40 rfl rfl rfl ?_
  refine W.seq ?_
  refine W.region ?_
  refine T.eff (e_alloc ze29 rfl rfl rfl) (Wt.plain rfl) ?_
  rintro _ _ ⟨k1, rfl, rfl⟩
  change (_ : List Blk → Prop) [_]
  refine T.q (q_assign rfl rfl) (Wt.plain rfl) rfl rfl ?_
  refine T.nil ?_
  refine Ex.next ?_
  refine W.slots (L' := [(0, _), (1, _), (4, _)]) ⟨rfl, rfl, rfl, trivial⟩ ?_
  refine W.seq ?_
  refine W.seq ?_
  refine W.region ?_
  refine T.q (q_move rfl rfl) (Wt.plain rfl) rfl rfl ?_
  refine T.q (q_move rfl rfl) (Wt.plain rfl) rfl rfl ?_
  refine T.q (q_nil rfl rfl) (Wt.plain rfl) rfl rfl ?_
  refine T.q (q_fld fl76_1 rfl rfl) (Wt.plain rfl) rfl rfl ?_
  refine T.q (q_loadG ss3 (R_ext hR.ext) rfl rfl (cell_skip1 (rfl))) (Wt.plain rfl) rfl rfl ?_
  refine T.q (q_lss rfl rfl rfl) (Wt.plain rfl) rfl rfl ?_
  refine T.q (q_move rfl rfl) (Wt.plain rfl) rfl rfl ?_
  refine T.both (t := 12) _ rfl (fun hb2 => ?_) (fun hb2 => ?_)
  · replace hb2 := of_decide_eq_true hb2
    refine T.no (Wn.no rfl rfl rfl rfl) rfl rfl ?_
    refine T.no (Wn.no rfl rfl rfl rfl) rfl rfl ?_
    refine T.no (Wn.no rfl rfl rfl rfl) rfl rfl ?_
    refine T.no (Wn.no rfl rfl rfl rfl) rfl rfl ?_
    refine T.no (Wn.no rfl rfl rfl rfl) rfl rfl ?_
    refine T.no (Wn.no rfl rfl rfl rfl) rfl rfl ?_
    refine T.no (Wn.no rfl rfl rfl rfl) rfl rfl ?_
    refine T.no (Wn.none rfl rfl rfl) rfl rfl ?_
    refine T.no (Wn.none rfl rfl rfl) rfl rfl ?_
    refine T.no (Wn.none rfl rfl rfl) rfl rfl ?_
    refine T.no (Wn.none rfl rfl rfl) rfl rfl ?_
    refine T.no (Wn.none rfl rfl rfl) rfl rfl ?_
    refine T.no (Wn.none rfl rfl rfl) rfl rfl ?_
    refine T.no (Wn.none rfl rfl rfl) rfl rfl ?_
    refine T.no (Wn.no rfl rfl rfl rfl) rfl rfl ?_
    refine T.q (q_pickT rfl rfl rfl) (Wt.plain rfl) rfl rfl ?_
    refine T.nil ?_
    refine Ex.next ?_
    refine W.slots (L' := [(0, _), (1, _), (4, _), (28, _)]) ⟨rfl, rfl, rfl, rfl, trivial⟩ ?_
    refine W.condT rfl ?_
    refine W.seq ?_
    refine W.region ?_
    refine T.q (q_build (v := .agg (ints .u8 (List.replicate 32 0)).toArray) rfl rfl (fun _ => by kernel_rfl)) (Wt.plain rfl) rfl rfl ?_
    refine T.eff (e_storeA (wide_ints wd29 (by first | omega | (simp; done) | (simp [-List.getD_eq_getElem?_getD]; omega) | (simp at *; omega) | rfl)) 0 rfl rfl rfl rfl (by first | omega | (simp; done) | (simp [-List.getD_eq_getElem?_getD]; omega) | (simp at *; omega) | rfl) ints_one rfl) (Wt.plain rfl) ?_
    rintro _ _ ⟨rfl, rfl⟩
    change (_ : List Blk → Prop) [_]
    refine T.q (q_assign rfl rfl) (Wt.plain rfl) rfl rfl ?_
    refine T.nil ?_
    refine Ex.next ?_
    refine W.slots (L' := [(4, _), (5, _)]) ⟨rfl, rfl, trivial⟩ ?_
    refine W.ret ?_
    refine Ex.then_ret ?_
    refine Ex.outCT [false] 0 rfl (wide_ints wd29 (by first | omega | (simp; done) | (simp [-List.getD_eq_getElem?_getD]; omega) | (simp at *; omega) | rfl)) rfl rfl rfl ?_
    exact ⟨by rw [keyS_none _ _ _ _ _ hb], rfl⟩
  · replace hb2 := of_decide_eq_false hb2
    refine T.q (q_move rfl rfl) (Wt.yes rfl rfl rfl) rfl rfl ?_
    refine T.q (q_move rfl rfl) (Wt.yes rfl rfl rfl) rfl rfl ?_
    refine T.q (q_nil rfl rfl) (Wt.yes rfl rfl rfl) rfl rfl ?_
    refine T.q (q_fld fl76_0 rfl rfl) (Wt.yes rfl rfl rfl) rfl rfl ?_
    refine T.q (q_loadG ss3 (R_ext hR.ext) rfl rfl (rfl)) (Wt.yes rfl rfl rfl) rfl rfl ?_
    refine T.q (q_bool (b := true) (q_neq rfl rfl rfl) (decide_eq_true (by omega))) (Wt.yes rfl rfl rfl) rfl rfl ?_
    refine T.q (q_move rfl rfl) (Wt.yes rfl rfl rfl) rfl rfl ?_
    refine T.q (q_move rfl rfl) (Wt.yes rfl rfl rfl) rfl rfl ?_
    refine T.q (q_move rfl rfl) (Wt.yes rfl rfl rfl) rfl rfl ?_
    refine T.q (q_nil rfl rfl) (Wt.yes rfl rfl rfl) rfl rfl ?_
    refine T.q (q_fld fl76_0 rfl rfl) (Wt.yes rfl rfl rfl) rfl rfl ?_
    refine T.q (q_loadG ss3 (R_ext hR.ext) rfl rfl (rfl)) (Wt.yes rfl rfl rfl) rfl rfl ?_
    refine T.q (q_subi rfl rfl rfl (by omega) (by omega)) (Wt.yes rfl rfl rfl) rfl rfl ?_
    refine T.q (q_bool (b := true) (q_neq rfl rfl rfl) (decide_eq_true (by omega))) (Wt.yes rfl rfl rfl) rfl rfl ?_
    refine T.q (q_pickT rfl rfl rfl) (Wt.yes rfl rfl rfl) rfl rfl ?_
    refine T.q (q_pickF rfl rfl rfl) (Wt.plain rfl) rfl rfl ?_
    refine T.nil ?_
    refine Ex.next ?_
    refine W.slots (L' := [(0, _), (1, _), (4, _), (28, _)]) ⟨rfl, rfl, rfl, rfl, trivial⟩ ?_
    refine W.condT rfl ?_
    refine W.seq ?_
    refine W.region ?_
    refine T.q (q_build (v := .agg (ints .u8 (List.replicate 32 0)).toArray) rfl rfl (fun _ => by kernel_rfl)) (Wt.plain rfl) rfl rfl ?_
    refine T.eff (e_storeA (wide_ints wd29 (by first | omega | (simp; done) | (simp [-List.getD_eq_getElem?_getD]; omega) | (simp at *; omega) | rfl)) 0 rfl rfl rfl rfl (by first | omega | (simp; done) | (simp [-List.getD_eq_getElem?_getD]; omega) | (simp at *; omega) | rfl) ints_one rfl) (Wt.plain rfl) ?_
    rintro _ _ ⟨rfl, rfl⟩
    change (_ : List Blk → Prop) [_]
    refine T.q (q_assign rfl rfl) (Wt.plain rfl) rfl rfl ?_
    refine T.nil ?_
    refine Ex.next ?_
    refine W.slots (L' := [(4, _), (5, _)]) ⟨rfl, rfl, trivial⟩ ?_
    refine W.ret ?_
    refine Ex.then_ret ?_
    refine Ex.outCT [false] 0 rfl (wide_ints wd29 (by first | omega | (simp; done) | (simp [-List.getD_eq_getElem?_getD]; omega) | (simp at *; omega) | rfl)) rfl rfl rfl ?_
    exact ⟨by rw [keyS_none _ _ _ _ _ hb], rfl⟩
set_option maxRecDepth 100000 in
theorem key_now (E f : Int) (s0 s1 : List Int) (kp : Nat) (hE : 0 ≤ E) (_hE2 : E ≤ 65535) (h0 : s0.length = 32) (h1 : s1.length = 32) (e : Int) (hf : f ≤ E) (he : e = E) (w0 : World) (hR : Reads w0 (some ⟨kp, 0, none⟩) (.int .i64 E :: (.int .i64 f :: (ints .u8 s0 ++ (ints .u8 s1))))) (hg0 : Reads w0 (some ⟨0, 0, none⟩) (ints .u32 startW)) (hg1 : Reads w0 (some ⟨1, 0, none⟩) (ints .u8 sgm)) (hg2 : Reads w0 (some ⟨2, 0, none⟩) (ints .u8 tbl)) : Does Tryd.prog 40 #[.pointer (some ⟨kp, 0, none⟩), .int .i64 e] w0 [] (fun v G => v = .tuple #[.agg (ints .u8 (keyS E f s0 s1 e).1).toArray, .int .i64 (keyS E f s0 s1 e).2] ∧ G = []) := by
  refine spec_of 42 Tryd.func40 rfl rfl rfl ?_
  refine W.seq ?_
  refine W.region ?_
  refine T.eff (e_alloc ze29 rfl rfl rfl) (Wt.plain rfl) ?_
  rintro _ _ ⟨k1, rfl, rfl⟩
  change (_ : List Blk → Prop) [_]
  refine T.q (q_assign rfl rfl) (Wt.plain rfl) rfl rfl ?_
  refine T.nil ?_
  refine Ex.next ?_
  refine W.slots (L' := [(0, _), (1, _), (4, _)]) ⟨rfl, rfl, rfl, trivial⟩ ?_
  refine W.seq ?_
  refine W.seq ?_
  refine W.region ?_
  refine T.q (q_move rfl rfl) (Wt.plain rfl) rfl rfl ?_
  refine T.q (q_move rfl rfl) (Wt.plain rfl) rfl rfl ?_
  refine T.q (q_nil rfl rfl) (Wt.plain rfl) rfl rfl ?_
  refine T.q (q_fld fl76_1 rfl rfl) (Wt.plain rfl) rfl rfl ?_
  refine T.q (q_loadG ss3 (R_ext hR.ext) rfl rfl (cell_skip1 (rfl))) (Wt.plain rfl) rfl rfl ?_
  refine T.q (q_bool (b := false) (q_lss rfl rfl rfl) (decide_eq_false (by omega))) (Wt.plain rfl) rfl rfl ?_
  refine T.q (q_move rfl rfl) (Wt.plain rfl) rfl rfl ?_
  refine T.q (q_move rfl rfl) (Wt.yes rfl rfl rfl) rfl rfl ?_
  refine T.q (q_move rfl rfl) (Wt.yes rfl rfl rfl) rfl rfl ?_
  refine T.q (q_nil rfl rfl) (Wt.yes rfl rfl rfl) rfl rfl ?_
  refine T.q (q_fld fl76_0 rfl rfl) (Wt.yes rfl rfl rfl) rfl rfl ?_
  refine T.q (q_loadG ss3 (R_ext hR.ext) rfl rfl (rfl)) (Wt.yes rfl rfl rfl) rfl rfl ?_
  refine T.q (q_bool (b := false) (q_neq rfl rfl rfl) (decide_eq_false (by omega))) (Wt.yes rfl rfl rfl) rfl rfl ?_
  refine T.q (q_move rfl rfl) (Wt.yes rfl rfl rfl) rfl rfl ?_
  refine T.no (Wn.no rfl rfl rfl rfl) rfl rfl ?_
  refine T.no (Wn.no rfl rfl rfl rfl) rfl rfl ?_
  refine T.no (Wn.no rfl rfl rfl rfl) rfl rfl ?_
  refine T.no (Wn.no rfl rfl rfl rfl) rfl rfl ?_
  refine T.no (Wn.no rfl rfl rfl rfl) rfl rfl ?_
  refine T.no (Wn.no rfl rfl rfl rfl) rfl rfl ?_
  refine T.no (Wn.no rfl rfl rfl rfl) rfl rfl ?_
  refine T.q (q_pickF rfl rfl rfl) (Wt.yes rfl rfl rfl) rfl rfl ?_
  refine T.q (q_pickF rfl rfl rfl) (Wt.plain rfl) rfl rfl ?_
  refine T.nil ?_
  refine Ex.next ?_
  refine W.slots (L' := [(0, _), (1, _), (4, _), (28, _)]) ⟨rfl, rfl, rfl, rfl, trivial⟩ ?_
  refine W.condF rfl ?_
  refine W.skip ?_
  refine Ex.next ?_
  refine W.slots (L' := [(0, _), (1, _), (4, _)]) ⟨rfl, rfl, rfl, trivial⟩ ?_
  refine W.seq ?_
  refine W.draw 12 (by kernel_rfl) ?_
  refine D.take 0 rfl (by kernel_rfl) (fun _ h => h) (q_move rfl rfl) (Wt.plain rfl) rfl rfl ?_
  refine D.take 1 rfl (by kernel_rfl) (fun _ h => h) (q_move rfl rfl) (Wt.plain rfl) rfl rfl ?_
  refine D.take 2 rfl (by kernel_rfl) (fun _ h => h) (q_nil rfl rfl) (Wt.plain rfl) rfl rfl ?_
  refine D.take 3 rfl (by kernel_rfl) (fun _ h => h) (q_fld fl76_0 rfl rfl) (Wt.plain rfl) rfl rfl ?_
  refine D.take 4 rfl (by kernel_rfl) (fun _ h => h) (q_loadG ss3 (R_ext hR.ext) rfl rfl (rfl)) (Wt.plain rfl) rfl rfl ?_
  refine D.take 5 rfl (by kernel_rfl) (fun _ h => h) (q_move rfl rfl) (Wt.plain rfl) rfl rfl ?_
  refine D.take 6 rfl (by kernel_rfl) (fun _ h => h) (q_int (b := 0) (q_subi rfl rfl rfl (by omega) (by omega)) ?hE) (Wt.plain rfl) rfl rfl ?_
  case hE => omega
  refine D.take 7 rfl (by kernel_rfl) (fun _ h => h) (q_nil rfl rfl) (Wt.plain rfl) rfl rfl ?_
  refine D.take 8 rfl (by kernel_rfl) (fun _ h => h) (q_fld fl76_2 rfl rfl) (Wt.plain rfl) rfl rfl ?_
  refine D.take 9 rfl (by kernel_rfl) (fun _ h => h) (q_ixAs ar74 0 rfl rfl rfl (rfl) (by decide)) (Wt.plain rfl) rfl rfl ?_
  refine D.take 10 rfl (by kernel_rfl) (fun _ h => h) (q_loadW (wide_ints wd29 (by first | omega | (simp; done) | (simp [-List.getD_eq_getElem?_getD]; omega) | (simp at *; omega) | rfl)) (R_atE 2 32 (R_ext hR.ext) (part_skip1 (part_skip1 (part_first (by first | omega | (simp; done) | (simp [-List.getD_eq_getElem?_getD]; omega) | (simp at *; omega) | rfl))))) rfl rfl) (Wt.plain rfl) rfl rfl ?_
  refine D.one 11 (by kernel_rfl) ?_
  refine Up.eff rfl (e_call enters28 rfl rfl (fun w hm => of_spec s0 (by first | omega | (simp; done) | (simp; omega) | (simp at *; omega)) w (R_ext hg0.ext w hm) (R_ext hg1.ext w hm) (R_ext hg2.ext w hm)) rfl rfl) (Wt.plain rfl) ?_
  rintro _ _ ⟨_, _, ⟨rfl, rfl⟩, rfl, rfl⟩
  refine ⟨fun _ => (fun _ h => h), ?_⟩
  change (_ : List Blk → Prop) [_]
  refine D.one 12 (by kernel_rfl) ?_
  refine Up.eff rfl (e_storeA (wide_ints wd29 (by first | omega | (simp; done) | (simp [-List.getD_eq_getElem?_getD]; omega) | (simp at *; omega) | rfl)) 0 rfl rfl rfl rfl (by first | omega | (simp; done) | (simp [-List.getD_eq_getElem?_getD]; omega) | (simp at *; omega) | rfl) ints_one rfl) (Wt.plain rfl) ?_
  rintro _ _ ⟨rfl, rfl⟩
  refine ⟨fun h => absurd h (by decide), ?_⟩
  change (_ : List Blk → Prop) [_]
  refine D.one 13 (by kernel_rfl) ?_
  refine Up.q rfl (q_assign rfl rfl) (Wt.plain rfl) rfl rfl (fun h => absurd h (by decide)) ?_
  refine D.done (by kernel_rfl) ?_
  refine Ex.next ?_
  refine W.slots (L' := [(4, _), (5, _)]) ⟨rfl, rfl, trivial⟩ ?_
  refine W.ret ?_
  refine Ex.outCT [false] 0 rfl (wide_ints wd29 (by first | omega | (simp; done) | (simp [-List.getD_eq_getElem?_getD]; omega) | (simp at *; omega) | rfl)) rfl rfl rfl ?_
  exact ⟨by rw [show keyS E f s0 s1 e = (ofS s0, 0) by rw [he]; exact keyS_now _ _ _ _ hf], rfl⟩
set_option maxRecDepth 100000 in
theorem key_last (E f : Int) (s0 s1 : List Int) (kp : Nat) (hE : 0 ≤ E) (_hE2 : E ≤ 65535) (h0 : s0.length = 32) (h1 : s1.length = 32) (e : Int) (hf : f < E) (he : e = E - 1) (w0 : World) (hR : Reads w0 (some ⟨kp, 0, none⟩) (.int .i64 E :: (.int .i64 f :: (ints .u8 s0 ++ (ints .u8 s1))))) (hg0 : Reads w0 (some ⟨0, 0, none⟩) (ints .u32 startW)) (hg1 : Reads w0 (some ⟨1, 0, none⟩) (ints .u8 sgm)) (hg2 : Reads w0 (some ⟨2, 0, none⟩) (ints .u8 tbl)) : Does Tryd.prog 40 #[.pointer (some ⟨kp, 0, none⟩), .int .i64 e] w0 [] (fun v G => v = .tuple #[.agg (ints .u8 (keyS E f s0 s1 e).1).toArray, .int .i64 (keyS E f s0 s1 e).2] ∧ G = []) := by
  refine spec_of 42 Tryd.func40 rfl rfl rfl ?_
  refine W.seq ?_
  refine W.region ?_
  refine T.eff (e_alloc ze29 rfl rfl rfl) (Wt.plain rfl) ?_
  rintro _ _ ⟨k1, rfl, rfl⟩
  change (_ : List Blk → Prop) [_]
  refine T.q (q_assign rfl rfl) (Wt.plain rfl) rfl rfl ?_
  refine T.nil ?_
  refine Ex.next ?_
  refine W.slots (L' := [(0, _), (1, _), (4, _)]) ⟨rfl, rfl, rfl, trivial⟩ ?_
  refine W.seq ?_
  refine W.seq ?_
  refine W.region ?_
  refine T.q (q_move rfl rfl) (Wt.plain rfl) rfl rfl ?_
  refine T.q (q_move rfl rfl) (Wt.plain rfl) rfl rfl ?_
  refine T.q (q_nil rfl rfl) (Wt.plain rfl) rfl rfl ?_
  refine T.q (q_fld fl76_1 rfl rfl) (Wt.plain rfl) rfl rfl ?_
  refine T.q (q_loadG ss3 (R_ext hR.ext) rfl rfl (cell_skip1 (rfl))) (Wt.plain rfl) rfl rfl ?_
  refine T.q (q_bool (b := false) (q_lss rfl rfl rfl) (decide_eq_false (by omega))) (Wt.plain rfl) rfl rfl ?_
  refine T.q (q_move rfl rfl) (Wt.plain rfl) rfl rfl ?_
  refine T.q (q_move rfl rfl) (Wt.yes rfl rfl rfl) rfl rfl ?_
  refine T.q (q_move rfl rfl) (Wt.yes rfl rfl rfl) rfl rfl ?_
  refine T.q (q_nil rfl rfl) (Wt.yes rfl rfl rfl) rfl rfl ?_
  refine T.q (q_fld fl76_0 rfl rfl) (Wt.yes rfl rfl rfl) rfl rfl ?_
  refine T.q (q_loadG ss3 (R_ext hR.ext) rfl rfl (rfl)) (Wt.yes rfl rfl rfl) rfl rfl ?_
  refine T.q (q_bool (b := true) (q_neq rfl rfl rfl) (decide_eq_true (by omega))) (Wt.yes rfl rfl rfl) rfl rfl ?_
  refine T.q (q_move rfl rfl) (Wt.yes rfl rfl rfl) rfl rfl ?_
  refine T.q (q_move rfl rfl) (Wt.yes rfl rfl rfl) rfl rfl ?_
  refine T.q (q_move rfl rfl) (Wt.yes rfl rfl rfl) rfl rfl ?_
  refine T.q (q_nil rfl rfl) (Wt.yes rfl rfl rfl) rfl rfl ?_
  refine T.q (q_fld fl76_0 rfl rfl) (Wt.yes rfl rfl rfl) rfl rfl ?_
  refine T.q (q_loadG ss3 (R_ext hR.ext) rfl rfl (rfl)) (Wt.yes rfl rfl rfl) rfl rfl ?_
  refine T.q (q_subi rfl rfl rfl (by omega) (by omega)) (Wt.yes rfl rfl rfl) rfl rfl ?_
  refine T.q (q_bool (b := false) (q_neq rfl rfl rfl) (decide_eq_false (by omega))) (Wt.yes rfl rfl rfl) rfl rfl ?_
  refine T.q (q_pickT rfl rfl rfl) (Wt.yes rfl rfl rfl) rfl rfl ?_
  refine T.q (q_pickF rfl rfl rfl) (Wt.plain rfl) rfl rfl ?_
  refine T.nil ?_
  refine Ex.next ?_
  refine W.slots (L' := [(0, _), (1, _), (4, _), (28, _)]) ⟨rfl, rfl, rfl, rfl, trivial⟩ ?_
  refine W.condF rfl ?_
  refine W.skip ?_
  refine Ex.next ?_
  refine W.slots (L' := [(0, _), (1, _), (4, _)]) ⟨rfl, rfl, rfl, trivial⟩ ?_
  refine W.seq ?_
  refine W.draw 12 (by kernel_rfl) ?_
  refine D.take 0 rfl (by kernel_rfl) (fun _ h => h) (q_move rfl rfl) (Wt.plain rfl) rfl rfl ?_
  refine D.take 1 rfl (by kernel_rfl) (fun _ h => h) (q_move rfl rfl) (Wt.plain rfl) rfl rfl ?_
  refine D.take 2 rfl (by kernel_rfl) (fun _ h => h) (q_nil rfl rfl) (Wt.plain rfl) rfl rfl ?_
  refine D.take 3 rfl (by kernel_rfl) (fun _ h => h) (q_fld fl76_0 rfl rfl) (Wt.plain rfl) rfl rfl ?_
  refine D.take 4 rfl (by kernel_rfl) (fun _ h => h) (q_loadG ss3 (R_ext hR.ext) rfl rfl (rfl)) (Wt.plain rfl) rfl rfl ?_
  refine D.take 5 rfl (by kernel_rfl) (fun _ h => h) (q_move rfl rfl) (Wt.plain rfl) rfl rfl ?_
  refine D.take 6 rfl (by kernel_rfl) (fun _ h => h) (q_int (b := 1) (q_subi rfl rfl rfl (by omega) (by omega)) ?hE) (Wt.plain rfl) rfl rfl ?_
  case hE => omega
  refine D.take 7 rfl (by kernel_rfl) (fun _ h => h) (q_nil rfl rfl) (Wt.plain rfl) rfl rfl ?_
  refine D.take 8 rfl (by kernel_rfl) (fun _ h => h) (q_fld fl76_2 rfl rfl) (Wt.plain rfl) rfl rfl ?_
  refine D.take 9 rfl (by kernel_rfl) (fun _ h => h) (q_ixAs ar74 1 rfl rfl rfl (rfl) (by decide)) (Wt.plain rfl) rfl rfl ?_
  refine D.take 10 rfl (by kernel_rfl) (fun _ h => h) (q_loadW (wide_ints wd29 (by first | omega | (simp; done) | (simp [-List.getD_eq_getElem?_getD]; omega) | (simp at *; omega) | rfl)) (R_atE 34 32 (R_ext hR.ext) (part_skip1 (part_skip1 (part_skip 32 (by first | omega | (simp; done) | (simp [-List.getD_eq_getElem?_getD]; omega) | (simp at *; omega) | rfl) rfl (part_last (by first | omega | (simp; done) | (simp [-List.getD_eq_getElem?_getD]; omega) | (simp at *; omega) | rfl)))))) rfl rfl) (Wt.plain rfl) rfl rfl ?_
  refine D.one 11 (by kernel_rfl) ?_
  refine Up.eff rfl (e_call enters28 rfl rfl (fun w hm => of_spec s1 (by first | omega | (simp; done) | (simp; omega) | (simp at *; omega)) w (R_ext hg0.ext w hm) (R_ext hg1.ext w hm) (R_ext hg2.ext w hm)) rfl rfl) (Wt.plain rfl) ?_
  rintro _ _ ⟨_, _, ⟨rfl, rfl⟩, rfl, rfl⟩
  refine ⟨fun _ => (fun _ h => h), ?_⟩
  change (_ : List Blk → Prop) [_]
  refine D.one 12 (by kernel_rfl) ?_
  refine Up.eff rfl (e_storeA (wide_ints wd29 (by first | omega | (simp; done) | (simp [-List.getD_eq_getElem?_getD]; omega) | (simp at *; omega) | rfl)) 0 rfl rfl rfl rfl (by first | omega | (simp; done) | (simp [-List.getD_eq_getElem?_getD]; omega) | (simp at *; omega) | rfl) ints_one rfl) (Wt.plain rfl) ?_
  rintro _ _ ⟨rfl, rfl⟩
  refine ⟨fun h => absurd h (by decide), ?_⟩
  change (_ : List Blk → Prop) [_]
  refine D.one 13 (by kernel_rfl) ?_
  refine Up.q rfl (q_assign rfl rfl) (Wt.plain rfl) rfl rfl (fun h => absurd h (by decide)) ?_
  refine D.done (by kernel_rfl) ?_
  refine Ex.next ?_
  refine W.slots (L' := [(4, _), (5, _)]) ⟨rfl, rfl, trivial⟩ ?_
  refine W.ret ?_
  refine Ex.outCT [false] 0 rfl (wide_ints wd29 (by first | omega | (simp; done) | (simp [-List.getD_eq_getElem?_getD]; omega) | (simp at *; omega) | rfl)) rfl rfl rfl ?_
  exact ⟨by rw [keyS_last _ _ _ _ _ hf he], rfl⟩
set_option maxRecDepth 100000 in
theorem next_spec (E f : Int) (s0 s1 : List Int) (kp : Nat) (_hE : 0 ≤ E) (_hE2 : E ≤ 65535) (h0 : s0.length = 32) (h1 : s1.length = 32) (w0 : World) (hR : Reads w0 (some ⟨kp, 0, none⟩) (.int .i64 E :: (.int .i64 f :: (ints .u8 s0 ++ (ints .u8 s1))))) (hg0 : Reads w0 (some ⟨0, 0, none⟩) (ints .u32 startW)) (hg1 : Reads w0 (some ⟨1, 0, none⟩) (ints .u8 sgm)) (hg2 : Reads w0 (some ⟨2, 0, none⟩) (ints .u8 tbl)) : Does Tryd.prog 39 #[.pointer (some ⟨kp, 0, none⟩)] w0 [] (fun v G => v = .tuple #[.agg (ints .u8 (nextS E s0).1).toArray, .int .i64 (nextS E s0).2] ∧ G = []) := by
  refine spec_of 17 Tryd.func39 rfl rfl rfl ?_
  refine W.seq ?_
  refine W.region ?_
  refine T.eff (e_alloc ze29 rfl rfl rfl) (Wt.plain rfl) ?_
  rintro _ _ ⟨k1, rfl, rfl⟩
  change (_ : List Blk → Prop) [_]
  refine T.q (q_assign rfl rfl) (Wt.plain rfl) rfl rfl ?_
  refine T.nil ?_
  refine Ex.next ?_
  refine W.slots (L' := [(0, _), (2, _)]) ⟨rfl, rfl, trivial⟩ ?_
  refine W.seq ?_
  refine W.seq ?_
  refine W.region ?_
  refine T.q (q_move rfl rfl) (Wt.plain rfl) rfl rfl ?_
  refine T.q (q_nil rfl rfl) (Wt.plain rfl) rfl rfl ?_
  refine T.q (q_fld fl76_0 rfl rfl) (Wt.plain rfl) rfl rfl ?_
  refine T.q (q_loadG ss3 (R_ext hR.ext) rfl rfl (rfl)) (Wt.plain rfl) rfl rfl ?_
  refine T.q (q_geq rfl rfl rfl) (Wt.plain rfl) rfl rfl ?_
  refine T.nil ?_
  refine Ex.next ?_
  refine W.slots (L' := [(0, _), (2, _), (8, _)]) ⟨rfl, rfl, rfl, trivial⟩ ?_
  refine W.cond _ rfl (fun hb2 => ?_) (fun hb2 => ?_)
  · replace hb2 := of_decide_eq_true hb2
    refine W.seq ?_
    refine W.region ?_
    refine T.q (q_build (v := .agg (ints .u8 (List.replicate 32 0)).toArray) rfl rfl (fun _ => by kernel_rfl)) (Wt.plain rfl) rfl rfl ?_
    refine T.eff (e_storeA (wide_ints wd29 (by first | omega | (simp; done) | (simp [-List.getD_eq_getElem?_getD]; omega) | (simp at *; omega) | rfl)) 0 rfl rfl rfl rfl (by first | omega | (simp; done) | (simp [-List.getD_eq_getElem?_getD]; omega) | (simp at *; omega) | rfl) ints_one rfl) (Wt.plain rfl) ?_
    rintro _ _ ⟨rfl, rfl⟩
    change (_ : List Blk → Prop) [_]
    refine T.q (q_assign rfl rfl) (Wt.plain rfl) rfl rfl ?_
    refine T.nil ?_
    refine Ex.next ?_
    refine W.slots (L' := [(2, _), (3, _)]) ⟨rfl, rfl, trivial⟩ ?_
    refine W.ret ?_
    refine Ex.then_ret ?_
    refine Ex.outCT [false] 0 rfl (wide_ints wd29 (by first | omega | (simp; done) | (simp [-List.getD_eq_getElem?_getD]; omega) | (simp at *; omega) | rfl)) rfl rfl rfl ?_
    exact ⟨by rw [nextS, if_pos (by omega)], rfl⟩
  · replace hb2 := of_decide_eq_false hb2
    refine W.skip ?_
    refine Ex.next ?_
    refine W.slots (L' := [(0, _), (2, _)]) ⟨rfl, rfl, trivial⟩ ?_
    refine W.seq ?_
    refine W.region ?_
    refine T.q (q_move rfl rfl) (Wt.plain rfl) rfl rfl ?_
    refine T.q (q_nil rfl rfl) (Wt.plain rfl) rfl rfl ?_
    refine T.q (q_fld fl76_2 rfl rfl) (Wt.plain rfl) rfl rfl ?_
    refine T.q (q_ixAs ar74 0 rfl rfl rfl (rfl) (by decide)) (Wt.plain rfl) rfl rfl ?_
    refine T.q (q_loadW (wide_ints wd29 (by first | omega | (simp; done) | (simp [-List.getD_eq_getElem?_getD]; omega) | (simp at *; omega) | rfl)) (R_atE 2 32 (R_ext hR.ext) (part_skip1 (part_skip1 (part_first (by first | omega | (simp; done) | (simp [-List.getD_eq_getElem?_getD]; omega) | (simp at *; omega) | rfl))))) rfl rfl) (Wt.plain rfl) rfl rfl ?_
    refine T.eff (e_call enters30 rfl rfl (fun w hm => later_spec s0 (by first | omega | (simp; done) | (simp; omega) | (simp at *; omega)) w (R_ext hg0.ext w hm) (R_ext hg1.ext w hm) (R_ext hg2.ext w hm)) rfl rfl) (Wt.plain rfl) ?_
    rintro _ _ ⟨_, _, ⟨rfl, rfl⟩, rfl, rfl⟩
    change (_ : List Blk → Prop) [_]
    refine T.eff (e_call enters28 rfl rfl (fun w hm => of_spec (laterS s0) (by first | omega | (simp; done) | (simp; omega) | (simp at *; omega)) w (R_ext hg0.ext w hm) (R_ext hg1.ext w hm) (R_ext hg2.ext w hm)) rfl rfl) (Wt.plain rfl) ?_
    rintro _ _ ⟨_, _, ⟨rfl, rfl⟩, rfl, rfl⟩
    change (_ : List Blk → Prop) [_]
    refine T.eff (e_storeA (wide_ints wd29 (by first | omega | (simp; done) | (simp [-List.getD_eq_getElem?_getD]; omega) | (simp at *; omega) | rfl)) 0 rfl rfl rfl rfl (by first | omega | (simp; done) | (simp [-List.getD_eq_getElem?_getD]; omega) | (simp at *; omega) | rfl) ints_one rfl) (Wt.plain rfl) ?_
    rintro _ _ ⟨rfl, rfl⟩
    change (_ : List Blk → Prop) [_]
    refine T.q (q_assign rfl rfl) (Wt.plain rfl) rfl rfl ?_
    refine T.nil ?_
    refine Ex.next ?_
    refine W.slots (L' := [(2, _), (3, _)]) ⟨rfl, rfl, trivial⟩ ?_
    refine W.ret ?_
    refine Ex.outCT [false] 0 rfl (wide_ints wd29 (by first | omega | (simp; done) | (simp [-List.getD_eq_getElem?_getD]; omega) | (simp at *; omega) | rfl)) rfl rfl rfl ?_
    exact ⟨by rw [nextS, if_neg (by omega)], rfl⟩
set_option maxRecDepth 100000 in
theorem refnext_spec (E : Int) (s0 s1 : List Int) (hs : Bool) (kp : Nat) (_hE : 0 ≤ E) (_hE2 : E ≤ 65535) (h0 : s0.length = 32) (h1 : s1.length = 32) (w0 : World) (hR : Reads w0 (some ⟨kp, 0, none⟩) (.int .i64 E :: (ints .u8 s0 ++ (ints .u8 s1 ++ [.bool hs])))) : Does Tryd.prog 45 #[.pointer (some ⟨kp, 0, none⟩)] w0 [] (fun v G => v = .tuple #[.agg (ints .u8 (nextS E s0).1).toArray, .int .i64 (nextS E s0).2] ∧ G = []) := by
  refine spec_of 16 Tryd.func45 rfl rfl rfl ?_
  refine W.seq ?_
  refine W.region ?_
  refine T.eff (e_alloc ze29 rfl rfl rfl) (Wt.plain rfl) ?_
  rintro _ _ ⟨k1, rfl, rfl⟩
  change (_ : List Blk → Prop) [_]
  refine T.q (q_assign rfl rfl) (Wt.plain rfl) rfl rfl ?_
  refine T.nil ?_
  refine Ex.next ?_
  refine W.slots (L' := [(0, _), (2, _)]) ⟨rfl, rfl, trivial⟩ ?_
  refine W.seq ?_
  refine W.seq ?_
  refine W.region ?_
  refine T.q (q_move rfl rfl) (Wt.plain rfl) rfl rfl ?_
  refine T.q (q_nil rfl rfl) (Wt.plain rfl) rfl rfl ?_
  refine T.q (q_fld fl55_0 rfl rfl) (Wt.plain rfl) rfl rfl ?_
  refine T.q (q_loadG ss3 (R_ext hR.ext) rfl rfl (rfl)) (Wt.plain rfl) rfl rfl ?_
  refine T.q (q_geq rfl rfl rfl) (Wt.plain rfl) rfl rfl ?_
  refine T.nil ?_
  refine Ex.next ?_
  refine W.slots (L' := [(0, _), (2, _), (8, _)]) ⟨rfl, rfl, rfl, trivial⟩ ?_
  refine W.cond _ rfl (fun hb2 => ?_) (fun hb2 => ?_)
  · replace hb2 := of_decide_eq_true hb2
    refine W.seq ?_
    refine W.region ?_
    refine T.q (q_build (v := .agg (ints .u8 (List.replicate 32 0)).toArray) rfl rfl (fun _ => by kernel_rfl)) (Wt.plain rfl) rfl rfl ?_
    refine T.eff (e_storeA (wide_ints wd29 (by first | omega | (simp; done) | (simp [-List.getD_eq_getElem?_getD]; omega) | (simp at *; omega) | rfl)) 0 rfl rfl rfl rfl (by first | omega | (simp; done) | (simp [-List.getD_eq_getElem?_getD]; omega) | (simp at *; omega) | rfl) ints_one rfl) (Wt.plain rfl) ?_
    rintro _ _ ⟨rfl, rfl⟩
    change (_ : List Blk → Prop) [_]
    refine T.q (q_assign rfl rfl) (Wt.plain rfl) rfl rfl ?_
    refine T.nil ?_
    refine Ex.next ?_
    refine W.slots (L' := [(2, _), (3, _)]) ⟨rfl, rfl, trivial⟩ ?_
    refine W.ret ?_
    refine Ex.then_ret ?_
    refine Ex.outCT [false] 0 rfl (wide_ints wd29 (by first | omega | (simp; done) | (simp [-List.getD_eq_getElem?_getD]; omega) | (simp at *; omega) | rfl)) rfl rfl rfl ?_
    exact ⟨by rw [nextS, if_pos (by omega)], rfl⟩
  · replace hb2 := of_decide_eq_false hb2
    refine W.skip ?_
    refine Ex.next ?_
    refine W.slots (L' := [(0, _), (2, _)]) ⟨rfl, rfl, trivial⟩ ?_
    refine W.seq ?_
    refine W.region ?_
    refine T.q (q_move rfl rfl) (Wt.plain rfl) rfl rfl ?_
    refine T.q (q_nil rfl rfl) (Wt.plain rfl) rfl rfl ?_
    refine T.q (q_fld fl55_1 rfl rfl) (Wt.plain rfl) rfl rfl ?_
    refine T.q (q_loadW (wide_ints wd29 (by first | omega | (simp; done) | (simp [-List.getD_eq_getElem?_getD]; omega) | (simp at *; omega) | rfl)) (R_atE 1 32 (R_ext hR.ext) (part_skip1 (part_first (by first | omega | (simp; done) | (simp [-List.getD_eq_getElem?_getD]; omega) | (simp at *; omega) | rfl)))) rfl rfl) (Wt.plain rfl) rfl rfl ?_
    refine T.eff (e_call enters31 rfl rfl (fun w hm => reflater_spec s0 (by first | omega | (simp; done) | (simp; omega) | (simp at *; omega)) w) rfl rfl) (Wt.plain rfl) ?_
    rintro _ _ ⟨_, _, ⟨rfl, rfl⟩, rfl, rfl⟩
    change (_ : List Blk → Prop) [_]
    refine T.eff (e_call enters29 rfl rfl (fun w hm => refof_spec (laterS s0) (by first | omega | (simp; done) | (simp; omega) | (simp at *; omega)) w) rfl rfl) (Wt.plain rfl) ?_
    rintro _ _ ⟨_, _, ⟨rfl, rfl⟩, rfl, rfl⟩
    change (_ : List Blk → Prop) [_]
    refine T.eff (e_storeA (wide_ints wd29 (by first | omega | (simp; done) | (simp [-List.getD_eq_getElem?_getD]; omega) | (simp at *; omega) | rfl)) 0 rfl rfl rfl rfl (by first | omega | (simp; done) | (simp [-List.getD_eq_getElem?_getD]; omega) | (simp at *; omega) | rfl) ints_one rfl) (Wt.plain rfl) ?_
    rintro _ _ ⟨rfl, rfl⟩
    change (_ : List Blk → Prop) [_]
    refine T.q (q_assign rfl rfl) (Wt.plain rfl) rfl rfl ?_
    refine T.nil ?_
    refine Ex.next ?_
    refine W.slots (L' := [(2, _), (3, _)]) ⟨rfl, rfl, trivial⟩ ?_
    refine W.ret ?_
    refine Ex.outCT [false] 0 rfl (wide_ints wd29 (by first | omega | (simp; done) | (simp [-List.getD_eq_getElem?_getD]; omega) | (simp at *; omega) | rfl)) rfl rfl rfl ?_
    exact ⟨by rw [nextS, if_neg (by omega)], rfl⟩
set_option maxRecDepth 100000 in
theorem refkey_spec (E : Int) (s0 s1 : List Int) (hs : Bool) (kp : Nat) (hE : 0 ≤ E) (_hE2 : E ≤ 65535) (h0 : s0.length = 32) (h1 : s1.length = 32) (e : Int) (w0 : World) (hR : Reads w0 (some ⟨kp, 0, none⟩) (.int .i64 E :: (ints .u8 s0 ++ (ints .u8 s1 ++ [.bool hs])))) : Does Tryd.prog 44 #[.pointer (some ⟨kp, 0, none⟩), .int .i64 e] w0 [] (fun v G => v = .tuple #[.agg (ints .u8 (refKeyS E s0 s1 hs e).1).toArray, .int .i64 (refKeyS E s0 s1 hs e).2] ∧ G = []) := by
  refine spec_of 36 Tryd.func44 rfl rfl rfl ?_
  refine W.seq ?_
  refine W.region ?_
  refine T.eff (e_alloc ze29 rfl rfl rfl) (Wt.plain rfl) ?_
  rintro _ _ ⟨k1, rfl, rfl⟩
  change (_ : List Blk → Prop) [_]
  refine T.q (q_assign rfl rfl) (Wt.plain rfl) rfl rfl ?_
  refine T.nil ?_
  refine Ex.next ?_
  refine W.slots (L' := [(0, _), (1, _), (4, _)]) ⟨rfl, rfl, rfl, trivial⟩ ?_
  refine W.seq ?_
  refine W.seq ?_
  refine W.region ?_
  refine T.q (q_move rfl rfl) (Wt.plain rfl) rfl rfl ?_
  refine T.q (q_move rfl rfl) (Wt.plain rfl) rfl rfl ?_
  refine T.q (q_nil rfl rfl) (Wt.plain rfl) rfl rfl ?_
  refine T.q (q_fld fl55_0 rfl rfl) (Wt.plain rfl) rfl rfl ?_
  refine T.q (q_loadG ss3 (R_ext hR.ext) rfl rfl (rfl)) (Wt.plain rfl) rfl rfl ?_
  refine T.q (q_eql rfl rfl rfl) (Wt.plain rfl) rfl rfl ?_
  refine T.nil ?_
  refine Ex.next ?_
  refine W.slots (L' := [(0, _), (1, _), (4, _), (11, _)]) ⟨rfl, rfl, rfl, rfl, trivial⟩ ?_
  refine W.cond _ rfl (fun hb2 => ?_) (fun hb2 => ?_)
  · replace hb2 := of_decide_eq_true hb2
    refine W.seq ?_
    refine W.region ?_
    refine T.q (q_move rfl rfl) (Wt.plain rfl) rfl rfl ?_
    refine T.q (q_nil rfl rfl) (Wt.plain rfl) rfl rfl ?_
    refine T.q (q_fld fl55_1 rfl rfl) (Wt.plain rfl) rfl rfl ?_
    refine T.q (q_loadW (wide_ints wd29 (by first | omega | (simp; done) | (simp [-List.getD_eq_getElem?_getD]; omega) | (simp at *; omega) | rfl)) (R_atE 1 32 (R_ext hR.ext) (part_skip1 (part_first (by first | omega | (simp; done) | (simp [-List.getD_eq_getElem?_getD]; omega) | (simp at *; omega) | rfl)))) rfl rfl) (Wt.plain rfl) rfl rfl ?_
    refine T.eff (e_call enters29 rfl rfl (fun w hm => refof_spec s0 (by first | omega | (simp; done) | (simp; omega) | (simp at *; omega)) w) rfl rfl) (Wt.plain rfl) ?_
    rintro _ _ ⟨_, _, ⟨rfl, rfl⟩, rfl, rfl⟩
    change (_ : List Blk → Prop) [_]
    refine T.eff (e_storeA (wide_ints wd29 (by first | omega | (simp; done) | (simp [-List.getD_eq_getElem?_getD]; omega) | (simp at *; omega) | rfl)) 0 rfl rfl rfl rfl (by first | omega | (simp; done) | (simp [-List.getD_eq_getElem?_getD]; omega) | (simp at *; omega) | rfl) ints_one rfl) (Wt.plain rfl) ?_
    rintro _ _ ⟨rfl, rfl⟩
    change (_ : List Blk → Prop) [_]
    refine T.q (q_assign rfl rfl) (Wt.plain rfl) rfl rfl ?_
    refine T.nil ?_
    refine Ex.next ?_
    refine W.slots (L' := [(4, _), (5, _)]) ⟨rfl, rfl, trivial⟩ ?_
    refine W.ret ?_
    refine Ex.then_ret ?_
    refine Ex.outCT [false] 0 rfl (wide_ints wd29 (by first | omega | (simp; done) | (simp [-List.getD_eq_getElem?_getD]; omega) | (simp at *; omega) | rfl)) rfl rfl rfl ?_
    exact ⟨by rw [refKeyS, if_pos (by omega)], rfl⟩
  · replace hb2 := of_decide_eq_false hb2
    refine W.skip ?_
    refine Ex.next ?_
    refine W.slots (L' := [(0, _), (1, _), (4, _)]) ⟨rfl, rfl, rfl, trivial⟩ ?_
    refine W.seq ?_
    refine W.seq ?_
    refine W.region ?_
    refine T.q (q_move rfl rfl) (Wt.plain rfl) rfl rfl ?_
    refine T.q (q_move rfl rfl) (Wt.plain rfl) rfl rfl ?_
    refine T.q (q_nil rfl rfl) (Wt.plain rfl) rfl rfl ?_
    refine T.q (q_fld fl55_0 rfl rfl) (Wt.plain rfl) rfl rfl ?_
    refine T.q (q_loadG ss3 (R_ext hR.ext) rfl rfl (rfl)) (Wt.plain rfl) rfl rfl ?_
    refine T.q (q_subi rfl rfl rfl (by omega) (by omega)) (Wt.plain rfl) rfl rfl ?_
    refine T.q (q_eql rfl rfl rfl) (Wt.plain rfl) rfl rfl ?_
    refine T.q (q_move rfl rfl) (Wt.plain rfl) rfl rfl ?_
    refine T.both (t := 24) _ rfl (fun hb3 => ?_) (fun hb3 => ?_)
    · replace hb3 := of_decide_eq_true hb3
      refine T.q (q_move rfl rfl) (Wt.yes rfl rfl rfl) rfl rfl ?_
      refine T.q (q_nil rfl rfl) (Wt.yes rfl rfl rfl) rfl rfl ?_
      refine T.q (q_fld fl55_3 rfl rfl) (Wt.yes rfl rfl rfl) rfl rfl ?_
      refine T.q (q_loadG ss4 (R_ext hR.ext) rfl rfl (cell_skip1 (cell_skip 32 (by first | omega | (simp; done) | (simp [-List.getD_eq_getElem?_getD]; omega) | (simp at *; omega) | rfl) rfl (cell_skip 32 (by first | omega | (simp; done) | (simp [-List.getD_eq_getElem?_getD]; omega) | (simp at *; omega) | rfl) rfl (rfl))))) (Wt.yes rfl rfl rfl) rfl rfl ?_
      refine T.q (q_pickT rfl rfl rfl) (Wt.plain rfl) rfl rfl ?_
      refine T.nil ?_
      refine Ex.next ?_
      refine W.slots (L' := [(0, _), (4, _), (29, _)]) ⟨rfl, rfl, rfl, trivial⟩ ?_
      refine W.cond _ rfl (fun hb4 => ?_) (fun hb4 => ?_)
      · skip
        refine W.seq ?_
        refine W.region ?_
        refine T.q (q_move rfl rfl) (Wt.plain rfl) rfl rfl ?_
        refine T.q (q_nil rfl rfl) (Wt.plain rfl) rfl rfl ?_
        refine T.q (q_fld fl55_2 rfl rfl) (Wt.plain rfl) rfl rfl ?_
        refine T.q (q_loadW (wide_ints wd29 (by first | omega | (simp; done) | (simp [-List.getD_eq_getElem?_getD]; omega) | (simp at *; omega) | rfl)) (R_atE 33 32 (R_ext hR.ext) (part_skip1 (part_skip 32 (by first | omega | (simp; done) | (simp [-List.getD_eq_getElem?_getD]; omega) | (simp at *; omega) | rfl) rfl (part_first (by first | omega | (simp; done) | (simp [-List.getD_eq_getElem?_getD]; omega) | (simp at *; omega) | rfl))))) rfl rfl) (Wt.plain rfl) rfl rfl ?_
        refine T.eff (e_call enters29 rfl rfl (fun w hm => refof_spec s1 (by first | omega | (simp; done) | (simp; omega) | (simp at *; omega)) w) rfl rfl) (Wt.plain rfl) ?_
        rintro _ _ ⟨_, _, ⟨rfl, rfl⟩, rfl, rfl⟩
        change (_ : List Blk → Prop) [_]
        refine T.eff (e_storeA (wide_ints wd29 (by first | omega | (simp; done) | (simp [-List.getD_eq_getElem?_getD]; omega) | (simp at *; omega) | rfl)) 0 rfl rfl rfl rfl (by first | omega | (simp; done) | (simp [-List.getD_eq_getElem?_getD]; omega) | (simp at *; omega) | rfl) ints_one rfl) (Wt.plain rfl) ?_
        rintro _ _ ⟨rfl, rfl⟩
        change (_ : List Blk → Prop) [_]
        refine T.q (q_assign rfl rfl) (Wt.plain rfl) rfl rfl ?_
        refine T.nil ?_
        refine Ex.next ?_
        refine W.slots (L' := [(4, _), (5, _)]) ⟨rfl, rfl, trivial⟩ ?_
        refine W.ret ?_
        refine Ex.then_ret ?_
        refine Ex.outCT [false] 0 rfl (wide_ints wd29 (by first | omega | (simp; done) | (simp [-List.getD_eq_getElem?_getD]; omega) | (simp at *; omega) | rfl)) rfl rfl rfl ?_
        exact ⟨by rw [refKeyS, if_neg (by omega), if_pos ⟨by omega, by assumption⟩], rfl⟩
      · skip
        refine W.skip ?_
        refine Ex.next ?_
        refine W.slots (L' := [(4, _)]) ⟨rfl, trivial⟩ ?_
        refine W.seq ?_
        refine W.region ?_
        refine T.q (q_build (v := .agg (ints .u8 (List.replicate 32 0)).toArray) rfl rfl (fun _ => by kernel_rfl)) (Wt.plain rfl) rfl rfl ?_
        refine T.eff (e_storeA (wide_ints wd29 (by first | omega | (simp; done) | (simp [-List.getD_eq_getElem?_getD]; omega) | (simp at *; omega) | rfl)) 0 rfl rfl rfl rfl (by first | omega | (simp; done) | (simp [-List.getD_eq_getElem?_getD]; omega) | (simp at *; omega) | rfl) ints_one rfl) (Wt.plain rfl) ?_
        rintro _ _ ⟨rfl, rfl⟩
        change (_ : List Blk → Prop) [_]
        refine T.q (q_assign rfl rfl) (Wt.plain rfl) rfl rfl ?_
        refine T.nil ?_
        refine Ex.next ?_
        refine W.slots (L' := [(4, _), (5, _)]) ⟨rfl, rfl, trivial⟩ ?_
        refine W.ret ?_
        refine Ex.outCT [false] 0 rfl (wide_ints wd29 (by first | omega | (simp; done) | (simp [-List.getD_eq_getElem?_getD]; omega) | (simp at *; omega) | rfl)) rfl rfl rfl ?_
        exact ⟨by rw [refKeyS, if_neg (by omega), if_neg (by first | (intro hc; omega) | (rintro ⟨_, hc⟩; simp_all))], rfl⟩
    · replace hb3 := of_decide_eq_false hb3
      refine T.no (Wn.no rfl rfl rfl rfl) rfl rfl ?_
      refine T.no (Wn.no rfl rfl rfl rfl) rfl rfl ?_
      refine T.no (Wn.no rfl rfl rfl rfl) rfl rfl ?_
      refine T.no (Wn.no rfl rfl rfl rfl) rfl rfl ?_
      refine T.q (q_pickF rfl rfl rfl) (Wt.plain rfl) rfl rfl ?_
      refine T.nil ?_
      refine Ex.next ?_
      refine W.slots (L' := [(0, _), (4, _), (29, _)]) ⟨rfl, rfl, rfl, trivial⟩ ?_
      refine W.condF rfl ?_
      refine W.skip ?_
      refine Ex.next ?_
      refine W.slots (L' := [(4, _)]) ⟨rfl, trivial⟩ ?_
      refine W.seq ?_
      refine W.region ?_
      refine T.q (q_build (v := .agg (ints .u8 (List.replicate 32 0)).toArray) rfl rfl (fun _ => by kernel_rfl)) (Wt.plain rfl) rfl rfl ?_
      refine T.eff (e_storeA (wide_ints wd29 (by first | omega | (simp; done) | (simp [-List.getD_eq_getElem?_getD]; omega) | (simp at *; omega) | rfl)) 0 rfl rfl rfl rfl (by first | omega | (simp; done) | (simp [-List.getD_eq_getElem?_getD]; omega) | (simp at *; omega) | rfl) ints_one rfl) (Wt.plain rfl) ?_
      rintro _ _ ⟨rfl, rfl⟩
      change (_ : List Blk → Prop) [_]
      refine T.q (q_assign rfl rfl) (Wt.plain rfl) rfl rfl ?_
      refine T.nil ?_
      refine Ex.next ?_
      refine W.slots (L' := [(4, _), (5, _)]) ⟨rfl, rfl, trivial⟩ ?_
      refine W.ret ?_
      refine Ex.outCT [false] 0 rfl (wide_ints wd29 (by first | omega | (simp; done) | (simp [-List.getD_eq_getElem?_getD]; omega) | (simp at *; omega) | rfl)) rfl rfl rfl ?_
      exact ⟨by rw [refKeyS, if_neg (by omega), if_neg (by first | (intro hc; omega) | (rintro ⟨_, hc⟩; simp_all))], rfl⟩
set_option maxRecDepth 100000 in
theorem clone_spec (E f : Int) (s0 s1 : List Int) (kp : Nat) (_hE : 0 ≤ E) (_hE2 : E ≤ 65535) (h0 : s0.length = 32) (h1 : s1.length = 32) (w0 : World) (hR : Reads w0 (some ⟨kp, 0, none⟩) (.int .i64 E :: (.int .i64 f :: (ints .u8 s0 ++ (ints .u8 s1))))) : Does Tryd.prog 48 #[.pointer (some ⟨kp, 0, none⟩)] w0 [] (fun v G => ∃ k : Nat, v = .pointer (some ⟨k, 0, none⟩) ∧ G = [⟨some k, .int .i64 E :: (.int .i64 f :: (ints .u8 s0 ++ (ints .u8 s1))), 76, (0, 0)⟩]) := by
  refine spec_of 7 Tryd.func48 rfl rfl rfl ?_
  refine W.seq ?_
  refine W.region ?_
  refine T.q (q_assign rfl rfl) (Wt.plain rfl) rfl rfl ?_
  refine T.nil ?_
  refine Ex.next ?_
  refine W.slots (L' := [(0, _)]) ⟨rfl, trivial⟩ ?_
  refine W.seq ?_
  refine W.region ?_
  refine T.q (q_move rfl rfl) (Wt.plain rfl) rfl rfl ?_
  refine T.q (q_nil rfl rfl) (Wt.plain rfl) rfl rfl ?_
  refine T.q (q_loadW (wd76.trans (congrArg some (by simp; omega))) (R_ext hR.ext) rfl rfl) (Wt.plain rfl) rfl rfl ?_
  refine T.eff (e_alloc ze76 rfl rfl rfl) (Wt.plain rfl) ?_
  rintro _ _ ⟨k1, rfl, rfl⟩
  change (_ : List Blk → Prop) [_]
  refine T.eff (e_storeA (wd76.trans (congrArg some (by simp; omega))) 0 rfl rfl rfl rfl (by simp; omega) (one_cons rfl (one_cons rfl (one_app ints_one (ints_one)))) rfl) (Wt.plain rfl) ?_
  rintro _ _ ⟨rfl, rfl⟩
  change (_ : List Blk → Prop) [_]
  refine T.nil ?_
  refine Ex.next ?_
  refine W.slots (L' := [(3, _)]) ⟨rfl, trivial⟩ ?_
  refine W.seq ?_
  refine W.region ?_
  refine T.q (q_assign rfl rfl) (Wt.plain rfl) rfl rfl ?_
  refine T.nil ?_
  refine Ex.next ?_
  refine W.slots (L' := [(2, _)]) ⟨rfl, trivial⟩ ?_
  refine W.ret ?_
  refine Ex.out1 [true] rfl rfl ?_
  exact ⟨_, rfl, rfl⟩
set_option maxRecDepth 100000 in
theorem at_spec (key : List Int) (hk : key.length = 32) (z : Int) (w0 : World) : Does Tryd.prog 42 #[.agg (ints .u8 key).toArray, .int .i64 z] w0 [] (fun v G => ∃ k : Nat, v = .pointer (some ⟨k, 0, none⟩) ∧ G = [⟨some k, .int .i64 (eS z) :: (.int .i64 (eS z) :: (ints .u8 key ++ (ints .u8 (List.replicate 32 0)))), 76, (0, 0)⟩]) := by
  refine spec_of 14 Tryd.func42 rfl rfl rfl ?_
  refine W.seq ?_
  refine W.region ?_
  refine T.eff (e_box rfl rfl rfl rfl) (Wt.plain rfl) ?_
  rintro _ _ ⟨k1, rfl, rfl⟩
  change (_ : List Blk → Prop) [_]
  refine T.q (q_assign rfl rfl) (Wt.plain rfl) rfl rfl ?_
  refine T.nil ?_
  refine Ex.next ?_
  refine W.slots (L' := [(1, _), (2, _)]) ⟨rfl, rfl, trivial⟩ ?_
  refine W.seq ?_
  refine W.region ?_
  refine T.q (q_move rfl rfl) (Wt.plain rfl) rfl rfl ?_
  refine T.q (q_min rfl rfl rfl) (Wt.plain rfl) rfl rfl ?_
  refine T.q (q_int (b := eS z) (q_max rfl rfl rfl) rfl) (Wt.plain rfl) rfl rfl ?_
  refine T.q (q_assign rfl rfl) (Wt.plain rfl) rfl rfl ?_
  refine T.nil ?_
  refine Ex.next ?_
  refine W.slots (L' := [(1, _), (2, _)]) ⟨rfl, rfl, trivial⟩ ?_
  refine W.seq ?_
  refine W.region ?_
  refine T.q (q_move rfl rfl) (Wt.plain rfl) rfl rfl ?_
  refine T.q (q_move rfl rfl) (Wt.plain rfl) rfl rfl ?_
  refine T.q (q_loadW (wide_ints wd29 (by first | omega | (simp; done) | (simp [-List.getD_eq_getElem?_getD]; omega) | (simp at *; omega) | rfl)) (R_blk 0 rfl) rfl rfl) (Wt.plain rfl) rfl rfl ?_
  refine T.q (q_buildP (cells := ints .u8 key ++ ints .u8 (List.replicate 32 0)) bp74 ze74 rfl rfl ⟨_, _, (ints .u8 key), _, rfl, rfl, (by simp [hk]), (Nat.le_of_ble_eq_true rfl), rfl, rfl⟩) (Wt.plain rfl) rfl rfl ?_
  refine T.q (q_buildP (cells := Value.int .i64 (eS z) :: (Value.int .i64 (eS z) :: (ints .u8 key ++ (ints .u8 (List.replicate 32 0))))) bp76 ze76 rfl rfl ⟨_, _, [.int .i64 (eS z)], _, rfl, rfl, (by simp [hk]), (Nat.le_of_ble_eq_true rfl), rfl, _, _, [.int .i64 (eS z)], _, rfl, rfl, (by simp [hk]), (Nat.le_of_ble_eq_true rfl), rfl, _, _, (ints .u8 key ++ ints .u8 (List.replicate 32 0)), _, rfl, rfl, (by simp [hk]), (Nat.le_of_ble_eq_true rfl), rfl, (show ([Value.int .i64 (eS z), Value.int .i64 (eS z)] ++ (ints .u8 key ++ ints .u8 (List.replicate 32 0))) ++ ([] : List Value) = _ from List.append_nil _)⟩) (Wt.plain rfl) rfl rfl ?_
  refine T.eff (e_box rfl rfl rfl rfl) (Wt.plain rfl) ?_
  rintro _ _ ⟨k2, rfl, rfl⟩
  change (_ : List Blk → Prop) [_, _]
  refine T.q (q_assign rfl rfl) (Wt.plain rfl) rfl rfl ?_
  refine T.nil ?_
  refine Ex.next ?_
  refine W.less (L' := [(4, _)]) [false, true] ⟨rfl, trivial⟩ ?_
  change (_ : List Blk → Prop) [_]
  refine W.ret ?_
  refine Ex.out1 [true] rfl rfl ?_
  exact ⟨_, rfl, rfl⟩
set_option maxRecDepth 100000 in
theorem refat_spec (key : List Int) (hk : key.length = 32) (z : Int) (w0 : World) : Does Tryd.prog 43 #[.agg (ints .u8 key).toArray, .int .i64 z] w0 [] (fun v G => ∃ k : Nat, v = .pointer (some ⟨k, 0, none⟩) ∧ G = [⟨some k, .int .i64 (eS z) :: (ints .u8 key ++ (ints .u8 (List.replicate 32 0) ++ [.bool false])), 55, (0, 0)⟩]) := by
  refine spec_of 11 Tryd.func43 rfl rfl rfl ?_
  refine W.seq ?_
  refine W.region ?_
  refine T.eff (e_box rfl rfl rfl rfl) (Wt.plain rfl) ?_
  rintro _ _ ⟨k1, rfl, rfl⟩
  change (_ : List Blk → Prop) [_]
  refine T.q (q_assign rfl rfl) (Wt.plain rfl) rfl rfl ?_
  refine T.nil ?_
  refine Ex.next ?_
  refine W.slots (L' := [(1, _), (2, _)]) ⟨rfl, rfl, trivial⟩ ?_
  refine W.seq ?_
  refine W.region ?_
  refine T.q (q_move rfl rfl) (Wt.plain rfl) rfl rfl ?_
  refine T.q (q_min rfl rfl rfl) (Wt.plain rfl) rfl rfl ?_
  refine T.q (q_int (b := eS z) (q_max rfl rfl rfl) rfl) (Wt.plain rfl) rfl rfl ?_
  refine T.q (q_loadW (wide_ints wd29 (by first | omega | (simp; done) | (simp [-List.getD_eq_getElem?_getD]; omega) | (simp at *; omega) | rfl)) (R_blk 0 rfl) rfl rfl) (Wt.plain rfl) rfl rfl ?_
  refine T.q (q_buildP (cells := Value.int .i64 (eS z) :: (ints .u8 key ++ (ints .u8 (List.replicate 32 0) ++ [Value.bool false]))) bp55 ze55 rfl rfl ⟨_, _, [.int .i64 (eS z)], _, rfl, rfl, (by simp [hk]), (Nat.le_of_ble_eq_true rfl), rfl, _, _, (ints .u8 key), _, rfl, rfl, (by simp [hk]), (Nat.le_of_ble_eq_true rfl), rfl, rfl⟩) (Wt.plain rfl) rfl rfl ?_
  refine T.eff (e_box rfl rfl rfl rfl) (Wt.plain rfl) ?_
  rintro _ _ ⟨k2, rfl, rfl⟩
  change (_ : List Blk → Prop) [_, _]
  refine T.q (q_assign rfl rfl) (Wt.plain rfl) rfl rfl ?_
  refine T.nil ?_
  refine Ex.next ?_
  refine W.less (L' := [(4, _)]) [false, true] ⟨rfl, trivial⟩ ?_
  change (_ : List Blk → Prop) [_]
  refine W.ret ?_
  refine Ex.out1 [true] rfl rfl ?_
  exact ⟨_, rfl, rfl⟩
set_option maxRecDepth 100000 in
theorem new_spec (key : List Int) (hk : key.length = 32) (w0 : World) : Does Tryd.prog 37 #[.agg (ints .u8 key).toArray] w0 [] (fun v G => ∃ k : Nat, v = .pointer (some ⟨k, 0, none⟩) ∧ G = [⟨some k, .int .i64 0 :: (.int .i64 0 :: (ints .u8 key ++ (ints .u8 (List.replicate 32 0)))), 76, (0, 0)⟩]) := by
  refine spec_of 5 Tryd.func37 rfl rfl rfl ?_
  refine W.seq ?_
  refine W.region ?_
  refine T.eff (e_box rfl rfl rfl rfl) (Wt.plain rfl) ?_
  rintro _ _ ⟨k1, rfl, rfl⟩
  change (_ : List Blk → Prop) [_]
  refine T.q (q_assign rfl rfl) (Wt.plain rfl) rfl rfl ?_
  refine T.nil ?_
  refine Ex.next ?_
  refine W.slots (L' := [(1, _)]) ⟨rfl, trivial⟩ ?_
  refine W.seq ?_
  refine W.region ?_
  refine T.q (q_loadW (wide_ints wd29 (by first | omega | (simp; done) | (simp [-List.getD_eq_getElem?_getD]; omega) | (simp at *; omega) | rfl)) (R_blk 0 rfl) rfl rfl) (Wt.plain rfl) rfl rfl ?_
  refine T.eff (e_call enters42 rfl rfl (fun w hm => at_spec key (by first | omega | (simp; done) | (simp; omega) | (simp at *; omega)) 0 w) rfl rfl) (Wt.plain rfl) ?_
  rintro _ _ ⟨_, _, ⟨k2, rfl, rfl⟩, rfl, rfl⟩
  change (_ : List Blk → Prop) [_, _]
  refine T.q (q_assign rfl rfl) (Wt.plain rfl) rfl rfl ?_
  refine T.nil ?_
  refine Ex.next ?_
  refine W.less (L' := [(2, _)]) [false, true] ⟨rfl, trivial⟩ ?_
  change (_ : List Blk → Prop) [_]
  refine W.ret ?_
  refine Ex.out1 [true] rfl rfl ?_
  exact ⟨_, rfl, rfl⟩
set_option maxRecDepth 100000 in
theorem refnew_spec (key : List Int) (hk : key.length = 32) (w0 : World) : Does Tryd.prog 47 #[.agg (ints .u8 key).toArray] w0 [] (fun v G => ∃ k : Nat, v = .pointer (some ⟨k, 0, none⟩) ∧ G = [⟨some k, .int .i64 0 :: (ints .u8 key ++ (ints .u8 (List.replicate 32 0) ++ [.bool false])), 55, (0, 0)⟩]) := by
  refine spec_of 6 Tryd.func47 rfl rfl rfl ?_
  refine W.seq ?_
  refine W.region ?_
  refine T.eff (e_box rfl rfl rfl rfl) (Wt.plain rfl) ?_
  rintro _ _ ⟨k1, rfl, rfl⟩
  change (_ : List Blk → Prop) [_]
  refine T.q (q_assign rfl rfl) (Wt.plain rfl) rfl rfl ?_
  refine T.nil ?_
  refine Ex.next ?_
  refine W.slots (L' := [(1, _)]) ⟨rfl, trivial⟩ ?_
  refine W.seq ?_
  refine W.region ?_
  refine T.q (q_loadW (wide_ints wd29 (by first | omega | (simp; done) | (simp [-List.getD_eq_getElem?_getD]; omega) | (simp at *; omega) | rfl)) (R_blk 0 rfl) rfl rfl) (Wt.plain rfl) rfl rfl ?_
  refine T.q (q_buildP (cells := Value.int .i64 0 :: (ints .u8 key ++ (ints .u8 (List.replicate 32 0) ++ [Value.bool false]))) bp55 ze55 rfl rfl ⟨_, _, (ints .u8 key), _, rfl, rfl, (by simp [hk]), (Nat.le_of_ble_eq_true rfl), rfl, rfl⟩) (Wt.plain rfl) rfl rfl ?_
  refine T.eff (e_box rfl rfl rfl rfl) (Wt.plain rfl) ?_
  rintro _ _ ⟨k2, rfl, rfl⟩
  change (_ : List Blk → Prop) [_, _]
  refine T.q (q_assign rfl rfl) (Wt.plain rfl) rfl rfl ?_
  refine T.nil ?_
  refine Ex.next ?_
  refine W.less (L' := [(2, _)]) [false, true] ⟨rfl, trivial⟩ ?_
  change (_ : List Blk → Prop) [_]
  refine W.ret ?_
  refine Ex.out1 [true] rfl rfl ?_
  exact ⟨_, rfl, rfl⟩
theorem key_spec (E f : Int) (s0 s1 : List Int) (kp : Nat) (hE : 0 ≤ E) (hE2 : E ≤ 65535) (h0 : s0.length = 32) (h1 : s1.length = 32) (hf : f ≤ E) (e : Int) (w0 : World) (hR : Reads w0 (some ⟨kp, 0, none⟩) (.int .i64 E :: (.int .i64 f :: (ints .u8 s0 ++ (ints .u8 s1))))) (hg0 : Reads w0 (some ⟨0, 0, none⟩) (ints .u32 startW)) (hg1 : Reads w0 (some ⟨1, 0, none⟩) (ints .u8 sgm)) (hg2 : Reads w0 (some ⟨2, 0, none⟩) (ints .u8 tbl)) : Does Tryd.prog 40 #[.pointer (some ⟨kp, 0, none⟩), .int .i64 e] w0 [] (fun v G => v = .tuple #[.agg (ints .u8 (keyS E f s0 s1 e).1).toArray, .int .i64 (keyS E f s0 s1 e).2] ∧ G = []) := by
  by_cases hb : e < f ∨ (e ≠ E ∧ e ≠ E - 1)
  · exact key_none E f s0 s1 kp hE hE2 h0 h1 e hb w0 hR hg0 hg1 hg2
  · by_cases he : e = E
    · exact key_now E f s0 s1 kp hE hE2 h0 h1 e hf he w0 hR hg0 hg1 hg2
    · exact key_last E f s0 s1 kp hE hE2 h0 h1 e (by omega) (by omega) w0 hR hg0 hg1 hg2

end Go.Proofs.YtkoomaoelekpaaaDoor
