/-
  The walks of layer 8: bytes of a key.
-/
import Derived.Test.YtkoomaoelekpaaaDoorK1
import Derived.Test.YtkoomaoelekpaaaDoorPureE
namespace Go.Proofs.YtkoomaoelekpaaaDoor
open Go Go.X

set_option maxRecDepth 100000 in
theorem expand_bad (key info : List Int) (IA : Option Addr) (ic : Nat) (_hk : key.length = 32) (_hic : info.length ≤ ic) (_hil : info.length ≤ 140737488354800) (z : Int) (hbad : z < 0 ∨ 8160 < z) (w0 : World) (_hI : Reads w0 IA (ints .u8 info)) : Does Tryd.prog 26 #[.agg (ints .u8 key).toArray, .slice IA info.length ic, .int .i64 z] w0 [] (fun v G => v = .tuple #[.slice none 0 0, .int .i64 1] ∧ G = []) := by
  refine spec_of 44 Tryd.func26 rfl rfl rfl ?_
  refine W.seq ?_
  refine W.region ?_
  refine T.eff (e_box rfl rfl rfl rfl) (Wt.plain rfl) ?_
  rintro _ _ ⟨k1, rfl, rfl⟩
  change (_ : List Blk → Prop) [_]
  refine T.q (q_assign rfl rfl) (Wt.plain rfl) rfl rfl ?_
  refine T.q (q_assign rfl rfl) (Wt.plain rfl) rfl rfl ?_
  refine T.nil ?_
  refine Ex.next ?_
  refine W.slots (L' := [(1, _), (2, _), (3, _)]) ⟨rfl, rfl, rfl, trivial⟩ ?_
  refine W.seq ?_
  refine W.seq ?_
  refine W.region ?_
  refine T.q (q_move rfl rfl) (Wt.plain rfl) rfl rfl ?_
  refine T.q (q_lss rfl rfl rfl) (Wt.plain rfl) rfl rfl ?_
  refine T.q (q_move rfl rfl) (Wt.plain rfl) rfl rfl ?_
  refine T.both (t := 14) _ rfl (fun hb2 => ?_) (fun hb2 => ?_)
  · replace hb2 := of_decide_eq_true hb2
    refine T.no (Wn.no rfl rfl rfl rfl) rfl rfl ?_
    refine T.no (Wn.no rfl rfl rfl rfl) rfl rfl ?_
    refine T.q (q_pickT rfl rfl rfl) (Wt.plain rfl) rfl rfl ?_
    refine T.nil ?_
    refine Ex.next ?_
    refine W.slots (L' := [(1, _), (2, _), (3, _), (17, _)]) ⟨rfl, rfl, rfl, rfl, trivial⟩ ?_
    refine W.condT rfl ?_
    refine W.seq ?_
    refine W.region ?_
    refine T.q (q_assign rfl rfl) (Wt.plain rfl) rfl rfl ?_
    refine T.q (q_assign rfl rfl) (Wt.plain rfl) rfl rfl ?_
    refine T.nil ?_
    refine Ex.next ?_
    refine W.less (L' := [(6, _), (7, _)]) [false] ⟨rfl, rfl, trivial⟩ ?_
    change (_ : List Blk → Prop) []
    refine W.ret ?_
    refine Ex.then_ret ?_
    refine Ex.out2 [] rfl rfl rfl ?_
    exact ⟨rfl, rfl⟩
  · replace hb2 := of_decide_eq_false hb2
    refine T.q (q_move rfl rfl) (Wt.yes rfl rfl rfl) rfl rfl ?_
    refine T.q (q_bool (b := true) (q_gtr rfl rfl rfl) (decide_eq_true (by omega))) (Wt.yes rfl rfl rfl) rfl rfl ?_
    refine T.q (q_pickF rfl rfl rfl) (Wt.plain rfl) rfl rfl ?_
    refine T.nil ?_
    refine Ex.next ?_
    refine W.slots (L' := [(1, _), (2, _), (3, _), (17, _)]) ⟨rfl, rfl, rfl, rfl, trivial⟩ ?_
    refine W.condT rfl ?_
    refine W.seq ?_
    refine W.region ?_
    refine T.q (q_assign rfl rfl) (Wt.plain rfl) rfl rfl ?_
    refine T.q (q_assign rfl rfl) (Wt.plain rfl) rfl rfl ?_
    refine T.nil ?_
    refine Ex.next ?_
    refine W.less (L' := [(6, _), (7, _)]) [false] ⟨rfl, rfl, trivial⟩ ?_
    change (_ : List Blk → Prop) []
    refine W.ret ?_
    refine Ex.then_ret ?_
    refine Ex.out2 [] rfl rfl rfl ?_
    exact ⟨rfl, rfl⟩
set_option maxRecDepth 100000 in
theorem refexpand_bad (key info : List Int) (IA : Option Addr) (ic : Nat) (_hk : key.length = 32) (_hic : info.length ≤ ic) (_hil : info.length ≤ 140737488354800) (z : Int) (hbad : z < 0 ∨ 8160 < z) (w0 : World) (_hI : Reads w0 IA (ints .u8 info)) : Does Tryd.prog 27 #[.agg (ints .u8 key).toArray, .slice IA info.length ic, .int .i64 z] w0 [] (fun v G => v = .tuple #[.slice none 0 0, .int .i64 1] ∧ G = []) := by
  refine spec_of 48 Tryd.func27 rfl rfl rfl ?_
  refine W.seq ?_
  refine W.region ?_
  refine T.eff (e_box rfl rfl rfl rfl) (Wt.plain rfl) ?_
  rintro _ _ ⟨k1, rfl, rfl⟩
  change (_ : List Blk → Prop) [_]
  refine T.q (q_assign rfl rfl) (Wt.plain rfl) rfl rfl ?_
  refine T.q (q_assign rfl rfl) (Wt.plain rfl) rfl rfl ?_
  refine T.nil ?_
  refine Ex.next ?_
  refine W.slots (L' := [(1, _), (2, _), (3, _)]) ⟨rfl, rfl, rfl, trivial⟩ ?_
  refine W.seq ?_
  refine W.seq ?_
  refine W.region ?_
  refine T.q (q_move rfl rfl) (Wt.plain rfl) rfl rfl ?_
  refine T.q (q_lss rfl rfl rfl) (Wt.plain rfl) rfl rfl ?_
  refine T.q (q_move rfl rfl) (Wt.plain rfl) rfl rfl ?_
  refine T.both (t := 15) _ rfl (fun hb2 => ?_) (fun hb2 => ?_)
  · replace hb2 := of_decide_eq_true hb2
    refine T.no (Wn.no rfl rfl rfl rfl) rfl rfl ?_
    refine T.no (Wn.no rfl rfl rfl rfl) rfl rfl ?_
    refine T.q (q_pickT rfl rfl rfl) (Wt.plain rfl) rfl rfl ?_
    refine T.nil ?_
    refine Ex.next ?_
    refine W.slots (L' := [(1, _), (2, _), (3, _), (18, _)]) ⟨rfl, rfl, rfl, rfl, trivial⟩ ?_
    refine W.condT rfl ?_
    refine W.seq ?_
    refine W.region ?_
    refine T.q (q_assign rfl rfl) (Wt.plain rfl) rfl rfl ?_
    refine T.q (q_assign rfl rfl) (Wt.plain rfl) rfl rfl ?_
    refine T.nil ?_
    refine Ex.next ?_
    refine W.less (L' := [(6, _), (7, _)]) [false] ⟨rfl, rfl, trivial⟩ ?_
    change (_ : List Blk → Prop) []
    refine W.ret ?_
    refine Ex.then_ret ?_
    refine Ex.out2 [] rfl rfl rfl ?_
    exact ⟨rfl, rfl⟩
  · replace hb2 := of_decide_eq_false hb2
    refine T.q (q_move rfl rfl) (Wt.yes rfl rfl rfl) rfl rfl ?_
    refine T.q (q_bool (b := true) (q_gtr rfl rfl rfl) (decide_eq_true (by omega))) (Wt.yes rfl rfl rfl) rfl rfl ?_
    refine T.q (q_pickF rfl rfl rfl) (Wt.plain rfl) rfl rfl ?_
    refine T.nil ?_
    refine Ex.next ?_
    refine W.slots (L' := [(1, _), (2, _), (3, _), (18, _)]) ⟨rfl, rfl, rfl, rfl, trivial⟩ ?_
    refine W.condT rfl ?_
    refine W.seq ?_
    refine W.region ?_
    refine T.q (q_assign rfl rfl) (Wt.plain rfl) rfl rfl ?_
    refine T.q (q_assign rfl rfl) (Wt.plain rfl) rfl rfl ?_
    refine T.nil ?_
    refine Ex.next ?_
    refine W.less (L' := [(6, _), (7, _)]) [false] ⟨rfl, rfl, trivial⟩ ?_
    change (_ : List Blk → Prop) []
    refine W.ret ?_
    refine Ex.then_ret ?_
    refine Ex.out2 [] rfl rfl rfl ?_
    exact ⟨rfl, rfl⟩
set_option maxRecDepth 100000 in
set_option maxHeartbeats 2000000 in
theorem expand_spec (key info : List Int) (IA : Option Addr) (ic : Nat) (hk : key.length = 32) (hic : info.length ≤ ic) (hil : info.length ≤ 140737488354800) (n : Nat) (hn : n ≤ 8160) (w0 : World) (hI : Reads w0 IA (ints .u8 info)) (hg0 : Reads w0 (some ⟨0, 0, none⟩) (ints .u32 startW)) (hg1 : Reads w0 (some ⟨1, 0, none⟩) (ints .u8 sgm)) (hg2 : Reads w0 (some ⟨2, 0, none⟩) (ints .u8 tbl)) : Does Tryd.prog 26 #[.agg (ints .u8 key).toArray, .slice IA info.length ic, .int .i64 ((n : Nat) : Int)] w0 [] (fun v G => ∃ (no : Option Nat) (junk : List Value), v = .tuple #[.slice (no.map fun k => (⟨k, 0, none⟩ : Addr)) n n, .int .i64 0] ∧ (0 < n → no.isSome = true) ∧ G = [⟨no, ints .u8 (expS key info n) ++ junk, 5, (0, 0)⟩]) := by
  refine spec_of 44 Tryd.func26 rfl rfl rfl ?_
  refine W.seq ?_
  refine W.region ?_
  refine T.eff (e_box rfl rfl rfl rfl) (Wt.plain rfl) ?_
  rintro _ _ ⟨k1, rfl, rfl⟩
  change (_ : List Blk → Prop) [_]
  refine T.q (q_assign rfl rfl) (Wt.plain rfl) rfl rfl ?_
  refine T.q (q_assign rfl rfl) (Wt.plain rfl) rfl rfl ?_
  refine T.nil ?_
  refine Ex.next ?_
  refine W.slots (L' := [(1, _), (2, _), (3, _)]) ⟨rfl, rfl, rfl, trivial⟩ ?_
  refine W.seq ?_
  refine W.seq ?_
  refine W.region ?_
  refine T.q (q_move rfl rfl) (Wt.plain rfl) rfl rfl ?_
  refine T.q (q_bool (b := false) (q_lss rfl rfl rfl) (decide_eq_false (by omega))) (Wt.plain rfl) rfl rfl ?_
  refine T.q (q_move rfl rfl) (Wt.plain rfl) rfl rfl ?_
  refine T.q (q_move rfl rfl) (Wt.yes rfl rfl rfl) rfl rfl ?_
  refine T.q (q_bool (b := false) (q_gtr rfl rfl rfl) (decide_eq_false (by omega))) (Wt.yes rfl rfl rfl) rfl rfl ?_
  refine T.q (q_pickF rfl rfl rfl) (Wt.plain rfl) rfl rfl ?_
  refine T.nil ?_
  refine Ex.next ?_
  refine W.slots (L' := [(1, _), (2, _), (3, _), (17, _)]) ⟨rfl, rfl, rfl, rfl, trivial⟩ ?_
  refine W.condF rfl ?_
  refine W.skip ?_
  refine Ex.next ?_
  refine W.slots (L' := [(1, _), (2, _), (3, _)]) ⟨rfl, rfl, rfl, trivial⟩ ?_
  refine W.seq ?_
  refine W.region ?_
  refine T.q (q_assign rfl rfl) (Wt.plain rfl) rfl rfl ?_
  refine T.q (q_assign rfl rfl) (Wt.plain rfl) rfl rfl ?_
  refine T.nil ?_
  refine Ex.next ?_
  refine W.slots (L' := [(1, _), (2, _), (3, _), (8, _), (9, _)]) ⟨rfl, rfl, rfl, rfl, rfl, trivial⟩ ?_
  refine W.seq ?_
  refine W.seq ?_
  refine W.region ?_
  refine T.q (q_move rfl rfl) (Wt.plain rfl) rfl rfl ?_
  refine T.q (q_addi rfl rfl rfl (by omega) (by omega)) (Wt.plain rfl) rfl rfl ?_
  refine T.q (q_subi rfl rfl rfl (by omega) (by omega)) (Wt.plain rfl) rfl rfl ?_
  refine T.q (q_int (b := ((((n + 31) / 32) : Nat) : Int)) (q_quo rfl rfl rfl (by omega) (by omega) (by decide)) ?hE) (Wt.plain rfl) rfl rfl ?_
  case hE => omega
  refine T.q (q_move rfl rfl) (Wt.plain rfl) rfl rfl ?_
  refine T.nil ?_
  refine Ex.next ?_
  refine W.slots (L' := [(1, _), (2, _), (3, _), (8, _), (9, _), (21, _), (22, _)]) ⟨rfl, rfl, rfl, rfl, rfl, rfl, rfl, trivial⟩ ?_
  refine W.block ?_
  refine W.ghost 5 ?_
  change (_ : List Blk → Prop) [_, _]
  refine W.ghost 29 ?_
  change (_ : List Blk → Prop) [_, _, _]
  refine W.loop (α := Nat × Option Nat × Nat × List Value × Option Nat × Nat × Nat) (fun x_ => [(1, .slice IA info.length ic), (2, .int .i64 ((n : Nat) : Int)), (3, .pointer (some ⟨k1, 0, none⟩)), (8, .slice (x_.2.1.map fun k => (⟨k, 0, none⟩ : Addr)) (32 * x_.1) x_.2.2.1), (9, .slice (x_.2.2.2.2.1.map fun k => (⟨k, 0, none⟩ : Addr)) x_.2.2.2.2.2.1 x_.2.2.2.2.2.2), (21, .int .i64 ((((n + 31) / 32) : Nat) : Int)), (22, .int .i64 ((x_.1 : Nat) : Int))]) (fun x_ => [⟨some k1, ints .u8 key, 29, (0, 0)⟩, ⟨x_.2.1, ints .u8 (outT key info x_.1) ++ x_.2.2.2.1, 5, (0, 0)⟩, ⟨x_.2.2.2.2.1, ints .u8 (lastT key info x_.1), 29, (0, 0)⟩]) (fun x_ => x_.1 ≤ ((n + 31) / 32) ∧ 32 * x_.1 + x_.2.2.2.1.length = x_.2.2.1 ∧ (0 < x_.1 → x_.2.1.isSome = true) ∧ (lastT key info x_.1).length = x_.2.2.2.2.2.1 ∧ x_.2.2.2.2.2.1 ≤ x_.2.2.2.2.2.2 ∧ x_.2.2.2.2.2.1 ≤ 32) (fun x_ => ((n + 31) / 32) - x_.1) [true, true, true] (⟨0, none, 0, [], none, 0, 0⟩) ⟨by dsimp only; omega, rfl, fun h => absurd h (by decide), rfl, Nat.le_refl _, by dsimp only; omega⟩ ⟨rfl, rfl, rfl, rfl, rfl, rfl, rfl, trivial⟩ rfl ?_
  rintro ⟨i, n8, c8, j8, n9, l9, c9⟩ ⟨hi, hj8, hs8, hl9, hc9, h32⟩
  conv => rhs; dsimp only
  conv => arg -2; dsimp only
  dsimp only at hi hj8 hs8 hl9 hc9 h32
  refine W.seq ?_
  refine W.region ?_
  refine T.q (q_lss rfl rfl rfl) (Wt.plain rfl) rfl rfl ?_
  refine T.nil ?_
  refine Ex.next ?_
  refine W.slots (L' := [(1, _), (2, _), (3, _), (8, _), (9, _), (21, _), (22, _), (23, _)]) ⟨rfl, rfl, rfl, rfl, rfl, rfl, rfl, rfl, trivial⟩ ?_
  refine W.seq ?_
  refine W.cond _ rfl (fun hb2 => ?_) (fun hb2 => ?_)
  · replace hb2 := of_decide_eq_true hb2
    refine W.skip ?_
    refine Ex.next ?_
    refine W.slots (L' := [(1, _), (2, _), (3, _), (8, _), (9, _), (21, _), (22, _)]) ⟨rfl, rfl, rfl, rfl, rfl, rfl, rfl, trivial⟩ ?_
    refine W.seq ?_
    refine W.block ?_
    refine W.seq ?_
    refine W.region ?_
    refine T.q (q_move rfl rfl) (Wt.plain rfl) rfl rfl ?_
    refine T.q (q_assign rfl rfl) (Wt.plain rfl) rfl rfl ?_
    refine T.nil ?_
    refine Ex.next ?_
    refine W.slots (L' := [(1, _), (2, _), (3, _), (8, _), (9, _), (10, _), (21, _), (22, _)]) ⟨rfl, rfl, rfl, rfl, rfl, rfl, rfl, rfl, trivial⟩ ?_
    refine W.seq ?_
    refine W.draw 11 (by kernel_rfl) ?_
    refine D.take 0 rfl (by kernel_rfl) (fun _ h => h) (q_slAll ar29 rfl rfl) (Wt.plain rfl) rfl rfl ?_
    refine D.take 1 rfl (by kernel_rfl) (fun _ h => h) (q_move rfl rfl) (Wt.plain rfl) rfl rfl ?_
    refine D.take 2 rfl (by kernel_rfl) (fun _ h => h) (q_move rfl rfl) (Wt.plain rfl) rfl rfl ?_
    refine D.take 3 rfl (by kernel_rfl) (fun _ h => h) (q_move rfl rfl) (Wt.plain rfl) rfl rfl ?_
    refine D.take 4 rfl (by kernel_rfl) (fun _ h => h) (q_int (b := (((i + 1) : Nat) : Int)) (q_addi rfl rfl rfl (by omega) (by omega)) ?hE) (Wt.plain rfl) rfl rfl ?_
    case hE => omega
    refine D.take 5 rfl (by kernel_rfl) (fun _ h => h) (q_conv un3 un5 rfl rfl) (Wt.plain rfl) rfl rfl ?_
    refine D.two 6 10 (by kernel_rfl) ?_ ?_
    ·
      refine Up.eff rfl (e_litA sc22 ze5 rfl rfl rfl (by simp [Value.cells]) rfl rfl rfl) (Wt.plain rfl) ?_
      rintro _ _ ⟨k3, rfl, rfl⟩
      refine ⟨fun _ => (S_sub (((((List.Sublist.slnil).cons _).cons_cons _).cons_cons _).cons_cons _)), ?_⟩
      change (_ : List Blk → Prop) [_, _, _, _]
      refine D.two 7 10 (by kernel_rfl) ?_ ?_
      ·
        refine Up.eff rfl (e_litA sc87 ze22 rfl rfl rfl (by simp [Value.cells]) rfl rfl rfl) (Wt.plain rfl) ?_
        rintro _ _ ⟨k4, rfl, rfl⟩
        refine ⟨fun _ => (S_sub ((((((List.Sublist.slnil).cons _).cons _).cons_cons _).cons_cons _).cons_cons _)), ?_⟩
        change (_ : List Blk → Prop) [_, _, _, _, _]
        refine D.two 8 10 (by kernel_rfl) ?_ ?_
        ·
          refine Up.eff rfl (e_call enters52 rfl rfl (fun w hm => concat3 _ _ _ _ _ _ _ _ _ (lastT key info i) info [IntKind.u8.wrap (((i + 1) : Nat) : Int)] k4 (by first | omega | (simp; done) | (simp [-List.getD_eq_getElem?_getD]; omega) | (simp at *; omega) | rfl) (by first | omega | (simp; done) | (simp [-List.getD_eq_getElem?_getD]; omega) | (simp at *; omega) | rfl) (by first | omega | (simp; done) | (simp [-List.getD_eq_getElem?_getD]; omega) | (simp at *; omega) | rfl) (by omega) (by omega) w ((R_blk 4 rfl) w hm) ((R_own 2 rfl) w hm) ((R_ext hI.ext) w hm) ((R_blk 3 rfl) w hm)) rfl rfl) (Wt.plain rfl) ?_
          rintro _ _ ⟨_, _, ⟨k5, cap6, junk7, rfl, hc8, rfl⟩, rfl, rfl⟩
          refine ⟨fun _ => (S_sub (((((((List.Sublist.slnil).cons _).cons _).cons _).cons_cons _).cons_cons _).cons_cons _)), ?_⟩
          change (_ : List Blk → Prop) [_, _, _, _, _, _]
          refine D.two 9 10 (by kernel_rfl) ?_ ?_
          ·
            refine Up.eff rfl (e_call enters23 rfl rfl (fun w hm => mac_at key ((lastT key info i) ++ info ++ [IntKind.u8.wrap (((i + 1) : Nat) : Int)]) _ _ _ _ (by first | omega | (simp; done) | (simp; omega) | (simp at *; omega)) (by first | omega | (simp; done) | (simp; omega) | (simp at *; omega)) (by first | omega | (simp; done) | (simp; omega) | (simp at *; omega)) (by first | omega | (simp; done) | (simp; omega) | (simp at *; omega)) w ((R_blk 0 rfl) w hm) ((R_pre 5 rfl) w hm) (R_ext hg0.ext w hm) (R_ext hg1.ext w hm) (R_ext hg2.ext w hm) (by first | omega | (simp; done) | (simp [-List.getD_eq_getElem?_getD]; omega) | (simp at *; omega) | rfl) (by first | omega | (simp; done) | (simp [-List.getD_eq_getElem?_getD]; omega) | (simp at *; omega) | rfl)) rfl rfl) (Wt.plain rfl) ?_
            rintro _ _ ⟨_, _, ⟨rfl, rfl⟩, rfl, rfl⟩
            refine ⟨fun _ => (S_sub (((((((List.Sublist.slnil).cons _).cons _).cons _).cons_cons _).cons_cons _).cons_cons _)), ?_⟩
            change (_ : List Blk → Prop) [_, _, _, _, _, _]
            refine D.one 10 (by kernel_rfl) ?_
            refine Up.eff rfl (e_alloc ze29 rfl rfl rfl) (Wt.plain rfl) ?_
            rintro _ _ ⟨k9, rfl, rfl⟩
            refine ⟨fun _ => (S_sub ((((((((List.Sublist.slnil).cons _).cons _).cons _).cons _).cons_cons _).cons_cons _).cons_cons _)), ?_⟩
            change (_ : List Blk → Prop) [_, _, _, _, _, _, _]
            refine D.one 11 (by kernel_rfl) ?_
            refine Up.eff rfl (e_storeA (wide_ints wd29 (by first | omega | (simp; done) | (simp [-List.getD_eq_getElem?_getD]; omega) | (simp at *; omega) | rfl)) 6 rfl rfl rfl rfl (by first | omega | (simp; done) | (simp [-List.getD_eq_getElem?_getD]; omega) | (simp at *; omega) | rfl) ints_one rfl) (Wt.plain rfl) ?_
            rintro _ _ ⟨rfl, rfl⟩
            refine ⟨fun h => absurd h (by decide), ?_⟩
            change (_ : List Blk → Prop) [_, _, _, _, _, _, _]
            refine D.done (by kernel_rfl) ?_
            refine Ex.next ?_
            refine W.less (L' := [(1, _), (2, _), (3, _), (8, _), (11, _), (21, _), (22, _)]) [true, true, false, false, false, false, true] ⟨rfl, rfl, rfl, rfl, rfl, rfl, rfl, trivial⟩ ?_
            change (_ : List Blk → Prop) [_, _, _]
            refine W.seq ?_
            refine W.region ?_
            refine T.q (q_slAll ar29 rfl rfl) (Wt.plain rfl) rfl rfl ?_
            refine T.q (q_assign rfl rfl) (Wt.plain rfl) rfl rfl ?_
            refine T.nil ?_
            refine Ex.next ?_
            refine W.slots (L' := [(1, _), (2, _), (3, _), (8, _), (9, _), (21, _), (22, _)]) ⟨rfl, rfl, rfl, rfl, rfl, rfl, rfl, trivial⟩ ?_
            refine W.region ?_
            refine T.q (q_move rfl rfl) (Wt.plain rfl) rfl rfl ?_
            refine T.q (q_move rfl rfl) (Wt.plain rfl) rfl rfl ?_
            refine T.eff (e_appendO sc22 ze5 rfl 1 .u8 (outT key info i) (macS key ((lastT key info i) ++ info ++ [IntKind.u8.wrap (((i + 1) : Nat) : Int)])) j8 (rfl) (R_blk 2 rfl) rfl rfl rfl rfl (by first | omega | (simp; done) | (simp [-List.getD_eq_getElem?_getD]; omega) | (simp at *; omega) | rfl) (by first | omega | (simp; done) | (simp [-List.getD_eq_getElem?_getD]; omega) | (simp at *; omega) | rfl) (by first | omega | (simp; done) | (simp [-List.getD_eq_getElem?_getD]; omega) | (simp at *; omega) | rfl) (by omega) (by first | omega | (simp; done) | (simp [-List.getD_eq_getElem?_getD]; omega)) (by first | omega | (simp; done) | (simp [-List.getD_eq_getElem?_getD]; omega)) rfl rfl) (Wt.plain rfl) ?_
            rintro _ _ ⟨k10, cap11, junk12, hc13, rfl, rfl⟩
            change (_ : List Blk → Prop) [_, _, _]
            refine T.q (q_assign rfl rfl) (Wt.plain rfl) rfl rfl ?_
            refine T.nil ?_
            refine Ex.in_normal ?_
            refine Ex.next ?_
            refine W.slots (L' := [(1, _), (2, _), (3, _), (8, _), (9, _), (21, _), (22, _)]) ⟨rfl, rfl, rfl, rfl, rfl, rfl, rfl, trivial⟩ ?_
            refine W.region ?_
            refine T.q (q_addi rfl rfl rfl (by omega) (by omega)) (Wt.plain rfl) rfl rfl ?_
            refine T.q (q_move rfl rfl) (Wt.plain rfl) rfl rfl ?_
            refine T.nil ?_
            exact Ex.again [true, true, true] (⟨i + 1, some k10, cap11, junk12, some k9, 32, 32⟩ : Nat × Option Nat × Nat × List Value × Option Nat × Nat × Nat) (by dsimp only; omega) ⟨by dsimp only; omega, by dsimp only; omega, fun _ => rfl, lastT_succ _ _ _, Nat.le_refl _, by dsimp only; omega⟩ ⟨rfl, rfl, rfl, rfl, rfl, rfl, rfl, trivial⟩ (by first | (dsimp only [pick]; done) | rfl)
          ·
            refine Up.eff rfl (e_alloc ze29 rfl rfl rfl) (Wt.plain rfl) ?_
            rintro _ _ ⟨k14, rfl, rfl⟩
            refine ⟨fun _ => (S_sub ((((((((List.Sublist.slnil).cons _).cons _).cons _).cons _).cons_cons _).cons_cons _).cons_cons _)), ?_⟩
            change (_ : List Blk → Prop) [_, _, _, _, _, _, _]
            refine D.one 9 (by kernel_rfl) ?_
            refine Up.eff rfl (e_call enters23 rfl rfl (fun w hm => mac_at key ((lastT key info i) ++ info ++ [IntKind.u8.wrap (((i + 1) : Nat) : Int)]) _ _ _ _ (by first | omega | (simp; done) | (simp; omega) | (simp at *; omega)) (by first | omega | (simp; done) | (simp; omega) | (simp at *; omega)) (by first | omega | (simp; done) | (simp; omega) | (simp at *; omega)) (by first | omega | (simp; done) | (simp; omega) | (simp at *; omega)) w ((R_blk 0 rfl) w hm) ((R_pre 5 rfl) w hm) (R_ext hg0.ext w hm) (R_ext hg1.ext w hm) (R_ext hg2.ext w hm) (by first | omega | (simp; done) | (simp [-List.getD_eq_getElem?_getD]; omega) | (simp at *; omega) | rfl) (by first | omega | (simp; done) | (simp [-List.getD_eq_getElem?_getD]; omega) | (simp at *; omega) | rfl)) rfl rfl) (Wt.plain rfl) ?_
            rintro _ _ ⟨_, _, ⟨rfl, rfl⟩, rfl, rfl⟩
            refine ⟨fun _ => (S_sub ((((((((List.Sublist.slnil).cons _).cons _).cons _).cons _).cons_cons _).cons_cons _).cons_cons _)), ?_⟩
            change (_ : List Blk → Prop) [_, _, _, _, _, _, _]
            refine D.one 11 (by kernel_rfl) ?_
            refine Up.eff rfl (e_storeA (wide_ints wd29 (by first | omega | (simp; done) | (simp [-List.getD_eq_getElem?_getD]; omega) | (simp at *; omega) | rfl)) 6 rfl rfl rfl rfl (by first | omega | (simp; done) | (simp [-List.getD_eq_getElem?_getD]; omega) | (simp at *; omega) | rfl) ints_one rfl) (Wt.plain rfl) ?_
            rintro _ _ ⟨rfl, rfl⟩
            refine ⟨fun h => absurd h (by decide), ?_⟩
            change (_ : List Blk → Prop) [_, _, _, _, _, _, _]
            refine D.done (by kernel_rfl) ?_
            refine Ex.next ?_
            refine W.less (L' := [(1, _), (2, _), (3, _), (8, _), (11, _), (21, _), (22, _)]) [true, true, false, false, false, false, true] ⟨rfl, rfl, rfl, rfl, rfl, rfl, rfl, trivial⟩ ?_
            change (_ : List Blk → Prop) [_, _, _]
            refine W.seq ?_
            refine W.region ?_
            refine T.q (q_slAll ar29 rfl rfl) (Wt.plain rfl) rfl rfl ?_
            refine T.q (q_assign rfl rfl) (Wt.plain rfl) rfl rfl ?_
            refine T.nil ?_
            refine Ex.next ?_
            refine W.slots (L' := [(1, _), (2, _), (3, _), (8, _), (9, _), (21, _), (22, _)]) ⟨rfl, rfl, rfl, rfl, rfl, rfl, rfl, trivial⟩ ?_
            refine W.region ?_
            refine T.q (q_move rfl rfl) (Wt.plain rfl) rfl rfl ?_
            refine T.q (q_move rfl rfl) (Wt.plain rfl) rfl rfl ?_
            refine T.eff (e_appendO sc22 ze5 rfl 1 .u8 (outT key info i) (macS key ((lastT key info i) ++ info ++ [IntKind.u8.wrap (((i + 1) : Nat) : Int)])) j8 (rfl) (R_blk 2 rfl) rfl rfl rfl rfl (by first | omega | (simp; done) | (simp [-List.getD_eq_getElem?_getD]; omega) | (simp at *; omega) | rfl) (by first | omega | (simp; done) | (simp [-List.getD_eq_getElem?_getD]; omega) | (simp at *; omega) | rfl) (by first | omega | (simp; done) | (simp [-List.getD_eq_getElem?_getD]; omega) | (simp at *; omega) | rfl) (by omega) (by first | omega | (simp; done) | (simp [-List.getD_eq_getElem?_getD]; omega)) (by first | omega | (simp; done) | (simp [-List.getD_eq_getElem?_getD]; omega)) rfl rfl) (Wt.plain rfl) ?_
            rintro _ _ ⟨k15, cap16, junk17, hc18, rfl, rfl⟩
            change (_ : List Blk → Prop) [_, _, _]
            refine T.q (q_assign rfl rfl) (Wt.plain rfl) rfl rfl ?_
            refine T.nil ?_
            refine Ex.in_normal ?_
            refine Ex.next ?_
            refine W.slots (L' := [(1, _), (2, _), (3, _), (8, _), (9, _), (21, _), (22, _)]) ⟨rfl, rfl, rfl, rfl, rfl, rfl, rfl, trivial⟩ ?_
            refine W.region ?_
            refine T.q (q_addi rfl rfl rfl (by omega) (by omega)) (Wt.plain rfl) rfl rfl ?_
            refine T.q (q_move rfl rfl) (Wt.plain rfl) rfl rfl ?_
            refine T.nil ?_
            exact Ex.again [true, true, true] (⟨i + 1, some k15, cap16, junk17, some k14, 32, 32⟩ : Nat × Option Nat × Nat × List Value × Option Nat × Nat × Nat) (by dsimp only; omega) ⟨by dsimp only; omega, by dsimp only; omega, fun _ => rfl, lastT_succ _ _ _, Nat.le_refl _, by dsimp only; omega⟩ ⟨rfl, rfl, rfl, rfl, rfl, rfl, rfl, trivial⟩ (by first | (dsimp only [pick]; done) | rfl)
        ·
          refine Up.eff rfl (e_alloc ze29 rfl rfl rfl) (Wt.plain rfl) ?_
          rintro _ _ ⟨k19, rfl, rfl⟩
          refine ⟨fun _ => (S_sub (((((((List.Sublist.slnil).cons _).cons _).cons _).cons_cons _).cons_cons _).cons_cons _)), ?_⟩
          change (_ : List Blk → Prop) [_, _, _, _, _, _]
          refine D.one 8 (by kernel_rfl) ?_
          refine Up.eff rfl (e_call enters52 rfl rfl (fun w hm => concat3 _ _ _ _ _ _ _ _ _ (lastT key info i) info [IntKind.u8.wrap (((i + 1) : Nat) : Int)] k4 (by first | omega | (simp; done) | (simp [-List.getD_eq_getElem?_getD]; omega) | (simp at *; omega) | rfl) (by first | omega | (simp; done) | (simp [-List.getD_eq_getElem?_getD]; omega) | (simp at *; omega) | rfl) (by first | omega | (simp; done) | (simp [-List.getD_eq_getElem?_getD]; omega) | (simp at *; omega) | rfl) (by omega) (by omega) w ((R_blk 4 rfl) w hm) ((R_own 2 rfl) w hm) ((R_ext hI.ext) w hm) ((R_blk 3 rfl) w hm)) rfl rfl) (Wt.plain rfl) ?_
          rintro _ _ ⟨_, _, ⟨k20, cap21, junk22, rfl, hc23, rfl⟩, rfl, rfl⟩
          refine ⟨fun _ => (S_sub ((((((((List.Sublist.slnil).cons _).cons _).cons _).cons _).cons_cons _).cons_cons _).cons_cons _)), ?_⟩
          change (_ : List Blk → Prop) [_, _, _, _, _, _, _]
          refine D.one 9 (by kernel_rfl) ?_
          refine Up.eff rfl (e_call enters23 rfl rfl (fun w hm => mac_at key ((lastT key info i) ++ info ++ [IntKind.u8.wrap (((i + 1) : Nat) : Int)]) _ _ _ _ (by first | omega | (simp; done) | (simp; omega) | (simp at *; omega)) (by first | omega | (simp; done) | (simp; omega) | (simp at *; omega)) (by first | omega | (simp; done) | (simp; omega) | (simp at *; omega)) (by first | omega | (simp; done) | (simp; omega) | (simp at *; omega)) w ((R_blk 0 rfl) w hm) ((R_pre 6 rfl) w hm) (R_ext hg0.ext w hm) (R_ext hg1.ext w hm) (R_ext hg2.ext w hm) (by first | omega | (simp; done) | (simp [-List.getD_eq_getElem?_getD]; omega) | (simp at *; omega) | rfl) (by first | omega | (simp; done) | (simp [-List.getD_eq_getElem?_getD]; omega) | (simp at *; omega) | rfl)) rfl rfl) (Wt.plain rfl) ?_
          rintro _ _ ⟨_, _, ⟨rfl, rfl⟩, rfl, rfl⟩
          refine ⟨fun _ => (S_sub ((((((((List.Sublist.slnil).cons _).cons _).cons _).cons _).cons_cons _).cons_cons _).cons_cons _)), ?_⟩
          change (_ : List Blk → Prop) [_, _, _, _, _, _, _]
          refine D.one 11 (by kernel_rfl) ?_
          refine Up.eff rfl (e_storeA (wide_ints wd29 (by first | omega | (simp; done) | (simp [-List.getD_eq_getElem?_getD]; omega) | (simp at *; omega) | rfl)) 5 rfl rfl rfl rfl (by first | omega | (simp; done) | (simp [-List.getD_eq_getElem?_getD]; omega) | (simp at *; omega) | rfl) ints_one rfl) (Wt.plain rfl) ?_
          rintro _ _ ⟨rfl, rfl⟩
          refine ⟨fun h => absurd h (by decide), ?_⟩
          change (_ : List Blk → Prop) [_, _, _, _, _, _, _]
          refine D.done (by kernel_rfl) ?_
          refine Ex.next ?_
          refine W.less (L' := [(1, _), (2, _), (3, _), (8, _), (11, _), (21, _), (22, _)]) [true, true, false, false, false, true, false] ⟨rfl, rfl, rfl, rfl, rfl, rfl, rfl, trivial⟩ ?_
          change (_ : List Blk → Prop) [_, _, _]
          refine W.seq ?_
          refine W.region ?_
          refine T.q (q_slAll ar29 rfl rfl) (Wt.plain rfl) rfl rfl ?_
          refine T.q (q_assign rfl rfl) (Wt.plain rfl) rfl rfl ?_
          refine T.nil ?_
          refine Ex.next ?_
          refine W.slots (L' := [(1, _), (2, _), (3, _), (8, _), (9, _), (21, _), (22, _)]) ⟨rfl, rfl, rfl, rfl, rfl, rfl, rfl, trivial⟩ ?_
          refine W.region ?_
          refine T.q (q_move rfl rfl) (Wt.plain rfl) rfl rfl ?_
          refine T.q (q_move rfl rfl) (Wt.plain rfl) rfl rfl ?_
          refine T.eff (e_appendO sc22 ze5 rfl 1 .u8 (outT key info i) (macS key ((lastT key info i) ++ info ++ [IntKind.u8.wrap (((i + 1) : Nat) : Int)])) j8 (rfl) (R_blk 2 rfl) rfl rfl rfl rfl (by first | omega | (simp; done) | (simp [-List.getD_eq_getElem?_getD]; omega) | (simp at *; omega) | rfl) (by first | omega | (simp; done) | (simp [-List.getD_eq_getElem?_getD]; omega) | (simp at *; omega) | rfl) (by first | omega | (simp; done) | (simp [-List.getD_eq_getElem?_getD]; omega) | (simp at *; omega) | rfl) (by omega) (by first | omega | (simp; done) | (simp [-List.getD_eq_getElem?_getD]; omega)) (by first | omega | (simp; done) | (simp [-List.getD_eq_getElem?_getD]; omega)) rfl rfl) (Wt.plain rfl) ?_
          rintro _ _ ⟨k24, cap25, junk26, hc27, rfl, rfl⟩
          change (_ : List Blk → Prop) [_, _, _]
          refine T.q (q_assign rfl rfl) (Wt.plain rfl) rfl rfl ?_
          refine T.nil ?_
          refine Ex.in_normal ?_
          refine Ex.next ?_
          refine W.slots (L' := [(1, _), (2, _), (3, _), (8, _), (9, _), (21, _), (22, _)]) ⟨rfl, rfl, rfl, rfl, rfl, rfl, rfl, trivial⟩ ?_
          refine W.region ?_
          refine T.q (q_addi rfl rfl rfl (by omega) (by omega)) (Wt.plain rfl) rfl rfl ?_
          refine T.q (q_move rfl rfl) (Wt.plain rfl) rfl rfl ?_
          refine T.nil ?_
          exact Ex.again [true, true, true] (⟨i + 1, some k24, cap25, junk26, some k19, 32, 32⟩ : Nat × Option Nat × Nat × List Value × Option Nat × Nat × Nat) (by dsimp only; omega) ⟨by dsimp only; omega, by dsimp only; omega, fun _ => rfl, lastT_succ _ _ _, Nat.le_refl _, by dsimp only; omega⟩ ⟨rfl, rfl, rfl, rfl, rfl, rfl, rfl, trivial⟩ (by first | (dsimp only [pick]; done) | rfl)
      ·
        refine Up.eff rfl (e_alloc ze29 rfl rfl rfl) (Wt.plain rfl) ?_
        rintro _ _ ⟨k28, rfl, rfl⟩
        refine ⟨fun _ => (S_sub ((((((List.Sublist.slnil).cons _).cons _).cons_cons _).cons_cons _).cons_cons _)), ?_⟩
        change (_ : List Blk → Prop) [_, _, _, _, _]
        refine D.one 7 (by kernel_rfl) ?_
        refine Up.eff rfl (e_litA sc87 ze22 rfl rfl rfl (by simp [Value.cells]) rfl rfl rfl) (Wt.plain rfl) ?_
        rintro _ _ ⟨k29, rfl, rfl⟩
        refine ⟨fun _ => (S_sub (((((((List.Sublist.slnil).cons _).cons _).cons _).cons_cons _).cons_cons _).cons_cons _)), ?_⟩
        change (_ : List Blk → Prop) [_, _, _, _, _, _]
        refine D.one 8 (by kernel_rfl) ?_
        refine Up.eff rfl (e_call enters52 rfl rfl (fun w hm => concat3 _ _ _ _ _ _ _ _ _ (lastT key info i) info [IntKind.u8.wrap (((i + 1) : Nat) : Int)] k29 (by first | omega | (simp; done) | (simp [-List.getD_eq_getElem?_getD]; omega) | (simp at *; omega) | rfl) (by first | omega | (simp; done) | (simp [-List.getD_eq_getElem?_getD]; omega) | (simp at *; omega) | rfl) (by first | omega | (simp; done) | (simp [-List.getD_eq_getElem?_getD]; omega) | (simp at *; omega) | rfl) (by omega) (by omega) w ((R_blk 5 rfl) w hm) ((R_own 2 rfl) w hm) ((R_ext hI.ext) w hm) ((R_blk 3 rfl) w hm)) rfl rfl) (Wt.plain rfl) ?_
        rintro _ _ ⟨_, _, ⟨k30, cap31, junk32, rfl, hc33, rfl⟩, rfl, rfl⟩
        refine ⟨fun _ => (S_sub ((((((((List.Sublist.slnil).cons _).cons _).cons _).cons _).cons_cons _).cons_cons _).cons_cons _)), ?_⟩
        change (_ : List Blk → Prop) [_, _, _, _, _, _, _]
        refine D.one 9 (by kernel_rfl) ?_
        refine Up.eff rfl (e_call enters23 rfl rfl (fun w hm => mac_at key ((lastT key info i) ++ info ++ [IntKind.u8.wrap (((i + 1) : Nat) : Int)]) _ _ _ _ (by first | omega | (simp; done) | (simp; omega) | (simp at *; omega)) (by first | omega | (simp; done) | (simp; omega) | (simp at *; omega)) (by first | omega | (simp; done) | (simp; omega) | (simp at *; omega)) (by first | omega | (simp; done) | (simp; omega) | (simp at *; omega)) w ((R_blk 0 rfl) w hm) ((R_pre 6 rfl) w hm) (R_ext hg0.ext w hm) (R_ext hg1.ext w hm) (R_ext hg2.ext w hm) (by first | omega | (simp; done) | (simp [-List.getD_eq_getElem?_getD]; omega) | (simp at *; omega) | rfl) (by first | omega | (simp; done) | (simp [-List.getD_eq_getElem?_getD]; omega) | (simp at *; omega) | rfl)) rfl rfl) (Wt.plain rfl) ?_
        rintro _ _ ⟨_, _, ⟨rfl, rfl⟩, rfl, rfl⟩
        refine ⟨fun _ => (S_sub ((((((((List.Sublist.slnil).cons _).cons _).cons _).cons _).cons_cons _).cons_cons _).cons_cons _)), ?_⟩
        change (_ : List Blk → Prop) [_, _, _, _, _, _, _]
        refine D.one 11 (by kernel_rfl) ?_
        refine Up.eff rfl (e_storeA (wide_ints wd29 (by first | omega | (simp; done) | (simp [-List.getD_eq_getElem?_getD]; omega) | (simp at *; omega) | rfl)) 4 rfl rfl rfl rfl (by first | omega | (simp; done) | (simp [-List.getD_eq_getElem?_getD]; omega) | (simp at *; omega) | rfl) ints_one rfl) (Wt.plain rfl) ?_
        rintro _ _ ⟨rfl, rfl⟩
        refine ⟨fun h => absurd h (by decide), ?_⟩
        change (_ : List Blk → Prop) [_, _, _, _, _, _, _]
        refine D.done (by kernel_rfl) ?_
        refine Ex.next ?_
        refine W.less (L' := [(1, _), (2, _), (3, _), (8, _), (11, _), (21, _), (22, _)]) [true, true, false, false, true, false, false] ⟨rfl, rfl, rfl, rfl, rfl, rfl, rfl, trivial⟩ ?_
        change (_ : List Blk → Prop) [_, _, _]
        refine W.seq ?_
        refine W.region ?_
        refine T.q (q_slAll ar29 rfl rfl) (Wt.plain rfl) rfl rfl ?_
        refine T.q (q_assign rfl rfl) (Wt.plain rfl) rfl rfl ?_
        refine T.nil ?_
        refine Ex.next ?_
        refine W.slots (L' := [(1, _), (2, _), (3, _), (8, _), (9, _), (21, _), (22, _)]) ⟨rfl, rfl, rfl, rfl, rfl, rfl, rfl, trivial⟩ ?_
        refine W.region ?_
        refine T.q (q_move rfl rfl) (Wt.plain rfl) rfl rfl ?_
        refine T.q (q_move rfl rfl) (Wt.plain rfl) rfl rfl ?_
        refine T.eff (e_appendO sc22 ze5 rfl 1 .u8 (outT key info i) (macS key ((lastT key info i) ++ info ++ [IntKind.u8.wrap (((i + 1) : Nat) : Int)])) j8 (rfl) (R_blk 2 rfl) rfl rfl rfl rfl (by first | omega | (simp; done) | (simp [-List.getD_eq_getElem?_getD]; omega) | (simp at *; omega) | rfl) (by first | omega | (simp; done) | (simp [-List.getD_eq_getElem?_getD]; omega) | (simp at *; omega) | rfl) (by first | omega | (simp; done) | (simp [-List.getD_eq_getElem?_getD]; omega) | (simp at *; omega) | rfl) (by omega) (by first | omega | (simp; done) | (simp [-List.getD_eq_getElem?_getD]; omega)) (by first | omega | (simp; done) | (simp [-List.getD_eq_getElem?_getD]; omega)) rfl rfl) (Wt.plain rfl) ?_
        rintro _ _ ⟨k34, cap35, junk36, hc37, rfl, rfl⟩
        change (_ : List Blk → Prop) [_, _, _]
        refine T.q (q_assign rfl rfl) (Wt.plain rfl) rfl rfl ?_
        refine T.nil ?_
        refine Ex.in_normal ?_
        refine Ex.next ?_
        refine W.slots (L' := [(1, _), (2, _), (3, _), (8, _), (9, _), (21, _), (22, _)]) ⟨rfl, rfl, rfl, rfl, rfl, rfl, rfl, trivial⟩ ?_
        refine W.region ?_
        refine T.q (q_addi rfl rfl rfl (by omega) (by omega)) (Wt.plain rfl) rfl rfl ?_
        refine T.q (q_move rfl rfl) (Wt.plain rfl) rfl rfl ?_
        refine T.nil ?_
        exact Ex.again [true, true, true] (⟨i + 1, some k34, cap35, junk36, some k28, 32, 32⟩ : Nat × Option Nat × Nat × List Value × Option Nat × Nat × Nat) (by dsimp only; omega) ⟨by dsimp only; omega, by dsimp only; omega, fun _ => rfl, lastT_succ _ _ _, Nat.le_refl _, by dsimp only; omega⟩ ⟨rfl, rfl, rfl, rfl, rfl, rfl, rfl, trivial⟩ (by first | (dsimp only [pick]; done) | rfl)
    ·
      refine Up.eff rfl (e_alloc ze29 rfl rfl rfl) (Wt.plain rfl) ?_
      rintro _ _ ⟨k38, rfl, rfl⟩
      refine ⟨fun _ => (S_sub (((((List.Sublist.slnil).cons _).cons_cons _).cons_cons _).cons_cons _)), ?_⟩
      change (_ : List Blk → Prop) [_, _, _, _]
      refine D.one 6 (by kernel_rfl) ?_
      refine Up.eff rfl (e_litA sc22 ze5 rfl rfl rfl (by simp [Value.cells]) rfl rfl rfl) (Wt.plain rfl) ?_
      rintro _ _ ⟨k39, rfl, rfl⟩
      refine ⟨fun _ => (S_sub ((((((List.Sublist.slnil).cons _).cons _).cons_cons _).cons_cons _).cons_cons _)), ?_⟩
      change (_ : List Blk → Prop) [_, _, _, _, _]
      refine D.one 7 (by kernel_rfl) ?_
      refine Up.eff rfl (e_litA sc87 ze22 rfl rfl rfl (by simp [Value.cells]) rfl rfl rfl) (Wt.plain rfl) ?_
      rintro _ _ ⟨k40, rfl, rfl⟩
      refine ⟨fun _ => (S_sub (((((((List.Sublist.slnil).cons _).cons _).cons _).cons_cons _).cons_cons _).cons_cons _)), ?_⟩
      change (_ : List Blk → Prop) [_, _, _, _, _, _]
      refine D.one 8 (by kernel_rfl) ?_
      refine Up.eff rfl (e_call enters52 rfl rfl (fun w hm => concat3 _ _ _ _ _ _ _ _ _ (lastT key info i) info [IntKind.u8.wrap (((i + 1) : Nat) : Int)] k40 (by first | omega | (simp; done) | (simp [-List.getD_eq_getElem?_getD]; omega) | (simp at *; omega) | rfl) (by first | omega | (simp; done) | (simp [-List.getD_eq_getElem?_getD]; omega) | (simp at *; omega) | rfl) (by first | omega | (simp; done) | (simp [-List.getD_eq_getElem?_getD]; omega) | (simp at *; omega) | rfl) (by omega) (by omega) w ((R_blk 5 rfl) w hm) ((R_own 2 rfl) w hm) ((R_ext hI.ext) w hm) ((R_blk 4 rfl) w hm)) rfl rfl) (Wt.plain rfl) ?_
      rintro _ _ ⟨_, _, ⟨k41, cap42, junk43, rfl, hc44, rfl⟩, rfl, rfl⟩
      refine ⟨fun _ => (S_sub ((((((((List.Sublist.slnil).cons _).cons _).cons _).cons _).cons_cons _).cons_cons _).cons_cons _)), ?_⟩
      change (_ : List Blk → Prop) [_, _, _, _, _, _, _]
      refine D.one 9 (by kernel_rfl) ?_
      refine Up.eff rfl (e_call enters23 rfl rfl (fun w hm => mac_at key ((lastT key info i) ++ info ++ [IntKind.u8.wrap (((i + 1) : Nat) : Int)]) _ _ _ _ (by first | omega | (simp; done) | (simp; omega) | (simp at *; omega)) (by first | omega | (simp; done) | (simp; omega) | (simp at *; omega)) (by first | omega | (simp; done) | (simp; omega) | (simp at *; omega)) (by first | omega | (simp; done) | (simp; omega) | (simp at *; omega)) w ((R_blk 0 rfl) w hm) ((R_pre 6 rfl) w hm) (R_ext hg0.ext w hm) (R_ext hg1.ext w hm) (R_ext hg2.ext w hm) (by first | omega | (simp; done) | (simp [-List.getD_eq_getElem?_getD]; omega) | (simp at *; omega) | rfl) (by first | omega | (simp; done) | (simp [-List.getD_eq_getElem?_getD]; omega) | (simp at *; omega) | rfl)) rfl rfl) (Wt.plain rfl) ?_
      rintro _ _ ⟨_, _, ⟨rfl, rfl⟩, rfl, rfl⟩
      refine ⟨fun _ => (S_sub ((((((((List.Sublist.slnil).cons _).cons _).cons _).cons _).cons_cons _).cons_cons _).cons_cons _)), ?_⟩
      change (_ : List Blk → Prop) [_, _, _, _, _, _, _]
      refine D.one 11 (by kernel_rfl) ?_
      refine Up.eff rfl (e_storeA (wide_ints wd29 (by first | omega | (simp; done) | (simp [-List.getD_eq_getElem?_getD]; omega) | (simp at *; omega) | rfl)) 3 rfl rfl rfl rfl (by first | omega | (simp; done) | (simp [-List.getD_eq_getElem?_getD]; omega) | (simp at *; omega) | rfl) ints_one rfl) (Wt.plain rfl) ?_
      rintro _ _ ⟨rfl, rfl⟩
      refine ⟨fun h => absurd h (by decide), ?_⟩
      change (_ : List Blk → Prop) [_, _, _, _, _, _, _]
      refine D.done (by kernel_rfl) ?_
      refine Ex.next ?_
      refine W.less (L' := [(1, _), (2, _), (3, _), (8, _), (11, _), (21, _), (22, _)]) [true, true, false, true, false, false, false] ⟨rfl, rfl, rfl, rfl, rfl, rfl, rfl, trivial⟩ ?_
      change (_ : List Blk → Prop) [_, _, _]
      refine W.seq ?_
      refine W.region ?_
      refine T.q (q_slAll ar29 rfl rfl) (Wt.plain rfl) rfl rfl ?_
      refine T.q (q_assign rfl rfl) (Wt.plain rfl) rfl rfl ?_
      refine T.nil ?_
      refine Ex.next ?_
      refine W.slots (L' := [(1, _), (2, _), (3, _), (8, _), (9, _), (21, _), (22, _)]) ⟨rfl, rfl, rfl, rfl, rfl, rfl, rfl, trivial⟩ ?_
      refine W.region ?_
      refine T.q (q_move rfl rfl) (Wt.plain rfl) rfl rfl ?_
      refine T.q (q_move rfl rfl) (Wt.plain rfl) rfl rfl ?_
      refine T.eff (e_appendO sc22 ze5 rfl 1 .u8 (outT key info i) (macS key ((lastT key info i) ++ info ++ [IntKind.u8.wrap (((i + 1) : Nat) : Int)])) j8 (rfl) (R_blk 2 rfl) rfl rfl rfl rfl (by first | omega | (simp; done) | (simp [-List.getD_eq_getElem?_getD]; omega) | (simp at *; omega) | rfl) (by first | omega | (simp; done) | (simp [-List.getD_eq_getElem?_getD]; omega) | (simp at *; omega) | rfl) (by first | omega | (simp; done) | (simp [-List.getD_eq_getElem?_getD]; omega) | (simp at *; omega) | rfl) (by omega) (by first | omega | (simp; done) | (simp [-List.getD_eq_getElem?_getD]; omega)) (by first | omega | (simp; done) | (simp [-List.getD_eq_getElem?_getD]; omega)) rfl rfl) (Wt.plain rfl) ?_
      rintro _ _ ⟨k45, cap46, junk47, hc48, rfl, rfl⟩
      change (_ : List Blk → Prop) [_, _, _]
      refine T.q (q_assign rfl rfl) (Wt.plain rfl) rfl rfl ?_
      refine T.nil ?_
      refine Ex.in_normal ?_
      refine Ex.next ?_
      refine W.slots (L' := [(1, _), (2, _), (3, _), (8, _), (9, _), (21, _), (22, _)]) ⟨rfl, rfl, rfl, rfl, rfl, rfl, rfl, trivial⟩ ?_
      refine W.region ?_
      refine T.q (q_addi rfl rfl rfl (by omega) (by omega)) (Wt.plain rfl) rfl rfl ?_
      refine T.q (q_move rfl rfl) (Wt.plain rfl) rfl rfl ?_
      refine T.nil ?_
      exact Ex.again [true, true, true] (⟨i + 1, some k45, cap46, junk47, some k38, 32, 32⟩ : Nat × Option Nat × Nat × List Value × Option Nat × Nat × Nat) (by dsimp only; omega) ⟨by dsimp only; omega, by dsimp only; omega, fun _ => rfl, lastT_succ _ _ _, Nat.le_refl _, by dsimp only; omega⟩ ⟨rfl, rfl, rfl, rfl, rfl, rfl, rfl, trivial⟩ (by first | (dsimp only [pick]; done) | rfl)
  · replace hb2 := of_decide_eq_false hb2
    obtain rfl : i = ((n + 31) / 32) := by omega
    refine W.exit ?_
    refine Ex.then_exit ?_
    refine Ex.then_exit ?_
    refine Ex.in_here ?_
    refine Ex.next ?_
    refine W.less (L' := [(2, _), (8, _)]) [false, true, false] ⟨rfl, rfl, trivial⟩ ?_
    change (_ : List Blk → Prop) [_]
    refine W.seq ?_
    refine W.region ?_
    refine T.q (q_move rfl rfl) (Wt.plain rfl) rfl rfl ?_
    refine T.q (q_move rfl rfl) (Wt.plain rfl) rfl rfl ?_
    refine T.q (q_sl sc22 0 n c8 rfl rfl rfl ⟨_, _, rfl, by omega⟩ rfl (by first | omega | (simp; done) | (simp [-List.getD_eq_getElem?_getD]; omega)) (by first | omega | (simp; done) | (simp [-List.getD_eq_getElem?_getD]; omega)) (by first | omega | (simp; done) | (simp [-List.getD_eq_getElem?_getD]; omega)) (by simp)) (Wt.plain rfl) rfl rfl ?_
    refine T.eff (e_call enters53 rfl rfl (fun w hm => clip_spec _ _ _ (by first | omega | (simp; done) | (simp; omega) | (simp at *; omega)) w) rfl rfl) (Wt.plain rfl) ?_
    rintro _ _ ⟨_, _, ⟨rfl, rfl⟩, rfl, rfl⟩
    change (_ : List Blk → Prop) [_]
    refine T.q (q_assign rfl rfl) (Wt.plain rfl) rfl rfl ?_
    refine T.q (q_assign rfl rfl) (Wt.plain rfl) rfl rfl ?_
    refine T.nil ?_
    refine Ex.next ?_
    refine W.slots (L' := [(6, _), (7, _)]) ⟨rfl, rfl, trivial⟩ ?_
    refine W.ret ?_
    refine Ex.out2 [true] rfl rfl rfl ?_
    exact ⟨_, (ints .u8 ((outT key info ((n + 31) / 32)).drop n) ++ j8), by rw [cut_zero] <;> rfl, fun h => hs8 (by omega), by rw [expS, ← List.append_assoc, ← ints_append, List.take_append_drop]; dsimp only [pick]⟩
set_option maxRecDepth 100000 in
set_option maxHeartbeats 2000000 in
theorem refexpand_spec (key info : List Int) (IA : Option Addr) (ic : Nat) (hk : key.length = 32) (_hic : info.length ≤ ic) (hil : info.length ≤ 140737488354800) (n : Nat) (hn : n ≤ 8160) (w0 : World) (hI : Reads w0 IA (ints .u8 info)) : Does Tryd.prog 27 #[.agg (ints .u8 key).toArray, .slice IA info.length ic, .int .i64 ((n : Nat) : Int)] w0 [] (fun v G => ∃ (k cap : Nat) (junk : List Value), v = .tuple #[.slice (some ⟨k, 0, none⟩) n cap, .int .i64 0] ∧ n ≤ cap ∧ G = [⟨some k, ints .u8 (expS key info n) ++ junk, 5, (0, 0)⟩]) := by
  refine spec_of 48 Tryd.func27 rfl rfl rfl ?_
  refine W.seq ?_
  refine W.region ?_
  refine T.eff (e_box rfl rfl rfl rfl) (Wt.plain rfl) ?_
  rintro _ _ ⟨k1, rfl, rfl⟩
  change (_ : List Blk → Prop) [_]
  refine T.q (q_assign rfl rfl) (Wt.plain rfl) rfl rfl ?_
  refine T.q (q_assign rfl rfl) (Wt.plain rfl) rfl rfl ?_
  refine T.nil ?_
  refine Ex.next ?_
  refine W.slots (L' := [(1, _), (2, _), (3, _)]) ⟨rfl, rfl, rfl, trivial⟩ ?_
  refine W.seq ?_
  refine W.seq ?_
  refine W.region ?_
  refine T.q (q_move rfl rfl) (Wt.plain rfl) rfl rfl ?_
  refine T.q (q_bool (b := false) (q_lss rfl rfl rfl) (decide_eq_false (by omega))) (Wt.plain rfl) rfl rfl ?_
  refine T.q (q_move rfl rfl) (Wt.plain rfl) rfl rfl ?_
  refine T.q (q_move rfl rfl) (Wt.yes rfl rfl rfl) rfl rfl ?_
  refine T.q (q_bool (b := false) (q_gtr rfl rfl rfl) (decide_eq_false (by omega))) (Wt.yes rfl rfl rfl) rfl rfl ?_
  refine T.q (q_pickF rfl rfl rfl) (Wt.plain rfl) rfl rfl ?_
  refine T.nil ?_
  refine Ex.next ?_
  refine W.slots (L' := [(1, _), (2, _), (3, _), (18, _)]) ⟨rfl, rfl, rfl, rfl, trivial⟩ ?_
  refine W.condF rfl ?_
  refine W.skip ?_
  refine Ex.next ?_
  refine W.slots (L' := [(1, _), (2, _), (3, _)]) ⟨rfl, rfl, rfl, trivial⟩ ?_
  refine W.seq ?_
  refine W.region ?_
  refine T.eff (e_litA sc22 ze5 rfl rfl rfl (by simp [Value.cells]) rfl rfl rfl) (Wt.plain rfl) ?_
  rintro _ _ ⟨k2, rfl, rfl⟩
  change (_ : List Blk → Prop) [_, _]
  refine T.q (q_assign rfl rfl) (Wt.plain rfl) rfl rfl ?_
  refine T.nil ?_
  refine Ex.next ?_
  refine W.slots (L' := [(1, _), (2, _), (3, _), (8, _)]) ⟨rfl, rfl, rfl, rfl, trivial⟩ ?_
  refine W.seq ?_
  refine W.region ?_
  refine T.eff (e_litA sc22 ze5 rfl rfl rfl (by simp [Value.cells]) rfl rfl rfl) (Wt.plain rfl) ?_
  rintro _ _ ⟨k3, rfl, rfl⟩
  change (_ : List Blk → Prop) [_, _, _]
  refine T.q (q_assign rfl rfl) (Wt.plain rfl) rfl rfl ?_
  refine T.nil ?_
  refine Ex.next ?_
  refine W.slots (L' := [(1, _), (2, _), (3, _), (8, _), (9, _)]) ⟨rfl, rfl, rfl, rfl, rfl, trivial⟩ ?_
  refine W.seq ?_
  refine W.seq ?_
  refine W.region ?_
  refine T.q (q_assign rfl rfl) (Wt.plain rfl) rfl rfl ?_
  refine T.nil ?_
  refine Ex.next ?_
  refine W.slots (L' := [(1, _), (2, _), (3, _), (8, _), (9, _), (10, _)]) ⟨rfl, rfl, rfl, rfl, rfl, rfl, trivial⟩ ?_
  refine W.block ?_
  refine W.loop (α := Nat × Nat × Nat × List Value × Nat × Nat × Nat × List Value) (fun x_ => [(1, .slice IA info.length ic), (2, .int .i64 ((n : Nat) : Int)), (3, .pointer (some ⟨k1, 0, none⟩)), (8, .slice (some ⟨x_.2.1, 0, none⟩) (32 * x_.1) x_.2.2.1), (9, .slice (some ⟨x_.2.2.2.2.1, 0, none⟩) x_.2.2.2.2.2.1 x_.2.2.2.2.2.2.1), (10, .int .i64 (((x_.1 + 1) : Nat) : Int))]) (fun x_ => [⟨some k1, ints .u8 key, 29, (0, 0)⟩, ⟨some x_.2.1, ints .u8 (outT key info x_.1) ++ x_.2.2.2.1, 5, (0, 0)⟩, ⟨some x_.2.2.2.2.1, ints .u8 (lastT key info x_.1) ++ x_.2.2.2.2.2.2.2, 5, (0, 0)⟩]) (fun x_ => 32 * x_.1 < n + 32 ∧ 32 * x_.1 + x_.2.2.2.1.length = x_.2.2.1 ∧ (lastT key info x_.1).length = x_.2.2.2.2.2.1 ∧ x_.2.2.2.2.2.1 + x_.2.2.2.2.2.2.2.length = x_.2.2.2.2.2.2.1 ∧ x_.2.2.2.2.2.1 ≤ 32) (fun x_ => n - 32 * x_.1) [true, true, true] (⟨0, k2, 0, [], k3, 0, 0, []⟩) ⟨by dsimp only; omega, rfl, rfl, rfl, by dsimp only; omega⟩ ⟨rfl, rfl, rfl, rfl, rfl, rfl, trivial⟩ rfl ?_
  rintro ⟨j, q8, c8, j8, q9, l9, c9, j9⟩ ⟨hi, hj8, hl9, hj9, h32⟩
  conv => rhs; dsimp only
  conv => arg -2; dsimp only
  dsimp only at hi hj8 hl9 hj9 h32
  refine W.seq ?_
  refine W.seq ?_
  refine W.region ?_
  refine T.q (q_move rfl rfl) (Wt.plain rfl) rfl rfl ?_
  refine T.q (q_len sc22 rfl rfl) (Wt.plain rfl) rfl rfl ?_
  refine T.q (q_move rfl rfl) (Wt.plain rfl) rfl rfl ?_
  refine T.q (q_lss rfl rfl rfl) (Wt.plain rfl) rfl rfl ?_
  refine T.nil ?_
  refine Ex.next ?_
  refine W.slots (L' := [(1, _), (2, _), (3, _), (8, _), (9, _), (10, _), (24, _)]) ⟨rfl, rfl, rfl, rfl, rfl, rfl, rfl, trivial⟩ ?_
  refine W.cond _ rfl (fun hb4 => ?_) (fun hb4 => ?_)
  · replace hb4 := of_decide_eq_true hb4
    refine W.skip ?_
    refine Ex.next ?_
    refine W.slots (L' := [(1, _), (2, _), (3, _), (8, _), (9, _), (10, _)]) ⟨rfl, rfl, rfl, rfl, rfl, rfl, trivial⟩ ?_
    refine W.seq ?_
    refine W.block ?_
    refine W.seq ?_
    refine W.region ?_
    refine T.eff (e_litA sc22 ze5 rfl rfl rfl (by simp [Value.cells]) rfl rfl rfl) (Wt.plain rfl) ?_
    rintro _ _ ⟨k5, rfl, rfl⟩
    change (_ : List Blk → Prop) [_, _, _, _]
    refine T.q (q_move rfl rfl) (Wt.plain rfl) rfl rfl ?_
    refine T.eff (e_appendI sc22 ze5 rfl 3 .u8 [] (lastT key info j) [] ((List.append_nil _).symm) (R_pre 2 rfl) rfl rfl rfl rfl (by first | omega | (simp; done) | (simp [-List.getD_eq_getElem?_getD]; omega) | (simp at *; omega) | rfl) (by first | omega | (simp; done) | (simp [-List.getD_eq_getElem?_getD]; omega) | (simp at *; omega) | rfl) (by first | omega | (simp; done) | (simp [-List.getD_eq_getElem?_getD]; omega) | (simp at *; omega) | rfl) (by first | omega | (simp; done) | (simp [-List.getD_eq_getElem?_getD]; omega)) (by first | omega | (simp; done) | (simp [-List.getD_eq_getElem?_getD]; omega)) rfl rfl) (Wt.plain rfl) ?_
    rintro _ _ ⟨k6, cap7, junk8, hc9, rfl, rfl⟩
    change (_ : List Blk → Prop) [_, _, _, _]
    refine T.q (q_move rfl rfl) (Wt.plain rfl) rfl rfl ?_
    refine T.eff (e_appendI sc22 ze5 rfl 3 .u8 ([] ++ lastT key info j) info junk8 (rfl) (R_ext hI.ext) rfl rfl rfl rfl (by first | omega | (simp; done) | (simp [-List.getD_eq_getElem?_getD]; omega) | (simp at *; omega) | rfl) (by first | omega | (simp; done) | (simp [-List.getD_eq_getElem?_getD]; omega) | (simp at *; omega) | rfl) (by first | omega | (simp; done) | (simp [-List.getD_eq_getElem?_getD]; omega) | (simp at *; omega) | rfl) (by first | omega | (simp; done) | (simp [-List.getD_eq_getElem?_getD]; omega)) (by first | omega | (simp; done) | (simp [-List.getD_eq_getElem?_getD]; omega)) rfl rfl) (Wt.plain rfl) ?_
    rintro _ _ ⟨k10, cap11, junk12, hc13, rfl, rfl⟩
    change (_ : List Blk → Prop) [_, _, _, _]
    refine T.q (q_assign rfl rfl) (Wt.plain rfl) rfl rfl ?_
    refine T.nil ?_
    refine Ex.next ?_
    refine W.slots (L' := [(1, _), (2, _), (3, _), (8, _), (10, _), (11, _)]) ⟨rfl, rfl, rfl, rfl, rfl, rfl, trivial⟩ ?_
    refine W.seq ?_
    refine W.drawP 8 [true, true, true, false] (by kernel_rfl) ?_
    refine D.take 0 rfl (by kernel_rfl) (S_sub (((((List.Sublist.slnil).cons _).cons_cons _).cons_cons _).cons_cons _)) (q_slAll ar29 rfl rfl) (Wt.plain rfl) rfl rfl ?_
    refine D.take 1 rfl (by kernel_rfl) (S_sub (((((List.Sublist.slnil).cons _).cons_cons _).cons_cons _).cons_cons _)) (q_move rfl rfl) (Wt.plain rfl) rfl rfl ?_
    refine D.take 2 rfl (by kernel_rfl) (S_sub (((((List.Sublist.slnil).cons _).cons_cons _).cons_cons _).cons_cons _)) (q_move rfl rfl) (Wt.plain rfl) rfl rfl ?_
    refine D.take 3 rfl (by kernel_rfl) (S_sub (((((List.Sublist.slnil).cons _).cons_cons _).cons_cons _).cons_cons _)) (q_conv un3 un5 rfl rfl) (Wt.plain rfl) rfl rfl ?_
    refine D.two 4 7 (by kernel_rfl) ?_ ?_
    ·
      refine Up.eff rfl (e_litA sc22 ze5 rfl rfl rfl (by simp [Value.cells]) rfl rfl rfl) (Wt.plain rfl) ?_
      rintro _ _ ⟨k14, rfl, rfl⟩
      refine ⟨fun _ => (S_sub ((((((List.Sublist.slnil).cons _).cons _).cons_cons _).cons_cons _).cons_cons _)), ?_⟩
      change (_ : List Blk → Prop) [_, _, _, _, _]
      refine D.two 5 7 (by kernel_rfl) ?_ ?_
      ·
        refine Up.eff rfl (e_appendI sc22 ze5 rfl 3 .u8 (([] ++ lastT key info j) ++ info) [IntKind.u8.wrap (((j + 1) : Nat) : Int)] junk12 (rfl) (R_blk 4 rfl) rfl rfl rfl rfl (by first | omega | (simp; done) | (simp [-List.getD_eq_getElem?_getD]; omega) | (simp at *; omega) | rfl) (by first | omega | (simp; done) | (simp [-List.getD_eq_getElem?_getD]; omega) | (simp at *; omega) | rfl) (by first | omega | (simp; done) | (simp [-List.getD_eq_getElem?_getD]; omega) | (simp at *; omega) | rfl) (by first | omega | (simp; done) | (simp [-List.getD_eq_getElem?_getD]; omega)) (by first | omega | (simp; done) | (simp [-List.getD_eq_getElem?_getD]; omega)) rfl rfl) (Wt.plain rfl) ?_
        rintro _ _ ⟨k15, cap16, junk17, hc18, rfl, rfl⟩
        refine ⟨fun _ => (S_sub ((((((List.Sublist.slnil).cons _).cons _).cons_cons _).cons_cons _).cons_cons _)), ?_⟩
        change (_ : List Blk → Prop) [_, _, _, _, _]
        refine D.two 6 7 (by kernel_rfl) ?_ ?_
        ·
          refine Up.eff rfl (e_call enters24 rfl rfl (fun w hm => refmac_at key ((([] ++ lastT key info j) ++ info) ++ [IntKind.u8.wrap (((j + 1) : Nat) : Int)]) _ _ _ _ (by first | omega | (simp; done) | (simp; omega) | (simp at *; omega)) (by first | omega | (simp; done) | (simp; omega) | (simp at *; omega)) (by first | omega | (simp; done) | (simp; omega) | (simp at *; omega)) (by first | omega | (simp; done) | (simp; omega) | (simp at *; omega)) w ((R_blk 0 rfl) w hm) ((R_pre 3 rfl) w hm) (by first | omega | (simp; done) | (simp [-List.getD_eq_getElem?_getD]; omega) | (simp at *; omega) | rfl) (by first | omega | (simp; done) | (simp [-List.getD_eq_getElem?_getD]; omega) | (simp at *; omega) | rfl)) rfl rfl) (Wt.plain rfl) ?_
          rintro _ _ ⟨_, _, ⟨rfl, rfl⟩, rfl, rfl⟩
          refine ⟨fun _ => (S_sub ((((((List.Sublist.slnil).cons _).cons _).cons_cons _).cons_cons _).cons_cons _)), ?_⟩
          change (_ : List Blk → Prop) [_, _, _, _, _]
          refine D.one 7 (by kernel_rfl) ?_
          refine Up.eff rfl (e_alloc ze29 rfl rfl rfl) (Wt.plain rfl) ?_
          rintro _ _ ⟨k19, rfl, rfl⟩
          refine ⟨fun _ => (S_sub (((((((List.Sublist.slnil).cons _).cons _).cons _).cons_cons _).cons_cons _).cons_cons _)), ?_⟩
          change (_ : List Blk → Prop) [_, _, _, _, _, _]
          refine D.one 8 (by kernel_rfl) ?_
          refine Up.eff rfl (e_storeA (wide_ints wd29 (by first | omega | (simp; done) | (simp [-List.getD_eq_getElem?_getD]; omega) | (simp at *; omega) | rfl)) 5 rfl rfl rfl rfl (by first | omega | (simp; done) | (simp [-List.getD_eq_getElem?_getD]; omega) | (simp at *; omega) | rfl) ints_one rfl) (Wt.plain rfl) ?_
          rintro _ _ ⟨rfl, rfl⟩
          refine ⟨fun h => absurd h (by decide), ?_⟩
          change (_ : List Blk → Prop) [_, _, _, _, _, _]
          conv => rhs; rw [lastT_ref]
          refine D.done (by kernel_rfl) ?_
          refine Ex.next ?_
          refine W.less (L' := [(1, _), (2, _), (3, _), (8, _), (10, _), (12, _)]) [true, true, true, false, false, true] ⟨rfl, rfl, rfl, rfl, rfl, rfl, trivial⟩ ?_
          change (_ : List Blk → Prop) [_, _, _, _]
          refine W.seq ?_
          refine W.region ?_
          refine T.eff (e_litA sc22 ze5 rfl rfl rfl (by simp [Value.cells]) rfl rfl rfl) (Wt.plain rfl) ?_
          rintro _ _ ⟨k20, rfl, rfl⟩
          change (_ : List Blk → Prop) [_, _, _, _, _]
          refine T.q (q_slAll ar29 rfl rfl) (Wt.plain rfl) rfl rfl ?_
          refine T.eff (e_appendI sc22 ze5 rfl 4 .u8 [] (lastT key info (j + 1)) [] ((List.append_nil _).symm) (R_blk 3 rfl) rfl rfl rfl rfl (by first | omega | (simp; done) | (simp [-List.getD_eq_getElem?_getD]; omega) | (simp at *; omega) | rfl) (by first | omega | (simp; done) | (simp [-List.getD_eq_getElem?_getD]; omega) | (simp at *; omega) | rfl) (by first | omega | (simp; done) | (simp [-List.getD_eq_getElem?_getD]; omega) | (simp at *; omega) | rfl) (by first | omega | (simp; done) | (simp [-List.getD_eq_getElem?_getD]; omega)) (by first | omega | (simp; done) | (simp [-List.getD_eq_getElem?_getD]; omega)) rfl rfl) (Wt.plain rfl) ?_
          rintro _ _ ⟨k21, cap22, junk23, hc24, rfl, rfl⟩
          change (_ : List Blk → Prop) [_, _, _, _, _]
          conv => rhs; rw [List.nil_append]
          refine T.q (q_assign rfl rfl) (Wt.plain rfl) rfl rfl ?_
          refine T.nil ?_
          refine Ex.next ?_
          refine W.less (L' := [(1, _), (2, _), (3, _), (8, _), (9, _), (10, _)]) [true, true, true, false, true] ⟨rfl, rfl, rfl, rfl, rfl, rfl, trivial⟩ ?_
          change (_ : List Blk → Prop) [_, _, _, _]
          refine W.region ?_
          refine T.q (q_move rfl rfl) (Wt.plain rfl) rfl rfl ?_
          refine T.q (q_move rfl rfl) (Wt.plain rfl) rfl rfl ?_
          refine T.eff (e_appendI sc22 ze5 rfl 1 .u8 (outT key info j) (lastT key info (j + 1)) j8 (rfl) (R_pre 3 rfl) rfl rfl rfl rfl (by first | omega | (simp; done) | (simp [-List.getD_eq_getElem?_getD]; omega) | (simp at *; omega) | rfl) (by first | omega | (simp; done) | (simp [-List.getD_eq_getElem?_getD]; omega) | (simp at *; omega) | rfl) (by first | omega | (simp; done) | (simp [-List.getD_eq_getElem?_getD]; omega) | (simp at *; omega) | rfl) (by first | omega | (simp; done) | (simp [-List.getD_eq_getElem?_getD]; omega)) (by first | omega | (simp; done) | (simp [-List.getD_eq_getElem?_getD]; omega)) rfl rfl) (Wt.plain rfl) ?_
          rintro _ _ ⟨k25, cap26, junk27, hc28, rfl, rfl⟩
          change (_ : List Blk → Prop) [_, _, _, _]
          conv => rhs; rw [← outT_succ]
          refine T.q (q_assign rfl rfl) (Wt.plain rfl) rfl rfl ?_
          refine T.nil ?_
          refine Ex.in_normal ?_
          refine Ex.next ?_
          refine W.slots (L' := [(1, _), (2, _), (3, _), (8, _), (9, _), (10, _)]) ⟨rfl, rfl, rfl, rfl, rfl, rfl, trivial⟩ ?_
          refine W.region ?_
          refine T.q (q_move rfl rfl) (Wt.plain rfl) rfl rfl ?_
          refine T.q (q_addi rfl rfl rfl (by omega) (by omega)) (Wt.plain rfl) rfl rfl ?_
          refine T.q (q_assign rfl rfl) (Wt.plain rfl) rfl rfl ?_
          refine T.nil ?_
          exact Ex.again [true, true, false, true] (⟨j + 1, k25, cap26, junk27, k21, (0 + 32), cap22, junk23⟩ : Nat × Nat × Nat × List Value × Nat × Nat × Nat × List Value) (by dsimp only; omega) ⟨by dsimp only; omega, by dsimp only; omega, lastT_succ _ _ _, by dsimp only; omega, by dsimp only; omega⟩ ⟨rfl, rfl, rfl, rfl, rfl, rfl, trivial⟩ (by first | (dsimp only [pick]; done) | rfl)
        ·
          refine Up.eff rfl (e_alloc ze29 rfl rfl rfl) (Wt.plain rfl) ?_
          rintro _ _ ⟨k29, rfl, rfl⟩
          refine ⟨fun _ => (S_sub (((((((List.Sublist.slnil).cons _).cons _).cons _).cons_cons _).cons_cons _).cons_cons _)), ?_⟩
          change (_ : List Blk → Prop) [_, _, _, _, _, _]
          refine D.one 6 (by kernel_rfl) ?_
          refine Up.eff rfl (e_call enters24 rfl rfl (fun w hm => refmac_at key ((([] ++ lastT key info j) ++ info) ++ [IntKind.u8.wrap (((j + 1) : Nat) : Int)]) _ _ _ _ (by first | omega | (simp; done) | (simp; omega) | (simp at *; omega)) (by first | omega | (simp; done) | (simp; omega) | (simp at *; omega)) (by first | omega | (simp; done) | (simp; omega) | (simp at *; omega)) (by first | omega | (simp; done) | (simp; omega) | (simp at *; omega)) w ((R_blk 0 rfl) w hm) ((R_pre 3 rfl) w hm) (by first | omega | (simp; done) | (simp [-List.getD_eq_getElem?_getD]; omega) | (simp at *; omega) | rfl) (by first | omega | (simp; done) | (simp [-List.getD_eq_getElem?_getD]; omega) | (simp at *; omega) | rfl)) rfl rfl) (Wt.plain rfl) ?_
          rintro _ _ ⟨_, _, ⟨rfl, rfl⟩, rfl, rfl⟩
          refine ⟨fun _ => (S_sub (((((((List.Sublist.slnil).cons _).cons _).cons _).cons_cons _).cons_cons _).cons_cons _)), ?_⟩
          change (_ : List Blk → Prop) [_, _, _, _, _, _]
          refine D.one 8 (by kernel_rfl) ?_
          refine Up.eff rfl (e_storeA (wide_ints wd29 (by first | omega | (simp; done) | (simp [-List.getD_eq_getElem?_getD]; omega) | (simp at *; omega) | rfl)) 5 rfl rfl rfl rfl (by first | omega | (simp; done) | (simp [-List.getD_eq_getElem?_getD]; omega) | (simp at *; omega) | rfl) ints_one rfl) (Wt.plain rfl) ?_
          rintro _ _ ⟨rfl, rfl⟩
          refine ⟨fun h => absurd h (by decide), ?_⟩
          change (_ : List Blk → Prop) [_, _, _, _, _, _]
          conv => rhs; rw [lastT_ref]
          refine D.done (by kernel_rfl) ?_
          refine Ex.next ?_
          refine W.less (L' := [(1, _), (2, _), (3, _), (8, _), (10, _), (12, _)]) [true, true, true, false, false, true] ⟨rfl, rfl, rfl, rfl, rfl, rfl, trivial⟩ ?_
          change (_ : List Blk → Prop) [_, _, _, _]
          refine W.seq ?_
          refine W.region ?_
          refine T.eff (e_litA sc22 ze5 rfl rfl rfl (by simp [Value.cells]) rfl rfl rfl) (Wt.plain rfl) ?_
          rintro _ _ ⟨k30, rfl, rfl⟩
          change (_ : List Blk → Prop) [_, _, _, _, _]
          refine T.q (q_slAll ar29 rfl rfl) (Wt.plain rfl) rfl rfl ?_
          refine T.eff (e_appendI sc22 ze5 rfl 4 .u8 [] (lastT key info (j + 1)) [] ((List.append_nil _).symm) (R_blk 3 rfl) rfl rfl rfl rfl (by first | omega | (simp; done) | (simp [-List.getD_eq_getElem?_getD]; omega) | (simp at *; omega) | rfl) (by first | omega | (simp; done) | (simp [-List.getD_eq_getElem?_getD]; omega) | (simp at *; omega) | rfl) (by first | omega | (simp; done) | (simp [-List.getD_eq_getElem?_getD]; omega) | (simp at *; omega) | rfl) (by first | omega | (simp; done) | (simp [-List.getD_eq_getElem?_getD]; omega)) (by first | omega | (simp; done) | (simp [-List.getD_eq_getElem?_getD]; omega)) rfl rfl) (Wt.plain rfl) ?_
          rintro _ _ ⟨k31, cap32, junk33, hc34, rfl, rfl⟩
          change (_ : List Blk → Prop) [_, _, _, _, _]
          conv => rhs; rw [List.nil_append]
          refine T.q (q_assign rfl rfl) (Wt.plain rfl) rfl rfl ?_
          refine T.nil ?_
          refine Ex.next ?_
          refine W.less (L' := [(1, _), (2, _), (3, _), (8, _), (9, _), (10, _)]) [true, true, true, false, true] ⟨rfl, rfl, rfl, rfl, rfl, rfl, trivial⟩ ?_
          change (_ : List Blk → Prop) [_, _, _, _]
          refine W.region ?_
          refine T.q (q_move rfl rfl) (Wt.plain rfl) rfl rfl ?_
          refine T.q (q_move rfl rfl) (Wt.plain rfl) rfl rfl ?_
          refine T.eff (e_appendI sc22 ze5 rfl 1 .u8 (outT key info j) (lastT key info (j + 1)) j8 (rfl) (R_pre 3 rfl) rfl rfl rfl rfl (by first | omega | (simp; done) | (simp [-List.getD_eq_getElem?_getD]; omega) | (simp at *; omega) | rfl) (by first | omega | (simp; done) | (simp [-List.getD_eq_getElem?_getD]; omega) | (simp at *; omega) | rfl) (by first | omega | (simp; done) | (simp [-List.getD_eq_getElem?_getD]; omega) | (simp at *; omega) | rfl) (by first | omega | (simp; done) | (simp [-List.getD_eq_getElem?_getD]; omega)) (by first | omega | (simp; done) | (simp [-List.getD_eq_getElem?_getD]; omega)) rfl rfl) (Wt.plain rfl) ?_
          rintro _ _ ⟨k35, cap36, junk37, hc38, rfl, rfl⟩
          change (_ : List Blk → Prop) [_, _, _, _]
          conv => rhs; rw [← outT_succ]
          refine T.q (q_assign rfl rfl) (Wt.plain rfl) rfl rfl ?_
          refine T.nil ?_
          refine Ex.in_normal ?_
          refine Ex.next ?_
          refine W.slots (L' := [(1, _), (2, _), (3, _), (8, _), (9, _), (10, _)]) ⟨rfl, rfl, rfl, rfl, rfl, rfl, trivial⟩ ?_
          refine W.region ?_
          refine T.q (q_move rfl rfl) (Wt.plain rfl) rfl rfl ?_
          refine T.q (q_addi rfl rfl rfl (by omega) (by omega)) (Wt.plain rfl) rfl rfl ?_
          refine T.q (q_assign rfl rfl) (Wt.plain rfl) rfl rfl ?_
          refine T.nil ?_
          exact Ex.again [true, true, false, true] (⟨j + 1, k35, cap36, junk37, k31, (0 + 32), cap32, junk33⟩ : Nat × Nat × Nat × List Value × Nat × Nat × Nat × List Value) (by dsimp only; omega) ⟨by dsimp only; omega, by dsimp only; omega, lastT_succ _ _ _, by dsimp only; omega, by dsimp only; omega⟩ ⟨rfl, rfl, rfl, rfl, rfl, rfl, trivial⟩ (by first | (dsimp only [pick]; done) | rfl)
      ·
        refine Up.eff rfl (e_alloc ze29 rfl rfl rfl) (Wt.plain rfl) ?_
        rintro _ _ ⟨k39, rfl, rfl⟩
        refine ⟨fun _ => (S_sub (((((((List.Sublist.slnil).cons _).cons _).cons _).cons_cons _).cons_cons _).cons_cons _)), ?_⟩
        change (_ : List Blk → Prop) [_, _, _, _, _, _]
        refine D.one 5 (by kernel_rfl) ?_
        refine Up.eff rfl (e_appendI sc22 ze5 rfl 3 .u8 (([] ++ lastT key info j) ++ info) [IntKind.u8.wrap (((j + 1) : Nat) : Int)] junk12 (rfl) (R_blk 4 rfl) rfl rfl rfl rfl (by first | omega | (simp; done) | (simp [-List.getD_eq_getElem?_getD]; omega) | (simp at *; omega) | rfl) (by first | omega | (simp; done) | (simp [-List.getD_eq_getElem?_getD]; omega) | (simp at *; omega) | rfl) (by first | omega | (simp; done) | (simp [-List.getD_eq_getElem?_getD]; omega) | (simp at *; omega) | rfl) (by first | omega | (simp; done) | (simp [-List.getD_eq_getElem?_getD]; omega)) (by first | omega | (simp; done) | (simp [-List.getD_eq_getElem?_getD]; omega)) rfl rfl) (Wt.plain rfl) ?_
        rintro _ _ ⟨k40, cap41, junk42, hc43, rfl, rfl⟩
        refine ⟨fun _ => (S_sub (((((((List.Sublist.slnil).cons _).cons _).cons _).cons_cons _).cons_cons _).cons_cons _)), ?_⟩
        change (_ : List Blk → Prop) [_, _, _, _, _, _]
        refine D.one 6 (by kernel_rfl) ?_
        refine Up.eff rfl (e_call enters24 rfl rfl (fun w hm => refmac_at key ((([] ++ lastT key info j) ++ info) ++ [IntKind.u8.wrap (((j + 1) : Nat) : Int)]) _ _ _ _ (by first | omega | (simp; done) | (simp; omega) | (simp at *; omega)) (by first | omega | (simp; done) | (simp; omega) | (simp at *; omega)) (by first | omega | (simp; done) | (simp; omega) | (simp at *; omega)) (by first | omega | (simp; done) | (simp; omega) | (simp at *; omega)) w ((R_blk 0 rfl) w hm) ((R_pre 3 rfl) w hm) (by first | omega | (simp; done) | (simp [-List.getD_eq_getElem?_getD]; omega) | (simp at *; omega) | rfl) (by first | omega | (simp; done) | (simp [-List.getD_eq_getElem?_getD]; omega) | (simp at *; omega) | rfl)) rfl rfl) (Wt.plain rfl) ?_
        rintro _ _ ⟨_, _, ⟨rfl, rfl⟩, rfl, rfl⟩
        refine ⟨fun _ => (S_sub (((((((List.Sublist.slnil).cons _).cons _).cons _).cons_cons _).cons_cons _).cons_cons _)), ?_⟩
        change (_ : List Blk → Prop) [_, _, _, _, _, _]
        refine D.one 8 (by kernel_rfl) ?_
        refine Up.eff rfl (e_storeA (wide_ints wd29 (by first | omega | (simp; done) | (simp [-List.getD_eq_getElem?_getD]; omega) | (simp at *; omega) | rfl)) 5 rfl rfl rfl rfl (by first | omega | (simp; done) | (simp [-List.getD_eq_getElem?_getD]; omega) | (simp at *; omega) | rfl) ints_one rfl) (Wt.plain rfl) ?_
        rintro _ _ ⟨rfl, rfl⟩
        refine ⟨fun h => absurd h (by decide), ?_⟩
        change (_ : List Blk → Prop) [_, _, _, _, _, _]
        conv => rhs; rw [lastT_ref]
        refine D.done (by kernel_rfl) ?_
        refine Ex.next ?_
        refine W.less (L' := [(1, _), (2, _), (3, _), (8, _), (10, _), (12, _)]) [true, true, true, false, false, true] ⟨rfl, rfl, rfl, rfl, rfl, rfl, trivial⟩ ?_
        change (_ : List Blk → Prop) [_, _, _, _]
        refine W.seq ?_
        refine W.region ?_
        refine T.eff (e_litA sc22 ze5 rfl rfl rfl (by simp [Value.cells]) rfl rfl rfl) (Wt.plain rfl) ?_
        rintro _ _ ⟨k44, rfl, rfl⟩
        change (_ : List Blk → Prop) [_, _, _, _, _]
        refine T.q (q_slAll ar29 rfl rfl) (Wt.plain rfl) rfl rfl ?_
        refine T.eff (e_appendI sc22 ze5 rfl 4 .u8 [] (lastT key info (j + 1)) [] ((List.append_nil _).symm) (R_blk 3 rfl) rfl rfl rfl rfl (by first | omega | (simp; done) | (simp [-List.getD_eq_getElem?_getD]; omega) | (simp at *; omega) | rfl) (by first | omega | (simp; done) | (simp [-List.getD_eq_getElem?_getD]; omega) | (simp at *; omega) | rfl) (by first | omega | (simp; done) | (simp [-List.getD_eq_getElem?_getD]; omega) | (simp at *; omega) | rfl) (by first | omega | (simp; done) | (simp [-List.getD_eq_getElem?_getD]; omega)) (by first | omega | (simp; done) | (simp [-List.getD_eq_getElem?_getD]; omega)) rfl rfl) (Wt.plain rfl) ?_
        rintro _ _ ⟨k45, cap46, junk47, hc48, rfl, rfl⟩
        change (_ : List Blk → Prop) [_, _, _, _, _]
        conv => rhs; rw [List.nil_append]
        refine T.q (q_assign rfl rfl) (Wt.plain rfl) rfl rfl ?_
        refine T.nil ?_
        refine Ex.next ?_
        refine W.less (L' := [(1, _), (2, _), (3, _), (8, _), (9, _), (10, _)]) [true, true, true, false, true] ⟨rfl, rfl, rfl, rfl, rfl, rfl, trivial⟩ ?_
        change (_ : List Blk → Prop) [_, _, _, _]
        refine W.region ?_
        refine T.q (q_move rfl rfl) (Wt.plain rfl) rfl rfl ?_
        refine T.q (q_move rfl rfl) (Wt.plain rfl) rfl rfl ?_
        refine T.eff (e_appendI sc22 ze5 rfl 1 .u8 (outT key info j) (lastT key info (j + 1)) j8 (rfl) (R_pre 3 rfl) rfl rfl rfl rfl (by first | omega | (simp; done) | (simp [-List.getD_eq_getElem?_getD]; omega) | (simp at *; omega) | rfl) (by first | omega | (simp; done) | (simp [-List.getD_eq_getElem?_getD]; omega) | (simp at *; omega) | rfl) (by first | omega | (simp; done) | (simp [-List.getD_eq_getElem?_getD]; omega) | (simp at *; omega) | rfl) (by first | omega | (simp; done) | (simp [-List.getD_eq_getElem?_getD]; omega)) (by first | omega | (simp; done) | (simp [-List.getD_eq_getElem?_getD]; omega)) rfl rfl) (Wt.plain rfl) ?_
        rintro _ _ ⟨k49, cap50, junk51, hc52, rfl, rfl⟩
        change (_ : List Blk → Prop) [_, _, _, _]
        conv => rhs; rw [← outT_succ]
        refine T.q (q_assign rfl rfl) (Wt.plain rfl) rfl rfl ?_
        refine T.nil ?_
        refine Ex.in_normal ?_
        refine Ex.next ?_
        refine W.slots (L' := [(1, _), (2, _), (3, _), (8, _), (9, _), (10, _)]) ⟨rfl, rfl, rfl, rfl, rfl, rfl, trivial⟩ ?_
        refine W.region ?_
        refine T.q (q_move rfl rfl) (Wt.plain rfl) rfl rfl ?_
        refine T.q (q_addi rfl rfl rfl (by omega) (by omega)) (Wt.plain rfl) rfl rfl ?_
        refine T.q (q_assign rfl rfl) (Wt.plain rfl) rfl rfl ?_
        refine T.nil ?_
        exact Ex.again [true, true, false, true] (⟨j + 1, k49, cap50, junk51, k45, (0 + 32), cap46, junk47⟩ : Nat × Nat × Nat × List Value × Nat × Nat × Nat × List Value) (by dsimp only; omega) ⟨by dsimp only; omega, by dsimp only; omega, lastT_succ _ _ _, by dsimp only; omega, by dsimp only; omega⟩ ⟨rfl, rfl, rfl, rfl, rfl, rfl, trivial⟩ (by first | (dsimp only [pick]; done) | rfl)
    ·
      refine Up.eff rfl (e_alloc ze29 rfl rfl rfl) (Wt.plain rfl) ?_
      rintro _ _ ⟨k53, rfl, rfl⟩
      refine ⟨fun _ => (S_sub ((((((List.Sublist.slnil).cons _).cons _).cons_cons _).cons_cons _).cons_cons _)), ?_⟩
      change (_ : List Blk → Prop) [_, _, _, _, _]
      refine D.one 4 (by kernel_rfl) ?_
      refine Up.eff rfl (e_litA sc22 ze5 rfl rfl rfl (by simp [Value.cells]) rfl rfl rfl) (Wt.plain rfl) ?_
      rintro _ _ ⟨k54, rfl, rfl⟩
      refine ⟨fun _ => (S_sub (((((((List.Sublist.slnil).cons _).cons _).cons _).cons_cons _).cons_cons _).cons_cons _)), ?_⟩
      change (_ : List Blk → Prop) [_, _, _, _, _, _]
      refine D.one 5 (by kernel_rfl) ?_
      refine Up.eff rfl (e_appendI sc22 ze5 rfl 3 .u8 (([] ++ lastT key info j) ++ info) [IntKind.u8.wrap (((j + 1) : Nat) : Int)] junk12 (rfl) (R_blk 5 rfl) rfl rfl rfl rfl (by first | omega | (simp; done) | (simp [-List.getD_eq_getElem?_getD]; omega) | (simp at *; omega) | rfl) (by first | omega | (simp; done) | (simp [-List.getD_eq_getElem?_getD]; omega) | (simp at *; omega) | rfl) (by first | omega | (simp; done) | (simp [-List.getD_eq_getElem?_getD]; omega) | (simp at *; omega) | rfl) (by first | omega | (simp; done) | (simp [-List.getD_eq_getElem?_getD]; omega)) (by first | omega | (simp; done) | (simp [-List.getD_eq_getElem?_getD]; omega)) rfl rfl) (Wt.plain rfl) ?_
      rintro _ _ ⟨k55, cap56, junk57, hc58, rfl, rfl⟩
      refine ⟨fun _ => (S_sub (((((((List.Sublist.slnil).cons _).cons _).cons _).cons_cons _).cons_cons _).cons_cons _)), ?_⟩
      change (_ : List Blk → Prop) [_, _, _, _, _, _]
      refine D.one 6 (by kernel_rfl) ?_
      refine Up.eff rfl (e_call enters24 rfl rfl (fun w hm => refmac_at key ((([] ++ lastT key info j) ++ info) ++ [IntKind.u8.wrap (((j + 1) : Nat) : Int)]) _ _ _ _ (by first | omega | (simp; done) | (simp; omega) | (simp at *; omega)) (by first | omega | (simp; done) | (simp; omega) | (simp at *; omega)) (by first | omega | (simp; done) | (simp; omega) | (simp at *; omega)) (by first | omega | (simp; done) | (simp; omega) | (simp at *; omega)) w ((R_blk 0 rfl) w hm) ((R_pre 3 rfl) w hm) (by first | omega | (simp; done) | (simp [-List.getD_eq_getElem?_getD]; omega) | (simp at *; omega) | rfl) (by first | omega | (simp; done) | (simp [-List.getD_eq_getElem?_getD]; omega) | (simp at *; omega) | rfl)) rfl rfl) (Wt.plain rfl) ?_
      rintro _ _ ⟨_, _, ⟨rfl, rfl⟩, rfl, rfl⟩
      refine ⟨fun _ => (S_sub (((((((List.Sublist.slnil).cons _).cons _).cons _).cons_cons _).cons_cons _).cons_cons _)), ?_⟩
      change (_ : List Blk → Prop) [_, _, _, _, _, _]
      refine D.one 8 (by kernel_rfl) ?_
      refine Up.eff rfl (e_storeA (wide_ints wd29 (by first | omega | (simp; done) | (simp [-List.getD_eq_getElem?_getD]; omega) | (simp at *; omega) | rfl)) 4 rfl rfl rfl rfl (by first | omega | (simp; done) | (simp [-List.getD_eq_getElem?_getD]; omega) | (simp at *; omega) | rfl) ints_one rfl) (Wt.plain rfl) ?_
      rintro _ _ ⟨rfl, rfl⟩
      refine ⟨fun h => absurd h (by decide), ?_⟩
      change (_ : List Blk → Prop) [_, _, _, _, _, _]
      conv => rhs; rw [lastT_ref]
      refine D.done (by kernel_rfl) ?_
      refine Ex.next ?_
      refine W.less (L' := [(1, _), (2, _), (3, _), (8, _), (10, _), (12, _)]) [true, true, true, false, true, false] ⟨rfl, rfl, rfl, rfl, rfl, rfl, trivial⟩ ?_
      change (_ : List Blk → Prop) [_, _, _, _]
      refine W.seq ?_
      refine W.region ?_
      refine T.eff (e_litA sc22 ze5 rfl rfl rfl (by simp [Value.cells]) rfl rfl rfl) (Wt.plain rfl) ?_
      rintro _ _ ⟨k59, rfl, rfl⟩
      change (_ : List Blk → Prop) [_, _, _, _, _]
      refine T.q (q_slAll ar29 rfl rfl) (Wt.plain rfl) rfl rfl ?_
      refine T.eff (e_appendI sc22 ze5 rfl 4 .u8 [] (lastT key info (j + 1)) [] ((List.append_nil _).symm) (R_blk 3 rfl) rfl rfl rfl rfl (by first | omega | (simp; done) | (simp [-List.getD_eq_getElem?_getD]; omega) | (simp at *; omega) | rfl) (by first | omega | (simp; done) | (simp [-List.getD_eq_getElem?_getD]; omega) | (simp at *; omega) | rfl) (by first | omega | (simp; done) | (simp [-List.getD_eq_getElem?_getD]; omega) | (simp at *; omega) | rfl) (by first | omega | (simp; done) | (simp [-List.getD_eq_getElem?_getD]; omega)) (by first | omega | (simp; done) | (simp [-List.getD_eq_getElem?_getD]; omega)) rfl rfl) (Wt.plain rfl) ?_
      rintro _ _ ⟨k60, cap61, junk62, hc63, rfl, rfl⟩
      change (_ : List Blk → Prop) [_, _, _, _, _]
      conv => rhs; rw [List.nil_append]
      refine T.q (q_assign rfl rfl) (Wt.plain rfl) rfl rfl ?_
      refine T.nil ?_
      refine Ex.next ?_
      refine W.less (L' := [(1, _), (2, _), (3, _), (8, _), (9, _), (10, _)]) [true, true, true, false, true] ⟨rfl, rfl, rfl, rfl, rfl, rfl, trivial⟩ ?_
      change (_ : List Blk → Prop) [_, _, _, _]
      refine W.region ?_
      refine T.q (q_move rfl rfl) (Wt.plain rfl) rfl rfl ?_
      refine T.q (q_move rfl rfl) (Wt.plain rfl) rfl rfl ?_
      refine T.eff (e_appendI sc22 ze5 rfl 1 .u8 (outT key info j) (lastT key info (j + 1)) j8 (rfl) (R_pre 3 rfl) rfl rfl rfl rfl (by first | omega | (simp; done) | (simp [-List.getD_eq_getElem?_getD]; omega) | (simp at *; omega) | rfl) (by first | omega | (simp; done) | (simp [-List.getD_eq_getElem?_getD]; omega) | (simp at *; omega) | rfl) (by first | omega | (simp; done) | (simp [-List.getD_eq_getElem?_getD]; omega) | (simp at *; omega) | rfl) (by first | omega | (simp; done) | (simp [-List.getD_eq_getElem?_getD]; omega)) (by first | omega | (simp; done) | (simp [-List.getD_eq_getElem?_getD]; omega)) rfl rfl) (Wt.plain rfl) ?_
      rintro _ _ ⟨k64, cap65, junk66, hc67, rfl, rfl⟩
      change (_ : List Blk → Prop) [_, _, _, _]
      conv => rhs; rw [← outT_succ]
      refine T.q (q_assign rfl rfl) (Wt.plain rfl) rfl rfl ?_
      refine T.nil ?_
      refine Ex.in_normal ?_
      refine Ex.next ?_
      refine W.slots (L' := [(1, _), (2, _), (3, _), (8, _), (9, _), (10, _)]) ⟨rfl, rfl, rfl, rfl, rfl, rfl, trivial⟩ ?_
      refine W.region ?_
      refine T.q (q_move rfl rfl) (Wt.plain rfl) rfl rfl ?_
      refine T.q (q_addi rfl rfl rfl (by omega) (by omega)) (Wt.plain rfl) rfl rfl ?_
      refine T.q (q_assign rfl rfl) (Wt.plain rfl) rfl rfl ?_
      refine T.nil ?_
      exact Ex.again [true, true, false, true] (⟨j + 1, k64, cap65, junk66, k60, (0 + 32), cap61, junk62⟩ : Nat × Nat × Nat × List Value × Nat × Nat × Nat × List Value) (by dsimp only; omega) ⟨by dsimp only; omega, by dsimp only; omega, lastT_succ _ _ _, by dsimp only; omega, by dsimp only; omega⟩ ⟨rfl, rfl, rfl, rfl, rfl, rfl, trivial⟩ (by first | (dsimp only [pick]; done) | rfl)
  · replace hb4 := of_decide_eq_false hb4
    obtain rfl : j = ((n + 31) / 32) := by omega
    refine W.exit ?_
    refine Ex.then_exit ?_
    refine Ex.then_exit ?_
    refine Ex.in_here ?_
    refine Ex.next ?_
    refine W.less (L' := [(2, _), (8, _)]) [false, true, true] ⟨rfl, rfl, trivial⟩ ?_
    change (_ : List Blk → Prop) [_, _]
    refine W.seq ?_
    refine W.region ?_
    refine T.q (q_move rfl rfl) (Wt.plain rfl) rfl rfl ?_
    refine T.q (q_move rfl rfl) (Wt.plain rfl) rfl rfl ?_
    refine T.q (q_sl sc22 0 n c8 rfl rfl rfl ⟨_, _, rfl, by omega⟩ rfl (by first | omega | (simp; done) | (simp [-List.getD_eq_getElem?_getD]; omega)) (by first | omega | (simp; done) | (simp [-List.getD_eq_getElem?_getD]; omega)) (by first | omega | (simp; done) | (simp [-List.getD_eq_getElem?_getD]; omega)) (by simp)) (Wt.plain rfl) rfl rfl ?_
    refine T.q (q_assign rfl rfl) (Wt.plain rfl) rfl rfl ?_
    refine T.q (q_assign rfl rfl) (Wt.plain rfl) rfl rfl ?_
    refine T.nil ?_
    refine Ex.next ?_
    refine W.slots (L' := [(6, _), (7, _)]) ⟨rfl, rfl, trivial⟩ ?_
    refine W.ret ?_
    refine Ex.out2 [true, false] rfl rfl rfl ?_
    exact ⟨_, _, (ints .u8 ((outT key info ((n + 31) / 32)).drop n) ++ j8), by rw [cut_zero] <;> rfl, by omega, by rw [expS, ← List.append_assoc, ← ints_append, List.take_append_drop]; dsimp only [pick]⟩
theorem expand_pos (key info : List Int) (IA : Option Addr) (ic : Nat) (hk : key.length = 32) (hic : info.length ≤ ic) (hil : info.length ≤ 140737488354800) (n : Nat) (hpos : 0 < n) (hn : n ≤ 8160) (w0 : World) (hI : Reads w0 IA (ints .u8 info)) (hg0 : Reads w0 (some ⟨0, 0, none⟩) (ints .u32 startW)) (hg1 : Reads w0 (some ⟨1, 0, none⟩) (ints .u8 sgm)) (hg2 : Reads w0 (some ⟨2, 0, none⟩) (ints .u8 tbl)) :
    Does Tryd.prog 26 #[.agg (ints .u8 key).toArray, .slice IA info.length ic, .int .i64 ((n : Nat) : Int)] w0 [] (fun v G => ∃ (k : Nat) (junk : List Value), v = .tuple #[.slice (some ⟨k, 0, none⟩) n n, .int .i64 0] ∧ G = [⟨some k, ints .u8 (expS key info n) ++ junk, 5, (0, 0)⟩]) := by
  refine (expand_spec key info IA ic hk hic hil n hn w0 hI hg0 hg1 hg2).mono ?_
  rintro v G ⟨no, junk, rfl, hs, rfl⟩
  obtain ⟨k, rfl⟩ := Option.isSome_iff_exists.1 (hs hpos)
  exact ⟨k, junk, rfl, rfl⟩

end Go.Proofs.YtkoomaoelekpaaaDoor
