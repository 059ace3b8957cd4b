/-
  The walks of layer 4: what is laid over.
-/
import Derived.Test.YtgljacciacbggaaDoorW2
import Derived.Test.YtgljacciacbggaaDoorW3
import Derived.Test.YtgljacciacbggaaDoorPure2
namespace Go.Proofs.YtgljacciacbggaaDoor
open Go Go.X
set_option maxRecDepth 100000 in
set_option maxHeartbeats 1000000 in
theorem xor_spec (key nonce : List Int) (ctr : Int) (hk : key.length = 32) (hnn : nonce.length = 12) (hctr : IntKind.u32.wrap ctr = ctr) (A : Option Addr) (c : Nat) (xs : List Int) (hsz : xs.length ≤ 140737488351232) (w0 : World) (hR : Reads w0 A (ints .u8 xs)) (hh : Reads w0 (some ⟨0, 0, none⟩) (ints .u32 headW)) (ht : Reads w0 (some ⟨1, 0, none⟩) (ints .i64 tbl)) : Does Tryd.prog 14 #[.agg (ints .u8 key).toArray, .int .u32 ctr, .agg (ints .u8 nonce).toArray, .slice A xs.length c] w0 [] (fun v G => ∃ (k cap : Nat) (junk : List Value), v = .slice (some ⟨k, 0, none⟩) xs.length cap ∧ xs.length + junk.length = cap ∧ G = [⟨some k, ints .u8 (xorS key nonce ctr xs) ++ junk, 5, (0, 0)⟩]) := by
  refine spec_of 43 Tryd.func14 rfl rfl rfl ?_
  refine W.seq ?_
  refine W.region ?_
  refine T.eff (e_box rfl rfl rfl rfl) (Wt.plain rfl) ?_
  rintro _ _ ⟨k1, rfl, rfl⟩
  change (_ : List Blk → Prop) [_]
  refine T.eff (e_box rfl rfl rfl rfl) (Wt.plain rfl) ?_
  rintro _ _ ⟨k2, rfl, rfl⟩
  change (_ : List Blk → Prop) [_, _]
  refine T.q (q_assign rfl rfl) (Wt.plain rfl) rfl rfl ?_
  refine T.nil ?_
  refine Ex.next ?_
  refine W.slots (L' := [(1, _), (3, _), (4, _), (6, _)]) ⟨rfl, rfl, rfl, rfl, trivial⟩ ?_
  refine W.seq ?_
  refine W.region ?_
  refine T.q (q_move rfl rfl) (Wt.plain rfl) rfl rfl ?_
  refine T.q (q_len sc36 rfl rfl) (Wt.plain rfl) rfl rfl ?_
  refine T.eff (e_makeI sc36 ze5 xs.length xs.length rfl rfl rfl (by omega) (by omega) (by omega) (by omega) (by omega) rfl rfl) (Wt.plain rfl) ?_
  rintro _ _ ⟨k3, rfl, rfl⟩
  change (_ : List Blk → Prop) [_, _, _]
  refine T.q (q_assign rfl rfl) (Wt.plain rfl) rfl rfl ?_
  refine T.nil ?_
  refine Ex.next ?_
  refine W.slots (L' := [(1, _), (3, _), (4, _), (6, _), (9, _)]) ⟨rfl, rfl, rfl, rfl, rfl, trivial⟩ ?_
  refine W.seq ?_
  refine W.region ?_
  refine T.eff (e_alloc ze31 rfl rfl rfl) (Wt.plain rfl) ?_
  rintro _ _ ⟨k4, rfl, rfl⟩
  change (_ : List Blk → Prop) [_, _, _, _]
  refine T.nil ?_
  refine Ex.next ?_
  refine W.slots (L' := [(1, _), (3, _), (4, _), (6, _), (9, _), (10, _)]) ⟨rfl, rfl, rfl, rfl, rfl, rfl, trivial⟩ ?_
  refine W.seq ?_
  refine W.seq ?_
  refine W.region ?_
  refine T.q (q_move rfl rfl) (Wt.plain rfl) rfl rfl ?_
  refine T.q (q_len sc36 rfl rfl) (Wt.plain rfl) rfl rfl ?_
  refine T.q (q_move rfl rfl) (Wt.plain rfl) rfl rfl ?_
  refine T.nil ?_
  refine Ex.next ?_
  refine W.slots (L' := [(1, _), (4, _), (6, _), (9, _), (10, _), (16, _), (17, _), (18, _)]) ⟨rfl, rfl, rfl, rfl, rfl, rfl, rfl, rfl, trivial⟩ ?_
  refine W.block ?_
  refine W.loop (α := Nat × List Int × Int) (fun x_ => [(1, .int .u32 x_.2.2), (4, .pointer (some ⟨k1, 0, none⟩)), (6, .pointer (some ⟨k2, 0, none⟩)), (9, .slice (some ⟨k3, 0, none⟩) xs.length xs.length), (10, .pointer (some ⟨k4, 0, none⟩)), (16, .slice A xs.length c), (17, .int .i64 ((xs.length : Nat) : Int)), (18, .int .i64 ((x_.1 : Nat) : Int))]) (fun x_ => [⟨some k1, ints .u8 key, 28, (0, 0)⟩, ⟨some k2, ints .u8 nonce, 30, (0, 0)⟩, ⟨some k3, ints .u8 (fillAt (fun q => q) (xorAt key nonce ctr xs) x_.1 (List.replicate xs.length 0)), 5, (0, 0)⟩, ⟨some k4, ints .u8 x_.2.1, 31, (0, 0)⟩]) (fun x_ => x_.1 ≤ xs.length ∧ x_.2.1.length = 64 ∧ x_.2.2 = IntKind.u32.wrap (ctr + (((x_.1 + 63) / 64 : Nat) : Int)) ∧ (x_.1 % 64 ≠ 0 → x_.2.1 = block key nonce (IntKind.u32.wrap (ctr + ((x_.1 / 64 : Nat) : Int))))) (fun x_ => xs.length - x_.1) [true, true, true, true] (⟨0, List.replicate 64 0, ctr⟩) ⟨Nat.zero_le _, by simp, ctr_first ctr hctr, fun h => absurd rfl h⟩ ⟨rfl, rfl, rfl, rfl, rfl, rfl, rfl, rfl, trivial⟩ rfl ?_
  rintro ⟨i, bb, cc⟩ ⟨hi, hbl, hcc, hbb⟩
  conv => rhs; dsimp only
  conv => arg -2; dsimp only
  dsimp only at hi hbl hcc hbb
  refine W.seq ?_
  refine W.region ?_
  refine T.q (q_lss rfl rfl rfl) (Wt.plain rfl) rfl rfl ?_
  refine T.nil ?_
  refine Ex.next ?_
  refine W.slots (L' := [(1, _), (4, _), (6, _), (9, _), (10, _), (16, _), (17, _), (18, _), (19, _)]) ⟨rfl, rfl, rfl, rfl, rfl, rfl, rfl, rfl, rfl, trivial⟩ ?_
  refine W.seq ?_
  refine W.cond _ rfl (fun hb5 => ?_) (fun hb5 => ?_)
  · replace hb5 := of_decide_eq_true hb5
    refine W.skip ?_
    refine Ex.next ?_
    refine W.slots (L' := [(1, _), (4, _), (6, _), (9, _), (10, _), (16, _), (17, _), (18, _)]) ⟨rfl, rfl, rfl, rfl, rfl, rfl, rfl, rfl, trivial⟩ ?_
    refine W.seq ?_
    refine W.block ?_
    refine W.seq ?_
    refine W.region ?_
    refine T.q (q_move rfl rfl) (Wt.plain rfl) rfl rfl ?_
    refine T.q (q_ixE1 sc36 i (R_ext hR.ext) rfl rfl rfl (by omega) (by omega) (by first | omega | (simp; done) | (simp [-List.getD_eq_getElem?_getD]; omega))) (Wt.plain rfl) rfl rfl ?_
    refine T.q (q_loadE ss5 (R_ext hR.ext) rfl rfl (ints_get (by first | omega | (simp; done) | (simp [-List.getD_eq_getElem?_getD]; omega)))) (Wt.plain rfl) rfl rfl ?_
    refine T.q (q_assign rfl rfl) (Wt.plain rfl) rfl rfl ?_
    refine T.q (q_assign rfl rfl) (Wt.plain rfl) rfl rfl ?_
    refine T.nil ?_
    refine Ex.next ?_
    refine W.slots (L' := [(1, _), (4, _), (6, _), (9, _), (10, _), (11, _), (12, _), (16, _), (17, _), (18, _)]) ⟨rfl, rfl, rfl, rfl, rfl, rfl, rfl, rfl, rfl, rfl, trivial⟩ ?_
    refine W.meet (α := List Int × Int) (fun x_ => [(1, .int .u32 x_.2), (4, .pointer (some ⟨k1, 0, none⟩)), (6, .pointer (some ⟨k2, 0, none⟩)), (9, .slice (some ⟨k3, 0, none⟩) xs.length xs.length), (10, .pointer (some ⟨k4, 0, none⟩)), (11, .int .i64 ((i : Nat) : Int)), (12, .int .u8 ((xs).getD i 0)), (16, .slice A xs.length c), (17, .int .i64 ((xs.length : Nat) : Int)), (18, .int .i64 ((i : Nat) : Int))]) (fun x_ => [⟨some k1, ints .u8 key, 28, (0, 0)⟩, ⟨some k2, ints .u8 nonce, 30, (0, 0)⟩, ⟨some k3, ints .u8 (fillAt (fun q => q) (xorAt key nonce ctr xs) i (List.replicate xs.length 0)), 5, (0, 0)⟩, ⟨some k4, ints .u8 x_.1, 31, (0, 0)⟩]) (fun x_ => x_.1 = block key nonce (IntKind.u32.wrap (ctr + ((i / 64 : Nat) : Int))) ∧ x_.2 = IntKind.u32.wrap (ctr + (((i + 1 + 63) / 64 : Nat) : Int))) ?_ ?_
    ·
      refine W.seq ?_
      refine W.region ?_
      refine T.q (q_move rfl rfl) (Wt.plain rfl) rfl rfl ?_
      refine T.q (q_rem rfl rfl rfl (by omega) (by decide)) (Wt.plain rfl) rfl rfl ?_
      refine T.q (q_eql rfl rfl rfl) (Wt.plain rfl) rfl rfl ?_
      refine T.nil ?_
      refine Ex.next ?_
      refine W.slots (L' := [(1, _), (4, _), (6, _), (9, _), (10, _), (11, _), (12, _), (16, _), (17, _), (18, _), (25, _)]) ⟨rfl, rfl, rfl, rfl, rfl, rfl, rfl, rfl, rfl, rfl, rfl, trivial⟩ ?_
      refine W.cond _ rfl (fun hb6 => ?_) (fun hb6 => ?_)
      · replace hb6 := of_decide_eq_true hb6
        refine W.seq ?_
        refine W.region ?_
        refine T.q (q_loadW (wide_ints wd28 (by first | omega | (simp; done) | (simp [-List.getD_eq_getElem?_getD]; omega) | (simp at *; omega) | rfl)) (R_blk 0 rfl) rfl rfl) (Wt.plain rfl) rfl rfl ?_
        refine T.q (q_move rfl rfl) (Wt.plain rfl) rfl rfl ?_
        refine T.q (q_loadW (wide_ints wd30 (by first | omega | (simp; done) | (simp [-List.getD_eq_getElem?_getD]; omega) | (simp at *; omega) | rfl)) (R_blk 1 rfl) rfl rfl) (Wt.plain rfl) rfl rfl ?_
        refine T.eff (e_call enters12 rfl rfl (fun w hm => block_spec key nonce cc hk hnn w (R_ext hh.ext w hm) (R_ext ht.ext w hm)) rfl rfl) (Wt.plain rfl) ?_
        rintro _ _ ⟨_, _, ⟨rfl, rfl⟩, rfl, rfl⟩
        change (_ : List Blk → Prop) [_, _, _, _]
        refine T.eff (e_storeA (wide_ints wd31 (by first | omega | (simp; done) | (simp [-List.getD_eq_getElem?_getD]; omega) | (simp at *; omega) | rfl)) 3 rfl rfl rfl rfl (by first | omega | (simp; done) | (simp [-List.getD_eq_getElem?_getD]; omega) | (simp at *; omega) | rfl) ints_one rfl) (Wt.plain rfl) ?_
        rintro _ _ ⟨rfl, rfl⟩
        change (_ : List Blk → Prop) [_, _, _, _]
        refine T.nil ?_
        refine Ex.next ?_
        refine W.slots (L' := [(1, _), (4, _), (6, _), (9, _), (10, _), (11, _), (12, _), (16, _), (17, _), (18, _)]) ⟨rfl, rfl, rfl, rfl, rfl, rfl, rfl, rfl, rfl, rfl, trivial⟩ ?_
        refine W.region ?_
        refine T.q (q_move rfl rfl) (Wt.plain rfl) rfl rfl ?_
        refine T.q (q_add rfl rfl rfl) (Wt.plain rfl) rfl rfl ?_
        refine T.q (q_assign rfl rfl) (Wt.plain rfl) rfl rfl ?_
        refine T.nil ?_
        exact Ex.met [true, true, true, true] (⟨block key nonce cc, IntKind.u32.wrap (cc + 1)⟩ : List Int × Int) ⟨by dsimp only; rw [ctr_here ctr cc hcc (by omega)], by dsimp only; exact ctr_next ctr cc hcc (by omega)⟩ ⟨rfl, rfl, rfl, rfl, rfl, rfl, rfl, rfl, rfl, rfl, trivial⟩ (by first | (dsimp only [pick]; done) | rfl)
      · replace hb6 := of_decide_eq_false hb6
        refine W.skip ?_
        exact Ex.met [true, true, true, true] (⟨bb, cc⟩ : List Int × Int) ⟨hbb (by omega), ctr_same ctr cc hcc (by omega)⟩ ⟨rfl, rfl, rfl, rfl, rfl, rfl, rfl, rfl, rfl, rfl, trivial⟩ (by first | (dsimp only [pick]; done) | rfl)
    ·
      rintro ⟨b2, c2⟩ ⟨hb2, hc2⟩
      conv => rhs; dsimp only
      conv => arg -2; dsimp only
      dsimp only at hb2 hc2
      have hbl2 : b2.length = 64 := by rw [hb2]; exact block_length _ _ _
      refine W.region ?_
      refine T.q (q_move rfl rfl) (Wt.plain rfl) rfl rfl ?_
      refine T.q (q_move rfl rfl) (Wt.plain rfl) rfl rfl ?_
      refine T.q (q_move rfl rfl) (Wt.plain rfl) rfl rfl ?_
      refine T.q (q_move rfl rfl) (Wt.plain rfl) rfl rfl ?_
      refine T.q (q_rem rfl rfl rfl (by omega) (by decide)) (Wt.plain rfl) rfl rfl ?_
      refine T.q (q_ixA0 ar31 (i % 64) rfl rfl rfl (by omega) (by omega)) (Wt.plain rfl) rfl rfl ?_
      refine T.q (q_loadI ss5 3 rfl rfl rfl (by first | omega | (simp; done) | (simp [-List.getD_eq_getElem?_getD]; omega))) (Wt.plain rfl) rfl rfl ?_
      refine T.q (q_xor rfl rfl rfl) (Wt.plain rfl) rfl rfl ?_
      refine T.q (q_ixS0 sc36 i rfl rfl rfl (by omega) (by omega)) (Wt.plain rfl) rfl rfl ?_
      refine T.eff (e_storeI ss5 2 rfl rfl rfl rfl (by first | omega | (simp; done) | (simp [-List.getD_eq_getElem?_getD]; omega)) rfl) (Wt.plain rfl) ?_
      rintro _ _ ⟨rfl, rfl⟩
      change (_ : List Blk → Prop) [_, _, _, _]
      refine T.nil ?_
      refine Ex.in_normal ?_
      refine Ex.next ?_
      refine W.slots (L' := [(1, _), (4, _), (6, _), (9, _), (10, _), (16, _), (17, _), (18, _)]) ⟨rfl, rfl, rfl, rfl, rfl, rfl, rfl, rfl, trivial⟩ ?_
      refine W.region ?_
      refine T.q (q_addi rfl rfl rfl (by omega) (by omega)) (Wt.plain rfl) rfl rfl ?_
      refine T.q (q_move rfl rfl) (Wt.plain rfl) rfl rfl ?_
      refine T.nil ?_
      exact Ex.again [true, true, true, true] (⟨i + 1, b2, c2⟩ : Nat × List Int × Int) (by dsimp only; omega) (by dsimp only; exact ⟨by omega, by rw [hb2]; exact block_length _ _ _, hc2, fun h => by rw [hb2, show (i + 1) / 64 = i / 64 by omega]⟩) ⟨rfl, rfl, rfl, rfl, rfl, rfl, rfl, rfl, trivial⟩ (congrArg (fun r_ : List Int => ([⟨some k1, ints .u8 key, 28, (0, 0)⟩, ⟨some k2, ints .u8 nonce, 30, (0, 0)⟩, ⟨some k3, ints .u8 r_, 5, (0, 0)⟩, ⟨some k4, ints .u8 b2, 31, (0, 0)⟩] : List Blk)) (by rw [hb2, fillAt, xorAt]))
  · replace hb5 := of_decide_eq_false hb5
    obtain rfl : i = xs.length := by omega
    refine W.exit ?_
    refine Ex.then_exit ?_
    refine Ex.then_exit ?_
    refine Ex.in_here ?_
    refine Ex.next ?_
    refine W.less (L' := [(9, _)]) [false, false, true, false] ⟨rfl, trivial⟩ ?_
    change (_ : List Blk → Prop) [_]
    refine W.seq ?_
    refine W.region ?_
    refine T.q (q_move rfl rfl) (Wt.plain rfl) rfl rfl ?_
    refine T.q (q_assign rfl rfl) (Wt.plain rfl) rfl rfl ?_
    refine T.nil ?_
    refine Ex.next ?_
    refine W.slots (L' := [(8, _)]) ⟨rfl, trivial⟩ ?_
    refine W.ret ?_
    refine Ex.out1 [true] rfl rfl ?_
    exact ⟨_, _, [], rfl, by simp, by rw [List.append_nil, xorS, ← fillAt_all]; dsimp only [pick]⟩
set_option maxRecDepth 100000 in
set_option maxHeartbeats 1000000 in
theorem refxor_spec (key nonce : List Int) (ctr : Int) (hk : key.length = 32) (hnn : nonce.length = 12) (_hctr : IntKind.u32.wrap ctr = ctr) (A : Option Addr) (c : Nat) (xs : List Int) (hsz : xs.length ≤ 140737488351232) (w0 : World) (hR : Reads w0 A (ints .u8 xs)) : Does Tryd.prog 15 #[.agg (ints .u8 key).toArray, .int .u32 ctr, .agg (ints .u8 nonce).toArray, .slice A xs.length c] w0 [] (fun v G => ∃ (k cap : Nat) (junk : List Value), v = .slice (some ⟨k, 0, none⟩) xs.length cap ∧ xs.length + junk.length = cap ∧ G = [⟨some k, ints .u8 (xorS key nonce ctr xs) ++ junk, 5, (0, 0)⟩]) := by
  refine spec_of 55 Tryd.func15 rfl rfl rfl ?_
  refine W.seq ?_
  refine W.region ?_
  refine T.eff (e_box rfl rfl rfl rfl) (Wt.plain rfl) ?_
  rintro _ _ ⟨k1, rfl, rfl⟩
  change (_ : List Blk → Prop) [_]
  refine T.eff (e_box rfl rfl rfl rfl) (Wt.plain rfl) ?_
  rintro _ _ ⟨k2, rfl, rfl⟩
  change (_ : List Blk → Prop) [_, _]
  refine T.q (q_assign rfl rfl) (Wt.plain rfl) rfl rfl ?_
  refine T.nil ?_
  refine Ex.next ?_
  refine W.slots (L' := [(1, _), (3, _), (4, _), (6, _)]) ⟨rfl, rfl, rfl, rfl, trivial⟩ ?_
  refine W.seq ?_
  refine W.region ?_
  refine T.eff (e_litA sc36 ze5 rfl rfl rfl (by simp [Value.cells]) rfl rfl rfl) (Wt.plain rfl) ?_
  rintro _ _ ⟨k3, rfl, rfl⟩
  change (_ : List Blk → Prop) [_, _, _]
  refine T.q (q_assign rfl rfl) (Wt.plain rfl) rfl rfl ?_
  refine T.nil ?_
  refine Ex.next ?_
  refine W.slots (L' := [(1, _), (3, _), (4, _), (6, _), (9, _)]) ⟨rfl, rfl, rfl, rfl, rfl, trivial⟩ ?_
  refine W.seq ?_
  refine W.seq ?_
  refine W.region ?_
  refine T.q (q_assign rfl rfl) (Wt.plain rfl) rfl rfl ?_
  refine T.nil ?_
  refine Ex.next ?_
  refine W.slots (L' := [(1, _), (3, _), (4, _), (6, _), (9, _), (10, _)]) ⟨rfl, rfl, rfl, rfl, rfl, rfl, trivial⟩ ?_
  refine W.block ?_
  refine W.loop (α := Nat × Nat × Nat × List Value × Nat) (fun x_ => [(1, .int .u32 ctr), (3, .slice A xs.length c), (4, .pointer (some ⟨k1, 0, none⟩)), (6, .pointer (some ⟨k2, 0, none⟩)), (9, .slice (some ⟨x_.2.1, 0, none⟩) x_.2.2.2.2 x_.2.2.1), (10, .int .i64 (((64 * x_.1) : Nat) : Int))]) (fun x_ => [⟨some k1, ints .u8 key, 28, (0, 0)⟩, ⟨some k2, ints .u8 nonce, 30, (0, 0)⟩, ⟨some x_.2.1, ints .u8 (gather (xorAt key nonce ctr xs) x_.2.2.2.2 []) ++ x_.2.2.2.1, 5, (0, 0)⟩]) (fun x_ => x_.2.2.2.2 = min (64 * x_.1) xs.length ∧ 64 * x_.1 < xs.length + 64 ∧ x_.2.2.2.2 + x_.2.2.2.1.length = x_.2.2.1) (fun x_ => xs.length + 64 - 64 * x_.1) [true, true, true] (⟨0, k3, 0, [], 0⟩) (by simp) ⟨rfl, rfl, rfl, rfl, rfl, rfl, trivial⟩ rfl ?_
  rintro ⟨m, kk, cp, jj, gg⟩ ⟨hg, hm64, hj⟩
  conv => rhs; dsimp only
  conv => arg -2; dsimp only
  dsimp only at hg hm64 hj
  refine W.seq ?_
  refine W.seq ?_
  refine W.region ?_
  refine T.q (q_move rfl rfl) (Wt.plain rfl) rfl rfl ?_
  refine T.q (q_move rfl rfl) (Wt.plain rfl) rfl rfl ?_
  refine T.q (q_len sc36 rfl rfl) (Wt.plain rfl) rfl rfl ?_
  refine T.q (q_lss rfl rfl rfl) (Wt.plain rfl) rfl rfl ?_
  refine T.nil ?_
  refine Ex.next ?_
  refine W.slots (L' := [(1, _), (3, _), (4, _), (6, _), (9, _), (10, _), (17, _)]) ⟨rfl, rfl, rfl, rfl, rfl, rfl, rfl, trivial⟩ ?_
  refine W.cond _ rfl (fun hb4 => ?_) (fun hb4 => ?_)
  · replace hb4 := of_decide_eq_true hb4
    obtain rfl : gg = 64 * m := by omega
    refine W.skip ?_
    refine Ex.next ?_
    refine W.slots (L' := [(1, _), (3, _), (4, _), (6, _), (9, _), (10, _)]) ⟨rfl, rfl, rfl, rfl, rfl, rfl, trivial⟩ ?_
    refine W.seq ?_
    refine W.block ?_
    refine W.seq ?_
    refine W.region ?_
    refine T.q (q_loadW (wide_ints wd28 (by first | omega | (simp; done) | (simp [-List.getD_eq_getElem?_getD]; omega) | (simp at *; omega) | rfl)) (R_blk 0 rfl) rfl rfl) (Wt.plain rfl) rfl rfl ?_
    refine T.q (q_move rfl rfl) (Wt.plain rfl) rfl rfl ?_
    refine T.q (q_move rfl rfl) (Wt.plain rfl) rfl rfl ?_
    refine T.q (q_quo rfl rfl rfl (by omega) (by omega) (by decide)) (Wt.plain rfl) rfl rfl ?_
    refine T.q (q_conv un3 un22 rfl rfl) (Wt.plain rfl) rfl rfl ?_
    refine T.q (q_add rfl rfl rfl) (Wt.plain rfl) rfl rfl ?_
    refine T.q (q_loadW (wide_ints wd30 (by first | omega | (simp; done) | (simp [-List.getD_eq_getElem?_getD]; omega) | (simp at *; omega) | rfl)) (R_blk 1 rfl) rfl rfl) (Wt.plain rfl) rfl rfl ?_
    refine T.eff (e_call enters13 rfl rfl (fun w hm => refblock_spec key nonce (IntKind.u32.wrap (ctr + (IntKind.u32.wrap ((((64 * m) : Nat) : Int) / 64)))) hk hnn w) rfl rfl) (Wt.plain rfl) ?_
    rintro _ _ ⟨_, _, ⟨rfl, rfl⟩, rfl, rfl⟩
    change (_ : List Blk → Prop) [_, _, _]
    refine T.eff (e_alloc ze31 rfl rfl rfl) (Wt.plain rfl) ?_
    rintro _ _ ⟨k5, rfl, rfl⟩
    change (_ : List Blk → Prop) [_, _, _, _]
    refine T.eff (e_storeA (wide_ints wd31 (by first | omega | (simp; done) | (simp [-List.getD_eq_getElem?_getD]; omega) | (simp at *; omega) | rfl)) 3 rfl rfl rfl rfl (by first | omega | (simp; done) | (simp [-List.getD_eq_getElem?_getD]; omega) | (simp at *; omega) | rfl) ints_one rfl) (Wt.plain rfl) ?_
    rintro _ _ ⟨rfl, rfl⟩
    change (_ : List Blk → Prop) [_, _, _, _]
    refine T.nil ?_
    refine Ex.next ?_
    refine W.slots (L' := [(1, _), (3, _), (4, _), (6, _), (9, _), (10, _), (11, _)]) ⟨rfl, rfl, rfl, rfl, rfl, rfl, rfl, trivial⟩ ?_
    refine W.seq ?_
    refine W.region ?_
    refine T.q (q_move rfl rfl) (Wt.plain rfl) rfl rfl ?_
    refine T.q (q_assign rfl rfl) (Wt.plain rfl) rfl rfl ?_
    refine T.nil ?_
    refine Ex.next ?_
    refine W.slots (L' := [(1, _), (3, _), (4, _), (6, _), (9, _), (10, _), (11, _), (12, _)]) ⟨rfl, rfl, rfl, rfl, rfl, rfl, rfl, rfl, trivial⟩ ?_
    refine W.block ?_
    refine W.loop (α := Nat × Nat × Nat × List Value) (fun x_ => [(1, .int .u32 ctr), (3, .slice A xs.length c), (4, .pointer (some ⟨k1, 0, none⟩)), (6, .pointer (some ⟨k2, 0, none⟩)), (9, .slice (some ⟨x_.2.1, 0, none⟩) x_.1 x_.2.2.1), (10, .int .i64 (((64 * m) : Nat) : Int)), (11, .pointer (some ⟨k5, 0, none⟩)), (12, .int .i64 ((x_.1 : Nat) : Int))]) (fun x_ => [⟨some k1, ints .u8 key, 28, (0, 0)⟩, ⟨some k2, ints .u8 nonce, 30, (0, 0)⟩, ⟨some x_.2.1, ints .u8 (gather (xorAt key nonce ctr xs) x_.1 []) ++ x_.2.2.2, 5, (0, 0)⟩, ⟨some k5, ints .u8 (block key nonce (IntKind.u32.wrap (ctr + (IntKind.u32.wrap ((((64 * m) : Nat) : Int) / 64))))), 31, (0, 0)⟩]) (fun x_ => 64 * m ≤ x_.1 ∧ x_.1 ≤ min xs.length (64 * m + 64) ∧ x_.1 + x_.2.2.2.length = x_.2.2.1) (fun x_ => xs.length - x_.1) [true, true, true, true] (⟨64 * m, kk, cp, jj⟩) (by dsimp only; omega) ⟨rfl, rfl, rfl, rfl, rfl, rfl, rfl, rfl, trivial⟩ rfl ?_
    rintro ⟨ii, kq, cq, jq⟩ ⟨hi1, hi2, hj2⟩
    conv => rhs; dsimp only
    conv => arg -2; dsimp only
    dsimp only at hi1 hi2 hj2
    refine W.seq ?_
    refine W.seq ?_
    refine W.region ?_
    refine T.q (q_move rfl rfl) (Wt.plain rfl) rfl rfl ?_
    refine T.q (q_move rfl rfl) (Wt.plain rfl) rfl rfl ?_
    refine T.q (q_len sc36 rfl rfl) (Wt.plain rfl) rfl rfl ?_
    refine T.q (q_lss rfl rfl rfl) (Wt.plain rfl) rfl rfl ?_
    refine T.q (q_move rfl rfl) (Wt.plain rfl) rfl rfl ?_
    refine T.both (t := 33) _ rfl (fun hb6 => ?_) (fun hb6 => ?_)
    · replace hb6 := of_decide_eq_true hb6
      refine T.q (q_move rfl rfl) (Wt.yes rfl rfl rfl) rfl rfl ?_
      refine T.q (q_move rfl rfl) (Wt.yes rfl rfl rfl) rfl rfl ?_
      refine T.q (q_addi rfl rfl rfl (by omega) (by omega)) (Wt.yes rfl rfl rfl) rfl rfl ?_
      refine T.q (q_lss rfl rfl rfl) (Wt.yes rfl rfl rfl) rfl rfl ?_
      refine T.q (q_pickT rfl rfl rfl) (Wt.plain rfl) rfl rfl ?_
      refine T.nil ?_
      refine Ex.next ?_
      refine W.slots (L' := [(1, _), (3, _), (4, _), (6, _), (9, _), (10, _), (11, _), (12, _), (38, _)]) ⟨rfl, rfl, rfl, rfl, rfl, rfl, rfl, rfl, rfl, trivial⟩ ?_
      refine W.cond _ rfl (fun hb7 => ?_) (fun hb7 => ?_)
      · replace hb7 := of_decide_eq_true hb7
        refine W.skip ?_
        refine Ex.next ?_
        refine W.slots (L' := [(1, _), (3, _), (4, _), (6, _), (9, _), (10, _), (11, _), (12, _)]) ⟨rfl, rfl, rfl, rfl, rfl, rfl, rfl, rfl, trivial⟩ ?_
        refine W.seq ?_
        refine W.block ?_
        refine W.drawP 13 [true, true, false, true] (by kernel_rfl) ?_
        refine D.take 0 rfl (by kernel_rfl) (S_sub (((((List.Sublist.slnil).cons_cons _).cons _).cons_cons _).cons_cons _)) (q_move rfl rfl) (Wt.plain rfl) rfl rfl ?_
        refine D.take 1 rfl (by kernel_rfl) (S_sub (((((List.Sublist.slnil).cons_cons _).cons _).cons_cons _).cons_cons _)) (q_move rfl rfl) (Wt.plain rfl) rfl rfl ?_
        refine D.take 2 rfl (by kernel_rfl) (S_sub (((((List.Sublist.slnil).cons_cons _).cons _).cons_cons _).cons_cons _)) (q_move rfl rfl) (Wt.plain rfl) rfl rfl ?_
        refine D.take 3 rfl (by kernel_rfl) (S_sub (((((List.Sublist.slnil).cons_cons _).cons _).cons_cons _).cons_cons _)) (q_ixE1 sc36 ii (R_ext hR.ext) rfl rfl rfl (by omega) (by omega) (by first | omega | (simp; done) | (simp [-List.getD_eq_getElem?_getD]; omega))) (Wt.plain rfl) rfl rfl ?_
        refine D.take 4 rfl (by kernel_rfl) (S_sub (((((List.Sublist.slnil).cons_cons _).cons _).cons_cons _).cons_cons _)) (q_loadE ss5 (R_ext hR.ext) rfl rfl (ints_get (by first | omega | (simp; done) | (simp [-List.getD_eq_getElem?_getD]; omega)))) (Wt.plain rfl) rfl rfl ?_
        refine D.take 5 rfl (by kernel_rfl) (S_sub (((((List.Sublist.slnil).cons_cons _).cons _).cons_cons _).cons_cons _)) (q_move rfl rfl) (Wt.plain rfl) rfl rfl ?_
        refine D.take 6 rfl (by kernel_rfl) (S_sub (((((List.Sublist.slnil).cons_cons _).cons _).cons_cons _).cons_cons _)) (q_move rfl rfl) (Wt.plain rfl) rfl rfl ?_
        refine D.take 7 rfl (by kernel_rfl) (S_sub (((((List.Sublist.slnil).cons_cons _).cons _).cons_cons _).cons_cons _)) (q_subi rfl rfl rfl (by omega) (by omega)) (Wt.plain rfl) rfl rfl ?_
        refine D.take 8 rfl (by kernel_rfl) (S_sub (((((List.Sublist.slnil).cons_cons _).cons _).cons_cons _).cons_cons _)) (q_ixA0 ar31 (ii - 64 * m) rfl rfl rfl (by omega) (by omega)) (Wt.plain rfl) rfl rfl ?_
        refine D.take 9 rfl (by kernel_rfl) (S_sub (((((List.Sublist.slnil).cons_cons _).cons _).cons_cons _).cons_cons _)) (q_loadI ss5 2 rfl rfl rfl (by first | omega | (simp; done) | (simp [-List.getD_eq_getElem?_getD]; omega))) (Wt.plain rfl) rfl rfl ?_
        refine D.take 10 rfl (by kernel_rfl) (S_sub (((((List.Sublist.slnil).cons_cons _).cons _).cons_cons _).cons_cons _)) (q_xor rfl rfl rfl) (Wt.plain rfl) rfl rfl ?_
        refine D.one 11 (by kernel_rfl) ?_
        refine Up.eff rfl (e_litA sc36 ze5 rfl rfl rfl (by simp [Value.cells]) rfl rfl rfl) (Wt.plain rfl) ?_
        rintro _ _ ⟨k8, rfl, rfl⟩
        refine ⟨fun _ => (S_sub ((((((List.Sublist.slnil).cons _).cons_cons _).cons _).cons_cons _).cons_cons _)), ?_⟩
        refine D.one 12 (by kernel_rfl) ?_
        refine Up.eff rfl (e_appendI sc36 ze5 rfl 2 .u8 (gather (xorAt key nonce ctr xs) ii []) [bits .xor .u8 ((xs).getD ii 0) ((block key nonce (IntKind.u32.wrap (ctr + (IntKind.u32.wrap ((((64 * m) : Nat) : Int) / 64))))).getD (ii - 64 * m) 0)] jq (rfl) (R_blk 4 rfl) rfl rfl rfl rfl (by first | omega | (simp; done) | (simp [-List.getD_eq_getElem?_getD]; omega) | (simp at *; omega) | rfl) (by first | omega | (simp; done) | (simp [-List.getD_eq_getElem?_getD]; omega) | (simp at *; omega) | rfl) (by first | omega | (simp; done) | (simp [-List.getD_eq_getElem?_getD]; omega) | (simp at *; omega) | rfl) (by first | omega | (simp; done) | (simp [-List.getD_eq_getElem?_getD]; omega)) (by first | omega | (simp; done) | (simp [-List.getD_eq_getElem?_getD]; omega)) rfl rfl) (Wt.plain rfl) ?_
        rintro _ _ ⟨k9, cap10, junk11, hc12, rfl, rfl⟩
        refine ⟨fun _ => (S_sub ((((((List.Sublist.slnil).cons _).cons_cons _).cons _).cons_cons _).cons_cons _)), ?_⟩
        refine D.one 13 (by kernel_rfl) ?_
        refine Up.q rfl (q_assign rfl rfl) (Wt.plain rfl) rfl rfl (fun h => absurd h (by decide)) ?_
        refine D.done (by kernel_rfl) ?_
        refine Ex.in_normal ?_
        refine Ex.next ?_
        refine W.less (L' := [(1, _), (3, _), (4, _), (6, _), (9, _), (10, _), (11, _), (12, _)]) [true, true, true, true, false] ⟨rfl, rfl, rfl, rfl, rfl, rfl, rfl, rfl, trivial⟩ ?_
        change (_ : List Blk → Prop) [_, _, _, _]
        refine W.region ?_
        refine T.q (q_move rfl rfl) (Wt.plain rfl) rfl rfl ?_
        refine T.q (q_addi rfl rfl rfl (by omega) (by omega)) (Wt.plain rfl) rfl rfl ?_
        refine T.q (q_assign rfl rfl) (Wt.plain rfl) rfl rfl ?_
        refine T.nil ?_
        exact Ex.again [true, true, true, true] (⟨ii + 1, k9, cap10, junk11⟩ : Nat × Nat × Nat × List Value) (by dsimp only; omega) (by dsimp only; simp at *; omega) ⟨rfl, rfl, rfl, rfl, rfl, rfl, rfl, rfl, trivial⟩ (congrArg (fun r_ : List Int => ([⟨some k1, ints .u8 key, 28, (0, 0)⟩, ⟨some k2, ints .u8 nonce, 30, (0, 0)⟩, ⟨some k9, ints .u8 r_ ++ junk11, 5, (0, 0)⟩, ⟨some k5, ints .u8 (block key nonce (IntKind.u32.wrap (ctr + (IntKind.u32.wrap ((((64 * m) : Nat) : Int) / 64))))), 31, (0, 0)⟩] : List Blk)) (by rw [gather, xorAt_in key nonce ctr xs hi1 (by omega)]))
      · replace hb7 := of_decide_eq_false hb7
        obtain rfl : ii = min xs.length (64 * m + 64) := by omega
        refine W.exit ?_
        refine Ex.then_exit ?_
        refine Ex.then_exit ?_
        refine Ex.in_here ?_
        refine Ex.in_normal ?_
        refine Ex.next ?_
        refine W.less (L' := [(1, _), (3, _), (4, _), (6, _), (9, _), (10, _)]) [true, true, true, false] ⟨rfl, rfl, rfl, rfl, rfl, rfl, trivial⟩ ?_
        change (_ : List Blk → Prop) [_, _, _]
        refine W.region ?_
        refine T.q (q_move rfl rfl) (Wt.plain rfl) rfl rfl ?_
        refine T.q (q_addi rfl rfl rfl (by omega) (by omega)) (Wt.plain rfl) rfl rfl ?_
        refine T.q (q_assign rfl rfl) (Wt.plain rfl) rfl rfl ?_
        refine T.nil ?_
        exact Ex.again [true, true, true] (⟨m + 1, kq, cq, jq, min xs.length (64 * m + 64)⟩ : Nat × Nat × Nat × List Value × Nat) (by dsimp only; omega) (by dsimp only; omega) ⟨rfl, rfl, rfl, rfl, rfl, rfl, trivial⟩ (by first | (dsimp only [pick]; done) | rfl)
    · replace hb6 := of_decide_eq_false hb6
      refine T.no (Wn.no rfl rfl rfl rfl) rfl rfl ?_
      refine T.no (Wn.no rfl rfl rfl rfl) rfl rfl ?_
      refine T.no (Wn.no rfl rfl rfl rfl) rfl rfl ?_
      refine T.no (Wn.no rfl rfl rfl rfl) rfl rfl ?_
      refine T.q (q_pickF rfl rfl rfl) (Wt.plain rfl) rfl rfl ?_
      refine T.nil ?_
      refine Ex.next ?_
      refine W.slots (L' := [(1, _), (3, _), (4, _), (6, _), (9, _), (10, _), (11, _), (12, _), (38, _)]) ⟨rfl, rfl, rfl, rfl, rfl, rfl, rfl, rfl, rfl, trivial⟩ ?_
      refine W.condF rfl ?_
      obtain rfl : ii = min xs.length (64 * m + 64) := by omega
      refine W.exit ?_
      refine Ex.then_exit ?_
      refine Ex.then_exit ?_
      refine Ex.in_here ?_
      refine Ex.in_normal ?_
      refine Ex.next ?_
      refine W.less (L' := [(1, _), (3, _), (4, _), (6, _), (9, _), (10, _)]) [true, true, true, false] ⟨rfl, rfl, rfl, rfl, rfl, rfl, trivial⟩ ?_
      change (_ : List Blk → Prop) [_, _, _]
      refine W.region ?_
      refine T.q (q_move rfl rfl) (Wt.plain rfl) rfl rfl ?_
      refine T.q (q_addi rfl rfl rfl (by omega) (by omega)) (Wt.plain rfl) rfl rfl ?_
      refine T.q (q_assign rfl rfl) (Wt.plain rfl) rfl rfl ?_
      refine T.nil ?_
      exact Ex.again [true, true, true] (⟨m + 1, kq, cq, jq, min xs.length (64 * m + 64)⟩ : Nat × Nat × Nat × List Value × Nat) (by dsimp only; omega) (by dsimp only; omega) ⟨rfl, rfl, rfl, rfl, rfl, rfl, trivial⟩ (by first | (dsimp only [pick]; done) | rfl)
  · replace hb4 := of_decide_eq_false hb4
    obtain rfl : gg = xs.length := by omega
    refine W.exit ?_
    refine Ex.then_exit ?_
    refine Ex.then_exit ?_
    refine Ex.in_here ?_
    refine Ex.next ?_
    refine W.less (L' := [(9, _)]) [false, false, true] ⟨rfl, trivial⟩ ?_
    change (_ : List Blk → Prop) [_]
    refine W.seq ?_
    refine W.region ?_
    refine T.q (q_move rfl rfl) (Wt.plain rfl) rfl rfl ?_
    refine T.q (q_assign rfl rfl) (Wt.plain rfl) rfl rfl ?_
    refine T.nil ?_
    refine Ex.next ?_
    refine W.slots (L' := [(8, _)]) ⟨rfl, trivial⟩ ?_
    refine W.ret ?_
    refine Ex.out1 [true] rfl rfl ?_
    exact ⟨_, _, _, rfl, hj, rfl⟩
end Go.Proofs.YtgljacciacbggaaDoor
