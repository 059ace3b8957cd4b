/-
  The walks of layer 4: the laws.
-/
import Derived.Test.YtgljacciacbggaaDoorW4
import Derived.Test.YtgljacciacbggaaDoorPure3
namespace Go.Proofs.YtgljacciacbggaaDoor
open Go Go.X
theorem xor_spec' (key nonce : List Int) (ctr : Int) (hk : key.length = 32) (hnn : nonce.length = 12) (hctr : IntKind.u32.wrap ctr = ctr) (A : Option Addr) (n c : Nat) (xs : List Int) (hsz : xs.length ≤ 140737488351232) (w0 : World)
    (hR : Reads w0 A (ints .u8 xs)) (hh : Reads w0 (some ⟨0, 0, none⟩) (ints .u32 headW)) (ht : Reads w0 (some ⟨1, 0, none⟩) (ints .i64 tbl)) (hn : xs.length = n) :
    Does Tryd.prog 14 #[.agg (ints .u8 key).toArray, .int .u32 ctr, .agg (ints .u8 nonce).toArray, .slice A n c] w0 []
      (fun v G => ∃ (k cap : Nat) (junk : List Value), v = .slice (some ⟨k, 0, none⟩) n cap ∧ n + junk.length = cap ∧ G = [⟨some k, ints .u8 (xorS key nonce ctr xs) ++ junk, 5, (0, 0)⟩]) := by
  subst hn
  exact xor_spec key nonce ctr hk hnn hctr A c xs hsz w0 hR hh ht
theorem refxor_spec' (key nonce : List Int) (ctr : Int) (hk : key.length = 32) (hnn : nonce.length = 12) (hctr : IntKind.u32.wrap ctr = ctr) (A : Option Addr) (n c : Nat) (xs : List Int) (hsz : xs.length ≤ 140737488351232) (w0 : World)
    (hR : Reads w0 A (ints .u8 xs)) (hn : xs.length = n) :
    Does Tryd.prog 15 #[.agg (ints .u8 key).toArray, .int .u32 ctr, .agg (ints .u8 nonce).toArray, .slice A n c] w0 []
      (fun v G => ∃ (k cap : Nat) (junk : List Value), v = .slice (some ⟨k, 0, none⟩) n cap ∧ n + junk.length = cap ∧ G = [⟨some k, ints .u8 (xorS key nonce ctr xs) ++ junk, 5, (0, 0)⟩]) := by
  subst hn
  exact refxor_spec key nonce ctr hk hnn hctr A c xs hsz w0 hR
theorem wrapped1 (ctr : Int) : IntKind.u32.wrap (IntKind.u32.wrap (ctr + 1)) = IntKind.u32.wrap (ctr + 1) := by simp [IntKind.wrap, IntKind.bits, IntKind.signed]
set_option maxRecDepth 100000 in
theorem shown_spec (w0 : World) (hh : Reads w0 (some ⟨0, 0, none⟩) (ints .u32 headW)) (ht : Reads w0 (some ⟨1, 0, none⟩) (ints .i64 tbl)) : Does Tryd.prog 9 #[] w0 [] (fun v G => v = .bool true ∧ G = []) := by
  have hsz : True := trivial
  have hk : kshown.length = 32 := by simp [kshown, fillAt_length]
  have hnn : nshown.length = 12 := rfl
  have hctr : IntKind.u32.wrap 1 = 1 := rfl
  have hx : True := trivial
  refine spec_of 43 Tryd.func9 rfl rfl rfl ?_
  refine W.seq ?_
  refine W.region ?_
  refine T.q (q_assign rfl rfl) (Wt.plain rfl) rfl rfl ?_
  refine T.nil ?_
  refine Ex.next ?_
  refine W.slots (L' := []) trivial ?_
  refine W.seq ?_
  refine W.region ?_
  refine T.q (q_build (v := .agg (ints .u8 (List.replicate 32 0)).toArray) rfl rfl (fun _ => by kernel_rfl)) (Wt.plain rfl) rfl rfl ?_
  refine T.eff (e_alloc ze28 rfl rfl rfl) (Wt.plain rfl) ?_
  rintro _ _ ⟨k1, rfl, rfl⟩
  change (_ : List Blk → Prop) [_]
  refine T.eff (e_storeA (wide_ints wd28 (by first | omega | (simp; done) | (simp [-List.getD_eq_getElem?_getD]; omega) | (simp at *; omega) | rfl)) 0 rfl rfl rfl rfl (by first | omega | (simp; done) | (simp [-List.getD_eq_getElem?_getD]; omega) | (simp at *; omega) | rfl) ints_one rfl) (Wt.plain rfl) ?_
  rintro _ _ ⟨rfl, rfl⟩
  change (_ : List Blk → Prop) [_]
  refine T.nil ?_
  refine Ex.next ?_
  refine W.slots (L' := [(1, _)]) ⟨rfl, trivial⟩ ?_
  refine W.seq ?_
  refine W.seq ?_
  refine W.region ?_
  refine T.q (q_assign rfl rfl) (Wt.plain rfl) rfl rfl ?_
  refine T.nil ?_
  refine Ex.next ?_
  refine W.slots (L' := [(1, _), (2, _)]) ⟨rfl, rfl, trivial⟩ ?_
  refine W.block ?_
  refine W.loop (α := Nat) (fun i => [(1, .pointer (some ⟨k1, 0, none⟩)), (2, .int .i64 ((i : Nat) : Int))]) (fun i => [⟨some k1, ints .u8 (fillAt (fun q => q) (fun q => IntKind.u8.wrap ((q : Nat) : Int)) i (List.replicate 32 0)), 28, (0, 0)⟩]) (fun i => i ≤ 32) (fun i => 32 - i) [true] 0 (by omega) ⟨rfl, rfl, trivial⟩ rfl ?_
  rintro i hi
  refine W.seq ?_
  refine W.seq ?_
  refine W.region ?_
  refine T.q (q_move rfl rfl) (Wt.plain rfl) rfl rfl ?_
  refine T.q (q_lss rfl rfl rfl) (Wt.plain rfl) rfl rfl ?_
  refine T.nil ?_
  refine Ex.next ?_
  refine W.slots (L' := [(1, _), (2, _), (9, _)]) ⟨rfl, rfl, rfl, trivial⟩ ?_
  refine W.cond _ rfl (fun hb2 => ?_) (fun hb2 => ?_)
  · replace hb2 := of_decide_eq_true hb2
    refine W.skip ?_
    refine Ex.next ?_
    refine W.slots (L' := [(1, _), (2, _)]) ⟨rfl, rfl, trivial⟩ ?_
    refine W.seq ?_
    refine W.block ?_
    refine W.region ?_
    refine T.q (q_move rfl rfl) (Wt.plain rfl) rfl rfl ?_
    refine T.q (q_move rfl rfl) (Wt.plain rfl) rfl rfl ?_
    refine T.q (q_conv un3 un5 rfl rfl) (Wt.plain rfl) rfl rfl ?_
    refine T.q (q_ixA0 ar28 i rfl rfl rfl (by omega) (by omega)) (Wt.plain rfl) rfl rfl ?_
    refine T.eff (e_storeI ss5 0 rfl rfl rfl rfl (by first | omega | (simp; done) | (simp [-List.getD_eq_getElem?_getD]; omega)) rfl) (Wt.plain rfl) ?_
    rintro _ _ ⟨rfl, rfl⟩
    change (_ : List Blk → Prop) [_]
    refine T.nil ?_
    refine Ex.in_normal ?_
    refine Ex.next ?_
    refine W.slots (L' := [(1, _), (2, _)]) ⟨rfl, rfl, trivial⟩ ?_
    refine W.region ?_
    refine T.q (q_move rfl rfl) (Wt.plain rfl) rfl rfl ?_
    refine T.q (q_addi rfl rfl rfl (by omega) (by omega)) (Wt.plain rfl) rfl rfl ?_
    refine T.q (q_assign rfl rfl) (Wt.plain rfl) rfl rfl ?_
    refine T.nil ?_
    exact Ex.again [true] (i + 1) (by omega) (by omega) ⟨rfl, rfl, trivial⟩ rfl
  · replace hb2 := of_decide_eq_false hb2
    obtain rfl : i = 32 := by omega
    refine W.exit ?_
    refine Ex.then_exit ?_
    refine Ex.then_exit ?_
    refine Ex.in_here ?_
    refine Ex.next ?_
    refine W.slots (L' := [(1, _)]) ⟨rfl, trivial⟩ ?_
    refine W.seq ?_
    refine W.region ?_
    refine T.q (q_loadW (wide_ints wd28 (by first | omega | (simp; done) | (simp [-List.getD_eq_getElem?_getD]; omega) | (simp at *; omega) | rfl)) (R_blk 0 rfl) rfl rfl) (Wt.plain rfl) rfl rfl ?_
    refine T.q (q_build (v := .agg (ints .u8 [0, 0, 0, 9, 0, 0, 0, 74, 0, 0, 0, 0]).toArray) rfl rfl (fun _ => by kernel_rfl)) (Wt.plain rfl) rfl rfl ?_
    refine T.eff (e_call enters12 rfl rfl (fun w hm => block_spec kshown nshown 1 hk hnn w (R_ext hh.ext w hm) (R_ext ht.ext w hm)) rfl rfl) (Wt.plain rfl) ?_
    rintro _ _ ⟨_, _, ⟨rfl, rfl⟩, rfl, rfl⟩
    change (_ : List Blk → Prop) [_]
    refine T.eff (e_alloc ze31 rfl rfl rfl) (Wt.plain rfl) ?_
    rintro _ _ ⟨k3, rfl, rfl⟩
    change (_ : List Blk → Prop) [_, _]
    refine T.eff (e_storeA (wide_ints wd31 (by first | omega | (simp; done) | (simp [-List.getD_eq_getElem?_getD]; omega) | (simp at *; omega) | rfl)) 1 rfl rfl rfl rfl (by first | omega | (simp; done) | (simp [-List.getD_eq_getElem?_getD]; omega) | (simp at *; omega) | rfl) ints_one rfl) (Wt.plain rfl) ?_
    rintro _ _ ⟨rfl, rfl⟩
    change (_ : List Blk → Prop) [_, _]
    refine T.nil ?_
    refine Ex.next ?_
    refine W.slots (L' := [(1, _), (3, _)]) ⟨rfl, rfl, trivial⟩ ?_
    refine W.seq ?_
    refine W.region ?_
    refine T.q (q_build (v := .agg (ints .u32 [286331153, 16909060, 2609737539, 19088743]).toArray) rfl rfl (fun _ => by kernel_rfl)) (Wt.plain rfl) rfl rfl ?_
    refine T.eff (e_call enters10 rfl rfl (fun w hm => quarter_spec _ (by first | omega | (simp; done)) w) rfl rfl) (Wt.plain rfl) ?_
    rintro _ _ ⟨_, _, ⟨rfl, rfl⟩, rfl, rfl⟩
    change (_ : List Blk → Prop) [_, _]
    refine T.eff (e_alloc ze23 rfl rfl rfl) (Wt.plain rfl) ?_
    rintro _ _ ⟨k4, rfl, rfl⟩
    change (_ : List Blk → Prop) [_, _, _]
    refine T.eff (e_storeA (wide_ints wd23 (by first | omega | (simp; done) | (simp [-List.getD_eq_getElem?_getD]; omega) | (simp at *; omega) | rfl)) 2 rfl rfl rfl rfl (by first | omega | (simp; done) | (simp [-List.getD_eq_getElem?_getD]; omega) | (simp at *; omega) | rfl) ints_one rfl) (Wt.plain rfl) ?_
    rintro _ _ ⟨rfl, rfl⟩
    change (_ : List Blk → Prop) [_, _, _]
    refine T.nil ?_
    refine Ex.next ?_
    refine W.slots (L' := [(1, _), (3, _), (4, _)]) ⟨rfl, rfl, rfl, trivial⟩ ?_
    refine W.seq ?_
    refine W.region ?_
    refine T.q (q_build (v := .agg (ints .u8 [16, 241, 231, 228, 209, 59, 89, 21]).toArray) rfl rfl (fun _ => by kernel_rfl)) (Wt.plain rfl) rfl rfl ?_
    refine T.eff (e_alloc ze41 rfl rfl rfl) (Wt.plain rfl) ?_
    rintro _ _ ⟨k5, rfl, rfl⟩
    change (_ : List Blk → Prop) [_, _, _, _]
    refine T.eff (e_storeA (wide_ints wd41 (by first | omega | (simp; done) | (simp [-List.getD_eq_getElem?_getD]; omega) | (simp at *; omega) | rfl)) 3 rfl rfl rfl rfl (by first | omega | (simp; done) | (simp [-List.getD_eq_getElem?_getD]; omega) | (simp at *; omega) | rfl) ints_one rfl) (Wt.plain rfl) ?_
    rintro _ _ ⟨rfl, rfl⟩
    change (_ : List Blk → Prop) [_, _, _, _]
    refine T.nil ?_
    refine Ex.next ?_
    refine W.slots (L' := [(1, _), (3, _), (4, _), (5, _)]) ⟨rfl, rfl, rfl, rfl, trivial⟩ ?_
    refine W.seq ?_
    refine W.seq ?_
    refine W.region ?_
    refine T.q (q_assign rfl rfl) (Wt.plain rfl) rfl rfl ?_
    refine T.nil ?_
    refine Ex.next ?_
    refine W.slots (L' := [(1, _), (3, _), (4, _), (5, _), (6, _)]) ⟨rfl, rfl, rfl, rfl, rfl, trivial⟩ ?_
    refine W.block ?_
    refine W.loop (α := Nat) (fun i => [(1, .pointer (some ⟨k1, 0, none⟩)), (3, .pointer (some ⟨k3, 0, none⟩)), (4, .pointer (some ⟨k4, 0, none⟩)), (5, .pointer (some ⟨k5, 0, none⟩)), (6, .int .i64 ((i : Nat) : Int))]) (fun i => [⟨some k1, ints .u8 (fillAt (fun q => q) (fun q => IntKind.u8.wrap ((q : Nat) : Int)) 32 (List.replicate 32 0)), 28, (0, 0)⟩, ⟨some k3, ints .u8 (block kshown nshown 1), 31, (0, 0)⟩, ⟨some k4, ints .u32 (quarter [286331153, 16909060, 2609737539, 19088743]), 23, (0, 0)⟩, ⟨some k5, ints .u8 [16, 241, 231, 228, 209, 59, 89, 21], 41, (0, 0)⟩]) (fun i => i ≤ 8) (fun i => 8 - i) [true, true, true, true] 0 (by omega) ⟨rfl, rfl, rfl, rfl, rfl, trivial⟩ rfl ?_
    rintro i hi
    refine W.seq ?_
    refine W.seq ?_
    refine W.region ?_
    refine T.q (q_move rfl rfl) (Wt.plain rfl) rfl rfl ?_
    refine T.q (q_lss rfl rfl rfl) (Wt.plain rfl) rfl rfl ?_
    refine T.nil ?_
    refine Ex.next ?_
    refine W.slots (L' := [(1, _), (3, _), (4, _), (5, _), (6, _), (23, _)]) ⟨rfl, rfl, rfl, rfl, rfl, rfl, trivial⟩ ?_
    refine W.cond _ rfl (fun hb6 => ?_) (fun hb6 => ?_)
    · replace hb6 := of_decide_eq_true hb6
      refine W.skip ?_
      refine Ex.next ?_
      refine W.slots (L' := [(1, _), (3, _), (4, _), (5, _), (6, _)]) ⟨rfl, rfl, rfl, rfl, rfl, trivial⟩ ?_
      refine W.seq ?_
      refine W.block ?_
      refine W.seq ?_
      refine W.draw 7 (by kernel_rfl) ?_
      refine D.take 0 rfl (by kernel_rfl) (fun _ h => h) (q_move rfl rfl) (Wt.plain rfl) rfl rfl ?_
      refine D.take 1 rfl (by kernel_rfl) (fun _ h => h) (q_ixA0 ar31 i rfl rfl rfl (by omega) (by omega)) (Wt.plain rfl) rfl rfl ?_
      refine D.take 2 rfl (by kernel_rfl) (fun _ h => h) (q_loadI ss5 1 rfl rfl rfl (by first | omega | (simp; done) | (simp [-List.getD_eq_getElem?_getD]; omega))) (Wt.plain rfl) rfl rfl ?_
      refine D.take 3 rfl (by kernel_rfl) (fun _ h => h) (q_move rfl rfl) (Wt.plain rfl) rfl rfl ?_
      refine D.take 4 rfl (by kernel_rfl) (fun _ h => h) (q_ixA0 ar41 i rfl rfl rfl (by omega) (by omega)) (Wt.plain rfl) rfl rfl ?_
      refine D.take 5 rfl (by kernel_rfl) (fun _ h => h) (q_loadI ss5 3 rfl rfl rfl (by first | omega | (simp; done) | (simp [-List.getD_eq_getElem?_getD]; omega))) (Wt.plain rfl) rfl rfl ?_
      refine D.take 6 rfl (by kernel_rfl) (fun _ h => h) (q_bool (b := false) (q_neq rfl rfl rfl) ?hE) (Wt.plain rfl) rfl rfl ?_
      case hE => simp only [block_shown i (by omega)]; simp
      refine D.done (by kernel_rfl) ?_
      refine Ex.next ?_
      refine W.slots (L' := [(1, _), (3, _), (4, _), (5, _), (6, _), (32, _)]) ⟨rfl, rfl, rfl, rfl, rfl, rfl, trivial⟩ ?_
      refine W.condF rfl ?_
      refine W.skip ?_
      refine Ex.in_normal ?_
      refine Ex.next ?_
      refine W.slots (L' := [(1, _), (3, _), (4, _), (5, _), (6, _)]) ⟨rfl, rfl, rfl, rfl, rfl, trivial⟩ ?_
      refine W.region ?_
      refine T.q (q_move rfl rfl) (Wt.plain rfl) rfl rfl ?_
      refine T.q (q_addi rfl rfl rfl (by omega) (by omega)) (Wt.plain rfl) rfl rfl ?_
      refine T.q (q_assign rfl rfl) (Wt.plain rfl) rfl rfl ?_
      refine T.nil ?_
      exact Ex.again [true, true, true, true] (i + 1) (by omega) (by omega) ⟨rfl, rfl, rfl, rfl, rfl, trivial⟩ rfl
    · replace hb6 := of_decide_eq_false hb6
      obtain rfl : i = 8 := by omega
      refine W.exit ?_
      refine Ex.then_exit ?_
      refine Ex.then_exit ?_
      refine Ex.in_here ?_
      refine Ex.next ?_
      refine W.less (L' := [(1, _), (4, _)]) [true, false, true, false] ⟨rfl, rfl, trivial⟩ ?_
      change (_ : List Blk → Prop) [_, _]
      refine W.seq ?_
      refine W.region ?_
      refine T.q (q_loadW (wide_ints wd23 (by first | omega | (simp; done) | (simp [-List.getD_eq_getElem?_getD]; omega) | (simp at *; omega) | rfl)) (R_blk 1 rfl) rfl rfl) (Wt.plain rfl) rfl rfl ?_
      refine T.q (q_build (v := .agg (ints .u32 [3928658676, 3407673550, 1166100270, 1484899515]).toArray) rfl rfl (fun _ => by kernel_rfl)) (Wt.plain rfl) rfl rfl ?_
      refine T.q (q_bool (b := true) (q_eqlA ar23 ss22 un22 eg23 rfl rfl rfl (by first | omega | (simp; done) | (simp [-List.getD_eq_getElem?_getD]; omega) | (simp at *; omega) | rfl) (by first | omega | (simp; done) | (simp [-List.getD_eq_getElem?_getD]; omega) | (simp at *; omega) | rfl)) (decide_eq_true quarter_shown)) (Wt.plain rfl) rfl rfl ?_
      refine T.q (q_move rfl rfl) (Wt.plain rfl) rfl rfl ?_
      refine T.q (q_loadW (wide_ints wd28 (by first | omega | (simp; done) | (simp [-List.getD_eq_getElem?_getD]; omega) | (simp at *; omega) | rfl)) (R_blk 0 rfl) rfl rfl) (Wt.yes rfl rfl rfl) rfl rfl ?_
      refine T.q (q_build (v := .agg (ints .u8 (List.replicate 12 0)).toArray) rfl rfl (fun _ => by kernel_rfl)) (Wt.yes rfl rfl rfl) rfl rfl ?_
      refine T.eff (e_call enters14 rfl rfl (fun w hm => xor_spec' kshown (List.replicate 12 0) 1 hk hnn hctr _ _ _ [] (by first | omega | (simp; done) | (simp; omega)) w ((fun w _ => Reads.nil w none) w hm) (R_ext hh.ext w hm) (R_ext ht.ext w hm) (by first | omega | (simp; done) | (simp [-List.getD_eq_getElem?_getD]; omega) | (simp at *; omega) | rfl)) rfl rfl) (Wt.yes rfl rfl rfl) ?_
      rintro _ _ ⟨_, _, ⟨k7, cap8, junk9, rfl, hc10, rfl⟩, rfl, rfl⟩
      change (_ : List Blk → Prop) [_, _, _]
      refine T.q (q_len sc36 rfl rfl) (Wt.yes rfl rfl rfl) rfl rfl ?_
      refine T.q (q_bool (b := true) (q_eql rfl rfl rfl) ?hE) (Wt.yes rfl rfl rfl) rfl rfl ?_
      case hE => simp
      refine T.q (q_pickT rfl rfl rfl) (Wt.plain rfl) rfl rfl ?_
      refine T.q (q_assign rfl rfl) (Wt.plain rfl) rfl rfl ?_
      refine T.nil ?_
      refine Ex.next ?_
      refine W.less (L' := [(0, _)]) [false, false, false] ⟨rfl, trivial⟩ ?_
      change (_ : List Blk → Prop) []
      refine W.ret ?_
      refine Ex.out1 [] rfl rfl ?_
      exact ⟨rfl, rfl⟩
set_option maxRecDepth 100000 in
theorem quarters_law (x : List Int) (hx : x.length = 4) (w0 : World) (hh : Reads w0 (some ⟨0, 0, none⟩) (ints .u32 headW)) (ht : Reads w0 (some ⟨1, 0, none⟩) (ints .i64 tbl)) : Does Tryd.prog 3 #[.agg (ints .u32 x).toArray] w0 [] (fun v G => v = .bool true ∧ G = []) := by
  refine spec_of 13 Tryd.func3 rfl rfl rfl ?_
  refine W.seq ?_
  refine W.region ?_
  refine T.eff (e_box rfl rfl rfl rfl) (Wt.plain rfl) ?_
  rintro _ _ ⟨k1, rfl, rfl⟩
  change (_ : List Blk → Prop) [_]
  refine T.q (q_assign rfl rfl) (Wt.plain rfl) rfl rfl ?_
  refine T.nil ?_
  refine Ex.next ?_
  refine W.slots (L' := [(1, _)]) ⟨rfl, trivial⟩ ?_
  refine W.seq ?_
  refine W.region ?_
  refine T.eff (e_call enters9 rfl rfl (fun w hm => shown_spec w (R_ext hh.ext w hm) (R_ext ht.ext w hm)) rfl rfl) (Wt.plain rfl) ?_
  rintro _ _ ⟨_, _, ⟨rfl, rfl⟩, rfl, rfl⟩
  change (_ : List Blk → Prop) [_]
  refine T.q (q_assign rfl rfl) (Wt.plain rfl) rfl rfl ?_
  refine T.nil ?_
  refine Ex.next ?_
  refine W.slots (L' := [(1, _), (3, _)]) ⟨rfl, rfl, trivial⟩ ?_
  refine W.seq ?_
  refine W.draw 8 (by kernel_rfl) ?_
  refine D.take 0 rfl (by kernel_rfl) (fun _ h => h) (q_move rfl rfl) (Wt.plain rfl) rfl rfl ?_
  refine D.take 1 rfl (by kernel_rfl) (fun _ h => h) (q_move rfl rfl) (Wt.plain rfl) rfl rfl ?_
  refine D.take 2 rfl (by kernel_rfl) (fun _ h => h) (q_loadW (wide_ints wd23 (by first | omega | (simp; done) | (simp [-List.getD_eq_getElem?_getD]; omega) | (simp at *; omega) | rfl)) (R_blk 0 rfl) rfl rfl) (Wt.yes rfl rfl rfl) rfl rfl ?_
  refine D.take 4 rfl (by kernel_rfl) (fun _ h => h) (q_loadW (wide_ints wd23 (by first | omega | (simp; done) | (simp [-List.getD_eq_getElem?_getD]; omega) | (simp at *; omega) | rfl)) (R_blk 0 rfl) rfl rfl) (Wt.yes rfl rfl rfl) rfl rfl ?_
  refine D.one 3 (by kernel_rfl) ?_
  refine Up.eff rfl (e_call enters10 rfl rfl (fun w hm => quarter_spec _ (by first | omega | (simp; done)) w) rfl rfl) (Wt.yes rfl rfl rfl) ?_
  rintro _ _ ⟨_, _, ⟨rfl, rfl⟩, rfl, rfl⟩
  refine ⟨fun _ => (fun _ h => h), ?_⟩
  refine D.one 5 (by kernel_rfl) ?_
  refine Up.eff rfl (e_call enters11 rfl rfl (fun w hm => refquarter_spec _ (by first | omega | (simp; done)) w) rfl rfl) (Wt.yes rfl rfl rfl) ?_
  rintro _ _ ⟨_, _, ⟨rfl, rfl⟩, rfl, rfl⟩
  refine ⟨fun _ => (fun _ h => h), ?_⟩
  refine D.take 6 rfl (by kernel_rfl) (fun _ h => h) (q_bool (b := true) (q_eqlA ar23 ss22 un22 eg23 rfl rfl rfl (by first | omega | (simp; done) | (simp [-List.getD_eq_getElem?_getD]; omega) | (simp at *; omega) | rfl) (by first | omega | (simp; done) | (simp [-List.getD_eq_getElem?_getD]; omega) | (simp at *; omega) | rfl)) (decide_eq_true rfl)) (Wt.yes rfl rfl rfl) rfl rfl ?_
  refine D.take 7 rfl (by kernel_rfl) (fun _ h => h) (q_pickT rfl rfl rfl) (Wt.plain rfl) rfl rfl ?_
  refine D.one 8 (by kernel_rfl) ?_
  refine Up.q rfl (q_assign rfl rfl) (Wt.plain rfl) rfl rfl (fun h => absurd h (by decide)) ?_
  refine D.done (by kernel_rfl) ?_
  refine Ex.next ?_
  refine W.less (L' := [(2, _)]) [false] ⟨rfl, trivial⟩ ?_
  change (_ : List Blk → Prop) []
  refine W.ret ?_
  refine Ex.out1 [] rfl rfl ?_
  exact ⟨rfl, rfl⟩
set_option maxRecDepth 100000 in
theorem blocks_law (key nonce : List Int) (ctr : Int) (hk : key.length = 32) (hnn : nonce.length = 12) (w0 : World) (hh : Reads w0 (some ⟨0, 0, none⟩) (ints .u32 headW)) (ht : Reads w0 (some ⟨1, 0, none⟩) (ints .i64 tbl)) : Does Tryd.prog 4 #[.agg (ints .u8 key).toArray, .int .u32 ctr, .agg (ints .u8 nonce).toArray] w0 [] (fun v G => v = .bool true ∧ G = []) := by
  refine spec_of 21 Tryd.func4 rfl rfl rfl ?_
  refine W.seq ?_
  refine W.region ?_
  refine T.eff (e_box rfl rfl rfl rfl) (Wt.plain rfl) ?_
  rintro _ _ ⟨k1, rfl, rfl⟩
  change (_ : List Blk → Prop) [_]
  refine T.eff (e_box rfl rfl rfl rfl) (Wt.plain rfl) ?_
  rintro _ _ ⟨k2, rfl, rfl⟩
  change (_ : List Blk → Prop) [_, _]
  refine T.q (q_assign rfl rfl) (Wt.plain rfl) rfl rfl ?_
  refine T.nil ?_
  refine Ex.next ?_
  refine W.slots (L' := [(1, _), (3, _), (5, _)]) ⟨rfl, rfl, rfl, trivial⟩ ?_
  refine W.seq ?_
  refine W.region ?_
  refine T.eff (e_call enters9 rfl rfl (fun w hm => shown_spec w (R_ext hh.ext w hm) (R_ext ht.ext w hm)) rfl rfl) (Wt.plain rfl) ?_
  rintro _ _ ⟨_, _, ⟨rfl, rfl⟩, rfl, rfl⟩
  change (_ : List Blk → Prop) [_, _]
  refine T.q (q_assign rfl rfl) (Wt.plain rfl) rfl rfl ?_
  refine T.nil ?_
  refine Ex.next ?_
  refine W.slots (L' := [(1, _), (3, _), (5, _), (7, _)]) ⟨rfl, rfl, rfl, rfl, trivial⟩ ?_
  refine W.seq ?_
  refine W.draw 12 (by kernel_rfl) ?_
  refine D.take 0 rfl (by kernel_rfl) (fun _ h => h) (q_move rfl rfl) (Wt.plain rfl) rfl rfl ?_
  refine D.take 1 rfl (by kernel_rfl) (fun _ h => h) (q_move rfl rfl) (Wt.plain rfl) rfl rfl ?_
  refine D.take 2 rfl (by kernel_rfl) (fun _ h => h) (q_loadW (wide_ints wd28 (by first | omega | (simp; done) | (simp [-List.getD_eq_getElem?_getD]; omega) | (simp at *; omega) | rfl)) (R_blk 0 rfl) rfl rfl) (Wt.yes rfl rfl rfl) rfl rfl ?_
  refine D.take 3 rfl (by kernel_rfl) (fun _ h => h) (q_move rfl rfl) (Wt.yes rfl rfl rfl) rfl rfl ?_
  refine D.take 4 rfl (by kernel_rfl) (fun _ h => h) (q_loadW (wide_ints wd30 (by first | omega | (simp; done) | (simp [-List.getD_eq_getElem?_getD]; omega) | (simp at *; omega) | rfl)) (R_blk 1 rfl) rfl rfl) (Wt.yes rfl rfl rfl) rfl rfl ?_
  refine D.take 6 rfl (by kernel_rfl) (fun _ h => h) (q_loadW (wide_ints wd28 (by first | omega | (simp; done) | (simp [-List.getD_eq_getElem?_getD]; omega) | (simp at *; omega) | rfl)) (R_blk 0 rfl) rfl rfl) (Wt.yes rfl rfl rfl) rfl rfl ?_
  refine D.take 7 rfl (by kernel_rfl) (fun _ h => h) (q_move rfl rfl) (Wt.yes rfl rfl rfl) rfl rfl ?_
  refine D.take 8 rfl (by kernel_rfl) (fun _ h => h) (q_loadW (wide_ints wd30 (by first | omega | (simp; done) | (simp [-List.getD_eq_getElem?_getD]; omega) | (simp at *; omega) | rfl)) (R_blk 1 rfl) rfl rfl) (Wt.yes rfl rfl rfl) rfl rfl ?_
  refine D.one 5 (by kernel_rfl) ?_
  refine Up.eff rfl (e_call enters12 rfl rfl (fun w hm => block_spec key nonce ctr hk hnn w (R_ext hh.ext w hm) (R_ext ht.ext w hm)) rfl rfl) (Wt.yes rfl rfl rfl) ?_
  rintro _ _ ⟨_, _, ⟨rfl, rfl⟩, rfl, rfl⟩
  refine ⟨fun _ => (fun _ h => h), ?_⟩
  refine D.one 9 (by kernel_rfl) ?_
  refine Up.eff rfl (e_call enters13 rfl rfl (fun w hm => refblock_spec key nonce ctr hk hnn w) rfl rfl) (Wt.yes rfl rfl rfl) ?_
  rintro _ _ ⟨_, _, ⟨rfl, rfl⟩, rfl, rfl⟩
  refine ⟨fun _ => (fun _ h => h), ?_⟩
  refine D.take 10 rfl (by kernel_rfl) (fun _ h => h) (q_bool (b := true) (q_eqlA ar31 ss5 un5 eg31 rfl rfl rfl (by first | omega | (simp; done) | (simp [-List.getD_eq_getElem?_getD]; omega) | (simp at *; omega) | rfl) (by first | omega | (simp; done) | (simp [-List.getD_eq_getElem?_getD]; omega) | (simp at *; omega) | rfl)) (decide_eq_true rfl)) (Wt.yes rfl rfl rfl) rfl rfl ?_
  refine D.take 11 rfl (by kernel_rfl) (fun _ h => h) (q_pickT rfl rfl rfl) (Wt.plain rfl) rfl rfl ?_
  refine D.one 12 (by kernel_rfl) ?_
  refine Up.q rfl (q_assign rfl rfl) (Wt.plain rfl) rfl rfl (fun h => absurd h (by decide)) ?_
  refine D.done (by kernel_rfl) ?_
  refine Ex.next ?_
  refine W.less (L' := [(6, _)]) [false, false] ⟨rfl, trivial⟩ ?_
  change (_ : List Blk → Prop) []
  refine W.ret ?_
  refine Ex.out1 [] rfl rfl ?_
  exact ⟨rfl, rfl⟩
set_option maxRecDepth 100000 in
theorem xors_law (key nonce : List Int) (ctr : Int) (hk : key.length = 32) (hnn : nonce.length = 12) (hctr : IntKind.u32.wrap ctr = ctr) (xs : List Int) (A : Option Addr) (c : Nat) (_hc : xs.length ≤ c) (_hc1 : c ≤ 140737488351232) (_hb : Bytes xs) (hsz : xs.length ≤ 140737488351232) (w0 : World) (hR : Reads w0 A (ints .u8 xs)) (hh : Reads w0 (some ⟨0, 0, none⟩) (ints .u32 headW)) (ht : Reads w0 (some ⟨1, 0, none⟩) (ints .i64 tbl)) : Does Tryd.prog 5 #[.agg (ints .u8 key ++ (.int .u32 ctr :: (ints .u8 nonce))).toArray, .slice A xs.length c] w0 [] (fun v G => v = .bool true ∧ G = []) := by
  refine spec_of 42 Tryd.func5 rfl rfl rfl ?_
  refine W.seq ?_
  refine W.region ?_
  refine T.eff (e_box rfl rfl rfl rfl) (Wt.plain rfl) ?_
  rintro _ _ ⟨k1, rfl, rfl⟩
  change (_ : List Blk → Prop) [_]
  refine T.q (q_assign rfl rfl) (Wt.plain rfl) rfl rfl ?_
  refine T.nil ?_
  refine Ex.next ?_
  refine W.slots (L' := [(1, _), (2, _)]) ⟨rfl, rfl, trivial⟩ ?_
  refine W.seq ?_
  refine W.region ?_
  refine T.eff (e_call enters9 rfl rfl (fun w hm => shown_spec w (R_ext hh.ext w hm) (R_ext ht.ext w hm)) rfl rfl) (Wt.plain rfl) ?_
  rintro _ _ ⟨_, _, ⟨rfl, rfl⟩, rfl, rfl⟩
  change (_ : List Blk → Prop) [_]
  refine T.q (q_assign rfl rfl) (Wt.plain rfl) rfl rfl ?_
  refine T.nil ?_
  refine Ex.next ?_
  refine W.slots (L' := [(1, _), (2, _), (5, _)]) ⟨rfl, rfl, rfl, trivial⟩ ?_
  refine W.seq ?_
  refine W.region ?_
  refine T.eff (e_litA sc36 ze5 rfl rfl rfl (by simp [Value.cells]) rfl rfl rfl) (Wt.plain rfl) ?_
  rintro _ _ ⟨k2, rfl, rfl⟩
  change (_ : List Blk → Prop) [_, _]
  refine T.q (q_move rfl rfl) (Wt.plain rfl) rfl rfl ?_
  refine T.eff (e_appendI sc36 ze5 rfl 1 .u8 [] xs [] ((List.append_nil _).symm) (R_ext hR.ext) rfl rfl rfl rfl (by first | omega | (simp; done) | (simp [-List.getD_eq_getElem?_getD]; omega) | (simp at *; omega) | rfl) (by first | omega | (simp; done) | (simp [-List.getD_eq_getElem?_getD]; omega) | (simp at *; omega) | rfl) (by first | omega | (simp; done) | (simp [-List.getD_eq_getElem?_getD]; omega) | (simp at *; omega) | rfl) (by first | omega | (simp; done) | (simp [-List.getD_eq_getElem?_getD]; omega)) (by first | omega | (simp; done) | (simp [-List.getD_eq_getElem?_getD]; omega)) rfl rfl) (Wt.plain rfl) ?_
  rintro _ _ ⟨k3, cap4, junk5, hc6, rfl, rfl⟩
  change (_ : List Blk → Prop) [_, _]
  refine T.q (q_assign rfl rfl) (Wt.plain rfl) rfl rfl ?_
  refine T.nil ?_
  refine Ex.next ?_
  refine W.slots (L' := [(1, _), (2, _), (5, _), (6, _)]) ⟨rfl, rfl, rfl, rfl, trivial⟩ ?_
  refine W.seq ?_
  refine W.region ?_
  refine T.q (q_fld fl35_0 rfl rfl) (Wt.plain rfl) rfl rfl ?_
  refine T.q (q_loadW (wide_ints wd28 (by first | omega | (simp; done) | (simp [-List.getD_eq_getElem?_getD]; omega) | (simp at *; omega) | rfl)) (R_at 0 0 32 rfl (part_first (by first | omega | (simp; done) | (simp [-List.getD_eq_getElem?_getD]; omega) | (simp at *; omega) | rfl))) rfl rfl) (Wt.plain rfl) rfl rfl ?_
  refine T.q (q_fld fl35_1 rfl rfl) (Wt.plain rfl) rfl rfl ?_
  refine T.q (q_load1 ss22 0 rfl rfl rfl (cell_skip 32 (by first | omega | (simp; done) | (simp [-List.getD_eq_getElem?_getD]; omega) | (simp at *; omega) | rfl) rfl (rfl))) (Wt.plain rfl) rfl rfl ?_
  refine T.q (q_fld fl35_2 rfl rfl) (Wt.plain rfl) rfl rfl ?_
  refine T.q (q_loadW (wide_ints wd30 (by first | omega | (simp; done) | (simp [-List.getD_eq_getElem?_getD]; omega) | (simp at *; omega) | rfl)) (R_at 0 33 12 rfl (part_skip 32 (by first | omega | (simp; done) | (simp [-List.getD_eq_getElem?_getD]; omega) | (simp at *; omega) | rfl) rfl (part_skip1 (part_last (by first | omega | (simp; done) | (simp [-List.getD_eq_getElem?_getD]; omega) | (simp at *; omega) | rfl))))) rfl rfl) (Wt.plain rfl) rfl rfl ?_
  refine T.q (q_move rfl rfl) (Wt.plain rfl) rfl rfl ?_
  refine T.eff (e_call enters14 rfl rfl (fun w hm => xor_spec' key nonce ctr hk hnn hctr _ _ _ ([] ++ xs) (by first | omega | (simp; done) | (simp; omega)) w ((R_pre 1 rfl) w hm) (R_ext hh.ext w hm) (R_ext ht.ext w hm) (by first | omega | (simp; done) | (simp [-List.getD_eq_getElem?_getD]; omega) | (simp at *; omega) | rfl)) rfl rfl) (Wt.plain rfl) ?_
  rintro _ _ ⟨_, _, ⟨k7, cap8, junk9, rfl, hc10, rfl⟩, rfl, rfl⟩
  change (_ : List Blk → Prop) [_, _, _]
  refine T.q (q_assign rfl rfl) (Wt.plain rfl) rfl rfl ?_
  refine T.nil ?_
  refine Ex.next ?_
  refine W.slots (L' := [(1, _), (2, _), (5, _), (6, _), (7, _)]) ⟨rfl, rfl, rfl, rfl, rfl, trivial⟩ ?_
  refine W.seq ?_
  refine W.draw 22 (by kernel_rfl) ?_
  refine D.take 0 rfl (by kernel_rfl) (fun _ h => h) (q_move rfl rfl) (Wt.plain rfl) rfl rfl ?_
  refine D.take 1 rfl (by kernel_rfl) (fun _ h => h) (q_move rfl rfl) (Wt.plain rfl) rfl rfl ?_
  refine D.take 2 rfl (by kernel_rfl) (fun _ h => h) (q_move rfl rfl) (Wt.yes rfl rfl rfl) rfl rfl ?_
  refine D.take 3 rfl (by kernel_rfl) (fun _ h => h) (q_bstr sc36 un5 un9 (R_pre 2 rfl) (by first | omega | (simp; done) | (simp [-List.getD_eq_getElem?_getD]; omega) | (simp at *; omega) | rfl) rfl rfl) (Wt.yes rfl rfl rfl) rfl rfl ?_
  refine D.take 4 rfl (by kernel_rfl) (fun _ h => h) (q_fld fl35_0 rfl rfl) (Wt.yes rfl rfl rfl) rfl rfl ?_
  refine D.take 5 rfl (by kernel_rfl) (fun _ h => h) (q_loadW (wide_ints wd28 (by first | omega | (simp; done) | (simp [-List.getD_eq_getElem?_getD]; omega) | (simp at *; omega) | rfl)) (R_at 0 0 32 rfl (part_first (by first | omega | (simp; done) | (simp [-List.getD_eq_getElem?_getD]; omega) | (simp at *; omega) | rfl))) rfl rfl) (Wt.yes rfl rfl rfl) rfl rfl ?_
  refine D.take 6 rfl (by kernel_rfl) (fun _ h => h) (q_fld fl35_1 rfl rfl) (Wt.yes rfl rfl rfl) rfl rfl ?_
  refine D.take 7 rfl (by kernel_rfl) (fun _ h => h) (q_load1 ss22 0 rfl rfl rfl (cell_skip 32 (by first | omega | (simp; done) | (simp [-List.getD_eq_getElem?_getD]; omega) | (simp at *; omega) | rfl) rfl (rfl))) (Wt.yes rfl rfl rfl) rfl rfl ?_
  refine D.take 8 rfl (by kernel_rfl) (fun _ h => h) (q_fld fl35_2 rfl rfl) (Wt.yes rfl rfl rfl) rfl rfl ?_
  refine D.take 9 rfl (by kernel_rfl) (fun _ h => h) (q_loadW (wide_ints wd30 (by first | omega | (simp; done) | (simp [-List.getD_eq_getElem?_getD]; omega) | (simp at *; omega) | rfl)) (R_at 0 33 12 rfl (part_skip 32 (by first | omega | (simp; done) | (simp [-List.getD_eq_getElem?_getD]; omega) | (simp at *; omega) | rfl) rfl (part_skip1 (part_last (by first | omega | (simp; done) | (simp [-List.getD_eq_getElem?_getD]; omega) | (simp at *; omega) | rfl))))) rfl rfl) (Wt.yes rfl rfl rfl) rfl rfl ?_
  refine D.take 10 rfl (by kernel_rfl) (fun _ h => h) (q_move rfl rfl) (Wt.yes rfl rfl rfl) rfl rfl ?_
  refine D.one 11 (by kernel_rfl) ?_
  refine Up.eff rfl (e_call enters15 rfl rfl (fun w hm => refxor_spec' key nonce ctr hk hnn hctr _ _ _ xs (by first | omega | (simp; done) | (simp; omega)) w ((R_ext hR.ext) w hm) (by first | omega | (simp; done) | (simp [-List.getD_eq_getElem?_getD]; omega) | (simp at *; omega) | rfl)) rfl rfl) (Wt.yes rfl rfl rfl) ?_
  rintro _ _ ⟨_, _, ⟨k11, cap12, junk13, rfl, hc14, rfl⟩, rfl, rfl⟩
  refine ⟨fun _ => (S_sub (((((List.Sublist.slnil).cons _).cons_cons _).cons_cons _).cons_cons _)), ?_⟩
  refine D.one 12 (by kernel_rfl) ?_
  refine Up.q rfl (q_bstr sc36 un5 un9 (R_pre 3 rfl) (by first | omega | (simp; done) | (simp [-List.getD_eq_getElem?_getD]; omega) | (simp at *; omega) | rfl) rfl rfl) (Wt.yes rfl rfl rfl) rfl rfl (fun _ => (S_sub (((((List.Sublist.slnil).cons _).cons_cons _).cons_cons _).cons_cons _))) ?_
  refine D.take 13 rfl (by kernel_rfl) (S_sub (((((List.Sublist.slnil).cons _).cons_cons _).cons_cons _).cons_cons _)) (q_bool (b := true) (q_eqlS rfl rfl rfl) (beq_self_eq_true _)) (Wt.yes rfl rfl rfl) rfl rfl ?_
  refine D.take 14 rfl (by kernel_rfl) (S_sub (((((List.Sublist.slnil).cons _).cons_cons _).cons_cons _).cons_cons _)) (q_pickT rfl rfl rfl) (Wt.plain rfl) rfl rfl ?_
  refine D.take 15 rfl (by kernel_rfl) (S_sub (((((List.Sublist.slnil).cons _).cons_cons _).cons_cons _).cons_cons _)) (q_move rfl rfl) (Wt.plain rfl) rfl rfl ?_
  refine D.take 16 rfl (by kernel_rfl) (S_sub (((((List.Sublist.slnil).cons _).cons_cons _).cons_cons _).cons_cons _)) (q_move rfl rfl) (Wt.yes rfl rfl rfl) rfl rfl ?_
  refine D.take 17 rfl (by kernel_rfl) (S_sub (((((List.Sublist.slnil).cons _).cons_cons _).cons_cons _).cons_cons _)) (q_bstr sc36 un5 un9 (R_pre 1 rfl) (by first | omega | (simp; done) | (simp [-List.getD_eq_getElem?_getD]; omega) | (simp at *; omega) | rfl) rfl rfl) (Wt.yes rfl rfl rfl) rfl rfl ?_
  refine D.take 18 rfl (by kernel_rfl) (S_sub (((((List.Sublist.slnil).cons _).cons_cons _).cons_cons _).cons_cons _)) (q_move rfl rfl) (Wt.yes rfl rfl rfl) rfl rfl ?_
  refine D.take 19 rfl (by kernel_rfl) (S_sub (((((List.Sublist.slnil).cons _).cons_cons _).cons_cons _).cons_cons _)) (q_bstr sc36 un5 un9 (R_ext hR.ext) (by first | omega | (simp; done) | (simp [-List.getD_eq_getElem?_getD]; omega) | (simp at *; omega) | rfl) rfl rfl) (Wt.yes rfl rfl rfl) rfl rfl ?_
  refine D.take 20 rfl (by kernel_rfl) (S_sub (((((List.Sublist.slnil).cons _).cons_cons _).cons_cons _).cons_cons _)) (q_bool (b := true) (q_eqlS rfl rfl rfl) (beq_self_eq_true _)) (Wt.yes rfl rfl rfl) rfl rfl ?_
  refine D.take 21 rfl (by kernel_rfl) (S_sub (((((List.Sublist.slnil).cons _).cons_cons _).cons_cons _).cons_cons _)) (q_pickT rfl rfl rfl) (Wt.plain rfl) rfl rfl ?_
  refine D.one 22 (by kernel_rfl) ?_
  refine Up.q rfl (q_assign rfl rfl) (Wt.plain rfl) rfl rfl (fun h => absurd h (by decide)) ?_
  refine D.done (by kernel_rfl) ?_
  refine Ex.next ?_
  refine W.less (L' := [(4, _)]) [false, false, false, false] ⟨rfl, trivial⟩ ?_
  change (_ : List Blk → Prop) []
  refine W.ret ?_
  refine Ex.out1 [] rfl rfl ?_
  exact ⟨rfl, rfl⟩
set_option maxRecDepth 100000 in
theorem next_law (key nonce : List Int) (ctr : Int) (hk : key.length = 32) (hnn : nonce.length = 12) (hctr : IntKind.u32.wrap ctr = ctr) (xs : List Int) (A : Option Addr) (c : Nat) (hc : xs.length ≤ c) (_hc1 : c ≤ 140737488351232) (_hb : Bytes xs) (hsz : xs.length ≤ 140737488351232) (w0 : World) (hR : Reads w0 A (ints .u8 xs)) (hh : Reads w0 (some ⟨0, 0, none⟩) (ints .u32 headW)) (ht : Reads w0 (some ⟨1, 0, none⟩) (ints .i64 tbl)) : Does Tryd.prog 7 #[.agg (ints .u8 key ++ (.int .u32 ctr :: (ints .u8 nonce))).toArray, .slice A xs.length c] w0 [] (fun v G => v = .bool true ∧ G = []) := by
  refine spec_of 52 Tryd.func7 rfl rfl rfl ?_
  refine W.seq ?_
  refine W.region ?_
  refine T.eff (e_box rfl rfl rfl rfl) (Wt.plain rfl) ?_
  rintro _ _ ⟨k1, rfl, rfl⟩
  change (_ : List Blk → Prop) [_]
  refine T.q (q_assign rfl rfl) (Wt.plain rfl) rfl rfl ?_
  refine T.nil ?_
  refine Ex.next ?_
  refine W.slots (L' := [(1, _), (2, _)]) ⟨rfl, rfl, trivial⟩ ?_
  refine W.seq ?_
  refine W.region ?_
  refine T.eff (e_call enters9 rfl rfl (fun w hm => shown_spec w (R_ext hh.ext w hm) (R_ext ht.ext w hm)) rfl rfl) (Wt.plain rfl) ?_
  rintro _ _ ⟨_, _, ⟨rfl, rfl⟩, rfl, rfl⟩
  change (_ : List Blk → Prop) [_]
  refine T.q (q_assign rfl rfl) (Wt.plain rfl) rfl rfl ?_
  refine T.nil ?_
  refine Ex.next ?_
  refine W.slots (L' := [(1, _), (2, _), (5, _)]) ⟨rfl, rfl, rfl, trivial⟩ ?_
  refine W.seq ?_
  refine W.region ?_
  refine T.q (q_fld fl35_0 rfl rfl) (Wt.plain rfl) rfl rfl ?_
  refine T.q (q_loadW (wide_ints wd28 (by first | omega | (simp; done) | (simp [-List.getD_eq_getElem?_getD]; omega) | (simp at *; omega) | rfl)) (R_at 0 0 32 rfl (part_first (by first | omega | (simp; done) | (simp [-List.getD_eq_getElem?_getD]; omega) | (simp at *; omega) | rfl))) rfl rfl) (Wt.plain rfl) rfl rfl ?_
  refine T.q (q_fld fl35_1 rfl rfl) (Wt.plain rfl) rfl rfl ?_
  refine T.q (q_load1 ss22 0 rfl rfl rfl (cell_skip 32 (by first | omega | (simp; done) | (simp [-List.getD_eq_getElem?_getD]; omega) | (simp at *; omega) | rfl) rfl (rfl))) (Wt.plain rfl) rfl rfl ?_
  refine T.q (q_fld fl35_2 rfl rfl) (Wt.plain rfl) rfl rfl ?_
  refine T.q (q_loadW (wide_ints wd30 (by first | omega | (simp; done) | (simp [-List.getD_eq_getElem?_getD]; omega) | (simp at *; omega) | rfl)) (R_at 0 33 12 rfl (part_skip 32 (by first | omega | (simp; done) | (simp [-List.getD_eq_getElem?_getD]; omega) | (simp at *; omega) | rfl) rfl (part_skip1 (part_last (by first | omega | (simp; done) | (simp [-List.getD_eq_getElem?_getD]; omega) | (simp at *; omega) | rfl))))) rfl rfl) (Wt.plain rfl) rfl rfl ?_
  refine T.q (q_move rfl rfl) (Wt.plain rfl) rfl rfl ?_
  refine T.eff (e_call enters14 rfl rfl (fun w hm => xor_spec' key nonce ctr hk hnn hctr _ _ _ xs (by first | omega | (simp; done) | (simp; omega)) w ((R_ext hR.ext) w hm) (R_ext hh.ext w hm) (R_ext ht.ext w hm) (by first | omega | (simp; done) | (simp [-List.getD_eq_getElem?_getD]; omega) | (simp at *; omega) | rfl)) rfl rfl) (Wt.plain rfl) ?_
  rintro _ _ ⟨_, _, ⟨k2, cap3, junk4, rfl, hc5, rfl⟩, rfl, rfl⟩
  change (_ : List Blk → Prop) [_, _]
  refine T.q (q_assign rfl rfl) (Wt.plain rfl) rfl rfl ?_
  refine T.nil ?_
  refine Ex.next ?_
  refine W.slots (L' := [(1, _), (2, _), (5, _), (6, _)]) ⟨rfl, rfl, rfl, rfl, trivial⟩ ?_
  refine W.seq ?_
  refine W.seq ?_
  refine W.region ?_
  refine T.q (q_move rfl rfl) (Wt.plain rfl) rfl rfl ?_
  refine T.q (q_len sc36 rfl rfl) (Wt.plain rfl) rfl rfl ?_
  refine T.q (q_lss rfl rfl rfl) (Wt.plain rfl) rfl rfl ?_
  refine T.q (q_move rfl rfl) (Wt.plain rfl) rfl rfl ?_
  refine T.both (t := 19) _ rfl (fun hb6 => ?_) (fun hb6 => ?_)
  · replace hb6 := of_decide_eq_true hb6
    refine T.no (Wn.no rfl rfl rfl rfl) rfl rfl ?_
    refine T.no (Wn.no rfl rfl rfl rfl) rfl rfl ?_
    refine T.no (Wn.no rfl rfl rfl rfl) rfl rfl ?_
    refine T.no (Wn.no rfl rfl rfl rfl) rfl rfl ?_
    refine T.no (Wn.no rfl rfl rfl rfl) rfl rfl ?_
    refine T.q (q_pickT rfl rfl rfl) (Wt.plain rfl) rfl rfl ?_
    refine T.nil ?_
    refine Ex.next ?_
    refine W.slots (L' := [(1, _), (2, _), (5, _), (6, _), (25, _)]) ⟨rfl, rfl, rfl, rfl, rfl, trivial⟩ ?_
    refine W.condT rfl ?_
    refine W.seq ?_
    refine W.region ?_
    refine T.q (q_move rfl rfl) (Wt.plain rfl) rfl rfl ?_
    refine T.q (q_move rfl rfl) (Wt.plain rfl) rfl rfl ?_
    refine T.q (q_move rfl rfl) (Wt.yes rfl rfl rfl) rfl rfl ?_
    refine T.q (q_len sc36 rfl rfl) (Wt.yes rfl rfl rfl) rfl rfl ?_
    refine T.q (q_move rfl rfl) (Wt.yes rfl rfl rfl) rfl rfl ?_
    refine T.q (q_len sc36 rfl rfl) (Wt.yes rfl rfl rfl) rfl rfl ?_
    refine T.q (q_bool (b := true) (q_eql rfl rfl rfl) ?hE) (Wt.yes rfl rfl rfl) rfl rfl ?_
    case hE => simp
    refine T.q (q_pickT rfl rfl rfl) (Wt.plain rfl) rfl rfl ?_
    refine T.q (q_assign rfl rfl) (Wt.plain rfl) rfl rfl ?_
    refine T.nil ?_
    refine Ex.next ?_
    refine W.less (L' := [(4, _)]) [false, false] ⟨rfl, trivial⟩ ?_
    change (_ : List Blk → Prop) []
    refine W.ret ?_
    refine Ex.then_ret ?_
    refine Ex.out1 [] rfl rfl ?_
    exact ⟨rfl, rfl⟩
  · replace hb6 := of_decide_eq_false hb6
    refine T.q (q_move rfl rfl) (Wt.yes rfl rfl rfl) rfl rfl ?_
    refine T.q (q_len sc36 rfl rfl) (Wt.yes rfl rfl rfl) rfl rfl ?_
    refine T.q (q_move rfl rfl) (Wt.yes rfl rfl rfl) rfl rfl ?_
    refine T.q (q_len sc36 rfl rfl) (Wt.yes rfl rfl rfl) rfl rfl ?_
    refine T.q (q_bool (b := false) (q_neq rfl rfl rfl) ?hE) (Wt.yes rfl rfl rfl) rfl rfl ?_
    case hE => simp
    refine T.q (q_pickF rfl rfl rfl) (Wt.plain rfl) rfl rfl ?_
    refine T.nil ?_
    refine Ex.next ?_
    refine W.slots (L' := [(1, _), (2, _), (5, _), (6, _), (25, _)]) ⟨rfl, rfl, rfl, rfl, rfl, trivial⟩ ?_
    refine W.condF rfl ?_
    refine W.skip ?_
    refine Ex.next ?_
    refine W.slots (L' := [(1, _), (2, _), (5, _), (6, _)]) ⟨rfl, rfl, rfl, rfl, trivial⟩ ?_
    refine W.seq ?_
    refine W.draw 18 (by kernel_rfl) ?_
    refine D.take 0 rfl (by kernel_rfl) (fun _ h => h) (q_move rfl rfl) (Wt.plain rfl) rfl rfl ?_
    refine D.take 1 rfl (by kernel_rfl) (fun _ h => h) (q_move rfl rfl) (Wt.plain rfl) rfl rfl ?_
    refine D.take 2 rfl (by kernel_rfl) (fun _ h => h) (q_move rfl rfl) (Wt.yes rfl rfl rfl) rfl rfl ?_
    refine D.take 3 rfl (by kernel_rfl) (fun _ h => h) (q_sl sc36 64 xs.length cap3 rfl rfl ⟨_, _, rfl, rfl⟩ rfl rfl (by first | omega | (simp; done) | (simp [-List.getD_eq_getElem?_getD]; omega)) (by first | omega | (simp; done) | (simp [-List.getD_eq_getElem?_getD]; omega)) (by first | omega | (simp; done) | (simp [-List.getD_eq_getElem?_getD]; omega)) (by simp)) (Wt.yes rfl rfl rfl) rfl rfl ?_
    refine D.take 4 rfl (by kernel_rfl) (fun _ h => h) (q_bstr sc36 un5 un9 (R_cutI (R_pre 1 rfl) (by first | omega | (simp; done) | (simp [-List.getD_eq_getElem?_getD]; omega) | (simp at *; omega) | rfl)) (by first | omega | (simp; done) | (simp [-List.getD_eq_getElem?_getD]; omega) | (simp at *; omega) | rfl) rfl rfl) (Wt.yes rfl rfl rfl) rfl rfl ?_
    refine D.take 5 rfl (by kernel_rfl) (fun _ h => h) (q_fld fl35_0 rfl rfl) (Wt.yes rfl rfl rfl) rfl rfl ?_
    refine D.take 6 rfl (by kernel_rfl) (fun _ h => h) (q_loadW (wide_ints wd28 (by first | omega | (simp; done) | (simp [-List.getD_eq_getElem?_getD]; omega) | (simp at *; omega) | rfl)) (R_at 0 0 32 rfl (part_first (by first | omega | (simp; done) | (simp [-List.getD_eq_getElem?_getD]; omega) | (simp at *; omega) | rfl))) rfl rfl) (Wt.yes rfl rfl rfl) rfl rfl ?_
    refine D.take 7 rfl (by kernel_rfl) (fun _ h => h) (q_fld fl35_1 rfl rfl) (Wt.yes rfl rfl rfl) rfl rfl ?_
    refine D.take 8 rfl (by kernel_rfl) (fun _ h => h) (q_load1 ss22 0 rfl rfl rfl (cell_skip 32 (by first | omega | (simp; done) | (simp [-List.getD_eq_getElem?_getD]; omega) | (simp at *; omega) | rfl) rfl (rfl))) (Wt.yes rfl rfl rfl) rfl rfl ?_
    refine D.take 9 rfl (by kernel_rfl) (fun _ h => h) (q_add rfl rfl rfl) (Wt.yes rfl rfl rfl) rfl rfl ?_
    refine D.take 10 rfl (by kernel_rfl) (fun _ h => h) (q_fld fl35_2 rfl rfl) (Wt.yes rfl rfl rfl) rfl rfl ?_
    refine D.take 11 rfl (by kernel_rfl) (fun _ h => h) (q_loadW (wide_ints wd30 (by first | omega | (simp; done) | (simp [-List.getD_eq_getElem?_getD]; omega) | (simp at *; omega) | rfl)) (R_at 0 33 12 rfl (part_skip 32 (by first | omega | (simp; done) | (simp [-List.getD_eq_getElem?_getD]; omega) | (simp at *; omega) | rfl) rfl (part_skip1 (part_last (by first | omega | (simp; done) | (simp [-List.getD_eq_getElem?_getD]; omega) | (simp at *; omega) | rfl))))) rfl rfl) (Wt.yes rfl rfl rfl) rfl rfl ?_
    refine D.take 12 rfl (by kernel_rfl) (fun _ h => h) (q_move rfl rfl) (Wt.yes rfl rfl rfl) rfl rfl ?_
    refine D.take 13 rfl (by kernel_rfl) (fun _ h => h) (q_sl sc36 64 xs.length c rfl rfl ⟨_, _, rfl, rfl⟩ rfl rfl (by first | omega | (simp; done) | (simp [-List.getD_eq_getElem?_getD]; omega)) (by first | omega | (simp; done) | (simp [-List.getD_eq_getElem?_getD]; omega)) (by first | omega | (simp; done) | (simp [-List.getD_eq_getElem?_getD]; omega)) (by simp)) (Wt.yes rfl rfl rfl) rfl rfl ?_
    refine D.one 14 (by kernel_rfl) ?_
    refine Up.eff rfl (e_call enters14 rfl rfl (fun w hm => xor_spec' key nonce (IntKind.u32.wrap (ctr + 1)) hk hnn (wrapped1 ctr) _ _ _ ((xs).drop 64) (by first | omega | (simp; done) | (simp; omega)) w ((R_cutI (R_ext hR.ext) (by first | omega | (simp; done) | (simp [-List.getD_eq_getElem?_getD]; omega) | (simp at *; omega) | rfl)) w hm) (R_ext hh.ext w hm) (R_ext ht.ext w hm) (by first | omega | (simp; done) | (simp [-List.getD_eq_getElem?_getD]; omega) | (simp at *; omega) | rfl)) rfl rfl) (Wt.yes rfl rfl rfl) ?_
    rintro _ _ ⟨_, _, ⟨k7, cap8, junk9, rfl, hc10, rfl⟩, rfl, rfl⟩
    refine ⟨fun _ => (S_sub ((((List.Sublist.slnil).cons _).cons_cons _).cons_cons _)), ?_⟩
    refine D.one 15 (by kernel_rfl) ?_
    refine Up.q rfl (q_bstr sc36 un5 un9 (R_pre 2 rfl) (by first | omega | (simp; done) | (simp [-List.getD_eq_getElem?_getD]; omega) | (simp at *; omega) | rfl) rfl rfl) (Wt.yes rfl rfl rfl) rfl rfl (fun _ => (S_sub ((((List.Sublist.slnil).cons _).cons_cons _).cons_cons _))) ?_
    refine D.take 16 rfl (by kernel_rfl) (S_sub ((((List.Sublist.slnil).cons _).cons_cons _).cons_cons _)) (q_bool (b := true) (q_eqlS rfl rfl rfl) ?hE) (Wt.yes rfl rfl rfl) rfl rfl ?_
    case hE => rw [xorS_drop key nonce ctr xs (by omega)]; try simp
    refine D.take 17 rfl (by kernel_rfl) (S_sub ((((List.Sublist.slnil).cons _).cons_cons _).cons_cons _)) (q_pickT rfl rfl rfl) (Wt.plain rfl) rfl rfl ?_
    refine D.one 18 (by kernel_rfl) ?_
    refine Up.q rfl (q_assign rfl rfl) (Wt.plain rfl) rfl rfl (fun h => absurd h (by decide)) ?_
    refine D.done (by kernel_rfl) ?_
    refine Ex.next ?_
    refine W.less (L' := [(4, _)]) [false, false, false] ⟨rfl, trivial⟩ ?_
    change (_ : List Blk → Prop) []
    refine W.ret ?_
    refine Ex.out1 [] rfl rfl ?_
    exact ⟨rfl, rfl⟩
set_option maxRecDepth 100000 in
theorem twice_law (key nonce : List Int) (ctr : Int) (hk : key.length = 32) (hnn : nonce.length = 12) (hctr : IntKind.u32.wrap ctr = ctr) (xs : List Int) (z : Int) (hz1 : -9223372036854775808 ≤ z) (hz2 : z ≤ 9223372036854775807) (A : Option Addr) (c : Nat) (hc : xs.length ≤ c) (_hc1 : c ≤ 140737488351232) (hb : Bytes xs) (hsz : xs.length ≤ 140737488351232) (w0 : World) (hR : Reads w0 A (ints .u8 xs)) (hh : Reads w0 (some ⟨0, 0, none⟩) (ints .u32 headW)) (ht : Reads w0 (some ⟨1, 0, none⟩) (ints .i64 tbl)) : Does Tryd.prog 6 #[.agg (ints .u8 key ++ (.int .u32 ctr :: (ints .u8 nonce))).toArray, .slice A xs.length c, .int .i64 z] w0 [] (fun v G => v = .bool true ∧ G = []) := by
  refine spec_of 71 Tryd.func6 rfl rfl rfl ?_
  refine W.seq ?_
  refine W.region ?_
  refine T.eff (e_box rfl rfl rfl rfl) (Wt.plain rfl) ?_
  rintro _ _ ⟨k1, rfl, rfl⟩
  change (_ : List Blk → Prop) [_]
  refine T.q (q_assign rfl rfl) (Wt.plain rfl) rfl rfl ?_
  refine T.nil ?_
  refine Ex.next ?_
  refine W.slots (L' := [(1, _), (2, _), (3, _)]) ⟨rfl, rfl, rfl, trivial⟩ ?_
  refine W.seq ?_
  refine W.region ?_
  refine T.eff (e_call enters9 rfl rfl (fun w hm => shown_spec w (R_ext hh.ext w hm) (R_ext ht.ext w hm)) rfl rfl) (Wt.plain rfl) ?_
  rintro _ _ ⟨_, _, ⟨rfl, rfl⟩, rfl, rfl⟩
  change (_ : List Blk → Prop) [_]
  refine T.q (q_assign rfl rfl) (Wt.plain rfl) rfl rfl ?_
  refine T.nil ?_
  refine Ex.next ?_
  refine W.slots (L' := [(1, _), (2, _), (3, _), (7, _)]) ⟨rfl, rfl, rfl, rfl, trivial⟩ ?_
  refine W.seq ?_
  refine W.region ?_
  refine T.q (q_fld fl35_0 rfl rfl) (Wt.plain rfl) rfl rfl ?_
  refine T.q (q_loadW (wide_ints wd28 (by first | omega | (simp; done) | (simp [-List.getD_eq_getElem?_getD]; omega) | (simp at *; omega) | rfl)) (R_at 0 0 32 rfl (part_first (by first | omega | (simp; done) | (simp [-List.getD_eq_getElem?_getD]; omega) | (simp at *; omega) | rfl))) rfl rfl) (Wt.plain rfl) rfl rfl ?_
  refine T.q (q_fld fl35_1 rfl rfl) (Wt.plain rfl) rfl rfl ?_
  refine T.q (q_load1 ss22 0 rfl rfl rfl (cell_skip 32 (by first | omega | (simp; done) | (simp [-List.getD_eq_getElem?_getD]; omega) | (simp at *; omega) | rfl) rfl (rfl))) (Wt.plain rfl) rfl rfl ?_
  refine T.q (q_fld fl35_2 rfl rfl) (Wt.plain rfl) rfl rfl ?_
  refine T.q (q_loadW (wide_ints wd30 (by first | omega | (simp; done) | (simp [-List.getD_eq_getElem?_getD]; omega) | (simp at *; omega) | rfl)) (R_at 0 33 12 rfl (part_skip 32 (by first | omega | (simp; done) | (simp [-List.getD_eq_getElem?_getD]; omega) | (simp at *; omega) | rfl) rfl (part_skip1 (part_last (by first | omega | (simp; done) | (simp [-List.getD_eq_getElem?_getD]; omega) | (simp at *; omega) | rfl))))) rfl rfl) (Wt.plain rfl) rfl rfl ?_
  refine T.q (q_move rfl rfl) (Wt.plain rfl) rfl rfl ?_
  refine T.eff (e_call enters14 rfl rfl (fun w hm => xor_spec' key nonce ctr hk hnn hctr _ _ _ xs (by first | omega | (simp; done) | (simp; omega)) w ((R_ext hR.ext) w hm) (R_ext hh.ext w hm) (R_ext ht.ext w hm) (by first | omega | (simp; done) | (simp [-List.getD_eq_getElem?_getD]; omega) | (simp at *; omega) | rfl)) rfl rfl) (Wt.plain rfl) ?_
  rintro _ _ ⟨_, _, ⟨k2, cap3, junk4, rfl, hc5, rfl⟩, rfl, rfl⟩
  change (_ : List Blk → Prop) [_, _]
  refine T.q (q_assign rfl rfl) (Wt.plain rfl) rfl rfl ?_
  refine T.nil ?_
  refine Ex.next ?_
  refine W.slots (L' := [(1, _), (2, _), (3, _), (7, _), (8, _)]) ⟨rfl, rfl, rfl, rfl, rfl, trivial⟩ ?_
  refine W.meet (α := Int) (fun kk => [(1, .slice A xs.length c), (2, .int .i64 kk), (3, .pointer (some ⟨k1, 0, none⟩)), (7, .bool true), (8, .slice (some ⟨k2, 0, none⟩) xs.length cap3)]) (fun kk => [⟨some k1, ints .u8 key ++ (.int .u32 ctr :: (ints .u8 nonce)), 35, (0, 0)⟩, ⟨some k2, ints .u8 (xorS key nonce ctr xs) ++ junk4, 5, (0, 0)⟩]) (fun kk => 0 ≤ kk ∧ kk ≤ 9223372036854775807) ?_ ?_
  ·
    refine W.seq ?_
    refine W.region ?_
    refine T.q (q_move rfl rfl) (Wt.plain rfl) rfl rfl ?_
    refine T.q (q_lss rfl rfl rfl) (Wt.plain rfl) rfl rfl ?_
    refine T.nil ?_
    refine Ex.next ?_
    refine W.slots (L' := [(1, _), (2, _), (3, _), (7, _), (8, _), (21, _)]) ⟨rfl, rfl, rfl, rfl, rfl, rfl, trivial⟩ ?_
    refine W.cond _ rfl (fun hb6 => ?_) (fun hb6 => ?_)
    · replace hb6 := of_decide_eq_true hb6
      refine W.region ?_
      refine T.q (q_move rfl rfl) (Wt.plain rfl) rfl rfl ?_
      refine T.q (q_addi rfl rfl rfl (by omega) (by omega)) (Wt.plain rfl) rfl rfl ?_
      refine T.q (q_int (b := (-z - 1)) (q_neg rfl rfl) ?hE) (Wt.plain rfl) rfl rfl ?_
      case hE => rw [i64_wrap (by omega) (by omega)]; omega
      refine T.q (q_assign rfl rfl) (Wt.plain rfl) rfl rfl ?_
      refine T.nil ?_
      exact Ex.met [true, true] (-z - 1) (by first | omega | (dsimp only; omega)) ⟨rfl, rfl, rfl, rfl, rfl, trivial⟩ rfl
    · replace hb6 := of_decide_eq_false hb6
      refine W.skip ?_
      exact Ex.met [true, true] z (by first | omega | (dsimp only; omega)) ⟨rfl, rfl, rfl, rfl, rfl, trivial⟩ rfl
  ·
    rintro kk ⟨hk0, hk1⟩
    obtain ⟨r, hr1, hr2⟩ : ∃ r : Nat, kk % ((xs.length : Int) + 1) = (r : Int) ∧ r ≤ xs.length := ⟨(kk % ((xs.length : Int) + 1)).toNat, by have := Int.emod_nonneg kk (b := (xs.length : Int) + 1) (by omega); omega, by have := Int.emod_lt_of_pos kk (b := (xs.length : Int) + 1) (by omega); omega⟩
    refine W.seq ?_
    refine W.region ?_
    refine T.q (q_move rfl rfl) (Wt.plain rfl) rfl rfl ?_
    refine T.q (q_move rfl rfl) (Wt.plain rfl) rfl rfl ?_
    refine T.q (q_len sc36 rfl rfl) (Wt.plain rfl) rfl rfl ?_
    refine T.q (q_addi rfl rfl rfl (by omega) (by omega)) (Wt.plain rfl) rfl rfl ?_
    refine T.q (q_int (b := ((r : Nat) : Int)) (q_rem rfl rfl rfl (by omega) (by omega)) hr1) (Wt.plain rfl) rfl rfl ?_
    refine T.q (q_assign rfl rfl) (Wt.plain rfl) rfl rfl ?_
    refine T.nil ?_
    refine Ex.next ?_
    refine W.slots (L' := [(1, _), (3, _), (7, _), (8, _), (9, _)]) ⟨rfl, rfl, rfl, rfl, rfl, trivial⟩ ?_
    refine W.seq ?_
    refine W.draw 10 (by kernel_rfl) ?_
    refine D.take 0 rfl (by kernel_rfl) (fun _ h => h) (q_fld fl35_0 rfl rfl) (Wt.plain rfl) rfl rfl ?_
    refine D.take 1 rfl (by kernel_rfl) (fun _ h => h) (q_loadW (wide_ints wd28 (by first | omega | (simp; done) | (simp [-List.getD_eq_getElem?_getD]; omega) | (simp at *; omega) | rfl)) (R_at 0 0 32 rfl (part_first (by first | omega | (simp; done) | (simp [-List.getD_eq_getElem?_getD]; omega) | (simp at *; omega) | rfl))) rfl rfl) (Wt.plain rfl) rfl rfl ?_
    refine D.take 2 rfl (by kernel_rfl) (fun _ h => h) (q_fld fl35_1 rfl rfl) (Wt.plain rfl) rfl rfl ?_
    refine D.take 3 rfl (by kernel_rfl) (fun _ h => h) (q_load1 ss22 0 rfl rfl rfl (cell_skip 32 (by first | omega | (simp; done) | (simp [-List.getD_eq_getElem?_getD]; omega) | (simp at *; omega) | rfl) rfl (rfl))) (Wt.plain rfl) rfl rfl ?_
    refine D.take 4 rfl (by kernel_rfl) (fun _ h => h) (q_fld fl35_2 rfl rfl) (Wt.plain rfl) rfl rfl ?_
    refine D.take 5 rfl (by kernel_rfl) (fun _ h => h) (q_loadW (wide_ints wd30 (by first | omega | (simp; done) | (simp [-List.getD_eq_getElem?_getD]; omega) | (simp at *; omega) | rfl)) (R_at 0 33 12 rfl (part_skip 32 (by first | omega | (simp; done) | (simp [-List.getD_eq_getElem?_getD]; omega) | (simp at *; omega) | rfl) rfl (part_skip1 (part_last (by first | omega | (simp; done) | (simp [-List.getD_eq_getElem?_getD]; omega) | (simp at *; omega) | rfl))))) rfl rfl) (Wt.plain rfl) rfl rfl ?_
    refine D.take 6 rfl (by kernel_rfl) (fun _ h => h) (q_move rfl rfl) (Wt.plain rfl) rfl rfl ?_
    refine D.take 7 rfl (by kernel_rfl) (fun _ h => h) (q_move rfl rfl) (Wt.plain rfl) rfl rfl ?_
    refine D.take 8 rfl (by kernel_rfl) (fun _ h => h) (q_sl sc36 0 r c rfl rfl rfl ⟨_, _, rfl, by omega⟩ rfl (by first | omega | (simp; done) | (simp [-List.getD_eq_getElem?_getD]; omega)) (by first | omega | (simp; done) | (simp [-List.getD_eq_getElem?_getD]; omega)) (by first | omega | (simp; done) | (simp [-List.getD_eq_getElem?_getD]; omega)) (by simp)) (Wt.plain rfl) rfl rfl ?_
    refine D.one 9 (by kernel_rfl) ?_
    refine Up.eff rfl (e_call enters14 rfl rfl (fun w hm => xor_spec' key nonce ctr hk hnn hctr _ _ _ ((xs).take r) (by first | omega | (simp; done) | (simp; omega)) w ((R_takeI (R_cutI (l := 0) (R_ext hR.ext) (by first | omega | (simp; done) | (simp [-List.getD_eq_getElem?_getD]; omega) | (simp at *; omega) | rfl)) r) w hm) (R_ext hh.ext w hm) (R_ext ht.ext w hm) (by first | omega | (simp; done) | (simp [-List.getD_eq_getElem?_getD]; omega) | (simp at *; omega) | rfl)) rfl rfl) (Wt.plain rfl) ?_
    rintro _ _ ⟨_, _, ⟨k7, cap8, junk9, rfl, hc10, rfl⟩, rfl, rfl⟩
    refine ⟨fun _ => (S_sub ((((List.Sublist.slnil).cons _).cons_cons _).cons_cons _)), ?_⟩
    refine D.one 10 (by kernel_rfl) ?_
    refine Up.q rfl (q_assign rfl rfl) (Wt.plain rfl) rfl rfl (fun h => absurd h (by decide)) ?_
    refine D.done (by kernel_rfl) ?_
    refine Ex.next ?_
    refine W.slots (L' := [(1, _), (3, _), (7, _), (8, _), (9, _), (10, _)]) ⟨rfl, rfl, rfl, rfl, rfl, rfl, trivial⟩ ?_
    refine W.seq ?_
    refine W.draw 31 (by kernel_rfl) ?_
    refine D.take 0 rfl (by kernel_rfl) (fun _ h => h) (q_move rfl rfl) (Wt.plain rfl) rfl rfl ?_
    refine D.take 1 rfl (by kernel_rfl) (fun _ h => h) (q_move rfl rfl) (Wt.plain rfl) rfl rfl ?_
    refine D.take 2 rfl (by kernel_rfl) (fun _ h => h) (q_fld fl35_0 rfl rfl) (Wt.yes rfl rfl rfl) rfl rfl ?_
    refine D.take 3 rfl (by kernel_rfl) (fun _ h => h) (q_loadW (wide_ints wd28 (by first | omega | (simp; done) | (simp [-List.getD_eq_getElem?_getD]; omega) | (simp at *; omega) | rfl)) (R_at 0 0 32 rfl (part_first (by first | omega | (simp; done) | (simp [-List.getD_eq_getElem?_getD]; omega) | (simp at *; omega) | rfl))) rfl rfl) (Wt.yes rfl rfl rfl) rfl rfl ?_
    refine D.take 4 rfl (by kernel_rfl) (fun _ h => h) (q_fld fl35_1 rfl rfl) (Wt.yes rfl rfl rfl) rfl rfl ?_
    refine D.take 5 rfl (by kernel_rfl) (fun _ h => h) (q_load1 ss22 0 rfl rfl rfl (cell_skip 32 (by first | omega | (simp; done) | (simp [-List.getD_eq_getElem?_getD]; omega) | (simp at *; omega) | rfl) rfl (rfl))) (Wt.yes rfl rfl rfl) rfl rfl ?_
    refine D.take 6 rfl (by kernel_rfl) (fun _ h => h) (q_fld fl35_2 rfl rfl) (Wt.yes rfl rfl rfl) rfl rfl ?_
    refine D.take 7 rfl (by kernel_rfl) (fun _ h => h) (q_loadW (wide_ints wd30 (by first | omega | (simp; done) | (simp [-List.getD_eq_getElem?_getD]; omega) | (simp at *; omega) | rfl)) (R_at 0 33 12 rfl (part_skip 32 (by first | omega | (simp; done) | (simp [-List.getD_eq_getElem?_getD]; omega) | (simp at *; omega) | rfl) rfl (part_skip1 (part_last (by first | omega | (simp; done) | (simp [-List.getD_eq_getElem?_getD]; omega) | (simp at *; omega) | rfl))))) rfl rfl) (Wt.yes rfl rfl rfl) rfl rfl ?_
    refine D.take 8 rfl (by kernel_rfl) (fun _ h => h) (q_move rfl rfl) (Wt.yes rfl rfl rfl) rfl rfl ?_
    refine D.take 11 rfl (by kernel_rfl) (fun _ h => h) (q_move rfl rfl) (Wt.yes rfl rfl rfl) rfl rfl ?_
    refine D.take 12 rfl (by kernel_rfl) (fun _ h => h) (q_bstr sc36 un5 un9 (R_ext hR.ext) (by first | omega | (simp; done) | (simp [-List.getD_eq_getElem?_getD]; omega) | (simp at *; omega) | rfl) rfl rfl) (Wt.yes rfl rfl rfl) rfl rfl ?_
    refine D.one 9 (by kernel_rfl) ?_
    refine Up.eff rfl (e_call enters14 rfl rfl (fun w hm => xor_spec' key nonce ctr hk hnn hctr _ _ _ (xorS key nonce ctr xs) (by first | omega | (simp; done) | (simp; omega)) w ((R_pre 1 rfl) w hm) (R_ext hh.ext w hm) (R_ext ht.ext w hm) (by first | omega | (simp; done) | (simp [-List.getD_eq_getElem?_getD]; omega) | (simp at *; omega) | rfl)) rfl rfl) (Wt.yes rfl rfl rfl) ?_
    rintro _ _ ⟨_, _, ⟨k11, cap12, junk13, rfl, hc14, rfl⟩, rfl, rfl⟩
    refine ⟨fun _ => (S_sub (((((List.Sublist.slnil).cons _).cons_cons _).cons_cons _).cons_cons _)), ?_⟩
    refine D.one 10 (by kernel_rfl) ?_
    refine Up.q rfl (q_bstr sc36 un5 un9 (R_pre 3 rfl) (by first | omega | (simp; done) | (simp [-List.getD_eq_getElem?_getD]; omega) | (simp at *; omega) | rfl) rfl rfl) (Wt.yes rfl rfl rfl) rfl rfl (fun _ => (S_sub (((((List.Sublist.slnil).cons _).cons_cons _).cons_cons _).cons_cons _))) ?_
    refine D.take 13 rfl (by kernel_rfl) (S_sub (((((List.Sublist.slnil).cons _).cons_cons _).cons_cons _).cons_cons _)) (q_bool (b := true) (q_eqlS rfl rfl rfl) ?hE) (Wt.yes rfl rfl rfl) rfl rfl ?_
    case hE => rw [xorS_twice key nonce ctr hb]; try simp
    refine D.take 14 rfl (by kernel_rfl) (S_sub (((((List.Sublist.slnil).cons _).cons_cons _).cons_cons _).cons_cons _)) (q_pickT rfl rfl rfl) (Wt.plain rfl) rfl rfl ?_
    refine D.take 15 rfl (by kernel_rfl) (S_sub (((((List.Sublist.slnil).cons _).cons_cons _).cons_cons _).cons_cons _)) (q_move rfl rfl) (Wt.plain rfl) rfl rfl ?_
    refine D.take 16 rfl (by kernel_rfl) (S_sub (((((List.Sublist.slnil).cons _).cons_cons _).cons_cons _).cons_cons _)) (q_move rfl rfl) (Wt.yes rfl rfl rfl) rfl rfl ?_
    refine D.take 17 rfl (by kernel_rfl) (S_sub (((((List.Sublist.slnil).cons _).cons_cons _).cons_cons _).cons_cons _)) (q_len sc36 rfl rfl) (Wt.yes rfl rfl rfl) rfl rfl ?_
    refine D.take 18 rfl (by kernel_rfl) (S_sub (((((List.Sublist.slnil).cons _).cons_cons _).cons_cons _).cons_cons _)) (q_move rfl rfl) (Wt.yes rfl rfl rfl) rfl rfl ?_
    refine D.take 19 rfl (by kernel_rfl) (S_sub (((((List.Sublist.slnil).cons _).cons_cons _).cons_cons _).cons_cons _)) (q_len sc36 rfl rfl) (Wt.yes rfl rfl rfl) rfl rfl ?_
    refine D.take 20 rfl (by kernel_rfl) (S_sub (((((List.Sublist.slnil).cons _).cons_cons _).cons_cons _).cons_cons _)) (q_bool (b := true) (q_eql rfl rfl rfl) ?hE) (Wt.yes rfl rfl rfl) rfl rfl ?_
    case hE => simp
    refine D.take 21 rfl (by kernel_rfl) (S_sub (((((List.Sublist.slnil).cons _).cons_cons _).cons_cons _).cons_cons _)) (q_pickT rfl rfl rfl) (Wt.plain rfl) rfl rfl ?_
    refine D.take 22 rfl (by kernel_rfl) (S_sub (((((List.Sublist.slnil).cons _).cons_cons _).cons_cons _).cons_cons _)) (q_move rfl rfl) (Wt.plain rfl) rfl rfl ?_
    refine D.take 23 rfl (by kernel_rfl) (S_sub (((((List.Sublist.slnil).cons _).cons_cons _).cons_cons _).cons_cons _)) (q_move rfl rfl) (Wt.yes rfl rfl rfl) rfl rfl ?_
    refine D.take 24 rfl (by kernel_rfl) (S_sub (((((List.Sublist.slnil).cons _).cons_cons _).cons_cons _).cons_cons _)) (q_move rfl rfl) (Wt.yes rfl rfl rfl) rfl rfl ?_
    refine D.take 25 rfl (by kernel_rfl) (S_sub (((((List.Sublist.slnil).cons _).cons_cons _).cons_cons _).cons_cons _)) (q_sl sc36 0 r cap3 rfl rfl rfl ⟨_, _, rfl, by omega⟩ rfl (by first | omega | (simp; done) | (simp [-List.getD_eq_getElem?_getD]; omega)) (by first | omega | (simp; done) | (simp [-List.getD_eq_getElem?_getD]; omega)) (by first | omega | (simp; done) | (simp [-List.getD_eq_getElem?_getD]; omega)) (by simp)) (Wt.yes rfl rfl rfl) rfl rfl ?_
    refine D.take 26 rfl (by kernel_rfl) (S_sub (((((List.Sublist.slnil).cons _).cons_cons _).cons_cons _).cons_cons _)) (q_bstr sc36 un5 un9 (R_takeI (R_cutI (l := 0) (R_pre 1 rfl) (by first | omega | (simp; done) | (simp [-List.getD_eq_getElem?_getD]; omega) | (simp at *; omega) | rfl)) r) (by first | omega | (simp; done) | (simp [-List.getD_eq_getElem?_getD]; omega) | (simp at *; omega) | rfl) rfl rfl) (Wt.yes rfl rfl rfl) rfl rfl ?_
    refine D.take 27 rfl (by kernel_rfl) (S_sub (((((List.Sublist.slnil).cons _).cons_cons _).cons_cons _).cons_cons _)) (q_move rfl rfl) (Wt.yes rfl rfl rfl) rfl rfl ?_
    refine D.take 28 rfl (by kernel_rfl) (S_sub (((((List.Sublist.slnil).cons _).cons_cons _).cons_cons _).cons_cons _)) (q_bstr sc36 un5 un9 (R_pre 2 rfl) (by first | omega | (simp; done) | (simp [-List.getD_eq_getElem?_getD]; omega) | (simp at *; omega) | rfl) rfl rfl) (Wt.yes rfl rfl rfl) rfl rfl ?_
    refine D.take 29 rfl (by kernel_rfl) (S_sub (((((List.Sublist.slnil).cons _).cons_cons _).cons_cons _).cons_cons _)) (q_bool (b := true) (q_eqlS rfl rfl rfl) ?hE) (Wt.yes rfl rfl rfl) rfl rfl ?_
    case hE => rw [List.drop_zero, xorS_take key nonce ctr xs hr2]; try simp
    refine D.take 30 rfl (by kernel_rfl) (S_sub (((((List.Sublist.slnil).cons _).cons_cons _).cons_cons _).cons_cons _)) (q_pickT rfl rfl rfl) (Wt.plain rfl) rfl rfl ?_
    refine D.one 31 (by kernel_rfl) ?_
    refine Up.q rfl (q_assign rfl rfl) (Wt.plain rfl) rfl rfl (fun h => absurd h (by decide)) ?_
    refine D.done (by kernel_rfl) ?_
    refine Ex.next ?_
    refine W.less (L' := [(6, _)]) [false, false, false, false] ⟨rfl, trivial⟩ ?_
    change (_ : List Blk → Prop) []
    refine W.ret ?_
    refine Ex.out1 [] rfl rfl ?_
    exact ⟨rfl, rfl⟩
set_option maxRecDepth 100000 in
theorem noughts_law (key nonce : List Int) (ctr : Int) (hk : key.length = 32) (hnn : nonce.length = 12) (hctr : IntKind.u32.wrap ctr = ctr) (w0 : World) (hh : Reads w0 (some ⟨0, 0, none⟩) (ints .u32 headW)) (ht : Reads w0 (some ⟨1, 0, none⟩) (ints .i64 tbl)) : Does Tryd.prog 8 #[.agg (ints .u8 key ++ (.int .u32 ctr :: (ints .u8 nonce))).toArray] w0 [] (fun v G => v = .bool true ∧ G = []) := by
  have hsz : True := trivial
  refine spec_of 42 Tryd.func8 rfl rfl rfl ?_
  refine W.seq ?_
  refine W.region ?_
  refine T.eff (e_box rfl rfl rfl rfl) (Wt.plain rfl) ?_
  rintro _ _ ⟨k1, rfl, rfl⟩
  change (_ : List Blk → Prop) [_]
  refine T.q (q_assign rfl rfl) (Wt.plain rfl) rfl rfl ?_
  refine T.nil ?_
  refine Ex.next ?_
  refine W.slots (L' := [(1, _)]) ⟨rfl, trivial⟩ ?_
  refine W.seq ?_
  refine W.region ?_
  refine T.eff (e_call enters9 rfl rfl (fun w hm => shown_spec w (R_ext hh.ext w hm) (R_ext ht.ext w hm)) rfl rfl) (Wt.plain rfl) ?_
  rintro _ _ ⟨_, _, ⟨rfl, rfl⟩, rfl, rfl⟩
  change (_ : List Blk → Prop) [_]
  refine T.q (q_assign rfl rfl) (Wt.plain rfl) rfl rfl ?_
  refine T.nil ?_
  refine Ex.next ?_
  refine W.slots (L' := [(1, _), (3, _)]) ⟨rfl, rfl, trivial⟩ ?_
  refine W.seq ?_
  refine W.draw 8 (by kernel_rfl) ?_
  refine D.take 0 rfl (by kernel_rfl) (fun _ h => h) (q_fld fl35_0 rfl rfl) (Wt.plain rfl) rfl rfl ?_
  refine D.take 1 rfl (by kernel_rfl) (fun _ h => h) (q_loadW (wide_ints wd28 (by first | omega | (simp; done) | (simp [-List.getD_eq_getElem?_getD]; omega) | (simp at *; omega) | rfl)) (R_at 0 0 32 rfl (part_first (by first | omega | (simp; done) | (simp [-List.getD_eq_getElem?_getD]; omega) | (simp at *; omega) | rfl))) rfl rfl) (Wt.plain rfl) rfl rfl ?_
  refine D.take 2 rfl (by kernel_rfl) (fun _ h => h) (q_fld fl35_1 rfl rfl) (Wt.plain rfl) rfl rfl ?_
  refine D.take 3 rfl (by kernel_rfl) (fun _ h => h) (q_load1 ss22 0 rfl rfl rfl (cell_skip 32 (by first | omega | (simp; done) | (simp [-List.getD_eq_getElem?_getD]; omega) | (simp at *; omega) | rfl) rfl (rfl))) (Wt.plain rfl) rfl rfl ?_
  refine D.take 4 rfl (by kernel_rfl) (fun _ h => h) (q_fld fl35_2 rfl rfl) (Wt.plain rfl) rfl rfl ?_
  refine D.take 5 rfl (by kernel_rfl) (fun _ h => h) (q_loadW (wide_ints wd30 (by first | omega | (simp; done) | (simp [-List.getD_eq_getElem?_getD]; omega) | (simp at *; omega) | rfl)) (R_at 0 33 12 rfl (part_skip 32 (by first | omega | (simp; done) | (simp [-List.getD_eq_getElem?_getD]; omega) | (simp at *; omega) | rfl) rfl (part_skip1 (part_last (by first | omega | (simp; done) | (simp [-List.getD_eq_getElem?_getD]; omega) | (simp at *; omega) | rfl))))) rfl rfl) (Wt.plain rfl) rfl rfl ?_
  refine D.one 6 (by kernel_rfl) ?_
  refine Up.eff rfl (e_makeI sc36 ze5 128 128 rfl rfl rfl rfl rfl (by omega) (by omega) (by omega) rfl rfl) (Wt.plain rfl) ?_
  rintro _ _ ⟨k2, rfl, rfl⟩
  refine ⟨fun _ => (S_sub (((List.Sublist.slnil).cons _).cons_cons _)), ?_⟩
  refine D.one 7 (by kernel_rfl) ?_
  refine Up.eff rfl (e_call enters14 rfl rfl (fun w hm => xor_spec' key nonce ctr hk hnn hctr _ _ _ (List.replicate 128 0) (by first | omega | (simp; done) | (simp; omega)) w ((R_blk 1 rfl) w hm) (R_ext hh.ext w hm) (R_ext ht.ext w hm) (by first | omega | (simp; done) | (simp [-List.getD_eq_getElem?_getD]; omega) | (simp at *; omega) | rfl)) rfl rfl) (Wt.plain rfl) ?_
  rintro _ _ ⟨_, _, ⟨k3, cap4, junk5, rfl, hc6, rfl⟩, rfl, rfl⟩
  refine ⟨fun _ => (S_sub ((((List.Sublist.slnil).cons _).cons _).cons_cons _)), ?_⟩
  refine D.one 8 (by kernel_rfl) ?_
  refine Up.q rfl (q_assign rfl rfl) (Wt.plain rfl) rfl rfl (fun h => absurd h (by decide)) ?_
  refine D.done (by kernel_rfl) ?_
  refine Ex.next ?_
  refine W.less (L' := [(1, _), (3, _), (4, _)]) [true, false, true] ⟨rfl, rfl, rfl, trivial⟩ ?_
  change (_ : List Blk → Prop) [_, _]
  refine W.seq ?_
  refine W.region ?_
  refine T.q (q_fld fl35_0 rfl rfl) (Wt.plain rfl) rfl rfl ?_
  refine T.q (q_loadW (wide_ints wd28 (by first | omega | (simp; done) | (simp [-List.getD_eq_getElem?_getD]; omega) | (simp at *; omega) | rfl)) (R_at 0 0 32 rfl (part_first (by first | omega | (simp; done) | (simp [-List.getD_eq_getElem?_getD]; omega) | (simp at *; omega) | rfl))) rfl rfl) (Wt.plain rfl) rfl rfl ?_
  refine T.q (q_fld fl35_1 rfl rfl) (Wt.plain rfl) rfl rfl ?_
  refine T.q (q_load1 ss22 0 rfl rfl rfl (cell_skip 32 (by first | omega | (simp; done) | (simp [-List.getD_eq_getElem?_getD]; omega) | (simp at *; omega) | rfl) rfl (rfl))) (Wt.plain rfl) rfl rfl ?_
  refine T.q (q_fld fl35_2 rfl rfl) (Wt.plain rfl) rfl rfl ?_
  refine T.q (q_loadW (wide_ints wd30 (by first | omega | (simp; done) | (simp [-List.getD_eq_getElem?_getD]; omega) | (simp at *; omega) | rfl)) (R_at 0 33 12 rfl (part_skip 32 (by first | omega | (simp; done) | (simp [-List.getD_eq_getElem?_getD]; omega) | (simp at *; omega) | rfl) rfl (part_skip1 (part_last (by first | omega | (simp; done) | (simp [-List.getD_eq_getElem?_getD]; omega) | (simp at *; omega) | rfl))))) rfl rfl) (Wt.plain rfl) rfl rfl ?_
  refine T.eff (e_call enters12 rfl rfl (fun w hm => block_spec key nonce ctr hk hnn w (R_ext hh.ext w hm) (R_ext ht.ext w hm)) rfl rfl) (Wt.plain rfl) ?_
  rintro _ _ ⟨_, _, ⟨rfl, rfl⟩, rfl, rfl⟩
  change (_ : List Blk → Prop) [_, _]
  refine T.eff (e_alloc ze31 rfl rfl rfl) (Wt.plain rfl) ?_
  rintro _ _ ⟨k7, rfl, rfl⟩
  change (_ : List Blk → Prop) [_, _, _]
  refine T.eff (e_storeA (wide_ints wd31 (by first | omega | (simp; done) | (simp [-List.getD_eq_getElem?_getD]; omega) | (simp at *; omega) | rfl)) 2 rfl rfl rfl rfl (by first | omega | (simp; done) | (simp [-List.getD_eq_getElem?_getD]; omega) | (simp at *; omega) | rfl) ints_one rfl) (Wt.plain rfl) ?_
  rintro _ _ ⟨rfl, rfl⟩
  change (_ : List Blk → Prop) [_, _, _]
  refine T.nil ?_
  refine Ex.next ?_
  refine W.slots (L' := [(1, _), (3, _), (4, _), (5, _)]) ⟨rfl, rfl, rfl, rfl, trivial⟩ ?_
  refine W.seq ?_
  refine W.region ?_
  refine T.q (q_fld fl35_0 rfl rfl) (Wt.plain rfl) rfl rfl ?_
  refine T.q (q_loadW (wide_ints wd28 (by first | omega | (simp; done) | (simp [-List.getD_eq_getElem?_getD]; omega) | (simp at *; omega) | rfl)) (R_at 0 0 32 rfl (part_first (by first | omega | (simp; done) | (simp [-List.getD_eq_getElem?_getD]; omega) | (simp at *; omega) | rfl))) rfl rfl) (Wt.plain rfl) rfl rfl ?_
  refine T.q (q_fld fl35_1 rfl rfl) (Wt.plain rfl) rfl rfl ?_
  refine T.q (q_load1 ss22 0 rfl rfl rfl (cell_skip 32 (by first | omega | (simp; done) | (simp [-List.getD_eq_getElem?_getD]; omega) | (simp at *; omega) | rfl) rfl (rfl))) (Wt.plain rfl) rfl rfl ?_
  refine T.q (q_add rfl rfl rfl) (Wt.plain rfl) rfl rfl ?_
  refine T.q (q_fld fl35_2 rfl rfl) (Wt.plain rfl) rfl rfl ?_
  refine T.q (q_loadW (wide_ints wd30 (by first | omega | (simp; done) | (simp [-List.getD_eq_getElem?_getD]; omega) | (simp at *; omega) | rfl)) (R_at 0 33 12 rfl (part_skip 32 (by first | omega | (simp; done) | (simp [-List.getD_eq_getElem?_getD]; omega) | (simp at *; omega) | rfl) rfl (part_skip1 (part_last (by first | omega | (simp; done) | (simp [-List.getD_eq_getElem?_getD]; omega) | (simp at *; omega) | rfl))))) rfl rfl) (Wt.plain rfl) rfl rfl ?_
  refine T.eff (e_call enters12 rfl rfl (fun w hm => block_spec key nonce (IntKind.u32.wrap (ctr + 1)) hk hnn w (R_ext hh.ext w hm) (R_ext ht.ext w hm)) rfl rfl) (Wt.plain rfl) ?_
  rintro _ _ ⟨_, _, ⟨rfl, rfl⟩, rfl, rfl⟩
  change (_ : List Blk → Prop) [_, _, _]
  refine T.eff (e_alloc ze31 rfl rfl rfl) (Wt.plain rfl) ?_
  rintro _ _ ⟨k8, rfl, rfl⟩
  change (_ : List Blk → Prop) [_, _, _, _]
  refine T.eff (e_storeA (wide_ints wd31 (by first | omega | (simp; done) | (simp [-List.getD_eq_getElem?_getD]; omega) | (simp at *; omega) | rfl)) 3 rfl rfl rfl rfl (by first | omega | (simp; done) | (simp [-List.getD_eq_getElem?_getD]; omega) | (simp at *; omega) | rfl) ints_one rfl) (Wt.plain rfl) ?_
  rintro _ _ ⟨rfl, rfl⟩
  change (_ : List Blk → Prop) [_, _, _, _]
  refine T.nil ?_
  refine Ex.next ?_
  refine W.less (L' := [(3, _), (4, _), (5, _), (6, _)]) [false, true, true, true] ⟨rfl, rfl, rfl, rfl, trivial⟩ ?_
  change (_ : List Blk → Prop) [_, _, _]
  refine W.seq ?_
  refine W.draw 11 (by kernel_rfl) ?_
  refine D.take 0 rfl (by kernel_rfl) (fun _ h => h) (q_move rfl rfl) (Wt.plain rfl) rfl rfl ?_
  refine D.take 1 rfl (by kernel_rfl) (fun _ h => h) (q_move rfl rfl) (Wt.plain rfl) rfl rfl ?_
  refine D.take 2 rfl (by kernel_rfl) (fun _ h => h) (q_move rfl rfl) (Wt.yes rfl rfl rfl) rfl rfl ?_
  refine D.take 3 rfl (by kernel_rfl) (fun _ h => h) (q_bstr sc36 un5 un9 (R_pre 0 rfl) (by first | omega | (simp; done) | (simp [-List.getD_eq_getElem?_getD]; omega) | (simp at *; omega) | rfl) rfl rfl) (Wt.yes rfl rfl rfl) rfl rfl ?_
  refine D.take 4 rfl (by kernel_rfl) (fun _ h => h) (q_slAll ar31 rfl rfl) (Wt.yes rfl rfl rfl) rfl rfl ?_
  refine D.take 5 rfl (by kernel_rfl) (fun _ h => h) (q_bstr sc36 un5 un9 (R_blk 1 rfl) (by first | omega | (simp; done) | (simp [-List.getD_eq_getElem?_getD]; omega) | (simp at *; omega) | rfl) rfl rfl) (Wt.yes rfl rfl rfl) rfl rfl ?_
  refine D.take 6 rfl (by kernel_rfl) (fun _ h => h) (q_slAll ar31 rfl rfl) (Wt.yes rfl rfl rfl) rfl rfl ?_
  refine D.take 7 rfl (by kernel_rfl) (fun _ h => h) (q_bstr sc36 un5 un9 (R_blk 2 rfl) (by first | omega | (simp; done) | (simp [-List.getD_eq_getElem?_getD]; omega) | (simp at *; omega) | rfl) rfl rfl) (Wt.yes rfl rfl rfl) rfl rfl ?_
  refine D.take 8 rfl (by kernel_rfl) (fun _ h => h) (q_catS rfl rfl rfl (by simp [bstr_size])) (Wt.yes rfl rfl rfl) rfl rfl ?_
  refine D.take 9 rfl (by kernel_rfl) (fun _ h => h) (q_bool (b := true) (q_eqlS rfl rfl rfl) ?hE) (Wt.yes rfl rfl rfl) rfl rfl ?_
  case hE => rw [xorS_noughts key nonce ctr hctr, bstr_app]; try simp
  refine D.take 10 rfl (by kernel_rfl) (fun _ h => h) (q_pickT rfl rfl rfl) (Wt.plain rfl) rfl rfl ?_
  refine D.one 11 (by kernel_rfl) ?_
  refine Up.q rfl (q_assign rfl rfl) (Wt.plain rfl) rfl rfl (fun h => absurd h (by decide)) ?_
  refine D.done (by kernel_rfl) ?_
  refine Ex.next ?_
  refine W.less (L' := [(2, _)]) [false, false, false] ⟨rfl, trivial⟩ ?_
  change (_ : List Blk → Prop) []
  refine W.ret ?_
  refine Ex.out1 [] rfl rfl ?_
  exact ⟨rfl, rfl⟩
end Go.Proofs.YtgljacciacbggaaDoor
