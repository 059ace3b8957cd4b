/-
  The walks of layer 6: a text is hashed.
-/
import Derived.Test.YtkoomaoelekpaaaDoorW2
import Derived.Test.YtkoomaoelekpaaaDoorW3
import Derived.Test.YtkoomaoelekpaaaDoorPureC
namespace Go.Proofs.YtkoomaoelekpaaaDoor
open Go Go.X

set_option maxRecDepth 100000 in
theorem sum_bad (key b : List Int) (KA BA : Option Addr) (kc bc : Nat) (_hkc : key.length ≤ kc) (_hbc : b.length ≤ bc) (hbl : b.length ≤ 140737488355000) (w0 : World) (_hK : Reads w0 KA (ints .u8 key)) (_hB : Reads w0 BA (ints .u8 b)) (z : Int) (hbad : z < 1 ∨ 32 < z ∨ 32 < key.length) : Does Tryd.prog 19 #[.slice KA key.length kc, .int .i64 z, .slice BA b.length bc] w0 [] (fun v G => v = .tuple #[.slice none 0 0, .int .i64 1] ∧ G = []) := by
  refine spec_of 92 Tryd.func19 rfl rfl rfl ?_
  refine W.seq ?_
  refine W.region ?_
  refine T.q (q_assign rfl rfl) (Wt.plain rfl) rfl rfl ?_
  refine T.q (q_assign rfl rfl) (Wt.plain rfl) rfl rfl ?_
  refine T.nil ?_
  refine Ex.next ?_
  refine W.slots (L' := [(0, _), (1, _), (2, _)]) ⟨rfl, rfl, rfl, trivial⟩ ?_
  refine W.seq ?_
  refine W.seq ?_
  refine W.region ?_
  refine T.q (q_move rfl rfl) (Wt.plain rfl) rfl rfl ?_
  refine T.q (q_lss rfl rfl rfl) (Wt.plain rfl) rfl rfl ?_
  refine T.q (q_move rfl rfl) (Wt.plain rfl) rfl rfl ?_
  refine T.both (t := 16) _ rfl (fun hb1 => ?_) (fun hb1 => ?_)
  · replace hb1 := of_decide_eq_true hb1
    refine T.no (Wn.no rfl rfl rfl rfl) rfl rfl ?_
    refine T.no (Wn.no rfl rfl rfl rfl) rfl rfl ?_
    refine T.q (q_pickT rfl rfl rfl) (Wt.plain rfl) rfl rfl ?_
    refine T.q (q_move rfl rfl) (Wt.plain rfl) rfl rfl ?_
    refine T.no (Wn.no rfl rfl rfl rfl) rfl rfl ?_
    refine T.no (Wn.no rfl rfl rfl rfl) rfl rfl ?_
    refine T.no (Wn.no rfl rfl rfl rfl) rfl rfl ?_
    refine T.q (q_pickT rfl rfl rfl) (Wt.plain rfl) rfl rfl ?_
    refine T.nil ?_
    refine Ex.next ?_
    refine W.slots (L' := [(0, _), (1, _), (2, _), (24, _)]) ⟨rfl, rfl, rfl, rfl, trivial⟩ ?_
    refine W.condT rfl ?_
    refine W.seq ?_
    refine W.region ?_
    refine T.q (q_assign rfl rfl) (Wt.plain rfl) rfl rfl ?_
    refine T.q (q_assign rfl rfl) (Wt.plain rfl) rfl rfl ?_
    refine T.nil ?_
    refine Ex.next ?_
    refine W.slots (L' := [(6, _), (7, _)]) ⟨rfl, rfl, trivial⟩ ?_
    refine W.ret ?_
    refine Ex.then_ret ?_
    refine Ex.out2 [] rfl rfl rfl ?_
    exact ⟨rfl, rfl⟩
  · replace hb1 := of_decide_eq_false hb1
    refine T.q (q_move rfl rfl) (Wt.yes rfl rfl rfl) rfl rfl ?_
    refine T.q (q_gtr rfl rfl rfl) (Wt.yes rfl rfl rfl) rfl rfl ?_
    refine T.q (q_pickF rfl rfl rfl) (Wt.plain rfl) rfl rfl ?_
    refine T.q (q_move rfl rfl) (Wt.plain rfl) rfl rfl ?_
    refine T.both (t := 20) _ rfl (fun hb2 => ?_) (fun hb2 => ?_)
    · replace hb2 := of_decide_eq_true hb2
      refine T.no (Wn.no rfl rfl rfl rfl) rfl rfl ?_
      refine T.no (Wn.no rfl rfl rfl rfl) rfl rfl ?_
      refine T.no (Wn.no rfl rfl rfl rfl) rfl rfl ?_
      refine T.q (q_pickT rfl rfl rfl) (Wt.plain rfl) rfl rfl ?_
      refine T.nil ?_
      refine Ex.next ?_
      refine W.slots (L' := [(0, _), (1, _), (2, _), (24, _)]) ⟨rfl, rfl, rfl, rfl, trivial⟩ ?_
      refine W.condT rfl ?_
      refine W.seq ?_
      refine W.region ?_
      refine T.q (q_assign rfl rfl) (Wt.plain rfl) rfl rfl ?_
      refine T.q (q_assign rfl rfl) (Wt.plain rfl) rfl rfl ?_
      refine T.nil ?_
      refine Ex.next ?_
      refine W.slots (L' := [(6, _), (7, _)]) ⟨rfl, rfl, trivial⟩ ?_
      refine W.ret ?_
      refine Ex.then_ret ?_
      refine Ex.out2 [] rfl rfl rfl ?_
      exact ⟨rfl, rfl⟩
    · replace hb2 := of_decide_eq_false hb2
      refine T.q (q_move rfl rfl) (Wt.yes rfl rfl rfl) rfl rfl ?_
      refine T.q (q_len sc22 rfl rfl) (Wt.yes rfl rfl rfl) rfl rfl ?_
      refine T.q (q_bool (b := true) (q_gtr rfl rfl rfl) (decide_eq_true (by omega))) (Wt.yes rfl rfl rfl) rfl rfl ?_
      refine T.q (q_pickF rfl rfl rfl) (Wt.plain rfl) rfl rfl ?_
      refine T.nil ?_
      refine Ex.next ?_
      refine W.slots (L' := [(0, _), (1, _), (2, _), (24, _)]) ⟨rfl, rfl, rfl, rfl, trivial⟩ ?_
      refine W.condT rfl ?_
      refine W.seq ?_
      refine W.region ?_
      refine T.q (q_assign rfl rfl) (Wt.plain rfl) rfl rfl ?_
      refine T.q (q_assign rfl rfl) (Wt.plain rfl) rfl rfl ?_
      refine T.nil ?_
      refine Ex.next ?_
      refine W.slots (L' := [(6, _), (7, _)]) ⟨rfl, rfl, trivial⟩ ?_
      refine W.ret ?_
      refine Ex.then_ret ?_
      refine Ex.out2 [] rfl rfl rfl ?_
      exact ⟨rfl, rfl⟩
set_option maxRecDepth 100000 in
theorem refsum_bad (key b : List Int) (KA BA : Option Addr) (kc bc : Nat) (_hkc : key.length ≤ kc) (_hbc : b.length ≤ bc) (hbl : b.length ≤ 140737488355000) (w0 : World) (_hK : Reads w0 KA (ints .u8 key)) (_hB : Reads w0 BA (ints .u8 b)) (z : Int) (hbad : z < 1 ∨ 32 < z ∨ 32 < key.length) : Does Tryd.prog 20 #[.slice KA key.length kc, .int .i64 z, .slice BA b.length bc] w0 [] (fun v G => v = .tuple #[.slice none 0 0, .int .i64 1] ∧ G = []) := by
  refine spec_of 119 Tryd.func20 rfl rfl rfl ?_
  refine W.seq ?_
  refine W.region ?_
  refine T.q (q_assign rfl rfl) (Wt.plain rfl) rfl rfl ?_
  refine T.q (q_assign rfl rfl) (Wt.plain rfl) rfl rfl ?_
  refine T.nil ?_
  refine Ex.next ?_
  refine W.slots (L' := [(0, _), (1, _), (2, _)]) ⟨rfl, rfl, rfl, trivial⟩ ?_
  refine W.seq ?_
  refine W.seq ?_
  refine W.region ?_
  refine T.q (q_move rfl rfl) (Wt.plain rfl) rfl rfl ?_
  refine T.q (q_lss rfl rfl rfl) (Wt.plain rfl) rfl rfl ?_
  refine T.q (q_move rfl rfl) (Wt.plain rfl) rfl rfl ?_
  refine T.both (t := 17) _ rfl (fun hb1 => ?_) (fun hb1 => ?_)
  · replace hb1 := of_decide_eq_true hb1
    refine T.no (Wn.no rfl rfl rfl rfl) rfl rfl ?_
    refine T.no (Wn.no rfl rfl rfl rfl) rfl rfl ?_
    refine T.q (q_pickT rfl rfl rfl) (Wt.plain rfl) rfl rfl ?_
    refine T.q (q_move rfl rfl) (Wt.plain rfl) rfl rfl ?_
    refine T.no (Wn.no rfl rfl rfl rfl) rfl rfl ?_
    refine T.no (Wn.no rfl rfl rfl rfl) rfl rfl ?_
    refine T.no (Wn.no rfl rfl rfl rfl) rfl rfl ?_
    refine T.q (q_pickT rfl rfl rfl) (Wt.plain rfl) rfl rfl ?_
    refine T.nil ?_
    refine Ex.next ?_
    refine W.slots (L' := [(0, _), (1, _), (2, _), (25, _)]) ⟨rfl, rfl, rfl, rfl, trivial⟩ ?_
    refine W.condT rfl ?_
    refine W.seq ?_
    refine W.region ?_
    refine T.q (q_assign rfl rfl) (Wt.plain rfl) rfl rfl ?_
    refine T.q (q_assign rfl rfl) (Wt.plain rfl) rfl rfl ?_
    refine T.nil ?_
    refine Ex.next ?_
    refine W.slots (L' := [(6, _), (7, _)]) ⟨rfl, rfl, trivial⟩ ?_
    refine W.ret ?_
    refine Ex.then_ret ?_
    refine Ex.out2 [] rfl rfl rfl ?_
    exact ⟨rfl, rfl⟩
  · replace hb1 := of_decide_eq_false hb1
    refine T.q (q_move rfl rfl) (Wt.yes rfl rfl rfl) rfl rfl ?_
    refine T.q (q_gtr rfl rfl rfl) (Wt.yes rfl rfl rfl) rfl rfl ?_
    refine T.q (q_pickF rfl rfl rfl) (Wt.plain rfl) rfl rfl ?_
    refine T.q (q_move rfl rfl) (Wt.plain rfl) rfl rfl ?_
    refine T.both (t := 21) _ rfl (fun hb2 => ?_) (fun hb2 => ?_)
    · replace hb2 := of_decide_eq_true hb2
      refine T.no (Wn.no rfl rfl rfl rfl) rfl rfl ?_
      refine T.no (Wn.no rfl rfl rfl rfl) rfl rfl ?_
      refine T.no (Wn.no rfl rfl rfl rfl) rfl rfl ?_
      refine T.q (q_pickT rfl rfl rfl) (Wt.plain rfl) rfl rfl ?_
      refine T.nil ?_
      refine Ex.next ?_
      refine W.slots (L' := [(0, _), (1, _), (2, _), (25, _)]) ⟨rfl, rfl, rfl, rfl, trivial⟩ ?_
      refine W.condT rfl ?_
      refine W.seq ?_
      refine W.region ?_
      refine T.q (q_assign rfl rfl) (Wt.plain rfl) rfl rfl ?_
      refine T.q (q_assign rfl rfl) (Wt.plain rfl) rfl rfl ?_
      refine T.nil ?_
      refine Ex.next ?_
      refine W.slots (L' := [(6, _), (7, _)]) ⟨rfl, rfl, trivial⟩ ?_
      refine W.ret ?_
      refine Ex.then_ret ?_
      refine Ex.out2 [] rfl rfl rfl ?_
      exact ⟨rfl, rfl⟩
    · replace hb2 := of_decide_eq_false hb2
      refine T.q (q_move rfl rfl) (Wt.yes rfl rfl rfl) rfl rfl ?_
      refine T.q (q_len sc22 rfl rfl) (Wt.yes rfl rfl rfl) rfl rfl ?_
      refine T.q (q_bool (b := true) (q_gtr rfl rfl rfl) (decide_eq_true (by omega))) (Wt.yes rfl rfl rfl) rfl rfl ?_
      refine T.q (q_pickF rfl rfl rfl) (Wt.plain rfl) rfl rfl ?_
      refine T.nil ?_
      refine Ex.next ?_
      refine W.slots (L' := [(0, _), (1, _), (2, _), (25, _)]) ⟨rfl, rfl, rfl, rfl, trivial⟩ ?_
      refine W.condT rfl ?_
      refine W.seq ?_
      refine W.region ?_
      refine T.q (q_assign rfl rfl) (Wt.plain rfl) rfl rfl ?_
      refine T.q (q_assign rfl rfl) (Wt.plain rfl) rfl rfl ?_
      refine T.nil ?_
      refine Ex.next ?_
      refine W.slots (L' := [(6, _), (7, _)]) ⟨rfl, rfl, trivial⟩ ?_
      refine W.ret ?_
      refine Ex.then_ret ?_
      refine Ex.out2 [] rfl rfl rfl ?_
      exact ⟨rfl, rfl⟩
set_option maxRecDepth 100000 in
set_option maxHeartbeats 2000000 in
theorem sum_spec (key b : List Int) (KA BA : Option Addr) (kc bc : Nat) (hkc : key.length ≤ kc) (hbc : b.length ≤ bc) (hbl : b.length ≤ 140737488355000) (w0 : World) (hK : Reads w0 KA (ints .u8 key)) (hB : Reads w0 BA (ints .u8 b)) (s : Nat) (hs1 : 1 ≤ s) (hs2 : s ≤ 32) (hkl : key.length ≤ 32) (hg0 : Reads w0 (some ⟨0, 0, none⟩) (ints .u32 startW)) (hg1 : Reads w0 (some ⟨1, 0, none⟩) (ints .u8 sgm)) (hg2 : Reads w0 (some ⟨2, 0, none⟩) (ints .u8 tbl)) : Does Tryd.prog 19 #[.slice KA key.length kc, .int .i64 ((s : Nat) : Int), .slice BA b.length bc] w0 [] (fun v G => ∃ (k cap : Nat) (junk : List Value) (ty : TypeId), v = .tuple #[.slice (some ⟨k, 0, none⟩) s cap, .int .i64 0] ∧ G = [⟨some k, ints .u8 (sumS key s b) ++ junk, ty, (0, 0)⟩]) := by
  refine spec_of 92 Tryd.func19 rfl rfl rfl ?_
  refine W.seq ?_
  refine W.region ?_
  refine T.q (q_assign rfl rfl) (Wt.plain rfl) rfl rfl ?_
  refine T.q (q_assign rfl rfl) (Wt.plain rfl) rfl rfl ?_
  refine T.nil ?_
  refine Ex.next ?_
  refine W.slots (L' := [(0, _), (1, _), (2, _)]) ⟨rfl, rfl, rfl, trivial⟩ ?_
  refine W.seq ?_
  refine W.seq ?_
  refine W.region ?_
  refine T.q (q_move rfl rfl) (Wt.plain rfl) rfl rfl ?_
  refine T.q (q_bool (b := false) (q_lss rfl rfl rfl) (decide_eq_false (by omega))) (Wt.plain rfl) rfl rfl ?_
  refine T.q (q_move rfl rfl) (Wt.plain rfl) rfl rfl ?_
  refine T.q (q_move rfl rfl) (Wt.yes rfl rfl rfl) rfl rfl ?_
  refine T.q (q_bool (b := false) (q_gtr rfl rfl rfl) (decide_eq_false (by omega))) (Wt.yes rfl rfl rfl) rfl rfl ?_
  refine T.q (q_pickF rfl rfl rfl) (Wt.plain rfl) rfl rfl ?_
  refine T.q (q_move rfl rfl) (Wt.plain rfl) rfl rfl ?_
  refine T.q (q_move rfl rfl) (Wt.yes rfl rfl rfl) rfl rfl ?_
  refine T.q (q_len sc22 rfl rfl) (Wt.yes rfl rfl rfl) rfl rfl ?_
  refine T.q (q_bool (b := false) (q_gtr rfl rfl rfl) (decide_eq_false (by omega))) (Wt.yes rfl rfl rfl) rfl rfl ?_
  refine T.q (q_pickF rfl rfl rfl) (Wt.plain rfl) rfl rfl ?_
  refine T.nil ?_
  refine Ex.next ?_
  refine W.slots (L' := [(0, _), (1, _), (2, _), (24, _)]) ⟨rfl, rfl, rfl, rfl, trivial⟩ ?_
  refine W.condF rfl ?_
  refine W.skip ?_
  refine Ex.next ?_
  refine W.slots (L' := [(0, _), (1, _), (2, _)]) ⟨rfl, rfl, rfl, trivial⟩ ?_
  refine W.seq ?_
  refine W.region ?_
  refine T.q (q_loadW (wide_ints wd62 (by first | omega | (simp; done) | (simp [-List.getD_eq_getElem?_getD]; omega) | (simp at *; omega) | rfl)) (R_ext hg0.ext) rfl rfl) (Wt.plain rfl) rfl rfl ?_
  refine T.eff (e_alloc ze62 rfl rfl rfl) (Wt.plain rfl) ?_
  rintro _ _ ⟨k1, rfl, rfl⟩
  change (_ : List Blk → Prop) [_]
  refine T.eff (e_storeA (wide_ints wd62 (by first | omega | (simp; done) | (simp [-List.getD_eq_getElem?_getD]; omega) | (simp at *; omega) | rfl)) 0 rfl rfl rfl rfl (by first | omega | (simp; done) | (simp [-List.getD_eq_getElem?_getD]; omega) | (simp at *; omega) | rfl) ints_one rfl) (Wt.plain rfl) ?_
  rintro _ _ ⟨rfl, rfl⟩
  change (_ : List Blk → Prop) [_]
  refine T.nil ?_
  refine Ex.next ?_
  refine W.slots (L' := [(0, _), (1, _), (2, _), (8, _)]) ⟨rfl, rfl, rfl, rfl, trivial⟩ ?_
  refine W.seq ?_
  refine W.region ?_
  refine T.q (q_ixA0 ar62 0 rfl rfl rfl (rfl) (by decide)) (Wt.plain rfl) rfl rfl ?_
  refine T.q (q_loadI ss61 0 rfl rfl rfl (by first | omega | (simp; done) | (simp [-List.getD_eq_getElem?_getD]; omega))) (Wt.plain rfl) rfl rfl ?_
  refine T.q (q_move rfl rfl) (Wt.plain rfl) rfl rfl ?_
  refine T.q (q_len sc22 rfl rfl) (Wt.plain rfl) rfl rfl ?_
  refine T.q (q_conv un3 un61 rfl rfl) (Wt.plain rfl) rfl rfl ?_
  refine T.q (q_shl rfl rfl rfl (by decide)) (Wt.plain rfl) rfl rfl ?_
  refine T.q (q_xor rfl rfl rfl) (Wt.plain rfl) rfl rfl ?_
  refine T.q (q_move rfl rfl) (Wt.plain rfl) rfl rfl ?_
  refine T.q (q_conv un3 un61 rfl rfl) (Wt.plain rfl) rfl rfl ?_
  refine T.q (q_xor rfl rfl rfl) (Wt.plain rfl) rfl rfl ?_
  refine T.q (q_xor rfl rfl rfl) (Wt.plain rfl) rfl rfl ?_
  refine T.q (q_ixA0 ar62 0 rfl rfl rfl (rfl) (by decide)) (Wt.plain rfl) rfl rfl ?_
  refine T.eff (e_storeI ss61 0 rfl rfl rfl rfl (by first | omega | (simp; done) | (simp [-List.getD_eq_getElem?_getD]; omega)) rfl) (Wt.plain rfl) ?_
  rintro _ _ ⟨rfl, rfl⟩
  change (_ : List Blk → Prop) [_]
  change (_ : List Blk → Prop) [⟨some k1, ints .u32 (sumH0 key.length ((s : Nat) : Int)), 62, (0, 0)⟩]
  refine T.nil ?_
  refine Ex.next ?_
  refine W.slots (L' := [(0, _), (1, _), (2, _), (8, _)]) ⟨rfl, rfl, rfl, rfl, trivial⟩ ?_
  refine W.seq ?_
  refine W.region ?_
  refine T.q (q_move rfl rfl) (Wt.plain rfl) rfl rfl ?_
  refine T.q (q_assign rfl rfl) (Wt.plain rfl) rfl rfl ?_
  refine T.nil ?_
  refine Ex.next ?_
  refine W.slots (L' := [(0, _), (1, _), (2, _), (8, _), (9, _)]) ⟨rfl, rfl, rfl, rfl, rfl, trivial⟩ ?_
  refine W.seq ?_
  refine W.seq ?_
  refine W.region ?_
  refine T.q (q_move rfl rfl) (Wt.plain rfl) rfl rfl ?_
  refine T.q (q_len sc22 rfl rfl) (Wt.plain rfl) rfl rfl ?_
  refine T.q (q_gtr rfl rfl rfl) (Wt.plain rfl) rfl rfl ?_
  refine T.nil ?_
  refine Ex.next ?_
  refine W.slots (L' := [(0, _), (1, _), (2, _), (8, _), (9, _), (41, _)]) ⟨rfl, rfl, rfl, rfl, rfl, rfl, trivial⟩ ?_
  refine W.cond _ rfl (fun hb2 => ?_) (fun hb2 => ?_)
  · replace hb2 := of_decide_eq_true hb2
    refine W.seq ?_
    refine W.region ?_
    refine T.q (q_move rfl rfl) (Wt.plain rfl) rfl rfl ?_
    refine T.q (q_len sc22 rfl rfl) (Wt.plain rfl) rfl rfl ?_
    refine T.q (q_addi rfl rfl rfl (by omega) (by omega)) (Wt.plain rfl) rfl rfl ?_
    refine T.eff (e_makeI sc22 ze5 64 (64 + b.length) rfl rfl rfl rfl (by omega) (by omega) (by omega) (by omega) rfl rfl) (Wt.plain rfl) ?_
    rintro _ _ ⟨k3, rfl, rfl⟩
    change (_ : List Blk → Prop) [_, _]
    refine T.q (q_assign rfl rfl) (Wt.plain rfl) rfl rfl ?_
    refine T.nil ?_
    refine Ex.next ?_
    refine W.slots (L' := [(0, _), (1, _), (2, _), (8, _), (9, _)]) ⟨rfl, rfl, rfl, rfl, rfl, trivial⟩ ?_
    refine W.seq ?_
    refine W.region ?_
    refine T.q (q_move rfl rfl) (Wt.plain rfl) rfl rfl ?_
    refine T.q (q_move rfl rfl) (Wt.plain rfl) rfl rfl ?_
    refine T.eff (e_copyI sc22 1 (List.replicate (64 + b.length) 0) key (R_ext hK.ext) rfl rfl rfl rfl (by first | omega | (simp; done) | (simp [-List.getD_eq_getElem?_getD]; omega) | (simp at *; omega) | rfl) (by first | omega | (simp; done) | (simp [-List.getD_eq_getElem?_getD]; omega)) (by first | omega | (simp; done) | (simp [-List.getD_eq_getElem?_getD]; omega)) rfl rfl) (Wt.plain rfl) ?_
    rintro _ _ ⟨rfl, rfl⟩
    change (_ : List Blk → Prop) [_, _]
    have hkp : (kpad key).length = 64 := by rw [kpad_some (by omega)]; simp; omega
    conv => rhs; rw [kpad_split b.length (by omega) (by omega), ints_append]
    refine T.nil ?_
    refine Ex.next ?_
    refine W.slots (L' := [(1, _), (2, _), (8, _), (9, _)]) ⟨rfl, rfl, rfl, rfl, trivial⟩ ?_
    refine W.region ?_
    refine T.q (q_move rfl rfl) (Wt.plain rfl) rfl rfl ?_
    refine T.q (q_move rfl rfl) (Wt.plain rfl) rfl rfl ?_
    refine T.eff (e_appendI sc22 ze5 rfl 1 .u8 (kpad key) b (ints .u8 (List.replicate b.length 0)) (rfl) (R_ext hB.ext) rfl rfl rfl rfl (by first | omega | (simp; done) | (simp [-List.getD_eq_getElem?_getD]; omega) | (simp at *; omega) | rfl) (by first | omega | (simp; done) | (simp [-List.getD_eq_getElem?_getD]; omega) | (simp at *; omega) | rfl) (by first | omega | (simp; done) | (simp [-List.getD_eq_getElem?_getD]; omega) | (simp at *; omega) | rfl) (by first | omega | (simp; done) | (simp [-List.getD_eq_getElem?_getD]; omega)) (by first | omega | (simp; done) | (simp [-List.getD_eq_getElem?_getD]; omega)) rfl rfl) (Wt.plain rfl) ?_
    rintro _ _ ⟨k4, cap5, junk6, hc7, rfl, rfl⟩
    change (_ : List Blk → Prop) [_, _]
    have hfl : (full key b).length = 64 + b.length := by rw [full, List.length_append, hkp]
    refine T.q (q_assign rfl rfl) (Wt.plain rfl) rfl rfl ?_
    refine T.nil ?_
    refine Ex.next ?_
    refine W.slots (L' := [(1, _), (8, _), (9, _)]) ⟨rfl, rfl, rfl, trivial⟩ ?_
    refine W.seq ?_
    refine W.region ?_
    refine T.q (q_assign rfl rfl) (Wt.plain rfl) rfl rfl ?_
    refine T.nil ?_
    refine Ex.next ?_
    refine W.slots (L' := [(1, _), (8, _), (9, _), (10, _)]) ⟨rfl, rfl, rfl, rfl, trivial⟩ ?_
    refine W.seq ?_
    refine W.block ?_
    refine W.loop (α := Nat × Option Addr × Nat × Nat) (fun x_ => [(1, .int .i64 ((s : Nat) : Int)), (8, .pointer (some ⟨k1, 0, none⟩)), (9, .slice x_.2.1 x_.2.2.1 x_.2.2.2), (10, .int .u64 ((64 * x_.1 : Nat) : Int))]) (fun x_ => [⟨some k1, ints .u32 (absorb (sumH0 key.length ((s : Nat) : Int)) (full key b) x_.1), 62, (0, 0)⟩, ⟨some k4, ints .u8 (kpad key ++ b) ++ junk6, 5, (0, 0)⟩]) (fun x_ => 64 * x_.1 + x_.2.2.1 = (full key b).length ∧ x_.2.2.1 ≤ x_.2.2.2 ∧ (x_.1 = 0 ∨ 0 < x_.2.2.1) ∧ ∀ w, Reads w (some ⟨k4, 0, none⟩) (ints .u8 (full key b)) → Reads w x_.2.1 (ints .u8 ((full key b).drop (64 * x_.1)))) (fun x_ => x_.2.2.1) [true, true] (⟨0, some ⟨k4, 0, none⟩, (64 + b.length), cap5⟩) ⟨by dsimp only; omega, by dsimp only; first | omega | (simp at *; omega), .inl rfl, fun w h => h⟩ ⟨rfl, rfl, rfl, rfl, trivial⟩ rfl ?_
    rintro ⟨j, A2, l2, c2⟩ ⟨hjl, hlc, hj0, hRA⟩
    conv => rhs; dsimp only
    conv => arg -2; dsimp only
    dsimp only at hjl hlc hj0 hRA
    refine W.seq ?_
    refine W.seq ?_
    refine W.region ?_
    refine T.q (q_move rfl rfl) (Wt.plain rfl) rfl rfl ?_
    refine T.q (q_len sc22 rfl rfl) (Wt.plain rfl) rfl rfl ?_
    refine T.q (q_gtr rfl rfl rfl) (Wt.plain rfl) rfl rfl ?_
    refine T.nil ?_
    refine Ex.next ?_
    refine W.slots (L' := [(1, _), (8, _), (9, _), (10, _), (54, _)]) ⟨rfl, rfl, rfl, rfl, rfl, trivial⟩ ?_
    refine W.cond _ rfl (fun hb8 => ?_) (fun hb8 => ?_)
    · replace hb8 := of_decide_eq_true hb8
      refine W.skip ?_
      refine Ex.next ?_
      refine W.slots (L' := [(1, _), (8, _), (9, _), (10, _)]) ⟨rfl, rfl, rfl, rfl, trivial⟩ ?_
      refine W.block ?_
      refine W.seq ?_
      refine W.region ?_
      refine T.q (q_move rfl rfl) (Wt.plain rfl) rfl rfl ?_
      refine T.q (q_int (b := ((64 * (j + 1) : Nat) : Int)) (q_add rfl rfl rfl) ?hE) (Wt.plain rfl) rfl rfl ?_
      case hE => simp [IntKind.wrap, IntKind.bits, IntKind.signed]; omega
      refine T.q (q_assign rfl rfl) (Wt.plain rfl) rfl rfl ?_
      refine T.nil ?_
      refine Ex.next ?_
      refine W.slots (L' := [(1, _), (8, _), (9, _), (10, _)]) ⟨rfl, rfl, rfl, rfl, trivial⟩ ?_
      refine W.seq ?_
      refine W.region ?_
      refine T.q (q_loadW (wide_ints wd62 (by first | omega | (simp; done) | (simp [-List.getD_eq_getElem?_getD]; omega) | (simp at *; omega) | rfl)) (R_blk 0 rfl) rfl rfl) (Wt.plain rfl) rfl rfl ?_
      refine T.q (q_move rfl rfl) (Wt.plain rfl) rfl rfl ?_
      refine T.q (q_move rfl rfl) (Wt.plain rfl) rfl rfl ?_
      refine T.eff (e_call enters49 rfl rfl (fun w hm => press_spec (absorb (sumH0 key.length ((s : Nat) : Int)) (full key b) j) ((full key b).drop (64 * j)) ((64 * (j + 1) : Nat) : Int) false _ _ _ (by simp) (by first | (simp; done) | (simp; omega)) (by first | omega | (simp; omega)) w ((fun w hm => hRA w ((R_pre 1 rfl) w hm)) w hm) (R_ext hg0.ext w hm) (R_ext hg1.ext w hm) (R_ext hg2.ext w hm)) rfl rfl) (Wt.plain rfl) ?_
      rintro _ _ ⟨_, _, ⟨rfl, rfl⟩, rfl, rfl⟩
      change (_ : List Blk → Prop) [_, _]
      refine T.eff (e_storeA (wide_ints wd62 (by first | omega | (simp; done) | (simp [-List.getD_eq_getElem?_getD]; omega) | (simp at *; omega) | rfl)) 0 rfl rfl rfl rfl (by first | omega | (simp; done) | (simp [-List.getD_eq_getElem?_getD]; omega) | (simp at *; omega) | rfl) ints_one rfl) (Wt.plain rfl) ?_
      rintro _ _ ⟨rfl, rfl⟩
      change (_ : List Blk → Prop) [_, _]
      refine T.nil ?_
      refine Ex.next ?_
      refine W.slots (L' := [(1, _), (8, _), (9, _), (10, _)]) ⟨rfl, rfl, rfl, rfl, trivial⟩ ?_
      refine W.region ?_
      refine T.q (q_move rfl rfl) (Wt.plain rfl) rfl rfl ?_
      refine T.q (q_sl sc22 64 l2 c2 rfl rfl ⟨_, _, rfl, rfl⟩ rfl rfl (by first | omega | (simp; done) | (simp [-List.getD_eq_getElem?_getD]; omega)) (by first | omega | (simp; done) | (simp [-List.getD_eq_getElem?_getD]; omega)) (by first | omega | (simp; done) | (simp [-List.getD_eq_getElem?_getD]; omega)) (by simp)) (Wt.plain rfl) rfl rfl ?_
      refine T.q (q_assign rfl rfl) (Wt.plain rfl) rfl rfl ?_
      refine T.nil ?_
      refine Ex.in_normal ?_
      exact Ex.again [true, true] (⟨j + 1, cut A2 c2 64, (l2 - 64), (c2 - 64)⟩ : Nat × Option Addr × Nat × Nat) (by dsimp only; omega) ⟨by dsimp only; omega, by dsimp only; omega, .inr (by dsimp only; omega), fun w h => by dsimp only; rw [show 64 * (j + 1) = 64 * j + 64 by omega, ← List.drop_drop, ← ints_drop]; exact (hRA w h).cut (by rw [ints_length, List.length_drop]; omega)⟩ ⟨rfl, rfl, rfl, rfl, trivial⟩ (by first | (dsimp only [pick]; done) | rfl)
    · replace hb8 := of_decide_eq_false hb8
      have hJ : j = lastj (full key b).length := by unfold lastj; omega
      refine W.exit ?_
      refine Ex.then_exit ?_
      refine Ex.then_exit ?_
      refine Ex.in_here ?_
      refine Ex.next ?_
      refine W.slots (L' := [(1, _), (8, _), (9, _), (10, _)]) ⟨rfl, rfl, rfl, rfl, trivial⟩ ?_
      refine W.seq ?_
      refine W.region ?_
      refine T.eff (e_alloc ze66 rfl rfl rfl) (Wt.plain rfl) ?_
      rintro _ _ ⟨k9, rfl, rfl⟩
      change (_ : List Blk → Prop) [_, _, _]
      refine T.nil ?_
      refine Ex.next ?_
      refine W.slots (L' := [(1, _), (8, _), (9, _), (10, _), (11, _)]) ⟨rfl, rfl, rfl, rfl, rfl, trivial⟩ ?_
      refine W.seq ?_
      refine W.region ?_
      refine T.q (q_slAll ar66 rfl rfl) (Wt.plain rfl) rfl rfl ?_
      refine T.q (q_move rfl rfl) (Wt.plain rfl) rfl rfl ?_
      refine T.eff (e_copyI sc22 2 (List.replicate 64 0) ((full key b).drop (64 * j)) (fun w hm => hRA w ((R_pre 1 rfl) w hm)) rfl rfl rfl rfl (by first | omega | (simp; done) | (simp [-List.getD_eq_getElem?_getD]; omega) | (simp at *; omega) | rfl) (by first | omega | (simp; done) | (simp [-List.getD_eq_getElem?_getD]; omega)) (by first | omega | (simp; done) | (simp [-List.getD_eq_getElem?_getD]; omega)) rfl rfl) (Wt.plain rfl) ?_
      rintro _ _ ⟨rfl, rfl⟩
      change (_ : List Blk → Prop) [_, _, _]
      refine T.nil ?_
      refine Ex.next ?_
      refine W.slots (L' := [(1, _), (8, _), (9, _), (10, _), (11, _)]) ⟨rfl, rfl, rfl, rfl, rfl, trivial⟩ ?_
      refine W.seq ?_
      refine W.draw 8 (by kernel_rfl) ?_
      refine D.take 0 rfl (by kernel_rfl) (fun _ h => h) (q_loadW (wide_ints wd62 (by first | omega | (simp; done) | (simp [-List.getD_eq_getElem?_getD]; omega) | (simp at *; omega) | rfl)) (R_blk 0 rfl) rfl rfl) (Wt.plain rfl) rfl rfl ?_
      refine D.take 1 rfl (by kernel_rfl) (fun _ h => h) (q_slAll ar66 rfl rfl) (Wt.plain rfl) rfl rfl ?_
      refine D.take 2 rfl (by kernel_rfl) (fun _ h => h) (q_move rfl rfl) (Wt.plain rfl) rfl rfl ?_
      refine D.take 3 rfl (by kernel_rfl) (fun _ h => h) (q_move rfl rfl) (Wt.plain rfl) rfl rfl ?_
      refine D.take 4 rfl (by kernel_rfl) (fun _ h => h) (q_len sc22 rfl rfl) (Wt.plain rfl) rfl rfl ?_
      refine D.take 5 rfl (by kernel_rfl) (fun _ h => h) (q_conv un3 un64 rfl rfl) (Wt.plain rfl) rfl rfl ?_
      refine D.take 6 rfl (by kernel_rfl) (fun _ h => h) (q_int (b := (((full key b).length : Nat) : Int)) (q_add rfl rfl rfl) ?hE) (Wt.plain rfl) rfl rfl ?_
      case hE => simp [IntKind.wrap, IntKind.bits, IntKind.signed]; omega
      refine D.one 7 (by kernel_rfl) ?_
      refine Up.eff rfl (e_call enters49 rfl rfl (fun w hm => press_spec (absorb (sumH0 key.length ((s : Nat) : Int)) (full key b) j) ((full key b).drop (64 * j) ++ (List.replicate 64 0).drop l2) (((full key b).length : Nat) : Int) true _ _ _ (by simp) (by first | (simp; done) | (simp; omega)) (by first | omega | (simp; omega)) w ((R_blk 2 rfl) w hm) (R_ext hg0.ext w hm) (R_ext hg1.ext w hm) (R_ext hg2.ext w hm)) rfl rfl) (Wt.plain rfl) ?_
      rintro _ _ ⟨_, _, ⟨rfl, rfl⟩, rfl, rfl⟩
      refine ⟨fun _ => (fun _ h => h), ?_⟩
      change (_ : List Blk → Prop) [_, _, _]
      refine D.one 8 (by kernel_rfl) ?_
      refine Up.eff rfl (e_storeA (wide_ints wd62 (by first | omega | (simp; done) | (simp [-List.getD_eq_getElem?_getD]; omega) | (simp at *; omega) | rfl)) 0 rfl rfl rfl rfl (by first | omega | (simp; done) | (simp [-List.getD_eq_getElem?_getD]; omega) | (simp at *; omega) | rfl) ints_one rfl) (Wt.plain rfl) ?_
      rintro _ _ ⟨rfl, rfl⟩
      refine ⟨fun h => absurd h (by decide), ?_⟩
      change (_ : List Blk → Prop) [_, _, _]
      conv => rhs; rw [show pressS (absorb (sumH0 key.length ((s : Nat) : Int)) (full key b) j) ((full key b).drop (64 * j) ++ (List.replicate 64 0).drop l2) (((full key b).length : Nat) : Int) true = digest (sumH0 key.length ((s : Nat) : Int)) (full key b) by rw [digest, ← hJ, show (full key b).length - 64 * j = l2 by omega]]
      refine D.done (by kernel_rfl) ?_
      refine Ex.next ?_
      refine W.less (L' := [(1, _), (8, _)]) [true, true, false] ⟨rfl, rfl, trivial⟩ ?_
      change (_ : List Blk → Prop) [_, _]
      refine W.seq ?_
      refine W.region ?_
      refine T.eff (e_alloc ze28 rfl rfl rfl) (Wt.plain rfl) ?_
      rintro _ _ ⟨k10, rfl, rfl⟩
      change (_ : List Blk → Prop) [_, _, _]
      refine T.nil ?_
      refine Ex.next ?_
      refine W.slots (L' := [(1, _), (8, _), (12, _)]) ⟨rfl, rfl, rfl, trivial⟩ ?_
      refine W.seq ?_
      refine W.seq ?_
      refine W.region ?_
      refine T.q (q_move rfl rfl) (Wt.plain rfl) rfl rfl ?_
      refine T.nil ?_
      refine Ex.next ?_
      refine W.slots (L' := [(1, _), (8, _), (12, _), (74, _)]) ⟨rfl, rfl, rfl, rfl, trivial⟩ ?_
      refine W.block ?_
      refine W.loop (α := Nat) (fun i => [(1, .int .i64 ((s : Nat) : Int)), (8, .pointer (some ⟨k1, 0, none⟩)), (12, .pointer (some ⟨k10, 0, none⟩)), (74, .int .i64 ((i : Nat) : Int))]) (fun i => [⟨some k1, ints .u32 (digest (sumH0 key.length ((s : Nat) : Int)) (full key b)), 62, (0, 0)⟩, ⟨some k4, ints .u8 (kpad key ++ b) ++ junk6, 5, (0, 0)⟩, ⟨some k10, ints .u8 (fillAt (fun q => q) (outB (digest (sumH0 key.length ((s : Nat) : Int)) (full key b))) i (List.replicate 32 0)), 28, (0, 0)⟩]) (fun i => i ≤ 32) (fun i => 32 - i) [true, true, true] 0 (by omega) ⟨rfl, rfl, rfl, rfl, trivial⟩ rfl ?_
      rintro i hi
      refine W.seq ?_
      refine W.region ?_
      refine T.q (q_lss rfl rfl rfl) (Wt.plain rfl) rfl rfl ?_
      refine T.nil ?_
      refine Ex.next ?_
      refine W.slots (L' := [(1, _), (8, _), (12, _), (74, _), (75, _)]) ⟨rfl, rfl, rfl, rfl, rfl, trivial⟩ ?_
      refine W.seq ?_
      refine W.cond _ rfl (fun hb11 => ?_) (fun hb11 => ?_)
      · replace hb11 := of_decide_eq_true hb11
        refine W.skip ?_
        refine Ex.next ?_
        refine W.slots (L' := [(1, _), (8, _), (12, _), (74, _)]) ⟨rfl, rfl, rfl, rfl, trivial⟩ ?_
        refine W.seq ?_
        refine W.block ?_
        refine W.seq ?_
        refine W.region ?_
        refine T.q (q_move rfl rfl) (Wt.plain rfl) rfl rfl ?_
        refine T.q (q_assign rfl rfl) (Wt.plain rfl) rfl rfl ?_
        refine T.nil ?_
        refine Ex.next ?_
        refine W.slots (L' := [(1, _), (8, _), (12, _), (13, _), (74, _)]) ⟨rfl, rfl, rfl, rfl, rfl, trivial⟩ ?_
        refine W.region ?_
        refine T.q (q_move rfl rfl) (Wt.plain rfl) rfl rfl ?_
        refine T.q (q_move rfl rfl) (Wt.plain rfl) rfl rfl ?_
        refine T.q (q_quo rfl rfl rfl (by omega) (by omega) (by decide)) (Wt.plain rfl) rfl rfl ?_
        refine T.q (q_ixA0 ar62 (i / 4) rfl rfl rfl (by omega) (by omega)) (Wt.plain rfl) rfl rfl ?_
        refine T.q (q_loadI ss61 0 rfl rfl rfl (by first | omega | (simp; done) | (simp [-List.getD_eq_getElem?_getD]; omega))) (Wt.plain rfl) rfl rfl ?_
        refine T.q (q_move rfl rfl) (Wt.plain rfl) rfl rfl ?_
        refine T.q (q_rem rfl rfl rfl (by omega) (by decide)) (Wt.plain rfl) rfl rfl ?_
        refine T.q (q_muli rfl rfl rfl (by omega) (by omega)) (Wt.plain rfl) rfl rfl ?_
        refine T.q (q_shr rfl rfl rfl (by omega)) (Wt.plain rfl) rfl rfl ?_
        refine T.q (q_conv un61 un5 rfl rfl) (Wt.plain rfl) rfl rfl ?_
        refine T.q (q_ixA0 ar28 i rfl rfl rfl (by omega) (by omega)) (Wt.plain rfl) rfl rfl ?_
        refine T.eff (e_storeI ss5 2 rfl rfl rfl rfl (by first | omega | (simp; done) | (simp [-List.getD_eq_getElem?_getD]; omega)) rfl) (Wt.plain rfl) ?_
        rintro _ _ ⟨rfl, rfl⟩
        change (_ : List Blk → Prop) [_, _, _]
        refine T.nil ?_
        refine Ex.in_normal ?_
        refine Ex.next ?_
        refine W.slots (L' := [(1, _), (8, _), (12, _), (74, _)]) ⟨rfl, rfl, rfl, rfl, trivial⟩ ?_
        refine W.region ?_
        refine T.q (q_addi rfl rfl rfl (by omega) (by omega)) (Wt.plain rfl) rfl rfl ?_
        refine T.q (q_move rfl rfl) (Wt.plain rfl) rfl rfl ?_
        refine T.nil ?_
        exact Ex.again [true, true, true] (i + 1) (by omega) (by omega) ⟨rfl, rfl, rfl, rfl, trivial⟩ rfl
      · replace hb11 := of_decide_eq_false hb11
        obtain rfl : i = 32 := by omega
        refine W.exit ?_
        refine Ex.then_exit ?_
        refine Ex.then_exit ?_
        refine Ex.in_here ?_
        refine Ex.next ?_
        refine W.less (L' := [(1, _), (12, _)]) [false, true, true] ⟨rfl, rfl, trivial⟩ ?_
        change (_ : List Blk → Prop) [_, _]
        refine W.seq ?_
        refine W.region ?_
        refine T.q (q_move rfl rfl) (Wt.plain rfl) rfl rfl ?_
        refine T.q (q_move rfl rfl) (Wt.plain rfl) rfl rfl ?_
        refine T.q (q_slA ar28 0 s s rfl rfl rfl ⟨_, _, rfl, by omega⟩ ⟨_, _, rfl, by omega⟩ (by first | omega | (simp; done) | (simp [-List.getD_eq_getElem?_getD]; omega)) (by first | omega | (simp; done) | (simp [-List.getD_eq_getElem?_getD]; omega)) (by first | omega | (simp; done) | (simp [-List.getD_eq_getElem?_getD]; omega)) (by simp)) (Wt.plain rfl) rfl rfl ?_
        refine T.q (q_assign rfl rfl) (Wt.plain rfl) rfl rfl ?_
        refine T.q (q_assign rfl rfl) (Wt.plain rfl) rfl rfl ?_
        refine T.nil ?_
        refine Ex.next ?_
        refine W.slots (L' := [(6, _), (7, _)]) ⟨rfl, rfl, trivial⟩ ?_
        refine W.ret ?_
        refine Ex.out2 [false, true] rfl rfl rfl ?_
        exact ⟨_, _, ints .u8 ((out32 (digest (sumH0 key.length ((s : Nat) : Int)) (full key b))).drop s), _, by rw [cut_zero]; rfl, by rw [sumS, ← ints_append, List.take_append_drop, out32, ← fillAt_all]; dsimp only [pick]⟩
  · replace hb2 := of_decide_eq_false hb2
    have hkn : full key b = b := by rw [full, kpad_nil (by omega)]; rfl
    have hfl : (full key b).length = b.length := by rw [hkn]
    refine W.skip ?_
    refine Ex.next ?_
    refine W.slots (L' := [(1, _), (8, _), (9, _)]) ⟨rfl, rfl, rfl, trivial⟩ ?_
    refine W.seq ?_
    refine W.region ?_
    refine T.q (q_assign rfl rfl) (Wt.plain rfl) rfl rfl ?_
    refine T.nil ?_
    refine Ex.next ?_
    refine W.slots (L' := [(1, _), (8, _), (9, _), (10, _)]) ⟨rfl, rfl, rfl, rfl, trivial⟩ ?_
    refine W.seq ?_
    refine W.block ?_
    refine W.loop (α := Nat × Option Addr × Nat × Nat) (fun x_ => [(1, .int .i64 ((s : Nat) : Int)), (8, .pointer (some ⟨k1, 0, none⟩)), (9, .slice x_.2.1 x_.2.2.1 x_.2.2.2), (10, .int .u64 ((64 * x_.1 : Nat) : Int))]) (fun x_ => [⟨some k1, ints .u32 (absorb (sumH0 key.length ((s : Nat) : Int)) (full key b) x_.1), 62, (0, 0)⟩]) (fun x_ => 64 * x_.1 + x_.2.2.1 = (full key b).length ∧ x_.2.2.1 ≤ x_.2.2.2 ∧ (x_.1 = 0 ∨ 0 < x_.2.2.1) ∧ ∀ w, Reads w (BA) (ints .u8 (full key b)) → Reads w x_.2.1 (ints .u8 ((full key b).drop (64 * x_.1)))) (fun x_ => x_.2.2.1) [true] (⟨0, BA, b.length, bc⟩) ⟨by dsimp only; omega, by dsimp only; first | omega | (simp at *; omega), .inl rfl, fun w h => h⟩ ⟨rfl, rfl, rfl, rfl, trivial⟩ rfl ?_
    rintro ⟨j, A2, l2, c2⟩ ⟨hjl, hlc, hj0, hRA⟩
    conv => rhs; dsimp only
    conv => arg -2; dsimp only
    dsimp only at hjl hlc hj0 hRA
    refine W.seq ?_
    refine W.seq ?_
    refine W.region ?_
    refine T.q (q_move rfl rfl) (Wt.plain rfl) rfl rfl ?_
    refine T.q (q_len sc22 rfl rfl) (Wt.plain rfl) rfl rfl ?_
    refine T.q (q_gtr rfl rfl rfl) (Wt.plain rfl) rfl rfl ?_
    refine T.nil ?_
    refine Ex.next ?_
    refine W.slots (L' := [(1, _), (8, _), (9, _), (10, _), (54, _)]) ⟨rfl, rfl, rfl, rfl, rfl, trivial⟩ ?_
    refine W.cond _ rfl (fun hb12 => ?_) (fun hb12 => ?_)
    · replace hb12 := of_decide_eq_true hb12
      refine W.skip ?_
      refine Ex.next ?_
      refine W.slots (L' := [(1, _), (8, _), (9, _), (10, _)]) ⟨rfl, rfl, rfl, rfl, trivial⟩ ?_
      refine W.block ?_
      refine W.seq ?_
      refine W.region ?_
      refine T.q (q_move rfl rfl) (Wt.plain rfl) rfl rfl ?_
      refine T.q (q_int (b := ((64 * (j + 1) : Nat) : Int)) (q_add rfl rfl rfl) ?hE) (Wt.plain rfl) rfl rfl ?_
      case hE => simp [IntKind.wrap, IntKind.bits, IntKind.signed]; omega
      refine T.q (q_assign rfl rfl) (Wt.plain rfl) rfl rfl ?_
      refine T.nil ?_
      refine Ex.next ?_
      refine W.slots (L' := [(1, _), (8, _), (9, _), (10, _)]) ⟨rfl, rfl, rfl, rfl, trivial⟩ ?_
      refine W.seq ?_
      refine W.region ?_
      refine T.q (q_loadW (wide_ints wd62 (by first | omega | (simp; done) | (simp [-List.getD_eq_getElem?_getD]; omega) | (simp at *; omega) | rfl)) (R_blk 0 rfl) rfl rfl) (Wt.plain rfl) rfl rfl ?_
      refine T.q (q_move rfl rfl) (Wt.plain rfl) rfl rfl ?_
      refine T.q (q_move rfl rfl) (Wt.plain rfl) rfl rfl ?_
      refine T.eff (e_call enters49 rfl rfl (fun w hm => press_spec (absorb (sumH0 key.length ((s : Nat) : Int)) (full key b) j) ((full key b).drop (64 * j)) ((64 * (j + 1) : Nat) : Int) false _ _ _ (by simp) (by first | (simp; done) | (simp; omega)) (by first | omega | (simp; omega)) w ((fun w hm => hRA w (by rw [hkn]; exact R_ext hB.ext w hm)) w hm) (R_ext hg0.ext w hm) (R_ext hg1.ext w hm) (R_ext hg2.ext w hm)) rfl rfl) (Wt.plain rfl) ?_
      rintro _ _ ⟨_, _, ⟨rfl, rfl⟩, rfl, rfl⟩
      change (_ : List Blk → Prop) [_]
      refine T.eff (e_storeA (wide_ints wd62 (by first | omega | (simp; done) | (simp [-List.getD_eq_getElem?_getD]; omega) | (simp at *; omega) | rfl)) 0 rfl rfl rfl rfl (by first | omega | (simp; done) | (simp [-List.getD_eq_getElem?_getD]; omega) | (simp at *; omega) | rfl) ints_one rfl) (Wt.plain rfl) ?_
      rintro _ _ ⟨rfl, rfl⟩
      change (_ : List Blk → Prop) [_]
      refine T.nil ?_
      refine Ex.next ?_
      refine W.slots (L' := [(1, _), (8, _), (9, _), (10, _)]) ⟨rfl, rfl, rfl, rfl, trivial⟩ ?_
      refine W.region ?_
      refine T.q (q_move rfl rfl) (Wt.plain rfl) rfl rfl ?_
      refine T.q (q_sl sc22 64 l2 c2 rfl rfl ⟨_, _, rfl, rfl⟩ rfl rfl (by first | omega | (simp; done) | (simp [-List.getD_eq_getElem?_getD]; omega)) (by first | omega | (simp; done) | (simp [-List.getD_eq_getElem?_getD]; omega)) (by first | omega | (simp; done) | (simp [-List.getD_eq_getElem?_getD]; omega)) (by simp)) (Wt.plain rfl) rfl rfl ?_
      refine T.q (q_assign rfl rfl) (Wt.plain rfl) rfl rfl ?_
      refine T.nil ?_
      refine Ex.in_normal ?_
      exact Ex.again [true] (⟨j + 1, cut A2 c2 64, (l2 - 64), (c2 - 64)⟩ : Nat × Option Addr × Nat × Nat) (by dsimp only; omega) ⟨by dsimp only; omega, by dsimp only; omega, .inr (by dsimp only; omega), fun w h => by dsimp only; rw [show 64 * (j + 1) = 64 * j + 64 by omega, ← List.drop_drop, ← ints_drop]; exact (hRA w h).cut (by rw [ints_length, List.length_drop]; omega)⟩ ⟨rfl, rfl, rfl, rfl, trivial⟩ (by first | (dsimp only [pick]; done) | rfl)
    · replace hb12 := of_decide_eq_false hb12
      have hJ : j = lastj (full key b).length := by unfold lastj; omega
      refine W.exit ?_
      refine Ex.then_exit ?_
      refine Ex.then_exit ?_
      refine Ex.in_here ?_
      refine Ex.next ?_
      refine W.slots (L' := [(1, _), (8, _), (9, _), (10, _)]) ⟨rfl, rfl, rfl, rfl, trivial⟩ ?_
      refine W.seq ?_
      refine W.region ?_
      refine T.eff (e_alloc ze66 rfl rfl rfl) (Wt.plain rfl) ?_
      rintro _ _ ⟨k13, rfl, rfl⟩
      change (_ : List Blk → Prop) [_, _]
      refine T.nil ?_
      refine Ex.next ?_
      refine W.slots (L' := [(1, _), (8, _), (9, _), (10, _), (11, _)]) ⟨rfl, rfl, rfl, rfl, rfl, trivial⟩ ?_
      refine W.seq ?_
      refine W.region ?_
      refine T.q (q_slAll ar66 rfl rfl) (Wt.plain rfl) rfl rfl ?_
      refine T.q (q_move rfl rfl) (Wt.plain rfl) rfl rfl ?_
      refine T.eff (e_copyI sc22 1 (List.replicate 64 0) ((full key b).drop (64 * j)) (fun w hm => hRA w (by rw [hkn]; exact R_ext hB.ext w hm)) rfl rfl rfl rfl (by first | omega | (simp; done) | (simp [-List.getD_eq_getElem?_getD]; omega) | (simp at *; omega) | rfl) (by first | omega | (simp; done) | (simp [-List.getD_eq_getElem?_getD]; omega)) (by first | omega | (simp; done) | (simp [-List.getD_eq_getElem?_getD]; omega)) rfl rfl) (Wt.plain rfl) ?_
      rintro _ _ ⟨rfl, rfl⟩
      change (_ : List Blk → Prop) [_, _]
      refine T.nil ?_
      refine Ex.next ?_
      refine W.slots (L' := [(1, _), (8, _), (9, _), (10, _), (11, _)]) ⟨rfl, rfl, rfl, rfl, rfl, trivial⟩ ?_
      refine W.seq ?_
      refine W.draw 8 (by kernel_rfl) ?_
      refine D.take 0 rfl (by kernel_rfl) (fun _ h => h) (q_loadW (wide_ints wd62 (by first | omega | (simp; done) | (simp [-List.getD_eq_getElem?_getD]; omega) | (simp at *; omega) | rfl)) (R_blk 0 rfl) rfl rfl) (Wt.plain rfl) rfl rfl ?_
      refine D.take 1 rfl (by kernel_rfl) (fun _ h => h) (q_slAll ar66 rfl rfl) (Wt.plain rfl) rfl rfl ?_
      refine D.take 2 rfl (by kernel_rfl) (fun _ h => h) (q_move rfl rfl) (Wt.plain rfl) rfl rfl ?_
      refine D.take 3 rfl (by kernel_rfl) (fun _ h => h) (q_move rfl rfl) (Wt.plain rfl) rfl rfl ?_
      refine D.take 4 rfl (by kernel_rfl) (fun _ h => h) (q_len sc22 rfl rfl) (Wt.plain rfl) rfl rfl ?_
      refine D.take 5 rfl (by kernel_rfl) (fun _ h => h) (q_conv un3 un64 rfl rfl) (Wt.plain rfl) rfl rfl ?_
      refine D.take 6 rfl (by kernel_rfl) (fun _ h => h) (q_int (b := (((full key b).length : Nat) : Int)) (q_add rfl rfl rfl) ?hE) (Wt.plain rfl) rfl rfl ?_
      case hE => simp [IntKind.wrap, IntKind.bits, IntKind.signed]; omega
      refine D.one 7 (by kernel_rfl) ?_
      refine Up.eff rfl (e_call enters49 rfl rfl (fun w hm => press_spec (absorb (sumH0 key.length ((s : Nat) : Int)) (full key b) j) ((full key b).drop (64 * j) ++ (List.replicate 64 0).drop l2) (((full key b).length : Nat) : Int) true _ _ _ (by simp) (by first | (simp; done) | (simp; omega)) (by first | omega | (simp; omega)) w ((R_blk 1 rfl) w hm) (R_ext hg0.ext w hm) (R_ext hg1.ext w hm) (R_ext hg2.ext w hm)) rfl rfl) (Wt.plain rfl) ?_
      rintro _ _ ⟨_, _, ⟨rfl, rfl⟩, rfl, rfl⟩
      refine ⟨fun _ => (fun _ h => h), ?_⟩
      change (_ : List Blk → Prop) [_, _]
      refine D.one 8 (by kernel_rfl) ?_
      refine Up.eff rfl (e_storeA (wide_ints wd62 (by first | omega | (simp; done) | (simp [-List.getD_eq_getElem?_getD]; omega) | (simp at *; omega) | rfl)) 0 rfl rfl rfl rfl (by first | omega | (simp; done) | (simp [-List.getD_eq_getElem?_getD]; omega) | (simp at *; omega) | rfl) ints_one rfl) (Wt.plain rfl) ?_
      rintro _ _ ⟨rfl, rfl⟩
      refine ⟨fun h => absurd h (by decide), ?_⟩
      change (_ : List Blk → Prop) [_, _]
      conv => rhs; rw [show pressS (absorb (sumH0 key.length ((s : Nat) : Int)) (full key b) j) ((full key b).drop (64 * j) ++ (List.replicate 64 0).drop l2) (((full key b).length : Nat) : Int) true = digest (sumH0 key.length ((s : Nat) : Int)) (full key b) by rw [digest, ← hJ, show (full key b).length - 64 * j = l2 by omega]]
      refine D.done (by kernel_rfl) ?_
      refine Ex.next ?_
      refine W.less (L' := [(1, _), (8, _)]) [true, false] ⟨rfl, rfl, trivial⟩ ?_
      change (_ : List Blk → Prop) [_]
      refine W.seq ?_
      refine W.region ?_
      refine T.eff (e_alloc ze28 rfl rfl rfl) (Wt.plain rfl) ?_
      rintro _ _ ⟨k14, rfl, rfl⟩
      change (_ : List Blk → Prop) [_, _]
      refine T.nil ?_
      refine Ex.next ?_
      refine W.slots (L' := [(1, _), (8, _), (12, _)]) ⟨rfl, rfl, rfl, trivial⟩ ?_
      refine W.seq ?_
      refine W.seq ?_
      refine W.region ?_
      refine T.q (q_move rfl rfl) (Wt.plain rfl) rfl rfl ?_
      refine T.nil ?_
      refine Ex.next ?_
      refine W.slots (L' := [(1, _), (8, _), (12, _), (74, _)]) ⟨rfl, rfl, rfl, rfl, trivial⟩ ?_
      refine W.block ?_
      refine W.loop (α := Nat) (fun i => [(1, .int .i64 ((s : Nat) : Int)), (8, .pointer (some ⟨k1, 0, none⟩)), (12, .pointer (some ⟨k14, 0, none⟩)), (74, .int .i64 ((i : Nat) : Int))]) (fun i => [⟨some k1, ints .u32 (digest (sumH0 key.length ((s : Nat) : Int)) (full key b)), 62, (0, 0)⟩, ⟨some k14, ints .u8 (fillAt (fun q => q) (outB (digest (sumH0 key.length ((s : Nat) : Int)) (full key b))) i (List.replicate 32 0)), 28, (0, 0)⟩]) (fun i => i ≤ 32) (fun i => 32 - i) [true, true] 0 (by omega) ⟨rfl, rfl, rfl, rfl, trivial⟩ rfl ?_
      rintro i hi
      refine W.seq ?_
      refine W.region ?_
      refine T.q (q_lss rfl rfl rfl) (Wt.plain rfl) rfl rfl ?_
      refine T.nil ?_
      refine Ex.next ?_
      refine W.slots (L' := [(1, _), (8, _), (12, _), (74, _), (75, _)]) ⟨rfl, rfl, rfl, rfl, rfl, trivial⟩ ?_
      refine W.seq ?_
      refine W.cond _ rfl (fun hb15 => ?_) (fun hb15 => ?_)
      · replace hb15 := of_decide_eq_true hb15
        refine W.skip ?_
        refine Ex.next ?_
        refine W.slots (L' := [(1, _), (8, _), (12, _), (74, _)]) ⟨rfl, rfl, rfl, rfl, trivial⟩ ?_
        refine W.seq ?_
        refine W.block ?_
        refine W.seq ?_
        refine W.region ?_
        refine T.q (q_move rfl rfl) (Wt.plain rfl) rfl rfl ?_
        refine T.q (q_assign rfl rfl) (Wt.plain rfl) rfl rfl ?_
        refine T.nil ?_
        refine Ex.next ?_
        refine W.slots (L' := [(1, _), (8, _), (12, _), (13, _), (74, _)]) ⟨rfl, rfl, rfl, rfl, rfl, trivial⟩ ?_
        refine W.region ?_
        refine T.q (q_move rfl rfl) (Wt.plain rfl) rfl rfl ?_
        refine T.q (q_move rfl rfl) (Wt.plain rfl) rfl rfl ?_
        refine T.q (q_quo rfl rfl rfl (by omega) (by omega) (by decide)) (Wt.plain rfl) rfl rfl ?_
        refine T.q (q_ixA0 ar62 (i / 4) rfl rfl rfl (by omega) (by omega)) (Wt.plain rfl) rfl rfl ?_
        refine T.q (q_loadI ss61 0 rfl rfl rfl (by first | omega | (simp; done) | (simp [-List.getD_eq_getElem?_getD]; omega))) (Wt.plain rfl) rfl rfl ?_
        refine T.q (q_move rfl rfl) (Wt.plain rfl) rfl rfl ?_
        refine T.q (q_rem rfl rfl rfl (by omega) (by decide)) (Wt.plain rfl) rfl rfl ?_
        refine T.q (q_muli rfl rfl rfl (by omega) (by omega)) (Wt.plain rfl) rfl rfl ?_
        refine T.q (q_shr rfl rfl rfl (by omega)) (Wt.plain rfl) rfl rfl ?_
        refine T.q (q_conv un61 un5 rfl rfl) (Wt.plain rfl) rfl rfl ?_
        refine T.q (q_ixA0 ar28 i rfl rfl rfl (by omega) (by omega)) (Wt.plain rfl) rfl rfl ?_
        refine T.eff (e_storeI ss5 1 rfl rfl rfl rfl (by first | omega | (simp; done) | (simp [-List.getD_eq_getElem?_getD]; omega)) rfl) (Wt.plain rfl) ?_
        rintro _ _ ⟨rfl, rfl⟩
        change (_ : List Blk → Prop) [_, _]
        refine T.nil ?_
        refine Ex.in_normal ?_
        refine Ex.next ?_
        refine W.slots (L' := [(1, _), (8, _), (12, _), (74, _)]) ⟨rfl, rfl, rfl, rfl, trivial⟩ ?_
        refine W.region ?_
        refine T.q (q_addi rfl rfl rfl (by omega) (by omega)) (Wt.plain rfl) rfl rfl ?_
        refine T.q (q_move rfl rfl) (Wt.plain rfl) rfl rfl ?_
        refine T.nil ?_
        exact Ex.again [true, true] (i + 1) (by omega) (by omega) ⟨rfl, rfl, rfl, rfl, trivial⟩ rfl
      · replace hb15 := of_decide_eq_false hb15
        obtain rfl : i = 32 := by omega
        refine W.exit ?_
        refine Ex.then_exit ?_
        refine Ex.then_exit ?_
        refine Ex.in_here ?_
        refine Ex.next ?_
        refine W.less (L' := [(1, _), (12, _)]) [false, true] ⟨rfl, rfl, trivial⟩ ?_
        change (_ : List Blk → Prop) [_]
        refine W.seq ?_
        refine W.region ?_
        refine T.q (q_move rfl rfl) (Wt.plain rfl) rfl rfl ?_
        refine T.q (q_move rfl rfl) (Wt.plain rfl) rfl rfl ?_
        refine T.q (q_slA ar28 0 s s rfl rfl rfl ⟨_, _, rfl, by omega⟩ ⟨_, _, rfl, by omega⟩ (by first | omega | (simp; done) | (simp [-List.getD_eq_getElem?_getD]; omega)) (by first | omega | (simp; done) | (simp [-List.getD_eq_getElem?_getD]; omega)) (by first | omega | (simp; done) | (simp [-List.getD_eq_getElem?_getD]; omega)) (by simp)) (Wt.plain rfl) rfl rfl ?_
        refine T.q (q_assign rfl rfl) (Wt.plain rfl) rfl rfl ?_
        refine T.q (q_assign rfl rfl) (Wt.plain rfl) rfl rfl ?_
        refine T.nil ?_
        refine Ex.next ?_
        refine W.slots (L' := [(6, _), (7, _)]) ⟨rfl, rfl, trivial⟩ ?_
        refine W.ret ?_
        refine Ex.out2 [true] rfl rfl rfl ?_
        exact ⟨_, _, ints .u8 ((out32 (digest (sumH0 key.length ((s : Nat) : Int)) (full key b))).drop s), _, by rw [cut_zero]; rfl, by rw [sumS, ← ints_append, List.take_append_drop, out32, ← fillAt_all]; dsimp only [pick]⟩

end Go.Proofs.YtkoomaoelekpaaaDoor
