/-
  The walks of layer 6: a text is hashed, by the reference.
-/
import Derived.Test.YtkoomaoelekpaaaDoorW3
import Derived.Test.YtkoomaoelekpaaaDoorPureC
namespace Go.Proofs.YtkoomaoelekpaaaDoor
open Go Go.X

set_option maxRecDepth 100000 in
set_option maxHeartbeats 2000000 in
theorem refsum_spec (key b : List Int) (KA BA : Option Addr) (kc bc : Nat) (_hkc : key.length ≤ kc) (_hbc : b.length ≤ bc) (hbl : b.length ≤ 140737488355000) (w0 : World) (hK : Reads w0 KA (ints .u8 key)) (hB : Reads w0 BA (ints .u8 b)) (s : Nat) (hs1 : 1 ≤ s) (hs2 : s ≤ 32) (hkl : key.length ≤ 32) : Does Tryd.prog 20 #[.slice KA key.length kc, .int .i64 ((s : Nat) : Int), .slice BA b.length bc] w0 [] (fun v G => ∃ (k cap : Nat) (junk : List Value) (ty : TypeId), v = .tuple #[.slice (some ⟨k, 0, none⟩) s cap, .int .i64 0] ∧ G = [⟨some k, ints .u8 (sumS key s b) ++ junk, ty, (0, 0)⟩]) := by
  refine spec_of 119 Tryd.func20 rfl rfl rfl ?_
  refine W.seq ?_
  refine W.region ?_
  refine T.q (q_assign rfl rfl) (Wt.plain rfl) rfl rfl ?_
  refine T.q (q_assign rfl rfl) (Wt.plain rfl) rfl rfl ?_
  refine T.nil ?_
  refine Ex.next ?_
  refine W.slots (L' := [(0, _), (1, _), (2, _)]) ⟨rfl, rfl, rfl, trivial⟩ ?_
  refine W.seq ?_
  refine W.seq ?_
  refine W.region ?_
  refine T.q (q_move rfl rfl) (Wt.plain rfl) rfl rfl ?_
  refine T.q (q_bool (b := false) (q_lss rfl rfl rfl) (decide_eq_false (by omega))) (Wt.plain rfl) rfl rfl ?_
  refine T.q (q_move rfl rfl) (Wt.plain rfl) rfl rfl ?_
  refine T.q (q_move rfl rfl) (Wt.yes rfl rfl rfl) rfl rfl ?_
  refine T.q (q_bool (b := false) (q_gtr rfl rfl rfl) (decide_eq_false (by omega))) (Wt.yes rfl rfl rfl) rfl rfl ?_
  refine T.q (q_pickF rfl rfl rfl) (Wt.plain rfl) rfl rfl ?_
  refine T.q (q_move rfl rfl) (Wt.plain rfl) rfl rfl ?_
  refine T.q (q_move rfl rfl) (Wt.yes rfl rfl rfl) rfl rfl ?_
  refine T.q (q_len sc22 rfl rfl) (Wt.yes rfl rfl rfl) rfl rfl ?_
  refine T.q (q_bool (b := false) (q_gtr rfl rfl rfl) (decide_eq_false (by omega))) (Wt.yes rfl rfl rfl) rfl rfl ?_
  refine T.q (q_pickF rfl rfl rfl) (Wt.plain rfl) rfl rfl ?_
  refine T.nil ?_
  refine Ex.next ?_
  refine W.slots (L' := [(0, _), (1, _), (2, _), (25, _)]) ⟨rfl, rfl, rfl, rfl, trivial⟩ ?_
  refine W.condF rfl ?_
  refine W.skip ?_
  refine Ex.next ?_
  refine W.slots (L' := [(0, _), (1, _), (2, _)]) ⟨rfl, rfl, rfl, trivial⟩ ?_
  refine W.seq ?_
  refine W.region ?_
  refine T.eff (e_call enters50 rfl rfl (fun w hm => start_spec w) rfl rfl) (Wt.plain rfl) ?_
  rintro _ _ ⟨_, _, ⟨k1, rfl, rfl⟩, rfl, rfl⟩
  change (_ : List Blk → Prop) [_]
  refine T.q (q_assign rfl rfl) (Wt.plain rfl) rfl rfl ?_
  refine T.nil ?_
  refine Ex.next ?_
  refine W.slots (L' := [(0, _), (1, _), (2, _), (8, _)]) ⟨rfl, rfl, rfl, rfl, trivial⟩ ?_
  refine W.seq ?_
  refine W.region ?_
  refine T.q (q_move rfl rfl) (Wt.plain rfl) rfl rfl ?_
  refine T.q (q_move rfl rfl) (Wt.plain rfl) rfl rfl ?_
  refine T.q (q_ixS0 sc67 0 rfl rfl rfl (rfl) (by omega)) (Wt.plain rfl) rfl rfl ?_
  refine T.q (q_loadI ss61 0 rfl rfl rfl (by first | omega | (simp; done) | (simp [-List.getD_eq_getElem?_getD]; omega))) (Wt.plain rfl) rfl rfl ?_
  refine T.q (q_xor rfl rfl rfl) (Wt.plain rfl) rfl rfl ?_
  refine T.q (q_move rfl rfl) (Wt.plain rfl) rfl rfl ?_
  refine T.q (q_len sc22 rfl rfl) (Wt.plain rfl) rfl rfl ?_
  refine T.q (q_muli rfl rfl rfl (by omega) (by omega)) (Wt.plain rfl) rfl rfl ?_
  refine T.q (q_conv un3 un61 rfl rfl) (Wt.plain rfl) rfl rfl ?_
  refine T.q (q_xor rfl rfl rfl) (Wt.plain rfl) rfl rfl ?_
  refine T.q (q_move rfl rfl) (Wt.plain rfl) rfl rfl ?_
  refine T.q (q_conv un3 un61 rfl rfl) (Wt.plain rfl) rfl rfl ?_
  refine T.q (q_xor rfl rfl rfl) (Wt.plain rfl) rfl rfl ?_
  refine T.q (q_ixS0 sc67 0 rfl rfl rfl (rfl) (by omega)) (Wt.plain rfl) rfl rfl ?_
  refine T.eff (e_storeI ss61 0 rfl rfl rfl rfl (by first | omega | (simp; done) | (simp [-List.getD_eq_getElem?_getD]; omega)) rfl) (Wt.plain rfl) ?_
  rintro _ _ ⟨rfl, rfl⟩
  change (_ : List Blk → Prop) [_]
  conv => rhs; rw [sumH0_ref key.length ((s : Nat) : Int) hkl]
  refine T.nil ?_
  refine Ex.next ?_
  refine W.slots (L' := [(0, _), (1, _), (2, _), (8, _)]) ⟨rfl, rfl, rfl, rfl, trivial⟩ ?_
  refine W.seq ?_
  refine W.region ?_
  refine T.eff (e_litA sc22 ze5 rfl rfl rfl (by simp [Value.cells]) rfl rfl rfl) (Wt.plain rfl) ?_
  rintro _ _ ⟨k2, rfl, rfl⟩
  change (_ : List Blk → Prop) [_, _]
  refine T.q (q_assign rfl rfl) (Wt.plain rfl) rfl rfl ?_
  refine T.nil ?_
  refine Ex.next ?_
  refine W.slots (L' := [(0, _), (1, _), (2, _), (8, _), (9, _)]) ⟨rfl, rfl, rfl, rfl, rfl, trivial⟩ ?_
  refine W.meet (α := Nat × Nat × List Value × List Int × Nat) (fun x_ => [(1, .int .i64 ((s : Nat) : Int)), (2, .slice BA b.length bc), (8, .slice (some ⟨k1, 0, none⟩) 8 8), (9, .slice (some ⟨x_.1, 0, none⟩) x_.2.2.2.2 x_.2.1)]) (fun x_ => [⟨some k1, ints .u32 (sumH0 key.length ((s : Nat) : Int)), 61, (0, 0)⟩, ⟨some x_.1, ints .u8 x_.2.2.2.1 ++ x_.2.2.1, 5, (0, 0)⟩]) (fun x_ => x_.2.2.2.1 = kpad key ∧ x_.2.2.2.1.length = x_.2.2.2.2 ∧ x_.2.2.2.2 + x_.2.2.1.length = x_.2.1) ?_ ?_
  ·
    refine W.seq ?_
    refine W.region ?_
    refine T.q (q_move rfl rfl) (Wt.plain rfl) rfl rfl ?_
    refine T.q (q_len sc22 rfl rfl) (Wt.plain rfl) rfl rfl ?_
    refine T.q (q_gtr rfl rfl rfl) (Wt.plain rfl) rfl rfl ?_
    refine T.nil ?_
    refine Ex.next ?_
    refine W.slots (L' := [(0, _), (1, _), (2, _), (8, _), (9, _), (44, _)]) ⟨rfl, rfl, rfl, rfl, rfl, rfl, trivial⟩ ?_
    refine W.cond _ rfl (fun hb3 => ?_) (fun hb3 => ?_)
    · replace hb3 := of_decide_eq_true hb3
      refine W.region ?_
      refine T.q (q_move rfl rfl) (Wt.plain rfl) rfl rfl ?_
      refine T.q (q_move rfl rfl) (Wt.plain rfl) rfl rfl ?_
      refine T.eff (e_appendI sc22 ze5 rfl 1 .u8 [] key [] ((List.append_nil _).symm) (R_ext hK.ext) rfl rfl rfl rfl (by first | omega | (simp; done) | (simp [-List.getD_eq_getElem?_getD]; omega) | (simp at *; omega) | rfl) (by first | omega | (simp; done) | (simp [-List.getD_eq_getElem?_getD]; omega) | (simp at *; omega) | rfl) (by first | omega | (simp; done) | (simp [-List.getD_eq_getElem?_getD]; omega) | (simp at *; omega) | rfl) (by first | omega | (simp; done) | (simp [-List.getD_eq_getElem?_getD]; omega)) (by first | omega | (simp; done) | (simp [-List.getD_eq_getElem?_getD]; omega)) rfl rfl) (Wt.plain rfl) ?_
      rintro _ _ ⟨k4, cap5, junk6, hc7, rfl, rfl⟩
      change (_ : List Blk → Prop) [_, _]
      refine T.q (q_move rfl rfl) (Wt.plain rfl) rfl rfl ?_
      refine T.q (q_len sc22 rfl rfl) (Wt.plain rfl) rfl rfl ?_
      refine T.q (q_subi rfl rfl rfl (by omega) (by omega)) (Wt.plain rfl) rfl rfl ?_
      refine T.eff (e_appendZ sc22 un3 ze5 1 ([] ++ key) junk6 (64 - key.length) (rfl) rfl rfl rfl (by omega) rfl (by first | omega | (simp; done) | (simp [-List.getD_eq_getElem?_getD]; omega) | (simp at *; omega) | rfl) (by first | omega | (simp; done) | (simp [-List.getD_eq_getElem?_getD]; omega) | (simp at *; omega) | rfl) (by first | omega | (simp; done) | (simp [-List.getD_eq_getElem?_getD]; omega)) (by first | omega | (simp; done) | (simp [-List.getD_eq_getElem?_getD]; omega)) rfl rfl) (Wt.plain rfl) ?_
      rintro _ _ ⟨k8, cap9, junk10, hc11, rfl, rfl⟩
      change (_ : List Blk → Prop) [_, _]
      refine T.q (q_assign rfl rfl) (Wt.plain rfl) rfl rfl ?_
      refine T.nil ?_
      exact Ex.met [true, true] (⟨k8, cap9, junk10, (([] ++ key) ++ List.replicate (64 - key.length) 0), ((0 + key.length) + (64 - key.length))⟩ : Nat × Nat × List Value × List Int × Nat) ⟨by dsimp only; rw [List.nil_append, kpad_some (by omega)], by dsimp only; simp, by dsimp only; simp at *; omega⟩ ⟨rfl, rfl, rfl, rfl, trivial⟩ (by first | (dsimp only [pick]; done) | rfl)
    · replace hb3 := of_decide_eq_false hb3
      refine W.skip ?_
      exact Ex.met [true, true] (⟨k2, 0, [], [], 0⟩ : Nat × Nat × List Value × List Int × Nat) ⟨(kpad_nil (by omega)).symm, rfl, rfl⟩ ⟨rfl, rfl, rfl, rfl, trivial⟩ (by first | (dsimp only [pick]; done) | rfl)
  ·
    rintro ⟨kk, cp, jj, zz, lz⟩ ⟨hz, hlz, hcp⟩
    conv => rhs; dsimp only
    conv => arg -2; dsimp only
    dsimp only at hz hlz hcp
    have hkl4 := kpad_le key hkl
    rw [← hz, hlz] at hkl4
    refine W.seq ?_
    refine W.region ?_
    refine T.q (q_move rfl rfl) (Wt.plain rfl) rfl rfl ?_
    refine T.q (q_move rfl rfl) (Wt.plain rfl) rfl rfl ?_
    refine T.eff (e_appendI sc22 ze5 rfl 1 .u8 zz b jj (rfl) (R_ext hB.ext) rfl rfl rfl rfl (by first | omega | (simp; done) | (simp [-List.getD_eq_getElem?_getD]; omega) | (simp at *; omega) | rfl) (by first | omega | (simp; done) | (simp [-List.getD_eq_getElem?_getD]; omega) | (simp at *; omega) | rfl) (by first | omega | (simp; done) | (simp [-List.getD_eq_getElem?_getD]; omega) | (simp at *; omega) | rfl) (by first | omega | (simp; done) | (simp [-List.getD_eq_getElem?_getD]; omega)) (by first | omega | (simp; done) | (simp [-List.getD_eq_getElem?_getD]; omega)) rfl rfl) (Wt.plain rfl) ?_
    rintro _ _ ⟨k12, cap13, junk14, hc15, rfl, rfl⟩
    change (_ : List Blk → Prop) [_, _]
    conv => rhs; rw [show (zz ++ b) = full key b by rw [full, hz]]
    have hfl : (full key b).length = lz + b.length := by rw [full, List.length_append, ← hz, hlz]
    refine T.q (q_assign rfl rfl) (Wt.plain rfl) rfl rfl ?_
    refine T.nil ?_
    refine Ex.next ?_
    refine W.slots (L' := [(1, _), (8, _), (9, _)]) ⟨rfl, rfl, rfl, trivial⟩ ?_
    refine W.seq ?_
    refine W.region ?_
    refine T.q (q_move rfl rfl) (Wt.plain rfl) rfl rfl ?_
    refine T.q (q_int (b := (((full key b).length : Nat) : Int)) (q_len sc22 rfl rfl) ?hE) (Wt.plain rfl) rfl rfl ?_
    case hE => rw [hfl]
    refine T.q (q_assign rfl rfl) (Wt.plain rfl) rfl rfl ?_
    refine T.nil ?_
    refine Ex.next ?_
    refine W.slots (L' := [(1, _), (8, _), (9, _), (10, _)]) ⟨rfl, rfl, rfl, rfl, trivial⟩ ?_
    refine W.meet (α := Nat × Nat × List Value × Nat) (fun x_ => [(1, .int .i64 ((s : Nat) : Int)), (8, .slice (some ⟨k1, 0, none⟩) 8 8), (9, .slice (some ⟨x_.1, 0, none⟩) (lz + b.length + x_.2.2.2) x_.2.1), (10, .int .i64 (((full key b).length : Nat) : Int))]) (fun x_ => [⟨some k1, ints .u32 (sumH0 key.length ((s : Nat) : Int)), 61, (0, 0)⟩, ⟨some x_.1, ints .u8 (full key b ++ List.replicate x_.2.2.2 0) ++ x_.2.2.1, 5, (0, 0)⟩]) (fun x_ => lz + b.length + x_.2.2.2 + x_.2.2.1.length = x_.2.1 ∧ lz + b.length + x_.2.2.2 = 64 * (lastj (full key b).length + 1)) ?_ ?_
    ·
      refine W.block ?_
      refine W.loop (α := Nat × Nat × List Value × Nat) (fun x_ => [(1, .int .i64 ((s : Nat) : Int)), (8, .slice (some ⟨k1, 0, none⟩) 8 8), (9, .slice (some ⟨x_.1, 0, none⟩) (lz + b.length + x_.2.2.2) x_.2.1), (10, .int .i64 (((full key b).length : Nat) : Int))]) (fun x_ => [⟨some k1, ints .u32 (sumH0 key.length ((s : Nat) : Int)), 61, (0, 0)⟩, ⟨some x_.1, ints .u8 (full key b ++ List.replicate x_.2.2.2 0) ++ x_.2.2.1, 5, (0, 0)⟩]) (fun x_ => lz + b.length + x_.2.2.2 + x_.2.2.1.length = x_.2.1 ∧ lz + b.length + x_.2.2.2 ≤ 64 * (lastj (full key b).length + 1) ∧ (lz + b.length = 0 → x_.2.2.2 < 64)) (fun x_ => 64 * (lastj (full key b).length + 1) - x_.2.2.2) [true, true] (⟨k12, cap13, junk14, 0⟩) ⟨by dsimp only; simp at *; omega, by dsimp only; unfold lastj; omega, fun _ => by dsimp only; omega⟩ ⟨rfl, rfl, rfl, rfl, trivial⟩ (by dsimp only [pick]; rw [List.replicate_zero, List.append_nil]) ?_
      rintro ⟨kx, cx, jx, p⟩ ⟨hx, hp, hp6⟩
      conv => rhs; dsimp only
      conv => arg -2; dsimp only
      dsimp only at hx hp hp6
      have hL : lastj (full key b).length = ((full key b).length - 1) / 64 := rfl
      refine W.seq ?_
      refine W.seq ?_
      refine W.region ?_
      refine T.q (q_move rfl rfl) (Wt.plain rfl) rfl rfl ?_
      refine T.q (q_eql rfl rfl rfl) (Wt.plain rfl) rfl rfl ?_
      refine T.q (q_move rfl rfl) (Wt.plain rfl) rfl rfl ?_
      refine T.both (t := 59) _ rfl (fun hb16 => ?_) (fun hb16 => ?_)
      · replace hb16 := of_decide_eq_true hb16
        refine T.no (Wn.no rfl rfl rfl rfl) rfl rfl ?_
        refine T.no (Wn.no rfl rfl rfl rfl) rfl rfl ?_
        refine T.no (Wn.no rfl rfl rfl rfl) rfl rfl ?_
        refine T.no (Wn.no rfl rfl rfl rfl) rfl rfl ?_
        refine T.q (q_pickT rfl rfl rfl) (Wt.plain rfl) rfl rfl ?_
        refine T.nil ?_
        refine Ex.next ?_
        refine W.slots (L' := [(1, _), (8, _), (9, _), (10, _), (64, _)]) ⟨rfl, rfl, rfl, rfl, rfl, trivial⟩ ?_
        refine W.condT rfl ?_
        refine W.skip ?_
        refine Ex.next ?_
        refine W.slots (L' := [(1, _), (8, _), (9, _), (10, _)]) ⟨rfl, rfl, rfl, rfl, trivial⟩ ?_
        refine W.block ?_
        refine W.seq ?_
        refine W.region ?_
        refine T.q (q_move rfl rfl) (Wt.plain rfl) rfl rfl ?_
        refine T.eff (e_litA sc22 ze5 rfl rfl rfl (by simp [Value.cells]) rfl rfl rfl) (Wt.plain rfl) ?_
        rintro _ _ ⟨k17, rfl, rfl⟩
        change (_ : List Blk → Prop) [_, _, _]
        refine T.eff (e_appendI sc22 ze5 rfl 1 .u8 (full key b ++ List.replicate p 0) [0] jx (rfl) (R_blk 2 rfl) rfl rfl rfl rfl (by first | omega | (simp; done) | (simp [-List.getD_eq_getElem?_getD]; omega) | (simp at *; omega) | rfl) (by first | omega | (simp; done) | (simp [-List.getD_eq_getElem?_getD]; omega) | (simp at *; omega) | rfl) (by first | omega | (simp; done) | (simp [-List.getD_eq_getElem?_getD]; omega) | (simp at *; omega) | rfl) (by first | omega | (simp; done) | (simp [-List.getD_eq_getElem?_getD]; omega)) (by first | omega | (simp; done) | (simp [-List.getD_eq_getElem?_getD]; omega)) rfl rfl) (Wt.plain rfl) ?_
        rintro _ _ ⟨k18, cap19, junk20, hc21, rfl, rfl⟩
        change (_ : List Blk → Prop) [_, _, _]
        conv => rhs; rw [show full key b ++ List.replicate p 0 ++ [0] = full key b ++ List.replicate (p + 1) 0 by rw [List.append_assoc, ← List.replicate_succ']]
        refine T.q (q_assign rfl rfl) (Wt.plain rfl) rfl rfl ?_
        refine T.nil ?_
        refine Ex.next ?_
        refine W.less (L' := [(1, _), (8, _), (9, _), (10, _)]) [true, true, false] ⟨rfl, rfl, rfl, rfl, trivial⟩ ?_
        change (_ : List Blk → Prop) [_, _]
        refine W.seq ?_
        refine W.region ?_
        refine T.q (q_move rfl rfl) (Wt.plain rfl) rfl rfl ?_
        refine T.q (q_eql rfl rfl rfl) (Wt.plain rfl) rfl rfl ?_
        refine T.q (q_move rfl rfl) (Wt.plain rfl) rfl rfl ?_
        refine T.both (t := 70) _ rfl (fun hb22 => ?_) (fun hb22 => ?_)
        · replace hb22 := of_decide_eq_true hb22
          refine T.q (q_move rfl rfl) (Wt.yes rfl rfl rfl) rfl rfl ?_
          refine T.q (q_len sc22 rfl rfl) (Wt.yes rfl rfl rfl) rfl rfl ?_
          refine T.q (q_eql rfl rfl rfl) (Wt.yes rfl rfl rfl) rfl rfl ?_
          refine T.q (q_pickT rfl rfl rfl) (Wt.plain rfl) rfl rfl ?_
          refine T.nil ?_
          refine Ex.next ?_
          refine W.slots (L' := [(1, _), (8, _), (9, _), (10, _), (74, _)]) ⟨rfl, rfl, rfl, rfl, rfl, trivial⟩ ?_
          refine W.cond _ rfl (fun hb23 => ?_) (fun hb23 => ?_)
          · replace hb23 := of_decide_eq_true hb23
            refine W.exit ?_
            refine Ex.in_there rfl ?_
            refine Ex.then_exit ?_
            refine Ex.in_here ?_
            exact Ex.met [true, true] (⟨k18, cap19, junk20, p + 1⟩ : Nat × Nat × List Value × Nat) ⟨by dsimp only; first | omega | (simp at *; omega), by dsimp only; omega⟩ ⟨rfl, rfl, rfl, rfl, trivial⟩ (by first | (dsimp only [pick]; done) | rfl)
          · replace hb23 := of_decide_eq_false hb23
            refine W.skip ?_
            refine Ex.in_normal ?_
            exact Ex.again [true, true] (⟨k18, cap19, junk20, p + 1⟩ : Nat × Nat × List Value × Nat) (by dsimp only; omega) ⟨by dsimp only; simp at *; omega, by dsimp only; omega, by dsimp only; omega⟩ ⟨rfl, rfl, rfl, rfl, trivial⟩ (by first | (dsimp only [pick]; done) | rfl)
        · replace hb22 := of_decide_eq_false hb22
          refine T.no (Wn.no rfl rfl rfl rfl) rfl rfl ?_
          refine T.no (Wn.no rfl rfl rfl rfl) rfl rfl ?_
          refine T.no (Wn.no rfl rfl rfl rfl) rfl rfl ?_
          refine T.q (q_pickF rfl rfl rfl) (Wt.plain rfl) rfl rfl ?_
          refine T.nil ?_
          refine Ex.next ?_
          refine W.slots (L' := [(1, _), (8, _), (9, _), (10, _), (74, _)]) ⟨rfl, rfl, rfl, rfl, rfl, trivial⟩ ?_
          refine W.condF rfl ?_
          refine W.skip ?_
          refine Ex.in_normal ?_
          exact Ex.again [true, true] (⟨k18, cap19, junk20, p + 1⟩ : Nat × Nat × List Value × Nat) (by dsimp only; omega) ⟨by dsimp only; simp at *; omega, by dsimp only; omega, by dsimp only; omega⟩ ⟨rfl, rfl, rfl, rfl, trivial⟩ (by first | (dsimp only [pick]; done) | rfl)
      · replace hb16 := of_decide_eq_false hb16
        refine T.q (q_move rfl rfl) (Wt.yes rfl rfl rfl) rfl rfl ?_
        refine T.q (q_len sc22 rfl rfl) (Wt.yes rfl rfl rfl) rfl rfl ?_
        refine T.q (q_rem rfl rfl rfl (by omega) (by decide)) (Wt.yes rfl rfl rfl) rfl rfl ?_
        refine T.q (q_gtr rfl rfl rfl) (Wt.yes rfl rfl rfl) rfl rfl ?_
        refine T.q (q_pickF rfl rfl rfl) (Wt.plain rfl) rfl rfl ?_
        refine T.nil ?_
        refine Ex.next ?_
        refine W.slots (L' := [(1, _), (8, _), (9, _), (10, _), (64, _)]) ⟨rfl, rfl, rfl, rfl, rfl, trivial⟩ ?_
        refine W.cond _ rfl (fun hb24 => ?_) (fun hb24 => ?_)
        · replace hb24 := of_decide_eq_true hb24
          refine W.skip ?_
          refine Ex.next ?_
          refine W.slots (L' := [(1, _), (8, _), (9, _), (10, _)]) ⟨rfl, rfl, rfl, rfl, trivial⟩ ?_
          refine W.block ?_
          refine W.seq ?_
          refine W.region ?_
          refine T.q (q_move rfl rfl) (Wt.plain rfl) rfl rfl ?_
          refine T.eff (e_litA sc22 ze5 rfl rfl rfl (by simp [Value.cells]) rfl rfl rfl) (Wt.plain rfl) ?_
          rintro _ _ ⟨k25, rfl, rfl⟩
          change (_ : List Blk → Prop) [_, _, _]
          refine T.eff (e_appendI sc22 ze5 rfl 1 .u8 (full key b ++ List.replicate p 0) [0] jx (rfl) (R_blk 2 rfl) rfl rfl rfl rfl (by first | omega | (simp; done) | (simp [-List.getD_eq_getElem?_getD]; omega) | (simp at *; omega) | rfl) (by first | omega | (simp; done) | (simp [-List.getD_eq_getElem?_getD]; omega) | (simp at *; omega) | rfl) (by first | omega | (simp; done) | (simp [-List.getD_eq_getElem?_getD]; omega) | (simp at *; omega) | rfl) (by first | omega | (simp; done) | (simp [-List.getD_eq_getElem?_getD]; omega)) (by first | omega | (simp; done) | (simp [-List.getD_eq_getElem?_getD]; omega)) rfl rfl) (Wt.plain rfl) ?_
          rintro _ _ ⟨k26, cap27, junk28, hc29, rfl, rfl⟩
          change (_ : List Blk → Prop) [_, _, _]
          conv => rhs; rw [show full key b ++ List.replicate p 0 ++ [0] = full key b ++ List.replicate (p + 1) 0 by rw [List.append_assoc, ← List.replicate_succ']]
          refine T.q (q_assign rfl rfl) (Wt.plain rfl) rfl rfl ?_
          refine T.nil ?_
          refine Ex.next ?_
          refine W.less (L' := [(1, _), (8, _), (9, _), (10, _)]) [true, true, false] ⟨rfl, rfl, rfl, rfl, trivial⟩ ?_
          change (_ : List Blk → Prop) [_, _]
          refine W.seq ?_
          refine W.region ?_
          refine T.q (q_move rfl rfl) (Wt.plain rfl) rfl rfl ?_
          refine T.q (q_eql rfl rfl rfl) (Wt.plain rfl) rfl rfl ?_
          refine T.q (q_move rfl rfl) (Wt.plain rfl) rfl rfl ?_
          refine T.both (t := 70) _ rfl (fun hb30 => ?_) (fun hb30 => ?_)
          · replace hb30 := of_decide_eq_true hb30
            refine T.q (q_move rfl rfl) (Wt.yes rfl rfl rfl) rfl rfl ?_
            refine T.q (q_len sc22 rfl rfl) (Wt.yes rfl rfl rfl) rfl rfl ?_
            refine T.q (q_eql rfl rfl rfl) (Wt.yes rfl rfl rfl) rfl rfl ?_
            refine T.q (q_pickT rfl rfl rfl) (Wt.plain rfl) rfl rfl ?_
            refine T.nil ?_
            refine Ex.next ?_
            refine W.slots (L' := [(1, _), (8, _), (9, _), (10, _), (74, _)]) ⟨rfl, rfl, rfl, rfl, rfl, trivial⟩ ?_
            refine W.cond _ rfl (fun hb31 => ?_) (fun hb31 => ?_)
            · replace hb31 := of_decide_eq_true hb31
              refine W.exit ?_
              refine Ex.in_there rfl ?_
              refine Ex.then_exit ?_
              refine Ex.in_here ?_
              exact Ex.met [true, true] (⟨k26, cap27, junk28, p + 1⟩ : Nat × Nat × List Value × Nat) ⟨by dsimp only; first | omega | (simp at *; omega), by dsimp only; omega⟩ ⟨rfl, rfl, rfl, rfl, trivial⟩ (by first | (dsimp only [pick]; done) | rfl)
            · replace hb31 := of_decide_eq_false hb31
              refine W.skip ?_
              refine Ex.in_normal ?_
              exact Ex.again [true, true] (⟨k26, cap27, junk28, p + 1⟩ : Nat × Nat × List Value × Nat) (by dsimp only; omega) ⟨by dsimp only; simp at *; omega, by dsimp only; omega, by dsimp only; omega⟩ ⟨rfl, rfl, rfl, rfl, trivial⟩ (by first | (dsimp only [pick]; done) | rfl)
          · replace hb30 := of_decide_eq_false hb30
            refine T.no (Wn.no rfl rfl rfl rfl) rfl rfl ?_
            refine T.no (Wn.no rfl rfl rfl rfl) rfl rfl ?_
            refine T.no (Wn.no rfl rfl rfl rfl) rfl rfl ?_
            refine T.q (q_pickF rfl rfl rfl) (Wt.plain rfl) rfl rfl ?_
            refine T.nil ?_
            refine Ex.next ?_
            refine W.slots (L' := [(1, _), (8, _), (9, _), (10, _), (74, _)]) ⟨rfl, rfl, rfl, rfl, rfl, trivial⟩ ?_
            refine W.condF rfl ?_
            refine W.skip ?_
            refine Ex.in_normal ?_
            exact Ex.again [true, true] (⟨k26, cap27, junk28, p + 1⟩ : Nat × Nat × List Value × Nat) (by dsimp only; omega) ⟨by dsimp only; simp at *; omega, by dsimp only; omega, by dsimp only; omega⟩ ⟨rfl, rfl, rfl, rfl, trivial⟩ (by first | (dsimp only [pick]; done) | rfl)
        · replace hb24 := of_decide_eq_false hb24
          refine W.exit ?_
          refine Ex.then_exit ?_
          refine Ex.then_exit ?_
          refine Ex.in_here ?_
          exact Ex.met [true, true] (⟨kx, cx, jx, p⟩ : Nat × Nat × List Value × Nat) ⟨by dsimp only; first | omega | (simp at *; omega), by dsimp only; omega⟩ ⟨rfl, rfl, rfl, rfl, trivial⟩ (by first | (dsimp only [pick]; done) | rfl)
    ·
      rintro ⟨ky, cy, jy, p2⟩ ⟨hy, hp2⟩
      conv => rhs; dsimp only
      conv => arg -2; dsimp only
      dsimp only at hy hp2
      have hZl : (full key b ++ List.replicate p2 0).length = (64 * (lastj (full key b).length + 1)) := by simp; omega
      have hLb : 64 * (lastj (full key b).length + 1) ≤ (full key b).length + 64 := by unfold lastj; omega
      refine W.seq ?_
      refine W.seq ?_
      refine W.region ?_
      refine T.q (q_assign rfl rfl) (Wt.plain rfl) rfl rfl ?_
      refine T.nil ?_
      refine Ex.next ?_
      refine W.slots (L' := [(1, _), (8, _), (9, _), (10, _), (11, _)]) ⟨rfl, rfl, rfl, rfl, rfl, trivial⟩ ?_
      refine W.block ?_
      refine W.last 0 rfl ?_
      change (_ : List Blk → Prop) [_, _]
      refine W.loop (α := Nat × Nat × Nat × List Value) (fun x_ => [(1, .int .i64 ((s : Nat) : Int)), (8, .slice (some ⟨x_.2.1, 0, none⟩) 8 x_.2.2.1), (9, .slice (some ⟨ky, 0, none⟩) (lz + b.length + p2) cy), (10, .int .i64 (((full key b).length : Nat) : Int)), (11, .int .i64 (((64 * x_.1) : Nat) : Int))]) (fun x_ => [⟨some ky, ints .u8 (full key b ++ List.replicate p2 0) ++ jy, 5, (0, 0)⟩, ⟨some x_.2.1, ints .u32 (rabs (sumH0 key.length ((s : Nat) : Int)) (full key b ++ List.replicate p2 0) (full key b).length (64 * (lastj (full key b).length + 1)) x_.1) ++ x_.2.2.2, 61, (0, 0)⟩]) (fun x_ => x_.1 ≤ lastj (full key b).length + 1) (fun x_ => lastj (full key b).length + 1 - x_.1) [true, true] (⟨0, k1, 8, []⟩) (by dsimp only; omega) ⟨rfl, rfl, rfl, rfl, rfl, trivial⟩ (by dsimp only [pick]; rw [List.append_nil]; rfl) ?_
      rintro ⟨j, kh, ch, jh⟩ hj
      try dsimp only at hj
      conv => rhs; dsimp only
      conv => arg -2; dsimp only
      refine W.seq ?_
      refine W.seq ?_
      refine W.region ?_
      refine T.q (q_move rfl rfl) (Wt.plain rfl) rfl rfl ?_
      refine T.q (q_move rfl rfl) (Wt.plain rfl) rfl rfl ?_
      refine T.q (q_len sc22 rfl rfl) (Wt.plain rfl) rfl rfl ?_
      refine T.q (q_lss rfl rfl rfl) (Wt.plain rfl) rfl rfl ?_
      refine T.nil ?_
      refine Ex.next ?_
      refine W.slots (L' := [(1, _), (8, _), (9, _), (10, _), (11, _), (78, _)]) ⟨rfl, rfl, rfl, rfl, rfl, rfl, trivial⟩ ?_
      refine W.cond _ rfl (fun hb32 => ?_) (fun hb32 => ?_)
      · replace hb32 := of_decide_eq_true hb32
        refine W.skip ?_
        refine Ex.next ?_
        refine W.slots (L' := [(1, _), (8, _), (9, _), (10, _), (11, _)]) ⟨rfl, rfl, rfl, rfl, rfl, trivial⟩ ?_
        refine W.seq ?_
        refine W.block ?_
        refine W.seq ?_
        refine W.region ?_
        refine T.q (q_move rfl rfl) (Wt.plain rfl) rfl rfl ?_
        refine T.q (q_addi rfl rfl rfl (by omega) (by omega)) (Wt.plain rfl) rfl rfl ?_
        refine T.q (q_move rfl rfl) (Wt.plain rfl) rfl rfl ?_
        refine T.q (q_min rfl rfl rfl) (Wt.plain rfl) rfl rfl ?_
        refine T.q (q_assign rfl rfl) (Wt.plain rfl) rfl rfl ?_
        refine T.nil ?_
        refine Ex.next ?_
        refine W.slots (L' := [(1, _), (8, _), (9, _), (10, _), (11, _), (12, _)]) ⟨rfl, rfl, rfl, rfl, rfl, rfl, trivial⟩ ?_
        refine W.region ?_
        refine T.q (q_move rfl rfl) (Wt.plain rfl) rfl rfl ?_
        refine T.q (q_move rfl rfl) (Wt.plain rfl) rfl rfl ?_
        refine T.q (q_move rfl rfl) (Wt.plain rfl) rfl rfl ?_
        refine T.q (q_move rfl rfl) (Wt.plain rfl) rfl rfl ?_
        refine T.q (q_addi rfl rfl rfl (by omega) (by omega)) (Wt.plain rfl) rfl rfl ?_
        refine T.q (q_sl sc22 (64 * j) ((64 * j) + 64) cy rfl rfl ⟨_, _, rfl, by omega⟩ ⟨_, _, rfl, by omega⟩ rfl (by first | omega | (simp; done) | (simp [-List.getD_eq_getElem?_getD]; omega)) (by first | omega | (simp; done) | (simp [-List.getD_eq_getElem?_getD]; omega)) (by first | omega | (simp; done) | (simp [-List.getD_eq_getElem?_getD]; omega)) (by simp)) (Wt.plain rfl) rfl rfl ?_
        refine T.q (q_move rfl rfl) (Wt.plain rfl) rfl rfl ?_
        refine T.q (q_int (b := min (((64 * j : Nat) : Int) + 64) (((full key b).length : Nat) : Int)) (q_conv un3 un64 rfl rfl) ?hE) (Wt.plain rfl) rfl rfl ?_
        case hE => simp [IntKind.wrap, IntKind.bits, IntKind.signed]; omega
        refine T.q (q_move rfl rfl) (Wt.plain rfl) rfl rfl ?_
        refine T.q (q_addi rfl rfl rfl (by omega) (by omega)) (Wt.plain rfl) rfl rfl ?_
        refine T.q (q_move rfl rfl) (Wt.plain rfl) rfl rfl ?_
        refine T.q (q_len sc22 rfl rfl) (Wt.plain rfl) rfl rfl ?_
        refine T.q (q_bool (b := decide (64 * j + 64 = (64 * (lastj (full key b).length + 1)))) (q_eql rfl rfl rfl) ?hE) (Wt.plain rfl) rfl rfl ?_
        case hE => rw [decide_eq_decide]; omega
        refine T.eff (e_call enters51 rfl rfl (fun w hm => refpress_spec (rabs (sumH0 key.length ((s : Nat) : Int)) (full key b ++ List.replicate p2 0) (full key b).length (64 * (lastj (full key b).length + 1)) j) (((full key b ++ List.replicate p2 0).drop (64 * j)).take 64) (min (((64 * j : Nat) : Int) + 64) (((full key b).length : Nat) : Int)) (decide (64 * j + 64 = (64 * (lastj (full key b).length + 1)))) _ _ _ _ _ (by simp) (by first | omega | (simp; omega)) (by first | omega | (simp; omega)) (by omega) (by omega) w ((R_pre 1 rfl) w hm) ((R_takeI (R_cutI (R_pre 0 rfl) (by first | omega | (simp; done) | (simp [-List.getD_eq_getElem?_getD]; omega) | (simp at *; omega) | rfl)) 64) w hm)) rfl rfl) (Wt.plain rfl) ?_
        rintro _ _ ⟨_, _, ⟨k33, cap34, junk35, rfl, hc36, rfl⟩, rfl, rfl⟩
        change (_ : List Blk → Prop) [_, _, _]
        refine T.q (q_assign rfl rfl) (Wt.plain rfl) rfl rfl ?_
        refine T.nil ?_
        refine Ex.in_normal ?_
        refine Ex.next ?_
        refine W.slots (L' := [(1, _), (8, _), (9, _), (10, _), (11, _)]) ⟨rfl, rfl, rfl, rfl, rfl, trivial⟩ ?_
        refine W.region ?_
        refine T.q (q_move rfl rfl) (Wt.plain rfl) rfl rfl ?_
        refine T.q (q_addi rfl rfl rfl (by omega) (by omega)) (Wt.plain rfl) rfl rfl ?_
        refine T.q (q_assign rfl rfl) (Wt.plain rfl) rfl rfl ?_
        refine T.nil ?_
        exact Ex.again [true, false, true] (⟨j + 1, k33, cap34, junk35⟩ : Nat × Nat × Nat × List Value) (by dsimp only; omega) (by dsimp only; omega) ⟨rfl, rfl, rfl, rfl, rfl, trivial⟩ (by first | (dsimp only [pick]; done) | rfl)
      · replace hb32 := of_decide_eq_false hb32
        obtain rfl : j = lastj (full key b).length + 1 := by omega
        conv => rhs; rw [rabs_digest _ _ p2 (by omega)]
        refine W.exit ?_
        refine Ex.then_exit ?_
        refine Ex.then_exit ?_
        refine Ex.in_here ?_
        refine Ex.next ?_
        refine W.slots (L' := [(1, _), (8, _)]) ⟨rfl, rfl, trivial⟩ ?_
        refine W.seq ?_
        refine W.region ?_
        refine T.eff (e_litA sc22 ze5 rfl rfl rfl (by simp [Value.cells]) rfl rfl rfl) (Wt.plain rfl) ?_
        rintro _ _ ⟨k37, rfl, rfl⟩
        change (_ : List Blk → Prop) [_, _, _]
        refine T.q (q_assign rfl rfl) (Wt.plain rfl) rfl rfl ?_
        refine T.nil ?_
        refine Ex.next ?_
        refine W.slots (L' := [(1, _), (8, _), (13, _)]) ⟨rfl, rfl, rfl, trivial⟩ ?_
        refine W.seq ?_
        refine W.seq ?_
        refine W.region ?_
        refine T.q (q_assign rfl rfl) (Wt.plain rfl) rfl rfl ?_
        refine T.nil ?_
        refine Ex.next ?_
        refine W.slots (L' := [(1, _), (8, _), (13, _), (14, _)]) ⟨rfl, rfl, rfl, rfl, trivial⟩ ?_
        refine W.block ?_
        refine W.loop (α := Nat × Nat × Nat × List Value) (fun x_ => [(1, .int .i64 ((s : Nat) : Int)), (8, .slice (some ⟨kh, 0, none⟩) 8 ch), (13, .slice (some ⟨x_.2.1, 0, none⟩) x_.1 x_.2.2.1), (14, .int .i64 ((x_.1 : Nat) : Int))]) (fun x_ => [⟨some ky, ints .u8 (full key b ++ List.replicate p2 0) ++ jy, 5, (0, 0)⟩, ⟨some kh, ints .u32 (digest (sumH0 key.length ((s : Nat) : Int)) (full key b)) ++ jh, 61, (0, 0)⟩, ⟨some x_.2.1, ints .u8 (gather (outB (digest (sumH0 key.length ((s : Nat) : Int)) (full key b))) x_.1 []) ++ x_.2.2.2, 5, (0, 0)⟩]) (fun x_ => x_.1 ≤ s ∧ x_.1 + x_.2.2.2.length = x_.2.2.1) (fun x_ => s - x_.1) [true, true, true] (⟨0, k37, 0, []⟩) ⟨by dsimp only; omega, rfl⟩ ⟨rfl, rfl, rfl, rfl, trivial⟩ rfl ?_
        rintro ⟨i, ko, co, jo⟩ ⟨hi, hjo⟩
        conv => rhs; dsimp only
        conv => arg -2; dsimp only
        dsimp only at hi hjo
        refine W.seq ?_
        refine W.seq ?_
        refine W.region ?_
        refine T.q (q_move rfl rfl) (Wt.plain rfl) rfl rfl ?_
        refine T.q (q_move rfl rfl) (Wt.plain rfl) rfl rfl ?_
        refine T.q (q_lss rfl rfl rfl) (Wt.plain rfl) rfl rfl ?_
        refine T.nil ?_
        refine Ex.next ?_
        refine W.slots (L' := [(1, _), (8, _), (13, _), (14, _), (102, _)]) ⟨rfl, rfl, rfl, rfl, rfl, trivial⟩ ?_
        refine W.cond _ rfl (fun hb38 => ?_) (fun hb38 => ?_)
        · replace hb38 := of_decide_eq_true hb38
          refine W.skip ?_
          refine Ex.next ?_
          refine W.slots (L' := [(1, _), (8, _), (13, _), (14, _)]) ⟨rfl, rfl, rfl, rfl, trivial⟩ ?_
          refine W.seq ?_
          refine W.block ?_
          refine W.region ?_
          refine T.q (q_move rfl rfl) (Wt.plain rfl) rfl rfl ?_
          refine T.q (q_move rfl rfl) (Wt.plain rfl) rfl rfl ?_
          refine T.q (q_move rfl rfl) (Wt.plain rfl) rfl rfl ?_
          refine T.q (q_quo rfl rfl rfl (by omega) (by omega) (by decide)) (Wt.plain rfl) rfl rfl ?_
          refine T.q (q_ixS0 sc67 (i / 4) rfl rfl rfl (by omega) (by omega)) (Wt.plain rfl) rfl rfl ?_
          refine T.q (q_loadIJ ss61 1 rfl rfl rfl (by first | omega | (simp; done) | (simp [-List.getD_eq_getElem?_getD]; omega))) (Wt.plain rfl) rfl rfl ?_
          refine T.q (q_move rfl rfl) (Wt.plain rfl) rfl rfl ?_
          refine T.q (q_rem rfl rfl rfl (by omega) (by decide)) (Wt.plain rfl) rfl rfl ?_
          refine T.q (q_muli rfl rfl rfl (by omega) (by omega)) (Wt.plain rfl) rfl rfl ?_
          refine T.q (q_shr rfl rfl rfl (by omega)) (Wt.plain rfl) rfl rfl ?_
          refine T.q (q_conv un61 un5 rfl rfl) (Wt.plain rfl) rfl rfl ?_
          refine T.eff (e_litA sc22 ze5 rfl rfl rfl (by simp [Value.cells]) rfl rfl rfl) (Wt.plain rfl) ?_
          rintro _ _ ⟨k39, rfl, rfl⟩
          change (_ : List Blk → Prop) [_, _, _, _]
          refine T.eff (e_appendI sc22 ze5 rfl 2 .u8 (gather (outB (digest (sumH0 key.length ((s : Nat) : Int)) (full key b))) i []) [IntKind.u8.wrap (shr .u32 ((digest (sumH0 key.length ((s : Nat) : Int)) (full key b)).getD (i / 4) 0) (8 * (((i : Nat) : Int) % 4)))] jo (rfl) (R_blk 3 rfl) rfl rfl rfl rfl (by first | omega | (simp; done) | (simp [-List.getD_eq_getElem?_getD]; omega) | (simp at *; omega) | rfl) (by first | omega | (simp; done) | (simp [-List.getD_eq_getElem?_getD]; omega) | (simp at *; omega) | rfl) (by first | omega | (simp; done) | (simp [-List.getD_eq_getElem?_getD]; omega) | (simp at *; omega) | rfl) (by first | omega | (simp; done) | (simp [-List.getD_eq_getElem?_getD]; omega)) (by first | omega | (simp; done) | (simp [-List.getD_eq_getElem?_getD]; omega)) rfl rfl) (Wt.plain rfl) ?_
          rintro _ _ ⟨k40, cap41, junk42, hc43, rfl, rfl⟩
          change (_ : List Blk → Prop) [_, _, _, _]
          refine T.q (q_assign rfl rfl) (Wt.plain rfl) rfl rfl ?_
          refine T.nil ?_
          refine Ex.in_normal ?_
          refine Ex.next ?_
          refine W.less (L' := [(1, _), (8, _), (13, _), (14, _)]) [true, true, true, false] ⟨rfl, rfl, rfl, rfl, trivial⟩ ?_
          change (_ : List Blk → Prop) [_, _, _]
          refine W.region ?_
          refine T.q (q_move rfl rfl) (Wt.plain rfl) rfl rfl ?_
          refine T.q (q_addi rfl rfl rfl (by omega) (by omega)) (Wt.plain rfl) rfl rfl ?_
          refine T.q (q_assign rfl rfl) (Wt.plain rfl) rfl rfl ?_
          refine T.nil ?_
          exact Ex.again [true, true, true] (⟨i + 1, k40, cap41, junk42⟩ : Nat × Nat × Nat × List Value) (by dsimp only; omega) ⟨by dsimp only; omega, by dsimp only; simp at *; omega⟩ ⟨rfl, rfl, rfl, rfl, trivial⟩ (by first | (dsimp only [pick]; done) | rfl)
        · replace hb38 := of_decide_eq_false hb38
          obtain rfl : i = s := by omega
          refine W.exit ?_
          refine Ex.then_exit ?_
          refine Ex.then_exit ?_
          refine Ex.in_here ?_
          refine Ex.next ?_
          refine W.slots (L' := [(13, _)]) ⟨rfl, trivial⟩ ?_
          refine W.seq ?_
          refine W.region ?_
          refine T.q (q_move rfl rfl) (Wt.plain rfl) rfl rfl ?_
          refine T.q (q_assign rfl rfl) (Wt.plain rfl) rfl rfl ?_
          refine T.q (q_assign rfl rfl) (Wt.plain rfl) rfl rfl ?_
          refine T.nil ?_
          refine Ex.next ?_
          refine W.slots (L' := [(6, _), (7, _)]) ⟨rfl, rfl, trivial⟩ ?_
          refine W.ret ?_
          refine Ex.out2 [false, false, true] rfl rfl rfl ?_
          exact ⟨_, _, _, _, rfl, by rw [sumS_gather key b hs2]; dsimp only [pick]⟩

end Go.Proofs.YtkoomaoelekpaaaDoor
