/-
  The walks of layer 8: what it takes of the library.
-/
import Derived.Test.YtkoomaoelekpaaaDoorW8
import Derived.Test.YtkoomaoelekpaaaDoorX12
import Derived.Test.YtkoomaoelekpaaaDoorHK
namespace Go.Proofs.YtkoomaoelekpaaaDoor
open Go Go.X

set_option maxRecDepth 100000 in
theorem grow_spec (n : Nat) (hpos : 0 < n) (hle : n ≤ 140737488355328) (w0 : World) : Does Tryd.prog 59 #[.slice none 0 0, .int .i64 ((n : Nat) : Int)] w0 [] (fun v G => ∃ (k cap : Nat) (junk : List Value), v = .slice (some ⟨k, 0, none⟩) 0 cap ∧ junk.length = cap ∧ n ≤ cap ∧ G = [⟨some k, junk, 5, (0, 0)⟩]) := by
  refine spec_of 27 Tryd.func59 rfl rfl rfl ?_
  refine W.seq ?_
  refine W.region ?_
  refine T.q (q_assign rfl rfl) (Wt.plain rfl) rfl rfl ?_
  refine T.nil ?_
  refine Ex.next ?_
  refine W.slots (L' := [(0, _), (1, _)]) ⟨rfl, rfl, trivial⟩ ?_
  refine W.seq ?_
  refine W.seq ?_
  refine W.region ?_
  refine T.q (q_move rfl rfl) (Wt.plain rfl) rfl rfl ?_
  refine T.q (q_bool (b := false) (q_lss rfl rfl rfl) (decide_eq_false (by omega))) (Wt.plain rfl) rfl rfl ?_
  refine T.nil ?_
  refine Ex.next ?_
  refine W.slots (L' := [(0, _), (1, _), (6, _)]) ⟨rfl, rfl, rfl, trivial⟩ ?_
  refine W.condF rfl ?_
  refine W.skip ?_
  refine Ex.next ?_
  refine W.slots (L' := [(0, _), (1, _)]) ⟨rfl, rfl, trivial⟩ ?_
  refine W.seq ?_
  refine W.seq ?_
  refine W.region ?_
  refine T.q (q_move rfl rfl) (Wt.plain rfl) rfl rfl ?_
  refine T.q (q_move rfl rfl) (Wt.plain rfl) rfl rfl ?_
  refine T.q (q_cap sc22 rfl rfl) (Wt.plain rfl) rfl rfl ?_
  refine T.q (q_move rfl rfl) (Wt.plain rfl) rfl rfl ?_
  refine T.q (q_len sc22 rfl rfl) (Wt.plain rfl) rfl rfl ?_
  refine T.q (q_subi rfl rfl rfl (by omega) (by omega)) (Wt.plain rfl) rfl rfl ?_
  refine T.q (q_int (b := ((n : Nat) : Int)) (q_subi rfl rfl rfl (by omega) (by omega)) ?hE) (Wt.plain rfl) rfl rfl ?_
  case hE => omega
  refine T.q (q_assign rfl rfl) (Wt.plain rfl) rfl rfl ?_
  refine T.nil ?_
  refine Ex.next ?_
  refine W.slots (L' := [(0, _), (1, _)]) ⟨rfl, rfl, trivial⟩ ?_
  refine W.seq ?_
  refine W.region ?_
  refine T.q (q_move rfl rfl) (Wt.plain rfl) rfl rfl ?_
  refine T.q (q_bool (b := true) (q_gtr rfl rfl rfl) (decide_eq_true (by omega))) (Wt.plain rfl) rfl rfl ?_
  refine T.nil ?_
  refine Ex.next ?_
  refine W.slots (L' := [(0, _), (1, _), (16, _)]) ⟨rfl, rfl, rfl, trivial⟩ ?_
  refine W.condT rfl ?_
  refine W.region ?_
  refine T.q (q_move rfl rfl) (Wt.plain rfl) rfl rfl ?_
  refine T.q (q_move rfl rfl) (Wt.plain rfl) rfl rfl ?_
  refine T.q (q_cap sc22 rfl rfl) (Wt.plain rfl) rfl rfl ?_
  refine T.q (q_sl sc22 0 0 0 rfl rfl rfl ⟨_, _, rfl, by omega⟩ rfl (by first | omega | (simp; done) | (simp [-List.getD_eq_getElem?_getD]; omega)) (by first | omega | (simp; done) | (simp [-List.getD_eq_getElem?_getD]; omega)) (by first | omega | (simp; done) | (simp [-List.getD_eq_getElem?_getD]; omega)) (by simp)) (Wt.plain rfl) rfl rfl ?_
  refine T.q (q_move rfl rfl) (Wt.plain rfl) rfl rfl ?_
  refine T.eff (e_appendN sc22 un3 ze5 n (by omega) rfl rfl (cut_zero _ _) rfl (by omega) (by omega) (by omega) rfl rfl) (Wt.plain rfl) ?_
  rintro _ _ ⟨k1, cap2, junk3, hc4, rfl, rfl⟩
  change (_ : List Blk → Prop) [_]
  refine T.q (q_move rfl rfl) (Wt.plain rfl) rfl rfl ?_
  refine T.q (q_len sc22 rfl rfl) (Wt.plain rfl) rfl rfl ?_
  refine T.q (q_sl sc22 0 0 cap2 rfl rfl rfl ⟨_, _, rfl, by omega⟩ rfl (by first | omega | (simp; done) | (simp [-List.getD_eq_getElem?_getD]; omega)) (by first | omega | (simp; done) | (simp [-List.getD_eq_getElem?_getD]; omega)) (by first | omega | (simp; done) | (simp [-List.getD_eq_getElem?_getD]; omega)) (by simp)) (Wt.plain rfl) rfl rfl ?_
  refine T.q (q_assign rfl rfl) (Wt.plain rfl) rfl rfl ?_
  refine T.nil ?_
  refine Ex.next ?_
  refine W.slots (L' := [(0, _)]) ⟨rfl, trivial⟩ ?_
  refine W.seq ?_
  refine W.region ?_
  refine T.q (q_move rfl rfl) (Wt.plain rfl) rfl rfl ?_
  refine T.q (q_assign rfl rfl) (Wt.plain rfl) rfl rfl ?_
  refine T.nil ?_
  refine Ex.next ?_
  refine W.slots (L' := [(4, _)]) ⟨rfl, trivial⟩ ?_
  refine W.ret ?_
  refine Ex.out1 [true] rfl rfl ?_
  exact ⟨_, _, ints .u8 (List.replicate n 0) ++ junk3, by rw [cut_zero] <;> rfl, by simp; omega, by omega, rfl⟩
set_option maxRecDepth 100000 in
theorem clip_spec (A : Option Addr) (len cap : Nat) (hle : len ≤ cap) (w0 : World) : Does Tryd.prog 53 #[.slice A len cap] w0 [] (fun v G => v = .slice A len len ∧ G = []) := by
  refine spec_of 9 Tryd.func53 rfl rfl rfl ?_
  refine W.seq ?_
  refine W.region ?_
  refine T.q (q_assign rfl rfl) (Wt.plain rfl) rfl rfl ?_
  refine T.nil ?_
  refine Ex.next ?_
  refine W.slots (L' := [(0, _)]) ⟨rfl, trivial⟩ ?_
  refine W.seq ?_
  refine W.region ?_
  refine T.q (q_move rfl rfl) (Wt.plain rfl) rfl rfl ?_
  refine T.q (q_move rfl rfl) (Wt.plain rfl) rfl rfl ?_
  refine T.q (q_len sc22 rfl rfl) (Wt.plain rfl) rfl rfl ?_
  refine T.q (q_move rfl rfl) (Wt.plain rfl) rfl rfl ?_
  refine T.q (q_len sc22 rfl rfl) (Wt.plain rfl) rfl rfl ?_
  refine T.q (q_sl sc22 0 len len rfl rfl rfl ⟨_, _, rfl, by omega⟩ ⟨_, _, rfl, by omega⟩ (by first | omega | (simp; done) | (simp [-List.getD_eq_getElem?_getD]; omega)) (by first | omega | (simp; done) | (simp [-List.getD_eq_getElem?_getD]; omega)) (by first | omega | (simp; done) | (simp [-List.getD_eq_getElem?_getD]; omega)) (by simp)) (Wt.plain rfl) rfl rfl ?_
  refine T.q (q_assign rfl rfl) (Wt.plain rfl) rfl rfl ?_
  refine T.nil ?_
  refine Ex.next ?_
  refine W.slots (L' := [(2, _)]) ⟨rfl, trivial⟩ ?_
  refine W.ret ?_
  refine Ex.out1 [] rfl rfl ?_
  exact ⟨by rw [cut_zero] <;> rfl, rfl⟩
set_option maxRecDepth 100000 in
theorem concat_spec (A : Nat → Option Addr) (n c : Nat → Nat) (x : Nat → List Int) (kt : Nat) (hx : ∀ i, i < 3 → (x i).length = n i) (hpos : 0 < sumN n 3) (hle : sumN n 3 ≤ 140737488355328) (w0 : World) (hT : Reads w0 (some ⟨kt, 0, none⟩) ((List.range 3).map fun q => .slice (A q) (n q) (c q))) (hr : ∀ i, i < 3 → Reads w0 (A i) (ints .u8 (x i))) : Does Tryd.prog 52 #[.slice (some ⟨kt, 0, none⟩) 3 3] w0 [] (fun v G => ∃ (k cap : Nat) (junk : List Value), v = .slice (some ⟨k, 0, none⟩) (sumN n 3) cap ∧ sumN n 3 + junk.length = cap ∧ G = [⟨some k, ints .u8 (catN x 3) ++ junk, 5, (0, 0)⟩]) := by
  refine spec_of 36 Tryd.func52 rfl rfl rfl ?_
  refine W.seq ?_
  refine W.region ?_
  refine T.q (q_assign rfl rfl) (Wt.plain rfl) rfl rfl ?_
  refine T.nil ?_
  refine Ex.next ?_
  refine W.slots (L' := [(0, _)]) ⟨rfl, trivial⟩ ?_
  refine W.seq ?_
  refine W.region ?_
  refine T.q (q_assign rfl rfl) (Wt.plain rfl) rfl rfl ?_
  refine T.nil ?_
  refine Ex.next ?_
  refine W.slots (L' := [(0, _), (3, _)]) ⟨rfl, rfl, trivial⟩ ?_
  refine W.seq ?_
  refine W.seq ?_
  refine W.region ?_
  refine T.q (q_move rfl rfl) (Wt.plain rfl) rfl rfl ?_
  refine T.q (q_len sc87 rfl rfl) (Wt.plain rfl) rfl rfl ?_
  refine T.q (q_move rfl rfl) (Wt.plain rfl) rfl rfl ?_
  refine T.nil ?_
  refine Ex.next ?_
  refine W.slots (L' := [(0, _), (3, _), (9, _), (10, _), (11, _)]) ⟨rfl, rfl, rfl, rfl, rfl, trivial⟩ ?_
  refine W.block ?_
  refine W.loop (α := Nat) (fun i => [(0, .slice (some ⟨kt, 0, none⟩) 3 3), (3, .int .i64 (((sumN n i) : Nat) : Int)), (9, .slice (some ⟨kt, 0, none⟩) 3 3), (10, .int .i64 ((3 : Nat) : Int)), (11, .int .i64 ((i : Nat) : Int))]) (fun i => []) (fun i => i ≤ 3) (fun i => 3 - i) [] 0 (by omega) ⟨rfl, rfl, rfl, rfl, rfl, trivial⟩ rfl ?_
  rintro i hi
  refine W.seq ?_
  refine W.region ?_
  refine T.q (q_lss rfl rfl rfl) (Wt.plain rfl) rfl rfl ?_
  refine T.nil ?_
  refine Ex.next ?_
  refine W.slots (L' := [(0, _), (3, _), (9, _), (10, _), (11, _), (12, _)]) ⟨rfl, rfl, rfl, rfl, rfl, rfl, trivial⟩ ?_
  refine W.seq ?_
  refine W.cond _ rfl (fun hb1 => ?_) (fun hb1 => ?_)
  · replace hb1 := of_decide_eq_true hb1
    have hi3 : i < 3 := by omega
    have hsn : sumN n i + n i ≤ sumN n 3 := sumN_le n (i + 1) 3 (by omega)
    refine W.skip ?_
    refine Ex.next ?_
    refine W.slots (L' := [(0, _), (3, _), (9, _), (10, _), (11, _)]) ⟨rfl, rfl, rfl, rfl, rfl, trivial⟩ ?_
    refine W.seq ?_
    refine W.block ?_
    refine W.seq ?_
    refine W.region ?_
    refine T.q (q_ixE1 sc87 i (R_ext hT.ext) rfl rfl rfl (by omega) (by omega) (by first | omega | (simp; done) | (simp [-List.getD_eq_getElem?_getD]; omega))) (Wt.plain rfl) rfl rfl ?_
    refine T.q (q_loadE ss22 (R_ext hT.ext) rfl rfl (range_map_get _ hi3)) (Wt.plain rfl) rfl rfl ?_
    refine T.q (q_assign rfl rfl) (Wt.plain rfl) rfl rfl ?_
    refine T.nil ?_
    refine Ex.next ?_
    refine W.slots (L' := [(0, _), (3, _), (5, _), (9, _), (10, _), (11, _)]) ⟨rfl, rfl, rfl, rfl, rfl, rfl, trivial⟩ ?_
    refine W.seq ?_
    refine W.region ?_
    refine T.q (q_move rfl rfl) (Wt.plain rfl) rfl rfl ?_
    refine T.q (q_move rfl rfl) (Wt.plain rfl) rfl rfl ?_
    refine T.q (q_len sc22 rfl rfl) (Wt.plain rfl) rfl rfl ?_
    refine T.q (q_addi rfl rfl rfl (by omega) (by omega)) (Wt.plain rfl) rfl rfl ?_
    refine T.q (q_assign rfl rfl) (Wt.plain rfl) rfl rfl ?_
    refine T.nil ?_
    refine Ex.next ?_
    refine W.slots (L' := [(0, _), (3, _), (9, _), (10, _), (11, _)]) ⟨rfl, rfl, rfl, rfl, rfl, trivial⟩ ?_
    refine W.seq ?_
    refine W.region ?_
    refine T.q (q_move rfl rfl) (Wt.plain rfl) rfl rfl ?_
    refine T.q (q_bool (b := false) (q_lss rfl rfl rfl) (decide_eq_false (by omega))) (Wt.plain rfl) rfl rfl ?_
    refine T.nil ?_
    refine Ex.next ?_
    refine W.slots (L' := [(0, _), (3, _), (9, _), (10, _), (11, _), (20, _)]) ⟨rfl, rfl, rfl, rfl, rfl, rfl, trivial⟩ ?_
    refine W.condF rfl ?_
    refine W.skip ?_
    refine Ex.in_normal ?_
    refine Ex.next ?_
    refine W.slots (L' := [(0, _), (3, _), (9, _), (10, _), (11, _)]) ⟨rfl, rfl, rfl, rfl, rfl, trivial⟩ ?_
    refine W.region ?_
    refine T.q (q_addi rfl rfl rfl (by omega) (by omega)) (Wt.plain rfl) rfl rfl ?_
    refine T.q (q_move rfl rfl) (Wt.plain rfl) rfl rfl ?_
    refine T.nil ?_
    exact Ex.again [] (i + 1) (by omega) (by omega) ⟨rfl, rfl, rfl, rfl, rfl, trivial⟩ rfl
  · replace hb1 := of_decide_eq_false hb1
    obtain rfl : i = 3 := by omega
    refine W.exit ?_
    refine Ex.then_exit ?_
    refine Ex.then_exit ?_
    refine Ex.in_here ?_
    refine Ex.next ?_
    refine W.slots (L' := [(0, _), (3, _)]) ⟨rfl, rfl, trivial⟩ ?_
    refine W.seq ?_
    refine W.region ?_
    refine T.q (q_move rfl rfl) (Wt.plain rfl) rfl rfl ?_
    refine T.eff (e_call enters59 rfl rfl (fun w hm => grow_spec (sumN n 3) (by omega) (by omega) w) rfl rfl) (Wt.plain rfl) ?_
    rintro _ _ ⟨_, _, ⟨k2, cap3, junk4, rfl, hc5, hc6, rfl⟩, rfl, rfl⟩
    change (_ : List Blk → Prop) [_]
    refine T.q (q_assign rfl rfl) (Wt.plain rfl) rfl rfl ?_
    refine T.nil ?_
    refine Ex.next ?_
    refine W.slots (L' := [(0, _), (6, _)]) ⟨rfl, rfl, trivial⟩ ?_
    refine W.seq ?_
    refine W.seq ?_
    refine W.region ?_
    refine T.q (q_move rfl rfl) (Wt.plain rfl) rfl rfl ?_
    refine T.q (q_len sc87 rfl rfl) (Wt.plain rfl) rfl rfl ?_
    refine T.q (q_move rfl rfl) (Wt.plain rfl) rfl rfl ?_
    refine T.nil ?_
    refine Ex.next ?_
    refine W.slots (L' := [(6, _), (25, _), (26, _), (27, _)]) ⟨rfl, rfl, rfl, rfl, trivial⟩ ?_
    refine W.block ?_
    refine W.loop (α := Nat × Nat × Nat × List Value) (fun x_ => [(6, .slice (some ⟨x_.2.1, 0, none⟩) (sumN n x_.1) x_.2.2.1), (25, .slice (some ⟨kt, 0, none⟩) 3 3), (26, .int .i64 ((3 : Nat) : Int)), (27, .int .i64 ((x_.1 : Nat) : Int))]) (fun x_ => [⟨some x_.2.1, ints .u8 (catN x x_.1) ++ x_.2.2.2, 5, (0, 0)⟩]) (fun x_ => x_.1 ≤ 3 ∧ sumN n x_.1 + x_.2.2.2.length = x_.2.2.1) (fun x_ => 3 - x_.1) [true] (⟨0, k2, cap3, junk4⟩) ⟨by dsimp only; omega, by dsimp only [sumN]; omega⟩ ⟨rfl, rfl, rfl, rfl, trivial⟩ rfl ?_
    rintro ⟨i, kq, cq, jq⟩ ⟨hi, hq⟩
    conv => rhs; dsimp only
    conv => arg -2; dsimp only
    dsimp only at hi hq
    refine W.seq ?_
    refine W.region ?_
    refine T.q (q_lss rfl rfl rfl) (Wt.plain rfl) rfl rfl ?_
    refine T.nil ?_
    refine Ex.next ?_
    refine W.slots (L' := [(6, _), (25, _), (26, _), (27, _), (28, _)]) ⟨rfl, rfl, rfl, rfl, rfl, trivial⟩ ?_
    refine W.seq ?_
    refine W.cond _ rfl (fun hb7 => ?_) (fun hb7 => ?_)
    · replace hb7 := of_decide_eq_true hb7
      have hi3 : i < 3 := by omega
      have hsn : sumN n i + n i ≤ sumN n 3 := sumN_le n (i + 1) 3 (by omega)
      refine W.skip ?_
      refine Ex.next ?_
      refine W.slots (L' := [(6, _), (25, _), (26, _), (27, _)]) ⟨rfl, rfl, rfl, rfl, trivial⟩ ?_
      refine W.seq ?_
      refine W.block ?_
      refine W.seq ?_
      refine W.region ?_
      refine T.q (q_ixE1 sc87 i (R_ext hT.ext) rfl rfl rfl (by omega) (by omega) (by first | omega | (simp; done) | (simp [-List.getD_eq_getElem?_getD]; omega))) (Wt.plain rfl) rfl rfl ?_
      refine T.q (q_loadE ss22 (R_ext hT.ext) rfl rfl (range_map_get _ hi3)) (Wt.plain rfl) rfl rfl ?_
      refine T.q (q_assign rfl rfl) (Wt.plain rfl) rfl rfl ?_
      refine T.nil ?_
      refine Ex.next ?_
      refine W.slots (L' := [(6, _), (8, _), (25, _), (26, _), (27, _)]) ⟨rfl, rfl, rfl, rfl, rfl, trivial⟩ ?_
      refine W.region ?_
      refine T.q (q_move rfl rfl) (Wt.plain rfl) rfl rfl ?_
      refine T.q (q_move rfl rfl) (Wt.plain rfl) rfl rfl ?_
      refine T.eff (e_appendI sc22 ze5 rfl 0 .u8 (catN x i) (x i) jq (rfl) (R_ext (hr i hi3).ext) rfl rfl rfl rfl (catN_length hx i (by omega)) (by rw [catN_length hx i (by omega)]; exact hq) (hx i hi3) (by first | omega | (simp; done) | (simp [-List.getD_eq_getElem?_getD]; omega)) (by first | omega | (simp; done) | (simp [-List.getD_eq_getElem?_getD]; omega)) rfl rfl) (Wt.plain rfl) ?_
      rintro _ _ ⟨k8, cap9, junk10, hc11, rfl, rfl⟩
      change (_ : List Blk → Prop) [_]
      refine T.q (q_assign rfl rfl) (Wt.plain rfl) rfl rfl ?_
      refine T.nil ?_
      refine Ex.in_normal ?_
      refine Ex.next ?_
      refine W.slots (L' := [(6, _), (25, _), (26, _), (27, _)]) ⟨rfl, rfl, rfl, rfl, trivial⟩ ?_
      refine W.region ?_
      refine T.q (q_addi rfl rfl rfl (by omega) (by omega)) (Wt.plain rfl) rfl rfl ?_
      refine T.q (q_move rfl rfl) (Wt.plain rfl) rfl rfl ?_
      refine T.nil ?_
      exact Ex.again [true] (⟨i + 1, k8, cap9, junk10⟩ : Nat × Nat × Nat × List Value) (by dsimp only; omega) ⟨by dsimp only; omega, by dsimp only [sumN]; omega⟩ ⟨rfl, rfl, rfl, rfl, trivial⟩ (by first | (dsimp only [pick]; done) | rfl)
    · replace hb7 := of_decide_eq_false hb7
      obtain rfl : i = 3 := by omega
      refine W.exit ?_
      refine Ex.then_exit ?_
      refine Ex.then_exit ?_
      refine Ex.in_here ?_
      refine Ex.next ?_
      refine W.slots (L' := [(6, _)]) ⟨rfl, trivial⟩ ?_
      refine W.seq ?_
      refine W.region ?_
      refine T.q (q_move rfl rfl) (Wt.plain rfl) rfl rfl ?_
      refine T.q (q_assign rfl rfl) (Wt.plain rfl) rfl rfl ?_
      refine T.nil ?_
      refine Ex.next ?_
      refine W.slots (L' := [(2, _)]) ⟨rfl, trivial⟩ ?_
      refine W.ret ?_
      refine Ex.out1 [true] rfl rfl ?_
      exact ⟨_, _, _, rfl, hq, rfl⟩
theorem concat3 (A0 A1 A2 : Option Addr) (n0 n1 n2 c0 c1 c2 : Nat) (x0 x1 x2 : List Int) (kt : Nat) (h0 : x0.length = n0) (h1 : x1.length = n1) (h2 : x2.length = n2) (hpos : 0 < 0 + n0 + n1 + n2) (hle : 0 + n0 + n1 + n2 ≤ 140737488355328) (w0 : World)
    (hT : Reads w0 (some ⟨kt, 0, none⟩) [.slice A0 n0 c0, .slice A1 n1 c1, .slice A2 n2 c2]) (r0 : Reads w0 A0 (ints .u8 x0)) (r1 : Reads w0 A1 (ints .u8 x1)) (r2 : Reads w0 A2 (ints .u8 x2)) :
    Does Tryd.prog 52 #[.slice (some ⟨kt, 0, none⟩) 3 3] w0 [] (fun v G => ∃ (k cap : Nat) (junk : List Value), v = .slice (some ⟨k, 0, none⟩) (0 + n0 + n1 + n2) cap ∧ 0 + n0 + n1 + n2 + junk.length = cap ∧ G = [⟨some k, ints .u8 ([] ++ x0 ++ x1 ++ x2) ++ junk, 5, (0, 0)⟩]) :=
  concat_spec (three A0 A1 A2) (three n0 n1 n2) (three c0 c1 c2) (three x0 x1 x2) kt (lt3 h0 h1 h2) hpos hle w0 hT (lt3 r0 r1 r2)

end Go.Proofs.YtkoomaoelekpaaaDoor
