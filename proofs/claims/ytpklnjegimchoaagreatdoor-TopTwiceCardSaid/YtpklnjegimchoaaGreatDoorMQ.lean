/-
  The walks of the keys; hashes, keys and kinds of numbers, told as contracts.
-/
import Derived.Lib.ItoaNum
import Derived.Lib.Join
import Derived.Test.YtpklnjegimchoaaGreatDoorMA
import Derived.Test.YtpklnjegimchoaaGreatDoorME
import Derived.Test.YtpklnjegimchoaaGreatDoorMN
import Derived.Test.YtpklnjegimchoaaGreatDoorMO
import Derived.Test.YtpklnjegimchoaaGreatDoorMP
namespace Go.Proofs.YtpklnjegimchoaaGreatDoor
open Go Go.X
set_option maxRecDepth 100000 in
theorem grow_spec (n : Nat) (hpos : 0 < n) (hle : n ≤ 140737488355328) (w0 : World) : Does Tryz.prog 218 #[.slice none 0 0, .int .i64 ((n : Nat) : Int)] w0 [] (fun v G => ∃ (k cap : Nat) (junk : List Value), v = .slice (some ⟨k, 0, none⟩) 0 cap ∧ junk.length = cap ∧ n ≤ cap ∧ G = [⟨some k, junk, 5, (0, 0)⟩]) := by
  refine spec_of 27 Tryz.func218 rfl rfl rfl ?_
  refine W.go ttok [] [0, 1] rfl trivial rfl rfl ?_
  refine W.seq ?_
  refine W.sr ?_
  refine T.q (q_move rfl rfl) (Wt.plain rfl) rfl rfl ?_
  refine T.q (q_bool (b := false) (q_lss rfl rfl rfl) (decide_eq_false (by omega))) (Wt.plain rfl) rfl rfl ?_
  refine T.fin [0, 1, 6] rfl ?_
  refine W.condF rfl ?_
  refine W.skip ?_
  refine Ex.next ?_
  refine W.keep [0, 1] rfl ?_
  refine W.seq ?_
  refine W.sr ?_
  refine T.run ttok 2 [] rfl trivial rfl ?_
  refine T.q (q_cap sc22 rfl rfl) (Wt.plain rfl) rfl rfl ?_
  refine T.run ttok 3 [] rfl ⟨⟨(by omega), (by omega)⟩, trivial⟩ rfl ?_
  refine T.q (q_int (b := ((n : Nat) : Int)) (q_subi rfl rfl rfl (by omega) (by omega)) ?hE) (Wt.plain rfl) rfl rfl ?_
  case hE => omega
  refine T.runF ttok [] [0, 1] rfl trivial rfl rfl ?_
  refine W.sr ?_
  refine T.q (q_move rfl rfl) (Wt.plain rfl) rfl rfl ?_
  refine T.q (q_bool (b := true) (q_gtr rfl rfl rfl) (decide_eq_true (by omega))) (Wt.plain rfl) rfl rfl ?_
  refine T.fin [0, 1, 16] rfl ?_
  refine W.condT rfl ?_
  refine W.region ?_
  refine T.run ttok 2 [] rfl trivial rfl ?_
  refine T.q (q_cap sc22 rfl rfl) (Wt.plain rfl) rfl rfl ?_
  refine T.q (q_sl sc22 0 0 0 rfl rfl rfl ⟨_, _, rfl, by omega⟩ rfl (by first | omega | (simp; done) | (simp [-List.getD_eq_getElem?_getD]; omega)) (by first | omega | (simp; done) | (simp [-List.getD_eq_getElem?_getD]; omega)) (by first | omega | (simp; done) | (simp [-List.getD_eq_getElem?_getD]; omega)) (by simp)) (Wt.plain rfl) rfl rfl ?_
  refine T.q (q_move rfl rfl) (Wt.plain rfl) rfl rfl ?_
  refine T.eff (e_appendN sc22 un3 ze5 n (by omega) rfl rfl (cut_zero _ _) rfl (by omega) (by omega) (by omega) rfl rfl) (Wt.plain rfl) ?_
  rintro _ _ ⟨k1, cap2, junk3, hc4, rfl, rfl⟩
  change (_ : List Blk → Prop) [_]
  refine T.run ttok 2 [] rfl trivial rfl ?_
  refine T.q (q_sl sc22 0 0 cap2 rfl rfl rfl ⟨_, _, rfl, by omega⟩ rfl (by first | omega | (simp; done) | (simp [-List.getD_eq_getElem?_getD]; omega)) (by first | omega | (simp; done) | (simp [-List.getD_eq_getElem?_getD]; omega)) (by first | omega | (simp; done) | (simp [-List.getD_eq_getElem?_getD]; omega)) (by simp)) (Wt.plain rfl) rfl rfl ?_
  refine T.runF ttok [] [0] rfl trivial rfl rfl ?_
  refine W.go ttok [] [4] rfl trivial rfl rfl ?_
  refine W.ret ?_
  refine Ex.out1 [true] rfl rfl ?_
  exact ⟨_, _, ints .u8 (List.replicate n 0) ++ junk3, by rw [cut_zero] <;> rfl, by simp; omega, by omega, rfl⟩
set_option maxRecDepth 100000 in
theorem clip_spec (A : Option Addr) (len cap : Nat) (hle : len ≤ cap) (w0 : World) : Does Tryz.prog 286 #[.slice A len cap] w0 [] (fun v G => v = .slice A len len ∧ G = []) := by
  refine spec_of 9 Tryz.func286 rfl rfl rfl ?_
  refine W.go ttok [] [0] rfl trivial rfl rfl ?_
  refine W.sr ?_
  refine T.run ttok 5 [] rfl trivial rfl ?_
  refine T.q (q_sl sc22 0 len len rfl rfl rfl ⟨_, _, rfl, by omega⟩ ⟨_, _, rfl, by omega⟩ (by first | omega | (simp; done) | (simp [-List.getD_eq_getElem?_getD]; omega)) (by first | omega | (simp; done) | (simp [-List.getD_eq_getElem?_getD]; omega)) (by first | omega | (simp; done) | (simp [-List.getD_eq_getElem?_getD]; omega)) (by simp)) (Wt.plain rfl) rfl rfl ?_
  refine T.runF ttok [] [2] rfl trivial rfl rfl ?_
  refine W.ret ?_
  refine Ex.out1 [] rfl rfl ?_
  exact ⟨by rw [cut_zero] <;> rfl, rfl⟩
set_option maxRecDepth 100000 in
theorem concat_spec (A : Nat → Option Addr) (n c : Nat → Nat) (x : Nat → List Int) (kt : Nat) (hx : ∀ i, i < 3 → (x i).length = n i) (hpos : 0 < sumN n 3) (hle : sumN n 3 ≤ 140737488355328) (w0 : World) (hT : Reads w0 (some ⟨kt, 0, none⟩) ((List.range 3).map fun q => .slice (A q) (n q) (c q))) (hr : ∀ i, i < 3 → Reads w0 (A i) (ints .u8 (x i))) : Does Tryz.prog 155 #[.slice (some ⟨kt, 0, none⟩) 3 3] w0 [] (fun v G => ∃ (k cap : Nat) (junk : List Value), v = .slice (some ⟨k, 0, none⟩) (sumN n 3) cap ∧ sumN n 3 + junk.length = cap ∧ G = [⟨some k, ints .u8 (catN x 3) ++ junk, 5, (0, 0)⟩]) := by
  refine spec_of 36 Tryz.func155 rfl rfl rfl ?_
  refine W.go ttok [] [0] rfl trivial rfl rfl ?_
  refine W.go ttok [] [0, 3] rfl trivial rfl rfl ?_
  refine W.seq ?_
  refine W.go ttok [] [0, 3, 9, 10, 11] rfl trivial rfl rfl ?_
  refine W.block ?_
  refine W.loop (α := Nat) (fun i => [(0, .slice (some ⟨kt, 0, none⟩) 3 3), (3, .int .i64 (((sumN n i) : Nat) : Int)), (9, .slice (some ⟨kt, 0, none⟩) 3 3), (10, .int .i64 ((3 : Nat) : Int)), (11, .int .i64 ((i : Nat) : Int))]) (fun i => []) (fun i => i ≤ 3) (fun i => 3 - i) [] 0 (by omega) ⟨rfl, rfl, rfl, rfl, rfl, trivial⟩ rfl ?_
  rintro i hi
  refine W.go ttok [] [0, 3, 9, 10, 11, 12] rfl trivial rfl rfl ?_
  refine W.seq ?_
  refine W.cond _ rfl (fun hb1 => ?_) (fun hb1 => ?_)
  · replace hb1 := of_decide_eq_true hb1
    have hi3 : i < 3 := by omega
    have hsn : sumN n i + n i ≤ sumN n 3 := sumN_le n (i + 1) 3 (by omega)
    refine W.skip ?_
    refine Ex.next ?_
    refine W.keep [0, 3, 9, 10, 11] rfl ?_
    refine W.seq ?_
    refine W.block ?_
    refine W.sr ?_
    refine T.q (q_ixE1 sc79 i (R_ext hT.ext) rfl rfl rfl (by omega) (by omega) (by first | omega | (simp; done) | (simp [-List.getD_eq_getElem?_getD]; omega))) (Wt.plain rfl) rfl rfl ?_
    refine T.q (q_loadE ss22 (R_ext hT.ext) rfl rfl (range_map_get _ hi3)) (Wt.plain rfl) rfl rfl ?_
    refine T.runF ttok [] [0, 3, 5, 9, 10, 11] rfl trivial rfl rfl ?_
    refine W.go ttok [] [0, 3, 9, 10, 11] rfl ⟨⟨(by omega), (by omega)⟩, trivial⟩ rfl rfl ?_
    refine W.sr ?_
    refine T.q (q_move rfl rfl) (Wt.plain rfl) rfl rfl ?_
    refine T.q (q_bool (b := false) (q_lss rfl rfl rfl) (decide_eq_false (by omega))) (Wt.plain rfl) rfl rfl ?_
    refine T.fin [0, 3, 9, 10, 11, 20] rfl ?_
    refine W.condF rfl ?_
    refine W.skip ?_
    refine Ex.in_normal ?_
    refine Ex.next ?_
    refine W.keep [0, 3, 9, 10, 11] rfl ?_
    refine W.region ?_
    refine T.run ttok 2 [] rfl ⟨⟨(by omega), (by omega)⟩, trivial⟩ rfl ?_
    refine T.nil ?_
    exact Ex.again [] (i + 1) (by omega) (by omega) ⟨rfl, rfl, rfl, rfl, rfl, trivial⟩ rfl
  · replace hb1 := of_decide_eq_false hb1
    obtain rfl : i = 3 := by omega
    refine W.exit ?_
    refine Ex.then_exit ?_
    refine Ex.then_exit ?_
    refine Ex.in_here ?_
    refine Ex.next ?_
    refine W.keep [0, 3] rfl ?_
    refine W.sr ?_
    refine T.q (q_move rfl rfl) (Wt.plain rfl) rfl rfl ?_
    refine T.eff (e_call enters218 rfl rfl (fun w hm => grow_spec (sumN n 3) (by omega) (by omega) w) rfl rfl) (Wt.plain rfl) ?_
    rintro _ _ ⟨_, _, ⟨k2, cap3, junk4, rfl, hc5, hc6, rfl⟩, rfl, rfl⟩
    change (_ : List Blk → Prop) [_]
    refine T.runF ttok [] [0, 6] rfl trivial rfl rfl ?_
    refine W.seq ?_
    refine W.go ttok [] [6, 25, 26, 27] rfl trivial rfl rfl ?_
    refine W.block ?_
    refine W.loop (α := Nat × Nat × Nat × List Value) (fun x_ => [(6, .slice (some ⟨x_.2.1, 0, none⟩) (sumN n x_.1) x_.2.2.1), (25, .slice (some ⟨kt, 0, none⟩) 3 3), (26, .int .i64 ((3 : Nat) : Int)), (27, .int .i64 ((x_.1 : Nat) : Int))]) (fun x_ => [⟨some x_.2.1, ints .u8 (catN x x_.1) ++ x_.2.2.2, 5, (0, 0)⟩]) (fun x_ => x_.1 ≤ 3 ∧ sumN n x_.1 + x_.2.2.2.length = x_.2.2.1) (fun x_ => 3 - x_.1) [true] (⟨0, k2, cap3, junk4⟩) ⟨by dsimp only; omega, by dsimp only [sumN]; omega⟩ ⟨rfl, rfl, rfl, rfl, trivial⟩ rfl ?_
    rintro ⟨i, kq, cq, jq⟩ ⟨hi, hq⟩
    conv => rhs; dsimp only
    conv => arg -2; dsimp only
    dsimp only at hi hq
    refine W.go ttok [] [6, 25, 26, 27, 28] rfl trivial rfl rfl ?_
    refine W.seq ?_
    refine W.cond _ rfl (fun hb7 => ?_) (fun hb7 => ?_)
    · replace hb7 := of_decide_eq_true hb7
      have hi3 : i < 3 := by omega
      have hsn : sumN n i + n i ≤ sumN n 3 := sumN_le n (i + 1) 3 (by omega)
      refine W.skip ?_
      refine Ex.next ?_
      refine W.keep [6, 25, 26, 27] rfl ?_
      refine W.seq ?_
      refine W.block ?_
      refine W.sr ?_
      refine T.q (q_ixE1 sc79 i (R_ext hT.ext) rfl rfl rfl (by omega) (by omega) (by first | omega | (simp; done) | (simp [-List.getD_eq_getElem?_getD]; omega))) (Wt.plain rfl) rfl rfl ?_
      refine T.q (q_loadE ss22 (R_ext hT.ext) rfl rfl (range_map_get _ hi3)) (Wt.plain rfl) rfl rfl ?_
      refine T.runF ttok [] [6, 8, 25, 26, 27] rfl trivial rfl rfl ?_
      refine W.region ?_
      refine T.run ttok 2 [] rfl trivial rfl ?_
      refine T.eff (e_appendI sc22 ze5 rfl 0 .u8 (catN x i) (x i) jq (rfl) (R_ext (hr i hi3).ext) rfl rfl rfl rfl (catN_length hx i (by omega)) (by rw [catN_length hx i (by omega)]; exact hq) (hx i hi3) (by first | omega | (simp; done) | (simp [-List.getD_eq_getElem?_getD]; omega)) (by first | omega | (simp; done) | (simp [-List.getD_eq_getElem?_getD]; omega)) rfl rfl) (Wt.plain rfl) ?_
      rintro _ _ ⟨k8, cap9, junk10, hc11, rfl, rfl⟩
      change (_ : List Blk → Prop) [_]
      refine T.q (q_assign rfl rfl) (Wt.plain rfl) rfl rfl ?_
      refine T.nil ?_
      refine Ex.in_normal ?_
      refine Ex.next ?_
      refine W.keep [6, 25, 26, 27] rfl ?_
      refine W.region ?_
      refine T.run ttok 2 [] rfl ⟨⟨(by omega), (by omega)⟩, trivial⟩ rfl ?_
      refine T.nil ?_
      exact Ex.again [true] (⟨i + 1, k8, cap9, junk10⟩ : Nat × Nat × Nat × List Value) (by dsimp only; omega) ⟨by dsimp only; omega, by dsimp only [sumN]; omega⟩ ⟨rfl, rfl, rfl, rfl, trivial⟩ (by first | (dsimp only [pick]; done) | rfl)
    · replace hb7 := of_decide_eq_false hb7
      obtain rfl : i = 3 := by omega
      refine W.exit ?_
      refine Ex.then_exit ?_
      refine Ex.then_exit ?_
      refine Ex.in_here ?_
      refine Ex.next ?_
      refine W.keep [6] rfl ?_
      refine W.go ttok [] [2] rfl trivial rfl rfl ?_
      refine W.ret ?_
      refine Ex.out1 [true] rfl rfl ?_
      exact ⟨_, _, _, rfl, hq, rfl⟩
theorem concat3 (A0 A1 A2 : Option Addr) (n0 n1 n2 c0 c1 c2 : Nat) (x0 x1 x2 : List Int) (kt : Nat) (h0 : x0.length = n0) (h1 : x1.length = n1) (h2 : x2.length = n2) (hpos : 0 < 0 + n0 + n1 + n2) (hle : 0 + n0 + n1 + n2 ≤ 140737488355328) (w0 : World)
    (hT : Reads w0 (some ⟨kt, 0, none⟩) [.slice A0 n0 c0, .slice A1 n1 c1, .slice A2 n2 c2]) (r0 : Reads w0 A0 (ints .u8 x0)) (r1 : Reads w0 A1 (ints .u8 x1)) (r2 : Reads w0 A2 (ints .u8 x2)) :
    Does Tryz.prog 155 #[.slice (some ⟨kt, 0, none⟩) 3 3] w0 [] (fun v G => ∃ (k cap : Nat) (junk : List Value), v = .slice (some ⟨k, 0, none⟩) (0 + n0 + n1 + n2) cap ∧ 0 + n0 + n1 + n2 + junk.length = cap ∧ G = [⟨some k, ints .u8 ([] ++ x0 ++ x1 ++ x2) ++ junk, 5, (0, 0)⟩]) :=
  concat_spec (three A0 A1 A2) (three n0 n1 n2) (three c0 c1 c2) (three x0 x1 x2) kt (lt3 h0 h1 h2) hpos hle w0 hT (lt3 r0 r1 r2)
end Go.Proofs.YtpklnjegimchoaaGreatDoor
namespace Go.Proofs.YtpklnjegimchoaaGreatDoor
open Go Go.X
set_option maxRecDepth 100000 in
set_option maxHeartbeats 2000000 in
theorem expand_spec (key info : List Int) (IA : Option Addr) (ic : Nat) (hk : key.length = 32) (hic : info.length ≤ ic) (hil : info.length ≤ 140737488354800) (n : Nat) (hn : n ≤ 8160) (w0 : World) (hI : Reads w0 IA (ints .u8 info)) (hg0 : Reads w0 (some ⟨3, 0, none⟩) (ints .u32 startW)) (hg1 : Reads w0 (some ⟨8, 0, none⟩) (ints .u8 sgm)) (hg2 : Reads w0 (some ⟨9, 0, none⟩) (ints .u8 tbl)) : Does Tryz.prog 271 #[.agg (ints .u8 key).toArray, .slice IA info.length ic, .int .i64 ((n : Nat) : Int)] w0 [] (fun v G => ∃ (no : Option Nat) (junk : List Value), v = .tuple #[.slice (no.map fun k => (⟨k, 0, none⟩ : Addr)) n n, .int .i64 0] ∧ (0 < n → no.isSome = true) ∧ G = [⟨no, ints .u8 (expS key info n) ++ junk, 5, (0, 0)⟩]) := by
  refine spec_of 44 Tryz.func271 rfl rfl rfl ?_
  refine W.sr ?_
  refine T.eff (e_box rfl rfl rfl rfl) (Wt.plain rfl) ?_
  rintro _ _ ⟨k1, rfl, rfl⟩
  change (_ : List Blk → Prop) [_]
  refine T.runF ttok [] [1, 2, 3] rfl trivial rfl rfl ?_
  refine W.seq ?_
  refine W.sr ?_
  refine T.q (q_move rfl rfl) (Wt.plain rfl) rfl rfl ?_
  refine T.q (q_bool (b := false) (q_lss rfl rfl rfl) (decide_eq_false (by omega))) (Wt.plain rfl) rfl rfl ?_
  refine T.run ttok 2 [] rfl trivial rfl ?_
  refine T.q (q_bool (b := false) (q_gtr rfl rfl rfl) (decide_eq_false (by omega))) (Wt.yes rfl rfl rfl) rfl rfl ?_
  refine T.runF ttok [] [1, 2, 3, 17] rfl trivial rfl rfl ?_
  refine W.condF rfl ?_
  refine W.skip ?_
  refine Ex.next ?_
  refine W.keep [1, 2, 3] rfl ?_
  refine W.go ttok [] [1, 2, 3, 8, 9] rfl trivial rfl rfl ?_
  refine W.seq ?_
  refine W.sr ?_
  refine T.run ttok 3 [] rfl ⟨⟨(by omega), (by omega)⟩, ⟨(by omega), (by omega)⟩, trivial⟩ rfl ?_
  refine T.q (q_int (b := ((((n + 31) / 32) : Nat) : Int)) (q_quo rfl rfl rfl (by omega) (by omega) (by decide)) ?hE) (Wt.plain rfl) rfl rfl ?_
  case hE => omega
  refine T.runF ttok [] [1, 2, 3, 8, 9, 21, 22] rfl trivial rfl rfl ?_
  refine W.block ?_
  refine W.ghost 5 ?_
  change (_ : List Blk → Prop) [_, _]
  refine W.ghost 38 ?_
  change (_ : List Blk → Prop) [_, _, _]
  refine W.loop (α := Nat × Option Nat × Nat × List Value × Option Nat × Nat × Nat) (fun x_ => [(1, .slice IA info.length ic), (2, .int .i64 ((n : Nat) : Int)), (3, .pointer (some ⟨k1, 0, none⟩)), (8, .slice (x_.2.1.map fun k => (⟨k, 0, none⟩ : Addr)) (32 * x_.1) x_.2.2.1), (9, .slice (x_.2.2.2.2.1.map fun k => (⟨k, 0, none⟩ : Addr)) x_.2.2.2.2.2.1 x_.2.2.2.2.2.2), (21, .int .i64 ((((n + 31) / 32) : Nat) : Int)), (22, .int .i64 ((x_.1 : Nat) : Int))]) (fun x_ => [⟨some k1, ints .u8 key, 38, (0, 0)⟩, ⟨x_.2.1, ints .u8 (outT key info x_.1) ++ x_.2.2.2.1, 5, (0, 0)⟩, ⟨x_.2.2.2.2.1, ints .u8 (lastT key info x_.1), 38, (0, 0)⟩]) (fun x_ => x_.1 ≤ ((n + 31) / 32) ∧ 32 * x_.1 + x_.2.2.2.1.length = x_.2.2.1 ∧ (0 < x_.1 → x_.2.1.isSome = true) ∧ (lastT key info x_.1).length = x_.2.2.2.2.2.1 ∧ x_.2.2.2.2.2.1 ≤ x_.2.2.2.2.2.2 ∧ x_.2.2.2.2.2.1 ≤ 32) (fun x_ => ((n + 31) / 32) - x_.1) [true, true, true] (⟨0, none, 0, [], none, 0, 0⟩) ⟨by dsimp only; omega, rfl, fun h => absurd h (by decide), rfl, Nat.le_refl _, by dsimp only; omega⟩ ⟨rfl, rfl, rfl, rfl, rfl, rfl, rfl, trivial⟩ rfl ?_
  rintro ⟨i, n8, c8, j8, n9, l9, c9⟩ ⟨hi, hj8, hs8, hl9, hc9, h32⟩
  conv => rhs; dsimp only
  conv => arg -2; dsimp only
  dsimp only at hi hj8 hs8 hl9 hc9 h32
  refine W.go ttok [] [1, 2, 3, 8, 9, 21, 22, 23] rfl trivial rfl rfl ?_
  refine W.seq ?_
  refine W.cond _ rfl (fun hb2 => ?_) (fun hb2 => ?_)
  · replace hb2 := of_decide_eq_true hb2
    refine W.skip ?_
    refine Ex.next ?_
    refine W.keep [1, 2, 3, 8, 9, 21, 22] rfl ?_
    refine W.seq ?_
    refine W.block ?_
    refine W.go ttok [] [1, 2, 3, 8, 9, 10, 21, 22] rfl trivial rfl rfl ?_
    refine W.seq ?_
    refine W.draw 11 (by kernel_rfl) ?_
    refine D.take 0 rfl (by kernel_rfl) (fun _ h => h) (q_slAll ar38 rfl rfl) (Wt.plain rfl) rfl rfl ?_
    refine D.take 1 rfl (by kernel_rfl) (fun _ h => h) (q_move rfl rfl) (Wt.plain rfl) rfl rfl ?_
    refine D.take 2 rfl (by kernel_rfl) (fun _ h => h) (q_move rfl rfl) (Wt.plain rfl) rfl rfl ?_
    refine D.take 3 rfl (by kernel_rfl) (fun _ h => h) (q_move rfl rfl) (Wt.plain rfl) rfl rfl ?_
    refine D.take 4 rfl (by kernel_rfl) (fun _ h => h) (q_int (b := (((i + 1) : Nat) : Int)) (q_addi rfl rfl rfl (by omega) (by omega)) ?hE) (Wt.plain rfl) rfl rfl ?_
    case hE => omega
    refine D.take 5 rfl (by kernel_rfl) (fun _ h => h) (q_conv un3 un5 rfl rfl) (Wt.plain rfl) rfl rfl ?_
    refine D.two 6 10 (by kernel_rfl) ?_ ?_
    ·
      refine Up.eff rfl (e_litA sc22 ze5 rfl rfl rfl (by simp [Value.cells]) rfl rfl rfl) (Wt.plain rfl) ?_
      rintro _ _ ⟨k3, rfl, rfl⟩
      refine ⟨fun _ => (S_sub (((((List.Sublist.slnil).cons _).cons_cons _).cons_cons _).cons_cons _)), ?_⟩
      change (_ : List Blk → Prop) [_, _, _, _]
      refine D.two 7 10 (by kernel_rfl) ?_ ?_
      ·
        refine Up.eff rfl (e_litA sc79 ze22 rfl rfl rfl (by simp [Value.cells]) rfl rfl rfl) (Wt.plain rfl) ?_
        rintro _ _ ⟨k4, rfl, rfl⟩
        refine ⟨fun _ => (S_sub ((((((List.Sublist.slnil).cons _).cons _).cons_cons _).cons_cons _).cons_cons _)), ?_⟩
        change (_ : List Blk → Prop) [_, _, _, _, _]
        refine D.two 8 10 (by kernel_rfl) ?_ ?_
        ·
          refine Up.eff rfl (e_call enters155 rfl rfl (fun w hm => concat3 _ _ _ _ _ _ _ _ _ (lastT key info i) info [IntKind.u8.wrap (((i + 1) : Nat) : Int)] k4 (by first | omega | (simp; done) | (simp [-List.getD_eq_getElem?_getD]; omega) | (simp at *; omega) | rfl) (by first | omega | (simp; done) | (simp [-List.getD_eq_getElem?_getD]; omega) | (simp at *; omega) | rfl) (by first | omega | (simp; done) | (simp [-List.getD_eq_getElem?_getD]; omega) | (simp at *; omega) | rfl) (by omega) (by omega) w ((R_blk 4 rfl) w hm) ((R_own 2 rfl) w hm) ((R_ext hI.ext) w hm) ((R_blk 3 rfl) w hm)) rfl rfl) (Wt.plain rfl) ?_
          rintro _ _ ⟨_, _, ⟨k5, cap6, junk7, rfl, hc8, rfl⟩, rfl, rfl⟩
          refine ⟨fun _ => (S_sub (((((((List.Sublist.slnil).cons _).cons _).cons _).cons_cons _).cons_cons _).cons_cons _)), ?_⟩
          change (_ : List Blk → Prop) [_, _, _, _, _, _]
          refine D.two 9 10 (by kernel_rfl) ?_ ?_
          ·
            refine Up.eff rfl (e_call enters274 rfl rfl (fun w hm => mac_at key ((lastT key info i) ++ info ++ [IntKind.u8.wrap (((i + 1) : Nat) : Int)]) _ _ _ _ (by first | omega | (simp; done) | (simp; omega) | (simp at *; omega)) (by first | omega | (simp; done) | (simp; omega) | (simp at *; omega)) (by first | omega | (simp; done) | (simp; omega) | (simp at *; omega)) (by first | omega | (simp; done) | (simp; omega) | (simp at *; omega)) w ((R_blk 0 rfl) w hm) ((R_pre 5 rfl) w hm) (R_ext hg0.ext w hm) (R_ext hg1.ext w hm) (R_ext hg2.ext w hm) (by first | omega | (simp; done) | (simp [-List.getD_eq_getElem?_getD]; omega) | (simp at *; omega) | rfl) (by first | omega | (simp; done) | (simp [-List.getD_eq_getElem?_getD]; omega) | (simp at *; omega) | rfl)) rfl rfl) (Wt.plain rfl) ?_
            rintro _ _ ⟨_, _, ⟨rfl, rfl⟩, rfl, rfl⟩
            refine ⟨fun _ => (S_sub (((((((List.Sublist.slnil).cons _).cons _).cons _).cons_cons _).cons_cons _).cons_cons _)), ?_⟩
            change (_ : List Blk → Prop) [_, _, _, _, _, _]
            refine D.one 10 (by kernel_rfl) ?_
            refine Up.eff rfl (e_alloc ze38 rfl rfl rfl) (Wt.plain rfl) ?_
            rintro _ _ ⟨k9, rfl, rfl⟩
            refine ⟨fun _ => (S_sub ((((((((List.Sublist.slnil).cons _).cons _).cons _).cons _).cons_cons _).cons_cons _).cons_cons _)), ?_⟩
            change (_ : List Blk → Prop) [_, _, _, _, _, _, _]
            refine D.one 11 (by kernel_rfl) ?_
            refine Up.eff rfl (e_storeA (wide_ints wd38 (by first | omega | (simp; done) | (simp [-List.getD_eq_getElem?_getD]; omega) | (simp at *; omega) | rfl)) 6 rfl rfl rfl rfl (by first | omega | (simp; done) | (simp [-List.getD_eq_getElem?_getD]; omega) | (simp at *; omega) | rfl) ints_one rfl) (Wt.plain rfl) ?_
            rintro _ _ ⟨rfl, rfl⟩
            refine ⟨fun h => absurd h (by decide), ?_⟩
            change (_ : List Blk → Prop) [_, _, _, _, _, _, _]
            refine D.done (by kernel_rfl) ?_
            refine Ex.next ?_
            refine W.drop [true, true, false, false, false, false, true] [1, 2, 3, 8, 11, 21, 22] rfl ?_
            change (_ : List Blk → Prop) [_, _, _]
            refine W.sr ?_
            refine T.q (q_slAll ar38 rfl rfl) (Wt.plain rfl) rfl rfl ?_
            refine T.runF ttok [] [1, 2, 3, 8, 9, 21, 22] rfl trivial rfl rfl ?_
            refine W.region ?_
            refine T.run ttok 2 [] rfl trivial rfl ?_
            refine T.eff (e_appendO sc22 ze5 rfl 1 .u8 (outT key info i) (macS key ((lastT key info i) ++ info ++ [IntKind.u8.wrap (((i + 1) : Nat) : Int)])) j8 (rfl) (R_blk 2 rfl) rfl rfl rfl rfl (by first | omega | (simp; done) | (simp [-List.getD_eq_getElem?_getD]; omega) | (simp at *; omega) | rfl) (by first | omega | (simp; done) | (simp [-List.getD_eq_getElem?_getD]; omega) | (simp at *; omega) | rfl) (by first | omega | (simp; done) | (simp [-List.getD_eq_getElem?_getD]; omega) | (simp at *; omega) | rfl) (by omega) (by first | omega | (simp; done) | (simp [-List.getD_eq_getElem?_getD]; omega)) (by first | omega | (simp; done) | (simp [-List.getD_eq_getElem?_getD]; omega)) rfl rfl) (Wt.plain rfl) ?_
            rintro _ _ ⟨k10, cap11, junk12, hc13, rfl, rfl⟩
            change (_ : List Blk → Prop) [_, _, _]
            refine T.q (q_assign rfl rfl) (Wt.plain rfl) rfl rfl ?_
            refine T.nil ?_
            refine Ex.in_normal ?_
            refine Ex.next ?_
            refine W.keep [1, 2, 3, 8, 9, 21, 22] rfl ?_
            refine W.region ?_
            refine T.run ttok 2 [] rfl ⟨⟨(by omega), (by omega)⟩, trivial⟩ rfl ?_
            refine T.nil ?_
            exact Ex.again [true, true, true] (⟨i + 1, some k10, cap11, junk12, some k9, 32, 32⟩ : Nat × Option Nat × Nat × List Value × Option Nat × Nat × Nat) (by dsimp only; omega) ⟨by dsimp only; omega, by dsimp only; omega, fun _ => rfl, lastT_succ _ _ _, Nat.le_refl _, by dsimp only; omega⟩ ⟨rfl, rfl, rfl, rfl, rfl, rfl, rfl, trivial⟩ (by first | (dsimp only [pick]; done) | rfl)
          ·
            refine Up.eff rfl (e_alloc ze38 rfl rfl rfl) (Wt.plain rfl) ?_
            rintro _ _ ⟨k14, rfl, rfl⟩
            refine ⟨fun _ => (S_sub ((((((((List.Sublist.slnil).cons _).cons _).cons _).cons _).cons_cons _).cons_cons _).cons_cons _)), ?_⟩
            change (_ : List Blk → Prop) [_, _, _, _, _, _, _]
            refine D.one 9 (by kernel_rfl) ?_
            refine Up.eff rfl (e_call enters274 rfl rfl (fun w hm => mac_at key ((lastT key info i) ++ info ++ [IntKind.u8.wrap (((i + 1) : Nat) : Int)]) _ _ _ _ (by first | omega | (simp; done) | (simp; omega) | (simp at *; omega)) (by first | omega | (simp; done) | (simp; omega) | (simp at *; omega)) (by first | omega | (simp; done) | (simp; omega) | (simp at *; omega)) (by first | omega | (simp; done) | (simp; omega) | (simp at *; omega)) w ((R_blk 0 rfl) w hm) ((R_pre 5 rfl) w hm) (R_ext hg0.ext w hm) (R_ext hg1.ext w hm) (R_ext hg2.ext w hm) (by first | omega | (simp; done) | (simp [-List.getD_eq_getElem?_getD]; omega) | (simp at *; omega) | rfl) (by first | omega | (simp; done) | (simp [-List.getD_eq_getElem?_getD]; omega) | (simp at *; omega) | rfl)) rfl rfl) (Wt.plain rfl) ?_
            rintro _ _ ⟨_, _, ⟨rfl, rfl⟩, rfl, rfl⟩
            refine ⟨fun _ => (S_sub ((((((((List.Sublist.slnil).cons _).cons _).cons _).cons _).cons_cons _).cons_cons _).cons_cons _)), ?_⟩
            change (_ : List Blk → Prop) [_, _, _, _, _, _, _]
            refine D.one 11 (by kernel_rfl) ?_
            refine Up.eff rfl (e_storeA (wide_ints wd38 (by first | omega | (simp; done) | (simp [-List.getD_eq_getElem?_getD]; omega) | (simp at *; omega) | rfl)) 6 rfl rfl rfl rfl (by first | omega | (simp; done) | (simp [-List.getD_eq_getElem?_getD]; omega) | (simp at *; omega) | rfl) ints_one rfl) (Wt.plain rfl) ?_
            rintro _ _ ⟨rfl, rfl⟩
            refine ⟨fun h => absurd h (by decide), ?_⟩
            change (_ : List Blk → Prop) [_, _, _, _, _, _, _]
            refine D.done (by kernel_rfl) ?_
            refine Ex.next ?_
            refine W.drop [true, true, false, false, false, false, true] [1, 2, 3, 8, 11, 21, 22] rfl ?_
            change (_ : List Blk → Prop) [_, _, _]
            refine W.sr ?_
            refine T.q (q_slAll ar38 rfl rfl) (Wt.plain rfl) rfl rfl ?_
            refine T.runF ttok [] [1, 2, 3, 8, 9, 21, 22] rfl trivial rfl rfl ?_
            refine W.region ?_
            refine T.run ttok 2 [] rfl trivial rfl ?_
            refine T.eff (e_appendO sc22 ze5 rfl 1 .u8 (outT key info i) (macS key ((lastT key info i) ++ info ++ [IntKind.u8.wrap (((i + 1) : Nat) : Int)])) j8 (rfl) (R_blk 2 rfl) rfl rfl rfl rfl (by first | omega | (simp; done) | (simp [-List.getD_eq_getElem?_getD]; omega) | (simp at *; omega) | rfl) (by first | omega | (simp; done) | (simp [-List.getD_eq_getElem?_getD]; omega) | (simp at *; omega) | rfl) (by first | omega | (simp; done) | (simp [-List.getD_eq_getElem?_getD]; omega) | (simp at *; omega) | rfl) (by omega) (by first | omega | (simp; done) | (simp [-List.getD_eq_getElem?_getD]; omega)) (by first | omega | (simp; done) | (simp [-List.getD_eq_getElem?_getD]; omega)) rfl rfl) (Wt.plain rfl) ?_
            rintro _ _ ⟨k15, cap16, junk17, hc18, rfl, rfl⟩
            change (_ : List Blk → Prop) [_, _, _]
            refine T.q (q_assign rfl rfl) (Wt.plain rfl) rfl rfl ?_
            refine T.nil ?_
            refine Ex.in_normal ?_
            refine Ex.next ?_
            refine W.keep [1, 2, 3, 8, 9, 21, 22] rfl ?_
            refine W.region ?_
            refine T.run ttok 2 [] rfl ⟨⟨(by omega), (by omega)⟩, trivial⟩ rfl ?_
            refine T.nil ?_
            exact Ex.again [true, true, true] (⟨i + 1, some k15, cap16, junk17, some k14, 32, 32⟩ : Nat × Option Nat × Nat × List Value × Option Nat × Nat × Nat) (by dsimp only; omega) ⟨by dsimp only; omega, by dsimp only; omega, fun _ => rfl, lastT_succ _ _ _, Nat.le_refl _, by dsimp only; omega⟩ ⟨rfl, rfl, rfl, rfl, rfl, rfl, rfl, trivial⟩ (by first | (dsimp only [pick]; done) | rfl)
        ·
          refine Up.eff rfl (e_alloc ze38 rfl rfl rfl) (Wt.plain rfl) ?_
          rintro _ _ ⟨k19, rfl, rfl⟩
          refine ⟨fun _ => (S_sub (((((((List.Sublist.slnil).cons _).cons _).cons _).cons_cons _).cons_cons _).cons_cons _)), ?_⟩
          change (_ : List Blk → Prop) [_, _, _, _, _, _]
          refine D.one 8 (by kernel_rfl) ?_
          refine Up.eff rfl (e_call enters155 rfl rfl (fun w hm => concat3 _ _ _ _ _ _ _ _ _ (lastT key info i) info [IntKind.u8.wrap (((i + 1) : Nat) : Int)] k4 (by first | omega | (simp; done) | (simp [-List.getD_eq_getElem?_getD]; omega) | (simp at *; omega) | rfl) (by first | omega | (simp; done) | (simp [-List.getD_eq_getElem?_getD]; omega) | (simp at *; omega) | rfl) (by first | omega | (simp; done) | (simp [-List.getD_eq_getElem?_getD]; omega) | (simp at *; omega) | rfl) (by omega) (by omega) w ((R_blk 4 rfl) w hm) ((R_own 2 rfl) w hm) ((R_ext hI.ext) w hm) ((R_blk 3 rfl) w hm)) rfl rfl) (Wt.plain rfl) ?_
          rintro _ _ ⟨_, _, ⟨k20, cap21, junk22, rfl, hc23, rfl⟩, rfl, rfl⟩
          refine ⟨fun _ => (S_sub ((((((((List.Sublist.slnil).cons _).cons _).cons _).cons _).cons_cons _).cons_cons _).cons_cons _)), ?_⟩
          change (_ : List Blk → Prop) [_, _, _, _, _, _, _]
          refine D.one 9 (by kernel_rfl) ?_
          refine Up.eff rfl (e_call enters274 rfl rfl (fun w hm => mac_at key ((lastT key info i) ++ info ++ [IntKind.u8.wrap (((i + 1) : Nat) : Int)]) _ _ _ _ (by first | omega | (simp; done) | (simp; omega) | (simp at *; omega)) (by first | omega | (simp; done) | (simp; omega) | (simp at *; omega)) (by first | omega | (simp; done) | (simp; omega) | (simp at *; omega)) (by first | omega | (simp; done) | (simp; omega) | (simp at *; omega)) w ((R_blk 0 rfl) w hm) ((R_pre 6 rfl) w hm) (R_ext hg0.ext w hm) (R_ext hg1.ext w hm) (R_ext hg2.ext w hm) (by first | omega | (simp; done) | (simp [-List.getD_eq_getElem?_getD]; omega) | (simp at *; omega) | rfl) (by first | omega | (simp; done) | (simp [-List.getD_eq_getElem?_getD]; omega) | (simp at *; omega) | rfl)) rfl rfl) (Wt.plain rfl) ?_
          rintro _ _ ⟨_, _, ⟨rfl, rfl⟩, rfl, rfl⟩
          refine ⟨fun _ => (S_sub ((((((((List.Sublist.slnil).cons _).cons _).cons _).cons _).cons_cons _).cons_cons _).cons_cons _)), ?_⟩
          change (_ : List Blk → Prop) [_, _, _, _, _, _, _]
          refine D.one 11 (by kernel_rfl) ?_
          refine Up.eff rfl (e_storeA (wide_ints wd38 (by first | omega | (simp; done) | (simp [-List.getD_eq_getElem?_getD]; omega) | (simp at *; omega) | rfl)) 5 rfl rfl rfl rfl (by first | omega | (simp; done) | (simp [-List.getD_eq_getElem?_getD]; omega) | (simp at *; omega) | rfl) ints_one rfl) (Wt.plain rfl) ?_
          rintro _ _ ⟨rfl, rfl⟩
          refine ⟨fun h => absurd h (by decide), ?_⟩
          change (_ : List Blk → Prop) [_, _, _, _, _, _, _]
          refine D.done (by kernel_rfl) ?_
          refine Ex.next ?_
          refine W.drop [true, true, false, false, false, true, false] [1, 2, 3, 8, 11, 21, 22] rfl ?_
          change (_ : List Blk → Prop) [_, _, _]
          refine W.sr ?_
          refine T.q (q_slAll ar38 rfl rfl) (Wt.plain rfl) rfl rfl ?_
          refine T.runF ttok [] [1, 2, 3, 8, 9, 21, 22] rfl trivial rfl rfl ?_
          refine W.region ?_
          refine T.run ttok 2 [] rfl trivial rfl ?_
          refine T.eff (e_appendO sc22 ze5 rfl 1 .u8 (outT key info i) (macS key ((lastT key info i) ++ info ++ [IntKind.u8.wrap (((i + 1) : Nat) : Int)])) j8 (rfl) (R_blk 2 rfl) rfl rfl rfl rfl (by first | omega | (simp; done) | (simp [-List.getD_eq_getElem?_getD]; omega) | (simp at *; omega) | rfl) (by first | omega | (simp; done) | (simp [-List.getD_eq_getElem?_getD]; omega) | (simp at *; omega) | rfl) (by first | omega | (simp; done) | (simp [-List.getD_eq_getElem?_getD]; omega) | (simp at *; omega) | rfl) (by omega) (by first | omega | (simp; done) | (simp [-List.getD_eq_getElem?_getD]; omega)) (by first | omega | (simp; done) | (simp [-List.getD_eq_getElem?_getD]; omega)) rfl rfl) (Wt.plain rfl) ?_
          rintro _ _ ⟨k24, cap25, junk26, hc27, rfl, rfl⟩
          change (_ : List Blk → Prop) [_, _, _]
          refine T.q (q_assign rfl rfl) (Wt.plain rfl) rfl rfl ?_
          refine T.nil ?_
          refine Ex.in_normal ?_
          refine Ex.next ?_
          refine W.keep [1, 2, 3, 8, 9, 21, 22] rfl ?_
          refine W.region ?_
          refine T.run ttok 2 [] rfl ⟨⟨(by omega), (by omega)⟩, trivial⟩ rfl ?_
          refine T.nil ?_
          exact Ex.again [true, true, true] (⟨i + 1, some k24, cap25, junk26, some k19, 32, 32⟩ : Nat × Option Nat × Nat × List Value × Option Nat × Nat × Nat) (by dsimp only; omega) ⟨by dsimp only; omega, by dsimp only; omega, fun _ => rfl, lastT_succ _ _ _, Nat.le_refl _, by dsimp only; omega⟩ ⟨rfl, rfl, rfl, rfl, rfl, rfl, rfl, trivial⟩ (by first | (dsimp only [pick]; done) | rfl)
      ·
        refine Up.eff rfl (e_alloc ze38 rfl rfl rfl) (Wt.plain rfl) ?_
        rintro _ _ ⟨k28, rfl, rfl⟩
        refine ⟨fun _ => (S_sub ((((((List.Sublist.slnil).cons _).cons _).cons_cons _).cons_cons _).cons_cons _)), ?_⟩
        change (_ : List Blk → Prop) [_, _, _, _, _]
        refine D.one 7 (by kernel_rfl) ?_
        refine Up.eff rfl (e_litA sc79 ze22 rfl rfl rfl (by simp [Value.cells]) rfl rfl rfl) (Wt.plain rfl) ?_
        rintro _ _ ⟨k29, rfl, rfl⟩
        refine ⟨fun _ => (S_sub (((((((List.Sublist.slnil).cons _).cons _).cons _).cons_cons _).cons_cons _).cons_cons _)), ?_⟩
        change (_ : List Blk → Prop) [_, _, _, _, _, _]
        refine D.one 8 (by kernel_rfl) ?_
        refine Up.eff rfl (e_call enters155 rfl rfl (fun w hm => concat3 _ _ _ _ _ _ _ _ _ (lastT key info i) info [IntKind.u8.wrap (((i + 1) : Nat) : Int)] k29 (by first | omega | (simp; done) | (simp [-List.getD_eq_getElem?_getD]; omega) | (simp at *; omega) | rfl) (by first | omega | (simp; done) | (simp [-List.getD_eq_getElem?_getD]; omega) | (simp at *; omega) | rfl) (by first | omega | (simp; done) | (simp [-List.getD_eq_getElem?_getD]; omega) | (simp at *; omega) | rfl) (by omega) (by omega) w ((R_blk 5 rfl) w hm) ((R_own 2 rfl) w hm) ((R_ext hI.ext) w hm) ((R_blk 3 rfl) w hm)) rfl rfl) (Wt.plain rfl) ?_
        rintro _ _ ⟨_, _, ⟨k30, cap31, junk32, rfl, hc33, rfl⟩, rfl, rfl⟩
        refine ⟨fun _ => (S_sub ((((((((List.Sublist.slnil).cons _).cons _).cons _).cons _).cons_cons _).cons_cons _).cons_cons _)), ?_⟩
        change (_ : List Blk → Prop) [_, _, _, _, _, _, _]
        refine D.one 9 (by kernel_rfl) ?_
        refine Up.eff rfl (e_call enters274 rfl rfl (fun w hm => mac_at key ((lastT key info i) ++ info ++ [IntKind.u8.wrap (((i + 1) : Nat) : Int)]) _ _ _ _ (by first | omega | (simp; done) | (simp; omega) | (simp at *; omega)) (by first | omega | (simp; done) | (simp; omega) | (simp at *; omega)) (by first | omega | (simp; done) | (simp; omega) | (simp at *; omega)) (by first | omega | (simp; done) | (simp; omega) | (simp at *; omega)) w ((R_blk 0 rfl) w hm) ((R_pre 6 rfl) w hm) (R_ext hg0.ext w hm) (R_ext hg1.ext w hm) (R_ext hg2.ext w hm) (by first | omega | (simp; done) | (simp [-List.getD_eq_getElem?_getD]; omega) | (simp at *; omega) | rfl) (by first | omega | (simp; done) | (simp [-List.getD_eq_getElem?_getD]; omega) | (simp at *; omega) | rfl)) rfl rfl) (Wt.plain rfl) ?_
        rintro _ _ ⟨_, _, ⟨rfl, rfl⟩, rfl, rfl⟩
        refine ⟨fun _ => (S_sub ((((((((List.Sublist.slnil).cons _).cons _).cons _).cons _).cons_cons _).cons_cons _).cons_cons _)), ?_⟩
        change (_ : List Blk → Prop) [_, _, _, _, _, _, _]
        refine D.one 11 (by kernel_rfl) ?_
        refine Up.eff rfl (e_storeA (wide_ints wd38 (by first | omega | (simp; done) | (simp [-List.getD_eq_getElem?_getD]; omega) | (simp at *; omega) | rfl)) 4 rfl rfl rfl rfl (by first | omega | (simp; done) | (simp [-List.getD_eq_getElem?_getD]; omega) | (simp at *; omega) | rfl) ints_one rfl) (Wt.plain rfl) ?_
        rintro _ _ ⟨rfl, rfl⟩
        refine ⟨fun h => absurd h (by decide), ?_⟩
        change (_ : List Blk → Prop) [_, _, _, _, _, _, _]
        refine D.done (by kernel_rfl) ?_
        refine Ex.next ?_
        refine W.drop [true, true, false, false, true, false, false] [1, 2, 3, 8, 11, 21, 22] rfl ?_
        change (_ : List Blk → Prop) [_, _, _]
        refine W.sr ?_
        refine T.q (q_slAll ar38 rfl rfl) (Wt.plain rfl) rfl rfl ?_
        refine T.runF ttok [] [1, 2, 3, 8, 9, 21, 22] rfl trivial rfl rfl ?_
        refine W.region ?_
        refine T.run ttok 2 [] rfl trivial rfl ?_
        refine T.eff (e_appendO sc22 ze5 rfl 1 .u8 (outT key info i) (macS key ((lastT key info i) ++ info ++ [IntKind.u8.wrap (((i + 1) : Nat) : Int)])) j8 (rfl) (R_blk 2 rfl) rfl rfl rfl rfl (by first | omega | (simp; done) | (simp [-List.getD_eq_getElem?_getD]; omega) | (simp at *; omega) | rfl) (by first | omega | (simp; done) | (simp [-List.getD_eq_getElem?_getD]; omega) | (simp at *; omega) | rfl) (by first | omega | (simp; done) | (simp [-List.getD_eq_getElem?_getD]; omega) | (simp at *; omega) | rfl) (by omega) (by first | omega | (simp; done) | (simp [-List.getD_eq_getElem?_getD]; omega)) (by first | omega | (simp; done) | (simp [-List.getD_eq_getElem?_getD]; omega)) rfl rfl) (Wt.plain rfl) ?_
        rintro _ _ ⟨k34, cap35, junk36, hc37, rfl, rfl⟩
        change (_ : List Blk → Prop) [_, _, _]
        refine T.q (q_assign rfl rfl) (Wt.plain rfl) rfl rfl ?_
        refine T.nil ?_
        refine Ex.in_normal ?_
        refine Ex.next ?_
        refine W.keep [1, 2, 3, 8, 9, 21, 22] rfl ?_
        refine W.region ?_
        refine T.run ttok 2 [] rfl ⟨⟨(by omega), (by omega)⟩, trivial⟩ rfl ?_
        refine T.nil ?_
        exact Ex.again [true, true, true] (⟨i + 1, some k34, cap35, junk36, some k28, 32, 32⟩ : Nat × Option Nat × Nat × List Value × Option Nat × Nat × Nat) (by dsimp only; omega) ⟨by dsimp only; omega, by dsimp only; omega, fun _ => rfl, lastT_succ _ _ _, Nat.le_refl _, by dsimp only; omega⟩ ⟨rfl, rfl, rfl, rfl, rfl, rfl, rfl, trivial⟩ (by first | (dsimp only [pick]; done) | rfl)
    ·
      refine Up.eff rfl (e_alloc ze38 rfl rfl rfl) (Wt.plain rfl) ?_
      rintro _ _ ⟨k38, rfl, rfl⟩
      refine ⟨fun _ => (S_sub (((((List.Sublist.slnil).cons _).cons_cons _).cons_cons _).cons_cons _)), ?_⟩
      change (_ : List Blk → Prop) [_, _, _, _]
      refine D.one 6 (by kernel_rfl) ?_
      refine Up.eff rfl (e_litA sc22 ze5 rfl rfl rfl (by simp [Value.cells]) rfl rfl rfl) (Wt.plain rfl) ?_
      rintro _ _ ⟨k39, rfl, rfl⟩
      refine ⟨fun _ => (S_sub ((((((List.Sublist.slnil).cons _).cons _).cons_cons _).cons_cons _).cons_cons _)), ?_⟩
      change (_ : List Blk → Prop) [_, _, _, _, _]
      refine D.one 7 (by kernel_rfl) ?_
      refine Up.eff rfl (e_litA sc79 ze22 rfl rfl rfl (by simp [Value.cells]) rfl rfl rfl) (Wt.plain rfl) ?_
      rintro _ _ ⟨k40, rfl, rfl⟩
      refine ⟨fun _ => (S_sub (((((((List.Sublist.slnil).cons _).cons _).cons _).cons_cons _).cons_cons _).cons_cons _)), ?_⟩
      change (_ : List Blk → Prop) [_, _, _, _, _, _]
      refine D.one 8 (by kernel_rfl) ?_
      refine Up.eff rfl (e_call enters155 rfl rfl (fun w hm => concat3 _ _ _ _ _ _ _ _ _ (lastT key info i) info [IntKind.u8.wrap (((i + 1) : Nat) : Int)] k40 (by first | omega | (simp; done) | (simp [-List.getD_eq_getElem?_getD]; omega) | (simp at *; omega) | rfl) (by first | omega | (simp; done) | (simp [-List.getD_eq_getElem?_getD]; omega) | (simp at *; omega) | rfl) (by first | omega | (simp; done) | (simp [-List.getD_eq_getElem?_getD]; omega) | (simp at *; omega) | rfl) (by omega) (by omega) w ((R_blk 5 rfl) w hm) ((R_own 2 rfl) w hm) ((R_ext hI.ext) w hm) ((R_blk 4 rfl) w hm)) rfl rfl) (Wt.plain rfl) ?_
      rintro _ _ ⟨_, _, ⟨k41, cap42, junk43, rfl, hc44, rfl⟩, rfl, rfl⟩
      refine ⟨fun _ => (S_sub ((((((((List.Sublist.slnil).cons _).cons _).cons _).cons _).cons_cons _).cons_cons _).cons_cons _)), ?_⟩
      change (_ : List Blk → Prop) [_, _, _, _, _, _, _]
      refine D.one 9 (by kernel_rfl) ?_
      refine Up.eff rfl (e_call enters274 rfl rfl (fun w hm => mac_at key ((lastT key info i) ++ info ++ [IntKind.u8.wrap (((i + 1) : Nat) : Int)]) _ _ _ _ (by first | omega | (simp; done) | (simp; omega) | (simp at *; omega)) (by first | omega | (simp; done) | (simp; omega) | (simp at *; omega)) (by first | omega | (simp; done) | (simp; omega) | (simp at *; omega)) (by first | omega | (simp; done) | (simp; omega) | (simp at *; omega)) w ((R_blk 0 rfl) w hm) ((R_pre 6 rfl) w hm) (R_ext hg0.ext w hm) (R_ext hg1.ext w hm) (R_ext hg2.ext w hm) (by first | omega | (simp; done) | (simp [-List.getD_eq_getElem?_getD]; omega) | (simp at *; omega) | rfl) (by first | omega | (simp; done) | (simp [-List.getD_eq_getElem?_getD]; omega) | (simp at *; omega) | rfl)) rfl rfl) (Wt.plain rfl) ?_
      rintro _ _ ⟨_, _, ⟨rfl, rfl⟩, rfl, rfl⟩
      refine ⟨fun _ => (S_sub ((((((((List.Sublist.slnil).cons _).cons _).cons _).cons _).cons_cons _).cons_cons _).cons_cons _)), ?_⟩
      change (_ : List Blk → Prop) [_, _, _, _, _, _, _]
      refine D.one 11 (by kernel_rfl) ?_
      refine Up.eff rfl (e_storeA (wide_ints wd38 (by first | omega | (simp; done) | (simp [-List.getD_eq_getElem?_getD]; omega) | (simp at *; omega) | rfl)) 3 rfl rfl rfl rfl (by first | omega | (simp; done) | (simp [-List.getD_eq_getElem?_getD]; omega) | (simp at *; omega) | rfl) ints_one rfl) (Wt.plain rfl) ?_
      rintro _ _ ⟨rfl, rfl⟩
      refine ⟨fun h => absurd h (by decide), ?_⟩
      change (_ : List Blk → Prop) [_, _, _, _, _, _, _]
      refine D.done (by kernel_rfl) ?_
      refine Ex.next ?_
      refine W.drop [true, true, false, true, false, false, false] [1, 2, 3, 8, 11, 21, 22] rfl ?_
      change (_ : List Blk → Prop) [_, _, _]
      refine W.sr ?_
      refine T.q (q_slAll ar38 rfl rfl) (Wt.plain rfl) rfl rfl ?_
      refine T.runF ttok [] [1, 2, 3, 8, 9, 21, 22] rfl trivial rfl rfl ?_
      refine W.region ?_
      refine T.run ttok 2 [] rfl trivial rfl ?_
      refine T.eff (e_appendO sc22 ze5 rfl 1 .u8 (outT key info i) (macS key ((lastT key info i) ++ info ++ [IntKind.u8.wrap (((i + 1) : Nat) : Int)])) j8 (rfl) (R_blk 2 rfl) rfl rfl rfl rfl (by first | omega | (simp; done) | (simp [-List.getD_eq_getElem?_getD]; omega) | (simp at *; omega) | rfl) (by first | omega | (simp; done) | (simp [-List.getD_eq_getElem?_getD]; omega) | (simp at *; omega) | rfl) (by first | omega | (simp; done) | (simp [-List.getD_eq_getElem?_getD]; omega) | (simp at *; omega) | rfl) (by omega) (by first | omega | (simp; done) | (simp [-List.getD_eq_getElem?_getD]; omega)) (by first | omega | (simp; done) | (simp [-List.getD_eq_getElem?_getD]; omega)) rfl rfl) (Wt.plain rfl) ?_
      rintro _ _ ⟨k45, cap46, junk47, hc48, rfl, rfl⟩
      change (_ : List Blk → Prop) [_, _, _]
      refine T.q (q_assign rfl rfl) (Wt.plain rfl) rfl rfl ?_
      refine T.nil ?_
      refine Ex.in_normal ?_
      refine Ex.next ?_
      refine W.keep [1, 2, 3, 8, 9, 21, 22] rfl ?_
      refine W.region ?_
      refine T.run ttok 2 [] rfl ⟨⟨(by omega), (by omega)⟩, trivial⟩ rfl ?_
      refine T.nil ?_
      exact Ex.again [true, true, true] (⟨i + 1, some k45, cap46, junk47, some k38, 32, 32⟩ : Nat × Option Nat × Nat × List Value × Option Nat × Nat × Nat) (by dsimp only; omega) ⟨by dsimp only; omega, by dsimp only; omega, fun _ => rfl, lastT_succ _ _ _, Nat.le_refl _, by dsimp only; omega⟩ ⟨rfl, rfl, rfl, rfl, rfl, rfl, rfl, trivial⟩ (by first | (dsimp only [pick]; done) | rfl)
  · replace hb2 := of_decide_eq_false hb2
    obtain rfl : i = ((n + 31) / 32) := by omega
    refine W.exit ?_
    refine Ex.then_exit ?_
    refine Ex.then_exit ?_
    refine Ex.in_here ?_
    refine Ex.next ?_
    refine W.drop [false, true, false] [2, 8] rfl ?_
    change (_ : List Blk → Prop) [_]
    refine W.sr ?_
    refine T.run ttok 2 [] rfl trivial rfl ?_
    refine T.q (q_sl sc22 0 n c8 rfl rfl rfl ⟨_, _, rfl, by omega⟩ rfl (by first | omega | (simp; done) | (simp [-List.getD_eq_getElem?_getD]; omega)) (by first | omega | (simp; done) | (simp [-List.getD_eq_getElem?_getD]; omega)) (by first | omega | (simp; done) | (simp [-List.getD_eq_getElem?_getD]; omega)) (by simp)) (Wt.plain rfl) rfl rfl ?_
    refine T.eff (e_call enters286 rfl rfl (fun w hm => clip_spec _ _ _ (by first | omega | (simp; done) | (simp; omega) | (simp at *; omega)) w) rfl rfl) (Wt.plain rfl) ?_
    rintro _ _ ⟨_, _, ⟨rfl, rfl⟩, rfl, rfl⟩
    change (_ : List Blk → Prop) [_]
    refine T.runF ttok [] [6, 7] rfl trivial rfl rfl ?_
    refine W.ret ?_
    refine Ex.out2 [true] rfl rfl rfl ?_
    exact ⟨_, (ints .u8 ((outT key info ((n + 31) / 32)).drop n) ++ j8), by rw [cut_zero] <;> rfl, fun h => hs8 (by omega), by rw [expS, ← List.append_assoc, ← ints_append, List.take_append_drop]; dsimp only [pick]⟩
theorem expand_pos (key info : List Int) (IA : Option Addr) (ic : Nat) (hk : key.length = 32) (hic : info.length ≤ ic) (hil : info.length ≤ 140737488354800) (n : Nat) (hpos : 0 < n) (hn : n ≤ 8160) (w0 : World) (hI : Reads w0 IA (ints .u8 info)) (hg0 : Reads w0 (some ⟨3, 0, none⟩) (ints .u32 startW)) (hg1 : Reads w0 (some ⟨8, 0, none⟩) (ints .u8 sgm)) (hg2 : Reads w0 (some ⟨9, 0, none⟩) (ints .u8 tbl)) :
    Does Tryz.prog 271 #[.agg (ints .u8 key).toArray, .slice IA info.length ic, .int .i64 ((n : Nat) : Int)] w0 [] (fun v G => ∃ (k : Nat) (junk : List Value), v = .tuple #[.slice (some ⟨k, 0, none⟩) n n, .int .i64 0] ∧ G = [⟨some k, ints .u8 (expS key info n) ++ junk, 5, (0, 0)⟩]) := by
  refine (expand_spec key info IA ic hk hic hil n hn w0 hI hg0 hg1 hg2).mono ?_
  rintro v G ⟨no, junk, rfl, hs, rfl⟩
  obtain ⟨k, rfl⟩ := Option.isSome_iff_exists.1 (hs hpos)
  exact ⟨k, junk, rfl, rfl⟩
end Go.Proofs.YtpklnjegimchoaaGreatDoor
namespace Go.Proofs.YtpklnjegimchoaaGreatDoor
open Go Go.X
set_option maxRecDepth 100000 in
theorem chain_spec (key b : List Int) (BA : Option Addr) (bc : Nat) (hk : key.length = 32) (hbc : b.length ≤ bc) (hbl : b.length ≤ 140737488354900) (w0 : World) (hB : Reads w0 BA (ints .u8 b)) (hg0 : Reads w0 (some ⟨3, 0, none⟩) (ints .u32 startW)) (hg1 : Reads w0 (some ⟨8, 0, none⟩) (ints .u8 sgm)) (hg2 : Reads w0 (some ⟨9, 0, none⟩) (ints .u8 tbl)) : Does Tryz.prog 246 #[.agg (ints .u8 key).toArray, .slice BA b.length bc] w0 [] (fun v G => v = .tuple #[.agg (ints .u8 (chainA key b)).toArray, .agg (ints .u8 (chainB key b)).toArray] ∧ G = []) := by
  refine spec_of 23 Tryz.func246 rfl rfl rfl ?_
  refine W.sr ?_
  refine T.eff (e_box rfl rfl rfl rfl) (Wt.plain rfl) ?_
  rintro _ _ ⟨k1, rfl, rfl⟩
  change (_ : List Blk → Prop) [_]
  refine T.eff (e_alloc ze38 rfl rfl rfl) (Wt.plain rfl) ?_
  rintro _ _ ⟨k2, rfl, rfl⟩
  change (_ : List Blk → Prop) [_, _]
  refine T.eff (e_alloc ze38 rfl rfl rfl) (Wt.plain rfl) ?_
  rintro _ _ ⟨k3, rfl, rfl⟩
  change (_ : List Blk → Prop) [_, _, _]
  refine T.fin [1, 2, 4, 5] rfl ?_
  refine W.sr ?_
  refine T.q (q_slAll ar38 rfl rfl) (Wt.plain rfl) rfl rfl ?_
  refine T.q (q_move rfl rfl) (Wt.plain rfl) rfl rfl ?_
  refine T.eff (e_call enters274 rfl rfl (fun w hm => mac_at key b _ _ _ _ (by first | omega | (simp; done) | (simp; omega) | (simp at *; omega)) (by first | omega | (simp; done) | (simp; omega) | (simp at *; omega)) (by first | omega | (simp; done) | (simp; omega) | (simp at *; omega)) (by first | omega | (simp; done) | (simp; omega) | (simp at *; omega)) w ((R_blk 0 rfl) w hm) ((R_ext hB.ext) w hm) (R_ext hg0.ext w hm) (R_ext hg1.ext w hm) (R_ext hg2.ext w hm) (by first | omega | (simp; done) | (simp [-List.getD_eq_getElem?_getD]; omega) | (simp at *; omega) | rfl) (by first | omega | (simp; done) | (simp [-List.getD_eq_getElem?_getD]; omega) | (simp at *; omega) | rfl)) rfl rfl) (Wt.plain rfl) ?_
  rintro _ _ ⟨_, _, ⟨rfl, rfl⟩, rfl, rfl⟩
  change (_ : List Blk → Prop) [_, _, _]
  refine T.eff (e_alloc ze38 rfl rfl rfl) (Wt.plain rfl) ?_
  rintro _ _ ⟨k4, rfl, rfl⟩
  change (_ : List Blk → Prop) [_, _, _, _]
  refine T.eff (e_storeA (wide_ints wd38 (by first | omega | (simp; done) | (simp [-List.getD_eq_getElem?_getD]; omega) | (simp at *; omega) | rfl)) 3 rfl rfl rfl rfl (by first | omega | (simp; done) | (simp [-List.getD_eq_getElem?_getD]; omega) | (simp at *; omega) | rfl) ints_one rfl) (Wt.plain rfl) ?_
  rintro _ _ ⟨rfl, rfl⟩
  change (_ : List Blk → Prop) [_, _, _, _]
  refine T.end ?_
  refine W.drop [false, true, true, true] [4, 5, 6] rfl ?_
  change (_ : List Blk → Prop) [_, _, _]
  refine W.sr ?_
  refine T.q (q_slAll ar38 rfl rfl) (Wt.plain rfl) rfl rfl ?_
  refine T.eff (e_litA sc22 ze5 rfl rfl rfl (by simp [Value.cells]) rfl rfl rfl) (Wt.plain rfl) ?_
  rintro _ _ ⟨k5, rfl, rfl⟩
  change (_ : List Blk → Prop) [_, _, _, _]
  refine T.eff (e_call enters274 rfl rfl (fun w hm => mac_at (macS key b) [1] _ _ _ _ (by first | omega | (simp; done) | (simp; omega) | (simp at *; omega)) (by first | omega | (simp; done) | (simp; omega) | (simp at *; omega)) (by first | omega | (simp; done) | (simp; omega) | (simp at *; omega)) (by first | omega | (simp; done) | (simp; omega) | (simp at *; omega)) w ((R_blk 2 rfl) w hm) ((R_blk 3 rfl) w hm) (R_ext hg0.ext w hm) (R_ext hg1.ext w hm) (R_ext hg2.ext w hm) (by first | omega | (simp; done) | (simp [-List.getD_eq_getElem?_getD]; omega) | (simp at *; omega) | rfl) (by first | omega | (simp; done) | (simp [-List.getD_eq_getElem?_getD]; omega) | (simp at *; omega) | rfl)) rfl rfl) (Wt.plain rfl) ?_
  rintro _ _ ⟨_, _, ⟨rfl, rfl⟩, rfl, rfl⟩
  change (_ : List Blk → Prop) [_, _, _, _]
  refine T.eff (e_alloc ze38 rfl rfl rfl) (Wt.plain rfl) ?_
  rintro _ _ ⟨k6, rfl, rfl⟩
  change (_ : List Blk → Prop) [_, _, _, _, _]
  refine T.eff (e_storeA (wide_ints wd38 (by first | omega | (simp; done) | (simp [-List.getD_eq_getElem?_getD]; omega) | (simp at *; omega) | rfl)) 4 rfl rfl rfl rfl (by first | omega | (simp; done) | (simp [-List.getD_eq_getElem?_getD]; omega) | (simp at *; omega) | rfl) ints_one rfl) (Wt.plain rfl) ?_
  rintro _ _ ⟨rfl, rfl⟩
  change (_ : List Blk → Prop) [_, _, _, _, _]
  change (_ : List Blk → Prop) [_, _, _, _, ⟨some k6, ints .u8 (chainA key b), 38, (0, 0)⟩]
  refine T.end ?_
  refine W.drop [true, true, true, false, true] [4, 5, 6, 7] rfl ?_
  change (_ : List Blk → Prop) [_, _, _, _]
  refine W.sr ?_
  refine T.eff (e_alloc ze353 rfl rfl rfl) (Wt.plain rfl) ?_
  rintro _ _ ⟨k7, rfl, rfl⟩
  change (_ : List Blk → Prop) [_, _, _, _, _]
  refine T.fin [4, 5, 6, 7, 8] rfl ?_
  refine W.seq ?_
  refine W.draw 2 (by kernel_rfl) ?_
  refine D.take 0 rfl (by kernel_rfl) (fun _ h => h) (q_slAll ar353 rfl rfl) (Wt.plain rfl) rfl rfl ?_
  refine D.take 1 rfl (by kernel_rfl) (fun _ h => h) (q_slAll ar38 rfl rfl) (Wt.plain rfl) rfl rfl ?_
  refine D.one 2 (by kernel_rfl) ?_
  refine Up.eff rfl (e_copyI sc22 4 (List.replicate 33 0) (chainA key b) (R_blk 3 rfl) rfl rfl rfl rfl (by first | omega | (simp; done) | (simp [-List.getD_eq_getElem?_getD]; omega) | (simp at *; omega) | rfl) (by first | omega | (simp; done) | (simp [-List.getD_eq_getElem?_getD]; omega)) (by first | omega | (simp; done) | (simp [-List.getD_eq_getElem?_getD]; omega)) rfl rfl) (Wt.plain rfl) ?_
  rintro _ _ ⟨rfl, rfl⟩
  refine ⟨fun h => absurd h (by decide), ?_⟩
  change (_ : List Blk → Prop) [_, _, _, _, _]
  refine D.done (by kernel_rfl) ?_
  refine Ex.next ?_
  refine W.keep [4, 5, 6, 7, 8] rfl ?_
  refine W.sr ?_
  refine T.q (q_ixA0 ar353 32 rfl rfl rfl (rfl) (by decide)) (Wt.plain rfl) rfl rfl ?_
  refine T.eff (e_storeI ss5 4 rfl rfl rfl rfl (by first | omega | (simp; done) | (simp [-List.getD_eq_getElem?_getD]; omega)) rfl) (Wt.plain rfl) ?_
  rintro _ _ ⟨rfl, rfl⟩
  change (_ : List Blk → Prop) [_, _, _, _, _]
  conv => rhs; rw [copy33 _ _ (chainA_length key b)]
  refine T.fin [4, 5, 6, 7, 8] rfl ?_
  refine W.seq ?_
  refine W.drawP 5 [false, true, true, true, true] (by kernel_rfl) ?_
  refine D.take 0 rfl (by kernel_rfl) (S_sub ((((((List.Sublist.slnil).cons_cons _).cons_cons _).cons_cons _).cons_cons _).cons _)) (q_loadW (wide_ints wd38 (by first | omega | (simp; done) | (simp [-List.getD_eq_getElem?_getD]; omega) | (simp at *; omega) | rfl)) (R_blk 2 rfl) rfl rfl) (Wt.plain rfl) rfl rfl ?_
  refine D.take 1 rfl (by kernel_rfl) (S_sub ((((((List.Sublist.slnil).cons_cons _).cons_cons _).cons_cons _).cons_cons _).cons _)) (q_slAll ar38 rfl rfl) (Wt.plain rfl) rfl rfl ?_
  refine D.take 2 rfl (by kernel_rfl) (S_sub ((((((List.Sublist.slnil).cons_cons _).cons_cons _).cons_cons _).cons_cons _).cons _)) (q_slAll ar353 rfl rfl) (Wt.plain rfl) rfl rfl ?_
  refine D.one 3 (by kernel_rfl) ?_
  refine Up.eff rfl (e_call enters274 rfl rfl (fun w hm => mac_at (macS key b) (chainA key b ++ [2]) _ _ _ _ (by first | omega | (simp; done) | (simp; omega) | (simp at *; omega)) (by first | omega | (simp; done) | (simp; omega) | (simp at *; omega)) (by first | omega | (simp; done) | (simp; omega) | (simp at *; omega)) (by first | omega | (simp; done) | (simp; omega) | (simp at *; omega)) w ((R_blk 2 rfl) w hm) ((R_blk 4 rfl) w hm) (R_ext hg0.ext w hm) (R_ext hg1.ext w hm) (R_ext hg2.ext w hm) (by first | omega | (simp; done) | (simp [-List.getD_eq_getElem?_getD]; omega) | (simp at *; omega) | rfl) (by first | omega | (simp; done) | (simp [-List.getD_eq_getElem?_getD]; omega) | (simp at *; omega) | rfl)) rfl rfl) (Wt.plain rfl) ?_
  rintro _ _ ⟨_, _, ⟨rfl, rfl⟩, rfl, rfl⟩
  refine ⟨fun _ => (S_sub ((((((List.Sublist.slnil).cons_cons _).cons_cons _).cons_cons _).cons_cons _).cons _)), ?_⟩
  change (_ : List Blk → Prop) [_, _, _, _, _]
  refine D.one 4 (by kernel_rfl) ?_
  refine Up.eff rfl (e_storeA (wide_ints wd38 (by first | omega | (simp; done) | (simp [-List.getD_eq_getElem?_getD]; omega) | (simp at *; omega) | rfl)) 0 rfl rfl rfl rfl (by first | omega | (simp; done) | (simp [-List.getD_eq_getElem?_getD]; omega) | (simp at *; omega) | rfl) ints_one rfl) (Wt.plain rfl) ?_
  rintro _ _ ⟨rfl, rfl⟩
  refine ⟨fun _ => (S_sub ((((((List.Sublist.slnil).cons_cons _).cons_cons _).cons_cons _).cons_cons _).cons _)), ?_⟩
  change (_ : List Blk → Prop) [_, _, _, _, _]
  refine D.one 5 (by kernel_rfl) ?_
  refine Up.eff rfl (e_storeA (wide_ints wd38 (by first | omega | (simp; done) | (simp [-List.getD_eq_getElem?_getD]; omega) | (simp at *; omega) | rfl)) 1 rfl rfl rfl rfl (by first | omega | (simp; done) | (simp [-List.getD_eq_getElem?_getD]; omega) | (simp at *; omega) | rfl) ints_one rfl) (Wt.plain rfl) ?_
  rintro _ _ ⟨rfl, rfl⟩
  refine ⟨fun h => absurd h (by decide), ?_⟩
  change (_ : List Blk → Prop) [_, _, _, _, _]
  change (_ : List Blk → Prop) [_, ⟨some k3, ints .u8 (chainB key b), 38, (0, 0)⟩, _, _, _]
  refine D.done (by kernel_rfl) ?_
  refine Ex.next ?_
  refine W.drop [true, true, false, false, false] [4, 5] rfl ?_
  change (_ : List Blk → Prop) [_, _]
  refine W.ret ?_
  refine Ex.outCC [false, false] 0 1 rfl (wide_ints wd38 (by first | omega | (simp; done) | (simp [-List.getD_eq_getElem?_getD]; omega) | (simp at *; omega) | rfl)) (wide_ints wd38 (by first | omega | (simp; done) | (simp [-List.getD_eq_getElem?_getD]; omega) | (simp at *; omega) | rfl)) rfl rfl rfl rfl ?_
  exact ⟨rfl, rfl⟩
end Go.Proofs.YtpklnjegimchoaaGreatDoor
namespace Go.Proofs.YtpklnjegimchoaaGreatDoor
open Go Go.X
theorem expand_pos_at (key info : List Int) (IA : Option Addr) (ic : Nat) {m : Nat} (hk : key.length = 32) (hic : m ≤ ic) (hil : m ≤ 140737488354800) (n : Nat) (hpos : 0 < n) (hn : n ≤ 8160) (w0 : World) (hI : Reads w0 IA (ints .u8 info)) (hg0 : Reads w0 (some ⟨3, 0, none⟩) (ints .u32 startW)) (hg1 : Reads w0 (some ⟨8, 0, none⟩) (ints .u8 sgm)) (hg2 : Reads w0 (some ⟨9, 0, none⟩) (ints .u8 tbl)) (hm : info.length = m) :
    Does Tryz.prog 271 #[.agg (ints .u8 key).toArray, .slice IA m ic, .int .i64 ((n : Nat) : Int)] w0 [] (fun v G => ∃ (k : Nat) (junk : List Value), v = .tuple #[.slice (some ⟨k, 0, none⟩) n n, .int .i64 0] ∧ G = [⟨some k, ints .u8 (expS key info n) ++ junk, 5, (0, 0)⟩]) := by
  subst hm
  exact expand_pos key info IA ic hk hic hil n hpos hn w0 hI hg0 hg1 hg2
set_option maxRecDepth 100000 in
theorem named_spec (key nm : List Int) (s : ByteArray) (hk : key.length = 32) (hs : s.data.toList.map (fun q => (q.toNat : Int)) = nm) (hsz : s.size = nm.length) (hnl : nm.length ≤ 1000) (w0 : World) (hg0 : Reads w0 (some ⟨3, 0, none⟩) (ints .u32 startW)) (hg1 : Reads w0 (some ⟨8, 0, none⟩) (ints .u8 sgm)) (hg2 : Reads w0 (some ⟨9, 0, none⟩) (ints .u8 tbl)) : Does Tryz.prog 240 #[.agg (ints .u8 key).toArray, .string s] w0 [] (fun v G => v = .agg (ints .u8 (expS key nm 32)).toArray ∧ G = []) := by
  refine spec_of 17 Tryz.func240 rfl rfl rfl ?_
  refine W.sr ?_
  refine T.eff (e_box rfl rfl rfl rfl) (Wt.plain rfl) ?_
  rintro _ _ ⟨k1, rfl, rfl⟩
  change (_ : List Blk → Prop) [_]
  refine T.eff (e_alloc ze38 rfl rfl rfl) (Wt.plain rfl) ?_
  rintro _ _ ⟨k2, rfl, rfl⟩
  change (_ : List Blk → Prop) [_, _]
  refine T.fin [1, 2, 4] rfl ?_
  refine W.sr ?_
  refine T.q (q_loadW (wide_ints wd38 (by first | omega | (simp; done) | (simp [-List.getD_eq_getElem?_getD]; omega) | (simp at *; omega) | rfl)) (R_blk 0 rfl) rfl rfl) (Wt.plain rfl) rfl rfl ?_
  refine T.q (q_move rfl rfl) (Wt.plain rfl) rfl rfl ?_
  refine T.eff (e_bytes un9 un22 un5 rfl rfl rfl rfl) (Wt.plain rfl) ?_
  rintro _ _ ⟨k3, cap4, junk5, hc6, hc7, hc8, rfl, rfl⟩
  change (_ : List Blk → Prop) [_, _, _]
  conv => rhs; rw [hs]
  refine T.eff (e_call enters271 rfl rfl (fun w hm => expand_pos_at key nm _ _ (by first | omega | (simp; done) | (simp; omega) | (simp at *; omega)) (by first | omega | (simp; done) | (simp; omega) | (simp at *; omega)) (by first | omega | (simp; done) | (simp; omega) | (simp at *; omega)) 32 (by omega) (by first | omega | (simp; done) | (simp; omega) | (simp at *; omega)) w ((R_pre 2 rfl) w hm) (R_ext hg0.ext w hm) (R_ext hg1.ext w hm) (R_ext hg2.ext w hm) (by first | omega | (simp; done) | (simp [-List.getD_eq_getElem?_getD]; omega) | (simp at *; omega) | rfl)) rfl rfl) (Wt.plain rfl) ?_
  rintro _ _ ⟨_, _, ⟨k9, junk11, rfl, rfl⟩, rfl, rfl⟩
  change (_ : List Blk → Prop) [_, _, _, _]
  refine T.run ttok 5 [] rfl trivial rfl ?_
  refine T.end ?_
  refine W.drop [false, true, false, true] [4, 5] rfl ?_
  change (_ : List Blk → Prop) [_, _]
  refine W.sr ?_
  refine T.q (q_move rfl rfl) (Wt.plain rfl) rfl rfl ?_
  refine T.q (q_arrp ar38 rfl rfl (by first | omega | (simp; done) | (simp [-List.getD_eq_getElem?_getD]; omega))) (Wt.plain rfl) rfl rfl ?_
  refine T.q (q_loadW (wide_ints wd38 (by first | omega | (simp; done) | (simp [-List.getD_eq_getElem?_getD]; omega) | (simp at *; omega) | rfl)) (R_pre 1 rfl) rfl rfl) (Wt.plain rfl) rfl rfl ?_
  refine T.eff (e_storeA (wide_ints wd38 (by first | omega | (simp; done) | (simp [-List.getD_eq_getElem?_getD]; omega) | (simp at *; omega) | rfl)) 0 rfl rfl rfl rfl (by first | omega | (simp; done) | (simp [-List.getD_eq_getElem?_getD]; omega) | (simp at *; omega) | rfl) ints_one rfl) (Wt.plain rfl) ?_
  rintro _ _ ⟨rfl, rfl⟩
  change (_ : List Blk → Prop) [_, _]
  refine T.end ?_
  refine W.drop [true, false] [4] rfl ?_
  change (_ : List Blk → Prop) [_]
  refine W.ret ?_
  refine Ex.outC [false] 0 rfl (by exact (wide_ints wd38 (by first | omega | (simp; done) | (simp [-List.getD_eq_getElem?_getD]; omega) | (simp at *; omega) | rfl))) rfl rfl ?_
  exact ⟨rfl, rfl⟩
set_option maxRecDepth 100000 in
theorem of_spec (key : List Int) (hk : key.length = 32) (w0 : World) (hg0 : Reads w0 (some ⟨3, 0, none⟩) (ints .u32 startW)) (hg1 : Reads w0 (some ⟨8, 0, none⟩) (ints .u8 sgm)) (hg2 : Reads w0 (some ⟨9, 0, none⟩) (ints .u8 tbl)) : Does Tryz.prog 234 #[.agg (ints .u8 key).toArray] w0 [] (fun v G => v = .agg (ints .u8 (ofS key)).toArray ∧ G = []) := by
  refine spec_of 5 Tryz.func234 rfl rfl rfl ?_
  refine W.sr ?_
  refine T.eff (e_box rfl rfl rfl rfl) (Wt.plain rfl) ?_
  rintro _ _ ⟨k1, rfl, rfl⟩
  change (_ : List Blk → Prop) [_]
  refine T.eff (e_alloc ze38 rfl rfl rfl) (Wt.plain rfl) ?_
  rintro _ _ ⟨k2, rfl, rfl⟩
  change (_ : List Blk → Prop) [_, _]
  refine T.fin [1, 2] rfl ?_
  refine W.sr ?_
  refine T.q (q_loadW (wide_ints wd38 (by first | omega | (simp; done) | (simp [-List.getD_eq_getElem?_getD]; omega) | (simp at *; omega) | rfl)) (R_blk 0 rfl) rfl rfl) (Wt.plain rfl) rfl rfl ?_
  refine T.eff (e_call enters240 rfl rfl (fun w hm => named_spec key keyN _ (by first | omega | (simp; done) | (simp; omega) | (simp at *; omega)) (by decide) (by decide) (by decide) w (R_ext hg0.ext w hm) (R_ext hg1.ext w hm) (R_ext hg2.ext w hm)) rfl rfl) (Wt.plain rfl) ?_
  rintro _ _ ⟨_, _, ⟨rfl, rfl⟩, rfl, rfl⟩
  change (_ : List Blk → Prop) [_, _]
  refine T.eff (e_storeA (wide_ints wd38 (by first | omega | (simp; done) | (simp [-List.getD_eq_getElem?_getD]; omega) | (simp at *; omega) | rfl)) 1 rfl rfl rfl rfl (by first | omega | (simp; done) | (simp [-List.getD_eq_getElem?_getD]; omega) | (simp at *; omega) | rfl) ints_one rfl) (Wt.plain rfl) ?_
  rintro _ _ ⟨rfl, rfl⟩
  change (_ : List Blk → Prop) [_, _]
  refine T.end ?_
  refine W.drop [false, true] [2] rfl ?_
  change (_ : List Blk → Prop) [_]
  refine W.ret ?_
  refine Ex.outC [false] 0 rfl (by exact (wide_ints wd38 (by first | omega | (simp; done) | (simp [-List.getD_eq_getElem?_getD]; omega) | (simp at *; omega) | rfl))) rfl rfl ?_
  exact ⟨rfl, rfl⟩
end Go.Proofs.YtpklnjegimchoaaGreatDoor
namespace Go.Proofs.YtpklnjegimchoaaGreatDoor
open Go Go.X Go.Z
structure Glob (w : World) : Prop where
  start : Reads w (some ⟨3, 0, none⟩) (ints .u32 startW)
  head : Reads w (some ⟨4, 0, none⟩) (ints .u32 headW)
  round : Reads w (some ⟨5, 0, none⟩) (ints .i64 tbl)
  rows : Reads w (some ⟨8, 0, none⟩) (ints .u8 sgm)
  places : Reads w (some ⟨9, 0, none⟩) (ints .u8 tbl)
theorem reads_kept {w w' : World} {A : Option Addr} {cs : List Value} (h : Reads w A cs) (hk : Kept [] w w') : Reads w' A cs := fun j v hj => by
  obtain ⟨ad, h1, h2⟩ := h j v hj
  refine ⟨ad, h1, ?_⟩
  have hlt := World.block_lt_of_cell? w _ h2
  rw [← h2]
  unfold World.cell?
  rw [add_block] at hlt ⊢
  rw [hk.block _ hlt (by simp)]
theorem Glob.kept {w w' : World} (h : Glob w) (hk : Kept [] w w') : Glob w' := ⟨reads_kept h.start hk, reads_kept h.head hk, reads_kept h.round hk, reads_kept h.rows hk, reads_kept h.places hk⟩
abbrev SealF := List Int → List Int → List Int → List Int → List Int
def rowZ (sl : SealF) (op : Nat) (us : List (List Value)) (vs : List Value) : Prop := match op with
  | 1 => ∃ b, us = [ints .u8 b] ∧ vs = ints .u8 (hashS b)
  | 2 => ∃ k b, us = [ints .u8 k, ints .u8 b] ∧ vs = ints .u8 (chainA k b)
  | 3 => ∃ k b, us = [ints .u8 k, ints .u8 b] ∧ vs = ints .u8 (chainB k b)
  | 4 => ∃ k, us = [ints .u8 k] ∧ vs = ints .u8 (ofS k)
  | 5 => ∃ k, us = [ints .u8 k] ∧ vs = ints .u8 (laterS k)
  | 6 => ∃ k n b t, us = [ints .u8 k, ints .u8 n, ints .u8 b, ints .u8 t] ∧ vs = ints .u8 (sl k n b t)
  | 7 => ∃ t, us = [[.string t]] ∧ vs = ints .u8 (strB t)
  | 0 => BytesV vs
  | _ => False
theorem ints_inj {k : IntKind} : ∀ {a b : List Int}, ints k a = ints k b → a = b
  | [], [], _ => rfl
  | [], _ :: _, h => by cases h
  | _ :: _, [], h => by cases h
  | x :: a, y :: b, h => by
    simp only [ints, List.map_cons, List.cons.injEq, Value.int.injEq, true_and] at h
    rw [h.1, ints_inj (k := k) h.2]
theorem bytesV {l : List Int} (h : Bytes l) : BytesV (ints .u8 l) := ⟨l, rfl, h⟩
theorem bCA (k b : List Int) : Bytes (chainA k b) := Bytes.macS _ _
theorem bCB (k b : List Int) : Bytes (chainB k b) := Bytes.macS _ _
theorem bOf (k : List Int) : Bytes (ofS k) := by rw [ofS]; exact Bytes.expS _ _ _
theorem bLater (k : List Int) : Bytes (laterS k) := by rw [laterS]; exact Bytes.expS _ _ _
theorem rowZ_bytes {sl : SealF} (hsl : ∀ k n b t, Bytes (sl k n b t)) : ∀ (op : Nat) {us vs}, rowZ sl op us vs → BytesV vs
  | 0, _, _, h => h
  | 1, _, _, ⟨b, _, h⟩ => ⟨_, h, Bytes.hashS b⟩
  | 2, _, _, ⟨k, b, _, h⟩ => ⟨_, h, bCA k b⟩
  | 3, _, _, ⟨k, b, _, h⟩ => ⟨_, h, bCB k b⟩
  | 4, _, _, ⟨k, _, h⟩ => ⟨_, h, bOf k⟩
  | 5, _, _, ⟨k, _, h⟩ => ⟨_, h, bLater k⟩
  | 6, _, _, ⟨_, _, _, _, _, h⟩ => ⟨_, h, hsl _ _ _ _⟩
  | 7, _, _, ⟨t, _, h⟩ => ⟨_, h, fun x hx => by obtain ⟨b, _, rfl⟩ := List.mem_map.1 hx; have := b.toNat_lt; omega⟩
  | _ + 8, _, _, h => h.elim
theorem one1 {us : List (List Value)} {a b : List Int} (h : us = [ints .u8 a]) (h' : us = [ints .u8 b]) : a = b := by
  rw [h] at h'
  exact ints_inj (List.cons.inj h').1
theorem one2 {us : List (List Value)} {a b c d : List Int} (h : us = [ints .u8 a, ints .u8 c]) (h' : us = [ints .u8 b, ints .u8 d]) : a = b ∧ c = d := by
  rw [h] at h'
  exact ⟨ints_inj (List.cons.inj h').1, one1 rfl (List.cons.inj h').2⟩
theorem rowZ_one {sl : SealF} : ∀ (op : Nat) {us vs vs'}, rowZ sl op us vs → rowZ sl op us vs' → op ≠ 0 → vs = vs'
  | 0, _, _, _, _, _, h0 => absurd rfl h0
  | 1, _, _, _, ⟨_, a, h⟩, ⟨_, a', h'⟩, _ => by rw [h, h', one1 a a']
  | 2, _, _, _, ⟨_, _, a, h⟩, ⟨_, _, a', h'⟩, _ => by rw [h, h', (one2 a a').1, (one2 a a').2]
  | 3, _, _, _, ⟨_, _, a, h⟩, ⟨_, _, a', h'⟩, _ => by rw [h, h', (one2 a a').1, (one2 a a').2]
  | 4, _, _, _, ⟨_, a, h⟩, ⟨_, a', h'⟩, _ => by rw [h, h', one1 a a']
  | 5, _, _, _, ⟨_, a, h⟩, ⟨_, a', h'⟩, _ => by rw [h, h', one1 a a']
  | 6, _, _, _, ⟨_, _, _, _, a, h⟩, ⟨_, _, _, _, a', h'⟩, _ => by
    rw [a] at a'
    have e1 := ints_inj (List.cons.inj a').1
    have a' := (List.cons.inj a').2
    have e2 := ints_inj (List.cons.inj a').1
    obtain ⟨e3, e4⟩ := one2 rfl (List.cons.inj a').2
    rw [h, h', e1, e2, e3, e4]
  | 7, _, _, _, ⟨t, a, h⟩, ⟨t', a', h'⟩, _ => by
    rw [a] at a'
    cases a'
    rw [h, h']
  | _ + 8, _, _, _, h, _, _ => h.elim
def txtZ (op : Nat) (us : List (List Value)) (s : ByteArray) : Prop := match op with
  | 10 => ∃ n, us = [[.int .i64 n]] ∧ s = ⟨(Lib.itoa n).toArray⟩
  | 11 => ∃ (xs : List ByteArray) (p : ByteArray), us = [xs.map .string, [.string p]] ∧ s = ⟨(Lib.join (xs.map (·.data.toList)) p.data.toList).toArray⟩
  | 13 => ∃ a b, us = [[.string a], [.string b]] ∧ s = a ++ b
  | _ => False
theorem strs_inj : ∀ {a b : List ByteArray}, a.map Value.string = b.map Value.string → a = b
  | [], [], _ => rfl
  | [], _ :: _, h => by cases h
  | _ :: _, [], h => by cases h
  | x :: a, y :: b, h => by
    simp only [List.map_cons, List.cons.injEq, Value.string.injEq] at h
    rw [h.1, strs_inj h.2]
theorem txtZ_one (op : Nat) {us : List (List Value)} {a b : ByteArray} (h : txtZ op us a) (h' : txtZ op us b) : a = b := by
  unfold txtZ at h h'
  split at h
  · obtain ⟨n, rfl, rfl⟩ := h
    obtain ⟨m, e, rfl⟩ := h'
    cases e
    rfl
  · obtain ⟨xs, p, rfl, rfl⟩ := h
    obtain ⟨ys, q, e, rfl⟩ := h'
    have e1 := strs_inj (List.cons.inj e).1
    have e2 := (List.cons.inj (List.cons.inj e).2).1
    cases e2
    rw [e1]
  · obtain ⟨x, y, rfl, rfl⟩ := h
    obtain ⟨x', y', e, rfl⟩ := h'
    cases e
    rfl
  · exact h.elim
def inZ (sl : SealF) (hsl : ∀ k n b t, Bytes (sl k n b t)) : In := ⟨fun op _ us vs => rowZ sl op us vs, fun op _ us s => txtZ op us s,
  { bytes := fun op _ _ _ h0 h => rowZ_bytes hsl op h
    one := fun op _ _ _ _ h h' h0 => rowZ_one op h h' h0
    row := fun _ t => ⟨t, rfl, rfl⟩
    sone := fun op _ _ _ _ h h' => txtZ_one op h h'
    cat := fun _ a b => ⟨a, b, rfl, rfl⟩ }⟩
section
variable {sl : SealF} {w0 w : World} {ρ ρ' : Env} {g g' : G}
theorem ent_does {I : In} {f : FuncId} {vs : List Value} {r : SV} {post : Value → List Blk → Prop} (hent : Enters Tryz.prog f) (hd : Does Tryz.prog f vs.toArray w [] post) (hle : ρ.le ρ') (hg : Gok I w0 ρ' g' w) (hr : ∀ v F, post v F → r.ev ρ' = some v) : Ent Tryz.prog I w0 ρ f vs w r g' := by
  refine .inl ⟨fun w => hent _ w, Calls.mono hd ?_⟩
  rintro e w' ⟨v, F, rfl, hm, hp⟩
  exact ⟨ρ', v, hle, rfl, hr v F hp, hg.kept hm.kept⟩
theorem ints_all (l : List Int) : (ints .u8 l).all Value.oneCell' = true := List.all_eq_true.2 fun v hv => by
  obtain ⟨x, _, rfl⟩ := List.mem_map.1 hv
  rfl
theorem lenUp_ok {e : E} {I : In} (he : Eok I ρ e) {cs : Cs} {n : Int} {vs : List Value} (h : lenUp e cs n = true) (hv : Cs.ev ρ cs = some vs) : (vs.length : Int) ≤ n := by
  unfold lenUp at h
  split at h
  · next lo hi hr =>
    obtain ⟨x, hx, _, h2⟩ := rng_ok he.bok hr
    rw [Cs.ev_len hv] at hx
    cases hx
    have := ile_true h
    omega
  · cases h
theorem lenIs_ok {e : E} {I : In} (he : Eok I ρ e) {cs : Cs} {n : Nat} {vs : List Value} (h : lenIs e cs n = true) (hv : Cs.ev ρ cs = some vs) : vs.length = n := by
  unfold lenIs at h
  split at h
  · next b hb =>
    have := eq_ok he.bok (Cs.ev_len hv) (rfl : (Lin.k (.ofNat n)).ev ρ = some (Int.ofNat n)) hb
    subst h
    have := of_decide_eq_true this.symm
    have e : (Int.ofNat n : Int) = (n : Int) := rfl
    omega
  · cases h
theorem pHash_ok (hsl : ∀ k n b t, Bytes (sl k n b t)) (hw0 : Glob w0) : PrimOk Tryz.prog (inZ sl hsl) w0 154 pHash := by
  intro args g r g' h ρ vs w hvs hg
  have hI := (inZ sl hsl).ok
  have hG := hw0.kept hg.mem.kept
  unfold pHash at h
  split at h
  · next x =>
    split at h
    · next cs hcs =>
      cases hb : (bytesC g.e cs && lenUp g.e cs 65536) with
      | false => rw [hb, cond_false] at h; cases h
      | true =>
        rw [hb, cond_true] at h
        simp only [Bool.and_eq_true] at hb
        split at h
        next i e hmk =>
        cases h
        simp only [evVs] at hvs
        split at hvs
        · next v vr hx hvr =>
          cases hvr
          cases hvs
          obtain ⟨A, l, c, vc, rfl, hlc, hcv, hlen, hR⟩ := argCs_ok hg hcs hx
          obtain ⟨b, rfl, hbb⟩ := bytesC_ok hI hg.env hb.1 hcv
          have hl := lenUp_ok hg.env hb.2 hcv
          have hbl : b.length = l := by simpa [ints] using hlen
          subst hbl
          have hl' : (b.length : Int) ≤ 65536 := by simpa [ints] using hl
          obtain ⟨ρ', hle, hi, hg'⟩ := mkL_ok hI hg hmk (vs := ints .u8 (hashS b)) (us := [ints .u8 b]) (by simp [ints]; rfl) (ints_all _) (by simp only [evAs, normC_ok hcv]) ⟨b, rfl, rfl⟩ (by exact Nat.succ_ne_zero _)
          refine ent_does enters154 (hash_spec b A c hlc (by omega) w hR hG.start hG.rows hG.places) hle hg' fun v F hp => ?_
          obtain ⟨rfl, _⟩ := hp
          have := run_all (n := 32) hi (by simp [ints]) (ints_all _)
          simp only [SV.ev, EV.ev]
          rw [show (Lin.k 32) = .k (.ofNat 32) from rfl, this]; rfl
        · cases hvs
    · cases h
  · cases h
theorem pOf_ok (hsl : ∀ k n b t, Bytes (sl k n b t)) (hw0 : Glob w0) : PrimOk Tryz.prog (inZ sl hsl) w0 234 pOf := by
  intro args g r g' h ρ vs w hvs hg
  have hI := (inZ sl hsl).ok
  have hG := hw0.kept hg.mem.kept
  unfold pOf at h
  split at h
  · next k =>
    cases hb : (bytesC g.e k && lenIs g.e k 32) with
    | false => rw [hb, cond_false] at h; cases h
    | true =>
      rw [hb, cond_true] at h
      simp only [Bool.and_eq_true] at hb
      split at h
      next i e hmk =>
      cases h
      simp only [evVs, SV.ev, EV.ev] at hvs
      split at hvs
      · next v vr hx hvr =>
        cases hvr
        cases hvs
        obtain ⟨c, hcv, rfl⟩ := Option.map_eq_some_iff.1 hx
        obtain ⟨b, rfl, hbb⟩ := bytesC_ok hI hg.env hb.1 hcv
        have hl := lenIs_ok hg.env hb.2 hcv
        have hbl : b.length = 32 := by simpa [ints] using hl
        obtain ⟨ρ', hle, hi, hg'⟩ := mkL_ok hI hg hmk (vs := ints .u8 (ofS b)) (us := [ints .u8 b]) (by simp [ints]; rfl) (ints_all _) (by simp only [evAs, normC_ok hcv]) ⟨b, rfl, rfl⟩ (by exact Nat.succ_ne_zero _)
        refine ent_does enters234 (of_spec b hbl w hG.start hG.rows hG.places) hle hg' fun v F hp => ?_
        obtain ⟨rfl, _⟩ := hp
        have := run_all (n := 32) hi (by simp [ints]) (ints_all _)
        simp only [SV.ev, EV.ev]
        rw [show (Lin.k 32) = .k (.ofNat 32) from rfl, this]; rfl
      · cases hvs
  · cases h
theorem pChain_ok (hsl : ∀ k n b t, Bytes (sl k n b t)) (hw0 : Glob w0) : PrimOk Tryz.prog (inZ sl hsl) w0 246 pChain := by
  intro args g r g' h ρ vs w hvs hg
  have hI := (inZ sl hsl).ok
  have hG := hw0.kept hg.mem.kept
  unfold pChain at h
  split at h
  · next k x =>
    split at h
    · next cs hcs =>
      cases hb : (bytesC g.e cs && lenUp g.e cs 65536 && bytesC g.e k && lenIs g.e k 32) with
      | false => rw [hb, cond_false] at h; cases h
      | true =>
        rw [hb, cond_true] at h
        simp only [Bool.and_eq_true] at hb
        split at h
        next i e hmk =>
        split at h
        next j e' hmj =>
        cases h
        simp only [evVs] at hvs
        split at hvs
        · next v vr hx hvr =>
          cases hvs
          split at hvr
          · next v2 vr2 hx2 hvr2 =>
            cases hvr2
            cases hvr
            simp only [SV.ev, EV.ev] at hx
            obtain ⟨kc, hkv, rfl⟩ := Option.map_eq_some_iff.1 hx
            obtain ⟨A, l, c, vc, rfl, hlc, hcv, hlen, hR⟩ := argCs_ok hg hcs hx2
            obtain ⟨b, rfl, hbb⟩ := bytesC_ok hI hg.env hb.1.1.1 hcv
            obtain ⟨kb, rfl, hkb⟩ := bytesC_ok hI hg.env hb.1.2 hkv
            have hl := lenUp_ok hg.env hb.1.1.2 hcv
            have hk32 := lenIs_ok hg.env hb.2 hkv
            have hkl : kb.length = 32 := by simpa [ints] using hk32
            have hbl : b.length = l := by simpa [ints] using hlen
            subst hbl
            have hl' : (b.length : Int) ≤ 65536 := by simpa [ints] using hl
            obtain ⟨ρ1, hle1, hi1, hg1⟩ := mkL_ok hI hg hmk (vs := ints .u8 (chainA kb b)) (us := [ints .u8 kb, ints .u8 b]) (by simp [ints]; rfl) (ints_all _) (by simp only [evAs, normC_ok hcv, normC_ok hkv]) ⟨kb, b, rfl, rfl⟩ (by exact Nat.succ_ne_zero _)
            obtain ⟨ρ2, hle2, hi2, hg2⟩ := mkL_ok hI hg1 hmj (vs := ints .u8 (chainB kb b)) (us := [ints .u8 kb, ints .u8 b]) (by simp [ints]; rfl) (ints_all _) (by simp only [evAs, normC_ok (Cs.ev_mono hle1 hcv), normC_ok (Cs.ev_mono hle1 hkv)]) ⟨kb, b, rfl, rfl⟩ (by exact Nat.succ_ne_zero _)
            refine ent_does enters246 (chain_spec kb b A c hkl hlc (by omega) w hR hG.start hG.rows hG.places) (hle1.trans hle2) hg2 fun v F hp => ?_
            obtain ⟨rfl, _⟩ := hp
            have r1 := run_all (n := 32) (hle2.l _ _ hi1) (by simp [ints]) (ints_all _)
            have r2 := run_all (n := 32) hi2 (by simp [ints]) (ints_all _)
            simp only [SV.ev, EV.ev, evEs]
            rw [show (Lin.k 32) = .k (.ofNat 32) from rfl, r1, r2]; rfl
          · cases hvr
        · cases hvs
    · cases h
  · cases h
end
end Go.Proofs.YtpklnjegimchoaaGreatDoor
namespace Go.Proofs.YtpklnjegimchoaaGreatDoor
open Go Go.X
set_option maxRecDepth 100000 in
theorem len64_spec (x : Nat) (hx : x < 18446744073709551616) (w0 : World) : Does Tryz.prog 270 #[.int .u64 ((x : Nat) : Int)] w0 [] (fun v G => v = .int .i64 ((bl x : Nat) : Int) ∧ G = []) := by
  refine spec_of 25 Tryz.func270 rfl rfl rfl ?_
  refine W.go ttok [] [0, 2] rfl trivial rfl rfl ?_
  refine W.meet (α := Nat × Nat) (fun x_ => [(0, .int .u64 ((x_.2 : Nat) : Int)), (2, .int .i64 ((x_.1 : Nat) : Int))]) (fun x_ => []) (fun x_ => bl x = x_.1 + bl x_.2 ∧ x_.2 < 4294967296 ∧ x_.1 ≤ 32) ?_ ?_
  ·
    refine W.go ttok [] [0, 2, 4] rfl trivial rfl rfl ?_
    refine W.cond _ rfl (fun hb1 => ?_) (fun hb1 => ?_)
    · replace hb1 := of_decide_eq_true hb1
      refine W.sr ?_
      refine T.q (q_move rfl rfl) (Wt.plain rfl) rfl rfl ?_
      refine T.q (q_int (b := (((x / 2 ^ 32) : Nat) : Int)) (q_shr rfl rfl rfl (by decide)) (shr_nat .u64 x 32 (by decide))) (Wt.plain rfl) rfl rfl ?_
      refine T.runF ttok [] [0] rfl trivial rfl rfl ?_
      refine W.region ?_
      refine T.q (q_assign rfl rfl) (Wt.plain rfl) rfl rfl ?_
      refine T.nil ?_
      exact Ex.met [] (⟨32, (x / 2 ^ 32)⟩ : Nat × Nat) ⟨by dsimp only; first | omega | (have := bl_shift (x := x) (s := 32) (by omega); omega), by dsimp only; omega, by dsimp only; omega⟩ ⟨rfl, rfl, trivial⟩ (by first | (dsimp only [pick]; done) | rfl)
    · replace hb1 := of_decide_eq_false hb1
      refine W.skip ?_
      exact Ex.met [] (⟨0, x⟩ : Nat × Nat) ⟨by dsimp only; first | omega | (have := bl_shift (x := x) (s := 32) (by omega); omega), by dsimp only; omega, by dsimp only; omega⟩ ⟨rfl, rfl, trivial⟩ (by first | (dsimp only [pick]; done) | rfl)
  ·
    rintro ⟨ma, ya⟩ ⟨hma, hmab, hmac⟩
    conv => rhs; dsimp only
    conv => arg -2; dsimp only
    dsimp only at hma hmab hmac
    refine W.meet (α := Nat × Nat) (fun x_ => [(0, .int .u64 ((x_.2 : Nat) : Int)), (2, .int .i64 ((x_.1 : Nat) : Int))]) (fun x_ => []) (fun x_ => bl x = x_.1 + bl x_.2 ∧ x_.2 < 65536 ∧ x_.1 ≤ 48) ?_ ?_
    ·
      refine W.go ttok [] [0, 2, 8] rfl trivial rfl rfl ?_
      refine W.cond _ rfl (fun hb2 => ?_) (fun hb2 => ?_)
      · replace hb2 := of_decide_eq_true hb2
        refine W.sr ?_
        refine T.q (q_move rfl rfl) (Wt.plain rfl) rfl rfl ?_
        refine T.q (q_int (b := (((ya / 2 ^ 16) : Nat) : Int)) (q_shr rfl rfl rfl (by decide)) (shr_nat .u64 ya 16 (by decide))) (Wt.plain rfl) rfl rfl ?_
        refine T.runF ttok [] [0, 2] rfl trivial rfl rfl ?_
        refine W.region ?_
        refine T.run ttok 3 [] rfl ⟨⟨(by omega), (by omega)⟩, trivial⟩ rfl ?_
        refine T.nil ?_
        exact Ex.met [] (⟨(ma + 16), (ya / 2 ^ 16)⟩ : Nat × Nat) ⟨by dsimp only; first | omega | (have := bl_shift (x := ya) (s := 16) (by omega); omega), by dsimp only; omega, by dsimp only; omega⟩ ⟨rfl, rfl, trivial⟩ (by first | (dsimp only [pick]; done) | rfl)
      · replace hb2 := of_decide_eq_false hb2
        refine W.skip ?_
        exact Ex.met [] (⟨ma, ya⟩ : Nat × Nat) ⟨by dsimp only; first | omega | (have := bl_shift (x := ya) (s := 16) (by omega); omega), by dsimp only; omega, by dsimp only; omega⟩ ⟨rfl, rfl, trivial⟩ (by first | (dsimp only [pick]; done) | rfl)
    ·
      rintro ⟨mb, yb⟩ ⟨hmb, hmbb, hmbc⟩
      conv => rhs; dsimp only
      conv => arg -2; dsimp only
      dsimp only at hmb hmbb hmbc
      refine W.meet (α := Nat × Nat) (fun x_ => [(0, .int .u64 ((x_.2 : Nat) : Int)), (2, .int .i64 ((x_.1 : Nat) : Int))]) (fun x_ => []) (fun x_ => bl x = x_.1 + bl x_.2 ∧ x_.2 < 256 ∧ x_.1 ≤ 56) ?_ ?_
      ·
        refine W.go ttok [] [0, 2, 14] rfl trivial rfl rfl ?_
        refine W.cond _ rfl (fun hb3 => ?_) (fun hb3 => ?_)
        · replace hb3 := of_decide_eq_true hb3
          refine W.sr ?_
          refine T.q (q_move rfl rfl) (Wt.plain rfl) rfl rfl ?_
          refine T.q (q_int (b := (((yb / 2 ^ 8) : Nat) : Int)) (q_shr rfl rfl rfl (by decide)) (shr_nat .u64 yb 8 (by decide))) (Wt.plain rfl) rfl rfl ?_
          refine T.runF ttok [] [0, 2] rfl trivial rfl rfl ?_
          refine W.region ?_
          refine T.run ttok 3 [] rfl ⟨⟨(by omega), (by omega)⟩, trivial⟩ rfl ?_
          refine T.nil ?_
          exact Ex.met [] (⟨(mb + 8), (yb / 2 ^ 8)⟩ : Nat × Nat) ⟨by dsimp only; first | omega | (have := bl_shift (x := yb) (s := 8) (by omega); omega), by dsimp only; omega, by dsimp only; omega⟩ ⟨rfl, rfl, trivial⟩ (by first | (dsimp only [pick]; done) | rfl)
        · replace hb3 := of_decide_eq_false hb3
          refine W.skip ?_
          exact Ex.met [] (⟨mb, yb⟩ : Nat × Nat) ⟨by dsimp only; first | omega | (have := bl_shift (x := yb) (s := 8) (by omega); omega), by dsimp only; omega, by dsimp only; omega⟩ ⟨rfl, rfl, trivial⟩ (by first | (dsimp only [pick]; done) | rfl)
      ·
        rintro ⟨mc, yc⟩ ⟨hmc, hmcb, hmcc⟩
        conv => rhs; dsimp only
        conv => arg -2; dsimp only
        dsimp only at hmc hmcb hmcc
        refine W.sr ?_
        refine T.run ttok 2 [] rfl trivial rfl ?_
        refine T.q (q_int (b := ((yc : Nat) : Int)) (q_conv un240 un5 rfl rfl) ?hE) (Wt.plain rfl) rfl rfl ?_
        case hE => simp [IntKind.wrap, IntKind.bits, IntKind.signed]; omega
        refine T.q (q_len8 un9 rfl rfl rfl (by omega) (by omega)) (Wt.plain rfl) rfl rfl ?_
        refine T.q (q_int (b := (((bl yc) : Nat) : Int)) (q_conv un5 un3 rfl rfl) ?hE) (Wt.plain rfl) rfl rfl ?_
        case hE => rw [len8_bl yc (by omega)]; have := (bl_le yc 8).2 (by omega); simp [IntKind.wrap, IntKind.bits, IntKind.signed]; omega
        have hb8 := (bl_le yc 8).2 (by omega)
        refine T.runF ttok [] [2] rfl ⟨⟨(by omega), (by omega)⟩, trivial⟩ rfl rfl ?_
        refine W.ret ?_
        refine Ex.out1 [] rfl rfl ?_
        exact ⟨by rw [hmc]; rfl, rfl⟩
set_option maxRecDepth 100000 in
theorem len_spec (x : Nat) (hx : x < 18446744073709551616) (w0 : World) : Does Tryz.prog 238 #[.int .u64 ((x : Nat) : Int)] w0 [] (fun v G => v = .int .i64 ((bl x : Nat) : Int) ∧ G = []) := by
  refine spec_of 8 Tryz.func238 rfl rfl rfl ?_
  refine W.go ttok [] [0] rfl trivial rfl rfl ?_
  refine W.seq ?_
  refine W.condF rfl ?_
  refine W.skip ?_
  refine Ex.next ?_
  refine W.keep [0] rfl ?_
  refine W.sr ?_
  refine T.q (q_move rfl rfl) (Wt.plain rfl) rfl rfl ?_
  refine T.eff (e_call enters270 rfl rfl (fun w hm => len64_spec x (by omega) w) rfl rfl) (Wt.plain rfl) ?_
  rintro _ _ ⟨_, _, ⟨rfl, rfl⟩, rfl, rfl⟩
  change (_ : List Blk → Prop) []
  refine T.runF ttok [] [2] rfl trivial rfl rfl ?_
  refine W.ret ?_
  refine Ex.out1 [] rfl rfl ?_
  exact ⟨rfl, rfl⟩
set_option maxRecDepth 100000 in
theorem fits_spec (m : Nat) (hm : m < 9223372036854775808) (kp : Nat) (k : Nat) (w0 : World) (hR : Reads w0 (some ⟨kp, 0, none⟩) [.int .i64 ((m : Nat) : Int)]) : Does Tryz.prog 288 #[.int .i64 ((k : Nat) : Int), .pointer (some ⟨kp, 0, none⟩)] w0 [] (fun v G => v = .bool (decide (((bl m : Nat) : Int) ≤ ((k : Nat) : Int))) ∧ G = []) := by
  refine spec_of 9 Tryz.func288 rfl rfl rfl ?_
  refine W.go ttok [] [0, 1] rfl trivial rfl rfl ?_
  refine W.sr ?_
  refine T.q (q_loadG ss3 (R_ext hR.ext) rfl rfl (rfl)) (Wt.plain rfl) rfl rfl ?_
  refine T.q (q_int (b := ((m : Nat) : Int)) (q_conv un3 un301 rfl rfl) ?hE) (Wt.plain rfl) rfl rfl ?_
  case hE => simp [IntKind.wrap, IntKind.bits, IntKind.signed]; omega
  refine T.eff (e_call enters238 rfl rfl (fun w hm => len_spec m (by omega) w) rfl rfl) (Wt.plain rfl) ?_
  rintro _ _ ⟨_, _, ⟨rfl, rfl⟩, rfl, rfl⟩
  change (_ : List Blk → Prop) []
  refine T.runF ttok [] [3] rfl trivial rfl rfl ?_
  refine W.ret ?_
  refine Ex.out1 [] rfl rfl ?_
  exact ⟨rfl, rfl⟩
set_option maxRecDepth 100000 in
theorem index_spec (m : Nat) (hm0 : m < 9223372036854775808) (hm2 : m < 4611686018427387904) (kp : Nat) (KA : Option Addr) (kc : Nat) (hkc : 4 ≤ kc) (w0 : World) (hR : Reads w0 (some ⟨kp, 0, none⟩) [.int .i64 ((m : Nat) : Int)]) (hT : Reads w0 KA (ints .i64 [6, 14, 30, 62])) : Does Tryz.prog 287 #[.slice KA 4 kc, .func (.func 288) #[] #[.pointer (some ⟨kp, 0, none⟩)]] w0 [] (fun v G => v = .int .i64 ((kd m : Nat) : Int) ∧ G = []) := by
  refine spec_of 19 Tryz.func287 rfl rfl rfl ?_
  refine W.go ttok [] [0, 1] rfl trivial rfl rfl ?_
  refine W.seq ?_
  refine W.go ttok [] [0, 1, 7, 8] rfl trivial rfl rfl ?_
  refine W.block ?_
  refine W.loop (α := Nat) (fun i => [(0, .slice KA 4 kc), (1, .func (.func 288) #[] #[.pointer (some ⟨kp, 0, none⟩)]), (7, .int .i64 ((4 : Nat) : Int)), (8, .int .i64 ((i : Nat) : Int))]) (fun i => []) (fun i => i ≤ 4 ∧ ∀ q, q < i → ¬ m < 2 ^ kt q) (fun i => 4 - i) [] 0 ⟨by omega, fun q hq => absurd hq (by omega)⟩ ⟨rfl, rfl, rfl, rfl, trivial⟩ rfl ?_
  rintro i ⟨hi, hno⟩
  refine W.go ttok [] [0, 1, 7, 8, 9] rfl trivial rfl rfl ?_
  refine W.seq ?_
  refine W.cond _ rfl (fun hb1 => ?_) (fun hb1 => ?_)
  · replace hb1 := of_decide_eq_true hb1
    have hi4 : i < 4 := by omega
    refine W.skip ?_
    refine Ex.next ?_
    refine W.keep [0, 1, 7, 8] rfl ?_
    refine W.seq ?_
    refine W.block ?_
    refine W.go ttok [] [0, 1, 5, 7, 8] rfl trivial rfl rfl ?_
    refine W.sr ?_
    refine T.run ttok 3 [] rfl trivial rfl ?_
    refine T.q (q_ixE1 sc32 i (R_ext hT.ext) rfl rfl rfl (by omega) (by omega) (by first | omega | (simp; done) | (simp [-List.getD_eq_getElem?_getD]; omega))) (Wt.plain rfl) rfl rfl ?_
    refine T.q (q_int (b := (((kt i) : Nat) : Int)) (q_loadE ss3 (R_ext hT.ext) rfl rfl (ints_get (by first | omega | (simp; done) | (simp [-List.getD_eq_getElem?_getD]; omega)))) (kt_get hi4)) (Wt.plain rfl) rfl rfl ?_
    refine T.eff (e_callF enters288 rfl rfl rfl (fun w hm => fits_spec m hm0 kp (kt i) w ((R_ext hR.ext) w hm)) rfl rfl) (Wt.plain rfl) ?_
    rintro _ _ ⟨_, _, ⟨rfl, rfl⟩, rfl, rfl⟩
    change (_ : List Blk → Prop) []
    refine T.fin [0, 1, 5, 7, 8, 16] rfl ?_
    refine W.cond _ rfl (fun hb2 => ?_) (fun hb2 => ?_)
    · replace hb2 := of_decide_eq_true hb2
      refine W.go ttok [] [4] rfl trivial rfl rfl ?_
      refine W.ret ?_
      refine Ex.in_ret ?_
      refine Ex.then_ret ?_
      refine Ex.then_ret ?_
      refine Ex.in_ret ?_
      refine Ex.then_ret ?_
      refine Ex.out1 [] rfl rfl ?_
      exact ⟨by rw [kd_first hi4 ((bl_le _ _).1 (by omega)) hno], rfl⟩
    · replace hb2 := of_decide_eq_false hb2
      refine W.skip ?_
      refine Ex.in_normal ?_
      refine Ex.next ?_
      refine W.keep [0, 1, 7, 8] rfl ?_
      refine W.region ?_
      refine T.run ttok 2 [] rfl ⟨⟨(by omega), (by omega)⟩, trivial⟩ rfl ?_
      refine T.nil ?_
      exact Ex.again [] (i + 1) (by omega) ⟨by omega, no_step hno (fun hlt => absurd ((bl_le m (kt i)).2 hlt) (by omega))⟩ ⟨rfl, rfl, rfl, rfl, trivial⟩ rfl
  · replace hb1 := of_decide_eq_false hb1
    obtain rfl : i = 4 := by omega
    refine W.exit ?_
    refine Ex.then_exit ?_
    refine Ex.then_exit ?_
    refine Ex.in_here ?_
    refine Ex.next ?_
    refine W.slots (L' := []) trivial ?_
    refine W.go ttok [] [4] rfl trivial rfl rfl ?_
    refine W.ret ?_
    refine Ex.out1 [] rfl rfl ?_
    exact absurd ((kt_last m).1 hm2) (hno 3 (by omega))
set_option maxRecDepth 100000 in
theorem kind_spec (m : Nat) (hm2 : m < 4611686018427387904) (w0 : World) : Does Tryz.prog 272 #[.int .i64 ((m : Nat) : Int)] w0 [] (fun v G => v = .int .i64 ((kd m : Nat) : Int) ∧ G = []) := by
  refine spec_of 10 Tryz.func272 rfl rfl rfl ?_
  refine W.sr ?_
  refine T.eff (e_box rfl rfl rfl rfl) (Wt.plain rfl) ?_
  rintro _ _ ⟨k1, rfl, rfl⟩
  change (_ : List Blk → Prop) [_]
  refine T.runF ttok [] [1] rfl trivial rfl rfl ?_
  refine W.sr ?_
  refine T.q (q_build (v := .agg (ints .i64 [6, 14, 30]).toArray) rfl rfl (fun _ => by kernel_rfl)) (Wt.plain rfl) rfl rfl ?_
  refine T.eff (e_alloc ze370 rfl rfl rfl) (Wt.plain rfl) ?_
  rintro _ _ ⟨k2, rfl, rfl⟩
  change (_ : List Blk → Prop) [_, _]
  refine T.eff (e_storeA (wide_ints wd370 (by first | omega | (simp; done) | (simp [-List.getD_eq_getElem?_getD]; omega) | (simp at *; omega) | rfl)) 1 rfl rfl rfl rfl (by first | omega | (simp; done) | (simp [-List.getD_eq_getElem?_getD]; omega) | (simp at *; omega) | rfl) ints_one rfl) (Wt.plain rfl) ?_
  rintro _ _ ⟨rfl, rfl⟩
  change (_ : List Blk → Prop) [_, _]
  refine T.fin [1, 3] rfl ?_
  refine W.sr ?_
  refine T.q (q_slAll ar370 rfl rfl) (Wt.plain rfl) rfl rfl ?_
  refine T.eff (e_litA sc32 ze3 rfl rfl rfl (by simp [Value.cells]) rfl rfl rfl) (Wt.plain rfl) ?_
  rintro _ _ ⟨k3, rfl, rfl⟩
  change (_ : List Blk → Prop) [_, _, _]
  refine T.eff (e_appendF sc32 ze3 rfl .i64 [6, 14, 30] [62] (R_blk 1 rfl) (R_blk 2 rfl) rfl rfl rfl (by first | omega | (simp; done) | (simp [-List.getD_eq_getElem?_getD]; omega) | (simp at *; omega) | rfl) (by first | omega | (simp; done) | (simp [-List.getD_eq_getElem?_getD]; omega) | (simp at *; omega) | rfl) (by first | omega | (simp; done) | (simp [-List.getD_eq_getElem?_getD]; omega) | (simp at *; omega) | rfl) (by first | omega | (simp; done) | (simp [-List.getD_eq_getElem?_getD]; omega)) (by first | omega | (simp; done) | (simp [-List.getD_eq_getElem?_getD]; omega)) rfl rfl) (Wt.plain rfl) ?_
  rintro _ _ ⟨k4, cap5, junk6, hc7, hc8, rfl, rfl⟩
  change (_ : List Blk → Prop) [_, _, _, _]
  refine T.q (q_func (first := []) rfl rfl rfl) (Wt.plain rfl) rfl rfl ?_
  refine T.eff (e_call enters287 rfl rfl (fun w hm => index_spec m (by omega) hm2 k1 _ _ (by first | omega | (simp; done) | (simp; omega) | (simp at *; omega)) w ((R_blk 0 rfl) w hm) ((hc8) w hm)) rfl rfl) (Wt.plain rfl) ?_
  rintro _ _ ⟨_, _, ⟨rfl, rfl⟩, rfl, rfl⟩
  change (_ : List Blk → Prop) [_, _, _, _]
  refine T.q (q_assign rfl rfl) (Wt.plain rfl) rfl rfl ?_
  refine T.end ?_
  refine W.drop [false, false, false, false] [2] rfl ?_
  change (_ : List Blk → Prop) []
  refine W.ret ?_
  refine Ex.out1 [] rfl rfl ?_
  exact ⟨rfl, rfl⟩
end Go.Proofs.YtpklnjegimchoaaGreatDoor
namespace Go.Proofs.YtpklnjegimchoaaGreatDoor
open Go Go.X Go.Z
section
variable {I : In} {w0 w : World} {ρ ρ' : Env} {g g' : G}
theorem pKind_ok : PrimOk Tryz.prog I w0 272 pKind := by
  intro args g r g' h ρ vs w hvs hg
  unfold pKind at h
  split at h
  · next m =>
    simp only [evVs, SV.ev, EV.ev, SC.ev] at hvs
    split at hvs
    · next v vr hx hvr =>
      cases hvr
      cases hvs
      obtain ⟨z, hz, rfl⟩ := Option.map_eq_some_iff.1 hx
      have key : ∀ (k : Nat), 0 ≤ z → z < 16384 → (kd z.toNat = k) → Ent Tryz.prog I w0 ρ 272 [.int .i64 z] w (.e (.c (.int .i64 (.k (.ofNat k))))) g := fun k h0 h1 hk => by
        obtain ⟨m, rfl⟩ := Int.eq_ofNat_of_zero_le h0
        refine ent_does enters272 (kind_spec m (by omega) w) (Env.le.refl _) hg fun v F hp => ?_
        obtain ⟨rfl, _⟩ := hp
        have hk : kd m = k := hk
        subst hk
        rfl
      split at h
      · next _ _ _ h1 h2 =>
        cases h
        have a := lt_ok hg.env.bok hz (rfl : (Lin.k 0).ev ρ = some 0) h1
        have b := lt_ok hg.env.bok hz (rfl : (Lin.k 64).ev ρ = some 64) h2
        have a := of_decide_eq_false a.symm
        have b := of_decide_eq_true b.symm
        exact key 0 (by omega) (by omega) (by unfold kd; rw [if_pos (by omega)])
      · next _ _ _ h1 h2 h3 =>
        cases h
        have a := lt_ok hg.env.bok hz (rfl : (Lin.k 0).ev ρ = some 0) h1
        have b := lt_ok hg.env.bok hz (rfl : (Lin.k 64).ev ρ = some 64) h2
        have c := lt_ok hg.env.bok hz (rfl : (Lin.k 16384).ev ρ = some 16384) h3
        have a := of_decide_eq_false a.symm
        have b := of_decide_eq_false b.symm
        have c := of_decide_eq_true c.symm
        exact key 1 (by omega) (by omega) (by unfold kd; rw [if_neg (by omega), if_pos (by omega)])
      · cases h
    · cases hvs
  · cases h
theorem pLen_ok : PrimOk Tryz.prog I w0 238 pLen := by
  intro args g r g' h ρ vs w hvs hg
  unfold pLen at h
  split at h
  · next n =>
    cases hb : Nat.blt n 18446744073709551616 with
    | false => rw [hb, cond_false] at h; cases h
    | true =>
      rw [hb, cond_true] at h
      cases h
      cases hvs
      refine ent_does enters238 (len_spec n (by simpa [Nat.blt_eq] using hb) w) (Env.le.refl _) hg fun v F hp => ?_
      obtain ⟨rfl, _⟩ := hp
      simp only [SV.ev, EV.ev, SC.ev, Lin.ev, Option.map_some, bl]
      cases n with
      | zero => rfl
      | succ n => rfl
  · cases h
end
end Go.Proofs.YtpklnjegimchoaaGreatDoor
