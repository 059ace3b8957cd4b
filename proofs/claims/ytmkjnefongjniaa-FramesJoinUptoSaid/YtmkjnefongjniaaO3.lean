/-
  The walks of layer 9: a number in bytes.
-/
import Derived.Test.YtmkjnefongjniaaO2
namespace Go.Proofs.Ytmkjnefongjniaa
open Go Go.X

set_option maxRecDepth 100000 in
theorem big_spec0 (n s : Nat) (xs : List Int) (js : List Value) (no : Option Nat) (cp : Nat) (hs1 : 1 ≤ s) (hs8 : s ≤ 8) (hn : n < 9223372036854775808) (hl : xs.length + js.length = cp) (hb : xs.length ≤ 140737488355000) (w0 : World) (hk : (⟨no, ints .u8 xs ++ js, 5, (0, 0)⟩ : Blk).here w0) : Does Try.prog 53 #[.slice (no.map fun k => (⟨k, 0, none⟩ : Addr)) xs.length cp, .int .i64 ((n : Nat) : Int), .int .i64 ((s : Nat) : Int)] w0 no.toList (fun v G => ∃ (k cap : Nat) (junk : List Value), v = .slice (some ⟨k, 0, none⟩) (xs.length + s) cap ∧ xs.length + s + junk.length = cap ∧ G = [⟨some k, ints .u8 (xs ++ bigS n s) ++ junk, 5, (0, 0)⟩]) := by
  refine spec_ofB 23 [⟨no, ints .u8 xs ++ js, 5, (0, 0)⟩] (Mem.ownO hk) Try.func53 rfl rfl rfl ?_
  refine W.seq ?_
  refine W.region ?_
  refine T.q (q_assign rfl rfl) (Wt.plain rfl) rfl rfl ?_
  refine T.nil ?_
  refine Ex.next ?_
  refine W.slots (L' := [(0, _), (1, _), (2, _)]) ⟨rfl, rfl, rfl, trivial⟩ ?_
  refine W.seq ?_
  refine W.seq ?_
  refine W.region ?_
  refine T.q (q_move rfl rfl) (Wt.plain rfl) rfl rfl ?_
  refine T.q (q_int (b := ((s : Nat) : Int) - 1 - ((0 : Nat) : Int)) (q_subi rfl rfl rfl (by omega) (by omega)) ?hE) (Wt.plain rfl) rfl rfl ?_
  case hE => omega
  refine T.q (q_assign rfl rfl) (Wt.plain rfl) rfl rfl ?_
  refine T.nil ?_
  refine Ex.next ?_
  refine W.slots (L' := [(0, _), (1, _), (7, _)]) ⟨rfl, rfl, rfl, trivial⟩ ?_
  refine W.block ?_
  refine W.loop (α := Nat × Option Nat × Nat × List Value) (fun x_ => [(0, .slice (x_.2.1.map fun k => (⟨k, 0, none⟩ : Addr)) (xs.length + x_.1) x_.2.2.1), (1, .int .i64 ((n : Nat) : Int)), (7, .int .i64 (((s : Nat) : Int) - 1 - ((x_.1 : Nat) : Int)))]) (fun x_ => [⟨x_.2.1, ints .u8 (xs ++ gather (bigf n s) x_.1 []) ++ x_.2.2.2, 5, (0, 0)⟩]) (fun x_ => x_.1 ≤ s ∧ xs.length + x_.1 + x_.2.2.2.length = x_.2.2.1 ∧ (0 < x_.1 → x_.2.1.isSome = true)) (fun x_ => s - x_.1) [true] (⟨0, no, cp, js⟩) ⟨by dsimp only; omega, by dsimp only; omega, fun h => absurd h (Nat.lt_irrefl 0)⟩ ⟨rfl, rfl, rfl, trivial⟩ (by dsimp only [pick]; rw [show gather (bigf n s) 0 [] = [] from rfl, List.append_nil]) ?_
  rintro ⟨j, nk, cq, jq⟩ ⟨hj, hq, hsm⟩
  conv => rhs; dsimp only
  conv => arg -2; dsimp only
  dsimp only at hj hq hsm
  refine W.seq ?_
  refine W.seq ?_
  refine W.region ?_
  refine T.q (q_move rfl rfl) (Wt.plain rfl) rfl rfl ?_
  refine T.q (q_geq rfl rfl rfl) (Wt.plain rfl) rfl rfl ?_
  refine T.nil ?_
  refine Ex.next ?_
  refine W.slots (L' := [(0, _), (1, _), (7, _), (11, _)]) ⟨rfl, rfl, rfl, rfl, trivial⟩ ?_
  refine W.cond _ rfl (fun hb1 => ?_) (fun hb1 => ?_)
  · replace hb1 := of_decide_eq_true hb1
    have hjs : j < s := by omega
    refine W.skip ?_
    refine Ex.next ?_
    refine W.slots (L' := [(0, _), (1, _), (7, _)]) ⟨rfl, rfl, rfl, trivial⟩ ?_
    refine W.seq ?_
    refine W.block ?_
    refine W.region ?_
    refine T.q (q_move rfl rfl) (Wt.plain rfl) rfl rfl ?_
    refine T.q (q_move rfl rfl) (Wt.plain rfl) rfl rfl ?_
    refine T.q (q_move rfl rfl) (Wt.plain rfl) rfl rfl ?_
    refine T.q (q_int (b := 8 * ((s - 1 - j : Nat) : Int)) (q_muli rfl rfl rfl (by omega) (by omega)) ?hE) (Wt.plain rfl) rfl rfl ?_
    case hE => omega
    refine T.q (q_shr rfl rfl rfl (by omega)) (Wt.plain rfl) rfl rfl ?_
    refine T.q (q_int (b := bigf n s j) (q_conv un3 un5 rfl rfl) (shr_bt n (s - 1 - j) hn (by omega))) (Wt.plain rfl) rfl rfl ?_
    refine T.eff (e_litA sc22 ze5 rfl rfl rfl (by simp [Value.cells]) rfl rfl rfl) (Wt.plain rfl) ?_
    rintro _ _ ⟨k2, rfl, rfl⟩
    change (_ : List Blk → Prop) [_, _]
    refine T.eff (e_appendO sc22 ze5 rfl 0 .u8 (xs ++ gather (bigf n s) j []) [bigf n s j] jq (rfl) (R_blk 1 rfl) rfl rfl rfl rfl (by first | omega | (simp; done) | (simp [-List.getD_eq_getElem?_getD]; omega) | (simp at *; omega) | rfl) (by first | omega | (simp; done) | (simp [-List.getD_eq_getElem?_getD]; omega) | (simp at *; omega) | rfl) (by first | omega | (simp; done) | (simp [-List.getD_eq_getElem?_getD]; omega) | (simp at *; omega) | rfl) (by omega) (by first | omega | (simp; done) | (simp [-List.getD_eq_getElem?_getD]; omega)) (by first | omega | (simp; done) | (simp [-List.getD_eq_getElem?_getD]; omega)) rfl rfl) (Wt.plain rfl) ?_
    rintro _ _ ⟨k3, cap4, junk5, hc6, rfl, rfl⟩
    change (_ : List Blk → Prop) [_, _]
    conv => rhs; rw [List.append_assoc, ← gather_succ]
    refine T.q (q_assign rfl rfl) (Wt.plain rfl) rfl rfl ?_
    refine T.nil ?_
    refine Ex.in_normal ?_
    refine Ex.next ?_
    refine W.less (L' := [(0, _), (1, _), (7, _)]) [true, false] ⟨rfl, rfl, rfl, trivial⟩ ?_
    change (_ : List Blk → Prop) [_]
    refine W.region ?_
    refine T.q (q_move rfl rfl) (Wt.plain rfl) rfl rfl ?_
    refine T.q (q_int (b := ((s : Nat) : Int) - 1 - ((j + 1 : Nat) : Int)) (q_subi rfl rfl rfl (by omega) (by omega)) ?hE) (Wt.plain rfl) rfl rfl ?_
    case hE => omega
    refine T.q (q_assign rfl rfl) (Wt.plain rfl) rfl rfl ?_
    refine T.nil ?_
    exact Ex.again [true] (⟨j + 1, some k3, cap4, junk5⟩ : Nat × Option Nat × Nat × List Value) (by dsimp only; omega) ⟨by dsimp only; omega, by dsimp only; omega, fun _ => rfl⟩ ⟨rfl, rfl, rfl, trivial⟩ (by first | (dsimp only [pick]; done) | rfl)
  · replace hb1 := of_decide_eq_false hb1
    obtain rfl : j = s := by omega
    refine W.exit ?_
    refine Ex.then_exit ?_
    refine Ex.then_exit ?_
    refine Ex.in_here ?_
    refine Ex.next ?_
    refine W.slots (L' := [(0, _)]) ⟨rfl, trivial⟩ ?_
    refine W.seq ?_
    refine W.region ?_
    refine T.q (q_move rfl rfl) (Wt.plain rfl) rfl rfl ?_
    refine T.q (q_assign rfl rfl) (Wt.plain rfl) rfl rfl ?_
    refine T.nil ?_
    refine Ex.next ?_
    refine W.slots (L' := [(6, _)]) ⟨rfl, trivial⟩ ?_
    refine W.ret ?_
    refine Ex.out1 [true] rfl rfl ?_
    obtain ⟨kz, rfl⟩ := Option.isSome_iff_exists.1 (hsm (by omega))
    exact ⟨kz, _, _, rfl, hq, rfl⟩
theorem big_spec (n s : Nat) (xs : List Int) (js : List Value) (no : Option Nat) (cp : Nat) (hs1 : 1 ≤ s) (hs8 : s ≤ 8) (hn : n < 9223372036854775808) {m : Nat} (hxm : xs.length = m) (hl : m + js.length = cp) (hb : m ≤ 140737488355000) (w0 : World) (hk : (⟨no, ints .u8 xs ++ js, 5, (0, 0)⟩ : Blk).here w0) : Does Try.prog 53 #[.slice (no.map fun k => (⟨k, 0, none⟩ : Addr)) m cp, .int .i64 ((n : Nat) : Int), .int .i64 ((s : Nat) : Int)] w0 no.toList
    (fun v G => ∃ (k cap : Nat) (junk : List Value), v = .slice (some ⟨k, 0, none⟩) (m + s) cap ∧ m + s + junk.length = cap ∧ G = [⟨some k, ints .u8 (xs ++ bigS n s) ++ junk, 5, (0, 0)⟩]) := by
  subst hxm
  exact big_spec0 n s xs js no cp hs1 hs8 hn hl hb w0 hk

end Go.Proofs.Ytmkjnefongjniaa
