/-
  The walks of layer 9: bytes as a number.
-/
import Derived.Test.YtmkjnefongjniaaO3
namespace Go.Proofs.Ytmkjnefongjniaa
open Go Go.X

set_option maxRecDepth 100000 in
theorem small_spec (bs : List Int) (SA : Option Addr) (sc : Nat) (hbb : Bytes bs) (hv : valS bs < 4611686018427387904) (hsc : bs.length ≤ sc) (hsl : bs.length ≤ 140737488354000) (w0 : World) (hS : Reads w0 SA (ints .u8 bs)) : Does Try.prog 56 #[.slice SA bs.length sc] w0 [] (fun v G => v = .int .i64 ((valS bs : Nat) : Int) ∧ G = []) := by
  refine spec_of 19 Try.func56 rfl rfl rfl ?_
  refine W.seq ?_
  refine W.region ?_
  refine T.q (q_assign rfl rfl) (Wt.plain rfl) rfl rfl ?_
  refine T.nil ?_
  refine Ex.next ?_
  refine W.slots (L' := [(0, _)]) ⟨rfl, trivial⟩ ?_
  refine W.seq ?_
  refine W.region ?_
  refine T.q (q_assign rfl rfl) (Wt.plain rfl) rfl rfl ?_
  refine T.nil ?_
  refine Ex.next ?_
  refine W.slots (L' := [(0, _), (3, _)]) ⟨rfl, rfl, trivial⟩ ?_
  refine W.seq ?_
  refine W.seq ?_
  refine W.region ?_
  refine T.q (q_move rfl rfl) (Wt.plain rfl) rfl rfl ?_
  refine T.q (q_len sc22 rfl rfl) (Wt.plain rfl) rfl rfl ?_
  refine T.q (q_move rfl rfl) (Wt.plain rfl) rfl rfl ?_
  refine T.nil ?_
  refine Ex.next ?_
  refine W.slots (L' := [(3, _), (6, _), (7, _), (8, _)]) ⟨rfl, rfl, rfl, rfl, trivial⟩ ?_
  refine W.block ?_
  refine W.loop (α := Nat) (fun i => [(3, .int .i64 (((valS (bs.take i)) : Nat) : Int)), (6, .slice SA bs.length sc), (7, .int .i64 ((bs.length : Nat) : Int)), (8, .int .i64 ((i : Nat) : Int))]) (fun i => []) (fun i => i ≤ bs.length) (fun i => bs.length - i) [] 0 (by omega) ⟨rfl, rfl, rfl, rfl, trivial⟩ rfl ?_
  rintro i hi
  refine W.seq ?_
  refine W.region ?_
  refine T.q (q_lss rfl rfl rfl) (Wt.plain rfl) rfl rfl ?_
  refine T.nil ?_
  refine Ex.next ?_
  refine W.slots (L' := [(3, _), (6, _), (7, _), (8, _), (9, _)]) ⟨rfl, rfl, rfl, rfl, rfl, trivial⟩ ?_
  refine W.seq ?_
  refine W.cond _ rfl (fun hb1 => ?_) (fun hb1 => ?_)
  · replace hb1 := of_decide_eq_true hb1
    have hib : i < bs.length := by omega
    refine W.skip ?_
    refine Ex.next ?_
    refine W.slots (L' := [(3, _), (6, _), (7, _), (8, _)]) ⟨rfl, rfl, rfl, rfl, trivial⟩ ?_
    refine W.seq ?_
    refine W.block ?_
    refine W.seq ?_
    refine W.region ?_
    refine T.q (q_ixE1 sc22 i (R_ext hS.ext) rfl rfl rfl (by omega) (by omega) (by first | omega | (simp; done) | (simp [-List.getD_eq_getElem?_getD]; omega))) (Wt.plain rfl) rfl rfl ?_
    refine T.q (q_loadE ss5 (R_ext hS.ext) rfl rfl (ints_get (by first | omega | (simp; done) | (simp [-List.getD_eq_getElem?_getD]; omega)))) (Wt.plain rfl) rfl rfl ?_
    refine T.q (q_assign rfl rfl) (Wt.plain rfl) rfl rfl ?_
    refine T.nil ?_
    refine Ex.next ?_
    refine W.slots (L' := [(3, _), (5, _), (6, _), (7, _), (8, _)]) ⟨rfl, rfl, rfl, rfl, rfl, trivial⟩ ?_
    refine W.region ?_
    refine T.q (q_move rfl rfl) (Wt.plain rfl) rfl rfl ?_
    refine T.q (q_shl rfl rfl rfl (by decide)) (Wt.plain rfl) rfl rfl ?_
    refine T.q (q_move rfl rfl) (Wt.plain rfl) rfl rfl ?_
    refine T.q (q_conv un5 un3 rfl rfl) (Wt.plain rfl) rfl rfl ?_
    refine T.q (q_int (b := (((valS (bs.take (i + 1))) : Nat) : Int)) (q_or rfl rfl rfl) (small_step hbb hib hv)) (Wt.plain rfl) rfl rfl ?_
    refine T.q (q_assign rfl rfl) (Wt.plain rfl) rfl rfl ?_
    refine T.nil ?_
    refine Ex.in_normal ?_
    refine Ex.next ?_
    refine W.slots (L' := [(3, _), (6, _), (7, _), (8, _)]) ⟨rfl, rfl, rfl, rfl, trivial⟩ ?_
    refine W.region ?_
    refine T.q (q_addi rfl rfl rfl (by omega) (by omega)) (Wt.plain rfl) rfl rfl ?_
    refine T.q (q_move rfl rfl) (Wt.plain rfl) rfl rfl ?_
    refine T.nil ?_
    exact Ex.again [] (i + 1) (by omega) (by omega) ⟨rfl, rfl, rfl, rfl, trivial⟩ rfl
  · replace hb1 := of_decide_eq_false hb1
    obtain rfl : i = bs.length := by omega
    refine W.exit ?_
    refine Ex.then_exit ?_
    refine Ex.then_exit ?_
    refine Ex.in_here ?_
    refine Ex.next ?_
    refine W.slots (L' := [(3, _)]) ⟨rfl, trivial⟩ ?_
    refine W.seq ?_
    refine W.region ?_
    refine T.q (q_move rfl rfl) (Wt.plain rfl) rfl rfl ?_
    refine T.q (q_assign rfl rfl) (Wt.plain rfl) rfl rfl ?_
    refine T.nil ?_
    refine Ex.next ?_
    refine W.slots (L' := [(2, _)]) ⟨rfl, trivial⟩ ?_
    refine W.ret ?_
    refine Ex.out1 [] rfl rfl ?_
    exact ⟨by rw [List.take_length], rfl⟩
theorem small_at (bs : List Int) (SA : Option Addr) (sc : Nat) {m : Nat} (hbb : Bytes bs) (hv : valS bs < 4611686018427387904) (hsc : m ≤ sc) (hsl : m ≤ 140737488354000) (w0 : World) (hS : Reads w0 SA (ints .u8 bs)) (hm : bs.length = m) : Does Try.prog 56 #[.slice SA m sc] w0 [] (fun v G => v = .int .i64 ((valS bs : Nat) : Int) ∧ G = []) := by
  subst hm
  exact small_spec bs SA sc hbb hv hsc hsl w0 hS

end Go.Proofs.Ytmkjnefongjniaa
