/-
  The walks of layer 9: of which kind a number is.
-/
import Derived.Test.YtmkjnefongjniaaHO
namespace Go.Proofs.Ytmkjnefongjniaa
open Go Go.X

set_option maxRecDepth 100000 in
theorem len64_spec (x : Nat) (hx : x < 18446744073709551616) (w0 : World) : Does Try.prog 72 #[.int .u64 ((x : Nat) : Int)] w0 [] (fun v G => v = .int .i64 ((bl x : Nat) : Int) ∧ G = []) := by
  refine spec_of 25 Try.func72 rfl rfl rfl ?_
  refine W.seq ?_
  refine W.region ?_
  refine T.q (q_assign rfl rfl) (Wt.plain rfl) rfl rfl ?_
  refine T.nil ?_
  refine Ex.next ?_
  refine W.slots (L' := [(0, _), (2, _)]) ⟨rfl, rfl, trivial⟩ ?_
  refine W.meet (α := Nat × Nat) (fun x_ => [(0, .int .u64 ((x_.2 : Nat) : Int)), (2, .int .i64 ((x_.1 : Nat) : Int))]) (fun x_ => []) (fun x_ => bl x = x_.1 + bl x_.2 ∧ x_.2 < 4294967296 ∧ x_.1 ≤ 32) ?_ ?_
  ·
    refine W.seq ?_
    refine W.region ?_
    refine T.q (q_move rfl rfl) (Wt.plain rfl) rfl rfl ?_
    refine T.q (q_geq rfl rfl rfl) (Wt.plain rfl) rfl rfl ?_
    refine T.nil ?_
    refine Ex.next ?_
    refine W.slots (L' := [(0, _), (2, _), (4, _)]) ⟨rfl, rfl, rfl, trivial⟩ ?_
    refine W.cond _ rfl (fun hb1 => ?_) (fun hb1 => ?_)
    · replace hb1 := of_decide_eq_true hb1
      refine W.seq ?_
      refine W.region ?_
      refine T.q (q_move rfl rfl) (Wt.plain rfl) rfl rfl ?_
      refine T.q (q_int (b := (((x / 2 ^ 32) : Nat) : Int)) (q_shr rfl rfl rfl (by decide)) (shr_nat .u64 x 32 (by decide))) (Wt.plain rfl) rfl rfl ?_
      refine T.q (q_assign rfl rfl) (Wt.plain rfl) rfl rfl ?_
      refine T.nil ?_
      refine Ex.next ?_
      refine W.slots (L' := [(0, _)]) ⟨rfl, trivial⟩ ?_
      refine W.region ?_
      refine T.q (q_assign rfl rfl) (Wt.plain rfl) rfl rfl ?_
      refine T.nil ?_
      exact Ex.met [] (⟨32, (x / 2 ^ 32)⟩ : Nat × Nat) ⟨by dsimp only; first | omega | (have := bl_shift (x := x) (s := 32) (by omega); omega), by dsimp only; omega, by dsimp only; omega⟩ ⟨rfl, rfl, trivial⟩ (by first | (dsimp only [pick]; done) | rfl)
    · replace hb1 := of_decide_eq_false hb1
      refine W.skip ?_
      exact Ex.met [] (⟨0, x⟩ : Nat × Nat) ⟨by dsimp only; first | omega | (have := bl_shift (x := x) (s := 32) (by omega); omega), by dsimp only; omega, by dsimp only; omega⟩ ⟨rfl, rfl, trivial⟩ (by first | (dsimp only [pick]; done) | rfl)
  ·
    rintro ⟨ma, ya⟩ ⟨hma, hmab, hmac⟩
    conv => rhs; dsimp only
    conv => arg -2; dsimp only
    dsimp only at hma hmab hmac
    refine W.meet (α := Nat × Nat) (fun x_ => [(0, .int .u64 ((x_.2 : Nat) : Int)), (2, .int .i64 ((x_.1 : Nat) : Int))]) (fun x_ => []) (fun x_ => bl x = x_.1 + bl x_.2 ∧ x_.2 < 65536 ∧ x_.1 ≤ 48) ?_ ?_
    ·
      refine W.seq ?_
      refine W.region ?_
      refine T.q (q_move rfl rfl) (Wt.plain rfl) rfl rfl ?_
      refine T.q (q_geq rfl rfl rfl) (Wt.plain rfl) rfl rfl ?_
      refine T.nil ?_
      refine Ex.next ?_
      refine W.slots (L' := [(0, _), (2, _), (8, _)]) ⟨rfl, rfl, rfl, trivial⟩ ?_
      refine W.cond _ rfl (fun hb2 => ?_) (fun hb2 => ?_)
      · replace hb2 := of_decide_eq_true hb2
        refine W.seq ?_
        refine W.region ?_
        refine T.q (q_move rfl rfl) (Wt.plain rfl) rfl rfl ?_
        refine T.q (q_int (b := (((ya / 2 ^ 16) : Nat) : Int)) (q_shr rfl rfl rfl (by decide)) (shr_nat .u64 ya 16 (by decide))) (Wt.plain rfl) rfl rfl ?_
        refine T.q (q_assign rfl rfl) (Wt.plain rfl) rfl rfl ?_
        refine T.nil ?_
        refine Ex.next ?_
        refine W.slots (L' := [(0, _), (2, _)]) ⟨rfl, rfl, trivial⟩ ?_
        refine W.region ?_
        refine T.q (q_move rfl rfl) (Wt.plain rfl) rfl rfl ?_
        refine T.q (q_addi rfl rfl rfl (by omega) (by omega)) (Wt.plain rfl) rfl rfl ?_
        refine T.q (q_assign rfl rfl) (Wt.plain rfl) rfl rfl ?_
        refine T.nil ?_
        exact Ex.met [] (⟨(ma + 16), (ya / 2 ^ 16)⟩ : Nat × Nat) ⟨by dsimp only; first | omega | (have := bl_shift (x := ya) (s := 16) (by omega); omega), by dsimp only; omega, by dsimp only; omega⟩ ⟨rfl, rfl, trivial⟩ (by first | (dsimp only [pick]; done) | rfl)
      · replace hb2 := of_decide_eq_false hb2
        refine W.skip ?_
        exact Ex.met [] (⟨ma, ya⟩ : Nat × Nat) ⟨by dsimp only; first | omega | (have := bl_shift (x := ya) (s := 16) (by omega); omega), by dsimp only; omega, by dsimp only; omega⟩ ⟨rfl, rfl, trivial⟩ (by first | (dsimp only [pick]; done) | rfl)
    ·
      rintro ⟨mb, yb⟩ ⟨hmb, hmbb, hmbc⟩
      conv => rhs; dsimp only
      conv => arg -2; dsimp only
      dsimp only at hmb hmbb hmbc
      refine W.meet (α := Nat × Nat) (fun x_ => [(0, .int .u64 ((x_.2 : Nat) : Int)), (2, .int .i64 ((x_.1 : Nat) : Int))]) (fun x_ => []) (fun x_ => bl x = x_.1 + bl x_.2 ∧ x_.2 < 256 ∧ x_.1 ≤ 56) ?_ ?_
      ·
        refine W.seq ?_
        refine W.region ?_
        refine T.q (q_move rfl rfl) (Wt.plain rfl) rfl rfl ?_
        refine T.q (q_geq rfl rfl rfl) (Wt.plain rfl) rfl rfl ?_
        refine T.nil ?_
        refine Ex.next ?_
        refine W.slots (L' := [(0, _), (2, _), (14, _)]) ⟨rfl, rfl, rfl, trivial⟩ ?_
        refine W.cond _ rfl (fun hb3 => ?_) (fun hb3 => ?_)
        · replace hb3 := of_decide_eq_true hb3
          refine W.seq ?_
          refine W.region ?_
          refine T.q (q_move rfl rfl) (Wt.plain rfl) rfl rfl ?_
          refine T.q (q_int (b := (((yb / 2 ^ 8) : Nat) : Int)) (q_shr rfl rfl rfl (by decide)) (shr_nat .u64 yb 8 (by decide))) (Wt.plain rfl) rfl rfl ?_
          refine T.q (q_assign rfl rfl) (Wt.plain rfl) rfl rfl ?_
          refine T.nil ?_
          refine Ex.next ?_
          refine W.slots (L' := [(0, _), (2, _)]) ⟨rfl, rfl, trivial⟩ ?_
          refine W.region ?_
          refine T.q (q_move rfl rfl) (Wt.plain rfl) rfl rfl ?_
          refine T.q (q_addi rfl rfl rfl (by omega) (by omega)) (Wt.plain rfl) rfl rfl ?_
          refine T.q (q_assign rfl rfl) (Wt.plain rfl) rfl rfl ?_
          refine T.nil ?_
          exact Ex.met [] (⟨(mb + 8), (yb / 2 ^ 8)⟩ : Nat × Nat) ⟨by dsimp only; first | omega | (have := bl_shift (x := yb) (s := 8) (by omega); omega), by dsimp only; omega, by dsimp only; omega⟩ ⟨rfl, rfl, trivial⟩ (by first | (dsimp only [pick]; done) | rfl)
        · replace hb3 := of_decide_eq_false hb3
          refine W.skip ?_
          exact Ex.met [] (⟨mb, yb⟩ : Nat × Nat) ⟨by dsimp only; first | omega | (have := bl_shift (x := yb) (s := 8) (by omega); omega), by dsimp only; omega, by dsimp only; omega⟩ ⟨rfl, rfl, trivial⟩ (by first | (dsimp only [pick]; done) | rfl)
      ·
        rintro ⟨mc, yc⟩ ⟨hmc, hmcb, hmcc⟩
        conv => rhs; dsimp only
        conv => arg -2; dsimp only
        dsimp only at hmc hmcb hmcc
        refine W.seq ?_
        refine W.region ?_
        refine T.q (q_move rfl rfl) (Wt.plain rfl) rfl rfl ?_
        refine T.q (q_move rfl rfl) (Wt.plain rfl) rfl rfl ?_
        refine T.q (q_int (b := ((yc : Nat) : Int)) (q_conv un93 un5 rfl rfl) ?hE) (Wt.plain rfl) rfl rfl ?_
        case hE => simp [IntKind.wrap, IntKind.bits, IntKind.signed]; omega
        refine T.q (q_len8 un9 rfl rfl rfl (by omega) (by omega)) (Wt.plain rfl) rfl rfl ?_
        refine T.q (q_int (b := (((bl yc) : Nat) : Int)) (q_conv un5 un3 rfl rfl) ?hE) (Wt.plain rfl) rfl rfl ?_
        case hE => rw [len8_bl yc (by omega)]; have := (bl_le yc 8).2 (by omega); simp [IntKind.wrap, IntKind.bits, IntKind.signed]; omega
        have hb8 := (bl_le yc 8).2 (by omega)
        refine T.q (q_addi rfl rfl rfl (by omega) (by omega)) (Wt.plain rfl) rfl rfl ?_
        refine T.q (q_assign rfl rfl) (Wt.plain rfl) rfl rfl ?_
        refine T.nil ?_
        refine Ex.next ?_
        refine W.slots (L' := [(2, _)]) ⟨rfl, trivial⟩ ?_
        refine W.ret ?_
        refine Ex.out1 [] rfl rfl ?_
        exact ⟨by rw [hmc]; rfl, rfl⟩
set_option maxRecDepth 100000 in
theorem len_spec (x : Nat) (hx : x < 18446744073709551616) (w0 : World) : Does Try.prog 57 #[.int .u64 ((x : Nat) : Int)] w0 [] (fun v G => v = .int .i64 ((bl x : Nat) : Int) ∧ G = []) := by
  refine spec_of 8 Try.func57 rfl rfl rfl ?_
  refine W.seq ?_
  refine W.region ?_
  refine T.q (q_assign rfl rfl) (Wt.plain rfl) rfl rfl ?_
  refine T.nil ?_
  refine Ex.next ?_
  refine W.slots (L' := [(0, _)]) ⟨rfl, trivial⟩ ?_
  refine W.seq ?_
  refine W.condF rfl ?_
  refine W.skip ?_
  refine Ex.next ?_
  refine W.slots (L' := [(0, _)]) ⟨rfl, trivial⟩ ?_
  refine W.seq ?_
  refine W.region ?_
  refine T.q (q_move rfl rfl) (Wt.plain rfl) rfl rfl ?_
  refine T.eff (e_call enters72 rfl rfl (fun w hm => len64_spec x (by omega) w) rfl rfl) (Wt.plain rfl) ?_
  rintro _ _ ⟨_, _, ⟨rfl, rfl⟩, rfl, rfl⟩
  change (_ : List Blk → Prop) []
  refine T.q (q_assign rfl rfl) (Wt.plain rfl) rfl rfl ?_
  refine T.nil ?_
  refine Ex.next ?_
  refine W.slots (L' := [(2, _)]) ⟨rfl, trivial⟩ ?_
  refine W.ret ?_
  refine Ex.out1 [] rfl rfl ?_
  exact ⟨rfl, rfl⟩
set_option maxRecDepth 100000 in
theorem fits_spec (m : Nat) (hm : m < 9223372036854775808) (kp : Nat) (k : Nat) (w0 : World) (hR : Reads w0 (some ⟨kp, 0, none⟩) [.int .i64 ((m : Nat) : Int)]) : Does Try.prog 70 #[.int .i64 ((k : Nat) : Int), .pointer (some ⟨kp, 0, none⟩)] w0 [] (fun v G => v = .bool (decide (((bl m : Nat) : Int) ≤ ((k : Nat) : Int))) ∧ G = []) := by
  refine spec_of 9 Try.func70 rfl rfl rfl ?_
  refine W.seq ?_
  refine W.region ?_
  refine T.q (q_assign rfl rfl) (Wt.plain rfl) rfl rfl ?_
  refine T.nil ?_
  refine Ex.next ?_
  refine W.slots (L' := [(0, _), (1, _)]) ⟨rfl, rfl, trivial⟩ ?_
  refine W.seq ?_
  refine W.region ?_
  refine T.q (q_loadG ss3 (R_ext hR.ext) rfl rfl (rfl)) (Wt.plain rfl) rfl rfl ?_
  refine T.q (q_int (b := ((m : Nat) : Int)) (q_conv un3 un70 rfl rfl) ?hE) (Wt.plain rfl) rfl rfl ?_
  case hE => simp [IntKind.wrap, IntKind.bits, IntKind.signed]; omega
  refine T.eff (e_call enters57 rfl rfl (fun w hm => len_spec m (by omega) w) rfl rfl) (Wt.plain rfl) ?_
  rintro _ _ ⟨_, _, ⟨rfl, rfl⟩, rfl, rfl⟩
  change (_ : List Blk → Prop) []
  refine T.q (q_move rfl rfl) (Wt.plain rfl) rfl rfl ?_
  refine T.q (q_leq rfl rfl rfl) (Wt.plain rfl) rfl rfl ?_
  refine T.q (q_assign rfl rfl) (Wt.plain rfl) rfl rfl ?_
  refine T.nil ?_
  refine Ex.next ?_
  refine W.slots (L' := [(3, _)]) ⟨rfl, trivial⟩ ?_
  refine W.ret ?_
  refine Ex.out1 [] rfl rfl ?_
  exact ⟨rfl, rfl⟩
set_option maxRecDepth 100000 in
theorem index_spec (m : Nat) (hm0 : m < 9223372036854775808) (hm2 : m < 4611686018427387904) (kp : Nat) (KA : Option Addr) (kc : Nat) (hkc : 4 ≤ kc) (w0 : World) (hR : Reads w0 (some ⟨kp, 0, none⟩) [.int .i64 ((m : Nat) : Int)]) (hT : Reads w0 KA (ints .i64 [6, 14, 30, 62])) : Does Try.prog 69 #[.slice KA 4 kc, .func (.func 70) #[] #[.pointer (some ⟨kp, 0, none⟩)]] w0 [] (fun v G => v = .int .i64 ((kd m : Nat) : Int) ∧ G = []) := by
  refine spec_of 19 Try.func69 rfl rfl rfl ?_
  refine W.seq ?_
  refine W.region ?_
  refine T.q (q_assign rfl rfl) (Wt.plain rfl) rfl rfl ?_
  refine T.nil ?_
  refine Ex.next ?_
  refine W.slots (L' := [(0, _), (1, _)]) ⟨rfl, rfl, trivial⟩ ?_
  refine W.seq ?_
  refine W.seq ?_
  refine W.region ?_
  refine T.q (q_move rfl rfl) (Wt.plain rfl) rfl rfl ?_
  refine T.q (q_len sc89 rfl rfl) (Wt.plain rfl) rfl rfl ?_
  refine T.q (q_move rfl rfl) (Wt.plain rfl) rfl rfl ?_
  refine T.nil ?_
  refine Ex.next ?_
  refine W.slots (L' := [(0, _), (1, _), (7, _), (8, _)]) ⟨rfl, rfl, rfl, rfl, trivial⟩ ?_
  refine W.block ?_
  refine W.loop (α := Nat) (fun i => [(0, .slice KA 4 kc), (1, .func (.func 70) #[] #[.pointer (some ⟨kp, 0, none⟩)]), (7, .int .i64 ((4 : Nat) : Int)), (8, .int .i64 ((i : Nat) : Int))]) (fun i => []) (fun i => i ≤ 4 ∧ ∀ q, q < i → ¬ m < 2 ^ kt q) (fun i => 4 - i) [] 0 ⟨by omega, fun q hq => absurd hq (by omega)⟩ ⟨rfl, rfl, rfl, rfl, trivial⟩ rfl ?_
  rintro i ⟨hi, hno⟩
  refine W.seq ?_
  refine W.region ?_
  refine T.q (q_lss rfl rfl rfl) (Wt.plain rfl) rfl rfl ?_
  refine T.nil ?_
  refine Ex.next ?_
  refine W.slots (L' := [(0, _), (1, _), (7, _), (8, _), (9, _)]) ⟨rfl, rfl, rfl, rfl, rfl, trivial⟩ ?_
  refine W.seq ?_
  refine W.cond _ rfl (fun hb1 => ?_) (fun hb1 => ?_)
  · replace hb1 := of_decide_eq_true hb1
    have hi4 : i < 4 := by omega
    refine W.skip ?_
    refine Ex.next ?_
    refine W.slots (L' := [(0, _), (1, _), (7, _), (8, _)]) ⟨rfl, rfl, rfl, rfl, trivial⟩ ?_
    refine W.seq ?_
    refine W.block ?_
    refine W.seq ?_
    refine W.region ?_
    refine T.q (q_move rfl rfl) (Wt.plain rfl) rfl rfl ?_
    refine T.q (q_assign rfl rfl) (Wt.plain rfl) rfl rfl ?_
    refine T.nil ?_
    refine Ex.next ?_
    refine W.slots (L' := [(0, _), (1, _), (5, _), (7, _), (8, _)]) ⟨rfl, rfl, rfl, rfl, rfl, trivial⟩ ?_
    refine W.seq ?_
    refine W.region ?_
    refine T.q (q_move rfl rfl) (Wt.plain rfl) rfl rfl ?_
    refine T.q (q_move rfl rfl) (Wt.plain rfl) rfl rfl ?_
    refine T.q (q_move rfl rfl) (Wt.plain rfl) rfl rfl ?_
    refine T.q (q_ixE1 sc89 i (R_ext hT.ext) rfl rfl rfl (by omega) (by omega) (by first | omega | (simp; done) | (simp [-List.getD_eq_getElem?_getD]; omega))) (Wt.plain rfl) rfl rfl ?_
    refine T.q (q_int (b := (((kt i) : Nat) : Int)) (q_loadE ss3 (R_ext hT.ext) rfl rfl (ints_get (by first | omega | (simp; done) | (simp [-List.getD_eq_getElem?_getD]; omega)))) (kt_get hi4)) (Wt.plain rfl) rfl rfl ?_
    refine T.eff (e_callF enters70 rfl rfl rfl (fun w hm => fits_spec m hm0 kp (kt i) w ((R_ext hR.ext) w hm)) rfl rfl) (Wt.plain rfl) ?_
    rintro _ _ ⟨_, _, ⟨rfl, rfl⟩, rfl, rfl⟩
    change (_ : List Blk → Prop) []
    refine T.nil ?_
    refine Ex.next ?_
    refine W.slots (L' := [(0, _), (1, _), (5, _), (7, _), (8, _), (16, _)]) ⟨rfl, rfl, rfl, rfl, rfl, rfl, trivial⟩ ?_
    refine W.cond _ rfl (fun hb2 => ?_) (fun hb2 => ?_)
    · replace hb2 := of_decide_eq_true hb2
      refine W.seq ?_
      refine W.region ?_
      refine T.q (q_move rfl rfl) (Wt.plain rfl) rfl rfl ?_
      refine T.q (q_assign rfl rfl) (Wt.plain rfl) rfl rfl ?_
      refine T.nil ?_
      refine Ex.next ?_
      refine W.slots (L' := [(4, _)]) ⟨rfl, trivial⟩ ?_
      refine W.ret ?_
      refine Ex.in_ret ?_
      refine Ex.then_ret ?_
      refine Ex.then_ret ?_
      refine Ex.in_ret ?_
      refine Ex.then_ret ?_
      refine Ex.out1 [] rfl rfl ?_
      exact ⟨by rw [kd_first hi4 ((bl_le _ _).1 (by omega)) hno], rfl⟩
    · replace hb2 := of_decide_eq_false hb2
      refine W.skip ?_
      refine Ex.in_normal ?_
      refine Ex.next ?_
      refine W.slots (L' := [(0, _), (1, _), (7, _), (8, _)]) ⟨rfl, rfl, rfl, rfl, trivial⟩ ?_
      refine W.region ?_
      refine T.q (q_addi rfl rfl rfl (by omega) (by omega)) (Wt.plain rfl) rfl rfl ?_
      refine T.q (q_move rfl rfl) (Wt.plain rfl) rfl rfl ?_
      refine T.nil ?_
      exact Ex.again [] (i + 1) (by omega) ⟨by omega, no_step hno (fun hlt => absurd ((bl_le m (kt i)).2 hlt) (by omega))⟩ ⟨rfl, rfl, rfl, rfl, trivial⟩ rfl
  · replace hb1 := of_decide_eq_false hb1
    obtain rfl : i = 4 := by omega
    refine W.exit ?_
    refine Ex.then_exit ?_
    refine Ex.then_exit ?_
    refine Ex.in_here ?_
    refine Ex.next ?_
    refine W.slots (L' := []) trivial ?_
    refine W.seq ?_
    refine W.region ?_
    refine T.q (q_assign rfl rfl) (Wt.plain rfl) rfl rfl ?_
    refine T.nil ?_
    refine Ex.next ?_
    refine W.slots (L' := [(4, _)]) ⟨rfl, trivial⟩ ?_
    refine W.ret ?_
    refine Ex.out1 [] rfl rfl ?_
    exact absurd ((kt_last m).1 hm2) (hno 3 (by omega))
set_option maxRecDepth 100000 in
theorem kind_spec (m : Nat) (hm2 : m < 4611686018427387904) (w0 : World) : Does Try.prog 52 #[.int .i64 ((m : Nat) : Int)] w0 [] (fun v G => v = .int .i64 ((kd m : Nat) : Int) ∧ G = []) := by
  refine spec_of 10 Try.func52 rfl rfl rfl ?_
  refine W.seq ?_
  refine W.region ?_
  refine T.eff (e_box rfl rfl rfl rfl) (Wt.plain rfl) ?_
  rintro _ _ ⟨k1, rfl, rfl⟩
  change (_ : List Blk → Prop) [_]
  refine T.q (q_assign rfl rfl) (Wt.plain rfl) rfl rfl ?_
  refine T.nil ?_
  refine Ex.next ?_
  refine W.slots (L' := [(1, _)]) ⟨rfl, trivial⟩ ?_
  refine W.seq ?_
  refine W.region ?_
  refine T.q (q_build (v := .agg (ints .i64 [6, 14, 30]).toArray) rfl rfl (fun _ => by kernel_rfl)) (Wt.plain rfl) rfl rfl ?_
  refine T.eff (e_alloc ze87 rfl rfl rfl) (Wt.plain rfl) ?_
  rintro _ _ ⟨k2, rfl, rfl⟩
  change (_ : List Blk → Prop) [_, _]
  refine T.eff (e_storeA (wide_ints wd87 (by first | omega | (simp; done) | (simp [-List.getD_eq_getElem?_getD]; omega) | (simp at *; omega) | rfl)) 1 rfl rfl rfl rfl (by first | omega | (simp; done) | (simp [-List.getD_eq_getElem?_getD]; omega) | (simp at *; omega) | rfl) ints_one rfl) (Wt.plain rfl) ?_
  rintro _ _ ⟨rfl, rfl⟩
  change (_ : List Blk → Prop) [_, _]
  refine T.nil ?_
  refine Ex.next ?_
  refine W.slots (L' := [(1, _), (3, _)]) ⟨rfl, rfl, trivial⟩ ?_
  refine W.seq ?_
  refine W.region ?_
  refine T.q (q_slAll ar87 rfl rfl) (Wt.plain rfl) rfl rfl ?_
  refine T.eff (e_litA sc89 ze3 rfl rfl rfl (by simp [Value.cells]) rfl rfl rfl) (Wt.plain rfl) ?_
  rintro _ _ ⟨k3, rfl, rfl⟩
  change (_ : List Blk → Prop) [_, _, _]
  refine T.eff (e_appendF sc89 ze3 rfl .i64 [6, 14, 30] [62] (R_blk 1 rfl) (R_blk 2 rfl) rfl rfl rfl (by first | omega | (simp; done) | (simp [-List.getD_eq_getElem?_getD]; omega) | (simp at *; omega) | rfl) (by first | omega | (simp; done) | (simp [-List.getD_eq_getElem?_getD]; omega) | (simp at *; omega) | rfl) (by first | omega | (simp; done) | (simp [-List.getD_eq_getElem?_getD]; omega) | (simp at *; omega) | rfl) (by first | omega | (simp; done) | (simp [-List.getD_eq_getElem?_getD]; omega)) (by first | omega | (simp; done) | (simp [-List.getD_eq_getElem?_getD]; omega)) rfl rfl) (Wt.plain rfl) ?_
  rintro _ _ ⟨k4, cap5, junk6, hc7, hc8, rfl, rfl⟩
  change (_ : List Blk → Prop) [_, _, _, _]
  refine T.q (q_func (first := []) rfl rfl rfl) (Wt.plain rfl) rfl rfl ?_
  refine T.eff (e_call enters69 rfl rfl (fun w hm => index_spec m (by omega) hm2 k1 _ _ (by first | omega | (simp; done) | (simp; omega) | (simp at *; omega)) w ((R_blk 0 rfl) w hm) ((hc8) w hm)) rfl rfl) (Wt.plain rfl) ?_
  rintro _ _ ⟨_, _, ⟨rfl, rfl⟩, rfl, rfl⟩
  change (_ : List Blk → Prop) [_, _, _, _]
  refine T.q (q_assign rfl rfl) (Wt.plain rfl) rfl rfl ?_
  refine T.nil ?_
  refine Ex.next ?_
  refine W.less (L' := [(2, _)]) [false, false, false, false] ⟨rfl, trivial⟩ ?_
  change (_ : List Blk → Prop) []
  refine W.ret ?_
  refine Ex.out1 [] rfl rfl ?_
  exact ⟨rfl, rfl⟩

end Go.Proofs.Ytmkjnefongjniaa
