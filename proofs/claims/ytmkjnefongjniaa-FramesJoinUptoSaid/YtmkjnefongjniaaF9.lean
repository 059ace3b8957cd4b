/-
  The walks of layer 10: what is thrown; numbers, ranges and texts are taken.
-/
import Derived.Test.YtmkjnefongjniaaHF
import Derived.Test.YtmkjnefongjniaaF3
namespace Go.Proofs.Ytmkjnefongjniaa
open Go Go.X
/-- What is thrown. -/
def dieV (e : Int) : Value := .iface 78 (.agg #[.int .i64 e])
theorem Does.ends {P : Program} {f : FuncId} {args : Array Value} {w : World} {X : List Nat} {post die : Value → List Blk → Prop} (h : Does P f args w X post) : EndsX P f args w X post die := Calls.mono h fun _ _ h => .inl h
set_option maxRecDepth 100000 in
theorem sure_spec (e : Int) (w0 : World) : EndsX Try.prog 76 #[.int .i64 e] w0 [] (fun v G => e = 0 ∧ v = .tuple #[] ∧ G = []) (fun x G => e ≠ 0 ∧ x = dieV e ∧ G = []) := by
  refine spec_ofE 7 [] (Mem.start w0 []) Try.func76 rfl rfl rfl ?_
  refine W.seq ?_
  refine W.region ?_
  refine T.q (q_move rfl rfl) (Wt.plain rfl) rfl rfl ?_
  refine T.q (q_neq rfl rfl rfl) (Wt.plain rfl) rfl rfl ?_
  refine T.nil ?_
  refine Ex.next ?_
  refine W.slots (L' := [(0, _), (3, _)]) ⟨rfl, rfl, trivial⟩ ?_
  refine W.cond _ rfl (fun hb1 => ?_) (fun hb1 => ?_)
  · replace hb1 := of_decide_eq_true hb1
    refine W.region ?_
    refine T.q (q_move rfl rfl) (Wt.plain rfl) rfl rfl ?_
    refine T.q (q_buildP (cells := [.int .i64 e]) bp78 ze78 rfl rfl ⟨_, _, [.int .i64 e], _, rfl, rfl, rfl, (Nat.le_of_ble_eq_true rfl), rfl, rfl⟩) (Wt.plain rfl) rfl rfl ?_
    refine T.q (q_iface (st78) rfl rfl) (Wt.plain rfl) rfl rfl ?_
    refine T.panic rfl rfl (Wt.plain rfl) ?_
    refine Ex.outP [] ?_
    exact ⟨by omega, rfl, rfl⟩
  replace hb1 := of_decide_eq_false hb1
  refine W.skip ?_
  refine Ex.fine ?_
  refine Ex.end0 [] rfl ?_
  exact ⟨by omega, rfl, rfl⟩
theorem sure_zero (w0 : World) : Does Try.prog 76 #[.int .i64 0] w0 [] (fun v G => v = .tuple #[] ∧ G = []) :=
  Calls.mono (sure_spec 0 w0) fun _ _ h => h.elim (fun ⟨v, F, he, hm, _, hv, hG⟩ => ⟨v, F, he, hm, hv, hG⟩) fun ⟨_, _, _, _, h0, _⟩ => absurd rfl h0
theorem sure_dies (e : Int) (he : e ≠ 0) (w0 : World) : EndsX Try.prog 76 #[.int .i64 e] w0 [] (fun _ _ => False) (fun x G => x = dieV e ∧ G = []) :=
  (sure_spec e w0).mono (fun _ _ h => he h.1) fun _ _ h => h.2
set_option maxRecDepth 100000 in
theorem number_ok (b : List Int) (A : Option Addr) (cap rk : Nat) (hbb : Bytes b) (hle : b.length ≤ cap) (hbl : b.length ≤ 140737488351232) (ho : takeOk b = true) (w0 : World) (hk : (⟨some rk, [.slice A b.length cap], 81, (0, 0)⟩ : Blk).here w0) (hE : Ext w0 [rk] A (ints .u8 b)) : Does Try.prog 77 #[.pointer (some ⟨rk, 0, none⟩)] w0 [rk] (fun v G => ∃ (A' : Option Addr) (cap' : Nat) (cb : Blk), v = .int .i64 ((tv b : Nat) : Int) ∧ RdB cb A' (b.drop (2 ^ tk b)) ∧ b.length - 2 ^ tk b ≤ cap' ∧ G = [⟨some rk, [.slice A' (b.length - 2 ^ tk b) cap'], 81, (0, 0)⟩, cb]) := by
  have hkp := two_pos (tk b)
  have hk3 := tk_le hbb
  have hb0 := hbb.getD 0
  obtain ⟨ho0, hol, hok⟩ := take_ok ho
  refine spec_ofB 22 [⟨some rk, [.slice A b.length cap], 81, (0, 0)⟩] (Mem.own1 rfl hk) Try.func77 rfl rfl rfl ?_
  refine W.seq ?_
  refine W.region ?_
  refine T.q (q_assign rfl rfl) (Wt.plain rfl) rfl rfl ?_
  refine T.nil ?_
  refine Ex.next ?_
  refine W.slots (L' := [(0, _)]) ⟨rfl, trivial⟩ ?_
  refine W.seq ?_
  refine W.region ?_
  refine T.q (q_move rfl rfl) (Wt.plain rfl) rfl rfl ?_
  refine T.q (q_nil rfl rfl) (Wt.plain rfl) rfl rfl ?_
  refine T.q (q_fld fl81_0 rfl rfl) (Wt.plain rfl) rfl rfl ?_
  refine T.q (q_load1 ss22 0 rfl rfl rfl rfl) (Wt.plain rfl) rfl rfl ?_
  refine T.eff (e_call enters22 rfl rfl (fun w hm => take_at b _ _ (by first | omega | (simp; done) | (simp; omega) | (simp at *; omega)) (by first | omega | (simp; done) | (simp; omega) | (simp at *; omega)) hbb ho w ((R_ext hE) w hm) (by first | omega | (simp; done) | (simp [-List.getD_eq_getElem?_getD]; omega) | (simp at *; omega) | rfl)) rfl rfl) (Wt.plain rfl) ?_
  rintro _ _ ⟨_, _, ⟨k1, cap2, junk3, rfl, hc4, rfl⟩, rfl, rfl⟩
  change (_ : List Blk → Prop) [_, _]
  refine T.q (q_move rfl rfl) (Wt.plain rfl) rfl rfl ?_
  refine T.q (q_extract rfl rfl rfl) (Wt.plain rfl) rfl rfl ?_
  refine T.q (q_extract rfl rfl rfl) (Wt.plain rfl) rfl rfl ?_
  refine T.q (q_extract rfl rfl rfl) (Wt.plain rfl) rfl rfl ?_
  refine T.q (q_assign rfl rfl) (Wt.plain rfl) rfl rfl ?_
  refine T.q (q_assign rfl rfl) (Wt.plain rfl) rfl rfl ?_
  refine T.q (q_assign rfl rfl) (Wt.plain rfl) rfl rfl ?_
  refine T.nil ?_
  refine Ex.next ?_
  refine W.slots (L' := [(0, _), (3, _), (4, _), (5, _)]) ⟨rfl, rfl, rfl, rfl, trivial⟩ ?_
  refine W.seq ?_
  refine W.region ?_
  refine T.q (q_move rfl rfl) (Wt.plain rfl) rfl rfl ?_
  refine T.eff (e_call enters76 rfl rfl (fun w hm => sure_zero w) rfl rfl) (Wt.plain rfl) ?_
  rintro _ _ ⟨_, _, ⟨rfl, rfl⟩, rfl, rfl⟩
  change (_ : List Blk → Prop) [_, _]
  refine T.nil ?_
  refine Ex.next ?_
  refine W.slots (L' := [(0, _), (3, _), (4, _)]) ⟨rfl, rfl, rfl, trivial⟩ ?_
  refine W.seq ?_
  refine W.region ?_
  refine T.q (q_move rfl rfl) (Wt.plain rfl) rfl rfl ?_
  refine T.q (q_move rfl rfl) (Wt.plain rfl) rfl rfl ?_
  refine T.q (q_nil rfl rfl) (Wt.plain rfl) rfl rfl ?_
  refine T.q (q_fld fl81_0 rfl rfl) (Wt.plain rfl) rfl rfl ?_
  refine T.eff (e_store1 ss22 0 rfl rfl rfl rfl (by simp) rfl rfl) (Wt.plain rfl) ?_
  rintro _ _ ⟨rfl, rfl⟩
  change (_ : List Blk → Prop) [_, _]
  refine T.nil ?_
  refine Ex.next ?_
  refine W.slots (L' := [(3, _)]) ⟨rfl, trivial⟩ ?_
  refine W.seq ?_
  refine W.region ?_
  refine T.q (q_move rfl rfl) (Wt.plain rfl) rfl rfl ?_
  refine T.q (q_assign rfl rfl) (Wt.plain rfl) rfl rfl ?_
  refine T.nil ?_
  refine Ex.next ?_
  refine W.slots (L' := [(2, _)]) ⟨rfl, trivial⟩ ?_
  refine W.ret ?_
  refine Ex.out1 [true, true] rfl rfl ?_
  exact ⟨_, _, _, rfl, RdB.own, by omega, rfl⟩
set_option maxRecDepth 100000 in
theorem number_no (b : List Int) (A : Option Addr) (cap rk : Nat) (hbb : Bytes b) (hle : b.length ≤ cap) (hbl : b.length ≤ 140737488351232) (hno : takeOk b = false) (w0 : World) (hk : (⟨some rk, [.slice A b.length cap], 81, (0, 0)⟩ : Blk).here w0) (hE : Ext w0 [rk] A (ints .u8 b)) : EndsX Try.prog 77 #[.pointer (some ⟨rk, 0, none⟩)] w0 [rk] (fun _ _ => False) (fun x G => x = dieV (takeE b) ∧ G = []) := by
  have hkp := two_pos (tk b)
  have hk3 := tk_le hbb
  have hb0 := hbb.getD 0
  refine spec_ofE 22 [⟨some rk, [.slice A b.length cap], 81, (0, 0)⟩] (Mem.own1 rfl hk) Try.func77 rfl rfl rfl ?_
  refine W.seq ?_
  refine W.region ?_
  refine T.q (q_assign rfl rfl) (Wt.plain rfl) rfl rfl ?_
  refine T.nil ?_
  refine Ex.next ?_
  refine W.slots (L' := [(0, _)]) ⟨rfl, trivial⟩ ?_
  refine W.seq ?_
  refine W.region ?_
  refine T.q (q_move rfl rfl) (Wt.plain rfl) rfl rfl ?_
  refine T.q (q_nil rfl rfl) (Wt.plain rfl) rfl rfl ?_
  refine T.q (q_fld fl81_0 rfl rfl) (Wt.plain rfl) rfl rfl ?_
  refine T.q (q_load1 ss22 0 rfl rfl rfl rfl) (Wt.plain rfl) rfl rfl ?_
  refine T.eff (e_call enters22 rfl rfl (fun w hm => take_bad_at b _ _ (by first | omega | (simp; done) | (simp; omega) | (simp at *; omega)) (by first | omega | (simp; done) | (simp; omega) | (simp at *; omega)) hbb hno w ((R_ext hE) w hm) (by first | omega | (simp; done) | (simp [-List.getD_eq_getElem?_getD]; omega) | (simp at *; omega) | rfl)) rfl rfl) (Wt.plain rfl) ?_
  rintro _ _ ⟨_, _, ⟨rfl, rfl⟩, rfl, rfl⟩
  change (_ : List Blk → Prop) [_]
  refine T.q (q_move rfl rfl) (Wt.plain rfl) rfl rfl ?_
  refine T.q (q_extract rfl rfl rfl) (Wt.plain rfl) rfl rfl ?_
  refine T.q (q_extract rfl rfl rfl) (Wt.plain rfl) rfl rfl ?_
  refine T.q (q_extract rfl rfl rfl) (Wt.plain rfl) rfl rfl ?_
  refine T.q (q_assign rfl rfl) (Wt.plain rfl) rfl rfl ?_
  refine T.q (q_assign rfl rfl) (Wt.plain rfl) rfl rfl ?_
  refine T.q (q_assign rfl rfl) (Wt.plain rfl) rfl rfl ?_
  refine T.nil ?_
  refine Ex.next ?_
  refine W.slots (L' := [(0, _), (3, _), (4, _), (5, _)]) ⟨rfl, rfl, rfl, rfl, trivial⟩ ?_
  refine W.seq ?_
  refine W.region ?_
  refine T.q (q_move rfl rfl) (Wt.plain rfl) rfl rfl ?_
  refine T.effE (e_callE [] enters76 rfl rfl hx0 (fun w hm => sure_dies (takeE b) (takeE_ne b) w) rfl rfl) (Wt.plain rfl) ?_ ?_
  ·
    rintro _ _ ⟨_, _, h, _⟩
    exact h.elim
  ·
    rintro _ _ ⟨_, ⟨rfl, rfl⟩, rfl⟩
    change (_ : List Blk → Prop) [_]
    refine Ex.then_panic ?_
    refine Ex.outP [false] ?_
    exact ⟨rfl, rfl⟩
theorem number_spec (b : List Int) {m : Nat} (hbm : b.length = m) (A : Option Addr) (cap rk : Nat) (hbb : Bytes b) (hle : m ≤ cap) (hbl : m ≤ 140737488351232) (w0 : World) (hk : (⟨some rk, [.slice A m cap], 81, (0, 0)⟩ : Blk).here w0) (hE : Ext w0 [rk] A (ints .u8 b)) : EndsX Try.prog 77 #[.pointer (some ⟨rk, 0, none⟩)] w0 [rk] (fun v G => ∃ (n : Nat) (b' : List Int) (A' : Option Addr) (cap' : Nat) (cb : Blk), pTake b = .ok (n, b') ∧ Bytes b' ∧ n < 4611686018427387904 ∧ b'.length ≤ m ∧ RdB cb A' b' ∧ b'.length ≤ cap' ∧ v = .int .i64 ((n : Nat) : Int) ∧ G = [⟨some rk, [.slice A' b'.length cap'], 81, (0, 0)⟩, cb]) (fun x G => ∃ e : Int, pTake b = .error e ∧ x = dieV e ∧ G = []) := by
  subst hbm
  cases ho : takeOk b with
  | true =>
    refine (Does.ends (number_ok b A cap rk hbb hle hbl ho w0 hk hE)).mono ?_ fun x G h => h
    rintro v G ⟨A', cap', cb, rfl, h1, h2, rfl⟩
    obtain ⟨ho0, hol, hok⟩ := take_ok ho
    exact ⟨tv b, b.drop (2 ^ tk b), A', cap', cb, pTake_ok ho, hbb.drop' _, tv_lt hbb hol, by simp, h1, by simpa using h2, rfl, by simp⟩
  | false =>
    refine (number_no b A cap rk hbb hle hbl ho w0 hk hE).mono (fun _ _ h => h.elim) ?_
    rintro x G ⟨rfl, rfl⟩
    exact ⟨_, pTake_no ho, rfl, rfl⟩
set_option maxRecDepth 100000 in
theorem ranges_spec (b : List Int) {m : Nat} (hbm : b.length = m) (A : Option Addr) (cap rk : Nat) (hbb : Bytes b) (hle : m ≤ cap) (hbl : m ≤ 140737488351232) (last : Int) (h0 : 0 ≤ last) (h1 : last ≤ 4611686018427387903) (w0 : World) (hk : (⟨some rk, [.slice A m cap], 81, (0, 0)⟩ : Blk).here w0) (hE : Ext w0 [rk] A (ints .u8 b)) : EndsX Try.prog 78 #[.pointer (some ⟨rk, 0, none⟩), .int .i64 last] w0 [rk] (fun v G => ∃ (rs : List (Int × Int)) (b' : List Int) (A' : Option Addr) (cap' : Nat) (cb : Blk) (nk : Option Nat) (rcap : Nat) (junk : List Value), pRgs last b = .ok (rs, b') ∧ Bytes b' ∧ b'.length ≤ m ∧ RdB cb A' b' ∧ b'.length ≤ cap' ∧ rs.length ≤ 8 ∧ v = .slice (nk.map fun k => (⟨k, 0, none⟩ : Addr)) rs.length rcap ∧ G = [⟨nk, ints .i64 (flat rs) ++ junk, 74, (0, 0)⟩, ⟨some rk, [.slice A' b'.length cap'], 81, (0, 0)⟩, cb]) (fun x G => ∃ e : Int, pRgs last b = .error e ∧ x = dieV e ∧ G = []) := by
  refine spec_ofE 53 [⟨some rk, [.slice A m cap], 81, (0, 0)⟩] (Mem.own1 rfl hk) Try.func78 rfl rfl rfl ?_
  refine W.seq ?_
  refine W.region ?_
  refine T.q (q_assign rfl rfl) (Wt.plain rfl) rfl rfl ?_
  refine T.nil ?_
  refine Ex.next ?_
  refine W.slots (L' := [(0, _), (1, _)]) ⟨rfl, rfl, trivial⟩ ?_
  refine W.seq ?_
  refine W.region ?_
  refine T.q (q_assign rfl rfl) (Wt.plain rfl) rfl rfl ?_
  refine T.nil ?_
  refine Ex.next ?_
  refine W.slots (L' := [(0, _), (1, _), (5, _)]) ⟨rfl, rfl, rfl, trivial⟩ ?_
  refine W.seq ?_
  refine W.region ?_
  refine T.q (q_move rfl rfl) (Wt.plain rfl) rfl rfl ?_
  refine T.effE (e_callE [false] enters77 rfl rfl (hx1 rfl rfl) (fun w hm => number_spec b hbm A cap rk hbb hle (by first | omega | (simp; done) | (simp; omega) | (simp at *; omega)) w (hm.at 0 rfl) (Ext.later hE hm)) rfl rfl) (Wt.plain rfl) ?_ ?_
  ·
    rintro _ _ ⟨_, _, ⟨n10, b10, A10, c10, cb10, hp10, hy10, hn10, hl10, hr10, hc10, rfl, rfl⟩, rfl, rfl⟩
    change (_ : List Blk → Prop) [_, _]
    refine T.q (q_assign rfl rfl) (Wt.plain rfl) rfl rfl ?_
    refine T.nil ?_
    refine Ex.next ?_
    refine W.slots (L' := [(0, _), (1, _), (5, _), (6, _)]) ⟨rfl, rfl, rfl, rfl, trivial⟩ ?_
    refine W.seq ?_
    refine W.seq ?_
    refine W.region ?_
    refine T.q (q_move rfl rfl) (Wt.plain rfl) rfl rfl ?_
    refine T.q (q_gtr rfl rfl rfl) (Wt.plain rfl) rfl rfl ?_
    refine T.nil ?_
    refine Ex.next ?_
    refine W.slots (L' := [(0, _), (1, _), (5, _), (6, _), (12, _)]) ⟨rfl, rfl, rfl, rfl, rfl, trivial⟩ ?_
    refine W.cond _ rfl (fun hb1 => ?_) (fun hb1 => ?_)
    · replace hb1 := of_decide_eq_true hb1
      refine W.region ?_
      refine T.effE (e_callE [] enters76 rfl rfl hx0 (fun w hm => sure_dies 100 (by decide) w) rfl rfl) (Wt.plain rfl) ?_ ?_
      ·
        rintro _ _ ⟨_, _, h, _⟩
        exact h.elim
      ·
        rintro _ _ ⟨_, ⟨rfl, rfl⟩, rfl⟩
        change (_ : List Blk → Prop) [_, _]
        refine Ex.then_panic ?_
        refine Ex.outP [false, false] ?_
        exact ⟨_, by rw [pRgs, hp10, andThen_ok, if_pos (by omega)], rfl, rfl⟩
    replace hb1 := of_decide_eq_false hb1
    refine W.skip ?_
    refine Ex.next ?_
    refine W.slots (L' := [(0, _), (1, _), (5, _), (6, _)]) ⟨rfl, rfl, rfl, rfl, trivial⟩ ?_
    refine W.seq ?_
    refine W.seq ?_
    refine W.region ?_
    refine T.q (q_move rfl rfl) (Wt.plain rfl) rfl rfl ?_
    refine T.q (q_move rfl rfl) (Wt.plain rfl) rfl rfl ?_
    refine T.nil ?_
    refine Ex.next ?_
    refine W.slots (L' := [(0, _), (1, _), (5, _), (14, _), (15, _)]) ⟨rfl, rfl, rfl, rfl, rfl, trivial⟩ ?_
    refine W.block ?_
    refine W.ghost 74 ?_
    change (_ : List Blk → Prop) [_, _, _]
    refine W.last 0 rfl ?_
    change (_ : List Blk → Prop) [_, _, _]
    refine W.last 0 rfl ?_
    change (_ : List Blk → Prop) [_, _, _]
    refine W.loop (α := Nat × Int × List (Int × Int) × List Int × Option Addr × Nat × Blk × Option Nat × Nat × List Value) (fun x_ => [(0, .pointer (some ⟨rk, 0, none⟩)), (1, .int .i64 x_.2.1), (5, .slice (x_.2.2.2.2.2.2.2.1.map fun k => (⟨k, 0, none⟩ : Addr)) x_.1 x_.2.2.2.2.2.2.2.2.1), (14, .int .i64 ((n10 : Nat) : Int)), (15, .int .i64 ((x_.1 : Nat) : Int))]) (fun x_ => [⟨x_.2.2.2.2.2.2.2.1, ints .i64 (flat x_.2.2.1) ++ x_.2.2.2.2.2.2.2.2.2, 74, (0, 0)⟩, ⟨some rk, [.slice x_.2.2.2.2.1 x_.2.2.2.1.length x_.2.2.2.2.2.1], 81, (0, 0)⟩, x_.2.2.2.2.2.2.1]) (fun x_ => x_.1 ≤ n10 ∧ pRgs last b = pRs (n10 - x_.1) x_.2.2.1 x_.2.1 x_.2.2.2.1 ∧ x_.2.2.1.length = x_.1 ∧ 0 ≤ x_.2.1 ∧ x_.2.1 ≤ 4611686018427387903 ∧ Bytes x_.2.2.2.1 ∧ x_.2.2.2.1.length ≤ m ∧ RdB x_.2.2.2.2.2.2.1 x_.2.2.2.2.1 x_.2.2.2.1 ∧ x_.2.2.2.1.length ≤ x_.2.2.2.2.2.1 ∧ (ints .i64 (flat x_.2.2.1) ++ x_.2.2.2.2.2.2.2.2.2).length = x_.2.2.2.2.2.2.2.2.1 * 2) (fun x_ => n10 - x_.1) [true, true, true] (⟨0, last, [], b10, A10, c10, cb10, none, 0, []⟩) ⟨Nat.zero_le _, (by rw [pRgs, hp10, andThen_ok, if_neg (by omega)]; rfl), rfl, h0, h1, hy10, hl10, hr10, hc10, rfl⟩ ⟨rfl, rfl, rfl, rfl, rfl, trivial⟩ rfl ?_
    rintro ⟨i, la, acc, bb, AA, cc, cb, nk, rq, jq⟩ hinv
    try dsimp only at hinv
    conv => rhs; dsimp only
    conv => arg -2; dsimp only
    obtain ⟨hi, hpr, hac, hla0, hla1, hby, hbb2, hrd, hcc, hrq⟩ := hinv
    refine W.seq ?_
    refine W.region ?_
    refine T.q (q_lss rfl rfl rfl) (Wt.plain rfl) rfl rfl ?_
    refine T.nil ?_
    refine Ex.next ?_
    refine W.slots (L' := [(0, _), (1, _), (5, _), (14, _), (15, _), (16, _)]) ⟨rfl, rfl, rfl, rfl, rfl, rfl, trivial⟩ ?_
    refine W.seq ?_
    refine W.cond _ rfl (fun hb2 => ?_) (fun hb2 => ?_)
    · replace hb2 := of_decide_eq_true hb2
      have hin : i < n10 := by omega
      refine W.skip ?_
      refine Ex.next ?_
      refine W.slots (L' := [(0, _), (1, _), (5, _), (14, _), (15, _)]) ⟨rfl, rfl, rfl, rfl, rfl, trivial⟩ ?_
      refine W.seq ?_
      refine W.block ?_
      refine W.seq ?_
      refine W.region ?_
      refine T.q (q_move rfl rfl) (Wt.plain rfl) rfl rfl ?_
      refine T.effE (e_callE [true, false, true] enters77 rfl rfl (hx1 rfl rfl) (fun w hm => number_spec bb rfl AA cc rk hby hcc (by first | omega | (simp; done) | (simp; omega) | (simp at *; omega)) w (hm.at 1 rfl) (RdB.ext (i := 1) (j := 2) hrd hm rfl rfl (by decide))) rfl rfl) (Wt.plain rfl) ?_ ?_
      ·
        rintro _ _ ⟨_, _, ⟨n18, b18, A18, c18, cb18, hp18, hy18, hn18, hl18, hr18, hc18, rfl, rfl⟩, rfl, rfl⟩
        change (_ : List Blk → Prop) [_, _, _, _]
        refine T.q (q_move rfl rfl) (Wt.plain rfl) rfl rfl ?_
        refine T.effE (e_callE [true, true, false, true] enters77 rfl rfl (hx1 rfl rfl) (fun w hm => number_spec b18 rfl A18 c18 rk hy18 hc18 (by first | omega | (simp; done) | (simp; omega) | (simp at *; omega)) w (hm.at 2 rfl) (RdB.ext (i := 2) (j := 3) hr18 hm rfl rfl (by decide))) rfl rfl) (Wt.plain rfl) ?_ ?_
        ·
          rintro _ _ ⟨_, _, ⟨n20, b20, A20, c20, cb20, hp20, hy20, hn20, hl20, hr20, hc20, rfl, rfl⟩, rfl, rfl⟩
          change (_ : List Blk → Prop) [_, _, _, _, _]
          refine T.q (q_assign rfl rfl) (Wt.plain rfl) rfl rfl ?_
          refine T.q (q_assign rfl rfl) (Wt.plain rfl) rfl rfl ?_
          refine T.nil ?_
          refine Ex.next ?_
          refine W.less (L' := [(0, _), (1, _), (5, _), (7, _), (8, _), (14, _), (15, _)]) [true, true, false, true, true] ⟨rfl, rfl, rfl, rfl, rfl, rfl, rfl, trivial⟩ ?_
          change (_ : List Blk → Prop) [_, _, _, _]
          refine W.seq ?_
          refine W.seq ?_
          refine W.region ?_
          refine T.q (q_move rfl rfl) (Wt.plain rfl) rfl rfl ?_
          refine T.q (q_move rfl rfl) (Wt.plain rfl) rfl rfl ?_
          refine T.q (q_subi rfl rfl rfl (by omega) (by omega)) (Wt.plain rfl) rfl rfl ?_
          refine T.q (q_gtr rfl rfl rfl) (Wt.plain rfl) rfl rfl ?_
          refine T.q (q_move rfl rfl) (Wt.plain rfl) rfl rfl ?_
          refine T.both (t := 25) _ rfl (fun hb3 => ?_) (fun hb3 => ?_)
          · replace hb3 := of_decide_eq_true hb3
            refine T.no (Wn.no rfl rfl rfl rfl) rfl rfl ?_
            refine T.no (Wn.no rfl rfl rfl rfl) rfl rfl ?_
            refine T.no (Wn.no rfl rfl rfl rfl) rfl rfl ?_
            refine T.no (Wn.no rfl rfl rfl rfl) rfl rfl ?_
            refine T.no (Wn.no rfl rfl rfl rfl) rfl rfl ?_
            refine T.no (Wn.no rfl rfl rfl rfl) rfl rfl ?_
            refine T.q (q_pickT rfl rfl rfl) (Wt.plain rfl) rfl rfl ?_
            refine T.nil ?_
            refine Ex.next ?_
            refine W.slots (L' := [(0, _), (1, _), (5, _), (7, _), (8, _), (14, _), (15, _), (32, _)]) ⟨rfl, rfl, rfl, rfl, rfl, rfl, rfl, rfl, trivial⟩ ?_
            refine W.condT rfl ?_
            refine W.region ?_
            refine T.effE (e_callE [] enters76 rfl rfl hx0 (fun w hm => sure_dies 100 (by decide) w) rfl rfl) (Wt.plain rfl) ?_ ?_
            ·
              rintro _ _ ⟨_, _, h, _⟩
              exact h.elim
            ·
              rintro _ _ ⟨_, ⟨rfl, rfl⟩, rfl⟩
              change (_ : List Blk → Prop) [_, _, _, _]
              refine Ex.then_panic ?_
              refine Ex.in_panic ?_
              refine Ex.then_panic ?_
              refine Ex.then_panic ?_
              refine Ex.in_panic ?_
              refine Ex.then_panic ?_
              refine Ex.outP [false, false, false, false] ?_
              exact ⟨_, by rw [hpr, show n10 - i = (n10 - (i + 1)) + 1 by omega, pRs, hp18, andThen_ok, hp20, andThen_ok, if_pos (by omega)], rfl, rfl⟩
          replace hb3 := of_decide_eq_false hb3
          refine T.q (q_move rfl rfl) (Wt.yes rfl rfl rfl) rfl rfl ?_
          refine T.q (q_move rfl rfl) (Wt.yes rfl rfl rfl) rfl rfl ?_
          refine T.q (q_subi rfl rfl rfl (by omega) (by omega)) (Wt.yes rfl rfl rfl) rfl rfl ?_
          refine T.q (q_move rfl rfl) (Wt.yes rfl rfl rfl) rfl rfl ?_
          refine T.q (q_subi rfl rfl rfl (by omega) (by omega)) (Wt.yes rfl rfl rfl) rfl rfl ?_
          refine T.q (q_gtr rfl rfl rfl) (Wt.yes rfl rfl rfl) rfl rfl ?_
          refine T.q (q_pickF rfl rfl rfl) (Wt.plain rfl) rfl rfl ?_
          refine T.nil ?_
          refine Ex.next ?_
          refine W.slots (L' := [(0, _), (1, _), (5, _), (7, _), (8, _), (14, _), (15, _), (32, _)]) ⟨rfl, rfl, rfl, rfl, rfl, rfl, rfl, rfl, trivial⟩ ?_
          refine W.cond _ rfl (fun hb4 => ?_) (fun hb4 => ?_)
          · replace hb4 := of_decide_eq_true hb4
            refine W.region ?_
            refine T.effE (e_callE [] enters76 rfl rfl hx0 (fun w hm => sure_dies 100 (by decide) w) rfl rfl) (Wt.plain rfl) ?_ ?_
            ·
              rintro _ _ ⟨_, _, h, _⟩
              exact h.elim
            ·
              rintro _ _ ⟨_, ⟨rfl, rfl⟩, rfl⟩
              change (_ : List Blk → Prop) [_, _, _, _]
              refine Ex.then_panic ?_
              refine Ex.in_panic ?_
              refine Ex.then_panic ?_
              refine Ex.then_panic ?_
              refine Ex.in_panic ?_
              refine Ex.then_panic ?_
              refine Ex.outP [false, false, false, false] ?_
              exact ⟨_, by rw [hpr, show n10 - i = (n10 - (i + 1)) + 1 by omega, pRs, hp18, andThen_ok, hp20, andThen_ok, if_pos (by omega)], rfl, rfl⟩
          replace hb4 := of_decide_eq_false hb4
          refine W.skip ?_
          refine Ex.next ?_
          refine W.slots (L' := [(0, _), (1, _), (5, _), (7, _), (8, _), (14, _), (15, _)]) ⟨rfl, rfl, rfl, rfl, rfl, rfl, rfl, trivial⟩ ?_
          refine W.seq ?_
          refine W.region ?_
          refine T.q (q_move rfl rfl) (Wt.plain rfl) rfl rfl ?_
          refine T.q (q_move rfl rfl) (Wt.plain rfl) rfl rfl ?_
          refine T.q (q_move rfl rfl) (Wt.plain rfl) rfl rfl ?_
          refine T.q (q_addi rfl rfl rfl (by omega) (by omega)) (Wt.plain rfl) rfl rfl ?_
          refine T.q (q_move rfl rfl) (Wt.plain rfl) rfl rfl ?_
          refine T.q (q_move rfl rfl) (Wt.plain rfl) rfl rfl ?_
          refine T.q (q_addi rfl rfl rfl (by omega) (by omega)) (Wt.plain rfl) rfl rfl ?_
          refine T.q (q_move rfl rfl) (Wt.plain rfl) rfl rfl ?_
          refine T.q (q_int (b := la + n18 + n20) (q_addi rfl rfl rfl (by omega) (by omega)) rfl) (Wt.plain rfl) rfl rfl ?_
          refine T.q (q_buildP (cells := [.int .i64 (la + ((n18 : Nat) : Int)), .int .i64 (la + n18 + n20)]) bp74 ze74 rfl rfl ⟨_, _, [.int .i64 (la + ((n18 : Nat) : Int))], _, rfl, rfl, rfl, (Nat.le_of_ble_eq_true rfl), rfl, _, _, [.int .i64 (la + n18 + n20)], _, rfl, rfl, rfl, (Nat.le_of_ble_eq_true rfl), rfl, rfl⟩) (Wt.plain rfl) rfl rfl ?_
          refine T.eff (e_litS1 sc56 ze74 ([.int .i64 (la + ((n18 : Nat) : Int)), .int .i64 (la + n18 + n20)]) rfl rfl (by simp) rfl rfl rfl) (Wt.plain rfl) ?_
          rintro _ _ ⟨k5, rfl, rfl⟩
          change (_ : List Blk → Prop) [_, _, _, _, _]
          refine T.eff (e_appendS sc56 ze74 rfl (by decide) 0 (ints .i64 (flat acc)) jq ([.int .i64 (la + ((n18 : Nat) : Int)), .int .i64 (la + n18 + n20)]) (R_blk 4 rfl) rfl rfl rfl rfl (by rw [ints_length, flat_length]; omega) hrq rfl (by simp [Value.oneCell']) (by decide) (by omega) (by omega) rfl rfl) (Wt.plain rfl) ?_
          rintro _ _ ⟨k6, cap7, junk8, hap, hc9, rfl, rfl⟩
          change (_ : List Blk → Prop) [_, _, _, _, _]
          have efl : ints .i64 (flat acc) ++ [.int .i64 (la + ((n18 : Nat) : Int)), .int .i64 (la + n18 + n20)] = ints .i64 (flat (acc ++ [(la + n18, la + n18 + n20)])) := by rw [flat_append, ints_append]; rfl
          rw [efl] at hap
          conv => rhs; rw [efl]
          refine T.q (q_assign rfl rfl) (Wt.plain rfl) rfl rfl ?_
          refine T.nil ?_
          refine Ex.next ?_
          refine W.less (L' := [(0, _), (1, _), (5, _), (7, _), (8, _), (14, _), (15, _)]) [true, true, true, true, false] ⟨rfl, rfl, rfl, rfl, rfl, rfl, rfl, trivial⟩ ?_
          change (_ : List Blk → Prop) [_, _, _, _]
          refine W.region ?_
          refine T.q (q_move rfl rfl) (Wt.plain rfl) rfl rfl ?_
          refine T.q (q_move rfl rfl) (Wt.plain rfl) rfl rfl ?_
          refine T.q (q_move rfl rfl) (Wt.plain rfl) rfl rfl ?_
          refine T.q (q_addi rfl rfl rfl (by omega) (by omega)) (Wt.plain rfl) rfl rfl ?_
          refine T.q (q_int (b := la + n18 + n20) (q_addi rfl rfl rfl (by omega) (by omega)) ?hE) (Wt.plain rfl) rfl rfl ?_
          case hE => omega
          refine T.q (q_assign rfl rfl) (Wt.plain rfl) rfl rfl ?_
          refine T.nil ?_
          refine Ex.in_normal ?_
          refine Ex.next ?_
          refine W.slots (L' := [(0, _), (1, _), (5, _), (14, _), (15, _)]) ⟨rfl, rfl, rfl, rfl, rfl, trivial⟩ ?_
          refine W.region ?_
          refine T.q (q_addi rfl rfl rfl (by omega) (by omega)) (Wt.plain rfl) rfl rfl ?_
          refine T.q (q_move rfl rfl) (Wt.plain rfl) rfl rfl ?_
          refine T.nil ?_
          exact Ex.again [true, false, true, true] (⟨i + 1, la + n18 + n20, acc ++ [(la + n18, la + n18 + n20)], b20, A20, c20, cb20, some k6, cap7, junk8⟩ : Nat × Int × List (Int × Int) × List Int × Option Addr × Nat × Blk × Option Nat × Nat × List Value) (by dsimp only; omega) ⟨by dsimp only; omega, (by dsimp only; rw [hpr, show n10 - i = (n10 - (i + 1)) + 1 by omega, pRs, hp18, andThen_ok, hp20, andThen_ok, if_neg (by omega)]), (by dsimp only; simp [hac]), by dsimp only; omega, by dsimp only; omega, hy20, by dsimp only; omega, hr20, hc20, hap⟩ ⟨rfl, rfl, rfl, rfl, rfl, trivial⟩ (by first | (dsimp only [pick]; done) | rfl)
        ·
          rintro _ _ ⟨_, ⟨e20, hp20, rfl, rfl⟩, rfl⟩
          change (_ : List Blk → Prop) [_, _, _]
          refine Ex.then_panic ?_
          refine Ex.in_panic ?_
          refine Ex.then_panic ?_
          refine Ex.then_panic ?_
          refine Ex.in_panic ?_
          refine Ex.then_panic ?_
          refine Ex.outP [false, false, false] ?_
          exact ⟨_, by rw [hpr, show n10 - i = (n10 - (i + 1)) + 1 by omega, pRs, hp18, andThen_ok, hp20, andThen_error], rfl, rfl⟩
      ·
        rintro _ _ ⟨_, ⟨e18, hp18, rfl, rfl⟩, rfl⟩
        change (_ : List Blk → Prop) [_, _]
        refine Ex.then_panic ?_
        refine Ex.in_panic ?_
        refine Ex.then_panic ?_
        refine Ex.then_panic ?_
        refine Ex.in_panic ?_
        refine Ex.then_panic ?_
        refine Ex.outP [false, false] ?_
        exact ⟨_, by rw [hpr, show n10 - i = (n10 - (i + 1)) + 1 by omega, pRs, hp18, andThen_error], rfl, rfl⟩
    replace hb2 := of_decide_eq_false hb2
    obtain rfl : i = n10 := by omega
    rw [Nat.sub_self] at hpr
    refine W.exit ?_
    refine Ex.then_exit ?_
    refine Ex.then_exit ?_
    refine Ex.in_here ?_
    refine Ex.next ?_
    refine W.slots (L' := [(5, _)]) ⟨rfl, trivial⟩ ?_
    refine W.seq ?_
    refine W.region ?_
    refine T.q (q_move rfl rfl) (Wt.plain rfl) rfl rfl ?_
    refine T.q (q_assign rfl rfl) (Wt.plain rfl) rfl rfl ?_
    refine T.nil ?_
    refine Ex.next ?_
    refine W.slots (L' := [(4, _)]) ⟨rfl, trivial⟩ ?_
    refine W.ret ?_
    refine Ex.fine ?_
    refine Ex.out1 [true, true, true] rfl rfl ?_
    exact ⟨acc, bb, AA, cc, cb, nk, rq, jq, hpr, hby, hbb2, hrd, hcc, by omega, by rw [hac], rfl⟩
  ·
    rintro _ _ ⟨_, ⟨e10, hp10, rfl, rfl⟩, rfl⟩
    change (_ : List Blk → Prop) []
    refine Ex.then_panic ?_
    refine Ex.outP [] ?_
    exact ⟨_, by rw [pRgs, hp10, andThen_error], rfl, rfl⟩
theorem tbE_ne (b : List Int) (z : Int) : tbE b z ≠ 0 := by
  unfold tbE
  split
  · exact takeE_ne b
  · split <;> decide
theorem text_spec (b : List Int) {m : Nat} (hbm : b.length = m) (A : Option Addr) (cap : Nat) (hbb : Bytes b) (hle : m ≤ cap) (hbl : m ≤ 140737488351232) (w0 : World) (hB : Reads w0 A (ints .u8 b)) : Does Try.prog 25 #[.slice A m cap, .int .i64 128] w0 [] (fun v G =>
    (∃ (t b' : List Int) (no : Option Nat) (cap' : Nat) (junk : List Value) (A' : Option Addr), pText b = .ok (t, b') ∧ Bytes t ∧ Bytes b' ∧ t.length ≤ 128 ∧ t.length + b'.length ≤ m ∧ RdB ⟨no, ints .u8 (t ++ b') ++ junk, 5, (0, 0)⟩ A' b' ∧ b'.length ≤ cap' ∧
      v = .tuple #[.slice (no.map fun k => (⟨k, 0, none⟩ : Addr)) t.length t.length, .slice A' b'.length cap', .int .i64 0] ∧ G = [⟨no, ints .u8 (t ++ b') ++ junk, 5, (0, 0)⟩]) ∨
    (∃ e : Int, pText b = .error e ∧ e ≠ 0 ∧ v = .tuple #[.slice none 0 0, .slice none 0 0, .int .i64 e] ∧ G = [])) := by
  subst hbm
  by_cases ho : takeOk b = true
  · obtain ⟨ho0, hol, hok⟩ := take_ok ho
    have hkp := two_pos (tk b)
    by_cases h1 : (128 : Int) < ((tv b : Nat) : Int)
    · refine (takeb_bad2_at b A cap hle (by omega) hbb 128 ho h1 w0 hB rfl).mono ?_
      rintro v G ⟨rfl, rfl⟩
      exact .inr ⟨_, by rw [pText, if_neg fun g => by have := g.2.1; omega], tbE_ne _ _, rfl, rfl⟩
    · by_cases h2 : b.length - 2 ^ tk b < tv b
      · refine (takeb_bad3_at b A cap hle (by omega) hbb 128 ho h2 (by omega) w0 hB rfl).mono ?_
        rintro v G ⟨rfl, rfl⟩
        exact .inr ⟨_, by rw [pText, if_neg fun g => by have := g.2.2; omega], tbE_ne _ _, rfl, rfl⟩
      · refine (takeb_at b A cap hle (by omega) hbb 128 ho (by omega) (by omega) w0 hB rfl).mono ?_
        rintro v G ⟨no, cap', junk, rfl, h, rfl⟩
        have et : ((b.drop (2 ^ tk b)).take (tv b)).length = tv b := by rw [List.length_take, List.length_drop]; omega
        have er : ((b.drop (2 ^ tk b)).drop (tv b)).length = b.length - 2 ^ tk b - tv b := by rw [List.length_drop, List.length_drop]
        have ea := List.take_append_drop (tv b) (b.drop (2 ^ tk b))
        have hr : RdB ⟨no, ints .u8 (b.drop (2 ^ tk b)) ++ junk, 5, (0, 0)⟩ (cut (no.map fun k => (⟨k, 0, none⟩ : Addr)) cap' (tv b)) ((b.drop (2 ^ tk b)).drop (tv b)) := RdB.cut RdB.own (by rw [List.length_drop]; omega)
        refine .inl ⟨(b.drop (2 ^ tk b)).take (tv b), (b.drop (2 ^ tk b)).drop (tv b), no, cap' - tv b, junk, _, by rw [pText, if_pos ⟨ho, by omega, by omega⟩], fun x hx => (hbb.drop' _) x (List.mem_of_mem_take hx), (hbb.drop' _).drop' _, by omega, by omega, ?_, by omega, by rw [et, er], by rw [ea]⟩
        rw [ea]
        exact hr
  · have hn : takeOk b = false := by simpa using ho
    refine (takeb_bad1_at b A cap hle (by omega) hbb 128 hn w0 hB rfl).mono ?_
    rintro v G ⟨rfl, rfl⟩
    exact .inr ⟨_, by rw [pText, if_neg fun g => ho g.1], tbE_ne _ _, rfl, rfl⟩
theorem text_in {no : Option Nat} {t b' : List Int} {junk : List Value} {ty : TypeId} {fz : Nat × Nat} {w : World} (h : (⟨no, ints .u8 (t ++ b') ++ junk, ty, fz⟩ : Blk).here w) : Reads w (no.map fun k => (⟨k, 0, none⟩ : Addr)) (ints .u8 t) := by
  have := (Reads.own h).pre
  rw [ints_append] at this
  exact this.pre
end Go.Proofs.Ytmkjnefongjniaa
