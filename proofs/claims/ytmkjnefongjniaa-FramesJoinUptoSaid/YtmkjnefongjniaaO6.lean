/-
  The walks of layer 9: a number is taken.
-/
import Derived.Test.YtmkjnefongjniaaO5
import Derived.Test.YtmkjnefongjniaaO4
namespace Go.Proofs.Ytmkjnefongjniaa
open Go Go.X

set_option maxRecDepth 100000 in
theorem take_bad0 (b : List Int) (BA : Option Addr) (bc : Nat) (hbc : b.length ≤ bc) (hbl : b.length ≤ 140737488354000) (hbb : Bytes b) (hbad : takeOk b = false) (w0 : World) (hB : Reads w0 BA (ints .u8 b)) : Does Try.prog 22 #[.slice BA b.length bc] w0 [] (fun v G => v = .tuple #[.int .i64 0, .slice none 0 0, .int .i64 (takeE b)] ∧ G = []) := by
  have hkp := two_pos (tk b)
  have hk3 := tk_le hbb
  have hb0 := hbb.getD 0
  refine spec_of 47 Try.func22 rfl rfl rfl ?_
  refine W.seq ?_
  refine W.region ?_
  refine T.q (q_assign rfl rfl) (Wt.plain rfl) rfl rfl ?_
  refine T.q (q_assign rfl rfl) (Wt.plain rfl) rfl rfl ?_
  refine T.q (q_assign rfl rfl) (Wt.plain rfl) rfl rfl ?_
  refine T.nil ?_
  refine Ex.next ?_
  refine W.slots (L' := [(0, _)]) ⟨rfl, trivial⟩ ?_
  refine W.seq ?_
  refine W.seq ?_
  refine W.region ?_
  refine T.q (q_move rfl rfl) (Wt.plain rfl) rfl rfl ?_
  refine T.q (q_len sc22 rfl rfl) (Wt.plain rfl) rfl rfl ?_
  refine T.q (q_eql rfl rfl rfl) (Wt.plain rfl) rfl rfl ?_
  refine T.q (q_move rfl rfl) (Wt.plain rfl) rfl rfl ?_
  refine T.both (t := 10) _ rfl (fun hb1 => ?_) (fun hb1 => ?_)
  · replace hb1 := of_decide_eq_true hb1
    refine T.no (Wn.no rfl rfl rfl rfl) rfl rfl ?_
    refine T.no (Wn.no rfl rfl rfl rfl) rfl rfl ?_
    refine T.no (Wn.no rfl rfl rfl rfl) rfl rfl ?_
    refine T.no (Wn.no rfl rfl rfl rfl) rfl rfl ?_
    refine T.no (Wn.no rfl rfl rfl rfl) rfl rfl ?_
    refine T.no (Wn.no rfl rfl rfl rfl) rfl rfl ?_
    refine T.no (Wn.no rfl rfl rfl rfl) rfl rfl ?_
    refine T.no (Wn.no rfl rfl rfl rfl) rfl rfl ?_
    refine T.q (q_pickT rfl rfl rfl) (Wt.plain rfl) rfl rfl ?_
    refine T.nil ?_
    refine Ex.next ?_
    refine W.slots (L' := [(0, _), (19, _)]) ⟨rfl, rfl, trivial⟩ ?_
    refine W.condT rfl ?_
    refine W.seq ?_
    refine W.region ?_
    refine T.q (q_assign rfl rfl) (Wt.plain rfl) rfl rfl ?_
    refine T.q (q_assign rfl rfl) (Wt.plain rfl) rfl rfl ?_
    refine T.q (q_assign rfl rfl) (Wt.plain rfl) rfl rfl ?_
    refine T.nil ?_
    refine Ex.next ?_
    refine W.slots (L' := [(2, _), (3, _), (4, _)]) ⟨rfl, rfl, rfl, trivial⟩ ?_
    refine W.ret ?_
    refine Ex.then_ret ?_
    refine Ex.out3 [] rfl rfl rfl rfl ?_
    exact ⟨by rw [takeE, if_pos (by omega)], rfl⟩
  · replace hb1 := of_decide_eq_false hb1
    refine T.q (q_move rfl rfl) (Wt.yes rfl rfl rfl) rfl rfl ?_
    refine T.q (q_len sc22 rfl rfl) (Wt.yes rfl rfl rfl) rfl rfl ?_
    refine T.q (q_move rfl rfl) (Wt.yes rfl rfl rfl) rfl rfl ?_
    refine T.q (q_ixE1 sc22 0 (R_ext hB.ext) rfl rfl rfl (rfl) (by omega) (by first | omega | (simp; done) | (simp [-List.getD_eq_getElem?_getD]; omega))) (Wt.yes rfl rfl rfl) rfl rfl ?_
    refine T.q (q_loadE ss5 (R_ext hB.ext) rfl rfl (ints_get (by first | omega | (simp; done) | (simp [-List.getD_eq_getElem?_getD]; omega)))) (Wt.yes rfl rfl rfl) rfl rfl ?_
    refine T.q (q_int (b := ((tk b : Nat) : Int)) (q_shr rfl rfl rfl (by decide)) (shr6 hbb)) (Wt.yes rfl rfl rfl) rfl rfl ?_
    refine T.q (q_int (b := (((2 ^ tk b) : Nat) : Int)) (q_shl rfl rfl rfl (by omega)) (shl_one (tk b) hk3)) (Wt.yes rfl rfl rfl) rfl rfl ?_
    refine T.q (q_lss rfl rfl rfl) (Wt.yes rfl rfl rfl) rfl rfl ?_
    refine T.q (q_pickF rfl rfl rfl) (Wt.plain rfl) rfl rfl ?_
    refine T.nil ?_
    refine Ex.next ?_
    refine W.slots (L' := [(0, _), (19, _)]) ⟨rfl, rfl, trivial⟩ ?_
    refine W.cond _ rfl (fun hb2 => ?_) (fun hb2 => ?_)
    · replace hb2 := of_decide_eq_true hb2
      refine W.seq ?_
      refine W.region ?_
      refine T.q (q_assign rfl rfl) (Wt.plain rfl) rfl rfl ?_
      refine T.q (q_assign rfl rfl) (Wt.plain rfl) rfl rfl ?_
      refine T.q (q_assign rfl rfl) (Wt.plain rfl) rfl rfl ?_
      refine T.nil ?_
      refine Ex.next ?_
      refine W.slots (L' := [(2, _), (3, _), (4, _)]) ⟨rfl, rfl, rfl, trivial⟩ ?_
      refine W.ret ?_
      refine Ex.then_ret ?_
      refine Ex.out3 [] rfl rfl rfl rfl ?_
      exact ⟨by rw [takeE, if_pos (by omega)], rfl⟩
    · replace hb2 := of_decide_eq_false hb2
      refine W.skip ?_
      refine Ex.next ?_
      refine W.slots (L' := [(0, _)]) ⟨rfl, trivial⟩ ?_
      refine W.seq ?_
      refine W.region ?_
      refine T.q (q_move rfl rfl) (Wt.plain rfl) rfl rfl ?_
      refine T.q (q_ixE1 sc22 0 (R_ext hB.ext) rfl rfl rfl (rfl) (by omega) (by first | omega | (simp; done) | (simp [-List.getD_eq_getElem?_getD]; omega))) (Wt.plain rfl) rfl rfl ?_
      refine T.q (q_loadE ss5 (R_ext hB.ext) rfl rfl (ints_get (by first | omega | (simp; done) | (simp [-List.getD_eq_getElem?_getD]; omega)))) (Wt.plain rfl) rfl rfl ?_
      refine T.q (q_int (b := ((tk b : Nat) : Int)) (q_shr rfl rfl rfl (by decide)) (shr6 hbb)) (Wt.plain rfl) rfl rfl ?_
      refine T.q (q_int (b := (((tk b) : Nat) : Int)) (q_conv un5 un3 rfl rfl) (i64_wrap (by omega) (by omega))) (Wt.plain rfl) rfl rfl ?_
      refine T.q (q_assign rfl rfl) (Wt.plain rfl) rfl rfl ?_
      refine T.nil ?_
      refine Ex.next ?_
      refine W.slots (L' := [(0, _), (5, _)]) ⟨rfl, rfl, trivial⟩ ?_
      refine W.seq ?_
      refine W.region ?_
      refine T.q (q_move rfl rfl) (Wt.plain rfl) rfl rfl ?_
      refine T.q (q_move rfl rfl) (Wt.plain rfl) rfl rfl ?_
      refine T.q (q_int (b := (((2 ^ tk b) : Nat) : Int)) (q_shl rfl rfl rfl (by omega)) (shl_one (tk b) hk3)) (Wt.plain rfl) rfl rfl ?_
      refine T.q (q_sl sc22 0 (2 ^ tk b) bc rfl rfl rfl ⟨_, _, rfl, by omega⟩ rfl (by first | omega | (simp; done) | (simp [-List.getD_eq_getElem?_getD]; omega)) (by first | omega | (simp; done) | (simp [-List.getD_eq_getElem?_getD]; omega)) (by first | omega | (simp; done) | (simp [-List.getD_eq_getElem?_getD]; omega)) (by simp)) (Wt.plain rfl) rfl rfl ?_
      refine T.eff (e_call enters54 rfl rfl (fun w hm => clone_pos ((b).take (2 ^ tk b)) _ _ (by first | omega | (simp; done) | (simp; omega) | (simp at *; omega)) (by first | omega | (simp; done) | (simp; omega) | (simp at *; omega)) w ((R_takeI (R_cutI (l := 0) (R_ext hB.ext) (by first | omega | (simp; done) | (simp [-List.getD_eq_getElem?_getD]; omega) | (simp at *; omega) | rfl)) (2 ^ tk b)) w hm) (by omega) (by first | omega | (simp; done) | (simp [-List.getD_eq_getElem?_getD]; omega) | (simp at *; omega) | rfl)) rfl rfl) (Wt.plain rfl) ?_
      rintro _ _ ⟨_, _, ⟨k3, cap4, junk5, rfl, hc6, rfl⟩, rfl, rfl⟩
      change (_ : List Blk → Prop) [_]
      refine T.q (q_assign rfl rfl) (Wt.plain rfl) rfl rfl ?_
      refine T.nil ?_
      refine Ex.next ?_
      refine W.slots (L' := [(0, _), (5, _), (6, _)]) ⟨rfl, rfl, rfl, trivial⟩ ?_
      refine W.seq ?_
      refine W.region ?_
      refine T.q (q_move rfl rfl) (Wt.plain rfl) rfl rfl ?_
      refine T.q (q_ixS0 sc22 0 rfl rfl rfl (rfl) (by omega)) (Wt.plain rfl) rfl rfl ?_
      refine T.q (q_int (b := b.getD 0 0) (q_loadIJ ss5 0 rfl rfl rfl (by first | omega | (simp; done) | (simp [-List.getD_eq_getElem?_getD]; omega))) (getD_take _ hkp)) (Wt.plain rfl) rfl rfl ?_
      refine T.q (q_int (b := b.getD 0 0 % 64) (q_and rfl rfl rfl) (and63 (hbb.getD 0).1 (hbb.getD 0).2)) (Wt.plain rfl) rfl rfl ?_
      refine T.q (q_ixS0 sc22 0 rfl rfl rfl (rfl) (by omega)) (Wt.plain rfl) rfl rfl ?_
      refine T.eff (e_storeIJ ss5 0 rfl rfl rfl rfl (by first | omega | (simp; done) | (simp [-List.getD_eq_getElem?_getD]; omega)) rfl) (Wt.plain rfl) ?_
      rintro _ _ ⟨rfl, rfl⟩
      change (_ : List Blk → Prop) [_]
      change (_ : List Blk → Prop) [⟨some k3, ints .u8 (own b) ++ junk5, 5, (0, 0)⟩]
      refine T.nil ?_
      refine Ex.next ?_
      refine W.slots (L' := [(0, _), (5, _), (6, _)]) ⟨rfl, rfl, rfl, trivial⟩ ?_
      refine W.seq ?_
      refine W.region ?_
      refine T.q (q_move rfl rfl) (Wt.plain rfl) rfl rfl ?_
      refine T.eff (e_call enters56 rfl rfl (fun w hm => small_at (own b) _ _ hbb.own (tv_lt hbb (by omega)) (by first | omega | (simp; done) | (simp; omega) | (simp at *; omega)) (by first | omega | (simp; done) | (simp; omega) | (simp at *; omega)) w ((R_pre 0 rfl) w hm) (own_length (by omega))) rfl rfl) (Wt.plain rfl) ?_
      rintro _ _ ⟨_, _, ⟨rfl, rfl⟩, rfl, rfl⟩
      change (_ : List Blk → Prop) [_]
      have htv := tv_lt hbb (by omega)
      refine T.q (q_assign rfl rfl) (Wt.plain rfl) rfl rfl ?_
      refine T.nil ?_
      refine Ex.next ?_
      refine W.less (L' := [(0, _), (2, _), (5, _)]) [false] ⟨rfl, rfl, rfl, trivial⟩ ?_
      change (_ : List Blk → Prop) []
      refine W.seq ?_
      refine W.seq ?_
      refine W.region ?_
      refine T.q (q_move rfl rfl) (Wt.plain rfl) rfl rfl ?_
      refine T.eff (e_call enters52 rfl rfl (fun w hm => kind_spec (tv b) (by first | omega | (simp; done) | (simp; omega) | (simp at *; omega)) w) rfl rfl) (Wt.plain rfl) ?_
      rintro _ _ ⟨_, _, ⟨rfl, rfl⟩, rfl, rfl⟩
      change (_ : List Blk → Prop) []
      refine T.q (q_move rfl rfl) (Wt.plain rfl) rfl rfl ?_
      refine T.q (q_bool (b := true) (q_neq rfl rfl rfl) (decide_eq_true (take_bad_kd hbad (by omega) (by omega)))) (Wt.plain rfl) rfl rfl ?_
      refine T.nil ?_
      refine Ex.next ?_
      refine W.slots (L' := [(0, _), (2, _), (5, _), (40, _)]) ⟨rfl, rfl, rfl, rfl, trivial⟩ ?_
      refine W.condT rfl ?_
      refine W.seq ?_
      refine W.region ?_
      refine T.q (q_assign rfl rfl) (Wt.plain rfl) rfl rfl ?_
      refine T.q (q_assign rfl rfl) (Wt.plain rfl) rfl rfl ?_
      refine T.q (q_assign rfl rfl) (Wt.plain rfl) rfl rfl ?_
      refine T.nil ?_
      refine Ex.next ?_
      refine W.slots (L' := [(2, _), (3, _), (4, _)]) ⟨rfl, rfl, rfl, trivial⟩ ?_
      refine W.ret ?_
      refine Ex.then_ret ?_
      refine Ex.out3 [] rfl rfl rfl rfl ?_
      exact ⟨by rw [takeE, if_neg (by omega)], rfl⟩
set_option maxRecDepth 100000 in
theorem take_spec0 (b : List Int) (BA : Option Addr) (bc : Nat) (hbc : b.length ≤ bc) (hbl : b.length ≤ 140737488354000) (hbb : Bytes b) (ho : takeOk b = true) (w0 : World) (hB : Reads w0 BA (ints .u8 b)) : Does Try.prog 22 #[.slice BA b.length bc] w0 [] (fun v G => ∃ (no : Option Nat) (cap : Nat) (junk : List Value), v = .tuple #[.int .i64 ((tv b : Nat) : Int), .slice (no.map fun k => (⟨k, 0, none⟩ : Addr)) (b.length - 2 ^ tk b) cap, .int .i64 0] ∧ b.length - 2 ^ tk b + junk.length = cap ∧ G = [⟨no, ints .u8 (b.drop (2 ^ tk b)) ++ junk, 5, (0, 0)⟩]) := by
  have hkp := two_pos (tk b)
  have hk3 := tk_le hbb
  have hb0 := hbb.getD 0
  obtain ⟨ho0, hol, hok⟩ := take_ok ho
  refine spec_of 47 Try.func22 rfl rfl rfl ?_
  refine W.seq ?_
  refine W.region ?_
  refine T.q (q_assign rfl rfl) (Wt.plain rfl) rfl rfl ?_
  refine T.q (q_assign rfl rfl) (Wt.plain rfl) rfl rfl ?_
  refine T.q (q_assign rfl rfl) (Wt.plain rfl) rfl rfl ?_
  refine T.nil ?_
  refine Ex.next ?_
  refine W.slots (L' := [(0, _)]) ⟨rfl, trivial⟩ ?_
  refine W.seq ?_
  refine W.seq ?_
  refine W.region ?_
  refine T.q (q_move rfl rfl) (Wt.plain rfl) rfl rfl ?_
  refine T.q (q_len sc22 rfl rfl) (Wt.plain rfl) rfl rfl ?_
  refine T.q (q_bool (b := false) (q_eql rfl rfl rfl) (decide_eq_false (by omega))) (Wt.plain rfl) rfl rfl ?_
  refine T.q (q_move rfl rfl) (Wt.plain rfl) rfl rfl ?_
  refine T.q (q_move rfl rfl) (Wt.yes rfl rfl rfl) rfl rfl ?_
  refine T.q (q_len sc22 rfl rfl) (Wt.yes rfl rfl rfl) rfl rfl ?_
  refine T.q (q_move rfl rfl) (Wt.yes rfl rfl rfl) rfl rfl ?_
  refine T.q (q_ixE1 sc22 0 (R_ext hB.ext) rfl rfl rfl (rfl) (by omega) (by first | omega | (simp; done) | (simp [-List.getD_eq_getElem?_getD]; omega))) (Wt.yes rfl rfl rfl) rfl rfl ?_
  refine T.q (q_loadE ss5 (R_ext hB.ext) rfl rfl (ints_get (by first | omega | (simp; done) | (simp [-List.getD_eq_getElem?_getD]; omega)))) (Wt.yes rfl rfl rfl) rfl rfl ?_
  refine T.q (q_int (b := ((tk b : Nat) : Int)) (q_shr rfl rfl rfl (by decide)) (shr6 hbb)) (Wt.yes rfl rfl rfl) rfl rfl ?_
  refine T.q (q_int (b := (((2 ^ tk b) : Nat) : Int)) (q_shl rfl rfl rfl (by omega)) (shl_one (tk b) hk3)) (Wt.yes rfl rfl rfl) rfl rfl ?_
  refine T.q (q_bool (b := false) (q_lss rfl rfl rfl) (decide_eq_false (by omega))) (Wt.yes rfl rfl rfl) rfl rfl ?_
  refine T.q (q_pickF rfl rfl rfl) (Wt.plain rfl) rfl rfl ?_
  refine T.nil ?_
  refine Ex.next ?_
  refine W.slots (L' := [(0, _), (19, _)]) ⟨rfl, rfl, trivial⟩ ?_
  refine W.condF rfl ?_
  refine W.skip ?_
  refine Ex.next ?_
  refine W.slots (L' := [(0, _)]) ⟨rfl, trivial⟩ ?_
  refine W.seq ?_
  refine W.region ?_
  refine T.q (q_move rfl rfl) (Wt.plain rfl) rfl rfl ?_
  refine T.q (q_ixE1 sc22 0 (R_ext hB.ext) rfl rfl rfl (rfl) (by omega) (by first | omega | (simp; done) | (simp [-List.getD_eq_getElem?_getD]; omega))) (Wt.plain rfl) rfl rfl ?_
  refine T.q (q_loadE ss5 (R_ext hB.ext) rfl rfl (ints_get (by first | omega | (simp; done) | (simp [-List.getD_eq_getElem?_getD]; omega)))) (Wt.plain rfl) rfl rfl ?_
  refine T.q (q_int (b := ((tk b : Nat) : Int)) (q_shr rfl rfl rfl (by decide)) (shr6 hbb)) (Wt.plain rfl) rfl rfl ?_
  refine T.q (q_int (b := (((tk b) : Nat) : Int)) (q_conv un5 un3 rfl rfl) (i64_wrap (by omega) (by omega))) (Wt.plain rfl) rfl rfl ?_
  refine T.q (q_assign rfl rfl) (Wt.plain rfl) rfl rfl ?_
  refine T.nil ?_
  refine Ex.next ?_
  refine W.slots (L' := [(0, _), (5, _)]) ⟨rfl, rfl, trivial⟩ ?_
  refine W.seq ?_
  refine W.region ?_
  refine T.q (q_move rfl rfl) (Wt.plain rfl) rfl rfl ?_
  refine T.q (q_move rfl rfl) (Wt.plain rfl) rfl rfl ?_
  refine T.q (q_int (b := (((2 ^ tk b) : Nat) : Int)) (q_shl rfl rfl rfl (by omega)) (shl_one (tk b) hk3)) (Wt.plain rfl) rfl rfl ?_
  refine T.q (q_sl sc22 0 (2 ^ tk b) bc rfl rfl rfl ⟨_, _, rfl, by omega⟩ rfl (by first | omega | (simp; done) | (simp [-List.getD_eq_getElem?_getD]; omega)) (by first | omega | (simp; done) | (simp [-List.getD_eq_getElem?_getD]; omega)) (by first | omega | (simp; done) | (simp [-List.getD_eq_getElem?_getD]; omega)) (by simp)) (Wt.plain rfl) rfl rfl ?_
  refine T.eff (e_call enters54 rfl rfl (fun w hm => clone_pos ((b).take (2 ^ tk b)) _ _ (by first | omega | (simp; done) | (simp; omega) | (simp at *; omega)) (by first | omega | (simp; done) | (simp; omega) | (simp at *; omega)) w ((R_takeI (R_cutI (l := 0) (R_ext hB.ext) (by first | omega | (simp; done) | (simp [-List.getD_eq_getElem?_getD]; omega) | (simp at *; omega) | rfl)) (2 ^ tk b)) w hm) (by omega) (by first | omega | (simp; done) | (simp [-List.getD_eq_getElem?_getD]; omega) | (simp at *; omega) | rfl)) rfl rfl) (Wt.plain rfl) ?_
  rintro _ _ ⟨_, _, ⟨k1, cap2, junk3, rfl, hc4, rfl⟩, rfl, rfl⟩
  change (_ : List Blk → Prop) [_]
  refine T.q (q_assign rfl rfl) (Wt.plain rfl) rfl rfl ?_
  refine T.nil ?_
  refine Ex.next ?_
  refine W.slots (L' := [(0, _), (5, _), (6, _)]) ⟨rfl, rfl, rfl, trivial⟩ ?_
  refine W.seq ?_
  refine W.region ?_
  refine T.q (q_move rfl rfl) (Wt.plain rfl) rfl rfl ?_
  refine T.q (q_ixS0 sc22 0 rfl rfl rfl (rfl) (by omega)) (Wt.plain rfl) rfl rfl ?_
  refine T.q (q_int (b := b.getD 0 0) (q_loadIJ ss5 0 rfl rfl rfl (by first | omega | (simp; done) | (simp [-List.getD_eq_getElem?_getD]; omega))) (getD_take _ hkp)) (Wt.plain rfl) rfl rfl ?_
  refine T.q (q_int (b := b.getD 0 0 % 64) (q_and rfl rfl rfl) (and63 (hbb.getD 0).1 (hbb.getD 0).2)) (Wt.plain rfl) rfl rfl ?_
  refine T.q (q_ixS0 sc22 0 rfl rfl rfl (rfl) (by omega)) (Wt.plain rfl) rfl rfl ?_
  refine T.eff (e_storeIJ ss5 0 rfl rfl rfl rfl (by first | omega | (simp; done) | (simp [-List.getD_eq_getElem?_getD]; omega)) rfl) (Wt.plain rfl) ?_
  rintro _ _ ⟨rfl, rfl⟩
  change (_ : List Blk → Prop) [_]
  change (_ : List Blk → Prop) [⟨some k1, ints .u8 (own b) ++ junk3, 5, (0, 0)⟩]
  refine T.nil ?_
  refine Ex.next ?_
  refine W.slots (L' := [(0, _), (5, _), (6, _)]) ⟨rfl, rfl, rfl, trivial⟩ ?_
  refine W.seq ?_
  refine W.region ?_
  refine T.q (q_move rfl rfl) (Wt.plain rfl) rfl rfl ?_
  refine T.eff (e_call enters56 rfl rfl (fun w hm => small_at (own b) _ _ hbb.own (tv_lt hbb (by omega)) (by first | omega | (simp; done) | (simp; omega) | (simp at *; omega)) (by first | omega | (simp; done) | (simp; omega) | (simp at *; omega)) w ((R_pre 0 rfl) w hm) (own_length (by omega))) rfl rfl) (Wt.plain rfl) ?_
  rintro _ _ ⟨_, _, ⟨rfl, rfl⟩, rfl, rfl⟩
  change (_ : List Blk → Prop) [_]
  have htv := tv_lt hbb (by omega)
  refine T.q (q_assign rfl rfl) (Wt.plain rfl) rfl rfl ?_
  refine T.nil ?_
  refine Ex.next ?_
  refine W.less (L' := [(0, _), (2, _), (5, _)]) [false] ⟨rfl, rfl, rfl, trivial⟩ ?_
  change (_ : List Blk → Prop) []
  refine W.seq ?_
  refine W.seq ?_
  refine W.region ?_
  refine T.q (q_move rfl rfl) (Wt.plain rfl) rfl rfl ?_
  refine T.eff (e_call enters52 rfl rfl (fun w hm => kind_spec (tv b) (by first | omega | (simp; done) | (simp; omega) | (simp at *; omega)) w) rfl rfl) (Wt.plain rfl) ?_
  rintro _ _ ⟨_, _, ⟨rfl, rfl⟩, rfl, rfl⟩
  change (_ : List Blk → Prop) []
  refine T.q (q_move rfl rfl) (Wt.plain rfl) rfl rfl ?_
  refine T.q (q_bool (b := false) (q_neq rfl rfl rfl) (decide_eq_false (by omega))) (Wt.plain rfl) rfl rfl ?_
  refine T.nil ?_
  refine Ex.next ?_
  refine W.slots (L' := [(0, _), (2, _), (5, _), (40, _)]) ⟨rfl, rfl, rfl, rfl, trivial⟩ ?_
  refine W.condF rfl ?_
  refine W.skip ?_
  refine Ex.next ?_
  refine W.slots (L' := [(0, _), (2, _), (5, _)]) ⟨rfl, rfl, rfl, trivial⟩ ?_
  refine W.seq ?_
  refine W.region ?_
  refine T.q (q_move rfl rfl) (Wt.plain rfl) rfl rfl ?_
  refine T.q (q_move rfl rfl) (Wt.plain rfl) rfl rfl ?_
  refine T.q (q_move rfl rfl) (Wt.plain rfl) rfl rfl ?_
  refine T.q (q_int (b := (((2 ^ tk b) : Nat) : Int)) (q_shl rfl rfl rfl (by omega)) (shl_one (tk b) hk3)) (Wt.plain rfl) rfl rfl ?_
  refine T.q (q_sl sc22 (2 ^ tk b) b.length bc rfl rfl ⟨_, _, rfl, by omega⟩ rfl rfl (by first | omega | (simp; done) | (simp [-List.getD_eq_getElem?_getD]; omega)) (by first | omega | (simp; done) | (simp [-List.getD_eq_getElem?_getD]; omega)) (by first | omega | (simp; done) | (simp [-List.getD_eq_getElem?_getD]; omega)) (by simp)) (Wt.plain rfl) rfl rfl ?_
  refine T.eff (e_call enters54 rfl rfl (fun w hm => clone_spec ((b).drop (2 ^ tk b)) _ _ (by first | omega | (simp; done) | (simp; omega) | (simp at *; omega)) (by first | omega | (simp; done) | (simp; omega) | (simp at *; omega)) w ((R_cutI (R_ext hB.ext) (by first | omega | (simp; done) | (simp [-List.getD_eq_getElem?_getD]; omega) | (simp at *; omega) | rfl)) w hm) (by first | omega | (simp; done) | (simp [-List.getD_eq_getElem?_getD]; omega) | (simp at *; omega) | rfl)) rfl rfl) (Wt.plain rfl) ?_
  rintro _ _ ⟨_, _, ⟨k5, cap6, junk7, rfl, hc8, hc9, rfl⟩, rfl, rfl⟩
  change (_ : List Blk → Prop) [_]
  refine T.q (q_assign rfl rfl) (Wt.plain rfl) rfl rfl ?_
  refine T.q (q_assign rfl rfl) (Wt.plain rfl) rfl rfl ?_
  refine T.q (q_assign rfl rfl) (Wt.plain rfl) rfl rfl ?_
  refine T.nil ?_
  refine Ex.next ?_
  refine W.slots (L' := [(2, _), (3, _), (4, _)]) ⟨rfl, rfl, rfl, trivial⟩ ?_
  refine W.ret ?_
  refine Ex.out3 [true] rfl rfl rfl rfl ?_
  exact ⟨_, _, _, rfl, by assumption, rfl⟩
set_option maxRecDepth 100000 in
theorem reftake_bad0 (b : List Int) (BA : Option Addr) (bc : Nat) (_hbc : b.length ≤ bc) (hbl : b.length ≤ 140737488354000) (hbb : Bytes b) (hbad : takeOk b = false) (w0 : World) (hB : Reads w0 BA (ints .u8 b)) : Does Try.prog 27 #[.slice BA b.length bc] w0 [] (fun v G => v = .tuple #[.int .i64 0, .slice none 0 0, .int .i64 (takeE b)] ∧ G = []) := by
  have hkp := two_pos (tk b)
  have hk3 := tk_le hbb
  have hb0 := hbb.getD 0
  refine spec_of 48 Try.func27 rfl rfl rfl ?_
  refine W.seq ?_
  refine W.region ?_
  refine T.q (q_assign rfl rfl) (Wt.plain rfl) rfl rfl ?_
  refine T.q (q_assign rfl rfl) (Wt.plain rfl) rfl rfl ?_
  refine T.q (q_assign rfl rfl) (Wt.plain rfl) rfl rfl ?_
  refine T.nil ?_
  refine Ex.next ?_
  refine W.slots (L' := [(0, _)]) ⟨rfl, trivial⟩ ?_
  refine W.seq ?_
  refine W.seq ?_
  refine W.region ?_
  refine T.q (q_move rfl rfl) (Wt.plain rfl) rfl rfl ?_
  refine T.q (q_len sc22 rfl rfl) (Wt.plain rfl) rfl rfl ?_
  refine T.q (q_eql rfl rfl rfl) (Wt.plain rfl) rfl rfl ?_
  refine T.nil ?_
  refine Ex.next ?_
  refine W.slots (L' := [(0, _), (10, _)]) ⟨rfl, rfl, trivial⟩ ?_
  refine W.cond _ rfl (fun hb1 => ?_) (fun hb1 => ?_)
  · replace hb1 := of_decide_eq_true hb1
    refine W.seq ?_
    refine W.region ?_
    refine T.q (q_assign rfl rfl) (Wt.plain rfl) rfl rfl ?_
    refine T.q (q_assign rfl rfl) (Wt.plain rfl) rfl rfl ?_
    refine T.q (q_assign rfl rfl) (Wt.plain rfl) rfl rfl ?_
    refine T.nil ?_
    refine Ex.next ?_
    refine W.slots (L' := [(2, _), (3, _), (4, _)]) ⟨rfl, rfl, rfl, trivial⟩ ?_
    refine W.ret ?_
    refine Ex.then_ret ?_
    refine Ex.out3 [] rfl rfl rfl rfl ?_
    exact ⟨by rw [takeE, if_pos (by omega)], rfl⟩
  · replace hb1 := of_decide_eq_false hb1
    refine W.skip ?_
    refine Ex.next ?_
    refine W.slots (L' := [(0, _)]) ⟨rfl, trivial⟩ ?_
    refine W.seq ?_
    refine W.region ?_
    refine T.q (q_move rfl rfl) (Wt.plain rfl) rfl rfl ?_
    refine T.q (q_ixE1 sc22 0 (R_ext hB.ext) rfl rfl rfl (rfl) (by omega) (by first | omega | (simp; done) | (simp [-List.getD_eq_getElem?_getD]; omega))) (Wt.plain rfl) rfl rfl ?_
    refine T.q (q_loadE ss5 (R_ext hB.ext) rfl rfl (ints_get (by first | omega | (simp; done) | (simp [-List.getD_eq_getElem?_getD]; omega)))) (Wt.plain rfl) rfl rfl ?_
    refine T.q (q_int (b := ((tk b : Nat) : Int)) (q_quo8 rfl rfl rfl (by have := hbb.getD 0; omega) (by have := hbb.getD 0; omega) (by decide)) ?hE) (Wt.plain rfl) rfl rfl ?_
    case hE => have := hbb.getD 0; rw [tk]; omega
    refine T.q (q_int (b := (((2 ^ tk b) : Nat) : Int)) (q_shl rfl rfl rfl (by omega)) (shl_one (tk b) hk3)) (Wt.plain rfl) rfl rfl ?_
    refine T.q (q_assign rfl rfl) (Wt.plain rfl) rfl rfl ?_
    refine T.nil ?_
    refine Ex.next ?_
    refine W.slots (L' := [(0, _), (5, _)]) ⟨rfl, rfl, trivial⟩ ?_
    refine W.seq ?_
    refine W.seq ?_
    refine W.region ?_
    refine T.q (q_move rfl rfl) (Wt.plain rfl) rfl rfl ?_
    refine T.q (q_len sc22 rfl rfl) (Wt.plain rfl) rfl rfl ?_
    refine T.q (q_move rfl rfl) (Wt.plain rfl) rfl rfl ?_
    refine T.q (q_lss rfl rfl rfl) (Wt.plain rfl) rfl rfl ?_
    refine T.nil ?_
    refine Ex.next ?_
    refine W.slots (L' := [(0, _), (5, _), (19, _)]) ⟨rfl, rfl, rfl, trivial⟩ ?_
    refine W.cond _ rfl (fun hb2 => ?_) (fun hb2 => ?_)
    · replace hb2 := of_decide_eq_true hb2
      refine W.seq ?_
      refine W.region ?_
      refine T.q (q_assign rfl rfl) (Wt.plain rfl) rfl rfl ?_
      refine T.q (q_assign rfl rfl) (Wt.plain rfl) rfl rfl ?_
      refine T.q (q_assign rfl rfl) (Wt.plain rfl) rfl rfl ?_
      refine T.nil ?_
      refine Ex.next ?_
      refine W.slots (L' := [(2, _), (3, _), (4, _)]) ⟨rfl, rfl, rfl, trivial⟩ ?_
      refine W.ret ?_
      refine Ex.then_ret ?_
      refine Ex.out3 [] rfl rfl rfl rfl ?_
      exact ⟨by rw [takeE, if_pos (by omega)], rfl⟩
    · replace hb2 := of_decide_eq_false hb2
      refine W.skip ?_
      refine Ex.next ?_
      refine W.slots (L' := [(0, _), (5, _)]) ⟨rfl, rfl, trivial⟩ ?_
      refine W.seq ?_
      refine W.region ?_
      refine T.q (q_move rfl rfl) (Wt.plain rfl) rfl rfl ?_
      refine T.q (q_ixE1 sc22 0 (R_ext hB.ext) rfl rfl rfl (rfl) (by omega) (by first | omega | (simp; done) | (simp [-List.getD_eq_getElem?_getD]; omega))) (Wt.plain rfl) rfl rfl ?_
      refine T.q (q_loadE ss5 (R_ext hB.ext) rfl rfl (ints_get (by first | omega | (simp; done) | (simp [-List.getD_eq_getElem?_getD]; omega)))) (Wt.plain rfl) rfl rfl ?_
      refine T.q (q_rem rfl rfl rfl (by omega) (by decide)) (Wt.plain rfl) rfl rfl ?_
      refine T.q (q_int (b := (((valS ((own b).take 1)) : Nat) : Int)) (q_conv un5 un3 rfl rfl) ((own_one hbb (by omega)).symm)) (Wt.plain rfl) rfl rfl ?_
      refine T.q (q_assign rfl rfl) (Wt.plain rfl) rfl rfl ?_
      refine T.nil ?_
      refine Ex.next ?_
      refine W.slots (L' := [(0, _), (5, _), (6, _)]) ⟨rfl, rfl, rfl, trivial⟩ ?_
      refine W.seq ?_
      refine W.seq ?_
      refine W.region ?_
      refine T.q (q_assign rfl rfl) (Wt.plain rfl) rfl rfl ?_
      refine T.nil ?_
      refine Ex.next ?_
      refine W.slots (L' := [(0, _), (5, _), (6, _), (7, _)]) ⟨rfl, rfl, rfl, rfl, trivial⟩ ?_
      refine W.block ?_
      refine W.loop (α := Nat) (fun i => [(0, .slice BA b.length bc), (5, .int .i64 (((2 ^ tk b) : Nat) : Int)), (6, .int .i64 (((valS ((own b).take i)) : Nat) : Int)), (7, .int .i64 ((i : Nat) : Int))]) (fun i => []) (fun i => 1 ≤ i ∧ i ≤ 2 ^ tk b) (fun i => 2 ^ tk b - i) [] 1 ⟨by omega, by omega⟩ ⟨rfl, rfl, rfl, rfl, trivial⟩ rfl ?_
      rintro i ⟨hi1, hi⟩
      have htv := tv_lt hbb (by omega)
      refine W.seq ?_
      refine W.seq ?_
      refine W.region ?_
      refine T.q (q_move rfl rfl) (Wt.plain rfl) rfl rfl ?_
      refine T.q (q_move rfl rfl) (Wt.plain rfl) rfl rfl ?_
      refine T.q (q_lss rfl rfl rfl) (Wt.plain rfl) rfl rfl ?_
      refine T.nil ?_
      refine Ex.next ?_
      refine W.slots (L' := [(0, _), (5, _), (6, _), (7, _), (27, _)]) ⟨rfl, rfl, rfl, rfl, rfl, trivial⟩ ?_
      refine W.cond _ rfl (fun hb3 => ?_) (fun hb3 => ?_)
      · replace hb3 := of_decide_eq_true hb3
        have hib : i < 2 ^ tk b := by omega
        have hle := own_le b i
        have hle2 := own_le b (i + 1)
        have hst := own_step hbb (by omega) (by omega) hib
        have hbi := hbb.getD i
        rw [i64_wrap (by omega) (by omega)] at hst
        refine W.skip ?_
        refine Ex.next ?_
        refine W.slots (L' := [(0, _), (5, _), (6, _), (7, _)]) ⟨rfl, rfl, rfl, rfl, trivial⟩ ?_
        refine W.seq ?_
        refine W.block ?_
        refine W.region ?_
        refine T.q (q_move rfl rfl) (Wt.plain rfl) rfl rfl ?_
        refine T.q (q_muli rfl rfl rfl (by omega) (by omega)) (Wt.plain rfl) rfl rfl ?_
        refine T.q (q_move rfl rfl) (Wt.plain rfl) rfl rfl ?_
        refine T.q (q_move rfl rfl) (Wt.plain rfl) rfl rfl ?_
        refine T.q (q_ixE1 sc22 i (R_ext hB.ext) rfl rfl rfl (by omega) (by omega) (by first | omega | (simp; done) | (simp [-List.getD_eq_getElem?_getD]; omega))) (Wt.plain rfl) rfl rfl ?_
        refine T.q (q_loadE ss5 (R_ext hB.ext) rfl rfl (ints_get (by first | omega | (simp; done) | (simp [-List.getD_eq_getElem?_getD]; omega)))) (Wt.plain rfl) rfl rfl ?_
        refine T.q (q_int (b := b.getD i 0) (q_conv un5 un3 rfl rfl) (i64_wrap (by omega) (by omega))) (Wt.plain rfl) rfl rfl ?_
        refine T.q (q_int (b := (((valS ((own b).take (i + 1))) : Nat) : Int)) (q_addi rfl rfl rfl (by omega) (by omega)) hst) (Wt.plain rfl) rfl rfl ?_
        refine T.q (q_assign rfl rfl) (Wt.plain rfl) rfl rfl ?_
        refine T.nil ?_
        refine Ex.in_normal ?_
        refine Ex.next ?_
        refine W.slots (L' := [(0, _), (5, _), (6, _), (7, _)]) ⟨rfl, rfl, rfl, rfl, trivial⟩ ?_
        refine W.region ?_
        refine T.q (q_move rfl rfl) (Wt.plain rfl) rfl rfl ?_
        refine T.q (q_addi rfl rfl rfl (by omega) (by omega)) (Wt.plain rfl) rfl rfl ?_
        refine T.q (q_assign rfl rfl) (Wt.plain rfl) rfl rfl ?_
        refine T.nil ?_
        exact Ex.again [] (i + 1) (by omega) ⟨by omega, by omega⟩ ⟨rfl, rfl, rfl, rfl, trivial⟩ rfl
      · replace hb3 := of_decide_eq_false hb3
        obtain rfl : i = 2 ^ tk b := by omega
        have hall := own_all (b := b) (by omega)
        refine W.exit ?_
        refine Ex.then_exit ?_
        refine Ex.then_exit ?_
        refine Ex.in_here ?_
        refine Ex.next ?_
        refine W.slots (L' := [(0, _), (5, _), (6, _)]) ⟨rfl, rfl, rfl, trivial⟩ ?_
        refine W.seq ?_
        refine W.seq ?_
        refine W.region ?_
        refine T.q (q_int (b := (((tv b) : Nat) : Int)) (q_move rfl rfl) ?hE) (Wt.plain rfl) rfl rfl ?_
        case hE => rw [hall]
        refine T.eff (e_call enters55 rfl rfl (fun w hm => size_spec (tv b) (by first | omega | (simp; done) | (simp; omega) | (simp at *; omega)) w) rfl rfl) (Wt.plain rfl) ?_
        rintro _ _ ⟨_, _, ⟨rfl, rfl⟩, rfl, rfl⟩
        change (_ : List Blk → Prop) []
        refine T.q (q_move rfl rfl) (Wt.plain rfl) rfl rfl ?_
        refine T.q (q_bool (b := true) (q_neq rfl rfl rfl) (decide_eq_true (fun e => take_bad_kd hbad (by omega) (by omega) (by have e2 := Int.ofNat.inj e; rw [pow_inj_kd.1 e2])))) (Wt.plain rfl) rfl rfl ?_
        refine T.nil ?_
        refine Ex.next ?_
        refine W.slots (L' := [(0, _), (5, _), (6, _), (41, _)]) ⟨rfl, rfl, rfl, rfl, trivial⟩ ?_
        refine W.condT rfl ?_
        refine W.seq ?_
        refine W.region ?_
        refine T.q (q_assign rfl rfl) (Wt.plain rfl) rfl rfl ?_
        refine T.q (q_assign rfl rfl) (Wt.plain rfl) rfl rfl ?_
        refine T.q (q_assign rfl rfl) (Wt.plain rfl) rfl rfl ?_
        refine T.nil ?_
        refine Ex.next ?_
        refine W.slots (L' := [(2, _), (3, _), (4, _)]) ⟨rfl, rfl, rfl, trivial⟩ ?_
        refine W.ret ?_
        refine Ex.then_ret ?_
        refine Ex.out3 [] rfl rfl rfl rfl ?_
        exact ⟨by rw [takeE, if_neg (by omega)], rfl⟩
set_option maxRecDepth 100000 in
theorem reftake_spec0 (b : List Int) (BA : Option Addr) (bc : Nat) (_hbc : b.length ≤ bc) (hbl : b.length ≤ 140737488354000) (hbb : Bytes b) (ho : takeOk b = true) (w0 : World) (hB : Reads w0 BA (ints .u8 b)) : Does Try.prog 27 #[.slice BA b.length bc] w0 [] (fun v G => ∃ (k cap : Nat) (junk : List Value), v = .tuple #[.int .i64 ((tv b : Nat) : Int), .slice (some ⟨k, 0, none⟩) (0 + (b.length - 2 ^ tk b)) cap, .int .i64 0] ∧ 0 + (b.length - 2 ^ tk b) + junk.length = cap ∧ G = [⟨some k, ints .u8 (b.drop (2 ^ tk b)) ++ junk, 5, (0, 0)⟩]) := by
  have hkp := two_pos (tk b)
  have hk3 := tk_le hbb
  have hb0 := hbb.getD 0
  obtain ⟨ho0, hol, hok⟩ := take_ok ho
  refine spec_of 48 Try.func27 rfl rfl rfl ?_
  refine W.seq ?_
  refine W.region ?_
  refine T.q (q_assign rfl rfl) (Wt.plain rfl) rfl rfl ?_
  refine T.q (q_assign rfl rfl) (Wt.plain rfl) rfl rfl ?_
  refine T.q (q_assign rfl rfl) (Wt.plain rfl) rfl rfl ?_
  refine T.nil ?_
  refine Ex.next ?_
  refine W.slots (L' := [(0, _)]) ⟨rfl, trivial⟩ ?_
  refine W.seq ?_
  refine W.seq ?_
  refine W.region ?_
  refine T.q (q_move rfl rfl) (Wt.plain rfl) rfl rfl ?_
  refine T.q (q_len sc22 rfl rfl) (Wt.plain rfl) rfl rfl ?_
  refine T.q (q_bool (b := false) (q_eql rfl rfl rfl) (decide_eq_false (by omega))) (Wt.plain rfl) rfl rfl ?_
  refine T.nil ?_
  refine Ex.next ?_
  refine W.slots (L' := [(0, _), (10, _)]) ⟨rfl, rfl, trivial⟩ ?_
  refine W.condF rfl ?_
  refine W.skip ?_
  refine Ex.next ?_
  refine W.slots (L' := [(0, _)]) ⟨rfl, trivial⟩ ?_
  refine W.seq ?_
  refine W.region ?_
  refine T.q (q_move rfl rfl) (Wt.plain rfl) rfl rfl ?_
  refine T.q (q_ixE1 sc22 0 (R_ext hB.ext) rfl rfl rfl (rfl) (by omega) (by first | omega | (simp; done) | (simp [-List.getD_eq_getElem?_getD]; omega))) (Wt.plain rfl) rfl rfl ?_
  refine T.q (q_loadE ss5 (R_ext hB.ext) rfl rfl (ints_get (by first | omega | (simp; done) | (simp [-List.getD_eq_getElem?_getD]; omega)))) (Wt.plain rfl) rfl rfl ?_
  refine T.q (q_int (b := ((tk b : Nat) : Int)) (q_quo8 rfl rfl rfl (by have := hbb.getD 0; omega) (by have := hbb.getD 0; omega) (by decide)) ?hE) (Wt.plain rfl) rfl rfl ?_
  case hE => have := hbb.getD 0; rw [tk]; omega
  refine T.q (q_int (b := (((2 ^ tk b) : Nat) : Int)) (q_shl rfl rfl rfl (by omega)) (shl_one (tk b) hk3)) (Wt.plain rfl) rfl rfl ?_
  refine T.q (q_assign rfl rfl) (Wt.plain rfl) rfl rfl ?_
  refine T.nil ?_
  refine Ex.next ?_
  refine W.slots (L' := [(0, _), (5, _)]) ⟨rfl, rfl, trivial⟩ ?_
  refine W.seq ?_
  refine W.seq ?_
  refine W.region ?_
  refine T.q (q_move rfl rfl) (Wt.plain rfl) rfl rfl ?_
  refine T.q (q_len sc22 rfl rfl) (Wt.plain rfl) rfl rfl ?_
  refine T.q (q_move rfl rfl) (Wt.plain rfl) rfl rfl ?_
  refine T.q (q_bool (b := false) (q_lss rfl rfl rfl) (decide_eq_false (by omega))) (Wt.plain rfl) rfl rfl ?_
  refine T.nil ?_
  refine Ex.next ?_
  refine W.slots (L' := [(0, _), (5, _), (19, _)]) ⟨rfl, rfl, rfl, trivial⟩ ?_
  refine W.condF rfl ?_
  refine W.skip ?_
  refine Ex.next ?_
  refine W.slots (L' := [(0, _), (5, _)]) ⟨rfl, rfl, trivial⟩ ?_
  refine W.seq ?_
  refine W.region ?_
  refine T.q (q_move rfl rfl) (Wt.plain rfl) rfl rfl ?_
  refine T.q (q_ixE1 sc22 0 (R_ext hB.ext) rfl rfl rfl (rfl) (by omega) (by first | omega | (simp; done) | (simp [-List.getD_eq_getElem?_getD]; omega))) (Wt.plain rfl) rfl rfl ?_
  refine T.q (q_loadE ss5 (R_ext hB.ext) rfl rfl (ints_get (by first | omega | (simp; done) | (simp [-List.getD_eq_getElem?_getD]; omega)))) (Wt.plain rfl) rfl rfl ?_
  refine T.q (q_rem rfl rfl rfl (by omega) (by decide)) (Wt.plain rfl) rfl rfl ?_
  refine T.q (q_int (b := (((valS ((own b).take 1)) : Nat) : Int)) (q_conv un5 un3 rfl rfl) ((own_one hbb (by omega)).symm)) (Wt.plain rfl) rfl rfl ?_
  refine T.q (q_assign rfl rfl) (Wt.plain rfl) rfl rfl ?_
  refine T.nil ?_
  refine Ex.next ?_
  refine W.slots (L' := [(0, _), (5, _), (6, _)]) ⟨rfl, rfl, rfl, trivial⟩ ?_
  refine W.seq ?_
  refine W.seq ?_
  refine W.region ?_
  refine T.q (q_assign rfl rfl) (Wt.plain rfl) rfl rfl ?_
  refine T.nil ?_
  refine Ex.next ?_
  refine W.slots (L' := [(0, _), (5, _), (6, _), (7, _)]) ⟨rfl, rfl, rfl, rfl, trivial⟩ ?_
  refine W.block ?_
  refine W.loop (α := Nat) (fun i => [(0, .slice BA b.length bc), (5, .int .i64 (((2 ^ tk b) : Nat) : Int)), (6, .int .i64 (((valS ((own b).take i)) : Nat) : Int)), (7, .int .i64 ((i : Nat) : Int))]) (fun i => []) (fun i => 1 ≤ i ∧ i ≤ 2 ^ tk b) (fun i => 2 ^ tk b - i) [] 1 ⟨by omega, by omega⟩ ⟨rfl, rfl, rfl, rfl, trivial⟩ rfl ?_
  rintro i ⟨hi1, hi⟩
  have htv := tv_lt hbb (by omega)
  refine W.seq ?_
  refine W.seq ?_
  refine W.region ?_
  refine T.q (q_move rfl rfl) (Wt.plain rfl) rfl rfl ?_
  refine T.q (q_move rfl rfl) (Wt.plain rfl) rfl rfl ?_
  refine T.q (q_lss rfl rfl rfl) (Wt.plain rfl) rfl rfl ?_
  refine T.nil ?_
  refine Ex.next ?_
  refine W.slots (L' := [(0, _), (5, _), (6, _), (7, _), (27, _)]) ⟨rfl, rfl, rfl, rfl, rfl, trivial⟩ ?_
  refine W.cond _ rfl (fun hb1 => ?_) (fun hb1 => ?_)
  · replace hb1 := of_decide_eq_true hb1
    have hib : i < 2 ^ tk b := by omega
    have hle := own_le b i
    have hle2 := own_le b (i + 1)
    have hst := own_step hbb (by omega) (by omega) hib
    have hbi := hbb.getD i
    rw [i64_wrap (by omega) (by omega)] at hst
    refine W.skip ?_
    refine Ex.next ?_
    refine W.slots (L' := [(0, _), (5, _), (6, _), (7, _)]) ⟨rfl, rfl, rfl, rfl, trivial⟩ ?_
    refine W.seq ?_
    refine W.block ?_
    refine W.region ?_
    refine T.q (q_move rfl rfl) (Wt.plain rfl) rfl rfl ?_
    refine T.q (q_muli rfl rfl rfl (by omega) (by omega)) (Wt.plain rfl) rfl rfl ?_
    refine T.q (q_move rfl rfl) (Wt.plain rfl) rfl rfl ?_
    refine T.q (q_move rfl rfl) (Wt.plain rfl) rfl rfl ?_
    refine T.q (q_ixE1 sc22 i (R_ext hB.ext) rfl rfl rfl (by omega) (by omega) (by first | omega | (simp; done) | (simp [-List.getD_eq_getElem?_getD]; omega))) (Wt.plain rfl) rfl rfl ?_
    refine T.q (q_loadE ss5 (R_ext hB.ext) rfl rfl (ints_get (by first | omega | (simp; done) | (simp [-List.getD_eq_getElem?_getD]; omega)))) (Wt.plain rfl) rfl rfl ?_
    refine T.q (q_int (b := b.getD i 0) (q_conv un5 un3 rfl rfl) (i64_wrap (by omega) (by omega))) (Wt.plain rfl) rfl rfl ?_
    refine T.q (q_int (b := (((valS ((own b).take (i + 1))) : Nat) : Int)) (q_addi rfl rfl rfl (by omega) (by omega)) hst) (Wt.plain rfl) rfl rfl ?_
    refine T.q (q_assign rfl rfl) (Wt.plain rfl) rfl rfl ?_
    refine T.nil ?_
    refine Ex.in_normal ?_
    refine Ex.next ?_
    refine W.slots (L' := [(0, _), (5, _), (6, _), (7, _)]) ⟨rfl, rfl, rfl, rfl, trivial⟩ ?_
    refine W.region ?_
    refine T.q (q_move rfl rfl) (Wt.plain rfl) rfl rfl ?_
    refine T.q (q_addi rfl rfl rfl (by omega) (by omega)) (Wt.plain rfl) rfl rfl ?_
    refine T.q (q_assign rfl rfl) (Wt.plain rfl) rfl rfl ?_
    refine T.nil ?_
    exact Ex.again [] (i + 1) (by omega) ⟨by omega, by omega⟩ ⟨rfl, rfl, rfl, rfl, trivial⟩ rfl
  · replace hb1 := of_decide_eq_false hb1
    obtain rfl : i = 2 ^ tk b := by omega
    have hall := own_all (b := b) (by omega)
    refine W.exit ?_
    refine Ex.then_exit ?_
    refine Ex.then_exit ?_
    refine Ex.in_here ?_
    refine Ex.next ?_
    refine W.slots (L' := [(0, _), (5, _), (6, _)]) ⟨rfl, rfl, rfl, trivial⟩ ?_
    refine W.seq ?_
    refine W.seq ?_
    refine W.region ?_
    refine T.q (q_int (b := (((tv b) : Nat) : Int)) (q_move rfl rfl) ?hE) (Wt.plain rfl) rfl rfl ?_
    case hE => rw [hall]
    refine T.eff (e_call enters55 rfl rfl (fun w hm => size_spec (tv b) (by first | omega | (simp; done) | (simp; omega) | (simp at *; omega)) w) rfl rfl) (Wt.plain rfl) ?_
    rintro _ _ ⟨_, _, ⟨rfl, rfl⟩, rfl, rfl⟩
    change (_ : List Blk → Prop) []
    refine T.q (q_move rfl rfl) (Wt.plain rfl) rfl rfl ?_
    refine T.q (q_bool (b := false) (q_neq rfl rfl rfl) (decide_eq_false (by rw [hok]; omega))) (Wt.plain rfl) rfl rfl ?_
    refine T.nil ?_
    refine Ex.next ?_
    refine W.slots (L' := [(0, _), (5, _), (6, _), (41, _)]) ⟨rfl, rfl, rfl, rfl, trivial⟩ ?_
    refine W.condF rfl ?_
    refine W.skip ?_
    refine Ex.next ?_
    refine W.slots (L' := [(0, _), (5, _), (6, _)]) ⟨rfl, rfl, rfl, trivial⟩ ?_
    refine W.seq ?_
    refine W.region ?_
    refine T.q (q_move rfl rfl) (Wt.plain rfl) rfl rfl ?_
    refine T.eff (e_litA sc22 ze5 rfl rfl rfl (by simp [Value.cells]) rfl rfl rfl) (Wt.plain rfl) ?_
    rintro _ _ ⟨k2, rfl, rfl⟩
    change (_ : List Blk → Prop) [_]
    refine T.q (q_move rfl rfl) (Wt.plain rfl) rfl rfl ?_
    refine T.q (q_move rfl rfl) (Wt.plain rfl) rfl rfl ?_
    refine T.q (q_sl sc22 (2 ^ tk b) b.length bc rfl rfl ⟨_, _, rfl, by omega⟩ rfl rfl (by first | omega | (simp; done) | (simp [-List.getD_eq_getElem?_getD]; omega)) (by first | omega | (simp; done) | (simp [-List.getD_eq_getElem?_getD]; omega)) (by first | omega | (simp; done) | (simp [-List.getD_eq_getElem?_getD]; omega)) (by simp)) (Wt.plain rfl) rfl rfl ?_
    refine T.eff (e_appendI sc22 ze5 rfl 0 .u8 [] ((b).drop (2 ^ tk b)) [] ((List.append_nil _).symm) (R_cutI (R_ext hB.ext) (by first | omega | (simp; done) | (simp [-List.getD_eq_getElem?_getD]; omega) | (simp at *; omega) | rfl)) rfl rfl rfl rfl (by first | omega | (simp; done) | (simp [-List.getD_eq_getElem?_getD]; omega) | (simp at *; omega) | rfl) (by first | omega | (simp; done) | (simp [-List.getD_eq_getElem?_getD]; omega) | (simp at *; omega) | rfl) (by first | omega | (simp; done) | (simp [-List.getD_eq_getElem?_getD]; omega) | (simp at *; omega) | rfl) (by first | omega | (simp; done) | (simp [-List.getD_eq_getElem?_getD]; omega)) (by first | omega | (simp; done) | (simp [-List.getD_eq_getElem?_getD]; omega)) rfl rfl) (Wt.plain rfl) ?_
    rintro _ _ ⟨k3, cap4, junk5, hc6, rfl, rfl⟩
    change (_ : List Blk → Prop) [_]
    change (_ : List Blk → Prop) [⟨some k3, ints .u8 (b.drop (2 ^ tk b)) ++ junk5, 5, (0, 0)⟩]
    refine T.q (q_assign rfl rfl) (Wt.plain rfl) rfl rfl ?_
    refine T.q (q_assign rfl rfl) (Wt.plain rfl) rfl rfl ?_
    refine T.q (q_assign rfl rfl) (Wt.plain rfl) rfl rfl ?_
    refine T.nil ?_
    refine Ex.next ?_
    refine W.slots (L' := [(2, _), (3, _), (4, _)]) ⟨rfl, rfl, rfl, trivial⟩ ?_
    refine W.ret ?_
    refine Ex.out3 [true] rfl rfl rfl rfl ?_
    exact ⟨_, _, _, by rw [hall], by assumption, rfl⟩

end Go.Proofs.Ytmkjnefongjniaa
