/-
  The walks of layer 10: how many bytes a frame has; frames are written.
-/
import Derived.Test.YtmkjnefongjniaaF3
import Derived.Test.YtmkjnefongjniaaF1
namespace Go.Proofs.Ytmkjnefongjniaa
open Go Go.X
set_option maxRecDepth 100000 in
theorem fsize_spec (m : Fm) (hO : m.OK) (w0 : World) (hR : Reads w0 m.RA (ints .i64 (flat m.f.rs))) (hB : Reads w0 m.BA (ints .u8 m.f.bs)) : Does Try.prog 49 #[.agg (.int .i64 m.f.k :: (.int .i64 m.f.a :: (.int .i64 m.f.l :: (.slice m.RA m.f.rs.length m.rc :: (.slice m.BA m.f.bs.length m.bc :: (ints .u8 m.f.tok)))))).toArray] w0 [] (fun v G => v = .int .i64 (szE m.f) ∧ G = []) := by
  have htok := hO.1
  refine spec_of 9 Try.func49 rfl rfl rfl ?_
  refine W.seq ?_
  refine W.region ?_
  refine T.eff (e_box rfl rfl rfl rfl) (Wt.plain rfl) ?_
  rintro _ _ ⟨k1, rfl, rfl⟩
  change (_ : List Blk → Prop) [_]
  change (_ : List Blk → Prop) [⟨some k1, .int .i64 m.f.k :: (.int .i64 m.f.a :: (.int .i64 m.f.l :: (.slice m.RA m.f.rs.length m.rc :: (.slice m.BA m.f.bs.length m.bc :: (ints .u8 m.f.tok))))), 59, (0, 0)⟩]
  refine T.q (q_assign rfl rfl) (Wt.plain rfl) rfl rfl ?_
  refine T.nil ?_
  refine Ex.next ?_
  refine W.slots (L' := [(1, _)]) ⟨rfl, trivial⟩ ?_
  refine W.seq ?_
  refine W.seq ?_
  refine W.region ?_
  refine T.q (q_loadW (wd59.trans (congrArg some (by first | (simp; done) | (simp; omega)))) (R_blk 0 rfl) rfl rfl) (Wt.plain rfl) rfl rfl ?_
  refine T.eff (e_call enters47 rfl rfl (fun w hm => chk_at m hO w ((R_ext hR.ext) w hm)) rfl rfl) (Wt.plain rfl) ?_
  rintro _ _ ⟨_, _, ⟨rfl, rfl⟩, rfl, rfl⟩
  change (_ : List Blk → Prop) [_]
  refine T.q (q_neq rfl rfl rfl) (Wt.plain rfl) rfl rfl ?_
  refine T.nil ?_
  refine Ex.next ?_
  refine W.slots (L' := [(1, _), (5, _)]) ⟨rfl, rfl, trivial⟩ ?_
  refine W.cond _ rfl (fun hb2 => ?_) (fun hb2 => ?_)
  · replace hb2 := of_decide_eq_true hb2
    have hno : ¬ chkE m.f = 0 := by omega
    refine W.seq ?_
    refine W.region ?_
    refine T.q (q_assign rfl rfl) (Wt.plain rfl) rfl rfl ?_
    refine T.nil ?_
    refine Ex.next ?_
    refine W.less (L' := [(2, _)]) [false] ⟨rfl, trivial⟩ ?_
    change (_ : List Blk → Prop) []
    refine W.ret ?_
    refine Ex.then_ret ?_
    refine Ex.out1 [] rfl rfl ?_
    exact ⟨congrArg (Value.int .i64) (szE_no fun h => hno (chkE_zero.2 h)).symm, rfl⟩
  replace hb2 := of_decide_eq_false hb2
  have hno : chkE m.f = 0 := by omega
  have hok := chkE_zero.1 hno
  refine W.skip ?_
  refine Ex.next ?_
  refine W.slots (L' := [(1, _)]) ⟨rfl, trivial⟩ ?_
  refine W.seq ?_
  refine W.region ?_
  refine T.q (q_loadW (wd59.trans (congrArg some (by first | (simp; done) | (simp; omega)))) (R_blk 0 rfl) rfl rfl) (Wt.plain rfl) rfl rfl ?_
  refine T.eff (e_call enters60 rfl rfl (fun w hm => write_spec [] (n := 0) rfl [] none 0 rfl (by decide) m hok hO w rfl (((R_ext hR.ext) w hm).ext) (((R_ext hB.ext) w hm).ext)) rfl rfl) (Wt.plain rfl) ?_
  rintro _ _ ⟨_, _, ⟨k3, cap4, junk5, rfl, hc6, rfl⟩, rfl, rfl⟩
  change (_ : List Blk → Prop) [_, _]
  refine T.q (q_len sc22 rfl rfl) (Wt.plain rfl) rfl rfl ?_
  refine T.q (q_assign rfl rfl) (Wt.plain rfl) rfl rfl ?_
  refine T.nil ?_
  refine Ex.next ?_
  refine W.less (L' := [(2, _)]) [false, false] ⟨rfl, trivial⟩ ?_
  change (_ : List Blk → Prop) []
  refine W.ret ?_
  refine Ex.out1 [] rfl rfl ?_
  exact ⟨by rw [szE_yes (chkE_zero.1 hno), Nat.zero_add], rfl⟩
set_option maxRecDepth 100000 in
theorem enc_spec (ms : List Fm) (LA : Option Addr) (lc : Nat) (hlc : ms.length ≤ lc) (hMO : ∀ m ∈ ms, m.OK) (w0 : World) (hL : Reads w0 LA (fcs ms)) (hI : ∀ m ∈ ms, m.In w0) : Does Try.prog 44 #[.slice LA ms.length lc] w0 [] (fun v G => ∃ (nk : Option Nat) (cap : Nat) (junk : List Value), v = .tuple #[.slice (nk.map fun k => (⟨k, 0, none⟩ : Addr)) (encB (fsOf ms)).length cap, .int .i64 (encE (fsOf ms))] ∧ (encB (fsOf ms)).length + junk.length = cap ∧ G = [⟨nk, ints .u8 (encB (fsOf ms)) ++ junk, 5, (0, 0)⟩]) := by
  have htk : ∀ m ∈ ms, m.f.tok.length = 8 := fun m hm => (hMO m hm).1
  refine spec_of 27 Try.func44 rfl rfl rfl ?_
  refine W.seq ?_
  refine W.region ?_
  refine T.q (q_assign rfl rfl) (Wt.plain rfl) rfl rfl ?_
  refine T.q (q_assign rfl rfl) (Wt.plain rfl) rfl rfl ?_
  refine T.nil ?_
  refine Ex.next ?_
  refine W.slots (L' := [(0, _)]) ⟨rfl, trivial⟩ ?_
  refine W.seq ?_
  refine W.seq ?_
  refine W.region ?_
  refine T.q (q_move rfl rfl) (Wt.plain rfl) rfl rfl ?_
  refine T.q (q_len sc52 rfl rfl) (Wt.plain rfl) rfl rfl ?_
  refine T.q (q_gtr rfl rfl rfl) (Wt.plain rfl) rfl rfl ?_
  refine T.nil ?_
  refine Ex.next ?_
  refine W.slots (L' := [(0, _), (9, _)]) ⟨rfl, rfl, trivial⟩ ?_
  refine W.cond _ rfl (fun hb1 => ?_) (fun hb1 => ?_)
  · replace hb1 := of_decide_eq_true hb1
    refine W.seq ?_
    refine W.region ?_
    refine T.q (q_assign rfl rfl) (Wt.plain rfl) rfl rfl ?_
    refine T.q (q_assign rfl rfl) (Wt.plain rfl) rfl rfl ?_
    refine T.nil ?_
    refine Ex.next ?_
    refine W.slots (L' := [(2, _), (3, _)]) ⟨rfl, rfl, trivial⟩ ?_
    refine W.ret ?_
    refine Ex.then_ret ?_
    refine Ex.ghost 5 ?_
    refine Ex.out2 [true] rfl rfl rfl ?_
    have he : encE (fsOf ms) = 2 := (by first | exact encE_long (by first | (simp; done) | (simp; omega)) | exact encE_big (by first | (simp; done) | (simp; omega)) hof (by rw [← hz, ← hln]; omega))
    rw [he, encB_no (by rw [he]; decide)]
    exact ⟨none, 0, [], rfl, rfl, rfl⟩
  replace hb1 := of_decide_eq_false hb1
  refine W.skip ?_
  refine Ex.next ?_
  refine W.slots (L' := [(0, _)]) ⟨rfl, trivial⟩ ?_
  refine W.seq ?_
  refine W.region ?_
  refine T.q (q_assign rfl rfl) (Wt.plain rfl) rfl rfl ?_
  refine T.nil ?_
  refine Ex.next ?_
  refine W.slots (L' := [(0, _), (4, _)]) ⟨rfl, rfl, trivial⟩ ?_
  refine W.seq ?_
  refine W.seq ?_
  refine W.region ?_
  refine T.q (q_move rfl rfl) (Wt.plain rfl) rfl rfl ?_
  refine T.q (q_len sc52 rfl rfl) (Wt.plain rfl) rfl rfl ?_
  refine T.q (q_move rfl rfl) (Wt.plain rfl) rfl rfl ?_
  refine T.nil ?_
  refine Ex.next ?_
  refine W.slots (L' := [(4, _), (10, _), (11, _), (12, _)]) ⟨rfl, rfl, rfl, rfl, trivial⟩ ?_
  refine W.block ?_
  refine W.ghost 5 ?_
  change (_ : List Blk → Prop) [_]
  refine W.loop (α := Nat × Nat × List Int × Option Nat × Nat × List Value) (fun x_ => [(4, .slice (x_.2.2.2.1.map fun k => (⟨k, 0, none⟩ : Addr)) x_.2.1 x_.2.2.2.2.1), (10, .slice LA ms.length lc), (11, .int .i64 ((ms.length : Nat) : Int)), (12, .int .i64 ((x_.1 : Nat) : Int))]) (fun x_ => [⟨x_.2.2.2.1, ints .u8 x_.2.2.1 ++ x_.2.2.2.2.2, 5, (0, 0)⟩]) (fun x_ => x_.1 ≤ ms.length ∧ x_.2.2.1 = wrs ((fsOf ms).take x_.1) ∧ x_.2.1 = x_.2.2.1.length ∧ x_.2.1 + x_.2.2.2.2.2.length = x_.2.2.2.2.1 ∧ x_.2.1 ≤ 160 * x_.1 ∧ ∀ q, q < x_.1 → frOK (fmA ms q).f) (fun x_ => ms.length - x_.1) [true] (⟨0, 0, [], none, 0, []⟩) ⟨Nat.zero_le _, rfl, rfl, rfl, Nat.le_refl _, fun q hq => absurd hq (Nat.not_lt_zero q)⟩ ⟨rfl, rfl, rfl, rfl, trivial⟩ rfl ?_
  rintro ⟨i, ln, zs, nk, cq, jq⟩ hinv
  try dsimp only at hinv
  conv => rhs; dsimp only
  conv => arg -2; dsimp only
  obtain ⟨hi, hz, hln, hcq, hle, hall⟩ := hinv
  refine W.seq ?_
  refine W.region ?_
  refine T.q (q_lss rfl rfl rfl) (Wt.plain rfl) rfl rfl ?_
  refine T.nil ?_
  refine Ex.next ?_
  refine W.slots (L' := [(4, _), (10, _), (11, _), (12, _), (13, _)]) ⟨rfl, rfl, rfl, rfl, rfl, trivial⟩ ?_
  refine W.seq ?_
  refine W.cond _ rfl (fun hb2 => ?_) (fun hb2 => ?_)
  · replace hb2 := of_decide_eq_true hb2
    have him : i < ms.length := by omega
    have htki := htk _ (fmA_mem him)
    refine W.skip ?_
    refine Ex.next ?_
    refine W.slots (L' := [(4, _), (10, _), (11, _), (12, _)]) ⟨rfl, rfl, rfl, rfl, trivial⟩ ?_
    refine W.seq ?_
    refine W.block ?_
    refine W.seq ?_
    refine W.region ?_
    refine T.q (q_ixE sc52 i (R_ext hL.ext) rfl rfl rfl (by omega) (by omega) (by rw [fcs_length ms htk]; omega)) (Wt.plain rfl) rfl rfl ?_
    refine T.q (q_loadW (wd59.trans (congrArg some (by first | (simp; done) | (simp; omega)))) (R_elem (R_ext hL.ext) (i * 13) 13 (show ((fcs ms).drop (i * 13)).take 13 = .int .i64 ((fmA ms i).f.k) :: (.int .i64 ((fmA ms i).f.a) :: (.int .i64 ((fmA ms i).f.l) :: (.slice ((fmA ms i).RA) ((fmA ms i).f.rs.length) ((fmA ms i).rc) :: (.slice ((fmA ms i).BA) ((fmA ms i).f.bs.length) ((fmA ms i).bc) :: (ints .u8 ((fmA ms i).f.tok)))))) from fcs_get ms _ htk (by omega))) rfl rfl) (Wt.plain rfl) rfl rfl ?_
    refine T.eff (e_alloc ze59 rfl rfl rfl) (Wt.plain rfl) ?_
    rintro _ _ ⟨k3, rfl, rfl⟩
    change (_ : List Blk → Prop) [_, _]
    refine T.eff (e_storeA (wd59.trans (congrArg some (by first | (simp; done) | (simp; omega)))) 1 rfl rfl rfl rfl (by first | (simp; done) | (simp; omega)) (one_cons rfl (one_cons rfl (one_cons rfl (one_cons rfl (one_cons rfl (ints_one)))))) rfl) (Wt.plain rfl) ?_
    rintro _ _ ⟨rfl, rfl⟩
    change (_ : List Blk → Prop) [_, _]
    refine T.nil ?_
    refine Ex.next ?_
    refine W.slots (L' := [(4, _), (6, _), (10, _), (11, _), (12, _)]) ⟨rfl, rfl, rfl, rfl, rfl, trivial⟩ ?_
    refine W.seq ?_
    refine W.seq ?_
    refine W.region ?_
    refine T.q (q_loadW (wd59.trans (congrArg some (by first | (simp; done) | (simp; omega)))) (R_blk 1 rfl) rfl rfl) (Wt.plain rfl) rfl rfl ?_
    refine T.eff (e_call enters47 rfl rfl (fun w hm => chk_at (fmA ms i) (hMO _ (fmA_mem (show i < ms.length by omega))) w ((R_ext (hI _ (fmA_mem (show i < ms.length by omega))).1.ext) w hm)) rfl rfl) (Wt.plain rfl) ?_
    rintro _ _ ⟨_, _, ⟨rfl, rfl⟩, rfl, rfl⟩
    change (_ : List Blk → Prop) [_, _]
    refine T.q (q_neq rfl rfl rfl) (Wt.plain rfl) rfl rfl ?_
    refine T.nil ?_
    refine Ex.next ?_
    refine W.slots (L' := [(4, _), (6, _), (10, _), (11, _), (12, _), (18, _)]) ⟨rfl, rfl, rfl, rfl, rfl, rfl, trivial⟩ ?_
    refine W.cond _ rfl (fun hb4 => ?_) (fun hb4 => ?_)
    · replace hb4 := of_decide_eq_true hb4
      have hno : ¬ chkE (fmA ms i).f = 0 := by omega
      refine W.seq ?_
      refine W.region ?_
      refine T.q (q_assign rfl rfl) (Wt.plain rfl) rfl rfl ?_
      refine T.q (q_assign rfl rfl) (Wt.plain rfl) rfl rfl ?_
      refine T.nil ?_
      refine Ex.next ?_
      refine W.less (L' := [(2, _), (3, _)]) [true, false] ⟨rfl, rfl, trivial⟩ ?_
      change (_ : List Blk → Prop) [_]
      refine W.ret ?_
      refine Ex.then_ret ?_
      refine Ex.in_ret ?_
      refine Ex.then_ret ?_
      refine Ex.then_ret ?_
      refine Ex.in_ret ?_
      refine Ex.then_ret ?_
      refine Ex.ghost 5 ?_
      refine Ex.out2 [false, true] rfl rfl rfl ?_
      have he : encE (fsOf ms) = 100 := (encE_bad (f := (fmA ms i).f) (by first | (simp; done) | (simp; omega)) (fsOf_mem him) (fun g => hno (chkE_zero.2 g)))
      rw [he, encB_no (by rw [he]; decide)]
      exact ⟨none, 0, [], rfl, rfl, rfl⟩
    replace hb4 := of_decide_eq_false hb4
    have hno : chkE (fmA ms i).f = 0 := by omega
    have hok := chkE_zero.1 hno
    have hwl := wr_le hok htki
    refine W.skip ?_
    refine Ex.next ?_
    refine W.slots (L' := [(4, _), (6, _), (10, _), (11, _), (12, _)]) ⟨rfl, rfl, rfl, rfl, rfl, trivial⟩ ?_
    refine W.region ?_
    refine T.q (q_move rfl rfl) (Wt.plain rfl) rfl rfl ?_
    refine T.q (q_loadW (wd59.trans (congrArg some (by first | (simp; done) | (simp; omega)))) (R_blk 1 rfl) rfl rfl) (Wt.plain rfl) rfl rfl ?_
    refine T.eff (e_callN [false, true] enters60 rfl rfl (hxO rfl rfl) (fun w hm => write_spec zs (by first | omega | (simp; done) | (simp [-List.getD_eq_getElem?_getD]; omega) | (simp at *; omega) | rfl) jq nk _ (by first | omega | (simp; done) | (simp; omega) | (simp at *; omega)) (by first | omega | (simp; done) | (simp; omega) | (simp at *; omega)) (fmA ms i) hok (hMO _ (fmA_mem (show i < ms.length by omega))) w (hm.at 0 rfl) (Ext.own ((hI _ (fmA_mem (show i < ms.length by omega))).1.ext) hm 0 rfl) (Ext.own ((hI _ (fmA_mem (show i < ms.length by omega))).2.ext) hm 0 rfl)) rfl rfl) (Wt.plain rfl) ?_
    rintro _ _ ⟨_, _, ⟨k5, cap6, junk7, rfl, hc8, rfl⟩, rfl, rfl⟩
    change (_ : List Blk → Prop) [_, _]
    refine T.q (q_assign rfl rfl) (Wt.plain rfl) rfl rfl ?_
    refine T.nil ?_
    refine Ex.in_normal ?_
    refine Ex.next ?_
    refine W.less (L' := [(4, _), (10, _), (11, _), (12, _)]) [false, true] ⟨rfl, rfl, rfl, rfl, trivial⟩ ?_
    change (_ : List Blk → Prop) [_]
    refine W.region ?_
    refine T.q (q_addi rfl rfl rfl (by omega) (by omega)) (Wt.plain rfl) rfl rfl ?_
    refine T.q (q_move rfl rfl) (Wt.plain rfl) rfl rfl ?_
    refine T.nil ?_
    exact Ex.again [true] (⟨i + 1, (ln + (wr (fmA ms i).f).length), zs ++ wr (fmA ms i).f, k5, cap6, junk7⟩ : Nat × Nat × List Int × Option Nat × Nat × List Value) (by dsimp only; omega) ⟨by dsimp only; omega, (by dsimp only; rw [wrs_take him, hz]), (by dsimp only; rw [List.length_append, hln]), by dsimp only; omega, by dsimp only; omega, fun q hq => (Nat.lt_or_eq_of_le (Nat.le_of_lt_succ hq)).elim (hall q) fun e => e ▸ hok⟩ ⟨rfl, rfl, rfl, rfl, trivial⟩ (by first | (dsimp only [pick]; done) | rfl)
  replace hb2 := of_decide_eq_false hb2
  obtain rfl : i = ms.length := by omega
  rw [List.take_of_length_le (by simp)] at hz
  have hof := fsOf_all hall
  refine W.exit ?_
  refine Ex.then_exit ?_
  refine Ex.then_exit ?_
  refine Ex.in_here ?_
  refine Ex.next ?_
  refine W.slots (L' := [(4, _)]) ⟨rfl, trivial⟩ ?_
  refine W.seq ?_
  refine W.seq ?_
  refine W.region ?_
  refine T.q (q_move rfl rfl) (Wt.plain rfl) rfl rfl ?_
  refine T.q (q_len sc22 rfl rfl) (Wt.plain rfl) rfl rfl ?_
  refine T.q (q_gtr rfl rfl rfl) (Wt.plain rfl) rfl rfl ?_
  refine T.nil ?_
  refine Ex.next ?_
  refine W.slots (L' := [(4, _), (25, _)]) ⟨rfl, rfl, trivial⟩ ?_
  refine W.cond _ rfl (fun hb9 => ?_) (fun hb9 => ?_)
  · replace hb9 := of_decide_eq_true hb9
    refine W.seq ?_
    refine W.region ?_
    refine T.q (q_assign rfl rfl) (Wt.plain rfl) rfl rfl ?_
    refine T.q (q_assign rfl rfl) (Wt.plain rfl) rfl rfl ?_
    refine T.nil ?_
    refine Ex.next ?_
    refine W.slots (L' := [(2, _), (3, _)]) ⟨rfl, rfl, trivial⟩ ?_
    refine W.ret ?_
    refine Ex.then_ret ?_
    refine Ex.ghost 5 ?_
    refine Ex.out2 [false, true] rfl rfl rfl ?_
    have he : encE (fsOf ms) = 2 := (by first | exact encE_long (by first | (simp; done) | (simp; omega)) | exact encE_big (by first | (simp; done) | (simp; omega)) hof (by rw [← hz, ← hln]; omega))
    rw [he, encB_no (by rw [he]; decide)]
    exact ⟨none, 0, [], rfl, rfl, rfl⟩
  replace hb9 := of_decide_eq_false hb9
  refine W.skip ?_
  refine Ex.next ?_
  refine W.slots (L' := [(4, _)]) ⟨rfl, trivial⟩ ?_
  refine W.seq ?_
  refine W.region ?_
  refine T.q (q_move rfl rfl) (Wt.plain rfl) rfl rfl ?_
  refine T.q (q_assign rfl rfl) (Wt.plain rfl) rfl rfl ?_
  refine T.q (q_assign rfl rfl) (Wt.plain rfl) rfl rfl ?_
  refine T.nil ?_
  refine Ex.next ?_
  refine W.slots (L' := [(2, _), (3, _)]) ⟨rfl, rfl, trivial⟩ ?_
  refine W.ret ?_
  refine Ex.out2 [true] rfl rfl rfl ?_
  subst hz
  subst hln
  have he := encE_ok (fs := fsOf ms) (by first | (simp; done) | (simp; omega)) hof (by omega)
  rw [he, encB_ok he]
  exact ⟨nk, cq, jq, rfl, hcq, rfl⟩
theorem enc_at (ms : List Fm) {n : Nat} (hn : ms.length = n) (LA : Option Addr) (lc : Nat) (hlc : n ≤ lc) (hMO : ∀ m ∈ ms, m.OK) {fs : List Frm} (hfs : fsOf ms = fs) (w0 : World) (hL : Reads w0 LA (fcs ms)) (hI : ∀ m ∈ ms, m.In w0) : Does Try.prog 44 #[.slice LA n lc] w0 [] (fun v G => ∃ (nk : Option Nat) (cap : Nat) (junk : List Value), v = .tuple #[.slice (nk.map fun k => (⟨k, 0, none⟩ : Addr)) (encB fs).length cap, .int .i64 (encE fs)] ∧ (encB fs).length + junk.length = cap ∧ G = [⟨nk, ints .u8 (encB fs) ++ junk, 5, (0, 0)⟩]) := by
  subst hfs
  subst hn
  exact enc_spec ms LA lc hlc hMO w0 hL hI
end Go.Proofs.Ytmkjnefongjniaa
