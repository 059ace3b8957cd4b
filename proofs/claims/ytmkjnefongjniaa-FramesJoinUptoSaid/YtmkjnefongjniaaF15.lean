/-
  The walks of layer 10: what is caught; bytes are read as frames.
-/
import Derived.Test.YtmkjnefongjniaaF13
namespace Go.Proofs.Ytmkjnefongjniaa
open Go Go.X
set_option maxRecDepth 100000 in
theorem catch_part {Q : Exit → Act → World → Prop} (lk ek : Nat) (LA : Option Addr) (ln lc : Nat) (e0 : Int) (e : Int) (w0 : World) (hQ : ∀ (a : Act) (w : World), a.defers = [] → Mem w0 [lk, ek] [⟨some lk, [.slice none 0 0], 52, (0, 0)⟩, ⟨some ek, [.int .i64 e], 24, (0, 0)⟩] w → Q .normal a w) : W Try.prog [] 13 w0 [lk, ek] Q (seq2 (Try.f62.body.getD .skip)) [(0, .pointer (some ⟨lk, 0, none⟩)), (1, .pointer (some ⟨ek, 0, none⟩)), (5, dieV e)] [⟨some lk, [.slice LA ln lc], 52, (0, 0)⟩, ⟨some ek, [.int .i64 e0], 24, (0, 0)⟩] := by
  refine W.block ?_
  refine W.seq ?_
  refine W.region ?_
  refine T.q (q_eqlIN ih20 rfl rfl) (Wt.plain rfl) rfl rfl ?_
  refine T.nil ?_
  refine Ex.next ?_
  refine W.slots (L' := [(0, _), (1, _), (5, _), (7, _)]) ⟨rfl, rfl, rfl, rfl, trivial⟩ ?_
  refine W.condF rfl ?_
  refine W.seq ?_
  refine W.region ?_
  refine T.q (q_assert st78 rfl rfl) (Wt.plain rfl) rfl rfl ?_
  refine T.q (q_extract rfl rfl rfl) (Wt.plain rfl) rfl rfl ?_
  refine T.q (q_extract rfl rfl rfl) (Wt.plain rfl) rfl rfl ?_
  refine T.nil ?_
  refine Ex.next ?_
  refine W.slots (L' := [(0, _), (1, _), (5, _), (9, _), (10, _)]) ⟨rfl, rfl, rfl, rfl, rfl, trivial⟩ ?_
  refine W.condT rfl ?_
  refine W.seq ?_
  refine W.region ?_
  refine T.eff (e_alloc ze78 rfl rfl rfl) (Wt.plain rfl) ?_
  rintro _ _ ⟨k1, rfl, rfl⟩
  change (_ : List Blk → Prop) [_, _, _]
  refine T.eff (e_storeA wd78 2 rfl rfl rfl rfl (by first | omega | (simp; done) | (simp [-List.getD_eq_getElem?_getD]; omega) | (simp at *; omega) | rfl) (by simp [Value.oneCell']) rfl) (Wt.plain rfl) ?_
  rintro _ _ ⟨rfl, rfl⟩
  change (_ : List Blk → Prop) [_, _, _]
  refine T.nil ?_
  refine Ex.next ?_
  refine W.slots (L' := [(0, _), (1, _), (3, _)]) ⟨rfl, rfl, rfl, trivial⟩ ?_
  refine W.drawP 3 [false, true, true] (by kernel_rfl) ?_
  refine D.take 0 rfl (by kernel_rfl) (S_sub ((((List.Sublist.slnil).cons_cons _).cons_cons _).cons _)) (q_fld fl78_0 rfl rfl) (Wt.plain rfl) rfl rfl ?_
  refine D.take 1 rfl (by kernel_rfl) (S_sub ((((List.Sublist.slnil).cons_cons _).cons_cons _).cons _)) (q_load1 ss24 1 rfl rfl rfl rfl) (Wt.plain rfl) rfl rfl ?_
  refine D.one 2 (by kernel_rfl) ?_
  refine Up.eff rfl (e_store1 ss52 0 rfl rfl rfl rfl (by simp) rfl rfl) (Wt.plain rfl) ?_
  rintro _ _ ⟨rfl, rfl⟩
  refine ⟨fun _ => (S_sub ((((List.Sublist.slnil).cons_cons _).cons_cons _).cons _)), ?_⟩
  change (_ : List Blk → Prop) [_, _, _]
  refine D.one 3 (by kernel_rfl) ?_
  refine Up.eff rfl (e_store1 ss24 1 rfl rfl rfl rfl (by simp) rfl rfl) (Wt.plain rfl) ?_
  rintro _ _ ⟨rfl, rfl⟩
  refine ⟨fun h => absurd h (by decide), ?_⟩
  change (_ : List Blk → Prop) [_, _, _]
  refine D.done (by kernel_rfl) ?_
  refine Ex.in_normal ?_
  exact fun a w hf hm => hQ a w hf.defers (by have h2 := hm.sub (pick_sub [true, true, false] _); exact h2)
set_option maxRecDepth 100000 in
theorem idle_part {Q : Exit → Act → World → Prop} (lk ek : Nat) (LA : Option Addr) (ln lc : Nat) (e0 : Int) (w0 : World) (hQ : ∀ (a : Act) (w : World), a.defers = [] → Mem w0 [lk, ek] [⟨some lk, [.slice LA ln lc], 52, (0, 0)⟩, ⟨some ek, [.int .i64 e0], 24, (0, 0)⟩] w → Q .normal a w) : W Try.prog [] 13 w0 [lk, ek] Q (seq2 (Try.f62.body.getD .skip)) [(0, .pointer (some ⟨lk, 0, none⟩)), (1, .pointer (some ⟨ek, 0, none⟩)), (5, .nilIface)] [⟨some lk, [.slice LA ln lc], 52, (0, 0)⟩, ⟨some ek, [.int .i64 e0], 24, (0, 0)⟩] := by
  refine W.block ?_
  refine W.seq ?_
  refine W.region ?_
  refine T.q (q_eqlNN ih20 rfl rfl) (Wt.plain rfl) rfl rfl ?_
  refine T.nil ?_
  refine Ex.next ?_
  refine W.slots (L' := [(0, _), (1, _), (5, _), (7, _)]) ⟨rfl, rfl, rfl, rfl, trivial⟩ ?_
  refine W.condT rfl ?_
  refine W.region ?_
  refine T.q (q_assign rfl rfl) (Wt.plain rfl) rfl rfl ?_
  refine T.nil ?_
  refine Ex.in_normal ?_
  exact fun a w hf hm => hQ a w hf.defers (by have h2 := hm.sub (pick_sub [true, true] _); exact h2)
theorem catch_spec (lk ek : Nat) (LA : Option Addr) (ln lc : Nat) (e0 e : Int) (w0 : World) (hl : (⟨some lk, [.slice LA ln lc], 52, (0, 0)⟩ : Blk).here w0) (he : (⟨some ek, [.int .i64 e0], 24, (0, 0)⟩ : Blk).here w0) (hne : some ek ≠ some lk) :
    CallsD Try.prog 62 #[.pointer (some ⟨lk, 0, none⟩), .pointer (some ⟨ek, 0, none⟩)] (.panicking (entry (dieV e))) w0 fun en u' w' =>
      en = .returned (.tuple #[]) ∧ u' = .panicking [{ v := dieV e, recovered := true }] ∧ Mem w0 [lk, ek] [⟨some lk, [.slice none 0 0], 52, (0, 0)⟩, ⟨some ek, [.int .i64 e], 24, (0, 0)⟩] w' := by
  refine callsD_of_wpS Try.func62 rfl fun c₀ cs hu => ?_
  apply wpS_seq
  apply wpS_region
  simp [wpOpsS, go_sem, recoverD, hu, entry, dieV, Try.ntmps62, Exit.thenS]
  refine wpS_of_wp ?_
  refine catch_part lk ek LA ln lc e0 e w0 (fun a w hd hm => ?_) _ _ ⟨rfl, rfl, ?_⟩ (Mem.own2 rfl rfl hl he hne)
  · refine ⟨hd, .panicking [{ v := dieV e, recovered := true }], rfl, .tuple #[], ?_, rfl, rfl, hm⟩
    exact results_none rfl _ _ _
  · intro t v h
    rcases t with _ | _ | _ | _ | _ | _ | t
    · obtain rfl := Option.some.inj (show some _ = some v from h); rfl
    · obtain rfl := Option.some.inj (show some _ = some v from h); rfl
    · cases (show (none : Option Value) = some v from h)
    · cases (show (none : Option Value) = some v from h)
    · cases (show (none : Option Value) = some v from h)
    · obtain rfl := Option.some.inj (show some _ = some v from h); rfl
    · cases (show (none : Option Value) = some v from h)
theorem idle_spec (lk ek : Nat) (LA : Option Addr) (ln lc : Nat) (e0 : Int) (w0 : World) (hl : (⟨some lk, [.slice LA ln lc], 52, (0, 0)⟩ : Blk).here w0) (he : (⟨some ek, [.int .i64 e0], 24, (0, 0)⟩ : Blk).here w0) (hne : some ek ≠ some lk) :
    CallsD Try.prog 62 #[.pointer (some ⟨lk, 0, none⟩), .pointer (some ⟨ek, 0, none⟩)] .returning w0 fun en u' w' => en = .returned (.tuple #[]) ∧ u' = .returning ∧ Mem w0 [lk, ek] [⟨some lk, [.slice LA ln lc], 52, (0, 0)⟩, ⟨some ek, [.int .i64 e0], 24, (0, 0)⟩] w' := by
  refine callsD_of_wpS Try.func62 rfl fun c₀ cs hu => ?_
  apply wpS_seq
  apply wpS_region
  simp [wpOpsS, go_sem, recoverD, hu, Try.ntmps62, Exit.thenS]
  refine wpS_of_wp ?_
  refine idle_part lk ek LA ln lc e0 w0 (fun a w hd hm => ?_) _ _ ⟨rfl, rfl, ?_⟩ (Mem.own2 rfl rfl hl he hne)
  · refine ⟨hd, .returning, ?_, .tuple #[], ?_, rfl, rfl, hm⟩
    · cases c₀; simp_all
    · exact results_none rfl _ _ _
  · intro t v h
    rcases t with _ | _ | _ | _ | _ | _ | t
    · obtain rfl := Option.some.inj (show some _ = some v from h); rfl
    · obtain rfl := Option.some.inj (show some _ = some v from h); rfl
    · cases (show (none : Option Value) = some v from h)
    · cases (show (none : Option Value) = some v from h)
    · cases (show (none : Option Value) = some v from h)
    · obtain rfl := Option.some.inj (show some _ = some v from h); rfl
    · cases (show (none : Option Value) = some v from h)
set_option maxRecDepth 100000 in
theorem dec_spec (b : List Int) (BA : Option Addr) (bc : Nat) (hbc : b.length ≤ bc) (hbl : b.length ≤ 140737488354000) (hbb : Bytes b) (w0 : World) (hB : Reads w0 BA (ints .u8 b)) : Does Try.prog 46 #[.slice BA b.length bc] w0 [] (fun v G => (∃ (ms : List Fm) (no : Option Nat) (cap : Nat) (junk : List Value) (Bs : List Blk), dec b = .ok (fsOf ms) ∧ (∀ m ∈ ms, m.OK ∧ frOK m.f) ∧ ms.length ≤ cap ∧ v = .tuple #[.slice (no.map fun k => (⟨k, 0, none⟩ : Addr)) ms.length cap, .int .i64 0] ∧ FrsIn Bs ms ∧ G = ⟨no, fcs ms ++ junk, 59, (0, 0)⟩ :: Bs) ∨ (∃ e : Int, dec b = .error e ∧ v = .tuple #[.slice none 0 0, .int .i64 e] ∧ G = [])) := by
  refine spec_ofD 28 Try.func46 rfl rfl rfl ?_
  refine W.seq ?_
  refine W.region ?_
  refine T.eff (e_alloc ze52 rfl rfl rfl) (Wt.plain rfl) ?_
  rintro _ _ ⟨k1, rfl, rfl⟩
  change (_ : List Blk → Prop) [_]
  refine T.eff (e_alloc ze24 rfl rfl rfl) (Wt.plain rfl) ?_
  rintro _ _ ⟨k2, rfl, rfl⟩
  change (_ : List Blk → Prop) [_, _]
  refine T.nil ?_
  refine Ex.next ?_
  refine W.slots (L' := [(0, _), (2, _), (3, _)]) ⟨rfl, rfl, rfl, trivial⟩ ?_
  refine W.seq ?_
  refine W.region ?_
  refine T.q (q_func (first := []) rfl rfl rfl) (Wt.plain rfl) rfl rfl ?_
  refine T.defer rfl rfl (Wt.plain rfl) rfl ?_
  refine T.nil ?_
  refine Ex.next ?_
  refine W.slots (L' := [(0, _), (2, _), (3, _)]) ⟨rfl, rfl, rfl, trivial⟩ ?_
  refine W.seq ?_
  refine W.seq ?_
  refine W.region ?_
  refine T.q (q_move rfl rfl) (Wt.plain rfl) rfl rfl ?_
  refine T.q (q_len sc22 rfl rfl) (Wt.plain rfl) rfl rfl ?_
  refine T.q (q_gtr rfl rfl rfl) (Wt.plain rfl) rfl rfl ?_
  refine T.nil ?_
  refine Ex.next ?_
  refine W.slots (L' := [(0, _), (2, _), (3, _), (8, _)]) ⟨rfl, rfl, rfl, rfl, trivial⟩ ?_
  refine W.cond _ rfl (fun hb3 => ?_) (fun hb3 => ?_)
  · replace hb3 := of_decide_eq_true hb3
    refine W.seq ?_
    refine W.region ?_
    refine T.eff (e_store1 ss52 0 rfl rfl rfl rfl (by simp) rfl rfl) (Wt.plain rfl) ?_
    rintro _ _ ⟨rfl, rfl⟩
    change (_ : List Blk → Prop) [_, _]
    refine T.eff (e_store1 ss24 1 rfl rfl rfl rfl (by simp) rfl rfl) (Wt.plain rfl) ?_
    rintro _ _ ⟨rfl, rfl⟩
    change (_ : List Blk → Prop) [_, _]
    refine T.nil ?_
    refine Ex.next ?_
    refine W.slots (L' := [(2, _), (3, _)]) ⟨rfl, rfl, trivial⟩ ?_
    refine W.ret ?_
    refine Ex.then_ret ?_
    refine Ex.leaveR [false, false] 0 1 enters62 (hx2 (no := some k2) rfl rfl rfl) (fun w hm => idle_spec k1 k2 none 0 0 2 w (hm.at 0 rfl) (hm.at 1 rfl) (hm.neO 0 1 (by decide) rfl rfl rfl)) rfl ss52 ss24 rfl rfl rfl rfl ?_
    exact .inr ⟨_, by rw [dec, if_pos (by omega)], rfl, rfl⟩
  replace hb3 := of_decide_eq_false hb3
  refine W.skip ?_
  refine Ex.next ?_
  refine W.slots (L' := [(0, _), (2, _), (3, _)]) ⟨rfl, rfl, rfl, trivial⟩ ?_
  refine W.seq ?_
  refine W.region ?_
  refine T.q (q_move rfl rfl) (Wt.plain rfl) rfl rfl ?_
  refine T.eff (e_call enters54 rfl rfl (fun w hm => clone_spec b _ _ (by first | omega | (simp; done) | (simp; omega) | (simp at *; omega)) (by first | omega | (simp; done) | (simp; omega) | (simp at *; omega)) w ((R_ext hB.ext) w hm) (by first | omega | (simp; done) | (simp [-List.getD_eq_getElem?_getD]; omega) | (simp at *; omega) | rfl)) rfl rfl) (Wt.plain rfl) ?_
  rintro _ _ ⟨_, _, ⟨k4, cap5, junk6, rfl, hc7, hc8, rfl⟩, rfl, rfl⟩
  change (_ : List Blk → Prop) [_, _, _]
  refine T.q (q_buildP (cells := [.slice (k4.map fun k => (⟨k, 0, none⟩ : Addr)) b.length cap5]) bp81 ze81 rfl rfl ⟨_, _, [.slice (k4.map fun k => (⟨k, 0, none⟩ : Addr)) b.length cap5], _, rfl, rfl, rfl, (Nat.le_of_ble_eq_true rfl), rfl, rfl⟩) (Wt.plain rfl) rfl rfl ?_
  refine T.eff (e_box rfl rfl rfl rfl) (Wt.plain rfl) ?_
  rintro _ _ ⟨k9, rfl, rfl⟩
  change (_ : List Blk → Prop) [_, _, _, _]
  change (_ : List Blk → Prop) [_, _, _, ⟨some k9, [.slice (k4.map fun k => (⟨k, 0, none⟩ : Addr)) b.length cap5], 81, (0, 0)⟩]
  refine T.q (q_assign rfl rfl) (Wt.plain rfl) rfl rfl ?_
  refine T.nil ?_
  refine Ex.next ?_
  refine W.slots (L' := [(2, _), (3, _), (4, _)]) ⟨rfl, rfl, rfl, trivial⟩ ?_
  refine W.seq ?_
  refine W.block ?_
  refine W.ghost 59 ?_
  change (_ : List Blk → Prop) [_, _, _, _, _]
  refine W.last 3 rfl ?_
  change (_ : List Blk → Prop) [_, _, _, _, _]
  refine W.last 2 rfl ?_
  change (_ : List Blk → Prop) [_, _, _, _, _]
  refine W.loop (α := Nat × List Fm × List Int × Option Addr × Nat × Blk × Option Nat × Nat × List Value × List Blk) (fun x_ => [(2, .pointer (some ⟨k1, 0, none⟩)), (3, .pointer (some ⟨k2, 0, none⟩)), (4, .pointer (some ⟨k9, 0, none⟩))]) (fun x_ => (⟨some k1, [.slice (x_.2.2.2.2.2.2.1.map fun k => (⟨k, 0, none⟩ : Addr)) x_.1 x_.2.2.2.2.2.2.2.1], 52, (0, 0)⟩ :: ⟨some k2, [.int .i64 0], 24, (0, 0)⟩ :: ⟨x_.2.2.2.2.2.2.1, fcs x_.2.1 ++ x_.2.2.2.2.2.2.2.2.1, 59, (0, 0)⟩ :: ⟨some k9, [.slice x_.2.2.2.1 x_.2.2.1.length x_.2.2.2.2.1], 81, (0, 0)⟩ :: x_.2.2.2.2.2.1 :: x_.2.2.2.2.2.2.2.2.2)) (fun x_ => x_.1 = x_.2.1.length ∧ dec b = pAll (16 - x_.1) (fsOf x_.2.1) x_.2.2.1 ∧ x_.1 ≤ 16 ∧ (∀ m ∈ x_.2.1, m.OK ∧ frOK m.f) ∧ Bytes x_.2.2.1 ∧ x_.2.2.1.length ≤ 256 ∧ RdB x_.2.2.2.2.2.1 x_.2.2.2.1 x_.2.2.1 ∧ x_.2.2.1.length ≤ x_.2.2.2.2.1 ∧ (fcs x_.2.1 ++ x_.2.2.2.2.2.2.2.2.1).length = x_.2.2.2.2.2.2.2.1 * 13 ∧ FrsIn (x_.2.2.2.2.2.1 :: x_.2.2.2.2.2.2.2.2.2) x_.2.1) (fun x_ => x_.2.2.1.length) [true, true, true, true, true] (⟨0, [], b, (k4.map fun k => (⟨k, 0, none⟩ : Addr)), cap5, ⟨k4, ints .u8 b ++ junk6, 5, (0, 0)⟩, none, 0, [], []⟩) ⟨rfl, (by rw [dec, if_neg (by omega)]; rfl), Nat.zero_le _, (fun m hm => by cases hm), hbb, (by dsimp only; omega), RdB.own, (by dsimp only; omega), rfl, (fun w hw m hm => by cases hm)⟩ ⟨rfl, rfl, rfl, trivial⟩ rfl ?_
  rintro ⟨i, ms, bb, AA, cc, cb, no, rq, jq, Bs⟩ hinv
  try dsimp only at hinv
  conv => rhs; dsimp only
  conv => arg -2; dsimp only
  obtain ⟨him, hdec, hi, hok, hby, hbb2, hrd, hcc, hrq, hin⟩ := hinv
  refine W.seq ?_
  refine W.seq ?_
  refine W.region ?_
  refine T.q (q_move rfl rfl) (Wt.plain rfl) rfl rfl ?_
  refine T.q (q_nil rfl rfl) (Wt.plain rfl) rfl rfl ?_
  refine T.q (q_fld fl81_0 rfl rfl) (Wt.plain rfl) rfl rfl ?_
  refine T.q (q_load1 ss22 3 rfl rfl rfl rfl) (Wt.plain rfl) rfl rfl ?_
  refine T.q (q_len sc22 rfl rfl) (Wt.plain rfl) rfl rfl ?_
  refine T.q (q_gtr rfl rfl rfl) (Wt.plain rfl) rfl rfl ?_
  refine T.nil ?_
  refine Ex.next ?_
  refine W.slots (L' := [(2, _), (3, _), (4, _), (18, _)]) ⟨rfl, rfl, rfl, rfl, trivial⟩ ?_
  refine W.cond _ rfl (fun hb10 => ?_) (fun hb10 => ?_)
  · replace hb10 := of_decide_eq_true hb10
    have hne : bb ≠ [] := fun e => by have := congrArg List.length e; simp only [List.length_nil] at this; omega
    refine W.skip ?_
    refine Ex.next ?_
    refine W.slots (L' := [(2, _), (3, _), (4, _)]) ⟨rfl, rfl, rfl, trivial⟩ ?_
    refine W.block ?_
    refine W.seq ?_
    refine W.seq ?_
    refine W.region ?_
    refine T.q (q_load1 ss52 0 rfl rfl rfl rfl) (Wt.plain rfl) rfl rfl ?_
    refine T.q (q_len sc52 rfl rfl) (Wt.plain rfl) rfl rfl ?_
    refine T.q (q_eql rfl rfl rfl) (Wt.plain rfl) rfl rfl ?_
    refine T.nil ?_
    refine Ex.next ?_
    refine W.slots (L' := [(2, _), (3, _), (4, _), (21, _)]) ⟨rfl, rfl, rfl, rfl, trivial⟩ ?_
    refine W.cond _ rfl (fun hb11 => ?_) (fun hb11 => ?_)
    · replace hb11 := of_decide_eq_true hb11
      refine W.seq ?_
      refine W.region ?_
      refine T.eff (e_store1 ss52 0 rfl rfl rfl rfl (by simp) rfl rfl) (Wt.plain rfl) ?_
      rintro _ _ ⟨rfl, rfl⟩
      change (_ : List Blk → Prop) (_ :: _ :: _ :: _ :: _ :: Bs)
      refine T.eff (e_store1 ss24 1 rfl rfl rfl rfl (by simp) rfl rfl) (Wt.plain rfl) ?_
      rintro _ _ ⟨rfl, rfl⟩
      change (_ : List Blk → Prop) (_ :: _ :: _ :: _ :: _ :: Bs)
      refine T.nil ?_
      refine Ex.next ?_
      refine W.slots (L' := [(2, _), (3, _)]) ⟨rfl, rfl, trivial⟩ ?_
      refine W.ret ?_
      refine Ex.then_ret ?_
      refine Ex.in_ret ?_
      refine Ex.then_ret ?_
      refine Ex.in_ret ?_
      refine Ex.then_ret ?_
      refine Ex.sub (F' := [_, _]) two_sub ?_
      refine Ex.leaveR [false, false] 0 1 enters62 (hx2 (no := some k2) rfl rfl rfl) (fun w hm => idle_spec k1 k2 none 0 0 2 w (hm.at 0 rfl) (hm.at 1 rfl) (hm.neO 0 1 (by decide) rfl rfl rfl)) rfl ss52 ss24 rfl rfl rfl rfl ?_
      exact .inr ⟨_, by rw [hdec, show 16 - i = 0 by omega]; exact pAll_full _ hne, rfl, rfl⟩
    replace hb11 := of_decide_eq_false hb11
    refine W.skip ?_
    refine Ex.next ?_
    refine W.slots (L' := [(2, _), (3, _), (4, _)]) ⟨rfl, rfl, rfl, trivial⟩ ?_
    refine W.draw0 (by kernel_rfl) ?_
    refine D0.two 0 1 (by kernel_rfl) ?_ ?_
    ·
      refine Up0.q rfl (q_load1 ss52 0 rfl rfl rfl rfl) (Wt.plain rfl) rfl rfl ?_
      refine D0.one 1 (by kernel_rfl) ?_
      refine Up0.q rfl (q_move rfl rfl) (Wt.plain rfl) rfl rfl ?_
      refine D0.one 2 (by kernel_rfl) ?_
      refine Up0.effE rfl (e_callE [true, true, true, false, false] enters63 rfl rfl (hx2 rfl rfl rfl) (fun w hm => frame_spec bb rfl AA cc k9 cb hby hcc (by omega) (by omega) hrd w (hm.at 3 rfl) (hm.at 4 rfl) (hm.neO 3 4 (by decide) rfl rfl rfl)) rfl rfl) (Wt.plain rfl) ?_ ?_
      ·
        rintro _ _ ⟨_, _, ⟨q, b24, A24, c24, cb24, Gs, hpf, hqo, hfo, hy24, hl24, rfl, hr24, hc24, hfi, hcm, rfl⟩, rfl, rfl⟩
        refine D0.perm perm3 ?_
        change (_ : List Blk → Prop) (_ :: _ :: _ :: _ :: _ :: (Gs ++ Bs))
        have htq := hqo.1
        refine D0.one 3 (by kernel_rfl) ?_
        refine Up0.eff rfl (e_litS1 sc52 ze59 (.int .i64 q.f.k :: (.int .i64 q.f.a :: (.int .i64 q.f.l :: (.slice q.RA q.f.rs.length q.rc :: (.slice q.BA q.f.bs.length q.bc :: (ints .u8 q.f.tok)))))) rfl rfl (by first | (simp; done) | (simp; omega)) rfl rfl rfl) (Wt.plain rfl) ?_
        rintro _ _ ⟨k12, rfl, rfl⟩
        refine D0.perm List.perm_append_comm ?_
        change (_ : List Blk → Prop) (_ :: _ :: _ :: _ :: _ :: _ :: (Gs ++ Bs))
        refine D0.one 4 (by kernel_rfl) ?_
        refine Up0.eff rfl (e_appendS sc52 ze59 rfl (by decide) 3 (fcs ms) jq (.int .i64 q.f.k :: (.int .i64 q.f.a :: (.int .i64 q.f.l :: (.slice q.RA q.f.rs.length q.rc :: (.slice q.BA q.f.bs.length q.bc :: (ints .u8 q.f.tok)))))) (R_blk 0 rfl) rfl rfl rfl rfl (by rw [fcs_length ms (fun m hm => (hok m hm).1.1)]; omega) hrq (by first | (simp; done) | (simp; omega)) q.cells_one (by decide) (by omega) (by omega) rfl rfl) (Wt.plain rfl) ?_
        rintro _ _ ⟨k13, cap14, junk15, hap, hc16, rfl, rfl⟩
        change (_ : List Blk → Prop) (_ :: _ :: _ :: _ :: _ :: _ :: (Gs ++ Bs))
        have efl : fcs ms ++ .int .i64 q.f.k :: (.int .i64 q.f.a :: (.int .i64 q.f.l :: (.slice q.RA q.f.rs.length q.rc :: (.slice q.BA q.f.bs.length q.bc :: (ints .u8 q.f.tok))))) = fcs (ms ++ [q]) := by rw [fcs_app, fcs_sing]; rfl
        rw [efl] at hap
        conv => rhs; rw [efl]
        refine D0.one 5 (by kernel_rfl) ?_
        refine Up0.eff rfl (e_store1 ss52 1 rfl rfl rfl rfl (by simp) rfl rfl) (Wt.plain rfl) ?_
        rintro _ _ ⟨rfl, rfl⟩
        change (_ : List Blk → Prop) (_ :: _ :: _ :: _ :: _ :: _ :: (Gs ++ Bs))
        refine D0.done (by kernel_rfl) ?_
        refine Ex.in_normal ?_
        exact Ex.again [false, true, true, true, true, true] (⟨i + 1, ms ++ [q], b24, A24, c24, cb24, some k13, cap14, junk15, Gs ++ Bs⟩ : Nat × List Fm × List Int × Option Addr × Nat × Blk × Option Nat × Nat × List Value × List Blk) (by dsimp only; omega) ⟨(by dsimp only; simp [him]), (by dsimp only; rw [hdec, show 16 - i = (16 - (i + 1)) + 1 by omega, pAll_ok hne hpf]; simp [fsOf]), by dsimp only; omega, (by dsimp only; exact fun m hm => (List.mem_append.1 hm).elim (hok m) fun h => by rw [List.mem_singleton] at h; subst h; exact ⟨hqo, hfo⟩), hy24, by dsimp only; omega, hr24, hc24, hap, (by dsimp only; exact FrsIn.app (hin.mono fun x hx => (List.mem_cons.1 hx).elim (fun e => e ▸ (List.mem_cons.1 hcm).elim (fun e => e ▸ .head _) fun h => .tail _ (List.mem_append_left _ h)) fun h => .tail _ (List.mem_append_right _ h)) (hfi.mono fun x hx => (List.mem_cons.1 hx).elim (fun e => e ▸ .head _) fun h => .tail _ (List.mem_append_left _ h)))⟩ ⟨rfl, rfl, rfl, trivial⟩ (by first | (dsimp only [pick]; done) | rfl)
      ·
        rintro _ _ ⟨_, ⟨e24, hpf, rfl, rfl⟩, rfl⟩
        refine Ex.turn ?_
        change (_ : List Blk → Prop) (_ :: _ :: _ :: Bs)
        refine Ex.in_panic ?_
        refine Ex.then_panic ?_
        refine Ex.in_panic ?_
        refine Ex.then_panic ?_
        exact Ex.leaveP [false, false] 0 1 enters62 (hx2 (no := some k2) rfl rfl rfl) (fun w hm => catch_spec k1 k2 (no.map fun k => (⟨k, 0, none⟩ : Addr)) i rq 0 e24 w (hm.at 0 rfl) (hm.at 1 rfl) (hm.neO 0 1 (by decide) rfl rfl rfl)) rfl ss52 ss24 rfl rfl rfl rfl (.inr ⟨_, by rw [hdec, show 16 - i = (15 - i) + 1 by omega]; exact pAll_no hne hpf, rfl, rfl⟩)
    ·
      refine Up0.q rfl (q_move rfl rfl) (Wt.plain rfl) rfl rfl ?_
      refine D0.two 0 2 (by kernel_rfl) ?_ ?_
      ·
        refine Up0.q rfl (q_load1 ss52 0 rfl rfl rfl rfl) (Wt.plain rfl) rfl rfl ?_
        refine D0.one 2 (by kernel_rfl) ?_
        refine Up0.effE rfl (e_callE [true, true, true, false, false] enters63 rfl rfl (hx2 rfl rfl rfl) (fun w hm => frame_spec bb rfl AA cc k9 cb hby hcc (by omega) (by omega) hrd w (hm.at 3 rfl) (hm.at 4 rfl) (hm.neO 3 4 (by decide) rfl rfl rfl)) rfl rfl) (Wt.plain rfl) ?_ ?_
        ·
          rintro _ _ ⟨_, _, ⟨q, b24, A24, c24, cb24, Gs, hpf, hqo, hfo, hy24, hl24, rfl, hr24, hc24, hfi, hcm, rfl⟩, rfl, rfl⟩
          refine D0.perm perm3 ?_
          change (_ : List Blk → Prop) (_ :: _ :: _ :: _ :: _ :: (Gs ++ Bs))
          have htq := hqo.1
          refine D0.one 3 (by kernel_rfl) ?_
          refine Up0.eff rfl (e_litS1 sc52 ze59 (.int .i64 q.f.k :: (.int .i64 q.f.a :: (.int .i64 q.f.l :: (.slice q.RA q.f.rs.length q.rc :: (.slice q.BA q.f.bs.length q.bc :: (ints .u8 q.f.tok)))))) rfl rfl (by first | (simp; done) | (simp; omega)) rfl rfl rfl) (Wt.plain rfl) ?_
          rintro _ _ ⟨k17, rfl, rfl⟩
          refine D0.perm List.perm_append_comm ?_
          change (_ : List Blk → Prop) (_ :: _ :: _ :: _ :: _ :: _ :: (Gs ++ Bs))
          refine D0.one 4 (by kernel_rfl) ?_
          refine Up0.eff rfl (e_appendS sc52 ze59 rfl (by decide) 3 (fcs ms) jq (.int .i64 q.f.k :: (.int .i64 q.f.a :: (.int .i64 q.f.l :: (.slice q.RA q.f.rs.length q.rc :: (.slice q.BA q.f.bs.length q.bc :: (ints .u8 q.f.tok)))))) (R_blk 0 rfl) rfl rfl rfl rfl (by rw [fcs_length ms (fun m hm => (hok m hm).1.1)]; omega) hrq (by first | (simp; done) | (simp; omega)) q.cells_one (by decide) (by omega) (by omega) rfl rfl) (Wt.plain rfl) ?_
          rintro _ _ ⟨k18, cap19, junk20, hap, hc21, rfl, rfl⟩
          change (_ : List Blk → Prop) (_ :: _ :: _ :: _ :: _ :: _ :: (Gs ++ Bs))
          have efl : fcs ms ++ .int .i64 q.f.k :: (.int .i64 q.f.a :: (.int .i64 q.f.l :: (.slice q.RA q.f.rs.length q.rc :: (.slice q.BA q.f.bs.length q.bc :: (ints .u8 q.f.tok))))) = fcs (ms ++ [q]) := by rw [fcs_app, fcs_sing]; rfl
          rw [efl] at hap
          conv => rhs; rw [efl]
          refine D0.one 5 (by kernel_rfl) ?_
          refine Up0.eff rfl (e_store1 ss52 1 rfl rfl rfl rfl (by simp) rfl rfl) (Wt.plain rfl) ?_
          rintro _ _ ⟨rfl, rfl⟩
          change (_ : List Blk → Prop) (_ :: _ :: _ :: _ :: _ :: _ :: (Gs ++ Bs))
          refine D0.done (by kernel_rfl) ?_
          refine Ex.in_normal ?_
          exact Ex.again [false, true, true, true, true, true] (⟨i + 1, ms ++ [q], b24, A24, c24, cb24, some k18, cap19, junk20, Gs ++ Bs⟩ : Nat × List Fm × List Int × Option Addr × Nat × Blk × Option Nat × Nat × List Value × List Blk) (by dsimp only; omega) ⟨(by dsimp only; simp [him]), (by dsimp only; rw [hdec, show 16 - i = (16 - (i + 1)) + 1 by omega, pAll_ok hne hpf]; simp [fsOf]), by dsimp only; omega, (by dsimp only; exact fun m hm => (List.mem_append.1 hm).elim (hok m) fun h => by rw [List.mem_singleton] at h; subst h; exact ⟨hqo, hfo⟩), hy24, by dsimp only; omega, hr24, hc24, hap, (by dsimp only; exact FrsIn.app (hin.mono fun x hx => (List.mem_cons.1 hx).elim (fun e => e ▸ (List.mem_cons.1 hcm).elim (fun e => e ▸ .head _) fun h => .tail _ (List.mem_append_left _ h)) fun h => .tail _ (List.mem_append_right _ h)) (hfi.mono fun x hx => (List.mem_cons.1 hx).elim (fun e => e ▸ .head _) fun h => .tail _ (List.mem_append_left _ h)))⟩ ⟨rfl, rfl, rfl, trivial⟩ (by first | (dsimp only [pick]; done) | rfl)
        ·
          rintro _ _ ⟨_, ⟨e24, hpf, rfl, rfl⟩, rfl⟩
          refine Ex.turn ?_
          change (_ : List Blk → Prop) (_ :: _ :: _ :: Bs)
          refine Ex.in_panic ?_
          refine Ex.then_panic ?_
          refine Ex.in_panic ?_
          refine Ex.then_panic ?_
          exact Ex.leaveP [false, false] 0 1 enters62 (hx2 (no := some k2) rfl rfl rfl) (fun w hm => catch_spec k1 k2 (no.map fun k => (⟨k, 0, none⟩ : Addr)) i rq 0 e24 w (hm.at 0 rfl) (hm.at 1 rfl) (hm.neO 0 1 (by decide) rfl rfl rfl)) rfl ss52 ss24 rfl rfl rfl rfl (.inr ⟨_, by rw [hdec, show 16 - i = (15 - i) + 1 by omega]; exact pAll_no hne hpf, rfl, rfl⟩)
      ·
        refine Up0.effE rfl (e_callE [true, true, true, false, false] enters63 rfl rfl (hx2 rfl rfl rfl) (fun w hm => frame_spec bb rfl AA cc k9 cb hby hcc (by omega) (by omega) hrd w (hm.at 3 rfl) (hm.at 4 rfl) (hm.neO 3 4 (by decide) rfl rfl rfl)) rfl rfl) (Wt.plain rfl) ?_ ?_
        ·
          rintro _ _ ⟨_, _, ⟨q, b24, A24, c24, cb24, Gs, hpf, hqo, hfo, hy24, hl24, rfl, hr24, hc24, hfi, hcm, rfl⟩, rfl, rfl⟩
          refine D0.perm perm3 ?_
          change (_ : List Blk → Prop) (_ :: _ :: _ :: _ :: _ :: (Gs ++ Bs))
          have htq := hqo.1
          refine D0.two 0 3 (by kernel_rfl) ?_ ?_
          ·
            refine Up0.q rfl (q_load1 ss52 0 rfl rfl rfl rfl) (Wt.plain rfl) rfl rfl ?_
            refine D0.one 3 (by kernel_rfl) ?_
            refine Up0.eff rfl (e_litS1 sc52 ze59 (.int .i64 q.f.k :: (.int .i64 q.f.a :: (.int .i64 q.f.l :: (.slice q.RA q.f.rs.length q.rc :: (.slice q.BA q.f.bs.length q.bc :: (ints .u8 q.f.tok)))))) rfl rfl (by first | (simp; done) | (simp; omega)) rfl rfl rfl) (Wt.plain rfl) ?_
            rintro _ _ ⟨k22, rfl, rfl⟩
            refine D0.perm List.perm_append_comm ?_
            change (_ : List Blk → Prop) (_ :: _ :: _ :: _ :: _ :: _ :: (Gs ++ Bs))
            refine D0.one 4 (by kernel_rfl) ?_
            refine Up0.eff rfl (e_appendS sc52 ze59 rfl (by decide) 3 (fcs ms) jq (.int .i64 q.f.k :: (.int .i64 q.f.a :: (.int .i64 q.f.l :: (.slice q.RA q.f.rs.length q.rc :: (.slice q.BA q.f.bs.length q.bc :: (ints .u8 q.f.tok)))))) (R_blk 0 rfl) rfl rfl rfl rfl (by rw [fcs_length ms (fun m hm => (hok m hm).1.1)]; omega) hrq (by first | (simp; done) | (simp; omega)) q.cells_one (by decide) (by omega) (by omega) rfl rfl) (Wt.plain rfl) ?_
            rintro _ _ ⟨k23, cap24, junk25, hap, hc26, rfl, rfl⟩
            change (_ : List Blk → Prop) (_ :: _ :: _ :: _ :: _ :: _ :: (Gs ++ Bs))
            have efl : fcs ms ++ .int .i64 q.f.k :: (.int .i64 q.f.a :: (.int .i64 q.f.l :: (.slice q.RA q.f.rs.length q.rc :: (.slice q.BA q.f.bs.length q.bc :: (ints .u8 q.f.tok))))) = fcs (ms ++ [q]) := by rw [fcs_app, fcs_sing]; rfl
            rw [efl] at hap
            conv => rhs; rw [efl]
            refine D0.one 5 (by kernel_rfl) ?_
            refine Up0.eff rfl (e_store1 ss52 1 rfl rfl rfl rfl (by simp) rfl rfl) (Wt.plain rfl) ?_
            rintro _ _ ⟨rfl, rfl⟩
            change (_ : List Blk → Prop) (_ :: _ :: _ :: _ :: _ :: _ :: (Gs ++ Bs))
            refine D0.done (by kernel_rfl) ?_
            refine Ex.in_normal ?_
            exact Ex.again [false, true, true, true, true, true] (⟨i + 1, ms ++ [q], b24, A24, c24, cb24, some k23, cap24, junk25, Gs ++ Bs⟩ : Nat × List Fm × List Int × Option Addr × Nat × Blk × Option Nat × Nat × List Value × List Blk) (by dsimp only; omega) ⟨(by dsimp only; simp [him]), (by dsimp only; rw [hdec, show 16 - i = (16 - (i + 1)) + 1 by omega, pAll_ok hne hpf]; simp [fsOf]), by dsimp only; omega, (by dsimp only; exact fun m hm => (List.mem_append.1 hm).elim (hok m) fun h => by rw [List.mem_singleton] at h; subst h; exact ⟨hqo, hfo⟩), hy24, by dsimp only; omega, hr24, hc24, hap, (by dsimp only; exact FrsIn.app (hin.mono fun x hx => (List.mem_cons.1 hx).elim (fun e => e ▸ (List.mem_cons.1 hcm).elim (fun e => e ▸ .head _) fun h => .tail _ (List.mem_append_left _ h)) fun h => .tail _ (List.mem_append_right _ h)) (hfi.mono fun x hx => (List.mem_cons.1 hx).elim (fun e => e ▸ .head _) fun h => .tail _ (List.mem_append_left _ h)))⟩ ⟨rfl, rfl, rfl, trivial⟩ (by first | (dsimp only [pick]; done) | rfl)
          ·
            refine Up0.eff rfl (e_litS1 sc52 ze59 (.int .i64 q.f.k :: (.int .i64 q.f.a :: (.int .i64 q.f.l :: (.slice q.RA q.f.rs.length q.rc :: (.slice q.BA q.f.bs.length q.bc :: (ints .u8 q.f.tok)))))) rfl rfl (by first | (simp; done) | (simp; omega)) rfl rfl rfl) (Wt.plain rfl) ?_
            rintro _ _ ⟨k27, rfl, rfl⟩
            refine D0.perm List.perm_append_comm ?_
            change (_ : List Blk → Prop) (_ :: _ :: _ :: _ :: _ :: _ :: (Gs ++ Bs))
            refine D0.one 0 (by kernel_rfl) ?_
            refine Up0.q rfl (q_load1 ss52 1 rfl rfl rfl rfl) (Wt.plain rfl) rfl rfl ?_
            refine D0.one 4 (by kernel_rfl) ?_
            refine Up0.eff rfl (e_appendS sc52 ze59 rfl (by decide) 3 (fcs ms) jq (.int .i64 q.f.k :: (.int .i64 q.f.a :: (.int .i64 q.f.l :: (.slice q.RA q.f.rs.length q.rc :: (.slice q.BA q.f.bs.length q.bc :: (ints .u8 q.f.tok)))))) (R_blk 0 rfl) rfl rfl rfl rfl (by rw [fcs_length ms (fun m hm => (hok m hm).1.1)]; omega) hrq (by first | (simp; done) | (simp; omega)) q.cells_one (by decide) (by omega) (by omega) rfl rfl) (Wt.plain rfl) ?_
            rintro _ _ ⟨k28, cap29, junk30, hap, hc31, rfl, rfl⟩
            change (_ : List Blk → Prop) (_ :: _ :: _ :: _ :: _ :: _ :: (Gs ++ Bs))
            have efl : fcs ms ++ .int .i64 q.f.k :: (.int .i64 q.f.a :: (.int .i64 q.f.l :: (.slice q.RA q.f.rs.length q.rc :: (.slice q.BA q.f.bs.length q.bc :: (ints .u8 q.f.tok))))) = fcs (ms ++ [q]) := by rw [fcs_app, fcs_sing]; rfl
            rw [efl] at hap
            conv => rhs; rw [efl]
            refine D0.one 5 (by kernel_rfl) ?_
            refine Up0.eff rfl (e_store1 ss52 1 rfl rfl rfl rfl (by simp) rfl rfl) (Wt.plain rfl) ?_
            rintro _ _ ⟨rfl, rfl⟩
            change (_ : List Blk → Prop) (_ :: _ :: _ :: _ :: _ :: _ :: (Gs ++ Bs))
            refine D0.done (by kernel_rfl) ?_
            refine Ex.in_normal ?_
            exact Ex.again [false, true, true, true, true, true] (⟨i + 1, ms ++ [q], b24, A24, c24, cb24, some k28, cap29, junk30, Gs ++ Bs⟩ : Nat × List Fm × List Int × Option Addr × Nat × Blk × Option Nat × Nat × List Value × List Blk) (by dsimp only; omega) ⟨(by dsimp only; simp [him]), (by dsimp only; rw [hdec, show 16 - i = (16 - (i + 1)) + 1 by omega, pAll_ok hne hpf]; simp [fsOf]), by dsimp only; omega, (by dsimp only; exact fun m hm => (List.mem_append.1 hm).elim (hok m) fun h => by rw [List.mem_singleton] at h; subst h; exact ⟨hqo, hfo⟩), hy24, by dsimp only; omega, hr24, hc24, hap, (by dsimp only; exact FrsIn.app (hin.mono fun x hx => (List.mem_cons.1 hx).elim (fun e => e ▸ (List.mem_cons.1 hcm).elim (fun e => e ▸ .head _) fun h => .tail _ (List.mem_append_left _ h)) fun h => .tail _ (List.mem_append_right _ h)) (hfi.mono fun x hx => (List.mem_cons.1 hx).elim (fun e => e ▸ .head _) fun h => .tail _ (List.mem_append_left _ h)))⟩ ⟨rfl, rfl, rfl, trivial⟩ (by first | (dsimp only [pick]; done) | rfl)
        ·
          rintro _ _ ⟨_, ⟨e24, hpf, rfl, rfl⟩, rfl⟩
          refine Ex.turn ?_
          change (_ : List Blk → Prop) (_ :: _ :: _ :: Bs)
          refine Ex.in_panic ?_
          refine Ex.then_panic ?_
          refine Ex.in_panic ?_
          refine Ex.then_panic ?_
          exact Ex.leaveP [false, false] 0 1 enters62 (hx2 (no := some k2) rfl rfl rfl) (fun w hm => catch_spec k1 k2 (no.map fun k => (⟨k, 0, none⟩ : Addr)) i rq 0 e24 w (hm.at 0 rfl) (hm.at 1 rfl) (hm.neO 0 1 (by decide) rfl rfl rfl)) rfl ss52 ss24 rfl rfl rfl rfl (.inr ⟨_, by rw [hdec, show 16 - i = (15 - i) + 1 by omega]; exact pAll_no hne hpf, rfl, rfl⟩)
  replace hb10 := of_decide_eq_false hb10
  have hbe : bb = [] := List.eq_nil_of_length_eq_zero (by omega)
  refine W.exit ?_
  refine Ex.then_exit ?_
  refine Ex.then_exit ?_
  refine Ex.in_here ?_
  refine Ex.next ?_
  refine W.slots (L' := [(2, _), (3, _)]) ⟨rfl, rfl, trivial⟩ ?_
  refine W.seq ?_
  refine W.region ?_
  refine T.q (q_load1 ss52 0 rfl rfl rfl rfl) (Wt.plain rfl) rfl rfl ?_
  refine T.eff (e_store1 ss52 0 rfl rfl rfl rfl (by simp) rfl rfl) (Wt.plain rfl) ?_
  rintro _ _ ⟨rfl, rfl⟩
  change (_ : List Blk → Prop) (_ :: _ :: _ :: _ :: _ :: Bs)
  refine T.eff (e_store1 ss24 1 rfl rfl rfl rfl (by simp) rfl rfl) (Wt.plain rfl) ?_
  rintro _ _ ⟨rfl, rfl⟩
  change (_ : List Blk → Prop) (_ :: _ :: _ :: _ :: _ :: Bs)
  refine T.nil ?_
  refine Ex.next ?_
  refine W.slots (L' := [(2, _), (3, _)]) ⟨rfl, rfl, trivial⟩ ?_
  refine W.ret ?_
  refine Ex.leaveR [false, false] 0 1 enters62 (hx2 (no := some k2) rfl rfl rfl) (fun w hm => idle_spec k1 k2 (no.map fun k => (⟨k, 0, none⟩ : Addr)) i rq 0 w (hm.at 0 rfl) (hm.at 1 rfl) (hm.neO 0 1 (by decide) rfl rfl rfl)) rfl ss52 ss24 rfl rfl rfl rfl ?_
  subst him
  have hrc : ms.length ≤ rq := by rw [List.length_append, fcs_length ms (fun m hm => (hok m hm).1.1)] at hrq; omega
  exact .inl ⟨ms, no, rq, jq, ⟨some k9, [.slice AA bb.length cc], 81, (0, 0)⟩ :: cb :: Bs, by rw [hdec, hbe, pAll_nil], hok, hrc, rfl, hin.mono fun x hx => .tail _ hx, rfl⟩
theorem dec_no (b : List Int) {m : Nat} (hbm : b.length = m) (BA : Option Addr) (bc : Nat) (hbc : m ≤ bc) (hbl : m ≤ 140737488351232) (hbb : Bytes b) {e : Int} (hd : dec b = .error e) (w0 : World) (hB : Reads w0 BA (ints .u8 b)) : Does Try.prog 46 #[.slice BA m bc] w0 [] (fun v G => v = .tuple #[.slice none 0 0, .int .i64 e] ∧ G = []) := by
  subst hbm
  refine (dec_spec b BA bc hbc (by omega) hbb w0 hB).mono ?_
  rintro v G (⟨ms, no, cap, junk, Bs, h, _⟩ | ⟨e', h, rfl, rfl⟩)
  · rw [hd] at h; cases h
  · rw [hd] at h; cases h; exact ⟨rfl, rfl⟩
theorem dec_yes (b : List Int) {m : Nat} (hbm : b.length = m) (BA : Option Addr) (bc : Nat) (hbc : m ≤ bc) (hbl : m ≤ 140737488351232) (hbb : Bytes b) {fs : List Frm} (hd : dec b = .ok fs) (w0 : World) (hB : Reads w0 BA (ints .u8 b)) : Does Try.prog 46 #[.slice BA m bc] w0 [] (fun v G =>
    ∃ (ms : List Fm) (no : Option Nat) (cap : Nat) (junk : List Value) (Bs : List Blk), fsOf ms = fs ∧ (∀ m ∈ ms, m.OK ∧ frOK m.f) ∧ ms.length ≤ cap ∧ v = .tuple #[.slice (no.map fun k => (⟨k, 0, none⟩ : Addr)) ms.length cap, .int .i64 0] ∧ FrsIn Bs ms ∧ G = ⟨no, fcs ms ++ junk, 59, (0, 0)⟩ :: Bs) := by
  subst hbm
  refine (dec_spec b BA bc hbc (by omega) hbb w0 hB).mono ?_
  rintro v G (⟨ms, no, cap, junk, Bs, h, h2⟩ | ⟨e', h, _⟩)
  · rw [hd] at h; cases h; exact ⟨ms, no, cap, junk, Bs, rfl, h2⟩
  · rw [hd] at h; cases h
end Go.Proofs.Ytmkjnefongjniaa
