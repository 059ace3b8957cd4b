/-
  The walks of layer 11: what is read, by the document.
-/
import Derived.Test.YtmkjnefongjniaaQ2
namespace Go.Proofs.Ytmkjnefongjniaa
open Go Go.X

set_option maxRecDepth 100000 in
theorem refparse_short1 (b : List Int) (BA : Option Addr) (bc : Nat) (_hbc : b.length ≤ bc) (_hbl : b.length ≤ 140737488354000) (_hbb : Bytes b) (h0 : b.length = 0) (w0 : World) (hB : Reads w0 BA (ints .u8 b)) : Does Try.prog 40 #[.slice BA b.length bc] w0 [] (fun v G => v = .tuple #[.agg #[.int .i64 0, .int .i64 0, .int .i64 0, .int .i64 0, .int .i64 0, .slice none 0 0], .int .i64 3] ∧ G = []) := by
  refine spec_of 68 Try.func40 rfl rfl rfl ?_
  refine W.seq ?_
  refine W.region ?_
  refine T.eff (e_alloc ze40 rfl rfl rfl) (Wt.plain rfl) ?_
  rintro _ _ ⟨k1, rfl, rfl⟩
  change (_ : List Blk → Prop) [_]
  refine T.q (q_assign rfl rfl) (Wt.plain rfl) rfl rfl ?_
  refine T.nil ?_
  refine Ex.next ?_
  refine W.slots (L' := [(0, _), (2, _)]) ⟨rfl, rfl, trivial⟩ ?_
  refine W.seq ?_
  refine W.seq ?_
  refine W.region ?_
  refine T.q (q_move rfl rfl) (Wt.plain rfl) rfl rfl ?_
  refine T.q (q_len sc22 rfl rfl) (Wt.plain rfl) rfl rfl ?_
  refine T.q (q_bool (b := true) (q_eql rfl rfl rfl) (decide_eq_true (by omega))) (Wt.plain rfl) rfl rfl ?_
  refine T.q (q_move rfl rfl) (Wt.plain rfl) rfl rfl ?_
  refine T.no (Wn.no rfl rfl rfl rfl) rfl rfl ?_
  refine T.no (Wn.no rfl rfl rfl rfl) rfl rfl ?_
  refine T.no (Wn.no rfl rfl rfl rfl) rfl rfl ?_
  refine T.no (Wn.no rfl rfl rfl rfl) rfl rfl ?_
  refine T.no (Wn.no rfl rfl rfl rfl) rfl rfl ?_
  refine T.no (Wn.none rfl rfl rfl) rfl rfl ?_
  refine T.no (Wn.none rfl rfl rfl) rfl rfl ?_
  refine T.no (Wn.none rfl rfl rfl) rfl rfl ?_
  refine T.no (Wn.no rfl rfl rfl rfl) rfl rfl ?_
  refine T.q (q_pickT rfl rfl rfl) (Wt.plain rfl) rfl rfl ?_
  refine T.nil ?_
  refine Ex.next ?_
  refine W.slots (L' := [(0, _), (2, _), (18, _)]) ⟨rfl, rfl, rfl, trivial⟩ ?_
  refine W.condT rfl ?_
  refine W.seq ?_
  refine W.region ?_
  refine T.q (q_buildP (cells := [.int .i64 0, .int .i64 0, .int .i64 0, .int .i64 0, .int .i64 0, .slice none 0 0]) bp40 ze40 rfl rfl rfl) (Wt.plain rfl) rfl rfl ?_
  refine T.eff (e_storeA wd40 0 rfl rfl rfl rfl (by first | omega | (simp; done) | (simp [-List.getD_eq_getElem?_getD]; omega) | (simp at *; omega) | rfl) (by simp [Value.oneCell']) rfl) (Wt.plain rfl) ?_
  rintro _ _ ⟨rfl, rfl⟩
  change (_ : List Blk → Prop) [_]
  refine T.q (q_assign rfl rfl) (Wt.plain rfl) rfl rfl ?_
  refine T.nil ?_
  refine Ex.next ?_
  refine W.slots (L' := [(2, _), (3, _)]) ⟨rfl, rfl, trivial⟩ ?_
  refine W.ret ?_
  refine Ex.then_ret ?_
  refine Ex.outCT [false] 0 rfl (by exact wd40) rfl rfl rfl ?_
  exact ⟨rfl, rfl⟩
set_option maxRecDepth 100000 in
theorem refparse_short2 (b : List Int) (BA : Option Addr) (bc : Nat) (_hbc : b.length ≤ bc) (_hbl : b.length ≤ 140737488354000) (hbb : Bytes b) (hne : b.length ≠ 0) (h0 : b.getD 0 0 = 3) (hlt : b.length < 27) (w0 : World) (hB : Reads w0 BA (ints .u8 b)) : Does Try.prog 40 #[.slice BA b.length bc] w0 [] (fun v G => v = .tuple #[.agg #[.int .i64 0, .int .i64 0, .int .i64 0, .int .i64 0, .int .i64 0, .slice none 0 0], .int .i64 3] ∧ G = []) := by
  have hb0 := hbb.getD 0
  have hb1 := hbb.getD 1
  have hb2 := hbb.getD 2
  refine spec_of 68 Try.func40 rfl rfl rfl ?_
  refine W.seq ?_
  refine W.region ?_
  refine T.eff (e_alloc ze40 rfl rfl rfl) (Wt.plain rfl) ?_
  rintro _ _ ⟨k1, rfl, rfl⟩
  change (_ : List Blk → Prop) [_]
  refine T.q (q_assign rfl rfl) (Wt.plain rfl) rfl rfl ?_
  refine T.nil ?_
  refine Ex.next ?_
  refine W.slots (L' := [(0, _), (2, _)]) ⟨rfl, rfl, trivial⟩ ?_
  refine W.seq ?_
  refine W.seq ?_
  refine W.region ?_
  refine T.q (q_move rfl rfl) (Wt.plain rfl) rfl rfl ?_
  refine T.q (q_len sc22 rfl rfl) (Wt.plain rfl) rfl rfl ?_
  refine T.q (q_bool (b := false) (q_eql rfl rfl rfl) (decide_eq_false (by omega))) (Wt.plain rfl) rfl rfl ?_
  refine T.q (q_move rfl rfl) (Wt.plain rfl) rfl rfl ?_
  refine T.q (q_move rfl rfl) (Wt.yes rfl rfl rfl) rfl rfl ?_
  refine T.q (q_ixE1 sc22 0 (R_ext hB.ext) rfl rfl rfl (rfl) (by omega) (by first | omega | (simp; done) | (simp [-List.getD_eq_getElem?_getD]; omega))) (Wt.yes rfl rfl rfl) rfl rfl ?_
  refine T.q (q_loadE ss5 (R_ext hB.ext) rfl rfl (ints_get (by first | omega | (simp; done) | (simp [-List.getD_eq_getElem?_getD]; omega)))) (Wt.yes rfl rfl rfl) rfl rfl ?_
  refine T.q (q_bool (b := true) (q_eql rfl rfl rfl) (decide_eq_true (by omega))) (Wt.yes rfl rfl rfl) rfl rfl ?_
  refine T.q (q_move rfl rfl) (Wt.yes rfl rfl rfl) rfl rfl ?_
  refine T.q (q_move rfl rfl) (Wt.yes rfl rfl rfl) rfl rfl ?_
  refine T.q (q_len sc22 rfl rfl) (Wt.yes rfl rfl rfl) rfl rfl ?_
  refine T.q (q_bool (b := true) (q_lss rfl rfl rfl) (decide_eq_true (by omega))) (Wt.yes rfl rfl rfl) rfl rfl ?_
  refine T.q (q_pickT rfl rfl rfl) (Wt.yes rfl rfl rfl) rfl rfl ?_
  refine T.q (q_pickF rfl rfl rfl) (Wt.plain rfl) rfl rfl ?_
  refine T.nil ?_
  refine Ex.next ?_
  refine W.slots (L' := [(0, _), (2, _), (18, _)]) ⟨rfl, rfl, rfl, trivial⟩ ?_
  refine W.condT rfl ?_
  refine W.seq ?_
  refine W.region ?_
  refine T.q (q_buildP (cells := [.int .i64 0, .int .i64 0, .int .i64 0, .int .i64 0, .int .i64 0, .slice none 0 0]) bp40 ze40 rfl rfl rfl) (Wt.plain rfl) rfl rfl ?_
  refine T.eff (e_storeA wd40 0 rfl rfl rfl rfl (by first | omega | (simp; done) | (simp [-List.getD_eq_getElem?_getD]; omega) | (simp at *; omega) | rfl) (by simp [Value.oneCell']) rfl) (Wt.plain rfl) ?_
  rintro _ _ ⟨rfl, rfl⟩
  change (_ : List Blk → Prop) [_]
  refine T.q (q_assign rfl rfl) (Wt.plain rfl) rfl rfl ?_
  refine T.nil ?_
  refine Ex.next ?_
  refine W.slots (L' := [(2, _), (3, _)]) ⟨rfl, rfl, trivial⟩ ?_
  refine W.ret ?_
  refine Ex.then_ret ?_
  refine Ex.outCT [false] 0 rfl (by exact wd40) rfl rfl rfl ?_
  exact ⟨rfl, rfl⟩
set_option maxRecDepth 100000 in
theorem refparse_Rok (b : List Int) (BA : Option Addr) (bc : Nat) (_hbc : b.length ≤ bc) (hbl : b.length ≤ 140737488354000) (hbb : Bytes b) (h0 : b.getD 0 0 = 3) (hge : 27 ≤ b.length) (hr : b.getD 1 0 ≤ 1) (hle : b.length ≤ 283) (w0 : World) (hB : Reads w0 BA (ints .u8 b)) : Does Try.prog 40 #[.slice BA b.length bc] w0 [] (fun v G => ∃ (no : Option Nat) (cap : Nat) (junk : List Value), v = .tuple #[.agg #[.int .i64 3, .int .i64 (b.getD 1 0), .int .i64 (b.getD 2 0), .int .i64 ((pE b : Nat) : Int), .int .i64 ((pC b : Nat) : Int), .slice (no.map fun k => (⟨k, 0, none⟩ : Addr)) (b.length - 11) cap], .int .i64 0] ∧ b.length - 11 + junk.length = cap ∧ G = [⟨no, ints .u8 (b.drop 11) ++ junk, 5, (0, 0)⟩]) := by
  have hb0 := hbb.getD 0
  have hb1 := hbb.getD 1
  have hb2 := hbb.getD 2
  have hE := pE_lt hbb
  have hC := pC_lt hbb
  refine spec_of 68 Try.func40 rfl rfl rfl ?_
  refine W.seq ?_
  refine W.region ?_
  refine T.eff (e_alloc ze40 rfl rfl rfl) (Wt.plain rfl) ?_
  rintro _ _ ⟨k1, rfl, rfl⟩
  change (_ : List Blk → Prop) [_]
  refine T.q (q_assign rfl rfl) (Wt.plain rfl) rfl rfl ?_
  refine T.nil ?_
  refine Ex.next ?_
  refine W.slots (L' := [(0, _), (2, _)]) ⟨rfl, rfl, trivial⟩ ?_
  refine W.seq ?_
  refine W.seq ?_
  refine W.region ?_
  refine T.q (q_move rfl rfl) (Wt.plain rfl) rfl rfl ?_
  refine T.q (q_len sc22 rfl rfl) (Wt.plain rfl) rfl rfl ?_
  refine T.q (q_bool (b := false) (q_eql rfl rfl rfl) (decide_eq_false (by omega))) (Wt.plain rfl) rfl rfl ?_
  refine T.q (q_move rfl rfl) (Wt.plain rfl) rfl rfl ?_
  refine T.q (q_move rfl rfl) (Wt.yes rfl rfl rfl) rfl rfl ?_
  refine T.q (q_ixE1 sc22 0 (R_ext hB.ext) rfl rfl rfl (rfl) (by omega) (by first | omega | (simp; done) | (simp [-List.getD_eq_getElem?_getD]; omega))) (Wt.yes rfl rfl rfl) rfl rfl ?_
  refine T.q (q_loadE ss5 (R_ext hB.ext) rfl rfl (ints_get (by first | omega | (simp; done) | (simp [-List.getD_eq_getElem?_getD]; omega)))) (Wt.yes rfl rfl rfl) rfl rfl ?_
  refine T.q (q_bool (b := true) (q_eql rfl rfl rfl) (decide_eq_true (by omega))) (Wt.yes rfl rfl rfl) rfl rfl ?_
  refine T.q (q_move rfl rfl) (Wt.yes rfl rfl rfl) rfl rfl ?_
  refine T.q (q_move rfl rfl) (Wt.yes rfl rfl rfl) rfl rfl ?_
  refine T.q (q_len sc22 rfl rfl) (Wt.yes rfl rfl rfl) rfl rfl ?_
  refine T.q (q_bool (b := false) (q_lss rfl rfl rfl) (decide_eq_false (by omega))) (Wt.yes rfl rfl rfl) rfl rfl ?_
  refine T.q (q_pickT rfl rfl rfl) (Wt.yes rfl rfl rfl) rfl rfl ?_
  refine T.q (q_pickF rfl rfl rfl) (Wt.plain rfl) rfl rfl ?_
  refine T.nil ?_
  refine Ex.next ?_
  refine W.slots (L' := [(0, _), (2, _), (18, _)]) ⟨rfl, rfl, rfl, trivial⟩ ?_
  refine W.condF rfl ?_
  refine W.skip ?_
  refine Ex.next ?_
  refine W.slots (L' := [(0, _), (2, _)]) ⟨rfl, rfl, trivial⟩ ?_
  refine W.seq ?_
  refine W.draw 10 (by kernel_rfl) ?_
  refine D.take 0 rfl (by kernel_rfl) (fun _ h => h) (q_move rfl rfl) (Wt.plain rfl) rfl rfl ?_
  refine D.take 1 rfl (by kernel_rfl) (fun _ h => h) (q_ixE1 sc22 0 (R_ext hB.ext) rfl rfl rfl (rfl) (by omega) (by first | omega | (simp; done) | (simp [-List.getD_eq_getElem?_getD]; omega))) (Wt.plain rfl) rfl rfl ?_
  refine D.take 2 rfl (by kernel_rfl) (fun _ h => h) (q_loadE ss5 (R_ext hB.ext) rfl rfl (ints_get (by first | omega | (simp; done) | (simp [-List.getD_eq_getElem?_getD]; omega)))) (Wt.plain rfl) rfl rfl ?_
  refine D.take 3 rfl (by kernel_rfl) (fun _ h => h) (q_int (b := 3) (q_conv un5 un3 rfl rfl) ?hE) (Wt.plain rfl) rfl rfl ?_
  case hE => rw [h0]; rfl
  refine D.take 5 rfl (by kernel_rfl) (fun _ h => h) (q_move rfl rfl) (Wt.plain rfl) rfl rfl ?_
  refine D.take 6 rfl (by kernel_rfl) (fun _ h => h) (q_sl sc22 1 b.length bc rfl rfl ⟨_, _, rfl, rfl⟩ rfl rfl (by first | omega | (simp; done) | (simp [-List.getD_eq_getElem?_getD]; omega)) (by first | omega | (simp; done) | (simp [-List.getD_eq_getElem?_getD]; omega)) (by first | omega | (simp; done) | (simp [-List.getD_eq_getElem?_getD]; omega)) (by simp)) (Wt.plain rfl) rfl rfl ?_
  refine D.two 4 9 (by kernel_rfl) ?_ ?_
  ·
    refine Up.eff rfl (e_litA sc22 ze5 rfl rfl rfl (by simp [Value.cells]) rfl rfl rfl) (Wt.plain rfl) ?_
    rintro _ _ ⟨k2, rfl, rfl⟩
    refine ⟨fun _ => (S_sub (((List.Sublist.slnil).cons _).cons_cons _)), ?_⟩
    change (_ : List Blk → Prop) [_, _]
    refine D.two 7 9 (by kernel_rfl) ?_ ?_
    ·
      refine Up.eff rfl (e_appendI sc22 ze5 rfl 1 .u8 [] ((b).drop 1) [] ((List.append_nil _).symm) (R_cutI (R_ext hB.ext) (by first | omega | (simp; done) | (simp [-List.getD_eq_getElem?_getD]; omega) | (simp at *; omega) | rfl)) rfl rfl rfl rfl (by first | omega | (simp; done) | (simp [-List.getD_eq_getElem?_getD]; omega) | (simp at *; omega) | rfl) (by first | omega | (simp; done) | (simp [-List.getD_eq_getElem?_getD]; omega) | (simp at *; omega) | rfl) (by first | omega | (simp; done) | (simp [-List.getD_eq_getElem?_getD]; omega) | (simp at *; omega) | rfl) (by first | omega | (simp; done) | (simp [-List.getD_eq_getElem?_getD]; omega)) (by first | omega | (simp; done) | (simp [-List.getD_eq_getElem?_getD]; omega)) rfl rfl) (Wt.plain rfl) ?_
      rintro _ _ ⟨k3, cap4, junk5, hc6, rfl, rfl⟩
      refine ⟨fun _ => (S_sub (((List.Sublist.slnil).cons _).cons_cons _)), ?_⟩
      change (_ : List Blk → Prop) [_, _]
      change (_ : List Blk → Prop) [_, ⟨some k3, ints .u8 (b.drop 1) ++ junk5, 5, (0, 0)⟩]
      refine D.take 8 rfl (by kernel_rfl) (S_sub (((List.Sublist.slnil).cons _).cons_cons _)) (q_buildP (cells := [.int .i64 3, .int .i64 0, .int .i64 0, .int .i64 0, .int .i64 0, .slice (some ⟨k3, 0, none⟩) (0 + (b.length - 1)) cap4]) bp40 ze40 rfl rfl ⟨_, _, [.int .i64 3], _, rfl, rfl, rfl, (Nat.le_of_ble_eq_true rfl), rfl, _, _, [.slice (some ⟨k3, 0, none⟩) (0 + (b.length - 1)) cap4], _, rfl, rfl, rfl, (Nat.le_of_ble_eq_true rfl), rfl, rfl⟩) (Wt.plain rfl) rfl rfl ?_
      refine D.one 9 (by kernel_rfl) ?_
      refine Up.eff rfl (e_alloc ze40 rfl rfl rfl) (Wt.plain rfl) ?_
      rintro _ _ ⟨k7, rfl, rfl⟩
      refine ⟨fun _ => (S_sub ((((List.Sublist.slnil).cons _).cons _).cons_cons _)), ?_⟩
      change (_ : List Blk → Prop) [_, _, _]
      refine D.one 10 (by kernel_rfl) ?_
      refine Up.eff rfl (e_storeA wd40 2 rfl rfl rfl rfl (by first | omega | (simp; done) | (simp [-List.getD_eq_getElem?_getD]; omega) | (simp at *; omega) | rfl) (by simp [Value.oneCell']) rfl) (Wt.plain rfl) ?_
      rintro _ _ ⟨rfl, rfl⟩
      refine ⟨fun h => absurd h (by decide), ?_⟩
      change (_ : List Blk → Prop) [_, _, _]
      refine D.done (by kernel_rfl) ?_
      refine Ex.next ?_
      refine W.slots (L' := [(0, _), (2, _), (4, _)]) ⟨rfl, rfl, rfl, trivial⟩ ?_
      refine W.seq ?_
      refine W.seq ?_
      refine W.region ?_
      refine T.q (q_fld fl40_0 rfl rfl) (Wt.plain rfl) rfl rfl ?_
      refine T.q (q_load1 ss3 2 rfl rfl rfl rfl) (Wt.plain rfl) rfl rfl ?_
      refine T.q (q_bool (b := true) (q_eql rfl rfl rfl) (decide_eq_true (by omega))) (Wt.plain rfl) rfl rfl ?_
      refine T.nil ?_
      refine Ex.next ?_
      refine W.slots (L' := [(0, _), (2, _), (4, _), (31, _)]) ⟨rfl, rfl, rfl, rfl, trivial⟩ ?_
      refine W.condT rfl ?_
      refine W.seq ?_
      refine W.region ?_
      refine T.q (q_move rfl rfl) (Wt.plain rfl) rfl rfl ?_
      refine T.q (q_ixE1 sc22 1 (R_ext hB.ext) rfl rfl rfl (rfl) (by omega) (by first | omega | (simp; done) | (simp [-List.getD_eq_getElem?_getD]; omega))) (Wt.plain rfl) rfl rfl ?_
      refine T.q (q_loadE ss5 (R_ext hB.ext) rfl rfl (ints_get (by first | omega | (simp; done) | (simp [-List.getD_eq_getElem?_getD]; omega)))) (Wt.plain rfl) rfl rfl ?_
      refine T.q (q_int (b := b.getD 1 0) (q_conv un5 un3 rfl rfl) (i64_wrap (by omega) (by omega))) (Wt.plain rfl) rfl rfl ?_
      refine T.q (q_fld fl40_1 rfl rfl) (Wt.plain rfl) rfl rfl ?_
      refine T.eff (e_store1 ss3 2 rfl rfl rfl rfl (by simp) rfl rfl) (Wt.plain rfl) ?_
      rintro _ _ ⟨rfl, rfl⟩
      change (_ : List Blk → Prop) [_, _, _]
      refine T.nil ?_
      refine Ex.next ?_
      refine W.slots (L' := [(0, _), (2, _), (4, _)]) ⟨rfl, rfl, rfl, trivial⟩ ?_
      refine W.seq ?_
      refine W.region ?_
      refine T.q (q_move rfl rfl) (Wt.plain rfl) rfl rfl ?_
      refine T.q (q_ixE1 sc22 2 (R_ext hB.ext) rfl rfl rfl (rfl) (by omega) (by first | omega | (simp; done) | (simp [-List.getD_eq_getElem?_getD]; omega))) (Wt.plain rfl) rfl rfl ?_
      refine T.q (q_loadE ss5 (R_ext hB.ext) rfl rfl (ints_get (by first | omega | (simp; done) | (simp [-List.getD_eq_getElem?_getD]; omega)))) (Wt.plain rfl) rfl rfl ?_
      refine T.q (q_int (b := b.getD 2 0) (q_conv un5 un3 rfl rfl) (i64_wrap (by omega) (by omega))) (Wt.plain rfl) rfl rfl ?_
      refine T.q (q_fld fl40_2 rfl rfl) (Wt.plain rfl) rfl rfl ?_
      refine T.eff (e_store1 ss3 2 rfl rfl rfl rfl (by simp) rfl rfl) (Wt.plain rfl) ?_
      rintro _ _ ⟨rfl, rfl⟩
      change (_ : List Blk → Prop) [_, _, _]
      refine T.nil ?_
      refine Ex.next ?_
      refine W.slots (L' := [(0, _), (2, _), (4, _)]) ⟨rfl, rfl, rfl, trivial⟩ ?_
      refine W.seq ?_
      refine W.region ?_
      refine T.q (q_move rfl rfl) (Wt.plain rfl) rfl rfl ?_
      refine T.q (q_sl sc22 3 5 bc rfl rfl ⟨_, _, rfl, rfl⟩ ⟨_, _, rfl, rfl⟩ rfl (by first | omega | (simp; done) | (simp [-List.getD_eq_getElem?_getD]; omega)) (by first | omega | (simp; done) | (simp [-List.getD_eq_getElem?_getD]; omega)) (by first | omega | (simp; done) | (simp [-List.getD_eq_getElem?_getD]; omega)) (by simp)) (Wt.plain rfl) rfl rfl ?_
      refine T.eff (e_call enters29 rfl rfl (fun w hm => reftakef_at (((b).drop 3).take (5 - 3)) _ _ (by first | omega | (simp; done) | (simp; omega) | (simp at *; omega)) (by first | omega | (simp; done) | (simp; omega) | (simp at *; omega)) ((hbb.drop' 3).take _) 2 (by first | omega | (simp; done) | (simp; omega) | (simp at *; omega)) (by first | omega | (simp; done) | (simp; omega) | (simp at *; omega)) (by first | omega | (simp; done) | (simp; omega) | (simp at *; omega)) w ((R_takeI (R_cutI (R_ext hB.ext) (by first | omega | (simp; done) | (simp [-List.getD_eq_getElem?_getD]; omega) | (simp at *; omega) | rfl)) (5 - 3)) w hm) (by first | omega | (simp; done) | (simp [-List.getD_eq_getElem?_getD]; omega) | (simp at *; omega) | rfl)) rfl rfl) (Wt.plain rfl) ?_
      rintro _ _ ⟨_, _, ⟨k8, cap9, junk10, rfl, hc11, rfl⟩, rfl, rfl⟩
      change (_ : List Blk → Prop) [_, _, _, _]
      refine T.q (q_move rfl rfl) (Wt.plain rfl) rfl rfl ?_
      refine T.q (q_int (b := (((pE b) : Nat) : Int)) (q_extract rfl rfl rfl) ?hE) (Wt.plain rfl) rfl rfl ?_
      case hE => rw [pE_tt]
      refine T.q (q_extract rfl rfl rfl) (Wt.plain rfl) rfl rfl ?_
      refine T.q (q_extract rfl rfl rfl) (Wt.plain rfl) rfl rfl ?_
      refine T.q (q_fld fl40_3 rfl rfl) (Wt.plain rfl) rfl rfl ?_
      refine T.eff (e_store1 ss3 2 rfl rfl rfl rfl (by simp) rfl rfl) (Wt.plain rfl) ?_
      rintro _ _ ⟨rfl, rfl⟩
      change (_ : List Blk → Prop) [_, _, _, _]
      refine T.nil ?_
      refine Ex.next ?_
      refine W.less (L' := [(0, _), (2, _), (4, _)]) [true, true, true, false] ⟨rfl, rfl, rfl, trivial⟩ ?_
      change (_ : List Blk → Prop) [_, _, _]
      refine W.seq ?_
      refine W.region ?_
      refine T.q (q_move rfl rfl) (Wt.plain rfl) rfl rfl ?_
      refine T.q (q_sl sc22 5 11 bc rfl rfl ⟨_, _, rfl, rfl⟩ ⟨_, _, rfl, rfl⟩ rfl (by first | omega | (simp; done) | (simp [-List.getD_eq_getElem?_getD]; omega)) (by first | omega | (simp; done) | (simp [-List.getD_eq_getElem?_getD]; omega)) (by first | omega | (simp; done) | (simp [-List.getD_eq_getElem?_getD]; omega)) (by simp)) (Wt.plain rfl) rfl rfl ?_
      refine T.eff (e_call enters29 rfl rfl (fun w hm => reftakef_at (((b).drop 5).take (11 - 5)) _ _ (by first | omega | (simp; done) | (simp; omega) | (simp at *; omega)) (by first | omega | (simp; done) | (simp; omega) | (simp at *; omega)) ((hbb.drop' 5).take _) 6 (by first | omega | (simp; done) | (simp; omega) | (simp at *; omega)) (by first | omega | (simp; done) | (simp; omega) | (simp at *; omega)) (by first | omega | (simp; done) | (simp; omega) | (simp at *; omega)) w ((R_takeI (R_cutI (R_ext hB.ext) (by first | omega | (simp; done) | (simp [-List.getD_eq_getElem?_getD]; omega) | (simp at *; omega) | rfl)) (11 - 5)) w hm) (by first | omega | (simp; done) | (simp [-List.getD_eq_getElem?_getD]; omega) | (simp at *; omega) | rfl)) rfl rfl) (Wt.plain rfl) ?_
      rintro _ _ ⟨_, _, ⟨k12, cap13, junk14, rfl, hc15, rfl⟩, rfl, rfl⟩
      change (_ : List Blk → Prop) [_, _, _, _]
      refine T.q (q_move rfl rfl) (Wt.plain rfl) rfl rfl ?_
      refine T.q (q_int (b := (((pC b) : Nat) : Int)) (q_extract rfl rfl rfl) ?hE) (Wt.plain rfl) rfl rfl ?_
      case hE => rw [pC_tt]
      refine T.q (q_extract rfl rfl rfl) (Wt.plain rfl) rfl rfl ?_
      refine T.q (q_extract rfl rfl rfl) (Wt.plain rfl) rfl rfl ?_
      refine T.q (q_fld fl40_4 rfl rfl) (Wt.plain rfl) rfl rfl ?_
      refine T.eff (e_store1 ss3 2 rfl rfl rfl rfl (by simp) rfl rfl) (Wt.plain rfl) ?_
      rintro _ _ ⟨rfl, rfl⟩
      change (_ : List Blk → Prop) [_, _, _, _]
      refine T.nil ?_
      refine Ex.next ?_
      refine W.less (L' := [(0, _), (2, _), (4, _)]) [true, true, true, false] ⟨rfl, rfl, rfl, trivial⟩ ?_
      change (_ : List Blk → Prop) [_, _, _]
      refine W.region ?_
      refine T.eff (e_litA sc22 ze5 rfl rfl rfl (by simp [Value.cells]) rfl rfl rfl) (Wt.plain rfl) ?_
      rintro _ _ ⟨k16, rfl, rfl⟩
      change (_ : List Blk → Prop) [_, _, _, _]
      refine T.q (q_move rfl rfl) (Wt.plain rfl) rfl rfl ?_
      refine T.q (q_sl sc22 11 b.length bc rfl rfl ⟨_, _, rfl, rfl⟩ rfl rfl (by first | omega | (simp; done) | (simp [-List.getD_eq_getElem?_getD]; omega)) (by first | omega | (simp; done) | (simp [-List.getD_eq_getElem?_getD]; omega)) (by first | omega | (simp; done) | (simp [-List.getD_eq_getElem?_getD]; omega)) (by simp)) (Wt.plain rfl) rfl rfl ?_
      refine T.eff (e_appendI sc22 ze5 rfl 3 .u8 [] ((b).drop 11) [] ((List.append_nil _).symm) (R_cutI (R_ext hB.ext) (by first | omega | (simp; done) | (simp [-List.getD_eq_getElem?_getD]; omega) | (simp at *; omega) | rfl)) rfl rfl rfl rfl (by first | omega | (simp; done) | (simp [-List.getD_eq_getElem?_getD]; omega) | (simp at *; omega) | rfl) (by first | omega | (simp; done) | (simp [-List.getD_eq_getElem?_getD]; omega) | (simp at *; omega) | rfl) (by first | omega | (simp; done) | (simp [-List.getD_eq_getElem?_getD]; omega) | (simp at *; omega) | rfl) (by first | omega | (simp; done) | (simp [-List.getD_eq_getElem?_getD]; omega)) (by first | omega | (simp; done) | (simp [-List.getD_eq_getElem?_getD]; omega)) rfl rfl) (Wt.plain rfl) ?_
      rintro _ _ ⟨k17, cap18, junk19, hc20, rfl, rfl⟩
      change (_ : List Blk → Prop) [_, _, _, _]
      change (_ : List Blk → Prop) [_, _, _, ⟨some k17, ints .u8 (b.drop 11) ++ junk19, 5, (0, 0)⟩]
      refine T.q (q_fld fl40_5 rfl rfl) (Wt.plain rfl) rfl rfl ?_
      refine T.eff (e_store1 ss22 2 rfl rfl rfl rfl (by simp) rfl rfl) (Wt.plain rfl) ?_
      rintro _ _ ⟨rfl, rfl⟩
      change (_ : List Blk → Prop) [_, _, _, _]
      refine T.nil ?_
      refine Ex.next ?_
      refine W.less (L' := [(2, _), (4, _)]) [true, false, true, true] ⟨rfl, rfl, trivial⟩ ?_
      change (_ : List Blk → Prop) [_, _, _]
      refine W.seq ?_
      refine W.seq ?_
      refine W.region ?_
      refine T.q (q_loadW wd40 (R_blk 1 rfl) rfl rfl) (Wt.plain rfl) rfl rfl ?_
      refine T.eff (e_call enters42 rfl rfl (fun w hm => may_true (by first | assumption | (unfold recP; omega) | (unfold othP; omega) | (unfold mayP recP othP at *; omega) | (unfold recP at *; omega)) w) rfl rfl) (Wt.plain rfl) ?_
      rintro _ _ ⟨_, _, ⟨rfl, rfl⟩, rfl, rfl⟩
      change (_ : List Blk → Prop) [_, _, _]
      refine T.q (q_not rfl rfl) (Wt.plain rfl) rfl rfl ?_
      refine T.nil ?_
      refine Ex.next ?_
      refine W.slots (L' := [(2, _), (4, _), (65, _)]) ⟨rfl, rfl, rfl, trivial⟩ ?_
      refine W.condF rfl ?_
      refine W.skip ?_
      refine Ex.next ?_
      refine W.slots (L' := [(2, _), (4, _)]) ⟨rfl, rfl, trivial⟩ ?_
      refine W.seq ?_
      refine W.region ?_
      refine T.q (q_loadW wd40 (R_blk 1 rfl) rfl rfl) (Wt.plain rfl) rfl rfl ?_
      refine T.eff (e_storeA wd40 0 rfl rfl rfl rfl (by first | omega | (simp; done) | (simp [-List.getD_eq_getElem?_getD]; omega) | (simp at *; omega) | rfl) (by simp [Value.oneCell']) rfl) (Wt.plain rfl) ?_
      rintro _ _ ⟨rfl, rfl⟩
      change (_ : List Blk → Prop) [_, _, _]
      refine T.q (q_assign rfl rfl) (Wt.plain rfl) rfl rfl ?_
      refine T.nil ?_
      refine Ex.next ?_
      refine W.less (L' := [(2, _), (3, _)]) [true, false, true] ⟨rfl, rfl, trivial⟩ ?_
      change (_ : List Blk → Prop) [_, _]
      refine W.ret ?_
      refine Ex.outCT [false, true] 0 rfl (by exact wd40) rfl rfl rfl ?_
      exact ⟨some _, _, _, by have e := Nat.zero_add (b.length - 11); rw [e]; rfl, by omega, rfl⟩
    ·
      refine Up.eff rfl (e_alloc ze40 rfl rfl rfl) (Wt.plain rfl) ?_
      rintro _ _ ⟨k21, rfl, rfl⟩
      refine ⟨fun _ => (S_sub ((((List.Sublist.slnil).cons _).cons _).cons_cons _)), ?_⟩
      change (_ : List Blk → Prop) [_, _, _]
      refine D.one 7 (by kernel_rfl) ?_
      refine Up.eff rfl (e_appendI sc22 ze5 rfl 1 .u8 [] ((b).drop 1) [] ((List.append_nil _).symm) (R_cutI (R_ext hB.ext) (by first | omega | (simp; done) | (simp [-List.getD_eq_getElem?_getD]; omega) | (simp at *; omega) | rfl)) rfl rfl rfl rfl (by first | omega | (simp; done) | (simp [-List.getD_eq_getElem?_getD]; omega) | (simp at *; omega) | rfl) (by first | omega | (simp; done) | (simp [-List.getD_eq_getElem?_getD]; omega) | (simp at *; omega) | rfl) (by first | omega | (simp; done) | (simp [-List.getD_eq_getElem?_getD]; omega) | (simp at *; omega) | rfl) (by first | omega | (simp; done) | (simp [-List.getD_eq_getElem?_getD]; omega)) (by first | omega | (simp; done) | (simp [-List.getD_eq_getElem?_getD]; omega)) rfl rfl) (Wt.plain rfl) ?_
      rintro _ _ ⟨k22, cap23, junk24, hc25, rfl, rfl⟩
      refine ⟨fun _ => (S_sub ((((List.Sublist.slnil).cons _).cons _).cons_cons _)), ?_⟩
      change (_ : List Blk → Prop) [_, _, _]
      change (_ : List Blk → Prop) [_, ⟨some k22, ints .u8 (b.drop 1) ++ junk24, 5, (0, 0)⟩, _]
      refine D.take 8 rfl (by kernel_rfl) (S_sub ((((List.Sublist.slnil).cons _).cons _).cons_cons _)) (q_buildP (cells := [.int .i64 3, .int .i64 0, .int .i64 0, .int .i64 0, .int .i64 0, .slice (some ⟨k22, 0, none⟩) (0 + (b.length - 1)) cap23]) bp40 ze40 rfl rfl ⟨_, _, [.int .i64 3], _, rfl, rfl, rfl, (Nat.le_of_ble_eq_true rfl), rfl, _, _, [.slice (some ⟨k22, 0, none⟩) (0 + (b.length - 1)) cap23], _, rfl, rfl, rfl, (Nat.le_of_ble_eq_true rfl), rfl, rfl⟩) (Wt.plain rfl) rfl rfl ?_
      refine D.one 10 (by kernel_rfl) ?_
      refine Up.eff rfl (e_storeA wd40 2 rfl rfl rfl rfl (by first | omega | (simp; done) | (simp [-List.getD_eq_getElem?_getD]; omega) | (simp at *; omega) | rfl) (by simp [Value.oneCell']) rfl) (Wt.plain rfl) ?_
      rintro _ _ ⟨rfl, rfl⟩
      refine ⟨fun h => absurd h (by decide), ?_⟩
      change (_ : List Blk → Prop) [_, _, _]
      refine D.done (by kernel_rfl) ?_
      refine Ex.next ?_
      refine W.slots (L' := [(0, _), (2, _), (4, _)]) ⟨rfl, rfl, rfl, trivial⟩ ?_
      refine W.seq ?_
      refine W.seq ?_
      refine W.region ?_
      refine T.q (q_fld fl40_0 rfl rfl) (Wt.plain rfl) rfl rfl ?_
      refine T.q (q_load1 ss3 2 rfl rfl rfl rfl) (Wt.plain rfl) rfl rfl ?_
      refine T.q (q_bool (b := true) (q_eql rfl rfl rfl) (decide_eq_true (by omega))) (Wt.plain rfl) rfl rfl ?_
      refine T.nil ?_
      refine Ex.next ?_
      refine W.slots (L' := [(0, _), (2, _), (4, _), (31, _)]) ⟨rfl, rfl, rfl, rfl, trivial⟩ ?_
      refine W.condT rfl ?_
      refine W.seq ?_
      refine W.region ?_
      refine T.q (q_move rfl rfl) (Wt.plain rfl) rfl rfl ?_
      refine T.q (q_ixE1 sc22 1 (R_ext hB.ext) rfl rfl rfl (rfl) (by omega) (by first | omega | (simp; done) | (simp [-List.getD_eq_getElem?_getD]; omega))) (Wt.plain rfl) rfl rfl ?_
      refine T.q (q_loadE ss5 (R_ext hB.ext) rfl rfl (ints_get (by first | omega | (simp; done) | (simp [-List.getD_eq_getElem?_getD]; omega)))) (Wt.plain rfl) rfl rfl ?_
      refine T.q (q_int (b := b.getD 1 0) (q_conv un5 un3 rfl rfl) (i64_wrap (by omega) (by omega))) (Wt.plain rfl) rfl rfl ?_
      refine T.q (q_fld fl40_1 rfl rfl) (Wt.plain rfl) rfl rfl ?_
      refine T.eff (e_store1 ss3 2 rfl rfl rfl rfl (by simp) rfl rfl) (Wt.plain rfl) ?_
      rintro _ _ ⟨rfl, rfl⟩
      change (_ : List Blk → Prop) [_, _, _]
      refine T.nil ?_
      refine Ex.next ?_
      refine W.slots (L' := [(0, _), (2, _), (4, _)]) ⟨rfl, rfl, rfl, trivial⟩ ?_
      refine W.seq ?_
      refine W.region ?_
      refine T.q (q_move rfl rfl) (Wt.plain rfl) rfl rfl ?_
      refine T.q (q_ixE1 sc22 2 (R_ext hB.ext) rfl rfl rfl (rfl) (by omega) (by first | omega | (simp; done) | (simp [-List.getD_eq_getElem?_getD]; omega))) (Wt.plain rfl) rfl rfl ?_
      refine T.q (q_loadE ss5 (R_ext hB.ext) rfl rfl (ints_get (by first | omega | (simp; done) | (simp [-List.getD_eq_getElem?_getD]; omega)))) (Wt.plain rfl) rfl rfl ?_
      refine T.q (q_int (b := b.getD 2 0) (q_conv un5 un3 rfl rfl) (i64_wrap (by omega) (by omega))) (Wt.plain rfl) rfl rfl ?_
      refine T.q (q_fld fl40_2 rfl rfl) (Wt.plain rfl) rfl rfl ?_
      refine T.eff (e_store1 ss3 2 rfl rfl rfl rfl (by simp) rfl rfl) (Wt.plain rfl) ?_
      rintro _ _ ⟨rfl, rfl⟩
      change (_ : List Blk → Prop) [_, _, _]
      refine T.nil ?_
      refine Ex.next ?_
      refine W.slots (L' := [(0, _), (2, _), (4, _)]) ⟨rfl, rfl, rfl, trivial⟩ ?_
      refine W.seq ?_
      refine W.region ?_
      refine T.q (q_move rfl rfl) (Wt.plain rfl) rfl rfl ?_
      refine T.q (q_sl sc22 3 5 bc rfl rfl ⟨_, _, rfl, rfl⟩ ⟨_, _, rfl, rfl⟩ rfl (by first | omega | (simp; done) | (simp [-List.getD_eq_getElem?_getD]; omega)) (by first | omega | (simp; done) | (simp [-List.getD_eq_getElem?_getD]; omega)) (by first | omega | (simp; done) | (simp [-List.getD_eq_getElem?_getD]; omega)) (by simp)) (Wt.plain rfl) rfl rfl ?_
      refine T.eff (e_call enters29 rfl rfl (fun w hm => reftakef_at (((b).drop 3).take (5 - 3)) _ _ (by first | omega | (simp; done) | (simp; omega) | (simp at *; omega)) (by first | omega | (simp; done) | (simp; omega) | (simp at *; omega)) ((hbb.drop' 3).take _) 2 (by first | omega | (simp; done) | (simp; omega) | (simp at *; omega)) (by first | omega | (simp; done) | (simp; omega) | (simp at *; omega)) (by first | omega | (simp; done) | (simp; omega) | (simp at *; omega)) w ((R_takeI (R_cutI (R_ext hB.ext) (by first | omega | (simp; done) | (simp [-List.getD_eq_getElem?_getD]; omega) | (simp at *; omega) | rfl)) (5 - 3)) w hm) (by first | omega | (simp; done) | (simp [-List.getD_eq_getElem?_getD]; omega) | (simp at *; omega) | rfl)) rfl rfl) (Wt.plain rfl) ?_
      rintro _ _ ⟨_, _, ⟨k26, cap27, junk28, rfl, hc29, rfl⟩, rfl, rfl⟩
      change (_ : List Blk → Prop) [_, _, _, _]
      refine T.q (q_move rfl rfl) (Wt.plain rfl) rfl rfl ?_
      refine T.q (q_int (b := (((pE b) : Nat) : Int)) (q_extract rfl rfl rfl) ?hE) (Wt.plain rfl) rfl rfl ?_
      case hE => rw [pE_tt]
      refine T.q (q_extract rfl rfl rfl) (Wt.plain rfl) rfl rfl ?_
      refine T.q (q_extract rfl rfl rfl) (Wt.plain rfl) rfl rfl ?_
      refine T.q (q_fld fl40_3 rfl rfl) (Wt.plain rfl) rfl rfl ?_
      refine T.eff (e_store1 ss3 2 rfl rfl rfl rfl (by simp) rfl rfl) (Wt.plain rfl) ?_
      rintro _ _ ⟨rfl, rfl⟩
      change (_ : List Blk → Prop) [_, _, _, _]
      refine T.nil ?_
      refine Ex.next ?_
      refine W.less (L' := [(0, _), (2, _), (4, _)]) [true, true, true, false] ⟨rfl, rfl, rfl, trivial⟩ ?_
      change (_ : List Blk → Prop) [_, _, _]
      refine W.seq ?_
      refine W.region ?_
      refine T.q (q_move rfl rfl) (Wt.plain rfl) rfl rfl ?_
      refine T.q (q_sl sc22 5 11 bc rfl rfl ⟨_, _, rfl, rfl⟩ ⟨_, _, rfl, rfl⟩ rfl (by first | omega | (simp; done) | (simp [-List.getD_eq_getElem?_getD]; omega)) (by first | omega | (simp; done) | (simp [-List.getD_eq_getElem?_getD]; omega)) (by first | omega | (simp; done) | (simp [-List.getD_eq_getElem?_getD]; omega)) (by simp)) (Wt.plain rfl) rfl rfl ?_
      refine T.eff (e_call enters29 rfl rfl (fun w hm => reftakef_at (((b).drop 5).take (11 - 5)) _ _ (by first | omega | (simp; done) | (simp; omega) | (simp at *; omega)) (by first | omega | (simp; done) | (simp; omega) | (simp at *; omega)) ((hbb.drop' 5).take _) 6 (by first | omega | (simp; done) | (simp; omega) | (simp at *; omega)) (by first | omega | (simp; done) | (simp; omega) | (simp at *; omega)) (by first | omega | (simp; done) | (simp; omega) | (simp at *; omega)) w ((R_takeI (R_cutI (R_ext hB.ext) (by first | omega | (simp; done) | (simp [-List.getD_eq_getElem?_getD]; omega) | (simp at *; omega) | rfl)) (11 - 5)) w hm) (by first | omega | (simp; done) | (simp [-List.getD_eq_getElem?_getD]; omega) | (simp at *; omega) | rfl)) rfl rfl) (Wt.plain rfl) ?_
      rintro _ _ ⟨_, _, ⟨k30, cap31, junk32, rfl, hc33, rfl⟩, rfl, rfl⟩
      change (_ : List Blk → Prop) [_, _, _, _]
      refine T.q (q_move rfl rfl) (Wt.plain rfl) rfl rfl ?_
      refine T.q (q_int (b := (((pC b) : Nat) : Int)) (q_extract rfl rfl rfl) ?hE) (Wt.plain rfl) rfl rfl ?_
      case hE => rw [pC_tt]
      refine T.q (q_extract rfl rfl rfl) (Wt.plain rfl) rfl rfl ?_
      refine T.q (q_extract rfl rfl rfl) (Wt.plain rfl) rfl rfl ?_
      refine T.q (q_fld fl40_4 rfl rfl) (Wt.plain rfl) rfl rfl ?_
      refine T.eff (e_store1 ss3 2 rfl rfl rfl rfl (by simp) rfl rfl) (Wt.plain rfl) ?_
      rintro _ _ ⟨rfl, rfl⟩
      change (_ : List Blk → Prop) [_, _, _, _]
      refine T.nil ?_
      refine Ex.next ?_
      refine W.less (L' := [(0, _), (2, _), (4, _)]) [true, true, true, false] ⟨rfl, rfl, rfl, trivial⟩ ?_
      change (_ : List Blk → Prop) [_, _, _]
      refine W.region ?_
      refine T.eff (e_litA sc22 ze5 rfl rfl rfl (by simp [Value.cells]) rfl rfl rfl) (Wt.plain rfl) ?_
      rintro _ _ ⟨k34, rfl, rfl⟩
      change (_ : List Blk → Prop) [_, _, _, _]
      refine T.q (q_move rfl rfl) (Wt.plain rfl) rfl rfl ?_
      refine T.q (q_sl sc22 11 b.length bc rfl rfl ⟨_, _, rfl, rfl⟩ rfl rfl (by first | omega | (simp; done) | (simp [-List.getD_eq_getElem?_getD]; omega)) (by first | omega | (simp; done) | (simp [-List.getD_eq_getElem?_getD]; omega)) (by first | omega | (simp; done) | (simp [-List.getD_eq_getElem?_getD]; omega)) (by simp)) (Wt.plain rfl) rfl rfl ?_
      refine T.eff (e_appendI sc22 ze5 rfl 3 .u8 [] ((b).drop 11) [] ((List.append_nil _).symm) (R_cutI (R_ext hB.ext) (by first | omega | (simp; done) | (simp [-List.getD_eq_getElem?_getD]; omega) | (simp at *; omega) | rfl)) rfl rfl rfl rfl (by first | omega | (simp; done) | (simp [-List.getD_eq_getElem?_getD]; omega) | (simp at *; omega) | rfl) (by first | omega | (simp; done) | (simp [-List.getD_eq_getElem?_getD]; omega) | (simp at *; omega) | rfl) (by first | omega | (simp; done) | (simp [-List.getD_eq_getElem?_getD]; omega) | (simp at *; omega) | rfl) (by first | omega | (simp; done) | (simp [-List.getD_eq_getElem?_getD]; omega)) (by first | omega | (simp; done) | (simp [-List.getD_eq_getElem?_getD]; omega)) rfl rfl) (Wt.plain rfl) ?_
      rintro _ _ ⟨k35, cap36, junk37, hc38, rfl, rfl⟩
      change (_ : List Blk → Prop) [_, _, _, _]
      change (_ : List Blk → Prop) [_, _, _, ⟨some k35, ints .u8 (b.drop 11) ++ junk37, 5, (0, 0)⟩]
      refine T.q (q_fld fl40_5 rfl rfl) (Wt.plain rfl) rfl rfl ?_
      refine T.eff (e_store1 ss22 2 rfl rfl rfl rfl (by simp) rfl rfl) (Wt.plain rfl) ?_
      rintro _ _ ⟨rfl, rfl⟩
      change (_ : List Blk → Prop) [_, _, _, _]
      refine T.nil ?_
      refine Ex.next ?_
      refine W.less (L' := [(2, _), (4, _)]) [true, false, true, true] ⟨rfl, rfl, trivial⟩ ?_
      change (_ : List Blk → Prop) [_, _, _]
      refine W.seq ?_
      refine W.seq ?_
      refine W.region ?_
      refine T.q (q_loadW wd40 (R_blk 1 rfl) rfl rfl) (Wt.plain rfl) rfl rfl ?_
      refine T.eff (e_call enters42 rfl rfl (fun w hm => may_true (by first | assumption | (unfold recP; omega) | (unfold othP; omega) | (unfold mayP recP othP at *; omega) | (unfold recP at *; omega)) w) rfl rfl) (Wt.plain rfl) ?_
      rintro _ _ ⟨_, _, ⟨rfl, rfl⟩, rfl, rfl⟩
      change (_ : List Blk → Prop) [_, _, _]
      refine T.q (q_not rfl rfl) (Wt.plain rfl) rfl rfl ?_
      refine T.nil ?_
      refine Ex.next ?_
      refine W.slots (L' := [(2, _), (4, _), (65, _)]) ⟨rfl, rfl, rfl, trivial⟩ ?_
      refine W.condF rfl ?_
      refine W.skip ?_
      refine Ex.next ?_
      refine W.slots (L' := [(2, _), (4, _)]) ⟨rfl, rfl, trivial⟩ ?_
      refine W.seq ?_
      refine W.region ?_
      refine T.q (q_loadW wd40 (R_blk 1 rfl) rfl rfl) (Wt.plain rfl) rfl rfl ?_
      refine T.eff (e_storeA wd40 0 rfl rfl rfl rfl (by first | omega | (simp; done) | (simp [-List.getD_eq_getElem?_getD]; omega) | (simp at *; omega) | rfl) (by simp [Value.oneCell']) rfl) (Wt.plain rfl) ?_
      rintro _ _ ⟨rfl, rfl⟩
      change (_ : List Blk → Prop) [_, _, _]
      refine T.q (q_assign rfl rfl) (Wt.plain rfl) rfl rfl ?_
      refine T.nil ?_
      refine Ex.next ?_
      refine W.less (L' := [(2, _), (3, _)]) [true, false, true] ⟨rfl, rfl, trivial⟩ ?_
      change (_ : List Blk → Prop) [_, _]
      refine W.ret ?_
      refine Ex.outCT [false, true] 0 rfl (by exact wd40) rfl rfl rfl ?_
      exact ⟨some _, _, _, by have e := Nat.zero_add (b.length - 11); rw [e]; rfl, by omega, rfl⟩
  ·
    refine Up.eff rfl (e_alloc ze40 rfl rfl rfl) (Wt.plain rfl) ?_
    rintro _ _ ⟨k39, rfl, rfl⟩
    refine ⟨fun _ => (S_sub (((List.Sublist.slnil).cons _).cons_cons _)), ?_⟩
    change (_ : List Blk → Prop) [_, _]
    refine D.one 4 (by kernel_rfl) ?_
    refine Up.eff rfl (e_litA sc22 ze5 rfl rfl rfl (by simp [Value.cells]) rfl rfl rfl) (Wt.plain rfl) ?_
    rintro _ _ ⟨k40, rfl, rfl⟩
    refine ⟨fun _ => (S_sub ((((List.Sublist.slnil).cons _).cons _).cons_cons _)), ?_⟩
    change (_ : List Blk → Prop) [_, _, _]
    refine D.one 7 (by kernel_rfl) ?_
    refine Up.eff rfl (e_appendI sc22 ze5 rfl 2 .u8 [] ((b).drop 1) [] ((List.append_nil _).symm) (R_cutI (R_ext hB.ext) (by first | omega | (simp; done) | (simp [-List.getD_eq_getElem?_getD]; omega) | (simp at *; omega) | rfl)) rfl rfl rfl rfl (by first | omega | (simp; done) | (simp [-List.getD_eq_getElem?_getD]; omega) | (simp at *; omega) | rfl) (by first | omega | (simp; done) | (simp [-List.getD_eq_getElem?_getD]; omega) | (simp at *; omega) | rfl) (by first | omega | (simp; done) | (simp [-List.getD_eq_getElem?_getD]; omega) | (simp at *; omega) | rfl) (by first | omega | (simp; done) | (simp [-List.getD_eq_getElem?_getD]; omega)) (by first | omega | (simp; done) | (simp [-List.getD_eq_getElem?_getD]; omega)) rfl rfl) (Wt.plain rfl) ?_
    rintro _ _ ⟨k41, cap42, junk43, hc44, rfl, rfl⟩
    refine ⟨fun _ => (S_sub ((((List.Sublist.slnil).cons _).cons _).cons_cons _)), ?_⟩
    change (_ : List Blk → Prop) [_, _, _]
    change (_ : List Blk → Prop) [_, _, ⟨some k41, ints .u8 (b.drop 1) ++ junk43, 5, (0, 0)⟩]
    refine D.take 8 rfl (by kernel_rfl) (S_sub ((((List.Sublist.slnil).cons _).cons _).cons_cons _)) (q_buildP (cells := [.int .i64 3, .int .i64 0, .int .i64 0, .int .i64 0, .int .i64 0, .slice (some ⟨k41, 0, none⟩) (0 + (b.length - 1)) cap42]) bp40 ze40 rfl rfl ⟨_, _, [.int .i64 3], _, rfl, rfl, rfl, (Nat.le_of_ble_eq_true rfl), rfl, _, _, [.slice (some ⟨k41, 0, none⟩) (0 + (b.length - 1)) cap42], _, rfl, rfl, rfl, (Nat.le_of_ble_eq_true rfl), rfl, rfl⟩) (Wt.plain rfl) rfl rfl ?_
    refine D.one 10 (by kernel_rfl) ?_
    refine Up.eff rfl (e_storeA wd40 1 rfl rfl rfl rfl (by first | omega | (simp; done) | (simp [-List.getD_eq_getElem?_getD]; omega) | (simp at *; omega) | rfl) (by simp [Value.oneCell']) rfl) (Wt.plain rfl) ?_
    rintro _ _ ⟨rfl, rfl⟩
    refine ⟨fun h => absurd h (by decide), ?_⟩
    change (_ : List Blk → Prop) [_, _, _]
    refine D.done (by kernel_rfl) ?_
    refine Ex.next ?_
    refine W.slots (L' := [(0, _), (2, _), (4, _)]) ⟨rfl, rfl, rfl, trivial⟩ ?_
    refine W.seq ?_
    refine W.seq ?_
    refine W.region ?_
    refine T.q (q_fld fl40_0 rfl rfl) (Wt.plain rfl) rfl rfl ?_
    refine T.q (q_load1 ss3 1 rfl rfl rfl rfl) (Wt.plain rfl) rfl rfl ?_
    refine T.q (q_bool (b := true) (q_eql rfl rfl rfl) (decide_eq_true (by omega))) (Wt.plain rfl) rfl rfl ?_
    refine T.nil ?_
    refine Ex.next ?_
    refine W.slots (L' := [(0, _), (2, _), (4, _), (31, _)]) ⟨rfl, rfl, rfl, rfl, trivial⟩ ?_
    refine W.condT rfl ?_
    refine W.seq ?_
    refine W.region ?_
    refine T.q (q_move rfl rfl) (Wt.plain rfl) rfl rfl ?_
    refine T.q (q_ixE1 sc22 1 (R_ext hB.ext) rfl rfl rfl (rfl) (by omega) (by first | omega | (simp; done) | (simp [-List.getD_eq_getElem?_getD]; omega))) (Wt.plain rfl) rfl rfl ?_
    refine T.q (q_loadE ss5 (R_ext hB.ext) rfl rfl (ints_get (by first | omega | (simp; done) | (simp [-List.getD_eq_getElem?_getD]; omega)))) (Wt.plain rfl) rfl rfl ?_
    refine T.q (q_int (b := b.getD 1 0) (q_conv un5 un3 rfl rfl) (i64_wrap (by omega) (by omega))) (Wt.plain rfl) rfl rfl ?_
    refine T.q (q_fld fl40_1 rfl rfl) (Wt.plain rfl) rfl rfl ?_
    refine T.eff (e_store1 ss3 1 rfl rfl rfl rfl (by simp) rfl rfl) (Wt.plain rfl) ?_
    rintro _ _ ⟨rfl, rfl⟩
    change (_ : List Blk → Prop) [_, _, _]
    refine T.nil ?_
    refine Ex.next ?_
    refine W.slots (L' := [(0, _), (2, _), (4, _)]) ⟨rfl, rfl, rfl, trivial⟩ ?_
    refine W.seq ?_
    refine W.region ?_
    refine T.q (q_move rfl rfl) (Wt.plain rfl) rfl rfl ?_
    refine T.q (q_ixE1 sc22 2 (R_ext hB.ext) rfl rfl rfl (rfl) (by omega) (by first | omega | (simp; done) | (simp [-List.getD_eq_getElem?_getD]; omega))) (Wt.plain rfl) rfl rfl ?_
    refine T.q (q_loadE ss5 (R_ext hB.ext) rfl rfl (ints_get (by first | omega | (simp; done) | (simp [-List.getD_eq_getElem?_getD]; omega)))) (Wt.plain rfl) rfl rfl ?_
    refine T.q (q_int (b := b.getD 2 0) (q_conv un5 un3 rfl rfl) (i64_wrap (by omega) (by omega))) (Wt.plain rfl) rfl rfl ?_
    refine T.q (q_fld fl40_2 rfl rfl) (Wt.plain rfl) rfl rfl ?_
    refine T.eff (e_store1 ss3 1 rfl rfl rfl rfl (by simp) rfl rfl) (Wt.plain rfl) ?_
    rintro _ _ ⟨rfl, rfl⟩
    change (_ : List Blk → Prop) [_, _, _]
    refine T.nil ?_
    refine Ex.next ?_
    refine W.slots (L' := [(0, _), (2, _), (4, _)]) ⟨rfl, rfl, rfl, trivial⟩ ?_
    refine W.seq ?_
    refine W.region ?_
    refine T.q (q_move rfl rfl) (Wt.plain rfl) rfl rfl ?_
    refine T.q (q_sl sc22 3 5 bc rfl rfl ⟨_, _, rfl, rfl⟩ ⟨_, _, rfl, rfl⟩ rfl (by first | omega | (simp; done) | (simp [-List.getD_eq_getElem?_getD]; omega)) (by first | omega | (simp; done) | (simp [-List.getD_eq_getElem?_getD]; omega)) (by first | omega | (simp; done) | (simp [-List.getD_eq_getElem?_getD]; omega)) (by simp)) (Wt.plain rfl) rfl rfl ?_
    refine T.eff (e_call enters29 rfl rfl (fun w hm => reftakef_at (((b).drop 3).take (5 - 3)) _ _ (by first | omega | (simp; done) | (simp; omega) | (simp at *; omega)) (by first | omega | (simp; done) | (simp; omega) | (simp at *; omega)) ((hbb.drop' 3).take _) 2 (by first | omega | (simp; done) | (simp; omega) | (simp at *; omega)) (by first | omega | (simp; done) | (simp; omega) | (simp at *; omega)) (by first | omega | (simp; done) | (simp; omega) | (simp at *; omega)) w ((R_takeI (R_cutI (R_ext hB.ext) (by first | omega | (simp; done) | (simp [-List.getD_eq_getElem?_getD]; omega) | (simp at *; omega) | rfl)) (5 - 3)) w hm) (by first | omega | (simp; done) | (simp [-List.getD_eq_getElem?_getD]; omega) | (simp at *; omega) | rfl)) rfl rfl) (Wt.plain rfl) ?_
    rintro _ _ ⟨_, _, ⟨k45, cap46, junk47, rfl, hc48, rfl⟩, rfl, rfl⟩
    change (_ : List Blk → Prop) [_, _, _, _]
    refine T.q (q_move rfl rfl) (Wt.plain rfl) rfl rfl ?_
    refine T.q (q_int (b := (((pE b) : Nat) : Int)) (q_extract rfl rfl rfl) ?hE) (Wt.plain rfl) rfl rfl ?_
    case hE => rw [pE_tt]
    refine T.q (q_extract rfl rfl rfl) (Wt.plain rfl) rfl rfl ?_
    refine T.q (q_extract rfl rfl rfl) (Wt.plain rfl) rfl rfl ?_
    refine T.q (q_fld fl40_3 rfl rfl) (Wt.plain rfl) rfl rfl ?_
    refine T.eff (e_store1 ss3 1 rfl rfl rfl rfl (by simp) rfl rfl) (Wt.plain rfl) ?_
    rintro _ _ ⟨rfl, rfl⟩
    change (_ : List Blk → Prop) [_, _, _, _]
    refine T.nil ?_
    refine Ex.next ?_
    refine W.less (L' := [(0, _), (2, _), (4, _)]) [true, true, true, false] ⟨rfl, rfl, rfl, trivial⟩ ?_
    change (_ : List Blk → Prop) [_, _, _]
    refine W.seq ?_
    refine W.region ?_
    refine T.q (q_move rfl rfl) (Wt.plain rfl) rfl rfl ?_
    refine T.q (q_sl sc22 5 11 bc rfl rfl ⟨_, _, rfl, rfl⟩ ⟨_, _, rfl, rfl⟩ rfl (by first | omega | (simp; done) | (simp [-List.getD_eq_getElem?_getD]; omega)) (by first | omega | (simp; done) | (simp [-List.getD_eq_getElem?_getD]; omega)) (by first | omega | (simp; done) | (simp [-List.getD_eq_getElem?_getD]; omega)) (by simp)) (Wt.plain rfl) rfl rfl ?_
    refine T.eff (e_call enters29 rfl rfl (fun w hm => reftakef_at (((b).drop 5).take (11 - 5)) _ _ (by first | omega | (simp; done) | (simp; omega) | (simp at *; omega)) (by first | omega | (simp; done) | (simp; omega) | (simp at *; omega)) ((hbb.drop' 5).take _) 6 (by first | omega | (simp; done) | (simp; omega) | (simp at *; omega)) (by first | omega | (simp; done) | (simp; omega) | (simp at *; omega)) (by first | omega | (simp; done) | (simp; omega) | (simp at *; omega)) w ((R_takeI (R_cutI (R_ext hB.ext) (by first | omega | (simp; done) | (simp [-List.getD_eq_getElem?_getD]; omega) | (simp at *; omega) | rfl)) (11 - 5)) w hm) (by first | omega | (simp; done) | (simp [-List.getD_eq_getElem?_getD]; omega) | (simp at *; omega) | rfl)) rfl rfl) (Wt.plain rfl) ?_
    rintro _ _ ⟨_, _, ⟨k49, cap50, junk51, rfl, hc52, rfl⟩, rfl, rfl⟩
    change (_ : List Blk → Prop) [_, _, _, _]
    refine T.q (q_move rfl rfl) (Wt.plain rfl) rfl rfl ?_
    refine T.q (q_int (b := (((pC b) : Nat) : Int)) (q_extract rfl rfl rfl) ?hE) (Wt.plain rfl) rfl rfl ?_
    case hE => rw [pC_tt]
    refine T.q (q_extract rfl rfl rfl) (Wt.plain rfl) rfl rfl ?_
    refine T.q (q_extract rfl rfl rfl) (Wt.plain rfl) rfl rfl ?_
    refine T.q (q_fld fl40_4 rfl rfl) (Wt.plain rfl) rfl rfl ?_
    refine T.eff (e_store1 ss3 1 rfl rfl rfl rfl (by simp) rfl rfl) (Wt.plain rfl) ?_
    rintro _ _ ⟨rfl, rfl⟩
    change (_ : List Blk → Prop) [_, _, _, _]
    refine T.nil ?_
    refine Ex.next ?_
    refine W.less (L' := [(0, _), (2, _), (4, _)]) [true, true, true, false] ⟨rfl, rfl, rfl, trivial⟩ ?_
    change (_ : List Blk → Prop) [_, _, _]
    refine W.region ?_
    refine T.eff (e_litA sc22 ze5 rfl rfl rfl (by simp [Value.cells]) rfl rfl rfl) (Wt.plain rfl) ?_
    rintro _ _ ⟨k53, rfl, rfl⟩
    change (_ : List Blk → Prop) [_, _, _, _]
    refine T.q (q_move rfl rfl) (Wt.plain rfl) rfl rfl ?_
    refine T.q (q_sl sc22 11 b.length bc rfl rfl ⟨_, _, rfl, rfl⟩ rfl rfl (by first | omega | (simp; done) | (simp [-List.getD_eq_getElem?_getD]; omega)) (by first | omega | (simp; done) | (simp [-List.getD_eq_getElem?_getD]; omega)) (by first | omega | (simp; done) | (simp [-List.getD_eq_getElem?_getD]; omega)) (by simp)) (Wt.plain rfl) rfl rfl ?_
    refine T.eff (e_appendI sc22 ze5 rfl 3 .u8 [] ((b).drop 11) [] ((List.append_nil _).symm) (R_cutI (R_ext hB.ext) (by first | omega | (simp; done) | (simp [-List.getD_eq_getElem?_getD]; omega) | (simp at *; omega) | rfl)) rfl rfl rfl rfl (by first | omega | (simp; done) | (simp [-List.getD_eq_getElem?_getD]; omega) | (simp at *; omega) | rfl) (by first | omega | (simp; done) | (simp [-List.getD_eq_getElem?_getD]; omega) | (simp at *; omega) | rfl) (by first | omega | (simp; done) | (simp [-List.getD_eq_getElem?_getD]; omega) | (simp at *; omega) | rfl) (by first | omega | (simp; done) | (simp [-List.getD_eq_getElem?_getD]; omega)) (by first | omega | (simp; done) | (simp [-List.getD_eq_getElem?_getD]; omega)) rfl rfl) (Wt.plain rfl) ?_
    rintro _ _ ⟨k54, cap55, junk56, hc57, rfl, rfl⟩
    change (_ : List Blk → Prop) [_, _, _, _]
    change (_ : List Blk → Prop) [_, _, _, ⟨some k54, ints .u8 (b.drop 11) ++ junk56, 5, (0, 0)⟩]
    refine T.q (q_fld fl40_5 rfl rfl) (Wt.plain rfl) rfl rfl ?_
    refine T.eff (e_store1 ss22 1 rfl rfl rfl rfl (by simp) rfl rfl) (Wt.plain rfl) ?_
    rintro _ _ ⟨rfl, rfl⟩
    change (_ : List Blk → Prop) [_, _, _, _]
    refine T.nil ?_
    refine Ex.next ?_
    refine W.less (L' := [(2, _), (4, _)]) [true, true, false, true] ⟨rfl, rfl, trivial⟩ ?_
    change (_ : List Blk → Prop) [_, _, _]
    refine W.seq ?_
    refine W.seq ?_
    refine W.region ?_
    refine T.q (q_loadW wd40 (R_blk 1 rfl) rfl rfl) (Wt.plain rfl) rfl rfl ?_
    refine T.eff (e_call enters42 rfl rfl (fun w hm => may_true (by first | assumption | (unfold recP; omega) | (unfold othP; omega) | (unfold mayP recP othP at *; omega) | (unfold recP at *; omega)) w) rfl rfl) (Wt.plain rfl) ?_
    rintro _ _ ⟨_, _, ⟨rfl, rfl⟩, rfl, rfl⟩
    change (_ : List Blk → Prop) [_, _, _]
    refine T.q (q_not rfl rfl) (Wt.plain rfl) rfl rfl ?_
    refine T.nil ?_
    refine Ex.next ?_
    refine W.slots (L' := [(2, _), (4, _), (65, _)]) ⟨rfl, rfl, rfl, trivial⟩ ?_
    refine W.condF rfl ?_
    refine W.skip ?_
    refine Ex.next ?_
    refine W.slots (L' := [(2, _), (4, _)]) ⟨rfl, rfl, trivial⟩ ?_
    refine W.seq ?_
    refine W.region ?_
    refine T.q (q_loadW wd40 (R_blk 1 rfl) rfl rfl) (Wt.plain rfl) rfl rfl ?_
    refine T.eff (e_storeA wd40 0 rfl rfl rfl rfl (by first | omega | (simp; done) | (simp [-List.getD_eq_getElem?_getD]; omega) | (simp at *; omega) | rfl) (by simp [Value.oneCell']) rfl) (Wt.plain rfl) ?_
    rintro _ _ ⟨rfl, rfl⟩
    change (_ : List Blk → Prop) [_, _, _]
    refine T.q (q_assign rfl rfl) (Wt.plain rfl) rfl rfl ?_
    refine T.nil ?_
    refine Ex.next ?_
    refine W.less (L' := [(2, _), (3, _)]) [true, false, true] ⟨rfl, rfl, trivial⟩ ?_
    change (_ : List Blk → Prop) [_, _]
    refine W.ret ?_
    refine Ex.outCT [false, true] 0 rfl (by exact wd40) rfl rfl rfl ?_
    exact ⟨some _, _, _, by have e := Nat.zero_add (b.length - 11); rw [e]; rfl, by omega, rfl⟩
set_option maxRecDepth 100000 in
theorem refparse_Rbad (b : List Int) (BA : Option Addr) (bc : Nat) (_hbc : b.length ≤ bc) (hbl : b.length ≤ 140737488354000) (hbb : Bytes b) (h0 : b.getD 0 0 = 3) (hge : 27 ≤ b.length) (hbad : 1 < b.getD 1 0 ∨ 283 < b.length) (w0 : World) (hB : Reads w0 BA (ints .u8 b)) : Does Try.prog 40 #[.slice BA b.length bc] w0 [] (fun v G => v = .tuple #[.agg #[.int .i64 0, .int .i64 0, .int .i64 0, .int .i64 0, .int .i64 0, .slice none 0 0], .int .i64 110] ∧ G = []) := by
  have hb0 := hbb.getD 0
  have hb1 := hbb.getD 1
  have hb2 := hbb.getD 2
  have hE := pE_lt hbb
  have hC := pC_lt hbb
  refine spec_of 68 Try.func40 rfl rfl rfl ?_
  refine W.seq ?_
  refine W.region ?_
  refine T.eff (e_alloc ze40 rfl rfl rfl) (Wt.plain rfl) ?_
  rintro _ _ ⟨k1, rfl, rfl⟩
  change (_ : List Blk → Prop) [_]
  refine T.q (q_assign rfl rfl) (Wt.plain rfl) rfl rfl ?_
  refine T.nil ?_
  refine Ex.next ?_
  refine W.slots (L' := [(0, _), (2, _)]) ⟨rfl, rfl, trivial⟩ ?_
  refine W.seq ?_
  refine W.seq ?_
  refine W.region ?_
  refine T.q (q_move rfl rfl) (Wt.plain rfl) rfl rfl ?_
  refine T.q (q_len sc22 rfl rfl) (Wt.plain rfl) rfl rfl ?_
  refine T.q (q_bool (b := false) (q_eql rfl rfl rfl) (decide_eq_false (by omega))) (Wt.plain rfl) rfl rfl ?_
  refine T.q (q_move rfl rfl) (Wt.plain rfl) rfl rfl ?_
  refine T.q (q_move rfl rfl) (Wt.yes rfl rfl rfl) rfl rfl ?_
  refine T.q (q_ixE1 sc22 0 (R_ext hB.ext) rfl rfl rfl (rfl) (by omega) (by first | omega | (simp; done) | (simp [-List.getD_eq_getElem?_getD]; omega))) (Wt.yes rfl rfl rfl) rfl rfl ?_
  refine T.q (q_loadE ss5 (R_ext hB.ext) rfl rfl (ints_get (by first | omega | (simp; done) | (simp [-List.getD_eq_getElem?_getD]; omega)))) (Wt.yes rfl rfl rfl) rfl rfl ?_
  refine T.q (q_bool (b := true) (q_eql rfl rfl rfl) (decide_eq_true (by omega))) (Wt.yes rfl rfl rfl) rfl rfl ?_
  refine T.q (q_move rfl rfl) (Wt.yes rfl rfl rfl) rfl rfl ?_
  refine T.q (q_move rfl rfl) (Wt.yes rfl rfl rfl) rfl rfl ?_
  refine T.q (q_len sc22 rfl rfl) (Wt.yes rfl rfl rfl) rfl rfl ?_
  refine T.q (q_bool (b := false) (q_lss rfl rfl rfl) (decide_eq_false (by omega))) (Wt.yes rfl rfl rfl) rfl rfl ?_
  refine T.q (q_pickT rfl rfl rfl) (Wt.yes rfl rfl rfl) rfl rfl ?_
  refine T.q (q_pickF rfl rfl rfl) (Wt.plain rfl) rfl rfl ?_
  refine T.nil ?_
  refine Ex.next ?_
  refine W.slots (L' := [(0, _), (2, _), (18, _)]) ⟨rfl, rfl, rfl, trivial⟩ ?_
  refine W.condF rfl ?_
  refine W.skip ?_
  refine Ex.next ?_
  refine W.slots (L' := [(0, _), (2, _)]) ⟨rfl, rfl, trivial⟩ ?_
  refine W.seq ?_
  refine W.draw 10 (by kernel_rfl) ?_
  refine D.take 0 rfl (by kernel_rfl) (fun _ h => h) (q_move rfl rfl) (Wt.plain rfl) rfl rfl ?_
  refine D.take 1 rfl (by kernel_rfl) (fun _ h => h) (q_ixE1 sc22 0 (R_ext hB.ext) rfl rfl rfl (rfl) (by omega) (by first | omega | (simp; done) | (simp [-List.getD_eq_getElem?_getD]; omega))) (Wt.plain rfl) rfl rfl ?_
  refine D.take 2 rfl (by kernel_rfl) (fun _ h => h) (q_loadE ss5 (R_ext hB.ext) rfl rfl (ints_get (by first | omega | (simp; done) | (simp [-List.getD_eq_getElem?_getD]; omega)))) (Wt.plain rfl) rfl rfl ?_
  refine D.take 3 rfl (by kernel_rfl) (fun _ h => h) (q_int (b := 3) (q_conv un5 un3 rfl rfl) ?hE) (Wt.plain rfl) rfl rfl ?_
  case hE => rw [h0]; rfl
  refine D.take 5 rfl (by kernel_rfl) (fun _ h => h) (q_move rfl rfl) (Wt.plain rfl) rfl rfl ?_
  refine D.take 6 rfl (by kernel_rfl) (fun _ h => h) (q_sl sc22 1 b.length bc rfl rfl ⟨_, _, rfl, rfl⟩ rfl rfl (by first | omega | (simp; done) | (simp [-List.getD_eq_getElem?_getD]; omega)) (by first | omega | (simp; done) | (simp [-List.getD_eq_getElem?_getD]; omega)) (by first | omega | (simp; done) | (simp [-List.getD_eq_getElem?_getD]; omega)) (by simp)) (Wt.plain rfl) rfl rfl ?_
  refine D.two 4 9 (by kernel_rfl) ?_ ?_
  ·
    refine Up.eff rfl (e_litA sc22 ze5 rfl rfl rfl (by simp [Value.cells]) rfl rfl rfl) (Wt.plain rfl) ?_
    rintro _ _ ⟨k2, rfl, rfl⟩
    refine ⟨fun _ => (S_sub (((List.Sublist.slnil).cons _).cons_cons _)), ?_⟩
    change (_ : List Blk → Prop) [_, _]
    refine D.two 7 9 (by kernel_rfl) ?_ ?_
    ·
      refine Up.eff rfl (e_appendI sc22 ze5 rfl 1 .u8 [] ((b).drop 1) [] ((List.append_nil _).symm) (R_cutI (R_ext hB.ext) (by first | omega | (simp; done) | (simp [-List.getD_eq_getElem?_getD]; omega) | (simp at *; omega) | rfl)) rfl rfl rfl rfl (by first | omega | (simp; done) | (simp [-List.getD_eq_getElem?_getD]; omega) | (simp at *; omega) | rfl) (by first | omega | (simp; done) | (simp [-List.getD_eq_getElem?_getD]; omega) | (simp at *; omega) | rfl) (by first | omega | (simp; done) | (simp [-List.getD_eq_getElem?_getD]; omega) | (simp at *; omega) | rfl) (by first | omega | (simp; done) | (simp [-List.getD_eq_getElem?_getD]; omega)) (by first | omega | (simp; done) | (simp [-List.getD_eq_getElem?_getD]; omega)) rfl rfl) (Wt.plain rfl) ?_
      rintro _ _ ⟨k3, cap4, junk5, hc6, rfl, rfl⟩
      refine ⟨fun _ => (S_sub (((List.Sublist.slnil).cons _).cons_cons _)), ?_⟩
      change (_ : List Blk → Prop) [_, _]
      change (_ : List Blk → Prop) [_, ⟨some k3, ints .u8 (b.drop 1) ++ junk5, 5, (0, 0)⟩]
      refine D.take 8 rfl (by kernel_rfl) (S_sub (((List.Sublist.slnil).cons _).cons_cons _)) (q_buildP (cells := [.int .i64 3, .int .i64 0, .int .i64 0, .int .i64 0, .int .i64 0, .slice (some ⟨k3, 0, none⟩) (0 + (b.length - 1)) cap4]) bp40 ze40 rfl rfl ⟨_, _, [.int .i64 3], _, rfl, rfl, rfl, (Nat.le_of_ble_eq_true rfl), rfl, _, _, [.slice (some ⟨k3, 0, none⟩) (0 + (b.length - 1)) cap4], _, rfl, rfl, rfl, (Nat.le_of_ble_eq_true rfl), rfl, rfl⟩) (Wt.plain rfl) rfl rfl ?_
      refine D.one 9 (by kernel_rfl) ?_
      refine Up.eff rfl (e_alloc ze40 rfl rfl rfl) (Wt.plain rfl) ?_
      rintro _ _ ⟨k7, rfl, rfl⟩
      refine ⟨fun _ => (S_sub ((((List.Sublist.slnil).cons _).cons _).cons_cons _)), ?_⟩
      change (_ : List Blk → Prop) [_, _, _]
      refine D.one 10 (by kernel_rfl) ?_
      refine Up.eff rfl (e_storeA wd40 2 rfl rfl rfl rfl (by first | omega | (simp; done) | (simp [-List.getD_eq_getElem?_getD]; omega) | (simp at *; omega) | rfl) (by simp [Value.oneCell']) rfl) (Wt.plain rfl) ?_
      rintro _ _ ⟨rfl, rfl⟩
      refine ⟨fun h => absurd h (by decide), ?_⟩
      change (_ : List Blk → Prop) [_, _, _]
      refine D.done (by kernel_rfl) ?_
      refine Ex.next ?_
      refine W.slots (L' := [(0, _), (2, _), (4, _)]) ⟨rfl, rfl, rfl, trivial⟩ ?_
      refine W.seq ?_
      refine W.seq ?_
      refine W.region ?_
      refine T.q (q_fld fl40_0 rfl rfl) (Wt.plain rfl) rfl rfl ?_
      refine T.q (q_load1 ss3 2 rfl rfl rfl rfl) (Wt.plain rfl) rfl rfl ?_
      refine T.q (q_bool (b := true) (q_eql rfl rfl rfl) (decide_eq_true (by omega))) (Wt.plain rfl) rfl rfl ?_
      refine T.nil ?_
      refine Ex.next ?_
      refine W.slots (L' := [(0, _), (2, _), (4, _), (31, _)]) ⟨rfl, rfl, rfl, rfl, trivial⟩ ?_
      refine W.condT rfl ?_
      refine W.seq ?_
      refine W.region ?_
      refine T.q (q_move rfl rfl) (Wt.plain rfl) rfl rfl ?_
      refine T.q (q_ixE1 sc22 1 (R_ext hB.ext) rfl rfl rfl (rfl) (by omega) (by first | omega | (simp; done) | (simp [-List.getD_eq_getElem?_getD]; omega))) (Wt.plain rfl) rfl rfl ?_
      refine T.q (q_loadE ss5 (R_ext hB.ext) rfl rfl (ints_get (by first | omega | (simp; done) | (simp [-List.getD_eq_getElem?_getD]; omega)))) (Wt.plain rfl) rfl rfl ?_
      refine T.q (q_int (b := b.getD 1 0) (q_conv un5 un3 rfl rfl) (i64_wrap (by omega) (by omega))) (Wt.plain rfl) rfl rfl ?_
      refine T.q (q_fld fl40_1 rfl rfl) (Wt.plain rfl) rfl rfl ?_
      refine T.eff (e_store1 ss3 2 rfl rfl rfl rfl (by simp) rfl rfl) (Wt.plain rfl) ?_
      rintro _ _ ⟨rfl, rfl⟩
      change (_ : List Blk → Prop) [_, _, _]
      refine T.nil ?_
      refine Ex.next ?_
      refine W.slots (L' := [(0, _), (2, _), (4, _)]) ⟨rfl, rfl, rfl, trivial⟩ ?_
      refine W.seq ?_
      refine W.region ?_
      refine T.q (q_move rfl rfl) (Wt.plain rfl) rfl rfl ?_
      refine T.q (q_ixE1 sc22 2 (R_ext hB.ext) rfl rfl rfl (rfl) (by omega) (by first | omega | (simp; done) | (simp [-List.getD_eq_getElem?_getD]; omega))) (Wt.plain rfl) rfl rfl ?_
      refine T.q (q_loadE ss5 (R_ext hB.ext) rfl rfl (ints_get (by first | omega | (simp; done) | (simp [-List.getD_eq_getElem?_getD]; omega)))) (Wt.plain rfl) rfl rfl ?_
      refine T.q (q_int (b := b.getD 2 0) (q_conv un5 un3 rfl rfl) (i64_wrap (by omega) (by omega))) (Wt.plain rfl) rfl rfl ?_
      refine T.q (q_fld fl40_2 rfl rfl) (Wt.plain rfl) rfl rfl ?_
      refine T.eff (e_store1 ss3 2 rfl rfl rfl rfl (by simp) rfl rfl) (Wt.plain rfl) ?_
      rintro _ _ ⟨rfl, rfl⟩
      change (_ : List Blk → Prop) [_, _, _]
      refine T.nil ?_
      refine Ex.next ?_
      refine W.slots (L' := [(0, _), (2, _), (4, _)]) ⟨rfl, rfl, rfl, trivial⟩ ?_
      refine W.seq ?_
      refine W.region ?_
      refine T.q (q_move rfl rfl) (Wt.plain rfl) rfl rfl ?_
      refine T.q (q_sl sc22 3 5 bc rfl rfl ⟨_, _, rfl, rfl⟩ ⟨_, _, rfl, rfl⟩ rfl (by first | omega | (simp; done) | (simp [-List.getD_eq_getElem?_getD]; omega)) (by first | omega | (simp; done) | (simp [-List.getD_eq_getElem?_getD]; omega)) (by first | omega | (simp; done) | (simp [-List.getD_eq_getElem?_getD]; omega)) (by simp)) (Wt.plain rfl) rfl rfl ?_
      refine T.eff (e_call enters29 rfl rfl (fun w hm => reftakef_at (((b).drop 3).take (5 - 3)) _ _ (by first | omega | (simp; done) | (simp; omega) | (simp at *; omega)) (by first | omega | (simp; done) | (simp; omega) | (simp at *; omega)) ((hbb.drop' 3).take _) 2 (by first | omega | (simp; done) | (simp; omega) | (simp at *; omega)) (by first | omega | (simp; done) | (simp; omega) | (simp at *; omega)) (by first | omega | (simp; done) | (simp; omega) | (simp at *; omega)) w ((R_takeI (R_cutI (R_ext hB.ext) (by first | omega | (simp; done) | (simp [-List.getD_eq_getElem?_getD]; omega) | (simp at *; omega) | rfl)) (5 - 3)) w hm) (by first | omega | (simp; done) | (simp [-List.getD_eq_getElem?_getD]; omega) | (simp at *; omega) | rfl)) rfl rfl) (Wt.plain rfl) ?_
      rintro _ _ ⟨_, _, ⟨k8, cap9, junk10, rfl, hc11, rfl⟩, rfl, rfl⟩
      change (_ : List Blk → Prop) [_, _, _, _]
      refine T.q (q_move rfl rfl) (Wt.plain rfl) rfl rfl ?_
      refine T.q (q_int (b := (((pE b) : Nat) : Int)) (q_extract rfl rfl rfl) ?hE) (Wt.plain rfl) rfl rfl ?_
      case hE => rw [pE_tt]
      refine T.q (q_extract rfl rfl rfl) (Wt.plain rfl) rfl rfl ?_
      refine T.q (q_extract rfl rfl rfl) (Wt.plain rfl) rfl rfl ?_
      refine T.q (q_fld fl40_3 rfl rfl) (Wt.plain rfl) rfl rfl ?_
      refine T.eff (e_store1 ss3 2 rfl rfl rfl rfl (by simp) rfl rfl) (Wt.plain rfl) ?_
      rintro _ _ ⟨rfl, rfl⟩
      change (_ : List Blk → Prop) [_, _, _, _]
      refine T.nil ?_
      refine Ex.next ?_
      refine W.less (L' := [(0, _), (2, _), (4, _)]) [true, true, true, false] ⟨rfl, rfl, rfl, trivial⟩ ?_
      change (_ : List Blk → Prop) [_, _, _]
      refine W.seq ?_
      refine W.region ?_
      refine T.q (q_move rfl rfl) (Wt.plain rfl) rfl rfl ?_
      refine T.q (q_sl sc22 5 11 bc rfl rfl ⟨_, _, rfl, rfl⟩ ⟨_, _, rfl, rfl⟩ rfl (by first | omega | (simp; done) | (simp [-List.getD_eq_getElem?_getD]; omega)) (by first | omega | (simp; done) | (simp [-List.getD_eq_getElem?_getD]; omega)) (by first | omega | (simp; done) | (simp [-List.getD_eq_getElem?_getD]; omega)) (by simp)) (Wt.plain rfl) rfl rfl ?_
      refine T.eff (e_call enters29 rfl rfl (fun w hm => reftakef_at (((b).drop 5).take (11 - 5)) _ _ (by first | omega | (simp; done) | (simp; omega) | (simp at *; omega)) (by first | omega | (simp; done) | (simp; omega) | (simp at *; omega)) ((hbb.drop' 5).take _) 6 (by first | omega | (simp; done) | (simp; omega) | (simp at *; omega)) (by first | omega | (simp; done) | (simp; omega) | (simp at *; omega)) (by first | omega | (simp; done) | (simp; omega) | (simp at *; omega)) w ((R_takeI (R_cutI (R_ext hB.ext) (by first | omega | (simp; done) | (simp [-List.getD_eq_getElem?_getD]; omega) | (simp at *; omega) | rfl)) (11 - 5)) w hm) (by first | omega | (simp; done) | (simp [-List.getD_eq_getElem?_getD]; omega) | (simp at *; omega) | rfl)) rfl rfl) (Wt.plain rfl) ?_
      rintro _ _ ⟨_, _, ⟨k12, cap13, junk14, rfl, hc15, rfl⟩, rfl, rfl⟩
      change (_ : List Blk → Prop) [_, _, _, _]
      refine T.q (q_move rfl rfl) (Wt.plain rfl) rfl rfl ?_
      refine T.q (q_int (b := (((pC b) : Nat) : Int)) (q_extract rfl rfl rfl) ?hE) (Wt.plain rfl) rfl rfl ?_
      case hE => rw [pC_tt]
      refine T.q (q_extract rfl rfl rfl) (Wt.plain rfl) rfl rfl ?_
      refine T.q (q_extract rfl rfl rfl) (Wt.plain rfl) rfl rfl ?_
      refine T.q (q_fld fl40_4 rfl rfl) (Wt.plain rfl) rfl rfl ?_
      refine T.eff (e_store1 ss3 2 rfl rfl rfl rfl (by simp) rfl rfl) (Wt.plain rfl) ?_
      rintro _ _ ⟨rfl, rfl⟩
      change (_ : List Blk → Prop) [_, _, _, _]
      refine T.nil ?_
      refine Ex.next ?_
      refine W.less (L' := [(0, _), (2, _), (4, _)]) [true, true, true, false] ⟨rfl, rfl, rfl, trivial⟩ ?_
      change (_ : List Blk → Prop) [_, _, _]
      refine W.region ?_
      refine T.eff (e_litA sc22 ze5 rfl rfl rfl (by simp [Value.cells]) rfl rfl rfl) (Wt.plain rfl) ?_
      rintro _ _ ⟨k16, rfl, rfl⟩
      change (_ : List Blk → Prop) [_, _, _, _]
      refine T.q (q_move rfl rfl) (Wt.plain rfl) rfl rfl ?_
      refine T.q (q_sl sc22 11 b.length bc rfl rfl ⟨_, _, rfl, rfl⟩ rfl rfl (by first | omega | (simp; done) | (simp [-List.getD_eq_getElem?_getD]; omega)) (by first | omega | (simp; done) | (simp [-List.getD_eq_getElem?_getD]; omega)) (by first | omega | (simp; done) | (simp [-List.getD_eq_getElem?_getD]; omega)) (by simp)) (Wt.plain rfl) rfl rfl ?_
      refine T.eff (e_appendI sc22 ze5 rfl 3 .u8 [] ((b).drop 11) [] ((List.append_nil _).symm) (R_cutI (R_ext hB.ext) (by first | omega | (simp; done) | (simp [-List.getD_eq_getElem?_getD]; omega) | (simp at *; omega) | rfl)) rfl rfl rfl rfl (by first | omega | (simp; done) | (simp [-List.getD_eq_getElem?_getD]; omega) | (simp at *; omega) | rfl) (by first | omega | (simp; done) | (simp [-List.getD_eq_getElem?_getD]; omega) | (simp at *; omega) | rfl) (by first | omega | (simp; done) | (simp [-List.getD_eq_getElem?_getD]; omega) | (simp at *; omega) | rfl) (by first | omega | (simp; done) | (simp [-List.getD_eq_getElem?_getD]; omega)) (by first | omega | (simp; done) | (simp [-List.getD_eq_getElem?_getD]; omega)) rfl rfl) (Wt.plain rfl) ?_
      rintro _ _ ⟨k17, cap18, junk19, hc20, rfl, rfl⟩
      change (_ : List Blk → Prop) [_, _, _, _]
      change (_ : List Blk → Prop) [_, _, _, ⟨some k17, ints .u8 (b.drop 11) ++ junk19, 5, (0, 0)⟩]
      refine T.q (q_fld fl40_5 rfl rfl) (Wt.plain rfl) rfl rfl ?_
      refine T.eff (e_store1 ss22 2 rfl rfl rfl rfl (by simp) rfl rfl) (Wt.plain rfl) ?_
      rintro _ _ ⟨rfl, rfl⟩
      change (_ : List Blk → Prop) [_, _, _, _]
      refine T.nil ?_
      refine Ex.next ?_
      refine W.less (L' := [(2, _), (4, _)]) [true, false, true, true] ⟨rfl, rfl, trivial⟩ ?_
      change (_ : List Blk → Prop) [_, _, _]
      refine W.seq ?_
      refine W.seq ?_
      refine W.region ?_
      refine T.q (q_loadW wd40 (R_blk 1 rfl) rfl rfl) (Wt.plain rfl) rfl rfl ?_
      refine T.eff (e_call enters42 rfl rfl (fun w hm => may_false (by unfold mayP recP othP; omega) w) rfl rfl) (Wt.plain rfl) ?_
      rintro _ _ ⟨_, _, ⟨rfl, rfl⟩, rfl, rfl⟩
      change (_ : List Blk → Prop) [_, _, _]
      refine T.q (q_not rfl rfl) (Wt.plain rfl) rfl rfl ?_
      refine T.nil ?_
      refine Ex.next ?_
      refine W.slots (L' := [(2, _), (4, _), (65, _)]) ⟨rfl, rfl, rfl, trivial⟩ ?_
      refine W.condT rfl ?_
      refine W.seq ?_
      refine W.region ?_
      refine T.q (q_buildP (cells := [.int .i64 0, .int .i64 0, .int .i64 0, .int .i64 0, .int .i64 0, .slice none 0 0]) bp40 ze40 rfl rfl rfl) (Wt.plain rfl) rfl rfl ?_
      refine T.eff (e_storeA wd40 0 rfl rfl rfl rfl (by first | omega | (simp; done) | (simp [-List.getD_eq_getElem?_getD]; omega) | (simp at *; omega) | rfl) (by simp [Value.oneCell']) rfl) (Wt.plain rfl) ?_
      rintro _ _ ⟨rfl, rfl⟩
      change (_ : List Blk → Prop) [_, _, _]
      refine T.q (q_assign rfl rfl) (Wt.plain rfl) rfl rfl ?_
      refine T.nil ?_
      refine Ex.next ?_
      refine W.less (L' := [(2, _), (3, _)]) [true, false, false] ⟨rfl, rfl, trivial⟩ ?_
      change (_ : List Blk → Prop) [_]
      refine W.ret ?_
      refine Ex.then_ret ?_
      refine Ex.outCT [false] 0 rfl (by exact wd40) rfl rfl rfl ?_
      exact ⟨rfl, rfl⟩
    ·
      refine Up.eff rfl (e_alloc ze40 rfl rfl rfl) (Wt.plain rfl) ?_
      rintro _ _ ⟨k21, rfl, rfl⟩
      refine ⟨fun _ => (S_sub ((((List.Sublist.slnil).cons _).cons _).cons_cons _)), ?_⟩
      change (_ : List Blk → Prop) [_, _, _]
      refine D.one 7 (by kernel_rfl) ?_
      refine Up.eff rfl (e_appendI sc22 ze5 rfl 1 .u8 [] ((b).drop 1) [] ((List.append_nil _).symm) (R_cutI (R_ext hB.ext) (by first | omega | (simp; done) | (simp [-List.getD_eq_getElem?_getD]; omega) | (simp at *; omega) | rfl)) rfl rfl rfl rfl (by first | omega | (simp; done) | (simp [-List.getD_eq_getElem?_getD]; omega) | (simp at *; omega) | rfl) (by first | omega | (simp; done) | (simp [-List.getD_eq_getElem?_getD]; omega) | (simp at *; omega) | rfl) (by first | omega | (simp; done) | (simp [-List.getD_eq_getElem?_getD]; omega) | (simp at *; omega) | rfl) (by first | omega | (simp; done) | (simp [-List.getD_eq_getElem?_getD]; omega)) (by first | omega | (simp; done) | (simp [-List.getD_eq_getElem?_getD]; omega)) rfl rfl) (Wt.plain rfl) ?_
      rintro _ _ ⟨k22, cap23, junk24, hc25, rfl, rfl⟩
      refine ⟨fun _ => (S_sub ((((List.Sublist.slnil).cons _).cons _).cons_cons _)), ?_⟩
      change (_ : List Blk → Prop) [_, _, _]
      change (_ : List Blk → Prop) [_, ⟨some k22, ints .u8 (b.drop 1) ++ junk24, 5, (0, 0)⟩, _]
      refine D.take 8 rfl (by kernel_rfl) (S_sub ((((List.Sublist.slnil).cons _).cons _).cons_cons _)) (q_buildP (cells := [.int .i64 3, .int .i64 0, .int .i64 0, .int .i64 0, .int .i64 0, .slice (some ⟨k22, 0, none⟩) (0 + (b.length - 1)) cap23]) bp40 ze40 rfl rfl ⟨_, _, [.int .i64 3], _, rfl, rfl, rfl, (Nat.le_of_ble_eq_true rfl), rfl, _, _, [.slice (some ⟨k22, 0, none⟩) (0 + (b.length - 1)) cap23], _, rfl, rfl, rfl, (Nat.le_of_ble_eq_true rfl), rfl, rfl⟩) (Wt.plain rfl) rfl rfl ?_
      refine D.one 10 (by kernel_rfl) ?_
      refine Up.eff rfl (e_storeA wd40 2 rfl rfl rfl rfl (by first | omega | (simp; done) | (simp [-List.getD_eq_getElem?_getD]; omega) | (simp at *; omega) | rfl) (by simp [Value.oneCell']) rfl) (Wt.plain rfl) ?_
      rintro _ _ ⟨rfl, rfl⟩
      refine ⟨fun h => absurd h (by decide), ?_⟩
      change (_ : List Blk → Prop) [_, _, _]
      refine D.done (by kernel_rfl) ?_
      refine Ex.next ?_
      refine W.slots (L' := [(0, _), (2, _), (4, _)]) ⟨rfl, rfl, rfl, trivial⟩ ?_
      refine W.seq ?_
      refine W.seq ?_
      refine W.region ?_
      refine T.q (q_fld fl40_0 rfl rfl) (Wt.plain rfl) rfl rfl ?_
      refine T.q (q_load1 ss3 2 rfl rfl rfl rfl) (Wt.plain rfl) rfl rfl ?_
      refine T.q (q_bool (b := true) (q_eql rfl rfl rfl) (decide_eq_true (by omega))) (Wt.plain rfl) rfl rfl ?_
      refine T.nil ?_
      refine Ex.next ?_
      refine W.slots (L' := [(0, _), (2, _), (4, _), (31, _)]) ⟨rfl, rfl, rfl, rfl, trivial⟩ ?_
      refine W.condT rfl ?_
      refine W.seq ?_
      refine W.region ?_
      refine T.q (q_move rfl rfl) (Wt.plain rfl) rfl rfl ?_
      refine T.q (q_ixE1 sc22 1 (R_ext hB.ext) rfl rfl rfl (rfl) (by omega) (by first | omega | (simp; done) | (simp [-List.getD_eq_getElem?_getD]; omega))) (Wt.plain rfl) rfl rfl ?_
      refine T.q (q_loadE ss5 (R_ext hB.ext) rfl rfl (ints_get (by first | omega | (simp; done) | (simp [-List.getD_eq_getElem?_getD]; omega)))) (Wt.plain rfl) rfl rfl ?_
      refine T.q (q_int (b := b.getD 1 0) (q_conv un5 un3 rfl rfl) (i64_wrap (by omega) (by omega))) (Wt.plain rfl) rfl rfl ?_
      refine T.q (q_fld fl40_1 rfl rfl) (Wt.plain rfl) rfl rfl ?_
      refine T.eff (e_store1 ss3 2 rfl rfl rfl rfl (by simp) rfl rfl) (Wt.plain rfl) ?_
      rintro _ _ ⟨rfl, rfl⟩
      change (_ : List Blk → Prop) [_, _, _]
      refine T.nil ?_
      refine Ex.next ?_
      refine W.slots (L' := [(0, _), (2, _), (4, _)]) ⟨rfl, rfl, rfl, trivial⟩ ?_
      refine W.seq ?_
      refine W.region ?_
      refine T.q (q_move rfl rfl) (Wt.plain rfl) rfl rfl ?_
      refine T.q (q_ixE1 sc22 2 (R_ext hB.ext) rfl rfl rfl (rfl) (by omega) (by first | omega | (simp; done) | (simp [-List.getD_eq_getElem?_getD]; omega))) (Wt.plain rfl) rfl rfl ?_
      refine T.q (q_loadE ss5 (R_ext hB.ext) rfl rfl (ints_get (by first | omega | (simp; done) | (simp [-List.getD_eq_getElem?_getD]; omega)))) (Wt.plain rfl) rfl rfl ?_
      refine T.q (q_int (b := b.getD 2 0) (q_conv un5 un3 rfl rfl) (i64_wrap (by omega) (by omega))) (Wt.plain rfl) rfl rfl ?_
      refine T.q (q_fld fl40_2 rfl rfl) (Wt.plain rfl) rfl rfl ?_
      refine T.eff (e_store1 ss3 2 rfl rfl rfl rfl (by simp) rfl rfl) (Wt.plain rfl) ?_
      rintro _ _ ⟨rfl, rfl⟩
      change (_ : List Blk → Prop) [_, _, _]
      refine T.nil ?_
      refine Ex.next ?_
      refine W.slots (L' := [(0, _), (2, _), (4, _)]) ⟨rfl, rfl, rfl, trivial⟩ ?_
      refine W.seq ?_
      refine W.region ?_
      refine T.q (q_move rfl rfl) (Wt.plain rfl) rfl rfl ?_
      refine T.q (q_sl sc22 3 5 bc rfl rfl ⟨_, _, rfl, rfl⟩ ⟨_, _, rfl, rfl⟩ rfl (by first | omega | (simp; done) | (simp [-List.getD_eq_getElem?_getD]; omega)) (by first | omega | (simp; done) | (simp [-List.getD_eq_getElem?_getD]; omega)) (by first | omega | (simp; done) | (simp [-List.getD_eq_getElem?_getD]; omega)) (by simp)) (Wt.plain rfl) rfl rfl ?_
      refine T.eff (e_call enters29 rfl rfl (fun w hm => reftakef_at (((b).drop 3).take (5 - 3)) _ _ (by first | omega | (simp; done) | (simp; omega) | (simp at *; omega)) (by first | omega | (simp; done) | (simp; omega) | (simp at *; omega)) ((hbb.drop' 3).take _) 2 (by first | omega | (simp; done) | (simp; omega) | (simp at *; omega)) (by first | omega | (simp; done) | (simp; omega) | (simp at *; omega)) (by first | omega | (simp; done) | (simp; omega) | (simp at *; omega)) w ((R_takeI (R_cutI (R_ext hB.ext) (by first | omega | (simp; done) | (simp [-List.getD_eq_getElem?_getD]; omega) | (simp at *; omega) | rfl)) (5 - 3)) w hm) (by first | omega | (simp; done) | (simp [-List.getD_eq_getElem?_getD]; omega) | (simp at *; omega) | rfl)) rfl rfl) (Wt.plain rfl) ?_
      rintro _ _ ⟨_, _, ⟨k26, cap27, junk28, rfl, hc29, rfl⟩, rfl, rfl⟩
      change (_ : List Blk → Prop) [_, _, _, _]
      refine T.q (q_move rfl rfl) (Wt.plain rfl) rfl rfl ?_
      refine T.q (q_int (b := (((pE b) : Nat) : Int)) (q_extract rfl rfl rfl) ?hE) (Wt.plain rfl) rfl rfl ?_
      case hE => rw [pE_tt]
      refine T.q (q_extract rfl rfl rfl) (Wt.plain rfl) rfl rfl ?_
      refine T.q (q_extract rfl rfl rfl) (Wt.plain rfl) rfl rfl ?_
      refine T.q (q_fld fl40_3 rfl rfl) (Wt.plain rfl) rfl rfl ?_
      refine T.eff (e_store1 ss3 2 rfl rfl rfl rfl (by simp) rfl rfl) (Wt.plain rfl) ?_
      rintro _ _ ⟨rfl, rfl⟩
      change (_ : List Blk → Prop) [_, _, _, _]
      refine T.nil ?_
      refine Ex.next ?_
      refine W.less (L' := [(0, _), (2, _), (4, _)]) [true, true, true, false] ⟨rfl, rfl, rfl, trivial⟩ ?_
      change (_ : List Blk → Prop) [_, _, _]
      refine W.seq ?_
      refine W.region ?_
      refine T.q (q_move rfl rfl) (Wt.plain rfl) rfl rfl ?_
      refine T.q (q_sl sc22 5 11 bc rfl rfl ⟨_, _, rfl, rfl⟩ ⟨_, _, rfl, rfl⟩ rfl (by first | omega | (simp; done) | (simp [-List.getD_eq_getElem?_getD]; omega)) (by first | omega | (simp; done) | (simp [-List.getD_eq_getElem?_getD]; omega)) (by first | omega | (simp; done) | (simp [-List.getD_eq_getElem?_getD]; omega)) (by simp)) (Wt.plain rfl) rfl rfl ?_
      refine T.eff (e_call enters29 rfl rfl (fun w hm => reftakef_at (((b).drop 5).take (11 - 5)) _ _ (by first | omega | (simp; done) | (simp; omega) | (simp at *; omega)) (by first | omega | (simp; done) | (simp; omega) | (simp at *; omega)) ((hbb.drop' 5).take _) 6 (by first | omega | (simp; done) | (simp; omega) | (simp at *; omega)) (by first | omega | (simp; done) | (simp; omega) | (simp at *; omega)) (by first | omega | (simp; done) | (simp; omega) | (simp at *; omega)) w ((R_takeI (R_cutI (R_ext hB.ext) (by first | omega | (simp; done) | (simp [-List.getD_eq_getElem?_getD]; omega) | (simp at *; omega) | rfl)) (11 - 5)) w hm) (by first | omega | (simp; done) | (simp [-List.getD_eq_getElem?_getD]; omega) | (simp at *; omega) | rfl)) rfl rfl) (Wt.plain rfl) ?_
      rintro _ _ ⟨_, _, ⟨k30, cap31, junk32, rfl, hc33, rfl⟩, rfl, rfl⟩
      change (_ : List Blk → Prop) [_, _, _, _]
      refine T.q (q_move rfl rfl) (Wt.plain rfl) rfl rfl ?_
      refine T.q (q_int (b := (((pC b) : Nat) : Int)) (q_extract rfl rfl rfl) ?hE) (Wt.plain rfl) rfl rfl ?_
      case hE => rw [pC_tt]
      refine T.q (q_extract rfl rfl rfl) (Wt.plain rfl) rfl rfl ?_
      refine T.q (q_extract rfl rfl rfl) (Wt.plain rfl) rfl rfl ?_
      refine T.q (q_fld fl40_4 rfl rfl) (Wt.plain rfl) rfl rfl ?_
      refine T.eff (e_store1 ss3 2 rfl rfl rfl rfl (by simp) rfl rfl) (Wt.plain rfl) ?_
      rintro _ _ ⟨rfl, rfl⟩
      change (_ : List Blk → Prop) [_, _, _, _]
      refine T.nil ?_
      refine Ex.next ?_
      refine W.less (L' := [(0, _), (2, _), (4, _)]) [true, true, true, false] ⟨rfl, rfl, rfl, trivial⟩ ?_
      change (_ : List Blk → Prop) [_, _, _]
      refine W.region ?_
      refine T.eff (e_litA sc22 ze5 rfl rfl rfl (by simp [Value.cells]) rfl rfl rfl) (Wt.plain rfl) ?_
      rintro _ _ ⟨k34, rfl, rfl⟩
      change (_ : List Blk → Prop) [_, _, _, _]
      refine T.q (q_move rfl rfl) (Wt.plain rfl) rfl rfl ?_
      refine T.q (q_sl sc22 11 b.length bc rfl rfl ⟨_, _, rfl, rfl⟩ rfl rfl (by first | omega | (simp; done) | (simp [-List.getD_eq_getElem?_getD]; omega)) (by first | omega | (simp; done) | (simp [-List.getD_eq_getElem?_getD]; omega)) (by first | omega | (simp; done) | (simp [-List.getD_eq_getElem?_getD]; omega)) (by simp)) (Wt.plain rfl) rfl rfl ?_
      refine T.eff (e_appendI sc22 ze5 rfl 3 .u8 [] ((b).drop 11) [] ((List.append_nil _).symm) (R_cutI (R_ext hB.ext) (by first | omega | (simp; done) | (simp [-List.getD_eq_getElem?_getD]; omega) | (simp at *; omega) | rfl)) rfl rfl rfl rfl (by first | omega | (simp; done) | (simp [-List.getD_eq_getElem?_getD]; omega) | (simp at *; omega) | rfl) (by first | omega | (simp; done) | (simp [-List.getD_eq_getElem?_getD]; omega) | (simp at *; omega) | rfl) (by first | omega | (simp; done) | (simp [-List.getD_eq_getElem?_getD]; omega) | (simp at *; omega) | rfl) (by first | omega | (simp; done) | (simp [-List.getD_eq_getElem?_getD]; omega)) (by first | omega | (simp; done) | (simp [-List.getD_eq_getElem?_getD]; omega)) rfl rfl) (Wt.plain rfl) ?_
      rintro _ _ ⟨k35, cap36, junk37, hc38, rfl, rfl⟩
      change (_ : List Blk → Prop) [_, _, _, _]
      change (_ : List Blk → Prop) [_, _, _, ⟨some k35, ints .u8 (b.drop 11) ++ junk37, 5, (0, 0)⟩]
      refine T.q (q_fld fl40_5 rfl rfl) (Wt.plain rfl) rfl rfl ?_
      refine T.eff (e_store1 ss22 2 rfl rfl rfl rfl (by simp) rfl rfl) (Wt.plain rfl) ?_
      rintro _ _ ⟨rfl, rfl⟩
      change (_ : List Blk → Prop) [_, _, _, _]
      refine T.nil ?_
      refine Ex.next ?_
      refine W.less (L' := [(2, _), (4, _)]) [true, false, true, true] ⟨rfl, rfl, trivial⟩ ?_
      change (_ : List Blk → Prop) [_, _, _]
      refine W.seq ?_
      refine W.seq ?_
      refine W.region ?_
      refine T.q (q_loadW wd40 (R_blk 1 rfl) rfl rfl) (Wt.plain rfl) rfl rfl ?_
      refine T.eff (e_call enters42 rfl rfl (fun w hm => may_false (by unfold mayP recP othP; omega) w) rfl rfl) (Wt.plain rfl) ?_
      rintro _ _ ⟨_, _, ⟨rfl, rfl⟩, rfl, rfl⟩
      change (_ : List Blk → Prop) [_, _, _]
      refine T.q (q_not rfl rfl) (Wt.plain rfl) rfl rfl ?_
      refine T.nil ?_
      refine Ex.next ?_
      refine W.slots (L' := [(2, _), (4, _), (65, _)]) ⟨rfl, rfl, rfl, trivial⟩ ?_
      refine W.condT rfl ?_
      refine W.seq ?_
      refine W.region ?_
      refine T.q (q_buildP (cells := [.int .i64 0, .int .i64 0, .int .i64 0, .int .i64 0, .int .i64 0, .slice none 0 0]) bp40 ze40 rfl rfl rfl) (Wt.plain rfl) rfl rfl ?_
      refine T.eff (e_storeA wd40 0 rfl rfl rfl rfl (by first | omega | (simp; done) | (simp [-List.getD_eq_getElem?_getD]; omega) | (simp at *; omega) | rfl) (by simp [Value.oneCell']) rfl) (Wt.plain rfl) ?_
      rintro _ _ ⟨rfl, rfl⟩
      change (_ : List Blk → Prop) [_, _, _]
      refine T.q (q_assign rfl rfl) (Wt.plain rfl) rfl rfl ?_
      refine T.nil ?_
      refine Ex.next ?_
      refine W.less (L' := [(2, _), (3, _)]) [true, false, false] ⟨rfl, rfl, trivial⟩ ?_
      change (_ : List Blk → Prop) [_]
      refine W.ret ?_
      refine Ex.then_ret ?_
      refine Ex.outCT [false] 0 rfl (by exact wd40) rfl rfl rfl ?_
      exact ⟨rfl, rfl⟩
  ·
    refine Up.eff rfl (e_alloc ze40 rfl rfl rfl) (Wt.plain rfl) ?_
    rintro _ _ ⟨k39, rfl, rfl⟩
    refine ⟨fun _ => (S_sub (((List.Sublist.slnil).cons _).cons_cons _)), ?_⟩
    change (_ : List Blk → Prop) [_, _]
    refine D.one 4 (by kernel_rfl) ?_
    refine Up.eff rfl (e_litA sc22 ze5 rfl rfl rfl (by simp [Value.cells]) rfl rfl rfl) (Wt.plain rfl) ?_
    rintro _ _ ⟨k40, rfl, rfl⟩
    refine ⟨fun _ => (S_sub ((((List.Sublist.slnil).cons _).cons _).cons_cons _)), ?_⟩
    change (_ : List Blk → Prop) [_, _, _]
    refine D.one 7 (by kernel_rfl) ?_
    refine Up.eff rfl (e_appendI sc22 ze5 rfl 2 .u8 [] ((b).drop 1) [] ((List.append_nil _).symm) (R_cutI (R_ext hB.ext) (by first | omega | (simp; done) | (simp [-List.getD_eq_getElem?_getD]; omega) | (simp at *; omega) | rfl)) rfl rfl rfl rfl (by first | omega | (simp; done) | (simp [-List.getD_eq_getElem?_getD]; omega) | (simp at *; omega) | rfl) (by first | omega | (simp; done) | (simp [-List.getD_eq_getElem?_getD]; omega) | (simp at *; omega) | rfl) (by first | omega | (simp; done) | (simp [-List.getD_eq_getElem?_getD]; omega) | (simp at *; omega) | rfl) (by first | omega | (simp; done) | (simp [-List.getD_eq_getElem?_getD]; omega)) (by first | omega | (simp; done) | (simp [-List.getD_eq_getElem?_getD]; omega)) rfl rfl) (Wt.plain rfl) ?_
    rintro _ _ ⟨k41, cap42, junk43, hc44, rfl, rfl⟩
    refine ⟨fun _ => (S_sub ((((List.Sublist.slnil).cons _).cons _).cons_cons _)), ?_⟩
    change (_ : List Blk → Prop) [_, _, _]
    change (_ : List Blk → Prop) [_, _, ⟨some k41, ints .u8 (b.drop 1) ++ junk43, 5, (0, 0)⟩]
    refine D.take 8 rfl (by kernel_rfl) (S_sub ((((List.Sublist.slnil).cons _).cons _).cons_cons _)) (q_buildP (cells := [.int .i64 3, .int .i64 0, .int .i64 0, .int .i64 0, .int .i64 0, .slice (some ⟨k41, 0, none⟩) (0 + (b.length - 1)) cap42]) bp40 ze40 rfl rfl ⟨_, _, [.int .i64 3], _, rfl, rfl, rfl, (Nat.le_of_ble_eq_true rfl), rfl, _, _, [.slice (some ⟨k41, 0, none⟩) (0 + (b.length - 1)) cap42], _, rfl, rfl, rfl, (Nat.le_of_ble_eq_true rfl), rfl, rfl⟩) (Wt.plain rfl) rfl rfl ?_
    refine D.one 10 (by kernel_rfl) ?_
    refine Up.eff rfl (e_storeA wd40 1 rfl rfl rfl rfl (by first | omega | (simp; done) | (simp [-List.getD_eq_getElem?_getD]; omega) | (simp at *; omega) | rfl) (by simp [Value.oneCell']) rfl) (Wt.plain rfl) ?_
    rintro _ _ ⟨rfl, rfl⟩
    refine ⟨fun h => absurd h (by decide), ?_⟩
    change (_ : List Blk → Prop) [_, _, _]
    refine D.done (by kernel_rfl) ?_
    refine Ex.next ?_
    refine W.slots (L' := [(0, _), (2, _), (4, _)]) ⟨rfl, rfl, rfl, trivial⟩ ?_
    refine W.seq ?_
    refine W.seq ?_
    refine W.region ?_
    refine T.q (q_fld fl40_0 rfl rfl) (Wt.plain rfl) rfl rfl ?_
    refine T.q (q_load1 ss3 1 rfl rfl rfl rfl) (Wt.plain rfl) rfl rfl ?_
    refine T.q (q_bool (b := true) (q_eql rfl rfl rfl) (decide_eq_true (by omega))) (Wt.plain rfl) rfl rfl ?_
    refine T.nil ?_
    refine Ex.next ?_
    refine W.slots (L' := [(0, _), (2, _), (4, _), (31, _)]) ⟨rfl, rfl, rfl, rfl, trivial⟩ ?_
    refine W.condT rfl ?_
    refine W.seq ?_
    refine W.region ?_
    refine T.q (q_move rfl rfl) (Wt.plain rfl) rfl rfl ?_
    refine T.q (q_ixE1 sc22 1 (R_ext hB.ext) rfl rfl rfl (rfl) (by omega) (by first | omega | (simp; done) | (simp [-List.getD_eq_getElem?_getD]; omega))) (Wt.plain rfl) rfl rfl ?_
    refine T.q (q_loadE ss5 (R_ext hB.ext) rfl rfl (ints_get (by first | omega | (simp; done) | (simp [-List.getD_eq_getElem?_getD]; omega)))) (Wt.plain rfl) rfl rfl ?_
    refine T.q (q_int (b := b.getD 1 0) (q_conv un5 un3 rfl rfl) (i64_wrap (by omega) (by omega))) (Wt.plain rfl) rfl rfl ?_
    refine T.q (q_fld fl40_1 rfl rfl) (Wt.plain rfl) rfl rfl ?_
    refine T.eff (e_store1 ss3 1 rfl rfl rfl rfl (by simp) rfl rfl) (Wt.plain rfl) ?_
    rintro _ _ ⟨rfl, rfl⟩
    change (_ : List Blk → Prop) [_, _, _]
    refine T.nil ?_
    refine Ex.next ?_
    refine W.slots (L' := [(0, _), (2, _), (4, _)]) ⟨rfl, rfl, rfl, trivial⟩ ?_
    refine W.seq ?_
    refine W.region ?_
    refine T.q (q_move rfl rfl) (Wt.plain rfl) rfl rfl ?_
    refine T.q (q_ixE1 sc22 2 (R_ext hB.ext) rfl rfl rfl (rfl) (by omega) (by first | omega | (simp; done) | (simp [-List.getD_eq_getElem?_getD]; omega))) (Wt.plain rfl) rfl rfl ?_
    refine T.q (q_loadE ss5 (R_ext hB.ext) rfl rfl (ints_get (by first | omega | (simp; done) | (simp [-List.getD_eq_getElem?_getD]; omega)))) (Wt.plain rfl) rfl rfl ?_
    refine T.q (q_int (b := b.getD 2 0) (q_conv un5 un3 rfl rfl) (i64_wrap (by omega) (by omega))) (Wt.plain rfl) rfl rfl ?_
    refine T.q (q_fld fl40_2 rfl rfl) (Wt.plain rfl) rfl rfl ?_
    refine T.eff (e_store1 ss3 1 rfl rfl rfl rfl (by simp) rfl rfl) (Wt.plain rfl) ?_
    rintro _ _ ⟨rfl, rfl⟩
    change (_ : List Blk → Prop) [_, _, _]
    refine T.nil ?_
    refine Ex.next ?_
    refine W.slots (L' := [(0, _), (2, _), (4, _)]) ⟨rfl, rfl, rfl, trivial⟩ ?_
    refine W.seq ?_
    refine W.region ?_
    refine T.q (q_move rfl rfl) (Wt.plain rfl) rfl rfl ?_
    refine T.q (q_sl sc22 3 5 bc rfl rfl ⟨_, _, rfl, rfl⟩ ⟨_, _, rfl, rfl⟩ rfl (by first | omega | (simp; done) | (simp [-List.getD_eq_getElem?_getD]; omega)) (by first | omega | (simp; done) | (simp [-List.getD_eq_getElem?_getD]; omega)) (by first | omega | (simp; done) | (simp [-List.getD_eq_getElem?_getD]; omega)) (by simp)) (Wt.plain rfl) rfl rfl ?_
    refine T.eff (e_call enters29 rfl rfl (fun w hm => reftakef_at (((b).drop 3).take (5 - 3)) _ _ (by first | omega | (simp; done) | (simp; omega) | (simp at *; omega)) (by first | omega | (simp; done) | (simp; omega) | (simp at *; omega)) ((hbb.drop' 3).take _) 2 (by first | omega | (simp; done) | (simp; omega) | (simp at *; omega)) (by first | omega | (simp; done) | (simp; omega) | (simp at *; omega)) (by first | omega | (simp; done) | (simp; omega) | (simp at *; omega)) w ((R_takeI (R_cutI (R_ext hB.ext) (by first | omega | (simp; done) | (simp [-List.getD_eq_getElem?_getD]; omega) | (simp at *; omega) | rfl)) (5 - 3)) w hm) (by first | omega | (simp; done) | (simp [-List.getD_eq_getElem?_getD]; omega) | (simp at *; omega) | rfl)) rfl rfl) (Wt.plain rfl) ?_
    rintro _ _ ⟨_, _, ⟨k45, cap46, junk47, rfl, hc48, rfl⟩, rfl, rfl⟩
    change (_ : List Blk → Prop) [_, _, _, _]
    refine T.q (q_move rfl rfl) (Wt.plain rfl) rfl rfl ?_
    refine T.q (q_int (b := (((pE b) : Nat) : Int)) (q_extract rfl rfl rfl) ?hE) (Wt.plain rfl) rfl rfl ?_
    case hE => rw [pE_tt]
    refine T.q (q_extract rfl rfl rfl) (Wt.plain rfl) rfl rfl ?_
    refine T.q (q_extract rfl rfl rfl) (Wt.plain rfl) rfl rfl ?_
    refine T.q (q_fld fl40_3 rfl rfl) (Wt.plain rfl) rfl rfl ?_
    refine T.eff (e_store1 ss3 1 rfl rfl rfl rfl (by simp) rfl rfl) (Wt.plain rfl) ?_
    rintro _ _ ⟨rfl, rfl⟩
    change (_ : List Blk → Prop) [_, _, _, _]
    refine T.nil ?_
    refine Ex.next ?_
    refine W.less (L' := [(0, _), (2, _), (4, _)]) [true, true, true, false] ⟨rfl, rfl, rfl, trivial⟩ ?_
    change (_ : List Blk → Prop) [_, _, _]
    refine W.seq ?_
    refine W.region ?_
    refine T.q (q_move rfl rfl) (Wt.plain rfl) rfl rfl ?_
    refine T.q (q_sl sc22 5 11 bc rfl rfl ⟨_, _, rfl, rfl⟩ ⟨_, _, rfl, rfl⟩ rfl (by first | omega | (simp; done) | (simp [-List.getD_eq_getElem?_getD]; omega)) (by first | omega | (simp; done) | (simp [-List.getD_eq_getElem?_getD]; omega)) (by first | omega | (simp; done) | (simp [-List.getD_eq_getElem?_getD]; omega)) (by simp)) (Wt.plain rfl) rfl rfl ?_
    refine T.eff (e_call enters29 rfl rfl (fun w hm => reftakef_at (((b).drop 5).take (11 - 5)) _ _ (by first | omega | (simp; done) | (simp; omega) | (simp at *; omega)) (by first | omega | (simp; done) | (simp; omega) | (simp at *; omega)) ((hbb.drop' 5).take _) 6 (by first | omega | (simp; done) | (simp; omega) | (simp at *; omega)) (by first | omega | (simp; done) | (simp; omega) | (simp at *; omega)) (by first | omega | (simp; done) | (simp; omega) | (simp at *; omega)) w ((R_takeI (R_cutI (R_ext hB.ext) (by first | omega | (simp; done) | (simp [-List.getD_eq_getElem?_getD]; omega) | (simp at *; omega) | rfl)) (11 - 5)) w hm) (by first | omega | (simp; done) | (simp [-List.getD_eq_getElem?_getD]; omega) | (simp at *; omega) | rfl)) rfl rfl) (Wt.plain rfl) ?_
    rintro _ _ ⟨_, _, ⟨k49, cap50, junk51, rfl, hc52, rfl⟩, rfl, rfl⟩
    change (_ : List Blk → Prop) [_, _, _, _]
    refine T.q (q_move rfl rfl) (Wt.plain rfl) rfl rfl ?_
    refine T.q (q_int (b := (((pC b) : Nat) : Int)) (q_extract rfl rfl rfl) ?hE) (Wt.plain rfl) rfl rfl ?_
    case hE => rw [pC_tt]
    refine T.q (q_extract rfl rfl rfl) (Wt.plain rfl) rfl rfl ?_
    refine T.q (q_extract rfl rfl rfl) (Wt.plain rfl) rfl rfl ?_
    refine T.q (q_fld fl40_4 rfl rfl) (Wt.plain rfl) rfl rfl ?_
    refine T.eff (e_store1 ss3 1 rfl rfl rfl rfl (by simp) rfl rfl) (Wt.plain rfl) ?_
    rintro _ _ ⟨rfl, rfl⟩
    change (_ : List Blk → Prop) [_, _, _, _]
    refine T.nil ?_
    refine Ex.next ?_
    refine W.less (L' := [(0, _), (2, _), (4, _)]) [true, true, true, false] ⟨rfl, rfl, rfl, trivial⟩ ?_
    change (_ : List Blk → Prop) [_, _, _]
    refine W.region ?_
    refine T.eff (e_litA sc22 ze5 rfl rfl rfl (by simp [Value.cells]) rfl rfl rfl) (Wt.plain rfl) ?_
    rintro _ _ ⟨k53, rfl, rfl⟩
    change (_ : List Blk → Prop) [_, _, _, _]
    refine T.q (q_move rfl rfl) (Wt.plain rfl) rfl rfl ?_
    refine T.q (q_sl sc22 11 b.length bc rfl rfl ⟨_, _, rfl, rfl⟩ rfl rfl (by first | omega | (simp; done) | (simp [-List.getD_eq_getElem?_getD]; omega)) (by first | omega | (simp; done) | (simp [-List.getD_eq_getElem?_getD]; omega)) (by first | omega | (simp; done) | (simp [-List.getD_eq_getElem?_getD]; omega)) (by simp)) (Wt.plain rfl) rfl rfl ?_
    refine T.eff (e_appendI sc22 ze5 rfl 3 .u8 [] ((b).drop 11) [] ((List.append_nil _).symm) (R_cutI (R_ext hB.ext) (by first | omega | (simp; done) | (simp [-List.getD_eq_getElem?_getD]; omega) | (simp at *; omega) | rfl)) rfl rfl rfl rfl (by first | omega | (simp; done) | (simp [-List.getD_eq_getElem?_getD]; omega) | (simp at *; omega) | rfl) (by first | omega | (simp; done) | (simp [-List.getD_eq_getElem?_getD]; omega) | (simp at *; omega) | rfl) (by first | omega | (simp; done) | (simp [-List.getD_eq_getElem?_getD]; omega) | (simp at *; omega) | rfl) (by first | omega | (simp; done) | (simp [-List.getD_eq_getElem?_getD]; omega)) (by first | omega | (simp; done) | (simp [-List.getD_eq_getElem?_getD]; omega)) rfl rfl) (Wt.plain rfl) ?_
    rintro _ _ ⟨k54, cap55, junk56, hc57, rfl, rfl⟩
    change (_ : List Blk → Prop) [_, _, _, _]
    change (_ : List Blk → Prop) [_, _, _, ⟨some k54, ints .u8 (b.drop 11) ++ junk56, 5, (0, 0)⟩]
    refine T.q (q_fld fl40_5 rfl rfl) (Wt.plain rfl) rfl rfl ?_
    refine T.eff (e_store1 ss22 1 rfl rfl rfl rfl (by simp) rfl rfl) (Wt.plain rfl) ?_
    rintro _ _ ⟨rfl, rfl⟩
    change (_ : List Blk → Prop) [_, _, _, _]
    refine T.nil ?_
    refine Ex.next ?_
    refine W.less (L' := [(2, _), (4, _)]) [true, true, false, true] ⟨rfl, rfl, trivial⟩ ?_
    change (_ : List Blk → Prop) [_, _, _]
    refine W.seq ?_
    refine W.seq ?_
    refine W.region ?_
    refine T.q (q_loadW wd40 (R_blk 1 rfl) rfl rfl) (Wt.plain rfl) rfl rfl ?_
    refine T.eff (e_call enters42 rfl rfl (fun w hm => may_false (by unfold mayP recP othP; omega) w) rfl rfl) (Wt.plain rfl) ?_
    rintro _ _ ⟨_, _, ⟨rfl, rfl⟩, rfl, rfl⟩
    change (_ : List Blk → Prop) [_, _, _]
    refine T.q (q_not rfl rfl) (Wt.plain rfl) rfl rfl ?_
    refine T.nil ?_
    refine Ex.next ?_
    refine W.slots (L' := [(2, _), (4, _), (65, _)]) ⟨rfl, rfl, rfl, trivial⟩ ?_
    refine W.condT rfl ?_
    refine W.seq ?_
    refine W.region ?_
    refine T.q (q_buildP (cells := [.int .i64 0, .int .i64 0, .int .i64 0, .int .i64 0, .int .i64 0, .slice none 0 0]) bp40 ze40 rfl rfl rfl) (Wt.plain rfl) rfl rfl ?_
    refine T.eff (e_storeA wd40 0 rfl rfl rfl rfl (by first | omega | (simp; done) | (simp [-List.getD_eq_getElem?_getD]; omega) | (simp at *; omega) | rfl) (by simp [Value.oneCell']) rfl) (Wt.plain rfl) ?_
    rintro _ _ ⟨rfl, rfl⟩
    change (_ : List Blk → Prop) [_, _, _]
    refine T.q (q_assign rfl rfl) (Wt.plain rfl) rfl rfl ?_
    refine T.nil ?_
    refine Ex.next ?_
    refine W.less (L' := [(2, _), (3, _)]) [true, false, false] ⟨rfl, rfl, trivial⟩ ?_
    change (_ : List Blk → Prop) [_]
    refine W.ret ?_
    refine Ex.then_ret ?_
    refine Ex.outCT [false] 0 rfl (by exact wd40) rfl rfl rfl ?_
    exact ⟨rfl, rfl⟩
set_option maxRecDepth 100000 in
theorem refparse_Ook (b : List Int) (BA : Option Addr) (bc : Nat) (_hbc : b.length ≤ bc) (hbl : b.length ≤ 140737488354000) (hbb : Bytes b) (h0 : b.getD 0 0 = 1 ∨ b.getD 0 0 = 2) (hge : 2 ≤ b.length) (hle : b.length ≤ 301) (w0 : World) (hB : Reads w0 BA (ints .u8 b)) : Does Try.prog 40 #[.slice BA b.length bc] w0 [] (fun v G => ∃ (no : Option Nat) (cap : Nat) (junk : List Value), v = .tuple #[.agg #[.int .i64 (b.getD 0 0), .int .i64 0, .int .i64 0, .int .i64 0, .int .i64 0, .slice (no.map fun k => (⟨k, 0, none⟩ : Addr)) (b.length - 1) cap], .int .i64 0] ∧ b.length - 1 + junk.length = cap ∧ G = [⟨no, ints .u8 (b.drop 1) ++ junk, 5, (0, 0)⟩]) := by
  have hb0 := hbb.getD 0
  have hb1 := hbb.getD 1
  have hb2 := hbb.getD 2
  refine spec_of 68 Try.func40 rfl rfl rfl ?_
  refine W.seq ?_
  refine W.region ?_
  refine T.eff (e_alloc ze40 rfl rfl rfl) (Wt.plain rfl) ?_
  rintro _ _ ⟨k1, rfl, rfl⟩
  change (_ : List Blk → Prop) [_]
  refine T.q (q_assign rfl rfl) (Wt.plain rfl) rfl rfl ?_
  refine T.nil ?_
  refine Ex.next ?_
  refine W.slots (L' := [(0, _), (2, _)]) ⟨rfl, rfl, trivial⟩ ?_
  refine W.seq ?_
  refine W.seq ?_
  refine W.region ?_
  refine T.q (q_move rfl rfl) (Wt.plain rfl) rfl rfl ?_
  refine T.q (q_len sc22 rfl rfl) (Wt.plain rfl) rfl rfl ?_
  refine T.q (q_bool (b := false) (q_eql rfl rfl rfl) (decide_eq_false (by omega))) (Wt.plain rfl) rfl rfl ?_
  refine T.q (q_move rfl rfl) (Wt.plain rfl) rfl rfl ?_
  refine T.q (q_move rfl rfl) (Wt.yes rfl rfl rfl) rfl rfl ?_
  refine T.q (q_ixE1 sc22 0 (R_ext hB.ext) rfl rfl rfl (rfl) (by omega) (by first | omega | (simp; done) | (simp [-List.getD_eq_getElem?_getD]; omega))) (Wt.yes rfl rfl rfl) rfl rfl ?_
  refine T.q (q_loadE ss5 (R_ext hB.ext) rfl rfl (ints_get (by first | omega | (simp; done) | (simp [-List.getD_eq_getElem?_getD]; omega)))) (Wt.yes rfl rfl rfl) rfl rfl ?_
  refine T.q (q_bool (b := false) (q_eql rfl rfl rfl) (decide_eq_false (by omega))) (Wt.yes rfl rfl rfl) rfl rfl ?_
  refine T.q (q_move rfl rfl) (Wt.yes rfl rfl rfl) rfl rfl ?_
  refine T.no (Wn.no rfl rfl rfl rfl) rfl rfl ?_
  refine T.no (Wn.no rfl rfl rfl rfl) rfl rfl ?_
  refine T.no (Wn.no rfl rfl rfl rfl) rfl rfl ?_
  refine T.q (q_pickF rfl rfl rfl) (Wt.yes rfl rfl rfl) rfl rfl ?_
  refine T.q (q_pickF rfl rfl rfl) (Wt.plain rfl) rfl rfl ?_
  refine T.nil ?_
  refine Ex.next ?_
  refine W.slots (L' := [(0, _), (2, _), (18, _)]) ⟨rfl, rfl, rfl, trivial⟩ ?_
  refine W.condF rfl ?_
  refine W.skip ?_
  refine Ex.next ?_
  refine W.slots (L' := [(0, _), (2, _)]) ⟨rfl, rfl, trivial⟩ ?_
  refine W.seq ?_
  refine W.draw 10 (by kernel_rfl) ?_
  refine D.take 0 rfl (by kernel_rfl) (fun _ h => h) (q_move rfl rfl) (Wt.plain rfl) rfl rfl ?_
  refine D.take 1 rfl (by kernel_rfl) (fun _ h => h) (q_ixE1 sc22 0 (R_ext hB.ext) rfl rfl rfl (rfl) (by omega) (by first | omega | (simp; done) | (simp [-List.getD_eq_getElem?_getD]; omega))) (Wt.plain rfl) rfl rfl ?_
  refine D.take 2 rfl (by kernel_rfl) (fun _ h => h) (q_loadE ss5 (R_ext hB.ext) rfl rfl (ints_get (by first | omega | (simp; done) | (simp [-List.getD_eq_getElem?_getD]; omega)))) (Wt.plain rfl) rfl rfl ?_
  refine D.take 3 rfl (by kernel_rfl) (fun _ h => h) (q_int (b := b.getD 0 0) (q_conv un5 un3 rfl rfl) (i64_wrap (by omega) (by omega))) (Wt.plain rfl) rfl rfl ?_
  refine D.take 5 rfl (by kernel_rfl) (fun _ h => h) (q_move rfl rfl) (Wt.plain rfl) rfl rfl ?_
  refine D.take 6 rfl (by kernel_rfl) (fun _ h => h) (q_sl sc22 1 b.length bc rfl rfl ⟨_, _, rfl, rfl⟩ rfl rfl (by first | omega | (simp; done) | (simp [-List.getD_eq_getElem?_getD]; omega)) (by first | omega | (simp; done) | (simp [-List.getD_eq_getElem?_getD]; omega)) (by first | omega | (simp; done) | (simp [-List.getD_eq_getElem?_getD]; omega)) (by simp)) (Wt.plain rfl) rfl rfl ?_
  refine D.two 4 9 (by kernel_rfl) ?_ ?_
  ·
    refine Up.eff rfl (e_litA sc22 ze5 rfl rfl rfl (by simp [Value.cells]) rfl rfl rfl) (Wt.plain rfl) ?_
    rintro _ _ ⟨k2, rfl, rfl⟩
    refine ⟨fun _ => (S_sub (((List.Sublist.slnil).cons _).cons_cons _)), ?_⟩
    change (_ : List Blk → Prop) [_, _]
    refine D.two 7 9 (by kernel_rfl) ?_ ?_
    ·
      refine Up.eff rfl (e_appendI sc22 ze5 rfl 1 .u8 [] ((b).drop 1) [] ((List.append_nil _).symm) (R_cutI (R_ext hB.ext) (by first | omega | (simp; done) | (simp [-List.getD_eq_getElem?_getD]; omega) | (simp at *; omega) | rfl)) rfl rfl rfl rfl (by first | omega | (simp; done) | (simp [-List.getD_eq_getElem?_getD]; omega) | (simp at *; omega) | rfl) (by first | omega | (simp; done) | (simp [-List.getD_eq_getElem?_getD]; omega) | (simp at *; omega) | rfl) (by first | omega | (simp; done) | (simp [-List.getD_eq_getElem?_getD]; omega) | (simp at *; omega) | rfl) (by first | omega | (simp; done) | (simp [-List.getD_eq_getElem?_getD]; omega)) (by first | omega | (simp; done) | (simp [-List.getD_eq_getElem?_getD]; omega)) rfl rfl) (Wt.plain rfl) ?_
      rintro _ _ ⟨k3, cap4, junk5, hc6, rfl, rfl⟩
      refine ⟨fun _ => (S_sub (((List.Sublist.slnil).cons _).cons_cons _)), ?_⟩
      change (_ : List Blk → Prop) [_, _]
      change (_ : List Blk → Prop) [_, ⟨some k3, ints .u8 (b.drop 1) ++ junk5, 5, (0, 0)⟩]
      refine D.take 8 rfl (by kernel_rfl) (S_sub (((List.Sublist.slnil).cons _).cons_cons _)) (q_buildP (cells := [.int .i64 (b.getD 0 0), .int .i64 0, .int .i64 0, .int .i64 0, .int .i64 0, .slice (some ⟨k3, 0, none⟩) (0 + (b.length - 1)) cap4]) bp40 ze40 rfl rfl ⟨_, _, [.int .i64 (b.getD 0 0)], _, rfl, rfl, rfl, (Nat.le_of_ble_eq_true rfl), rfl, _, _, [.slice (some ⟨k3, 0, none⟩) (0 + (b.length - 1)) cap4], _, rfl, rfl, rfl, (Nat.le_of_ble_eq_true rfl), rfl, rfl⟩) (Wt.plain rfl) rfl rfl ?_
      refine D.one 9 (by kernel_rfl) ?_
      refine Up.eff rfl (e_alloc ze40 rfl rfl rfl) (Wt.plain rfl) ?_
      rintro _ _ ⟨k7, rfl, rfl⟩
      refine ⟨fun _ => (S_sub ((((List.Sublist.slnil).cons _).cons _).cons_cons _)), ?_⟩
      change (_ : List Blk → Prop) [_, _, _]
      refine D.one 10 (by kernel_rfl) ?_
      refine Up.eff rfl (e_storeA wd40 2 rfl rfl rfl rfl (by first | omega | (simp; done) | (simp [-List.getD_eq_getElem?_getD]; omega) | (simp at *; omega) | rfl) (by simp [Value.oneCell']) rfl) (Wt.plain rfl) ?_
      rintro _ _ ⟨rfl, rfl⟩
      refine ⟨fun h => absurd h (by decide), ?_⟩
      change (_ : List Blk → Prop) [_, _, _]
      refine D.done (by kernel_rfl) ?_
      refine Ex.next ?_
      refine W.slots (L' := [(0, _), (2, _), (4, _)]) ⟨rfl, rfl, rfl, trivial⟩ ?_
      refine W.seq ?_
      refine W.seq ?_
      refine W.region ?_
      refine T.q (q_fld fl40_0 rfl rfl) (Wt.plain rfl) rfl rfl ?_
      refine T.q (q_load1 ss3 2 rfl rfl rfl rfl) (Wt.plain rfl) rfl rfl ?_
      refine T.q (q_bool (b := false) (q_eql rfl rfl rfl) (decide_eq_false (by omega))) (Wt.plain rfl) rfl rfl ?_
      refine T.nil ?_
      refine Ex.next ?_
      refine W.slots (L' := [(0, _), (2, _), (4, _), (31, _)]) ⟨rfl, rfl, rfl, rfl, trivial⟩ ?_
      refine W.condF rfl ?_
      refine W.skip ?_
      refine Ex.next ?_
      refine W.slots (L' := [(2, _), (4, _)]) ⟨rfl, rfl, trivial⟩ ?_
      refine W.seq ?_
      refine W.seq ?_
      refine W.region ?_
      refine T.q (q_loadW wd40 (R_blk 2 rfl) rfl rfl) (Wt.plain rfl) rfl rfl ?_
      refine T.eff (e_call enters42 rfl rfl (fun w hm => may_true (by first | assumption | (unfold recP; omega) | (unfold othP; omega) | (unfold mayP recP othP at *; omega) | (unfold recP at *; omega)) w) rfl rfl) (Wt.plain rfl) ?_
      rintro _ _ ⟨_, _, ⟨rfl, rfl⟩, rfl, rfl⟩
      change (_ : List Blk → Prop) [_, _, _]
      refine T.q (q_not rfl rfl) (Wt.plain rfl) rfl rfl ?_
      refine T.nil ?_
      refine Ex.next ?_
      refine W.slots (L' := [(2, _), (4, _), (65, _)]) ⟨rfl, rfl, rfl, trivial⟩ ?_
      refine W.condF rfl ?_
      refine W.skip ?_
      refine Ex.next ?_
      refine W.slots (L' := [(2, _), (4, _)]) ⟨rfl, rfl, trivial⟩ ?_
      refine W.seq ?_
      refine W.region ?_
      refine T.q (q_loadW wd40 (R_blk 2 rfl) rfl rfl) (Wt.plain rfl) rfl rfl ?_
      refine T.eff (e_storeA wd40 0 rfl rfl rfl rfl (by first | omega | (simp; done) | (simp [-List.getD_eq_getElem?_getD]; omega) | (simp at *; omega) | rfl) (by simp [Value.oneCell']) rfl) (Wt.plain rfl) ?_
      rintro _ _ ⟨rfl, rfl⟩
      change (_ : List Blk → Prop) [_, _, _]
      refine T.q (q_assign rfl rfl) (Wt.plain rfl) rfl rfl ?_
      refine T.nil ?_
      refine Ex.next ?_
      refine W.less (L' := [(2, _), (3, _)]) [true, true, false] ⟨rfl, rfl, trivial⟩ ?_
      change (_ : List Blk → Prop) [_, _]
      refine W.ret ?_
      refine Ex.outCT [false, true] 0 rfl (by exact wd40) rfl rfl rfl ?_
      exact ⟨some _, _, _, by have e := Nat.zero_add (b.length - 1); rw [e]; rfl, by omega, rfl⟩
    ·
      refine Up.eff rfl (e_alloc ze40 rfl rfl rfl) (Wt.plain rfl) ?_
      rintro _ _ ⟨k8, rfl, rfl⟩
      refine ⟨fun _ => (S_sub ((((List.Sublist.slnil).cons _).cons _).cons_cons _)), ?_⟩
      change (_ : List Blk → Prop) [_, _, _]
      refine D.one 7 (by kernel_rfl) ?_
      refine Up.eff rfl (e_appendI sc22 ze5 rfl 1 .u8 [] ((b).drop 1) [] ((List.append_nil _).symm) (R_cutI (R_ext hB.ext) (by first | omega | (simp; done) | (simp [-List.getD_eq_getElem?_getD]; omega) | (simp at *; omega) | rfl)) rfl rfl rfl rfl (by first | omega | (simp; done) | (simp [-List.getD_eq_getElem?_getD]; omega) | (simp at *; omega) | rfl) (by first | omega | (simp; done) | (simp [-List.getD_eq_getElem?_getD]; omega) | (simp at *; omega) | rfl) (by first | omega | (simp; done) | (simp [-List.getD_eq_getElem?_getD]; omega) | (simp at *; omega) | rfl) (by first | omega | (simp; done) | (simp [-List.getD_eq_getElem?_getD]; omega)) (by first | omega | (simp; done) | (simp [-List.getD_eq_getElem?_getD]; omega)) rfl rfl) (Wt.plain rfl) ?_
      rintro _ _ ⟨k9, cap10, junk11, hc12, rfl, rfl⟩
      refine ⟨fun _ => (S_sub ((((List.Sublist.slnil).cons _).cons _).cons_cons _)), ?_⟩
      change (_ : List Blk → Prop) [_, _, _]
      change (_ : List Blk → Prop) [_, ⟨some k9, ints .u8 (b.drop 1) ++ junk11, 5, (0, 0)⟩, _]
      refine D.take 8 rfl (by kernel_rfl) (S_sub ((((List.Sublist.slnil).cons _).cons _).cons_cons _)) (q_buildP (cells := [.int .i64 (b.getD 0 0), .int .i64 0, .int .i64 0, .int .i64 0, .int .i64 0, .slice (some ⟨k9, 0, none⟩) (0 + (b.length - 1)) cap10]) bp40 ze40 rfl rfl ⟨_, _, [.int .i64 (b.getD 0 0)], _, rfl, rfl, rfl, (Nat.le_of_ble_eq_true rfl), rfl, _, _, [.slice (some ⟨k9, 0, none⟩) (0 + (b.length - 1)) cap10], _, rfl, rfl, rfl, (Nat.le_of_ble_eq_true rfl), rfl, rfl⟩) (Wt.plain rfl) rfl rfl ?_
      refine D.one 10 (by kernel_rfl) ?_
      refine Up.eff rfl (e_storeA wd40 2 rfl rfl rfl rfl (by first | omega | (simp; done) | (simp [-List.getD_eq_getElem?_getD]; omega) | (simp at *; omega) | rfl) (by simp [Value.oneCell']) rfl) (Wt.plain rfl) ?_
      rintro _ _ ⟨rfl, rfl⟩
      refine ⟨fun h => absurd h (by decide), ?_⟩
      change (_ : List Blk → Prop) [_, _, _]
      refine D.done (by kernel_rfl) ?_
      refine Ex.next ?_
      refine W.slots (L' := [(0, _), (2, _), (4, _)]) ⟨rfl, rfl, rfl, trivial⟩ ?_
      refine W.seq ?_
      refine W.seq ?_
      refine W.region ?_
      refine T.q (q_fld fl40_0 rfl rfl) (Wt.plain rfl) rfl rfl ?_
      refine T.q (q_load1 ss3 2 rfl rfl rfl rfl) (Wt.plain rfl) rfl rfl ?_
      refine T.q (q_bool (b := false) (q_eql rfl rfl rfl) (decide_eq_false (by omega))) (Wt.plain rfl) rfl rfl ?_
      refine T.nil ?_
      refine Ex.next ?_
      refine W.slots (L' := [(0, _), (2, _), (4, _), (31, _)]) ⟨rfl, rfl, rfl, rfl, trivial⟩ ?_
      refine W.condF rfl ?_
      refine W.skip ?_
      refine Ex.next ?_
      refine W.slots (L' := [(2, _), (4, _)]) ⟨rfl, rfl, trivial⟩ ?_
      refine W.seq ?_
      refine W.seq ?_
      refine W.region ?_
      refine T.q (q_loadW wd40 (R_blk 2 rfl) rfl rfl) (Wt.plain rfl) rfl rfl ?_
      refine T.eff (e_call enters42 rfl rfl (fun w hm => may_true (by first | assumption | (unfold recP; omega) | (unfold othP; omega) | (unfold mayP recP othP at *; omega) | (unfold recP at *; omega)) w) rfl rfl) (Wt.plain rfl) ?_
      rintro _ _ ⟨_, _, ⟨rfl, rfl⟩, rfl, rfl⟩
      change (_ : List Blk → Prop) [_, _, _]
      refine T.q (q_not rfl rfl) (Wt.plain rfl) rfl rfl ?_
      refine T.nil ?_
      refine Ex.next ?_
      refine W.slots (L' := [(2, _), (4, _), (65, _)]) ⟨rfl, rfl, rfl, trivial⟩ ?_
      refine W.condF rfl ?_
      refine W.skip ?_
      refine Ex.next ?_
      refine W.slots (L' := [(2, _), (4, _)]) ⟨rfl, rfl, trivial⟩ ?_
      refine W.seq ?_
      refine W.region ?_
      refine T.q (q_loadW wd40 (R_blk 2 rfl) rfl rfl) (Wt.plain rfl) rfl rfl ?_
      refine T.eff (e_storeA wd40 0 rfl rfl rfl rfl (by first | omega | (simp; done) | (simp [-List.getD_eq_getElem?_getD]; omega) | (simp at *; omega) | rfl) (by simp [Value.oneCell']) rfl) (Wt.plain rfl) ?_
      rintro _ _ ⟨rfl, rfl⟩
      change (_ : List Blk → Prop) [_, _, _]
      refine T.q (q_assign rfl rfl) (Wt.plain rfl) rfl rfl ?_
      refine T.nil ?_
      refine Ex.next ?_
      refine W.less (L' := [(2, _), (3, _)]) [true, true, false] ⟨rfl, rfl, trivial⟩ ?_
      change (_ : List Blk → Prop) [_, _]
      refine W.ret ?_
      refine Ex.outCT [false, true] 0 rfl (by exact wd40) rfl rfl rfl ?_
      exact ⟨some _, _, _, by have e := Nat.zero_add (b.length - 1); rw [e]; rfl, by omega, rfl⟩
  ·
    refine Up.eff rfl (e_alloc ze40 rfl rfl rfl) (Wt.plain rfl) ?_
    rintro _ _ ⟨k13, rfl, rfl⟩
    refine ⟨fun _ => (S_sub (((List.Sublist.slnil).cons _).cons_cons _)), ?_⟩
    change (_ : List Blk → Prop) [_, _]
    refine D.one 4 (by kernel_rfl) ?_
    refine Up.eff rfl (e_litA sc22 ze5 rfl rfl rfl (by simp [Value.cells]) rfl rfl rfl) (Wt.plain rfl) ?_
    rintro _ _ ⟨k14, rfl, rfl⟩
    refine ⟨fun _ => (S_sub ((((List.Sublist.slnil).cons _).cons _).cons_cons _)), ?_⟩
    change (_ : List Blk → Prop) [_, _, _]
    refine D.one 7 (by kernel_rfl) ?_
    refine Up.eff rfl (e_appendI sc22 ze5 rfl 2 .u8 [] ((b).drop 1) [] ((List.append_nil _).symm) (R_cutI (R_ext hB.ext) (by first | omega | (simp; done) | (simp [-List.getD_eq_getElem?_getD]; omega) | (simp at *; omega) | rfl)) rfl rfl rfl rfl (by first | omega | (simp; done) | (simp [-List.getD_eq_getElem?_getD]; omega) | (simp at *; omega) | rfl) (by first | omega | (simp; done) | (simp [-List.getD_eq_getElem?_getD]; omega) | (simp at *; omega) | rfl) (by first | omega | (simp; done) | (simp [-List.getD_eq_getElem?_getD]; omega) | (simp at *; omega) | rfl) (by first | omega | (simp; done) | (simp [-List.getD_eq_getElem?_getD]; omega)) (by first | omega | (simp; done) | (simp [-List.getD_eq_getElem?_getD]; omega)) rfl rfl) (Wt.plain rfl) ?_
    rintro _ _ ⟨k15, cap16, junk17, hc18, rfl, rfl⟩
    refine ⟨fun _ => (S_sub ((((List.Sublist.slnil).cons _).cons _).cons_cons _)), ?_⟩
    change (_ : List Blk → Prop) [_, _, _]
    change (_ : List Blk → Prop) [_, _, ⟨some k15, ints .u8 (b.drop 1) ++ junk17, 5, (0, 0)⟩]
    refine D.take 8 rfl (by kernel_rfl) (S_sub ((((List.Sublist.slnil).cons _).cons _).cons_cons _)) (q_buildP (cells := [.int .i64 (b.getD 0 0), .int .i64 0, .int .i64 0, .int .i64 0, .int .i64 0, .slice (some ⟨k15, 0, none⟩) (0 + (b.length - 1)) cap16]) bp40 ze40 rfl rfl ⟨_, _, [.int .i64 (b.getD 0 0)], _, rfl, rfl, rfl, (Nat.le_of_ble_eq_true rfl), rfl, _, _, [.slice (some ⟨k15, 0, none⟩) (0 + (b.length - 1)) cap16], _, rfl, rfl, rfl, (Nat.le_of_ble_eq_true rfl), rfl, rfl⟩) (Wt.plain rfl) rfl rfl ?_
    refine D.one 10 (by kernel_rfl) ?_
    refine Up.eff rfl (e_storeA wd40 1 rfl rfl rfl rfl (by first | omega | (simp; done) | (simp [-List.getD_eq_getElem?_getD]; omega) | (simp at *; omega) | rfl) (by simp [Value.oneCell']) rfl) (Wt.plain rfl) ?_
    rintro _ _ ⟨rfl, rfl⟩
    refine ⟨fun h => absurd h (by decide), ?_⟩
    change (_ : List Blk → Prop) [_, _, _]
    refine D.done (by kernel_rfl) ?_
    refine Ex.next ?_
    refine W.slots (L' := [(0, _), (2, _), (4, _)]) ⟨rfl, rfl, rfl, trivial⟩ ?_
    refine W.seq ?_
    refine W.seq ?_
    refine W.region ?_
    refine T.q (q_fld fl40_0 rfl rfl) (Wt.plain rfl) rfl rfl ?_
    refine T.q (q_load1 ss3 1 rfl rfl rfl rfl) (Wt.plain rfl) rfl rfl ?_
    refine T.q (q_bool (b := false) (q_eql rfl rfl rfl) (decide_eq_false (by omega))) (Wt.plain rfl) rfl rfl ?_
    refine T.nil ?_
    refine Ex.next ?_
    refine W.slots (L' := [(0, _), (2, _), (4, _), (31, _)]) ⟨rfl, rfl, rfl, rfl, trivial⟩ ?_
    refine W.condF rfl ?_
    refine W.skip ?_
    refine Ex.next ?_
    refine W.slots (L' := [(2, _), (4, _)]) ⟨rfl, rfl, trivial⟩ ?_
    refine W.seq ?_
    refine W.seq ?_
    refine W.region ?_
    refine T.q (q_loadW wd40 (R_blk 1 rfl) rfl rfl) (Wt.plain rfl) rfl rfl ?_
    refine T.eff (e_call enters42 rfl rfl (fun w hm => may_true (by first | assumption | (unfold recP; omega) | (unfold othP; omega) | (unfold mayP recP othP at *; omega) | (unfold recP at *; omega)) w) rfl rfl) (Wt.plain rfl) ?_
    rintro _ _ ⟨_, _, ⟨rfl, rfl⟩, rfl, rfl⟩
    change (_ : List Blk → Prop) [_, _, _]
    refine T.q (q_not rfl rfl) (Wt.plain rfl) rfl rfl ?_
    refine T.nil ?_
    refine Ex.next ?_
    refine W.slots (L' := [(2, _), (4, _), (65, _)]) ⟨rfl, rfl, rfl, trivial⟩ ?_
    refine W.condF rfl ?_
    refine W.skip ?_
    refine Ex.next ?_
    refine W.slots (L' := [(2, _), (4, _)]) ⟨rfl, rfl, trivial⟩ ?_
    refine W.seq ?_
    refine W.region ?_
    refine T.q (q_loadW wd40 (R_blk 1 rfl) rfl rfl) (Wt.plain rfl) rfl rfl ?_
    refine T.eff (e_storeA wd40 0 rfl rfl rfl rfl (by first | omega | (simp; done) | (simp [-List.getD_eq_getElem?_getD]; omega) | (simp at *; omega) | rfl) (by simp [Value.oneCell']) rfl) (Wt.plain rfl) ?_
    rintro _ _ ⟨rfl, rfl⟩
    change (_ : List Blk → Prop) [_, _, _]
    refine T.q (q_assign rfl rfl) (Wt.plain rfl) rfl rfl ?_
    refine T.nil ?_
    refine Ex.next ?_
    refine W.less (L' := [(2, _), (3, _)]) [true, false, true] ⟨rfl, rfl, trivial⟩ ?_
    change (_ : List Blk → Prop) [_, _]
    refine W.ret ?_
    refine Ex.outCT [false, true] 0 rfl (by exact wd40) rfl rfl rfl ?_
    exact ⟨some _, _, _, by have e := Nat.zero_add (b.length - 1); rw [e]; rfl, by omega, rfl⟩
set_option maxRecDepth 100000 in
theorem refparse_Obad (b : List Int) (BA : Option Addr) (bc : Nat) (_hbc : b.length ≤ bc) (hbl : b.length ≤ 140737488354000) (hbb : Bytes b) (h0 : b.getD 0 0 ≠ 3) (hge : 1 ≤ b.length) (hbad : (b.getD 0 0 ≠ 1 ∧ b.getD 0 0 ≠ 2) ∨ b.length < 2 ∨ 301 < b.length) (w0 : World) (hB : Reads w0 BA (ints .u8 b)) : Does Try.prog 40 #[.slice BA b.length bc] w0 [] (fun v G => v = .tuple #[.agg #[.int .i64 0, .int .i64 0, .int .i64 0, .int .i64 0, .int .i64 0, .slice none 0 0], .int .i64 110] ∧ G = []) := by
  have hb0 := hbb.getD 0
  have hb1 := hbb.getD 1
  have hb2 := hbb.getD 2
  refine spec_of 68 Try.func40 rfl rfl rfl ?_
  refine W.seq ?_
  refine W.region ?_
  refine T.eff (e_alloc ze40 rfl rfl rfl) (Wt.plain rfl) ?_
  rintro _ _ ⟨k1, rfl, rfl⟩
  change (_ : List Blk → Prop) [_]
  refine T.q (q_assign rfl rfl) (Wt.plain rfl) rfl rfl ?_
  refine T.nil ?_
  refine Ex.next ?_
  refine W.slots (L' := [(0, _), (2, _)]) ⟨rfl, rfl, trivial⟩ ?_
  refine W.seq ?_
  refine W.seq ?_
  refine W.region ?_
  refine T.q (q_move rfl rfl) (Wt.plain rfl) rfl rfl ?_
  refine T.q (q_len sc22 rfl rfl) (Wt.plain rfl) rfl rfl ?_
  refine T.q (q_bool (b := false) (q_eql rfl rfl rfl) (decide_eq_false (by omega))) (Wt.plain rfl) rfl rfl ?_
  refine T.q (q_move rfl rfl) (Wt.plain rfl) rfl rfl ?_
  refine T.q (q_move rfl rfl) (Wt.yes rfl rfl rfl) rfl rfl ?_
  refine T.q (q_ixE1 sc22 0 (R_ext hB.ext) rfl rfl rfl (rfl) (by omega) (by first | omega | (simp; done) | (simp [-List.getD_eq_getElem?_getD]; omega))) (Wt.yes rfl rfl rfl) rfl rfl ?_
  refine T.q (q_loadE ss5 (R_ext hB.ext) rfl rfl (ints_get (by first | omega | (simp; done) | (simp [-List.getD_eq_getElem?_getD]; omega)))) (Wt.yes rfl rfl rfl) rfl rfl ?_
  refine T.q (q_bool (b := false) (q_eql rfl rfl rfl) (decide_eq_false (by omega))) (Wt.yes rfl rfl rfl) rfl rfl ?_
  refine T.q (q_move rfl rfl) (Wt.yes rfl rfl rfl) rfl rfl ?_
  refine T.no (Wn.no rfl rfl rfl rfl) rfl rfl ?_
  refine T.no (Wn.no rfl rfl rfl rfl) rfl rfl ?_
  refine T.no (Wn.no rfl rfl rfl rfl) rfl rfl ?_
  refine T.q (q_pickF rfl rfl rfl) (Wt.yes rfl rfl rfl) rfl rfl ?_
  refine T.q (q_pickF rfl rfl rfl) (Wt.plain rfl) rfl rfl ?_
  refine T.nil ?_
  refine Ex.next ?_
  refine W.slots (L' := [(0, _), (2, _), (18, _)]) ⟨rfl, rfl, rfl, trivial⟩ ?_
  refine W.condF rfl ?_
  refine W.skip ?_
  refine Ex.next ?_
  refine W.slots (L' := [(0, _), (2, _)]) ⟨rfl, rfl, trivial⟩ ?_
  refine W.seq ?_
  refine W.draw 10 (by kernel_rfl) ?_
  refine D.take 0 rfl (by kernel_rfl) (fun _ h => h) (q_move rfl rfl) (Wt.plain rfl) rfl rfl ?_
  refine D.take 1 rfl (by kernel_rfl) (fun _ h => h) (q_ixE1 sc22 0 (R_ext hB.ext) rfl rfl rfl (rfl) (by omega) (by first | omega | (simp; done) | (simp [-List.getD_eq_getElem?_getD]; omega))) (Wt.plain rfl) rfl rfl ?_
  refine D.take 2 rfl (by kernel_rfl) (fun _ h => h) (q_loadE ss5 (R_ext hB.ext) rfl rfl (ints_get (by first | omega | (simp; done) | (simp [-List.getD_eq_getElem?_getD]; omega)))) (Wt.plain rfl) rfl rfl ?_
  refine D.take 3 rfl (by kernel_rfl) (fun _ h => h) (q_int (b := b.getD 0 0) (q_conv un5 un3 rfl rfl) (i64_wrap (by omega) (by omega))) (Wt.plain rfl) rfl rfl ?_
  refine D.take 5 rfl (by kernel_rfl) (fun _ h => h) (q_move rfl rfl) (Wt.plain rfl) rfl rfl ?_
  refine D.take 6 rfl (by kernel_rfl) (fun _ h => h) (q_sl sc22 1 b.length bc rfl rfl ⟨_, _, rfl, rfl⟩ rfl rfl (by first | omega | (simp; done) | (simp [-List.getD_eq_getElem?_getD]; omega)) (by first | omega | (simp; done) | (simp [-List.getD_eq_getElem?_getD]; omega)) (by first | omega | (simp; done) | (simp [-List.getD_eq_getElem?_getD]; omega)) (by simp)) (Wt.plain rfl) rfl rfl ?_
  refine D.two 4 9 (by kernel_rfl) ?_ ?_
  ·
    refine Up.eff rfl (e_litA sc22 ze5 rfl rfl rfl (by simp [Value.cells]) rfl rfl rfl) (Wt.plain rfl) ?_
    rintro _ _ ⟨k2, rfl, rfl⟩
    refine ⟨fun _ => (S_sub (((List.Sublist.slnil).cons _).cons_cons _)), ?_⟩
    change (_ : List Blk → Prop) [_, _]
    refine D.two 7 9 (by kernel_rfl) ?_ ?_
    ·
      refine Up.eff rfl (e_appendI sc22 ze5 rfl 1 .u8 [] ((b).drop 1) [] ((List.append_nil _).symm) (R_cutI (R_ext hB.ext) (by first | omega | (simp; done) | (simp [-List.getD_eq_getElem?_getD]; omega) | (simp at *; omega) | rfl)) rfl rfl rfl rfl (by first | omega | (simp; done) | (simp [-List.getD_eq_getElem?_getD]; omega) | (simp at *; omega) | rfl) (by first | omega | (simp; done) | (simp [-List.getD_eq_getElem?_getD]; omega) | (simp at *; omega) | rfl) (by first | omega | (simp; done) | (simp [-List.getD_eq_getElem?_getD]; omega) | (simp at *; omega) | rfl) (by first | omega | (simp; done) | (simp [-List.getD_eq_getElem?_getD]; omega)) (by first | omega | (simp; done) | (simp [-List.getD_eq_getElem?_getD]; omega)) rfl rfl) (Wt.plain rfl) ?_
      rintro _ _ ⟨k3, cap4, junk5, hc6, rfl, rfl⟩
      refine ⟨fun _ => (S_sub (((List.Sublist.slnil).cons _).cons_cons _)), ?_⟩
      change (_ : List Blk → Prop) [_, _]
      change (_ : List Blk → Prop) [_, ⟨some k3, ints .u8 (b.drop 1) ++ junk5, 5, (0, 0)⟩]
      refine D.take 8 rfl (by kernel_rfl) (S_sub (((List.Sublist.slnil).cons _).cons_cons _)) (q_buildP (cells := [.int .i64 (b.getD 0 0), .int .i64 0, .int .i64 0, .int .i64 0, .int .i64 0, .slice (some ⟨k3, 0, none⟩) (0 + (b.length - 1)) cap4]) bp40 ze40 rfl rfl ⟨_, _, [.int .i64 (b.getD 0 0)], _, rfl, rfl, rfl, (Nat.le_of_ble_eq_true rfl), rfl, _, _, [.slice (some ⟨k3, 0, none⟩) (0 + (b.length - 1)) cap4], _, rfl, rfl, rfl, (Nat.le_of_ble_eq_true rfl), rfl, rfl⟩) (Wt.plain rfl) rfl rfl ?_
      refine D.one 9 (by kernel_rfl) ?_
      refine Up.eff rfl (e_alloc ze40 rfl rfl rfl) (Wt.plain rfl) ?_
      rintro _ _ ⟨k7, rfl, rfl⟩
      refine ⟨fun _ => (S_sub ((((List.Sublist.slnil).cons _).cons _).cons_cons _)), ?_⟩
      change (_ : List Blk → Prop) [_, _, _]
      refine D.one 10 (by kernel_rfl) ?_
      refine Up.eff rfl (e_storeA wd40 2 rfl rfl rfl rfl (by first | omega | (simp; done) | (simp [-List.getD_eq_getElem?_getD]; omega) | (simp at *; omega) | rfl) (by simp [Value.oneCell']) rfl) (Wt.plain rfl) ?_
      rintro _ _ ⟨rfl, rfl⟩
      refine ⟨fun h => absurd h (by decide), ?_⟩
      change (_ : List Blk → Prop) [_, _, _]
      refine D.done (by kernel_rfl) ?_
      refine Ex.next ?_
      refine W.slots (L' := [(0, _), (2, _), (4, _)]) ⟨rfl, rfl, rfl, trivial⟩ ?_
      refine W.seq ?_
      refine W.seq ?_
      refine W.region ?_
      refine T.q (q_fld fl40_0 rfl rfl) (Wt.plain rfl) rfl rfl ?_
      refine T.q (q_load1 ss3 2 rfl rfl rfl rfl) (Wt.plain rfl) rfl rfl ?_
      refine T.q (q_bool (b := false) (q_eql rfl rfl rfl) (decide_eq_false (by omega))) (Wt.plain rfl) rfl rfl ?_
      refine T.nil ?_
      refine Ex.next ?_
      refine W.slots (L' := [(0, _), (2, _), (4, _), (31, _)]) ⟨rfl, rfl, rfl, rfl, trivial⟩ ?_
      refine W.condF rfl ?_
      refine W.skip ?_
      refine Ex.next ?_
      refine W.slots (L' := [(2, _), (4, _)]) ⟨rfl, rfl, trivial⟩ ?_
      refine W.seq ?_
      refine W.seq ?_
      refine W.region ?_
      refine T.q (q_loadW wd40 (R_blk 2 rfl) rfl rfl) (Wt.plain rfl) rfl rfl ?_
      refine T.eff (e_call enters42 rfl rfl (fun w hm => may_false (by unfold mayP recP othP; omega) w) rfl rfl) (Wt.plain rfl) ?_
      rintro _ _ ⟨_, _, ⟨rfl, rfl⟩, rfl, rfl⟩
      change (_ : List Blk → Prop) [_, _, _]
      refine T.q (q_not rfl rfl) (Wt.plain rfl) rfl rfl ?_
      refine T.nil ?_
      refine Ex.next ?_
      refine W.slots (L' := [(2, _), (4, _), (65, _)]) ⟨rfl, rfl, rfl, trivial⟩ ?_
      refine W.condT rfl ?_
      refine W.seq ?_
      refine W.region ?_
      refine T.q (q_buildP (cells := [.int .i64 0, .int .i64 0, .int .i64 0, .int .i64 0, .int .i64 0, .slice none 0 0]) bp40 ze40 rfl rfl rfl) (Wt.plain rfl) rfl rfl ?_
      refine T.eff (e_storeA wd40 0 rfl rfl rfl rfl (by first | omega | (simp; done) | (simp [-List.getD_eq_getElem?_getD]; omega) | (simp at *; omega) | rfl) (by simp [Value.oneCell']) rfl) (Wt.plain rfl) ?_
      rintro _ _ ⟨rfl, rfl⟩
      change (_ : List Blk → Prop) [_, _, _]
      refine T.q (q_assign rfl rfl) (Wt.plain rfl) rfl rfl ?_
      refine T.nil ?_
      refine Ex.next ?_
      refine W.less (L' := [(2, _), (3, _)]) [true, false, false] ⟨rfl, rfl, trivial⟩ ?_
      change (_ : List Blk → Prop) [_]
      refine W.ret ?_
      refine Ex.then_ret ?_
      refine Ex.outCT [false] 0 rfl (by exact wd40) rfl rfl rfl ?_
      exact ⟨rfl, rfl⟩
    ·
      refine Up.eff rfl (e_alloc ze40 rfl rfl rfl) (Wt.plain rfl) ?_
      rintro _ _ ⟨k8, rfl, rfl⟩
      refine ⟨fun _ => (S_sub ((((List.Sublist.slnil).cons _).cons _).cons_cons _)), ?_⟩
      change (_ : List Blk → Prop) [_, _, _]
      refine D.one 7 (by kernel_rfl) ?_
      refine Up.eff rfl (e_appendI sc22 ze5 rfl 1 .u8 [] ((b).drop 1) [] ((List.append_nil _).symm) (R_cutI (R_ext hB.ext) (by first | omega | (simp; done) | (simp [-List.getD_eq_getElem?_getD]; omega) | (simp at *; omega) | rfl)) rfl rfl rfl rfl (by first | omega | (simp; done) | (simp [-List.getD_eq_getElem?_getD]; omega) | (simp at *; omega) | rfl) (by first | omega | (simp; done) | (simp [-List.getD_eq_getElem?_getD]; omega) | (simp at *; omega) | rfl) (by first | omega | (simp; done) | (simp [-List.getD_eq_getElem?_getD]; omega) | (simp at *; omega) | rfl) (by first | omega | (simp; done) | (simp [-List.getD_eq_getElem?_getD]; omega)) (by first | omega | (simp; done) | (simp [-List.getD_eq_getElem?_getD]; omega)) rfl rfl) (Wt.plain rfl) ?_
      rintro _ _ ⟨k9, cap10, junk11, hc12, rfl, rfl⟩
      refine ⟨fun _ => (S_sub ((((List.Sublist.slnil).cons _).cons _).cons_cons _)), ?_⟩
      change (_ : List Blk → Prop) [_, _, _]
      change (_ : List Blk → Prop) [_, ⟨some k9, ints .u8 (b.drop 1) ++ junk11, 5, (0, 0)⟩, _]
      refine D.take 8 rfl (by kernel_rfl) (S_sub ((((List.Sublist.slnil).cons _).cons _).cons_cons _)) (q_buildP (cells := [.int .i64 (b.getD 0 0), .int .i64 0, .int .i64 0, .int .i64 0, .int .i64 0, .slice (some ⟨k9, 0, none⟩) (0 + (b.length - 1)) cap10]) bp40 ze40 rfl rfl ⟨_, _, [.int .i64 (b.getD 0 0)], _, rfl, rfl, rfl, (Nat.le_of_ble_eq_true rfl), rfl, _, _, [.slice (some ⟨k9, 0, none⟩) (0 + (b.length - 1)) cap10], _, rfl, rfl, rfl, (Nat.le_of_ble_eq_true rfl), rfl, rfl⟩) (Wt.plain rfl) rfl rfl ?_
      refine D.one 10 (by kernel_rfl) ?_
      refine Up.eff rfl (e_storeA wd40 2 rfl rfl rfl rfl (by first | omega | (simp; done) | (simp [-List.getD_eq_getElem?_getD]; omega) | (simp at *; omega) | rfl) (by simp [Value.oneCell']) rfl) (Wt.plain rfl) ?_
      rintro _ _ ⟨rfl, rfl⟩
      refine ⟨fun h => absurd h (by decide), ?_⟩
      change (_ : List Blk → Prop) [_, _, _]
      refine D.done (by kernel_rfl) ?_
      refine Ex.next ?_
      refine W.slots (L' := [(0, _), (2, _), (4, _)]) ⟨rfl, rfl, rfl, trivial⟩ ?_
      refine W.seq ?_
      refine W.seq ?_
      refine W.region ?_
      refine T.q (q_fld fl40_0 rfl rfl) (Wt.plain rfl) rfl rfl ?_
      refine T.q (q_load1 ss3 2 rfl rfl rfl rfl) (Wt.plain rfl) rfl rfl ?_
      refine T.q (q_bool (b := false) (q_eql rfl rfl rfl) (decide_eq_false (by omega))) (Wt.plain rfl) rfl rfl ?_
      refine T.nil ?_
      refine Ex.next ?_
      refine W.slots (L' := [(0, _), (2, _), (4, _), (31, _)]) ⟨rfl, rfl, rfl, rfl, trivial⟩ ?_
      refine W.condF rfl ?_
      refine W.skip ?_
      refine Ex.next ?_
      refine W.slots (L' := [(2, _), (4, _)]) ⟨rfl, rfl, trivial⟩ ?_
      refine W.seq ?_
      refine W.seq ?_
      refine W.region ?_
      refine T.q (q_loadW wd40 (R_blk 2 rfl) rfl rfl) (Wt.plain rfl) rfl rfl ?_
      refine T.eff (e_call enters42 rfl rfl (fun w hm => may_false (by unfold mayP recP othP; omega) w) rfl rfl) (Wt.plain rfl) ?_
      rintro _ _ ⟨_, _, ⟨rfl, rfl⟩, rfl, rfl⟩
      change (_ : List Blk → Prop) [_, _, _]
      refine T.q (q_not rfl rfl) (Wt.plain rfl) rfl rfl ?_
      refine T.nil ?_
      refine Ex.next ?_
      refine W.slots (L' := [(2, _), (4, _), (65, _)]) ⟨rfl, rfl, rfl, trivial⟩ ?_
      refine W.condT rfl ?_
      refine W.seq ?_
      refine W.region ?_
      refine T.q (q_buildP (cells := [.int .i64 0, .int .i64 0, .int .i64 0, .int .i64 0, .int .i64 0, .slice none 0 0]) bp40 ze40 rfl rfl rfl) (Wt.plain rfl) rfl rfl ?_
      refine T.eff (e_storeA wd40 0 rfl rfl rfl rfl (by first | omega | (simp; done) | (simp [-List.getD_eq_getElem?_getD]; omega) | (simp at *; omega) | rfl) (by simp [Value.oneCell']) rfl) (Wt.plain rfl) ?_
      rintro _ _ ⟨rfl, rfl⟩
      change (_ : List Blk → Prop) [_, _, _]
      refine T.q (q_assign rfl rfl) (Wt.plain rfl) rfl rfl ?_
      refine T.nil ?_
      refine Ex.next ?_
      refine W.less (L' := [(2, _), (3, _)]) [true, false, false] ⟨rfl, rfl, trivial⟩ ?_
      change (_ : List Blk → Prop) [_]
      refine W.ret ?_
      refine Ex.then_ret ?_
      refine Ex.outCT [false] 0 rfl (by exact wd40) rfl rfl rfl ?_
      exact ⟨rfl, rfl⟩
  ·
    refine Up.eff rfl (e_alloc ze40 rfl rfl rfl) (Wt.plain rfl) ?_
    rintro _ _ ⟨k13, rfl, rfl⟩
    refine ⟨fun _ => (S_sub (((List.Sublist.slnil).cons _).cons_cons _)), ?_⟩
    change (_ : List Blk → Prop) [_, _]
    refine D.one 4 (by kernel_rfl) ?_
    refine Up.eff rfl (e_litA sc22 ze5 rfl rfl rfl (by simp [Value.cells]) rfl rfl rfl) (Wt.plain rfl) ?_
    rintro _ _ ⟨k14, rfl, rfl⟩
    refine ⟨fun _ => (S_sub ((((List.Sublist.slnil).cons _).cons _).cons_cons _)), ?_⟩
    change (_ : List Blk → Prop) [_, _, _]
    refine D.one 7 (by kernel_rfl) ?_
    refine Up.eff rfl (e_appendI sc22 ze5 rfl 2 .u8 [] ((b).drop 1) [] ((List.append_nil _).symm) (R_cutI (R_ext hB.ext) (by first | omega | (simp; done) | (simp [-List.getD_eq_getElem?_getD]; omega) | (simp at *; omega) | rfl)) rfl rfl rfl rfl (by first | omega | (simp; done) | (simp [-List.getD_eq_getElem?_getD]; omega) | (simp at *; omega) | rfl) (by first | omega | (simp; done) | (simp [-List.getD_eq_getElem?_getD]; omega) | (simp at *; omega) | rfl) (by first | omega | (simp; done) | (simp [-List.getD_eq_getElem?_getD]; omega) | (simp at *; omega) | rfl) (by first | omega | (simp; done) | (simp [-List.getD_eq_getElem?_getD]; omega)) (by first | omega | (simp; done) | (simp [-List.getD_eq_getElem?_getD]; omega)) rfl rfl) (Wt.plain rfl) ?_
    rintro _ _ ⟨k15, cap16, junk17, hc18, rfl, rfl⟩
    refine ⟨fun _ => (S_sub ((((List.Sublist.slnil).cons _).cons _).cons_cons _)), ?_⟩
    change (_ : List Blk → Prop) [_, _, _]
    change (_ : List Blk → Prop) [_, _, ⟨some k15, ints .u8 (b.drop 1) ++ junk17, 5, (0, 0)⟩]
    refine D.take 8 rfl (by kernel_rfl) (S_sub ((((List.Sublist.slnil).cons _).cons _).cons_cons _)) (q_buildP (cells := [.int .i64 (b.getD 0 0), .int .i64 0, .int .i64 0, .int .i64 0, .int .i64 0, .slice (some ⟨k15, 0, none⟩) (0 + (b.length - 1)) cap16]) bp40 ze40 rfl rfl ⟨_, _, [.int .i64 (b.getD 0 0)], _, rfl, rfl, rfl, (Nat.le_of_ble_eq_true rfl), rfl, _, _, [.slice (some ⟨k15, 0, none⟩) (0 + (b.length - 1)) cap16], _, rfl, rfl, rfl, (Nat.le_of_ble_eq_true rfl), rfl, rfl⟩) (Wt.plain rfl) rfl rfl ?_
    refine D.one 10 (by kernel_rfl) ?_
    refine Up.eff rfl (e_storeA wd40 1 rfl rfl rfl rfl (by first | omega | (simp; done) | (simp [-List.getD_eq_getElem?_getD]; omega) | (simp at *; omega) | rfl) (by simp [Value.oneCell']) rfl) (Wt.plain rfl) ?_
    rintro _ _ ⟨rfl, rfl⟩
    refine ⟨fun h => absurd h (by decide), ?_⟩
    change (_ : List Blk → Prop) [_, _, _]
    refine D.done (by kernel_rfl) ?_
    refine Ex.next ?_
    refine W.slots (L' := [(0, _), (2, _), (4, _)]) ⟨rfl, rfl, rfl, trivial⟩ ?_
    refine W.seq ?_
    refine W.seq ?_
    refine W.region ?_
    refine T.q (q_fld fl40_0 rfl rfl) (Wt.plain rfl) rfl rfl ?_
    refine T.q (q_load1 ss3 1 rfl rfl rfl rfl) (Wt.plain rfl) rfl rfl ?_
    refine T.q (q_bool (b := false) (q_eql rfl rfl rfl) (decide_eq_false (by omega))) (Wt.plain rfl) rfl rfl ?_
    refine T.nil ?_
    refine Ex.next ?_
    refine W.slots (L' := [(0, _), (2, _), (4, _), (31, _)]) ⟨rfl, rfl, rfl, rfl, trivial⟩ ?_
    refine W.condF rfl ?_
    refine W.skip ?_
    refine Ex.next ?_
    refine W.slots (L' := [(2, _), (4, _)]) ⟨rfl, rfl, trivial⟩ ?_
    refine W.seq ?_
    refine W.seq ?_
    refine W.region ?_
    refine T.q (q_loadW wd40 (R_blk 1 rfl) rfl rfl) (Wt.plain rfl) rfl rfl ?_
    refine T.eff (e_call enters42 rfl rfl (fun w hm => may_false (by unfold mayP recP othP; omega) w) rfl rfl) (Wt.plain rfl) ?_
    rintro _ _ ⟨_, _, ⟨rfl, rfl⟩, rfl, rfl⟩
    change (_ : List Blk → Prop) [_, _, _]
    refine T.q (q_not rfl rfl) (Wt.plain rfl) rfl rfl ?_
    refine T.nil ?_
    refine Ex.next ?_
    refine W.slots (L' := [(2, _), (4, _), (65, _)]) ⟨rfl, rfl, rfl, trivial⟩ ?_
    refine W.condT rfl ?_
    refine W.seq ?_
    refine W.region ?_
    refine T.q (q_buildP (cells := [.int .i64 0, .int .i64 0, .int .i64 0, .int .i64 0, .int .i64 0, .slice none 0 0]) bp40 ze40 rfl rfl rfl) (Wt.plain rfl) rfl rfl ?_
    refine T.eff (e_storeA wd40 0 rfl rfl rfl rfl (by first | omega | (simp; done) | (simp [-List.getD_eq_getElem?_getD]; omega) | (simp at *; omega) | rfl) (by simp [Value.oneCell']) rfl) (Wt.plain rfl) ?_
    rintro _ _ ⟨rfl, rfl⟩
    change (_ : List Blk → Prop) [_, _, _]
    refine T.q (q_assign rfl rfl) (Wt.plain rfl) rfl rfl ?_
    refine T.nil ?_
    refine Ex.next ?_
    refine W.less (L' := [(2, _), (3, _)]) [true, false, false] ⟨rfl, rfl, trivial⟩ ?_
    change (_ : List Blk → Prop) [_]
    refine W.ret ?_
    refine Ex.then_ret ?_
    refine Ex.outCT [false] 0 rfl (by exact wd40) rfl rfl rfl ?_
    exact ⟨rfl, rfl⟩

end Go.Proofs.Ytmkjnefongjniaa
