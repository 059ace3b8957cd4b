/-
  Statements of layer 11: what is read and written, nonces, heads.
-/
import Derived.Test.YtmkjnefongjniaaQ8
namespace Go.Proofs.Ytmkjnefongjniaa
open Go Go.X

set_option maxRecDepth 100000 in
theorem pback_pt (pk pr pp pe pc : Int) (PA : Option Addr) (bd : List Int) (bc : Nat) (hbc : bd.length ≤ bc) (b : List Int) (BA : Option Addr) (bb : Nat) (hbc : b.length ≤ bb) (hbl : b.length ≤ 140737488351232) (hbb : Bytes b) (hmay : mayP pk pr pp pe pc bd.length) (hpb : Bytes bd) (hok : paOK b) (w0 : World) (hP : Reads w0 PA (ints .u8 bd)) (hB : Reads w0 BA (ints .u8 b)) : Does Try.prog 11 #[.agg #[.int .i64 pk, .int .i64 pr, .int .i64 pp, .int .i64 pe, .int .i64 pc, .slice PA bd.length bc], .slice BA b.length bb] w0 [] (fun v G => v = .bool true ∧ G = []) := by
  have hpl := prB_length hmay
  have hml := may_len hmay
  have hfb := fB_le b
  refine spec_of 62 Try.func11 rfl rfl rfl ?_
  refine W.seq ?_
  refine W.region ?_
  refine T.eff (e_box rfl rfl rfl rfl) (Wt.plain rfl) ?_
  rintro _ _ ⟨k1, rfl, rfl⟩
  change (_ : List Blk → Prop) [_]
  change (_ : List Blk → Prop) [⟨some k1, [.int .i64 pk, .int .i64 pr, .int .i64 pp, .int .i64 pe, .int .i64 pc, .slice PA bd.length bc], 40, (0, 0)⟩]
  refine T.q (q_assign rfl rfl) (Wt.plain rfl) rfl rfl ?_
  refine T.nil ?_
  refine Ex.next ?_
  refine W.slots (L' := [(1, _), (2, _)]) ⟨rfl, rfl, trivial⟩ ?_
  refine W.seq ?_
  refine W.region ?_
  refine T.eff (e_call enters32 rfl rfl (fun w hm => shown11_spec w) rfl rfl) (Wt.plain rfl) ?_
  rintro _ _ ⟨_, _, ⟨rfl, rfl⟩, rfl, rfl⟩
  change (_ : List Blk → Prop) [_]
  refine T.q (q_assign rfl rfl) (Wt.plain rfl) rfl rfl ?_
  refine T.nil ?_
  refine Ex.next ?_
  refine W.slots (L' := [(1, _), (2, _), (5, _)]) ⟨rfl, rfl, rfl, trivial⟩ ?_
  refine W.seq ?_
  refine W.region ?_
  refine T.q (q_loadW wd40 (R_blk 0 rfl) rfl rfl) (Wt.plain rfl) rfl rfl ?_
  refine T.eff (e_call enters33 rfl rfl (fun w hm => print_ok bd hmay (by first | omega | (simp; done) | (simp; omega) | (simp at *; omega)) w ((R_ext hP.ext) w hm) (by first | omega | (simp; done) | (simp [-List.getD_eq_getElem?_getD]; omega) | (simp at *; omega) | rfl)) rfl rfl) (Wt.plain rfl) ?_
  rintro _ _ ⟨_, _, ⟨k2, cap3, junk4, rfl, hc5, rfl⟩, rfl, rfl⟩
  change (_ : List Blk → Prop) [_, _]
  refine T.q (q_move rfl rfl) (Wt.plain rfl) rfl rfl ?_
  refine T.q (q_extract rfl rfl rfl) (Wt.plain rfl) rfl rfl ?_
  refine T.q (q_extract rfl rfl rfl) (Wt.plain rfl) rfl rfl ?_
  refine T.q (q_assign rfl rfl) (Wt.plain rfl) rfl rfl ?_
  refine T.q (q_assign rfl rfl) (Wt.plain rfl) rfl rfl ?_
  refine T.nil ?_
  refine Ex.next ?_
  refine W.slots (L' := [(1, _), (2, _), (5, _), (6, _), (7, _)]) ⟨rfl, rfl, rfl, rfl, rfl, trivial⟩ ?_
  refine W.seq ?_
  refine W.seq ?_
  refine W.region ?_
  refine T.q (q_move rfl rfl) (Wt.plain rfl) rfl rfl ?_
  refine T.q (q_bool (b := true) (q_eql rfl rfl rfl) (decide_eq_true rfl)) (Wt.plain rfl) rfl rfl ?_
  refine T.nil ?_
  refine Ex.next ?_
  refine W.slots (L' := [(1, _), (2, _), (5, _), (6, _), (22, _)]) ⟨rfl, rfl, rfl, rfl, rfl, trivial⟩ ?_
  refine W.condT rfl ?_
  refine W.seq ?_
  refine W.region ?_
  refine T.q (q_move rfl rfl) (Wt.plain rfl) rfl rfl ?_
  refine T.eff (e_call enters39 rfl rfl (fun w hm => parse_back bd _ _ (by first | omega | (simp; done) | (simp; omega) | (simp at *; omega)) hmay hpb w ((R_pre 1 rfl) w hm) (by first | omega | (simp; done) | (simp [-List.getD_eq_getElem?_getD]; omega) | (simp at *; omega) | rfl)) rfl rfl) (Wt.plain rfl) ?_
  rintro _ _ ⟨_, _, ⟨k6, cap7, junk8, rfl, hc9, rfl⟩, rfl, rfl⟩
  change (_ : List Blk → Prop) [_, _, _]
  refine T.q (q_move rfl rfl) (Wt.plain rfl) rfl rfl ?_
  refine T.q (q_extract rfl rfl rfl) (Wt.plain rfl) rfl rfl ?_
  refine T.q (q_extract rfl rfl rfl) (Wt.plain rfl) rfl rfl ?_
  refine T.eff (e_alloc ze40 rfl rfl rfl) (Wt.plain rfl) ?_
  rintro _ _ ⟨k10, rfl, rfl⟩
  change (_ : List Blk → Prop) [_, _, _, _]
  refine T.eff (e_storeA wd40 3 rfl rfl rfl rfl (by first | omega | (simp; done) | (simp [-List.getD_eq_getElem?_getD]; omega) | (simp at *; omega) | rfl) (by simp [Value.oneCell']) rfl) (Wt.plain rfl) ?_
  rintro _ _ ⟨rfl, rfl⟩
  change (_ : List Blk → Prop) [_, _, _, _]
  refine T.q (q_assign rfl rfl) (Wt.plain rfl) rfl rfl ?_
  refine T.nil ?_
  refine Ex.next ?_
  refine W.less (L' := [(1, _), (2, _), (5, _), (8, _), (9, _)]) [true, false, true, true] ⟨rfl, rfl, rfl, rfl, rfl, trivial⟩ ?_
  change (_ : List Blk → Prop) [_, _, _]
  refine W.seq ?_
  refine W.region ?_
  refine T.q (q_loadW wd40 (R_blk 0 rfl) rfl rfl) (Wt.plain rfl) rfl rfl ?_
  refine T.q (q_loadW wd40 (R_blk 2 rfl) rfl rfl) (Wt.plain rfl) rfl rfl ?_
  refine T.eff (e_call enters41 rfl rfl (fun w hm => same_at bd (by first | omega | (simp; done) | (simp; omega) | (simp at *; omega)) w ((R_ext hP.ext) w hm) ((R_opre 1 rfl) w hm) (by first | omega | (simp; done) | (simp [-List.getD_eq_getElem?_getD]; omega) | (simp at *; omega) | rfl)) rfl rfl) (Wt.plain rfl) ?_
  rintro _ _ ⟨_, _, ⟨rfl, rfl⟩, rfl, rfl⟩
  change (_ : List Blk → Prop) [_, _, _]
  refine T.q (q_assign rfl rfl) (Wt.plain rfl) rfl rfl ?_
  refine T.nil ?_
  refine Ex.next ?_
  refine W.less (L' := [(1, _), (5, _), (9, _), (10, _)]) [false, false, false] ⟨rfl, rfl, rfl, rfl, trivial⟩ ?_
  change (_ : List Blk → Prop) []
  refine W.seq ?_
  refine W.region ?_
  refine T.q (q_move rfl rfl) (Wt.plain rfl) rfl rfl ?_
  refine T.q (q_bool (b := false) (q_neq rfl rfl rfl) ?hE) (Wt.plain rfl) rfl rfl ?_
  case hE => simp
  refine T.q (q_move rfl rfl) (Wt.plain rfl) rfl rfl ?_
  refine T.q (q_move rfl rfl) (Wt.yes rfl rfl rfl) rfl rfl ?_
  refine T.q (q_not rfl rfl) (Wt.yes rfl rfl rfl) rfl rfl ?_
  refine T.q (q_pickF rfl rfl rfl) (Wt.plain rfl) rfl rfl ?_
  refine T.nil ?_
  refine Ex.next ?_
  refine W.slots (L' := [(1, _), (5, _), (36, _)]) ⟨rfl, rfl, rfl, trivial⟩ ?_
  refine W.condF rfl ?_
  refine W.skip ?_
  refine Ex.next ?_
  refine W.slots (L' := [(1, _), (5, _)]) ⟨rfl, rfl, trivial⟩ ?_
  refine W.seq ?_
  refine W.region ?_
  refine T.q (q_move rfl rfl) (Wt.plain rfl) rfl rfl ?_
  refine T.eff (e_call enters39 rfl rfl (fun w hm => parse_ok b _ _ (by first | omega | (simp; done) | (simp; omega) | (simp at *; omega)) (by first | omega | (simp; done) | (simp; omega) | (simp at *; omega)) hbb hok w ((R_ext hB.ext) w hm) (by first | omega | (simp; done) | (simp [-List.getD_eq_getElem?_getD]; omega) | (simp at *; omega) | rfl)) rfl rfl) (Wt.plain rfl) ?_
  rintro _ _ ⟨_, _, ⟨k11, cap12, junk13, rfl, hc14, rfl⟩, rfl, rfl⟩
  change (_ : List Blk → Prop) [_]
  refine T.q (q_move rfl rfl) (Wt.plain rfl) rfl rfl ?_
  refine T.q (q_extract rfl rfl rfl) (Wt.plain rfl) rfl rfl ?_
  refine T.q (q_extract rfl rfl rfl) (Wt.plain rfl) rfl rfl ?_
  refine T.eff (e_alloc ze40 rfl rfl rfl) (Wt.plain rfl) ?_
  rintro _ _ ⟨k15, rfl, rfl⟩
  change (_ : List Blk → Prop) [_, _]
  refine T.eff (e_storeA wd40 1 rfl rfl rfl rfl (by first | omega | (simp; done) | (simp [-List.getD_eq_getElem?_getD]; omega) | (simp at *; omega) | rfl) (by simp [Value.oneCell']) rfl) (Wt.plain rfl) ?_
  rintro _ _ ⟨rfl, rfl⟩
  change (_ : List Blk → Prop) [_, _]
  refine T.q (q_assign rfl rfl) (Wt.plain rfl) rfl rfl ?_
  refine T.nil ?_
  refine Ex.next ?_
  refine W.slots (L' := [(1, _), (5, _), (11, _), (12, _)]) ⟨rfl, rfl, rfl, rfl, trivial⟩ ?_
  refine W.seq ?_
  refine W.seq ?_
  refine W.region ?_
  refine T.q (q_move rfl rfl) (Wt.plain rfl) rfl rfl ?_
  refine T.q (q_bool (b := false) (q_neq rfl rfl rfl) ?hE) (Wt.plain rfl) rfl rfl ?_
  case hE => simp
  refine T.nil ?_
  refine Ex.next ?_
  refine W.slots (L' := [(1, _), (5, _), (11, _), (43, _)]) ⟨rfl, rfl, rfl, rfl, trivial⟩ ?_
  refine W.condF rfl ?_
  refine W.skip ?_
  refine Ex.next ?_
  refine W.slots (L' := [(1, _), (5, _), (11, _)]) ⟨rfl, rfl, rfl, trivial⟩ ?_
  refine W.seq ?_
  refine W.region ?_
  refine T.q (q_loadW wd40 (R_blk 1 rfl) rfl rfl) (Wt.plain rfl) rfl rfl ?_
  refine T.eff (e_call enters33 rfl rfl (fun w hm => print_ok (fB b) ((forth_of hbb hok).2) (by first | omega | (simp; done) | (simp; omega) | (simp at *; omega)) w ((R_opre 0 rfl) w hm) (by first | omega | (simp; done) | (simp [-List.getD_eq_getElem?_getD]; omega) | (simp at *; omega) | rfl)) rfl rfl) (Wt.plain rfl) ?_
  rintro _ _ ⟨_, _, ⟨k16, cap17, junk18, rfl, hc19, rfl⟩, rfl, rfl⟩
  change (_ : List Blk → Prop) [_, _, _]
  refine T.q (q_move rfl rfl) (Wt.plain rfl) rfl rfl ?_
  refine T.q (q_extract rfl rfl rfl) (Wt.plain rfl) rfl rfl ?_
  refine T.q (q_extract rfl rfl rfl) (Wt.plain rfl) rfl rfl ?_
  refine T.q (q_assign rfl rfl) (Wt.plain rfl) rfl rfl ?_
  refine T.q (q_assign rfl rfl) (Wt.plain rfl) rfl rfl ?_
  refine T.nil ?_
  refine Ex.next ?_
  refine W.less (L' := [(1, _), (5, _), (13, _), (14, _)]) [false, false, true] ⟨rfl, rfl, rfl, rfl, trivial⟩ ?_
  change (_ : List Blk → Prop) [_]
  refine W.seq ?_
  refine W.region ?_
  refine T.q (q_move rfl rfl) (Wt.plain rfl) rfl rfl ?_
  refine T.q (q_move rfl rfl) (Wt.plain rfl) rfl rfl ?_
  refine T.q (q_move rfl rfl) (Wt.yes rfl rfl rfl) rfl rfl ?_
  refine T.q (q_bool (b := true) (q_eql rfl rfl rfl) (decide_eq_true rfl)) (Wt.yes rfl rfl rfl) rfl rfl ?_
  refine T.q (q_pickT rfl rfl rfl) (Wt.plain rfl) rfl rfl ?_
  refine T.q (q_move rfl rfl) (Wt.plain rfl) rfl rfl ?_
  refine T.q (q_move rfl rfl) (Wt.yes rfl rfl rfl) rfl rfl ?_
  refine T.q (q_bstr sc22 un5 un9 (R_pre 0 rfl) (by first | omega | (simp; done) | (simp [-List.getD_eq_getElem?_getD]; omega) | (simp at *; omega) | rfl) rfl rfl) (Wt.yes rfl rfl rfl) rfl rfl ?_
  refine T.q (q_move rfl rfl) (Wt.yes rfl rfl rfl) rfl rfl ?_
  refine T.q (q_bstr sc22 un5 un9 (R_ext hB.ext) (by first | omega | (simp; done) | (simp [-List.getD_eq_getElem?_getD]; omega) | (simp at *; omega) | rfl) rfl rfl) (Wt.yes rfl rfl rfl) rfl rfl ?_
  refine T.q (q_bool (b := true) (q_eqlS rfl rfl rfl) ?hE) (Wt.yes rfl rfl rfl) rfl rfl ?_
  case hE => rw [(forth_of hbb hok).1]; exact beq_self_eq_true _
  refine T.q (q_pickT rfl rfl rfl) (Wt.plain rfl) rfl rfl ?_
  refine T.q (q_assign rfl rfl) (Wt.plain rfl) rfl rfl ?_
  refine T.nil ?_
  refine Ex.next ?_
  refine W.less (L' := [(4, _)]) [false] ⟨rfl, trivial⟩ ?_
  change (_ : List Blk → Prop) []
  refine W.ret ?_
  refine Ex.out1 [] rfl rfl ?_
  exact ⟨rfl, rfl⟩
set_option maxRecDepth 100000 in
theorem pback_pf (pk pr pp pe pc : Int) (PA : Option Addr) (bd : List Int) (bc : Nat) (hbc : bd.length ≤ bc) (b : List Int) (BA : Option Addr) (bb : Nat) (hbc : b.length ≤ bb) (hbl : b.length ≤ 140737488351232) (hbb : Bytes b) (hmay : mayP pk pr pp pe pc bd.length) (hpb : Bytes bd) (hnp : ¬ paOK b) (w0 : World) (hP : Reads w0 PA (ints .u8 bd)) (hB : Reads w0 BA (ints .u8 b)) : Does Try.prog 11 #[.agg #[.int .i64 pk, .int .i64 pr, .int .i64 pp, .int .i64 pe, .int .i64 pc, .slice PA bd.length bc], .slice BA b.length bb] w0 [] (fun v G => v = .bool true ∧ G = []) := by
  have hpl := prB_length hmay
  have hml := may_len hmay
  have hfb := fB_le b
  refine spec_of 62 Try.func11 rfl rfl rfl ?_
  refine W.seq ?_
  refine W.region ?_
  refine T.eff (e_box rfl rfl rfl rfl) (Wt.plain rfl) ?_
  rintro _ _ ⟨k1, rfl, rfl⟩
  change (_ : List Blk → Prop) [_]
  change (_ : List Blk → Prop) [⟨some k1, [.int .i64 pk, .int .i64 pr, .int .i64 pp, .int .i64 pe, .int .i64 pc, .slice PA bd.length bc], 40, (0, 0)⟩]
  refine T.q (q_assign rfl rfl) (Wt.plain rfl) rfl rfl ?_
  refine T.nil ?_
  refine Ex.next ?_
  refine W.slots (L' := [(1, _), (2, _)]) ⟨rfl, rfl, trivial⟩ ?_
  refine W.seq ?_
  refine W.region ?_
  refine T.eff (e_call enters32 rfl rfl (fun w hm => shown11_spec w) rfl rfl) (Wt.plain rfl) ?_
  rintro _ _ ⟨_, _, ⟨rfl, rfl⟩, rfl, rfl⟩
  change (_ : List Blk → Prop) [_]
  refine T.q (q_assign rfl rfl) (Wt.plain rfl) rfl rfl ?_
  refine T.nil ?_
  refine Ex.next ?_
  refine W.slots (L' := [(1, _), (2, _), (5, _)]) ⟨rfl, rfl, rfl, trivial⟩ ?_
  refine W.seq ?_
  refine W.region ?_
  refine T.q (q_loadW wd40 (R_blk 0 rfl) rfl rfl) (Wt.plain rfl) rfl rfl ?_
  refine T.eff (e_call enters33 rfl rfl (fun w hm => print_ok bd hmay (by first | omega | (simp; done) | (simp; omega) | (simp at *; omega)) w ((R_ext hP.ext) w hm) (by first | omega | (simp; done) | (simp [-List.getD_eq_getElem?_getD]; omega) | (simp at *; omega) | rfl)) rfl rfl) (Wt.plain rfl) ?_
  rintro _ _ ⟨_, _, ⟨k2, cap3, junk4, rfl, hc5, rfl⟩, rfl, rfl⟩
  change (_ : List Blk → Prop) [_, _]
  refine T.q (q_move rfl rfl) (Wt.plain rfl) rfl rfl ?_
  refine T.q (q_extract rfl rfl rfl) (Wt.plain rfl) rfl rfl ?_
  refine T.q (q_extract rfl rfl rfl) (Wt.plain rfl) rfl rfl ?_
  refine T.q (q_assign rfl rfl) (Wt.plain rfl) rfl rfl ?_
  refine T.q (q_assign rfl rfl) (Wt.plain rfl) rfl rfl ?_
  refine T.nil ?_
  refine Ex.next ?_
  refine W.slots (L' := [(1, _), (2, _), (5, _), (6, _), (7, _)]) ⟨rfl, rfl, rfl, rfl, rfl, trivial⟩ ?_
  refine W.seq ?_
  refine W.seq ?_
  refine W.region ?_
  refine T.q (q_move rfl rfl) (Wt.plain rfl) rfl rfl ?_
  refine T.q (q_bool (b := true) (q_eql rfl rfl rfl) (decide_eq_true rfl)) (Wt.plain rfl) rfl rfl ?_
  refine T.nil ?_
  refine Ex.next ?_
  refine W.slots (L' := [(1, _), (2, _), (5, _), (6, _), (22, _)]) ⟨rfl, rfl, rfl, rfl, rfl, trivial⟩ ?_
  refine W.condT rfl ?_
  refine W.seq ?_
  refine W.region ?_
  refine T.q (q_move rfl rfl) (Wt.plain rfl) rfl rfl ?_
  refine T.eff (e_call enters39 rfl rfl (fun w hm => parse_back bd _ _ (by first | omega | (simp; done) | (simp; omega) | (simp at *; omega)) hmay hpb w ((R_pre 1 rfl) w hm) (by first | omega | (simp; done) | (simp [-List.getD_eq_getElem?_getD]; omega) | (simp at *; omega) | rfl)) rfl rfl) (Wt.plain rfl) ?_
  rintro _ _ ⟨_, _, ⟨k6, cap7, junk8, rfl, hc9, rfl⟩, rfl, rfl⟩
  change (_ : List Blk → Prop) [_, _, _]
  refine T.q (q_move rfl rfl) (Wt.plain rfl) rfl rfl ?_
  refine T.q (q_extract rfl rfl rfl) (Wt.plain rfl) rfl rfl ?_
  refine T.q (q_extract rfl rfl rfl) (Wt.plain rfl) rfl rfl ?_
  refine T.eff (e_alloc ze40 rfl rfl rfl) (Wt.plain rfl) ?_
  rintro _ _ ⟨k10, rfl, rfl⟩
  change (_ : List Blk → Prop) [_, _, _, _]
  refine T.eff (e_storeA wd40 3 rfl rfl rfl rfl (by first | omega | (simp; done) | (simp [-List.getD_eq_getElem?_getD]; omega) | (simp at *; omega) | rfl) (by simp [Value.oneCell']) rfl) (Wt.plain rfl) ?_
  rintro _ _ ⟨rfl, rfl⟩
  change (_ : List Blk → Prop) [_, _, _, _]
  refine T.q (q_assign rfl rfl) (Wt.plain rfl) rfl rfl ?_
  refine T.nil ?_
  refine Ex.next ?_
  refine W.less (L' := [(1, _), (2, _), (5, _), (8, _), (9, _)]) [true, false, true, true] ⟨rfl, rfl, rfl, rfl, rfl, trivial⟩ ?_
  change (_ : List Blk → Prop) [_, _, _]
  refine W.seq ?_
  refine W.region ?_
  refine T.q (q_loadW wd40 (R_blk 0 rfl) rfl rfl) (Wt.plain rfl) rfl rfl ?_
  refine T.q (q_loadW wd40 (R_blk 2 rfl) rfl rfl) (Wt.plain rfl) rfl rfl ?_
  refine T.eff (e_call enters41 rfl rfl (fun w hm => same_at bd (by first | omega | (simp; done) | (simp; omega) | (simp at *; omega)) w ((R_ext hP.ext) w hm) ((R_opre 1 rfl) w hm) (by first | omega | (simp; done) | (simp [-List.getD_eq_getElem?_getD]; omega) | (simp at *; omega) | rfl)) rfl rfl) (Wt.plain rfl) ?_
  rintro _ _ ⟨_, _, ⟨rfl, rfl⟩, rfl, rfl⟩
  change (_ : List Blk → Prop) [_, _, _]
  refine T.q (q_assign rfl rfl) (Wt.plain rfl) rfl rfl ?_
  refine T.nil ?_
  refine Ex.next ?_
  refine W.less (L' := [(1, _), (5, _), (9, _), (10, _)]) [false, false, false] ⟨rfl, rfl, rfl, rfl, trivial⟩ ?_
  change (_ : List Blk → Prop) []
  refine W.seq ?_
  refine W.region ?_
  refine T.q (q_move rfl rfl) (Wt.plain rfl) rfl rfl ?_
  refine T.q (q_bool (b := false) (q_neq rfl rfl rfl) ?hE) (Wt.plain rfl) rfl rfl ?_
  case hE => simp
  refine T.q (q_move rfl rfl) (Wt.plain rfl) rfl rfl ?_
  refine T.q (q_move rfl rfl) (Wt.yes rfl rfl rfl) rfl rfl ?_
  refine T.q (q_not rfl rfl) (Wt.yes rfl rfl rfl) rfl rfl ?_
  refine T.q (q_pickF rfl rfl rfl) (Wt.plain rfl) rfl rfl ?_
  refine T.nil ?_
  refine Ex.next ?_
  refine W.slots (L' := [(1, _), (5, _), (36, _)]) ⟨rfl, rfl, rfl, trivial⟩ ?_
  refine W.condF rfl ?_
  refine W.skip ?_
  refine Ex.next ?_
  refine W.slots (L' := [(1, _), (5, _)]) ⟨rfl, rfl, trivial⟩ ?_
  refine W.seq ?_
  refine W.region ?_
  refine T.q (q_move rfl rfl) (Wt.plain rfl) rfl rfl ?_
  refine T.eff (e_call enters39 rfl rfl (fun w hm => parse_no b _ _ (by first | omega | (simp; done) | (simp; omega) | (simp at *; omega)) (by first | omega | (simp; done) | (simp; omega) | (simp at *; omega)) hbb hnp w ((R_ext hB.ext) w hm) (by first | omega | (simp; done) | (simp [-List.getD_eq_getElem?_getD]; omega) | (simp at *; omega) | rfl)) rfl rfl) (Wt.plain rfl) ?_
  rintro _ _ ⟨_, _, ⟨rfl, rfl⟩, rfl, rfl⟩
  change (_ : List Blk → Prop) []
  refine T.q (q_move rfl rfl) (Wt.plain rfl) rfl rfl ?_
  refine T.q (q_extract rfl rfl rfl) (Wt.plain rfl) rfl rfl ?_
  refine T.q (q_extract rfl rfl rfl) (Wt.plain rfl) rfl rfl ?_
  refine T.eff (e_alloc ze40 rfl rfl rfl) (Wt.plain rfl) ?_
  rintro _ _ ⟨k11, rfl, rfl⟩
  change (_ : List Blk → Prop) [_]
  refine T.eff (e_storeA wd40 0 rfl rfl rfl rfl (by first | omega | (simp; done) | (simp [-List.getD_eq_getElem?_getD]; omega) | (simp at *; omega) | rfl) (by simp [Value.oneCell']) rfl) (Wt.plain rfl) ?_
  rintro _ _ ⟨rfl, rfl⟩
  change (_ : List Blk → Prop) [_]
  refine T.q (q_assign rfl rfl) (Wt.plain rfl) rfl rfl ?_
  refine T.nil ?_
  refine Ex.next ?_
  refine W.slots (L' := [(1, _), (5, _), (11, _), (12, _)]) ⟨rfl, rfl, rfl, rfl, trivial⟩ ?_
  refine W.seq ?_
  refine W.seq ?_
  refine W.region ?_
  refine T.q (q_move rfl rfl) (Wt.plain rfl) rfl rfl ?_
  refine T.q (q_bool (b := true) (q_neq rfl rfl rfl) (decide_eq_true (paE_ne b))) (Wt.plain rfl) rfl rfl ?_
  refine T.nil ?_
  refine Ex.next ?_
  refine W.slots (L' := [(1, _), (5, _), (11, _), (43, _)]) ⟨rfl, rfl, rfl, rfl, trivial⟩ ?_
  refine W.condT rfl ?_
  refine W.seq ?_
  refine W.region ?_
  refine T.q (q_move rfl rfl) (Wt.plain rfl) rfl rfl ?_
  refine T.q (q_assign rfl rfl) (Wt.plain rfl) rfl rfl ?_
  refine T.nil ?_
  refine Ex.next ?_
  refine W.less (L' := [(4, _)]) [false] ⟨rfl, trivial⟩ ?_
  change (_ : List Blk → Prop) []
  refine W.ret ?_
  refine Ex.then_ret ?_
  refine Ex.out1 [] rfl rfl ?_
  exact ⟨rfl, rfl⟩
set_option maxRecDepth 100000 in
theorem pback_nt (pk pr pp pe pc : Int) (PA : Option Addr) (bd : List Int) (bc : Nat) (_hbc : bd.length ≤ bc) (b : List Int) (BA : Option Addr) (bb : Nat) (hbc : b.length ≤ bb) (hbl : b.length ≤ 140737488351232) (hbb : Bytes b) (hno : ¬ recP pk pr pp pe pc bd.length) (hnt : ¬ othP pk pr pp pe pc bd.length) (hok : paOK b) (w0 : World) (hP : Reads w0 PA (ints .u8 bd)) (hB : Reads w0 BA (ints .u8 b)) : Does Try.prog 11 #[.agg #[.int .i64 pk, .int .i64 pr, .int .i64 pp, .int .i64 pe, .int .i64 pc, .slice PA bd.length bc], .slice BA b.length bb] w0 [] (fun v G => v = .bool true ∧ G = []) := by
  have hfb := fB_le b
  refine spec_of 62 Try.func11 rfl rfl rfl ?_
  refine W.seq ?_
  refine W.region ?_
  refine T.eff (e_box rfl rfl rfl rfl) (Wt.plain rfl) ?_
  rintro _ _ ⟨k1, rfl, rfl⟩
  change (_ : List Blk → Prop) [_]
  change (_ : List Blk → Prop) [⟨some k1, [.int .i64 pk, .int .i64 pr, .int .i64 pp, .int .i64 pe, .int .i64 pc, .slice PA bd.length bc], 40, (0, 0)⟩]
  refine T.q (q_assign rfl rfl) (Wt.plain rfl) rfl rfl ?_
  refine T.nil ?_
  refine Ex.next ?_
  refine W.slots (L' := [(1, _), (2, _)]) ⟨rfl, rfl, trivial⟩ ?_
  refine W.seq ?_
  refine W.region ?_
  refine T.eff (e_call enters32 rfl rfl (fun w hm => shown11_spec w) rfl rfl) (Wt.plain rfl) ?_
  rintro _ _ ⟨_, _, ⟨rfl, rfl⟩, rfl, rfl⟩
  change (_ : List Blk → Prop) [_]
  refine T.q (q_assign rfl rfl) (Wt.plain rfl) rfl rfl ?_
  refine T.nil ?_
  refine Ex.next ?_
  refine W.slots (L' := [(1, _), (2, _), (5, _)]) ⟨rfl, rfl, rfl, trivial⟩ ?_
  refine W.seq ?_
  refine W.region ?_
  refine T.q (q_loadW wd40 (R_blk 0 rfl) rfl rfl) (Wt.plain rfl) rfl rfl ?_
  refine T.eff (e_call enters33 rfl rfl (fun w hm => print_C _ _ _ _ _ _ _ _ (by first | assumption | (unfold recP; omega) | (unfold othP; omega) | (unfold mayP recP othP at *; omega) | (unfold recP at *; omega)) (by first | assumption | (unfold recP; omega) | (unfold othP; omega) | (unfold mayP recP othP at *; omega) | (unfold recP at *; omega)) w) rfl rfl) (Wt.plain rfl) ?_
  rintro _ _ ⟨_, _, ⟨rfl, rfl⟩, rfl, rfl⟩
  change (_ : List Blk → Prop) [_]
  refine T.q (q_move rfl rfl) (Wt.plain rfl) rfl rfl ?_
  refine T.q (q_extract rfl rfl rfl) (Wt.plain rfl) rfl rfl ?_
  refine T.q (q_extract rfl rfl rfl) (Wt.plain rfl) rfl rfl ?_
  refine T.q (q_assign rfl rfl) (Wt.plain rfl) rfl rfl ?_
  refine T.q (q_assign rfl rfl) (Wt.plain rfl) rfl rfl ?_
  refine T.nil ?_
  refine Ex.next ?_
  refine W.slots (L' := [(1, _), (2, _), (5, _), (6, _), (7, _)]) ⟨rfl, rfl, rfl, rfl, rfl, trivial⟩ ?_
  refine W.seq ?_
  refine W.seq ?_
  refine W.region ?_
  refine T.q (q_move rfl rfl) (Wt.plain rfl) rfl rfl ?_
  refine T.q (q_bool (b := false) (q_eql rfl rfl rfl) ?hE) (Wt.plain rfl) rfl rfl ?_
  case hE => decide
  refine T.nil ?_
  refine Ex.next ?_
  refine W.slots (L' := [(1, _), (2, _), (5, _), (6, _), (22, _)]) ⟨rfl, rfl, rfl, rfl, rfl, trivial⟩ ?_
  refine W.condF rfl ?_
  refine W.skip ?_
  refine Ex.next ?_
  refine W.less (L' := [(1, _), (5, _)]) [false] ⟨rfl, rfl, trivial⟩ ?_
  change (_ : List Blk → Prop) []
  refine W.seq ?_
  refine W.region ?_
  refine T.q (q_move rfl rfl) (Wt.plain rfl) rfl rfl ?_
  refine T.eff (e_call enters39 rfl rfl (fun w hm => parse_ok b _ _ (by first | omega | (simp; done) | (simp; omega) | (simp at *; omega)) (by first | omega | (simp; done) | (simp; omega) | (simp at *; omega)) hbb hok w ((R_ext hB.ext) w hm) (by first | omega | (simp; done) | (simp [-List.getD_eq_getElem?_getD]; omega) | (simp at *; omega) | rfl)) rfl rfl) (Wt.plain rfl) ?_
  rintro _ _ ⟨_, _, ⟨k2, cap3, junk4, rfl, hc5, rfl⟩, rfl, rfl⟩
  change (_ : List Blk → Prop) [_]
  refine T.q (q_move rfl rfl) (Wt.plain rfl) rfl rfl ?_
  refine T.q (q_extract rfl rfl rfl) (Wt.plain rfl) rfl rfl ?_
  refine T.q (q_extract rfl rfl rfl) (Wt.plain rfl) rfl rfl ?_
  refine T.eff (e_alloc ze40 rfl rfl rfl) (Wt.plain rfl) ?_
  rintro _ _ ⟨k6, rfl, rfl⟩
  change (_ : List Blk → Prop) [_, _]
  refine T.eff (e_storeA wd40 1 rfl rfl rfl rfl (by first | omega | (simp; done) | (simp [-List.getD_eq_getElem?_getD]; omega) | (simp at *; omega) | rfl) (by simp [Value.oneCell']) rfl) (Wt.plain rfl) ?_
  rintro _ _ ⟨rfl, rfl⟩
  change (_ : List Blk → Prop) [_, _]
  refine T.q (q_assign rfl rfl) (Wt.plain rfl) rfl rfl ?_
  refine T.nil ?_
  refine Ex.next ?_
  refine W.slots (L' := [(1, _), (5, _), (11, _), (12, _)]) ⟨rfl, rfl, rfl, rfl, trivial⟩ ?_
  refine W.seq ?_
  refine W.seq ?_
  refine W.region ?_
  refine T.q (q_move rfl rfl) (Wt.plain rfl) rfl rfl ?_
  refine T.q (q_bool (b := false) (q_neq rfl rfl rfl) ?hE) (Wt.plain rfl) rfl rfl ?_
  case hE => simp
  refine T.nil ?_
  refine Ex.next ?_
  refine W.slots (L' := [(1, _), (5, _), (11, _), (43, _)]) ⟨rfl, rfl, rfl, rfl, trivial⟩ ?_
  refine W.condF rfl ?_
  refine W.skip ?_
  refine Ex.next ?_
  refine W.slots (L' := [(1, _), (5, _), (11, _)]) ⟨rfl, rfl, rfl, trivial⟩ ?_
  refine W.seq ?_
  refine W.region ?_
  refine T.q (q_loadW wd40 (R_blk 1 rfl) rfl rfl) (Wt.plain rfl) rfl rfl ?_
  refine T.eff (e_call enters33 rfl rfl (fun w hm => print_ok (fB b) ((forth_of hbb hok).2) (by first | omega | (simp; done) | (simp; omega) | (simp at *; omega)) w ((R_opre 0 rfl) w hm) (by first | omega | (simp; done) | (simp [-List.getD_eq_getElem?_getD]; omega) | (simp at *; omega) | rfl)) rfl rfl) (Wt.plain rfl) ?_
  rintro _ _ ⟨_, _, ⟨k7, cap8, junk9, rfl, hc10, rfl⟩, rfl, rfl⟩
  change (_ : List Blk → Prop) [_, _, _]
  refine T.q (q_move rfl rfl) (Wt.plain rfl) rfl rfl ?_
  refine T.q (q_extract rfl rfl rfl) (Wt.plain rfl) rfl rfl ?_
  refine T.q (q_extract rfl rfl rfl) (Wt.plain rfl) rfl rfl ?_
  refine T.q (q_assign rfl rfl) (Wt.plain rfl) rfl rfl ?_
  refine T.q (q_assign rfl rfl) (Wt.plain rfl) rfl rfl ?_
  refine T.nil ?_
  refine Ex.next ?_
  refine W.less (L' := [(1, _), (5, _), (13, _), (14, _)]) [false, false, true] ⟨rfl, rfl, rfl, rfl, trivial⟩ ?_
  change (_ : List Blk → Prop) [_]
  refine W.seq ?_
  refine W.region ?_
  refine T.q (q_move rfl rfl) (Wt.plain rfl) rfl rfl ?_
  refine T.q (q_move rfl rfl) (Wt.plain rfl) rfl rfl ?_
  refine T.q (q_move rfl rfl) (Wt.yes rfl rfl rfl) rfl rfl ?_
  refine T.q (q_bool (b := true) (q_eql rfl rfl rfl) (decide_eq_true rfl)) (Wt.yes rfl rfl rfl) rfl rfl ?_
  refine T.q (q_pickT rfl rfl rfl) (Wt.plain rfl) rfl rfl ?_
  refine T.q (q_move rfl rfl) (Wt.plain rfl) rfl rfl ?_
  refine T.q (q_move rfl rfl) (Wt.yes rfl rfl rfl) rfl rfl ?_
  refine T.q (q_bstr sc22 un5 un9 (R_pre 0 rfl) (by first | omega | (simp; done) | (simp [-List.getD_eq_getElem?_getD]; omega) | (simp at *; omega) | rfl) rfl rfl) (Wt.yes rfl rfl rfl) rfl rfl ?_
  refine T.q (q_move rfl rfl) (Wt.yes rfl rfl rfl) rfl rfl ?_
  refine T.q (q_bstr sc22 un5 un9 (R_ext hB.ext) (by first | omega | (simp; done) | (simp [-List.getD_eq_getElem?_getD]; omega) | (simp at *; omega) | rfl) rfl rfl) (Wt.yes rfl rfl rfl) rfl rfl ?_
  refine T.q (q_bool (b := true) (q_eqlS rfl rfl rfl) ?hE) (Wt.yes rfl rfl rfl) rfl rfl ?_
  case hE => rw [(forth_of hbb hok).1]; exact beq_self_eq_true _
  refine T.q (q_pickT rfl rfl rfl) (Wt.plain rfl) rfl rfl ?_
  refine T.q (q_assign rfl rfl) (Wt.plain rfl) rfl rfl ?_
  refine T.nil ?_
  refine Ex.next ?_
  refine W.less (L' := [(4, _)]) [false] ⟨rfl, trivial⟩ ?_
  change (_ : List Blk → Prop) []
  refine W.ret ?_
  refine Ex.out1 [] rfl rfl ?_
  exact ⟨rfl, rfl⟩
set_option maxRecDepth 100000 in
theorem pback_nf (pk pr pp pe pc : Int) (PA : Option Addr) (bd : List Int) (bc : Nat) (_hbc : bd.length ≤ bc) (b : List Int) (BA : Option Addr) (bb : Nat) (hbc : b.length ≤ bb) (hbl : b.length ≤ 140737488351232) (hbb : Bytes b) (hno : ¬ recP pk pr pp pe pc bd.length) (hnt : ¬ othP pk pr pp pe pc bd.length) (hnp : ¬ paOK b) (w0 : World) (hP : Reads w0 PA (ints .u8 bd)) (hB : Reads w0 BA (ints .u8 b)) : Does Try.prog 11 #[.agg #[.int .i64 pk, .int .i64 pr, .int .i64 pp, .int .i64 pe, .int .i64 pc, .slice PA bd.length bc], .slice BA b.length bb] w0 [] (fun v G => v = .bool true ∧ G = []) := by
  have hfb := fB_le b
  refine spec_of 62 Try.func11 rfl rfl rfl ?_
  refine W.seq ?_
  refine W.region ?_
  refine T.eff (e_box rfl rfl rfl rfl) (Wt.plain rfl) ?_
  rintro _ _ ⟨k1, rfl, rfl⟩
  change (_ : List Blk → Prop) [_]
  change (_ : List Blk → Prop) [⟨some k1, [.int .i64 pk, .int .i64 pr, .int .i64 pp, .int .i64 pe, .int .i64 pc, .slice PA bd.length bc], 40, (0, 0)⟩]
  refine T.q (q_assign rfl rfl) (Wt.plain rfl) rfl rfl ?_
  refine T.nil ?_
  refine Ex.next ?_
  refine W.slots (L' := [(1, _), (2, _)]) ⟨rfl, rfl, trivial⟩ ?_
  refine W.seq ?_
  refine W.region ?_
  refine T.eff (e_call enters32 rfl rfl (fun w hm => shown11_spec w) rfl rfl) (Wt.plain rfl) ?_
  rintro _ _ ⟨_, _, ⟨rfl, rfl⟩, rfl, rfl⟩
  change (_ : List Blk → Prop) [_]
  refine T.q (q_assign rfl rfl) (Wt.plain rfl) rfl rfl ?_
  refine T.nil ?_
  refine Ex.next ?_
  refine W.slots (L' := [(1, _), (2, _), (5, _)]) ⟨rfl, rfl, rfl, trivial⟩ ?_
  refine W.seq ?_
  refine W.region ?_
  refine T.q (q_loadW wd40 (R_blk 0 rfl) rfl rfl) (Wt.plain rfl) rfl rfl ?_
  refine T.eff (e_call enters33 rfl rfl (fun w hm => print_C _ _ _ _ _ _ _ _ (by first | assumption | (unfold recP; omega) | (unfold othP; omega) | (unfold mayP recP othP at *; omega) | (unfold recP at *; omega)) (by first | assumption | (unfold recP; omega) | (unfold othP; omega) | (unfold mayP recP othP at *; omega) | (unfold recP at *; omega)) w) rfl rfl) (Wt.plain rfl) ?_
  rintro _ _ ⟨_, _, ⟨rfl, rfl⟩, rfl, rfl⟩
  change (_ : List Blk → Prop) [_]
  refine T.q (q_move rfl rfl) (Wt.plain rfl) rfl rfl ?_
  refine T.q (q_extract rfl rfl rfl) (Wt.plain rfl) rfl rfl ?_
  refine T.q (q_extract rfl rfl rfl) (Wt.plain rfl) rfl rfl ?_
  refine T.q (q_assign rfl rfl) (Wt.plain rfl) rfl rfl ?_
  refine T.q (q_assign rfl rfl) (Wt.plain rfl) rfl rfl ?_
  refine T.nil ?_
  refine Ex.next ?_
  refine W.slots (L' := [(1, _), (2, _), (5, _), (6, _), (7, _)]) ⟨rfl, rfl, rfl, rfl, rfl, trivial⟩ ?_
  refine W.seq ?_
  refine W.seq ?_
  refine W.region ?_
  refine T.q (q_move rfl rfl) (Wt.plain rfl) rfl rfl ?_
  refine T.q (q_bool (b := false) (q_eql rfl rfl rfl) ?hE) (Wt.plain rfl) rfl rfl ?_
  case hE => decide
  refine T.nil ?_
  refine Ex.next ?_
  refine W.slots (L' := [(1, _), (2, _), (5, _), (6, _), (22, _)]) ⟨rfl, rfl, rfl, rfl, rfl, trivial⟩ ?_
  refine W.condF rfl ?_
  refine W.skip ?_
  refine Ex.next ?_
  refine W.less (L' := [(1, _), (5, _)]) [false] ⟨rfl, rfl, trivial⟩ ?_
  change (_ : List Blk → Prop) []
  refine W.seq ?_
  refine W.region ?_
  refine T.q (q_move rfl rfl) (Wt.plain rfl) rfl rfl ?_
  refine T.eff (e_call enters39 rfl rfl (fun w hm => parse_no b _ _ (by first | omega | (simp; done) | (simp; omega) | (simp at *; omega)) (by first | omega | (simp; done) | (simp; omega) | (simp at *; omega)) hbb hnp w ((R_ext hB.ext) w hm) (by first | omega | (simp; done) | (simp [-List.getD_eq_getElem?_getD]; omega) | (simp at *; omega) | rfl)) rfl rfl) (Wt.plain rfl) ?_
  rintro _ _ ⟨_, _, ⟨rfl, rfl⟩, rfl, rfl⟩
  change (_ : List Blk → Prop) []
  refine T.q (q_move rfl rfl) (Wt.plain rfl) rfl rfl ?_
  refine T.q (q_extract rfl rfl rfl) (Wt.plain rfl) rfl rfl ?_
  refine T.q (q_extract rfl rfl rfl) (Wt.plain rfl) rfl rfl ?_
  refine T.eff (e_alloc ze40 rfl rfl rfl) (Wt.plain rfl) ?_
  rintro _ _ ⟨k2, rfl, rfl⟩
  change (_ : List Blk → Prop) [_]
  refine T.eff (e_storeA wd40 0 rfl rfl rfl rfl (by first | omega | (simp; done) | (simp [-List.getD_eq_getElem?_getD]; omega) | (simp at *; omega) | rfl) (by simp [Value.oneCell']) rfl) (Wt.plain rfl) ?_
  rintro _ _ ⟨rfl, rfl⟩
  change (_ : List Blk → Prop) [_]
  refine T.q (q_assign rfl rfl) (Wt.plain rfl) rfl rfl ?_
  refine T.nil ?_
  refine Ex.next ?_
  refine W.slots (L' := [(1, _), (5, _), (11, _), (12, _)]) ⟨rfl, rfl, rfl, rfl, trivial⟩ ?_
  refine W.seq ?_
  refine W.seq ?_
  refine W.region ?_
  refine T.q (q_move rfl rfl) (Wt.plain rfl) rfl rfl ?_
  refine T.q (q_bool (b := true) (q_neq rfl rfl rfl) (decide_eq_true (paE_ne b))) (Wt.plain rfl) rfl rfl ?_
  refine T.nil ?_
  refine Ex.next ?_
  refine W.slots (L' := [(1, _), (5, _), (11, _), (43, _)]) ⟨rfl, rfl, rfl, rfl, trivial⟩ ?_
  refine W.condT rfl ?_
  refine W.seq ?_
  refine W.region ?_
  refine T.q (q_move rfl rfl) (Wt.plain rfl) rfl rfl ?_
  refine T.q (q_assign rfl rfl) (Wt.plain rfl) rfl rfl ?_
  refine T.nil ?_
  refine Ex.next ?_
  refine W.less (L' := [(4, _)]) [false] ⟨rfl, trivial⟩ ?_
  change (_ : List Blk → Prop) []
  refine W.ret ?_
  refine Ex.then_ret ?_
  refine Ex.out1 [] rfl rfl ?_
  exact ⟨rfl, rfl⟩
set_option maxRecDepth 100000 in
theorem nonces_yes (r p e c : Nat) (hr : r ≤ 1) (hp : p ≤ 255) (he : e ≤ 65535) (hc : c ≤ 281474976710655) (r2 p2 e2 c2 : Nat) (hr2 : r2 ≤ 1) (hp2 : p2 ≤ 255) (he2 : e2 ≤ 65535) (hc2 : c2 ≤ 281474976710655) (PA QA : Option Addr) (n bc n2 bc2 : Nat) (h16 : 16 ≤ n) (h272 : n ≤ 272) (g16 : 16 ≤ n2) (g272 : n2 ≤ 272) (w0 : World) : Does Try.prog 12 #[.agg #[.int .i64 3, .int .i64 ((r : Nat) : Int), .int .i64 ((p : Nat) : Int), .int .i64 ((e : Nat) : Int), .int .i64 ((c : Nat) : Int), .slice PA n bc], .agg #[.int .i64 3, .int .i64 ((r2 : Nat) : Int), .int .i64 ((p2 : Nat) : Int), .int .i64 ((e2 : Nat) : Int), .int .i64 ((c2 : Nat) : Int), .slice QA n2 bc2]] w0 [] (fun v G => v = .bool true ∧ G = []) := by
  refine spec_of 56 Try.func12 rfl rfl rfl ?_
  refine W.seq ?_
  refine W.region ?_
  refine T.eff (e_box rfl rfl rfl rfl) (Wt.plain rfl) ?_
  rintro _ _ ⟨k1, rfl, rfl⟩
  change (_ : List Blk → Prop) [_]
  change (_ : List Blk → Prop) [⟨some k1, [.int .i64 3, .int .i64 ((r : Nat) : Int), .int .i64 ((p : Nat) : Int), .int .i64 ((e : Nat) : Int), .int .i64 ((c : Nat) : Int), .slice PA n bc], 40, (0, 0)⟩]
  refine T.eff (e_box rfl rfl rfl rfl) (Wt.plain rfl) ?_
  rintro _ _ ⟨k2, rfl, rfl⟩
  change (_ : List Blk → Prop) [_, _]
  change (_ : List Blk → Prop) [_, ⟨some k2, [.int .i64 3, .int .i64 ((r2 : Nat) : Int), .int .i64 ((p2 : Nat) : Int), .int .i64 ((e2 : Nat) : Int), .int .i64 ((c2 : Nat) : Int), .slice QA n2 bc2], 40, (0, 0)⟩]
  refine T.q (q_assign rfl rfl) (Wt.plain rfl) rfl rfl ?_
  refine T.nil ?_
  refine Ex.next ?_
  refine W.slots (L' := [(2, _), (3, _)]) ⟨rfl, rfl, trivial⟩ ?_
  refine W.seq ?_
  refine W.region ?_
  refine T.eff (e_call enters32 rfl rfl (fun w hm => shown11_spec w) rfl rfl) (Wt.plain rfl) ?_
  rintro _ _ ⟨_, _, ⟨rfl, rfl⟩, rfl, rfl⟩
  change (_ : List Blk → Prop) [_, _]
  refine T.q (q_assign rfl rfl) (Wt.plain rfl) rfl rfl ?_
  refine T.nil ?_
  refine Ex.next ?_
  refine W.slots (L' := [(2, _), (3, _), (5, _)]) ⟨rfl, rfl, rfl, trivial⟩ ?_
  refine W.seq ?_
  refine W.seq ?_
  refine W.region ?_
  refine T.q (q_loadW wd40 (R_blk 0 rfl) rfl rfl) (Wt.plain rfl) rfl rfl ?_
  refine T.eff (e_call enters42 rfl rfl (fun w hm => may_true (by first | assumption | (unfold recP; omega) | (unfold othP; omega) | (unfold mayP recP othP at *; omega) | (unfold recP at *; omega)) w) rfl rfl) (Wt.plain rfl) ?_
  rintro _ _ ⟨_, _, ⟨rfl, rfl⟩, rfl, rfl⟩
  change (_ : List Blk → Prop) [_, _]
  refine T.q (q_not rfl rfl) (Wt.plain rfl) rfl rfl ?_
  refine T.q (q_move rfl rfl) (Wt.plain rfl) rfl rfl ?_
  refine T.q (q_loadW wd40 (R_blk 1 rfl) rfl rfl) (Wt.yes rfl rfl rfl) rfl rfl ?_
  refine T.eff (e_call enters42 rfl rfl (fun w hm => may_true (by first | assumption | (unfold recP; omega) | (unfold othP; omega) | (unfold mayP recP othP at *; omega) | (unfold recP at *; omega)) w) rfl rfl) (Wt.yes rfl rfl rfl) ?_
  rintro _ _ ⟨_, _, ⟨rfl, rfl⟩, rfl, rfl⟩
  change (_ : List Blk → Prop) [_, _]
  refine T.q (q_not rfl rfl) (Wt.yes rfl rfl rfl) rfl rfl ?_
  refine T.q (q_pickF rfl rfl rfl) (Wt.plain rfl) rfl rfl ?_
  refine T.q (q_move rfl rfl) (Wt.plain rfl) rfl rfl ?_
  refine T.q (q_fld fl40_0 rfl rfl) (Wt.yes rfl rfl rfl) rfl rfl ?_
  refine T.q (q_load1 ss3 0 rfl rfl rfl rfl) (Wt.yes rfl rfl rfl) rfl rfl ?_
  refine T.q (q_bool (b := false) (q_neq rfl rfl rfl) (decide_eq_false (by omega))) (Wt.yes rfl rfl rfl) rfl rfl ?_
  refine T.q (q_pickF rfl rfl rfl) (Wt.plain rfl) rfl rfl ?_
  refine T.q (q_move rfl rfl) (Wt.plain rfl) rfl rfl ?_
  refine T.q (q_fld fl40_0 rfl rfl) (Wt.yes rfl rfl rfl) rfl rfl ?_
  refine T.q (q_load1 ss3 1 rfl rfl rfl rfl) (Wt.yes rfl rfl rfl) rfl rfl ?_
  refine T.q (q_bool (b := false) (q_neq rfl rfl rfl) (decide_eq_false (by omega))) (Wt.yes rfl rfl rfl) rfl rfl ?_
  refine T.q (q_pickF rfl rfl rfl) (Wt.plain rfl) rfl rfl ?_
  refine T.nil ?_
  refine Ex.next ?_
  refine W.slots (L' := [(2, _), (3, _), (5, _), (25, _)]) ⟨rfl, rfl, rfl, rfl, trivial⟩ ?_
  refine W.condF rfl ?_
  refine W.skip ?_
  refine Ex.next ?_
  refine W.slots (L' := [(2, _), (3, _), (5, _)]) ⟨rfl, rfl, rfl, trivial⟩ ?_
  refine W.seq ?_
  refine W.region ?_
  refine T.q (q_fld fl40_2 rfl rfl) (Wt.plain rfl) rfl rfl ?_
  refine T.q (q_load1 ss3 0 rfl rfl rfl rfl) (Wt.plain rfl) rfl rfl ?_
  refine T.q (q_fld fl40_2 rfl rfl) (Wt.plain rfl) rfl rfl ?_
  refine T.q (q_load1 ss3 1 rfl rfl rfl rfl) (Wt.plain rfl) rfl rfl ?_
  refine T.q (q_eql rfl rfl rfl) (Wt.plain rfl) rfl rfl ?_
  refine T.q (q_move rfl rfl) (Wt.plain rfl) rfl rfl ?_
  refine T.both (t := 32) _ rfl (fun hb3 => ?_) (fun hb3 => ?_)
  · replace hb3 := of_decide_eq_true hb3
    refine T.q (q_fld fl40_3 rfl rfl) (Wt.yes rfl rfl rfl) rfl rfl ?_
    refine T.q (q_load1 ss3 0 rfl rfl rfl rfl) (Wt.yes rfl rfl rfl) rfl rfl ?_
    refine T.q (q_fld fl40_3 rfl rfl) (Wt.yes rfl rfl rfl) rfl rfl ?_
    refine T.q (q_load1 ss3 1 rfl rfl rfl rfl) (Wt.yes rfl rfl rfl) rfl rfl ?_
    refine T.q (q_eql rfl rfl rfl) (Wt.yes rfl rfl rfl) rfl rfl ?_
    refine T.q (q_pickT rfl rfl rfl) (Wt.plain rfl) rfl rfl ?_
    refine T.q (q_move rfl rfl) (Wt.plain rfl) rfl rfl ?_
    refine T.both (t := 39) _ rfl (fun hb4 => ?_) (fun hb4 => ?_)
    · replace hb4 := of_decide_eq_true hb4
      refine T.q (q_fld fl40_4 rfl rfl) (Wt.yes rfl rfl rfl) rfl rfl ?_
      refine T.q (q_load1 ss3 0 rfl rfl rfl rfl) (Wt.yes rfl rfl rfl) rfl rfl ?_
      refine T.q (q_fld fl40_4 rfl rfl) (Wt.yes rfl rfl rfl) rfl rfl ?_
      refine T.q (q_load1 ss3 1 rfl rfl rfl rfl) (Wt.yes rfl rfl rfl) rfl rfl ?_
      refine T.q (q_eql rfl rfl rfl) (Wt.yes rfl rfl rfl) rfl rfl ?_
      refine T.q (q_bool (b := decide (p = p2 ∧ e = e2 ∧ c = c2)) (q_pickT rfl rfl rfl) ?hE) (Wt.plain rfl) rfl rfl ?_
      case hE => first | exact (decide_eq_false (by omega)).symm | exact decide_eq_decide.2 (by omega)
      refine T.q (q_assign rfl rfl) (Wt.plain rfl) rfl rfl ?_
      refine T.nil ?_
      refine Ex.next ?_
      refine W.slots (L' := [(2, _), (3, _), (5, _), (6, _)]) ⟨rfl, rfl, rfl, rfl, trivial⟩ ?_
      refine W.seq ?_
      refine W.draw 10 (by kernel_rfl) ?_
      refine D.take 0 rfl (by kernel_rfl) (fun _ h => h) (q_move rfl rfl) (Wt.plain rfl) rfl rfl ?_
      refine D.take 1 rfl (by kernel_rfl) (fun _ h => h) (q_move rfl rfl) (Wt.plain rfl) rfl rfl ?_
      refine D.take 2 rfl (by kernel_rfl) (fun _ h => h) (q_loadW wd40 (R_blk 0 rfl) rfl rfl) (Wt.yes rfl rfl rfl) rfl rfl ?_
      refine D.take 4 rfl (by kernel_rfl) (fun _ h => h) (q_loadW wd40 (R_blk 1 rfl) rfl rfl) (Wt.yes rfl rfl rfl) rfl rfl ?_
      refine D.take 7 rfl (by kernel_rfl) (fun _ h => h) (q_move rfl rfl) (Wt.yes rfl rfl rfl) rfl rfl ?_
      refine D.one 3 (by kernel_rfl) ?_
      refine Up.eff rfl (e_call enters37 rfl rfl (fun w hm => nonce_yes r p e c (by first | omega | (simp; done) | (simp; omega) | (simp at *; omega)) (by first | omega | (simp; done) | (simp; omega) | (simp at *; omega)) (by first | omega | (simp; done) | (simp; omega) | (simp at *; omega)) (by first | omega | (simp; done) | (simp; omega) | (simp at *; omega)) _ _ _ (by first | omega | (simp; done) | (simp; omega) | (simp at *; omega)) (by first | omega | (simp; done) | (simp; omega) | (simp at *; omega)) w) rfl rfl) (Wt.yes rfl rfl rfl) ?_
      rintro _ _ ⟨_, _, ⟨rfl, rfl⟩, rfl, rfl⟩
      refine ⟨fun _ => (fun _ h => h), ?_⟩
      change (_ : List Blk → Prop) [_, _]
      refine D.one 5 (by kernel_rfl) ?_
      refine Up.eff rfl (e_call enters37 rfl rfl (fun w hm => nonce_yes r2 p2 e2 c2 (by first | omega | (simp; done) | (simp; omega) | (simp at *; omega)) (by first | omega | (simp; done) | (simp; omega) | (simp at *; omega)) (by first | omega | (simp; done) | (simp; omega) | (simp at *; omega)) (by first | omega | (simp; done) | (simp; omega) | (simp at *; omega)) _ _ _ (by first | omega | (simp; done) | (simp; omega) | (simp at *; omega)) (by first | omega | (simp; done) | (simp; omega) | (simp at *; omega)) w) rfl rfl) (Wt.yes rfl rfl rfl) ?_
      rintro _ _ ⟨_, _, ⟨rfl, rfl⟩, rfl, rfl⟩
      refine ⟨fun _ => (fun _ h => h), ?_⟩
      change (_ : List Blk → Prop) [_, _]
      refine D.take 6 rfl (by kernel_rfl) (fun _ h => h) (q_bool (b := decide (p = p2 ∧ e = e2 ∧ c = c2)) (q_eqlA ar44 ss5 un5 eg44 rfl rfl rfl (by first | omega | (simp; done) | (simp [-List.getD_eq_getElem?_getD]; omega) | (simp at *; omega) | rfl) (by first | omega | (simp; done) | (simp [-List.getD_eq_getElem?_getD]; omega) | (simp at *; omega) | rfl)) ?hE) (Wt.yes rfl rfl rfl) rfl rfl ?_
      case hE => exact decide_eq_decide.2 (nn_inj (by omega) (by omega) (by omega) (by omega))
      refine D.take 8 rfl (by kernel_rfl) (fun _ h => h) (q_bool (b := true) (q_eqlB un4 rfl rfl rfl) (beq_self_eq_true _)) (Wt.yes rfl rfl rfl) rfl rfl ?_
      refine D.take 9 rfl (by kernel_rfl) (fun _ h => h) (q_pickT rfl rfl rfl) (Wt.plain rfl) rfl rfl ?_
      refine D.one 10 (by kernel_rfl) ?_
      refine Up.q rfl (q_assign rfl rfl) (Wt.plain rfl) rfl rfl (fun h => absurd h (by decide)) ?_
      refine D.done (by kernel_rfl) ?_
      refine Ex.next ?_
      refine W.less (L' := [(4, _)]) [false, false] ⟨rfl, trivial⟩ ?_
      change (_ : List Blk → Prop) []
      refine W.ret ?_
      refine Ex.out1 [] rfl rfl ?_
      exact ⟨rfl, rfl⟩
    · replace hb4 := of_decide_eq_false hb4
      refine T.no (Wn.no rfl rfl rfl rfl) rfl rfl ?_
      refine T.no (Wn.no rfl rfl rfl rfl) rfl rfl ?_
      refine T.no (Wn.no rfl rfl rfl rfl) rfl rfl ?_
      refine T.no (Wn.no rfl rfl rfl rfl) rfl rfl ?_
      refine T.no (Wn.no rfl rfl rfl rfl) rfl rfl ?_
      refine T.q (q_bool (b := decide (p = p2 ∧ e = e2 ∧ c = c2)) (q_pickF rfl rfl rfl) ?hE) (Wt.plain rfl) rfl rfl ?_
      case hE => first | exact (decide_eq_false (by omega)).symm | exact decide_eq_decide.2 (by omega)
      refine T.q (q_assign rfl rfl) (Wt.plain rfl) rfl rfl ?_
      refine T.nil ?_
      refine Ex.next ?_
      refine W.slots (L' := [(2, _), (3, _), (5, _), (6, _)]) ⟨rfl, rfl, rfl, rfl, trivial⟩ ?_
      refine W.seq ?_
      refine W.draw 10 (by kernel_rfl) ?_
      refine D.take 0 rfl (by kernel_rfl) (fun _ h => h) (q_move rfl rfl) (Wt.plain rfl) rfl rfl ?_
      refine D.take 1 rfl (by kernel_rfl) (fun _ h => h) (q_move rfl rfl) (Wt.plain rfl) rfl rfl ?_
      refine D.take 2 rfl (by kernel_rfl) (fun _ h => h) (q_loadW wd40 (R_blk 0 rfl) rfl rfl) (Wt.yes rfl rfl rfl) rfl rfl ?_
      refine D.take 4 rfl (by kernel_rfl) (fun _ h => h) (q_loadW wd40 (R_blk 1 rfl) rfl rfl) (Wt.yes rfl rfl rfl) rfl rfl ?_
      refine D.take 7 rfl (by kernel_rfl) (fun _ h => h) (q_move rfl rfl) (Wt.yes rfl rfl rfl) rfl rfl ?_
      refine D.one 3 (by kernel_rfl) ?_
      refine Up.eff rfl (e_call enters37 rfl rfl (fun w hm => nonce_yes r p e c (by first | omega | (simp; done) | (simp; omega) | (simp at *; omega)) (by first | omega | (simp; done) | (simp; omega) | (simp at *; omega)) (by first | omega | (simp; done) | (simp; omega) | (simp at *; omega)) (by first | omega | (simp; done) | (simp; omega) | (simp at *; omega)) _ _ _ (by first | omega | (simp; done) | (simp; omega) | (simp at *; omega)) (by first | omega | (simp; done) | (simp; omega) | (simp at *; omega)) w) rfl rfl) (Wt.yes rfl rfl rfl) ?_
      rintro _ _ ⟨_, _, ⟨rfl, rfl⟩, rfl, rfl⟩
      refine ⟨fun _ => (fun _ h => h), ?_⟩
      change (_ : List Blk → Prop) [_, _]
      refine D.one 5 (by kernel_rfl) ?_
      refine Up.eff rfl (e_call enters37 rfl rfl (fun w hm => nonce_yes r2 p2 e2 c2 (by first | omega | (simp; done) | (simp; omega) | (simp at *; omega)) (by first | omega | (simp; done) | (simp; omega) | (simp at *; omega)) (by first | omega | (simp; done) | (simp; omega) | (simp at *; omega)) (by first | omega | (simp; done) | (simp; omega) | (simp at *; omega)) _ _ _ (by first | omega | (simp; done) | (simp; omega) | (simp at *; omega)) (by first | omega | (simp; done) | (simp; omega) | (simp at *; omega)) w) rfl rfl) (Wt.yes rfl rfl rfl) ?_
      rintro _ _ ⟨_, _, ⟨rfl, rfl⟩, rfl, rfl⟩
      refine ⟨fun _ => (fun _ h => h), ?_⟩
      change (_ : List Blk → Prop) [_, _]
      refine D.take 6 rfl (by kernel_rfl) (fun _ h => h) (q_bool (b := decide (p = p2 ∧ e = e2 ∧ c = c2)) (q_eqlA ar44 ss5 un5 eg44 rfl rfl rfl (by first | omega | (simp; done) | (simp [-List.getD_eq_getElem?_getD]; omega) | (simp at *; omega) | rfl) (by first | omega | (simp; done) | (simp [-List.getD_eq_getElem?_getD]; omega) | (simp at *; omega) | rfl)) ?hE) (Wt.yes rfl rfl rfl) rfl rfl ?_
      case hE => exact decide_eq_decide.2 (nn_inj (by omega) (by omega) (by omega) (by omega))
      refine D.take 8 rfl (by kernel_rfl) (fun _ h => h) (q_bool (b := true) (q_eqlB un4 rfl rfl rfl) (beq_self_eq_true _)) (Wt.yes rfl rfl rfl) rfl rfl ?_
      refine D.take 9 rfl (by kernel_rfl) (fun _ h => h) (q_pickT rfl rfl rfl) (Wt.plain rfl) rfl rfl ?_
      refine D.one 10 (by kernel_rfl) ?_
      refine Up.q rfl (q_assign rfl rfl) (Wt.plain rfl) rfl rfl (fun h => absurd h (by decide)) ?_
      refine D.done (by kernel_rfl) ?_
      refine Ex.next ?_
      refine W.less (L' := [(4, _)]) [false, false] ⟨rfl, trivial⟩ ?_
      change (_ : List Blk → Prop) []
      refine W.ret ?_
      refine Ex.out1 [] rfl rfl ?_
      exact ⟨rfl, rfl⟩
  · replace hb3 := of_decide_eq_false hb3
    refine T.no (Wn.no rfl rfl rfl rfl) rfl rfl ?_
    refine T.no (Wn.no rfl rfl rfl rfl) rfl rfl ?_
    refine T.no (Wn.no rfl rfl rfl rfl) rfl rfl ?_
    refine T.no (Wn.no rfl rfl rfl rfl) rfl rfl ?_
    refine T.no (Wn.no rfl rfl rfl rfl) rfl rfl ?_
    refine T.q (q_pickF rfl rfl rfl) (Wt.plain rfl) rfl rfl ?_
    refine T.q (q_move rfl rfl) (Wt.plain rfl) rfl rfl ?_
    refine T.no (Wn.no rfl rfl rfl rfl) rfl rfl ?_
    refine T.no (Wn.no rfl rfl rfl rfl) rfl rfl ?_
    refine T.no (Wn.no rfl rfl rfl rfl) rfl rfl ?_
    refine T.no (Wn.no rfl rfl rfl rfl) rfl rfl ?_
    refine T.no (Wn.no rfl rfl rfl rfl) rfl rfl ?_
    refine T.q (q_bool (b := decide (p = p2 ∧ e = e2 ∧ c = c2)) (q_pickF rfl rfl rfl) ?hE) (Wt.plain rfl) rfl rfl ?_
    case hE => first | exact (decide_eq_false (by omega)).symm | exact decide_eq_decide.2 (by omega)
    refine T.q (q_assign rfl rfl) (Wt.plain rfl) rfl rfl ?_
    refine T.nil ?_
    refine Ex.next ?_
    refine W.slots (L' := [(2, _), (3, _), (5, _), (6, _)]) ⟨rfl, rfl, rfl, rfl, trivial⟩ ?_
    refine W.seq ?_
    refine W.draw 10 (by kernel_rfl) ?_
    refine D.take 0 rfl (by kernel_rfl) (fun _ h => h) (q_move rfl rfl) (Wt.plain rfl) rfl rfl ?_
    refine D.take 1 rfl (by kernel_rfl) (fun _ h => h) (q_move rfl rfl) (Wt.plain rfl) rfl rfl ?_
    refine D.take 2 rfl (by kernel_rfl) (fun _ h => h) (q_loadW wd40 (R_blk 0 rfl) rfl rfl) (Wt.yes rfl rfl rfl) rfl rfl ?_
    refine D.take 4 rfl (by kernel_rfl) (fun _ h => h) (q_loadW wd40 (R_blk 1 rfl) rfl rfl) (Wt.yes rfl rfl rfl) rfl rfl ?_
    refine D.take 7 rfl (by kernel_rfl) (fun _ h => h) (q_move rfl rfl) (Wt.yes rfl rfl rfl) rfl rfl ?_
    refine D.one 3 (by kernel_rfl) ?_
    refine Up.eff rfl (e_call enters37 rfl rfl (fun w hm => nonce_yes r p e c (by first | omega | (simp; done) | (simp; omega) | (simp at *; omega)) (by first | omega | (simp; done) | (simp; omega) | (simp at *; omega)) (by first | omega | (simp; done) | (simp; omega) | (simp at *; omega)) (by first | omega | (simp; done) | (simp; omega) | (simp at *; omega)) _ _ _ (by first | omega | (simp; done) | (simp; omega) | (simp at *; omega)) (by first | omega | (simp; done) | (simp; omega) | (simp at *; omega)) w) rfl rfl) (Wt.yes rfl rfl rfl) ?_
    rintro _ _ ⟨_, _, ⟨rfl, rfl⟩, rfl, rfl⟩
    refine ⟨fun _ => (fun _ h => h), ?_⟩
    change (_ : List Blk → Prop) [_, _]
    refine D.one 5 (by kernel_rfl) ?_
    refine Up.eff rfl (e_call enters37 rfl rfl (fun w hm => nonce_yes r2 p2 e2 c2 (by first | omega | (simp; done) | (simp; omega) | (simp at *; omega)) (by first | omega | (simp; done) | (simp; omega) | (simp at *; omega)) (by first | omega | (simp; done) | (simp; omega) | (simp at *; omega)) (by first | omega | (simp; done) | (simp; omega) | (simp at *; omega)) _ _ _ (by first | omega | (simp; done) | (simp; omega) | (simp at *; omega)) (by first | omega | (simp; done) | (simp; omega) | (simp at *; omega)) w) rfl rfl) (Wt.yes rfl rfl rfl) ?_
    rintro _ _ ⟨_, _, ⟨rfl, rfl⟩, rfl, rfl⟩
    refine ⟨fun _ => (fun _ h => h), ?_⟩
    change (_ : List Blk → Prop) [_, _]
    refine D.take 6 rfl (by kernel_rfl) (fun _ h => h) (q_bool (b := decide (p = p2 ∧ e = e2 ∧ c = c2)) (q_eqlA ar44 ss5 un5 eg44 rfl rfl rfl (by first | omega | (simp; done) | (simp [-List.getD_eq_getElem?_getD]; omega) | (simp at *; omega) | rfl) (by first | omega | (simp; done) | (simp [-List.getD_eq_getElem?_getD]; omega) | (simp at *; omega) | rfl)) ?hE) (Wt.yes rfl rfl rfl) rfl rfl ?_
    case hE => exact decide_eq_decide.2 (nn_inj (by omega) (by omega) (by omega) (by omega))
    refine D.take 8 rfl (by kernel_rfl) (fun _ h => h) (q_bool (b := true) (q_eqlB un4 rfl rfl rfl) (beq_self_eq_true _)) (Wt.yes rfl rfl rfl) rfl rfl ?_
    refine D.take 9 rfl (by kernel_rfl) (fun _ h => h) (q_pickT rfl rfl rfl) (Wt.plain rfl) rfl rfl ?_
    refine D.one 10 (by kernel_rfl) ?_
    refine Up.q rfl (q_assign rfl rfl) (Wt.plain rfl) rfl rfl (fun h => absurd h (by decide)) ?_
    refine D.done (by kernel_rfl) ?_
    refine Ex.next ?_
    refine W.less (L' := [(4, _)]) [false, false] ⟨rfl, trivial⟩ ?_
    change (_ : List Blk → Prop) []
    refine W.ret ?_
    refine Ex.out1 [] rfl rfl ?_
    exact ⟨rfl, rfl⟩
set_option maxRecDepth 100000 in
theorem nonces_no1 (pk pr pp pe pc qk qr qp qe qc : Int) (PA QA : Option Addr) (n bc n2 bc2 : Nat) (hx : ¬ mayP pk pr pp pe pc n) (w0 : World) : Does Try.prog 12 #[.agg #[.int .i64 pk, .int .i64 pr, .int .i64 pp, .int .i64 pe, .int .i64 pc, .slice PA n bc], .agg #[.int .i64 qk, .int .i64 qr, .int .i64 qp, .int .i64 qe, .int .i64 qc, .slice QA n2 bc2]] w0 [] (fun v G => v = .bool true ∧ G = []) := by
  refine spec_of 56 Try.func12 rfl rfl rfl ?_
  refine W.seq ?_
  refine W.region ?_
  refine T.eff (e_box rfl rfl rfl rfl) (Wt.plain rfl) ?_
  rintro _ _ ⟨k1, rfl, rfl⟩
  change (_ : List Blk → Prop) [_]
  change (_ : List Blk → Prop) [⟨some k1, [.int .i64 pk, .int .i64 pr, .int .i64 pp, .int .i64 pe, .int .i64 pc, .slice PA n bc], 40, (0, 0)⟩]
  refine T.eff (e_box rfl rfl rfl rfl) (Wt.plain rfl) ?_
  rintro _ _ ⟨k2, rfl, rfl⟩
  change (_ : List Blk → Prop) [_, _]
  change (_ : List Blk → Prop) [_, ⟨some k2, [.int .i64 qk, .int .i64 qr, .int .i64 qp, .int .i64 qe, .int .i64 qc, .slice QA n2 bc2], 40, (0, 0)⟩]
  refine T.q (q_assign rfl rfl) (Wt.plain rfl) rfl rfl ?_
  refine T.nil ?_
  refine Ex.next ?_
  refine W.slots (L' := [(2, _), (3, _)]) ⟨rfl, rfl, trivial⟩ ?_
  refine W.seq ?_
  refine W.region ?_
  refine T.eff (e_call enters32 rfl rfl (fun w hm => shown11_spec w) rfl rfl) (Wt.plain rfl) ?_
  rintro _ _ ⟨_, _, ⟨rfl, rfl⟩, rfl, rfl⟩
  change (_ : List Blk → Prop) [_, _]
  refine T.q (q_assign rfl rfl) (Wt.plain rfl) rfl rfl ?_
  refine T.nil ?_
  refine Ex.next ?_
  refine W.slots (L' := [(2, _), (3, _), (5, _)]) ⟨rfl, rfl, rfl, trivial⟩ ?_
  refine W.seq ?_
  refine W.seq ?_
  refine W.region ?_
  refine T.q (q_loadW wd40 (R_blk 0 rfl) rfl rfl) (Wt.plain rfl) rfl rfl ?_
  refine T.eff (e_call enters42 rfl rfl (fun w hm => may_false (by assumption) w) rfl rfl) (Wt.plain rfl) ?_
  rintro _ _ ⟨_, _, ⟨rfl, rfl⟩, rfl, rfl⟩
  change (_ : List Blk → Prop) [_, _]
  refine T.q (q_not rfl rfl) (Wt.plain rfl) rfl rfl ?_
  refine T.q (q_move rfl rfl) (Wt.plain rfl) rfl rfl ?_
  refine T.no (Wn.no rfl rfl rfl rfl) rfl rfl ?_
  refine T.no (Wn.no rfl rfl rfl rfl) rfl rfl ?_
  refine T.no (Wn.no rfl rfl rfl rfl) rfl rfl ?_
  refine T.q (q_pickT rfl rfl rfl) (Wt.plain rfl) rfl rfl ?_
  refine T.q (q_move rfl rfl) (Wt.plain rfl) rfl rfl ?_
  refine T.no (Wn.no rfl rfl rfl rfl) rfl rfl ?_
  refine T.no (Wn.no rfl rfl rfl rfl) rfl rfl ?_
  refine T.no (Wn.no rfl rfl rfl rfl) rfl rfl ?_
  refine T.q (q_pickT rfl rfl rfl) (Wt.plain rfl) rfl rfl ?_
  refine T.q (q_move rfl rfl) (Wt.plain rfl) rfl rfl ?_
  refine T.no (Wn.no rfl rfl rfl rfl) rfl rfl ?_
  refine T.no (Wn.no rfl rfl rfl rfl) rfl rfl ?_
  refine T.no (Wn.no rfl rfl rfl rfl) rfl rfl ?_
  refine T.q (q_pickT rfl rfl rfl) (Wt.plain rfl) rfl rfl ?_
  refine T.nil ?_
  refine Ex.next ?_
  refine W.slots (L' := [(2, _), (3, _), (5, _), (25, _)]) ⟨rfl, rfl, rfl, rfl, trivial⟩ ?_
  refine W.condT rfl ?_
  refine W.seq ?_
  refine W.region ?_
  refine T.q (q_move rfl rfl) (Wt.plain rfl) rfl rfl ?_
  refine T.q (q_assign rfl rfl) (Wt.plain rfl) rfl rfl ?_
  refine T.nil ?_
  refine Ex.next ?_
  refine W.less (L' := [(4, _)]) [false, false] ⟨rfl, trivial⟩ ?_
  change (_ : List Blk → Prop) []
  refine W.ret ?_
  refine Ex.then_ret ?_
  refine Ex.out1 [] rfl rfl ?_
  exact ⟨rfl, rfl⟩
set_option maxRecDepth 100000 in
theorem nonces_no2 (pk pr pp pe pc qk qr qp qe qc : Int) (PA QA : Option Addr) (n bc n2 bc2 : Nat) (hm : mayP pk pr pp pe pc n) (hx2 : ¬ mayP qk qr qp qe qc n2) (w0 : World) : Does Try.prog 12 #[.agg #[.int .i64 pk, .int .i64 pr, .int .i64 pp, .int .i64 pe, .int .i64 pc, .slice PA n bc], .agg #[.int .i64 qk, .int .i64 qr, .int .i64 qp, .int .i64 qe, .int .i64 qc, .slice QA n2 bc2]] w0 [] (fun v G => v = .bool true ∧ G = []) := by
  refine spec_of 56 Try.func12 rfl rfl rfl ?_
  refine W.seq ?_
  refine W.region ?_
  refine T.eff (e_box rfl rfl rfl rfl) (Wt.plain rfl) ?_
  rintro _ _ ⟨k1, rfl, rfl⟩
  change (_ : List Blk → Prop) [_]
  change (_ : List Blk → Prop) [⟨some k1, [.int .i64 pk, .int .i64 pr, .int .i64 pp, .int .i64 pe, .int .i64 pc, .slice PA n bc], 40, (0, 0)⟩]
  refine T.eff (e_box rfl rfl rfl rfl) (Wt.plain rfl) ?_
  rintro _ _ ⟨k2, rfl, rfl⟩
  change (_ : List Blk → Prop) [_, _]
  change (_ : List Blk → Prop) [_, ⟨some k2, [.int .i64 qk, .int .i64 qr, .int .i64 qp, .int .i64 qe, .int .i64 qc, .slice QA n2 bc2], 40, (0, 0)⟩]
  refine T.q (q_assign rfl rfl) (Wt.plain rfl) rfl rfl ?_
  refine T.nil ?_
  refine Ex.next ?_
  refine W.slots (L' := [(2, _), (3, _)]) ⟨rfl, rfl, trivial⟩ ?_
  refine W.seq ?_
  refine W.region ?_
  refine T.eff (e_call enters32 rfl rfl (fun w hm => shown11_spec w) rfl rfl) (Wt.plain rfl) ?_
  rintro _ _ ⟨_, _, ⟨rfl, rfl⟩, rfl, rfl⟩
  change (_ : List Blk → Prop) [_, _]
  refine T.q (q_assign rfl rfl) (Wt.plain rfl) rfl rfl ?_
  refine T.nil ?_
  refine Ex.next ?_
  refine W.slots (L' := [(2, _), (3, _), (5, _)]) ⟨rfl, rfl, rfl, trivial⟩ ?_
  refine W.seq ?_
  refine W.seq ?_
  refine W.region ?_
  refine T.q (q_loadW wd40 (R_blk 0 rfl) rfl rfl) (Wt.plain rfl) rfl rfl ?_
  refine T.eff (e_call enters42 rfl rfl (fun w hm => may_true (by assumption) w) rfl rfl) (Wt.plain rfl) ?_
  rintro _ _ ⟨_, _, ⟨rfl, rfl⟩, rfl, rfl⟩
  change (_ : List Blk → Prop) [_, _]
  refine T.q (q_not rfl rfl) (Wt.plain rfl) rfl rfl ?_
  refine T.q (q_move rfl rfl) (Wt.plain rfl) rfl rfl ?_
  refine T.q (q_loadW wd40 (R_blk 1 rfl) rfl rfl) (Wt.yes rfl rfl rfl) rfl rfl ?_
  refine T.eff (e_call enters42 rfl rfl (fun w hm => may_false (by assumption) w) rfl rfl) (Wt.yes rfl rfl rfl) ?_
  rintro _ _ ⟨_, _, ⟨rfl, rfl⟩, rfl, rfl⟩
  change (_ : List Blk → Prop) [_, _]
  refine T.q (q_not rfl rfl) (Wt.yes rfl rfl rfl) rfl rfl ?_
  refine T.q (q_pickF rfl rfl rfl) (Wt.plain rfl) rfl rfl ?_
  refine T.q (q_move rfl rfl) (Wt.plain rfl) rfl rfl ?_
  refine T.no (Wn.no rfl rfl rfl rfl) rfl rfl ?_
  refine T.no (Wn.no rfl rfl rfl rfl) rfl rfl ?_
  refine T.no (Wn.no rfl rfl rfl rfl) rfl rfl ?_
  refine T.q (q_pickT rfl rfl rfl) (Wt.plain rfl) rfl rfl ?_
  refine T.q (q_move rfl rfl) (Wt.plain rfl) rfl rfl ?_
  refine T.no (Wn.no rfl rfl rfl rfl) rfl rfl ?_
  refine T.no (Wn.no rfl rfl rfl rfl) rfl rfl ?_
  refine T.no (Wn.no rfl rfl rfl rfl) rfl rfl ?_
  refine T.q (q_pickT rfl rfl rfl) (Wt.plain rfl) rfl rfl ?_
  refine T.nil ?_
  refine Ex.next ?_
  refine W.slots (L' := [(2, _), (3, _), (5, _), (25, _)]) ⟨rfl, rfl, rfl, rfl, trivial⟩ ?_
  refine W.condT rfl ?_
  refine W.seq ?_
  refine W.region ?_
  refine T.q (q_move rfl rfl) (Wt.plain rfl) rfl rfl ?_
  refine T.q (q_assign rfl rfl) (Wt.plain rfl) rfl rfl ?_
  refine T.nil ?_
  refine Ex.next ?_
  refine W.less (L' := [(4, _)]) [false, false] ⟨rfl, trivial⟩ ?_
  change (_ : List Blk → Prop) []
  refine W.ret ?_
  refine Ex.then_ret ?_
  refine Ex.out1 [] rfl rfl ?_
  exact ⟨rfl, rfl⟩
set_option maxRecDepth 100000 in
theorem nonces_no3 (pk pr pp pe pc qk qr qp qe qc : Int) (PA QA : Option Addr) (n bc n2 bc2 : Nat) (hm : mayP pk pr pp pe pc n) (hm2 : mayP qk qr qp qe qc n2) (hk : pk ≠ 3) (w0 : World) : Does Try.prog 12 #[.agg #[.int .i64 pk, .int .i64 pr, .int .i64 pp, .int .i64 pe, .int .i64 pc, .slice PA n bc], .agg #[.int .i64 qk, .int .i64 qr, .int .i64 qp, .int .i64 qe, .int .i64 qc, .slice QA n2 bc2]] w0 [] (fun v G => v = .bool true ∧ G = []) := by
  refine spec_of 56 Try.func12 rfl rfl rfl ?_
  refine W.seq ?_
  refine W.region ?_
  refine T.eff (e_box rfl rfl rfl rfl) (Wt.plain rfl) ?_
  rintro _ _ ⟨k1, rfl, rfl⟩
  change (_ : List Blk → Prop) [_]
  change (_ : List Blk → Prop) [⟨some k1, [.int .i64 pk, .int .i64 pr, .int .i64 pp, .int .i64 pe, .int .i64 pc, .slice PA n bc], 40, (0, 0)⟩]
  refine T.eff (e_box rfl rfl rfl rfl) (Wt.plain rfl) ?_
  rintro _ _ ⟨k2, rfl, rfl⟩
  change (_ : List Blk → Prop) [_, _]
  change (_ : List Blk → Prop) [_, ⟨some k2, [.int .i64 qk, .int .i64 qr, .int .i64 qp, .int .i64 qe, .int .i64 qc, .slice QA n2 bc2], 40, (0, 0)⟩]
  refine T.q (q_assign rfl rfl) (Wt.plain rfl) rfl rfl ?_
  refine T.nil ?_
  refine Ex.next ?_
  refine W.slots (L' := [(2, _), (3, _)]) ⟨rfl, rfl, trivial⟩ ?_
  refine W.seq ?_
  refine W.region ?_
  refine T.eff (e_call enters32 rfl rfl (fun w hm => shown11_spec w) rfl rfl) (Wt.plain rfl) ?_
  rintro _ _ ⟨_, _, ⟨rfl, rfl⟩, rfl, rfl⟩
  change (_ : List Blk → Prop) [_, _]
  refine T.q (q_assign rfl rfl) (Wt.plain rfl) rfl rfl ?_
  refine T.nil ?_
  refine Ex.next ?_
  refine W.slots (L' := [(2, _), (3, _), (5, _)]) ⟨rfl, rfl, rfl, trivial⟩ ?_
  refine W.seq ?_
  refine W.seq ?_
  refine W.region ?_
  refine T.q (q_loadW wd40 (R_blk 0 rfl) rfl rfl) (Wt.plain rfl) rfl rfl ?_
  refine T.eff (e_call enters42 rfl rfl (fun w hm => may_true (by assumption) w) rfl rfl) (Wt.plain rfl) ?_
  rintro _ _ ⟨_, _, ⟨rfl, rfl⟩, rfl, rfl⟩
  change (_ : List Blk → Prop) [_, _]
  refine T.q (q_not rfl rfl) (Wt.plain rfl) rfl rfl ?_
  refine T.q (q_move rfl rfl) (Wt.plain rfl) rfl rfl ?_
  refine T.q (q_loadW wd40 (R_blk 1 rfl) rfl rfl) (Wt.yes rfl rfl rfl) rfl rfl ?_
  refine T.eff (e_call enters42 rfl rfl (fun w hm => may_true (by assumption) w) rfl rfl) (Wt.yes rfl rfl rfl) ?_
  rintro _ _ ⟨_, _, ⟨rfl, rfl⟩, rfl, rfl⟩
  change (_ : List Blk → Prop) [_, _]
  refine T.q (q_not rfl rfl) (Wt.yes rfl rfl rfl) rfl rfl ?_
  refine T.q (q_pickF rfl rfl rfl) (Wt.plain rfl) rfl rfl ?_
  refine T.q (q_move rfl rfl) (Wt.plain rfl) rfl rfl ?_
  refine T.q (q_fld fl40_0 rfl rfl) (Wt.yes rfl rfl rfl) rfl rfl ?_
  refine T.q (q_load1 ss3 0 rfl rfl rfl rfl) (Wt.yes rfl rfl rfl) rfl rfl ?_
  refine T.q (q_bool (b := true) (q_neq rfl rfl rfl) (decide_eq_true (by omega))) (Wt.yes rfl rfl rfl) rfl rfl ?_
  refine T.q (q_pickF rfl rfl rfl) (Wt.plain rfl) rfl rfl ?_
  refine T.q (q_move rfl rfl) (Wt.plain rfl) rfl rfl ?_
  refine T.no (Wn.no rfl rfl rfl rfl) rfl rfl ?_
  refine T.no (Wn.no rfl rfl rfl rfl) rfl rfl ?_
  refine T.no (Wn.no rfl rfl rfl rfl) rfl rfl ?_
  refine T.q (q_pickT rfl rfl rfl) (Wt.plain rfl) rfl rfl ?_
  refine T.nil ?_
  refine Ex.next ?_
  refine W.slots (L' := [(2, _), (3, _), (5, _), (25, _)]) ⟨rfl, rfl, rfl, rfl, trivial⟩ ?_
  refine W.condT rfl ?_
  refine W.seq ?_
  refine W.region ?_
  refine T.q (q_move rfl rfl) (Wt.plain rfl) rfl rfl ?_
  refine T.q (q_assign rfl rfl) (Wt.plain rfl) rfl rfl ?_
  refine T.nil ?_
  refine Ex.next ?_
  refine W.less (L' := [(4, _)]) [false, false] ⟨rfl, trivial⟩ ?_
  change (_ : List Blk → Prop) []
  refine W.ret ?_
  refine Ex.then_ret ?_
  refine Ex.out1 [] rfl rfl ?_
  exact ⟨rfl, rfl⟩
set_option maxRecDepth 100000 in
theorem nonces_no4 (pk pr pp pe pc qk qr qp qe qc : Int) (PA QA : Option Addr) (n bc n2 bc2 : Nat) (hm : mayP pk pr pp pe pc n) (hm2 : mayP qk qr qp qe qc n2) (hk : pk = 3) (hk2 : qk ≠ 3) (w0 : World) : Does Try.prog 12 #[.agg #[.int .i64 pk, .int .i64 pr, .int .i64 pp, .int .i64 pe, .int .i64 pc, .slice PA n bc], .agg #[.int .i64 qk, .int .i64 qr, .int .i64 qp, .int .i64 qe, .int .i64 qc, .slice QA n2 bc2]] w0 [] (fun v G => v = .bool true ∧ G = []) := by
  refine spec_of 56 Try.func12 rfl rfl rfl ?_
  refine W.seq ?_
  refine W.region ?_
  refine T.eff (e_box rfl rfl rfl rfl) (Wt.plain rfl) ?_
  rintro _ _ ⟨k1, rfl, rfl⟩
  change (_ : List Blk → Prop) [_]
  change (_ : List Blk → Prop) [⟨some k1, [.int .i64 pk, .int .i64 pr, .int .i64 pp, .int .i64 pe, .int .i64 pc, .slice PA n bc], 40, (0, 0)⟩]
  refine T.eff (e_box rfl rfl rfl rfl) (Wt.plain rfl) ?_
  rintro _ _ ⟨k2, rfl, rfl⟩
  change (_ : List Blk → Prop) [_, _]
  change (_ : List Blk → Prop) [_, ⟨some k2, [.int .i64 qk, .int .i64 qr, .int .i64 qp, .int .i64 qe, .int .i64 qc, .slice QA n2 bc2], 40, (0, 0)⟩]
  refine T.q (q_assign rfl rfl) (Wt.plain rfl) rfl rfl ?_
  refine T.nil ?_
  refine Ex.next ?_
  refine W.slots (L' := [(2, _), (3, _)]) ⟨rfl, rfl, trivial⟩ ?_
  refine W.seq ?_
  refine W.region ?_
  refine T.eff (e_call enters32 rfl rfl (fun w hm => shown11_spec w) rfl rfl) (Wt.plain rfl) ?_
  rintro _ _ ⟨_, _, ⟨rfl, rfl⟩, rfl, rfl⟩
  change (_ : List Blk → Prop) [_, _]
  refine T.q (q_assign rfl rfl) (Wt.plain rfl) rfl rfl ?_
  refine T.nil ?_
  refine Ex.next ?_
  refine W.slots (L' := [(2, _), (3, _), (5, _)]) ⟨rfl, rfl, rfl, trivial⟩ ?_
  refine W.seq ?_
  refine W.seq ?_
  refine W.region ?_
  refine T.q (q_loadW wd40 (R_blk 0 rfl) rfl rfl) (Wt.plain rfl) rfl rfl ?_
  refine T.eff (e_call enters42 rfl rfl (fun w hm => may_true (by assumption) w) rfl rfl) (Wt.plain rfl) ?_
  rintro _ _ ⟨_, _, ⟨rfl, rfl⟩, rfl, rfl⟩
  change (_ : List Blk → Prop) [_, _]
  refine T.q (q_not rfl rfl) (Wt.plain rfl) rfl rfl ?_
  refine T.q (q_move rfl rfl) (Wt.plain rfl) rfl rfl ?_
  refine T.q (q_loadW wd40 (R_blk 1 rfl) rfl rfl) (Wt.yes rfl rfl rfl) rfl rfl ?_
  refine T.eff (e_call enters42 rfl rfl (fun w hm => may_true (by assumption) w) rfl rfl) (Wt.yes rfl rfl rfl) ?_
  rintro _ _ ⟨_, _, ⟨rfl, rfl⟩, rfl, rfl⟩
  change (_ : List Blk → Prop) [_, _]
  refine T.q (q_not rfl rfl) (Wt.yes rfl rfl rfl) rfl rfl ?_
  refine T.q (q_pickF rfl rfl rfl) (Wt.plain rfl) rfl rfl ?_
  refine T.q (q_move rfl rfl) (Wt.plain rfl) rfl rfl ?_
  refine T.q (q_fld fl40_0 rfl rfl) (Wt.yes rfl rfl rfl) rfl rfl ?_
  refine T.q (q_load1 ss3 0 rfl rfl rfl rfl) (Wt.yes rfl rfl rfl) rfl rfl ?_
  refine T.q (q_bool (b := false) (q_neq rfl rfl rfl) (decide_eq_false (by omega))) (Wt.yes rfl rfl rfl) rfl rfl ?_
  refine T.q (q_pickF rfl rfl rfl) (Wt.plain rfl) rfl rfl ?_
  refine T.q (q_move rfl rfl) (Wt.plain rfl) rfl rfl ?_
  refine T.q (q_fld fl40_0 rfl rfl) (Wt.yes rfl rfl rfl) rfl rfl ?_
  refine T.q (q_load1 ss3 1 rfl rfl rfl rfl) (Wt.yes rfl rfl rfl) rfl rfl ?_
  refine T.q (q_bool (b := true) (q_neq rfl rfl rfl) (decide_eq_true (by omega))) (Wt.yes rfl rfl rfl) rfl rfl ?_
  refine T.q (q_pickF rfl rfl rfl) (Wt.plain rfl) rfl rfl ?_
  refine T.nil ?_
  refine Ex.next ?_
  refine W.slots (L' := [(2, _), (3, _), (5, _), (25, _)]) ⟨rfl, rfl, rfl, rfl, trivial⟩ ?_
  refine W.condT rfl ?_
  refine W.seq ?_
  refine W.region ?_
  refine T.q (q_move rfl rfl) (Wt.plain rfl) rfl rfl ?_
  refine T.q (q_assign rfl rfl) (Wt.plain rfl) rfl rfl ?_
  refine T.nil ?_
  refine Ex.next ?_
  refine W.less (L' := [(4, _)]) [false, false] ⟨rfl, trivial⟩ ?_
  change (_ : List Blk → Prop) []
  refine W.ret ?_
  refine Ex.then_ret ?_
  refine Ex.out1 [] rfl rfl ?_
  exact ⟨rfl, rfl⟩
set_option maxRecDepth 100000 in
theorem heads_A (r p e c : Nat) (hr : r ≤ 1) (hp : p ≤ 255) (he : e ≤ 65535) (hc : c ≤ 281474976710655) (PA : Option Addr) (bd : List Int) (bc : Nat) (hbc : bd.length ≤ bc) (h16 : 16 ≤ bd.length) (h272 : bd.length ≤ 272) (w0 : World) (hP : Reads w0 PA (ints .u8 bd)) : Does Try.prog 13 #[.agg #[.int .i64 3, .int .i64 ((r : Nat) : Int), .int .i64 ((p : Nat) : Int), .int .i64 ((e : Nat) : Int), .int .i64 ((c : Nat) : Int), .slice PA bd.length bc]] w0 [] (fun v G => v = .bool true ∧ G = []) := by
  refine spec_of 70 Try.func13 rfl rfl rfl ?_
  refine W.seq ?_
  refine W.region ?_
  refine T.eff (e_box rfl rfl rfl rfl) (Wt.plain rfl) ?_
  rintro _ _ ⟨k1, rfl, rfl⟩
  change (_ : List Blk → Prop) [_]
  change (_ : List Blk → Prop) [⟨some k1, [.int .i64 3, .int .i64 ((r : Nat) : Int), .int .i64 ((p : Nat) : Int), .int .i64 ((e : Nat) : Int), .int .i64 ((c : Nat) : Int), .slice PA bd.length bc], 40, (0, 0)⟩]
  refine T.q (q_assign rfl rfl) (Wt.plain rfl) rfl rfl ?_
  refine T.nil ?_
  refine Ex.next ?_
  refine W.slots (L' := [(1, _)]) ⟨rfl, trivial⟩ ?_
  refine W.seq ?_
  refine W.region ?_
  refine T.eff (e_call enters32 rfl rfl (fun w hm => shown11_spec w) rfl rfl) (Wt.plain rfl) ?_
  rintro _ _ ⟨_, _, ⟨rfl, rfl⟩, rfl, rfl⟩
  change (_ : List Blk → Prop) [_]
  refine T.q (q_assign rfl rfl) (Wt.plain rfl) rfl rfl ?_
  refine T.nil ?_
  refine Ex.next ?_
  refine W.slots (L' := [(1, _), (3, _)]) ⟨rfl, rfl, trivial⟩ ?_
  refine W.seq ?_
  refine W.region ?_
  refine T.q (q_loadW wd40 (R_blk 0 rfl) rfl rfl) (Wt.plain rfl) rfl rfl ?_
  refine T.eff (e_call enters33 rfl rfl (fun w hm => print_ok bd (.inl (by unfold recP; omega)) (by first | omega | (simp; done) | (simp; omega) | (simp at *; omega)) w ((R_ext hP.ext) w hm) (by first | omega | (simp; done) | (simp [-List.getD_eq_getElem?_getD]; omega) | (simp at *; omega) | rfl)) rfl rfl) (Wt.plain rfl) ?_
  rintro _ _ ⟨_, _, ⟨k2, cap3, junk4, rfl, hc5, rfl⟩, rfl, rfl⟩
  change (_ : List Blk → Prop) [_, _]
  refine T.q (q_move rfl rfl) (Wt.plain rfl) rfl rfl ?_
  refine T.q (q_extract rfl rfl rfl) (Wt.plain rfl) rfl rfl ?_
  refine T.q (q_extract rfl rfl rfl) (Wt.plain rfl) rfl rfl ?_
  refine T.q (q_assign rfl rfl) (Wt.plain rfl) rfl rfl ?_
  refine T.q (q_assign rfl rfl) (Wt.plain rfl) rfl rfl ?_
  refine T.nil ?_
  refine Ex.next ?_
  refine W.slots (L' := [(1, _), (3, _), (4, _), (5, _)]) ⟨rfl, rfl, rfl, rfl, trivial⟩ ?_
  refine W.seq ?_
  refine W.region ?_
  refine T.q (q_loadW wd40 (R_blk 0 rfl) rfl rfl) (Wt.plain rfl) rfl rfl ?_
  refine T.eff (e_call enters35 rfl rfl (fun w hm => head_yes r p e c (by first | omega | (simp; done) | (simp; omega) | (simp at *; omega)) (by first | omega | (simp; done) | (simp; omega) | (simp at *; omega)) (by first | omega | (simp; done) | (simp; omega) | (simp at *; omega)) (by first | omega | (simp; done) | (simp; omega) | (simp at *; omega)) _ _ _ (by first | omega | (simp; done) | (simp; omega) | (simp at *; omega)) (by first | omega | (simp; done) | (simp; omega) | (simp at *; omega)) w) rfl rfl) (Wt.plain rfl) ?_
  rintro _ _ ⟨_, _, ⟨k6, cap7, junk8, rfl, hc9, rfl⟩, rfl, rfl⟩
  change (_ : List Blk → Prop) [_, _, _]
  refine T.q (q_assign rfl rfl) (Wt.plain rfl) rfl rfl ?_
  refine T.nil ?_
  refine Ex.next ?_
  refine W.slots (L' := [(1, _), (3, _), (4, _), (5, _), (6, _)]) ⟨rfl, rfl, rfl, rfl, rfl, trivial⟩ ?_
  refine W.seq ?_
  refine W.seq ?_
  refine W.region ?_
  refine T.q (q_move rfl rfl) (Wt.plain rfl) rfl rfl ?_
  refine T.q (q_bool (b := false) (q_neq rfl rfl rfl) ?hE) (Wt.plain rfl) rfl rfl ?_
  case hE => simp
  refine T.q (q_move rfl rfl) (Wt.plain rfl) rfl rfl ?_
  refine T.q (q_fld fl40_0 rfl rfl) (Wt.yes rfl rfl rfl) rfl rfl ?_
  refine T.q (q_load1 ss3 0 rfl rfl rfl rfl) (Wt.yes rfl rfl rfl) rfl rfl ?_
  refine T.q (q_bool (b := false) (q_neq rfl rfl rfl) (decide_eq_false (by omega))) (Wt.yes rfl rfl rfl) rfl rfl ?_
  refine T.q (q_pickF rfl rfl rfl) (Wt.plain rfl) rfl rfl ?_
  refine T.nil ?_
  refine Ex.next ?_
  refine W.slots (L' := [(1, _), (3, _), (4, _), (6, _), (22, _)]) ⟨rfl, rfl, rfl, rfl, rfl, trivial⟩ ?_
  refine W.condF rfl ?_
  refine W.skip ?_
  refine Ex.next ?_
  refine W.slots (L' := [(1, _), (3, _), (4, _), (6, _)]) ⟨rfl, rfl, rfl, rfl, trivial⟩ ?_
  refine W.seq ?_
  refine W.region ?_
  refine T.q (q_loadW wd40 (R_blk 0 rfl) rfl rfl) (Wt.plain rfl) rfl rfl ?_
  refine T.eff (e_alloc ze40 rfl rfl rfl) (Wt.plain rfl) ?_
  rintro _ _ ⟨k10, rfl, rfl⟩
  change (_ : List Blk → Prop) [_, _, _, _]
  refine T.eff (e_storeA wd40 3 rfl rfl rfl rfl (by first | omega | (simp; done) | (simp [-List.getD_eq_getElem?_getD]; omega) | (simp at *; omega) | rfl) (by simp [Value.oneCell']) rfl) (Wt.plain rfl) ?_
  rintro _ _ ⟨rfl, rfl⟩
  change (_ : List Blk → Prop) [_, _, _, _]
  refine T.nil ?_
  refine Ex.next ?_
  refine W.slots (L' := [(1, _), (3, _), (4, _), (6, _), (7, _)]) ⟨rfl, rfl, rfl, rfl, rfl, trivial⟩ ?_
  refine W.seq ?_
  refine W.region ?_
  refine T.eff (e_makeI sc22 ze5 16 16 rfl rfl rfl rfl rfl (by omega) (by omega) (by omega) rfl rfl) (Wt.plain rfl) ?_
  rintro _ _ ⟨k11, rfl, rfl⟩
  change (_ : List Blk → Prop) [_, _, _, _, _]
  refine T.q (q_fld fl40_5 rfl rfl) (Wt.plain rfl) rfl rfl ?_
  refine T.eff (e_store1 ss22 3 rfl rfl rfl rfl (by simp) rfl rfl) (Wt.plain rfl) ?_
  rintro _ _ ⟨rfl, rfl⟩
  change (_ : List Blk → Prop) [_, _, _, _, _]
  refine T.nil ?_
  refine Ex.next ?_
  refine W.slots (L' := [(1, _), (3, _), (4, _), (6, _), (7, _)]) ⟨rfl, rfl, rfl, rfl, rfl, trivial⟩ ?_
  refine W.seq ?_
  refine W.draw 32 (by kernel_rfl) ?_
  refine D.take 0 rfl (by kernel_rfl) (fun _ h => h) (q_move rfl rfl) (Wt.plain rfl) rfl rfl ?_
  refine D.take 1 rfl (by kernel_rfl) (fun _ h => h) (q_move rfl rfl) (Wt.plain rfl) rfl rfl ?_
  refine D.take 2 rfl (by kernel_rfl) (fun _ h => h) (q_move rfl rfl) (Wt.yes rfl rfl rfl) rfl rfl ?_
  refine D.take 3 rfl (by kernel_rfl) (fun _ h => h) (q_len sc22 rfl rfl) (Wt.yes rfl rfl rfl) rfl rfl ?_
  refine D.take 4 rfl (by kernel_rfl) (fun _ h => h) (q_bool (b := true) (q_eql rfl rfl rfl) (decide_eq_true (by omega))) (Wt.yes rfl rfl rfl) rfl rfl ?_
  refine D.take 5 rfl (by kernel_rfl) (fun _ h => h) (q_pickT rfl rfl rfl) (Wt.plain rfl) rfl rfl ?_
  refine D.take 6 rfl (by kernel_rfl) (fun _ h => h) (q_move rfl rfl) (Wt.plain rfl) rfl rfl ?_
  refine D.take 7 rfl (by kernel_rfl) (fun _ h => h) (q_move rfl rfl) (Wt.yes rfl rfl rfl) rfl rfl ?_
  refine D.take 8 rfl (by kernel_rfl) (fun _ h => h) (q_bstr sc22 un5 un9 (R_pre 1 rfl) (by first | omega | (simp; done) | (simp [-List.getD_eq_getElem?_getD]; omega) | (simp at *; omega) | rfl) rfl rfl) (Wt.yes rfl rfl rfl) rfl rfl ?_
  refine D.take 9 rfl (by kernel_rfl) (fun _ h => h) (q_move rfl rfl) (Wt.yes rfl rfl rfl) rfl rfl ?_
  refine D.take 10 rfl (by kernel_rfl) (fun _ h => h) (q_bstr sc22 un5 un9 (R_pre 2 rfl) (by first | omega | (simp; done) | (simp [-List.getD_eq_getElem?_getD]; omega) | (simp at *; omega) | rfl) rfl rfl) (Wt.yes rfl rfl rfl) rfl rfl ?_
  refine D.take 11 rfl (by kernel_rfl) (fun _ h => h) (q_fld fl40_5 rfl rfl) (Wt.yes rfl rfl rfl) rfl rfl ?_
  refine D.take 12 rfl (by kernel_rfl) (fun _ h => h) (q_load1 ss22 0 rfl rfl rfl rfl) (Wt.yes rfl rfl rfl) rfl rfl ?_
  refine D.take 13 rfl (by kernel_rfl) (fun _ h => h) (q_bstr sc22 un5 un9 (R_ext hP.ext) (by first | omega | (simp; done) | (simp [-List.getD_eq_getElem?_getD]; omega) | (simp at *; omega) | rfl) rfl rfl) (Wt.yes rfl rfl rfl) rfl rfl ?_
  refine D.take 14 rfl (by kernel_rfl) (fun _ h => h) (q_catS rfl rfl rfl (cat_hd _ _ _ _ (by omega))) (Wt.yes rfl rfl rfl) rfl rfl ?_
  refine D.take 15 rfl (by kernel_rfl) (fun _ h => h) (q_bool (b := true) (q_eqlS rfl rfl rfl) ?hE) (Wt.yes rfl rfl rfl) rfl rfl ?_
  case hE => rw [← bstr_app, prB_A]; exact beq_self_eq_true _
  refine D.take 16 rfl (by kernel_rfl) (fun _ h => h) (q_pickT rfl rfl rfl) (Wt.plain rfl) rfl rfl ?_
  refine D.take 17 rfl (by kernel_rfl) (fun _ h => h) (q_move rfl rfl) (Wt.plain rfl) rfl rfl ?_
  refine D.take 18 rfl (by kernel_rfl) (fun _ h => h) (q_loadW wd40 (R_blk 3 rfl) rfl rfl) (Wt.yes rfl rfl rfl) rfl rfl ?_
  refine D.take 21 rfl (by kernel_rfl) (fun _ h => h) (q_move rfl rfl) (Wt.yes rfl rfl rfl) rfl rfl ?_
  refine D.take 22 rfl (by kernel_rfl) (fun _ h => h) (q_bstr sc22 un5 un9 (R_pre 2 rfl) (by first | omega | (simp; done) | (simp [-List.getD_eq_getElem?_getD]; omega) | (simp at *; omega) | rfl) rfl rfl) (Wt.yes rfl rfl rfl) rfl rfl ?_
  refine D.one 19 (by kernel_rfl) ?_
  refine Up.eff rfl (e_call enters35 rfl rfl (fun w hm => head_yes r p e c (by first | omega | (simp; done) | (simp; omega) | (simp at *; omega)) (by first | omega | (simp; done) | (simp; omega) | (simp at *; omega)) (by first | omega | (simp; done) | (simp; omega) | (simp at *; omega)) (by first | omega | (simp; done) | (simp; omega) | (simp at *; omega)) _ _ _ (by first | omega | (simp; done) | (simp; omega) | (simp at *; omega)) (by first | omega | (simp; done) | (simp; omega) | (simp at *; omega)) w) rfl rfl) (Wt.yes rfl rfl rfl) ?_
  rintro _ _ ⟨_, _, ⟨k12, cap13, junk14, rfl, hc15, rfl⟩, rfl, rfl⟩
  refine ⟨fun _ => (S_sub (((((((List.Sublist.slnil).cons _).cons_cons _).cons_cons _).cons_cons _).cons_cons _).cons_cons _)), ?_⟩
  change (_ : List Blk → Prop) [_, _, _, _, _, _]
  refine D.one 20 (by kernel_rfl) ?_
  refine Up.q rfl (q_bstr sc22 un5 un9 (R_pre 5 rfl) (by first | omega | (simp; done) | (simp [-List.getD_eq_getElem?_getD]; omega) | (simp at *; omega) | rfl) rfl rfl) (Wt.yes rfl rfl rfl) rfl rfl (fun _ => (S_sub (((((((List.Sublist.slnil).cons _).cons_cons _).cons_cons _).cons_cons _).cons_cons _).cons_cons _))) ?_
  refine D.take 23 rfl (by kernel_rfl) (S_sub (((((((List.Sublist.slnil).cons _).cons_cons _).cons_cons _).cons_cons _).cons_cons _).cons_cons _)) (q_bool (b := true) (q_eqlS rfl rfl rfl) (beq_self_eq_true _)) (Wt.yes rfl rfl rfl) rfl rfl ?_
  refine D.take 24 rfl (by kernel_rfl) (S_sub (((((((List.Sublist.slnil).cons _).cons_cons _).cons_cons _).cons_cons _).cons_cons _).cons_cons _)) (q_pickT rfl rfl rfl) (Wt.plain rfl) rfl rfl ?_
  refine D.take 25 rfl (by kernel_rfl) (S_sub (((((((List.Sublist.slnil).cons _).cons_cons _).cons_cons _).cons_cons _).cons_cons _).cons_cons _)) (q_move rfl rfl) (Wt.plain rfl) rfl rfl ?_
  refine D.take 26 rfl (by kernel_rfl) (S_sub (((((((List.Sublist.slnil).cons _).cons_cons _).cons_cons _).cons_cons _).cons_cons _).cons_cons _)) (q_loadW wd40 (R_blk 3 rfl) rfl rfl) (Wt.yes rfl rfl rfl) rfl rfl ?_
  refine D.take 28 rfl (by kernel_rfl) (S_sub (((((((List.Sublist.slnil).cons _).cons_cons _).cons_cons _).cons_cons _).cons_cons _).cons_cons _)) (q_loadW wd40 (R_blk 0 rfl) rfl rfl) (Wt.yes rfl rfl rfl) rfl rfl ?_
  refine D.one 27 (by kernel_rfl) ?_
  refine Up.eff rfl (e_call enters37 rfl rfl (fun w hm => nonce_yes r p e c (by first | omega | (simp; done) | (simp; omega) | (simp at *; omega)) (by first | omega | (simp; done) | (simp; omega) | (simp at *; omega)) (by first | omega | (simp; done) | (simp; omega) | (simp at *; omega)) (by first | omega | (simp; done) | (simp; omega) | (simp at *; omega)) _ _ _ (by first | omega | (simp; done) | (simp; omega) | (simp at *; omega)) (by first | omega | (simp; done) | (simp; omega) | (simp at *; omega)) w) rfl rfl) (Wt.yes rfl rfl rfl) ?_
  rintro _ _ ⟨_, _, ⟨rfl, rfl⟩, rfl, rfl⟩
  refine ⟨fun _ => (S_sub (((((((List.Sublist.slnil).cons _).cons_cons _).cons_cons _).cons_cons _).cons_cons _).cons_cons _)), ?_⟩
  change (_ : List Blk → Prop) [_, _, _, _, _, _]
  refine D.one 29 (by kernel_rfl) ?_
  refine Up.eff rfl (e_call enters37 rfl rfl (fun w hm => nonce_yes r p e c (by first | omega | (simp; done) | (simp; omega) | (simp at *; omega)) (by first | omega | (simp; done) | (simp; omega) | (simp at *; omega)) (by first | omega | (simp; done) | (simp; omega) | (simp at *; omega)) (by first | omega | (simp; done) | (simp; omega) | (simp at *; omega)) _ _ _ (by first | omega | (simp; done) | (simp; omega) | (simp at *; omega)) (by first | omega | (simp; done) | (simp; omega) | (simp at *; omega)) w) rfl rfl) (Wt.yes rfl rfl rfl) ?_
  rintro _ _ ⟨_, _, ⟨rfl, rfl⟩, rfl, rfl⟩
  refine ⟨fun _ => (S_sub (((((((List.Sublist.slnil).cons _).cons_cons _).cons_cons _).cons_cons _).cons_cons _).cons_cons _)), ?_⟩
  change (_ : List Blk → Prop) [_, _, _, _, _, _]
  refine D.take 30 rfl (by kernel_rfl) (S_sub (((((((List.Sublist.slnil).cons _).cons_cons _).cons_cons _).cons_cons _).cons_cons _).cons_cons _)) (q_bool (b := true) (q_eqlA ar44 ss5 un5 eg44 rfl rfl rfl (by first | omega | (simp; done) | (simp [-List.getD_eq_getElem?_getD]; omega) | (simp at *; omega) | rfl) (by first | omega | (simp; done) | (simp [-List.getD_eq_getElem?_getD]; omega) | (simp at *; omega) | rfl)) (decide_eq_true rfl)) (Wt.yes rfl rfl rfl) rfl rfl ?_
  refine D.take 31 rfl (by kernel_rfl) (S_sub (((((((List.Sublist.slnil).cons _).cons_cons _).cons_cons _).cons_cons _).cons_cons _).cons_cons _)) (q_pickT rfl rfl rfl) (Wt.plain rfl) rfl rfl ?_
  refine D.one 32 (by kernel_rfl) ?_
  refine Up.q rfl (q_assign rfl rfl) (Wt.plain rfl) rfl rfl (fun h => absurd h (by decide)) ?_
  refine D.done (by kernel_rfl) ?_
  refine Ex.next ?_
  refine W.less (L' := [(2, _)]) [false, false, false, false, false, false] ⟨rfl, trivial⟩ ?_
  change (_ : List Blk → Prop) []
  refine W.ret ?_
  refine Ex.out1 [] rfl rfl ?_
  exact ⟨rfl, rfl⟩
set_option maxRecDepth 100000 in
theorem heads_B (pk : Int) (hk : pk = 1 ∨ pk = 2) (PA : Option Addr) (bd : List Int) (bc : Nat) (hbc : bd.length ≤ bc) (h1 : 1 ≤ bd.length) (h300 : bd.length ≤ 300) (w0 : World) (hP : Reads w0 PA (ints .u8 bd)) : Does Try.prog 13 #[.agg #[.int .i64 pk, .int .i64 0, .int .i64 0, .int .i64 0, .int .i64 0, .slice PA bd.length bc]] w0 [] (fun v G => v = .bool true ∧ G = []) := by
  refine spec_of 70 Try.func13 rfl rfl rfl ?_
  refine W.seq ?_
  refine W.region ?_
  refine T.eff (e_box rfl rfl rfl rfl) (Wt.plain rfl) ?_
  rintro _ _ ⟨k1, rfl, rfl⟩
  change (_ : List Blk → Prop) [_]
  change (_ : List Blk → Prop) [⟨some k1, [.int .i64 pk, .int .i64 0, .int .i64 0, .int .i64 0, .int .i64 0, .slice PA bd.length bc], 40, (0, 0)⟩]
  refine T.q (q_assign rfl rfl) (Wt.plain rfl) rfl rfl ?_
  refine T.nil ?_
  refine Ex.next ?_
  refine W.slots (L' := [(1, _)]) ⟨rfl, trivial⟩ ?_
  refine W.seq ?_
  refine W.region ?_
  refine T.eff (e_call enters32 rfl rfl (fun w hm => shown11_spec w) rfl rfl) (Wt.plain rfl) ?_
  rintro _ _ ⟨_, _, ⟨rfl, rfl⟩, rfl, rfl⟩
  change (_ : List Blk → Prop) [_]
  refine T.q (q_assign rfl rfl) (Wt.plain rfl) rfl rfl ?_
  refine T.nil ?_
  refine Ex.next ?_
  refine W.slots (L' := [(1, _), (3, _)]) ⟨rfl, rfl, trivial⟩ ?_
  refine W.seq ?_
  refine W.region ?_
  refine T.q (q_loadW wd40 (R_blk 0 rfl) rfl rfl) (Wt.plain rfl) rfl rfl ?_
  refine T.eff (e_call enters33 rfl rfl (fun w hm => print_ok bd (.inr (by unfold othP; omega)) (by first | omega | (simp; done) | (simp; omega) | (simp at *; omega)) w ((R_ext hP.ext) w hm) (by first | omega | (simp; done) | (simp [-List.getD_eq_getElem?_getD]; omega) | (simp at *; omega) | rfl)) rfl rfl) (Wt.plain rfl) ?_
  rintro _ _ ⟨_, _, ⟨k2, cap3, junk4, rfl, hc5, rfl⟩, rfl, rfl⟩
  change (_ : List Blk → Prop) [_, _]
  refine T.q (q_move rfl rfl) (Wt.plain rfl) rfl rfl ?_
  refine T.q (q_extract rfl rfl rfl) (Wt.plain rfl) rfl rfl ?_
  refine T.q (q_extract rfl rfl rfl) (Wt.plain rfl) rfl rfl ?_
  refine T.q (q_assign rfl rfl) (Wt.plain rfl) rfl rfl ?_
  refine T.q (q_assign rfl rfl) (Wt.plain rfl) rfl rfl ?_
  refine T.nil ?_
  refine Ex.next ?_
  refine W.slots (L' := [(1, _), (3, _), (4, _), (5, _)]) ⟨rfl, rfl, rfl, rfl, trivial⟩ ?_
  refine W.seq ?_
  refine W.region ?_
  refine T.q (q_loadW wd40 (R_blk 0 rfl) rfl rfl) (Wt.plain rfl) rfl rfl ?_
  refine T.eff (e_call enters35 rfl rfl (fun w hm => head_no _ _ _ _ _ _ _ _ (by first | assumption | (unfold recP; omega) | (unfold othP; omega) | (unfold mayP recP othP at *; omega) | (unfold recP at *; omega)) w) rfl rfl) (Wt.plain rfl) ?_
  rintro _ _ ⟨_, _, ⟨rfl, rfl⟩, rfl, rfl⟩
  change (_ : List Blk → Prop) [_, _]
  refine T.q (q_assign rfl rfl) (Wt.plain rfl) rfl rfl ?_
  refine T.nil ?_
  refine Ex.next ?_
  refine W.slots (L' := [(1, _), (3, _), (4, _), (5, _), (6, _)]) ⟨rfl, rfl, rfl, rfl, rfl, trivial⟩ ?_
  refine W.seq ?_
  refine W.seq ?_
  refine W.region ?_
  refine T.q (q_move rfl rfl) (Wt.plain rfl) rfl rfl ?_
  refine T.q (q_bool (b := false) (q_neq rfl rfl rfl) ?hE) (Wt.plain rfl) rfl rfl ?_
  case hE => simp
  refine T.q (q_move rfl rfl) (Wt.plain rfl) rfl rfl ?_
  refine T.q (q_fld fl40_0 rfl rfl) (Wt.yes rfl rfl rfl) rfl rfl ?_
  refine T.q (q_load1 ss3 0 rfl rfl rfl rfl) (Wt.yes rfl rfl rfl) rfl rfl ?_
  refine T.q (q_bool (b := true) (q_neq rfl rfl rfl) (decide_eq_true (by omega))) (Wt.yes rfl rfl rfl) rfl rfl ?_
  refine T.q (q_pickF rfl rfl rfl) (Wt.plain rfl) rfl rfl ?_
  refine T.nil ?_
  refine Ex.next ?_
  refine W.slots (L' := [(1, _), (3, _), (4, _), (6, _), (22, _)]) ⟨rfl, rfl, rfl, rfl, rfl, trivial⟩ ?_
  refine W.condT rfl ?_
  refine W.seq ?_
  refine W.region ?_
  refine T.q (q_move rfl rfl) (Wt.plain rfl) rfl rfl ?_
  refine T.q (q_move rfl rfl) (Wt.plain rfl) rfl rfl ?_
  refine T.q (q_move rfl rfl) (Wt.yes rfl rfl rfl) rfl rfl ?_
  refine T.q (q_len sc22 rfl rfl) (Wt.yes rfl rfl rfl) rfl rfl ?_
  refine T.q (q_bool (b := true) (q_eql rfl rfl rfl) (decide_eq_true rfl)) (Wt.yes rfl rfl rfl) rfl rfl ?_
  refine T.q (q_pickT rfl rfl rfl) (Wt.plain rfl) rfl rfl ?_
  refine T.q (q_move rfl rfl) (Wt.plain rfl) rfl rfl ?_
  refine T.q (q_loadW wd40 (R_blk 0 rfl) rfl rfl) (Wt.yes rfl rfl rfl) rfl rfl ?_
  refine T.eff (e_call enters37 rfl rfl (fun w hm => nonce_no _ _ _ _ _ _ _ _ (by first | assumption | (unfold recP; omega) | (unfold othP; omega) | (unfold mayP recP othP at *; omega) | (unfold recP at *; omega)) w) rfl rfl) (Wt.yes rfl rfl rfl) ?_
  rintro _ _ ⟨_, _, ⟨rfl, rfl⟩, rfl, rfl⟩
  change (_ : List Blk → Prop) [_, _]
  refine T.q (q_build (v := .agg (ints .u8 (List.replicate 12 0)).toArray) rfl rfl (fun _ => by kernel_rfl)) (Wt.yes rfl rfl rfl) rfl rfl ?_
  refine T.q (q_bool (b := true) (q_eqlA ar44 ss5 un5 eg44 rfl rfl rfl (by first | omega | (simp; done) | (simp [-List.getD_eq_getElem?_getD]; omega) | (simp at *; omega) | rfl) (by first | omega | (simp; done) | (simp [-List.getD_eq_getElem?_getD]; omega) | (simp at *; omega) | rfl)) (decide_eq_true rfl)) (Wt.yes rfl rfl rfl) rfl rfl ?_
  refine T.q (q_pickT rfl rfl rfl) (Wt.plain rfl) rfl rfl ?_
  refine T.q (q_assign rfl rfl) (Wt.plain rfl) rfl rfl ?_
  refine T.nil ?_
  refine Ex.next ?_
  refine W.less (L' := [(2, _)]) [false, false] ⟨rfl, trivial⟩ ?_
  change (_ : List Blk → Prop) []
  refine W.ret ?_
  refine Ex.then_ret ?_
  refine Ex.out1 [] rfl rfl ?_
  exact ⟨rfl, rfl⟩
set_option maxRecDepth 100000 in
theorem heads_C (pk pr pp pe pc : Int) (PA : Option Addr) (n bc : Nat) (hno : ¬ recP pk pr pp pe pc n) (hnt : ¬ othP pk pr pp pe pc n) (w0 : World) : Does Try.prog 13 #[.agg #[.int .i64 pk, .int .i64 pr, .int .i64 pp, .int .i64 pe, .int .i64 pc, .slice PA n bc]] w0 [] (fun v G => v = .bool true ∧ G = []) := by
  refine spec_of 70 Try.func13 rfl rfl rfl ?_
  refine W.seq ?_
  refine W.region ?_
  refine T.eff (e_box rfl rfl rfl rfl) (Wt.plain rfl) ?_
  rintro _ _ ⟨k1, rfl, rfl⟩
  change (_ : List Blk → Prop) [_]
  change (_ : List Blk → Prop) [⟨some k1, [.int .i64 pk, .int .i64 pr, .int .i64 pp, .int .i64 pe, .int .i64 pc, .slice PA n bc], 40, (0, 0)⟩]
  refine T.q (q_assign rfl rfl) (Wt.plain rfl) rfl rfl ?_
  refine T.nil ?_
  refine Ex.next ?_
  refine W.slots (L' := [(1, _)]) ⟨rfl, trivial⟩ ?_
  refine W.seq ?_
  refine W.region ?_
  refine T.eff (e_call enters32 rfl rfl (fun w hm => shown11_spec w) rfl rfl) (Wt.plain rfl) ?_
  rintro _ _ ⟨_, _, ⟨rfl, rfl⟩, rfl, rfl⟩
  change (_ : List Blk → Prop) [_]
  refine T.q (q_assign rfl rfl) (Wt.plain rfl) rfl rfl ?_
  refine T.nil ?_
  refine Ex.next ?_
  refine W.slots (L' := [(1, _), (3, _)]) ⟨rfl, rfl, trivial⟩ ?_
  refine W.seq ?_
  refine W.region ?_
  refine T.q (q_loadW wd40 (R_blk 0 rfl) rfl rfl) (Wt.plain rfl) rfl rfl ?_
  refine T.eff (e_call enters33 rfl rfl (fun w hm => print_C _ _ _ _ _ _ _ _ (by first | assumption | (unfold recP; omega) | (unfold othP; omega) | (unfold mayP recP othP at *; omega) | (unfold recP at *; omega)) (by first | assumption | (unfold recP; omega) | (unfold othP; omega) | (unfold mayP recP othP at *; omega) | (unfold recP at *; omega)) w) rfl rfl) (Wt.plain rfl) ?_
  rintro _ _ ⟨_, _, ⟨rfl, rfl⟩, rfl, rfl⟩
  change (_ : List Blk → Prop) [_]
  refine T.q (q_move rfl rfl) (Wt.plain rfl) rfl rfl ?_
  refine T.q (q_extract rfl rfl rfl) (Wt.plain rfl) rfl rfl ?_
  refine T.q (q_extract rfl rfl rfl) (Wt.plain rfl) rfl rfl ?_
  refine T.q (q_assign rfl rfl) (Wt.plain rfl) rfl rfl ?_
  refine T.q (q_assign rfl rfl) (Wt.plain rfl) rfl rfl ?_
  refine T.nil ?_
  refine Ex.next ?_
  refine W.slots (L' := [(1, _), (3, _), (4, _), (5, _)]) ⟨rfl, rfl, rfl, rfl, trivial⟩ ?_
  refine W.seq ?_
  refine W.region ?_
  refine T.q (q_loadW wd40 (R_blk 0 rfl) rfl rfl) (Wt.plain rfl) rfl rfl ?_
  refine T.eff (e_call enters35 rfl rfl (fun w hm => head_no _ _ _ _ _ _ _ _ (by first | assumption | (unfold recP; omega) | (unfold othP; omega) | (unfold mayP recP othP at *; omega) | (unfold recP at *; omega)) w) rfl rfl) (Wt.plain rfl) ?_
  rintro _ _ ⟨_, _, ⟨rfl, rfl⟩, rfl, rfl⟩
  change (_ : List Blk → Prop) [_]
  refine T.q (q_assign rfl rfl) (Wt.plain rfl) rfl rfl ?_
  refine T.nil ?_
  refine Ex.next ?_
  refine W.slots (L' := [(1, _), (3, _), (4, _), (5, _), (6, _)]) ⟨rfl, rfl, rfl, rfl, rfl, trivial⟩ ?_
  refine W.seq ?_
  refine W.seq ?_
  refine W.region ?_
  refine T.q (q_move rfl rfl) (Wt.plain rfl) rfl rfl ?_
  refine T.q (q_bool (b := true) (q_neq rfl rfl rfl) ?hE) (Wt.plain rfl) rfl rfl ?_
  case hE => decide
  refine T.q (q_move rfl rfl) (Wt.plain rfl) rfl rfl ?_
  refine T.no (Wn.no rfl rfl rfl rfl) rfl rfl ?_
  refine T.no (Wn.no rfl rfl rfl rfl) rfl rfl ?_
  refine T.no (Wn.no rfl rfl rfl rfl) rfl rfl ?_
  refine T.q (q_pickT rfl rfl rfl) (Wt.plain rfl) rfl rfl ?_
  refine T.nil ?_
  refine Ex.next ?_
  refine W.slots (L' := [(1, _), (3, _), (4, _), (6, _), (22, _)]) ⟨rfl, rfl, rfl, rfl, rfl, trivial⟩ ?_
  refine W.condT rfl ?_
  refine W.seq ?_
  refine W.region ?_
  refine T.q (q_move rfl rfl) (Wt.plain rfl) rfl rfl ?_
  refine T.q (q_move rfl rfl) (Wt.plain rfl) rfl rfl ?_
  refine T.q (q_move rfl rfl) (Wt.yes rfl rfl rfl) rfl rfl ?_
  refine T.q (q_len sc22 rfl rfl) (Wt.yes rfl rfl rfl) rfl rfl ?_
  refine T.q (q_bool (b := true) (q_eql rfl rfl rfl) (decide_eq_true rfl)) (Wt.yes rfl rfl rfl) rfl rfl ?_
  refine T.q (q_pickT rfl rfl rfl) (Wt.plain rfl) rfl rfl ?_
  refine T.q (q_move rfl rfl) (Wt.plain rfl) rfl rfl ?_
  refine T.q (q_loadW wd40 (R_blk 0 rfl) rfl rfl) (Wt.yes rfl rfl rfl) rfl rfl ?_
  refine T.eff (e_call enters37 rfl rfl (fun w hm => nonce_no _ _ _ _ _ _ _ _ (by first | assumption | (unfold recP; omega) | (unfold othP; omega) | (unfold mayP recP othP at *; omega) | (unfold recP at *; omega)) w) rfl rfl) (Wt.yes rfl rfl rfl) ?_
  rintro _ _ ⟨_, _, ⟨rfl, rfl⟩, rfl, rfl⟩
  change (_ : List Blk → Prop) [_]
  refine T.q (q_build (v := .agg (ints .u8 (List.replicate 12 0)).toArray) rfl rfl (fun _ => by kernel_rfl)) (Wt.yes rfl rfl rfl) rfl rfl ?_
  refine T.q (q_bool (b := true) (q_eqlA ar44 ss5 un5 eg44 rfl rfl rfl (by first | omega | (simp; done) | (simp [-List.getD_eq_getElem?_getD]; omega) | (simp at *; omega) | rfl) (by first | omega | (simp; done) | (simp [-List.getD_eq_getElem?_getD]; omega) | (simp at *; omega) | rfl)) (decide_eq_true rfl)) (Wt.yes rfl rfl rfl) rfl rfl ?_
  refine T.q (q_pickT rfl rfl rfl) (Wt.plain rfl) rfl rfl ?_
  refine T.q (q_assign rfl rfl) (Wt.plain rfl) rfl rfl ?_
  refine T.nil ?_
  refine Ex.next ?_
  refine W.less (L' := [(2, _)]) [false] ⟨rfl, trivial⟩ ?_
  change (_ : List Blk → Prop) []
  refine W.ret ?_
  refine Ex.then_ret ?_
  refine Ex.out1 [] rfl rfl ?_
  exact ⟨rfl, rfl⟩
theorem heads_law (w0 : World) (pk pr pp pe pc : Int) (PA : Option Addr) (bd : List Int) (bc : Nat) (hbc : bd.length ≤ bc) (hP : Reads w0 PA (ints .u8 bd)) : Does Try.prog 13 #[.agg #[.int .i64 pk, .int .i64 pr, .int .i64 pp, .int .i64 pe, .int .i64 pc, .slice PA bd.length bc]] w0 [] (fun v G => v = .bool true ∧ G = []) := by
  by_cases h : recP pk pr pp pe pc bd.length
  · obtain ⟨r, p, e, c, rfl, rfl, rfl, rfl, rfl, h1, h2, h3, h4, h5, h6⟩ := nat_recP h
    exact heads_A r p e c h1 h2 h3 h4 PA bd bc hbc h5 h6 w0 hP
  · by_cases g : othP pk pr pp pe pc bd.length
    · obtain ⟨hk, rfl, rfl, rfl, rfl, h1, h2⟩ := g
      exact heads_B pk hk PA bd bc hbc h1 h2 w0 hP
    · exact heads_C pk pr pp pe pc PA bd.length bc h g w0
theorem pback_law (pk pr pp pe pc : Int) (PA : Option Addr) (bd : List Int) (bc : Nat) (hbc : bd.length ≤ bc) (b : List Int) (BA : Option Addr) (bb : Nat) (hbb2 : b.length ≤ bb) (hbl : b.length ≤ 140737488351232) (hbb : Bytes b) (hpb : Bytes bd) (w0 : World) (hP : Reads w0 PA (ints .u8 bd)) (hB : Reads w0 BA (ints .u8 b)) : Does Try.prog 11 #[.agg #[.int .i64 pk, .int .i64 pr, .int .i64 pp, .int .i64 pe, .int .i64 pc, .slice PA bd.length bc], .slice BA b.length bb] w0 [] (fun v G => v = .bool true ∧ G = []) := by
  by_cases h : mayP pk pr pp pe pc bd.length
  · by_cases g : paOK b
    · exact pback_pt pk pr pp pe pc PA bd bc hbc b BA bb hbb2 hbl hbb h hpb g w0 hP hB
    · exact pback_pf pk pr pp pe pc PA bd bc hbc b BA bb hbb2 hbl hbb h hpb g w0 hP hB
  · have hn : ¬ recP pk pr pp pe pc bd.length := fun x => h (.inl x)
    have ho : ¬ othP pk pr pp pe pc bd.length := fun x => h (.inr x)
    by_cases g : paOK b
    · exact pback_nt pk pr pp pe pc PA bd bc hbc b BA bb hbb2 hbl hbb hn ho g w0 hP hB
    · exact pback_nf pk pr pp pe pc PA bd bc hbc b BA bb hbb2 hbl hbb hn ho g w0 hP hB
theorem nonces_law (pk pr pp pe pc qk qr qp qe qc : Int) (PA QA : Option Addr) (n bc n2 bc2 : Nat) (w0 : World) : Does Try.prog 12 #[.agg #[.int .i64 pk, .int .i64 pr, .int .i64 pp, .int .i64 pe, .int .i64 pc, .slice PA n bc], .agg #[.int .i64 qk, .int .i64 qr, .int .i64 qp, .int .i64 qe, .int .i64 qc, .slice QA n2 bc2]] w0 [] (fun v G => v = .bool true ∧ G = []) := by
  by_cases hm : mayP pk pr pp pe pc n
  · by_cases hm2 : mayP qk qr qp qe qc n2
    · by_cases hk : pk = 3
      · by_cases hk2 : qk = 3
        · have h : recP pk pr pp pe pc n := hm.resolve_right fun o => by unfold othP at o; omega
          have g : recP qk qr qp qe qc n2 := hm2.resolve_right fun o => by unfold othP at o; omega
          obtain ⟨r, p, e, c, rfl, rfl, rfl, rfl, rfl, h1, h2, h3, h4, h5, h6⟩ := nat_recP h
          obtain ⟨r2, p2, e2, c2, rfl, rfl, rfl, rfl, rfl, g1, g2, g3, g4, g5, g6⟩ := nat_recP g
          exact nonces_yes r p e c h1 h2 h3 h4 r2 p2 e2 c2 g1 g2 g3 g4 PA QA n bc n2 bc2 h5 h6 g5 g6 w0
        · exact nonces_no4 pk pr pp pe pc qk qr qp qe qc PA QA n bc n2 bc2 hm hm2 hk hk2 w0
      · exact nonces_no3 pk pr pp pe pc qk qr qp qe qc PA QA n bc n2 bc2 hm hm2 hk w0
    · exact nonces_no2 pk pr pp pe pc qk qr qp qe qc PA QA n bc n2 bc2 hm hm2 w0
  · exact nonces_no1 pk pr pp pe pc qk qr qp qe qc PA QA n bc n2 bc2 hm w0

end Go.Proofs.Ytmkjnefongjniaa
