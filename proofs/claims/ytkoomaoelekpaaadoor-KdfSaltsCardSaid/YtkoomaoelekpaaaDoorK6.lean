/-
  The statements of layer 8.
-/
import Derived.Test.YtkoomaoelekpaaaDoorK5
import Derived.Test.YtkoomaoelekpaaaDoorPureG
namespace Go.Proofs.YtkoomaoelekpaaaDoor
open Go Go.X
theorem extract_at (key b : List Int) (KA BA : Option Addr) (kc bc : Nat) {n m : Nat} (hkc : n ≤ kc) (hbc : m ≤ bc) (hkb : n ≤ 140737488355000) (hbl : m ≤ 140737488354900) (w0 : World) (hK : Reads w0 KA (ints .u8 key)) (hB : Reads w0 BA (ints .u8 b)) (hg0 : Reads w0 (some ⟨0, 0, none⟩) (ints .u32 startW)) (hg1 : Reads w0 (some ⟨1, 0, none⟩) (ints .u8 sgm)) (hg2 : Reads w0 (some ⟨2, 0, none⟩) (ints .u8 tbl)) (hn : key.length = n) (hm : b.length = m) :
    Does Tryd.prog 32 #[.slice KA n kc, .slice BA m bc] w0 [] (fun v G => v = .agg (ints .u8 (macS key b)).toArray ∧ G = []) := by
  subst hn hm
  exact extract_spec key b KA BA kc bc hkc hbc hkb hbl w0 hK hB hg0 hg1 hg2
theorem refextract_at (key b : List Int) (KA BA : Option Addr) (kc bc : Nat) {n m : Nat} (hkc : n ≤ kc) (hbc : m ≤ bc) (hkb : n ≤ 140737488355000) (hbl : m ≤ 140737488354900) (w0 : World) (hK : Reads w0 KA (ints .u8 key)) (hB : Reads w0 BA (ints .u8 b)) (hn : key.length = n) (hm : b.length = m) :
    Does Tryd.prog 33 #[.slice KA n kc, .slice BA m bc] w0 [] (fun v G => v = .agg (ints .u8 (macS key b)).toArray ∧ G = []) := by
  subst hn hm
  exact refextract_spec key b KA BA kc bc hkc hbc hkb hbl w0 hK hB

set_option maxRecDepth 100000 in
theorem shown08_spec (w0 : World) (hg0 : Reads w0 (some ⟨0, 0, none⟩) (ints .u32 startW)) (hg1 : Reads w0 (some ⟨1, 0, none⟩) (ints .u8 sgm)) (hg2 : Reads w0 (some ⟨2, 0, none⟩) (ints .u8 tbl)) : Does Tryd.prog 25 #[] w0 [] (fun v G => v = .bool true ∧ G = []) := by
  refine spec_of 53 Tryd.func25 rfl rfl rfl ?_
  refine W.seq ?_
  refine W.region ?_
  refine T.q (q_assign rfl rfl) (Wt.plain rfl) rfl rfl ?_
  refine T.nil ?_
  refine Ex.next ?_
  refine W.slots (L' := []) trivial ?_
  refine W.seq ?_
  refine W.region ?_
  refine T.q (q_build (v := .agg (ints .u8 (List.replicate 32 0)).toArray) rfl rfl (fun _ => by kernel_rfl)) (Wt.plain rfl) rfl rfl ?_
  refine T.eff (e_call enters26 rfl rfl (fun w hm => expand_bad_at zkey [] _ _ (by first | omega | (simp; done) | (simp; omega) | (simp at *; omega)) (by first | omega | (simp; done) | (simp; omega) | (simp at *; omega)) (by first | omega | (simp; done) | (simp; omega) | (simp at *; omega)) (-1) (.inl (by decide)) w ((R_nilI .u8) w hm) (by first | omega | (simp; done) | (simp [-List.getD_eq_getElem?_getD]; omega) | (simp at *; omega) | rfl)) rfl rfl) (Wt.plain rfl) ?_
  rintro _ _ ⟨_, _, ⟨rfl, rfl⟩, rfl, rfl⟩
  change (_ : List Blk → Prop) []
  refine T.q (q_move rfl rfl) (Wt.plain rfl) rfl rfl ?_
  refine T.q (q_extract rfl rfl rfl) (Wt.plain rfl) rfl rfl ?_
  refine T.q (q_extract rfl rfl rfl) (Wt.plain rfl) rfl rfl ?_
  refine T.q (q_assign rfl rfl) (Wt.plain rfl) rfl rfl ?_
  refine T.q (q_assign rfl rfl) (Wt.plain rfl) rfl rfl ?_
  refine T.nil ?_
  refine Ex.next ?_
  refine W.slots (L' := [(2, _)]) ⟨rfl, trivial⟩ ?_
  refine W.seq ?_
  refine W.region ?_
  refine T.q (q_build (v := .agg (ints .u8 (List.replicate 32 0)).toArray) rfl rfl (fun _ => by kernel_rfl)) (Wt.plain rfl) rfl rfl ?_
  refine T.eff (e_call enters26 rfl rfl (fun w hm => expand_bad_at zkey [] _ _ (by first | omega | (simp; done) | (simp; omega) | (simp at *; omega)) (by first | omega | (simp; done) | (simp; omega) | (simp at *; omega)) (by first | omega | (simp; done) | (simp; omega) | (simp at *; omega)) 8161 (.inr (by decide)) w ((R_nilI .u8) w hm) (by first | omega | (simp; done) | (simp [-List.getD_eq_getElem?_getD]; omega) | (simp at *; omega) | rfl)) rfl rfl) (Wt.plain rfl) ?_
  rintro _ _ ⟨_, _, ⟨rfl, rfl⟩, rfl, rfl⟩
  change (_ : List Blk → Prop) []
  refine T.q (q_move rfl rfl) (Wt.plain rfl) rfl rfl ?_
  refine T.q (q_extract rfl rfl rfl) (Wt.plain rfl) rfl rfl ?_
  refine T.q (q_extract rfl rfl rfl) (Wt.plain rfl) rfl rfl ?_
  refine T.q (q_assign rfl rfl) (Wt.plain rfl) rfl rfl ?_
  refine T.q (q_assign rfl rfl) (Wt.plain rfl) rfl rfl ?_
  refine T.nil ?_
  refine Ex.next ?_
  refine W.slots (L' := [(2, _), (4, _)]) ⟨rfl, rfl, trivial⟩ ?_
  refine W.seq ?_
  refine W.region ?_
  refine T.q (q_build (v := .agg (ints .u8 (List.replicate 32 0)).toArray) rfl rfl (fun _ => by kernel_rfl)) (Wt.plain rfl) rfl rfl ?_
  refine T.eff (e_call enters26 rfl rfl (fun w hm => expand_at zkey [] _ _ (by first | omega | (simp; done) | (simp; omega) | (simp at *; omega)) (by first | omega | (simp; done) | (simp; omega) | (simp at *; omega)) (by first | omega | (simp; done) | (simp; omega) | (simp at *; omega)) 0 (by first | omega | (simp; done) | (simp; omega) | (simp at *; omega)) w ((R_nilI .u8) w hm) (R_ext hg0.ext w hm) (R_ext hg1.ext w hm) (R_ext hg2.ext w hm) (by first | omega | (simp; done) | (simp [-List.getD_eq_getElem?_getD]; omega) | (simp at *; omega) | rfl)) rfl rfl) (Wt.plain rfl) ?_
  rintro _ _ ⟨_, _, ⟨k1, junk3, rfl, hc4, rfl⟩, rfl, rfl⟩
  change (_ : List Blk → Prop) [_]
  refine T.q (q_move rfl rfl) (Wt.plain rfl) rfl rfl ?_
  refine T.q (q_extract rfl rfl rfl) (Wt.plain rfl) rfl rfl ?_
  refine T.q (q_extract rfl rfl rfl) (Wt.plain rfl) rfl rfl ?_
  refine T.q (q_assign rfl rfl) (Wt.plain rfl) rfl rfl ?_
  refine T.q (q_assign rfl rfl) (Wt.plain rfl) rfl rfl ?_
  refine T.nil ?_
  refine Ex.next ?_
  refine W.slots (L' := [(2, _), (4, _), (5, _), (6, _)]) ⟨rfl, rfl, rfl, rfl, trivial⟩ ?_
  refine W.seq ?_
  refine W.region ?_
  refine T.q (q_build (v := .agg (ints .u8 (List.replicate 32 0)).toArray) rfl rfl (fun _ => by kernel_rfl)) (Wt.plain rfl) rfl rfl ?_
  refine T.eff (e_call enters30 rfl rfl (fun w hm => later_spec zkey (by first | omega | (simp; done) | (simp; omega) | (simp at *; omega)) w (R_ext hg0.ext w hm) (R_ext hg1.ext w hm) (R_ext hg2.ext w hm)) rfl rfl) (Wt.plain rfl) ?_
  rintro _ _ ⟨_, _, ⟨rfl, rfl⟩, rfl, rfl⟩
  change (_ : List Blk → Prop) [_]
  refine T.eff (e_alloc ze29 rfl rfl rfl) (Wt.plain rfl) ?_
  rintro _ _ ⟨k5, rfl, rfl⟩
  change (_ : List Blk → Prop) [_, _]
  refine T.eff (e_storeA (wide_ints wd29 (by first | omega | (simp; done) | (simp [-List.getD_eq_getElem?_getD]; omega) | (simp at *; omega) | rfl)) 1 rfl rfl rfl rfl (by first | omega | (simp; done) | (simp [-List.getD_eq_getElem?_getD]; omega) | (simp at *; omega) | rfl) ints_one rfl) (Wt.plain rfl) ?_
  rintro _ _ ⟨rfl, rfl⟩
  change (_ : List Blk → Prop) [_, _]
  refine T.nil ?_
  refine Ex.next ?_
  refine W.slots (L' := [(2, _), (4, _), (5, _), (6, _), (7, _)]) ⟨rfl, rfl, rfl, rfl, rfl, trivial⟩ ?_
  refine W.seq ?_
  refine W.region ?_
  refine T.q (q_build (v := .agg (ints .u8 (List.replicate 32 0)).toArray) rfl rfl (fun _ => by kernel_rfl)) (Wt.plain rfl) rfl rfl ?_
  refine T.eff (e_call enters28 rfl rfl (fun w hm => of_spec zkey (by first | omega | (simp; done) | (simp; omega) | (simp at *; omega)) w (R_ext hg0.ext w hm) (R_ext hg1.ext w hm) (R_ext hg2.ext w hm)) rfl rfl) (Wt.plain rfl) ?_
  rintro _ _ ⟨_, _, ⟨rfl, rfl⟩, rfl, rfl⟩
  change (_ : List Blk → Prop) [_, _]
  refine T.eff (e_alloc ze29 rfl rfl rfl) (Wt.plain rfl) ?_
  rintro _ _ ⟨k6, rfl, rfl⟩
  change (_ : List Blk → Prop) [_, _, _]
  refine T.eff (e_storeA (wide_ints wd29 (by first | omega | (simp; done) | (simp [-List.getD_eq_getElem?_getD]; omega) | (simp at *; omega) | rfl)) 2 rfl rfl rfl rfl (by first | omega | (simp; done) | (simp [-List.getD_eq_getElem?_getD]; omega) | (simp at *; omega) | rfl) ints_one rfl) (Wt.plain rfl) ?_
  rintro _ _ ⟨rfl, rfl⟩
  change (_ : List Blk → Prop) [_, _, _]
  refine T.nil ?_
  refine Ex.next ?_
  refine W.slots (L' := [(2, _), (4, _), (5, _), (6, _), (7, _), (8, _)]) ⟨rfl, rfl, rfl, rfl, rfl, rfl, trivial⟩ ?_
  refine W.seq ?_
  refine W.region ?_
  refine T.q (q_move rfl rfl) (Wt.plain rfl) rfl rfl ?_
  refine T.q (q_bool (b := true) (q_eql rfl rfl rfl) (decide_eq_true rfl)) (Wt.plain rfl) rfl rfl ?_
  refine T.q (q_move rfl rfl) (Wt.plain rfl) rfl rfl ?_
  refine T.q (q_move rfl rfl) (Wt.yes rfl rfl rfl) rfl rfl ?_
  refine T.q (q_bool (b := true) (q_eql rfl rfl rfl) (decide_eq_true rfl)) (Wt.yes rfl rfl rfl) rfl rfl ?_
  refine T.q (q_pickT rfl rfl rfl) (Wt.plain rfl) rfl rfl ?_
  refine T.q (q_move rfl rfl) (Wt.plain rfl) rfl rfl ?_
  refine T.q (q_move rfl rfl) (Wt.yes rfl rfl rfl) rfl rfl ?_
  refine T.q (q_bool (b := true) (q_eql rfl rfl rfl) (decide_eq_true rfl)) (Wt.yes rfl rfl rfl) rfl rfl ?_
  refine T.q (q_pickT rfl rfl rfl) (Wt.plain rfl) rfl rfl ?_
  refine T.q (q_move rfl rfl) (Wt.plain rfl) rfl rfl ?_
  refine T.q (q_move rfl rfl) (Wt.yes rfl rfl rfl) rfl rfl ?_
  refine T.q (q_len sc22 rfl rfl) (Wt.yes rfl rfl rfl) rfl rfl ?_
  refine T.q (q_bool (b := true) (q_eql rfl rfl rfl) (decide_eq_true rfl)) (Wt.yes rfl rfl rfl) rfl rfl ?_
  refine T.q (q_pickT rfl rfl rfl) (Wt.plain rfl) rfl rfl ?_
  refine T.q (q_move rfl rfl) (Wt.plain rfl) rfl rfl ?_
  refine T.q (q_loadW (wide_ints wd29 (by first | omega | (simp; done) | (simp [-List.getD_eq_getElem?_getD]; omega) | (simp at *; omega) | rfl)) (R_blk 1 rfl) rfl rfl) (Wt.yes rfl rfl rfl) rfl rfl ?_
  refine T.q (q_loadW (wide_ints wd29 (by first | omega | (simp; done) | (simp [-List.getD_eq_getElem?_getD]; omega) | (simp at *; omega) | rfl)) (R_blk 2 rfl) rfl rfl) (Wt.yes rfl rfl rfl) rfl rfl ?_
  refine T.q (q_bool (b := true) (q_neqA ar29 ss5 un5 eg29 rfl rfl rfl (by first | omega | (simp; done) | (simp [-List.getD_eq_getElem?_getD]; omega) | (simp at *; omega) | rfl) (by first | omega | (simp; done) | (simp [-List.getD_eq_getElem?_getD]; omega) | (simp at *; omega) | rfl)) later_of) (Wt.yes rfl rfl rfl) rfl rfl ?_
  refine T.q (q_pickT rfl rfl rfl) (Wt.plain rfl) rfl rfl ?_
  refine T.q (q_move rfl rfl) (Wt.plain rfl) rfl rfl ?_
  refine T.q (q_loadW (wide_ints wd29 (by first | omega | (simp; done) | (simp [-List.getD_eq_getElem?_getD]; omega) | (simp at *; omega) | rfl)) (R_blk 1 rfl) rfl rfl) (Wt.yes rfl rfl rfl) rfl rfl ?_
  refine T.q (q_build (v := .agg (ints .u8 (List.replicate 32 0)).toArray) rfl rfl (fun _ => by kernel_rfl)) (Wt.yes rfl rfl rfl) rfl rfl ?_
  refine T.q (q_bool (b := true) (q_neqA ar29 ss5 un5 eg29 rfl rfl rfl (by first | omega | (simp; done) | (simp [-List.getD_eq_getElem?_getD]; omega) | (simp at *; omega) | rfl) (by first | omega | (simp; done) | (simp [-List.getD_eq_getElem?_getD]; omega) | (simp at *; omega) | rfl)) later_zero) (Wt.yes rfl rfl rfl) rfl rfl ?_
  refine T.q (q_pickT rfl rfl rfl) (Wt.plain rfl) rfl rfl ?_
  refine T.q (q_assign rfl rfl) (Wt.plain rfl) rfl rfl ?_
  refine T.nil ?_
  refine Ex.next ?_
  refine W.less (L' := [(0, _)]) [false, false, false] ⟨rfl, trivial⟩ ?_
  change (_ : List Blk → Prop) []
  refine W.ret ?_
  refine Ex.out1 [] rfl rfl ?_
  exact ⟨rfl, rfl⟩
set_option maxRecDepth 100000 in
theorem expands_good (key info : List Int) (IA : Option Addr) (ic : Nat) (hk : key.length = 32) (hic : info.length ≤ ic) (hil : info.length ≤ 140737488351232) (n : Nat) (hn : n ≤ 8160) (w0 : World) (hI : Reads w0 IA (ints .u8 info)) (hg0 : Reads w0 (some ⟨0, 0, none⟩) (ints .u32 startW)) (hg1 : Reads w0 (some ⟨1, 0, none⟩) (ints .u8 sgm)) (hg2 : Reads w0 (some ⟨2, 0, none⟩) (ints .u8 tbl)) : Does Tryd.prog 9 #[.agg (ints .u8 key).toArray, .slice IA info.length ic, .int .i64 ((n : Nat) : Int)] w0 [] (fun v G => v = .bool true ∧ G = []) := by
  refine spec_of 76 Tryd.func9 rfl rfl rfl ?_
  refine W.seq ?_
  refine W.region ?_
  refine T.eff (e_box rfl rfl rfl rfl) (Wt.plain rfl) ?_
  rintro _ _ ⟨k1, rfl, rfl⟩
  change (_ : List Blk → Prop) [_]
  refine T.q (q_assign rfl rfl) (Wt.plain rfl) rfl rfl ?_
  refine T.nil ?_
  refine Ex.next ?_
  refine W.slots (L' := [(1, _), (2, _), (3, _)]) ⟨rfl, rfl, rfl, trivial⟩ ?_
  refine W.seq ?_
  refine W.region ?_
  refine T.eff (e_call enters25 rfl rfl (fun w hm => shown08_spec w (R_ext hg0.ext w hm) (R_ext hg1.ext w hm) (R_ext hg2.ext w hm)) rfl rfl) (Wt.plain rfl) ?_
  rintro _ _ ⟨_, _, ⟨rfl, rfl⟩, rfl, rfl⟩
  change (_ : List Blk → Prop) [_]
  refine T.q (q_assign rfl rfl) (Wt.plain rfl) rfl rfl ?_
  refine T.nil ?_
  refine Ex.next ?_
  refine W.slots (L' := [(1, _), (2, _), (3, _), (7, _)]) ⟨rfl, rfl, rfl, rfl, trivial⟩ ?_
  refine W.seq ?_
  refine W.region ?_
  refine T.eff (e_litA sc22 ze5 rfl rfl rfl (by simp [Value.cells]) rfl rfl rfl) (Wt.plain rfl) ?_
  rintro _ _ ⟨k2, rfl, rfl⟩
  change (_ : List Blk → Prop) [_, _]
  refine T.q (q_move rfl rfl) (Wt.plain rfl) rfl rfl ?_
  refine T.eff (e_appendI sc22 ze5 rfl 1 .u8 [] info [] ((List.append_nil _).symm) (R_ext hI.ext) rfl rfl rfl rfl (by first | omega | (simp; done) | (simp [-List.getD_eq_getElem?_getD]; omega) | (simp at *; omega) | rfl) (by first | omega | (simp; done) | (simp [-List.getD_eq_getElem?_getD]; omega) | (simp at *; omega) | rfl) (by first | omega | (simp; done) | (simp [-List.getD_eq_getElem?_getD]; omega) | (simp at *; omega) | rfl) (by first | omega | (simp; done) | (simp [-List.getD_eq_getElem?_getD]; omega)) (by first | omega | (simp; done) | (simp [-List.getD_eq_getElem?_getD]; omega)) rfl rfl) (Wt.plain rfl) ?_
  rintro _ _ ⟨k3, cap4, junk5, hc6, rfl, rfl⟩
  change (_ : List Blk → Prop) [_, _]
  change (_ : List Blk → Prop) [_, ⟨some k3, ints .u8 info ++ junk5, 5, (0, 0)⟩]
  refine T.q (q_assign rfl rfl) (Wt.plain rfl) rfl rfl ?_
  refine T.nil ?_
  refine Ex.next ?_
  refine W.slots (L' := [(1, _), (2, _), (3, _), (7, _), (8, _)]) ⟨rfl, rfl, rfl, rfl, rfl, trivial⟩ ?_
  refine W.seq ?_
  refine W.region ?_
  refine T.q (q_loadW (wide_ints wd29 (by first | omega | (simp; done) | (simp [-List.getD_eq_getElem?_getD]; omega) | (simp at *; omega) | rfl)) (R_blk 0 rfl) rfl rfl) (Wt.plain rfl) rfl rfl ?_
  refine T.q (q_move rfl rfl) (Wt.plain rfl) rfl rfl ?_
  refine T.q (q_move rfl rfl) (Wt.plain rfl) rfl rfl ?_
  refine T.eff (e_call enters26 rfl rfl (fun w hm => expand_at key info _ _ (by first | omega | (simp; done) | (simp; omega) | (simp at *; omega)) (by first | omega | (simp; done) | (simp; omega) | (simp at *; omega)) (by first | omega | (simp; done) | (simp; omega) | (simp at *; omega)) n (by first | omega | (simp; done) | (simp; omega) | (simp at *; omega)) w ((R_pre 1 rfl) w hm) (R_ext hg0.ext w hm) (R_ext hg1.ext w hm) (R_ext hg2.ext w hm) (by first | omega | (simp; done) | (simp [-List.getD_eq_getElem?_getD]; omega) | (simp at *; omega) | rfl)) rfl rfl) (Wt.plain rfl) ?_
  rintro _ _ ⟨_, _, ⟨k7, junk9, rfl, hc10, rfl⟩, rfl, rfl⟩
  change (_ : List Blk → Prop) [_, _, _]
  refine T.q (q_move rfl rfl) (Wt.plain rfl) rfl rfl ?_
  refine T.q (q_extract rfl rfl rfl) (Wt.plain rfl) rfl rfl ?_
  refine T.q (q_extract rfl rfl rfl) (Wt.plain rfl) rfl rfl ?_
  refine T.q (q_assign rfl rfl) (Wt.plain rfl) rfl rfl ?_
  refine T.q (q_assign rfl rfl) (Wt.plain rfl) rfl rfl ?_
  refine T.nil ?_
  refine Ex.next ?_
  refine W.slots (L' := [(1, _), (2, _), (3, _), (7, _), (8, _), (9, _), (10, _)]) ⟨rfl, rfl, rfl, rfl, rfl, rfl, rfl, trivial⟩ ?_
  refine W.seq ?_
  refine W.seq ?_
  refine W.region ?_
  refine T.q (q_move rfl rfl) (Wt.plain rfl) rfl rfl ?_
  refine T.q (q_bool (b := false) (q_lss rfl rfl rfl) (decide_eq_false (by omega))) (Wt.plain rfl) rfl rfl ?_
  refine T.q (q_move rfl rfl) (Wt.plain rfl) rfl rfl ?_
  refine T.q (q_move rfl rfl) (Wt.yes rfl rfl rfl) rfl rfl ?_
  refine T.q (q_bool (b := false) (q_gtr rfl rfl rfl) (decide_eq_false (by omega))) (Wt.yes rfl rfl rfl) rfl rfl ?_
  refine T.q (q_pickF rfl rfl rfl) (Wt.plain rfl) rfl rfl ?_
  refine T.nil ?_
  refine Ex.next ?_
  refine W.slots (L' := [(1, _), (2, _), (3, _), (7, _), (8, _), (9, _), (10, _), (29, _)]) ⟨rfl, rfl, rfl, rfl, rfl, rfl, rfl, rfl, trivial⟩ ?_
  refine W.condF rfl ?_
  refine W.skip ?_
  refine Ex.next ?_
  refine W.slots (L' := [(1, _), (2, _), (3, _), (7, _), (8, _), (9, _), (10, _)]) ⟨rfl, rfl, rfl, rfl, rfl, rfl, rfl, trivial⟩ ?_
  refine W.seq ?_
  refine W.region ?_
  refine T.q (q_loadW (wide_ints wd29 (by first | omega | (simp; done) | (simp [-List.getD_eq_getElem?_getD]; omega) | (simp at *; omega) | rfl)) (R_blk 0 rfl) rfl rfl) (Wt.plain rfl) rfl rfl ?_
  refine T.q (q_move rfl rfl) (Wt.plain rfl) rfl rfl ?_
  refine T.q (q_move rfl rfl) (Wt.plain rfl) rfl rfl ?_
  refine T.q (q_int (b := (((min n 2000) : Nat) : Int)) (q_min rfl rfl rfl) ?hE) (Wt.plain rfl) rfl rfl ?_
  case hE => omega
  refine T.eff (e_call enters27 rfl rfl (fun w hm => refexpand_at key info _ _ (by first | omega | (simp; done) | (simp; omega) | (simp at *; omega)) (by first | omega | (simp; done) | (simp; omega) | (simp at *; omega)) (by first | omega | (simp; done) | (simp; omega) | (simp at *; omega)) (min n 2000) (by first | omega | (simp; done) | (simp; omega) | (simp at *; omega)) w ((R_ext hI.ext) w hm) (by first | omega | (simp; done) | (simp [-List.getD_eq_getElem?_getD]; omega) | (simp at *; omega) | rfl)) rfl rfl) (Wt.plain rfl) ?_
  rintro _ _ ⟨_, _, ⟨k11, cap12, junk13, rfl, hc14, rfl⟩, rfl, rfl⟩
  change (_ : List Blk → Prop) [_, _, _, _]
  refine T.q (q_move rfl rfl) (Wt.plain rfl) rfl rfl ?_
  refine T.q (q_extract rfl rfl rfl) (Wt.plain rfl) rfl rfl ?_
  refine T.q (q_extract rfl rfl rfl) (Wt.plain rfl) rfl rfl ?_
  refine T.q (q_assign rfl rfl) (Wt.plain rfl) rfl rfl ?_
  refine T.q (q_assign rfl rfl) (Wt.plain rfl) rfl rfl ?_
  refine T.nil ?_
  refine Ex.next ?_
  refine W.less (L' := [(1, _), (2, _), (7, _), (8, _), (9, _), (10, _), (11, _)]) [false, true, true, true] ⟨rfl, rfl, rfl, rfl, rfl, rfl, rfl, trivial⟩ ?_
  change (_ : List Blk → Prop) [_, _, _]
  refine W.seq ?_
  refine W.draw 28 (by kernel_rfl) ?_
  refine D.take 0 rfl (by kernel_rfl) (fun _ h => h) (q_move rfl rfl) (Wt.plain rfl) rfl rfl ?_
  refine D.take 1 rfl (by kernel_rfl) (fun _ h => h) (q_move rfl rfl) (Wt.plain rfl) rfl rfl ?_
  refine D.take 2 rfl (by kernel_rfl) (fun _ h => h) (q_move rfl rfl) (Wt.yes rfl rfl rfl) rfl rfl ?_
  refine D.take 3 rfl (by kernel_rfl) (fun _ h => h) (q_bool (b := true) (q_eql rfl rfl rfl) (decide_eq_true rfl)) (Wt.yes rfl rfl rfl) rfl rfl ?_
  refine D.take 4 rfl (by kernel_rfl) (fun _ h => h) (q_pickT rfl rfl rfl) (Wt.plain rfl) rfl rfl ?_
  refine D.take 5 rfl (by kernel_rfl) (fun _ h => h) (q_move rfl rfl) (Wt.plain rfl) rfl rfl ?_
  refine D.take 6 rfl (by kernel_rfl) (fun _ h => h) (q_move rfl rfl) (Wt.yes rfl rfl rfl) rfl rfl ?_
  refine D.take 7 rfl (by kernel_rfl) (fun _ h => h) (q_len sc22 rfl rfl) (Wt.yes rfl rfl rfl) rfl rfl ?_
  refine D.take 8 rfl (by kernel_rfl) (fun _ h => h) (q_move rfl rfl) (Wt.yes rfl rfl rfl) rfl rfl ?_
  refine D.take 9 rfl (by kernel_rfl) (fun _ h => h) (q_bool (b := true) (q_eql rfl rfl rfl) (decide_eq_true rfl)) (Wt.yes rfl rfl rfl) rfl rfl ?_
  refine D.take 10 rfl (by kernel_rfl) (fun _ h => h) (q_pickT rfl rfl rfl) (Wt.plain rfl) rfl rfl ?_
  refine D.take 11 rfl (by kernel_rfl) (fun _ h => h) (q_move rfl rfl) (Wt.plain rfl) rfl rfl ?_
  refine D.take 12 rfl (by kernel_rfl) (fun _ h => h) (q_move rfl rfl) (Wt.yes rfl rfl rfl) rfl rfl ?_
  refine D.take 13 rfl (by kernel_rfl) (fun _ h => h) (q_move rfl rfl) (Wt.yes rfl rfl rfl) rfl rfl ?_
  refine D.take 14 rfl (by kernel_rfl) (fun _ h => h) (q_len sc22 rfl rfl) (Wt.yes rfl rfl rfl) rfl rfl ?_
  refine D.take 15 rfl (by kernel_rfl) (fun _ h => h) (q_sl sc22 0 (min n 2000) n rfl rfl rfl ⟨_, _, rfl, by omega⟩ rfl (by first | omega | (simp; done) | (simp [-List.getD_eq_getElem?_getD]; omega)) (by first | omega | (simp; done) | (simp [-List.getD_eq_getElem?_getD]; omega)) (by first | omega | (simp; done) | (simp [-List.getD_eq_getElem?_getD]; omega)) (by simp)) (Wt.yes rfl rfl rfl) rfl rfl ?_
  refine D.take 16 rfl (by kernel_rfl) (fun _ h => h) (q_bstr sc22 un5 un9 (R_takeI (R_cutI (l := 0) (R_opre 1 rfl) (by first | omega | (simp; done) | (simp [-List.getD_eq_getElem?_getD]; omega) | (simp at *; omega) | rfl)) (min n 2000)) (by first | omega | (simp; done) | (simp [-List.getD_eq_getElem?_getD]; omega) | (simp at *; omega) | rfl) rfl rfl) (Wt.yes rfl rfl rfl) rfl rfl ?_
  refine D.take 17 rfl (by kernel_rfl) (fun _ h => h) (q_move rfl rfl) (Wt.yes rfl rfl rfl) rfl rfl ?_
  refine D.take 18 rfl (by kernel_rfl) (fun _ h => h) (q_bstr sc22 un5 un9 (R_pre 2 rfl) (by first | omega | (simp; done) | (simp [-List.getD_eq_getElem?_getD]; omega) | (simp at *; omega) | rfl) rfl rfl) (Wt.yes rfl rfl rfl) rfl rfl ?_
  refine D.take 19 rfl (by kernel_rfl) (fun _ h => h) (q_bool (b := true) (q_eqlS rfl rfl rfl) ?hE) (Wt.yes rfl rfl rfl) rfl rfl ?_
  case hE => rw [List.drop_zero, expS_take key info (min n 2000) n (by omega)]; exact beq_self_eq_true _
  refine D.take 20 rfl (by kernel_rfl) (fun _ h => h) (q_pickT rfl rfl rfl) (Wt.plain rfl) rfl rfl ?_
  refine D.take 21 rfl (by kernel_rfl) (fun _ h => h) (q_move rfl rfl) (Wt.plain rfl) rfl rfl ?_
  refine D.take 22 rfl (by kernel_rfl) (fun _ h => h) (q_move rfl rfl) (Wt.yes rfl rfl rfl) rfl rfl ?_
  refine D.take 23 rfl (by kernel_rfl) (fun _ h => h) (q_bstr sc22 un5 un9 (R_pre 0 rfl) (by first | omega | (simp; done) | (simp [-List.getD_eq_getElem?_getD]; omega) | (simp at *; omega) | rfl) rfl rfl) (Wt.yes rfl rfl rfl) rfl rfl ?_
  refine D.take 24 rfl (by kernel_rfl) (fun _ h => h) (q_move rfl rfl) (Wt.yes rfl rfl rfl) rfl rfl ?_
  refine D.take 25 rfl (by kernel_rfl) (fun _ h => h) (q_bstr sc22 un5 un9 (R_ext hI.ext) (by first | omega | (simp; done) | (simp [-List.getD_eq_getElem?_getD]; omega) | (simp at *; omega) | rfl) rfl rfl) (Wt.yes rfl rfl rfl) rfl rfl ?_
  refine D.take 26 rfl (by kernel_rfl) (fun _ h => h) (q_bool (b := true) (q_eqlS rfl rfl rfl) (beq_self_eq_true _)) (Wt.yes rfl rfl rfl) rfl rfl ?_
  refine D.take 27 rfl (by kernel_rfl) (fun _ h => h) (q_pickT rfl rfl rfl) (Wt.plain rfl) rfl rfl ?_
  refine D.one 28 (by kernel_rfl) ?_
  refine Up.q rfl (q_assign rfl rfl) (Wt.plain rfl) rfl rfl (fun h => absurd h (by decide)) ?_
  refine D.done (by kernel_rfl) ?_
  refine Ex.next ?_
  refine W.less (L' := [(6, _)]) [false, false, false] ⟨rfl, trivial⟩ ?_
  change (_ : List Blk → Prop) []
  refine W.ret ?_
  refine Ex.out1 [] rfl rfl ?_
  exact ⟨rfl, rfl⟩
set_option maxRecDepth 100000 in
theorem expands_bad (key info : List Int) (IA : Option Addr) (ic : Nat) (hk : key.length = 32) (hic : info.length ≤ ic) (hil : info.length ≤ 140737488351232) (z : Int) (hbad : z < 0 ∨ 8160 < z) (w0 : World) (hI : Reads w0 IA (ints .u8 info)) (hg0 : Reads w0 (some ⟨0, 0, none⟩) (ints .u32 startW)) (hg1 : Reads w0 (some ⟨1, 0, none⟩) (ints .u8 sgm)) (hg2 : Reads w0 (some ⟨2, 0, none⟩) (ints .u8 tbl)) : Does Tryd.prog 9 #[.agg (ints .u8 key).toArray, .slice IA info.length ic, .int .i64 z] w0 [] (fun v G => v = .bool true ∧ G = []) := by
  refine spec_of 76 Tryd.func9 rfl rfl rfl ?_
  refine W.seq ?_
  refine W.region ?_
  refine T.eff (e_box rfl rfl rfl rfl) (Wt.plain rfl) ?_
  rintro _ _ ⟨k1, rfl, rfl⟩
  change (_ : List Blk → Prop) [_]
  refine T.q (q_assign rfl rfl) (Wt.plain rfl) rfl rfl ?_
  refine T.nil ?_
  refine Ex.next ?_
  refine W.slots (L' := [(1, _), (2, _), (3, _)]) ⟨rfl, rfl, rfl, trivial⟩ ?_
  refine W.seq ?_
  refine W.region ?_
  refine T.eff (e_call enters25 rfl rfl (fun w hm => shown08_spec w (R_ext hg0.ext w hm) (R_ext hg1.ext w hm) (R_ext hg2.ext w hm)) rfl rfl) (Wt.plain rfl) ?_
  rintro _ _ ⟨_, _, ⟨rfl, rfl⟩, rfl, rfl⟩
  change (_ : List Blk → Prop) [_]
  refine T.q (q_assign rfl rfl) (Wt.plain rfl) rfl rfl ?_
  refine T.nil ?_
  refine Ex.next ?_
  refine W.slots (L' := [(1, _), (2, _), (3, _), (7, _)]) ⟨rfl, rfl, rfl, rfl, trivial⟩ ?_
  refine W.seq ?_
  refine W.region ?_
  refine T.eff (e_litA sc22 ze5 rfl rfl rfl (by simp [Value.cells]) rfl rfl rfl) (Wt.plain rfl) ?_
  rintro _ _ ⟨k2, rfl, rfl⟩
  change (_ : List Blk → Prop) [_, _]
  refine T.q (q_move rfl rfl) (Wt.plain rfl) rfl rfl ?_
  refine T.eff (e_appendI sc22 ze5 rfl 1 .u8 [] info [] ((List.append_nil _).symm) (R_ext hI.ext) rfl rfl rfl rfl (by first | omega | (simp; done) | (simp [-List.getD_eq_getElem?_getD]; omega) | (simp at *; omega) | rfl) (by first | omega | (simp; done) | (simp [-List.getD_eq_getElem?_getD]; omega) | (simp at *; omega) | rfl) (by first | omega | (simp; done) | (simp [-List.getD_eq_getElem?_getD]; omega) | (simp at *; omega) | rfl) (by first | omega | (simp; done) | (simp [-List.getD_eq_getElem?_getD]; omega)) (by first | omega | (simp; done) | (simp [-List.getD_eq_getElem?_getD]; omega)) rfl rfl) (Wt.plain rfl) ?_
  rintro _ _ ⟨k3, cap4, junk5, hc6, rfl, rfl⟩
  change (_ : List Blk → Prop) [_, _]
  change (_ : List Blk → Prop) [_, ⟨some k3, ints .u8 info ++ junk5, 5, (0, 0)⟩]
  refine T.q (q_assign rfl rfl) (Wt.plain rfl) rfl rfl ?_
  refine T.nil ?_
  refine Ex.next ?_
  refine W.slots (L' := [(1, _), (2, _), (3, _), (7, _), (8, _)]) ⟨rfl, rfl, rfl, rfl, rfl, trivial⟩ ?_
  refine W.seq ?_
  refine W.region ?_
  refine T.q (q_loadW (wide_ints wd29 (by first | omega | (simp; done) | (simp [-List.getD_eq_getElem?_getD]; omega) | (simp at *; omega) | rfl)) (R_blk 0 rfl) rfl rfl) (Wt.plain rfl) rfl rfl ?_
  refine T.q (q_move rfl rfl) (Wt.plain rfl) rfl rfl ?_
  refine T.q (q_move rfl rfl) (Wt.plain rfl) rfl rfl ?_
  refine T.eff (e_call enters26 rfl rfl (fun w hm => expand_bad_at key info _ _ (by first | omega | (simp; done) | (simp; omega) | (simp at *; omega)) (by first | omega | (simp; done) | (simp; omega) | (simp at *; omega)) (by first | omega | (simp; done) | (simp; omega) | (simp at *; omega)) z (hbad) w ((R_pre 1 rfl) w hm) (by first | omega | (simp; done) | (simp [-List.getD_eq_getElem?_getD]; omega) | (simp at *; omega) | rfl)) rfl rfl) (Wt.plain rfl) ?_
  rintro _ _ ⟨_, _, ⟨rfl, rfl⟩, rfl, rfl⟩
  change (_ : List Blk → Prop) [_, _]
  refine T.q (q_move rfl rfl) (Wt.plain rfl) rfl rfl ?_
  refine T.q (q_extract rfl rfl rfl) (Wt.plain rfl) rfl rfl ?_
  refine T.q (q_extract rfl rfl rfl) (Wt.plain rfl) rfl rfl ?_
  refine T.q (q_assign rfl rfl) (Wt.plain rfl) rfl rfl ?_
  refine T.q (q_assign rfl rfl) (Wt.plain rfl) rfl rfl ?_
  refine T.nil ?_
  refine Ex.next ?_
  refine W.slots (L' := [(1, _), (2, _), (3, _), (7, _), (8, _), (9, _), (10, _)]) ⟨rfl, rfl, rfl, rfl, rfl, rfl, rfl, trivial⟩ ?_
  refine W.seq ?_
  refine W.seq ?_
  refine W.region ?_
  refine T.q (q_move rfl rfl) (Wt.plain rfl) rfl rfl ?_
  refine T.q (q_lss rfl rfl rfl) (Wt.plain rfl) rfl rfl ?_
  refine T.q (q_move rfl rfl) (Wt.plain rfl) rfl rfl ?_
  refine T.both (t := 26) _ rfl (fun hb7 => ?_) (fun hb7 => ?_)
  · replace hb7 := of_decide_eq_true hb7
    refine T.no (Wn.no rfl rfl rfl rfl) rfl rfl ?_
    refine T.no (Wn.no rfl rfl rfl rfl) rfl rfl ?_
    refine T.q (q_pickT rfl rfl rfl) (Wt.plain rfl) rfl rfl ?_
    refine T.nil ?_
    refine Ex.next ?_
    refine W.slots (L' := [(1, _), (2, _), (3, _), (7, _), (8, _), (9, _), (10, _), (29, _)]) ⟨rfl, rfl, rfl, rfl, rfl, rfl, rfl, rfl, trivial⟩ ?_
    refine W.condT rfl ?_
    refine W.seq ?_
    refine W.region ?_
    refine T.q (q_move rfl rfl) (Wt.plain rfl) rfl rfl ?_
    refine T.q (q_move rfl rfl) (Wt.plain rfl) rfl rfl ?_
    refine T.q (q_move rfl rfl) (Wt.yes rfl rfl rfl) rfl rfl ?_
    refine T.q (q_bool (b := true) (q_eql rfl rfl rfl) (decide_eq_true rfl)) (Wt.yes rfl rfl rfl) rfl rfl ?_
    refine T.q (q_pickT rfl rfl rfl) (Wt.plain rfl) rfl rfl ?_
    refine T.q (q_move rfl rfl) (Wt.plain rfl) rfl rfl ?_
    refine T.q (q_move rfl rfl) (Wt.yes rfl rfl rfl) rfl rfl ?_
    refine T.q (q_len sc22 rfl rfl) (Wt.yes rfl rfl rfl) rfl rfl ?_
    refine T.q (q_bool (b := true) (q_eql rfl rfl rfl) (decide_eq_true rfl)) (Wt.yes rfl rfl rfl) rfl rfl ?_
    refine T.q (q_pickT rfl rfl rfl) (Wt.plain rfl) rfl rfl ?_
    refine T.q (q_assign rfl rfl) (Wt.plain rfl) rfl rfl ?_
    refine T.nil ?_
    refine Ex.next ?_
    refine W.less (L' := [(6, _)]) [false, false] ⟨rfl, trivial⟩ ?_
    change (_ : List Blk → Prop) []
    refine W.ret ?_
    refine Ex.then_ret ?_
    refine Ex.out1 [] rfl rfl ?_
    exact ⟨rfl, rfl⟩
  · replace hb7 := of_decide_eq_false hb7
    refine T.q (q_move rfl rfl) (Wt.yes rfl rfl rfl) rfl rfl ?_
    refine T.q (q_bool (b := true) (q_gtr rfl rfl rfl) (decide_eq_true (by omega))) (Wt.yes rfl rfl rfl) rfl rfl ?_
    refine T.q (q_pickF rfl rfl rfl) (Wt.plain rfl) rfl rfl ?_
    refine T.nil ?_
    refine Ex.next ?_
    refine W.slots (L' := [(1, _), (2, _), (3, _), (7, _), (8, _), (9, _), (10, _), (29, _)]) ⟨rfl, rfl, rfl, rfl, rfl, rfl, rfl, rfl, trivial⟩ ?_
    refine W.condT rfl ?_
    refine W.seq ?_
    refine W.region ?_
    refine T.q (q_move rfl rfl) (Wt.plain rfl) rfl rfl ?_
    refine T.q (q_move rfl rfl) (Wt.plain rfl) rfl rfl ?_
    refine T.q (q_move rfl rfl) (Wt.yes rfl rfl rfl) rfl rfl ?_
    refine T.q (q_bool (b := true) (q_eql rfl rfl rfl) (decide_eq_true rfl)) (Wt.yes rfl rfl rfl) rfl rfl ?_
    refine T.q (q_pickT rfl rfl rfl) (Wt.plain rfl) rfl rfl ?_
    refine T.q (q_move rfl rfl) (Wt.plain rfl) rfl rfl ?_
    refine T.q (q_move rfl rfl) (Wt.yes rfl rfl rfl) rfl rfl ?_
    refine T.q (q_len sc22 rfl rfl) (Wt.yes rfl rfl rfl) rfl rfl ?_
    refine T.q (q_bool (b := true) (q_eql rfl rfl rfl) (decide_eq_true rfl)) (Wt.yes rfl rfl rfl) rfl rfl ?_
    refine T.q (q_pickT rfl rfl rfl) (Wt.plain rfl) rfl rfl ?_
    refine T.q (q_assign rfl rfl) (Wt.plain rfl) rfl rfl ?_
    refine T.nil ?_
    refine Ex.next ?_
    refine W.less (L' := [(6, _)]) [false, false] ⟨rfl, trivial⟩ ?_
    change (_ : List Blk → Prop) []
    refine W.ret ?_
    refine Ex.then_ret ?_
    refine Ex.out1 [] rfl rfl ?_
    exact ⟨rfl, rfl⟩
set_option maxRecDepth 100000 in
theorem prefixes_law (key info : List Int) (IA : Option Addr) (ic : Nat) (hk : key.length = 32) (hic : info.length ≤ ic) (hil : info.length ≤ 140737488351232) (z : Int) (hz1 : -9223372036854775808 ≤ z) (hz2 : z ≤ 9223372036854775807) (w0 : World) (hI : Reads w0 IA (ints .u8 info)) (hg0 : Reads w0 (some ⟨0, 0, none⟩) (ints .u32 startW)) (hg1 : Reads w0 (some ⟨1, 0, none⟩) (ints .u8 sgm)) (hg2 : Reads w0 (some ⟨2, 0, none⟩) (ints .u8 tbl)) : Does Tryd.prog 10 #[.agg (ints .u8 key).toArray, .slice IA info.length ic, .int .i64 z] w0 [] (fun v G => v = .bool true ∧ G = []) := by
  refine spec_of 72 Tryd.func10 rfl rfl rfl ?_
  refine W.seq ?_
  refine W.region ?_
  refine T.eff (e_box rfl rfl rfl rfl) (Wt.plain rfl) ?_
  rintro _ _ ⟨k1, rfl, rfl⟩
  change (_ : List Blk → Prop) [_]
  refine T.q (q_assign rfl rfl) (Wt.plain rfl) rfl rfl ?_
  refine T.nil ?_
  refine Ex.next ?_
  refine W.slots (L' := [(1, _), (2, _), (3, _)]) ⟨rfl, rfl, rfl, trivial⟩ ?_
  refine W.seq ?_
  refine W.region ?_
  refine T.eff (e_call enters25 rfl rfl (fun w hm => shown08_spec w (R_ext hg0.ext w hm) (R_ext hg1.ext w hm) (R_ext hg2.ext w hm)) rfl rfl) (Wt.plain rfl) ?_
  rintro _ _ ⟨_, _, ⟨rfl, rfl⟩, rfl, rfl⟩
  change (_ : List Blk → Prop) [_]
  refine T.q (q_assign rfl rfl) (Wt.plain rfl) rfl rfl ?_
  refine T.nil ?_
  refine Ex.next ?_
  refine W.slots (L' := [(1, _), (2, _), (3, _), (7, _)]) ⟨rfl, rfl, rfl, rfl, trivial⟩ ?_
  refine W.meet (α := Int) (fun nn => [(1, .slice IA info.length ic), (2, .int .i64 nn), (3, .pointer (some ⟨k1, 0, none⟩)), (7, .bool true)]) (fun nn => [⟨some k1, ints .u8 key, 29, (0, 0)⟩]) (fun nn => 0 ≤ nn ∧ nn ≤ 9223372036854775807) ?_ ?_
  ·
    refine W.seq ?_
    refine W.region ?_
    refine T.q (q_move rfl rfl) (Wt.plain rfl) rfl rfl ?_
    refine T.q (q_lss rfl rfl rfl) (Wt.plain rfl) rfl rfl ?_
    refine T.nil ?_
    refine Ex.next ?_
    refine W.slots (L' := [(1, _), (2, _), (3, _), (7, _), (14, _)]) ⟨rfl, rfl, rfl, rfl, rfl, trivial⟩ ?_
    refine W.cond _ rfl (fun hb2 => ?_) (fun hb2 => ?_)
    · replace hb2 := of_decide_eq_true hb2
      refine W.region ?_
      refine T.q (q_move rfl rfl) (Wt.plain rfl) rfl rfl ?_
      refine T.q (q_addi rfl rfl rfl (by omega) (by omega)) (Wt.plain rfl) rfl rfl ?_
      refine T.q (q_int (b := (-z - 1)) (q_neg rfl rfl) ?hE) (Wt.plain rfl) rfl rfl ?_
      case hE => rw [i64_wrap (by omega) (by omega)]; omega
      refine T.q (q_assign rfl rfl) (Wt.plain rfl) rfl rfl ?_
      refine T.nil ?_
      exact Ex.met [true] (-z - 1) (by first | omega | (dsimp only; omega)) ⟨rfl, rfl, rfl, rfl, trivial⟩ rfl
    · replace hb2 := of_decide_eq_false hb2
      refine W.skip ?_
      exact Ex.met [true] z (by first | omega | (dsimp only; omega)) ⟨rfl, rfl, rfl, rfl, trivial⟩ rfl
  ·
    rintro nn ⟨hn0, hn1⟩
    obtain ⟨r, hr1, hr2⟩ : ∃ r : Nat, nn % 300 = (r : Int) ∧ r < 300 := ⟨(nn % 300).toNat, by omega, by omega⟩
    refine W.seq ?_
    refine W.region ?_
    refine T.q (q_move rfl rfl) (Wt.plain rfl) rfl rfl ?_
    refine T.q (q_int (b := ((r : Nat) : Int)) (q_rem rfl rfl rfl (by omega) (by decide)) hr1) (Wt.plain rfl) rfl rfl ?_
    refine T.q (q_assign rfl rfl) (Wt.plain rfl) rfl rfl ?_
    refine T.nil ?_
    refine Ex.next ?_
    refine W.slots (L' := [(1, _), (2, _), (3, _), (7, _)]) ⟨rfl, rfl, rfl, rfl, trivial⟩ ?_
    refine W.seq ?_
    refine W.region ?_
    refine T.q (q_loadW (wide_ints wd29 (by first | omega | (simp; done) | (simp [-List.getD_eq_getElem?_getD]; omega) | (simp at *; omega) | rfl)) (R_blk 0 rfl) rfl rfl) (Wt.plain rfl) rfl rfl ?_
    refine T.q (q_move rfl rfl) (Wt.plain rfl) rfl rfl ?_
    refine T.q (q_move rfl rfl) (Wt.plain rfl) rfl rfl ?_
    refine T.eff (e_call enters26 rfl rfl (fun w hm => expand_at key info _ _ (by first | omega | (simp; done) | (simp; omega) | (simp at *; omega)) (by first | omega | (simp; done) | (simp; omega) | (simp at *; omega)) (by first | omega | (simp; done) | (simp; omega) | (simp at *; omega)) r (by first | omega | (simp; done) | (simp; omega) | (simp at *; omega)) w ((R_ext hI.ext) w hm) (R_ext hg0.ext w hm) (R_ext hg1.ext w hm) (R_ext hg2.ext w hm) (by first | omega | (simp; done) | (simp [-List.getD_eq_getElem?_getD]; omega) | (simp at *; omega) | rfl)) rfl rfl) (Wt.plain rfl) ?_
    rintro _ _ ⟨_, _, ⟨k3, junk5, rfl, hc6, rfl⟩, rfl, rfl⟩
    change (_ : List Blk → Prop) [_, _]
    refine T.q (q_move rfl rfl) (Wt.plain rfl) rfl rfl ?_
    refine T.q (q_extract rfl rfl rfl) (Wt.plain rfl) rfl rfl ?_
    refine T.q (q_extract rfl rfl rfl) (Wt.plain rfl) rfl rfl ?_
    refine T.q (q_assign rfl rfl) (Wt.plain rfl) rfl rfl ?_
    refine T.q (q_assign rfl rfl) (Wt.plain rfl) rfl rfl ?_
    refine T.nil ?_
    refine Ex.next ?_
    refine W.slots (L' := [(1, _), (2, _), (3, _), (7, _), (8, _), (9, _)]) ⟨rfl, rfl, rfl, rfl, rfl, rfl, trivial⟩ ?_
    refine W.seq ?_
    refine W.region ?_
    refine T.q (q_loadW (wide_ints wd29 (by first | omega | (simp; done) | (simp [-List.getD_eq_getElem?_getD]; omega) | (simp at *; omega) | rfl)) (R_blk 0 rfl) rfl rfl) (Wt.plain rfl) rfl rfl ?_
    refine T.q (q_move rfl rfl) (Wt.plain rfl) rfl rfl ?_
    refine T.q (q_move rfl rfl) (Wt.plain rfl) rfl rfl ?_
    refine T.q (q_addi rfl rfl rfl (by omega) (by omega)) (Wt.plain rfl) rfl rfl ?_
    refine T.q (q_move rfl rfl) (Wt.plain rfl) rfl rfl ?_
    refine T.q (q_rem rfl rfl rfl (by omega) (by decide)) (Wt.plain rfl) rfl rfl ?_
    refine T.q (q_addi rfl rfl rfl (by omega) (by omega)) (Wt.plain rfl) rfl rfl ?_
    refine T.eff (e_call enters26 rfl rfl (fun w hm => expand_at key info _ _ (by first | omega | (simp; done) | (simp; omega) | (simp at *; omega)) (by first | omega | (simp; done) | (simp; omega) | (simp at *; omega)) (by first | omega | (simp; done) | (simp; omega) | (simp at *; omega)) ((r + 1) + (r % 40)) (by first | omega | (simp; done) | (simp; omega) | (simp at *; omega)) w ((R_ext hI.ext) w hm) (R_ext hg0.ext w hm) (R_ext hg1.ext w hm) (R_ext hg2.ext w hm) (by first | omega | (simp; done) | (simp [-List.getD_eq_getElem?_getD]; omega) | (simp at *; omega) | rfl)) rfl rfl) (Wt.plain rfl) ?_
    rintro _ _ ⟨_, _, ⟨k7, junk9, rfl, hc10, rfl⟩, rfl, rfl⟩
    change (_ : List Blk → Prop) [_, _, _]
    refine T.q (q_move rfl rfl) (Wt.plain rfl) rfl rfl ?_
    refine T.q (q_extract rfl rfl rfl) (Wt.plain rfl) rfl rfl ?_
    refine T.q (q_extract rfl rfl rfl) (Wt.plain rfl) rfl rfl ?_
    refine T.q (q_assign rfl rfl) (Wt.plain rfl) rfl rfl ?_
    refine T.q (q_assign rfl rfl) (Wt.plain rfl) rfl rfl ?_
    refine T.nil ?_
    refine Ex.next ?_
    refine W.less (L' := [(2, _), (7, _), (8, _), (9, _), (10, _), (11, _)]) [false, true, true] ⟨rfl, rfl, rfl, rfl, rfl, rfl, trivial⟩ ?_
    change (_ : List Blk → Prop) [_, _]
    refine W.seq ?_
    refine W.draw 34 (by kernel_rfl) ?_
    refine D.take 0 rfl (by kernel_rfl) (fun _ h => h) (q_move rfl rfl) (Wt.plain rfl) rfl rfl ?_
    refine D.take 1 rfl (by kernel_rfl) (fun _ h => h) (q_move rfl rfl) (Wt.plain rfl) rfl rfl ?_
    refine D.take 2 rfl (by kernel_rfl) (fun _ h => h) (q_move rfl rfl) (Wt.yes rfl rfl rfl) rfl rfl ?_
    refine D.take 3 rfl (by kernel_rfl) (fun _ h => h) (q_bool (b := true) (q_eql rfl rfl rfl) (decide_eq_true rfl)) (Wt.yes rfl rfl rfl) rfl rfl ?_
    refine D.take 4 rfl (by kernel_rfl) (fun _ h => h) (q_pickT rfl rfl rfl) (Wt.plain rfl) rfl rfl ?_
    refine D.take 5 rfl (by kernel_rfl) (fun _ h => h) (q_move rfl rfl) (Wt.plain rfl) rfl rfl ?_
    refine D.take 6 rfl (by kernel_rfl) (fun _ h => h) (q_move rfl rfl) (Wt.yes rfl rfl rfl) rfl rfl ?_
    refine D.take 7 rfl (by kernel_rfl) (fun _ h => h) (q_bool (b := true) (q_eql rfl rfl rfl) (decide_eq_true rfl)) (Wt.yes rfl rfl rfl) rfl rfl ?_
    refine D.take 8 rfl (by kernel_rfl) (fun _ h => h) (q_pickT rfl rfl rfl) (Wt.plain rfl) rfl rfl ?_
    refine D.take 9 rfl (by kernel_rfl) (fun _ h => h) (q_move rfl rfl) (Wt.plain rfl) rfl rfl ?_
    refine D.take 10 rfl (by kernel_rfl) (fun _ h => h) (q_move rfl rfl) (Wt.yes rfl rfl rfl) rfl rfl ?_
    refine D.take 11 rfl (by kernel_rfl) (fun _ h => h) (q_len sc22 rfl rfl) (Wt.yes rfl rfl rfl) rfl rfl ?_
    refine D.take 12 rfl (by kernel_rfl) (fun _ h => h) (q_move rfl rfl) (Wt.yes rfl rfl rfl) rfl rfl ?_
    refine D.take 13 rfl (by kernel_rfl) (fun _ h => h) (q_bool (b := true) (q_eql rfl rfl rfl) (decide_eq_true rfl)) (Wt.yes rfl rfl rfl) rfl rfl ?_
    refine D.take 14 rfl (by kernel_rfl) (fun _ h => h) (q_pickT rfl rfl rfl) (Wt.plain rfl) rfl rfl ?_
    refine D.take 15 rfl (by kernel_rfl) (fun _ h => h) (q_move rfl rfl) (Wt.plain rfl) rfl rfl ?_
    refine D.take 16 rfl (by kernel_rfl) (fun _ h => h) (q_move rfl rfl) (Wt.yes rfl rfl rfl) rfl rfl ?_
    refine D.take 17 rfl (by kernel_rfl) (fun _ h => h) (q_len sc22 rfl rfl) (Wt.yes rfl rfl rfl) rfl rfl ?_
    refine D.take 18 rfl (by kernel_rfl) (fun _ h => h) (q_move rfl rfl) (Wt.yes rfl rfl rfl) rfl rfl ?_
    refine D.take 19 rfl (by kernel_rfl) (fun _ h => h) (q_addi rfl rfl rfl (by omega) (by omega)) (Wt.yes rfl rfl rfl) rfl rfl ?_
    refine D.take 20 rfl (by kernel_rfl) (fun _ h => h) (q_move rfl rfl) (Wt.yes rfl rfl rfl) rfl rfl ?_
    refine D.take 21 rfl (by kernel_rfl) (fun _ h => h) (q_rem rfl rfl rfl (by omega) (by decide)) (Wt.yes rfl rfl rfl) rfl rfl ?_
    refine D.take 22 rfl (by kernel_rfl) (fun _ h => h) (q_addi rfl rfl rfl (by omega) (by omega)) (Wt.yes rfl rfl rfl) rfl rfl ?_
    refine D.take 23 rfl (by kernel_rfl) (fun _ h => h) (q_bool (b := true) (q_eql rfl rfl rfl) (decide_eq_true rfl)) (Wt.yes rfl rfl rfl) rfl rfl ?_
    refine D.take 24 rfl (by kernel_rfl) (fun _ h => h) (q_pickT rfl rfl rfl) (Wt.plain rfl) rfl rfl ?_
    refine D.take 25 rfl (by kernel_rfl) (fun _ h => h) (q_move rfl rfl) (Wt.plain rfl) rfl rfl ?_
    refine D.take 26 rfl (by kernel_rfl) (fun _ h => h) (q_move rfl rfl) (Wt.yes rfl rfl rfl) rfl rfl ?_
    refine D.take 27 rfl (by kernel_rfl) (fun _ h => h) (q_move rfl rfl) (Wt.yes rfl rfl rfl) rfl rfl ?_
    refine D.take 28 rfl (by kernel_rfl) (fun _ h => h) (q_sl sc22 0 r ((r + 1) + (r % 40)) rfl rfl rfl ⟨_, _, rfl, by omega⟩ rfl (by first | omega | (simp; done) | (simp [-List.getD_eq_getElem?_getD]; omega)) (by first | omega | (simp; done) | (simp [-List.getD_eq_getElem?_getD]; omega)) (by first | omega | (simp; done) | (simp [-List.getD_eq_getElem?_getD]; omega)) (by simp)) (Wt.yes rfl rfl rfl) rfl rfl ?_
    refine D.take 29 rfl (by kernel_rfl) (fun _ h => h) (q_bstr sc22 un5 un9 (R_takeI (R_cutI (l := 0) (R_opre 1 rfl) (by first | omega | (simp; done) | (simp [-List.getD_eq_getElem?_getD]; omega) | (simp at *; omega) | rfl)) r) (by first | omega | (simp; done) | (simp [-List.getD_eq_getElem?_getD]; omega) | (simp at *; omega) | rfl) rfl rfl) (Wt.yes rfl rfl rfl) rfl rfl ?_
    refine D.take 30 rfl (by kernel_rfl) (fun _ h => h) (q_move rfl rfl) (Wt.yes rfl rfl rfl) rfl rfl ?_
    refine D.take 31 rfl (by kernel_rfl) (fun _ h => h) (q_bstr sc22 un5 un9 (R_opre 0 rfl) (by first | omega | (simp; done) | (simp [-List.getD_eq_getElem?_getD]; omega) | (simp at *; omega) | rfl) rfl rfl) (Wt.yes rfl rfl rfl) rfl rfl ?_
    refine D.take 32 rfl (by kernel_rfl) (fun _ h => h) (q_bool (b := true) (q_eqlS rfl rfl rfl) ?hE) (Wt.yes rfl rfl rfl) rfl rfl ?_
    case hE => rw [List.drop_zero, expS_take key info r (r + 1 + r % 40) (by omega)]; exact beq_self_eq_true _
    refine D.take 33 rfl (by kernel_rfl) (fun _ h => h) (q_pickT rfl rfl rfl) (Wt.plain rfl) rfl rfl ?_
    refine D.one 34 (by kernel_rfl) ?_
    refine Up.q rfl (q_assign rfl rfl) (Wt.plain rfl) rfl rfl (fun h => absurd h (by decide)) ?_
    refine D.done (by kernel_rfl) ?_
    refine Ex.next ?_
    refine W.less (L' := [(6, _)]) [false, false] ⟨rfl, trivial⟩ ?_
    change (_ : List Blk → Prop) []
    refine W.ret ?_
    refine Ex.out1 [] rfl rfl ?_
    exact ⟨rfl, rfl⟩
set_option maxRecDepth 100000 in
theorem epochs_law (key : List Int) (hk : key.length = 32) (w0 : World) (hg0 : Reads w0 (some ⟨0, 0, none⟩) (ints .u32 startW)) (hg1 : Reads w0 (some ⟨1, 0, none⟩) (ints .u8 sgm)) (hg2 : Reads w0 (some ⟨2, 0, none⟩) (ints .u8 tbl)) : Does Tryd.prog 11 #[.agg (ints .u8 key).toArray] w0 [] (fun v G => v = .bool true ∧ G = []) := by
  refine spec_of 27 Tryd.func11 rfl rfl rfl ?_
  refine W.seq ?_
  refine W.region ?_
  refine T.eff (e_box rfl rfl rfl rfl) (Wt.plain rfl) ?_
  rintro _ _ ⟨k1, rfl, rfl⟩
  change (_ : List Blk → Prop) [_]
  refine T.q (q_assign rfl rfl) (Wt.plain rfl) rfl rfl ?_
  refine T.nil ?_
  refine Ex.next ?_
  refine W.slots (L' := [(1, _)]) ⟨rfl, trivial⟩ ?_
  refine W.seq ?_
  refine W.region ?_
  refine T.eff (e_call enters25 rfl rfl (fun w hm => shown08_spec w (R_ext hg0.ext w hm) (R_ext hg1.ext w hm) (R_ext hg2.ext w hm)) rfl rfl) (Wt.plain rfl) ?_
  rintro _ _ ⟨_, _, ⟨rfl, rfl⟩, rfl, rfl⟩
  change (_ : List Blk → Prop) [_]
  refine T.q (q_assign rfl rfl) (Wt.plain rfl) rfl rfl ?_
  refine T.nil ?_
  refine Ex.next ?_
  refine W.slots (L' := [(1, _), (3, _)]) ⟨rfl, rfl, trivial⟩ ?_
  refine W.seq ?_
  refine W.region ?_
  refine T.q (q_loadW (wide_ints wd29 (by first | omega | (simp; done) | (simp [-List.getD_eq_getElem?_getD]; omega) | (simp at *; omega) | rfl)) (R_blk 0 rfl) rfl rfl) (Wt.plain rfl) rfl rfl ?_
  refine T.eff (e_alloc ze29 rfl rfl rfl) (Wt.plain rfl) ?_
  rintro _ _ ⟨k2, rfl, rfl⟩
  change (_ : List Blk → Prop) [_, _]
  refine T.eff (e_storeA (wide_ints wd29 (by first | omega | (simp; done) | (simp [-List.getD_eq_getElem?_getD]; omega) | (simp at *; omega) | rfl)) 1 rfl rfl rfl rfl (by first | omega | (simp; done) | (simp [-List.getD_eq_getElem?_getD]; omega) | (simp at *; omega) | rfl) ints_one rfl) (Wt.plain rfl) ?_
  rintro _ _ ⟨rfl, rfl⟩
  change (_ : List Blk → Prop) [_, _]
  refine T.nil ?_
  refine Ex.next ?_
  refine W.less (L' := [(3, _), (4, _)]) [false, true] ⟨rfl, rfl, trivial⟩ ?_
  change (_ : List Blk → Prop) [_]
  refine W.seq ?_
  refine W.seq ?_
  refine W.region ?_
  refine T.q (q_assign rfl rfl) (Wt.plain rfl) rfl rfl ?_
  refine T.nil ?_
  refine Ex.next ?_
  refine W.slots (L' := [(3, _), (4, _), (5, _)]) ⟨rfl, rfl, rfl, trivial⟩ ?_
  refine W.block ?_
  refine W.loop (α := Nat × List Int) (fun x_ => [(3, .bool true), (4, .pointer (some ⟨k2, 0, none⟩)), (5, .int .i64 ((x_.1 : Nat) : Int))]) (fun x_ => [⟨some k2, ints .u8 x_.2, 29, (0, 0)⟩]) (fun x_ => x_.1 ≤ 3 ∧ x_.2.length = 32) (fun x_ => 3 - x_.1) [true] (⟨0, key⟩) ⟨by dsimp only; omega, hk⟩ ⟨rfl, rfl, rfl, trivial⟩ rfl ?_
  rintro ⟨i, xs⟩ ⟨hi, hxs⟩
  conv => rhs; dsimp only
  conv => arg -2; dsimp only
  dsimp only at hi hxs
  refine W.seq ?_
  refine W.seq ?_
  refine W.region ?_
  refine T.q (q_move rfl rfl) (Wt.plain rfl) rfl rfl ?_
  refine T.q (q_lss rfl rfl rfl) (Wt.plain rfl) rfl rfl ?_
  refine T.nil ?_
  refine Ex.next ?_
  refine W.slots (L' := [(3, _), (4, _), (5, _), (9, _)]) ⟨rfl, rfl, rfl, rfl, trivial⟩ ?_
  refine W.cond _ rfl (fun hb3 => ?_) (fun hb3 => ?_)
  · replace hb3 := of_decide_eq_true hb3
    refine W.skip ?_
    refine Ex.next ?_
    refine W.slots (L' := [(3, _), (4, _), (5, _)]) ⟨rfl, rfl, rfl, trivial⟩ ?_
    refine W.seq ?_
    refine W.block ?_
    refine W.seq ?_
    refine W.seq ?_
    refine W.draw 12 (by kernel_rfl) ?_
    refine D.take 0 rfl (by kernel_rfl) (fun _ h => h) (q_loadW (wide_ints wd29 (by first | omega | (simp; done) | (simp [-List.getD_eq_getElem?_getD]; omega) | (simp at *; omega) | rfl)) (R_blk 0 rfl) rfl rfl) (Wt.plain rfl) rfl rfl ?_
    refine D.take 2 rfl (by kernel_rfl) (fun _ h => h) (q_loadW (wide_ints wd29 (by first | omega | (simp; done) | (simp [-List.getD_eq_getElem?_getD]; omega) | (simp at *; omega) | rfl)) (R_blk 0 rfl) rfl rfl) (Wt.plain rfl) rfl rfl ?_
    refine D.one 1 (by kernel_rfl) ?_
    refine Up.eff rfl (e_call enters28 rfl rfl (fun w hm => of_spec xs (by first | omega | (simp; done) | (simp; omega) | (simp at *; omega)) w (R_ext hg0.ext w hm) (R_ext hg1.ext w hm) (R_ext hg2.ext w hm)) rfl rfl) (Wt.plain rfl) ?_
    rintro _ _ ⟨_, _, ⟨rfl, rfl⟩, rfl, rfl⟩
    refine ⟨fun _ => (fun _ h => h), ?_⟩
    change (_ : List Blk → Prop) [_]
    refine D.one 3 (by kernel_rfl) ?_
    refine Up.eff rfl (e_call enters29 rfl rfl (fun w hm => refof_spec xs (by first | omega | (simp; done) | (simp; omega) | (simp at *; omega)) w) rfl rfl) (Wt.plain rfl) ?_
    rintro _ _ ⟨_, _, ⟨rfl, rfl⟩, rfl, rfl⟩
    refine ⟨fun _ => (fun _ h => h), ?_⟩
    change (_ : List Blk → Prop) [_]
    refine D.take 4 rfl (by kernel_rfl) (fun _ h => h) (q_bool (b := false) (q_neqA ar29 ss5 un5 eg29 rfl rfl rfl (by first | omega | (simp; done) | (simp [-List.getD_eq_getElem?_getD]; omega) | (simp at *; omega) | rfl) (by first | omega | (simp; done) | (simp [-List.getD_eq_getElem?_getD]; omega) | (simp at *; omega) | rfl)) ?hE) (Wt.plain rfl) rfl rfl ?_
    case hE => simp
    refine D.take 5 rfl (by kernel_rfl) (fun _ h => h) (q_move rfl rfl) (Wt.plain rfl) rfl rfl ?_
    refine D.take 6 rfl (by kernel_rfl) (fun _ h => h) (q_loadW (wide_ints wd29 (by first | omega | (simp; done) | (simp [-List.getD_eq_getElem?_getD]; omega) | (simp at *; omega) | rfl)) (R_blk 0 rfl) rfl rfl) (Wt.yes rfl rfl rfl) rfl rfl ?_
    refine D.take 8 rfl (by kernel_rfl) (fun _ h => h) (q_loadW (wide_ints wd29 (by first | omega | (simp; done) | (simp [-List.getD_eq_getElem?_getD]; omega) | (simp at *; omega) | rfl)) (R_blk 0 rfl) rfl rfl) (Wt.yes rfl rfl rfl) rfl rfl ?_
    refine D.one 7 (by kernel_rfl) ?_
    refine Up.eff rfl (e_call enters30 rfl rfl (fun w hm => later_spec xs (by first | omega | (simp; done) | (simp; omega) | (simp at *; omega)) w (R_ext hg0.ext w hm) (R_ext hg1.ext w hm) (R_ext hg2.ext w hm)) rfl rfl) (Wt.yes rfl rfl rfl) ?_
    rintro _ _ ⟨_, _, ⟨rfl, rfl⟩, rfl, rfl⟩
    refine ⟨fun _ => (fun _ h => h), ?_⟩
    change (_ : List Blk → Prop) [_]
    refine D.one 9 (by kernel_rfl) ?_
    refine Up.eff rfl (e_call enters31 rfl rfl (fun w hm => reflater_spec xs (by first | omega | (simp; done) | (simp; omega) | (simp at *; omega)) w) rfl rfl) (Wt.yes rfl rfl rfl) ?_
    rintro _ _ ⟨_, _, ⟨rfl, rfl⟩, rfl, rfl⟩
    refine ⟨fun _ => (fun _ h => h), ?_⟩
    change (_ : List Blk → Prop) [_]
    refine D.take 10 rfl (by kernel_rfl) (fun _ h => h) (q_bool (b := false) (q_neqA ar29 ss5 un5 eg29 rfl rfl rfl (by first | omega | (simp; done) | (simp [-List.getD_eq_getElem?_getD]; omega) | (simp at *; omega) | rfl) (by first | omega | (simp; done) | (simp [-List.getD_eq_getElem?_getD]; omega) | (simp at *; omega) | rfl)) ?hE) (Wt.yes rfl rfl rfl) rfl rfl ?_
    case hE => simp
    refine D.take 11 rfl (by kernel_rfl) (fun _ h => h) (q_pickF rfl rfl rfl) (Wt.plain rfl) rfl rfl ?_
    refine D.done (by kernel_rfl) ?_
    refine Ex.next ?_
    refine W.slots (L' := [(3, _), (4, _), (5, _), (23, _)]) ⟨rfl, rfl, rfl, rfl, trivial⟩ ?_
    refine W.condF rfl ?_
    refine W.skip ?_
    refine Ex.next ?_
    refine W.slots (L' := [(3, _), (4, _), (5, _)]) ⟨rfl, rfl, rfl, trivial⟩ ?_
    refine W.region ?_
    refine T.q (q_loadW (wide_ints wd29 (by first | omega | (simp; done) | (simp [-List.getD_eq_getElem?_getD]; omega) | (simp at *; omega) | rfl)) (R_blk 0 rfl) rfl rfl) (Wt.plain rfl) rfl rfl ?_
    refine T.eff (e_call enters30 rfl rfl (fun w hm => later_spec xs (by first | omega | (simp; done) | (simp; omega) | (simp at *; omega)) w (R_ext hg0.ext w hm) (R_ext hg1.ext w hm) (R_ext hg2.ext w hm)) rfl rfl) (Wt.plain rfl) ?_
    rintro _ _ ⟨_, _, ⟨rfl, rfl⟩, rfl, rfl⟩
    change (_ : List Blk → Prop) [_]
    refine T.eff (e_storeA (wide_ints wd29 (by first | omega | (simp; done) | (simp [-List.getD_eq_getElem?_getD]; omega) | (simp at *; omega) | rfl)) 0 rfl rfl rfl rfl (by first | omega | (simp; done) | (simp [-List.getD_eq_getElem?_getD]; omega) | (simp at *; omega) | rfl) ints_one rfl) (Wt.plain rfl) ?_
    rintro _ _ ⟨rfl, rfl⟩
    change (_ : List Blk → Prop) [_]
    refine T.nil ?_
    refine Ex.in_normal ?_
    refine Ex.next ?_
    refine W.slots (L' := [(3, _), (4, _), (5, _)]) ⟨rfl, rfl, rfl, trivial⟩ ?_
    refine W.region ?_
    refine T.q (q_move rfl rfl) (Wt.plain rfl) rfl rfl ?_
    refine T.q (q_addi rfl rfl rfl (by omega) (by omega)) (Wt.plain rfl) rfl rfl ?_
    refine T.q (q_assign rfl rfl) (Wt.plain rfl) rfl rfl ?_
    refine T.nil ?_
    exact Ex.again [true] (⟨i + 1, laterS xs⟩ : Nat × List Int) (by dsimp only; omega) ⟨by dsimp only; omega, by dsimp only; exact laterS_length _⟩ ⟨rfl, rfl, rfl, trivial⟩ (by first | (dsimp only [pick]; done) | rfl)
  · replace hb3 := of_decide_eq_false hb3
    refine W.exit ?_
    refine Ex.then_exit ?_
    refine Ex.then_exit ?_
    refine Ex.in_here ?_
    refine Ex.next ?_
    refine W.slots (L' := [(3, _)]) ⟨rfl, trivial⟩ ?_
    refine W.seq ?_
    refine W.region ?_
    refine T.q (q_move rfl rfl) (Wt.plain rfl) rfl rfl ?_
    refine T.q (q_assign rfl rfl) (Wt.plain rfl) rfl rfl ?_
    refine T.nil ?_
    refine Ex.next ?_
    refine W.slots (L' := [(2, _)]) ⟨rfl, trivial⟩ ?_
    refine W.ret ?_
    refine Ex.out1 [false] rfl rfl ?_
    exact ⟨rfl, rfl⟩
set_option maxRecDepth 100000 in
theorem extracts_law (key b : List Int) (KA BA : Option Addr) (kc bc : Nat) (hkc : key.length ≤ kc) (hbc : b.length ≤ bc) (hkb : key.length ≤ 140737488351232) (hbl : b.length ≤ 140737488351232) (w0 : World) (hK : Reads w0 KA (ints .u8 key)) (hB : Reads w0 BA (ints .u8 b)) (hg0 : Reads w0 (some ⟨0, 0, none⟩) (ints .u32 startW)) (hg1 : Reads w0 (some ⟨1, 0, none⟩) (ints .u8 sgm)) (hg2 : Reads w0 (some ⟨2, 0, none⟩) (ints .u8 tbl)) : Does Tryd.prog 12 #[.slice KA key.length kc, .slice BA b.length bc] w0 [] (fun v G => v = .bool true ∧ G = []) := by
  refine spec_of 39 Tryd.func12 rfl rfl rfl ?_
  refine W.seq ?_
  refine W.region ?_
  refine T.q (q_assign rfl rfl) (Wt.plain rfl) rfl rfl ?_
  refine T.nil ?_
  refine Ex.next ?_
  refine W.slots (L' := [(0, _), (1, _)]) ⟨rfl, rfl, trivial⟩ ?_
  refine W.seq ?_
  refine W.region ?_
  refine T.eff (e_call enters25 rfl rfl (fun w hm => shown08_spec w (R_ext hg0.ext w hm) (R_ext hg1.ext w hm) (R_ext hg2.ext w hm)) rfl rfl) (Wt.plain rfl) ?_
  rintro _ _ ⟨_, _, ⟨rfl, rfl⟩, rfl, rfl⟩
  change (_ : List Blk → Prop) []
  refine T.q (q_assign rfl rfl) (Wt.plain rfl) rfl rfl ?_
  refine T.nil ?_
  refine Ex.next ?_
  refine W.slots (L' := [(0, _), (1, _), (5, _)]) ⟨rfl, rfl, rfl, trivial⟩ ?_
  refine W.seq ?_
  refine W.region ?_
  refine T.eff (e_litA sc22 ze5 rfl rfl rfl (by simp [Value.cells]) rfl rfl rfl) (Wt.plain rfl) ?_
  rintro _ _ ⟨k1, rfl, rfl⟩
  change (_ : List Blk → Prop) [_]
  refine T.q (q_move rfl rfl) (Wt.plain rfl) rfl rfl ?_
  refine T.eff (e_appendI sc22 ze5 rfl 0 .u8 [] b [] ((List.append_nil _).symm) (R_ext hB.ext) rfl rfl rfl rfl (by first | omega | (simp; done) | (simp [-List.getD_eq_getElem?_getD]; omega) | (simp at *; omega) | rfl) (by first | omega | (simp; done) | (simp [-List.getD_eq_getElem?_getD]; omega) | (simp at *; omega) | rfl) (by first | omega | (simp; done) | (simp [-List.getD_eq_getElem?_getD]; omega) | (simp at *; omega) | rfl) (by first | omega | (simp; done) | (simp [-List.getD_eq_getElem?_getD]; omega)) (by first | omega | (simp; done) | (simp [-List.getD_eq_getElem?_getD]; omega)) rfl rfl) (Wt.plain rfl) ?_
  rintro _ _ ⟨k2, cap3, junk4, hc5, rfl, rfl⟩
  change (_ : List Blk → Prop) [_]
  refine T.q (q_assign rfl rfl) (Wt.plain rfl) rfl rfl ?_
  refine T.nil ?_
  refine Ex.next ?_
  refine W.slots (L' := [(0, _), (1, _), (5, _), (6, _)]) ⟨rfl, rfl, rfl, rfl, trivial⟩ ?_
  refine W.seq ?_
  refine W.region ?_
  refine T.eff (e_litA sc22 ze5 rfl rfl rfl (by simp [Value.cells]) rfl rfl rfl) (Wt.plain rfl) ?_
  rintro _ _ ⟨k6, rfl, rfl⟩
  change (_ : List Blk → Prop) [_, _]
  refine T.q (q_move rfl rfl) (Wt.plain rfl) rfl rfl ?_
  refine T.eff (e_appendI sc22 ze5 rfl 1 .u8 [] key [] ((List.append_nil _).symm) (R_ext hK.ext) rfl rfl rfl rfl (by first | omega | (simp; done) | (simp [-List.getD_eq_getElem?_getD]; omega) | (simp at *; omega) | rfl) (by first | omega | (simp; done) | (simp [-List.getD_eq_getElem?_getD]; omega) | (simp at *; omega) | rfl) (by first | omega | (simp; done) | (simp [-List.getD_eq_getElem?_getD]; omega) | (simp at *; omega) | rfl) (by first | omega | (simp; done) | (simp [-List.getD_eq_getElem?_getD]; omega)) (by first | omega | (simp; done) | (simp [-List.getD_eq_getElem?_getD]; omega)) rfl rfl) (Wt.plain rfl) ?_
  rintro _ _ ⟨k7, cap8, junk9, hc10, rfl, rfl⟩
  change (_ : List Blk → Prop) [_, _]
  refine T.q (q_assign rfl rfl) (Wt.plain rfl) rfl rfl ?_
  refine T.nil ?_
  refine Ex.next ?_
  refine W.slots (L' := [(0, _), (1, _), (5, _), (6, _), (7, _)]) ⟨rfl, rfl, rfl, rfl, rfl, trivial⟩ ?_
  refine W.seq ?_
  refine W.region ?_
  refine T.q (q_move rfl rfl) (Wt.plain rfl) rfl rfl ?_
  refine T.q (q_move rfl rfl) (Wt.plain rfl) rfl rfl ?_
  refine T.q (q_move rfl rfl) (Wt.yes rfl rfl rfl) rfl rfl ?_
  refine T.q (q_move rfl rfl) (Wt.yes rfl rfl rfl) rfl rfl ?_
  refine T.eff (e_call enters32 rfl rfl (fun w hm => extract_at ([] ++ key) ([] ++ b) _ _ _ _ (by first | omega | (simp; done) | (simp; omega) | (simp at *; omega)) (by first | omega | (simp; done) | (simp; omega) | (simp at *; omega)) (by first | omega | (simp; done) | (simp; omega) | (simp at *; omega)) (by first | omega | (simp; done) | (simp; omega) | (simp at *; omega)) w ((R_pre 1 rfl) w hm) ((R_pre 0 rfl) w hm) (R_ext hg0.ext w hm) (R_ext hg1.ext w hm) (R_ext hg2.ext w hm) (by first | omega | (simp; done) | (simp [-List.getD_eq_getElem?_getD]; omega) | (simp at *; omega) | rfl) (by first | omega | (simp; done) | (simp [-List.getD_eq_getElem?_getD]; omega) | (simp at *; omega) | rfl)) rfl rfl) (Wt.yes rfl rfl rfl) ?_
  rintro _ _ ⟨_, _, ⟨rfl, rfl⟩, rfl, rfl⟩
  change (_ : List Blk → Prop) [_, _]
  refine T.q (q_move rfl rfl) (Wt.yes rfl rfl rfl) rfl rfl ?_
  refine T.q (q_move rfl rfl) (Wt.yes rfl rfl rfl) rfl rfl ?_
  refine T.eff (e_call enters33 rfl rfl (fun w hm => refextract_at key b _ _ _ _ (by first | omega | (simp; done) | (simp; omega) | (simp at *; omega)) (by first | omega | (simp; done) | (simp; omega) | (simp at *; omega)) (by first | omega | (simp; done) | (simp; omega) | (simp at *; omega)) (by first | omega | (simp; done) | (simp; omega) | (simp at *; omega)) w ((R_ext hK.ext) w hm) ((R_ext hB.ext) w hm) (by first | omega | (simp; done) | (simp [-List.getD_eq_getElem?_getD]; omega) | (simp at *; omega) | rfl) (by first | omega | (simp; done) | (simp [-List.getD_eq_getElem?_getD]; omega) | (simp at *; omega) | rfl)) rfl rfl) (Wt.yes rfl rfl rfl) ?_
  rintro _ _ ⟨_, _, ⟨rfl, rfl⟩, rfl, rfl⟩
  change (_ : List Blk → Prop) [_, _]
  refine T.q (q_bool (b := true) (q_eqlA ar29 ss5 un5 eg29 rfl rfl rfl (by first | omega | (simp; done) | (simp [-List.getD_eq_getElem?_getD]; omega) | (simp at *; omega) | rfl) (by first | omega | (simp; done) | (simp [-List.getD_eq_getElem?_getD]; omega) | (simp at *; omega) | rfl)) (decide_eq_true rfl)) (Wt.yes rfl rfl rfl) rfl rfl ?_
  refine T.q (q_pickT rfl rfl rfl) (Wt.plain rfl) rfl rfl ?_
  refine T.q (q_move rfl rfl) (Wt.plain rfl) rfl rfl ?_
  refine T.q (q_move rfl rfl) (Wt.yes rfl rfl rfl) rfl rfl ?_
  refine T.q (q_bstr sc22 un5 un9 (R_pre 0 rfl) (by first | omega | (simp; done) | (simp [-List.getD_eq_getElem?_getD]; omega) | (simp at *; omega) | rfl) rfl rfl) (Wt.yes rfl rfl rfl) rfl rfl ?_
  refine T.q (q_move rfl rfl) (Wt.yes rfl rfl rfl) rfl rfl ?_
  refine T.q (q_bstr sc22 un5 un9 (R_ext hB.ext) (by first | omega | (simp; done) | (simp [-List.getD_eq_getElem?_getD]; omega) | (simp at *; omega) | rfl) rfl rfl) (Wt.yes rfl rfl rfl) rfl rfl ?_
  refine T.q (q_bool (b := true) (q_eqlS rfl rfl rfl) (beq_self_eq_true _)) (Wt.yes rfl rfl rfl) rfl rfl ?_
  refine T.q (q_pickT rfl rfl rfl) (Wt.plain rfl) rfl rfl ?_
  refine T.q (q_move rfl rfl) (Wt.plain rfl) rfl rfl ?_
  refine T.q (q_move rfl rfl) (Wt.yes rfl rfl rfl) rfl rfl ?_
  refine T.q (q_bstr sc22 un5 un9 (R_pre 1 rfl) (by first | omega | (simp; done) | (simp [-List.getD_eq_getElem?_getD]; omega) | (simp at *; omega) | rfl) rfl rfl) (Wt.yes rfl rfl rfl) rfl rfl ?_
  refine T.q (q_move rfl rfl) (Wt.yes rfl rfl rfl) rfl rfl ?_
  refine T.q (q_bstr sc22 un5 un9 (R_ext hK.ext) (by first | omega | (simp; done) | (simp [-List.getD_eq_getElem?_getD]; omega) | (simp at *; omega) | rfl) rfl rfl) (Wt.yes rfl rfl rfl) rfl rfl ?_
  refine T.q (q_bool (b := true) (q_eqlS rfl rfl rfl) (beq_self_eq_true _)) (Wt.yes rfl rfl rfl) rfl rfl ?_
  refine T.q (q_pickT rfl rfl rfl) (Wt.plain rfl) rfl rfl ?_
  refine T.q (q_assign rfl rfl) (Wt.plain rfl) rfl rfl ?_
  refine T.nil ?_
  refine Ex.next ?_
  refine W.less (L' := [(4, _)]) [false, false] ⟨rfl, trivial⟩ ?_
  change (_ : List Blk → Prop) []
  refine W.ret ?_
  refine Ex.out1 [] rfl rfl ?_
  exact ⟨rfl, rfl⟩
set_option maxRecDepth 100000 in
theorem chains_law (key b : List Int) (BA : Option Addr) (bc : Nat) (hk : key.length = 32) (hbc : b.length ≤ bc) (hbl : b.length ≤ 140737488351232) (w0 : World) (hB : Reads w0 BA (ints .u8 b)) (hg0 : Reads w0 (some ⟨0, 0, none⟩) (ints .u32 startW)) (hg1 : Reads w0 (some ⟨1, 0, none⟩) (ints .u8 sgm)) (hg2 : Reads w0 (some ⟨2, 0, none⟩) (ints .u8 tbl)) : Does Tryd.prog 13 #[.agg (ints .u8 key).toArray, .slice BA b.length bc] w0 [] (fun v G => v = .bool true ∧ G = []) := by
  refine spec_of 34 Tryd.func13 rfl rfl rfl ?_
  refine W.seq ?_
  refine W.region ?_
  refine T.eff (e_box rfl rfl rfl rfl) (Wt.plain rfl) ?_
  rintro _ _ ⟨k1, rfl, rfl⟩
  change (_ : List Blk → Prop) [_]
  refine T.q (q_assign rfl rfl) (Wt.plain rfl) rfl rfl ?_
  refine T.nil ?_
  refine Ex.next ?_
  refine W.slots (L' := [(1, _), (2, _)]) ⟨rfl, rfl, trivial⟩ ?_
  refine W.seq ?_
  refine W.region ?_
  refine T.eff (e_call enters25 rfl rfl (fun w hm => shown08_spec w (R_ext hg0.ext w hm) (R_ext hg1.ext w hm) (R_ext hg2.ext w hm)) rfl rfl) (Wt.plain rfl) ?_
  rintro _ _ ⟨_, _, ⟨rfl, rfl⟩, rfl, rfl⟩
  change (_ : List Blk → Prop) [_]
  refine T.q (q_assign rfl rfl) (Wt.plain rfl) rfl rfl ?_
  refine T.nil ?_
  refine Ex.next ?_
  refine W.slots (L' := [(1, _), (2, _), (5, _)]) ⟨rfl, rfl, rfl, trivial⟩ ?_
  refine W.seq ?_
  refine W.region ?_
  refine T.q (q_loadW (wide_ints wd29 (by first | omega | (simp; done) | (simp [-List.getD_eq_getElem?_getD]; omega) | (simp at *; omega) | rfl)) (R_blk 0 rfl) rfl rfl) (Wt.plain rfl) rfl rfl ?_
  refine T.q (q_move rfl rfl) (Wt.plain rfl) rfl rfl ?_
  refine T.eff (e_call enters34 rfl rfl (fun w hm => chain_spec key b _ _ (by first | omega | (simp; done) | (simp; omega) | (simp at *; omega)) (by first | omega | (simp; done) | (simp; omega) | (simp at *; omega)) (by first | omega | (simp; done) | (simp; omega) | (simp at *; omega)) w ((R_ext hB.ext) w hm) (R_ext hg0.ext w hm) (R_ext hg1.ext w hm) (R_ext hg2.ext w hm)) rfl rfl) (Wt.plain rfl) ?_
  rintro _ _ ⟨_, _, ⟨rfl, rfl⟩, rfl, rfl⟩
  change (_ : List Blk → Prop) [_]
  refine T.q (q_move rfl rfl) (Wt.plain rfl) rfl rfl ?_
  refine T.q (q_extract rfl rfl rfl) (Wt.plain rfl) rfl rfl ?_
  refine T.q (q_extract rfl rfl rfl) (Wt.plain rfl) rfl rfl ?_
  refine T.eff (e_alloc ze29 rfl rfl rfl) (Wt.plain rfl) ?_
  rintro _ _ ⟨k2, rfl, rfl⟩
  change (_ : List Blk → Prop) [_, _]
  refine T.eff (e_alloc ze29 rfl rfl rfl) (Wt.plain rfl) ?_
  rintro _ _ ⟨k3, rfl, rfl⟩
  change (_ : List Blk → Prop) [_, _, _]
  refine T.eff (e_storeA (wide_ints wd29 (by first | omega | (simp; done) | (simp [-List.getD_eq_getElem?_getD]; omega) | (simp at *; omega) | rfl)) 1 rfl rfl rfl rfl (by first | omega | (simp; done) | (simp [-List.getD_eq_getElem?_getD]; omega) | (simp at *; omega) | rfl) ints_one rfl) (Wt.plain rfl) ?_
  rintro _ _ ⟨rfl, rfl⟩
  change (_ : List Blk → Prop) [_, _, _]
  refine T.eff (e_storeA (wide_ints wd29 (by first | omega | (simp; done) | (simp [-List.getD_eq_getElem?_getD]; omega) | (simp at *; omega) | rfl)) 2 rfl rfl rfl rfl (by first | omega | (simp; done) | (simp [-List.getD_eq_getElem?_getD]; omega) | (simp at *; omega) | rfl) ints_one rfl) (Wt.plain rfl) ?_
  rintro _ _ ⟨rfl, rfl⟩
  change (_ : List Blk → Prop) [_, _, _]
  refine T.nil ?_
  refine Ex.next ?_
  refine W.slots (L' := [(1, _), (2, _), (5, _), (6, _), (7, _)]) ⟨rfl, rfl, rfl, rfl, rfl, trivial⟩ ?_
  refine W.seq ?_
  refine W.region ?_
  refine T.q (q_loadW (wide_ints wd29 (by first | omega | (simp; done) | (simp [-List.getD_eq_getElem?_getD]; omega) | (simp at *; omega) | rfl)) (R_blk 0 rfl) rfl rfl) (Wt.plain rfl) rfl rfl ?_
  refine T.q (q_move rfl rfl) (Wt.plain rfl) rfl rfl ?_
  refine T.eff (e_call enters35 rfl rfl (fun w hm => refchain_spec key b _ _ (by first | omega | (simp; done) | (simp; omega) | (simp at *; omega)) (by first | omega | (simp; done) | (simp; omega) | (simp at *; omega)) (by first | omega | (simp; done) | (simp; omega) | (simp at *; omega)) w ((R_ext hB.ext) w hm)) rfl rfl) (Wt.plain rfl) ?_
  rintro _ _ ⟨_, _, ⟨rfl, rfl⟩, rfl, rfl⟩
  change (_ : List Blk → Prop) [_, _, _]
  refine T.q (q_move rfl rfl) (Wt.plain rfl) rfl rfl ?_
  refine T.q (q_extract rfl rfl rfl) (Wt.plain rfl) rfl rfl ?_
  refine T.q (q_extract rfl rfl rfl) (Wt.plain rfl) rfl rfl ?_
  refine T.eff (e_alloc ze29 rfl rfl rfl) (Wt.plain rfl) ?_
  rintro _ _ ⟨k4, rfl, rfl⟩
  change (_ : List Blk → Prop) [_, _, _, _]
  refine T.eff (e_alloc ze29 rfl rfl rfl) (Wt.plain rfl) ?_
  rintro _ _ ⟨k5, rfl, rfl⟩
  change (_ : List Blk → Prop) [_, _, _, _, _]
  refine T.eff (e_storeA (wide_ints wd29 (by first | omega | (simp; done) | (simp [-List.getD_eq_getElem?_getD]; omega) | (simp at *; omega) | rfl)) 3 rfl rfl rfl rfl (by first | omega | (simp; done) | (simp [-List.getD_eq_getElem?_getD]; omega) | (simp at *; omega) | rfl) ints_one rfl) (Wt.plain rfl) ?_
  rintro _ _ ⟨rfl, rfl⟩
  change (_ : List Blk → Prop) [_, _, _, _, _]
  refine T.eff (e_storeA (wide_ints wd29 (by first | omega | (simp; done) | (simp [-List.getD_eq_getElem?_getD]; omega) | (simp at *; omega) | rfl)) 4 rfl rfl rfl rfl (by first | omega | (simp; done) | (simp [-List.getD_eq_getElem?_getD]; omega) | (simp at *; omega) | rfl) ints_one rfl) (Wt.plain rfl) ?_
  rintro _ _ ⟨rfl, rfl⟩
  change (_ : List Blk → Prop) [_, _, _, _, _]
  refine T.nil ?_
  refine Ex.next ?_
  refine W.less (L' := [(5, _), (6, _), (7, _), (8, _), (9, _)]) [false, true, true, true, true] ⟨rfl, rfl, rfl, rfl, rfl, trivial⟩ ?_
  change (_ : List Blk → Prop) [_, _, _, _]
  refine W.seq ?_
  refine W.region ?_
  refine T.q (q_move rfl rfl) (Wt.plain rfl) rfl rfl ?_
  refine T.q (q_move rfl rfl) (Wt.plain rfl) rfl rfl ?_
  refine T.q (q_loadW (wide_ints wd29 (by first | omega | (simp; done) | (simp [-List.getD_eq_getElem?_getD]; omega) | (simp at *; omega) | rfl)) (R_blk 0 rfl) rfl rfl) (Wt.yes rfl rfl rfl) rfl rfl ?_
  refine T.q (q_loadW (wide_ints wd29 (by first | omega | (simp; done) | (simp [-List.getD_eq_getElem?_getD]; omega) | (simp at *; omega) | rfl)) (R_blk 2 rfl) rfl rfl) (Wt.yes rfl rfl rfl) rfl rfl ?_
  refine T.q (q_bool (b := true) (q_eqlA ar29 ss5 un5 eg29 rfl rfl rfl (by first | omega | (simp; done) | (simp [-List.getD_eq_getElem?_getD]; omega) | (simp at *; omega) | rfl) (by first | omega | (simp; done) | (simp [-List.getD_eq_getElem?_getD]; omega) | (simp at *; omega) | rfl)) (decide_eq_true rfl)) (Wt.yes rfl rfl rfl) rfl rfl ?_
  refine T.q (q_pickT rfl rfl rfl) (Wt.plain rfl) rfl rfl ?_
  refine T.q (q_move rfl rfl) (Wt.plain rfl) rfl rfl ?_
  refine T.q (q_loadW (wide_ints wd29 (by first | omega | (simp; done) | (simp [-List.getD_eq_getElem?_getD]; omega) | (simp at *; omega) | rfl)) (R_blk 1 rfl) rfl rfl) (Wt.yes rfl rfl rfl) rfl rfl ?_
  refine T.q (q_loadW (wide_ints wd29 (by first | omega | (simp; done) | (simp [-List.getD_eq_getElem?_getD]; omega) | (simp at *; omega) | rfl)) (R_blk 3 rfl) rfl rfl) (Wt.yes rfl rfl rfl) rfl rfl ?_
  refine T.q (q_bool (b := true) (q_eqlA ar29 ss5 un5 eg29 rfl rfl rfl (by first | omega | (simp; done) | (simp [-List.getD_eq_getElem?_getD]; omega) | (simp at *; omega) | rfl) (by first | omega | (simp; done) | (simp [-List.getD_eq_getElem?_getD]; omega) | (simp at *; omega) | rfl)) (decide_eq_true rfl)) (Wt.yes rfl rfl rfl) rfl rfl ?_
  refine T.q (q_pickT rfl rfl rfl) (Wt.plain rfl) rfl rfl ?_
  refine T.q (q_assign rfl rfl) (Wt.plain rfl) rfl rfl ?_
  refine T.nil ?_
  refine Ex.next ?_
  refine W.less (L' := [(4, _)]) [false, false, false, false] ⟨rfl, trivial⟩ ?_
  change (_ : List Blk → Prop) []
  refine W.ret ?_
  refine Ex.out1 [] rfl rfl ?_
  exact ⟨rfl, rfl⟩
set_option maxRecDepth 100000 in
theorem salts_law (key b : List Int) (BA : Option Addr) (bc : Nat) (hk : key.length = 32) (hbc : b.length ≤ bc) (hbl : b.length ≤ 140737488351232) (w0 : World) (hB : Reads w0 BA (ints .u8 b)) (hg0 : Reads w0 (some ⟨0, 0, none⟩) (ints .u32 startW)) (hg1 : Reads w0 (some ⟨1, 0, none⟩) (ints .u8 sgm)) (hg2 : Reads w0 (some ⟨2, 0, none⟩) (ints .u8 tbl)) : Does Tryd.prog 14 #[.agg (ints .u8 key).toArray, .slice BA b.length bc] w0 [] (fun v G => v = .bool true ∧ G = []) := by
  refine spec_of 47 Tryd.func14 rfl rfl rfl ?_
  refine W.seq ?_
  refine W.region ?_
  refine T.eff (e_box rfl rfl rfl rfl) (Wt.plain rfl) ?_
  rintro _ _ ⟨k1, rfl, rfl⟩
  change (_ : List Blk → Prop) [_]
  refine T.q (q_assign rfl rfl) (Wt.plain rfl) rfl rfl ?_
  refine T.nil ?_
  refine Ex.next ?_
  refine W.slots (L' := [(1, _), (2, _)]) ⟨rfl, rfl, trivial⟩ ?_
  refine W.seq ?_
  refine W.region ?_
  refine T.eff (e_call enters25 rfl rfl (fun w hm => shown08_spec w (R_ext hg0.ext w hm) (R_ext hg1.ext w hm) (R_ext hg2.ext w hm)) rfl rfl) (Wt.plain rfl) ?_
  rintro _ _ ⟨_, _, ⟨rfl, rfl⟩, rfl, rfl⟩
  change (_ : List Blk → Prop) [_]
  refine T.q (q_assign rfl rfl) (Wt.plain rfl) rfl rfl ?_
  refine T.nil ?_
  refine Ex.next ?_
  refine W.slots (L' := [(1, _), (2, _), (5, _)]) ⟨rfl, rfl, rfl, trivial⟩ ?_
  refine W.seq ?_
  refine W.region ?_
  refine T.q (q_loadW (wide_ints wd29 (by first | omega | (simp; done) | (simp [-List.getD_eq_getElem?_getD]; omega) | (simp at *; omega) | rfl)) (R_blk 0 rfl) rfl rfl) (Wt.plain rfl) rfl rfl ?_
  refine T.q (q_move rfl rfl) (Wt.plain rfl) rfl rfl ?_
  refine T.eff (e_call enters34 rfl rfl (fun w hm => chain_spec key b _ _ (by first | omega | (simp; done) | (simp; omega) | (simp at *; omega)) (by first | omega | (simp; done) | (simp; omega) | (simp at *; omega)) (by first | omega | (simp; done) | (simp; omega) | (simp at *; omega)) w ((R_ext hB.ext) w hm) (R_ext hg0.ext w hm) (R_ext hg1.ext w hm) (R_ext hg2.ext w hm)) rfl rfl) (Wt.plain rfl) ?_
  rintro _ _ ⟨_, _, ⟨rfl, rfl⟩, rfl, rfl⟩
  change (_ : List Blk → Prop) [_]
  refine T.q (q_move rfl rfl) (Wt.plain rfl) rfl rfl ?_
  refine T.q (q_extract rfl rfl rfl) (Wt.plain rfl) rfl rfl ?_
  refine T.q (q_extract rfl rfl rfl) (Wt.plain rfl) rfl rfl ?_
  refine T.eff (e_alloc ze29 rfl rfl rfl) (Wt.plain rfl) ?_
  rintro _ _ ⟨k2, rfl, rfl⟩
  change (_ : List Blk → Prop) [_, _]
  refine T.eff (e_alloc ze29 rfl rfl rfl) (Wt.plain rfl) ?_
  rintro _ _ ⟨k3, rfl, rfl⟩
  change (_ : List Blk → Prop) [_, _, _]
  refine T.eff (e_storeA (wide_ints wd29 (by first | omega | (simp; done) | (simp [-List.getD_eq_getElem?_getD]; omega) | (simp at *; omega) | rfl)) 1 rfl rfl rfl rfl (by first | omega | (simp; done) | (simp [-List.getD_eq_getElem?_getD]; omega) | (simp at *; omega) | rfl) ints_one rfl) (Wt.plain rfl) ?_
  rintro _ _ ⟨rfl, rfl⟩
  change (_ : List Blk → Prop) [_, _, _]
  refine T.eff (e_storeA (wide_ints wd29 (by first | omega | (simp; done) | (simp [-List.getD_eq_getElem?_getD]; omega) | (simp at *; omega) | rfl)) 2 rfl rfl rfl rfl (by first | omega | (simp; done) | (simp [-List.getD_eq_getElem?_getD]; omega) | (simp at *; omega) | rfl) ints_one rfl) (Wt.plain rfl) ?_
  rintro _ _ ⟨rfl, rfl⟩
  change (_ : List Blk → Prop) [_, _, _]
  refine T.nil ?_
  refine Ex.next ?_
  refine W.slots (L' := [(1, _), (2, _), (5, _), (6, _), (7, _)]) ⟨rfl, rfl, rfl, rfl, rfl, trivial⟩ ?_
  refine W.seq ?_
  refine W.region ?_
  refine T.q (q_slAll ar29 rfl rfl) (Wt.plain rfl) rfl rfl ?_
  refine T.q (q_move rfl rfl) (Wt.plain rfl) rfl rfl ?_
  refine T.eff (e_call enters32 rfl rfl (fun w hm => extract_at key b _ _ _ _ (by first | omega | (simp; done) | (simp; omega) | (simp at *; omega)) (by first | omega | (simp; done) | (simp; omega) | (simp at *; omega)) (by first | omega | (simp; done) | (simp; omega) | (simp at *; omega)) (by first | omega | (simp; done) | (simp; omega) | (simp at *; omega)) w ((R_blk 0 rfl) w hm) ((R_ext hB.ext) w hm) (R_ext hg0.ext w hm) (R_ext hg1.ext w hm) (R_ext hg2.ext w hm) (by first | omega | (simp; done) | (simp [-List.getD_eq_getElem?_getD]; omega) | (simp at *; omega) | rfl) (by first | omega | (simp; done) | (simp [-List.getD_eq_getElem?_getD]; omega) | (simp at *; omega) | rfl)) rfl rfl) (Wt.plain rfl) ?_
  rintro _ _ ⟨_, _, ⟨rfl, rfl⟩, rfl, rfl⟩
  change (_ : List Blk → Prop) [_, _, _]
  refine T.eff (e_call enters26 rfl rfl (fun w hm => expand_at (macS key b) [] _ _ (by first | omega | (simp; done) | (simp; omega) | (simp at *; omega)) (by first | omega | (simp; done) | (simp; omega) | (simp at *; omega)) (by first | omega | (simp; done) | (simp; omega) | (simp at *; omega)) 64 (by first | omega | (simp; done) | (simp; omega) | (simp at *; omega)) w ((R_nilI .u8) w hm) (R_ext hg0.ext w hm) (R_ext hg1.ext w hm) (R_ext hg2.ext w hm) (by first | omega | (simp; done) | (simp [-List.getD_eq_getElem?_getD]; omega) | (simp at *; omega) | rfl)) rfl rfl) (Wt.plain rfl) ?_
  rintro _ _ ⟨_, _, ⟨k4, junk6, rfl, hc7, rfl⟩, rfl, rfl⟩
  change (_ : List Blk → Prop) [_, _, _, _]
  refine T.q (q_move rfl rfl) (Wt.plain rfl) rfl rfl ?_
  refine T.q (q_extract rfl rfl rfl) (Wt.plain rfl) rfl rfl ?_
  refine T.q (q_extract rfl rfl rfl) (Wt.plain rfl) rfl rfl ?_
  refine T.q (q_assign rfl rfl) (Wt.plain rfl) rfl rfl ?_
  refine T.q (q_assign rfl rfl) (Wt.plain rfl) rfl rfl ?_
  refine T.nil ?_
  refine Ex.next ?_
  refine W.less (L' := [(1, _), (5, _), (6, _), (7, _), (8, _), (9, _)]) [false, true, true, true] ⟨rfl, rfl, rfl, rfl, rfl, rfl, trivial⟩ ?_
  change (_ : List Blk → Prop) [_, _, _]
  refine W.seq ?_
  refine W.draw 23 (by kernel_rfl) ?_
  refine D.take 0 rfl (by kernel_rfl) (fun _ h => h) (q_move rfl rfl) (Wt.plain rfl) rfl rfl ?_
  refine D.take 1 rfl (by kernel_rfl) (fun _ h => h) (q_move rfl rfl) (Wt.plain rfl) rfl rfl ?_
  refine D.take 2 rfl (by kernel_rfl) (fun _ h => h) (q_move rfl rfl) (Wt.yes rfl rfl rfl) rfl rfl ?_
  refine D.take 5 rfl (by kernel_rfl) (fun _ h => h) (q_move rfl rfl) (Wt.yes rfl rfl rfl) rfl rfl ?_
  refine D.two 3 4 (by kernel_rfl) ?_ ?_
  ·
    refine Up.eff rfl (e_call enters32 rfl rfl (fun w hm => extract_at [] b _ _ _ _ (by first | omega | (simp; done) | (simp; omega) | (simp at *; omega)) (by first | omega | (simp; done) | (simp; omega) | (simp at *; omega)) (by first | omega | (simp; done) | (simp; omega) | (simp at *; omega)) (by first | omega | (simp; done) | (simp; omega) | (simp at *; omega)) w ((R_nilI .u8) w hm) ((R_ext hB.ext) w hm) (R_ext hg0.ext w hm) (R_ext hg1.ext w hm) (R_ext hg2.ext w hm) (by first | omega | (simp; done) | (simp [-List.getD_eq_getElem?_getD]; omega) | (simp at *; omega) | rfl) (by first | omega | (simp; done) | (simp [-List.getD_eq_getElem?_getD]; omega) | (simp at *; omega) | rfl)) rfl rfl) (Wt.yes rfl rfl rfl) ?_
    rintro _ _ ⟨_, _, ⟨rfl, rfl⟩, rfl, rfl⟩
    refine ⟨fun _ => (fun _ h => h), ?_⟩
    change (_ : List Blk → Prop) [_, _, _]
    refine D.one 4 (by kernel_rfl) ?_
    refine Up.eff rfl (e_makeI sc22 ze5 32 32 rfl rfl rfl rfl rfl (by omega) (by omega) (by omega) rfl rfl) (Wt.yes rfl rfl rfl) ?_
    rintro _ _ ⟨k8, rfl, rfl⟩
    refine ⟨fun _ => (S_sub (((((List.Sublist.slnil).cons _).cons_cons _).cons_cons _).cons_cons _)), ?_⟩
    change (_ : List Blk → Prop) [_, _, _, _]
    refine D.one 6 (by kernel_rfl) ?_
    refine Up.eff rfl (e_call enters32 rfl rfl (fun w hm => extract_at (List.replicate 32 0) b _ _ _ _ (by first | omega | (simp; done) | (simp; omega) | (simp at *; omega)) (by first | omega | (simp; done) | (simp; omega) | (simp at *; omega)) (by first | omega | (simp; done) | (simp; omega) | (simp at *; omega)) (by first | omega | (simp; done) | (simp; omega) | (simp at *; omega)) w ((R_blk 3 rfl) w hm) ((R_ext hB.ext) w hm) (R_ext hg0.ext w hm) (R_ext hg1.ext w hm) (R_ext hg2.ext w hm) (by first | omega | (simp; done) | (simp [-List.getD_eq_getElem?_getD]; omega) | (simp at *; omega) | rfl) (by first | omega | (simp; done) | (simp [-List.getD_eq_getElem?_getD]; omega) | (simp at *; omega) | rfl)) rfl rfl) (Wt.yes rfl rfl rfl) ?_
    rintro _ _ ⟨_, _, ⟨rfl, rfl⟩, rfl, rfl⟩
    refine ⟨fun _ => (S_sub (((((List.Sublist.slnil).cons _).cons_cons _).cons_cons _).cons_cons _)), ?_⟩
    change (_ : List Blk → Prop) [_, _, _, _]
    refine D.take 7 rfl (by kernel_rfl) (S_sub (((((List.Sublist.slnil).cons _).cons_cons _).cons_cons _).cons_cons _)) (q_bool (b := true) (q_eqlA ar29 ss5 un5 eg29 rfl rfl rfl (by first | omega | (simp; done) | (simp [-List.getD_eq_getElem?_getD]; omega) | (simp at *; omega) | rfl) (by first | omega | (simp; done) | (simp [-List.getD_eq_getElem?_getD]; omega) | (simp at *; omega) | rfl)) (decide_eq_true (macS_noughts [] b 32 (by decide)).symm)) (Wt.yes rfl rfl rfl) rfl rfl ?_
    refine D.take 8 rfl (by kernel_rfl) (S_sub (((((List.Sublist.slnil).cons _).cons_cons _).cons_cons _).cons_cons _)) (q_pickT rfl rfl rfl) (Wt.plain rfl) rfl rfl ?_
    refine D.take 9 rfl (by kernel_rfl) (S_sub (((((List.Sublist.slnil).cons _).cons_cons _).cons_cons _).cons_cons _)) (q_move rfl rfl) (Wt.plain rfl) rfl rfl ?_
    refine D.take 10 rfl (by kernel_rfl) (S_sub (((((List.Sublist.slnil).cons _).cons_cons _).cons_cons _).cons_cons _)) (q_move rfl rfl) (Wt.yes rfl rfl rfl) rfl rfl ?_
    refine D.take 11 rfl (by kernel_rfl) (S_sub (((((List.Sublist.slnil).cons _).cons_cons _).cons_cons _).cons_cons _)) (q_bool (b := true) (q_eql rfl rfl rfl) (decide_eq_true rfl)) (Wt.yes rfl rfl rfl) rfl rfl ?_
    refine D.take 12 rfl (by kernel_rfl) (S_sub (((((List.Sublist.slnil).cons _).cons_cons _).cons_cons _).cons_cons _)) (q_pickT rfl rfl rfl) (Wt.plain rfl) rfl rfl ?_
    refine D.take 13 rfl (by kernel_rfl) (S_sub (((((List.Sublist.slnil).cons _).cons_cons _).cons_cons _).cons_cons _)) (q_move rfl rfl) (Wt.plain rfl) rfl rfl ?_
    refine D.take 14 rfl (by kernel_rfl) (S_sub (((((List.Sublist.slnil).cons _).cons_cons _).cons_cons _).cons_cons _)) (q_move rfl rfl) (Wt.yes rfl rfl rfl) rfl rfl ?_
    refine D.take 15 rfl (by kernel_rfl) (S_sub (((((List.Sublist.slnil).cons _).cons_cons _).cons_cons _).cons_cons _)) (q_bstr sc22 un5 un9 (R_opre 2 rfl) (by first | omega | (simp; done) | (simp [-List.getD_eq_getElem?_getD]; omega) | (simp at *; omega) | rfl) rfl rfl) (Wt.yes rfl rfl rfl) rfl rfl ?_
    refine D.take 16 rfl (by kernel_rfl) (S_sub (((((List.Sublist.slnil).cons _).cons_cons _).cons_cons _).cons_cons _)) (q_slAll ar29 rfl rfl) (Wt.yes rfl rfl rfl) rfl rfl ?_
    refine D.take 17 rfl (by kernel_rfl) (S_sub (((((List.Sublist.slnil).cons _).cons_cons _).cons_cons _).cons_cons _)) (q_bstr sc22 un5 un9 (R_blk 0 rfl) (by first | omega | (simp; done) | (simp [-List.getD_eq_getElem?_getD]; omega) | (simp at *; omega) | rfl) rfl rfl) (Wt.yes rfl rfl rfl) rfl rfl ?_
    refine D.take 18 rfl (by kernel_rfl) (S_sub (((((List.Sublist.slnil).cons _).cons_cons _).cons_cons _).cons_cons _)) (q_slAll ar29 rfl rfl) (Wt.yes rfl rfl rfl) rfl rfl ?_
    refine D.take 19 rfl (by kernel_rfl) (S_sub (((((List.Sublist.slnil).cons _).cons_cons _).cons_cons _).cons_cons _)) (q_bstr sc22 un5 un9 (R_blk 1 rfl) (by first | omega | (simp; done) | (simp [-List.getD_eq_getElem?_getD]; omega) | (simp at *; omega) | rfl) rfl rfl) (Wt.yes rfl rfl rfl) rfl rfl ?_
    refine D.take 20 rfl (by kernel_rfl) (S_sub (((((List.Sublist.slnil).cons _).cons_cons _).cons_cons _).cons_cons _)) (q_catS rfl rfl rfl (by simp [bstr_size])) (Wt.yes rfl rfl rfl) rfl rfl ?_
    refine D.take 21 rfl (by kernel_rfl) (S_sub (((((List.Sublist.slnil).cons _).cons_cons _).cons_cons _).cons_cons _)) (q_bool (b := true) (q_eqlS rfl rfl rfl) ?hE) (Wt.yes rfl rfl rfl) rfl rfl ?_
    case hE => rw [chain_exp, bstr_app]; exact beq_self_eq_true _
    refine D.take 22 rfl (by kernel_rfl) (S_sub (((((List.Sublist.slnil).cons _).cons_cons _).cons_cons _).cons_cons _)) (q_pickT rfl rfl rfl) (Wt.plain rfl) rfl rfl ?_
    refine D.one 23 (by kernel_rfl) ?_
    refine Up.q rfl (q_assign rfl rfl) (Wt.plain rfl) rfl rfl (fun h => absurd h (by decide)) ?_
    refine D.done (by kernel_rfl) ?_
    refine Ex.next ?_
    refine W.less (L' := [(4, _)]) [false, false, false, false] ⟨rfl, trivial⟩ ?_
    change (_ : List Blk → Prop) []
    refine W.ret ?_
    refine Ex.out1 [] rfl rfl ?_
    exact ⟨rfl, rfl⟩
  ·
    refine Up.eff rfl (e_makeI sc22 ze5 32 32 rfl rfl rfl rfl rfl (by omega) (by omega) (by omega) rfl rfl) (Wt.yes rfl rfl rfl) ?_
    rintro _ _ ⟨k9, rfl, rfl⟩
    refine ⟨fun _ => (S_sub (((((List.Sublist.slnil).cons _).cons_cons _).cons_cons _).cons_cons _)), ?_⟩
    change (_ : List Blk → Prop) [_, _, _, _]
    refine D.one 3 (by kernel_rfl) ?_
    refine Up.eff rfl (e_call enters32 rfl rfl (fun w hm => extract_at [] b _ _ _ _ (by first | omega | (simp; done) | (simp; omega) | (simp at *; omega)) (by first | omega | (simp; done) | (simp; omega) | (simp at *; omega)) (by first | omega | (simp; done) | (simp; omega) | (simp at *; omega)) (by first | omega | (simp; done) | (simp; omega) | (simp at *; omega)) w ((R_nilI .u8) w hm) ((R_ext hB.ext) w hm) (R_ext hg0.ext w hm) (R_ext hg1.ext w hm) (R_ext hg2.ext w hm) (by first | omega | (simp; done) | (simp [-List.getD_eq_getElem?_getD]; omega) | (simp at *; omega) | rfl) (by first | omega | (simp; done) | (simp [-List.getD_eq_getElem?_getD]; omega) | (simp at *; omega) | rfl)) rfl rfl) (Wt.yes rfl rfl rfl) ?_
    rintro _ _ ⟨_, _, ⟨rfl, rfl⟩, rfl, rfl⟩
    refine ⟨fun _ => (S_sub (((((List.Sublist.slnil).cons _).cons_cons _).cons_cons _).cons_cons _)), ?_⟩
    change (_ : List Blk → Prop) [_, _, _, _]
    refine D.one 6 (by kernel_rfl) ?_
    refine Up.eff rfl (e_call enters32 rfl rfl (fun w hm => extract_at (List.replicate 32 0) b _ _ _ _ (by first | omega | (simp; done) | (simp; omega) | (simp at *; omega)) (by first | omega | (simp; done) | (simp; omega) | (simp at *; omega)) (by first | omega | (simp; done) | (simp; omega) | (simp at *; omega)) (by first | omega | (simp; done) | (simp; omega) | (simp at *; omega)) w ((R_blk 3 rfl) w hm) ((R_ext hB.ext) w hm) (R_ext hg0.ext w hm) (R_ext hg1.ext w hm) (R_ext hg2.ext w hm) (by first | omega | (simp; done) | (simp [-List.getD_eq_getElem?_getD]; omega) | (simp at *; omega) | rfl) (by first | omega | (simp; done) | (simp [-List.getD_eq_getElem?_getD]; omega) | (simp at *; omega) | rfl)) rfl rfl) (Wt.yes rfl rfl rfl) ?_
    rintro _ _ ⟨_, _, ⟨rfl, rfl⟩, rfl, rfl⟩
    refine ⟨fun _ => (S_sub (((((List.Sublist.slnil).cons _).cons_cons _).cons_cons _).cons_cons _)), ?_⟩
    change (_ : List Blk → Prop) [_, _, _, _]
    refine D.take 7 rfl (by kernel_rfl) (S_sub (((((List.Sublist.slnil).cons _).cons_cons _).cons_cons _).cons_cons _)) (q_bool (b := true) (q_eqlA ar29 ss5 un5 eg29 rfl rfl rfl (by first | omega | (simp; done) | (simp [-List.getD_eq_getElem?_getD]; omega) | (simp at *; omega) | rfl) (by first | omega | (simp; done) | (simp [-List.getD_eq_getElem?_getD]; omega) | (simp at *; omega) | rfl)) (decide_eq_true (macS_noughts [] b 32 (by decide)).symm)) (Wt.yes rfl rfl rfl) rfl rfl ?_
    refine D.take 8 rfl (by kernel_rfl) (S_sub (((((List.Sublist.slnil).cons _).cons_cons _).cons_cons _).cons_cons _)) (q_pickT rfl rfl rfl) (Wt.plain rfl) rfl rfl ?_
    refine D.take 9 rfl (by kernel_rfl) (S_sub (((((List.Sublist.slnil).cons _).cons_cons _).cons_cons _).cons_cons _)) (q_move rfl rfl) (Wt.plain rfl) rfl rfl ?_
    refine D.take 10 rfl (by kernel_rfl) (S_sub (((((List.Sublist.slnil).cons _).cons_cons _).cons_cons _).cons_cons _)) (q_move rfl rfl) (Wt.yes rfl rfl rfl) rfl rfl ?_
    refine D.take 11 rfl (by kernel_rfl) (S_sub (((((List.Sublist.slnil).cons _).cons_cons _).cons_cons _).cons_cons _)) (q_bool (b := true) (q_eql rfl rfl rfl) (decide_eq_true rfl)) (Wt.yes rfl rfl rfl) rfl rfl ?_
    refine D.take 12 rfl (by kernel_rfl) (S_sub (((((List.Sublist.slnil).cons _).cons_cons _).cons_cons _).cons_cons _)) (q_pickT rfl rfl rfl) (Wt.plain rfl) rfl rfl ?_
    refine D.take 13 rfl (by kernel_rfl) (S_sub (((((List.Sublist.slnil).cons _).cons_cons _).cons_cons _).cons_cons _)) (q_move rfl rfl) (Wt.plain rfl) rfl rfl ?_
    refine D.take 14 rfl (by kernel_rfl) (S_sub (((((List.Sublist.slnil).cons _).cons_cons _).cons_cons _).cons_cons _)) (q_move rfl rfl) (Wt.yes rfl rfl rfl) rfl rfl ?_
    refine D.take 15 rfl (by kernel_rfl) (S_sub (((((List.Sublist.slnil).cons _).cons_cons _).cons_cons _).cons_cons _)) (q_bstr sc22 un5 un9 (R_opre 2 rfl) (by first | omega | (simp; done) | (simp [-List.getD_eq_getElem?_getD]; omega) | (simp at *; omega) | rfl) rfl rfl) (Wt.yes rfl rfl rfl) rfl rfl ?_
    refine D.take 16 rfl (by kernel_rfl) (S_sub (((((List.Sublist.slnil).cons _).cons_cons _).cons_cons _).cons_cons _)) (q_slAll ar29 rfl rfl) (Wt.yes rfl rfl rfl) rfl rfl ?_
    refine D.take 17 rfl (by kernel_rfl) (S_sub (((((List.Sublist.slnil).cons _).cons_cons _).cons_cons _).cons_cons _)) (q_bstr sc22 un5 un9 (R_blk 0 rfl) (by first | omega | (simp; done) | (simp [-List.getD_eq_getElem?_getD]; omega) | (simp at *; omega) | rfl) rfl rfl) (Wt.yes rfl rfl rfl) rfl rfl ?_
    refine D.take 18 rfl (by kernel_rfl) (S_sub (((((List.Sublist.slnil).cons _).cons_cons _).cons_cons _).cons_cons _)) (q_slAll ar29 rfl rfl) (Wt.yes rfl rfl rfl) rfl rfl ?_
    refine D.take 19 rfl (by kernel_rfl) (S_sub (((((List.Sublist.slnil).cons _).cons_cons _).cons_cons _).cons_cons _)) (q_bstr sc22 un5 un9 (R_blk 1 rfl) (by first | omega | (simp; done) | (simp [-List.getD_eq_getElem?_getD]; omega) | (simp at *; omega) | rfl) rfl rfl) (Wt.yes rfl rfl rfl) rfl rfl ?_
    refine D.take 20 rfl (by kernel_rfl) (S_sub (((((List.Sublist.slnil).cons _).cons_cons _).cons_cons _).cons_cons _)) (q_catS rfl rfl rfl (by simp [bstr_size])) (Wt.yes rfl rfl rfl) rfl rfl ?_
    refine D.take 21 rfl (by kernel_rfl) (S_sub (((((List.Sublist.slnil).cons _).cons_cons _).cons_cons _).cons_cons _)) (q_bool (b := true) (q_eqlS rfl rfl rfl) ?hE) (Wt.yes rfl rfl rfl) rfl rfl ?_
    case hE => rw [chain_exp, bstr_app]; exact beq_self_eq_true _
    refine D.take 22 rfl (by kernel_rfl) (S_sub (((((List.Sublist.slnil).cons _).cons_cons _).cons_cons _).cons_cons _)) (q_pickT rfl rfl rfl) (Wt.plain rfl) rfl rfl ?_
    refine D.one 23 (by kernel_rfl) ?_
    refine Up.q rfl (q_assign rfl rfl) (Wt.plain rfl) rfl rfl (fun h => absurd h (by decide)) ?_
    refine D.done (by kernel_rfl) ?_
    refine Ex.next ?_
    refine W.less (L' := [(4, _)]) [false, false, false, false] ⟨rfl, trivial⟩ ?_
    change (_ : List Blk → Prop) []
    refine W.ret ?_
    refine Ex.out1 [] rfl rfl ?_
    exact ⟨rfl, rfl⟩
theorem expands_law (key info : List Int) (IA : Option Addr) (ic : Nat) (hk : key.length = 32) (hic : info.length ≤ ic) (hil : info.length ≤ 140737488351232) (z : Int) (w0 : World) (hI : Reads w0 IA (ints .u8 info)) (hg0 : Reads w0 (some ⟨0, 0, none⟩) (ints .u32 startW)) (hg1 : Reads w0 (some ⟨1, 0, none⟩) (ints .u8 sgm)) (hg2 : Reads w0 (some ⟨2, 0, none⟩) (ints .u8 tbl)) : Does Tryd.prog 9 #[.agg (ints .u8 key).toArray, .slice IA info.length ic, .int .i64 z] w0 [] (fun v G => v = .bool true ∧ G = []) := by
  by_cases h : z < 0 ∨ 8160 < z
  · exact expands_bad key info IA ic hk hic hil z h w0 hI hg0 hg1 hg2
  · obtain ⟨n, rfl⟩ := Int.eq_ofNat_of_zero_le (show 0 ≤ z by omega)
    exact expands_good key info IA ic hk hic hil n (by omega) w0 hI hg0 hg1 hg2

end Go.Proofs.YtkoomaoelekpaaaDoor
