/-
  What the document shows of layer 6.
-/
import Derived.Test.YtkoomaoelekpaaaDoorW7
import Derived.Test.YtkoomaoelekpaaaDoorPureF
namespace Go.Proofs.YtkoomaoelekpaaaDoor
open Go Go.X
theorem sum_badat (key b : List Int) (KA BA : Option Addr) (kc bc : Nat) {n m : Nat} (hkc : n ≤ kc) (hbc : m ≤ bc) (hbl : m ≤ 140737488355000) (w0 : World) (hK : Reads w0 KA (ints .u8 key)) (hB : Reads w0 BA (ints .u8 b)) (z : Int) (hbad : z < 1 ∨ 32 < z ∨ 32 < n) (hn : key.length = n) (hm : b.length = m) :
    Does Tryd.prog 19 #[.slice KA n kc, .int .i64 z, .slice BA m bc] w0 [] (fun v G => v = .tuple #[.slice none 0 0, .int .i64 1] ∧ G = []) := by
  subst hn hm
  exact sum_bad key b KA BA kc bc hkc hbc hbl w0 hK hB z hbad
theorem refsum_badat (key b : List Int) (KA BA : Option Addr) (kc bc : Nat) {n m : Nat} (hkc : n ≤ kc) (hbc : m ≤ bc) (hbl : m ≤ 140737488355000) (w0 : World) (hK : Reads w0 KA (ints .u8 key)) (hB : Reads w0 BA (ints .u8 b)) (z : Int) (hbad : z < 1 ∨ 32 < z ∨ 32 < n) (hn : key.length = n) (hm : b.length = m) :
    Does Tryd.prog 20 #[.slice KA n kc, .int .i64 z, .slice BA m bc] w0 [] (fun v G => v = .tuple #[.slice none 0 0, .int .i64 1] ∧ G = []) := by
  subst hn hm
  exact refsum_bad key b KA BA kc bc hkc hbc hbl w0 hK hB z hbad
theorem mac_at (key b : List Int) (KA BA : Option Addr) (kc bc : Nat) {n m : Nat} (hkc : n ≤ kc) (hbc : m ≤ bc) (hkb : n ≤ 140737488355000) (hbl : m ≤ 140737488354900) (w0 : World) (hK : Reads w0 KA (ints .u8 key)) (hB : Reads w0 BA (ints .u8 b)) (hg0 : Reads w0 (some ⟨0, 0, none⟩) (ints .u32 startW)) (hg1 : Reads w0 (some ⟨1, 0, none⟩) (ints .u8 sgm)) (hg2 : Reads w0 (some ⟨2, 0, none⟩) (ints .u8 tbl)) (hn : key.length = n) (hm : b.length = m) :
    Does Tryd.prog 23 #[.slice KA n kc, .slice BA m bc] w0 [] (fun v G => v = .agg (ints .u8 (macS key b)).toArray ∧ G = []) := by
  subst hn hm
  exact mac_spec key b KA BA kc bc hkc hbc hkb hbl w0 hK hB hg0 hg1 hg2
theorem refmac_at (key b : List Int) (KA BA : Option Addr) (kc bc : Nat) {n m : Nat} (hkc : n ≤ kc) (hbc : m ≤ bc) (hkb : n ≤ 140737488355000) (hbl : m ≤ 140737488354900) (w0 : World) (hK : Reads w0 KA (ints .u8 key)) (hB : Reads w0 BA (ints .u8 b)) (hn : key.length = n) (hm : b.length = m) :
    Does Tryd.prog 24 #[.slice KA n kc, .slice BA m bc] w0 [] (fun v G => v = .agg (ints .u8 (macS key b)).toArray ∧ G = []) := by
  subst hn hm
  exact refmac_spec key b KA BA kc bc hkc hbc hkb hbl w0 hK hB
set_option maxRecDepth 100000 in
theorem shown06_spec (w0 : World) (hg0 : Reads w0 (some ⟨0, 0, none⟩) (ints .u32 startW)) (hg1 : Reads w0 (some ⟨1, 0, none⟩) (ints .u8 sgm)) (hg2 : Reads w0 (some ⟨2, 0, none⟩) (ints .u8 tbl)) : Does Tryd.prog 18 #[] w0 [] (fun v G => v = .bool true ∧ G = []) := by
  refine spec_of 61 Tryd.func18 rfl rfl rfl ?_
  refine W.seq ?_
  refine W.region ?_
  refine T.q (q_assign rfl rfl) (Wt.plain rfl) rfl rfl ?_
  refine T.nil ?_
  refine Ex.next ?_
  refine W.slots (L' := []) trivial ?_
  refine W.seq ?_
  refine W.region ?_
  refine T.eff (e_litA sc22 ze5 rfl rfl rfl (by simp [Value.cells]) rfl rfl rfl) (Wt.plain rfl) ?_
  rintro _ _ ⟨k1, rfl, rfl⟩
  change (_ : List Blk → Prop) [_]
  refine T.eff (e_mark un22 un5 rfl rfl 0 rfl rfl rfl) (Wt.plain rfl) ?_
  rintro _ _ ⟨hc2, rfl, rfl⟩
  change (_ : List Blk → Prop) [_]
  refine T.eff (e_call enters21 rfl rfl (fun w hm => hash_at [97, 98, 99] _ _ _ (by first | omega | (simp; done) | (simp; omega) | (simp at *; omega)) (by first | omega | (simp; done) | (simp; omega) | (simp at *; omega)) w ((R_blk 0 rfl) w hm) (R_ext hg0.ext w hm) (R_ext hg1.ext w hm) (R_ext hg2.ext w hm) (by first | omega | (simp; done) | (simp [-List.getD_eq_getElem?_getD]; omega) | (simp at *; omega) | rfl)) rfl rfl) (Wt.plain rfl) ?_
  rintro _ _ ⟨_, _, ⟨rfl, rfl⟩, rfl, rfl⟩
  change (_ : List Blk → Prop) [_]
  refine T.eff (e_alloc ze29 rfl rfl rfl) (Wt.plain rfl) ?_
  rintro _ _ ⟨k3, rfl, rfl⟩
  change (_ : List Blk → Prop) [_, _]
  refine T.eff (e_storeA (wide_ints wd29 (by first | omega | (simp; done) | (simp [-List.getD_eq_getElem?_getD]; omega) | (simp at *; omega) | rfl)) 1 rfl rfl rfl rfl (by first | omega | (simp; done) | (simp [-List.getD_eq_getElem?_getD]; omega) | (simp at *; omega) | rfl) ints_one rfl) (Wt.plain rfl) ?_
  rintro _ _ ⟨rfl, rfl⟩
  change (_ : List Blk → Prop) [_, _]
  refine T.nil ?_
  refine Ex.next ?_
  refine W.less (L' := [(1, _)]) [false, true] ⟨rfl, trivial⟩ ?_
  change (_ : List Blk → Prop) [_]
  refine W.seq ?_
  refine W.region ?_
  refine T.eff (e_call enters21 rfl rfl (fun w hm => hash_at [] _ _ _ (by first | omega | (simp; done) | (simp; omega) | (simp at *; omega)) (by first | omega | (simp; done) | (simp; omega) | (simp at *; omega)) w ((R_nilI .u8) w hm) (R_ext hg0.ext w hm) (R_ext hg1.ext w hm) (R_ext hg2.ext w hm) (by first | omega | (simp; done) | (simp [-List.getD_eq_getElem?_getD]; omega) | (simp at *; omega) | rfl)) rfl rfl) (Wt.plain rfl) ?_
  rintro _ _ ⟨_, _, ⟨rfl, rfl⟩, rfl, rfl⟩
  change (_ : List Blk → Prop) [_]
  refine T.eff (e_alloc ze29 rfl rfl rfl) (Wt.plain rfl) ?_
  rintro _ _ ⟨k4, rfl, rfl⟩
  change (_ : List Blk → Prop) [_, _]
  refine T.eff (e_storeA (wide_ints wd29 (by first | omega | (simp; done) | (simp [-List.getD_eq_getElem?_getD]; omega) | (simp at *; omega) | rfl)) 1 rfl rfl rfl rfl (by first | omega | (simp; done) | (simp [-List.getD_eq_getElem?_getD]; omega) | (simp at *; omega) | rfl) ints_one rfl) (Wt.plain rfl) ?_
  rintro _ _ ⟨rfl, rfl⟩
  change (_ : List Blk → Prop) [_, _]
  refine T.nil ?_
  refine Ex.next ?_
  refine W.slots (L' := [(1, _), (2, _)]) ⟨rfl, rfl, trivial⟩ ?_
  refine W.seq ?_
  refine W.region ?_
  refine T.eff (e_call enters19 rfl rfl (fun w hm => sum_badat [] [] _ _ _ _ (by first | omega | (simp; done) | (simp; omega) | (simp at *; omega)) (by first | omega | (simp; done) | (simp; omega) | (simp at *; omega)) (by first | omega | (simp; done) | (simp; omega) | (simp at *; omega)) w ((R_nilI .u8) w hm) ((R_nilI .u8) w hm) 0 (.inl (by decide)) (by first | omega | (simp; done) | (simp [-List.getD_eq_getElem?_getD]; omega) | (simp at *; omega) | rfl) (by first | omega | (simp; done) | (simp [-List.getD_eq_getElem?_getD]; omega) | (simp at *; omega) | rfl)) rfl rfl) (Wt.plain rfl) ?_
  rintro _ _ ⟨_, _, ⟨rfl, rfl⟩, rfl, rfl⟩
  change (_ : List Blk → Prop) [_, _]
  refine T.q (q_move rfl rfl) (Wt.plain rfl) rfl rfl ?_
  refine T.q (q_extract rfl rfl rfl) (Wt.plain rfl) rfl rfl ?_
  refine T.q (q_extract rfl rfl rfl) (Wt.plain rfl) rfl rfl ?_
  refine T.q (q_assign rfl rfl) (Wt.plain rfl) rfl rfl ?_
  refine T.q (q_assign rfl rfl) (Wt.plain rfl) rfl rfl ?_
  refine T.nil ?_
  refine Ex.next ?_
  refine W.slots (L' := [(1, _), (2, _), (4, _)]) ⟨rfl, rfl, rfl, trivial⟩ ?_
  refine W.seq ?_
  refine W.region ?_
  refine T.eff (e_makeI sc22 ze5 33 33 rfl rfl rfl rfl rfl (by omega) (by omega) (by omega) rfl rfl) (Wt.plain rfl) ?_
  rintro _ _ ⟨k5, rfl, rfl⟩
  change (_ : List Blk → Prop) [_, _, _]
  refine T.eff (e_call enters19 rfl rfl (fun w hm => sum_badat (List.replicate 33 0) [] _ _ _ _ (by first | omega | (simp; done) | (simp; omega) | (simp at *; omega)) (by first | omega | (simp; done) | (simp; omega) | (simp at *; omega)) (by first | omega | (simp; done) | (simp; omega) | (simp at *; omega)) w ((R_blk 2 rfl) w hm) ((R_nilI .u8) w hm) 32 (.inr (.inr (by simp))) (by first | omega | (simp; done) | (simp [-List.getD_eq_getElem?_getD]; omega) | (simp at *; omega) | rfl) (by first | omega | (simp; done) | (simp [-List.getD_eq_getElem?_getD]; omega) | (simp at *; omega) | rfl)) rfl rfl) (Wt.plain rfl) ?_
  rintro _ _ ⟨_, _, ⟨rfl, rfl⟩, rfl, rfl⟩
  change (_ : List Blk → Prop) [_, _, _]
  refine T.q (q_move rfl rfl) (Wt.plain rfl) rfl rfl ?_
  refine T.q (q_extract rfl rfl rfl) (Wt.plain rfl) rfl rfl ?_
  refine T.q (q_extract rfl rfl rfl) (Wt.plain rfl) rfl rfl ?_
  refine T.q (q_assign rfl rfl) (Wt.plain rfl) rfl rfl ?_
  refine T.q (q_assign rfl rfl) (Wt.plain rfl) rfl rfl ?_
  refine T.nil ?_
  refine Ex.next ?_
  refine W.less (L' := [(1, _), (2, _), (4, _), (6, _)]) [true, true, false] ⟨rfl, rfl, rfl, rfl, trivial⟩ ?_
  change (_ : List Blk → Prop) [_, _]
  refine W.seq ?_
  refine W.region ?_
  refine T.q (q_ixA0 ar29 0 rfl rfl rfl (rfl) (by decide)) (Wt.plain rfl) rfl rfl ?_
  refine T.q (q_loadI ss5 0 rfl rfl rfl (by first | omega | (simp; done) | (simp [-List.getD_eq_getElem?_getD]; omega))) (Wt.plain rfl) rfl rfl ?_
  refine T.q (q_bool (b := true) (q_eql rfl rfl rfl) (decide_eq_true hash_abc.1)) (Wt.plain rfl) rfl rfl ?_
  refine T.q (q_move rfl rfl) (Wt.plain rfl) rfl rfl ?_
  refine T.q (q_ixA0 ar29 1 rfl rfl rfl (rfl) (by decide)) (Wt.yes rfl rfl rfl) rfl rfl ?_
  refine T.q (q_loadI ss5 0 rfl rfl rfl (by first | omega | (simp; done) | (simp [-List.getD_eq_getElem?_getD]; omega))) (Wt.yes rfl rfl rfl) rfl rfl ?_
  refine T.q (q_bool (b := true) (q_eql rfl rfl rfl) (decide_eq_true hash_abc.2.1)) (Wt.yes rfl rfl rfl) rfl rfl ?_
  refine T.q (q_pickT rfl rfl rfl) (Wt.plain rfl) rfl rfl ?_
  refine T.q (q_move rfl rfl) (Wt.plain rfl) rfl rfl ?_
  refine T.q (q_ixA0 ar29 30 rfl rfl rfl (rfl) (by decide)) (Wt.yes rfl rfl rfl) rfl rfl ?_
  refine T.q (q_loadI ss5 0 rfl rfl rfl (by first | omega | (simp; done) | (simp [-List.getD_eq_getElem?_getD]; omega))) (Wt.yes rfl rfl rfl) rfl rfl ?_
  refine T.q (q_bool (b := true) (q_eql rfl rfl rfl) (decide_eq_true hash_abc.2.2.1)) (Wt.yes rfl rfl rfl) rfl rfl ?_
  refine T.q (q_pickT rfl rfl rfl) (Wt.plain rfl) rfl rfl ?_
  refine T.q (q_move rfl rfl) (Wt.plain rfl) rfl rfl ?_
  refine T.q (q_ixA0 ar29 31 rfl rfl rfl (rfl) (by decide)) (Wt.yes rfl rfl rfl) rfl rfl ?_
  refine T.q (q_loadI ss5 0 rfl rfl rfl (by first | omega | (simp; done) | (simp [-List.getD_eq_getElem?_getD]; omega))) (Wt.yes rfl rfl rfl) rfl rfl ?_
  refine T.q (q_bool (b := true) (q_eql rfl rfl rfl) (decide_eq_true hash_abc.2.2.2)) (Wt.yes rfl rfl rfl) rfl rfl ?_
  refine T.q (q_pickT rfl rfl rfl) (Wt.plain rfl) rfl rfl ?_
  refine T.q (q_move rfl rfl) (Wt.plain rfl) rfl rfl ?_
  refine T.q (q_ixA0 ar29 0 rfl rfl rfl (rfl) (by decide)) (Wt.yes rfl rfl rfl) rfl rfl ?_
  refine T.q (q_loadI ss5 1 rfl rfl rfl (by first | omega | (simp; done) | (simp [-List.getD_eq_getElem?_getD]; omega))) (Wt.yes rfl rfl rfl) rfl rfl ?_
  refine T.q (q_bool (b := true) (q_eql rfl rfl rfl) (decide_eq_true hash_nil.1)) (Wt.yes rfl rfl rfl) rfl rfl ?_
  refine T.q (q_pickT rfl rfl rfl) (Wt.plain rfl) rfl rfl ?_
  refine T.q (q_move rfl rfl) (Wt.plain rfl) rfl rfl ?_
  refine T.q (q_ixA0 ar29 1 rfl rfl rfl (rfl) (by decide)) (Wt.yes rfl rfl rfl) rfl rfl ?_
  refine T.q (q_loadI ss5 1 rfl rfl rfl (by first | omega | (simp; done) | (simp [-List.getD_eq_getElem?_getD]; omega))) (Wt.yes rfl rfl rfl) rfl rfl ?_
  refine T.q (q_bool (b := true) (q_eql rfl rfl rfl) (decide_eq_true hash_nil.2.1)) (Wt.yes rfl rfl rfl) rfl rfl ?_
  refine T.q (q_pickT rfl rfl rfl) (Wt.plain rfl) rfl rfl ?_
  refine T.q (q_move rfl rfl) (Wt.plain rfl) rfl rfl ?_
  refine T.q (q_ixA0 ar29 31 rfl rfl rfl (rfl) (by decide)) (Wt.yes rfl rfl rfl) rfl rfl ?_
  refine T.q (q_loadI ss5 1 rfl rfl rfl (by first | omega | (simp; done) | (simp [-List.getD_eq_getElem?_getD]; omega))) (Wt.yes rfl rfl rfl) rfl rfl ?_
  refine T.q (q_bool (b := true) (q_eql rfl rfl rfl) (decide_eq_true hash_nil.2.2)) (Wt.yes rfl rfl rfl) rfl rfl ?_
  refine T.q (q_pickT rfl rfl rfl) (Wt.plain rfl) rfl rfl ?_
  refine T.q (q_move rfl rfl) (Wt.plain rfl) rfl rfl ?_
  refine T.q (q_move rfl rfl) (Wt.yes rfl rfl rfl) rfl rfl ?_
  refine T.q (q_bool (b := true) (q_eql rfl rfl rfl) (decide_eq_true rfl)) (Wt.yes rfl rfl rfl) rfl rfl ?_
  refine T.q (q_pickT rfl rfl rfl) (Wt.plain rfl) rfl rfl ?_
  refine T.q (q_move rfl rfl) (Wt.plain rfl) rfl rfl ?_
  refine T.q (q_move rfl rfl) (Wt.yes rfl rfl rfl) rfl rfl ?_
  refine T.q (q_bool (b := true) (q_eql rfl rfl rfl) (decide_eq_true rfl)) (Wt.yes rfl rfl rfl) rfl rfl ?_
  refine T.q (q_pickT rfl rfl rfl) (Wt.plain rfl) rfl rfl ?_
  refine T.q (q_assign rfl rfl) (Wt.plain rfl) rfl rfl ?_
  refine T.nil ?_
  refine Ex.next ?_
  refine W.less (L' := [(0, _)]) [false, false] ⟨rfl, trivial⟩ ?_
  change (_ : List Blk → Prop) []
  refine W.ret ?_
  refine Ex.out1 [] rfl rfl ?_
  exact ⟨rfl, rfl⟩

end Go.Proofs.YtkoomaoelekpaaaDoor
