/-
  The walks of layer 6: the plain hash.
-/
import Derived.Test.YtkoomaoelekpaaaDoorW4
import Derived.Test.YtkoomaoelekpaaaDoorW5
import Derived.Test.YtkoomaoelekpaaaDoorPureD
namespace Go.Proofs.YtkoomaoelekpaaaDoor
open Go Go.X
theorem sum_at (key b : List Int) (KA BA : Option Addr) (kc bc n m : Nat) (hkc : n ≤ kc) (hbc : m ≤ bc) (hbl : m ≤ 140737488355000) (w0 : World) (hK : Reads w0 KA (ints .u8 key)) (hB : Reads w0 BA (ints .u8 b)) (s : Nat) (hs1 : 1 ≤ s) (hs2 : s ≤ 32) (hkl : n ≤ 32) (hg0 : Reads w0 (some ⟨0, 0, none⟩) (ints .u32 startW)) (hg1 : Reads w0 (some ⟨1, 0, none⟩) (ints .u8 sgm)) (hg2 : Reads w0 (some ⟨2, 0, none⟩) (ints .u8 tbl)) (hn : key.length = n) (hm : b.length = m) :
    Does Tryd.prog 19 #[.slice KA n kc, .int .i64 ((s : Nat) : Int), .slice BA m bc] w0 [] (fun v G => ∃ (k cap : Nat) (junk : List Value) (ty : TypeId), v = .tuple #[.slice (some ⟨k, 0, none⟩) s cap, .int .i64 0] ∧ G = [⟨some k, ints .u8 (sumS key s b) ++ junk, ty, (0, 0)⟩]) := by
  subst hn hm
  exact sum_spec key b KA BA kc bc hkc hbc hbl w0 hK hB s hs1 hs2 hkl hg0 hg1 hg2
theorem refsum_at (key b : List Int) (KA BA : Option Addr) (kc bc n m : Nat) (hkc : n ≤ kc) (hbc : m ≤ bc) (hbl : m ≤ 140737488355000) (w0 : World) (hK : Reads w0 KA (ints .u8 key)) (hB : Reads w0 BA (ints .u8 b)) (s : Nat) (hs1 : 1 ≤ s) (hs2 : s ≤ 32) (hkl : n ≤ 32) (hn : key.length = n) (hm : b.length = m) :
    Does Tryd.prog 20 #[.slice KA n kc, .int .i64 ((s : Nat) : Int), .slice BA m bc] w0 [] (fun v G => ∃ (k cap : Nat) (junk : List Value) (ty : TypeId), v = .tuple #[.slice (some ⟨k, 0, none⟩) s cap, .int .i64 0] ∧ G = [⟨some k, ints .u8 (sumS key s b) ++ junk, ty, (0, 0)⟩]) := by
  subst hn hm
  exact refsum_spec key b KA BA kc bc hkc hbc hbl w0 hK hB s hs1 hs2 hkl
set_option maxRecDepth 100000 in
theorem hash_spec (b : List Int) (BA : Option Addr) (bc : Nat) (hbc : b.length ≤ bc) (hbl : b.length ≤ 140737488355000) (w0 : World) (hB : Reads w0 BA (ints .u8 b)) (hg0 : Reads w0 (some ⟨0, 0, none⟩) (ints .u32 startW)) (hg1 : Reads w0 (some ⟨1, 0, none⟩) (ints .u8 sgm)) (hg2 : Reads w0 (some ⟨2, 0, none⟩) (ints .u8 tbl)) : Does Tryd.prog 21 #[.slice BA b.length bc] w0 [] (fun v G => v = .agg (ints .u8 (hashS b)).toArray ∧ G = []) := by
  refine spec_of 13 Tryd.func21 rfl rfl rfl ?_
  refine W.seq ?_
  refine W.region ?_
  refine T.eff (e_alloc ze29 rfl rfl rfl) (Wt.plain rfl) ?_
  rintro _ _ ⟨k1, rfl, rfl⟩
  change (_ : List Blk → Prop) [_]
  refine T.nil ?_
  refine Ex.next ?_
  refine W.slots (L' := [(0, _), (2, _)]) ⟨rfl, rfl, trivial⟩ ?_
  refine W.seq ?_
  refine W.region ?_
  refine T.q (q_move rfl rfl) (Wt.plain rfl) rfl rfl ?_
  refine T.eff (e_call enters19 rfl rfl (fun w hm => sum_at [] b _ _ _ _ _ _ (by first | omega | (simp; done) | (simp; omega) | (simp at *; omega)) (by first | omega | (simp; done) | (simp; omega) | (simp at *; omega)) (by first | omega | (simp; done) | (simp; omega) | (simp at *; omega)) w ((R_nilI .u8) w hm) ((R_ext hB.ext) w hm) 32 (by first | omega | (simp; done) | (simp; omega) | (simp at *; omega)) (by first | omega | (simp; done) | (simp; omega) | (simp at *; omega)) (by first | omega | (simp; done) | (simp; omega) | (simp at *; omega)) (R_ext hg0.ext w hm) (R_ext hg1.ext w hm) (R_ext hg2.ext w hm) (by first | omega | (simp; done) | (simp [-List.getD_eq_getElem?_getD]; omega) | (simp at *; omega) | rfl) (by first | omega | (simp; done) | (simp [-List.getD_eq_getElem?_getD]; omega) | (simp at *; omega) | rfl)) rfl rfl) (Wt.plain rfl) ?_
  rintro _ _ ⟨_, _, ⟨k2, cap3, junk4, hc5, rfl, rfl⟩, rfl, rfl⟩
  change (_ : List Blk → Prop) [_, _]
  change (_ : List Blk → Prop) [_, ⟨some k2, ints .u8 (hashS b) ++ junk4, hc5, (0, 0)⟩]
  refine T.q (q_move rfl rfl) (Wt.plain rfl) rfl rfl ?_
  refine T.q (q_extract rfl rfl rfl) (Wt.plain rfl) rfl rfl ?_
  refine T.q (q_extract rfl rfl rfl) (Wt.plain rfl) rfl rfl ?_
  refine T.q (q_assign rfl rfl) (Wt.plain rfl) rfl rfl ?_
  refine T.q (q_assign rfl rfl) (Wt.plain rfl) rfl rfl ?_
  refine T.nil ?_
  refine Ex.next ?_
  refine W.slots (L' := [(2, _), (3, _)]) ⟨rfl, rfl, trivial⟩ ?_
  refine W.seq ?_
  refine W.region ?_
  refine T.q (q_move rfl rfl) (Wt.plain rfl) rfl rfl ?_
  refine T.q (q_arrp ar29 rfl rfl (by first | omega | (simp; done) | (simp [-List.getD_eq_getElem?_getD]; omega))) (Wt.plain rfl) rfl rfl ?_
  refine T.q (q_loadW (wide_ints wd29 (by first | omega | (simp; done) | (simp [-List.getD_eq_getElem?_getD]; omega) | (simp at *; omega) | rfl)) (R_pre 1 rfl) rfl rfl) (Wt.plain rfl) rfl rfl ?_
  refine T.eff (e_storeA (wide_ints wd29 (by first | omega | (simp; done) | (simp [-List.getD_eq_getElem?_getD]; omega) | (simp at *; omega) | rfl)) 0 rfl rfl rfl rfl (by first | omega | (simp; done) | (simp [-List.getD_eq_getElem?_getD]; omega) | (simp at *; omega) | rfl) ints_one rfl) (Wt.plain rfl) ?_
  rintro _ _ ⟨rfl, rfl⟩
  change (_ : List Blk → Prop) [_, _]
  refine T.nil ?_
  refine Ex.next ?_
  refine W.less (L' := [(2, _)]) [true, false] ⟨rfl, trivial⟩ ?_
  change (_ : List Blk → Prop) [_]
  refine W.ret ?_
  refine Ex.outC [false] 0 rfl (by exact (wide_ints wd29 (by first | omega | (simp; done) | (simp [-List.getD_eq_getElem?_getD]; omega) | (simp at *; omega) | rfl))) rfl rfl ?_
  exact ⟨rfl, rfl⟩
set_option maxRecDepth 100000 in
theorem refhash_spec (b : List Int) (BA : Option Addr) (bc : Nat) (hbc : b.length ≤ bc) (hbl : b.length ≤ 140737488355000) (w0 : World) (hB : Reads w0 BA (ints .u8 b)) : Does Tryd.prog 22 #[.slice BA b.length bc] w0 [] (fun v G => v = .agg (ints .u8 (hashS b)).toArray ∧ G = []) := by
  refine spec_of 24 Tryd.func22 rfl rfl rfl ?_
  refine W.seq ?_
  refine W.region ?_
  refine T.eff (e_alloc ze29 rfl rfl rfl) (Wt.plain rfl) ?_
  rintro _ _ ⟨k1, rfl, rfl⟩
  change (_ : List Blk → Prop) [_]
  refine T.nil ?_
  refine Ex.next ?_
  refine W.slots (L' := [(0, _), (2, _)]) ⟨rfl, rfl, trivial⟩ ?_
  refine W.seq ?_
  refine W.region ?_
  refine T.q (q_move rfl rfl) (Wt.plain rfl) rfl rfl ?_
  refine T.eff (e_call enters20 rfl rfl (fun w hm => refsum_at [] b _ _ _ _ _ _ (by first | omega | (simp; done) | (simp; omega) | (simp at *; omega)) (by first | omega | (simp; done) | (simp; omega) | (simp at *; omega)) (by first | omega | (simp; done) | (simp; omega) | (simp at *; omega)) w ((R_nilI .u8) w hm) ((R_ext hB.ext) w hm) 32 (by first | omega | (simp; done) | (simp; omega) | (simp at *; omega)) (by first | omega | (simp; done) | (simp; omega) | (simp at *; omega)) (by first | omega | (simp; done) | (simp; omega) | (simp at *; omega)) (by first | omega | (simp; done) | (simp [-List.getD_eq_getElem?_getD]; omega) | (simp at *; omega) | rfl) (by first | omega | (simp; done) | (simp [-List.getD_eq_getElem?_getD]; omega) | (simp at *; omega) | rfl)) rfl rfl) (Wt.plain rfl) ?_
  rintro _ _ ⟨_, _, ⟨k2, cap3, junk4, hc5, rfl, rfl⟩, rfl, rfl⟩
  change (_ : List Blk → Prop) [_, _]
  change (_ : List Blk → Prop) [_, ⟨some k2, ints .u8 (hashS b) ++ junk4, hc5, (0, 0)⟩]
  refine T.q (q_move rfl rfl) (Wt.plain rfl) rfl rfl ?_
  refine T.q (q_extract rfl rfl rfl) (Wt.plain rfl) rfl rfl ?_
  refine T.q (q_extract rfl rfl rfl) (Wt.plain rfl) rfl rfl ?_
  refine T.q (q_assign rfl rfl) (Wt.plain rfl) rfl rfl ?_
  refine T.q (q_assign rfl rfl) (Wt.plain rfl) rfl rfl ?_
  refine T.nil ?_
  refine Ex.next ?_
  refine W.slots (L' := [(2, _), (3, _)]) ⟨rfl, rfl, trivial⟩ ?_
  refine W.seq ?_
  refine W.region ?_
  refine T.q (q_build (v := .agg (ints .u8 (List.replicate 32 0)).toArray) rfl rfl (fun _ => by kernel_rfl)) (Wt.plain rfl) rfl rfl ?_
  refine T.eff (e_alloc ze29 rfl rfl rfl) (Wt.plain rfl) ?_
  rintro _ _ ⟨k6, rfl, rfl⟩
  change (_ : List Blk → Prop) [_, _, _]
  refine T.eff (e_storeA (wide_ints wd29 (by first | omega | (simp; done) | (simp [-List.getD_eq_getElem?_getD]; omega) | (simp at *; omega) | rfl)) 2 rfl rfl rfl rfl (by first | omega | (simp; done) | (simp [-List.getD_eq_getElem?_getD]; omega) | (simp at *; omega) | rfl) ints_one rfl) (Wt.plain rfl) ?_
  rintro _ _ ⟨rfl, rfl⟩
  change (_ : List Blk → Prop) [_, _, _]
  refine T.nil ?_
  refine Ex.next ?_
  refine W.slots (L' := [(2, _), (3, _), (5, _)]) ⟨rfl, rfl, rfl, trivial⟩ ?_
  refine W.seq ?_
  refine W.seq ?_
  refine W.region ?_
  refine T.q (q_assign rfl rfl) (Wt.plain rfl) rfl rfl ?_
  refine T.nil ?_
  refine Ex.next ?_
  refine W.slots (L' := [(2, _), (3, _), (5, _), (6, _)]) ⟨rfl, rfl, rfl, rfl, trivial⟩ ?_
  refine W.block ?_
  refine W.loop (α := Nat) (fun i => [(2, .pointer (some ⟨k1, 0, none⟩)), (3, .slice (some ⟨k2, 0, none⟩) 32 cap3), (5, .pointer (some ⟨k6, 0, none⟩)), (6, .int .i64 ((i : Nat) : Int))]) (fun i => [⟨some k1, ints .u8 (List.replicate 32 0), 29, (0, 0)⟩, ⟨some k2, ints .u8 (hashS b) ++ junk4, hc5, (0, 0)⟩, ⟨some k6, ints .u8 (fillAt (fun q => q) (fun q => (hashS b).getD q 0) i (List.replicate 32 0)), 29, (0, 0)⟩]) (fun i => i ≤ 32) (fun i => 32 - i) [true, true, true] 0 (by omega) ⟨rfl, rfl, rfl, rfl, trivial⟩ rfl ?_
  rintro i hi
  refine W.seq ?_
  refine W.seq ?_
  refine W.region ?_
  refine T.q (q_move rfl rfl) (Wt.plain rfl) rfl rfl ?_
  refine T.q (q_lss rfl rfl rfl) (Wt.plain rfl) rfl rfl ?_
  refine T.nil ?_
  refine Ex.next ?_
  refine W.slots (L' := [(2, _), (3, _), (5, _), (6, _), (14, _)]) ⟨rfl, rfl, rfl, rfl, rfl, trivial⟩ ?_
  refine W.cond _ rfl (fun hb7 => ?_) (fun hb7 => ?_)
  · replace hb7 := of_decide_eq_true hb7
    refine W.skip ?_
    refine Ex.next ?_
    refine W.slots (L' := [(2, _), (3, _), (5, _), (6, _)]) ⟨rfl, rfl, rfl, rfl, trivial⟩ ?_
    refine W.seq ?_
    refine W.block ?_
    refine W.region ?_
    refine T.q (q_move rfl rfl) (Wt.plain rfl) rfl rfl ?_
    refine T.q (q_move rfl rfl) (Wt.plain rfl) rfl rfl ?_
    refine T.q (q_move rfl rfl) (Wt.plain rfl) rfl rfl ?_
    refine T.q (q_ixS0 sc22 i rfl rfl rfl (by omega) (by omega)) (Wt.plain rfl) rfl rfl ?_
    refine T.q (q_loadIJ ss5 1 rfl rfl rfl (by first | omega | (simp; done) | (simp [-List.getD_eq_getElem?_getD]; omega))) (Wt.plain rfl) rfl rfl ?_
    refine T.q (q_ixA0 ar29 i rfl rfl rfl (by omega) (by omega)) (Wt.plain rfl) rfl rfl ?_
    refine T.eff (e_storeI ss5 2 rfl rfl rfl rfl (by first | omega | (simp; done) | (simp [-List.getD_eq_getElem?_getD]; omega)) rfl) (Wt.plain rfl) ?_
    rintro _ _ ⟨rfl, rfl⟩
    change (_ : List Blk → Prop) [_, _, _]
    refine T.nil ?_
    refine Ex.in_normal ?_
    refine Ex.next ?_
    refine W.slots (L' := [(2, _), (3, _), (5, _), (6, _)]) ⟨rfl, rfl, rfl, rfl, trivial⟩ ?_
    refine W.region ?_
    refine T.q (q_move rfl rfl) (Wt.plain rfl) rfl rfl ?_
    refine T.q (q_addi rfl rfl rfl (by omega) (by omega)) (Wt.plain rfl) rfl rfl ?_
    refine T.q (q_assign rfl rfl) (Wt.plain rfl) rfl rfl ?_
    refine T.nil ?_
    exact Ex.again [true, true, true] (i + 1) (by omega) (by omega) ⟨rfl, rfl, rfl, rfl, trivial⟩ rfl
  · replace hb7 := of_decide_eq_false hb7
    obtain rfl : i = 32 := by omega
    conv => rhs; rw [fill_self (hashS b) 32 (hashS_length b)]
    refine W.exit ?_
    refine Ex.then_exit ?_
    refine Ex.then_exit ?_
    refine Ex.in_here ?_
    refine Ex.next ?_
    refine W.less (L' := [(2, _), (5, _)]) [true, false, true] ⟨rfl, rfl, trivial⟩ ?_
    change (_ : List Blk → Prop) [_, _]
    refine W.seq ?_
    refine W.region ?_
    refine T.q (q_loadW (wide_ints wd29 (by first | omega | (simp; done) | (simp [-List.getD_eq_getElem?_getD]; omega) | (simp at *; omega) | rfl)) (R_blk 1 rfl) rfl rfl) (Wt.plain rfl) rfl rfl ?_
    refine T.eff (e_storeA (wide_ints wd29 (by first | omega | (simp; done) | (simp [-List.getD_eq_getElem?_getD]; omega) | (simp at *; omega) | rfl)) 0 rfl rfl rfl rfl (by first | omega | (simp; done) | (simp [-List.getD_eq_getElem?_getD]; omega) | (simp at *; omega) | rfl) ints_one rfl) (Wt.plain rfl) ?_
    rintro _ _ ⟨rfl, rfl⟩
    change (_ : List Blk → Prop) [_, _]
    refine T.nil ?_
    refine Ex.next ?_
    refine W.less (L' := [(2, _)]) [true, false] ⟨rfl, trivial⟩ ?_
    change (_ : List Blk → Prop) [_]
    refine W.ret ?_
    refine Ex.outC [false] 0 rfl (by exact (wide_ints wd29 (by first | omega | (simp; done) | (simp [-List.getD_eq_getElem?_getD]; omega) | (simp at *; omega) | rfl))) rfl rfl ?_
    exact ⟨rfl, rfl⟩

end Go.Proofs.YtkoomaoelekpaaaDoor
