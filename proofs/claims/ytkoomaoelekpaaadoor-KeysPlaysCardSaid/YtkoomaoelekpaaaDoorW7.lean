/-
  The walks of layer 6: a mac.
-/
import Derived.Test.YtkoomaoelekpaaaDoorW6
namespace Go.Proofs.YtkoomaoelekpaaaDoor
open Go Go.X
theorem hash_at (b : List Int) (BA : Option Addr) (bc m : Nat) (hbc : m ≤ bc) (hbl : m ≤ 140737488355000) (w0 : World) (hB : Reads w0 BA (ints .u8 b)) (hg0 : Reads w0 (some ⟨0, 0, none⟩) (ints .u32 startW)) (hg1 : Reads w0 (some ⟨1, 0, none⟩) (ints .u8 sgm)) (hg2 : Reads w0 (some ⟨2, 0, none⟩) (ints .u8 tbl)) (hm : b.length = m) : Does Tryd.prog 21 #[.slice BA m bc] w0 [] (fun v G => v = .agg (ints .u8 (hashS b)).toArray ∧ G = []) := by
  subst hm
  exact hash_spec b BA bc hbc hbl w0 hB hg0 hg1 hg2
theorem refhash_at (b : List Int) (BA : Option Addr) (bc m : Nat) (hbc : m ≤ bc) (hbl : m ≤ 140737488355000) (w0 : World) (hB : Reads w0 BA (ints .u8 b)) (hm : b.length = m) : Does Tryd.prog 22 #[.slice BA m bc] w0 [] (fun v G => v = .agg (ints .u8 (hashS b)).toArray ∧ G = []) := by
  subst hm
  exact refhash_spec b BA bc hbc hbl w0 hB
set_option maxRecDepth 100000 in
set_option maxHeartbeats 1000000 in
theorem mac_spec (key b : List Int) (KA BA : Option Addr) (kc bc : Nat) (hkc : key.length ≤ kc) (hbc : b.length ≤ bc) (hkb : key.length ≤ 140737488355000) (hbl : b.length ≤ 140737488354900) (w0 : World) (hK : Reads w0 KA (ints .u8 key)) (hB : Reads w0 BA (ints .u8 b)) (hg0 : Reads w0 (some ⟨0, 0, none⟩) (ints .u32 startW)) (hg1 : Reads w0 (some ⟨1, 0, none⟩) (ints .u8 sgm)) (hg2 : Reads w0 (some ⟨2, 0, none⟩) (ints .u8 tbl)) : Does Tryd.prog 23 #[.slice KA key.length kc, .slice BA b.length bc] w0 [] (fun v G => v = .agg (ints .u8 (macS key b)).toArray ∧ G = []) := by
  refine spec_of 42 Tryd.func23 rfl rfl rfl ?_
  refine W.seq ?_
  refine W.region ?_
  refine T.eff (e_alloc ze29 rfl rfl rfl) (Wt.plain rfl) ?_
  rintro _ _ ⟨k1, rfl, rfl⟩
  change (_ : List Blk → Prop) [_]
  refine T.nil ?_
  refine Ex.next ?_
  refine W.slots (L' := [(0, _), (1, _), (4, _)]) ⟨rfl, rfl, rfl, trivial⟩ ?_
  refine W.seq ?_
  refine W.region ?_
  refine T.eff (e_alloc ze66 rfl rfl rfl) (Wt.plain rfl) ?_
  rintro _ _ ⟨k2, rfl, rfl⟩
  change (_ : List Blk → Prop) [_, _]
  refine T.eff (e_alloc ze66 rfl rfl rfl) (Wt.plain rfl) ?_
  rintro _ _ ⟨k3, rfl, rfl⟩
  change (_ : List Blk → Prop) [_, _, _]
  refine T.nil ?_
  refine Ex.next ?_
  refine W.slots (L' := [(0, _), (1, _), (4, _), (5, _), (6, _)]) ⟨rfl, rfl, rfl, rfl, rfl, trivial⟩ ?_
  refine W.seq ?_
  refine W.seq ?_
  refine W.region ?_
  refine T.q (q_move rfl rfl) (Wt.plain rfl) rfl rfl ?_
  refine T.q (q_len sc22 rfl rfl) (Wt.plain rfl) rfl rfl ?_
  refine T.q (q_gtr rfl rfl rfl) (Wt.plain rfl) rfl rfl ?_
  refine T.nil ?_
  refine Ex.next ?_
  refine W.slots (L' := [(0, _), (1, _), (4, _), (5, _), (6, _), (12, _)]) ⟨rfl, rfl, rfl, rfl, rfl, rfl, trivial⟩ ?_
  refine W.cond _ rfl (fun hb4 => ?_) (fun hb4 => ?_)
  · replace hb4 := of_decide_eq_true hb4
    refine W.seq ?_
    refine W.region ?_
    refine T.q (q_move rfl rfl) (Wt.plain rfl) rfl rfl ?_
    refine T.eff (e_call enters21 rfl rfl (fun w hm => hash_at key _ _ _ (by first | omega | (simp; done) | (simp; omega) | (simp at *; omega)) (by first | omega | (simp; done) | (simp; omega) | (simp at *; omega)) w ((R_ext hK.ext) w hm) (R_ext hg0.ext w hm) (R_ext hg1.ext w hm) (R_ext hg2.ext w hm) (by first | omega | (simp; done) | (simp [-List.getD_eq_getElem?_getD]; omega) | (simp at *; omega) | rfl)) rfl rfl) (Wt.plain rfl) ?_
    rintro _ _ ⟨_, _, ⟨rfl, rfl⟩, rfl, rfl⟩
    change (_ : List Blk → Prop) [_, _, _]
    refine T.eff (e_alloc ze29 rfl rfl rfl) (Wt.plain rfl) ?_
    rintro _ _ ⟨k5, rfl, rfl⟩
    change (_ : List Blk → Prop) [_, _, _, _]
    refine T.eff (e_storeA (wide_ints wd29 (by first | omega | (simp; done) | (simp [-List.getD_eq_getElem?_getD]; omega) | (simp at *; omega) | rfl)) 3 rfl rfl rfl rfl (by first | omega | (simp; done) | (simp [-List.getD_eq_getElem?_getD]; omega) | (simp at *; omega) | rfl) ints_one rfl) (Wt.plain rfl) ?_
    rintro _ _ ⟨rfl, rfl⟩
    change (_ : List Blk → Prop) [_, _, _, _]
    refine T.nil ?_
    refine Ex.next ?_
    refine W.slots (L' := [(1, _), (4, _), (5, _), (6, _), (7, _)]) ⟨rfl, rfl, rfl, rfl, rfl, trivial⟩ ?_
    refine W.region ?_
    refine T.q (q_slAll ar29 rfl rfl) (Wt.plain rfl) rfl rfl ?_
    refine T.q (q_assign rfl rfl) (Wt.plain rfl) rfl rfl ?_
    refine T.nil ?_
    refine Ex.next ?_
    refine W.slots (L' := [(0, _), (1, _), (4, _), (5, _), (6, _)]) ⟨rfl, rfl, rfl, rfl, rfl, trivial⟩ ?_
    refine W.seq ?_
    refine W.region ?_
    refine T.q (q_slAll ar66 rfl rfl) (Wt.plain rfl) rfl rfl ?_
    refine T.q (q_move rfl rfl) (Wt.plain rfl) rfl rfl ?_
    refine T.eff (e_copyI sc22 1 (List.replicate 64 0) (hashS key) (R_blk 3 rfl) rfl rfl rfl rfl (by first | omega | (simp; done) | (simp [-List.getD_eq_getElem?_getD]; omega) | (simp at *; omega) | rfl) (by first | omega | (simp; done) | (simp [-List.getD_eq_getElem?_getD]; omega)) (by first | omega | (simp; done) | (simp [-List.getD_eq_getElem?_getD]; omega)) rfl rfl) (Wt.plain rfl) ?_
    rintro _ _ ⟨rfl, rfl⟩
    change (_ : List Blk → Prop) [_, _, _, _]
    conv => rhs; rw [kpd_long (by omega)]
    refine T.nil ?_
    refine Ex.next ?_
    refine W.less (L' := [(1, _), (4, _), (5, _), (6, _)]) [true, true, true, false] ⟨rfl, rfl, rfl, rfl, trivial⟩ ?_
    change (_ : List Blk → Prop) [_, _, _]
    refine W.seq ?_
    refine W.region ?_
    refine T.q (q_loadW (wide_ints wd66 (by first | omega | (simp; done) | (simp [-List.getD_eq_getElem?_getD]; omega) | (simp at *; omega) | rfl)) (R_blk 1 rfl) rfl rfl) (Wt.plain rfl) rfl rfl ?_
    refine T.eff (e_storeA (wide_ints wd66 (by first | omega | (simp; done) | (simp [-List.getD_eq_getElem?_getD]; omega) | (simp at *; omega) | rfl)) 2 rfl rfl rfl rfl (by first | omega | (simp; done) | (simp [-List.getD_eq_getElem?_getD]; omega) | (simp at *; omega) | rfl) ints_one rfl) (Wt.plain rfl) ?_
    rintro _ _ ⟨rfl, rfl⟩
    change (_ : List Blk → Prop) [_, _, _]
    refine T.nil ?_
    refine Ex.next ?_
    refine W.slots (L' := [(1, _), (4, _), (5, _), (6, _)]) ⟨rfl, rfl, rfl, rfl, trivial⟩ ?_
    refine W.seq ?_
    refine W.seq ?_
    refine W.region ?_
    refine T.q (q_move rfl rfl) (Wt.plain rfl) rfl rfl ?_
    refine T.nil ?_
    refine Ex.next ?_
    refine W.slots (L' := [(1, _), (4, _), (5, _), (6, _), (20, _)]) ⟨rfl, rfl, rfl, rfl, rfl, trivial⟩ ?_
    refine W.block ?_
    refine W.loop (α := Nat) (fun i => [(1, .slice BA b.length bc), (4, .pointer (some ⟨k1, 0, none⟩)), (5, .pointer (some ⟨k2, 0, none⟩)), (6, .pointer (some ⟨k3, 0, none⟩)), (20, .int .i64 ((i : Nat) : Int))]) (fun i => [⟨some k1, ints .u8 (List.replicate 32 0), 29, (0, 0)⟩, ⟨some k2, ints .u8 (fillAt (fun q => q) (kxf 54 key) i (kpd key)), 66, (0, 0)⟩, ⟨some k3, ints .u8 (fillAt (fun q => q) (kxf 92 key) i (kpd key)), 66, (0, 0)⟩]) (fun i => i ≤ 64) (fun i => 64 - i) [true, true, true] 0 (by omega) ⟨rfl, rfl, rfl, rfl, rfl, trivial⟩ rfl ?_
    rintro i hi
    refine W.seq ?_
    refine W.region ?_
    refine T.q (q_lss rfl rfl rfl) (Wt.plain rfl) rfl rfl ?_
    refine T.nil ?_
    refine Ex.next ?_
    refine W.slots (L' := [(1, _), (4, _), (5, _), (6, _), (20, _), (21, _)]) ⟨rfl, rfl, rfl, rfl, rfl, rfl, trivial⟩ ?_
    refine W.seq ?_
    refine W.cond _ rfl (fun hb6 => ?_) (fun hb6 => ?_)
    · replace hb6 := of_decide_eq_true hb6
      refine W.skip ?_
      refine Ex.next ?_
      refine W.slots (L' := [(1, _), (4, _), (5, _), (6, _), (20, _)]) ⟨rfl, rfl, rfl, rfl, rfl, trivial⟩ ?_
      refine W.seq ?_
      refine W.block ?_
      refine W.seq ?_
      refine W.region ?_
      refine T.q (q_move rfl rfl) (Wt.plain rfl) rfl rfl ?_
      refine T.q (q_assign rfl rfl) (Wt.plain rfl) rfl rfl ?_
      refine T.nil ?_
      refine Ex.next ?_
      refine W.slots (L' := [(1, _), (4, _), (5, _), (6, _), (8, _), (20, _)]) ⟨rfl, rfl, rfl, rfl, rfl, rfl, trivial⟩ ?_
      refine W.seq ?_
      refine W.region ?_
      refine T.q (q_move rfl rfl) (Wt.plain rfl) rfl rfl ?_
      refine T.q (q_ixA0 ar66 i rfl rfl rfl (by omega) (by omega)) (Wt.plain rfl) rfl rfl ?_
      refine T.q (q_int (b := (kpd key).getD i 0) (q_loadI ss5 1 rfl rfl rfl (by first | omega | (simp; done) | (simp [-List.getD_eq_getElem?_getD]; omega))) (fillAt_ahead _ _ i i (Nat.le_refl i))) (Wt.plain rfl) rfl rfl ?_
      refine T.q (q_xor rfl rfl rfl) (Wt.plain rfl) rfl rfl ?_
      refine T.q (q_ixA0 ar66 i rfl rfl rfl (by omega) (by omega)) (Wt.plain rfl) rfl rfl ?_
      refine T.eff (e_storeI ss5 1 rfl rfl rfl rfl (by first | omega | (simp; done) | (simp [-List.getD_eq_getElem?_getD]; omega)) rfl) (Wt.plain rfl) ?_
      rintro _ _ ⟨rfl, rfl⟩
      change (_ : List Blk → Prop) [_, _, _]
      refine T.nil ?_
      refine Ex.next ?_
      refine W.slots (L' := [(1, _), (4, _), (5, _), (6, _), (8, _), (20, _)]) ⟨rfl, rfl, rfl, rfl, rfl, rfl, trivial⟩ ?_
      refine W.region ?_
      refine T.q (q_move rfl rfl) (Wt.plain rfl) rfl rfl ?_
      refine T.q (q_ixA0 ar66 i rfl rfl rfl (by omega) (by omega)) (Wt.plain rfl) rfl rfl ?_
      refine T.q (q_int (b := (kpd key).getD i 0) (q_loadI ss5 2 rfl rfl rfl (by first | omega | (simp; done) | (simp [-List.getD_eq_getElem?_getD]; omega))) (fillAt_ahead _ _ i i (Nat.le_refl i))) (Wt.plain rfl) rfl rfl ?_
      refine T.q (q_xor rfl rfl rfl) (Wt.plain rfl) rfl rfl ?_
      refine T.q (q_ixA0 ar66 i rfl rfl rfl (by omega) (by omega)) (Wt.plain rfl) rfl rfl ?_
      refine T.eff (e_storeI ss5 2 rfl rfl rfl rfl (by first | omega | (simp; done) | (simp [-List.getD_eq_getElem?_getD]; omega)) rfl) (Wt.plain rfl) ?_
      rintro _ _ ⟨rfl, rfl⟩
      change (_ : List Blk → Prop) [_, _, _]
      refine T.nil ?_
      refine Ex.in_normal ?_
      refine Ex.next ?_
      refine W.slots (L' := [(1, _), (4, _), (5, _), (6, _), (20, _)]) ⟨rfl, rfl, rfl, rfl, rfl, trivial⟩ ?_
      refine W.region ?_
      refine T.q (q_addi rfl rfl rfl (by omega) (by omega)) (Wt.plain rfl) rfl rfl ?_
      refine T.q (q_move rfl rfl) (Wt.plain rfl) rfl rfl ?_
      refine T.nil ?_
      exact Ex.again [true, true, true] (i + 1) (by omega) (by omega) ⟨rfl, rfl, rfl, rfl, rfl, trivial⟩ rfl
    · replace hb6 := of_decide_eq_false hb6
      obtain rfl : i = 64 := by omega
      conv => rhs; rw [kx_fill 54 key, kx_fill 92 key]
      refine W.exit ?_
      refine Ex.then_exit ?_
      refine Ex.then_exit ?_
      refine Ex.in_here ?_
      refine Ex.next ?_
      refine W.slots (L' := [(1, _), (4, _), (5, _), (6, _)]) ⟨rfl, rfl, rfl, rfl, trivial⟩ ?_
      refine W.seq ?_
      refine W.region ?_
      refine T.q (q_slAll ar66 rfl rfl) (Wt.plain rfl) rfl rfl ?_
      refine T.q (q_move rfl rfl) (Wt.plain rfl) rfl rfl ?_
      refine T.eff (e_appendF sc22 ze5 rfl .u8 (kx 54 key) b (R_blk 1 rfl) (R_ext hB.ext) rfl rfl rfl (by first | omega | (simp; done) | (simp [-List.getD_eq_getElem?_getD]; omega) | (simp at *; omega) | rfl) (by first | omega | (simp; done) | (simp [-List.getD_eq_getElem?_getD]; omega) | (simp at *; omega) | rfl) (by first | omega | (simp; done) | (simp [-List.getD_eq_getElem?_getD]; omega) | (simp at *; omega) | rfl) (by first | omega | (simp; done) | (simp [-List.getD_eq_getElem?_getD]; omega)) (by first | omega | (simp; done) | (simp [-List.getD_eq_getElem?_getD]; omega)) rfl rfl) (Wt.plain rfl) ?_
      rintro _ _ ⟨k7, cap8, junk9, hc10, hc11, rfl, rfl⟩
      change (_ : List Blk → Prop) [_, _, _, _]
      refine T.eff (e_call enters21 rfl rfl (fun w hm => hash_at (kx 54 key ++ b) _ _ _ (by first | omega | (simp; done) | (simp; omega) | (simp at *; omega)) (by first | omega | (simp; done) | (simp; omega) | (simp at *; omega)) w ((hc11) w hm) (R_ext hg0.ext w hm) (R_ext hg1.ext w hm) (R_ext hg2.ext w hm) (by first | omega | (simp; done) | (simp [-List.getD_eq_getElem?_getD]; omega) | (simp at *; omega) | rfl)) rfl rfl) (Wt.plain rfl) ?_
      rintro _ _ ⟨_, _, ⟨rfl, rfl⟩, rfl, rfl⟩
      change (_ : List Blk → Prop) [_, _, _, _]
      refine T.eff (e_alloc ze29 rfl rfl rfl) (Wt.plain rfl) ?_
      rintro _ _ ⟨k12, rfl, rfl⟩
      change (_ : List Blk → Prop) [_, _, _, _, _]
      refine T.eff (e_storeA (wide_ints wd29 (by first | omega | (simp; done) | (simp [-List.getD_eq_getElem?_getD]; omega) | (simp at *; omega) | rfl)) 4 rfl rfl rfl rfl (by first | omega | (simp; done) | (simp [-List.getD_eq_getElem?_getD]; omega) | (simp at *; omega) | rfl) ints_one rfl) (Wt.plain rfl) ?_
      rintro _ _ ⟨rfl, rfl⟩
      change (_ : List Blk → Prop) [_, _, _, _, _]
      refine T.nil ?_
      refine Ex.next ?_
      refine W.less (L' := [(4, _), (6, _), (9, _)]) [true, false, true, false, true] ⟨rfl, rfl, rfl, trivial⟩ ?_
      change (_ : List Blk → Prop) [_, _, _]
      refine W.seq ?_
      refine W.draw 4 (by kernel_rfl) ?_
      refine D.take 0 rfl (by kernel_rfl) (fun _ h => h) (q_slAll ar66 rfl rfl) (Wt.plain rfl) rfl rfl ?_
      refine D.take 1 rfl (by kernel_rfl) (fun _ h => h) (q_slAll ar29 rfl rfl) (Wt.plain rfl) rfl rfl ?_
      refine D.one 2 (by kernel_rfl) ?_
      refine Up.eff rfl (e_appendF sc22 ze5 rfl .u8 (kx 92 key) (hashS (kx 54 key ++ b)) (R_blk 1 rfl) (R_blk 2 rfl) rfl rfl rfl (by first | omega | (simp; done) | (simp [-List.getD_eq_getElem?_getD]; omega) | (simp at *; omega) | rfl) (by first | omega | (simp; done) | (simp [-List.getD_eq_getElem?_getD]; omega) | (simp at *; omega) | rfl) (by first | omega | (simp; done) | (simp [-List.getD_eq_getElem?_getD]; omega) | (simp at *; omega) | rfl) (by first | omega | (simp; done) | (simp [-List.getD_eq_getElem?_getD]; omega)) (by first | omega | (simp; done) | (simp [-List.getD_eq_getElem?_getD]; omega)) rfl rfl) (Wt.plain rfl) ?_
      rintro _ _ ⟨k13, cap14, junk15, hc16, hc17, rfl, rfl⟩
      refine ⟨fun _ => (S_sub (((((List.Sublist.slnil).cons _).cons_cons _).cons_cons _).cons_cons _)), ?_⟩
      change (_ : List Blk → Prop) [_, _, _, _]
      refine D.one 3 (by kernel_rfl) ?_
      refine Up.eff rfl (e_call enters21 rfl rfl (fun w hm => hash_at (kx 92 key ++ hashS (kx 54 key ++ b)) _ _ _ (by first | omega | (simp; done) | (simp; omega) | (simp at *; omega)) (by first | omega | (simp; done) | (simp; omega) | (simp at *; omega)) w ((hc17) w hm) (R_ext hg0.ext w hm) (R_ext hg1.ext w hm) (R_ext hg2.ext w hm) (by first | omega | (simp; done) | (simp [-List.getD_eq_getElem?_getD]; omega) | (simp at *; omega) | rfl)) rfl rfl) (Wt.plain rfl) ?_
      rintro _ _ ⟨_, _, ⟨rfl, rfl⟩, rfl, rfl⟩
      refine ⟨fun _ => (S_sub (((((List.Sublist.slnil).cons _).cons_cons _).cons_cons _).cons_cons _)), ?_⟩
      change (_ : List Blk → Prop) [_, _, _, _]
      refine D.one 4 (by kernel_rfl) ?_
      refine Up.eff rfl (e_storeA (wide_ints wd29 (by first | omega | (simp; done) | (simp [-List.getD_eq_getElem?_getD]; omega) | (simp at *; omega) | rfl)) 0 rfl rfl rfl rfl (by first | omega | (simp; done) | (simp [-List.getD_eq_getElem?_getD]; omega) | (simp at *; omega) | rfl) ints_one rfl) (Wt.plain rfl) ?_
      rintro _ _ ⟨rfl, rfl⟩
      refine ⟨fun h => absurd h (by decide), ?_⟩
      change (_ : List Blk → Prop) [_, _, _, _]
      refine D.done (by kernel_rfl) ?_
      refine Ex.next ?_
      refine W.less (L' := [(4, _)]) [true, false, false, false] ⟨rfl, trivial⟩ ?_
      change (_ : List Blk → Prop) [_]
      refine W.ret ?_
      refine Ex.outC [false] 0 rfl (by exact (wide_ints wd29 (by first | omega | (simp; done) | (simp [-List.getD_eq_getElem?_getD]; omega) | (simp at *; omega) | rfl))) rfl rfl ?_
      exact ⟨rfl, rfl⟩
  · replace hb4 := of_decide_eq_false hb4
    refine W.skip ?_
    refine Ex.next ?_
    refine W.slots (L' := [(0, _), (1, _), (4, _), (5, _), (6, _)]) ⟨rfl, rfl, rfl, rfl, rfl, trivial⟩ ?_
    refine W.seq ?_
    refine W.region ?_
    refine T.q (q_slAll ar66 rfl rfl) (Wt.plain rfl) rfl rfl ?_
    refine T.q (q_move rfl rfl) (Wt.plain rfl) rfl rfl ?_
    refine T.eff (e_copyI sc22 1 (List.replicate 64 0) key (R_ext hK.ext) rfl rfl rfl rfl (by first | omega | (simp; done) | (simp [-List.getD_eq_getElem?_getD]; omega) | (simp at *; omega) | rfl) (by first | omega | (simp; done) | (simp [-List.getD_eq_getElem?_getD]; omega)) (by first | omega | (simp; done) | (simp [-List.getD_eq_getElem?_getD]; omega)) rfl rfl) (Wt.plain rfl) ?_
    rintro _ _ ⟨rfl, rfl⟩
    change (_ : List Blk → Prop) [_, _, _]
    conv => rhs; rw [kpd_short (by omega)]
    refine T.nil ?_
    refine Ex.next ?_
    refine W.slots (L' := [(1, _), (4, _), (5, _), (6, _)]) ⟨rfl, rfl, rfl, rfl, trivial⟩ ?_
    refine W.seq ?_
    refine W.region ?_
    refine T.q (q_loadW (wide_ints wd66 (by first | omega | (simp; done) | (simp [-List.getD_eq_getElem?_getD]; omega) | (simp at *; omega) | rfl)) (R_blk 1 rfl) rfl rfl) (Wt.plain rfl) rfl rfl ?_
    refine T.eff (e_storeA (wide_ints wd66 (by first | omega | (simp; done) | (simp [-List.getD_eq_getElem?_getD]; omega) | (simp at *; omega) | rfl)) 2 rfl rfl rfl rfl (by first | omega | (simp; done) | (simp [-List.getD_eq_getElem?_getD]; omega) | (simp at *; omega) | rfl) ints_one rfl) (Wt.plain rfl) ?_
    rintro _ _ ⟨rfl, rfl⟩
    change (_ : List Blk → Prop) [_, _, _]
    refine T.nil ?_
    refine Ex.next ?_
    refine W.slots (L' := [(1, _), (4, _), (5, _), (6, _)]) ⟨rfl, rfl, rfl, rfl, trivial⟩ ?_
    refine W.seq ?_
    refine W.seq ?_
    refine W.region ?_
    refine T.q (q_move rfl rfl) (Wt.plain rfl) rfl rfl ?_
    refine T.nil ?_
    refine Ex.next ?_
    refine W.slots (L' := [(1, _), (4, _), (5, _), (6, _), (20, _)]) ⟨rfl, rfl, rfl, rfl, rfl, trivial⟩ ?_
    refine W.block ?_
    refine W.loop (α := Nat) (fun i => [(1, .slice BA b.length bc), (4, .pointer (some ⟨k1, 0, none⟩)), (5, .pointer (some ⟨k2, 0, none⟩)), (6, .pointer (some ⟨k3, 0, none⟩)), (20, .int .i64 ((i : Nat) : Int))]) (fun i => [⟨some k1, ints .u8 (List.replicate 32 0), 29, (0, 0)⟩, ⟨some k2, ints .u8 (fillAt (fun q => q) (kxf 54 key) i (kpd key)), 66, (0, 0)⟩, ⟨some k3, ints .u8 (fillAt (fun q => q) (kxf 92 key) i (kpd key)), 66, (0, 0)⟩]) (fun i => i ≤ 64) (fun i => 64 - i) [true, true, true] 0 (by omega) ⟨rfl, rfl, rfl, rfl, rfl, trivial⟩ rfl ?_
    rintro i hi
    refine W.seq ?_
    refine W.region ?_
    refine T.q (q_lss rfl rfl rfl) (Wt.plain rfl) rfl rfl ?_
    refine T.nil ?_
    refine Ex.next ?_
    refine W.slots (L' := [(1, _), (4, _), (5, _), (6, _), (20, _), (21, _)]) ⟨rfl, rfl, rfl, rfl, rfl, rfl, trivial⟩ ?_
    refine W.seq ?_
    refine W.cond _ rfl (fun hb18 => ?_) (fun hb18 => ?_)
    · replace hb18 := of_decide_eq_true hb18
      refine W.skip ?_
      refine Ex.next ?_
      refine W.slots (L' := [(1, _), (4, _), (5, _), (6, _), (20, _)]) ⟨rfl, rfl, rfl, rfl, rfl, trivial⟩ ?_
      refine W.seq ?_
      refine W.block ?_
      refine W.seq ?_
      refine W.region ?_
      refine T.q (q_move rfl rfl) (Wt.plain rfl) rfl rfl ?_
      refine T.q (q_assign rfl rfl) (Wt.plain rfl) rfl rfl ?_
      refine T.nil ?_
      refine Ex.next ?_
      refine W.slots (L' := [(1, _), (4, _), (5, _), (6, _), (8, _), (20, _)]) ⟨rfl, rfl, rfl, rfl, rfl, rfl, trivial⟩ ?_
      refine W.seq ?_
      refine W.region ?_
      refine T.q (q_move rfl rfl) (Wt.plain rfl) rfl rfl ?_
      refine T.q (q_ixA0 ar66 i rfl rfl rfl (by omega) (by omega)) (Wt.plain rfl) rfl rfl ?_
      refine T.q (q_int (b := (kpd key).getD i 0) (q_loadI ss5 1 rfl rfl rfl (by first | omega | (simp; done) | (simp [-List.getD_eq_getElem?_getD]; omega))) (fillAt_ahead _ _ i i (Nat.le_refl i))) (Wt.plain rfl) rfl rfl ?_
      refine T.q (q_xor rfl rfl rfl) (Wt.plain rfl) rfl rfl ?_
      refine T.q (q_ixA0 ar66 i rfl rfl rfl (by omega) (by omega)) (Wt.plain rfl) rfl rfl ?_
      refine T.eff (e_storeI ss5 1 rfl rfl rfl rfl (by first | omega | (simp; done) | (simp [-List.getD_eq_getElem?_getD]; omega)) rfl) (Wt.plain rfl) ?_
      rintro _ _ ⟨rfl, rfl⟩
      change (_ : List Blk → Prop) [_, _, _]
      refine T.nil ?_
      refine Ex.next ?_
      refine W.slots (L' := [(1, _), (4, _), (5, _), (6, _), (8, _), (20, _)]) ⟨rfl, rfl, rfl, rfl, rfl, rfl, trivial⟩ ?_
      refine W.region ?_
      refine T.q (q_move rfl rfl) (Wt.plain rfl) rfl rfl ?_
      refine T.q (q_ixA0 ar66 i rfl rfl rfl (by omega) (by omega)) (Wt.plain rfl) rfl rfl ?_
      refine T.q (q_int (b := (kpd key).getD i 0) (q_loadI ss5 2 rfl rfl rfl (by first | omega | (simp; done) | (simp [-List.getD_eq_getElem?_getD]; omega))) (fillAt_ahead _ _ i i (Nat.le_refl i))) (Wt.plain rfl) rfl rfl ?_
      refine T.q (q_xor rfl rfl rfl) (Wt.plain rfl) rfl rfl ?_
      refine T.q (q_ixA0 ar66 i rfl rfl rfl (by omega) (by omega)) (Wt.plain rfl) rfl rfl ?_
      refine T.eff (e_storeI ss5 2 rfl rfl rfl rfl (by first | omega | (simp; done) | (simp [-List.getD_eq_getElem?_getD]; omega)) rfl) (Wt.plain rfl) ?_
      rintro _ _ ⟨rfl, rfl⟩
      change (_ : List Blk → Prop) [_, _, _]
      refine T.nil ?_
      refine Ex.in_normal ?_
      refine Ex.next ?_
      refine W.slots (L' := [(1, _), (4, _), (5, _), (6, _), (20, _)]) ⟨rfl, rfl, rfl, rfl, rfl, trivial⟩ ?_
      refine W.region ?_
      refine T.q (q_addi rfl rfl rfl (by omega) (by omega)) (Wt.plain rfl) rfl rfl ?_
      refine T.q (q_move rfl rfl) (Wt.plain rfl) rfl rfl ?_
      refine T.nil ?_
      exact Ex.again [true, true, true] (i + 1) (by omega) (by omega) ⟨rfl, rfl, rfl, rfl, rfl, trivial⟩ rfl
    · replace hb18 := of_decide_eq_false hb18
      obtain rfl : i = 64 := by omega
      conv => rhs; rw [kx_fill 54 key, kx_fill 92 key]
      refine W.exit ?_
      refine Ex.then_exit ?_
      refine Ex.then_exit ?_
      refine Ex.in_here ?_
      refine Ex.next ?_
      refine W.slots (L' := [(1, _), (4, _), (5, _), (6, _)]) ⟨rfl, rfl, rfl, rfl, trivial⟩ ?_
      refine W.seq ?_
      refine W.region ?_
      refine T.q (q_slAll ar66 rfl rfl) (Wt.plain rfl) rfl rfl ?_
      refine T.q (q_move rfl rfl) (Wt.plain rfl) rfl rfl ?_
      refine T.eff (e_appendF sc22 ze5 rfl .u8 (kx 54 key) b (R_blk 1 rfl) (R_ext hB.ext) rfl rfl rfl (by first | omega | (simp; done) | (simp [-List.getD_eq_getElem?_getD]; omega) | (simp at *; omega) | rfl) (by first | omega | (simp; done) | (simp [-List.getD_eq_getElem?_getD]; omega) | (simp at *; omega) | rfl) (by first | omega | (simp; done) | (simp [-List.getD_eq_getElem?_getD]; omega) | (simp at *; omega) | rfl) (by first | omega | (simp; done) | (simp [-List.getD_eq_getElem?_getD]; omega)) (by first | omega | (simp; done) | (simp [-List.getD_eq_getElem?_getD]; omega)) rfl rfl) (Wt.plain rfl) ?_
      rintro _ _ ⟨k19, cap20, junk21, hc22, hc23, rfl, rfl⟩
      change (_ : List Blk → Prop) [_, _, _, _]
      refine T.eff (e_call enters21 rfl rfl (fun w hm => hash_at (kx 54 key ++ b) _ _ _ (by first | omega | (simp; done) | (simp; omega) | (simp at *; omega)) (by first | omega | (simp; done) | (simp; omega) | (simp at *; omega)) w ((hc23) w hm) (R_ext hg0.ext w hm) (R_ext hg1.ext w hm) (R_ext hg2.ext w hm) (by first | omega | (simp; done) | (simp [-List.getD_eq_getElem?_getD]; omega) | (simp at *; omega) | rfl)) rfl rfl) (Wt.plain rfl) ?_
      rintro _ _ ⟨_, _, ⟨rfl, rfl⟩, rfl, rfl⟩
      change (_ : List Blk → Prop) [_, _, _, _]
      refine T.eff (e_alloc ze29 rfl rfl rfl) (Wt.plain rfl) ?_
      rintro _ _ ⟨k24, rfl, rfl⟩
      change (_ : List Blk → Prop) [_, _, _, _, _]
      refine T.eff (e_storeA (wide_ints wd29 (by first | omega | (simp; done) | (simp [-List.getD_eq_getElem?_getD]; omega) | (simp at *; omega) | rfl)) 4 rfl rfl rfl rfl (by first | omega | (simp; done) | (simp [-List.getD_eq_getElem?_getD]; omega) | (simp at *; omega) | rfl) ints_one rfl) (Wt.plain rfl) ?_
      rintro _ _ ⟨rfl, rfl⟩
      change (_ : List Blk → Prop) [_, _, _, _, _]
      refine T.nil ?_
      refine Ex.next ?_
      refine W.less (L' := [(4, _), (6, _), (9, _)]) [true, false, true, false, true] ⟨rfl, rfl, rfl, trivial⟩ ?_
      change (_ : List Blk → Prop) [_, _, _]
      refine W.seq ?_
      refine W.draw 4 (by kernel_rfl) ?_
      refine D.take 0 rfl (by kernel_rfl) (fun _ h => h) (q_slAll ar66 rfl rfl) (Wt.plain rfl) rfl rfl ?_
      refine D.take 1 rfl (by kernel_rfl) (fun _ h => h) (q_slAll ar29 rfl rfl) (Wt.plain rfl) rfl rfl ?_
      refine D.one 2 (by kernel_rfl) ?_
      refine Up.eff rfl (e_appendF sc22 ze5 rfl .u8 (kx 92 key) (hashS (kx 54 key ++ b)) (R_blk 1 rfl) (R_blk 2 rfl) rfl rfl rfl (by first | omega | (simp; done) | (simp [-List.getD_eq_getElem?_getD]; omega) | (simp at *; omega) | rfl) (by first | omega | (simp; done) | (simp [-List.getD_eq_getElem?_getD]; omega) | (simp at *; omega) | rfl) (by first | omega | (simp; done) | (simp [-List.getD_eq_getElem?_getD]; omega) | (simp at *; omega) | rfl) (by first | omega | (simp; done) | (simp [-List.getD_eq_getElem?_getD]; omega)) (by first | omega | (simp; done) | (simp [-List.getD_eq_getElem?_getD]; omega)) rfl rfl) (Wt.plain rfl) ?_
      rintro _ _ ⟨k25, cap26, junk27, hc28, hc29, rfl, rfl⟩
      refine ⟨fun _ => (S_sub (((((List.Sublist.slnil).cons _).cons_cons _).cons_cons _).cons_cons _)), ?_⟩
      change (_ : List Blk → Prop) [_, _, _, _]
      refine D.one 3 (by kernel_rfl) ?_
      refine Up.eff rfl (e_call enters21 rfl rfl (fun w hm => hash_at (kx 92 key ++ hashS (kx 54 key ++ b)) _ _ _ (by first | omega | (simp; done) | (simp; omega) | (simp at *; omega)) (by first | omega | (simp; done) | (simp; omega) | (simp at *; omega)) w ((hc29) w hm) (R_ext hg0.ext w hm) (R_ext hg1.ext w hm) (R_ext hg2.ext w hm) (by first | omega | (simp; done) | (simp [-List.getD_eq_getElem?_getD]; omega) | (simp at *; omega) | rfl)) rfl rfl) (Wt.plain rfl) ?_
      rintro _ _ ⟨_, _, ⟨rfl, rfl⟩, rfl, rfl⟩
      refine ⟨fun _ => (S_sub (((((List.Sublist.slnil).cons _).cons_cons _).cons_cons _).cons_cons _)), ?_⟩
      change (_ : List Blk → Prop) [_, _, _, _]
      refine D.one 4 (by kernel_rfl) ?_
      refine Up.eff rfl (e_storeA (wide_ints wd29 (by first | omega | (simp; done) | (simp [-List.getD_eq_getElem?_getD]; omega) | (simp at *; omega) | rfl)) 0 rfl rfl rfl rfl (by first | omega | (simp; done) | (simp [-List.getD_eq_getElem?_getD]; omega) | (simp at *; omega) | rfl) ints_one rfl) (Wt.plain rfl) ?_
      rintro _ _ ⟨rfl, rfl⟩
      refine ⟨fun h => absurd h (by decide), ?_⟩
      change (_ : List Blk → Prop) [_, _, _, _]
      refine D.done (by kernel_rfl) ?_
      refine Ex.next ?_
      refine W.less (L' := [(4, _)]) [true, false, false, false] ⟨rfl, trivial⟩ ?_
      change (_ : List Blk → Prop) [_]
      refine W.ret ?_
      refine Ex.outC [false] 0 rfl (by exact (wide_ints wd29 (by first | omega | (simp; done) | (simp [-List.getD_eq_getElem?_getD]; omega) | (simp at *; omega) | rfl))) rfl rfl ?_
      exact ⟨rfl, rfl⟩
set_option maxRecDepth 100000 in
set_option maxHeartbeats 1000000 in
theorem refmac_spec (key b : List Int) (KA BA : Option Addr) (kc bc : Nat) (_hkc : key.length ≤ kc) (_hbc : b.length ≤ bc) (hkb : key.length ≤ 140737488355000) (hbl : b.length ≤ 140737488354900) (w0 : World) (hK : Reads w0 KA (ints .u8 key)) (hB : Reads w0 BA (ints .u8 b)) : Does Tryd.prog 24 #[.slice KA key.length kc, .slice BA b.length bc] w0 [] (fun v G => v = .agg (ints .u8 (macS key b)).toArray ∧ G = []) := by
  refine spec_of 58 Tryd.func24 rfl rfl rfl ?_
  refine W.seq ?_
  refine W.region ?_
  refine T.eff (e_alloc ze29 rfl rfl rfl) (Wt.plain rfl) ?_
  rintro _ _ ⟨k1, rfl, rfl⟩
  change (_ : List Blk → Prop) [_]
  refine T.nil ?_
  refine Ex.next ?_
  refine W.slots (L' := [(0, _), (1, _), (4, _)]) ⟨rfl, rfl, rfl, trivial⟩ ?_
  refine W.seq ?_
  refine W.region ?_
  refine T.eff (e_litA sc22 ze5 rfl rfl rfl (by simp [Value.cells]) rfl rfl rfl) (Wt.plain rfl) ?_
  rintro _ _ ⟨k2, rfl, rfl⟩
  change (_ : List Blk → Prop) [_, _]
  refine T.q (q_move rfl rfl) (Wt.plain rfl) rfl rfl ?_
  refine T.eff (e_appendI sc22 ze5 rfl 1 .u8 [] key [] ((List.append_nil _).symm) (R_ext hK.ext) rfl rfl rfl rfl (by first | omega | (simp; done) | (simp [-List.getD_eq_getElem?_getD]; omega) | (simp at *; omega) | rfl) (by first | omega | (simp; done) | (simp [-List.getD_eq_getElem?_getD]; omega) | (simp at *; omega) | rfl) (by first | omega | (simp; done) | (simp [-List.getD_eq_getElem?_getD]; omega) | (simp at *; omega) | rfl) (by first | omega | (simp; done) | (simp [-List.getD_eq_getElem?_getD]; omega)) (by first | omega | (simp; done) | (simp [-List.getD_eq_getElem?_getD]; omega)) rfl rfl) (Wt.plain rfl) ?_
  rintro _ _ ⟨k3, cap4, junk5, hc6, rfl, rfl⟩
  change (_ : List Blk → Prop) [_, _]
  refine T.q (q_assign rfl rfl) (Wt.plain rfl) rfl rfl ?_
  refine T.nil ?_
  refine Ex.next ?_
  refine W.slots (L' := [(1, _), (4, _), (5, _)]) ⟨rfl, rfl, rfl, trivial⟩ ?_
  refine W.meet (α := Nat × Nat × List Value × List Int × Nat) (fun x_ => [(1, .slice BA b.length bc), (4, .pointer (some ⟨k1, 0, none⟩)), (5, .slice (some ⟨x_.1, 0, none⟩) x_.2.2.2.2 x_.2.1)]) (fun x_ => [⟨some k1, ints .u8 (List.replicate 32 0), 29, (0, 0)⟩, ⟨some x_.1, ints .u8 x_.2.2.2.1 ++ x_.2.2.1, 5, (0, 0)⟩]) (fun x_ => x_.2.2.2.1 = mkey key ∧ x_.2.2.2.1.length = x_.2.2.2.2 ∧ x_.2.2.2.2 + x_.2.2.1.length = x_.2.1 ∧ x_.2.2.2.2 ≤ 64) ?_ ?_
  ·
    refine W.seq ?_
    refine W.region ?_
    refine T.q (q_move rfl rfl) (Wt.plain rfl) rfl rfl ?_
    refine T.q (q_len sc22 rfl rfl) (Wt.plain rfl) rfl rfl ?_
    refine T.q (q_gtr rfl rfl rfl) (Wt.plain rfl) rfl rfl ?_
    refine T.nil ?_
    refine Ex.next ?_
    refine W.slots (L' := [(1, _), (4, _), (5, _), (16, _)]) ⟨rfl, rfl, rfl, rfl, trivial⟩ ?_
    refine W.cond _ rfl (fun hb7 => ?_) (fun hb7 => ?_)
    · replace hb7 := of_decide_eq_true hb7
      refine W.seq ?_
      refine W.region ?_
      refine T.q (q_move rfl rfl) (Wt.plain rfl) rfl rfl ?_
      refine T.eff (e_call enters22 rfl rfl (fun w hm => refhash_at ([] ++ key) _ _ _ (by first | omega | (simp; done) | (simp; omega) | (simp at *; omega)) (by first | omega | (simp; done) | (simp; omega) | (simp at *; omega)) w ((R_pre 1 rfl) w hm) (by first | omega | (simp; done) | (simp [-List.getD_eq_getElem?_getD]; omega) | (simp at *; omega) | rfl)) rfl rfl) (Wt.plain rfl) ?_
      rintro _ _ ⟨_, _, ⟨rfl, rfl⟩, rfl, rfl⟩
      change (_ : List Blk → Prop) [_, _]
      refine T.eff (e_alloc ze29 rfl rfl rfl) (Wt.plain rfl) ?_
      rintro _ _ ⟨k8, rfl, rfl⟩
      change (_ : List Blk → Prop) [_, _, _]
      refine T.eff (e_storeA (wide_ints wd29 (by first | omega | (simp; done) | (simp [-List.getD_eq_getElem?_getD]; omega) | (simp at *; omega) | rfl)) 2 rfl rfl rfl rfl (by first | omega | (simp; done) | (simp [-List.getD_eq_getElem?_getD]; omega) | (simp at *; omega) | rfl) ints_one rfl) (Wt.plain rfl) ?_
      rintro _ _ ⟨rfl, rfl⟩
      change (_ : List Blk → Prop) [_, _, _]
      refine T.nil ?_
      refine Ex.next ?_
      refine W.less (L' := [(1, _), (4, _), (6, _)]) [true, false, true] ⟨rfl, rfl, rfl, trivial⟩ ?_
      change (_ : List Blk → Prop) [_, _]
      refine W.region ?_
      refine T.eff (e_litA sc22 ze5 rfl rfl rfl (by simp [Value.cells]) rfl rfl rfl) (Wt.plain rfl) ?_
      rintro _ _ ⟨k9, rfl, rfl⟩
      change (_ : List Blk → Prop) [_, _, _]
      refine T.q (q_slAll ar29 rfl rfl) (Wt.plain rfl) rfl rfl ?_
      refine T.eff (e_appendI sc22 ze5 rfl 2 .u8 [] (hashS ([] ++ key)) [] ((List.append_nil _).symm) (R_blk 1 rfl) rfl rfl rfl rfl (by first | omega | (simp; done) | (simp [-List.getD_eq_getElem?_getD]; omega) | (simp at *; omega) | rfl) (by first | omega | (simp; done) | (simp [-List.getD_eq_getElem?_getD]; omega) | (simp at *; omega) | rfl) (by first | omega | (simp; done) | (simp [-List.getD_eq_getElem?_getD]; omega) | (simp at *; omega) | rfl) (by first | omega | (simp; done) | (simp [-List.getD_eq_getElem?_getD]; omega)) (by first | omega | (simp; done) | (simp [-List.getD_eq_getElem?_getD]; omega)) rfl rfl) (Wt.plain rfl) ?_
      rintro _ _ ⟨k10, cap11, junk12, hc13, rfl, rfl⟩
      change (_ : List Blk → Prop) [_, _, _]
      refine T.q (q_assign rfl rfl) (Wt.plain rfl) rfl rfl ?_
      refine T.nil ?_
      exact Ex.met [true, false, true] (⟨k10, cap11, junk12, ([] ++ hashS ([] ++ key)), (0 + 32)⟩ : Nat × Nat × List Value × List Int × Nat) ⟨by dsimp only; rw [List.nil_append, List.nil_append, mkey_long (by omega)], by dsimp only; simp, by dsimp only; simp at *; omega, by dsimp only; omega⟩ ⟨rfl, rfl, rfl, trivial⟩ (by first | (dsimp only [pick]; done) | rfl)
    · replace hb7 := of_decide_eq_false hb7
      refine W.skip ?_
      exact Ex.met [true, true] (⟨k3, cap4, junk5, ([] ++ key), (0 + key.length)⟩ : Nat × Nat × List Value × List Int × Nat) ⟨by dsimp only; rw [List.nil_append, mkey_short (by omega)], by dsimp only; simp, by dsimp only; simp at *; omega, by dsimp only; omega⟩ ⟨rfl, rfl, rfl, trivial⟩ (by first | (dsimp only [pick]; done) | rfl)
  ·
    rintro ⟨kk, cp, jj, zz, lz⟩ ⟨hz, hlz, hcp, hl64⟩
    conv => rhs; dsimp only
    conv => arg -2; dsimp only
    dsimp only at hz hlz hcp hl64
    refine W.seq ?_
    refine W.block ?_
    refine W.loop (α := Nat × Nat × List Value × Nat) (fun x_ => [(1, .slice BA b.length bc), (4, .pointer (some ⟨k1, 0, none⟩)), (5, .slice (some ⟨x_.1, 0, none⟩) (lz + x_.2.2.2) x_.2.1)]) (fun x_ => [⟨some k1, ints .u8 (List.replicate 32 0), 29, (0, 0)⟩, ⟨some x_.1, ints .u8 (zz ++ List.replicate x_.2.2.2 0) ++ x_.2.2.1, 5, (0, 0)⟩]) (fun x_ => lz + x_.2.2.2 + x_.2.2.1.length = x_.2.1 ∧ lz + x_.2.2.2 ≤ 64) (fun x_ => 64 - x_.2.2.2) [true, true] (⟨kk, cp, jj, 0⟩) ⟨by dsimp only; omega, by dsimp only; omega⟩ ⟨rfl, rfl, rfl, trivial⟩ (by dsimp only [pick]; rw [List.replicate_zero, List.append_nil]) ?_
    rintro ⟨kx_, cx, jx, p⟩ ⟨hx, hp⟩
    conv => rhs; dsimp only
    conv => arg -2; dsimp only
    dsimp only at hx hp
    refine W.seq ?_
    refine W.seq ?_
    refine W.region ?_
    refine T.q (q_move rfl rfl) (Wt.plain rfl) rfl rfl ?_
    refine T.q (q_len sc22 rfl rfl) (Wt.plain rfl) rfl rfl ?_
    refine T.q (q_lss rfl rfl rfl) (Wt.plain rfl) rfl rfl ?_
    refine T.nil ?_
    refine Ex.next ?_
    refine W.slots (L' := [(1, _), (4, _), (5, _), (24, _)]) ⟨rfl, rfl, rfl, rfl, trivial⟩ ?_
    refine W.cond _ rfl (fun hb14 => ?_) (fun hb14 => ?_)
    · replace hb14 := of_decide_eq_true hb14
      refine W.skip ?_
      refine Ex.next ?_
      refine W.slots (L' := [(1, _), (4, _), (5, _)]) ⟨rfl, rfl, rfl, trivial⟩ ?_
      refine W.block ?_
      refine W.region ?_
      refine T.q (q_move rfl rfl) (Wt.plain rfl) rfl rfl ?_
      refine T.eff (e_litA sc22 ze5 rfl rfl rfl (by simp [Value.cells]) rfl rfl rfl) (Wt.plain rfl) ?_
      rintro _ _ ⟨k15, rfl, rfl⟩
      change (_ : List Blk → Prop) [_, _, _]
      refine T.eff (e_appendI sc22 ze5 rfl 1 .u8 (zz ++ List.replicate p 0) [0] jx (rfl) (R_blk 2 rfl) rfl rfl rfl rfl (by first | omega | (simp; done) | (simp [-List.getD_eq_getElem?_getD]; omega) | (simp at *; omega) | rfl) (by first | omega | (simp; done) | (simp [-List.getD_eq_getElem?_getD]; omega) | (simp at *; omega) | rfl) (by first | omega | (simp; done) | (simp [-List.getD_eq_getElem?_getD]; omega) | (simp at *; omega) | rfl) (by first | omega | (simp; done) | (simp [-List.getD_eq_getElem?_getD]; omega)) (by first | omega | (simp; done) | (simp [-List.getD_eq_getElem?_getD]; omega)) rfl rfl) (Wt.plain rfl) ?_
      rintro _ _ ⟨k16, cap17, junk18, hc19, rfl, rfl⟩
      change (_ : List Blk → Prop) [_, _, _]
      conv => rhs; rw [show zz ++ List.replicate p 0 ++ [0] = zz ++ List.replicate (p + 1) 0 by rw [List.append_assoc, ← List.replicate_succ']]
      refine T.q (q_assign rfl rfl) (Wt.plain rfl) rfl rfl ?_
      refine T.nil ?_
      refine Ex.in_normal ?_
      exact Ex.again [true, true, false] (⟨k16, cap17, junk18, p + 1⟩ : Nat × Nat × List Value × Nat) (by dsimp only; omega) ⟨by dsimp only; simp at *; omega, by dsimp only; omega⟩ ⟨rfl, rfl, rfl, trivial⟩ (by first | (dsimp only [pick]; done) | rfl)
    · replace hb14 := of_decide_eq_false hb14
      obtain rfl : p = 64 - lz := by omega
      conv => rhs; rw [show (zz ++ List.replicate (64 - lz) 0) = kpd key by rw [kpd, ← hz, hlz]]
      refine W.exit ?_
      refine Ex.then_exit ?_
      refine Ex.then_exit ?_
      refine Ex.in_here ?_
      refine Ex.next ?_
      refine W.slots (L' := [(1, _), (4, _), (5, _)]) ⟨rfl, rfl, rfl, trivial⟩ ?_
      refine W.seq ?_
      refine W.region ?_
      refine T.eff (e_litA sc22 ze5 rfl rfl rfl (by simp [Value.cells]) rfl rfl rfl) (Wt.plain rfl) ?_
      rintro _ _ ⟨k20, rfl, rfl⟩
      change (_ : List Blk → Prop) [_, _, _]
      refine T.q (q_assign rfl rfl) (Wt.plain rfl) rfl rfl ?_
      refine T.nil ?_
      refine Ex.next ?_
      refine W.slots (L' := [(1, _), (4, _), (5, _), (7, _)]) ⟨rfl, rfl, rfl, rfl, trivial⟩ ?_
      refine W.seq ?_
      refine W.region ?_
      refine T.eff (e_litA sc22 ze5 rfl rfl rfl (by simp [Value.cells]) rfl rfl rfl) (Wt.plain rfl) ?_
      rintro _ _ ⟨k21, rfl, rfl⟩
      change (_ : List Blk → Prop) [_, _, _, _]
      refine T.q (q_assign rfl rfl) (Wt.plain rfl) rfl rfl ?_
      refine T.nil ?_
      refine Ex.next ?_
      refine W.slots (L' := [(1, _), (4, _), (5, _), (7, _), (8, _)]) ⟨rfl, rfl, rfl, rfl, rfl, trivial⟩ ?_
      refine W.seq ?_
      refine W.seq ?_
      refine W.region ?_
      refine T.q (q_assign rfl rfl) (Wt.plain rfl) rfl rfl ?_
      refine T.nil ?_
      refine Ex.next ?_
      refine W.slots (L' := [(1, _), (4, _), (5, _), (7, _), (8, _), (9, _)]) ⟨rfl, rfl, rfl, rfl, rfl, rfl, trivial⟩ ?_
      refine W.block ?_
      refine W.loop (α := Nat × Nat × Nat × List Value × Nat × Nat × List Value) (fun x_ => [(1, .slice BA b.length bc), (4, .pointer (some ⟨k1, 0, none⟩)), (5, .slice (some ⟨kx_, 0, none⟩) (lz + (64 - lz)) cx), (7, .slice (some ⟨x_.2.1, 0, none⟩) x_.1 x_.2.2.1), (8, .slice (some ⟨x_.2.2.2.2.1, 0, none⟩) x_.1 x_.2.2.2.2.2.1), (9, .int .i64 ((x_.1 : Nat) : Int))]) (fun x_ => [⟨some k1, ints .u8 (List.replicate 32 0), 29, (0, 0)⟩, ⟨some kx_, ints .u8 (kpd key) ++ jx, 5, (0, 0)⟩, ⟨some x_.2.1, ints .u8 (gather (kxf 54 key) x_.1 []) ++ x_.2.2.2.1, 5, (0, 0)⟩, ⟨some x_.2.2.2.2.1, ints .u8 (gather (kxf 92 key) x_.1 []) ++ x_.2.2.2.2.2.2, 5, (0, 0)⟩]) (fun x_ => x_.1 ≤ 64 ∧ x_.1 + x_.2.2.2.1.length = x_.2.2.1 ∧ x_.1 + x_.2.2.2.2.2.2.length = x_.2.2.2.2.2.1) (fun x_ => 64 - x_.1) [true, true, true, true] (⟨0, k20, 0, [], k21, 0, []⟩) ⟨by dsimp only; omega, rfl, rfl⟩ ⟨rfl, rfl, rfl, rfl, rfl, rfl, trivial⟩ rfl ?_
      rintro ⟨i, ki, ci, ji, ko, co, jo⟩ ⟨hi, hji, hjo⟩
      conv => rhs; dsimp only
      conv => arg -2; dsimp only
      dsimp only at hi hji hjo
      refine W.seq ?_
      refine W.seq ?_
      refine W.region ?_
      refine T.q (q_move rfl rfl) (Wt.plain rfl) rfl rfl ?_
      refine T.q (q_lss rfl rfl rfl) (Wt.plain rfl) rfl rfl ?_
      refine T.nil ?_
      refine Ex.next ?_
      refine W.slots (L' := [(1, _), (4, _), (5, _), (7, _), (8, _), (9, _), (31, _)]) ⟨rfl, rfl, rfl, rfl, rfl, rfl, rfl, trivial⟩ ?_
      refine W.cond _ rfl (fun hb22 => ?_) (fun hb22 => ?_)
      · replace hb22 := of_decide_eq_true hb22
        refine W.skip ?_
        refine Ex.next ?_
        refine W.slots (L' := [(1, _), (4, _), (5, _), (7, _), (8, _), (9, _)]) ⟨rfl, rfl, rfl, rfl, rfl, rfl, trivial⟩ ?_
        refine W.seq ?_
        refine W.block ?_
        refine W.seq ?_
        refine W.region ?_
        refine T.q (q_move rfl rfl) (Wt.plain rfl) rfl rfl ?_
        refine T.q (q_move rfl rfl) (Wt.plain rfl) rfl rfl ?_
        refine T.q (q_move rfl rfl) (Wt.plain rfl) rfl rfl ?_
        refine T.q (q_ixS0 sc22 i rfl rfl rfl (by omega) (by omega)) (Wt.plain rfl) rfl rfl ?_
        refine T.q (q_loadIJ ss5 1 rfl rfl rfl (by first | omega | (simp; done) | (simp [-List.getD_eq_getElem?_getD]; omega))) (Wt.plain rfl) rfl rfl ?_
        refine T.q (q_xor rfl rfl rfl) (Wt.plain rfl) rfl rfl ?_
        refine T.eff (e_litA sc22 ze5 rfl rfl rfl (by simp [Value.cells]) rfl rfl rfl) (Wt.plain rfl) ?_
        rintro _ _ ⟨k23, rfl, rfl⟩
        change (_ : List Blk → Prop) [_, _, _, _, _]
        refine T.eff (e_appendI sc22 ze5 rfl 2 .u8 (gather (kxf 54 key) i []) [bits .xor .u8 ((kpd key).getD i 0) 54] ji (rfl) (R_blk 4 rfl) rfl rfl rfl rfl (by first | omega | (simp; done) | (simp [-List.getD_eq_getElem?_getD]; omega) | (simp at *; omega) | rfl) (by first | omega | (simp; done) | (simp [-List.getD_eq_getElem?_getD]; omega) | (simp at *; omega) | rfl) (by first | omega | (simp; done) | (simp [-List.getD_eq_getElem?_getD]; omega) | (simp at *; omega) | rfl) (by first | omega | (simp; done) | (simp [-List.getD_eq_getElem?_getD]; omega)) (by first | omega | (simp; done) | (simp [-List.getD_eq_getElem?_getD]; omega)) rfl rfl) (Wt.plain rfl) ?_
        rintro _ _ ⟨k24, cap25, junk26, hc27, rfl, rfl⟩
        change (_ : List Blk → Prop) [_, _, _, _, _]
        refine T.q (q_assign rfl rfl) (Wt.plain rfl) rfl rfl ?_
        refine T.nil ?_
        refine Ex.next ?_
        refine W.less (L' := [(1, _), (4, _), (5, _), (7, _), (8, _), (9, _)]) [true, true, true, true, false] ⟨rfl, rfl, rfl, rfl, rfl, rfl, trivial⟩ ?_
        change (_ : List Blk → Prop) [_, _, _, _]
        refine W.region ?_
        refine T.q (q_move rfl rfl) (Wt.plain rfl) rfl rfl ?_
        refine T.q (q_move rfl rfl) (Wt.plain rfl) rfl rfl ?_
        refine T.q (q_move rfl rfl) (Wt.plain rfl) rfl rfl ?_
        refine T.q (q_ixS0 sc22 i rfl rfl rfl (by omega) (by omega)) (Wt.plain rfl) rfl rfl ?_
        refine T.q (q_loadIJ ss5 1 rfl rfl rfl (by first | omega | (simp; done) | (simp [-List.getD_eq_getElem?_getD]; omega))) (Wt.plain rfl) rfl rfl ?_
        refine T.q (q_xor rfl rfl rfl) (Wt.plain rfl) rfl rfl ?_
        refine T.eff (e_litA sc22 ze5 rfl rfl rfl (by simp [Value.cells]) rfl rfl rfl) (Wt.plain rfl) ?_
        rintro _ _ ⟨k28, rfl, rfl⟩
        change (_ : List Blk → Prop) [_, _, _, _, _]
        refine T.eff (e_appendI sc22 ze5 rfl 3 .u8 (gather (kxf 92 key) i []) [bits .xor .u8 ((kpd key).getD i 0) 92] jo (rfl) (R_blk 4 rfl) rfl rfl rfl rfl (by first | omega | (simp; done) | (simp [-List.getD_eq_getElem?_getD]; omega) | (simp at *; omega) | rfl) (by first | omega | (simp; done) | (simp [-List.getD_eq_getElem?_getD]; omega) | (simp at *; omega) | rfl) (by first | omega | (simp; done) | (simp [-List.getD_eq_getElem?_getD]; omega) | (simp at *; omega) | rfl) (by first | omega | (simp; done) | (simp [-List.getD_eq_getElem?_getD]; omega)) (by first | omega | (simp; done) | (simp [-List.getD_eq_getElem?_getD]; omega)) rfl rfl) (Wt.plain rfl) ?_
        rintro _ _ ⟨k29, cap30, junk31, hc32, rfl, rfl⟩
        change (_ : List Blk → Prop) [_, _, _, _, _]
        refine T.q (q_assign rfl rfl) (Wt.plain rfl) rfl rfl ?_
        refine T.nil ?_
        refine Ex.in_normal ?_
        refine Ex.next ?_
        refine W.less (L' := [(1, _), (4, _), (5, _), (7, _), (8, _), (9, _)]) [true, true, true, true, false] ⟨rfl, rfl, rfl, rfl, rfl, rfl, trivial⟩ ?_
        change (_ : List Blk → Prop) [_, _, _, _]
        refine W.region ?_
        refine T.q (q_move rfl rfl) (Wt.plain rfl) rfl rfl ?_
        refine T.q (q_addi rfl rfl rfl (by omega) (by omega)) (Wt.plain rfl) rfl rfl ?_
        refine T.q (q_assign rfl rfl) (Wt.plain rfl) rfl rfl ?_
        refine T.nil ?_
        exact Ex.again [true, true, true, true] (⟨i + 1, k24, cap25, junk26, k29, cap30, junk31⟩ : Nat × Nat × Nat × List Value × Nat × Nat × List Value) (by dsimp only; omega) ⟨by dsimp only; omega, by dsimp only; simp at *; omega, by dsimp only; simp at *; omega⟩ ⟨rfl, rfl, rfl, rfl, rfl, rfl, trivial⟩ (by first | (dsimp only [pick]; done) | rfl)
      · replace hb22 := of_decide_eq_false hb22
        obtain rfl : i = 64 := by omega
        refine W.exit ?_
        refine Ex.then_exit ?_
        refine Ex.then_exit ?_
        refine Ex.in_here ?_
        refine Ex.next ?_
        refine W.slots (L' := [(1, _), (4, _), (7, _), (8, _)]) ⟨rfl, rfl, rfl, rfl, trivial⟩ ?_
        refine W.seq ?_
        refine W.region ?_
        refine T.q (q_move rfl rfl) (Wt.plain rfl) rfl rfl ?_
        refine T.q (q_move rfl rfl) (Wt.plain rfl) rfl rfl ?_
        refine T.eff (e_appendI sc22 ze5 rfl 2 .u8 (gather (kxf 54 key) 64 []) b ji (rfl) (R_ext hB.ext) rfl rfl rfl rfl (by first | omega | (simp; done) | (simp [-List.getD_eq_getElem?_getD]; omega) | (simp at *; omega) | rfl) (by first | omega | (simp; done) | (simp [-List.getD_eq_getElem?_getD]; omega) | (simp at *; omega) | rfl) (by first | omega | (simp; done) | (simp [-List.getD_eq_getElem?_getD]; omega) | (simp at *; omega) | rfl) (by first | omega | (simp; done) | (simp [-List.getD_eq_getElem?_getD]; omega)) (by first | omega | (simp; done) | (simp [-List.getD_eq_getElem?_getD]; omega)) rfl rfl) (Wt.plain rfl) ?_
        rintro _ _ ⟨k33, cap34, junk35, hc36, rfl, rfl⟩
        change (_ : List Blk → Prop) [_, _, _, _]
        refine T.eff (e_call enters22 rfl rfl (fun w hm => refhash_at (gather (kxf 54 key) 64 [] ++ b) _ _ _ (by first | omega | (simp; done) | (simp; omega) | (simp at *; omega)) (by first | omega | (simp; done) | (simp; omega) | (simp at *; omega)) w ((R_pre 2 rfl) w hm) (by first | omega | (simp; done) | (simp [-List.getD_eq_getElem?_getD]; omega) | (simp at *; omega) | rfl)) rfl rfl) (Wt.plain rfl) ?_
        rintro _ _ ⟨_, _, ⟨rfl, rfl⟩, rfl, rfl⟩
        change (_ : List Blk → Prop) [_, _, _, _]
        refine T.eff (e_alloc ze29 rfl rfl rfl) (Wt.plain rfl) ?_
        rintro _ _ ⟨k37, rfl, rfl⟩
        change (_ : List Blk → Prop) [_, _, _, _, _]
        refine T.eff (e_storeA (wide_ints wd29 (by first | omega | (simp; done) | (simp [-List.getD_eq_getElem?_getD]; omega) | (simp at *; omega) | rfl)) 4 rfl rfl rfl rfl (by first | omega | (simp; done) | (simp [-List.getD_eq_getElem?_getD]; omega) | (simp at *; omega) | rfl) ints_one rfl) (Wt.plain rfl) ?_
        rintro _ _ ⟨rfl, rfl⟩
        change (_ : List Blk → Prop) [_, _, _, _, _]
        refine T.nil ?_
        refine Ex.next ?_
        refine W.slots (L' := [(4, _), (8, _), (10, _)]) ⟨rfl, rfl, rfl, trivial⟩ ?_
        refine W.seq ?_
        refine W.region ?_
        refine T.q (q_move rfl rfl) (Wt.plain rfl) rfl rfl ?_
        refine T.q (q_slAll ar29 rfl rfl) (Wt.plain rfl) rfl rfl ?_
        refine T.eff (e_appendI sc22 ze5 rfl 3 .u8 (gather (kxf 92 key) 64 []) (hashS (gather (kxf 54 key) 64 [] ++ b)) jo (rfl) (R_blk 4 rfl) rfl rfl rfl rfl (by first | omega | (simp; done) | (simp [-List.getD_eq_getElem?_getD]; omega) | (simp at *; omega) | rfl) (by first | omega | (simp; done) | (simp [-List.getD_eq_getElem?_getD]; omega) | (simp at *; omega) | rfl) (by first | omega | (simp; done) | (simp [-List.getD_eq_getElem?_getD]; omega) | (simp at *; omega) | rfl) (by first | omega | (simp; done) | (simp [-List.getD_eq_getElem?_getD]; omega)) (by first | omega | (simp; done) | (simp [-List.getD_eq_getElem?_getD]; omega)) rfl rfl) (Wt.plain rfl) ?_
        rintro _ _ ⟨k38, cap39, junk40, hc41, rfl, rfl⟩
        change (_ : List Blk → Prop) [_, _, _, _, _]
        refine T.eff (e_call enters22 rfl rfl (fun w hm => refhash_at (gather (kxf 92 key) 64 [] ++ hashS (gather (kxf 54 key) 64 [] ++ b)) _ _ _ (by first | omega | (simp; done) | (simp; omega) | (simp at *; omega)) (by first | omega | (simp; done) | (simp; omega) | (simp at *; omega)) w ((R_pre 3 rfl) w hm) (by first | omega | (simp; done) | (simp [-List.getD_eq_getElem?_getD]; omega) | (simp at *; omega) | rfl)) rfl rfl) (Wt.plain rfl) ?_
        rintro _ _ ⟨_, _, ⟨rfl, rfl⟩, rfl, rfl⟩
        change (_ : List Blk → Prop) [_, _, _, _, _]
        refine T.eff (e_storeA (wide_ints wd29 (by first | omega | (simp; done) | (simp [-List.getD_eq_getElem?_getD]; omega) | (simp at *; omega) | rfl)) 0 rfl rfl rfl rfl (by first | omega | (simp; done) | (simp [-List.getD_eq_getElem?_getD]; omega) | (simp at *; omega) | rfl) ints_one rfl) (Wt.plain rfl) ?_
        rintro _ _ ⟨rfl, rfl⟩
        change (_ : List Blk → Prop) [_, _, _, _, _]
        refine T.nil ?_
        refine Ex.next ?_
        refine W.less (L' := [(4, _)]) [true, true, true, true, false] ⟨rfl, trivial⟩ ?_
        change (_ : List Blk → Prop) [_, _, _, _]
        refine W.ret ?_
        refine Ex.outC [false, false, false, false] 0 rfl (by exact (wide_ints wd29 (by first | omega | (simp; done) | (simp [-List.getD_eq_getElem?_getD]; omega) | (simp at *; omega) | rfl))) rfl rfl ?_
        exact ⟨rfl, rfl⟩

end Go.Proofs.YtkoomaoelekpaaaDoor
