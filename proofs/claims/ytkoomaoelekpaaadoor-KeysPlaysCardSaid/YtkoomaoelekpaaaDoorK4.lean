/-
  The walks of layer 8: Extract and Chain.
-/
import Derived.Test.YtkoomaoelekpaaaDoorW8
import Derived.Test.YtkoomaoelekpaaaDoorX12
import Derived.Test.YtkoomaoelekpaaaDoorHK
namespace Go.Proofs.YtkoomaoelekpaaaDoor
open Go Go.X

set_option maxRecDepth 100000 in
theorem extract_spec (key b : List Int) (KA BA : Option Addr) (kc bc : Nat) (hkc : key.length ≤ kc) (hbc : b.length ≤ bc) (hkb : key.length ≤ 140737488355000) (hbl : b.length ≤ 140737488354900) (w0 : World) (hK : Reads w0 KA (ints .u8 key)) (hB : Reads w0 BA (ints .u8 b)) (hg0 : Reads w0 (some ⟨0, 0, none⟩) (ints .u32 startW)) (hg1 : Reads w0 (some ⟨1, 0, none⟩) (ints .u8 sgm)) (hg2 : Reads w0 (some ⟨2, 0, none⟩) (ints .u8 tbl)) : Does Tryd.prog 32 #[.slice KA key.length kc, .slice BA b.length bc] w0 [] (fun v G => v = .agg (ints .u8 (macS key b)).toArray ∧ G = []) := by
  refine spec_of 8 Tryd.func32 rfl rfl rfl ?_
  refine W.seq ?_
  refine W.region ?_
  refine T.eff (e_alloc ze29 rfl rfl rfl) (Wt.plain rfl) ?_
  rintro _ _ ⟨k1, rfl, rfl⟩
  change (_ : List Blk → Prop) [_]
  refine T.nil ?_
  refine Ex.next ?_
  refine W.slots (L' := [(0, _), (1, _), (4, _)]) ⟨rfl, rfl, rfl, trivial⟩ ?_
  refine W.seq ?_
  refine W.region ?_
  refine T.q (q_move rfl rfl) (Wt.plain rfl) rfl rfl ?_
  refine T.q (q_move rfl rfl) (Wt.plain rfl) rfl rfl ?_
  refine T.eff (e_call enters23 rfl rfl (fun w hm => mac_at key b _ _ _ _ (by first | omega | (simp; done) | (simp; omega) | (simp at *; omega)) (by first | omega | (simp; done) | (simp; omega) | (simp at *; omega)) (by first | omega | (simp; done) | (simp; omega) | (simp at *; omega)) (by first | omega | (simp; done) | (simp; omega) | (simp at *; omega)) w ((R_ext hK.ext) w hm) ((R_ext hB.ext) w hm) (R_ext hg0.ext w hm) (R_ext hg1.ext w hm) (R_ext hg2.ext w hm) (by first | omega | (simp; done) | (simp [-List.getD_eq_getElem?_getD]; omega) | (simp at *; omega) | rfl) (by first | omega | (simp; done) | (simp [-List.getD_eq_getElem?_getD]; omega) | (simp at *; omega) | rfl)) rfl rfl) (Wt.plain rfl) ?_
  rintro _ _ ⟨_, _, ⟨rfl, rfl⟩, rfl, rfl⟩
  change (_ : List Blk → Prop) [_]
  refine T.eff (e_storeA (wide_ints wd29 (by first | omega | (simp; done) | (simp [-List.getD_eq_getElem?_getD]; omega) | (simp at *; omega) | rfl)) 0 rfl rfl rfl rfl (by first | omega | (simp; done) | (simp [-List.getD_eq_getElem?_getD]; omega) | (simp at *; omega) | rfl) ints_one rfl) (Wt.plain rfl) ?_
  rintro _ _ ⟨rfl, rfl⟩
  change (_ : List Blk → Prop) [_]
  refine T.nil ?_
  refine Ex.next ?_
  refine W.slots (L' := [(4, _)]) ⟨rfl, trivial⟩ ?_
  refine W.ret ?_
  refine Ex.outC [false] 0 rfl (by exact (wide_ints wd29 (by first | omega | (simp; done) | (simp [-List.getD_eq_getElem?_getD]; omega) | (simp at *; omega) | rfl))) rfl rfl ?_
  exact ⟨rfl, rfl⟩
set_option maxRecDepth 100000 in
theorem refextract_spec (key b : List Int) (KA BA : Option Addr) (kc bc : Nat) (hkc : key.length ≤ kc) (hbc : b.length ≤ bc) (hkb : key.length ≤ 140737488355000) (hbl : b.length ≤ 140737488354900) (w0 : World) (hK : Reads w0 KA (ints .u8 key)) (hB : Reads w0 BA (ints .u8 b)) : Does Tryd.prog 33 #[.slice KA key.length kc, .slice BA b.length bc] w0 [] (fun v G => v = .agg (ints .u8 (macS key b)).toArray ∧ G = []) := by
  refine spec_of 8 Tryd.func33 rfl rfl rfl ?_
  refine W.seq ?_
  refine W.region ?_
  refine T.eff (e_alloc ze29 rfl rfl rfl) (Wt.plain rfl) ?_
  rintro _ _ ⟨k1, rfl, rfl⟩
  change (_ : List Blk → Prop) [_]
  refine T.nil ?_
  refine Ex.next ?_
  refine W.slots (L' := [(0, _), (1, _), (4, _)]) ⟨rfl, rfl, rfl, trivial⟩ ?_
  refine W.seq ?_
  refine W.region ?_
  refine T.q (q_move rfl rfl) (Wt.plain rfl) rfl rfl ?_
  refine T.q (q_move rfl rfl) (Wt.plain rfl) rfl rfl ?_
  refine T.eff (e_call enters24 rfl rfl (fun w hm => refmac_at key b _ _ _ _ (by first | omega | (simp; done) | (simp; omega) | (simp at *; omega)) (by first | omega | (simp; done) | (simp; omega) | (simp at *; omega)) (by first | omega | (simp; done) | (simp; omega) | (simp at *; omega)) (by first | omega | (simp; done) | (simp; omega) | (simp at *; omega)) w ((R_ext hK.ext) w hm) ((R_ext hB.ext) w hm) (by first | omega | (simp; done) | (simp [-List.getD_eq_getElem?_getD]; omega) | (simp at *; omega) | rfl) (by first | omega | (simp; done) | (simp [-List.getD_eq_getElem?_getD]; omega) | (simp at *; omega) | rfl)) rfl rfl) (Wt.plain rfl) ?_
  rintro _ _ ⟨_, _, ⟨rfl, rfl⟩, rfl, rfl⟩
  change (_ : List Blk → Prop) [_]
  refine T.eff (e_storeA (wide_ints wd29 (by first | omega | (simp; done) | (simp [-List.getD_eq_getElem?_getD]; omega) | (simp at *; omega) | rfl)) 0 rfl rfl rfl rfl (by first | omega | (simp; done) | (simp [-List.getD_eq_getElem?_getD]; omega) | (simp at *; omega) | rfl) ints_one rfl) (Wt.plain rfl) ?_
  rintro _ _ ⟨rfl, rfl⟩
  change (_ : List Blk → Prop) [_]
  refine T.nil ?_
  refine Ex.next ?_
  refine W.slots (L' := [(4, _)]) ⟨rfl, trivial⟩ ?_
  refine W.ret ?_
  refine Ex.outC [false] 0 rfl (by exact (wide_ints wd29 (by first | omega | (simp; done) | (simp [-List.getD_eq_getElem?_getD]; omega) | (simp at *; omega) | rfl))) rfl rfl ?_
  exact ⟨rfl, rfl⟩
set_option maxRecDepth 100000 in
theorem chain_spec (key b : List Int) (BA : Option Addr) (bc : Nat) (hk : key.length = 32) (hbc : b.length ≤ bc) (hbl : b.length ≤ 140737488354900) (w0 : World) (hB : Reads w0 BA (ints .u8 b)) (hg0 : Reads w0 (some ⟨0, 0, none⟩) (ints .u32 startW)) (hg1 : Reads w0 (some ⟨1, 0, none⟩) (ints .u8 sgm)) (hg2 : Reads w0 (some ⟨2, 0, none⟩) (ints .u8 tbl)) : Does Tryd.prog 34 #[.agg (ints .u8 key).toArray, .slice BA b.length bc] w0 [] (fun v G => v = .tuple #[.agg (ints .u8 (chainA key b)).toArray, .agg (ints .u8 (chainB key b)).toArray] ∧ G = []) := by
  refine spec_of 23 Tryd.func34 rfl rfl rfl ?_
  refine W.seq ?_
  refine W.region ?_
  refine T.eff (e_box rfl rfl rfl rfl) (Wt.plain rfl) ?_
  rintro _ _ ⟨k1, rfl, rfl⟩
  change (_ : List Blk → Prop) [_]
  refine T.eff (e_alloc ze29 rfl rfl rfl) (Wt.plain rfl) ?_
  rintro _ _ ⟨k2, rfl, rfl⟩
  change (_ : List Blk → Prop) [_, _]
  refine T.eff (e_alloc ze29 rfl rfl rfl) (Wt.plain rfl) ?_
  rintro _ _ ⟨k3, rfl, rfl⟩
  change (_ : List Blk → Prop) [_, _, _]
  refine T.nil ?_
  refine Ex.next ?_
  refine W.slots (L' := [(1, _), (2, _), (4, _), (5, _)]) ⟨rfl, rfl, rfl, rfl, trivial⟩ ?_
  refine W.seq ?_
  refine W.region ?_
  refine T.q (q_slAll ar29 rfl rfl) (Wt.plain rfl) rfl rfl ?_
  refine T.q (q_move rfl rfl) (Wt.plain rfl) rfl rfl ?_
  refine T.eff (e_call enters23 rfl rfl (fun w hm => mac_at key b _ _ _ _ (by first | omega | (simp; done) | (simp; omega) | (simp at *; omega)) (by first | omega | (simp; done) | (simp; omega) | (simp at *; omega)) (by first | omega | (simp; done) | (simp; omega) | (simp at *; omega)) (by first | omega | (simp; done) | (simp; omega) | (simp at *; omega)) w ((R_blk 0 rfl) w hm) ((R_ext hB.ext) w hm) (R_ext hg0.ext w hm) (R_ext hg1.ext w hm) (R_ext hg2.ext w hm) (by first | omega | (simp; done) | (simp [-List.getD_eq_getElem?_getD]; omega) | (simp at *; omega) | rfl) (by first | omega | (simp; done) | (simp [-List.getD_eq_getElem?_getD]; omega) | (simp at *; omega) | rfl)) rfl rfl) (Wt.plain rfl) ?_
  rintro _ _ ⟨_, _, ⟨rfl, rfl⟩, rfl, rfl⟩
  change (_ : List Blk → Prop) [_, _, _]
  refine T.eff (e_alloc ze29 rfl rfl rfl) (Wt.plain rfl) ?_
  rintro _ _ ⟨k4, rfl, rfl⟩
  change (_ : List Blk → Prop) [_, _, _, _]
  refine T.eff (e_storeA (wide_ints wd29 (by first | omega | (simp; done) | (simp [-List.getD_eq_getElem?_getD]; omega) | (simp at *; omega) | rfl)) 3 rfl rfl rfl rfl (by first | omega | (simp; done) | (simp [-List.getD_eq_getElem?_getD]; omega) | (simp at *; omega) | rfl) ints_one rfl) (Wt.plain rfl) ?_
  rintro _ _ ⟨rfl, rfl⟩
  change (_ : List Blk → Prop) [_, _, _, _]
  refine T.nil ?_
  refine Ex.next ?_
  refine W.less (L' := [(4, _), (5, _), (6, _)]) [false, true, true, true] ⟨rfl, rfl, rfl, trivial⟩ ?_
  change (_ : List Blk → Prop) [_, _, _]
  refine W.seq ?_
  refine W.region ?_
  refine T.q (q_slAll ar29 rfl rfl) (Wt.plain rfl) rfl rfl ?_
  refine T.eff (e_litA sc22 ze5 rfl rfl rfl (by simp [Value.cells]) rfl rfl rfl) (Wt.plain rfl) ?_
  rintro _ _ ⟨k5, rfl, rfl⟩
  change (_ : List Blk → Prop) [_, _, _, _]
  refine T.eff (e_call enters23 rfl rfl (fun w hm => mac_at (macS key b) [1] _ _ _ _ (by first | omega | (simp; done) | (simp; omega) | (simp at *; omega)) (by first | omega | (simp; done) | (simp; omega) | (simp at *; omega)) (by first | omega | (simp; done) | (simp; omega) | (simp at *; omega)) (by first | omega | (simp; done) | (simp; omega) | (simp at *; omega)) w ((R_blk 2 rfl) w hm) ((R_blk 3 rfl) w hm) (R_ext hg0.ext w hm) (R_ext hg1.ext w hm) (R_ext hg2.ext w hm) (by first | omega | (simp; done) | (simp [-List.getD_eq_getElem?_getD]; omega) | (simp at *; omega) | rfl) (by first | omega | (simp; done) | (simp [-List.getD_eq_getElem?_getD]; omega) | (simp at *; omega) | rfl)) rfl rfl) (Wt.plain rfl) ?_
  rintro _ _ ⟨_, _, ⟨rfl, rfl⟩, rfl, rfl⟩
  change (_ : List Blk → Prop) [_, _, _, _]
  refine T.eff (e_alloc ze29 rfl rfl rfl) (Wt.plain rfl) ?_
  rintro _ _ ⟨k6, rfl, rfl⟩
  change (_ : List Blk → Prop) [_, _, _, _, _]
  refine T.eff (e_storeA (wide_ints wd29 (by first | omega | (simp; done) | (simp [-List.getD_eq_getElem?_getD]; omega) | (simp at *; omega) | rfl)) 4 rfl rfl rfl rfl (by first | omega | (simp; done) | (simp [-List.getD_eq_getElem?_getD]; omega) | (simp at *; omega) | rfl) ints_one rfl) (Wt.plain rfl) ?_
  rintro _ _ ⟨rfl, rfl⟩
  change (_ : List Blk → Prop) [_, _, _, _, _]
  change (_ : List Blk → Prop) [_, _, _, _, ⟨some k6, ints .u8 (chainA key b), 29, (0, 0)⟩]
  refine T.nil ?_
  refine Ex.next ?_
  refine W.less (L' := [(4, _), (5, _), (6, _), (7, _)]) [true, true, true, false, true] ⟨rfl, rfl, rfl, rfl, trivial⟩ ?_
  change (_ : List Blk → Prop) [_, _, _, _]
  refine W.seq ?_
  refine W.region ?_
  refine T.eff (e_alloc ze73 rfl rfl rfl) (Wt.plain rfl) ?_
  rintro _ _ ⟨k7, rfl, rfl⟩
  change (_ : List Blk → Prop) [_, _, _, _, _]
  refine T.nil ?_
  refine Ex.next ?_
  refine W.slots (L' := [(4, _), (5, _), (6, _), (7, _), (8, _)]) ⟨rfl, rfl, rfl, rfl, rfl, trivial⟩ ?_
  refine W.seq ?_
  refine W.draw 2 (by kernel_rfl) ?_
  refine D.take 0 rfl (by kernel_rfl) (fun _ h => h) (q_slAll ar73 rfl rfl) (Wt.plain rfl) rfl rfl ?_
  refine D.take 1 rfl (by kernel_rfl) (fun _ h => h) (q_slAll ar29 rfl rfl) (Wt.plain rfl) rfl rfl ?_
  refine D.one 2 (by kernel_rfl) ?_
  refine Up.eff rfl (e_copyI sc22 4 (List.replicate 33 0) (chainA key b) (R_blk 3 rfl) rfl rfl rfl rfl (by first | omega | (simp; done) | (simp [-List.getD_eq_getElem?_getD]; omega) | (simp at *; omega) | rfl) (by first | omega | (simp; done) | (simp [-List.getD_eq_getElem?_getD]; omega)) (by first | omega | (simp; done) | (simp [-List.getD_eq_getElem?_getD]; omega)) rfl rfl) (Wt.plain rfl) ?_
  rintro _ _ ⟨rfl, rfl⟩
  refine ⟨fun h => absurd h (by decide), ?_⟩
  change (_ : List Blk → Prop) [_, _, _, _, _]
  refine D.done (by kernel_rfl) ?_
  refine Ex.next ?_
  refine W.slots (L' := [(4, _), (5, _), (6, _), (7, _), (8, _)]) ⟨rfl, rfl, rfl, rfl, rfl, trivial⟩ ?_
  refine W.seq ?_
  refine W.region ?_
  refine T.q (q_ixA0 ar73 32 rfl rfl rfl (rfl) (by decide)) (Wt.plain rfl) rfl rfl ?_
  refine T.eff (e_storeI ss5 4 rfl rfl rfl rfl (by first | omega | (simp; done) | (simp [-List.getD_eq_getElem?_getD]; omega)) rfl) (Wt.plain rfl) ?_
  rintro _ _ ⟨rfl, rfl⟩
  change (_ : List Blk → Prop) [_, _, _, _, _]
  conv => rhs; rw [copy33 _ _ (chainA_length key b)]
  refine T.nil ?_
  refine Ex.next ?_
  refine W.slots (L' := [(4, _), (5, _), (6, _), (7, _), (8, _)]) ⟨rfl, rfl, rfl, rfl, rfl, trivial⟩ ?_
  refine W.seq ?_
  refine W.drawP 5 [false, true, true, true, true] (by kernel_rfl) ?_
  refine D.take 0 rfl (by kernel_rfl) (S_sub ((((((List.Sublist.slnil).cons_cons _).cons_cons _).cons_cons _).cons_cons _).cons _)) (q_loadW (wide_ints wd29 (by first | omega | (simp; done) | (simp [-List.getD_eq_getElem?_getD]; omega) | (simp at *; omega) | rfl)) (R_blk 2 rfl) rfl rfl) (Wt.plain rfl) rfl rfl ?_
  refine D.take 1 rfl (by kernel_rfl) (S_sub ((((((List.Sublist.slnil).cons_cons _).cons_cons _).cons_cons _).cons_cons _).cons _)) (q_slAll ar29 rfl rfl) (Wt.plain rfl) rfl rfl ?_
  refine D.take 2 rfl (by kernel_rfl) (S_sub ((((((List.Sublist.slnil).cons_cons _).cons_cons _).cons_cons _).cons_cons _).cons _)) (q_slAll ar73 rfl rfl) (Wt.plain rfl) rfl rfl ?_
  refine D.one 3 (by kernel_rfl) ?_
  refine Up.eff rfl (e_call enters23 rfl rfl (fun w hm => mac_at (macS key b) (chainA key b ++ [2]) _ _ _ _ (by first | omega | (simp; done) | (simp; omega) | (simp at *; omega)) (by first | omega | (simp; done) | (simp; omega) | (simp at *; omega)) (by first | omega | (simp; done) | (simp; omega) | (simp at *; omega)) (by first | omega | (simp; done) | (simp; omega) | (simp at *; omega)) w ((R_blk 2 rfl) w hm) ((R_blk 4 rfl) w hm) (R_ext hg0.ext w hm) (R_ext hg1.ext w hm) (R_ext hg2.ext w hm) (by first | omega | (simp; done) | (simp [-List.getD_eq_getElem?_getD]; omega) | (simp at *; omega) | rfl) (by first | omega | (simp; done) | (simp [-List.getD_eq_getElem?_getD]; omega) | (simp at *; omega) | rfl)) rfl rfl) (Wt.plain rfl) ?_
  rintro _ _ ⟨_, _, ⟨rfl, rfl⟩, rfl, rfl⟩
  refine ⟨fun _ => (S_sub ((((((List.Sublist.slnil).cons_cons _).cons_cons _).cons_cons _).cons_cons _).cons _)), ?_⟩
  change (_ : List Blk → Prop) [_, _, _, _, _]
  refine D.one 4 (by kernel_rfl) ?_
  refine Up.eff rfl (e_storeA (wide_ints wd29 (by first | omega | (simp; done) | (simp [-List.getD_eq_getElem?_getD]; omega) | (simp at *; omega) | rfl)) 0 rfl rfl rfl rfl (by first | omega | (simp; done) | (simp [-List.getD_eq_getElem?_getD]; omega) | (simp at *; omega) | rfl) ints_one rfl) (Wt.plain rfl) ?_
  rintro _ _ ⟨rfl, rfl⟩
  refine ⟨fun _ => (S_sub ((((((List.Sublist.slnil).cons_cons _).cons_cons _).cons_cons _).cons_cons _).cons _)), ?_⟩
  change (_ : List Blk → Prop) [_, _, _, _, _]
  refine D.one 5 (by kernel_rfl) ?_
  refine Up.eff rfl (e_storeA (wide_ints wd29 (by first | omega | (simp; done) | (simp [-List.getD_eq_getElem?_getD]; omega) | (simp at *; omega) | rfl)) 1 rfl rfl rfl rfl (by first | omega | (simp; done) | (simp [-List.getD_eq_getElem?_getD]; omega) | (simp at *; omega) | rfl) ints_one rfl) (Wt.plain rfl) ?_
  rintro _ _ ⟨rfl, rfl⟩
  refine ⟨fun h => absurd h (by decide), ?_⟩
  change (_ : List Blk → Prop) [_, _, _, _, _]
  change (_ : List Blk → Prop) [_, ⟨some k3, ints .u8 (chainB key b), 29, (0, 0)⟩, _, _, _]
  refine D.done (by kernel_rfl) ?_
  refine Ex.next ?_
  refine W.less (L' := [(4, _), (5, _)]) [true, true, false, false, false] ⟨rfl, rfl, trivial⟩ ?_
  change (_ : List Blk → Prop) [_, _]
  refine W.ret ?_
  refine Ex.outCC [false, false] 0 1 rfl (wide_ints wd29 (by first | omega | (simp; done) | (simp [-List.getD_eq_getElem?_getD]; omega) | (simp at *; omega) | rfl)) (wide_ints wd29 (by first | omega | (simp; done) | (simp [-List.getD_eq_getElem?_getD]; omega) | (simp at *; omega) | rfl)) rfl rfl rfl rfl ?_
  exact ⟨rfl, rfl⟩
set_option maxRecDepth 100000 in
set_option maxHeartbeats 4000000 in
theorem refchain_spec (key b : List Int) (BA : Option Addr) (bc : Nat) (hk : key.length = 32) (hbc : b.length ≤ bc) (hbl : b.length ≤ 140737488354900) (w0 : World) (hB : Reads w0 BA (ints .u8 b)) : Does Tryd.prog 35 #[.agg (ints .u8 key).toArray, .slice BA b.length bc] w0 [] (fun v G => v = .tuple #[.agg (ints .u8 (chainA key b)).toArray, .agg (ints .u8 (chainB key b)).toArray] ∧ G = []) := by
  refine spec_of 24 Tryd.func35 rfl rfl rfl ?_
  refine W.seq ?_
  refine W.region ?_
  refine T.eff (e_box rfl rfl rfl rfl) (Wt.plain rfl) ?_
  rintro _ _ ⟨k1, rfl, rfl⟩
  change (_ : List Blk → Prop) [_]
  refine T.eff (e_alloc ze29 rfl rfl rfl) (Wt.plain rfl) ?_
  rintro _ _ ⟨k2, rfl, rfl⟩
  change (_ : List Blk → Prop) [_, _]
  refine T.eff (e_alloc ze29 rfl rfl rfl) (Wt.plain rfl) ?_
  rintro _ _ ⟨k3, rfl, rfl⟩
  change (_ : List Blk → Prop) [_, _, _]
  refine T.nil ?_
  refine Ex.next ?_
  refine W.slots (L' := [(1, _), (2, _), (4, _), (5, _)]) ⟨rfl, rfl, rfl, rfl, trivial⟩ ?_
  refine W.seq ?_
  refine W.region ?_
  refine T.q (q_slAll ar29 rfl rfl) (Wt.plain rfl) rfl rfl ?_
  refine T.q (q_move rfl rfl) (Wt.plain rfl) rfl rfl ?_
  refine T.eff (e_call enters24 rfl rfl (fun w hm => refmac_at key b _ _ _ _ (by first | omega | (simp; done) | (simp; omega) | (simp at *; omega)) (by first | omega | (simp; done) | (simp; omega) | (simp at *; omega)) (by first | omega | (simp; done) | (simp; omega) | (simp at *; omega)) (by first | omega | (simp; done) | (simp; omega) | (simp at *; omega)) w ((R_blk 0 rfl) w hm) ((R_ext hB.ext) w hm) (by first | omega | (simp; done) | (simp [-List.getD_eq_getElem?_getD]; omega) | (simp at *; omega) | rfl) (by first | omega | (simp; done) | (simp [-List.getD_eq_getElem?_getD]; omega) | (simp at *; omega) | rfl)) rfl rfl) (Wt.plain rfl) ?_
  rintro _ _ ⟨_, _, ⟨rfl, rfl⟩, rfl, rfl⟩
  change (_ : List Blk → Prop) [_, _, _]
  refine T.eff (e_alloc ze29 rfl rfl rfl) (Wt.plain rfl) ?_
  rintro _ _ ⟨k4, rfl, rfl⟩
  change (_ : List Blk → Prop) [_, _, _, _]
  refine T.eff (e_storeA (wide_ints wd29 (by first | omega | (simp; done) | (simp [-List.getD_eq_getElem?_getD]; omega) | (simp at *; omega) | rfl)) 3 rfl rfl rfl rfl (by first | omega | (simp; done) | (simp [-List.getD_eq_getElem?_getD]; omega) | (simp at *; omega) | rfl) ints_one rfl) (Wt.plain rfl) ?_
  rintro _ _ ⟨rfl, rfl⟩
  change (_ : List Blk → Prop) [_, _, _, _]
  refine T.nil ?_
  refine Ex.next ?_
  refine W.less (L' := [(4, _), (5, _), (6, _)]) [false, true, true, true] ⟨rfl, rfl, rfl, trivial⟩ ?_
  change (_ : List Blk → Prop) [_, _, _]
  refine W.seq ?_
  refine W.region ?_
  refine T.q (q_slAll ar29 rfl rfl) (Wt.plain rfl) rfl rfl ?_
  refine T.eff (e_litA sc22 ze5 rfl rfl rfl (by simp [Value.cells]) rfl rfl rfl) (Wt.plain rfl) ?_
  rintro _ _ ⟨k5, rfl, rfl⟩
  change (_ : List Blk → Prop) [_, _, _, _]
  refine T.eff (e_call enters24 rfl rfl (fun w hm => refmac_at (macS key b) [1] _ _ _ _ (by first | omega | (simp; done) | (simp; omega) | (simp at *; omega)) (by first | omega | (simp; done) | (simp; omega) | (simp at *; omega)) (by first | omega | (simp; done) | (simp; omega) | (simp at *; omega)) (by first | omega | (simp; done) | (simp; omega) | (simp at *; omega)) w ((R_blk 2 rfl) w hm) ((R_blk 3 rfl) w hm) (by first | omega | (simp; done) | (simp [-List.getD_eq_getElem?_getD]; omega) | (simp at *; omega) | rfl) (by first | omega | (simp; done) | (simp [-List.getD_eq_getElem?_getD]; omega) | (simp at *; omega) | rfl)) rfl rfl) (Wt.plain rfl) ?_
  rintro _ _ ⟨_, _, ⟨rfl, rfl⟩, rfl, rfl⟩
  change (_ : List Blk → Prop) [_, _, _, _]
  refine T.eff (e_alloc ze29 rfl rfl rfl) (Wt.plain rfl) ?_
  rintro _ _ ⟨k6, rfl, rfl⟩
  change (_ : List Blk → Prop) [_, _, _, _, _]
  refine T.eff (e_storeA (wide_ints wd29 (by first | omega | (simp; done) | (simp [-List.getD_eq_getElem?_getD]; omega) | (simp at *; omega) | rfl)) 4 rfl rfl rfl rfl (by first | omega | (simp; done) | (simp [-List.getD_eq_getElem?_getD]; omega) | (simp at *; omega) | rfl) ints_one rfl) (Wt.plain rfl) ?_
  rintro _ _ ⟨rfl, rfl⟩
  change (_ : List Blk → Prop) [_, _, _, _, _]
  change (_ : List Blk → Prop) [_, _, _, _, ⟨some k6, ints .u8 (chainA key b), 29, (0, 0)⟩]
  refine T.nil ?_
  refine Ex.next ?_
  refine W.less (L' := [(4, _), (5, _), (6, _), (7, _)]) [true, true, true, false, true] ⟨rfl, rfl, rfl, rfl, trivial⟩ ?_
  change (_ : List Blk → Prop) [_, _, _, _]
  refine W.seq ?_
  refine W.draw 8 (by kernel_rfl) ?_
  refine D.take 0 rfl (by kernel_rfl) (fun _ h => h) (q_slAll ar29 rfl rfl) (Wt.plain rfl) rfl rfl ?_
  refine D.take 2 rfl (by kernel_rfl) (fun _ h => h) (q_slAll ar29 rfl rfl) (Wt.plain rfl) rfl rfl ?_
  refine D.three 1 4 7 (by kernel_rfl) ?_ ?_ ?_
  ·
    refine Up.eff rfl (e_litA sc22 ze5 rfl rfl rfl (by simp [Value.cells]) rfl rfl rfl) (Wt.plain rfl) ?_
    rintro _ _ ⟨k7, rfl, rfl⟩
    refine ⟨fun _ => (S_sub ((((((List.Sublist.slnil).cons _).cons_cons _).cons_cons _).cons_cons _).cons_cons _)), ?_⟩
    change (_ : List Blk → Prop) [_, _, _, _, _]
    refine D.three 3 4 7 (by kernel_rfl) ?_ ?_ ?_
    ·
      refine Up.eff rfl (e_appendI sc22 ze5 rfl 4 .u8 [] (chainA key b) [] ((List.append_nil _).symm) (R_blk 3 rfl) rfl rfl rfl rfl (by first | omega | (simp; done) | (simp [-List.getD_eq_getElem?_getD]; omega) | (simp at *; omega) | rfl) (by first | omega | (simp; done) | (simp [-List.getD_eq_getElem?_getD]; omega) | (simp at *; omega) | rfl) (by first | omega | (simp; done) | (simp [-List.getD_eq_getElem?_getD]; omega) | (simp at *; omega) | rfl) (by first | omega | (simp; done) | (simp [-List.getD_eq_getElem?_getD]; omega)) (by first | omega | (simp; done) | (simp [-List.getD_eq_getElem?_getD]; omega)) rfl rfl) (Wt.plain rfl) ?_
      rintro _ _ ⟨k8, cap9, junk10, hc11, rfl, rfl⟩
      refine ⟨fun _ => (S_sub ((((((List.Sublist.slnil).cons _).cons_cons _).cons_cons _).cons_cons _).cons_cons _)), ?_⟩
      change (_ : List Blk → Prop) [_, _, _, _, _]
      conv => rhs; rw [List.nil_append]
      refine D.two 4 7 (by kernel_rfl) ?_ ?_
      ·
        refine Up.eff rfl (e_litA sc22 ze5 rfl rfl rfl (by simp [Value.cells]) rfl rfl rfl) (Wt.plain rfl) ?_
        rintro _ _ ⟨k12, rfl, rfl⟩
        refine ⟨fun _ => (S_sub (((((((List.Sublist.slnil).cons _).cons _).cons_cons _).cons_cons _).cons_cons _).cons_cons _)), ?_⟩
        change (_ : List Blk → Prop) [_, _, _, _, _, _]
        refine D.two 5 7 (by kernel_rfl) ?_ ?_
        ·
          refine Up.eff rfl (e_appendI sc22 ze5 rfl 4 .u8 (chainA key b) [2] junk10 (rfl) (R_blk 5 rfl) rfl rfl rfl rfl (by first | omega | (simp; done) | (simp [-List.getD_eq_getElem?_getD]; omega) | (simp at *; omega) | rfl) (by first | omega | (simp; done) | (simp [-List.getD_eq_getElem?_getD]; omega) | (simp at *; omega) | rfl) (by first | omega | (simp; done) | (simp [-List.getD_eq_getElem?_getD]; omega) | (simp at *; omega) | rfl) (by first | omega | (simp; done) | (simp [-List.getD_eq_getElem?_getD]; omega)) (by first | omega | (simp; done) | (simp [-List.getD_eq_getElem?_getD]; omega)) rfl rfl) (Wt.plain rfl) ?_
          rintro _ _ ⟨k13, cap14, junk15, hc16, rfl, rfl⟩
          refine ⟨fun _ => (S_sub (((((((List.Sublist.slnil).cons _).cons _).cons_cons _).cons_cons _).cons_cons _).cons_cons _)), ?_⟩
          change (_ : List Blk → Prop) [_, _, _, _, _, _]
          refine D.two 6 7 (by kernel_rfl) ?_ ?_
          ·
            refine Up.eff rfl (e_call enters24 rfl rfl (fun w hm => refmac_at (macS key b) (chainA key b ++ [2]) _ _ _ _ (by first | omega | (simp; done) | (simp; omega) | (simp at *; omega)) (by first | omega | (simp; done) | (simp; omega) | (simp at *; omega)) (by first | omega | (simp; done) | (simp; omega) | (simp at *; omega)) (by first | omega | (simp; done) | (simp; omega) | (simp at *; omega)) w ((R_blk 2 rfl) w hm) ((R_pre 4 rfl) w hm) (by first | omega | (simp; done) | (simp [-List.getD_eq_getElem?_getD]; omega) | (simp at *; omega) | rfl) (by first | omega | (simp; done) | (simp [-List.getD_eq_getElem?_getD]; omega) | (simp at *; omega) | rfl)) rfl rfl) (Wt.plain rfl) ?_
            rintro _ _ ⟨_, _, ⟨rfl, rfl⟩, rfl, rfl⟩
            refine ⟨fun _ => (S_sub (((((((List.Sublist.slnil).cons _).cons _).cons_cons _).cons_cons _).cons_cons _).cons_cons _)), ?_⟩
            change (_ : List Blk → Prop) [_, _, _, _, _, _]
            refine D.one 7 (by kernel_rfl) ?_
            refine Up.eff rfl (e_alloc ze29 rfl rfl rfl) (Wt.plain rfl) ?_
            rintro _ _ ⟨k17, rfl, rfl⟩
            refine ⟨fun _ => (S_sub ((((((((List.Sublist.slnil).cons _).cons _).cons _).cons_cons _).cons_cons _).cons_cons _).cons_cons _)), ?_⟩
            change (_ : List Blk → Prop) [_, _, _, _, _, _, _]
            refine D.one 8 (by kernel_rfl) ?_
            refine Up.eff rfl (e_storeA (wide_ints wd29 (by first | omega | (simp; done) | (simp [-List.getD_eq_getElem?_getD]; omega) | (simp at *; omega) | rfl)) 6 rfl rfl rfl rfl (by first | omega | (simp; done) | (simp [-List.getD_eq_getElem?_getD]; omega) | (simp at *; omega) | rfl) ints_one rfl) (Wt.plain rfl) ?_
            rintro _ _ ⟨rfl, rfl⟩
            refine ⟨fun h => absurd h (by decide), ?_⟩
            change (_ : List Blk → Prop) [_, _, _, _, _, _, _]
            change (_ : List Blk → Prop) [_, _, _, _, _, _, ⟨some k17, ints .u8 (chainB key b), 29, (0, 0)⟩]
            refine D.done (by kernel_rfl) ?_
            refine Ex.next ?_
            refine W.less (L' := [(4, _), (5, _), (7, _), (8, _)]) [true, true, false, true, false, false, true] ⟨rfl, rfl, rfl, rfl, trivial⟩ ?_
            change (_ : List Blk → Prop) [_, _, _, _]
            refine W.seq ?_
            refine W.drawP 3 [false, true, true, true] (by kernel_rfl) ?_
            refine D.take 0 rfl (by kernel_rfl) (S_sub (((((List.Sublist.slnil).cons_cons _).cons_cons _).cons_cons _).cons _)) (q_loadW (wide_ints wd29 (by first | omega | (simp; done) | (simp [-List.getD_eq_getElem?_getD]; omega) | (simp at *; omega) | rfl)) (R_blk 1 rfl) rfl rfl) (Wt.plain rfl) rfl rfl ?_
            refine D.take 1 rfl (by kernel_rfl) (S_sub (((((List.Sublist.slnil).cons_cons _).cons_cons _).cons_cons _).cons _)) (q_loadW (wide_ints wd29 (by first | omega | (simp; done) | (simp [-List.getD_eq_getElem?_getD]; omega) | (simp at *; omega) | rfl)) (R_blk 2 rfl) rfl rfl) (Wt.plain rfl) rfl rfl ?_
            refine D.one 2 (by kernel_rfl) ?_
            refine Up.eff rfl (e_storeA (wide_ints wd29 (by first | omega | (simp; done) | (simp [-List.getD_eq_getElem?_getD]; omega) | (simp at *; omega) | rfl)) 0 rfl rfl rfl rfl (by first | omega | (simp; done) | (simp [-List.getD_eq_getElem?_getD]; omega) | (simp at *; omega) | rfl) ints_one rfl) (Wt.plain rfl) ?_
            rintro _ _ ⟨rfl, rfl⟩
            refine ⟨fun _ => (S_sub (((((List.Sublist.slnil).cons_cons _).cons_cons _).cons_cons _).cons _)), ?_⟩
            change (_ : List Blk → Prop) [_, _, _, _]
            refine D.one 3 (by kernel_rfl) ?_
            refine Up.eff rfl (e_storeA (wide_ints wd29 (by first | omega | (simp; done) | (simp [-List.getD_eq_getElem?_getD]; omega) | (simp at *; omega) | rfl)) 1 rfl rfl rfl rfl (by first | omega | (simp; done) | (simp [-List.getD_eq_getElem?_getD]; omega) | (simp at *; omega) | rfl) ints_one rfl) (Wt.plain rfl) ?_
            rintro _ _ ⟨rfl, rfl⟩
            refine ⟨fun h => absurd h (by decide), ?_⟩
            change (_ : List Blk → Prop) [_, _, _, _]
            refine D.done (by kernel_rfl) ?_
            refine Ex.next ?_
            refine W.less (L' := [(4, _), (5, _)]) [true, true, false, false] ⟨rfl, rfl, trivial⟩ ?_
            change (_ : List Blk → Prop) [_, _]
            refine W.ret ?_
            refine Ex.outCC [false, false] 0 1 rfl (wide_ints wd29 (by first | omega | (simp; done) | (simp [-List.getD_eq_getElem?_getD]; omega) | (simp at *; omega) | rfl)) (wide_ints wd29 (by first | omega | (simp; done) | (simp [-List.getD_eq_getElem?_getD]; omega) | (simp at *; omega) | rfl)) rfl rfl rfl rfl ?_
            exact ⟨rfl, rfl⟩
          ·
            refine Up.eff rfl (e_alloc ze29 rfl rfl rfl) (Wt.plain rfl) ?_
            rintro _ _ ⟨k18, rfl, rfl⟩
            refine ⟨fun _ => (S_sub ((((((((List.Sublist.slnil).cons _).cons _).cons _).cons_cons _).cons_cons _).cons_cons _).cons_cons _)), ?_⟩
            change (_ : List Blk → Prop) [_, _, _, _, _, _, _]
            refine D.one 6 (by kernel_rfl) ?_
            refine Up.eff rfl (e_call enters24 rfl rfl (fun w hm => refmac_at (macS key b) (chainA key b ++ [2]) _ _ _ _ (by first | omega | (simp; done) | (simp; omega) | (simp at *; omega)) (by first | omega | (simp; done) | (simp; omega) | (simp at *; omega)) (by first | omega | (simp; done) | (simp; omega) | (simp at *; omega)) (by first | omega | (simp; done) | (simp; omega) | (simp at *; omega)) w ((R_blk 2 rfl) w hm) ((R_pre 4 rfl) w hm) (by first | omega | (simp; done) | (simp [-List.getD_eq_getElem?_getD]; omega) | (simp at *; omega) | rfl) (by first | omega | (simp; done) | (simp [-List.getD_eq_getElem?_getD]; omega) | (simp at *; omega) | rfl)) rfl rfl) (Wt.plain rfl) ?_
            rintro _ _ ⟨_, _, ⟨rfl, rfl⟩, rfl, rfl⟩
            refine ⟨fun _ => (S_sub ((((((((List.Sublist.slnil).cons _).cons _).cons _).cons_cons _).cons_cons _).cons_cons _).cons_cons _)), ?_⟩
            change (_ : List Blk → Prop) [_, _, _, _, _, _, _]
            refine D.one 8 (by kernel_rfl) ?_
            refine Up.eff rfl (e_storeA (wide_ints wd29 (by first | omega | (simp; done) | (simp [-List.getD_eq_getElem?_getD]; omega) | (simp at *; omega) | rfl)) 6 rfl rfl rfl rfl (by first | omega | (simp; done) | (simp [-List.getD_eq_getElem?_getD]; omega) | (simp at *; omega) | rfl) ints_one rfl) (Wt.plain rfl) ?_
            rintro _ _ ⟨rfl, rfl⟩
            refine ⟨fun h => absurd h (by decide), ?_⟩
            change (_ : List Blk → Prop) [_, _, _, _, _, _, _]
            change (_ : List Blk → Prop) [_, _, _, _, _, _, ⟨some k18, ints .u8 (chainB key b), 29, (0, 0)⟩]
            refine D.done (by kernel_rfl) ?_
            refine Ex.next ?_
            refine W.less (L' := [(4, _), (5, _), (7, _), (8, _)]) [true, true, false, true, false, false, true] ⟨rfl, rfl, rfl, rfl, trivial⟩ ?_
            change (_ : List Blk → Prop) [_, _, _, _]
            refine W.seq ?_
            refine W.drawP 3 [false, true, true, true] (by kernel_rfl) ?_
            refine D.take 0 rfl (by kernel_rfl) (S_sub (((((List.Sublist.slnil).cons_cons _).cons_cons _).cons_cons _).cons _)) (q_loadW (wide_ints wd29 (by first | omega | (simp; done) | (simp [-List.getD_eq_getElem?_getD]; omega) | (simp at *; omega) | rfl)) (R_blk 1 rfl) rfl rfl) (Wt.plain rfl) rfl rfl ?_
            refine D.take 1 rfl (by kernel_rfl) (S_sub (((((List.Sublist.slnil).cons_cons _).cons_cons _).cons_cons _).cons _)) (q_loadW (wide_ints wd29 (by first | omega | (simp; done) | (simp [-List.getD_eq_getElem?_getD]; omega) | (simp at *; omega) | rfl)) (R_blk 2 rfl) rfl rfl) (Wt.plain rfl) rfl rfl ?_
            refine D.one 2 (by kernel_rfl) ?_
            refine Up.eff rfl (e_storeA (wide_ints wd29 (by first | omega | (simp; done) | (simp [-List.getD_eq_getElem?_getD]; omega) | (simp at *; omega) | rfl)) 0 rfl rfl rfl rfl (by first | omega | (simp; done) | (simp [-List.getD_eq_getElem?_getD]; omega) | (simp at *; omega) | rfl) ints_one rfl) (Wt.plain rfl) ?_
            rintro _ _ ⟨rfl, rfl⟩
            refine ⟨fun _ => (S_sub (((((List.Sublist.slnil).cons_cons _).cons_cons _).cons_cons _).cons _)), ?_⟩
            change (_ : List Blk → Prop) [_, _, _, _]
            refine D.one 3 (by kernel_rfl) ?_
            refine Up.eff rfl (e_storeA (wide_ints wd29 (by first | omega | (simp; done) | (simp [-List.getD_eq_getElem?_getD]; omega) | (simp at *; omega) | rfl)) 1 rfl rfl rfl rfl (by first | omega | (simp; done) | (simp [-List.getD_eq_getElem?_getD]; omega) | (simp at *; omega) | rfl) ints_one rfl) (Wt.plain rfl) ?_
            rintro _ _ ⟨rfl, rfl⟩
            refine ⟨fun h => absurd h (by decide), ?_⟩
            change (_ : List Blk → Prop) [_, _, _, _]
            refine D.done (by kernel_rfl) ?_
            refine Ex.next ?_
            refine W.less (L' := [(4, _), (5, _)]) [true, true, false, false] ⟨rfl, rfl, trivial⟩ ?_
            change (_ : List Blk → Prop) [_, _]
            refine W.ret ?_
            refine Ex.outCC [false, false] 0 1 rfl (wide_ints wd29 (by first | omega | (simp; done) | (simp [-List.getD_eq_getElem?_getD]; omega) | (simp at *; omega) | rfl)) (wide_ints wd29 (by first | omega | (simp; done) | (simp [-List.getD_eq_getElem?_getD]; omega) | (simp at *; omega) | rfl)) rfl rfl rfl rfl ?_
            exact ⟨rfl, rfl⟩
        ·
          refine Up.eff rfl (e_alloc ze29 rfl rfl rfl) (Wt.plain rfl) ?_
          rintro _ _ ⟨k19, rfl, rfl⟩
          refine ⟨fun _ => (S_sub ((((((((List.Sublist.slnil).cons _).cons _).cons _).cons_cons _).cons_cons _).cons_cons _).cons_cons _)), ?_⟩
          change (_ : List Blk → Prop) [_, _, _, _, _, _, _]
          refine D.one 5 (by kernel_rfl) ?_
          refine Up.eff rfl (e_appendI sc22 ze5 rfl 4 .u8 (chainA key b) [2] junk10 (rfl) (R_blk 5 rfl) rfl rfl rfl rfl (by first | omega | (simp; done) | (simp [-List.getD_eq_getElem?_getD]; omega) | (simp at *; omega) | rfl) (by first | omega | (simp; done) | (simp [-List.getD_eq_getElem?_getD]; omega) | (simp at *; omega) | rfl) (by first | omega | (simp; done) | (simp [-List.getD_eq_getElem?_getD]; omega) | (simp at *; omega) | rfl) (by first | omega | (simp; done) | (simp [-List.getD_eq_getElem?_getD]; omega)) (by first | omega | (simp; done) | (simp [-List.getD_eq_getElem?_getD]; omega)) rfl rfl) (Wt.plain rfl) ?_
          rintro _ _ ⟨k20, cap21, junk22, hc23, rfl, rfl⟩
          refine ⟨fun _ => (S_sub ((((((((List.Sublist.slnil).cons _).cons _).cons _).cons_cons _).cons_cons _).cons_cons _).cons_cons _)), ?_⟩
          change (_ : List Blk → Prop) [_, _, _, _, _, _, _]
          refine D.one 6 (by kernel_rfl) ?_
          refine Up.eff rfl (e_call enters24 rfl rfl (fun w hm => refmac_at (macS key b) (chainA key b ++ [2]) _ _ _ _ (by first | omega | (simp; done) | (simp; omega) | (simp at *; omega)) (by first | omega | (simp; done) | (simp; omega) | (simp at *; omega)) (by first | omega | (simp; done) | (simp; omega) | (simp at *; omega)) (by first | omega | (simp; done) | (simp; omega) | (simp at *; omega)) w ((R_blk 2 rfl) w hm) ((R_pre 4 rfl) w hm) (by first | omega | (simp; done) | (simp [-List.getD_eq_getElem?_getD]; omega) | (simp at *; omega) | rfl) (by first | omega | (simp; done) | (simp [-List.getD_eq_getElem?_getD]; omega) | (simp at *; omega) | rfl)) rfl rfl) (Wt.plain rfl) ?_
          rintro _ _ ⟨_, _, ⟨rfl, rfl⟩, rfl, rfl⟩
          refine ⟨fun _ => (S_sub ((((((((List.Sublist.slnil).cons _).cons _).cons _).cons_cons _).cons_cons _).cons_cons _).cons_cons _)), ?_⟩
          change (_ : List Blk → Prop) [_, _, _, _, _, _, _]
          refine D.one 8 (by kernel_rfl) ?_
          refine Up.eff rfl (e_storeA (wide_ints wd29 (by first | omega | (simp; done) | (simp [-List.getD_eq_getElem?_getD]; omega) | (simp at *; omega) | rfl)) 6 rfl rfl rfl rfl (by first | omega | (simp; done) | (simp [-List.getD_eq_getElem?_getD]; omega) | (simp at *; omega) | rfl) ints_one rfl) (Wt.plain rfl) ?_
          rintro _ _ ⟨rfl, rfl⟩
          refine ⟨fun h => absurd h (by decide), ?_⟩
          change (_ : List Blk → Prop) [_, _, _, _, _, _, _]
          change (_ : List Blk → Prop) [_, _, _, _, _, _, ⟨some k19, ints .u8 (chainB key b), 29, (0, 0)⟩]
          refine D.done (by kernel_rfl) ?_
          refine Ex.next ?_
          refine W.less (L' := [(4, _), (5, _), (7, _), (8, _)]) [true, true, false, true, false, false, true] ⟨rfl, rfl, rfl, rfl, trivial⟩ ?_
          change (_ : List Blk → Prop) [_, _, _, _]
          refine W.seq ?_
          refine W.drawP 3 [false, true, true, true] (by kernel_rfl) ?_
          refine D.take 0 rfl (by kernel_rfl) (S_sub (((((List.Sublist.slnil).cons_cons _).cons_cons _).cons_cons _).cons _)) (q_loadW (wide_ints wd29 (by first | omega | (simp; done) | (simp [-List.getD_eq_getElem?_getD]; omega) | (simp at *; omega) | rfl)) (R_blk 1 rfl) rfl rfl) (Wt.plain rfl) rfl rfl ?_
          refine D.take 1 rfl (by kernel_rfl) (S_sub (((((List.Sublist.slnil).cons_cons _).cons_cons _).cons_cons _).cons _)) (q_loadW (wide_ints wd29 (by first | omega | (simp; done) | (simp [-List.getD_eq_getElem?_getD]; omega) | (simp at *; omega) | rfl)) (R_blk 2 rfl) rfl rfl) (Wt.plain rfl) rfl rfl ?_
          refine D.one 2 (by kernel_rfl) ?_
          refine Up.eff rfl (e_storeA (wide_ints wd29 (by first | omega | (simp; done) | (simp [-List.getD_eq_getElem?_getD]; omega) | (simp at *; omega) | rfl)) 0 rfl rfl rfl rfl (by first | omega | (simp; done) | (simp [-List.getD_eq_getElem?_getD]; omega) | (simp at *; omega) | rfl) ints_one rfl) (Wt.plain rfl) ?_
          rintro _ _ ⟨rfl, rfl⟩
          refine ⟨fun _ => (S_sub (((((List.Sublist.slnil).cons_cons _).cons_cons _).cons_cons _).cons _)), ?_⟩
          change (_ : List Blk → Prop) [_, _, _, _]
          refine D.one 3 (by kernel_rfl) ?_
          refine Up.eff rfl (e_storeA (wide_ints wd29 (by first | omega | (simp; done) | (simp [-List.getD_eq_getElem?_getD]; omega) | (simp at *; omega) | rfl)) 1 rfl rfl rfl rfl (by first | omega | (simp; done) | (simp [-List.getD_eq_getElem?_getD]; omega) | (simp at *; omega) | rfl) ints_one rfl) (Wt.plain rfl) ?_
          rintro _ _ ⟨rfl, rfl⟩
          refine ⟨fun h => absurd h (by decide), ?_⟩
          change (_ : List Blk → Prop) [_, _, _, _]
          refine D.done (by kernel_rfl) ?_
          refine Ex.next ?_
          refine W.less (L' := [(4, _), (5, _)]) [true, true, false, false] ⟨rfl, rfl, trivial⟩ ?_
          change (_ : List Blk → Prop) [_, _]
          refine W.ret ?_
          refine Ex.outCC [false, false] 0 1 rfl (wide_ints wd29 (by first | omega | (simp; done) | (simp [-List.getD_eq_getElem?_getD]; omega) | (simp at *; omega) | rfl)) (wide_ints wd29 (by first | omega | (simp; done) | (simp [-List.getD_eq_getElem?_getD]; omega) | (simp at *; omega) | rfl)) rfl rfl rfl rfl ?_
          exact ⟨rfl, rfl⟩
      ·
        refine Up.eff rfl (e_alloc ze29 rfl rfl rfl) (Wt.plain rfl) ?_
        rintro _ _ ⟨k24, rfl, rfl⟩
        refine ⟨fun _ => (S_sub (((((((List.Sublist.slnil).cons _).cons _).cons_cons _).cons_cons _).cons_cons _).cons_cons _)), ?_⟩
        change (_ : List Blk → Prop) [_, _, _, _, _, _]
        refine D.one 4 (by kernel_rfl) ?_
        refine Up.eff rfl (e_litA sc22 ze5 rfl rfl rfl (by simp [Value.cells]) rfl rfl rfl) (Wt.plain rfl) ?_
        rintro _ _ ⟨k25, rfl, rfl⟩
        refine ⟨fun _ => (S_sub ((((((((List.Sublist.slnil).cons _).cons _).cons _).cons_cons _).cons_cons _).cons_cons _).cons_cons _)), ?_⟩
        change (_ : List Blk → Prop) [_, _, _, _, _, _, _]
        refine D.one 5 (by kernel_rfl) ?_
        refine Up.eff rfl (e_appendI sc22 ze5 rfl 4 .u8 (chainA key b) [2] junk10 (rfl) (R_blk 6 rfl) rfl rfl rfl rfl (by first | omega | (simp; done) | (simp [-List.getD_eq_getElem?_getD]; omega) | (simp at *; omega) | rfl) (by first | omega | (simp; done) | (simp [-List.getD_eq_getElem?_getD]; omega) | (simp at *; omega) | rfl) (by first | omega | (simp; done) | (simp [-List.getD_eq_getElem?_getD]; omega) | (simp at *; omega) | rfl) (by first | omega | (simp; done) | (simp [-List.getD_eq_getElem?_getD]; omega)) (by first | omega | (simp; done) | (simp [-List.getD_eq_getElem?_getD]; omega)) rfl rfl) (Wt.plain rfl) ?_
        rintro _ _ ⟨k26, cap27, junk28, hc29, rfl, rfl⟩
        refine ⟨fun _ => (S_sub ((((((((List.Sublist.slnil).cons _).cons _).cons _).cons_cons _).cons_cons _).cons_cons _).cons_cons _)), ?_⟩
        change (_ : List Blk → Prop) [_, _, _, _, _, _, _]
        refine D.one 6 (by kernel_rfl) ?_
        refine Up.eff rfl (e_call enters24 rfl rfl (fun w hm => refmac_at (macS key b) (chainA key b ++ [2]) _ _ _ _ (by first | omega | (simp; done) | (simp; omega) | (simp at *; omega)) (by first | omega | (simp; done) | (simp; omega) | (simp at *; omega)) (by first | omega | (simp; done) | (simp; omega) | (simp at *; omega)) (by first | omega | (simp; done) | (simp; omega) | (simp at *; omega)) w ((R_blk 2 rfl) w hm) ((R_pre 4 rfl) w hm) (by first | omega | (simp; done) | (simp [-List.getD_eq_getElem?_getD]; omega) | (simp at *; omega) | rfl) (by first | omega | (simp; done) | (simp [-List.getD_eq_getElem?_getD]; omega) | (simp at *; omega) | rfl)) rfl rfl) (Wt.plain rfl) ?_
        rintro _ _ ⟨_, _, ⟨rfl, rfl⟩, rfl, rfl⟩
        refine ⟨fun _ => (S_sub ((((((((List.Sublist.slnil).cons _).cons _).cons _).cons_cons _).cons_cons _).cons_cons _).cons_cons _)), ?_⟩
        change (_ : List Blk → Prop) [_, _, _, _, _, _, _]
        refine D.one 8 (by kernel_rfl) ?_
        refine Up.eff rfl (e_storeA (wide_ints wd29 (by first | omega | (simp; done) | (simp [-List.getD_eq_getElem?_getD]; omega) | (simp at *; omega) | rfl)) 5 rfl rfl rfl rfl (by first | omega | (simp; done) | (simp [-List.getD_eq_getElem?_getD]; omega) | (simp at *; omega) | rfl) ints_one rfl) (Wt.plain rfl) ?_
        rintro _ _ ⟨rfl, rfl⟩
        refine ⟨fun h => absurd h (by decide), ?_⟩
        change (_ : List Blk → Prop) [_, _, _, _, _, _, _]
        change (_ : List Blk → Prop) [_, _, _, _, _, ⟨some k24, ints .u8 (chainB key b), 29, (0, 0)⟩, _]
        refine D.done (by kernel_rfl) ?_
        refine Ex.next ?_
        refine W.less (L' := [(4, _), (5, _), (7, _), (8, _)]) [true, true, false, true, false, true, false] ⟨rfl, rfl, rfl, rfl, trivial⟩ ?_
        change (_ : List Blk → Prop) [_, _, _, _]
        refine W.seq ?_
        refine W.drawP 3 [false, true, true, true] (by kernel_rfl) ?_
        refine D.take 0 rfl (by kernel_rfl) (S_sub (((((List.Sublist.slnil).cons_cons _).cons_cons _).cons_cons _).cons _)) (q_loadW (wide_ints wd29 (by first | omega | (simp; done) | (simp [-List.getD_eq_getElem?_getD]; omega) | (simp at *; omega) | rfl)) (R_blk 1 rfl) rfl rfl) (Wt.plain rfl) rfl rfl ?_
        refine D.take 1 rfl (by kernel_rfl) (S_sub (((((List.Sublist.slnil).cons_cons _).cons_cons _).cons_cons _).cons _)) (q_loadW (wide_ints wd29 (by first | omega | (simp; done) | (simp [-List.getD_eq_getElem?_getD]; omega) | (simp at *; omega) | rfl)) (R_blk 2 rfl) rfl rfl) (Wt.plain rfl) rfl rfl ?_
        refine D.one 2 (by kernel_rfl) ?_
        refine Up.eff rfl (e_storeA (wide_ints wd29 (by first | omega | (simp; done) | (simp [-List.getD_eq_getElem?_getD]; omega) | (simp at *; omega) | rfl)) 0 rfl rfl rfl rfl (by first | omega | (simp; done) | (simp [-List.getD_eq_getElem?_getD]; omega) | (simp at *; omega) | rfl) ints_one rfl) (Wt.plain rfl) ?_
        rintro _ _ ⟨rfl, rfl⟩
        refine ⟨fun _ => (S_sub (((((List.Sublist.slnil).cons_cons _).cons_cons _).cons_cons _).cons _)), ?_⟩
        change (_ : List Blk → Prop) [_, _, _, _]
        refine D.one 3 (by kernel_rfl) ?_
        refine Up.eff rfl (e_storeA (wide_ints wd29 (by first | omega | (simp; done) | (simp [-List.getD_eq_getElem?_getD]; omega) | (simp at *; omega) | rfl)) 1 rfl rfl rfl rfl (by first | omega | (simp; done) | (simp [-List.getD_eq_getElem?_getD]; omega) | (simp at *; omega) | rfl) ints_one rfl) (Wt.plain rfl) ?_
        rintro _ _ ⟨rfl, rfl⟩
        refine ⟨fun h => absurd h (by decide), ?_⟩
        change (_ : List Blk → Prop) [_, _, _, _]
        refine D.done (by kernel_rfl) ?_
        refine Ex.next ?_
        refine W.less (L' := [(4, _), (5, _)]) [true, true, false, false] ⟨rfl, rfl, trivial⟩ ?_
        change (_ : List Blk → Prop) [_, _]
        refine W.ret ?_
        refine Ex.outCC [false, false] 0 1 rfl (wide_ints wd29 (by first | omega | (simp; done) | (simp [-List.getD_eq_getElem?_getD]; omega) | (simp at *; omega) | rfl)) (wide_ints wd29 (by first | omega | (simp; done) | (simp [-List.getD_eq_getElem?_getD]; omega) | (simp at *; omega) | rfl)) rfl rfl rfl rfl ?_
        exact ⟨rfl, rfl⟩
    ·
      refine Up.eff rfl (e_litA sc22 ze5 rfl rfl rfl (by simp [Value.cells]) rfl rfl rfl) (Wt.plain rfl) ?_
      rintro _ _ ⟨k30, rfl, rfl⟩
      refine ⟨fun _ => (S_sub (((((((List.Sublist.slnil).cons _).cons _).cons_cons _).cons_cons _).cons_cons _).cons_cons _)), ?_⟩
      change (_ : List Blk → Prop) [_, _, _, _, _, _]
      refine D.two 3 7 (by kernel_rfl) ?_ ?_
      ·
        refine Up.eff rfl (e_appendI sc22 ze5 rfl 4 .u8 [] (chainA key b) [] ((List.append_nil _).symm) (R_blk 3 rfl) rfl rfl rfl rfl (by first | omega | (simp; done) | (simp [-List.getD_eq_getElem?_getD]; omega) | (simp at *; omega) | rfl) (by first | omega | (simp; done) | (simp [-List.getD_eq_getElem?_getD]; omega) | (simp at *; omega) | rfl) (by first | omega | (simp; done) | (simp [-List.getD_eq_getElem?_getD]; omega) | (simp at *; omega) | rfl) (by first | omega | (simp; done) | (simp [-List.getD_eq_getElem?_getD]; omega)) (by first | omega | (simp; done) | (simp [-List.getD_eq_getElem?_getD]; omega)) rfl rfl) (Wt.plain rfl) ?_
        rintro _ _ ⟨k31, cap32, junk33, hc34, rfl, rfl⟩
        refine ⟨fun _ => (S_sub (((((((List.Sublist.slnil).cons _).cons _).cons_cons _).cons_cons _).cons_cons _).cons_cons _)), ?_⟩
        change (_ : List Blk → Prop) [_, _, _, _, _, _]
        conv => rhs; rw [List.nil_append]
        refine D.two 5 7 (by kernel_rfl) ?_ ?_
        ·
          refine Up.eff rfl (e_appendI sc22 ze5 rfl 4 .u8 (chainA key b) [2] junk33 (rfl) (R_blk 5 rfl) rfl rfl rfl rfl (by first | omega | (simp; done) | (simp [-List.getD_eq_getElem?_getD]; omega) | (simp at *; omega) | rfl) (by first | omega | (simp; done) | (simp [-List.getD_eq_getElem?_getD]; omega) | (simp at *; omega) | rfl) (by first | omega | (simp; done) | (simp [-List.getD_eq_getElem?_getD]; omega) | (simp at *; omega) | rfl) (by first | omega | (simp; done) | (simp [-List.getD_eq_getElem?_getD]; omega)) (by first | omega | (simp; done) | (simp [-List.getD_eq_getElem?_getD]; omega)) rfl rfl) (Wt.plain rfl) ?_
          rintro _ _ ⟨k35, cap36, junk37, hc38, rfl, rfl⟩
          refine ⟨fun _ => (S_sub (((((((List.Sublist.slnil).cons _).cons _).cons_cons _).cons_cons _).cons_cons _).cons_cons _)), ?_⟩
          change (_ : List Blk → Prop) [_, _, _, _, _, _]
          refine D.two 6 7 (by kernel_rfl) ?_ ?_
          ·
            refine Up.eff rfl (e_call enters24 rfl rfl (fun w hm => refmac_at (macS key b) (chainA key b ++ [2]) _ _ _ _ (by first | omega | (simp; done) | (simp; omega) | (simp at *; omega)) (by first | omega | (simp; done) | (simp; omega) | (simp at *; omega)) (by first | omega | (simp; done) | (simp; omega) | (simp at *; omega)) (by first | omega | (simp; done) | (simp; omega) | (simp at *; omega)) w ((R_blk 2 rfl) w hm) ((R_pre 4 rfl) w hm) (by first | omega | (simp; done) | (simp [-List.getD_eq_getElem?_getD]; omega) | (simp at *; omega) | rfl) (by first | omega | (simp; done) | (simp [-List.getD_eq_getElem?_getD]; omega) | (simp at *; omega) | rfl)) rfl rfl) (Wt.plain rfl) ?_
            rintro _ _ ⟨_, _, ⟨rfl, rfl⟩, rfl, rfl⟩
            refine ⟨fun _ => (S_sub (((((((List.Sublist.slnil).cons _).cons _).cons_cons _).cons_cons _).cons_cons _).cons_cons _)), ?_⟩
            change (_ : List Blk → Prop) [_, _, _, _, _, _]
            refine D.one 7 (by kernel_rfl) ?_
            refine Up.eff rfl (e_alloc ze29 rfl rfl rfl) (Wt.plain rfl) ?_
            rintro _ _ ⟨k39, rfl, rfl⟩
            refine ⟨fun _ => (S_sub ((((((((List.Sublist.slnil).cons _).cons _).cons _).cons_cons _).cons_cons _).cons_cons _).cons_cons _)), ?_⟩
            change (_ : List Blk → Prop) [_, _, _, _, _, _, _]
            refine D.one 8 (by kernel_rfl) ?_
            refine Up.eff rfl (e_storeA (wide_ints wd29 (by first | omega | (simp; done) | (simp [-List.getD_eq_getElem?_getD]; omega) | (simp at *; omega) | rfl)) 6 rfl rfl rfl rfl (by first | omega | (simp; done) | (simp [-List.getD_eq_getElem?_getD]; omega) | (simp at *; omega) | rfl) ints_one rfl) (Wt.plain rfl) ?_
            rintro _ _ ⟨rfl, rfl⟩
            refine ⟨fun h => absurd h (by decide), ?_⟩
            change (_ : List Blk → Prop) [_, _, _, _, _, _, _]
            change (_ : List Blk → Prop) [_, _, _, _, _, _, ⟨some k39, ints .u8 (chainB key b), 29, (0, 0)⟩]
            refine D.done (by kernel_rfl) ?_
            refine Ex.next ?_
            refine W.less (L' := [(4, _), (5, _), (7, _), (8, _)]) [true, true, false, true, false, false, true] ⟨rfl, rfl, rfl, rfl, trivial⟩ ?_
            change (_ : List Blk → Prop) [_, _, _, _]
            refine W.seq ?_
            refine W.drawP 3 [false, true, true, true] (by kernel_rfl) ?_
            refine D.take 0 rfl (by kernel_rfl) (S_sub (((((List.Sublist.slnil).cons_cons _).cons_cons _).cons_cons _).cons _)) (q_loadW (wide_ints wd29 (by first | omega | (simp; done) | (simp [-List.getD_eq_getElem?_getD]; omega) | (simp at *; omega) | rfl)) (R_blk 1 rfl) rfl rfl) (Wt.plain rfl) rfl rfl ?_
            refine D.take 1 rfl (by kernel_rfl) (S_sub (((((List.Sublist.slnil).cons_cons _).cons_cons _).cons_cons _).cons _)) (q_loadW (wide_ints wd29 (by first | omega | (simp; done) | (simp [-List.getD_eq_getElem?_getD]; omega) | (simp at *; omega) | rfl)) (R_blk 2 rfl) rfl rfl) (Wt.plain rfl) rfl rfl ?_
            refine D.one 2 (by kernel_rfl) ?_
            refine Up.eff rfl (e_storeA (wide_ints wd29 (by first | omega | (simp; done) | (simp [-List.getD_eq_getElem?_getD]; omega) | (simp at *; omega) | rfl)) 0 rfl rfl rfl rfl (by first | omega | (simp; done) | (simp [-List.getD_eq_getElem?_getD]; omega) | (simp at *; omega) | rfl) ints_one rfl) (Wt.plain rfl) ?_
            rintro _ _ ⟨rfl, rfl⟩
            refine ⟨fun _ => (S_sub (((((List.Sublist.slnil).cons_cons _).cons_cons _).cons_cons _).cons _)), ?_⟩
            change (_ : List Blk → Prop) [_, _, _, _]
            refine D.one 3 (by kernel_rfl) ?_
            refine Up.eff rfl (e_storeA (wide_ints wd29 (by first | omega | (simp; done) | (simp [-List.getD_eq_getElem?_getD]; omega) | (simp at *; omega) | rfl)) 1 rfl rfl rfl rfl (by first | omega | (simp; done) | (simp [-List.getD_eq_getElem?_getD]; omega) | (simp at *; omega) | rfl) ints_one rfl) (Wt.plain rfl) ?_
            rintro _ _ ⟨rfl, rfl⟩
            refine ⟨fun h => absurd h (by decide), ?_⟩
            change (_ : List Blk → Prop) [_, _, _, _]
            refine D.done (by kernel_rfl) ?_
            refine Ex.next ?_
            refine W.less (L' := [(4, _), (5, _)]) [true, true, false, false] ⟨rfl, rfl, trivial⟩ ?_
            change (_ : List Blk → Prop) [_, _]
            refine W.ret ?_
            refine Ex.outCC [false, false] 0 1 rfl (wide_ints wd29 (by first | omega | (simp; done) | (simp [-List.getD_eq_getElem?_getD]; omega) | (simp at *; omega) | rfl)) (wide_ints wd29 (by first | omega | (simp; done) | (simp [-List.getD_eq_getElem?_getD]; omega) | (simp at *; omega) | rfl)) rfl rfl rfl rfl ?_
            exact ⟨rfl, rfl⟩
          ·
            refine Up.eff rfl (e_alloc ze29 rfl rfl rfl) (Wt.plain rfl) ?_
            rintro _ _ ⟨k40, rfl, rfl⟩
            refine ⟨fun _ => (S_sub ((((((((List.Sublist.slnil).cons _).cons _).cons _).cons_cons _).cons_cons _).cons_cons _).cons_cons _)), ?_⟩
            change (_ : List Blk → Prop) [_, _, _, _, _, _, _]
            refine D.one 6 (by kernel_rfl) ?_
            refine Up.eff rfl (e_call enters24 rfl rfl (fun w hm => refmac_at (macS key b) (chainA key b ++ [2]) _ _ _ _ (by first | omega | (simp; done) | (simp; omega) | (simp at *; omega)) (by first | omega | (simp; done) | (simp; omega) | (simp at *; omega)) (by first | omega | (simp; done) | (simp; omega) | (simp at *; omega)) (by first | omega | (simp; done) | (simp; omega) | (simp at *; omega)) w ((R_blk 2 rfl) w hm) ((R_pre 4 rfl) w hm) (by first | omega | (simp; done) | (simp [-List.getD_eq_getElem?_getD]; omega) | (simp at *; omega) | rfl) (by first | omega | (simp; done) | (simp [-List.getD_eq_getElem?_getD]; omega) | (simp at *; omega) | rfl)) rfl rfl) (Wt.plain rfl) ?_
            rintro _ _ ⟨_, _, ⟨rfl, rfl⟩, rfl, rfl⟩
            refine ⟨fun _ => (S_sub ((((((((List.Sublist.slnil).cons _).cons _).cons _).cons_cons _).cons_cons _).cons_cons _).cons_cons _)), ?_⟩
            change (_ : List Blk → Prop) [_, _, _, _, _, _, _]
            refine D.one 8 (by kernel_rfl) ?_
            refine Up.eff rfl (e_storeA (wide_ints wd29 (by first | omega | (simp; done) | (simp [-List.getD_eq_getElem?_getD]; omega) | (simp at *; omega) | rfl)) 6 rfl rfl rfl rfl (by first | omega | (simp; done) | (simp [-List.getD_eq_getElem?_getD]; omega) | (simp at *; omega) | rfl) ints_one rfl) (Wt.plain rfl) ?_
            rintro _ _ ⟨rfl, rfl⟩
            refine ⟨fun h => absurd h (by decide), ?_⟩
            change (_ : List Blk → Prop) [_, _, _, _, _, _, _]
            change (_ : List Blk → Prop) [_, _, _, _, _, _, ⟨some k40, ints .u8 (chainB key b), 29, (0, 0)⟩]
            refine D.done (by kernel_rfl) ?_
            refine Ex.next ?_
            refine W.less (L' := [(4, _), (5, _), (7, _), (8, _)]) [true, true, false, true, false, false, true] ⟨rfl, rfl, rfl, rfl, trivial⟩ ?_
            change (_ : List Blk → Prop) [_, _, _, _]
            refine W.seq ?_
            refine W.drawP 3 [false, true, true, true] (by kernel_rfl) ?_
            refine D.take 0 rfl (by kernel_rfl) (S_sub (((((List.Sublist.slnil).cons_cons _).cons_cons _).cons_cons _).cons _)) (q_loadW (wide_ints wd29 (by first | omega | (simp; done) | (simp [-List.getD_eq_getElem?_getD]; omega) | (simp at *; omega) | rfl)) (R_blk 1 rfl) rfl rfl) (Wt.plain rfl) rfl rfl ?_
            refine D.take 1 rfl (by kernel_rfl) (S_sub (((((List.Sublist.slnil).cons_cons _).cons_cons _).cons_cons _).cons _)) (q_loadW (wide_ints wd29 (by first | omega | (simp; done) | (simp [-List.getD_eq_getElem?_getD]; omega) | (simp at *; omega) | rfl)) (R_blk 2 rfl) rfl rfl) (Wt.plain rfl) rfl rfl ?_
            refine D.one 2 (by kernel_rfl) ?_
            refine Up.eff rfl (e_storeA (wide_ints wd29 (by first | omega | (simp; done) | (simp [-List.getD_eq_getElem?_getD]; omega) | (simp at *; omega) | rfl)) 0 rfl rfl rfl rfl (by first | omega | (simp; done) | (simp [-List.getD_eq_getElem?_getD]; omega) | (simp at *; omega) | rfl) ints_one rfl) (Wt.plain rfl) ?_
            rintro _ _ ⟨rfl, rfl⟩
            refine ⟨fun _ => (S_sub (((((List.Sublist.slnil).cons_cons _).cons_cons _).cons_cons _).cons _)), ?_⟩
            change (_ : List Blk → Prop) [_, _, _, _]
            refine D.one 3 (by kernel_rfl) ?_
            refine Up.eff rfl (e_storeA (wide_ints wd29 (by first | omega | (simp; done) | (simp [-List.getD_eq_getElem?_getD]; omega) | (simp at *; omega) | rfl)) 1 rfl rfl rfl rfl (by first | omega | (simp; done) | (simp [-List.getD_eq_getElem?_getD]; omega) | (simp at *; omega) | rfl) ints_one rfl) (Wt.plain rfl) ?_
            rintro _ _ ⟨rfl, rfl⟩
            refine ⟨fun h => absurd h (by decide), ?_⟩
            change (_ : List Blk → Prop) [_, _, _, _]
            refine D.done (by kernel_rfl) ?_
            refine Ex.next ?_
            refine W.less (L' := [(4, _), (5, _)]) [true, true, false, false] ⟨rfl, rfl, trivial⟩ ?_
            change (_ : List Blk → Prop) [_, _]
            refine W.ret ?_
            refine Ex.outCC [false, false] 0 1 rfl (wide_ints wd29 (by first | omega | (simp; done) | (simp [-List.getD_eq_getElem?_getD]; omega) | (simp at *; omega) | rfl)) (wide_ints wd29 (by first | omega | (simp; done) | (simp [-List.getD_eq_getElem?_getD]; omega) | (simp at *; omega) | rfl)) rfl rfl rfl rfl ?_
            exact ⟨rfl, rfl⟩
        ·
          refine Up.eff rfl (e_alloc ze29 rfl rfl rfl) (Wt.plain rfl) ?_
          rintro _ _ ⟨k41, rfl, rfl⟩
          refine ⟨fun _ => (S_sub ((((((((List.Sublist.slnil).cons _).cons _).cons _).cons_cons _).cons_cons _).cons_cons _).cons_cons _)), ?_⟩
          change (_ : List Blk → Prop) [_, _, _, _, _, _, _]
          refine D.one 5 (by kernel_rfl) ?_
          refine Up.eff rfl (e_appendI sc22 ze5 rfl 4 .u8 (chainA key b) [2] junk33 (rfl) (R_blk 5 rfl) rfl rfl rfl rfl (by first | omega | (simp; done) | (simp [-List.getD_eq_getElem?_getD]; omega) | (simp at *; omega) | rfl) (by first | omega | (simp; done) | (simp [-List.getD_eq_getElem?_getD]; omega) | (simp at *; omega) | rfl) (by first | omega | (simp; done) | (simp [-List.getD_eq_getElem?_getD]; omega) | (simp at *; omega) | rfl) (by first | omega | (simp; done) | (simp [-List.getD_eq_getElem?_getD]; omega)) (by first | omega | (simp; done) | (simp [-List.getD_eq_getElem?_getD]; omega)) rfl rfl) (Wt.plain rfl) ?_
          rintro _ _ ⟨k42, cap43, junk44, hc45, rfl, rfl⟩
          refine ⟨fun _ => (S_sub ((((((((List.Sublist.slnil).cons _).cons _).cons _).cons_cons _).cons_cons _).cons_cons _).cons_cons _)), ?_⟩
          change (_ : List Blk → Prop) [_, _, _, _, _, _, _]
          refine D.one 6 (by kernel_rfl) ?_
          refine Up.eff rfl (e_call enters24 rfl rfl (fun w hm => refmac_at (macS key b) (chainA key b ++ [2]) _ _ _ _ (by first | omega | (simp; done) | (simp; omega) | (simp at *; omega)) (by first | omega | (simp; done) | (simp; omega) | (simp at *; omega)) (by first | omega | (simp; done) | (simp; omega) | (simp at *; omega)) (by first | omega | (simp; done) | (simp; omega) | (simp at *; omega)) w ((R_blk 2 rfl) w hm) ((R_pre 4 rfl) w hm) (by first | omega | (simp; done) | (simp [-List.getD_eq_getElem?_getD]; omega) | (simp at *; omega) | rfl) (by first | omega | (simp; done) | (simp [-List.getD_eq_getElem?_getD]; omega) | (simp at *; omega) | rfl)) rfl rfl) (Wt.plain rfl) ?_
          rintro _ _ ⟨_, _, ⟨rfl, rfl⟩, rfl, rfl⟩
          refine ⟨fun _ => (S_sub ((((((((List.Sublist.slnil).cons _).cons _).cons _).cons_cons _).cons_cons _).cons_cons _).cons_cons _)), ?_⟩
          change (_ : List Blk → Prop) [_, _, _, _, _, _, _]
          refine D.one 8 (by kernel_rfl) ?_
          refine Up.eff rfl (e_storeA (wide_ints wd29 (by first | omega | (simp; done) | (simp [-List.getD_eq_getElem?_getD]; omega) | (simp at *; omega) | rfl)) 6 rfl rfl rfl rfl (by first | omega | (simp; done) | (simp [-List.getD_eq_getElem?_getD]; omega) | (simp at *; omega) | rfl) ints_one rfl) (Wt.plain rfl) ?_
          rintro _ _ ⟨rfl, rfl⟩
          refine ⟨fun h => absurd h (by decide), ?_⟩
          change (_ : List Blk → Prop) [_, _, _, _, _, _, _]
          change (_ : List Blk → Prop) [_, _, _, _, _, _, ⟨some k41, ints .u8 (chainB key b), 29, (0, 0)⟩]
          refine D.done (by kernel_rfl) ?_
          refine Ex.next ?_
          refine W.less (L' := [(4, _), (5, _), (7, _), (8, _)]) [true, true, false, true, false, false, true] ⟨rfl, rfl, rfl, rfl, trivial⟩ ?_
          change (_ : List Blk → Prop) [_, _, _, _]
          refine W.seq ?_
          refine W.drawP 3 [false, true, true, true] (by kernel_rfl) ?_
          refine D.take 0 rfl (by kernel_rfl) (S_sub (((((List.Sublist.slnil).cons_cons _).cons_cons _).cons_cons _).cons _)) (q_loadW (wide_ints wd29 (by first | omega | (simp; done) | (simp [-List.getD_eq_getElem?_getD]; omega) | (simp at *; omega) | rfl)) (R_blk 1 rfl) rfl rfl) (Wt.plain rfl) rfl rfl ?_
          refine D.take 1 rfl (by kernel_rfl) (S_sub (((((List.Sublist.slnil).cons_cons _).cons_cons _).cons_cons _).cons _)) (q_loadW (wide_ints wd29 (by first | omega | (simp; done) | (simp [-List.getD_eq_getElem?_getD]; omega) | (simp at *; omega) | rfl)) (R_blk 2 rfl) rfl rfl) (Wt.plain rfl) rfl rfl ?_
          refine D.one 2 (by kernel_rfl) ?_
          refine Up.eff rfl (e_storeA (wide_ints wd29 (by first | omega | (simp; done) | (simp [-List.getD_eq_getElem?_getD]; omega) | (simp at *; omega) | rfl)) 0 rfl rfl rfl rfl (by first | omega | (simp; done) | (simp [-List.getD_eq_getElem?_getD]; omega) | (simp at *; omega) | rfl) ints_one rfl) (Wt.plain rfl) ?_
          rintro _ _ ⟨rfl, rfl⟩
          refine ⟨fun _ => (S_sub (((((List.Sublist.slnil).cons_cons _).cons_cons _).cons_cons _).cons _)), ?_⟩
          change (_ : List Blk → Prop) [_, _, _, _]
          refine D.one 3 (by kernel_rfl) ?_
          refine Up.eff rfl (e_storeA (wide_ints wd29 (by first | omega | (simp; done) | (simp [-List.getD_eq_getElem?_getD]; omega) | (simp at *; omega) | rfl)) 1 rfl rfl rfl rfl (by first | omega | (simp; done) | (simp [-List.getD_eq_getElem?_getD]; omega) | (simp at *; omega) | rfl) ints_one rfl) (Wt.plain rfl) ?_
          rintro _ _ ⟨rfl, rfl⟩
          refine ⟨fun h => absurd h (by decide), ?_⟩
          change (_ : List Blk → Prop) [_, _, _, _]
          refine D.done (by kernel_rfl) ?_
          refine Ex.next ?_
          refine W.less (L' := [(4, _), (5, _)]) [true, true, false, false] ⟨rfl, rfl, trivial⟩ ?_
          change (_ : List Blk → Prop) [_, _]
          refine W.ret ?_
          refine Ex.outCC [false, false] 0 1 rfl (wide_ints wd29 (by first | omega | (simp; done) | (simp [-List.getD_eq_getElem?_getD]; omega) | (simp at *; omega) | rfl)) (wide_ints wd29 (by first | omega | (simp; done) | (simp [-List.getD_eq_getElem?_getD]; omega) | (simp at *; omega) | rfl)) rfl rfl rfl rfl ?_
          exact ⟨rfl, rfl⟩
      ·
        refine Up.eff rfl (e_alloc ze29 rfl rfl rfl) (Wt.plain rfl) ?_
        rintro _ _ ⟨k46, rfl, rfl⟩
        refine ⟨fun _ => (S_sub ((((((((List.Sublist.slnil).cons _).cons _).cons _).cons_cons _).cons_cons _).cons_cons _).cons_cons _)), ?_⟩
        change (_ : List Blk → Prop) [_, _, _, _, _, _, _]
        refine D.one 3 (by kernel_rfl) ?_
        refine Up.eff rfl (e_appendI sc22 ze5 rfl 4 .u8 [] (chainA key b) [] ((List.append_nil _).symm) (R_blk 3 rfl) rfl rfl rfl rfl (by first | omega | (simp; done) | (simp [-List.getD_eq_getElem?_getD]; omega) | (simp at *; omega) | rfl) (by first | omega | (simp; done) | (simp [-List.getD_eq_getElem?_getD]; omega) | (simp at *; omega) | rfl) (by first | omega | (simp; done) | (simp [-List.getD_eq_getElem?_getD]; omega) | (simp at *; omega) | rfl) (by first | omega | (simp; done) | (simp [-List.getD_eq_getElem?_getD]; omega)) (by first | omega | (simp; done) | (simp [-List.getD_eq_getElem?_getD]; omega)) rfl rfl) (Wt.plain rfl) ?_
        rintro _ _ ⟨k47, cap48, junk49, hc50, rfl, rfl⟩
        refine ⟨fun _ => (S_sub ((((((((List.Sublist.slnil).cons _).cons _).cons _).cons_cons _).cons_cons _).cons_cons _).cons_cons _)), ?_⟩
        change (_ : List Blk → Prop) [_, _, _, _, _, _, _]
        conv => rhs; rw [List.nil_append]
        refine D.one 5 (by kernel_rfl) ?_
        refine Up.eff rfl (e_appendI sc22 ze5 rfl 4 .u8 (chainA key b) [2] junk49 (rfl) (R_blk 5 rfl) rfl rfl rfl rfl (by first | omega | (simp; done) | (simp [-List.getD_eq_getElem?_getD]; omega) | (simp at *; omega) | rfl) (by first | omega | (simp; done) | (simp [-List.getD_eq_getElem?_getD]; omega) | (simp at *; omega) | rfl) (by first | omega | (simp; done) | (simp [-List.getD_eq_getElem?_getD]; omega) | (simp at *; omega) | rfl) (by first | omega | (simp; done) | (simp [-List.getD_eq_getElem?_getD]; omega)) (by first | omega | (simp; done) | (simp [-List.getD_eq_getElem?_getD]; omega)) rfl rfl) (Wt.plain rfl) ?_
        rintro _ _ ⟨k51, cap52, junk53, hc54, rfl, rfl⟩
        refine ⟨fun _ => (S_sub ((((((((List.Sublist.slnil).cons _).cons _).cons _).cons_cons _).cons_cons _).cons_cons _).cons_cons _)), ?_⟩
        change (_ : List Blk → Prop) [_, _, _, _, _, _, _]
        refine D.one 6 (by kernel_rfl) ?_
        refine Up.eff rfl (e_call enters24 rfl rfl (fun w hm => refmac_at (macS key b) (chainA key b ++ [2]) _ _ _ _ (by first | omega | (simp; done) | (simp; omega) | (simp at *; omega)) (by first | omega | (simp; done) | (simp; omega) | (simp at *; omega)) (by first | omega | (simp; done) | (simp; omega) | (simp at *; omega)) (by first | omega | (simp; done) | (simp; omega) | (simp at *; omega)) w ((R_blk 2 rfl) w hm) ((R_pre 4 rfl) w hm) (by first | omega | (simp; done) | (simp [-List.getD_eq_getElem?_getD]; omega) | (simp at *; omega) | rfl) (by first | omega | (simp; done) | (simp [-List.getD_eq_getElem?_getD]; omega) | (simp at *; omega) | rfl)) rfl rfl) (Wt.plain rfl) ?_
        rintro _ _ ⟨_, _, ⟨rfl, rfl⟩, rfl, rfl⟩
        refine ⟨fun _ => (S_sub ((((((((List.Sublist.slnil).cons _).cons _).cons _).cons_cons _).cons_cons _).cons_cons _).cons_cons _)), ?_⟩
        change (_ : List Blk → Prop) [_, _, _, _, _, _, _]
        refine D.one 8 (by kernel_rfl) ?_
        refine Up.eff rfl (e_storeA (wide_ints wd29 (by first | omega | (simp; done) | (simp [-List.getD_eq_getElem?_getD]; omega) | (simp at *; omega) | rfl)) 6 rfl rfl rfl rfl (by first | omega | (simp; done) | (simp [-List.getD_eq_getElem?_getD]; omega) | (simp at *; omega) | rfl) ints_one rfl) (Wt.plain rfl) ?_
        rintro _ _ ⟨rfl, rfl⟩
        refine ⟨fun h => absurd h (by decide), ?_⟩
        change (_ : List Blk → Prop) [_, _, _, _, _, _, _]
        change (_ : List Blk → Prop) [_, _, _, _, _, _, ⟨some k46, ints .u8 (chainB key b), 29, (0, 0)⟩]
        refine D.done (by kernel_rfl) ?_
        refine Ex.next ?_
        refine W.less (L' := [(4, _), (5, _), (7, _), (8, _)]) [true, true, false, true, false, false, true] ⟨rfl, rfl, rfl, rfl, trivial⟩ ?_
        change (_ : List Blk → Prop) [_, _, _, _]
        refine W.seq ?_
        refine W.drawP 3 [false, true, true, true] (by kernel_rfl) ?_
        refine D.take 0 rfl (by kernel_rfl) (S_sub (((((List.Sublist.slnil).cons_cons _).cons_cons _).cons_cons _).cons _)) (q_loadW (wide_ints wd29 (by first | omega | (simp; done) | (simp [-List.getD_eq_getElem?_getD]; omega) | (simp at *; omega) | rfl)) (R_blk 1 rfl) rfl rfl) (Wt.plain rfl) rfl rfl ?_
        refine D.take 1 rfl (by kernel_rfl) (S_sub (((((List.Sublist.slnil).cons_cons _).cons_cons _).cons_cons _).cons _)) (q_loadW (wide_ints wd29 (by first | omega | (simp; done) | (simp [-List.getD_eq_getElem?_getD]; omega) | (simp at *; omega) | rfl)) (R_blk 2 rfl) rfl rfl) (Wt.plain rfl) rfl rfl ?_
        refine D.one 2 (by kernel_rfl) ?_
        refine Up.eff rfl (e_storeA (wide_ints wd29 (by first | omega | (simp; done) | (simp [-List.getD_eq_getElem?_getD]; omega) | (simp at *; omega) | rfl)) 0 rfl rfl rfl rfl (by first | omega | (simp; done) | (simp [-List.getD_eq_getElem?_getD]; omega) | (simp at *; omega) | rfl) ints_one rfl) (Wt.plain rfl) ?_
        rintro _ _ ⟨rfl, rfl⟩
        refine ⟨fun _ => (S_sub (((((List.Sublist.slnil).cons_cons _).cons_cons _).cons_cons _).cons _)), ?_⟩
        change (_ : List Blk → Prop) [_, _, _, _]
        refine D.one 3 (by kernel_rfl) ?_
        refine Up.eff rfl (e_storeA (wide_ints wd29 (by first | omega | (simp; done) | (simp [-List.getD_eq_getElem?_getD]; omega) | (simp at *; omega) | rfl)) 1 rfl rfl rfl rfl (by first | omega | (simp; done) | (simp [-List.getD_eq_getElem?_getD]; omega) | (simp at *; omega) | rfl) ints_one rfl) (Wt.plain rfl) ?_
        rintro _ _ ⟨rfl, rfl⟩
        refine ⟨fun h => absurd h (by decide), ?_⟩
        change (_ : List Blk → Prop) [_, _, _, _]
        refine D.done (by kernel_rfl) ?_
        refine Ex.next ?_
        refine W.less (L' := [(4, _), (5, _)]) [true, true, false, false] ⟨rfl, rfl, trivial⟩ ?_
        change (_ : List Blk → Prop) [_, _]
        refine W.ret ?_
        refine Ex.outCC [false, false] 0 1 rfl (wide_ints wd29 (by first | omega | (simp; done) | (simp [-List.getD_eq_getElem?_getD]; omega) | (simp at *; omega) | rfl)) (wide_ints wd29 (by first | omega | (simp; done) | (simp [-List.getD_eq_getElem?_getD]; omega) | (simp at *; omega) | rfl)) rfl rfl rfl rfl ?_
        exact ⟨rfl, rfl⟩
    ·
      refine Up.eff rfl (e_alloc ze29 rfl rfl rfl) (Wt.plain rfl) ?_
      rintro _ _ ⟨k55, rfl, rfl⟩
      refine ⟨fun _ => (S_sub (((((((List.Sublist.slnil).cons _).cons _).cons_cons _).cons_cons _).cons_cons _).cons_cons _)), ?_⟩
      change (_ : List Blk → Prop) [_, _, _, _, _, _]
      refine D.two 3 4 (by kernel_rfl) ?_ ?_
      ·
        refine Up.eff rfl (e_appendI sc22 ze5 rfl 4 .u8 [] (chainA key b) [] ((List.append_nil _).symm) (R_blk 3 rfl) rfl rfl rfl rfl (by first | omega | (simp; done) | (simp [-List.getD_eq_getElem?_getD]; omega) | (simp at *; omega) | rfl) (by first | omega | (simp; done) | (simp [-List.getD_eq_getElem?_getD]; omega) | (simp at *; omega) | rfl) (by first | omega | (simp; done) | (simp [-List.getD_eq_getElem?_getD]; omega) | (simp at *; omega) | rfl) (by first | omega | (simp; done) | (simp [-List.getD_eq_getElem?_getD]; omega)) (by first | omega | (simp; done) | (simp [-List.getD_eq_getElem?_getD]; omega)) rfl rfl) (Wt.plain rfl) ?_
        rintro _ _ ⟨k56, cap57, junk58, hc59, rfl, rfl⟩
        refine ⟨fun _ => (S_sub (((((((List.Sublist.slnil).cons _).cons _).cons_cons _).cons_cons _).cons_cons _).cons_cons _)), ?_⟩
        change (_ : List Blk → Prop) [_, _, _, _, _, _]
        conv => rhs; rw [List.nil_append]
        refine D.one 4 (by kernel_rfl) ?_
        refine Up.eff rfl (e_litA sc22 ze5 rfl rfl rfl (by simp [Value.cells]) rfl rfl rfl) (Wt.plain rfl) ?_
        rintro _ _ ⟨k60, rfl, rfl⟩
        refine ⟨fun _ => (S_sub ((((((((List.Sublist.slnil).cons _).cons _).cons _).cons_cons _).cons_cons _).cons_cons _).cons_cons _)), ?_⟩
        change (_ : List Blk → Prop) [_, _, _, _, _, _, _]
        refine D.one 5 (by kernel_rfl) ?_
        refine Up.eff rfl (e_appendI sc22 ze5 rfl 4 .u8 (chainA key b) [2] junk58 (rfl) (R_blk 6 rfl) rfl rfl rfl rfl (by first | omega | (simp; done) | (simp [-List.getD_eq_getElem?_getD]; omega) | (simp at *; omega) | rfl) (by first | omega | (simp; done) | (simp [-List.getD_eq_getElem?_getD]; omega) | (simp at *; omega) | rfl) (by first | omega | (simp; done) | (simp [-List.getD_eq_getElem?_getD]; omega) | (simp at *; omega) | rfl) (by first | omega | (simp; done) | (simp [-List.getD_eq_getElem?_getD]; omega)) (by first | omega | (simp; done) | (simp [-List.getD_eq_getElem?_getD]; omega)) rfl rfl) (Wt.plain rfl) ?_
        rintro _ _ ⟨k61, cap62, junk63, hc64, rfl, rfl⟩
        refine ⟨fun _ => (S_sub ((((((((List.Sublist.slnil).cons _).cons _).cons _).cons_cons _).cons_cons _).cons_cons _).cons_cons _)), ?_⟩
        change (_ : List Blk → Prop) [_, _, _, _, _, _, _]
        refine D.one 6 (by kernel_rfl) ?_
        refine Up.eff rfl (e_call enters24 rfl rfl (fun w hm => refmac_at (macS key b) (chainA key b ++ [2]) _ _ _ _ (by first | omega | (simp; done) | (simp; omega) | (simp at *; omega)) (by first | omega | (simp; done) | (simp; omega) | (simp at *; omega)) (by first | omega | (simp; done) | (simp; omega) | (simp at *; omega)) (by first | omega | (simp; done) | (simp; omega) | (simp at *; omega)) w ((R_blk 2 rfl) w hm) ((R_pre 4 rfl) w hm) (by first | omega | (simp; done) | (simp [-List.getD_eq_getElem?_getD]; omega) | (simp at *; omega) | rfl) (by first | omega | (simp; done) | (simp [-List.getD_eq_getElem?_getD]; omega) | (simp at *; omega) | rfl)) rfl rfl) (Wt.plain rfl) ?_
        rintro _ _ ⟨_, _, ⟨rfl, rfl⟩, rfl, rfl⟩
        refine ⟨fun _ => (S_sub ((((((((List.Sublist.slnil).cons _).cons _).cons _).cons_cons _).cons_cons _).cons_cons _).cons_cons _)), ?_⟩
        change (_ : List Blk → Prop) [_, _, _, _, _, _, _]
        refine D.one 8 (by kernel_rfl) ?_
        refine Up.eff rfl (e_storeA (wide_ints wd29 (by first | omega | (simp; done) | (simp [-List.getD_eq_getElem?_getD]; omega) | (simp at *; omega) | rfl)) 5 rfl rfl rfl rfl (by first | omega | (simp; done) | (simp [-List.getD_eq_getElem?_getD]; omega) | (simp at *; omega) | rfl) ints_one rfl) (Wt.plain rfl) ?_
        rintro _ _ ⟨rfl, rfl⟩
        refine ⟨fun h => absurd h (by decide), ?_⟩
        change (_ : List Blk → Prop) [_, _, _, _, _, _, _]
        change (_ : List Blk → Prop) [_, _, _, _, _, ⟨some k55, ints .u8 (chainB key b), 29, (0, 0)⟩, _]
        refine D.done (by kernel_rfl) ?_
        refine Ex.next ?_
        refine W.less (L' := [(4, _), (5, _), (7, _), (8, _)]) [true, true, false, true, false, true, false] ⟨rfl, rfl, rfl, rfl, trivial⟩ ?_
        change (_ : List Blk → Prop) [_, _, _, _]
        refine W.seq ?_
        refine W.drawP 3 [false, true, true, true] (by kernel_rfl) ?_
        refine D.take 0 rfl (by kernel_rfl) (S_sub (((((List.Sublist.slnil).cons_cons _).cons_cons _).cons_cons _).cons _)) (q_loadW (wide_ints wd29 (by first | omega | (simp; done) | (simp [-List.getD_eq_getElem?_getD]; omega) | (simp at *; omega) | rfl)) (R_blk 1 rfl) rfl rfl) (Wt.plain rfl) rfl rfl ?_
        refine D.take 1 rfl (by kernel_rfl) (S_sub (((((List.Sublist.slnil).cons_cons _).cons_cons _).cons_cons _).cons _)) (q_loadW (wide_ints wd29 (by first | omega | (simp; done) | (simp [-List.getD_eq_getElem?_getD]; omega) | (simp at *; omega) | rfl)) (R_blk 2 rfl) rfl rfl) (Wt.plain rfl) rfl rfl ?_
        refine D.one 2 (by kernel_rfl) ?_
        refine Up.eff rfl (e_storeA (wide_ints wd29 (by first | omega | (simp; done) | (simp [-List.getD_eq_getElem?_getD]; omega) | (simp at *; omega) | rfl)) 0 rfl rfl rfl rfl (by first | omega | (simp; done) | (simp [-List.getD_eq_getElem?_getD]; omega) | (simp at *; omega) | rfl) ints_one rfl) (Wt.plain rfl) ?_
        rintro _ _ ⟨rfl, rfl⟩
        refine ⟨fun _ => (S_sub (((((List.Sublist.slnil).cons_cons _).cons_cons _).cons_cons _).cons _)), ?_⟩
        change (_ : List Blk → Prop) [_, _, _, _]
        refine D.one 3 (by kernel_rfl) ?_
        refine Up.eff rfl (e_storeA (wide_ints wd29 (by first | omega | (simp; done) | (simp [-List.getD_eq_getElem?_getD]; omega) | (simp at *; omega) | rfl)) 1 rfl rfl rfl rfl (by first | omega | (simp; done) | (simp [-List.getD_eq_getElem?_getD]; omega) | (simp at *; omega) | rfl) ints_one rfl) (Wt.plain rfl) ?_
        rintro _ _ ⟨rfl, rfl⟩
        refine ⟨fun h => absurd h (by decide), ?_⟩
        change (_ : List Blk → Prop) [_, _, _, _]
        refine D.done (by kernel_rfl) ?_
        refine Ex.next ?_
        refine W.less (L' := [(4, _), (5, _)]) [true, true, false, false] ⟨rfl, rfl, trivial⟩ ?_
        change (_ : List Blk → Prop) [_, _]
        refine W.ret ?_
        refine Ex.outCC [false, false] 0 1 rfl (wide_ints wd29 (by first | omega | (simp; done) | (simp [-List.getD_eq_getElem?_getD]; omega) | (simp at *; omega) | rfl)) (wide_ints wd29 (by first | omega | (simp; done) | (simp [-List.getD_eq_getElem?_getD]; omega) | (simp at *; omega) | rfl)) rfl rfl rfl rfl ?_
        exact ⟨rfl, rfl⟩
      ·
        refine Up.eff rfl (e_litA sc22 ze5 rfl rfl rfl (by simp [Value.cells]) rfl rfl rfl) (Wt.plain rfl) ?_
        rintro _ _ ⟨k65, rfl, rfl⟩
        refine ⟨fun _ => (S_sub ((((((((List.Sublist.slnil).cons _).cons _).cons _).cons_cons _).cons_cons _).cons_cons _).cons_cons _)), ?_⟩
        change (_ : List Blk → Prop) [_, _, _, _, _, _, _]
        refine D.one 3 (by kernel_rfl) ?_
        refine Up.eff rfl (e_appendI sc22 ze5 rfl 4 .u8 [] (chainA key b) [] ((List.append_nil _).symm) (R_blk 3 rfl) rfl rfl rfl rfl (by first | omega | (simp; done) | (simp [-List.getD_eq_getElem?_getD]; omega) | (simp at *; omega) | rfl) (by first | omega | (simp; done) | (simp [-List.getD_eq_getElem?_getD]; omega) | (simp at *; omega) | rfl) (by first | omega | (simp; done) | (simp [-List.getD_eq_getElem?_getD]; omega) | (simp at *; omega) | rfl) (by first | omega | (simp; done) | (simp [-List.getD_eq_getElem?_getD]; omega)) (by first | omega | (simp; done) | (simp [-List.getD_eq_getElem?_getD]; omega)) rfl rfl) (Wt.plain rfl) ?_
        rintro _ _ ⟨k66, cap67, junk68, hc69, rfl, rfl⟩
        refine ⟨fun _ => (S_sub ((((((((List.Sublist.slnil).cons _).cons _).cons _).cons_cons _).cons_cons _).cons_cons _).cons_cons _)), ?_⟩
        change (_ : List Blk → Prop) [_, _, _, _, _, _, _]
        conv => rhs; rw [List.nil_append]
        refine D.one 5 (by kernel_rfl) ?_
        refine Up.eff rfl (e_appendI sc22 ze5 rfl 4 .u8 (chainA key b) [2] junk68 (rfl) (R_blk 6 rfl) rfl rfl rfl rfl (by first | omega | (simp; done) | (simp [-List.getD_eq_getElem?_getD]; omega) | (simp at *; omega) | rfl) (by first | omega | (simp; done) | (simp [-List.getD_eq_getElem?_getD]; omega) | (simp at *; omega) | rfl) (by first | omega | (simp; done) | (simp [-List.getD_eq_getElem?_getD]; omega) | (simp at *; omega) | rfl) (by first | omega | (simp; done) | (simp [-List.getD_eq_getElem?_getD]; omega)) (by first | omega | (simp; done) | (simp [-List.getD_eq_getElem?_getD]; omega)) rfl rfl) (Wt.plain rfl) ?_
        rintro _ _ ⟨k70, cap71, junk72, hc73, rfl, rfl⟩
        refine ⟨fun _ => (S_sub ((((((((List.Sublist.slnil).cons _).cons _).cons _).cons_cons _).cons_cons _).cons_cons _).cons_cons _)), ?_⟩
        change (_ : List Blk → Prop) [_, _, _, _, _, _, _]
        refine D.one 6 (by kernel_rfl) ?_
        refine Up.eff rfl (e_call enters24 rfl rfl (fun w hm => refmac_at (macS key b) (chainA key b ++ [2]) _ _ _ _ (by first | omega | (simp; done) | (simp; omega) | (simp at *; omega)) (by first | omega | (simp; done) | (simp; omega) | (simp at *; omega)) (by first | omega | (simp; done) | (simp; omega) | (simp at *; omega)) (by first | omega | (simp; done) | (simp; omega) | (simp at *; omega)) w ((R_blk 2 rfl) w hm) ((R_pre 4 rfl) w hm) (by first | omega | (simp; done) | (simp [-List.getD_eq_getElem?_getD]; omega) | (simp at *; omega) | rfl) (by first | omega | (simp; done) | (simp [-List.getD_eq_getElem?_getD]; omega) | (simp at *; omega) | rfl)) rfl rfl) (Wt.plain rfl) ?_
        rintro _ _ ⟨_, _, ⟨rfl, rfl⟩, rfl, rfl⟩
        refine ⟨fun _ => (S_sub ((((((((List.Sublist.slnil).cons _).cons _).cons _).cons_cons _).cons_cons _).cons_cons _).cons_cons _)), ?_⟩
        change (_ : List Blk → Prop) [_, _, _, _, _, _, _]
        refine D.one 8 (by kernel_rfl) ?_
        refine Up.eff rfl (e_storeA (wide_ints wd29 (by first | omega | (simp; done) | (simp [-List.getD_eq_getElem?_getD]; omega) | (simp at *; omega) | rfl)) 5 rfl rfl rfl rfl (by first | omega | (simp; done) | (simp [-List.getD_eq_getElem?_getD]; omega) | (simp at *; omega) | rfl) ints_one rfl) (Wt.plain rfl) ?_
        rintro _ _ ⟨rfl, rfl⟩
        refine ⟨fun h => absurd h (by decide), ?_⟩
        change (_ : List Blk → Prop) [_, _, _, _, _, _, _]
        change (_ : List Blk → Prop) [_, _, _, _, _, ⟨some k55, ints .u8 (chainB key b), 29, (0, 0)⟩, _]
        refine D.done (by kernel_rfl) ?_
        refine Ex.next ?_
        refine W.less (L' := [(4, _), (5, _), (7, _), (8, _)]) [true, true, false, true, false, true, false] ⟨rfl, rfl, rfl, rfl, trivial⟩ ?_
        change (_ : List Blk → Prop) [_, _, _, _]
        refine W.seq ?_
        refine W.drawP 3 [false, true, true, true] (by kernel_rfl) ?_
        refine D.take 0 rfl (by kernel_rfl) (S_sub (((((List.Sublist.slnil).cons_cons _).cons_cons _).cons_cons _).cons _)) (q_loadW (wide_ints wd29 (by first | omega | (simp; done) | (simp [-List.getD_eq_getElem?_getD]; omega) | (simp at *; omega) | rfl)) (R_blk 1 rfl) rfl rfl) (Wt.plain rfl) rfl rfl ?_
        refine D.take 1 rfl (by kernel_rfl) (S_sub (((((List.Sublist.slnil).cons_cons _).cons_cons _).cons_cons _).cons _)) (q_loadW (wide_ints wd29 (by first | omega | (simp; done) | (simp [-List.getD_eq_getElem?_getD]; omega) | (simp at *; omega) | rfl)) (R_blk 2 rfl) rfl rfl) (Wt.plain rfl) rfl rfl ?_
        refine D.one 2 (by kernel_rfl) ?_
        refine Up.eff rfl (e_storeA (wide_ints wd29 (by first | omega | (simp; done) | (simp [-List.getD_eq_getElem?_getD]; omega) | (simp at *; omega) | rfl)) 0 rfl rfl rfl rfl (by first | omega | (simp; done) | (simp [-List.getD_eq_getElem?_getD]; omega) | (simp at *; omega) | rfl) ints_one rfl) (Wt.plain rfl) ?_
        rintro _ _ ⟨rfl, rfl⟩
        refine ⟨fun _ => (S_sub (((((List.Sublist.slnil).cons_cons _).cons_cons _).cons_cons _).cons _)), ?_⟩
        change (_ : List Blk → Prop) [_, _, _, _]
        refine D.one 3 (by kernel_rfl) ?_
        refine Up.eff rfl (e_storeA (wide_ints wd29 (by first | omega | (simp; done) | (simp [-List.getD_eq_getElem?_getD]; omega) | (simp at *; omega) | rfl)) 1 rfl rfl rfl rfl (by first | omega | (simp; done) | (simp [-List.getD_eq_getElem?_getD]; omega) | (simp at *; omega) | rfl) ints_one rfl) (Wt.plain rfl) ?_
        rintro _ _ ⟨rfl, rfl⟩
        refine ⟨fun h => absurd h (by decide), ?_⟩
        change (_ : List Blk → Prop) [_, _, _, _]
        refine D.done (by kernel_rfl) ?_
        refine Ex.next ?_
        refine W.less (L' := [(4, _), (5, _)]) [true, true, false, false] ⟨rfl, rfl, trivial⟩ ?_
        change (_ : List Blk → Prop) [_, _]
        refine W.ret ?_
        refine Ex.outCC [false, false] 0 1 rfl (wide_ints wd29 (by first | omega | (simp; done) | (simp [-List.getD_eq_getElem?_getD]; omega) | (simp at *; omega) | rfl)) (wide_ints wd29 (by first | omega | (simp; done) | (simp [-List.getD_eq_getElem?_getD]; omega) | (simp at *; omega) | rfl)) rfl rfl rfl rfl ?_
        exact ⟨rfl, rfl⟩
  ·
    refine Up.eff rfl (e_litA sc22 ze5 rfl rfl rfl (by simp [Value.cells]) rfl rfl rfl) (Wt.plain rfl) ?_
    rintro _ _ ⟨k74, rfl, rfl⟩
    refine ⟨fun _ => (S_sub ((((((List.Sublist.slnil).cons _).cons_cons _).cons_cons _).cons_cons _).cons_cons _)), ?_⟩
    change (_ : List Blk → Prop) [_, _, _, _, _]
    refine D.two 1 7 (by kernel_rfl) ?_ ?_
    ·
      refine Up.eff rfl (e_litA sc22 ze5 rfl rfl rfl (by simp [Value.cells]) rfl rfl rfl) (Wt.plain rfl) ?_
      rintro _ _ ⟨k75, rfl, rfl⟩
      refine ⟨fun _ => (S_sub (((((((List.Sublist.slnil).cons _).cons _).cons_cons _).cons_cons _).cons_cons _).cons_cons _)), ?_⟩
      change (_ : List Blk → Prop) [_, _, _, _, _, _]
      refine D.two 3 7 (by kernel_rfl) ?_ ?_
      ·
        refine Up.eff rfl (e_appendI sc22 ze5 rfl 5 .u8 [] (chainA key b) [] ((List.append_nil _).symm) (R_blk 3 rfl) rfl rfl rfl rfl (by first | omega | (simp; done) | (simp [-List.getD_eq_getElem?_getD]; omega) | (simp at *; omega) | rfl) (by first | omega | (simp; done) | (simp [-List.getD_eq_getElem?_getD]; omega) | (simp at *; omega) | rfl) (by first | omega | (simp; done) | (simp [-List.getD_eq_getElem?_getD]; omega) | (simp at *; omega) | rfl) (by first | omega | (simp; done) | (simp [-List.getD_eq_getElem?_getD]; omega)) (by first | omega | (simp; done) | (simp [-List.getD_eq_getElem?_getD]; omega)) rfl rfl) (Wt.plain rfl) ?_
        rintro _ _ ⟨k76, cap77, junk78, hc79, rfl, rfl⟩
        refine ⟨fun _ => (S_sub (((((((List.Sublist.slnil).cons _).cons _).cons_cons _).cons_cons _).cons_cons _).cons_cons _)), ?_⟩
        change (_ : List Blk → Prop) [_, _, _, _, _, _]
        conv => rhs; rw [List.nil_append]
        refine D.two 5 7 (by kernel_rfl) ?_ ?_
        ·
          refine Up.eff rfl (e_appendI sc22 ze5 rfl 5 .u8 (chainA key b) [2] junk78 (rfl) (R_blk 4 rfl) rfl rfl rfl rfl (by first | omega | (simp; done) | (simp [-List.getD_eq_getElem?_getD]; omega) | (simp at *; omega) | rfl) (by first | omega | (simp; done) | (simp [-List.getD_eq_getElem?_getD]; omega) | (simp at *; omega) | rfl) (by first | omega | (simp; done) | (simp [-List.getD_eq_getElem?_getD]; omega) | (simp at *; omega) | rfl) (by first | omega | (simp; done) | (simp [-List.getD_eq_getElem?_getD]; omega)) (by first | omega | (simp; done) | (simp [-List.getD_eq_getElem?_getD]; omega)) rfl rfl) (Wt.plain rfl) ?_
          rintro _ _ ⟨k80, cap81, junk82, hc83, rfl, rfl⟩
          refine ⟨fun _ => (S_sub (((((((List.Sublist.slnil).cons _).cons _).cons_cons _).cons_cons _).cons_cons _).cons_cons _)), ?_⟩
          change (_ : List Blk → Prop) [_, _, _, _, _, _]
          refine D.two 6 7 (by kernel_rfl) ?_ ?_
          ·
            refine Up.eff rfl (e_call enters24 rfl rfl (fun w hm => refmac_at (macS key b) (chainA key b ++ [2]) _ _ _ _ (by first | omega | (simp; done) | (simp; omega) | (simp at *; omega)) (by first | omega | (simp; done) | (simp; omega) | (simp at *; omega)) (by first | omega | (simp; done) | (simp; omega) | (simp at *; omega)) (by first | omega | (simp; done) | (simp; omega) | (simp at *; omega)) w ((R_blk 2 rfl) w hm) ((R_pre 5 rfl) w hm) (by first | omega | (simp; done) | (simp [-List.getD_eq_getElem?_getD]; omega) | (simp at *; omega) | rfl) (by first | omega | (simp; done) | (simp [-List.getD_eq_getElem?_getD]; omega) | (simp at *; omega) | rfl)) rfl rfl) (Wt.plain rfl) ?_
            rintro _ _ ⟨_, _, ⟨rfl, rfl⟩, rfl, rfl⟩
            refine ⟨fun _ => (S_sub (((((((List.Sublist.slnil).cons _).cons _).cons_cons _).cons_cons _).cons_cons _).cons_cons _)), ?_⟩
            change (_ : List Blk → Prop) [_, _, _, _, _, _]
            refine D.one 7 (by kernel_rfl) ?_
            refine Up.eff rfl (e_alloc ze29 rfl rfl rfl) (Wt.plain rfl) ?_
            rintro _ _ ⟨k84, rfl, rfl⟩
            refine ⟨fun _ => (S_sub ((((((((List.Sublist.slnil).cons _).cons _).cons _).cons_cons _).cons_cons _).cons_cons _).cons_cons _)), ?_⟩
            change (_ : List Blk → Prop) [_, _, _, _, _, _, _]
            refine D.one 8 (by kernel_rfl) ?_
            refine Up.eff rfl (e_storeA (wide_ints wd29 (by first | omega | (simp; done) | (simp [-List.getD_eq_getElem?_getD]; omega) | (simp at *; omega) | rfl)) 6 rfl rfl rfl rfl (by first | omega | (simp; done) | (simp [-List.getD_eq_getElem?_getD]; omega) | (simp at *; omega) | rfl) ints_one rfl) (Wt.plain rfl) ?_
            rintro _ _ ⟨rfl, rfl⟩
            refine ⟨fun h => absurd h (by decide), ?_⟩
            change (_ : List Blk → Prop) [_, _, _, _, _, _, _]
            change (_ : List Blk → Prop) [_, _, _, _, _, _, ⟨some k84, ints .u8 (chainB key b), 29, (0, 0)⟩]
            refine D.done (by kernel_rfl) ?_
            refine Ex.next ?_
            refine W.less (L' := [(4, _), (5, _), (7, _), (8, _)]) [true, true, false, true, false, false, true] ⟨rfl, rfl, rfl, rfl, trivial⟩ ?_
            change (_ : List Blk → Prop) [_, _, _, _]
            refine W.seq ?_
            refine W.drawP 3 [false, true, true, true] (by kernel_rfl) ?_
            refine D.take 0 rfl (by kernel_rfl) (S_sub (((((List.Sublist.slnil).cons_cons _).cons_cons _).cons_cons _).cons _)) (q_loadW (wide_ints wd29 (by first | omega | (simp; done) | (simp [-List.getD_eq_getElem?_getD]; omega) | (simp at *; omega) | rfl)) (R_blk 1 rfl) rfl rfl) (Wt.plain rfl) rfl rfl ?_
            refine D.take 1 rfl (by kernel_rfl) (S_sub (((((List.Sublist.slnil).cons_cons _).cons_cons _).cons_cons _).cons _)) (q_loadW (wide_ints wd29 (by first | omega | (simp; done) | (simp [-List.getD_eq_getElem?_getD]; omega) | (simp at *; omega) | rfl)) (R_blk 2 rfl) rfl rfl) (Wt.plain rfl) rfl rfl ?_
            refine D.one 2 (by kernel_rfl) ?_
            refine Up.eff rfl (e_storeA (wide_ints wd29 (by first | omega | (simp; done) | (simp [-List.getD_eq_getElem?_getD]; omega) | (simp at *; omega) | rfl)) 0 rfl rfl rfl rfl (by first | omega | (simp; done) | (simp [-List.getD_eq_getElem?_getD]; omega) | (simp at *; omega) | rfl) ints_one rfl) (Wt.plain rfl) ?_
            rintro _ _ ⟨rfl, rfl⟩
            refine ⟨fun _ => (S_sub (((((List.Sublist.slnil).cons_cons _).cons_cons _).cons_cons _).cons _)), ?_⟩
            change (_ : List Blk → Prop) [_, _, _, _]
            refine D.one 3 (by kernel_rfl) ?_
            refine Up.eff rfl (e_storeA (wide_ints wd29 (by first | omega | (simp; done) | (simp [-List.getD_eq_getElem?_getD]; omega) | (simp at *; omega) | rfl)) 1 rfl rfl rfl rfl (by first | omega | (simp; done) | (simp [-List.getD_eq_getElem?_getD]; omega) | (simp at *; omega) | rfl) ints_one rfl) (Wt.plain rfl) ?_
            rintro _ _ ⟨rfl, rfl⟩
            refine ⟨fun h => absurd h (by decide), ?_⟩
            change (_ : List Blk → Prop) [_, _, _, _]
            refine D.done (by kernel_rfl) ?_
            refine Ex.next ?_
            refine W.less (L' := [(4, _), (5, _)]) [true, true, false, false] ⟨rfl, rfl, trivial⟩ ?_
            change (_ : List Blk → Prop) [_, _]
            refine W.ret ?_
            refine Ex.outCC [false, false] 0 1 rfl (wide_ints wd29 (by first | omega | (simp; done) | (simp [-List.getD_eq_getElem?_getD]; omega) | (simp at *; omega) | rfl)) (wide_ints wd29 (by first | omega | (simp; done) | (simp [-List.getD_eq_getElem?_getD]; omega) | (simp at *; omega) | rfl)) rfl rfl rfl rfl ?_
            exact ⟨rfl, rfl⟩
          ·
            refine Up.eff rfl (e_alloc ze29 rfl rfl rfl) (Wt.plain rfl) ?_
            rintro _ _ ⟨k85, rfl, rfl⟩
            refine ⟨fun _ => (S_sub ((((((((List.Sublist.slnil).cons _).cons _).cons _).cons_cons _).cons_cons _).cons_cons _).cons_cons _)), ?_⟩
            change (_ : List Blk → Prop) [_, _, _, _, _, _, _]
            refine D.one 6 (by kernel_rfl) ?_
            refine Up.eff rfl (e_call enters24 rfl rfl (fun w hm => refmac_at (macS key b) (chainA key b ++ [2]) _ _ _ _ (by first | omega | (simp; done) | (simp; omega) | (simp at *; omega)) (by first | omega | (simp; done) | (simp; omega) | (simp at *; omega)) (by first | omega | (simp; done) | (simp; omega) | (simp at *; omega)) (by first | omega | (simp; done) | (simp; omega) | (simp at *; omega)) w ((R_blk 2 rfl) w hm) ((R_pre 5 rfl) w hm) (by first | omega | (simp; done) | (simp [-List.getD_eq_getElem?_getD]; omega) | (simp at *; omega) | rfl) (by first | omega | (simp; done) | (simp [-List.getD_eq_getElem?_getD]; omega) | (simp at *; omega) | rfl)) rfl rfl) (Wt.plain rfl) ?_
            rintro _ _ ⟨_, _, ⟨rfl, rfl⟩, rfl, rfl⟩
            refine ⟨fun _ => (S_sub ((((((((List.Sublist.slnil).cons _).cons _).cons _).cons_cons _).cons_cons _).cons_cons _).cons_cons _)), ?_⟩
            change (_ : List Blk → Prop) [_, _, _, _, _, _, _]
            refine D.one 8 (by kernel_rfl) ?_
            refine Up.eff rfl (e_storeA (wide_ints wd29 (by first | omega | (simp; done) | (simp [-List.getD_eq_getElem?_getD]; omega) | (simp at *; omega) | rfl)) 6 rfl rfl rfl rfl (by first | omega | (simp; done) | (simp [-List.getD_eq_getElem?_getD]; omega) | (simp at *; omega) | rfl) ints_one rfl) (Wt.plain rfl) ?_
            rintro _ _ ⟨rfl, rfl⟩
            refine ⟨fun h => absurd h (by decide), ?_⟩
            change (_ : List Blk → Prop) [_, _, _, _, _, _, _]
            change (_ : List Blk → Prop) [_, _, _, _, _, _, ⟨some k85, ints .u8 (chainB key b), 29, (0, 0)⟩]
            refine D.done (by kernel_rfl) ?_
            refine Ex.next ?_
            refine W.less (L' := [(4, _), (5, _), (7, _), (8, _)]) [true, true, false, true, false, false, true] ⟨rfl, rfl, rfl, rfl, trivial⟩ ?_
            change (_ : List Blk → Prop) [_, _, _, _]
            refine W.seq ?_
            refine W.drawP 3 [false, true, true, true] (by kernel_rfl) ?_
            refine D.take 0 rfl (by kernel_rfl) (S_sub (((((List.Sublist.slnil).cons_cons _).cons_cons _).cons_cons _).cons _)) (q_loadW (wide_ints wd29 (by first | omega | (simp; done) | (simp [-List.getD_eq_getElem?_getD]; omega) | (simp at *; omega) | rfl)) (R_blk 1 rfl) rfl rfl) (Wt.plain rfl) rfl rfl ?_
            refine D.take 1 rfl (by kernel_rfl) (S_sub (((((List.Sublist.slnil).cons_cons _).cons_cons _).cons_cons _).cons _)) (q_loadW (wide_ints wd29 (by first | omega | (simp; done) | (simp [-List.getD_eq_getElem?_getD]; omega) | (simp at *; omega) | rfl)) (R_blk 2 rfl) rfl rfl) (Wt.plain rfl) rfl rfl ?_
            refine D.one 2 (by kernel_rfl) ?_
            refine Up.eff rfl (e_storeA (wide_ints wd29 (by first | omega | (simp; done) | (simp [-List.getD_eq_getElem?_getD]; omega) | (simp at *; omega) | rfl)) 0 rfl rfl rfl rfl (by first | omega | (simp; done) | (simp [-List.getD_eq_getElem?_getD]; omega) | (simp at *; omega) | rfl) ints_one rfl) (Wt.plain rfl) ?_
            rintro _ _ ⟨rfl, rfl⟩
            refine ⟨fun _ => (S_sub (((((List.Sublist.slnil).cons_cons _).cons_cons _).cons_cons _).cons _)), ?_⟩
            change (_ : List Blk → Prop) [_, _, _, _]
            refine D.one 3 (by kernel_rfl) ?_
            refine Up.eff rfl (e_storeA (wide_ints wd29 (by first | omega | (simp; done) | (simp [-List.getD_eq_getElem?_getD]; omega) | (simp at *; omega) | rfl)) 1 rfl rfl rfl rfl (by first | omega | (simp; done) | (simp [-List.getD_eq_getElem?_getD]; omega) | (simp at *; omega) | rfl) ints_one rfl) (Wt.plain rfl) ?_
            rintro _ _ ⟨rfl, rfl⟩
            refine ⟨fun h => absurd h (by decide), ?_⟩
            change (_ : List Blk → Prop) [_, _, _, _]
            refine D.done (by kernel_rfl) ?_
            refine Ex.next ?_
            refine W.less (L' := [(4, _), (5, _)]) [true, true, false, false] ⟨rfl, rfl, trivial⟩ ?_
            change (_ : List Blk → Prop) [_, _]
            refine W.ret ?_
            refine Ex.outCC [false, false] 0 1 rfl (wide_ints wd29 (by first | omega | (simp; done) | (simp [-List.getD_eq_getElem?_getD]; omega) | (simp at *; omega) | rfl)) (wide_ints wd29 (by first | omega | (simp; done) | (simp [-List.getD_eq_getElem?_getD]; omega) | (simp at *; omega) | rfl)) rfl rfl rfl rfl ?_
            exact ⟨rfl, rfl⟩
        ·
          refine Up.eff rfl (e_alloc ze29 rfl rfl rfl) (Wt.plain rfl) ?_
          rintro _ _ ⟨k86, rfl, rfl⟩
          refine ⟨fun _ => (S_sub ((((((((List.Sublist.slnil).cons _).cons _).cons _).cons_cons _).cons_cons _).cons_cons _).cons_cons _)), ?_⟩
          change (_ : List Blk → Prop) [_, _, _, _, _, _, _]
          refine D.one 5 (by kernel_rfl) ?_
          refine Up.eff rfl (e_appendI sc22 ze5 rfl 5 .u8 (chainA key b) [2] junk78 (rfl) (R_blk 4 rfl) rfl rfl rfl rfl (by first | omega | (simp; done) | (simp [-List.getD_eq_getElem?_getD]; omega) | (simp at *; omega) | rfl) (by first | omega | (simp; done) | (simp [-List.getD_eq_getElem?_getD]; omega) | (simp at *; omega) | rfl) (by first | omega | (simp; done) | (simp [-List.getD_eq_getElem?_getD]; omega) | (simp at *; omega) | rfl) (by first | omega | (simp; done) | (simp [-List.getD_eq_getElem?_getD]; omega)) (by first | omega | (simp; done) | (simp [-List.getD_eq_getElem?_getD]; omega)) rfl rfl) (Wt.plain rfl) ?_
          rintro _ _ ⟨k87, cap88, junk89, hc90, rfl, rfl⟩
          refine ⟨fun _ => (S_sub ((((((((List.Sublist.slnil).cons _).cons _).cons _).cons_cons _).cons_cons _).cons_cons _).cons_cons _)), ?_⟩
          change (_ : List Blk → Prop) [_, _, _, _, _, _, _]
          refine D.one 6 (by kernel_rfl) ?_
          refine Up.eff rfl (e_call enters24 rfl rfl (fun w hm => refmac_at (macS key b) (chainA key b ++ [2]) _ _ _ _ (by first | omega | (simp; done) | (simp; omega) | (simp at *; omega)) (by first | omega | (simp; done) | (simp; omega) | (simp at *; omega)) (by first | omega | (simp; done) | (simp; omega) | (simp at *; omega)) (by first | omega | (simp; done) | (simp; omega) | (simp at *; omega)) w ((R_blk 2 rfl) w hm) ((R_pre 5 rfl) w hm) (by first | omega | (simp; done) | (simp [-List.getD_eq_getElem?_getD]; omega) | (simp at *; omega) | rfl) (by first | omega | (simp; done) | (simp [-List.getD_eq_getElem?_getD]; omega) | (simp at *; omega) | rfl)) rfl rfl) (Wt.plain rfl) ?_
          rintro _ _ ⟨_, _, ⟨rfl, rfl⟩, rfl, rfl⟩
          refine ⟨fun _ => (S_sub ((((((((List.Sublist.slnil).cons _).cons _).cons _).cons_cons _).cons_cons _).cons_cons _).cons_cons _)), ?_⟩
          change (_ : List Blk → Prop) [_, _, _, _, _, _, _]
          refine D.one 8 (by kernel_rfl) ?_
          refine Up.eff rfl (e_storeA (wide_ints wd29 (by first | omega | (simp; done) | (simp [-List.getD_eq_getElem?_getD]; omega) | (simp at *; omega) | rfl)) 6 rfl rfl rfl rfl (by first | omega | (simp; done) | (simp [-List.getD_eq_getElem?_getD]; omega) | (simp at *; omega) | rfl) ints_one rfl) (Wt.plain rfl) ?_
          rintro _ _ ⟨rfl, rfl⟩
          refine ⟨fun h => absurd h (by decide), ?_⟩
          change (_ : List Blk → Prop) [_, _, _, _, _, _, _]
          change (_ : List Blk → Prop) [_, _, _, _, _, _, ⟨some k86, ints .u8 (chainB key b), 29, (0, 0)⟩]
          refine D.done (by kernel_rfl) ?_
          refine Ex.next ?_
          refine W.less (L' := [(4, _), (5, _), (7, _), (8, _)]) [true, true, false, true, false, false, true] ⟨rfl, rfl, rfl, rfl, trivial⟩ ?_
          change (_ : List Blk → Prop) [_, _, _, _]
          refine W.seq ?_
          refine W.drawP 3 [false, true, true, true] (by kernel_rfl) ?_
          refine D.take 0 rfl (by kernel_rfl) (S_sub (((((List.Sublist.slnil).cons_cons _).cons_cons _).cons_cons _).cons _)) (q_loadW (wide_ints wd29 (by first | omega | (simp; done) | (simp [-List.getD_eq_getElem?_getD]; omega) | (simp at *; omega) | rfl)) (R_blk 1 rfl) rfl rfl) (Wt.plain rfl) rfl rfl ?_
          refine D.take 1 rfl (by kernel_rfl) (S_sub (((((List.Sublist.slnil).cons_cons _).cons_cons _).cons_cons _).cons _)) (q_loadW (wide_ints wd29 (by first | omega | (simp; done) | (simp [-List.getD_eq_getElem?_getD]; omega) | (simp at *; omega) | rfl)) (R_blk 2 rfl) rfl rfl) (Wt.plain rfl) rfl rfl ?_
          refine D.one 2 (by kernel_rfl) ?_
          refine Up.eff rfl (e_storeA (wide_ints wd29 (by first | omega | (simp; done) | (simp [-List.getD_eq_getElem?_getD]; omega) | (simp at *; omega) | rfl)) 0 rfl rfl rfl rfl (by first | omega | (simp; done) | (simp [-List.getD_eq_getElem?_getD]; omega) | (simp at *; omega) | rfl) ints_one rfl) (Wt.plain rfl) ?_
          rintro _ _ ⟨rfl, rfl⟩
          refine ⟨fun _ => (S_sub (((((List.Sublist.slnil).cons_cons _).cons_cons _).cons_cons _).cons _)), ?_⟩
          change (_ : List Blk → Prop) [_, _, _, _]
          refine D.one 3 (by kernel_rfl) ?_
          refine Up.eff rfl (e_storeA (wide_ints wd29 (by first | omega | (simp; done) | (simp [-List.getD_eq_getElem?_getD]; omega) | (simp at *; omega) | rfl)) 1 rfl rfl rfl rfl (by first | omega | (simp; done) | (simp [-List.getD_eq_getElem?_getD]; omega) | (simp at *; omega) | rfl) ints_one rfl) (Wt.plain rfl) ?_
          rintro _ _ ⟨rfl, rfl⟩
          refine ⟨fun h => absurd h (by decide), ?_⟩
          change (_ : List Blk → Prop) [_, _, _, _]
          refine D.done (by kernel_rfl) ?_
          refine Ex.next ?_
          refine W.less (L' := [(4, _), (5, _)]) [true, true, false, false] ⟨rfl, rfl, trivial⟩ ?_
          change (_ : List Blk → Prop) [_, _]
          refine W.ret ?_
          refine Ex.outCC [false, false] 0 1 rfl (wide_ints wd29 (by first | omega | (simp; done) | (simp [-List.getD_eq_getElem?_getD]; omega) | (simp at *; omega) | rfl)) (wide_ints wd29 (by first | omega | (simp; done) | (simp [-List.getD_eq_getElem?_getD]; omega) | (simp at *; omega) | rfl)) rfl rfl rfl rfl ?_
          exact ⟨rfl, rfl⟩
      ·
        refine Up.eff rfl (e_alloc ze29 rfl rfl rfl) (Wt.plain rfl) ?_
        rintro _ _ ⟨k91, rfl, rfl⟩
        refine ⟨fun _ => (S_sub ((((((((List.Sublist.slnil).cons _).cons _).cons _).cons_cons _).cons_cons _).cons_cons _).cons_cons _)), ?_⟩
        change (_ : List Blk → Prop) [_, _, _, _, _, _, _]
        refine D.one 3 (by kernel_rfl) ?_
        refine Up.eff rfl (e_appendI sc22 ze5 rfl 5 .u8 [] (chainA key b) [] ((List.append_nil _).symm) (R_blk 3 rfl) rfl rfl rfl rfl (by first | omega | (simp; done) | (simp [-List.getD_eq_getElem?_getD]; omega) | (simp at *; omega) | rfl) (by first | omega | (simp; done) | (simp [-List.getD_eq_getElem?_getD]; omega) | (simp at *; omega) | rfl) (by first | omega | (simp; done) | (simp [-List.getD_eq_getElem?_getD]; omega) | (simp at *; omega) | rfl) (by first | omega | (simp; done) | (simp [-List.getD_eq_getElem?_getD]; omega)) (by first | omega | (simp; done) | (simp [-List.getD_eq_getElem?_getD]; omega)) rfl rfl) (Wt.plain rfl) ?_
        rintro _ _ ⟨k92, cap93, junk94, hc95, rfl, rfl⟩
        refine ⟨fun _ => (S_sub ((((((((List.Sublist.slnil).cons _).cons _).cons _).cons_cons _).cons_cons _).cons_cons _).cons_cons _)), ?_⟩
        change (_ : List Blk → Prop) [_, _, _, _, _, _, _]
        conv => rhs; rw [List.nil_append]
        refine D.one 5 (by kernel_rfl) ?_
        refine Up.eff rfl (e_appendI sc22 ze5 rfl 5 .u8 (chainA key b) [2] junk94 (rfl) (R_blk 4 rfl) rfl rfl rfl rfl (by first | omega | (simp; done) | (simp [-List.getD_eq_getElem?_getD]; omega) | (simp at *; omega) | rfl) (by first | omega | (simp; done) | (simp [-List.getD_eq_getElem?_getD]; omega) | (simp at *; omega) | rfl) (by first | omega | (simp; done) | (simp [-List.getD_eq_getElem?_getD]; omega) | (simp at *; omega) | rfl) (by first | omega | (simp; done) | (simp [-List.getD_eq_getElem?_getD]; omega)) (by first | omega | (simp; done) | (simp [-List.getD_eq_getElem?_getD]; omega)) rfl rfl) (Wt.plain rfl) ?_
        rintro _ _ ⟨k96, cap97, junk98, hc99, rfl, rfl⟩
        refine ⟨fun _ => (S_sub ((((((((List.Sublist.slnil).cons _).cons _).cons _).cons_cons _).cons_cons _).cons_cons _).cons_cons _)), ?_⟩
        change (_ : List Blk → Prop) [_, _, _, _, _, _, _]
        refine D.one 6 (by kernel_rfl) ?_
        refine Up.eff rfl (e_call enters24 rfl rfl (fun w hm => refmac_at (macS key b) (chainA key b ++ [2]) _ _ _ _ (by first | omega | (simp; done) | (simp; omega) | (simp at *; omega)) (by first | omega | (simp; done) | (simp; omega) | (simp at *; omega)) (by first | omega | (simp; done) | (simp; omega) | (simp at *; omega)) (by first | omega | (simp; done) | (simp; omega) | (simp at *; omega)) w ((R_blk 2 rfl) w hm) ((R_pre 5 rfl) w hm) (by first | omega | (simp; done) | (simp [-List.getD_eq_getElem?_getD]; omega) | (simp at *; omega) | rfl) (by first | omega | (simp; done) | (simp [-List.getD_eq_getElem?_getD]; omega) | (simp at *; omega) | rfl)) rfl rfl) (Wt.plain rfl) ?_
        rintro _ _ ⟨_, _, ⟨rfl, rfl⟩, rfl, rfl⟩
        refine ⟨fun _ => (S_sub ((((((((List.Sublist.slnil).cons _).cons _).cons _).cons_cons _).cons_cons _).cons_cons _).cons_cons _)), ?_⟩
        change (_ : List Blk → Prop) [_, _, _, _, _, _, _]
        refine D.one 8 (by kernel_rfl) ?_
        refine Up.eff rfl (e_storeA (wide_ints wd29 (by first | omega | (simp; done) | (simp [-List.getD_eq_getElem?_getD]; omega) | (simp at *; omega) | rfl)) 6 rfl rfl rfl rfl (by first | omega | (simp; done) | (simp [-List.getD_eq_getElem?_getD]; omega) | (simp at *; omega) | rfl) ints_one rfl) (Wt.plain rfl) ?_
        rintro _ _ ⟨rfl, rfl⟩
        refine ⟨fun h => absurd h (by decide), ?_⟩
        change (_ : List Blk → Prop) [_, _, _, _, _, _, _]
        change (_ : List Blk → Prop) [_, _, _, _, _, _, ⟨some k91, ints .u8 (chainB key b), 29, (0, 0)⟩]
        refine D.done (by kernel_rfl) ?_
        refine Ex.next ?_
        refine W.less (L' := [(4, _), (5, _), (7, _), (8, _)]) [true, true, false, true, false, false, true] ⟨rfl, rfl, rfl, rfl, trivial⟩ ?_
        change (_ : List Blk → Prop) [_, _, _, _]
        refine W.seq ?_
        refine W.drawP 3 [false, true, true, true] (by kernel_rfl) ?_
        refine D.take 0 rfl (by kernel_rfl) (S_sub (((((List.Sublist.slnil).cons_cons _).cons_cons _).cons_cons _).cons _)) (q_loadW (wide_ints wd29 (by first | omega | (simp; done) | (simp [-List.getD_eq_getElem?_getD]; omega) | (simp at *; omega) | rfl)) (R_blk 1 rfl) rfl rfl) (Wt.plain rfl) rfl rfl ?_
        refine D.take 1 rfl (by kernel_rfl) (S_sub (((((List.Sublist.slnil).cons_cons _).cons_cons _).cons_cons _).cons _)) (q_loadW (wide_ints wd29 (by first | omega | (simp; done) | (simp [-List.getD_eq_getElem?_getD]; omega) | (simp at *; omega) | rfl)) (R_blk 2 rfl) rfl rfl) (Wt.plain rfl) rfl rfl ?_
        refine D.one 2 (by kernel_rfl) ?_
        refine Up.eff rfl (e_storeA (wide_ints wd29 (by first | omega | (simp; done) | (simp [-List.getD_eq_getElem?_getD]; omega) | (simp at *; omega) | rfl)) 0 rfl rfl rfl rfl (by first | omega | (simp; done) | (simp [-List.getD_eq_getElem?_getD]; omega) | (simp at *; omega) | rfl) ints_one rfl) (Wt.plain rfl) ?_
        rintro _ _ ⟨rfl, rfl⟩
        refine ⟨fun _ => (S_sub (((((List.Sublist.slnil).cons_cons _).cons_cons _).cons_cons _).cons _)), ?_⟩
        change (_ : List Blk → Prop) [_, _, _, _]
        refine D.one 3 (by kernel_rfl) ?_
        refine Up.eff rfl (e_storeA (wide_ints wd29 (by first | omega | (simp; done) | (simp [-List.getD_eq_getElem?_getD]; omega) | (simp at *; omega) | rfl)) 1 rfl rfl rfl rfl (by first | omega | (simp; done) | (simp [-List.getD_eq_getElem?_getD]; omega) | (simp at *; omega) | rfl) ints_one rfl) (Wt.plain rfl) ?_
        rintro _ _ ⟨rfl, rfl⟩
        refine ⟨fun h => absurd h (by decide), ?_⟩
        change (_ : List Blk → Prop) [_, _, _, _]
        refine D.done (by kernel_rfl) ?_
        refine Ex.next ?_
        refine W.less (L' := [(4, _), (5, _)]) [true, true, false, false] ⟨rfl, rfl, trivial⟩ ?_
        change (_ : List Blk → Prop) [_, _]
        refine W.ret ?_
        refine Ex.outCC [false, false] 0 1 rfl (wide_ints wd29 (by first | omega | (simp; done) | (simp [-List.getD_eq_getElem?_getD]; omega) | (simp at *; omega) | rfl)) (wide_ints wd29 (by first | omega | (simp; done) | (simp [-List.getD_eq_getElem?_getD]; omega) | (simp at *; omega) | rfl)) rfl rfl rfl rfl ?_
        exact ⟨rfl, rfl⟩
    ·
      refine Up.eff rfl (e_alloc ze29 rfl rfl rfl) (Wt.plain rfl) ?_
      rintro _ _ ⟨k100, rfl, rfl⟩
      refine ⟨fun _ => (S_sub (((((((List.Sublist.slnil).cons _).cons _).cons_cons _).cons_cons _).cons_cons _).cons_cons _)), ?_⟩
      change (_ : List Blk → Prop) [_, _, _, _, _, _]
      refine D.one 1 (by kernel_rfl) ?_
      refine Up.eff rfl (e_litA sc22 ze5 rfl rfl rfl (by simp [Value.cells]) rfl rfl rfl) (Wt.plain rfl) ?_
      rintro _ _ ⟨k101, rfl, rfl⟩
      refine ⟨fun _ => (S_sub ((((((((List.Sublist.slnil).cons _).cons _).cons _).cons_cons _).cons_cons _).cons_cons _).cons_cons _)), ?_⟩
      change (_ : List Blk → Prop) [_, _, _, _, _, _, _]
      refine D.one 3 (by kernel_rfl) ?_
      refine Up.eff rfl (e_appendI sc22 ze5 rfl 6 .u8 [] (chainA key b) [] ((List.append_nil _).symm) (R_blk 3 rfl) rfl rfl rfl rfl (by first | omega | (simp; done) | (simp [-List.getD_eq_getElem?_getD]; omega) | (simp at *; omega) | rfl) (by first | omega | (simp; done) | (simp [-List.getD_eq_getElem?_getD]; omega) | (simp at *; omega) | rfl) (by first | omega | (simp; done) | (simp [-List.getD_eq_getElem?_getD]; omega) | (simp at *; omega) | rfl) (by first | omega | (simp; done) | (simp [-List.getD_eq_getElem?_getD]; omega)) (by first | omega | (simp; done) | (simp [-List.getD_eq_getElem?_getD]; omega)) rfl rfl) (Wt.plain rfl) ?_
      rintro _ _ ⟨k102, cap103, junk104, hc105, rfl, rfl⟩
      refine ⟨fun _ => (S_sub ((((((((List.Sublist.slnil).cons _).cons _).cons _).cons_cons _).cons_cons _).cons_cons _).cons_cons _)), ?_⟩
      change (_ : List Blk → Prop) [_, _, _, _, _, _, _]
      conv => rhs; rw [List.nil_append]
      refine D.one 5 (by kernel_rfl) ?_
      refine Up.eff rfl (e_appendI sc22 ze5 rfl 6 .u8 (chainA key b) [2] junk104 (rfl) (R_blk 4 rfl) rfl rfl rfl rfl (by first | omega | (simp; done) | (simp [-List.getD_eq_getElem?_getD]; omega) | (simp at *; omega) | rfl) (by first | omega | (simp; done) | (simp [-List.getD_eq_getElem?_getD]; omega) | (simp at *; omega) | rfl) (by first | omega | (simp; done) | (simp [-List.getD_eq_getElem?_getD]; omega) | (simp at *; omega) | rfl) (by first | omega | (simp; done) | (simp [-List.getD_eq_getElem?_getD]; omega)) (by first | omega | (simp; done) | (simp [-List.getD_eq_getElem?_getD]; omega)) rfl rfl) (Wt.plain rfl) ?_
      rintro _ _ ⟨k106, cap107, junk108, hc109, rfl, rfl⟩
      refine ⟨fun _ => (S_sub ((((((((List.Sublist.slnil).cons _).cons _).cons _).cons_cons _).cons_cons _).cons_cons _).cons_cons _)), ?_⟩
      change (_ : List Blk → Prop) [_, _, _, _, _, _, _]
      refine D.one 6 (by kernel_rfl) ?_
      refine Up.eff rfl (e_call enters24 rfl rfl (fun w hm => refmac_at (macS key b) (chainA key b ++ [2]) _ _ _ _ (by first | omega | (simp; done) | (simp; omega) | (simp at *; omega)) (by first | omega | (simp; done) | (simp; omega) | (simp at *; omega)) (by first | omega | (simp; done) | (simp; omega) | (simp at *; omega)) (by first | omega | (simp; done) | (simp; omega) | (simp at *; omega)) w ((R_blk 2 rfl) w hm) ((R_pre 6 rfl) w hm) (by first | omega | (simp; done) | (simp [-List.getD_eq_getElem?_getD]; omega) | (simp at *; omega) | rfl) (by first | omega | (simp; done) | (simp [-List.getD_eq_getElem?_getD]; omega) | (simp at *; omega) | rfl)) rfl rfl) (Wt.plain rfl) ?_
      rintro _ _ ⟨_, _, ⟨rfl, rfl⟩, rfl, rfl⟩
      refine ⟨fun _ => (S_sub ((((((((List.Sublist.slnil).cons _).cons _).cons _).cons_cons _).cons_cons _).cons_cons _).cons_cons _)), ?_⟩
      change (_ : List Blk → Prop) [_, _, _, _, _, _, _]
      refine D.one 8 (by kernel_rfl) ?_
      refine Up.eff rfl (e_storeA (wide_ints wd29 (by first | omega | (simp; done) | (simp [-List.getD_eq_getElem?_getD]; omega) | (simp at *; omega) | rfl)) 5 rfl rfl rfl rfl (by first | omega | (simp; done) | (simp [-List.getD_eq_getElem?_getD]; omega) | (simp at *; omega) | rfl) ints_one rfl) (Wt.plain rfl) ?_
      rintro _ _ ⟨rfl, rfl⟩
      refine ⟨fun h => absurd h (by decide), ?_⟩
      change (_ : List Blk → Prop) [_, _, _, _, _, _, _]
      change (_ : List Blk → Prop) [_, _, _, _, _, ⟨some k100, ints .u8 (chainB key b), 29, (0, 0)⟩, _]
      refine D.done (by kernel_rfl) ?_
      refine Ex.next ?_
      refine W.less (L' := [(4, _), (5, _), (7, _), (8, _)]) [true, true, false, true, false, true, false] ⟨rfl, rfl, rfl, rfl, trivial⟩ ?_
      change (_ : List Blk → Prop) [_, _, _, _]
      refine W.seq ?_
      refine W.drawP 3 [false, true, true, true] (by kernel_rfl) ?_
      refine D.take 0 rfl (by kernel_rfl) (S_sub (((((List.Sublist.slnil).cons_cons _).cons_cons _).cons_cons _).cons _)) (q_loadW (wide_ints wd29 (by first | omega | (simp; done) | (simp [-List.getD_eq_getElem?_getD]; omega) | (simp at *; omega) | rfl)) (R_blk 1 rfl) rfl rfl) (Wt.plain rfl) rfl rfl ?_
      refine D.take 1 rfl (by kernel_rfl) (S_sub (((((List.Sublist.slnil).cons_cons _).cons_cons _).cons_cons _).cons _)) (q_loadW (wide_ints wd29 (by first | omega | (simp; done) | (simp [-List.getD_eq_getElem?_getD]; omega) | (simp at *; omega) | rfl)) (R_blk 2 rfl) rfl rfl) (Wt.plain rfl) rfl rfl ?_
      refine D.one 2 (by kernel_rfl) ?_
      refine Up.eff rfl (e_storeA (wide_ints wd29 (by first | omega | (simp; done) | (simp [-List.getD_eq_getElem?_getD]; omega) | (simp at *; omega) | rfl)) 0 rfl rfl rfl rfl (by first | omega | (simp; done) | (simp [-List.getD_eq_getElem?_getD]; omega) | (simp at *; omega) | rfl) ints_one rfl) (Wt.plain rfl) ?_
      rintro _ _ ⟨rfl, rfl⟩
      refine ⟨fun _ => (S_sub (((((List.Sublist.slnil).cons_cons _).cons_cons _).cons_cons _).cons _)), ?_⟩
      change (_ : List Blk → Prop) [_, _, _, _]
      refine D.one 3 (by kernel_rfl) ?_
      refine Up.eff rfl (e_storeA (wide_ints wd29 (by first | omega | (simp; done) | (simp [-List.getD_eq_getElem?_getD]; omega) | (simp at *; omega) | rfl)) 1 rfl rfl rfl rfl (by first | omega | (simp; done) | (simp [-List.getD_eq_getElem?_getD]; omega) | (simp at *; omega) | rfl) ints_one rfl) (Wt.plain rfl) ?_
      rintro _ _ ⟨rfl, rfl⟩
      refine ⟨fun h => absurd h (by decide), ?_⟩
      change (_ : List Blk → Prop) [_, _, _, _]
      refine D.done (by kernel_rfl) ?_
      refine Ex.next ?_
      refine W.less (L' := [(4, _), (5, _)]) [true, true, false, false] ⟨rfl, rfl, trivial⟩ ?_
      change (_ : List Blk → Prop) [_, _]
      refine W.ret ?_
      refine Ex.outCC [false, false] 0 1 rfl (wide_ints wd29 (by first | omega | (simp; done) | (simp [-List.getD_eq_getElem?_getD]; omega) | (simp at *; omega) | rfl)) (wide_ints wd29 (by first | omega | (simp; done) | (simp [-List.getD_eq_getElem?_getD]; omega) | (simp at *; omega) | rfl)) rfl rfl rfl rfl ?_
      exact ⟨rfl, rfl⟩
  ·
    refine Up.eff rfl (e_alloc ze29 rfl rfl rfl) (Wt.plain rfl) ?_
    rintro _ _ ⟨k110, rfl, rfl⟩
    refine ⟨fun _ => (S_sub ((((((List.Sublist.slnil).cons _).cons_cons _).cons_cons _).cons_cons _).cons_cons _)), ?_⟩
    change (_ : List Blk → Prop) [_, _, _, _, _]
    refine D.two 1 4 (by kernel_rfl) ?_ ?_
    ·
      refine Up.eff rfl (e_litA sc22 ze5 rfl rfl rfl (by simp [Value.cells]) rfl rfl rfl) (Wt.plain rfl) ?_
      rintro _ _ ⟨k111, rfl, rfl⟩
      refine ⟨fun _ => (S_sub (((((((List.Sublist.slnil).cons _).cons _).cons_cons _).cons_cons _).cons_cons _).cons_cons _)), ?_⟩
      change (_ : List Blk → Prop) [_, _, _, _, _, _]
      refine D.two 3 4 (by kernel_rfl) ?_ ?_
      ·
        refine Up.eff rfl (e_appendI sc22 ze5 rfl 5 .u8 [] (chainA key b) [] ((List.append_nil _).symm) (R_blk 3 rfl) rfl rfl rfl rfl (by first | omega | (simp; done) | (simp [-List.getD_eq_getElem?_getD]; omega) | (simp at *; omega) | rfl) (by first | omega | (simp; done) | (simp [-List.getD_eq_getElem?_getD]; omega) | (simp at *; omega) | rfl) (by first | omega | (simp; done) | (simp [-List.getD_eq_getElem?_getD]; omega) | (simp at *; omega) | rfl) (by first | omega | (simp; done) | (simp [-List.getD_eq_getElem?_getD]; omega)) (by first | omega | (simp; done) | (simp [-List.getD_eq_getElem?_getD]; omega)) rfl rfl) (Wt.plain rfl) ?_
        rintro _ _ ⟨k112, cap113, junk114, hc115, rfl, rfl⟩
        refine ⟨fun _ => (S_sub (((((((List.Sublist.slnil).cons _).cons _).cons_cons _).cons_cons _).cons_cons _).cons_cons _)), ?_⟩
        change (_ : List Blk → Prop) [_, _, _, _, _, _]
        conv => rhs; rw [List.nil_append]
        refine D.one 4 (by kernel_rfl) ?_
        refine Up.eff rfl (e_litA sc22 ze5 rfl rfl rfl (by simp [Value.cells]) rfl rfl rfl) (Wt.plain rfl) ?_
        rintro _ _ ⟨k116, rfl, rfl⟩
        refine ⟨fun _ => (S_sub ((((((((List.Sublist.slnil).cons _).cons _).cons _).cons_cons _).cons_cons _).cons_cons _).cons_cons _)), ?_⟩
        change (_ : List Blk → Prop) [_, _, _, _, _, _, _]
        refine D.one 5 (by kernel_rfl) ?_
        refine Up.eff rfl (e_appendI sc22 ze5 rfl 5 .u8 (chainA key b) [2] junk114 (rfl) (R_blk 6 rfl) rfl rfl rfl rfl (by first | omega | (simp; done) | (simp [-List.getD_eq_getElem?_getD]; omega) | (simp at *; omega) | rfl) (by first | omega | (simp; done) | (simp [-List.getD_eq_getElem?_getD]; omega) | (simp at *; omega) | rfl) (by first | omega | (simp; done) | (simp [-List.getD_eq_getElem?_getD]; omega) | (simp at *; omega) | rfl) (by first | omega | (simp; done) | (simp [-List.getD_eq_getElem?_getD]; omega)) (by first | omega | (simp; done) | (simp [-List.getD_eq_getElem?_getD]; omega)) rfl rfl) (Wt.plain rfl) ?_
        rintro _ _ ⟨k117, cap118, junk119, hc120, rfl, rfl⟩
        refine ⟨fun _ => (S_sub ((((((((List.Sublist.slnil).cons _).cons _).cons _).cons_cons _).cons_cons _).cons_cons _).cons_cons _)), ?_⟩
        change (_ : List Blk → Prop) [_, _, _, _, _, _, _]
        refine D.one 6 (by kernel_rfl) ?_
        refine Up.eff rfl (e_call enters24 rfl rfl (fun w hm => refmac_at (macS key b) (chainA key b ++ [2]) _ _ _ _ (by first | omega | (simp; done) | (simp; omega) | (simp at *; omega)) (by first | omega | (simp; done) | (simp; omega) | (simp at *; omega)) (by first | omega | (simp; done) | (simp; omega) | (simp at *; omega)) (by first | omega | (simp; done) | (simp; omega) | (simp at *; omega)) w ((R_blk 2 rfl) w hm) ((R_pre 5 rfl) w hm) (by first | omega | (simp; done) | (simp [-List.getD_eq_getElem?_getD]; omega) | (simp at *; omega) | rfl) (by first | omega | (simp; done) | (simp [-List.getD_eq_getElem?_getD]; omega) | (simp at *; omega) | rfl)) rfl rfl) (Wt.plain rfl) ?_
        rintro _ _ ⟨_, _, ⟨rfl, rfl⟩, rfl, rfl⟩
        refine ⟨fun _ => (S_sub ((((((((List.Sublist.slnil).cons _).cons _).cons _).cons_cons _).cons_cons _).cons_cons _).cons_cons _)), ?_⟩
        change (_ : List Blk → Prop) [_, _, _, _, _, _, _]
        refine D.one 8 (by kernel_rfl) ?_
        refine Up.eff rfl (e_storeA (wide_ints wd29 (by first | omega | (simp; done) | (simp [-List.getD_eq_getElem?_getD]; omega) | (simp at *; omega) | rfl)) 4 rfl rfl rfl rfl (by first | omega | (simp; done) | (simp [-List.getD_eq_getElem?_getD]; omega) | (simp at *; omega) | rfl) ints_one rfl) (Wt.plain rfl) ?_
        rintro _ _ ⟨rfl, rfl⟩
        refine ⟨fun h => absurd h (by decide), ?_⟩
        change (_ : List Blk → Prop) [_, _, _, _, _, _, _]
        change (_ : List Blk → Prop) [_, _, _, _, ⟨some k110, ints .u8 (chainB key b), 29, (0, 0)⟩, _, _]
        refine D.done (by kernel_rfl) ?_
        refine Ex.next ?_
        refine W.less (L' := [(4, _), (5, _), (7, _), (8, _)]) [true, true, false, true, true, false, false] ⟨rfl, rfl, rfl, rfl, trivial⟩ ?_
        change (_ : List Blk → Prop) [_, _, _, _]
        refine W.seq ?_
        refine W.drawP 3 [false, true, true, true] (by kernel_rfl) ?_
        refine D.take 0 rfl (by kernel_rfl) (S_sub (((((List.Sublist.slnil).cons_cons _).cons_cons _).cons_cons _).cons _)) (q_loadW (wide_ints wd29 (by first | omega | (simp; done) | (simp [-List.getD_eq_getElem?_getD]; omega) | (simp at *; omega) | rfl)) (R_blk 1 rfl) rfl rfl) (Wt.plain rfl) rfl rfl ?_
        refine D.take 1 rfl (by kernel_rfl) (S_sub (((((List.Sublist.slnil).cons_cons _).cons_cons _).cons_cons _).cons _)) (q_loadW (wide_ints wd29 (by first | omega | (simp; done) | (simp [-List.getD_eq_getElem?_getD]; omega) | (simp at *; omega) | rfl)) (R_blk 2 rfl) rfl rfl) (Wt.plain rfl) rfl rfl ?_
        refine D.one 2 (by kernel_rfl) ?_
        refine Up.eff rfl (e_storeA (wide_ints wd29 (by first | omega | (simp; done) | (simp [-List.getD_eq_getElem?_getD]; omega) | (simp at *; omega) | rfl)) 0 rfl rfl rfl rfl (by first | omega | (simp; done) | (simp [-List.getD_eq_getElem?_getD]; omega) | (simp at *; omega) | rfl) ints_one rfl) (Wt.plain rfl) ?_
        rintro _ _ ⟨rfl, rfl⟩
        refine ⟨fun _ => (S_sub (((((List.Sublist.slnil).cons_cons _).cons_cons _).cons_cons _).cons _)), ?_⟩
        change (_ : List Blk → Prop) [_, _, _, _]
        refine D.one 3 (by kernel_rfl) ?_
        refine Up.eff rfl (e_storeA (wide_ints wd29 (by first | omega | (simp; done) | (simp [-List.getD_eq_getElem?_getD]; omega) | (simp at *; omega) | rfl)) 1 rfl rfl rfl rfl (by first | omega | (simp; done) | (simp [-List.getD_eq_getElem?_getD]; omega) | (simp at *; omega) | rfl) ints_one rfl) (Wt.plain rfl) ?_
        rintro _ _ ⟨rfl, rfl⟩
        refine ⟨fun h => absurd h (by decide), ?_⟩
        change (_ : List Blk → Prop) [_, _, _, _]
        refine D.done (by kernel_rfl) ?_
        refine Ex.next ?_
        refine W.less (L' := [(4, _), (5, _)]) [true, true, false, false] ⟨rfl, rfl, trivial⟩ ?_
        change (_ : List Blk → Prop) [_, _]
        refine W.ret ?_
        refine Ex.outCC [false, false] 0 1 rfl (wide_ints wd29 (by first | omega | (simp; done) | (simp [-List.getD_eq_getElem?_getD]; omega) | (simp at *; omega) | rfl)) (wide_ints wd29 (by first | omega | (simp; done) | (simp [-List.getD_eq_getElem?_getD]; omega) | (simp at *; omega) | rfl)) rfl rfl rfl rfl ?_
        exact ⟨rfl, rfl⟩
      ·
        refine Up.eff rfl (e_litA sc22 ze5 rfl rfl rfl (by simp [Value.cells]) rfl rfl rfl) (Wt.plain rfl) ?_
        rintro _ _ ⟨k121, rfl, rfl⟩
        refine ⟨fun _ => (S_sub ((((((((List.Sublist.slnil).cons _).cons _).cons _).cons_cons _).cons_cons _).cons_cons _).cons_cons _)), ?_⟩
        change (_ : List Blk → Prop) [_, _, _, _, _, _, _]
        refine D.one 3 (by kernel_rfl) ?_
        refine Up.eff rfl (e_appendI sc22 ze5 rfl 5 .u8 [] (chainA key b) [] ((List.append_nil _).symm) (R_blk 3 rfl) rfl rfl rfl rfl (by first | omega | (simp; done) | (simp [-List.getD_eq_getElem?_getD]; omega) | (simp at *; omega) | rfl) (by first | omega | (simp; done) | (simp [-List.getD_eq_getElem?_getD]; omega) | (simp at *; omega) | rfl) (by first | omega | (simp; done) | (simp [-List.getD_eq_getElem?_getD]; omega) | (simp at *; omega) | rfl) (by first | omega | (simp; done) | (simp [-List.getD_eq_getElem?_getD]; omega)) (by first | omega | (simp; done) | (simp [-List.getD_eq_getElem?_getD]; omega)) rfl rfl) (Wt.plain rfl) ?_
        rintro _ _ ⟨k122, cap123, junk124, hc125, rfl, rfl⟩
        refine ⟨fun _ => (S_sub ((((((((List.Sublist.slnil).cons _).cons _).cons _).cons_cons _).cons_cons _).cons_cons _).cons_cons _)), ?_⟩
        change (_ : List Blk → Prop) [_, _, _, _, _, _, _]
        conv => rhs; rw [List.nil_append]
        refine D.one 5 (by kernel_rfl) ?_
        refine Up.eff rfl (e_appendI sc22 ze5 rfl 5 .u8 (chainA key b) [2] junk124 (rfl) (R_blk 6 rfl) rfl rfl rfl rfl (by first | omega | (simp; done) | (simp [-List.getD_eq_getElem?_getD]; omega) | (simp at *; omega) | rfl) (by first | omega | (simp; done) | (simp [-List.getD_eq_getElem?_getD]; omega) | (simp at *; omega) | rfl) (by first | omega | (simp; done) | (simp [-List.getD_eq_getElem?_getD]; omega) | (simp at *; omega) | rfl) (by first | omega | (simp; done) | (simp [-List.getD_eq_getElem?_getD]; omega)) (by first | omega | (simp; done) | (simp [-List.getD_eq_getElem?_getD]; omega)) rfl rfl) (Wt.plain rfl) ?_
        rintro _ _ ⟨k126, cap127, junk128, hc129, rfl, rfl⟩
        refine ⟨fun _ => (S_sub ((((((((List.Sublist.slnil).cons _).cons _).cons _).cons_cons _).cons_cons _).cons_cons _).cons_cons _)), ?_⟩
        change (_ : List Blk → Prop) [_, _, _, _, _, _, _]
        refine D.one 6 (by kernel_rfl) ?_
        refine Up.eff rfl (e_call enters24 rfl rfl (fun w hm => refmac_at (macS key b) (chainA key b ++ [2]) _ _ _ _ (by first | omega | (simp; done) | (simp; omega) | (simp at *; omega)) (by first | omega | (simp; done) | (simp; omega) | (simp at *; omega)) (by first | omega | (simp; done) | (simp; omega) | (simp at *; omega)) (by first | omega | (simp; done) | (simp; omega) | (simp at *; omega)) w ((R_blk 2 rfl) w hm) ((R_pre 5 rfl) w hm) (by first | omega | (simp; done) | (simp [-List.getD_eq_getElem?_getD]; omega) | (simp at *; omega) | rfl) (by first | omega | (simp; done) | (simp [-List.getD_eq_getElem?_getD]; omega) | (simp at *; omega) | rfl)) rfl rfl) (Wt.plain rfl) ?_
        rintro _ _ ⟨_, _, ⟨rfl, rfl⟩, rfl, rfl⟩
        refine ⟨fun _ => (S_sub ((((((((List.Sublist.slnil).cons _).cons _).cons _).cons_cons _).cons_cons _).cons_cons _).cons_cons _)), ?_⟩
        change (_ : List Blk → Prop) [_, _, _, _, _, _, _]
        refine D.one 8 (by kernel_rfl) ?_
        refine Up.eff rfl (e_storeA (wide_ints wd29 (by first | omega | (simp; done) | (simp [-List.getD_eq_getElem?_getD]; omega) | (simp at *; omega) | rfl)) 4 rfl rfl rfl rfl (by first | omega | (simp; done) | (simp [-List.getD_eq_getElem?_getD]; omega) | (simp at *; omega) | rfl) ints_one rfl) (Wt.plain rfl) ?_
        rintro _ _ ⟨rfl, rfl⟩
        refine ⟨fun h => absurd h (by decide), ?_⟩
        change (_ : List Blk → Prop) [_, _, _, _, _, _, _]
        change (_ : List Blk → Prop) [_, _, _, _, ⟨some k110, ints .u8 (chainB key b), 29, (0, 0)⟩, _, _]
        refine D.done (by kernel_rfl) ?_
        refine Ex.next ?_
        refine W.less (L' := [(4, _), (5, _), (7, _), (8, _)]) [true, true, false, true, true, false, false] ⟨rfl, rfl, rfl, rfl, trivial⟩ ?_
        change (_ : List Blk → Prop) [_, _, _, _]
        refine W.seq ?_
        refine W.drawP 3 [false, true, true, true] (by kernel_rfl) ?_
        refine D.take 0 rfl (by kernel_rfl) (S_sub (((((List.Sublist.slnil).cons_cons _).cons_cons _).cons_cons _).cons _)) (q_loadW (wide_ints wd29 (by first | omega | (simp; done) | (simp [-List.getD_eq_getElem?_getD]; omega) | (simp at *; omega) | rfl)) (R_blk 1 rfl) rfl rfl) (Wt.plain rfl) rfl rfl ?_
        refine D.take 1 rfl (by kernel_rfl) (S_sub (((((List.Sublist.slnil).cons_cons _).cons_cons _).cons_cons _).cons _)) (q_loadW (wide_ints wd29 (by first | omega | (simp; done) | (simp [-List.getD_eq_getElem?_getD]; omega) | (simp at *; omega) | rfl)) (R_blk 2 rfl) rfl rfl) (Wt.plain rfl) rfl rfl ?_
        refine D.one 2 (by kernel_rfl) ?_
        refine Up.eff rfl (e_storeA (wide_ints wd29 (by first | omega | (simp; done) | (simp [-List.getD_eq_getElem?_getD]; omega) | (simp at *; omega) | rfl)) 0 rfl rfl rfl rfl (by first | omega | (simp; done) | (simp [-List.getD_eq_getElem?_getD]; omega) | (simp at *; omega) | rfl) ints_one rfl) (Wt.plain rfl) ?_
        rintro _ _ ⟨rfl, rfl⟩
        refine ⟨fun _ => (S_sub (((((List.Sublist.slnil).cons_cons _).cons_cons _).cons_cons _).cons _)), ?_⟩
        change (_ : List Blk → Prop) [_, _, _, _]
        refine D.one 3 (by kernel_rfl) ?_
        refine Up.eff rfl (e_storeA (wide_ints wd29 (by first | omega | (simp; done) | (simp [-List.getD_eq_getElem?_getD]; omega) | (simp at *; omega) | rfl)) 1 rfl rfl rfl rfl (by first | omega | (simp; done) | (simp [-List.getD_eq_getElem?_getD]; omega) | (simp at *; omega) | rfl) ints_one rfl) (Wt.plain rfl) ?_
        rintro _ _ ⟨rfl, rfl⟩
        refine ⟨fun h => absurd h (by decide), ?_⟩
        change (_ : List Blk → Prop) [_, _, _, _]
        refine D.done (by kernel_rfl) ?_
        refine Ex.next ?_
        refine W.less (L' := [(4, _), (5, _)]) [true, true, false, false] ⟨rfl, rfl, trivial⟩ ?_
        change (_ : List Blk → Prop) [_, _]
        refine W.ret ?_
        refine Ex.outCC [false, false] 0 1 rfl (wide_ints wd29 (by first | omega | (simp; done) | (simp [-List.getD_eq_getElem?_getD]; omega) | (simp at *; omega) | rfl)) (wide_ints wd29 (by first | omega | (simp; done) | (simp [-List.getD_eq_getElem?_getD]; omega) | (simp at *; omega) | rfl)) rfl rfl rfl rfl ?_
        exact ⟨rfl, rfl⟩
    ·
      refine Up.eff rfl (e_litA sc22 ze5 rfl rfl rfl (by simp [Value.cells]) rfl rfl rfl) (Wt.plain rfl) ?_
      rintro _ _ ⟨k130, rfl, rfl⟩
      refine ⟨fun _ => (S_sub (((((((List.Sublist.slnil).cons _).cons _).cons_cons _).cons_cons _).cons_cons _).cons_cons _)), ?_⟩
      change (_ : List Blk → Prop) [_, _, _, _, _, _]
      refine D.one 1 (by kernel_rfl) ?_
      refine Up.eff rfl (e_litA sc22 ze5 rfl rfl rfl (by simp [Value.cells]) rfl rfl rfl) (Wt.plain rfl) ?_
      rintro _ _ ⟨k131, rfl, rfl⟩
      refine ⟨fun _ => (S_sub ((((((((List.Sublist.slnil).cons _).cons _).cons _).cons_cons _).cons_cons _).cons_cons _).cons_cons _)), ?_⟩
      change (_ : List Blk → Prop) [_, _, _, _, _, _, _]
      refine D.one 3 (by kernel_rfl) ?_
      refine Up.eff rfl (e_appendI sc22 ze5 rfl 6 .u8 [] (chainA key b) [] ((List.append_nil _).symm) (R_blk 3 rfl) rfl rfl rfl rfl (by first | omega | (simp; done) | (simp [-List.getD_eq_getElem?_getD]; omega) | (simp at *; omega) | rfl) (by first | omega | (simp; done) | (simp [-List.getD_eq_getElem?_getD]; omega) | (simp at *; omega) | rfl) (by first | omega | (simp; done) | (simp [-List.getD_eq_getElem?_getD]; omega) | (simp at *; omega) | rfl) (by first | omega | (simp; done) | (simp [-List.getD_eq_getElem?_getD]; omega)) (by first | omega | (simp; done) | (simp [-List.getD_eq_getElem?_getD]; omega)) rfl rfl) (Wt.plain rfl) ?_
      rintro _ _ ⟨k132, cap133, junk134, hc135, rfl, rfl⟩
      refine ⟨fun _ => (S_sub ((((((((List.Sublist.slnil).cons _).cons _).cons _).cons_cons _).cons_cons _).cons_cons _).cons_cons _)), ?_⟩
      change (_ : List Blk → Prop) [_, _, _, _, _, _, _]
      conv => rhs; rw [List.nil_append]
      refine D.one 5 (by kernel_rfl) ?_
      refine Up.eff rfl (e_appendI sc22 ze5 rfl 6 .u8 (chainA key b) [2] junk134 (rfl) (R_blk 5 rfl) rfl rfl rfl rfl (by first | omega | (simp; done) | (simp [-List.getD_eq_getElem?_getD]; omega) | (simp at *; omega) | rfl) (by first | omega | (simp; done) | (simp [-List.getD_eq_getElem?_getD]; omega) | (simp at *; omega) | rfl) (by first | omega | (simp; done) | (simp [-List.getD_eq_getElem?_getD]; omega) | (simp at *; omega) | rfl) (by first | omega | (simp; done) | (simp [-List.getD_eq_getElem?_getD]; omega)) (by first | omega | (simp; done) | (simp [-List.getD_eq_getElem?_getD]; omega)) rfl rfl) (Wt.plain rfl) ?_
      rintro _ _ ⟨k136, cap137, junk138, hc139, rfl, rfl⟩
      refine ⟨fun _ => (S_sub ((((((((List.Sublist.slnil).cons _).cons _).cons _).cons_cons _).cons_cons _).cons_cons _).cons_cons _)), ?_⟩
      change (_ : List Blk → Prop) [_, _, _, _, _, _, _]
      refine D.one 6 (by kernel_rfl) ?_
      refine Up.eff rfl (e_call enters24 rfl rfl (fun w hm => refmac_at (macS key b) (chainA key b ++ [2]) _ _ _ _ (by first | omega | (simp; done) | (simp; omega) | (simp at *; omega)) (by first | omega | (simp; done) | (simp; omega) | (simp at *; omega)) (by first | omega | (simp; done) | (simp; omega) | (simp at *; omega)) (by first | omega | (simp; done) | (simp; omega) | (simp at *; omega)) w ((R_blk 2 rfl) w hm) ((R_pre 6 rfl) w hm) (by first | omega | (simp; done) | (simp [-List.getD_eq_getElem?_getD]; omega) | (simp at *; omega) | rfl) (by first | omega | (simp; done) | (simp [-List.getD_eq_getElem?_getD]; omega) | (simp at *; omega) | rfl)) rfl rfl) (Wt.plain rfl) ?_
      rintro _ _ ⟨_, _, ⟨rfl, rfl⟩, rfl, rfl⟩
      refine ⟨fun _ => (S_sub ((((((((List.Sublist.slnil).cons _).cons _).cons _).cons_cons _).cons_cons _).cons_cons _).cons_cons _)), ?_⟩
      change (_ : List Blk → Prop) [_, _, _, _, _, _, _]
      refine D.one 8 (by kernel_rfl) ?_
      refine Up.eff rfl (e_storeA (wide_ints wd29 (by first | omega | (simp; done) | (simp [-List.getD_eq_getElem?_getD]; omega) | (simp at *; omega) | rfl)) 4 rfl rfl rfl rfl (by first | omega | (simp; done) | (simp [-List.getD_eq_getElem?_getD]; omega) | (simp at *; omega) | rfl) ints_one rfl) (Wt.plain rfl) ?_
      rintro _ _ ⟨rfl, rfl⟩
      refine ⟨fun h => absurd h (by decide), ?_⟩
      change (_ : List Blk → Prop) [_, _, _, _, _, _, _]
      change (_ : List Blk → Prop) [_, _, _, _, ⟨some k110, ints .u8 (chainB key b), 29, (0, 0)⟩, _, _]
      refine D.done (by kernel_rfl) ?_
      refine Ex.next ?_
      refine W.less (L' := [(4, _), (5, _), (7, _), (8, _)]) [true, true, false, true, true, false, false] ⟨rfl, rfl, rfl, rfl, trivial⟩ ?_
      change (_ : List Blk → Prop) [_, _, _, _]
      refine W.seq ?_
      refine W.drawP 3 [false, true, true, true] (by kernel_rfl) ?_
      refine D.take 0 rfl (by kernel_rfl) (S_sub (((((List.Sublist.slnil).cons_cons _).cons_cons _).cons_cons _).cons _)) (q_loadW (wide_ints wd29 (by first | omega | (simp; done) | (simp [-List.getD_eq_getElem?_getD]; omega) | (simp at *; omega) | rfl)) (R_blk 1 rfl) rfl rfl) (Wt.plain rfl) rfl rfl ?_
      refine D.take 1 rfl (by kernel_rfl) (S_sub (((((List.Sublist.slnil).cons_cons _).cons_cons _).cons_cons _).cons _)) (q_loadW (wide_ints wd29 (by first | omega | (simp; done) | (simp [-List.getD_eq_getElem?_getD]; omega) | (simp at *; omega) | rfl)) (R_blk 2 rfl) rfl rfl) (Wt.plain rfl) rfl rfl ?_
      refine D.one 2 (by kernel_rfl) ?_
      refine Up.eff rfl (e_storeA (wide_ints wd29 (by first | omega | (simp; done) | (simp [-List.getD_eq_getElem?_getD]; omega) | (simp at *; omega) | rfl)) 0 rfl rfl rfl rfl (by first | omega | (simp; done) | (simp [-List.getD_eq_getElem?_getD]; omega) | (simp at *; omega) | rfl) ints_one rfl) (Wt.plain rfl) ?_
      rintro _ _ ⟨rfl, rfl⟩
      refine ⟨fun _ => (S_sub (((((List.Sublist.slnil).cons_cons _).cons_cons _).cons_cons _).cons _)), ?_⟩
      change (_ : List Blk → Prop) [_, _, _, _]
      refine D.one 3 (by kernel_rfl) ?_
      refine Up.eff rfl (e_storeA (wide_ints wd29 (by first | omega | (simp; done) | (simp [-List.getD_eq_getElem?_getD]; omega) | (simp at *; omega) | rfl)) 1 rfl rfl rfl rfl (by first | omega | (simp; done) | (simp [-List.getD_eq_getElem?_getD]; omega) | (simp at *; omega) | rfl) ints_one rfl) (Wt.plain rfl) ?_
      rintro _ _ ⟨rfl, rfl⟩
      refine ⟨fun h => absurd h (by decide), ?_⟩
      change (_ : List Blk → Prop) [_, _, _, _]
      refine D.done (by kernel_rfl) ?_
      refine Ex.next ?_
      refine W.less (L' := [(4, _), (5, _)]) [true, true, false, false] ⟨rfl, rfl, trivial⟩ ?_
      change (_ : List Blk → Prop) [_, _]
      refine W.ret ?_
      refine Ex.outCC [false, false] 0 1 rfl (wide_ints wd29 (by first | omega | (simp; done) | (simp [-List.getD_eq_getElem?_getD]; omega) | (simp at *; omega) | rfl)) (wide_ints wd29 (by first | omega | (simp; done) | (simp [-List.getD_eq_getElem?_getD]; omega) | (simp at *; omega) | rfl)) rfl rfl rfl rfl ?_
      exact ⟨rfl, rfl⟩

end Go.Proofs.YtkoomaoelekpaaaDoor
