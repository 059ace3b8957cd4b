/-
  The walks of layer 8: keys that names make.
-/
import Derived.Test.YtkoomaoelekpaaaDoorK2
import Derived.Test.YtkoomaoelekpaaaDoorK4
namespace Go.Proofs.YtkoomaoelekpaaaDoor
open Go Go.X
theorem expand_at (key info : List Int) (IA : Option Addr) (ic : Nat) {m : Nat} (hk : key.length = 32) (hic : m ≤ ic) (hil : m ≤ 140737488354800) (n : Nat) (hn : n ≤ 8160) (w0 : World) (hI : Reads w0 IA (ints .u8 info)) (hg0 : Reads w0 (some ⟨0, 0, none⟩) (ints .u32 startW)) (hg1 : Reads w0 (some ⟨1, 0, none⟩) (ints .u8 sgm)) (hg2 : Reads w0 (some ⟨2, 0, none⟩) (ints .u8 tbl)) (hm : info.length = m) :
    Does Tryd.prog 26 #[.agg (ints .u8 key).toArray, .slice IA m ic, .int .i64 ((n : Nat) : Int)] w0 [] (fun v G => ∃ (no : Option Nat) (junk : List Value), v = .tuple #[.slice (no.map fun k => (⟨k, 0, none⟩ : Addr)) n n, .int .i64 0] ∧ (0 < n → no.isSome = true) ∧ G = [⟨no, ints .u8 (expS key info n) ++ junk, 5, (0, 0)⟩]) := by
  subst hm
  exact expand_spec key info IA ic hk hic hil n hn w0 hI hg0 hg1 hg2
theorem refexpand_at (key info : List Int) (IA : Option Addr) (ic : Nat) {m : Nat} (hk : key.length = 32) (hic : m ≤ ic) (hil : m ≤ 140737488354800) (n : Nat) (hn : n ≤ 8160) (w0 : World) (hI : Reads w0 IA (ints .u8 info)) (hm : info.length = m) :
    Does Tryd.prog 27 #[.agg (ints .u8 key).toArray, .slice IA m ic, .int .i64 ((n : Nat) : Int)] w0 [] (fun v G => ∃ (k cap : Nat) (junk : List Value), v = .tuple #[.slice (some ⟨k, 0, none⟩) n cap, .int .i64 0] ∧ n ≤ cap ∧ G = [⟨some k, ints .u8 (expS key info n) ++ junk, 5, (0, 0)⟩]) := by
  subst hm
  exact refexpand_spec key info IA ic hk hic hil n hn w0 hI
theorem expand_pos_at (key info : List Int) (IA : Option Addr) (ic : Nat) {m : Nat} (hk : key.length = 32) (hic : m ≤ ic) (hil : m ≤ 140737488354800) (n : Nat) (hpos : 0 < n) (hn : n ≤ 8160) (w0 : World) (hI : Reads w0 IA (ints .u8 info)) (hg0 : Reads w0 (some ⟨0, 0, none⟩) (ints .u32 startW)) (hg1 : Reads w0 (some ⟨1, 0, none⟩) (ints .u8 sgm)) (hg2 : Reads w0 (some ⟨2, 0, none⟩) (ints .u8 tbl)) (hm : info.length = m) :
    Does Tryd.prog 26 #[.agg (ints .u8 key).toArray, .slice IA m ic, .int .i64 ((n : Nat) : Int)] w0 [] (fun v G => ∃ (k : Nat) (junk : List Value), v = .tuple #[.slice (some ⟨k, 0, none⟩) n n, .int .i64 0] ∧ G = [⟨some k, ints .u8 (expS key info n) ++ junk, 5, (0, 0)⟩]) := by
  subst hm
  exact expand_pos key info IA ic hk hic hil n hpos hn w0 hI hg0 hg1 hg2
theorem expand_bad_at (key info : List Int) (IA : Option Addr) (ic : Nat) {m : Nat} (hk : key.length = 32) (hic : m ≤ ic) (hil : m ≤ 140737488354800) (z : Int) (hbad : z < 0 ∨ 8160 < z) (w0 : World) (hI : Reads w0 IA (ints .u8 info)) (hm : info.length = m) :
    Does Tryd.prog 26 #[.agg (ints .u8 key).toArray, .slice IA m ic, .int .i64 z] w0 [] (fun v G => v = .tuple #[.slice none 0 0, .int .i64 1] ∧ G = []) := by
  subst hm
  exact expand_bad key info IA ic hk hic hil z hbad w0 hI
theorem refexpand_bad_at (key info : List Int) (IA : Option Addr) (ic : Nat) {m : Nat} (hk : key.length = 32) (hic : m ≤ ic) (hil : m ≤ 140737488354800) (z : Int) (hbad : z < 0 ∨ 8160 < z) (w0 : World) (hI : Reads w0 IA (ints .u8 info)) (hm : info.length = m) :
    Does Tryd.prog 27 #[.agg (ints .u8 key).toArray, .slice IA m ic, .int .i64 z] w0 [] (fun v G => v = .tuple #[.slice none 0 0, .int .i64 1] ∧ G = []) := by
  subst hm
  exact refexpand_bad key info IA ic hk hic hil z hbad w0 hI

set_option maxRecDepth 100000 in
theorem named_spec (key nm : List Int) (s : ByteArray) (hk : key.length = 32) (hs : s.data.toList.map (fun q => (q.toNat : Int)) = nm) (hsz : s.size = nm.length) (hnl : nm.length ≤ 1000) (w0 : World) (hg0 : Reads w0 (some ⟨0, 0, none⟩) (ints .u32 startW)) (hg1 : Reads w0 (some ⟨1, 0, none⟩) (ints .u8 sgm)) (hg2 : Reads w0 (some ⟨2, 0, none⟩) (ints .u8 tbl)) : Does Tryd.prog 54 #[.agg (ints .u8 key).toArray, .string s] w0 [] (fun v G => v = .agg (ints .u8 (expS key nm 32)).toArray ∧ G = []) := by
  refine spec_of 17 Tryd.func54 rfl rfl rfl ?_
  refine W.seq ?_
  refine W.region ?_
  refine T.eff (e_box rfl rfl rfl rfl) (Wt.plain rfl) ?_
  rintro _ _ ⟨k1, rfl, rfl⟩
  change (_ : List Blk → Prop) [_]
  refine T.eff (e_alloc ze29 rfl rfl rfl) (Wt.plain rfl) ?_
  rintro _ _ ⟨k2, rfl, rfl⟩
  change (_ : List Blk → Prop) [_, _]
  refine T.nil ?_
  refine Ex.next ?_
  refine W.slots (L' := [(1, _), (2, _), (4, _)]) ⟨rfl, rfl, rfl, trivial⟩ ?_
  refine W.seq ?_
  refine W.region ?_
  refine T.q (q_loadW (wide_ints wd29 (by first | omega | (simp; done) | (simp [-List.getD_eq_getElem?_getD]; omega) | (simp at *; omega) | rfl)) (R_blk 0 rfl) rfl rfl) (Wt.plain rfl) rfl rfl ?_
  refine T.q (q_move rfl rfl) (Wt.plain rfl) rfl rfl ?_
  refine T.eff (e_bytes un9 un22 un5 rfl rfl rfl rfl) (Wt.plain rfl) ?_
  rintro _ _ ⟨k3, cap4, junk5, hc6, hc7, hc8, rfl, rfl⟩
  change (_ : List Blk → Prop) [_, _, _]
  conv => rhs; rw [hs]
  refine T.eff (e_call enters26 rfl rfl (fun w hm => expand_pos_at key nm _ _ (by first | omega | (simp; done) | (simp; omega) | (simp at *; omega)) (by first | omega | (simp; done) | (simp; omega) | (simp at *; omega)) (by first | omega | (simp; done) | (simp; omega) | (simp at *; omega)) 32 (by omega) (by first | omega | (simp; done) | (simp; omega) | (simp at *; omega)) w ((R_pre 2 rfl) w hm) (R_ext hg0.ext w hm) (R_ext hg1.ext w hm) (R_ext hg2.ext w hm) (by first | omega | (simp; done) | (simp [-List.getD_eq_getElem?_getD]; omega) | (simp at *; omega) | rfl)) rfl rfl) (Wt.plain rfl) ?_
  rintro _ _ ⟨_, _, ⟨k9, junk11, rfl, rfl⟩, rfl, rfl⟩
  change (_ : List Blk → Prop) [_, _, _, _]
  refine T.q (q_move rfl rfl) (Wt.plain rfl) rfl rfl ?_
  refine T.q (q_extract rfl rfl rfl) (Wt.plain rfl) rfl rfl ?_
  refine T.q (q_extract rfl rfl rfl) (Wt.plain rfl) rfl rfl ?_
  refine T.q (q_assign rfl rfl) (Wt.plain rfl) rfl rfl ?_
  refine T.q (q_assign rfl rfl) (Wt.plain rfl) rfl rfl ?_
  refine T.nil ?_
  refine Ex.next ?_
  refine W.less (L' := [(4, _), (5, _)]) [false, true, false, true] ⟨rfl, rfl, trivial⟩ ?_
  change (_ : List Blk → Prop) [_, _]
  refine W.seq ?_
  refine W.region ?_
  refine T.q (q_move rfl rfl) (Wt.plain rfl) rfl rfl ?_
  refine T.q (q_arrp ar29 rfl rfl (by first | omega | (simp; done) | (simp [-List.getD_eq_getElem?_getD]; omega))) (Wt.plain rfl) rfl rfl ?_
  refine T.q (q_loadW (wide_ints wd29 (by first | omega | (simp; done) | (simp [-List.getD_eq_getElem?_getD]; omega) | (simp at *; omega) | rfl)) (R_pre 1 rfl) rfl rfl) (Wt.plain rfl) rfl rfl ?_
  refine T.eff (e_storeA (wide_ints wd29 (by first | omega | (simp; done) | (simp [-List.getD_eq_getElem?_getD]; omega) | (simp at *; omega) | rfl)) 0 rfl rfl rfl rfl (by first | omega | (simp; done) | (simp [-List.getD_eq_getElem?_getD]; omega) | (simp at *; omega) | rfl) ints_one rfl) (Wt.plain rfl) ?_
  rintro _ _ ⟨rfl, rfl⟩
  change (_ : List Blk → Prop) [_, _]
  refine T.nil ?_
  refine Ex.next ?_
  refine W.less (L' := [(4, _)]) [true, false] ⟨rfl, trivial⟩ ?_
  change (_ : List Blk → Prop) [_]
  refine W.ret ?_
  refine Ex.outC [false] 0 rfl (by exact (wide_ints wd29 (by first | omega | (simp; done) | (simp [-List.getD_eq_getElem?_getD]; omega) | (simp at *; omega) | rfl))) rfl rfl ?_
  exact ⟨rfl, rfl⟩
set_option maxRecDepth 100000 in
theorem refnamed_spec (key nm : List Int) (s : ByteArray) (hk : key.length = 32) (hs : s.data.toList.map (fun q => (q.toNat : Int)) = nm) (hsz : s.size = nm.length) (hnl : nm.length ≤ 1000) (w0 : World) : Does Tryd.prog 55 #[.agg (ints .u8 key).toArray, .string s] w0 [] (fun v G => v = .agg (ints .u8 (expS key nm 32)).toArray ∧ G = []) := by
  refine spec_of 28 Tryd.func55 rfl rfl rfl ?_
  refine W.seq ?_
  refine W.region ?_
  refine T.eff (e_box rfl rfl rfl rfl) (Wt.plain rfl) ?_
  rintro _ _ ⟨k1, rfl, rfl⟩
  change (_ : List Blk → Prop) [_]
  refine T.eff (e_alloc ze29 rfl rfl rfl) (Wt.plain rfl) ?_
  rintro _ _ ⟨k2, rfl, rfl⟩
  change (_ : List Blk → Prop) [_, _]
  refine T.nil ?_
  refine Ex.next ?_
  refine W.slots (L' := [(1, _), (2, _), (4, _)]) ⟨rfl, rfl, rfl, trivial⟩ ?_
  refine W.seq ?_
  refine W.region ?_
  refine T.q (q_loadW (wide_ints wd29 (by first | omega | (simp; done) | (simp [-List.getD_eq_getElem?_getD]; omega) | (simp at *; omega) | rfl)) (R_blk 0 rfl) rfl rfl) (Wt.plain rfl) rfl rfl ?_
  refine T.q (q_move rfl rfl) (Wt.plain rfl) rfl rfl ?_
  refine T.eff (e_bytes un9 un22 un5 rfl rfl rfl rfl) (Wt.plain rfl) ?_
  rintro _ _ ⟨k3, cap4, junk5, hc6, hc7, hc8, rfl, rfl⟩
  change (_ : List Blk → Prop) [_, _, _]
  conv => rhs; rw [hs]
  refine T.eff (e_call enters27 rfl rfl (fun w hm => refexpand_at key nm _ _ (by first | omega | (simp; done) | (simp; omega) | (simp at *; omega)) (by first | omega | (simp; done) | (simp; omega) | (simp at *; omega)) (by first | omega | (simp; done) | (simp; omega) | (simp at *; omega)) 32 (by first | omega | (simp; done) | (simp; omega) | (simp at *; omega)) w ((R_pre 2 rfl) w hm) (by first | omega | (simp; done) | (simp [-List.getD_eq_getElem?_getD]; omega) | (simp at *; omega) | rfl)) rfl rfl) (Wt.plain rfl) ?_
  rintro _ _ ⟨_, _, ⟨k9, cap10, junk11, rfl, hc12, rfl⟩, rfl, rfl⟩
  change (_ : List Blk → Prop) [_, _, _, _]
  refine T.q (q_move rfl rfl) (Wt.plain rfl) rfl rfl ?_
  refine T.q (q_extract rfl rfl rfl) (Wt.plain rfl) rfl rfl ?_
  refine T.q (q_extract rfl rfl rfl) (Wt.plain rfl) rfl rfl ?_
  refine T.q (q_assign rfl rfl) (Wt.plain rfl) rfl rfl ?_
  refine T.q (q_assign rfl rfl) (Wt.plain rfl) rfl rfl ?_
  refine T.nil ?_
  refine Ex.next ?_
  refine W.less (L' := [(4, _), (5, _)]) [false, true, false, true] ⟨rfl, rfl, trivial⟩ ?_
  change (_ : List Blk → Prop) [_, _]
  refine W.seq ?_
  refine W.region ?_
  refine T.q (q_build (v := .agg (ints .u8 (List.replicate 32 0)).toArray) rfl rfl (fun _ => by kernel_rfl)) (Wt.plain rfl) rfl rfl ?_
  refine T.eff (e_alloc ze29 rfl rfl rfl) (Wt.plain rfl) ?_
  rintro _ _ ⟨k13, rfl, rfl⟩
  change (_ : List Blk → Prop) [_, _, _]
  refine T.eff (e_storeA (wide_ints wd29 (by first | omega | (simp; done) | (simp [-List.getD_eq_getElem?_getD]; omega) | (simp at *; omega) | rfl)) 2 rfl rfl rfl rfl (by first | omega | (simp; done) | (simp [-List.getD_eq_getElem?_getD]; omega) | (simp at *; omega) | rfl) ints_one rfl) (Wt.plain rfl) ?_
  rintro _ _ ⟨rfl, rfl⟩
  change (_ : List Blk → Prop) [_, _, _]
  refine T.nil ?_
  refine Ex.next ?_
  refine W.slots (L' := [(4, _), (5, _), (7, _)]) ⟨rfl, rfl, rfl, trivial⟩ ?_
  refine W.seq ?_
  refine W.seq ?_
  refine W.region ?_
  refine T.q (q_assign rfl rfl) (Wt.plain rfl) rfl rfl ?_
  refine T.nil ?_
  refine Ex.next ?_
  refine W.slots (L' := [(4, _), (5, _), (7, _), (8, _)]) ⟨rfl, rfl, rfl, rfl, trivial⟩ ?_
  refine W.block ?_
  refine W.loop (α := Nat) (fun i => [(4, .pointer (some ⟨k2, 0, none⟩)), (5, .slice (some ⟨k9, 0, none⟩) 32 cap10), (7, .pointer (some ⟨k13, 0, none⟩)), (8, .int .i64 ((i : Nat) : Int))]) (fun i => [⟨some k2, ints .u8 (List.replicate 32 0), 29, (0, 0)⟩, ⟨some k9, ints .u8 (expS key nm 32) ++ junk11, 5, (0, 0)⟩, ⟨some k13, ints .u8 (fillAt (fun q => q) (fun q => (expS key nm 32).getD q 0) i (List.replicate 32 0)), 29, (0, 0)⟩]) (fun i => i ≤ 32) (fun i => 32 - i) [true, true, true] 0 (by omega) ⟨rfl, rfl, rfl, rfl, trivial⟩ rfl ?_
  rintro i hi
  refine W.seq ?_
  refine W.seq ?_
  refine W.region ?_
  refine T.q (q_move rfl rfl) (Wt.plain rfl) rfl rfl ?_
  refine T.q (q_lss rfl rfl rfl) (Wt.plain rfl) rfl rfl ?_
  refine T.nil ?_
  refine Ex.next ?_
  refine W.slots (L' := [(4, _), (5, _), (7, _), (8, _), (18, _)]) ⟨rfl, rfl, rfl, rfl, rfl, trivial⟩ ?_
  refine W.cond _ rfl (fun hb14 => ?_) (fun hb14 => ?_)
  · replace hb14 := of_decide_eq_true hb14
    refine W.skip ?_
    refine Ex.next ?_
    refine W.slots (L' := [(4, _), (5, _), (7, _), (8, _)]) ⟨rfl, rfl, rfl, rfl, trivial⟩ ?_
    refine W.seq ?_
    refine W.block ?_
    refine W.region ?_
    refine T.q (q_move rfl rfl) (Wt.plain rfl) rfl rfl ?_
    refine T.q (q_move rfl rfl) (Wt.plain rfl) rfl rfl ?_
    refine T.q (q_move rfl rfl) (Wt.plain rfl) rfl rfl ?_
    refine T.q (q_ixS0 sc22 i rfl rfl rfl (by omega) (by omega)) (Wt.plain rfl) rfl rfl ?_
    refine T.q (q_loadIJ ss5 1 rfl rfl rfl (by first | omega | (simp; done) | (simp [-List.getD_eq_getElem?_getD]; omega))) (Wt.plain rfl) rfl rfl ?_
    refine T.q (q_ixA0 ar29 i rfl rfl rfl (by omega) (by omega)) (Wt.plain rfl) rfl rfl ?_
    refine T.eff (e_storeI ss5 2 rfl rfl rfl rfl (by first | omega | (simp; done) | (simp [-List.getD_eq_getElem?_getD]; omega)) rfl) (Wt.plain rfl) ?_
    rintro _ _ ⟨rfl, rfl⟩
    change (_ : List Blk → Prop) [_, _, _]
    refine T.nil ?_
    refine Ex.in_normal ?_
    refine Ex.next ?_
    refine W.slots (L' := [(4, _), (5, _), (7, _), (8, _)]) ⟨rfl, rfl, rfl, rfl, trivial⟩ ?_
    refine W.region ?_
    refine T.q (q_move rfl rfl) (Wt.plain rfl) rfl rfl ?_
    refine T.q (q_addi rfl rfl rfl (by omega) (by omega)) (Wt.plain rfl) rfl rfl ?_
    refine T.q (q_assign rfl rfl) (Wt.plain rfl) rfl rfl ?_
    refine T.nil ?_
    exact Ex.again [true, true, true] (i + 1) (by omega) (by omega) ⟨rfl, rfl, rfl, rfl, trivial⟩ rfl
  · replace hb14 := of_decide_eq_false hb14
    obtain rfl : i = 32 := by omega
    conv => rhs; rw [fill_self (expS key nm 32) 32 (expS_length _ _ _)]
    refine W.exit ?_
    refine Ex.then_exit ?_
    refine Ex.then_exit ?_
    refine Ex.in_here ?_
    refine Ex.next ?_
    refine W.less (L' := [(4, _), (7, _)]) [true, false, true] ⟨rfl, rfl, trivial⟩ ?_
    change (_ : List Blk → Prop) [_, _]
    refine W.seq ?_
    refine W.region ?_
    refine T.q (q_loadW (wide_ints wd29 (by first | omega | (simp; done) | (simp [-List.getD_eq_getElem?_getD]; omega) | (simp at *; omega) | rfl)) (R_blk 1 rfl) rfl rfl) (Wt.plain rfl) rfl rfl ?_
    refine T.eff (e_storeA (wide_ints wd29 (by first | omega | (simp; done) | (simp [-List.getD_eq_getElem?_getD]; omega) | (simp at *; omega) | rfl)) 0 rfl rfl rfl rfl (by first | omega | (simp; done) | (simp [-List.getD_eq_getElem?_getD]; omega) | (simp at *; omega) | rfl) ints_one rfl) (Wt.plain rfl) ?_
    rintro _ _ ⟨rfl, rfl⟩
    change (_ : List Blk → Prop) [_, _]
    refine T.nil ?_
    refine Ex.next ?_
    refine W.less (L' := [(4, _)]) [true, false] ⟨rfl, trivial⟩ ?_
    change (_ : List Blk → Prop) [_]
    refine W.ret ?_
    refine Ex.outC [false] 0 rfl (by exact (wide_ints wd29 (by first | omega | (simp; done) | (simp [-List.getD_eq_getElem?_getD]; omega) | (simp at *; omega) | rfl))) rfl rfl ?_
    exact ⟨rfl, rfl⟩
set_option maxRecDepth 100000 in
theorem of_spec (key : List Int) (hk : key.length = 32) (w0 : World) (hg0 : Reads w0 (some ⟨0, 0, none⟩) (ints .u32 startW)) (hg1 : Reads w0 (some ⟨1, 0, none⟩) (ints .u8 sgm)) (hg2 : Reads w0 (some ⟨2, 0, none⟩) (ints .u8 tbl)) : Does Tryd.prog 28 #[.agg (ints .u8 key).toArray] w0 [] (fun v G => v = .agg (ints .u8 (ofS key)).toArray ∧ G = []) := by
  refine spec_of 5 Tryd.func28 rfl rfl rfl ?_
  refine W.seq ?_
  refine W.region ?_
  refine T.eff (e_box rfl rfl rfl rfl) (Wt.plain rfl) ?_
  rintro _ _ ⟨k1, rfl, rfl⟩
  change (_ : List Blk → Prop) [_]
  refine T.eff (e_alloc ze29 rfl rfl rfl) (Wt.plain rfl) ?_
  rintro _ _ ⟨k2, rfl, rfl⟩
  change (_ : List Blk → Prop) [_, _]
  refine T.nil ?_
  refine Ex.next ?_
  refine W.slots (L' := [(1, _), (2, _)]) ⟨rfl, rfl, trivial⟩ ?_
  refine W.seq ?_
  refine W.region ?_
  refine T.q (q_loadW (wide_ints wd29 (by first | omega | (simp; done) | (simp [-List.getD_eq_getElem?_getD]; omega) | (simp at *; omega) | rfl)) (R_blk 0 rfl) rfl rfl) (Wt.plain rfl) rfl rfl ?_
  refine T.eff (e_call enters54 rfl rfl (fun w hm => named_spec key keyN _ (by first | omega | (simp; done) | (simp; omega) | (simp at *; omega)) (by decide) (by decide) (by decide) w (R_ext hg0.ext w hm) (R_ext hg1.ext w hm) (R_ext hg2.ext w hm)) rfl rfl) (Wt.plain rfl) ?_
  rintro _ _ ⟨_, _, ⟨rfl, rfl⟩, rfl, rfl⟩
  change (_ : List Blk → Prop) [_, _]
  refine T.eff (e_storeA (wide_ints wd29 (by first | omega | (simp; done) | (simp [-List.getD_eq_getElem?_getD]; omega) | (simp at *; omega) | rfl)) 1 rfl rfl rfl rfl (by first | omega | (simp; done) | (simp [-List.getD_eq_getElem?_getD]; omega) | (simp at *; omega) | rfl) ints_one rfl) (Wt.plain rfl) ?_
  rintro _ _ ⟨rfl, rfl⟩
  change (_ : List Blk → Prop) [_, _]
  refine T.nil ?_
  refine Ex.next ?_
  refine W.less (L' := [(2, _)]) [false, true] ⟨rfl, trivial⟩ ?_
  change (_ : List Blk → Prop) [_]
  refine W.ret ?_
  refine Ex.outC [false] 0 rfl (by exact (wide_ints wd29 (by first | omega | (simp; done) | (simp [-List.getD_eq_getElem?_getD]; omega) | (simp at *; omega) | rfl))) rfl rfl ?_
  exact ⟨rfl, rfl⟩
set_option maxRecDepth 100000 in
theorem refof_spec (key : List Int) (hk : key.length = 32) (w0 : World) : Does Tryd.prog 29 #[.agg (ints .u8 key).toArray] w0 [] (fun v G => v = .agg (ints .u8 (ofS key)).toArray ∧ G = []) := by
  refine spec_of 5 Tryd.func29 rfl rfl rfl ?_
  refine W.seq ?_
  refine W.region ?_
  refine T.eff (e_box rfl rfl rfl rfl) (Wt.plain rfl) ?_
  rintro _ _ ⟨k1, rfl, rfl⟩
  change (_ : List Blk → Prop) [_]
  refine T.eff (e_alloc ze29 rfl rfl rfl) (Wt.plain rfl) ?_
  rintro _ _ ⟨k2, rfl, rfl⟩
  change (_ : List Blk → Prop) [_, _]
  refine T.nil ?_
  refine Ex.next ?_
  refine W.slots (L' := [(1, _), (2, _)]) ⟨rfl, rfl, trivial⟩ ?_
  refine W.seq ?_
  refine W.region ?_
  refine T.q (q_loadW (wide_ints wd29 (by first | omega | (simp; done) | (simp [-List.getD_eq_getElem?_getD]; omega) | (simp at *; omega) | rfl)) (R_blk 0 rfl) rfl rfl) (Wt.plain rfl) rfl rfl ?_
  refine T.eff (e_call enters55 rfl rfl (fun w hm => refnamed_spec key keyN _ (by first | omega | (simp; done) | (simp; omega) | (simp at *; omega)) (by decide) (by decide) (by decide) w) rfl rfl) (Wt.plain rfl) ?_
  rintro _ _ ⟨_, _, ⟨rfl, rfl⟩, rfl, rfl⟩
  change (_ : List Blk → Prop) [_, _]
  refine T.eff (e_storeA (wide_ints wd29 (by first | omega | (simp; done) | (simp [-List.getD_eq_getElem?_getD]; omega) | (simp at *; omega) | rfl)) 1 rfl rfl rfl rfl (by first | omega | (simp; done) | (simp [-List.getD_eq_getElem?_getD]; omega) | (simp at *; omega) | rfl) ints_one rfl) (Wt.plain rfl) ?_
  rintro _ _ ⟨rfl, rfl⟩
  change (_ : List Blk → Prop) [_, _]
  refine T.nil ?_
  refine Ex.next ?_
  refine W.less (L' := [(2, _)]) [false, true] ⟨rfl, trivial⟩ ?_
  change (_ : List Blk → Prop) [_]
  refine W.ret ?_
  refine Ex.outC [false] 0 rfl (by exact (wide_ints wd29 (by first | omega | (simp; done) | (simp [-List.getD_eq_getElem?_getD]; omega) | (simp at *; omega) | rfl))) rfl rfl ?_
  exact ⟨rfl, rfl⟩
set_option maxRecDepth 100000 in
theorem later_spec (key : List Int) (hk : key.length = 32) (w0 : World) (hg0 : Reads w0 (some ⟨0, 0, none⟩) (ints .u32 startW)) (hg1 : Reads w0 (some ⟨1, 0, none⟩) (ints .u8 sgm)) (hg2 : Reads w0 (some ⟨2, 0, none⟩) (ints .u8 tbl)) : Does Tryd.prog 30 #[.agg (ints .u8 key).toArray] w0 [] (fun v G => v = .agg (ints .u8 (laterS key)).toArray ∧ G = []) := by
  refine spec_of 5 Tryd.func30 rfl rfl rfl ?_
  refine W.seq ?_
  refine W.region ?_
  refine T.eff (e_box rfl rfl rfl rfl) (Wt.plain rfl) ?_
  rintro _ _ ⟨k1, rfl, rfl⟩
  change (_ : List Blk → Prop) [_]
  refine T.eff (e_alloc ze29 rfl rfl rfl) (Wt.plain rfl) ?_
  rintro _ _ ⟨k2, rfl, rfl⟩
  change (_ : List Blk → Prop) [_, _]
  refine T.nil ?_
  refine Ex.next ?_
  refine W.slots (L' := [(1, _), (2, _)]) ⟨rfl, rfl, trivial⟩ ?_
  refine W.seq ?_
  refine W.region ?_
  refine T.q (q_loadW (wide_ints wd29 (by first | omega | (simp; done) | (simp [-List.getD_eq_getElem?_getD]; omega) | (simp at *; omega) | rfl)) (R_blk 0 rfl) rfl rfl) (Wt.plain rfl) rfl rfl ?_
  refine T.eff (e_call enters54 rfl rfl (fun w hm => named_spec key laterN _ (by first | omega | (simp; done) | (simp; omega) | (simp at *; omega)) (by decide) (by decide) (by decide) w (R_ext hg0.ext w hm) (R_ext hg1.ext w hm) (R_ext hg2.ext w hm)) rfl rfl) (Wt.plain rfl) ?_
  rintro _ _ ⟨_, _, ⟨rfl, rfl⟩, rfl, rfl⟩
  change (_ : List Blk → Prop) [_, _]
  refine T.eff (e_storeA (wide_ints wd29 (by first | omega | (simp; done) | (simp [-List.getD_eq_getElem?_getD]; omega) | (simp at *; omega) | rfl)) 1 rfl rfl rfl rfl (by first | omega | (simp; done) | (simp [-List.getD_eq_getElem?_getD]; omega) | (simp at *; omega) | rfl) ints_one rfl) (Wt.plain rfl) ?_
  rintro _ _ ⟨rfl, rfl⟩
  change (_ : List Blk → Prop) [_, _]
  refine T.nil ?_
  refine Ex.next ?_
  refine W.less (L' := [(2, _)]) [false, true] ⟨rfl, trivial⟩ ?_
  change (_ : List Blk → Prop) [_]
  refine W.ret ?_
  refine Ex.outC [false] 0 rfl (by exact (wide_ints wd29 (by first | omega | (simp; done) | (simp [-List.getD_eq_getElem?_getD]; omega) | (simp at *; omega) | rfl))) rfl rfl ?_
  exact ⟨rfl, rfl⟩
set_option maxRecDepth 100000 in
theorem reflater_spec (key : List Int) (hk : key.length = 32) (w0 : World) : Does Tryd.prog 31 #[.agg (ints .u8 key).toArray] w0 [] (fun v G => v = .agg (ints .u8 (laterS key)).toArray ∧ G = []) := by
  refine spec_of 5 Tryd.func31 rfl rfl rfl ?_
  refine W.seq ?_
  refine W.region ?_
  refine T.eff (e_box rfl rfl rfl rfl) (Wt.plain rfl) ?_
  rintro _ _ ⟨k1, rfl, rfl⟩
  change (_ : List Blk → Prop) [_]
  refine T.eff (e_alloc ze29 rfl rfl rfl) (Wt.plain rfl) ?_
  rintro _ _ ⟨k2, rfl, rfl⟩
  change (_ : List Blk → Prop) [_, _]
  refine T.nil ?_
  refine Ex.next ?_
  refine W.slots (L' := [(1, _), (2, _)]) ⟨rfl, rfl, trivial⟩ ?_
  refine W.seq ?_
  refine W.region ?_
  refine T.q (q_loadW (wide_ints wd29 (by first | omega | (simp; done) | (simp [-List.getD_eq_getElem?_getD]; omega) | (simp at *; omega) | rfl)) (R_blk 0 rfl) rfl rfl) (Wt.plain rfl) rfl rfl ?_
  refine T.eff (e_call enters55 rfl rfl (fun w hm => refnamed_spec key laterN _ (by first | omega | (simp; done) | (simp; omega) | (simp at *; omega)) (by decide) (by decide) (by decide) w) rfl rfl) (Wt.plain rfl) ?_
  rintro _ _ ⟨_, _, ⟨rfl, rfl⟩, rfl, rfl⟩
  change (_ : List Blk → Prop) [_, _]
  refine T.eff (e_storeA (wide_ints wd29 (by first | omega | (simp; done) | (simp [-List.getD_eq_getElem?_getD]; omega) | (simp at *; omega) | rfl)) 1 rfl rfl rfl rfl (by first | omega | (simp; done) | (simp [-List.getD_eq_getElem?_getD]; omega) | (simp at *; omega) | rfl) ints_one rfl) (Wt.plain rfl) ?_
  rintro _ _ ⟨rfl, rfl⟩
  change (_ : List Blk → Prop) [_, _]
  refine T.nil ?_
  refine Ex.next ?_
  refine W.less (L' := [(2, _)]) [false, true] ⟨rfl, trivial⟩ ?_
  change (_ : List Blk → Prop) [_]
  refine W.ret ?_
  refine Ex.outC [false] 0 rfl (by exact (wide_ints wd29 (by first | omega | (simp; done) | (simp [-List.getD_eq_getElem?_getD]; omega) | (simp at *; omega) | rfl))) rfl rfl ?_
  exact ⟨rfl, rfl⟩

end Go.Proofs.YtkoomaoelekpaaaDoor
