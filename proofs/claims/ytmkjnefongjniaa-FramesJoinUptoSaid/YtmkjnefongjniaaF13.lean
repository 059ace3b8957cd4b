/-
  The walks of layer 10: a frame is taken.
-/
import Derived.Test.YtmkjnefongjniaaF9
import Derived.Test.YtmkjnefongjniaaF1
namespace Go.Proofs.Ytmkjnefongjniaa
open Go Go.X
set_option maxRecDepth 100000 in
theorem frame_1 (b : List Int) {m : Nat} (hbm : b.length = m) (A : Option Addr) (cap rk : Nat) (cb : Blk) (hbb : Bytes b) (hle : m ≤ cap) (hbl : m ≤ 140737488351232) (hpos : 0 < m) (hrd : RdB cb A b) (hk0 : b.getD 0 0 = 1) (w0 : World) (hk : (⟨some rk, [.slice A m cap], 81, (0, 0)⟩ : Blk).here w0) (hcb : cb.here w0) (hne : cb.no ≠ some rk) : EndsX Try.prog 63 #[.pointer (some ⟨rk, 0, none⟩)] w0 (rk :: cb.no.toList) (fun v G => ∃ (q : Fm) (b' : List Int) (A' : Option Addr) (cap' : Nat) (cb' : Blk) (Gs : List Blk), pFrame b = .ok (q.f, b') ∧ q.OK ∧ frOK q.f ∧ Bytes b' ∧ b'.length < m ∧ v = .agg q.cells.toArray ∧ RdB cb' A' b' ∧ b'.length ≤ cap' ∧ FrsIn (cb' :: Gs) [q] ∧ cb ∈ cb' :: Gs ∧ G = ⟨some rk, [.slice A' b'.length cap'], 81, (0, 0)⟩ :: cb' :: Gs) (fun x G => ∃ e : Int, pFrame b = .error e ∧ x = dieV e ∧ G = []) := by
  have hb0 := hbb.getD 0
  refine spec_ofE 98 [⟨some rk, [.slice A m cap], 81, (0, 0)⟩, cb] (Mem.own2 rfl rfl hk hcb hne) Try.func63 rfl rfl rfl ?_
  refine W.seq ?_
  refine W.region ?_
  refine T.eff (e_alloc ze59 rfl rfl rfl) (Wt.plain rfl) ?_
  rintro _ _ ⟨k1, rfl, rfl⟩
  change (_ : List Blk → Prop) [_, _, _]
  refine T.nil ?_
  refine Ex.next ?_
  refine W.slots (L' := [(0, _), (2, _)]) ⟨rfl, rfl, trivial⟩ ?_
  refine W.seq ?_
  refine W.region ?_
  refine T.q (q_move rfl rfl) (Wt.plain rfl) rfl rfl ?_
  refine T.q (q_nil rfl rfl) (Wt.plain rfl) rfl rfl ?_
  refine T.q (q_fld fl81_0 rfl rfl) (Wt.plain rfl) rfl rfl ?_
  refine T.q (q_load1 ss22 0 rfl rfl rfl rfl) (Wt.plain rfl) rfl rfl ?_
  refine T.q (q_ixE1 sc22 0 (R_rd 1 rfl hrd) rfl rfl rfl (rfl) (by omega) (by first | omega | (simp; done) | (simp [-List.getD_eq_getElem?_getD]; omega))) (Wt.plain rfl) rfl rfl ?_
  refine T.q (q_loadE ss5 (R_rd 1 rfl hrd) rfl rfl (ints_get (by first | omega | (simp; done) | (simp [-List.getD_eq_getElem?_getD]; omega)))) (Wt.plain rfl) rfl rfl ?_
  refine T.q (q_int (b := 1) (q_conv un5 un3 rfl rfl) ?hE) (Wt.plain rfl) rfl rfl ?_
  case hE => rw [hk0]; rfl
  refine T.q (q_buildP (cells := .int .i64 1 :: (.int .i64 0 :: (.int .i64 0 :: (.slice none 0 0 :: (.slice none 0 0 :: (ints .u8 (List.replicate 8 0))))))) bp59 ze59 rfl rfl ⟨_, _, [.int .i64 1], _, rfl, rfl, rfl, (Nat.le_of_ble_eq_true rfl), rfl, rfl⟩) (Wt.plain rfl) rfl rfl ?_
  refine T.eff (e_alloc ze59 rfl rfl rfl) (Wt.plain rfl) ?_
  rintro _ _ ⟨k2, rfl, rfl⟩
  change (_ : List Blk → Prop) [_, _, _, _]
  refine T.eff (e_storeA (wd59.trans (congrArg some (by first | (simp; done) | (simp; omega)))) 3 rfl rfl rfl rfl (by first | (simp; done) | (simp; omega)) (one_cons rfl (one_cons rfl (one_cons rfl (one_cons rfl (one_cons rfl (ints_one)))))) rfl) (Wt.plain rfl) ?_
  rintro _ _ ⟨rfl, rfl⟩
  change (_ : List Blk → Prop) [_, _, _, _]
  refine T.nil ?_
  refine Ex.next ?_
  refine W.slots (L' := [(0, _), (2, _), (3, _)]) ⟨rfl, rfl, rfl, trivial⟩ ?_
  refine W.seq ?_
  refine W.region ?_
  refine T.q (q_move rfl rfl) (Wt.plain rfl) rfl rfl ?_
  refine T.q (q_move rfl rfl) (Wt.plain rfl) rfl rfl ?_
  refine T.q (q_nil rfl rfl) (Wt.plain rfl) rfl rfl ?_
  refine T.q (q_fld fl81_0 rfl rfl) (Wt.plain rfl) rfl rfl ?_
  refine T.q (q_load1 ss22 0 rfl rfl rfl rfl) (Wt.plain rfl) rfl rfl ?_
  refine T.q (q_sl sc22 1 m cap rfl rfl ⟨_, _, rfl, rfl⟩ rfl rfl (by first | omega | (simp; done) | (simp [-List.getD_eq_getElem?_getD]; omega)) (by first | omega | (simp; done) | (simp [-List.getD_eq_getElem?_getD]; omega)) (by first | omega | (simp; done) | (simp [-List.getD_eq_getElem?_getD]; omega)) (by simp)) (Wt.plain rfl) rfl rfl ?_
  have hrd1 := RdB.cut (l := 1) (cap := cap) hrd (by omega)
  have hbb1 := hbb.drop' 1
  refine T.q (q_nil rfl rfl) (Wt.plain rfl) rfl rfl ?_
  refine T.q (q_fld fl81_0 rfl rfl) (Wt.plain rfl) rfl rfl ?_
  refine T.eff (e_store1 ss22 0 rfl rfl rfl rfl (by simp) rfl rfl) (Wt.plain rfl) ?_
  rintro _ _ ⟨rfl, rfl⟩
  change (_ : List Blk → Prop) [_, _, _, _]
  refine T.nil ?_
  refine Ex.next ?_
  refine W.slots (L' := [(0, _), (2, _), (3, _)]) ⟨rfl, rfl, rfl, trivial⟩ ?_
  refine W.seq ?_
  refine W.seq ?_
  refine W.region ?_
  refine T.q (q_fld fl59_0 rfl rfl) (Wt.plain rfl) rfl rfl ?_
  refine T.q (q_load1 ss3 3 rfl rfl rfl (rfl)) (Wt.plain rfl) rfl rfl ?_
  refine T.nil ?_
  refine Ex.next ?_
  refine W.slots (L' := [(0, _), (2, _), (3, _), (24, _)]) ⟨rfl, rfl, rfl, rfl, trivial⟩ ?_
  refine W.block ?_
  refine W.seq ?_
  refine W.seq ?_
  refine W.region ?_
  refine T.q (q_bool (b := false) (q_eql rfl rfl rfl) (decide_eq_false (by decide))) (Wt.plain rfl) rfl rfl ?_
  refine T.q (q_assign rfl rfl) (Wt.plain rfl) rfl rfl ?_
  refine T.nil ?_
  refine Ex.next ?_
  refine W.slots (L' := [(0, _), (2, _), (3, _), (24, _), (25, _)]) ⟨rfl, rfl, rfl, rfl, rfl, trivial⟩ ?_
  refine W.condF rfl ?_
  refine W.region ?_
  refine T.q (q_bool (b := false) (q_eql rfl rfl rfl) (decide_eq_false (by decide))) (Wt.plain rfl) rfl rfl ?_
  refine T.q (q_assign rfl rfl) (Wt.plain rfl) rfl rfl ?_
  refine T.nil ?_
  refine Ex.next ?_
  refine W.slots (L' := [(0, _), (2, _), (3, _), (24, _), (25, _)]) ⟨rfl, rfl, rfl, rfl, rfl, trivial⟩ ?_
  refine W.condF rfl ?_
  refine W.seq ?_
  refine W.seq ?_
  refine W.region ?_
  refine T.q (q_bool (b := true) (q_eql rfl rfl rfl) (decide_eq_true (by decide))) (Wt.plain rfl) rfl rfl ?_
  refine T.q (q_assign rfl rfl) (Wt.plain rfl) rfl rfl ?_
  refine T.nil ?_
  refine Ex.next ?_
  refine W.slots (L' := [(0, _), (2, _), (3, _), (24, _), (46, _)]) ⟨rfl, rfl, rfl, rfl, rfl, trivial⟩ ?_
  refine W.condT rfl ?_
  refine W.skip ?_
  refine Ex.next ?_
  refine W.slots (L' := [(0, _), (2, _), (3, _), (46, _)]) ⟨rfl, rfl, rfl, rfl, trivial⟩ ?_
  refine W.condT rfl ?_
  refine W.region ?_
  refine T.q (q_move rfl rfl) (Wt.plain rfl) rfl rfl ?_
  refine T.effE (e_callE [false, true, true, true] enters77 rfl rfl (hx1 rfl rfl) (fun w hm => number_spec (b.drop 1) (by first | (simp; done) | (simp; omega)) (cut A cap 1) (cap - 1) rk hbb1 (by first | omega | (simp; done) | (simp; omega) | (simp at *; omega)) (by first | omega | (simp; done) | (simp; omega) | (simp at *; omega)) w (hm.at 0 rfl) (RdB.ext (i := 0) (j := 1) hrd1 hm rfl rfl (by decide))) rfl rfl) (Wt.plain rfl) ?_ ?_
  ·
    rintro _ _ ⟨_, _, ⟨n53, b53, A53, c53, cb53, hp53, hy53, hn53, hl53, hr53, hc53, rfl, rfl⟩, rfl, rfl⟩
    change (_ : List Blk → Prop) [_, _, _, _, _]
    refine T.q (q_fld fl59_1 rfl rfl) (Wt.plain rfl) rfl rfl ?_
    refine T.eff (e_storeP1 ss3 2 rfl rfl rfl rfl (by first | (simp; done) | (simp; omega)) rfl (set_skip1 (rfl)) rfl) (Wt.plain rfl) ?_
    rintro _ _ ⟨rfl, rfl⟩
    change (_ : List Blk → Prop) [_, _, _, _, _]
    refine T.nil ?_
    refine Ex.in_normal ?_
    refine Ex.next ?_
    refine W.slots (L' := [(0, _), (2, _), (3, _)]) ⟨rfl, rfl, rfl, trivial⟩ ?_
    refine W.seq ?_
    refine W.seq ?_
    refine W.region ?_
    refine T.q (q_fld fl59_0 rfl rfl) (Wt.plain rfl) rfl rfl ?_
    refine T.q (q_load1 ss3 2 rfl rfl rfl (rfl)) (Wt.plain rfl) rfl rfl ?_
    refine T.nil ?_
    refine Ex.next ?_
    refine W.slots (L' := [(0, _), (2, _), (3, _), (56, _)]) ⟨rfl, rfl, rfl, rfl, trivial⟩ ?_
    refine W.block ?_
    refine W.seq ?_
    refine W.region ?_
    refine T.q (q_bool (b := true) (q_eql rfl rfl rfl) (decide_eq_true (by decide))) (Wt.plain rfl) rfl rfl ?_
    refine T.q (q_assign rfl rfl) (Wt.plain rfl) rfl rfl ?_
    refine T.nil ?_
    refine Ex.next ?_
    refine W.slots (L' := [(0, _), (2, _), (3, _), (56, _), (57, _)]) ⟨rfl, rfl, rfl, rfl, rfl, trivial⟩ ?_
    refine W.condT rfl ?_
    refine W.seq ?_
    refine W.region ?_
    refine T.q (q_move rfl rfl) (Wt.plain rfl) rfl rfl ?_
    refine T.q (q_nil rfl rfl) (Wt.plain rfl) rfl rfl ?_
    refine T.q (q_fld fl81_0 rfl rfl) (Wt.plain rfl) rfl rfl ?_
    refine T.q (q_load1 ss22 3 rfl rfl rfl rfl) (Wt.plain rfl) rfl rfl ?_
    refine T.eff (e_call enters25 rfl rfl (fun w hm => text_spec b53 rfl _ _ hy53 hc53 (by first | omega | (simp; done) | (simp; omega) | (simp at *; omega)) w ((R_rd 4 rfl hr53) w hm)) rfl rfl) (Wt.plain rfl) ?_
    rintro _ _ ⟨_, _, hc_, rfl, rfl⟩
    rcases hc_ with ⟨tz, bz, nz, cz, jz, AZ, hpz, hyz, hbz, htz, hlz, hrz, hcz, rfl, rfl⟩ | ⟨ez, hpz, hez, rfl, rfl⟩
    ·
      change (_ : List Blk → Prop) [_, _, _, _, _, _]
      refine T.q (q_move rfl rfl) (Wt.plain rfl) rfl rfl ?_
      refine T.q (q_extract rfl rfl rfl) (Wt.plain rfl) rfl rfl ?_
      refine T.q (q_extract rfl rfl rfl) (Wt.plain rfl) rfl rfl ?_
      refine T.q (q_extract rfl rfl rfl) (Wt.plain rfl) rfl rfl ?_
      refine T.q (q_assign rfl rfl) (Wt.plain rfl) rfl rfl ?_
      refine T.q (q_assign rfl rfl) (Wt.plain rfl) rfl rfl ?_
      refine T.q (q_assign rfl rfl) (Wt.plain rfl) rfl rfl ?_
      refine T.nil ?_
      refine Ex.next ?_
      refine W.slots (L' := [(0, _), (2, _), (3, _), (4, _), (5, _), (6, _)]) ⟨rfl, rfl, rfl, rfl, rfl, rfl, trivial⟩ ?_
      refine W.seq ?_
      refine W.region ?_
      refine T.q (q_move rfl rfl) (Wt.plain rfl) rfl rfl ?_
      refine T.eff (e_call enters76 rfl rfl (fun w hm => sure_zero w) rfl rfl) (Wt.plain rfl) ?_
      rintro _ _ ⟨_, _, ⟨rfl, rfl⟩, rfl, rfl⟩
      change (_ : List Blk → Prop) [_, _, _, _, _, _]
      refine T.nil ?_
      refine Ex.next ?_
      refine W.slots (L' := [(0, _), (2, _), (3, _), (4, _), (5, _)]) ⟨rfl, rfl, rfl, rfl, rfl, trivial⟩ ?_
      refine W.region ?_
      refine T.q (q_move rfl rfl) (Wt.plain rfl) rfl rfl ?_
      refine T.q (q_move rfl rfl) (Wt.plain rfl) rfl rfl ?_
      refine T.q (q_move rfl rfl) (Wt.plain rfl) rfl rfl ?_
      refine T.q (q_fld fl59_4 rfl rfl) (Wt.plain rfl) rfl rfl ?_
      refine T.eff (e_storeP1 ss22 2 rfl rfl rfl rfl (by first | (simp; done) | (simp; omega)) rfl (set_skip1 (set_skip1 (set_skip1 (set_skip1 (rfl))))) rfl) (Wt.plain rfl) ?_
      rintro _ _ ⟨rfl, rfl⟩
      change (_ : List Blk → Prop) [_, _, _, _, _, _]
      refine T.q (q_nil rfl rfl) (Wt.plain rfl) rfl rfl ?_
      refine T.q (q_fld fl81_0 rfl rfl) (Wt.plain rfl) rfl rfl ?_
      refine T.eff (e_store1 ss22 3 rfl rfl rfl rfl (by simp) rfl rfl) (Wt.plain rfl) ?_
      rintro _ _ ⟨rfl, rfl⟩
      change (_ : List Blk → Prop) [_, _, _, _, _, _]
      refine T.nil ?_
      refine Ex.in_normal ?_
      refine Ex.next ?_
      refine W.less (L' := [(2, _), (3, _)]) [true, true, true, true, false, true] ⟨rfl, rfl, trivial⟩ ?_
      change (_ : List Blk → Prop) [_, _, _, _, _]
      refine W.seq ?_
      refine W.region ?_
      refine T.q (q_loadW (wd59.trans (congrArg some (by first | (simp; done) | (simp; omega)))) (R_blk 2 rfl) rfl rfl) (Wt.plain rfl) rfl rfl ?_
      refine T.eff (e_call enters47 rfl rfl (fun w hm => chk_spec 1 ((n53 : Nat) : Int) 0 [] tz (List.replicate 8 0) none (nz.map fun k => (⟨k, 0, none⟩ : Addr)) 0 tz.length (by simp) rfl w ((R_nilI .i64) w hm)) rfl rfl) (Wt.plain rfl) ?_
      rintro _ _ ⟨_, _, ⟨rfl, rfl⟩, rfl, rfl⟩
      change (_ : List Blk → Prop) [_, _, _, _, _]
      refine T.effE (e_callE [] enters76 rfl rfl hx0 (fun w hm => sure_spec (chkE (⟨1, ((n53 : Nat) : Int), 0, [], tz, List.replicate 8 0⟩ : Frm)) w) rfl rfl) (Wt.plain rfl) ?_ ?_
      ·
        rintro _ _ ⟨_, _, ⟨hs3, rfl, rfl⟩, rfl, rfl⟩
        change (_ : List Blk → Prop) [_, _, _, _, _]
        refine T.nil ?_
        refine Ex.next ?_
        refine W.slots (L' := [(2, _), (3, _)]) ⟨rfl, rfl, trivial⟩ ?_
        refine W.seq ?_
        refine W.region ?_
        refine T.q (q_loadW (wd59.trans (congrArg some (by first | (simp; done) | (simp; omega)))) (R_blk 2 rfl) rfl rfl) (Wt.plain rfl) rfl rfl ?_
        refine T.eff (e_storeA (wd59.trans (congrArg some (by first | (simp; done) | (simp; omega)))) 1 rfl rfl rfl rfl (by first | (simp; done) | (simp; omega)) (one_cons rfl (one_cons rfl (one_cons rfl (one_cons rfl (one_cons rfl (ints_one)))))) rfl) (Wt.plain rfl) ?_
        rintro _ _ ⟨rfl, rfl⟩
        change (_ : List Blk → Prop) [_, _, _, _, _]
        refine T.nil ?_
        refine Ex.next ?_
        refine W.less (L' := [(2, _)]) [true, true, false, true, true] ⟨rfl, trivial⟩ ?_
        change (_ : List Blk → Prop) [_, _, _, _]
        refine W.ret ?_
        refine Ex.last 2 rfl ?_
        change (_ : List Blk → Prop) [_, _, _, _]
        refine Ex.last 2 rfl ?_
        change (_ : List Blk → Prop) [_, _, _, _]
        refine Ex.last 0 rfl ?_
        change (_ : List Blk → Prop) [_, _, _, _]
        refine Ex.fine ?_
        refine Ex.outC [false, true, true, true] 0 rfl (by exact (wd59.trans (congrArg some (by first | (simp; done) | (simp; omega))))) rfl rfl ?_
        have hfo : frOK (⟨1, ((n53 : Nat) : Int), 0, [], tz, List.replicate 8 0⟩ : Frm) := chkE_zero.1 hs3
        have hqo : Fm.OK (⟨(⟨1, ((n53 : Nat) : Int), 0, [], tz, List.replicate 8 0⟩ : Frm), none, 0, (nz.map fun k => (⟨k, 0, none⟩ : Addr)), tz.length⟩ : Fm) := ⟨rfl, by simp, Nat.le_refl _, by dsimp only; omega, hyz, Bytes.replicate 8⟩
        have hin : FrsIn (⟨nz, ints .u8 (tz ++ bz) ++ jz, 5, (0, 0)⟩ :: [cb]) [(⟨(⟨1, ((n53 : Nat) : Int), 0, [], tz, List.replicate 8 0⟩ : Frm), none, 0, (nz.map fun k => (⟨k, 0, none⟩ : Addr)), tz.length⟩ : Fm)] := fun w hw q hq => by rw [List.mem_singleton] at hq; subst hq; exact ⟨Reads.nil w none, text_in (hw _ (.head _))⟩
        have hlen : (bz).length = bz.length := by first | rfl | (simp; done) | (simp; omega)
        refine ⟨(⟨(⟨1, ((n53 : Nat) : Int), 0, [], tz, List.replicate 8 0⟩ : Frm), none, 0, (nz.map fun k => (⟨k, 0, none⟩ : Addr)), tz.length⟩ : Fm), bz, AZ, cz, ⟨nz, ints .u8 (tz ++ bz) ++ jz, 5, (0, 0)⟩, [cb], by rw [pFrame, hk0, pBody, if_neg (by decide), if_pos rfl, hp53, andThen_ok, hpz, andThen_ok, chk, if_pos hfo], hqo, hfo, hbz, ?_, rfl, hrz, ?_, hin, .tail _ (.head _), ?_⟩
        · rw [hlen]; omega
        · rw [hlen]; omega
        · rw [hlen]; rfl
      ·
        rintro _ _ ⟨_, ⟨hs3, rfl, rfl⟩, rfl⟩
        change (_ : List Blk → Prop) [_, _, _, _, _]
        refine Ex.then_panic ?_
        refine Ex.outP [false, false, false, false, false] ?_
        have hnf : ¬ frOK (⟨1, ((n53 : Nat) : Int), 0, [], tz, List.replicate 8 0⟩ : Frm) := fun g => hs3 (chkE_yes g)
        exact ⟨_, by rw [pFrame, hk0, pBody, if_neg (by decide), if_pos rfl, hp53, andThen_ok, hpz, andThen_ok, chk, if_neg hnf, chkE_no hnf], rfl, rfl⟩
    ·
      change (_ : List Blk → Prop) [_, _, _, _, _]
      refine T.q (q_move rfl rfl) (Wt.plain rfl) rfl rfl ?_
      refine T.q (q_extract rfl rfl rfl) (Wt.plain rfl) rfl rfl ?_
      refine T.q (q_extract rfl rfl rfl) (Wt.plain rfl) rfl rfl ?_
      refine T.q (q_extract rfl rfl rfl) (Wt.plain rfl) rfl rfl ?_
      refine T.q (q_assign rfl rfl) (Wt.plain rfl) rfl rfl ?_
      refine T.q (q_assign rfl rfl) (Wt.plain rfl) rfl rfl ?_
      refine T.q (q_assign rfl rfl) (Wt.plain rfl) rfl rfl ?_
      refine T.nil ?_
      refine Ex.next ?_
      refine W.slots (L' := [(0, _), (2, _), (3, _), (4, _), (5, _), (6, _)]) ⟨rfl, rfl, rfl, rfl, rfl, rfl, trivial⟩ ?_
      refine W.seq ?_
      refine W.region ?_
      refine T.q (q_move rfl rfl) (Wt.plain rfl) rfl rfl ?_
      refine T.effE (e_callE [] enters76 rfl rfl hx0 (fun w hm => sure_dies ez (hez) w) rfl rfl) (Wt.plain rfl) ?_ ?_
      ·
        rintro _ _ ⟨_, _, h, _⟩
        exact h.elim
      ·
        rintro _ _ ⟨_, ⟨rfl, rfl⟩, rfl⟩
        change (_ : List Blk → Prop) [_, _, _, _, _]
        refine Ex.then_panic ?_
        refine Ex.in_panic ?_
        refine Ex.then_panic ?_
        refine Ex.outP [false, false, false, false, false] ?_
        exact ⟨_, by rw [pFrame, hk0, pBody, if_neg (by decide), if_pos rfl, hp53, andThen_ok, hpz, andThen_error], rfl, rfl⟩
  ·
    rintro _ _ ⟨_, ⟨e53, hp53, rfl, rfl⟩, rfl⟩
    change (_ : List Blk → Prop) [_, _, _]
    refine Ex.in_panic ?_
    refine Ex.then_panic ?_
    refine Ex.outP [false, false, false] ?_
    exact ⟨_, by rw [pFrame, hk0, pBody, if_neg (by decide), if_pos rfl, hp53, andThen_error], rfl, rfl⟩
set_option maxRecDepth 100000 in
theorem frame_2 (b : List Int) {m : Nat} (hbm : b.length = m) (A : Option Addr) (cap rk : Nat) (cb : Blk) (hbb : Bytes b) (hle : m ≤ cap) (hbl : m ≤ 140737488351232) (hpos : 0 < m) (hrd : RdB cb A b) (hk0 : b.getD 0 0 = 2) (w0 : World) (hk : (⟨some rk, [.slice A m cap], 81, (0, 0)⟩ : Blk).here w0) (hcb : cb.here w0) (hne : cb.no ≠ some rk) : EndsX Try.prog 63 #[.pointer (some ⟨rk, 0, none⟩)] w0 (rk :: cb.no.toList) (fun v G => ∃ (q : Fm) (b' : List Int) (A' : Option Addr) (cap' : Nat) (cb' : Blk) (Gs : List Blk), pFrame b = .ok (q.f, b') ∧ q.OK ∧ frOK q.f ∧ Bytes b' ∧ b'.length < m ∧ v = .agg q.cells.toArray ∧ RdB cb' A' b' ∧ b'.length ≤ cap' ∧ FrsIn (cb' :: Gs) [q] ∧ cb ∈ cb' :: Gs ∧ G = ⟨some rk, [.slice A' b'.length cap'], 81, (0, 0)⟩ :: cb' :: Gs) (fun x G => ∃ e : Int, pFrame b = .error e ∧ x = dieV e ∧ G = []) := by
  have hb0 := hbb.getD 0
  refine spec_ofE 98 [⟨some rk, [.slice A m cap], 81, (0, 0)⟩, cb] (Mem.own2 rfl rfl hk hcb hne) Try.func63 rfl rfl rfl ?_
  refine W.seq ?_
  refine W.region ?_
  refine T.eff (e_alloc ze59 rfl rfl rfl) (Wt.plain rfl) ?_
  rintro _ _ ⟨k1, rfl, rfl⟩
  change (_ : List Blk → Prop) [_, _, _]
  refine T.nil ?_
  refine Ex.next ?_
  refine W.slots (L' := [(0, _), (2, _)]) ⟨rfl, rfl, trivial⟩ ?_
  refine W.seq ?_
  refine W.region ?_
  refine T.q (q_move rfl rfl) (Wt.plain rfl) rfl rfl ?_
  refine T.q (q_nil rfl rfl) (Wt.plain rfl) rfl rfl ?_
  refine T.q (q_fld fl81_0 rfl rfl) (Wt.plain rfl) rfl rfl ?_
  refine T.q (q_load1 ss22 0 rfl rfl rfl rfl) (Wt.plain rfl) rfl rfl ?_
  refine T.q (q_ixE1 sc22 0 (R_rd 1 rfl hrd) rfl rfl rfl (rfl) (by omega) (by first | omega | (simp; done) | (simp [-List.getD_eq_getElem?_getD]; omega))) (Wt.plain rfl) rfl rfl ?_
  refine T.q (q_loadE ss5 (R_rd 1 rfl hrd) rfl rfl (ints_get (by first | omega | (simp; done) | (simp [-List.getD_eq_getElem?_getD]; omega)))) (Wt.plain rfl) rfl rfl ?_
  refine T.q (q_int (b := 2) (q_conv un5 un3 rfl rfl) ?hE) (Wt.plain rfl) rfl rfl ?_
  case hE => rw [hk0]; rfl
  refine T.q (q_buildP (cells := .int .i64 2 :: (.int .i64 0 :: (.int .i64 0 :: (.slice none 0 0 :: (.slice none 0 0 :: (ints .u8 (List.replicate 8 0))))))) bp59 ze59 rfl rfl ⟨_, _, [.int .i64 2], _, rfl, rfl, rfl, (Nat.le_of_ble_eq_true rfl), rfl, rfl⟩) (Wt.plain rfl) rfl rfl ?_
  refine T.eff (e_alloc ze59 rfl rfl rfl) (Wt.plain rfl) ?_
  rintro _ _ ⟨k2, rfl, rfl⟩
  change (_ : List Blk → Prop) [_, _, _, _]
  refine T.eff (e_storeA (wd59.trans (congrArg some (by first | (simp; done) | (simp; omega)))) 3 rfl rfl rfl rfl (by first | (simp; done) | (simp; omega)) (one_cons rfl (one_cons rfl (one_cons rfl (one_cons rfl (one_cons rfl (ints_one)))))) rfl) (Wt.plain rfl) ?_
  rintro _ _ ⟨rfl, rfl⟩
  change (_ : List Blk → Prop) [_, _, _, _]
  refine T.nil ?_
  refine Ex.next ?_
  refine W.slots (L' := [(0, _), (2, _), (3, _)]) ⟨rfl, rfl, rfl, trivial⟩ ?_
  refine W.seq ?_
  refine W.region ?_
  refine T.q (q_move rfl rfl) (Wt.plain rfl) rfl rfl ?_
  refine T.q (q_move rfl rfl) (Wt.plain rfl) rfl rfl ?_
  refine T.q (q_nil rfl rfl) (Wt.plain rfl) rfl rfl ?_
  refine T.q (q_fld fl81_0 rfl rfl) (Wt.plain rfl) rfl rfl ?_
  refine T.q (q_load1 ss22 0 rfl rfl rfl rfl) (Wt.plain rfl) rfl rfl ?_
  refine T.q (q_sl sc22 1 m cap rfl rfl ⟨_, _, rfl, rfl⟩ rfl rfl (by first | omega | (simp; done) | (simp [-List.getD_eq_getElem?_getD]; omega)) (by first | omega | (simp; done) | (simp [-List.getD_eq_getElem?_getD]; omega)) (by first | omega | (simp; done) | (simp [-List.getD_eq_getElem?_getD]; omega)) (by simp)) (Wt.plain rfl) rfl rfl ?_
  have hrd1 := RdB.cut (l := 1) (cap := cap) hrd (by omega)
  have hbb1 := hbb.drop' 1
  refine T.q (q_nil rfl rfl) (Wt.plain rfl) rfl rfl ?_
  refine T.q (q_fld fl81_0 rfl rfl) (Wt.plain rfl) rfl rfl ?_
  refine T.eff (e_store1 ss22 0 rfl rfl rfl rfl (by simp) rfl rfl) (Wt.plain rfl) ?_
  rintro _ _ ⟨rfl, rfl⟩
  change (_ : List Blk → Prop) [_, _, _, _]
  refine T.nil ?_
  refine Ex.next ?_
  refine W.slots (L' := [(0, _), (2, _), (3, _)]) ⟨rfl, rfl, rfl, trivial⟩ ?_
  refine W.seq ?_
  refine W.seq ?_
  refine W.region ?_
  refine T.q (q_fld fl59_0 rfl rfl) (Wt.plain rfl) rfl rfl ?_
  refine T.q (q_load1 ss3 3 rfl rfl rfl (rfl)) (Wt.plain rfl) rfl rfl ?_
  refine T.nil ?_
  refine Ex.next ?_
  refine W.slots (L' := [(0, _), (2, _), (3, _), (24, _)]) ⟨rfl, rfl, rfl, rfl, trivial⟩ ?_
  refine W.block ?_
  refine W.seq ?_
  refine W.seq ?_
  refine W.region ?_
  refine T.q (q_bool (b := false) (q_eql rfl rfl rfl) (decide_eq_false (by decide))) (Wt.plain rfl) rfl rfl ?_
  refine T.q (q_assign rfl rfl) (Wt.plain rfl) rfl rfl ?_
  refine T.nil ?_
  refine Ex.next ?_
  refine W.slots (L' := [(0, _), (2, _), (3, _), (24, _), (25, _)]) ⟨rfl, rfl, rfl, rfl, rfl, trivial⟩ ?_
  refine W.condF rfl ?_
  refine W.region ?_
  refine T.q (q_bool (b := false) (q_eql rfl rfl rfl) (decide_eq_false (by decide))) (Wt.plain rfl) rfl rfl ?_
  refine T.q (q_assign rfl rfl) (Wt.plain rfl) rfl rfl ?_
  refine T.nil ?_
  refine Ex.next ?_
  refine W.slots (L' := [(0, _), (2, _), (3, _), (24, _), (25, _)]) ⟨rfl, rfl, rfl, rfl, rfl, trivial⟩ ?_
  refine W.condF rfl ?_
  refine W.seq ?_
  refine W.seq ?_
  refine W.region ?_
  refine T.q (q_bool (b := false) (q_eql rfl rfl rfl) (decide_eq_false (by decide))) (Wt.plain rfl) rfl rfl ?_
  refine T.q (q_assign rfl rfl) (Wt.plain rfl) rfl rfl ?_
  refine T.nil ?_
  refine Ex.next ?_
  refine W.slots (L' := [(0, _), (2, _), (3, _), (24, _), (46, _)]) ⟨rfl, rfl, rfl, rfl, rfl, trivial⟩ ?_
  refine W.condF rfl ?_
  refine W.seq ?_
  refine W.region ?_
  refine T.q (q_bool (b := true) (q_eql rfl rfl rfl) (decide_eq_true (by decide))) (Wt.plain rfl) rfl rfl ?_
  refine T.q (q_assign rfl rfl) (Wt.plain rfl) rfl rfl ?_
  refine T.nil ?_
  refine Ex.next ?_
  refine W.slots (L' := [(0, _), (2, _), (3, _), (24, _), (46, _)]) ⟨rfl, rfl, rfl, rfl, rfl, trivial⟩ ?_
  refine W.condT rfl ?_
  refine W.skip ?_
  refine Ex.next ?_
  refine W.slots (L' := [(0, _), (2, _), (3, _), (46, _)]) ⟨rfl, rfl, rfl, rfl, trivial⟩ ?_
  refine W.condT rfl ?_
  refine W.region ?_
  refine T.q (q_move rfl rfl) (Wt.plain rfl) rfl rfl ?_
  refine T.effE (e_callE [false, true, true, true] enters77 rfl rfl (hx1 rfl rfl) (fun w hm => number_spec (b.drop 1) (by first | (simp; done) | (simp; omega)) (cut A cap 1) (cap - 1) rk hbb1 (by first | omega | (simp; done) | (simp; omega) | (simp at *; omega)) (by first | omega | (simp; done) | (simp; omega) | (simp at *; omega)) w (hm.at 0 rfl) (RdB.ext (i := 0) (j := 1) hrd1 hm rfl rfl (by decide))) rfl rfl) (Wt.plain rfl) ?_ ?_
  ·
    rintro _ _ ⟨_, _, ⟨n53, b53, A53, c53, cb53, hp53, hy53, hn53, hl53, hr53, hc53, rfl, rfl⟩, rfl, rfl⟩
    change (_ : List Blk → Prop) [_, _, _, _, _]
    refine T.q (q_fld fl59_1 rfl rfl) (Wt.plain rfl) rfl rfl ?_
    refine T.eff (e_storeP1 ss3 2 rfl rfl rfl rfl (by first | (simp; done) | (simp; omega)) rfl (set_skip1 (rfl)) rfl) (Wt.plain rfl) ?_
    rintro _ _ ⟨rfl, rfl⟩
    change (_ : List Blk → Prop) [_, _, _, _, _]
    refine T.nil ?_
    refine Ex.in_normal ?_
    refine Ex.next ?_
    refine W.slots (L' := [(0, _), (2, _), (3, _)]) ⟨rfl, rfl, rfl, trivial⟩ ?_
    refine W.seq ?_
    refine W.seq ?_
    refine W.region ?_
    refine T.q (q_fld fl59_0 rfl rfl) (Wt.plain rfl) rfl rfl ?_
    refine T.q (q_load1 ss3 2 rfl rfl rfl (rfl)) (Wt.plain rfl) rfl rfl ?_
    refine T.nil ?_
    refine Ex.next ?_
    refine W.slots (L' := [(0, _), (2, _), (3, _), (56, _)]) ⟨rfl, rfl, rfl, rfl, trivial⟩ ?_
    refine W.block ?_
    refine W.seq ?_
    refine W.region ?_
    refine T.q (q_bool (b := false) (q_eql rfl rfl rfl) (decide_eq_false (by decide))) (Wt.plain rfl) rfl rfl ?_
    refine T.q (q_assign rfl rfl) (Wt.plain rfl) rfl rfl ?_
    refine T.nil ?_
    refine Ex.next ?_
    refine W.slots (L' := [(0, _), (2, _), (3, _), (56, _), (57, _)]) ⟨rfl, rfl, rfl, rfl, rfl, trivial⟩ ?_
    refine W.condF rfl ?_
    refine W.seq ?_
    refine W.region ?_
    refine T.q (q_bool (b := true) (q_eql rfl rfl rfl) (decide_eq_true (by decide))) (Wt.plain rfl) rfl rfl ?_
    refine T.q (q_assign rfl rfl) (Wt.plain rfl) rfl rfl ?_
    refine T.nil ?_
    refine Ex.next ?_
    refine W.slots (L' := [(0, _), (2, _), (3, _), (56, _), (76, _)]) ⟨rfl, rfl, rfl, rfl, rfl, trivial⟩ ?_
    refine W.condT rfl ?_
    refine W.seq ?_
    refine W.region ?_
    refine T.q (q_move rfl rfl) (Wt.plain rfl) rfl rfl ?_
    refine T.effE (e_callE [true, true, true, false, true] enters77 rfl rfl (hx1 rfl rfl) (fun w hm => number_spec b53 rfl A53 c53 rk hy53 hc53 (by first | omega | (simp; done) | (simp; omega) | (simp at *; omega)) w (hm.at 3 rfl) (RdB.ext (i := 3) (j := 4) hr53 hm rfl rfl (by decide))) rfl rfl) (Wt.plain rfl) ?_ ?_
    ·
      rintro _ _ ⟨_, _, ⟨n79, b79, A79, c79, cb79, hp79, hy79, hn79, hl79, hr79, hc79, rfl, rfl⟩, rfl, rfl⟩
      change (_ : List Blk → Prop) [_, _, _, _, _, _]
      refine T.q (q_fld fl59_2 rfl rfl) (Wt.plain rfl) rfl rfl ?_
      refine T.eff (e_storeP1 ss3 2 rfl rfl rfl rfl (by first | (simp; done) | (simp; omega)) rfl (set_skip1 (set_skip1 (rfl))) rfl) (Wt.plain rfl) ?_
      rintro _ _ ⟨rfl, rfl⟩
      change (_ : List Blk → Prop) [_, _, _, _, _, _]
      refine T.nil ?_
      refine Ex.next ?_
      refine W.less (L' := [(0, _), (2, _), (3, _)]) [true, true, true, false, true, true] ⟨rfl, rfl, rfl, trivial⟩ ?_
      change (_ : List Blk → Prop) [_, _, _, _, _]
      refine W.region ?_
      refine T.q (q_move rfl rfl) (Wt.plain rfl) rfl rfl ?_
      refine T.q (q_fld fl59_1 rfl rfl) (Wt.plain rfl) rfl rfl ?_
      refine T.q (q_load1 ss3 2 rfl rfl rfl (cell_skip1 (rfl))) (Wt.plain rfl) rfl rfl ?_
      refine T.effE (e_callE [true, true, true, false, true] enters78 rfl rfl (hx1 rfl rfl) (fun w hm => ranges_spec b79 rfl A79 c79 rk hy79 hc79 (by first | omega | (simp; done) | (simp; omega) | (simp at *; omega)) ((n53 : Nat) : Int) (by omega) (by omega) w (hm.at 3 rfl) (RdB.ext (i := 3) (j := 4) hr79 hm rfl rfl (by decide))) rfl rfl) (Wt.plain rfl) ?_ ?_
      ·
        rintro _ _ ⟨_, _, ⟨rs84, b84, A84, c84, cb84, nk84, rc84, jk84, hp84, hy84, hl84, hr84, hc84, h8, rfl, rfl⟩, rfl, rfl⟩
        change (_ : List Blk → Prop) [_, _, _, _, _, _, _]
        refine T.q (q_fld fl59_3 rfl rfl) (Wt.plain rfl) rfl rfl ?_
        refine T.eff (e_storeP1 ss56 2 rfl rfl rfl rfl (by first | (simp; done) | (simp; omega)) rfl (set_skip1 (set_skip1 (set_skip1 (rfl)))) rfl) (Wt.plain rfl) ?_
        rintro _ _ ⟨rfl, rfl⟩
        change (_ : List Blk → Prop) [_, _, _, _, _, _, _]
        refine T.nil ?_
        refine Ex.in_normal ?_
        refine Ex.next ?_
        refine W.less (L' := [(2, _), (3, _)]) [true, true, true, false, true, true, true] ⟨rfl, rfl, trivial⟩ ?_
        change (_ : List Blk → Prop) [_, _, _, _, _, _]
        refine W.seq ?_
        refine W.region ?_
        refine T.q (q_loadW (wd59.trans (congrArg some (by first | (simp; done) | (simp; omega)))) (R_blk 2 rfl) rfl rfl) (Wt.plain rfl) rfl rfl ?_
        refine T.eff (e_call enters47 rfl rfl (fun w hm => chk_spec 2 ((n53 : Nat) : Int) ((n79 : Nat) : Int) rs84 [] (List.replicate 8 0) (nk84.map fun k => (⟨k, 0, none⟩ : Addr)) none rc84 0 (by first | omega | (simp; done) | (simp; omega) | (simp at *; omega)) rfl w ((R_opre 3 rfl) w hm)) rfl rfl) (Wt.plain rfl) ?_
        rintro _ _ ⟨_, _, ⟨rfl, rfl⟩, rfl, rfl⟩
        change (_ : List Blk → Prop) [_, _, _, _, _, _]
        refine T.effE (e_callE [] enters76 rfl rfl hx0 (fun w hm => sure_spec (chkE (⟨2, ((n53 : Nat) : Int), ((n79 : Nat) : Int), rs84, [], List.replicate 8 0⟩ : Frm)) w) rfl rfl) (Wt.plain rfl) ?_ ?_
        ·
          rintro _ _ ⟨_, _, ⟨hs3, rfl, rfl⟩, rfl, rfl⟩
          change (_ : List Blk → Prop) [_, _, _, _, _, _]
          refine T.nil ?_
          refine Ex.next ?_
          refine W.slots (L' := [(2, _), (3, _)]) ⟨rfl, rfl, trivial⟩ ?_
          refine W.seq ?_
          refine W.region ?_
          refine T.q (q_loadW (wd59.trans (congrArg some (by first | (simp; done) | (simp; omega)))) (R_blk 2 rfl) rfl rfl) (Wt.plain rfl) rfl rfl ?_
          refine T.eff (e_storeA (wd59.trans (congrArg some (by first | (simp; done) | (simp; omega)))) 1 rfl rfl rfl rfl (by first | (simp; done) | (simp; omega)) (one_cons rfl (one_cons rfl (one_cons rfl (one_cons rfl (one_cons rfl (ints_one)))))) rfl) (Wt.plain rfl) ?_
          rintro _ _ ⟨rfl, rfl⟩
          change (_ : List Blk → Prop) [_, _, _, _, _, _]
          refine T.nil ?_
          refine Ex.next ?_
          refine W.less (L' := [(2, _)]) [true, true, false, true, true, true] ⟨rfl, trivial⟩ ?_
          change (_ : List Blk → Prop) [_, _, _, _, _]
          refine W.ret ?_
          refine Ex.last 3 rfl ?_
          change (_ : List Blk → Prop) [_, _, _, _, _]
          refine Ex.last 3 rfl ?_
          change (_ : List Blk → Prop) [_, _, _, _, _]
          refine Ex.last 0 rfl ?_
          change (_ : List Blk → Prop) [_, _, _, _, _]
          refine Ex.last 1 rfl ?_
          change (_ : List Blk → Prop) [_, _, _, _, _]
          refine Ex.fine ?_
          refine Ex.outC [false, true, true, true, true] 0 rfl (by exact (wd59.trans (congrArg some (by first | (simp; done) | (simp; omega))))) rfl rfl ?_
          have hfo : frOK (⟨2, ((n53 : Nat) : Int), ((n79 : Nat) : Int), rs84, [], List.replicate 8 0⟩ : Frm) := chkE_zero.1 hs3
          have hqo : Fm.OK (⟨(⟨2, ((n53 : Nat) : Int), ((n79 : Nat) : Int), rs84, [], List.replicate 8 0⟩ : Frm), (nk84.map fun k => (⟨k, 0, none⟩ : Addr)), rc84, none, 0⟩ : Fm) := ⟨rfl, by dsimp only; omega, Nat.le_refl _, by simp, (fun _ h => by cases h), Bytes.replicate 8⟩
          have hin : FrsIn (cb84 :: [cb, ⟨nk84, ints .i64 (flat rs84) ++ jk84, 74, (0, 0)⟩]) [(⟨(⟨2, ((n53 : Nat) : Int), ((n79 : Nat) : Int), rs84, [], List.replicate 8 0⟩ : Frm), (nk84.map fun k => (⟨k, 0, none⟩ : Addr)), rc84, none, 0⟩ : Fm)] := fun w hw q hq => by rw [List.mem_singleton] at hq; subst hq; exact ⟨(Reads.own (hw _ (.tail _ (.tail _ (.head _))))).pre, Reads.nil w none⟩
          have hlen : (b84).length = b84.length := by first | rfl | (simp; done) | (simp; omega)
          refine ⟨(⟨(⟨2, ((n53 : Nat) : Int), ((n79 : Nat) : Int), rs84, [], List.replicate 8 0⟩ : Frm), (nk84.map fun k => (⟨k, 0, none⟩ : Addr)), rc84, none, 0⟩ : Fm), b84, A84, c84, cb84, [cb, ⟨nk84, ints .i64 (flat rs84) ++ jk84, 74, (0, 0)⟩], by rw [pFrame, hk0, pBody, if_neg (by decide), if_neg (by decide), if_pos rfl, hp53, andThen_ok, hp79, andThen_ok, hp84, andThen_ok, chk, if_pos hfo], hqo, hfo, hy84, ?_, rfl, hr84, ?_, hin, .tail _ (.head _), ?_⟩
          · rw [hlen]; omega
          · rw [hlen]; omega
          · rw [hlen]; rfl
        ·
          rintro _ _ ⟨_, ⟨hs3, rfl, rfl⟩, rfl⟩
          change (_ : List Blk → Prop) [_, _, _, _, _, _]
          refine Ex.then_panic ?_
          refine Ex.outP [false, false, false, false, false, false] ?_
          have hnf : ¬ frOK (⟨2, ((n53 : Nat) : Int), ((n79 : Nat) : Int), rs84, [], List.replicate 8 0⟩ : Frm) := fun g => hs3 (chkE_yes g)
          exact ⟨_, by rw [pFrame, hk0, pBody, if_neg (by decide), if_neg (by decide), if_pos rfl, hp53, andThen_ok, hp79, andThen_ok, hp84, andThen_ok, chk, if_neg hnf, chkE_no hnf], rfl, rfl⟩
      ·
        rintro _ _ ⟨_, ⟨e84, hp84, rfl, rfl⟩, rfl⟩
        change (_ : List Blk → Prop) [_, _, _, _]
        refine Ex.in_panic ?_
        refine Ex.then_panic ?_
        refine Ex.outP [false, false, false, false] ?_
        exact ⟨_, by rw [pFrame, hk0, pBody, if_neg (by decide), if_neg (by decide), if_pos rfl, hp53, andThen_ok, hp79, andThen_ok, hp84, andThen_error], rfl, rfl⟩
    ·
      rintro _ _ ⟨_, ⟨e79, hp79, rfl, rfl⟩, rfl⟩
      change (_ : List Blk → Prop) [_, _, _, _]
      refine Ex.then_panic ?_
      refine Ex.in_panic ?_
      refine Ex.then_panic ?_
      refine Ex.outP [false, false, false, false] ?_
      exact ⟨_, by rw [pFrame, hk0, pBody, if_neg (by decide), if_neg (by decide), if_pos rfl, hp53, andThen_ok, hp79, andThen_error], rfl, rfl⟩
  ·
    rintro _ _ ⟨_, ⟨e53, hp53, rfl, rfl⟩, rfl⟩
    change (_ : List Blk → Prop) [_, _, _]
    refine Ex.in_panic ?_
    refine Ex.then_panic ?_
    refine Ex.outP [false, false, false] ?_
    exact ⟨_, by rw [pFrame, hk0, pBody, if_neg (by decide), if_neg (by decide), if_pos rfl, hp53, andThen_error], rfl, rfl⟩
set_option maxRecDepth 100000 in
theorem frame_3g (b : List Int) {m : Nat} (hbm : b.length = m) (A : Option Addr) (cap rk : Nat) (cb : Blk) (hbb : Bytes b) (hle : m ≤ cap) (hbl : m ≤ 140737488351232) (hpos : 0 < m) (hrd : RdB cb A b) (hk0 : b.getD 0 0 = 3) (hsh : 8 ≤ m - 1) (w0 : World) (hk : (⟨some rk, [.slice A m cap], 81, (0, 0)⟩ : Blk).here w0) (hcb : cb.here w0) (hne : cb.no ≠ some rk) : EndsX Try.prog 63 #[.pointer (some ⟨rk, 0, none⟩)] w0 (rk :: cb.no.toList) (fun v G => ∃ (q : Fm) (b' : List Int) (A' : Option Addr) (cap' : Nat) (cb' : Blk) (Gs : List Blk), pFrame b = .ok (q.f, b') ∧ q.OK ∧ frOK q.f ∧ Bytes b' ∧ b'.length < m ∧ v = .agg q.cells.toArray ∧ RdB cb' A' b' ∧ b'.length ≤ cap' ∧ FrsIn (cb' :: Gs) [q] ∧ cb ∈ cb' :: Gs ∧ G = ⟨some rk, [.slice A' b'.length cap'], 81, (0, 0)⟩ :: cb' :: Gs) (fun x G => ∃ e : Int, pFrame b = .error e ∧ x = dieV e ∧ G = []) := by
  have hb0 := hbb.getD 0
  refine spec_ofE 98 [⟨some rk, [.slice A m cap], 81, (0, 0)⟩, cb] (Mem.own2 rfl rfl hk hcb hne) Try.func63 rfl rfl rfl ?_
  refine W.seq ?_
  refine W.region ?_
  refine T.eff (e_alloc ze59 rfl rfl rfl) (Wt.plain rfl) ?_
  rintro _ _ ⟨k1, rfl, rfl⟩
  change (_ : List Blk → Prop) [_, _, _]
  refine T.nil ?_
  refine Ex.next ?_
  refine W.slots (L' := [(0, _), (2, _)]) ⟨rfl, rfl, trivial⟩ ?_
  refine W.seq ?_
  refine W.region ?_
  refine T.q (q_move rfl rfl) (Wt.plain rfl) rfl rfl ?_
  refine T.q (q_nil rfl rfl) (Wt.plain rfl) rfl rfl ?_
  refine T.q (q_fld fl81_0 rfl rfl) (Wt.plain rfl) rfl rfl ?_
  refine T.q (q_load1 ss22 0 rfl rfl rfl rfl) (Wt.plain rfl) rfl rfl ?_
  refine T.q (q_ixE1 sc22 0 (R_rd 1 rfl hrd) rfl rfl rfl (rfl) (by omega) (by first | omega | (simp; done) | (simp [-List.getD_eq_getElem?_getD]; omega))) (Wt.plain rfl) rfl rfl ?_
  refine T.q (q_loadE ss5 (R_rd 1 rfl hrd) rfl rfl (ints_get (by first | omega | (simp; done) | (simp [-List.getD_eq_getElem?_getD]; omega)))) (Wt.plain rfl) rfl rfl ?_
  refine T.q (q_int (b := 3) (q_conv un5 un3 rfl rfl) ?hE) (Wt.plain rfl) rfl rfl ?_
  case hE => rw [hk0]; rfl
  refine T.q (q_buildP (cells := .int .i64 3 :: (.int .i64 0 :: (.int .i64 0 :: (.slice none 0 0 :: (.slice none 0 0 :: (ints .u8 (List.replicate 8 0))))))) bp59 ze59 rfl rfl ⟨_, _, [.int .i64 3], _, rfl, rfl, rfl, (Nat.le_of_ble_eq_true rfl), rfl, rfl⟩) (Wt.plain rfl) rfl rfl ?_
  refine T.eff (e_alloc ze59 rfl rfl rfl) (Wt.plain rfl) ?_
  rintro _ _ ⟨k2, rfl, rfl⟩
  change (_ : List Blk → Prop) [_, _, _, _]
  refine T.eff (e_storeA (wd59.trans (congrArg some (by first | (simp; done) | (simp; omega)))) 3 rfl rfl rfl rfl (by first | (simp; done) | (simp; omega)) (one_cons rfl (one_cons rfl (one_cons rfl (one_cons rfl (one_cons rfl (ints_one)))))) rfl) (Wt.plain rfl) ?_
  rintro _ _ ⟨rfl, rfl⟩
  change (_ : List Blk → Prop) [_, _, _, _]
  refine T.nil ?_
  refine Ex.next ?_
  refine W.slots (L' := [(0, _), (2, _), (3, _)]) ⟨rfl, rfl, rfl, trivial⟩ ?_
  refine W.seq ?_
  refine W.region ?_
  refine T.q (q_move rfl rfl) (Wt.plain rfl) rfl rfl ?_
  refine T.q (q_move rfl rfl) (Wt.plain rfl) rfl rfl ?_
  refine T.q (q_nil rfl rfl) (Wt.plain rfl) rfl rfl ?_
  refine T.q (q_fld fl81_0 rfl rfl) (Wt.plain rfl) rfl rfl ?_
  refine T.q (q_load1 ss22 0 rfl rfl rfl rfl) (Wt.plain rfl) rfl rfl ?_
  refine T.q (q_sl sc22 1 m cap rfl rfl ⟨_, _, rfl, rfl⟩ rfl rfl (by first | omega | (simp; done) | (simp [-List.getD_eq_getElem?_getD]; omega)) (by first | omega | (simp; done) | (simp [-List.getD_eq_getElem?_getD]; omega)) (by first | omega | (simp; done) | (simp [-List.getD_eq_getElem?_getD]; omega)) (by simp)) (Wt.plain rfl) rfl rfl ?_
  have hrd1 := RdB.cut (l := 1) (cap := cap) hrd (by omega)
  have hbb1 := hbb.drop' 1
  refine T.q (q_nil rfl rfl) (Wt.plain rfl) rfl rfl ?_
  refine T.q (q_fld fl81_0 rfl rfl) (Wt.plain rfl) rfl rfl ?_
  refine T.eff (e_store1 ss22 0 rfl rfl rfl rfl (by simp) rfl rfl) (Wt.plain rfl) ?_
  rintro _ _ ⟨rfl, rfl⟩
  change (_ : List Blk → Prop) [_, _, _, _]
  refine T.nil ?_
  refine Ex.next ?_
  refine W.slots (L' := [(0, _), (2, _), (3, _)]) ⟨rfl, rfl, rfl, trivial⟩ ?_
  refine W.seq ?_
  refine W.seq ?_
  refine W.region ?_
  refine T.q (q_fld fl59_0 rfl rfl) (Wt.plain rfl) rfl rfl ?_
  refine T.q (q_load1 ss3 3 rfl rfl rfl (rfl)) (Wt.plain rfl) rfl rfl ?_
  refine T.nil ?_
  refine Ex.next ?_
  refine W.slots (L' := [(0, _), (2, _), (3, _), (24, _)]) ⟨rfl, rfl, rfl, rfl, trivial⟩ ?_
  refine W.block ?_
  refine W.seq ?_
  refine W.seq ?_
  refine W.region ?_
  refine T.q (q_bool (b := true) (q_eql rfl rfl rfl) (decide_eq_true (by decide))) (Wt.plain rfl) rfl rfl ?_
  refine T.q (q_assign rfl rfl) (Wt.plain rfl) rfl rfl ?_
  refine T.nil ?_
  refine Ex.next ?_
  refine W.slots (L' := [(0, _), (2, _), (3, _), (24, _), (25, _)]) ⟨rfl, rfl, rfl, rfl, rfl, trivial⟩ ?_
  refine W.condT rfl ?_
  refine W.skip ?_
  refine Ex.next ?_
  refine W.slots (L' := [(0, _), (2, _), (3, _), (24, _), (25, _)]) ⟨rfl, rfl, rfl, rfl, rfl, trivial⟩ ?_
  refine W.condT rfl ?_
  refine W.seq ?_
  refine W.seq ?_
  refine W.drawP 8 [true, true, true, false] (by kernel_rfl) ?_
  refine D.take 0 rfl (by kernel_rfl) (S_sub (((((List.Sublist.slnil).cons _).cons_cons _).cons_cons _).cons_cons _)) (q_fld fl59_5 rfl rfl) (Wt.plain rfl) rfl rfl ?_
  refine D.take 1 rfl (by kernel_rfl) (S_sub (((((List.Sublist.slnil).cons _).cons_cons _).cons_cons _).cons_cons _)) (q_slAll ar57 rfl rfl) (Wt.plain rfl) rfl rfl ?_
  refine D.take 2 rfl (by kernel_rfl) (S_sub (((((List.Sublist.slnil).cons _).cons_cons _).cons_cons _).cons_cons _)) (q_move rfl rfl) (Wt.plain rfl) rfl rfl ?_
  refine D.take 3 rfl (by kernel_rfl) (S_sub (((((List.Sublist.slnil).cons _).cons_cons _).cons_cons _).cons_cons _)) (q_nil rfl rfl) (Wt.plain rfl) rfl rfl ?_
  refine D.take 4 rfl (by kernel_rfl) (S_sub (((((List.Sublist.slnil).cons _).cons_cons _).cons_cons _).cons_cons _)) (q_fld fl81_0 rfl rfl) (Wt.plain rfl) rfl rfl ?_
  refine D.take 5 rfl (by kernel_rfl) (S_sub (((((List.Sublist.slnil).cons _).cons_cons _).cons_cons _).cons_cons _)) (q_load1 ss22 0 rfl rfl rfl rfl) (Wt.plain rfl) rfl rfl ?_
  refine D.one 6 (by kernel_rfl) ?_
  refine Up.eff rfl (e_copyT sc22 3 (List.replicate 8 0) (b.drop 1) rfl (R_rd 1 rfl hrd1) rfl rfl rfl rfl (by first | (simp; done) | (simp; omega)) rfl rfl) (Wt.plain rfl) ?_
  rintro _ _ ⟨rfl, rfl⟩
  refine ⟨fun _ => (S_sub (((((List.Sublist.slnil).cons _).cons_cons _).cons_cons _).cons_cons _)), ?_⟩
  change (_ : List Blk → Prop) [_, _, _, _]
  have etk : (b.drop 1).take 8 ++ (List.replicate 8 0).drop (min (m - 1) 8) = (b.drop 1).take 8 := by rw [Nat.min_eq_right (by omega)]; simp
  conv => rhs; rw [etk]
  refine D.take 7 rfl (by kernel_rfl) (S_sub (((((List.Sublist.slnil).cons _).cons_cons _).cons_cons _).cons_cons _)) (q_bool (b := false) (q_lss rfl rfl rfl) (decide_eq_false (by omega))) (Wt.plain rfl) rfl rfl ?_
  refine D.done (by kernel_rfl) ?_
  refine Ex.next ?_
  refine W.slots (L' := [(0, _), (2, _), (3, _), (35, _)]) ⟨rfl, rfl, rfl, rfl, trivial⟩ ?_
  refine W.condF rfl ?_
  refine W.skip ?_
  refine Ex.next ?_
  refine W.slots (L' := [(0, _), (2, _), (3, _)]) ⟨rfl, rfl, rfl, trivial⟩ ?_
  refine W.seq ?_
  refine W.region ?_
  refine T.q (q_move rfl rfl) (Wt.plain rfl) rfl rfl ?_
  refine T.q (q_move rfl rfl) (Wt.plain rfl) rfl rfl ?_
  refine T.q (q_nil rfl rfl) (Wt.plain rfl) rfl rfl ?_
  refine T.q (q_fld fl81_0 rfl rfl) (Wt.plain rfl) rfl rfl ?_
  refine T.q (q_load1 ss22 0 rfl rfl rfl rfl) (Wt.plain rfl) rfl rfl ?_
  refine T.q (q_sl sc22 8 (m - 1) (cap - 1) rfl rfl ⟨_, _, rfl, rfl⟩ rfl rfl (by first | omega | (simp; done) | (simp [-List.getD_eq_getElem?_getD]; omega)) (by first | omega | (simp; done) | (simp [-List.getD_eq_getElem?_getD]; omega)) (by first | omega | (simp; done) | (simp [-List.getD_eq_getElem?_getD]; omega)) (by simp)) (Wt.plain rfl) rfl rfl ?_
  have hrd2 := RdB.cut (l := 8) (cap := cap - 1) hrd1 (by first | (simp; done) | (simp; omega))
  have hbb2 := hbb1.drop' 8
  refine T.q (q_nil rfl rfl) (Wt.plain rfl) rfl rfl ?_
  refine T.q (q_fld fl81_0 rfl rfl) (Wt.plain rfl) rfl rfl ?_
  refine T.eff (e_store1 ss22 0 rfl rfl rfl rfl (by simp) rfl rfl) (Wt.plain rfl) ?_
  rintro _ _ ⟨rfl, rfl⟩
  change (_ : List Blk → Prop) [_, _, _, _]
  refine T.nil ?_
  refine Ex.next ?_
  refine W.slots (L' := [(2, _), (3, _)]) ⟨rfl, rfl, trivial⟩ ?_
  refine W.seq ?_
  refine W.region ?_
  refine T.q (q_loadW (wd59.trans (congrArg some (by first | (simp; done) | (simp; omega)))) (R_blk 3 rfl) rfl rfl) (Wt.plain rfl) rfl rfl ?_
  refine T.eff (e_storeA (wd59.trans (congrArg some (by first | (simp; done) | (simp; omega)))) 2 rfl rfl rfl rfl (by first | (simp; done) | (simp; omega)) (one_cons rfl (one_cons rfl (one_cons rfl (one_cons rfl (one_cons rfl (ints_one)))))) rfl) (Wt.plain rfl) ?_
  rintro _ _ ⟨rfl, rfl⟩
  change (_ : List Blk → Prop) [_, _, _, _]
  refine T.nil ?_
  refine Ex.next ?_
  refine W.less (L' := [(2, _)]) [true, true, true, false] ⟨rfl, trivial⟩ ?_
  change (_ : List Blk → Prop) [_, _, _]
  refine W.ret ?_
  refine Ex.in_ret ?_
  refine Ex.then_ret ?_
  refine Ex.fine ?_
  refine Ex.outC [true, true, false] 2 rfl (by exact (wd59.trans (congrArg some (by first | (simp; done) | (simp; omega))))) rfl rfl ?_
  have hqo : Fm.OK (⟨(⟨3, 0, 0, [], [], ((b.drop 1).take 8)⟩ : Frm), none, 0, none, 0⟩ : Fm) := ⟨by first | (simp; done) | (simp; omega), by simp, Nat.le_refl _, by simp, (fun _ h => by cases h), fun x hx => hbb1 x (List.mem_of_mem_take hx)⟩
  have hin : FrsIn (cb :: []) [(⟨(⟨3, 0, 0, [], [], ((b.drop 1).take 8)⟩ : Frm), none, 0, none, 0⟩ : Fm)] := fun w hw q hq => by rw [List.mem_singleton] at hq; subst hq; exact ⟨Reads.nil w none, Reads.nil w none⟩
  have hlen : ((b.drop 1).drop 8).length = (m - 1 - 8) := by first | rfl | (simp; done) | (simp; omega)
  refine ⟨(⟨(⟨3, 0, 0, [], [], ((b.drop 1).take 8)⟩ : Frm), none, 0, none, 0⟩ : Fm), (b.drop 1).drop 8, (cut (cut A cap 1) (cap - 1) 8), (cap - 1 - 8), cb, [], by rw [pFrame, hk0, pBody, if_pos (by decide), if_neg (by first | (simp; done) | (simp; omega))], hqo, ⟨by simp, by simp, .inr (.inr (.inl ⟨.inl rfl, rfl, rfl, rfl, rfl⟩))⟩, hbb2, ?_, rfl, hrd2, ?_, hin, .head _, ?_⟩
  · rw [hlen]; omega
  · rw [hlen]; omega
  · rw [hlen]; rfl
set_option maxRecDepth 100000 in
theorem frame_3s (b : List Int) {m : Nat} (hbm : b.length = m) (A : Option Addr) (cap rk : Nat) (cb : Blk) (hbb : Bytes b) (hle : m ≤ cap) (hbl : m ≤ 140737488351232) (hpos : 0 < m) (hrd : RdB cb A b) (hk0 : b.getD 0 0 = 3) (hsh : m - 1 < 8) (w0 : World) (hk : (⟨some rk, [.slice A m cap], 81, (0, 0)⟩ : Blk).here w0) (hcb : cb.here w0) (hne : cb.no ≠ some rk) : EndsX Try.prog 63 #[.pointer (some ⟨rk, 0, none⟩)] w0 (rk :: cb.no.toList) (fun v G => ∃ (q : Fm) (b' : List Int) (A' : Option Addr) (cap' : Nat) (cb' : Blk) (Gs : List Blk), pFrame b = .ok (q.f, b') ∧ q.OK ∧ frOK q.f ∧ Bytes b' ∧ b'.length < m ∧ v = .agg q.cells.toArray ∧ RdB cb' A' b' ∧ b'.length ≤ cap' ∧ FrsIn (cb' :: Gs) [q] ∧ cb ∈ cb' :: Gs ∧ G = ⟨some rk, [.slice A' b'.length cap'], 81, (0, 0)⟩ :: cb' :: Gs) (fun x G => ∃ e : Int, pFrame b = .error e ∧ x = dieV e ∧ G = []) := by
  have hb0 := hbb.getD 0
  refine spec_ofE 98 [⟨some rk, [.slice A m cap], 81, (0, 0)⟩, cb] (Mem.own2 rfl rfl hk hcb hne) Try.func63 rfl rfl rfl ?_
  refine W.seq ?_
  refine W.region ?_
  refine T.eff (e_alloc ze59 rfl rfl rfl) (Wt.plain rfl) ?_
  rintro _ _ ⟨k1, rfl, rfl⟩
  change (_ : List Blk → Prop) [_, _, _]
  refine T.nil ?_
  refine Ex.next ?_
  refine W.slots (L' := [(0, _), (2, _)]) ⟨rfl, rfl, trivial⟩ ?_
  refine W.seq ?_
  refine W.region ?_
  refine T.q (q_move rfl rfl) (Wt.plain rfl) rfl rfl ?_
  refine T.q (q_nil rfl rfl) (Wt.plain rfl) rfl rfl ?_
  refine T.q (q_fld fl81_0 rfl rfl) (Wt.plain rfl) rfl rfl ?_
  refine T.q (q_load1 ss22 0 rfl rfl rfl rfl) (Wt.plain rfl) rfl rfl ?_
  refine T.q (q_ixE1 sc22 0 (R_rd 1 rfl hrd) rfl rfl rfl (rfl) (by omega) (by first | omega | (simp; done) | (simp [-List.getD_eq_getElem?_getD]; omega))) (Wt.plain rfl) rfl rfl ?_
  refine T.q (q_loadE ss5 (R_rd 1 rfl hrd) rfl rfl (ints_get (by first | omega | (simp; done) | (simp [-List.getD_eq_getElem?_getD]; omega)))) (Wt.plain rfl) rfl rfl ?_
  refine T.q (q_int (b := 3) (q_conv un5 un3 rfl rfl) ?hE) (Wt.plain rfl) rfl rfl ?_
  case hE => rw [hk0]; rfl
  refine T.q (q_buildP (cells := .int .i64 3 :: (.int .i64 0 :: (.int .i64 0 :: (.slice none 0 0 :: (.slice none 0 0 :: (ints .u8 (List.replicate 8 0))))))) bp59 ze59 rfl rfl ⟨_, _, [.int .i64 3], _, rfl, rfl, rfl, (Nat.le_of_ble_eq_true rfl), rfl, rfl⟩) (Wt.plain rfl) rfl rfl ?_
  refine T.eff (e_alloc ze59 rfl rfl rfl) (Wt.plain rfl) ?_
  rintro _ _ ⟨k2, rfl, rfl⟩
  change (_ : List Blk → Prop) [_, _, _, _]
  refine T.eff (e_storeA (wd59.trans (congrArg some (by first | (simp; done) | (simp; omega)))) 3 rfl rfl rfl rfl (by first | (simp; done) | (simp; omega)) (one_cons rfl (one_cons rfl (one_cons rfl (one_cons rfl (one_cons rfl (ints_one)))))) rfl) (Wt.plain rfl) ?_
  rintro _ _ ⟨rfl, rfl⟩
  change (_ : List Blk → Prop) [_, _, _, _]
  refine T.nil ?_
  refine Ex.next ?_
  refine W.slots (L' := [(0, _), (2, _), (3, _)]) ⟨rfl, rfl, rfl, trivial⟩ ?_
  refine W.seq ?_
  refine W.region ?_
  refine T.q (q_move rfl rfl) (Wt.plain rfl) rfl rfl ?_
  refine T.q (q_move rfl rfl) (Wt.plain rfl) rfl rfl ?_
  refine T.q (q_nil rfl rfl) (Wt.plain rfl) rfl rfl ?_
  refine T.q (q_fld fl81_0 rfl rfl) (Wt.plain rfl) rfl rfl ?_
  refine T.q (q_load1 ss22 0 rfl rfl rfl rfl) (Wt.plain rfl) rfl rfl ?_
  refine T.q (q_sl sc22 1 m cap rfl rfl ⟨_, _, rfl, rfl⟩ rfl rfl (by first | omega | (simp; done) | (simp [-List.getD_eq_getElem?_getD]; omega)) (by first | omega | (simp; done) | (simp [-List.getD_eq_getElem?_getD]; omega)) (by first | omega | (simp; done) | (simp [-List.getD_eq_getElem?_getD]; omega)) (by simp)) (Wt.plain rfl) rfl rfl ?_
  have hrd1 := RdB.cut (l := 1) (cap := cap) hrd (by omega)
  have hbb1 := hbb.drop' 1
  refine T.q (q_nil rfl rfl) (Wt.plain rfl) rfl rfl ?_
  refine T.q (q_fld fl81_0 rfl rfl) (Wt.plain rfl) rfl rfl ?_
  refine T.eff (e_store1 ss22 0 rfl rfl rfl rfl (by simp) rfl rfl) (Wt.plain rfl) ?_
  rintro _ _ ⟨rfl, rfl⟩
  change (_ : List Blk → Prop) [_, _, _, _]
  refine T.nil ?_
  refine Ex.next ?_
  refine W.slots (L' := [(0, _), (2, _), (3, _)]) ⟨rfl, rfl, rfl, trivial⟩ ?_
  refine W.seq ?_
  refine W.seq ?_
  refine W.region ?_
  refine T.q (q_fld fl59_0 rfl rfl) (Wt.plain rfl) rfl rfl ?_
  refine T.q (q_load1 ss3 3 rfl rfl rfl (rfl)) (Wt.plain rfl) rfl rfl ?_
  refine T.nil ?_
  refine Ex.next ?_
  refine W.slots (L' := [(0, _), (2, _), (3, _), (24, _)]) ⟨rfl, rfl, rfl, rfl, trivial⟩ ?_
  refine W.block ?_
  refine W.seq ?_
  refine W.seq ?_
  refine W.region ?_
  refine T.q (q_bool (b := true) (q_eql rfl rfl rfl) (decide_eq_true (by decide))) (Wt.plain rfl) rfl rfl ?_
  refine T.q (q_assign rfl rfl) (Wt.plain rfl) rfl rfl ?_
  refine T.nil ?_
  refine Ex.next ?_
  refine W.slots (L' := [(0, _), (2, _), (3, _), (24, _), (25, _)]) ⟨rfl, rfl, rfl, rfl, rfl, trivial⟩ ?_
  refine W.condT rfl ?_
  refine W.skip ?_
  refine Ex.next ?_
  refine W.slots (L' := [(0, _), (2, _), (3, _), (24, _), (25, _)]) ⟨rfl, rfl, rfl, rfl, rfl, trivial⟩ ?_
  refine W.condT rfl ?_
  refine W.seq ?_
  refine W.seq ?_
  refine W.drawP 8 [true, true, true, false] (by kernel_rfl) ?_
  refine D.take 0 rfl (by kernel_rfl) (S_sub (((((List.Sublist.slnil).cons _).cons_cons _).cons_cons _).cons_cons _)) (q_fld fl59_5 rfl rfl) (Wt.plain rfl) rfl rfl ?_
  refine D.take 1 rfl (by kernel_rfl) (S_sub (((((List.Sublist.slnil).cons _).cons_cons _).cons_cons _).cons_cons _)) (q_slAll ar57 rfl rfl) (Wt.plain rfl) rfl rfl ?_
  refine D.take 2 rfl (by kernel_rfl) (S_sub (((((List.Sublist.slnil).cons _).cons_cons _).cons_cons _).cons_cons _)) (q_move rfl rfl) (Wt.plain rfl) rfl rfl ?_
  refine D.take 3 rfl (by kernel_rfl) (S_sub (((((List.Sublist.slnil).cons _).cons_cons _).cons_cons _).cons_cons _)) (q_nil rfl rfl) (Wt.plain rfl) rfl rfl ?_
  refine D.take 4 rfl (by kernel_rfl) (S_sub (((((List.Sublist.slnil).cons _).cons_cons _).cons_cons _).cons_cons _)) (q_fld fl81_0 rfl rfl) (Wt.plain rfl) rfl rfl ?_
  refine D.take 5 rfl (by kernel_rfl) (S_sub (((((List.Sublist.slnil).cons _).cons_cons _).cons_cons _).cons_cons _)) (q_load1 ss22 0 rfl rfl rfl rfl) (Wt.plain rfl) rfl rfl ?_
  refine D.one 6 (by kernel_rfl) ?_
  refine Up.eff rfl (e_copyT sc22 3 (List.replicate 8 0) (b.drop 1) rfl (R_rd 1 rfl hrd1) rfl rfl rfl rfl (by first | (simp; done) | (simp; omega)) rfl rfl) (Wt.plain rfl) ?_
  rintro _ _ ⟨rfl, rfl⟩
  refine ⟨fun _ => (S_sub (((((List.Sublist.slnil).cons _).cons_cons _).cons_cons _).cons_cons _)), ?_⟩
  change (_ : List Blk → Prop) [_, _, _, _]
  refine D.take 7 rfl (by kernel_rfl) (S_sub (((((List.Sublist.slnil).cons _).cons_cons _).cons_cons _).cons_cons _)) (q_bool (b := true) (q_lss rfl rfl rfl) (decide_eq_true (by omega))) (Wt.plain rfl) rfl rfl ?_
  refine D.done (by kernel_rfl) ?_
  refine Ex.next ?_
  refine W.slots (L' := [(0, _), (2, _), (3, _), (35, _)]) ⟨rfl, rfl, rfl, rfl, trivial⟩ ?_
  refine W.condT rfl ?_
  refine W.region ?_
  refine T.effE (e_callE [] enters76 rfl rfl hx0 (fun w hm => sure_dies 3 (by decide) w) rfl rfl) (Wt.plain rfl) ?_ ?_
  ·
    rintro _ _ ⟨_, _, h, _⟩
    exact h.elim
  ·
    rintro _ _ ⟨_, ⟨rfl, rfl⟩, rfl⟩
    change (_ : List Blk → Prop) [_, _, _, _]
    refine Ex.then_panic ?_
    refine Ex.in_panic ?_
    refine Ex.then_panic ?_
    refine Ex.outP [false, false, false, false] ?_
    exact ⟨_, by rw [pFrame, hk0, pBody, if_pos (by decide), if_pos (by first | (simp; done) | (simp; omega))], rfl, rfl⟩
set_option maxRecDepth 100000 in
theorem frame_4g (b : List Int) {m : Nat} (hbm : b.length = m) (A : Option Addr) (cap rk : Nat) (cb : Blk) (hbb : Bytes b) (hle : m ≤ cap) (hbl : m ≤ 140737488351232) (hpos : 0 < m) (hrd : RdB cb A b) (hk0 : b.getD 0 0 = 4) (hsh : 8 ≤ m - 1) (w0 : World) (hk : (⟨some rk, [.slice A m cap], 81, (0, 0)⟩ : Blk).here w0) (hcb : cb.here w0) (hne : cb.no ≠ some rk) : EndsX Try.prog 63 #[.pointer (some ⟨rk, 0, none⟩)] w0 (rk :: cb.no.toList) (fun v G => ∃ (q : Fm) (b' : List Int) (A' : Option Addr) (cap' : Nat) (cb' : Blk) (Gs : List Blk), pFrame b = .ok (q.f, b') ∧ q.OK ∧ frOK q.f ∧ Bytes b' ∧ b'.length < m ∧ v = .agg q.cells.toArray ∧ RdB cb' A' b' ∧ b'.length ≤ cap' ∧ FrsIn (cb' :: Gs) [q] ∧ cb ∈ cb' :: Gs ∧ G = ⟨some rk, [.slice A' b'.length cap'], 81, (0, 0)⟩ :: cb' :: Gs) (fun x G => ∃ e : Int, pFrame b = .error e ∧ x = dieV e ∧ G = []) := by
  have hb0 := hbb.getD 0
  refine spec_ofE 98 [⟨some rk, [.slice A m cap], 81, (0, 0)⟩, cb] (Mem.own2 rfl rfl hk hcb hne) Try.func63 rfl rfl rfl ?_
  refine W.seq ?_
  refine W.region ?_
  refine T.eff (e_alloc ze59 rfl rfl rfl) (Wt.plain rfl) ?_
  rintro _ _ ⟨k1, rfl, rfl⟩
  change (_ : List Blk → Prop) [_, _, _]
  refine T.nil ?_
  refine Ex.next ?_
  refine W.slots (L' := [(0, _), (2, _)]) ⟨rfl, rfl, trivial⟩ ?_
  refine W.seq ?_
  refine W.region ?_
  refine T.q (q_move rfl rfl) (Wt.plain rfl) rfl rfl ?_
  refine T.q (q_nil rfl rfl) (Wt.plain rfl) rfl rfl ?_
  refine T.q (q_fld fl81_0 rfl rfl) (Wt.plain rfl) rfl rfl ?_
  refine T.q (q_load1 ss22 0 rfl rfl rfl rfl) (Wt.plain rfl) rfl rfl ?_
  refine T.q (q_ixE1 sc22 0 (R_rd 1 rfl hrd) rfl rfl rfl (rfl) (by omega) (by first | omega | (simp; done) | (simp [-List.getD_eq_getElem?_getD]; omega))) (Wt.plain rfl) rfl rfl ?_
  refine T.q (q_loadE ss5 (R_rd 1 rfl hrd) rfl rfl (ints_get (by first | omega | (simp; done) | (simp [-List.getD_eq_getElem?_getD]; omega)))) (Wt.plain rfl) rfl rfl ?_
  refine T.q (q_int (b := 4) (q_conv un5 un3 rfl rfl) ?hE) (Wt.plain rfl) rfl rfl ?_
  case hE => rw [hk0]; rfl
  refine T.q (q_buildP (cells := .int .i64 4 :: (.int .i64 0 :: (.int .i64 0 :: (.slice none 0 0 :: (.slice none 0 0 :: (ints .u8 (List.replicate 8 0))))))) bp59 ze59 rfl rfl ⟨_, _, [.int .i64 4], _, rfl, rfl, rfl, (Nat.le_of_ble_eq_true rfl), rfl, rfl⟩) (Wt.plain rfl) rfl rfl ?_
  refine T.eff (e_alloc ze59 rfl rfl rfl) (Wt.plain rfl) ?_
  rintro _ _ ⟨k2, rfl, rfl⟩
  change (_ : List Blk → Prop) [_, _, _, _]
  refine T.eff (e_storeA (wd59.trans (congrArg some (by first | (simp; done) | (simp; omega)))) 3 rfl rfl rfl rfl (by first | (simp; done) | (simp; omega)) (one_cons rfl (one_cons rfl (one_cons rfl (one_cons rfl (one_cons rfl (ints_one)))))) rfl) (Wt.plain rfl) ?_
  rintro _ _ ⟨rfl, rfl⟩
  change (_ : List Blk → Prop) [_, _, _, _]
  refine T.nil ?_
  refine Ex.next ?_
  refine W.slots (L' := [(0, _), (2, _), (3, _)]) ⟨rfl, rfl, rfl, trivial⟩ ?_
  refine W.seq ?_
  refine W.region ?_
  refine T.q (q_move rfl rfl) (Wt.plain rfl) rfl rfl ?_
  refine T.q (q_move rfl rfl) (Wt.plain rfl) rfl rfl ?_
  refine T.q (q_nil rfl rfl) (Wt.plain rfl) rfl rfl ?_
  refine T.q (q_fld fl81_0 rfl rfl) (Wt.plain rfl) rfl rfl ?_
  refine T.q (q_load1 ss22 0 rfl rfl rfl rfl) (Wt.plain rfl) rfl rfl ?_
  refine T.q (q_sl sc22 1 m cap rfl rfl ⟨_, _, rfl, rfl⟩ rfl rfl (by first | omega | (simp; done) | (simp [-List.getD_eq_getElem?_getD]; omega)) (by first | omega | (simp; done) | (simp [-List.getD_eq_getElem?_getD]; omega)) (by first | omega | (simp; done) | (simp [-List.getD_eq_getElem?_getD]; omega)) (by simp)) (Wt.plain rfl) rfl rfl ?_
  have hrd1 := RdB.cut (l := 1) (cap := cap) hrd (by omega)
  have hbb1 := hbb.drop' 1
  refine T.q (q_nil rfl rfl) (Wt.plain rfl) rfl rfl ?_
  refine T.q (q_fld fl81_0 rfl rfl) (Wt.plain rfl) rfl rfl ?_
  refine T.eff (e_store1 ss22 0 rfl rfl rfl rfl (by simp) rfl rfl) (Wt.plain rfl) ?_
  rintro _ _ ⟨rfl, rfl⟩
  change (_ : List Blk → Prop) [_, _, _, _]
  refine T.nil ?_
  refine Ex.next ?_
  refine W.slots (L' := [(0, _), (2, _), (3, _)]) ⟨rfl, rfl, rfl, trivial⟩ ?_
  refine W.seq ?_
  refine W.seq ?_
  refine W.region ?_
  refine T.q (q_fld fl59_0 rfl rfl) (Wt.plain rfl) rfl rfl ?_
  refine T.q (q_load1 ss3 3 rfl rfl rfl (rfl)) (Wt.plain rfl) rfl rfl ?_
  refine T.nil ?_
  refine Ex.next ?_
  refine W.slots (L' := [(0, _), (2, _), (3, _), (24, _)]) ⟨rfl, rfl, rfl, rfl, trivial⟩ ?_
  refine W.block ?_
  refine W.seq ?_
  refine W.seq ?_
  refine W.region ?_
  refine T.q (q_bool (b := false) (q_eql rfl rfl rfl) (decide_eq_false (by decide))) (Wt.plain rfl) rfl rfl ?_
  refine T.q (q_assign rfl rfl) (Wt.plain rfl) rfl rfl ?_
  refine T.nil ?_
  refine Ex.next ?_
  refine W.slots (L' := [(0, _), (2, _), (3, _), (24, _), (25, _)]) ⟨rfl, rfl, rfl, rfl, rfl, trivial⟩ ?_
  refine W.condF rfl ?_
  refine W.region ?_
  refine T.q (q_bool (b := true) (q_eql rfl rfl rfl) (decide_eq_true (by decide))) (Wt.plain rfl) rfl rfl ?_
  refine T.q (q_assign rfl rfl) (Wt.plain rfl) rfl rfl ?_
  refine T.nil ?_
  refine Ex.next ?_
  refine W.slots (L' := [(0, _), (2, _), (3, _), (24, _), (25, _)]) ⟨rfl, rfl, rfl, rfl, rfl, trivial⟩ ?_
  refine W.condT rfl ?_
  refine W.seq ?_
  refine W.seq ?_
  refine W.drawP 8 [true, true, true, false] (by kernel_rfl) ?_
  refine D.take 0 rfl (by kernel_rfl) (S_sub (((((List.Sublist.slnil).cons _).cons_cons _).cons_cons _).cons_cons _)) (q_fld fl59_5 rfl rfl) (Wt.plain rfl) rfl rfl ?_
  refine D.take 1 rfl (by kernel_rfl) (S_sub (((((List.Sublist.slnil).cons _).cons_cons _).cons_cons _).cons_cons _)) (q_slAll ar57 rfl rfl) (Wt.plain rfl) rfl rfl ?_
  refine D.take 2 rfl (by kernel_rfl) (S_sub (((((List.Sublist.slnil).cons _).cons_cons _).cons_cons _).cons_cons _)) (q_move rfl rfl) (Wt.plain rfl) rfl rfl ?_
  refine D.take 3 rfl (by kernel_rfl) (S_sub (((((List.Sublist.slnil).cons _).cons_cons _).cons_cons _).cons_cons _)) (q_nil rfl rfl) (Wt.plain rfl) rfl rfl ?_
  refine D.take 4 rfl (by kernel_rfl) (S_sub (((((List.Sublist.slnil).cons _).cons_cons _).cons_cons _).cons_cons _)) (q_fld fl81_0 rfl rfl) (Wt.plain rfl) rfl rfl ?_
  refine D.take 5 rfl (by kernel_rfl) (S_sub (((((List.Sublist.slnil).cons _).cons_cons _).cons_cons _).cons_cons _)) (q_load1 ss22 0 rfl rfl rfl rfl) (Wt.plain rfl) rfl rfl ?_
  refine D.one 6 (by kernel_rfl) ?_
  refine Up.eff rfl (e_copyT sc22 3 (List.replicate 8 0) (b.drop 1) rfl (R_rd 1 rfl hrd1) rfl rfl rfl rfl (by first | (simp; done) | (simp; omega)) rfl rfl) (Wt.plain rfl) ?_
  rintro _ _ ⟨rfl, rfl⟩
  refine ⟨fun _ => (S_sub (((((List.Sublist.slnil).cons _).cons_cons _).cons_cons _).cons_cons _)), ?_⟩
  change (_ : List Blk → Prop) [_, _, _, _]
  have etk : (b.drop 1).take 8 ++ (List.replicate 8 0).drop (min (m - 1) 8) = (b.drop 1).take 8 := by rw [Nat.min_eq_right (by omega)]; simp
  conv => rhs; rw [etk]
  refine D.take 7 rfl (by kernel_rfl) (S_sub (((((List.Sublist.slnil).cons _).cons_cons _).cons_cons _).cons_cons _)) (q_bool (b := false) (q_lss rfl rfl rfl) (decide_eq_false (by omega))) (Wt.plain rfl) rfl rfl ?_
  refine D.done (by kernel_rfl) ?_
  refine Ex.next ?_
  refine W.slots (L' := [(0, _), (2, _), (3, _), (35, _)]) ⟨rfl, rfl, rfl, rfl, trivial⟩ ?_
  refine W.condF rfl ?_
  refine W.skip ?_
  refine Ex.next ?_
  refine W.slots (L' := [(0, _), (2, _), (3, _)]) ⟨rfl, rfl, rfl, trivial⟩ ?_
  refine W.seq ?_
  refine W.region ?_
  refine T.q (q_move rfl rfl) (Wt.plain rfl) rfl rfl ?_
  refine T.q (q_move rfl rfl) (Wt.plain rfl) rfl rfl ?_
  refine T.q (q_nil rfl rfl) (Wt.plain rfl) rfl rfl ?_
  refine T.q (q_fld fl81_0 rfl rfl) (Wt.plain rfl) rfl rfl ?_
  refine T.q (q_load1 ss22 0 rfl rfl rfl rfl) (Wt.plain rfl) rfl rfl ?_
  refine T.q (q_sl sc22 8 (m - 1) (cap - 1) rfl rfl ⟨_, _, rfl, rfl⟩ rfl rfl (by first | omega | (simp; done) | (simp [-List.getD_eq_getElem?_getD]; omega)) (by first | omega | (simp; done) | (simp [-List.getD_eq_getElem?_getD]; omega)) (by first | omega | (simp; done) | (simp [-List.getD_eq_getElem?_getD]; omega)) (by simp)) (Wt.plain rfl) rfl rfl ?_
  have hrd2 := RdB.cut (l := 8) (cap := cap - 1) hrd1 (by first | (simp; done) | (simp; omega))
  have hbb2 := hbb1.drop' 8
  refine T.q (q_nil rfl rfl) (Wt.plain rfl) rfl rfl ?_
  refine T.q (q_fld fl81_0 rfl rfl) (Wt.plain rfl) rfl rfl ?_
  refine T.eff (e_store1 ss22 0 rfl rfl rfl rfl (by simp) rfl rfl) (Wt.plain rfl) ?_
  rintro _ _ ⟨rfl, rfl⟩
  change (_ : List Blk → Prop) [_, _, _, _]
  refine T.nil ?_
  refine Ex.next ?_
  refine W.slots (L' := [(2, _), (3, _)]) ⟨rfl, rfl, trivial⟩ ?_
  refine W.seq ?_
  refine W.region ?_
  refine T.q (q_loadW (wd59.trans (congrArg some (by first | (simp; done) | (simp; omega)))) (R_blk 3 rfl) rfl rfl) (Wt.plain rfl) rfl rfl ?_
  refine T.eff (e_storeA (wd59.trans (congrArg some (by first | (simp; done) | (simp; omega)))) 2 rfl rfl rfl rfl (by first | (simp; done) | (simp; omega)) (one_cons rfl (one_cons rfl (one_cons rfl (one_cons rfl (one_cons rfl (ints_one)))))) rfl) (Wt.plain rfl) ?_
  rintro _ _ ⟨rfl, rfl⟩
  change (_ : List Blk → Prop) [_, _, _, _]
  refine T.nil ?_
  refine Ex.next ?_
  refine W.less (L' := [(2, _)]) [true, true, true, false] ⟨rfl, trivial⟩ ?_
  change (_ : List Blk → Prop) [_, _, _]
  refine W.ret ?_
  refine Ex.in_ret ?_
  refine Ex.then_ret ?_
  refine Ex.fine ?_
  refine Ex.outC [true, true, false] 2 rfl (by exact (wd59.trans (congrArg some (by first | (simp; done) | (simp; omega))))) rfl rfl ?_
  have hqo : Fm.OK (⟨(⟨4, 0, 0, [], [], ((b.drop 1).take 8)⟩ : Frm), none, 0, none, 0⟩ : Fm) := ⟨by first | (simp; done) | (simp; omega), by simp, Nat.le_refl _, by simp, (fun _ h => by cases h), fun x hx => hbb1 x (List.mem_of_mem_take hx)⟩
  have hin : FrsIn (cb :: []) [(⟨(⟨4, 0, 0, [], [], ((b.drop 1).take 8)⟩ : Frm), none, 0, none, 0⟩ : Fm)] := fun w hw q hq => by rw [List.mem_singleton] at hq; subst hq; exact ⟨Reads.nil w none, Reads.nil w none⟩
  have hlen : ((b.drop 1).drop 8).length = (m - 1 - 8) := by first | rfl | (simp; done) | (simp; omega)
  refine ⟨(⟨(⟨4, 0, 0, [], [], ((b.drop 1).take 8)⟩ : Frm), none, 0, none, 0⟩ : Fm), (b.drop 1).drop 8, (cut (cut A cap 1) (cap - 1) 8), (cap - 1 - 8), cb, [], by rw [pFrame, hk0, pBody, if_pos (by decide), if_neg (by first | (simp; done) | (simp; omega))], hqo, ⟨by simp, by simp, .inr (.inr (.inl ⟨.inr rfl, rfl, rfl, rfl, rfl⟩))⟩, hbb2, ?_, rfl, hrd2, ?_, hin, .head _, ?_⟩
  · rw [hlen]; omega
  · rw [hlen]; omega
  · rw [hlen]; rfl
set_option maxRecDepth 100000 in
theorem frame_4s (b : List Int) {m : Nat} (hbm : b.length = m) (A : Option Addr) (cap rk : Nat) (cb : Blk) (hbb : Bytes b) (hle : m ≤ cap) (hbl : m ≤ 140737488351232) (hpos : 0 < m) (hrd : RdB cb A b) (hk0 : b.getD 0 0 = 4) (hsh : m - 1 < 8) (w0 : World) (hk : (⟨some rk, [.slice A m cap], 81, (0, 0)⟩ : Blk).here w0) (hcb : cb.here w0) (hne : cb.no ≠ some rk) : EndsX Try.prog 63 #[.pointer (some ⟨rk, 0, none⟩)] w0 (rk :: cb.no.toList) (fun v G => ∃ (q : Fm) (b' : List Int) (A' : Option Addr) (cap' : Nat) (cb' : Blk) (Gs : List Blk), pFrame b = .ok (q.f, b') ∧ q.OK ∧ frOK q.f ∧ Bytes b' ∧ b'.length < m ∧ v = .agg q.cells.toArray ∧ RdB cb' A' b' ∧ b'.length ≤ cap' ∧ FrsIn (cb' :: Gs) [q] ∧ cb ∈ cb' :: Gs ∧ G = ⟨some rk, [.slice A' b'.length cap'], 81, (0, 0)⟩ :: cb' :: Gs) (fun x G => ∃ e : Int, pFrame b = .error e ∧ x = dieV e ∧ G = []) := by
  have hb0 := hbb.getD 0
  refine spec_ofE 98 [⟨some rk, [.slice A m cap], 81, (0, 0)⟩, cb] (Mem.own2 rfl rfl hk hcb hne) Try.func63 rfl rfl rfl ?_
  refine W.seq ?_
  refine W.region ?_
  refine T.eff (e_alloc ze59 rfl rfl rfl) (Wt.plain rfl) ?_
  rintro _ _ ⟨k1, rfl, rfl⟩
  change (_ : List Blk → Prop) [_, _, _]
  refine T.nil ?_
  refine Ex.next ?_
  refine W.slots (L' := [(0, _), (2, _)]) ⟨rfl, rfl, trivial⟩ ?_
  refine W.seq ?_
  refine W.region ?_
  refine T.q (q_move rfl rfl) (Wt.plain rfl) rfl rfl ?_
  refine T.q (q_nil rfl rfl) (Wt.plain rfl) rfl rfl ?_
  refine T.q (q_fld fl81_0 rfl rfl) (Wt.plain rfl) rfl rfl ?_
  refine T.q (q_load1 ss22 0 rfl rfl rfl rfl) (Wt.plain rfl) rfl rfl ?_
  refine T.q (q_ixE1 sc22 0 (R_rd 1 rfl hrd) rfl rfl rfl (rfl) (by omega) (by first | omega | (simp; done) | (simp [-List.getD_eq_getElem?_getD]; omega))) (Wt.plain rfl) rfl rfl ?_
  refine T.q (q_loadE ss5 (R_rd 1 rfl hrd) rfl rfl (ints_get (by first | omega | (simp; done) | (simp [-List.getD_eq_getElem?_getD]; omega)))) (Wt.plain rfl) rfl rfl ?_
  refine T.q (q_int (b := 4) (q_conv un5 un3 rfl rfl) ?hE) (Wt.plain rfl) rfl rfl ?_
  case hE => rw [hk0]; rfl
  refine T.q (q_buildP (cells := .int .i64 4 :: (.int .i64 0 :: (.int .i64 0 :: (.slice none 0 0 :: (.slice none 0 0 :: (ints .u8 (List.replicate 8 0))))))) bp59 ze59 rfl rfl ⟨_, _, [.int .i64 4], _, rfl, rfl, rfl, (Nat.le_of_ble_eq_true rfl), rfl, rfl⟩) (Wt.plain rfl) rfl rfl ?_
  refine T.eff (e_alloc ze59 rfl rfl rfl) (Wt.plain rfl) ?_
  rintro _ _ ⟨k2, rfl, rfl⟩
  change (_ : List Blk → Prop) [_, _, _, _]
  refine T.eff (e_storeA (wd59.trans (congrArg some (by first | (simp; done) | (simp; omega)))) 3 rfl rfl rfl rfl (by first | (simp; done) | (simp; omega)) (one_cons rfl (one_cons rfl (one_cons rfl (one_cons rfl (one_cons rfl (ints_one)))))) rfl) (Wt.plain rfl) ?_
  rintro _ _ ⟨rfl, rfl⟩
  change (_ : List Blk → Prop) [_, _, _, _]
  refine T.nil ?_
  refine Ex.next ?_
  refine W.slots (L' := [(0, _), (2, _), (3, _)]) ⟨rfl, rfl, rfl, trivial⟩ ?_
  refine W.seq ?_
  refine W.region ?_
  refine T.q (q_move rfl rfl) (Wt.plain rfl) rfl rfl ?_
  refine T.q (q_move rfl rfl) (Wt.plain rfl) rfl rfl ?_
  refine T.q (q_nil rfl rfl) (Wt.plain rfl) rfl rfl ?_
  refine T.q (q_fld fl81_0 rfl rfl) (Wt.plain rfl) rfl rfl ?_
  refine T.q (q_load1 ss22 0 rfl rfl rfl rfl) (Wt.plain rfl) rfl rfl ?_
  refine T.q (q_sl sc22 1 m cap rfl rfl ⟨_, _, rfl, rfl⟩ rfl rfl (by first | omega | (simp; done) | (simp [-List.getD_eq_getElem?_getD]; omega)) (by first | omega | (simp; done) | (simp [-List.getD_eq_getElem?_getD]; omega)) (by first | omega | (simp; done) | (simp [-List.getD_eq_getElem?_getD]; omega)) (by simp)) (Wt.plain rfl) rfl rfl ?_
  have hrd1 := RdB.cut (l := 1) (cap := cap) hrd (by omega)
  have hbb1 := hbb.drop' 1
  refine T.q (q_nil rfl rfl) (Wt.plain rfl) rfl rfl ?_
  refine T.q (q_fld fl81_0 rfl rfl) (Wt.plain rfl) rfl rfl ?_
  refine T.eff (e_store1 ss22 0 rfl rfl rfl rfl (by simp) rfl rfl) (Wt.plain rfl) ?_
  rintro _ _ ⟨rfl, rfl⟩
  change (_ : List Blk → Prop) [_, _, _, _]
  refine T.nil ?_
  refine Ex.next ?_
  refine W.slots (L' := [(0, _), (2, _), (3, _)]) ⟨rfl, rfl, rfl, trivial⟩ ?_
  refine W.seq ?_
  refine W.seq ?_
  refine W.region ?_
  refine T.q (q_fld fl59_0 rfl rfl) (Wt.plain rfl) rfl rfl ?_
  refine T.q (q_load1 ss3 3 rfl rfl rfl (rfl)) (Wt.plain rfl) rfl rfl ?_
  refine T.nil ?_
  refine Ex.next ?_
  refine W.slots (L' := [(0, _), (2, _), (3, _), (24, _)]) ⟨rfl, rfl, rfl, rfl, trivial⟩ ?_
  refine W.block ?_
  refine W.seq ?_
  refine W.seq ?_
  refine W.region ?_
  refine T.q (q_bool (b := false) (q_eql rfl rfl rfl) (decide_eq_false (by decide))) (Wt.plain rfl) rfl rfl ?_
  refine T.q (q_assign rfl rfl) (Wt.plain rfl) rfl rfl ?_
  refine T.nil ?_
  refine Ex.next ?_
  refine W.slots (L' := [(0, _), (2, _), (3, _), (24, _), (25, _)]) ⟨rfl, rfl, rfl, rfl, rfl, trivial⟩ ?_
  refine W.condF rfl ?_
  refine W.region ?_
  refine T.q (q_bool (b := true) (q_eql rfl rfl rfl) (decide_eq_true (by decide))) (Wt.plain rfl) rfl rfl ?_
  refine T.q (q_assign rfl rfl) (Wt.plain rfl) rfl rfl ?_
  refine T.nil ?_
  refine Ex.next ?_
  refine W.slots (L' := [(0, _), (2, _), (3, _), (24, _), (25, _)]) ⟨rfl, rfl, rfl, rfl, rfl, trivial⟩ ?_
  refine W.condT rfl ?_
  refine W.seq ?_
  refine W.seq ?_
  refine W.drawP 8 [true, true, true, false] (by kernel_rfl) ?_
  refine D.take 0 rfl (by kernel_rfl) (S_sub (((((List.Sublist.slnil).cons _).cons_cons _).cons_cons _).cons_cons _)) (q_fld fl59_5 rfl rfl) (Wt.plain rfl) rfl rfl ?_
  refine D.take 1 rfl (by kernel_rfl) (S_sub (((((List.Sublist.slnil).cons _).cons_cons _).cons_cons _).cons_cons _)) (q_slAll ar57 rfl rfl) (Wt.plain rfl) rfl rfl ?_
  refine D.take 2 rfl (by kernel_rfl) (S_sub (((((List.Sublist.slnil).cons _).cons_cons _).cons_cons _).cons_cons _)) (q_move rfl rfl) (Wt.plain rfl) rfl rfl ?_
  refine D.take 3 rfl (by kernel_rfl) (S_sub (((((List.Sublist.slnil).cons _).cons_cons _).cons_cons _).cons_cons _)) (q_nil rfl rfl) (Wt.plain rfl) rfl rfl ?_
  refine D.take 4 rfl (by kernel_rfl) (S_sub (((((List.Sublist.slnil).cons _).cons_cons _).cons_cons _).cons_cons _)) (q_fld fl81_0 rfl rfl) (Wt.plain rfl) rfl rfl ?_
  refine D.take 5 rfl (by kernel_rfl) (S_sub (((((List.Sublist.slnil).cons _).cons_cons _).cons_cons _).cons_cons _)) (q_load1 ss22 0 rfl rfl rfl rfl) (Wt.plain rfl) rfl rfl ?_
  refine D.one 6 (by kernel_rfl) ?_
  refine Up.eff rfl (e_copyT sc22 3 (List.replicate 8 0) (b.drop 1) rfl (R_rd 1 rfl hrd1) rfl rfl rfl rfl (by first | (simp; done) | (simp; omega)) rfl rfl) (Wt.plain rfl) ?_
  rintro _ _ ⟨rfl, rfl⟩
  refine ⟨fun _ => (S_sub (((((List.Sublist.slnil).cons _).cons_cons _).cons_cons _).cons_cons _)), ?_⟩
  change (_ : List Blk → Prop) [_, _, _, _]
  refine D.take 7 rfl (by kernel_rfl) (S_sub (((((List.Sublist.slnil).cons _).cons_cons _).cons_cons _).cons_cons _)) (q_bool (b := true) (q_lss rfl rfl rfl) (decide_eq_true (by omega))) (Wt.plain rfl) rfl rfl ?_
  refine D.done (by kernel_rfl) ?_
  refine Ex.next ?_
  refine W.slots (L' := [(0, _), (2, _), (3, _), (35, _)]) ⟨rfl, rfl, rfl, rfl, trivial⟩ ?_
  refine W.condT rfl ?_
  refine W.region ?_
  refine T.effE (e_callE [] enters76 rfl rfl hx0 (fun w hm => sure_dies 3 (by decide) w) rfl rfl) (Wt.plain rfl) ?_ ?_
  ·
    rintro _ _ ⟨_, _, h, _⟩
    exact h.elim
  ·
    rintro _ _ ⟨_, ⟨rfl, rfl⟩, rfl⟩
    change (_ : List Blk → Prop) [_, _, _, _]
    refine Ex.then_panic ?_
    refine Ex.in_panic ?_
    refine Ex.then_panic ?_
    refine Ex.outP [false, false, false, false] ?_
    exact ⟨_, by rw [pFrame, hk0, pBody, if_pos (by decide), if_pos (by first | (simp; done) | (simp; omega))], rfl, rfl⟩
set_option maxRecDepth 100000 in
theorem frame_5 (b : List Int) {m : Nat} (hbm : b.length = m) (A : Option Addr) (cap rk : Nat) (cb : Blk) (hbb : Bytes b) (hle : m ≤ cap) (hbl : m ≤ 140737488351232) (hpos : 0 < m) (hrd : RdB cb A b) (hk0 : b.getD 0 0 = 5) (w0 : World) (hk : (⟨some rk, [.slice A m cap], 81, (0, 0)⟩ : Blk).here w0) (hcb : cb.here w0) (hne : cb.no ≠ some rk) : EndsX Try.prog 63 #[.pointer (some ⟨rk, 0, none⟩)] w0 (rk :: cb.no.toList) (fun v G => ∃ (q : Fm) (b' : List Int) (A' : Option Addr) (cap' : Nat) (cb' : Blk) (Gs : List Blk), pFrame b = .ok (q.f, b') ∧ q.OK ∧ frOK q.f ∧ Bytes b' ∧ b'.length < m ∧ v = .agg q.cells.toArray ∧ RdB cb' A' b' ∧ b'.length ≤ cap' ∧ FrsIn (cb' :: Gs) [q] ∧ cb ∈ cb' :: Gs ∧ G = ⟨some rk, [.slice A' b'.length cap'], 81, (0, 0)⟩ :: cb' :: Gs) (fun x G => ∃ e : Int, pFrame b = .error e ∧ x = dieV e ∧ G = []) := by
  have hb0 := hbb.getD 0
  refine spec_ofE 98 [⟨some rk, [.slice A m cap], 81, (0, 0)⟩, cb] (Mem.own2 rfl rfl hk hcb hne) Try.func63 rfl rfl rfl ?_
  refine W.seq ?_
  refine W.region ?_
  refine T.eff (e_alloc ze59 rfl rfl rfl) (Wt.plain rfl) ?_
  rintro _ _ ⟨k1, rfl, rfl⟩
  change (_ : List Blk → Prop) [_, _, _]
  refine T.nil ?_
  refine Ex.next ?_
  refine W.slots (L' := [(0, _), (2, _)]) ⟨rfl, rfl, trivial⟩ ?_
  refine W.seq ?_
  refine W.region ?_
  refine T.q (q_move rfl rfl) (Wt.plain rfl) rfl rfl ?_
  refine T.q (q_nil rfl rfl) (Wt.plain rfl) rfl rfl ?_
  refine T.q (q_fld fl81_0 rfl rfl) (Wt.plain rfl) rfl rfl ?_
  refine T.q (q_load1 ss22 0 rfl rfl rfl rfl) (Wt.plain rfl) rfl rfl ?_
  refine T.q (q_ixE1 sc22 0 (R_rd 1 rfl hrd) rfl rfl rfl (rfl) (by omega) (by first | omega | (simp; done) | (simp [-List.getD_eq_getElem?_getD]; omega))) (Wt.plain rfl) rfl rfl ?_
  refine T.q (q_loadE ss5 (R_rd 1 rfl hrd) rfl rfl (ints_get (by first | omega | (simp; done) | (simp [-List.getD_eq_getElem?_getD]; omega)))) (Wt.plain rfl) rfl rfl ?_
  refine T.q (q_int (b := 5) (q_conv un5 un3 rfl rfl) ?hE) (Wt.plain rfl) rfl rfl ?_
  case hE => rw [hk0]; rfl
  refine T.q (q_buildP (cells := .int .i64 5 :: (.int .i64 0 :: (.int .i64 0 :: (.slice none 0 0 :: (.slice none 0 0 :: (ints .u8 (List.replicate 8 0))))))) bp59 ze59 rfl rfl ⟨_, _, [.int .i64 5], _, rfl, rfl, rfl, (Nat.le_of_ble_eq_true rfl), rfl, rfl⟩) (Wt.plain rfl) rfl rfl ?_
  refine T.eff (e_alloc ze59 rfl rfl rfl) (Wt.plain rfl) ?_
  rintro _ _ ⟨k2, rfl, rfl⟩
  change (_ : List Blk → Prop) [_, _, _, _]
  refine T.eff (e_storeA (wd59.trans (congrArg some (by first | (simp; done) | (simp; omega)))) 3 rfl rfl rfl rfl (by first | (simp; done) | (simp; omega)) (one_cons rfl (one_cons rfl (one_cons rfl (one_cons rfl (one_cons rfl (ints_one)))))) rfl) (Wt.plain rfl) ?_
  rintro _ _ ⟨rfl, rfl⟩
  change (_ : List Blk → Prop) [_, _, _, _]
  refine T.nil ?_
  refine Ex.next ?_
  refine W.slots (L' := [(0, _), (2, _), (3, _)]) ⟨rfl, rfl, rfl, trivial⟩ ?_
  refine W.seq ?_
  refine W.region ?_
  refine T.q (q_move rfl rfl) (Wt.plain rfl) rfl rfl ?_
  refine T.q (q_move rfl rfl) (Wt.plain rfl) rfl rfl ?_
  refine T.q (q_nil rfl rfl) (Wt.plain rfl) rfl rfl ?_
  refine T.q (q_fld fl81_0 rfl rfl) (Wt.plain rfl) rfl rfl ?_
  refine T.q (q_load1 ss22 0 rfl rfl rfl rfl) (Wt.plain rfl) rfl rfl ?_
  refine T.q (q_sl sc22 1 m cap rfl rfl ⟨_, _, rfl, rfl⟩ rfl rfl (by first | omega | (simp; done) | (simp [-List.getD_eq_getElem?_getD]; omega)) (by first | omega | (simp; done) | (simp [-List.getD_eq_getElem?_getD]; omega)) (by first | omega | (simp; done) | (simp [-List.getD_eq_getElem?_getD]; omega)) (by simp)) (Wt.plain rfl) rfl rfl ?_
  have hrd1 := RdB.cut (l := 1) (cap := cap) hrd (by omega)
  have hbb1 := hbb.drop' 1
  refine T.q (q_nil rfl rfl) (Wt.plain rfl) rfl rfl ?_
  refine T.q (q_fld fl81_0 rfl rfl) (Wt.plain rfl) rfl rfl ?_
  refine T.eff (e_store1 ss22 0 rfl rfl rfl rfl (by simp) rfl rfl) (Wt.plain rfl) ?_
  rintro _ _ ⟨rfl, rfl⟩
  change (_ : List Blk → Prop) [_, _, _, _]
  refine T.nil ?_
  refine Ex.next ?_
  refine W.slots (L' := [(0, _), (2, _), (3, _)]) ⟨rfl, rfl, rfl, trivial⟩ ?_
  refine W.seq ?_
  refine W.seq ?_
  refine W.region ?_
  refine T.q (q_fld fl59_0 rfl rfl) (Wt.plain rfl) rfl rfl ?_
  refine T.q (q_load1 ss3 3 rfl rfl rfl (rfl)) (Wt.plain rfl) rfl rfl ?_
  refine T.nil ?_
  refine Ex.next ?_
  refine W.slots (L' := [(0, _), (2, _), (3, _), (24, _)]) ⟨rfl, rfl, rfl, rfl, trivial⟩ ?_
  refine W.block ?_
  refine W.seq ?_
  refine W.seq ?_
  refine W.region ?_
  refine T.q (q_bool (b := false) (q_eql rfl rfl rfl) (decide_eq_false (by decide))) (Wt.plain rfl) rfl rfl ?_
  refine T.q (q_assign rfl rfl) (Wt.plain rfl) rfl rfl ?_
  refine T.nil ?_
  refine Ex.next ?_
  refine W.slots (L' := [(0, _), (2, _), (3, _), (24, _), (25, _)]) ⟨rfl, rfl, rfl, rfl, rfl, trivial⟩ ?_
  refine W.condF rfl ?_
  refine W.region ?_
  refine T.q (q_bool (b := false) (q_eql rfl rfl rfl) (decide_eq_false (by decide))) (Wt.plain rfl) rfl rfl ?_
  refine T.q (q_assign rfl rfl) (Wt.plain rfl) rfl rfl ?_
  refine T.nil ?_
  refine Ex.next ?_
  refine W.slots (L' := [(0, _), (2, _), (3, _), (24, _), (25, _)]) ⟨rfl, rfl, rfl, rfl, rfl, trivial⟩ ?_
  refine W.condF rfl ?_
  refine W.seq ?_
  refine W.seq ?_
  refine W.region ?_
  refine T.q (q_bool (b := false) (q_eql rfl rfl rfl) (decide_eq_false (by decide))) (Wt.plain rfl) rfl rfl ?_
  refine T.q (q_assign rfl rfl) (Wt.plain rfl) rfl rfl ?_
  refine T.nil ?_
  refine Ex.next ?_
  refine W.slots (L' := [(0, _), (2, _), (3, _), (24, _), (46, _)]) ⟨rfl, rfl, rfl, rfl, rfl, trivial⟩ ?_
  refine W.condF rfl ?_
  refine W.seq ?_
  refine W.region ?_
  refine T.q (q_bool (b := false) (q_eql rfl rfl rfl) (decide_eq_false (by decide))) (Wt.plain rfl) rfl rfl ?_
  refine T.q (q_assign rfl rfl) (Wt.plain rfl) rfl rfl ?_
  refine T.nil ?_
  refine Ex.next ?_
  refine W.slots (L' := [(0, _), (2, _), (3, _), (24, _), (46, _)]) ⟨rfl, rfl, rfl, rfl, rfl, trivial⟩ ?_
  refine W.condF rfl ?_
  refine W.seq ?_
  refine W.region ?_
  refine T.q (q_bool (b := true) (q_eql rfl rfl rfl) (decide_eq_true (by decide))) (Wt.plain rfl) rfl rfl ?_
  refine T.q (q_assign rfl rfl) (Wt.plain rfl) rfl rfl ?_
  refine T.nil ?_
  refine Ex.next ?_
  refine W.slots (L' := [(0, _), (2, _), (3, _), (24, _), (46, _)]) ⟨rfl, rfl, rfl, rfl, rfl, trivial⟩ ?_
  refine W.condT rfl ?_
  refine W.skip ?_
  refine Ex.next ?_
  refine W.slots (L' := [(0, _), (2, _), (3, _), (46, _)]) ⟨rfl, rfl, rfl, rfl, trivial⟩ ?_
  refine W.condT rfl ?_
  refine W.region ?_
  refine T.q (q_move rfl rfl) (Wt.plain rfl) rfl rfl ?_
  refine T.effE (e_callE [false, true, true, true] enters77 rfl rfl (hx1 rfl rfl) (fun w hm => number_spec (b.drop 1) (by first | (simp; done) | (simp; omega)) (cut A cap 1) (cap - 1) rk hbb1 (by first | omega | (simp; done) | (simp; omega) | (simp at *; omega)) (by first | omega | (simp; done) | (simp; omega) | (simp at *; omega)) w (hm.at 0 rfl) (RdB.ext (i := 0) (j := 1) hrd1 hm rfl rfl (by decide))) rfl rfl) (Wt.plain rfl) ?_ ?_
  ·
    rintro _ _ ⟨_, _, ⟨n53, b53, A53, c53, cb53, hp53, hy53, hn53, hl53, hr53, hc53, rfl, rfl⟩, rfl, rfl⟩
    change (_ : List Blk → Prop) [_, _, _, _, _]
    refine T.q (q_fld fl59_1 rfl rfl) (Wt.plain rfl) rfl rfl ?_
    refine T.eff (e_storeP1 ss3 2 rfl rfl rfl rfl (by first | (simp; done) | (simp; omega)) rfl (set_skip1 (rfl)) rfl) (Wt.plain rfl) ?_
    rintro _ _ ⟨rfl, rfl⟩
    change (_ : List Blk → Prop) [_, _, _, _, _]
    refine T.nil ?_
    refine Ex.in_normal ?_
    refine Ex.next ?_
    refine W.slots (L' := [(0, _), (2, _), (3, _)]) ⟨rfl, rfl, rfl, trivial⟩ ?_
    refine W.seq ?_
    refine W.seq ?_
    refine W.region ?_
    refine T.q (q_fld fl59_0 rfl rfl) (Wt.plain rfl) rfl rfl ?_
    refine T.q (q_load1 ss3 2 rfl rfl rfl (rfl)) (Wt.plain rfl) rfl rfl ?_
    refine T.nil ?_
    refine Ex.next ?_
    refine W.slots (L' := [(0, _), (2, _), (3, _), (56, _)]) ⟨rfl, rfl, rfl, rfl, trivial⟩ ?_
    refine W.block ?_
    refine W.seq ?_
    refine W.region ?_
    refine T.q (q_bool (b := false) (q_eql rfl rfl rfl) (decide_eq_false (by decide))) (Wt.plain rfl) rfl rfl ?_
    refine T.q (q_assign rfl rfl) (Wt.plain rfl) rfl rfl ?_
    refine T.nil ?_
    refine Ex.next ?_
    refine W.slots (L' := [(0, _), (2, _), (3, _), (56, _), (57, _)]) ⟨rfl, rfl, rfl, rfl, rfl, trivial⟩ ?_
    refine W.condF rfl ?_
    refine W.seq ?_
    refine W.region ?_
    refine T.q (q_bool (b := false) (q_eql rfl rfl rfl) (decide_eq_false (by decide))) (Wt.plain rfl) rfl rfl ?_
    refine T.q (q_assign rfl rfl) (Wt.plain rfl) rfl rfl ?_
    refine T.nil ?_
    refine Ex.next ?_
    refine W.slots (L' := [(0, _), (2, _), (3, _), (56, _), (76, _)]) ⟨rfl, rfl, rfl, rfl, rfl, trivial⟩ ?_
    refine W.condF rfl ?_
    refine W.seq ?_
    refine W.region ?_
    refine T.q (q_bool (b := false) (q_eql rfl rfl rfl) (decide_eq_false (by decide))) (Wt.plain rfl) rfl rfl ?_
    refine T.q (q_assign rfl rfl) (Wt.plain rfl) rfl rfl ?_
    refine T.nil ?_
    refine Ex.next ?_
    refine W.slots (L' := [(0, _), (2, _), (3, _), (86, _)]) ⟨rfl, rfl, rfl, rfl, trivial⟩ ?_
    refine W.condF rfl ?_
    refine W.skip ?_
    refine Ex.in_normal ?_
    refine Ex.next ?_
    refine W.slots (L' := [(2, _), (3, _)]) ⟨rfl, rfl, trivial⟩ ?_
    refine W.seq ?_
    refine W.region ?_
    refine T.q (q_loadW (wd59.trans (congrArg some (by first | (simp; done) | (simp; omega)))) (R_blk 2 rfl) rfl rfl) (Wt.plain rfl) rfl rfl ?_
    refine T.eff (e_call enters47 rfl rfl (fun w hm => chk_spec 5 ((n53 : Nat) : Int) 0 [] [] (List.replicate 8 0) none none 0 0 (by simp) rfl w ((R_nilI .i64) w hm)) rfl rfl) (Wt.plain rfl) ?_
    rintro _ _ ⟨_, _, ⟨rfl, rfl⟩, rfl, rfl⟩
    change (_ : List Blk → Prop) [_, _, _, _, _]
    refine T.effE (e_callE [] enters76 rfl rfl hx0 (fun w hm => sure_spec (chkE (⟨5, ((n53 : Nat) : Int), 0, [], [], List.replicate 8 0⟩ : Frm)) w) rfl rfl) (Wt.plain rfl) ?_ ?_
    ·
      rintro _ _ ⟨_, _, ⟨hs3, rfl, rfl⟩, rfl, rfl⟩
      change (_ : List Blk → Prop) [_, _, _, _, _]
      refine T.nil ?_
      refine Ex.next ?_
      refine W.slots (L' := [(2, _), (3, _)]) ⟨rfl, rfl, trivial⟩ ?_
      refine W.seq ?_
      refine W.region ?_
      refine T.q (q_loadW (wd59.trans (congrArg some (by first | (simp; done) | (simp; omega)))) (R_blk 2 rfl) rfl rfl) (Wt.plain rfl) rfl rfl ?_
      refine T.eff (e_storeA (wd59.trans (congrArg some (by first | (simp; done) | (simp; omega)))) 1 rfl rfl rfl rfl (by first | (simp; done) | (simp; omega)) (one_cons rfl (one_cons rfl (one_cons rfl (one_cons rfl (one_cons rfl (ints_one)))))) rfl) (Wt.plain rfl) ?_
      rintro _ _ ⟨rfl, rfl⟩
      change (_ : List Blk → Prop) [_, _, _, _, _]
      refine T.nil ?_
      refine Ex.next ?_
      refine W.less (L' := [(2, _)]) [true, true, false, true, true] ⟨rfl, trivial⟩ ?_
      change (_ : List Blk → Prop) [_, _, _, _]
      refine W.ret ?_
      refine Ex.last 2 rfl ?_
      change (_ : List Blk → Prop) [_, _, _, _]
      refine Ex.last 2 rfl ?_
      change (_ : List Blk → Prop) [_, _, _, _]
      refine Ex.last 0 rfl ?_
      change (_ : List Blk → Prop) [_, _, _, _]
      refine Ex.fine ?_
      refine Ex.outC [false, true, true, true] 0 rfl (by exact (wd59.trans (congrArg some (by first | (simp; done) | (simp; omega))))) rfl rfl ?_
      have hfo : frOK (⟨5, ((n53 : Nat) : Int), 0, [], [], List.replicate 8 0⟩ : Frm) := chkE_zero.1 hs3
      have hqo : Fm.OK (⟨(⟨5, ((n53 : Nat) : Int), 0, [], [], List.replicate 8 0⟩ : Frm), none, 0, none, 0⟩ : Fm) := ⟨rfl, by simp, Nat.le_refl _, by simp, (fun _ h => by cases h), Bytes.replicate 8⟩
      have hin : FrsIn (cb53 :: [cb]) [(⟨(⟨5, ((n53 : Nat) : Int), 0, [], [], List.replicate 8 0⟩ : Frm), none, 0, none, 0⟩ : Fm)] := fun w hw q hq => by rw [List.mem_singleton] at hq; subst hq; exact ⟨Reads.nil w none, Reads.nil w none⟩
      have hlen : (b53).length = b53.length := by first | rfl | (simp; done) | (simp; omega)
      refine ⟨(⟨(⟨5, ((n53 : Nat) : Int), 0, [], [], List.replicate 8 0⟩ : Frm), none, 0, none, 0⟩ : Fm), b53, A53, c53, cb53, [cb], by rw [pFrame, hk0, pBody, if_neg (by decide), if_neg (by decide), if_neg (by decide), if_neg (by decide), if_pos (by decide), hp53, andThen_ok, chk, if_pos hfo], hqo, hfo, hy53, ?_, rfl, hr53, ?_, hin, .tail _ (.head _), ?_⟩
      · rw [hlen]; omega
      · rw [hlen]; omega
      · rw [hlen]; rfl
    ·
      rintro _ _ ⟨_, ⟨hs3, rfl, rfl⟩, rfl⟩
      change (_ : List Blk → Prop) [_, _, _, _, _]
      refine Ex.then_panic ?_
      refine Ex.outP [false, false, false, false, false] ?_
      have hnf : ¬ frOK (⟨5, ((n53 : Nat) : Int), 0, [], [], List.replicate 8 0⟩ : Frm) := fun g => hs3 (chkE_yes g)
      exact ⟨_, by rw [pFrame, hk0, pBody, if_neg (by decide), if_neg (by decide), if_neg (by decide), if_neg (by decide), if_pos (by decide), hp53, andThen_ok, chk, if_neg hnf, chkE_no hnf], rfl, rfl⟩
  ·
    rintro _ _ ⟨_, ⟨e53, hp53, rfl, rfl⟩, rfl⟩
    change (_ : List Blk → Prop) [_, _, _]
    refine Ex.in_panic ?_
    refine Ex.then_panic ?_
    refine Ex.outP [false, false, false] ?_
    exact ⟨_, by rw [pFrame, hk0, pBody, if_neg (by decide), if_neg (by decide), if_neg (by decide), if_neg (by decide), if_pos (by decide), hp53, andThen_error], rfl, rfl⟩
set_option maxRecDepth 100000 in
theorem frame_6 (b : List Int) {m : Nat} (hbm : b.length = m) (A : Option Addr) (cap rk : Nat) (cb : Blk) (hbb : Bytes b) (hle : m ≤ cap) (hbl : m ≤ 140737488351232) (hpos : 0 < m) (hrd : RdB cb A b) (hk0 : b.getD 0 0 = 6) (w0 : World) (hk : (⟨some rk, [.slice A m cap], 81, (0, 0)⟩ : Blk).here w0) (hcb : cb.here w0) (hne : cb.no ≠ some rk) : EndsX Try.prog 63 #[.pointer (some ⟨rk, 0, none⟩)] w0 (rk :: cb.no.toList) (fun v G => ∃ (q : Fm) (b' : List Int) (A' : Option Addr) (cap' : Nat) (cb' : Blk) (Gs : List Blk), pFrame b = .ok (q.f, b') ∧ q.OK ∧ frOK q.f ∧ Bytes b' ∧ b'.length < m ∧ v = .agg q.cells.toArray ∧ RdB cb' A' b' ∧ b'.length ≤ cap' ∧ FrsIn (cb' :: Gs) [q] ∧ cb ∈ cb' :: Gs ∧ G = ⟨some rk, [.slice A' b'.length cap'], 81, (0, 0)⟩ :: cb' :: Gs) (fun x G => ∃ e : Int, pFrame b = .error e ∧ x = dieV e ∧ G = []) := by
  have hb0 := hbb.getD 0
  refine spec_ofE 98 [⟨some rk, [.slice A m cap], 81, (0, 0)⟩, cb] (Mem.own2 rfl rfl hk hcb hne) Try.func63 rfl rfl rfl ?_
  refine W.seq ?_
  refine W.region ?_
  refine T.eff (e_alloc ze59 rfl rfl rfl) (Wt.plain rfl) ?_
  rintro _ _ ⟨k1, rfl, rfl⟩
  change (_ : List Blk → Prop) [_, _, _]
  refine T.nil ?_
  refine Ex.next ?_
  refine W.slots (L' := [(0, _), (2, _)]) ⟨rfl, rfl, trivial⟩ ?_
  refine W.seq ?_
  refine W.region ?_
  refine T.q (q_move rfl rfl) (Wt.plain rfl) rfl rfl ?_
  refine T.q (q_nil rfl rfl) (Wt.plain rfl) rfl rfl ?_
  refine T.q (q_fld fl81_0 rfl rfl) (Wt.plain rfl) rfl rfl ?_
  refine T.q (q_load1 ss22 0 rfl rfl rfl rfl) (Wt.plain rfl) rfl rfl ?_
  refine T.q (q_ixE1 sc22 0 (R_rd 1 rfl hrd) rfl rfl rfl (rfl) (by omega) (by first | omega | (simp; done) | (simp [-List.getD_eq_getElem?_getD]; omega))) (Wt.plain rfl) rfl rfl ?_
  refine T.q (q_loadE ss5 (R_rd 1 rfl hrd) rfl rfl (ints_get (by first | omega | (simp; done) | (simp [-List.getD_eq_getElem?_getD]; omega)))) (Wt.plain rfl) rfl rfl ?_
  refine T.q (q_int (b := 6) (q_conv un5 un3 rfl rfl) ?hE) (Wt.plain rfl) rfl rfl ?_
  case hE => rw [hk0]; rfl
  refine T.q (q_buildP (cells := .int .i64 6 :: (.int .i64 0 :: (.int .i64 0 :: (.slice none 0 0 :: (.slice none 0 0 :: (ints .u8 (List.replicate 8 0))))))) bp59 ze59 rfl rfl ⟨_, _, [.int .i64 6], _, rfl, rfl, rfl, (Nat.le_of_ble_eq_true rfl), rfl, rfl⟩) (Wt.plain rfl) rfl rfl ?_
  refine T.eff (e_alloc ze59 rfl rfl rfl) (Wt.plain rfl) ?_
  rintro _ _ ⟨k2, rfl, rfl⟩
  change (_ : List Blk → Prop) [_, _, _, _]
  refine T.eff (e_storeA (wd59.trans (congrArg some (by first | (simp; done) | (simp; omega)))) 3 rfl rfl rfl rfl (by first | (simp; done) | (simp; omega)) (one_cons rfl (one_cons rfl (one_cons rfl (one_cons rfl (one_cons rfl (ints_one)))))) rfl) (Wt.plain rfl) ?_
  rintro _ _ ⟨rfl, rfl⟩
  change (_ : List Blk → Prop) [_, _, _, _]
  refine T.nil ?_
  refine Ex.next ?_
  refine W.slots (L' := [(0, _), (2, _), (3, _)]) ⟨rfl, rfl, rfl, trivial⟩ ?_
  refine W.seq ?_
  refine W.region ?_
  refine T.q (q_move rfl rfl) (Wt.plain rfl) rfl rfl ?_
  refine T.q (q_move rfl rfl) (Wt.plain rfl) rfl rfl ?_
  refine T.q (q_nil rfl rfl) (Wt.plain rfl) rfl rfl ?_
  refine T.q (q_fld fl81_0 rfl rfl) (Wt.plain rfl) rfl rfl ?_
  refine T.q (q_load1 ss22 0 rfl rfl rfl rfl) (Wt.plain rfl) rfl rfl ?_
  refine T.q (q_sl sc22 1 m cap rfl rfl ⟨_, _, rfl, rfl⟩ rfl rfl (by first | omega | (simp; done) | (simp [-List.getD_eq_getElem?_getD]; omega)) (by first | omega | (simp; done) | (simp [-List.getD_eq_getElem?_getD]; omega)) (by first | omega | (simp; done) | (simp [-List.getD_eq_getElem?_getD]; omega)) (by simp)) (Wt.plain rfl) rfl rfl ?_
  have hrd1 := RdB.cut (l := 1) (cap := cap) hrd (by omega)
  have hbb1 := hbb.drop' 1
  refine T.q (q_nil rfl rfl) (Wt.plain rfl) rfl rfl ?_
  refine T.q (q_fld fl81_0 rfl rfl) (Wt.plain rfl) rfl rfl ?_
  refine T.eff (e_store1 ss22 0 rfl rfl rfl rfl (by simp) rfl rfl) (Wt.plain rfl) ?_
  rintro _ _ ⟨rfl, rfl⟩
  change (_ : List Blk → Prop) [_, _, _, _]
  refine T.nil ?_
  refine Ex.next ?_
  refine W.slots (L' := [(0, _), (2, _), (3, _)]) ⟨rfl, rfl, rfl, trivial⟩ ?_
  refine W.seq ?_
  refine W.seq ?_
  refine W.region ?_
  refine T.q (q_fld fl59_0 rfl rfl) (Wt.plain rfl) rfl rfl ?_
  refine T.q (q_load1 ss3 3 rfl rfl rfl (rfl)) (Wt.plain rfl) rfl rfl ?_
  refine T.nil ?_
  refine Ex.next ?_
  refine W.slots (L' := [(0, _), (2, _), (3, _), (24, _)]) ⟨rfl, rfl, rfl, rfl, trivial⟩ ?_
  refine W.block ?_
  refine W.seq ?_
  refine W.seq ?_
  refine W.region ?_
  refine T.q (q_bool (b := false) (q_eql rfl rfl rfl) (decide_eq_false (by decide))) (Wt.plain rfl) rfl rfl ?_
  refine T.q (q_assign rfl rfl) (Wt.plain rfl) rfl rfl ?_
  refine T.nil ?_
  refine Ex.next ?_
  refine W.slots (L' := [(0, _), (2, _), (3, _), (24, _), (25, _)]) ⟨rfl, rfl, rfl, rfl, rfl, trivial⟩ ?_
  refine W.condF rfl ?_
  refine W.region ?_
  refine T.q (q_bool (b := false) (q_eql rfl rfl rfl) (decide_eq_false (by decide))) (Wt.plain rfl) rfl rfl ?_
  refine T.q (q_assign rfl rfl) (Wt.plain rfl) rfl rfl ?_
  refine T.nil ?_
  refine Ex.next ?_
  refine W.slots (L' := [(0, _), (2, _), (3, _), (24, _), (25, _)]) ⟨rfl, rfl, rfl, rfl, rfl, trivial⟩ ?_
  refine W.condF rfl ?_
  refine W.seq ?_
  refine W.seq ?_
  refine W.region ?_
  refine T.q (q_bool (b := false) (q_eql rfl rfl rfl) (decide_eq_false (by decide))) (Wt.plain rfl) rfl rfl ?_
  refine T.q (q_assign rfl rfl) (Wt.plain rfl) rfl rfl ?_
  refine T.nil ?_
  refine Ex.next ?_
  refine W.slots (L' := [(0, _), (2, _), (3, _), (24, _), (46, _)]) ⟨rfl, rfl, rfl, rfl, rfl, trivial⟩ ?_
  refine W.condF rfl ?_
  refine W.seq ?_
  refine W.region ?_
  refine T.q (q_bool (b := false) (q_eql rfl rfl rfl) (decide_eq_false (by decide))) (Wt.plain rfl) rfl rfl ?_
  refine T.q (q_assign rfl rfl) (Wt.plain rfl) rfl rfl ?_
  refine T.nil ?_
  refine Ex.next ?_
  refine W.slots (L' := [(0, _), (2, _), (3, _), (24, _), (46, _)]) ⟨rfl, rfl, rfl, rfl, rfl, trivial⟩ ?_
  refine W.condF rfl ?_
  refine W.seq ?_
  refine W.region ?_
  refine T.q (q_bool (b := false) (q_eql rfl rfl rfl) (decide_eq_false (by decide))) (Wt.plain rfl) rfl rfl ?_
  refine T.q (q_assign rfl rfl) (Wt.plain rfl) rfl rfl ?_
  refine T.nil ?_
  refine Ex.next ?_
  refine W.slots (L' := [(0, _), (2, _), (3, _), (24, _), (46, _)]) ⟨rfl, rfl, rfl, rfl, rfl, trivial⟩ ?_
  refine W.condF rfl ?_
  refine W.seq ?_
  refine W.region ?_
  refine T.q (q_bool (b := true) (q_eql rfl rfl rfl) (decide_eq_true (by decide))) (Wt.plain rfl) rfl rfl ?_
  refine T.q (q_assign rfl rfl) (Wt.plain rfl) rfl rfl ?_
  refine T.nil ?_
  refine Ex.next ?_
  refine W.slots (L' := [(0, _), (2, _), (3, _), (24, _), (46, _)]) ⟨rfl, rfl, rfl, rfl, rfl, trivial⟩ ?_
  refine W.condT rfl ?_
  refine W.skip ?_
  refine Ex.next ?_
  refine W.slots (L' := [(0, _), (2, _), (3, _), (46, _)]) ⟨rfl, rfl, rfl, rfl, trivial⟩ ?_
  refine W.condT rfl ?_
  refine W.region ?_
  refine T.q (q_move rfl rfl) (Wt.plain rfl) rfl rfl ?_
  refine T.effE (e_callE [false, true, true, true] enters77 rfl rfl (hx1 rfl rfl) (fun w hm => number_spec (b.drop 1) (by first | (simp; done) | (simp; omega)) (cut A cap 1) (cap - 1) rk hbb1 (by first | omega | (simp; done) | (simp; omega) | (simp at *; omega)) (by first | omega | (simp; done) | (simp; omega) | (simp at *; omega)) w (hm.at 0 rfl) (RdB.ext (i := 0) (j := 1) hrd1 hm rfl rfl (by decide))) rfl rfl) (Wt.plain rfl) ?_ ?_
  ·
    rintro _ _ ⟨_, _, ⟨n53, b53, A53, c53, cb53, hp53, hy53, hn53, hl53, hr53, hc53, rfl, rfl⟩, rfl, rfl⟩
    change (_ : List Blk → Prop) [_, _, _, _, _]
    refine T.q (q_fld fl59_1 rfl rfl) (Wt.plain rfl) rfl rfl ?_
    refine T.eff (e_storeP1 ss3 2 rfl rfl rfl rfl (by first | (simp; done) | (simp; omega)) rfl (set_skip1 (rfl)) rfl) (Wt.plain rfl) ?_
    rintro _ _ ⟨rfl, rfl⟩
    change (_ : List Blk → Prop) [_, _, _, _, _]
    refine T.nil ?_
    refine Ex.in_normal ?_
    refine Ex.next ?_
    refine W.slots (L' := [(0, _), (2, _), (3, _)]) ⟨rfl, rfl, rfl, trivial⟩ ?_
    refine W.seq ?_
    refine W.seq ?_
    refine W.region ?_
    refine T.q (q_fld fl59_0 rfl rfl) (Wt.plain rfl) rfl rfl ?_
    refine T.q (q_load1 ss3 2 rfl rfl rfl (rfl)) (Wt.plain rfl) rfl rfl ?_
    refine T.nil ?_
    refine Ex.next ?_
    refine W.slots (L' := [(0, _), (2, _), (3, _), (56, _)]) ⟨rfl, rfl, rfl, rfl, trivial⟩ ?_
    refine W.block ?_
    refine W.seq ?_
    refine W.region ?_
    refine T.q (q_bool (b := false) (q_eql rfl rfl rfl) (decide_eq_false (by decide))) (Wt.plain rfl) rfl rfl ?_
    refine T.q (q_assign rfl rfl) (Wt.plain rfl) rfl rfl ?_
    refine T.nil ?_
    refine Ex.next ?_
    refine W.slots (L' := [(0, _), (2, _), (3, _), (56, _), (57, _)]) ⟨rfl, rfl, rfl, rfl, rfl, trivial⟩ ?_
    refine W.condF rfl ?_
    refine W.seq ?_
    refine W.region ?_
    refine T.q (q_bool (b := false) (q_eql rfl rfl rfl) (decide_eq_false (by decide))) (Wt.plain rfl) rfl rfl ?_
    refine T.q (q_assign rfl rfl) (Wt.plain rfl) rfl rfl ?_
    refine T.nil ?_
    refine Ex.next ?_
    refine W.slots (L' := [(0, _), (2, _), (3, _), (56, _), (76, _)]) ⟨rfl, rfl, rfl, rfl, rfl, trivial⟩ ?_
    refine W.condF rfl ?_
    refine W.seq ?_
    refine W.region ?_
    refine T.q (q_bool (b := false) (q_eql rfl rfl rfl) (decide_eq_false (by decide))) (Wt.plain rfl) rfl rfl ?_
    refine T.q (q_assign rfl rfl) (Wt.plain rfl) rfl rfl ?_
    refine T.nil ?_
    refine Ex.next ?_
    refine W.slots (L' := [(0, _), (2, _), (3, _), (86, _)]) ⟨rfl, rfl, rfl, rfl, trivial⟩ ?_
    refine W.condF rfl ?_
    refine W.skip ?_
    refine Ex.in_normal ?_
    refine Ex.next ?_
    refine W.slots (L' := [(2, _), (3, _)]) ⟨rfl, rfl, trivial⟩ ?_
    refine W.seq ?_
    refine W.region ?_
    refine T.q (q_loadW (wd59.trans (congrArg some (by first | (simp; done) | (simp; omega)))) (R_blk 2 rfl) rfl rfl) (Wt.plain rfl) rfl rfl ?_
    refine T.eff (e_call enters47 rfl rfl (fun w hm => chk_spec 6 ((n53 : Nat) : Int) 0 [] [] (List.replicate 8 0) none none 0 0 (by simp) rfl w ((R_nilI .i64) w hm)) rfl rfl) (Wt.plain rfl) ?_
    rintro _ _ ⟨_, _, ⟨rfl, rfl⟩, rfl, rfl⟩
    change (_ : List Blk → Prop) [_, _, _, _, _]
    refine T.effE (e_callE [] enters76 rfl rfl hx0 (fun w hm => sure_spec (chkE (⟨6, ((n53 : Nat) : Int), 0, [], [], List.replicate 8 0⟩ : Frm)) w) rfl rfl) (Wt.plain rfl) ?_ ?_
    ·
      rintro _ _ ⟨_, _, ⟨hs3, rfl, rfl⟩, rfl, rfl⟩
      change (_ : List Blk → Prop) [_, _, _, _, _]
      refine T.nil ?_
      refine Ex.next ?_
      refine W.slots (L' := [(2, _), (3, _)]) ⟨rfl, rfl, trivial⟩ ?_
      refine W.seq ?_
      refine W.region ?_
      refine T.q (q_loadW (wd59.trans (congrArg some (by first | (simp; done) | (simp; omega)))) (R_blk 2 rfl) rfl rfl) (Wt.plain rfl) rfl rfl ?_
      refine T.eff (e_storeA (wd59.trans (congrArg some (by first | (simp; done) | (simp; omega)))) 1 rfl rfl rfl rfl (by first | (simp; done) | (simp; omega)) (one_cons rfl (one_cons rfl (one_cons rfl (one_cons rfl (one_cons rfl (ints_one)))))) rfl) (Wt.plain rfl) ?_
      rintro _ _ ⟨rfl, rfl⟩
      change (_ : List Blk → Prop) [_, _, _, _, _]
      refine T.nil ?_
      refine Ex.next ?_
      refine W.less (L' := [(2, _)]) [true, true, false, true, true] ⟨rfl, trivial⟩ ?_
      change (_ : List Blk → Prop) [_, _, _, _]
      refine W.ret ?_
      refine Ex.last 2 rfl ?_
      change (_ : List Blk → Prop) [_, _, _, _]
      refine Ex.last 2 rfl ?_
      change (_ : List Blk → Prop) [_, _, _, _]
      refine Ex.last 0 rfl ?_
      change (_ : List Blk → Prop) [_, _, _, _]
      refine Ex.fine ?_
      refine Ex.outC [false, true, true, true] 0 rfl (by exact (wd59.trans (congrArg some (by first | (simp; done) | (simp; omega))))) rfl rfl ?_
      have hfo : frOK (⟨6, ((n53 : Nat) : Int), 0, [], [], List.replicate 8 0⟩ : Frm) := chkE_zero.1 hs3
      have hqo : Fm.OK (⟨(⟨6, ((n53 : Nat) : Int), 0, [], [], List.replicate 8 0⟩ : Frm), none, 0, none, 0⟩ : Fm) := ⟨rfl, by simp, Nat.le_refl _, by simp, (fun _ h => by cases h), Bytes.replicate 8⟩
      have hin : FrsIn (cb53 :: [cb]) [(⟨(⟨6, ((n53 : Nat) : Int), 0, [], [], List.replicate 8 0⟩ : Frm), none, 0, none, 0⟩ : Fm)] := fun w hw q hq => by rw [List.mem_singleton] at hq; subst hq; exact ⟨Reads.nil w none, Reads.nil w none⟩
      have hlen : (b53).length = b53.length := by first | rfl | (simp; done) | (simp; omega)
      refine ⟨(⟨(⟨6, ((n53 : Nat) : Int), 0, [], [], List.replicate 8 0⟩ : Frm), none, 0, none, 0⟩ : Fm), b53, A53, c53, cb53, [cb], by rw [pFrame, hk0, pBody, if_neg (by decide), if_neg (by decide), if_neg (by decide), if_neg (by decide), if_pos (by decide), hp53, andThen_ok, chk, if_pos hfo], hqo, hfo, hy53, ?_, rfl, hr53, ?_, hin, .tail _ (.head _), ?_⟩
      · rw [hlen]; omega
      · rw [hlen]; omega
      · rw [hlen]; rfl
    ·
      rintro _ _ ⟨_, ⟨hs3, rfl, rfl⟩, rfl⟩
      change (_ : List Blk → Prop) [_, _, _, _, _]
      refine Ex.then_panic ?_
      refine Ex.outP [false, false, false, false, false] ?_
      have hnf : ¬ frOK (⟨6, ((n53 : Nat) : Int), 0, [], [], List.replicate 8 0⟩ : Frm) := fun g => hs3 (chkE_yes g)
      exact ⟨_, by rw [pFrame, hk0, pBody, if_neg (by decide), if_neg (by decide), if_neg (by decide), if_neg (by decide), if_pos (by decide), hp53, andThen_ok, chk, if_neg hnf, chkE_no hnf], rfl, rfl⟩
  ·
    rintro _ _ ⟨_, ⟨e53, hp53, rfl, rfl⟩, rfl⟩
    change (_ : List Blk → Prop) [_, _, _]
    refine Ex.in_panic ?_
    refine Ex.then_panic ?_
    refine Ex.outP [false, false, false] ?_
    exact ⟨_, by rw [pFrame, hk0, pBody, if_neg (by decide), if_neg (by decide), if_neg (by decide), if_neg (by decide), if_pos (by decide), hp53, andThen_error], rfl, rfl⟩
set_option maxRecDepth 100000 in
theorem frame_7 (b : List Int) {m : Nat} (hbm : b.length = m) (A : Option Addr) (cap rk : Nat) (cb : Blk) (hbb : Bytes b) (hle : m ≤ cap) (hbl : m ≤ 140737488351232) (hpos : 0 < m) (hrd : RdB cb A b) (hk0 : b.getD 0 0 = 7) (w0 : World) (hk : (⟨some rk, [.slice A m cap], 81, (0, 0)⟩ : Blk).here w0) (hcb : cb.here w0) (hne : cb.no ≠ some rk) : EndsX Try.prog 63 #[.pointer (some ⟨rk, 0, none⟩)] w0 (rk :: cb.no.toList) (fun v G => ∃ (q : Fm) (b' : List Int) (A' : Option Addr) (cap' : Nat) (cb' : Blk) (Gs : List Blk), pFrame b = .ok (q.f, b') ∧ q.OK ∧ frOK q.f ∧ Bytes b' ∧ b'.length < m ∧ v = .agg q.cells.toArray ∧ RdB cb' A' b' ∧ b'.length ≤ cap' ∧ FrsIn (cb' :: Gs) [q] ∧ cb ∈ cb' :: Gs ∧ G = ⟨some rk, [.slice A' b'.length cap'], 81, (0, 0)⟩ :: cb' :: Gs) (fun x G => ∃ e : Int, pFrame b = .error e ∧ x = dieV e ∧ G = []) := by
  have hb0 := hbb.getD 0
  refine spec_ofE 98 [⟨some rk, [.slice A m cap], 81, (0, 0)⟩, cb] (Mem.own2 rfl rfl hk hcb hne) Try.func63 rfl rfl rfl ?_
  refine W.seq ?_
  refine W.region ?_
  refine T.eff (e_alloc ze59 rfl rfl rfl) (Wt.plain rfl) ?_
  rintro _ _ ⟨k1, rfl, rfl⟩
  change (_ : List Blk → Prop) [_, _, _]
  refine T.nil ?_
  refine Ex.next ?_
  refine W.slots (L' := [(0, _), (2, _)]) ⟨rfl, rfl, trivial⟩ ?_
  refine W.seq ?_
  refine W.region ?_
  refine T.q (q_move rfl rfl) (Wt.plain rfl) rfl rfl ?_
  refine T.q (q_nil rfl rfl) (Wt.plain rfl) rfl rfl ?_
  refine T.q (q_fld fl81_0 rfl rfl) (Wt.plain rfl) rfl rfl ?_
  refine T.q (q_load1 ss22 0 rfl rfl rfl rfl) (Wt.plain rfl) rfl rfl ?_
  refine T.q (q_ixE1 sc22 0 (R_rd 1 rfl hrd) rfl rfl rfl (rfl) (by omega) (by first | omega | (simp; done) | (simp [-List.getD_eq_getElem?_getD]; omega))) (Wt.plain rfl) rfl rfl ?_
  refine T.q (q_loadE ss5 (R_rd 1 rfl hrd) rfl rfl (ints_get (by first | omega | (simp; done) | (simp [-List.getD_eq_getElem?_getD]; omega)))) (Wt.plain rfl) rfl rfl ?_
  refine T.q (q_int (b := 7) (q_conv un5 un3 rfl rfl) ?hE) (Wt.plain rfl) rfl rfl ?_
  case hE => rw [hk0]; rfl
  refine T.q (q_buildP (cells := .int .i64 7 :: (.int .i64 0 :: (.int .i64 0 :: (.slice none 0 0 :: (.slice none 0 0 :: (ints .u8 (List.replicate 8 0))))))) bp59 ze59 rfl rfl ⟨_, _, [.int .i64 7], _, rfl, rfl, rfl, (Nat.le_of_ble_eq_true rfl), rfl, rfl⟩) (Wt.plain rfl) rfl rfl ?_
  refine T.eff (e_alloc ze59 rfl rfl rfl) (Wt.plain rfl) ?_
  rintro _ _ ⟨k2, rfl, rfl⟩
  change (_ : List Blk → Prop) [_, _, _, _]
  refine T.eff (e_storeA (wd59.trans (congrArg some (by first | (simp; done) | (simp; omega)))) 3 rfl rfl rfl rfl (by first | (simp; done) | (simp; omega)) (one_cons rfl (one_cons rfl (one_cons rfl (one_cons rfl (one_cons rfl (ints_one)))))) rfl) (Wt.plain rfl) ?_
  rintro _ _ ⟨rfl, rfl⟩
  change (_ : List Blk → Prop) [_, _, _, _]
  refine T.nil ?_
  refine Ex.next ?_
  refine W.slots (L' := [(0, _), (2, _), (3, _)]) ⟨rfl, rfl, rfl, trivial⟩ ?_
  refine W.seq ?_
  refine W.region ?_
  refine T.q (q_move rfl rfl) (Wt.plain rfl) rfl rfl ?_
  refine T.q (q_move rfl rfl) (Wt.plain rfl) rfl rfl ?_
  refine T.q (q_nil rfl rfl) (Wt.plain rfl) rfl rfl ?_
  refine T.q (q_fld fl81_0 rfl rfl) (Wt.plain rfl) rfl rfl ?_
  refine T.q (q_load1 ss22 0 rfl rfl rfl rfl) (Wt.plain rfl) rfl rfl ?_
  refine T.q (q_sl sc22 1 m cap rfl rfl ⟨_, _, rfl, rfl⟩ rfl rfl (by first | omega | (simp; done) | (simp [-List.getD_eq_getElem?_getD]; omega)) (by first | omega | (simp; done) | (simp [-List.getD_eq_getElem?_getD]; omega)) (by first | omega | (simp; done) | (simp [-List.getD_eq_getElem?_getD]; omega)) (by simp)) (Wt.plain rfl) rfl rfl ?_
  have hrd1 := RdB.cut (l := 1) (cap := cap) hrd (by omega)
  have hbb1 := hbb.drop' 1
  refine T.q (q_nil rfl rfl) (Wt.plain rfl) rfl rfl ?_
  refine T.q (q_fld fl81_0 rfl rfl) (Wt.plain rfl) rfl rfl ?_
  refine T.eff (e_store1 ss22 0 rfl rfl rfl rfl (by simp) rfl rfl) (Wt.plain rfl) ?_
  rintro _ _ ⟨rfl, rfl⟩
  change (_ : List Blk → Prop) [_, _, _, _]
  refine T.nil ?_
  refine Ex.next ?_
  refine W.slots (L' := [(0, _), (2, _), (3, _)]) ⟨rfl, rfl, rfl, trivial⟩ ?_
  refine W.seq ?_
  refine W.seq ?_
  refine W.region ?_
  refine T.q (q_fld fl59_0 rfl rfl) (Wt.plain rfl) rfl rfl ?_
  refine T.q (q_load1 ss3 3 rfl rfl rfl (rfl)) (Wt.plain rfl) rfl rfl ?_
  refine T.nil ?_
  refine Ex.next ?_
  refine W.slots (L' := [(0, _), (2, _), (3, _), (24, _)]) ⟨rfl, rfl, rfl, rfl, trivial⟩ ?_
  refine W.block ?_
  refine W.seq ?_
  refine W.seq ?_
  refine W.region ?_
  refine T.q (q_bool (b := false) (q_eql rfl rfl rfl) (decide_eq_false (by decide))) (Wt.plain rfl) rfl rfl ?_
  refine T.q (q_assign rfl rfl) (Wt.plain rfl) rfl rfl ?_
  refine T.nil ?_
  refine Ex.next ?_
  refine W.slots (L' := [(0, _), (2, _), (3, _), (24, _), (25, _)]) ⟨rfl, rfl, rfl, rfl, rfl, trivial⟩ ?_
  refine W.condF rfl ?_
  refine W.region ?_
  refine T.q (q_bool (b := false) (q_eql rfl rfl rfl) (decide_eq_false (by decide))) (Wt.plain rfl) rfl rfl ?_
  refine T.q (q_assign rfl rfl) (Wt.plain rfl) rfl rfl ?_
  refine T.nil ?_
  refine Ex.next ?_
  refine W.slots (L' := [(0, _), (2, _), (3, _), (24, _), (25, _)]) ⟨rfl, rfl, rfl, rfl, rfl, trivial⟩ ?_
  refine W.condF rfl ?_
  refine W.seq ?_
  refine W.seq ?_
  refine W.region ?_
  refine T.q (q_bool (b := false) (q_eql rfl rfl rfl) (decide_eq_false (by decide))) (Wt.plain rfl) rfl rfl ?_
  refine T.q (q_assign rfl rfl) (Wt.plain rfl) rfl rfl ?_
  refine T.nil ?_
  refine Ex.next ?_
  refine W.slots (L' := [(0, _), (2, _), (3, _), (24, _), (46, _)]) ⟨rfl, rfl, rfl, rfl, rfl, trivial⟩ ?_
  refine W.condF rfl ?_
  refine W.seq ?_
  refine W.region ?_
  refine T.q (q_bool (b := false) (q_eql rfl rfl rfl) (decide_eq_false (by decide))) (Wt.plain rfl) rfl rfl ?_
  refine T.q (q_assign rfl rfl) (Wt.plain rfl) rfl rfl ?_
  refine T.nil ?_
  refine Ex.next ?_
  refine W.slots (L' := [(0, _), (2, _), (3, _), (24, _), (46, _)]) ⟨rfl, rfl, rfl, rfl, rfl, trivial⟩ ?_
  refine W.condF rfl ?_
  refine W.seq ?_
  refine W.region ?_
  refine T.q (q_bool (b := false) (q_eql rfl rfl rfl) (decide_eq_false (by decide))) (Wt.plain rfl) rfl rfl ?_
  refine T.q (q_assign rfl rfl) (Wt.plain rfl) rfl rfl ?_
  refine T.nil ?_
  refine Ex.next ?_
  refine W.slots (L' := [(0, _), (2, _), (3, _), (24, _), (46, _)]) ⟨rfl, rfl, rfl, rfl, rfl, trivial⟩ ?_
  refine W.condF rfl ?_
  refine W.seq ?_
  refine W.region ?_
  refine T.q (q_bool (b := false) (q_eql rfl rfl rfl) (decide_eq_false (by decide))) (Wt.plain rfl) rfl rfl ?_
  refine T.q (q_assign rfl rfl) (Wt.plain rfl) rfl rfl ?_
  refine T.nil ?_
  refine Ex.next ?_
  refine W.slots (L' := [(0, _), (2, _), (3, _), (24, _), (46, _)]) ⟨rfl, rfl, rfl, rfl, rfl, trivial⟩ ?_
  refine W.condF rfl ?_
  refine W.region ?_
  refine T.q (q_bool (b := true) (q_eql rfl rfl rfl) (decide_eq_true (by decide))) (Wt.plain rfl) rfl rfl ?_
  refine T.q (q_assign rfl rfl) (Wt.plain rfl) rfl rfl ?_
  refine T.nil ?_
  refine Ex.next ?_
  refine W.slots (L' := [(0, _), (2, _), (3, _), (46, _)]) ⟨rfl, rfl, rfl, rfl, trivial⟩ ?_
  refine W.condT rfl ?_
  refine W.region ?_
  refine T.q (q_move rfl rfl) (Wt.plain rfl) rfl rfl ?_
  refine T.effE (e_callE [false, true, true, true] enters77 rfl rfl (hx1 rfl rfl) (fun w hm => number_spec (b.drop 1) (by first | (simp; done) | (simp; omega)) (cut A cap 1) (cap - 1) rk hbb1 (by first | omega | (simp; done) | (simp; omega) | (simp at *; omega)) (by first | omega | (simp; done) | (simp; omega) | (simp at *; omega)) w (hm.at 0 rfl) (RdB.ext (i := 0) (j := 1) hrd1 hm rfl rfl (by decide))) rfl rfl) (Wt.plain rfl) ?_ ?_
  ·
    rintro _ _ ⟨_, _, ⟨n53, b53, A53, c53, cb53, hp53, hy53, hn53, hl53, hr53, hc53, rfl, rfl⟩, rfl, rfl⟩
    change (_ : List Blk → Prop) [_, _, _, _, _]
    refine T.q (q_fld fl59_1 rfl rfl) (Wt.plain rfl) rfl rfl ?_
    refine T.eff (e_storeP1 ss3 2 rfl rfl rfl rfl (by first | (simp; done) | (simp; omega)) rfl (set_skip1 (rfl)) rfl) (Wt.plain rfl) ?_
    rintro _ _ ⟨rfl, rfl⟩
    change (_ : List Blk → Prop) [_, _, _, _, _]
    refine T.nil ?_
    refine Ex.in_normal ?_
    refine Ex.next ?_
    refine W.slots (L' := [(0, _), (2, _), (3, _)]) ⟨rfl, rfl, rfl, trivial⟩ ?_
    refine W.seq ?_
    refine W.seq ?_
    refine W.region ?_
    refine T.q (q_fld fl59_0 rfl rfl) (Wt.plain rfl) rfl rfl ?_
    refine T.q (q_load1 ss3 2 rfl rfl rfl (rfl)) (Wt.plain rfl) rfl rfl ?_
    refine T.nil ?_
    refine Ex.next ?_
    refine W.slots (L' := [(0, _), (2, _), (3, _), (56, _)]) ⟨rfl, rfl, rfl, rfl, trivial⟩ ?_
    refine W.block ?_
    refine W.seq ?_
    refine W.region ?_
    refine T.q (q_bool (b := false) (q_eql rfl rfl rfl) (decide_eq_false (by decide))) (Wt.plain rfl) rfl rfl ?_
    refine T.q (q_assign rfl rfl) (Wt.plain rfl) rfl rfl ?_
    refine T.nil ?_
    refine Ex.next ?_
    refine W.slots (L' := [(0, _), (2, _), (3, _), (56, _), (57, _)]) ⟨rfl, rfl, rfl, rfl, rfl, trivial⟩ ?_
    refine W.condF rfl ?_
    refine W.seq ?_
    refine W.region ?_
    refine T.q (q_bool (b := false) (q_eql rfl rfl rfl) (decide_eq_false (by decide))) (Wt.plain rfl) rfl rfl ?_
    refine T.q (q_assign rfl rfl) (Wt.plain rfl) rfl rfl ?_
    refine T.nil ?_
    refine Ex.next ?_
    refine W.slots (L' := [(0, _), (2, _), (3, _), (56, _), (76, _)]) ⟨rfl, rfl, rfl, rfl, rfl, trivial⟩ ?_
    refine W.condF rfl ?_
    refine W.seq ?_
    refine W.region ?_
    refine T.q (q_bool (b := true) (q_eql rfl rfl rfl) (decide_eq_true (by decide))) (Wt.plain rfl) rfl rfl ?_
    refine T.q (q_assign rfl rfl) (Wt.plain rfl) rfl rfl ?_
    refine T.nil ?_
    refine Ex.next ?_
    refine W.slots (L' := [(0, _), (2, _), (3, _), (86, _)]) ⟨rfl, rfl, rfl, rfl, trivial⟩ ?_
    refine W.condT rfl ?_
    refine W.seq ?_
    refine W.region ?_
    refine T.q (q_move rfl rfl) (Wt.plain rfl) rfl rfl ?_
    refine T.effE (e_callE [true, true, true, false, true] enters77 rfl rfl (hx1 rfl rfl) (fun w hm => number_spec b53 rfl A53 c53 rk hy53 hc53 (by first | omega | (simp; done) | (simp; omega) | (simp at *; omega)) w (hm.at 3 rfl) (RdB.ext (i := 3) (j := 4) hr53 hm rfl rfl (by decide))) rfl rfl) (Wt.plain rfl) ?_ ?_
    ·
      rintro _ _ ⟨_, _, ⟨n89, b89, A89, c89, cb89, hp89, hy89, hn89, hl89, hr89, hc89, rfl, rfl⟩, rfl, rfl⟩
      change (_ : List Blk → Prop) [_, _, _, _, _, _]
      refine T.q (q_fld fl59_2 rfl rfl) (Wt.plain rfl) rfl rfl ?_
      refine T.eff (e_storeP1 ss3 2 rfl rfl rfl rfl (by first | (simp; done) | (simp; omega)) rfl (set_skip1 (set_skip1 (rfl))) rfl) (Wt.plain rfl) ?_
      rintro _ _ ⟨rfl, rfl⟩
      change (_ : List Blk → Prop) [_, _, _, _, _, _]
      refine T.nil ?_
      refine Ex.next ?_
      refine W.less (L' := [(0, _), (2, _), (3, _)]) [true, true, true, false, true, true] ⟨rfl, rfl, rfl, trivial⟩ ?_
      change (_ : List Blk → Prop) [_, _, _, _, _]
      refine W.region ?_
      refine T.q (q_move rfl rfl) (Wt.plain rfl) rfl rfl ?_
      refine T.effE (e_callE [true, true, true, false, true] enters78 rfl rfl (hx1 rfl rfl) (fun w hm => ranges_spec b89 rfl A89 c89 rk hy89 hc89 (by first | omega | (simp; done) | (simp; omega) | (simp at *; omega)) 0 (by omega) (by omega) w (hm.at 3 rfl) (RdB.ext (i := 3) (j := 4) hr89 hm rfl rfl (by decide))) rfl rfl) (Wt.plain rfl) ?_ ?_
      ·
        rintro _ _ ⟨_, _, ⟨rs92, b92, A92, c92, cb92, nk92, rc92, jk92, hp92, hy92, hl92, hr92, hc92, h8, rfl, rfl⟩, rfl, rfl⟩
        change (_ : List Blk → Prop) [_, _, _, _, _, _, _]
        refine T.q (q_fld fl59_3 rfl rfl) (Wt.plain rfl) rfl rfl ?_
        refine T.eff (e_storeP1 ss56 2 rfl rfl rfl rfl (by first | (simp; done) | (simp; omega)) rfl (set_skip1 (set_skip1 (set_skip1 (rfl)))) rfl) (Wt.plain rfl) ?_
        rintro _ _ ⟨rfl, rfl⟩
        change (_ : List Blk → Prop) [_, _, _, _, _, _, _]
        refine T.nil ?_
        refine Ex.in_normal ?_
        refine Ex.next ?_
        refine W.less (L' := [(2, _), (3, _)]) [true, true, true, false, true, true, true] ⟨rfl, rfl, trivial⟩ ?_
        change (_ : List Blk → Prop) [_, _, _, _, _, _]
        refine W.seq ?_
        refine W.region ?_
        refine T.q (q_loadW (wd59.trans (congrArg some (by first | (simp; done) | (simp; omega)))) (R_blk 2 rfl) rfl rfl) (Wt.plain rfl) rfl rfl ?_
        refine T.eff (e_call enters47 rfl rfl (fun w hm => chk_spec 7 ((n53 : Nat) : Int) ((n89 : Nat) : Int) rs92 [] (List.replicate 8 0) (nk92.map fun k => (⟨k, 0, none⟩ : Addr)) none rc92 0 (by first | omega | (simp; done) | (simp; omega) | (simp at *; omega)) rfl w ((R_opre 3 rfl) w hm)) rfl rfl) (Wt.plain rfl) ?_
        rintro _ _ ⟨_, _, ⟨rfl, rfl⟩, rfl, rfl⟩
        change (_ : List Blk → Prop) [_, _, _, _, _, _]
        refine T.effE (e_callE [] enters76 rfl rfl hx0 (fun w hm => sure_spec (chkE (⟨7, ((n53 : Nat) : Int), ((n89 : Nat) : Int), rs92, [], List.replicate 8 0⟩ : Frm)) w) rfl rfl) (Wt.plain rfl) ?_ ?_
        ·
          rintro _ _ ⟨_, _, ⟨hs3, rfl, rfl⟩, rfl, rfl⟩
          change (_ : List Blk → Prop) [_, _, _, _, _, _]
          refine T.nil ?_
          refine Ex.next ?_
          refine W.slots (L' := [(2, _), (3, _)]) ⟨rfl, rfl, trivial⟩ ?_
          refine W.seq ?_
          refine W.region ?_
          refine T.q (q_loadW (wd59.trans (congrArg some (by first | (simp; done) | (simp; omega)))) (R_blk 2 rfl) rfl rfl) (Wt.plain rfl) rfl rfl ?_
          refine T.eff (e_storeA (wd59.trans (congrArg some (by first | (simp; done) | (simp; omega)))) 1 rfl rfl rfl rfl (by first | (simp; done) | (simp; omega)) (one_cons rfl (one_cons rfl (one_cons rfl (one_cons rfl (one_cons rfl (ints_one)))))) rfl) (Wt.plain rfl) ?_
          rintro _ _ ⟨rfl, rfl⟩
          change (_ : List Blk → Prop) [_, _, _, _, _, _]
          refine T.nil ?_
          refine Ex.next ?_
          refine W.less (L' := [(2, _)]) [true, true, false, true, true, true] ⟨rfl, trivial⟩ ?_
          change (_ : List Blk → Prop) [_, _, _, _, _]
          refine W.ret ?_
          refine Ex.last 3 rfl ?_
          change (_ : List Blk → Prop) [_, _, _, _, _]
          refine Ex.last 3 rfl ?_
          change (_ : List Blk → Prop) [_, _, _, _, _]
          refine Ex.last 0 rfl ?_
          change (_ : List Blk → Prop) [_, _, _, _, _]
          refine Ex.last 1 rfl ?_
          change (_ : List Blk → Prop) [_, _, _, _, _]
          refine Ex.fine ?_
          refine Ex.outC [false, true, true, true, true] 0 rfl (by exact (wd59.trans (congrArg some (by first | (simp; done) | (simp; omega))))) rfl rfl ?_
          have hfo : frOK (⟨7, ((n53 : Nat) : Int), ((n89 : Nat) : Int), rs92, [], List.replicate 8 0⟩ : Frm) := chkE_zero.1 hs3
          have hqo : Fm.OK (⟨(⟨7, ((n53 : Nat) : Int), ((n89 : Nat) : Int), rs92, [], List.replicate 8 0⟩ : Frm), (nk92.map fun k => (⟨k, 0, none⟩ : Addr)), rc92, none, 0⟩ : Fm) := ⟨rfl, by dsimp only; omega, Nat.le_refl _, by simp, (fun _ h => by cases h), Bytes.replicate 8⟩
          have hin : FrsIn (cb92 :: [cb, ⟨nk92, ints .i64 (flat rs92) ++ jk92, 74, (0, 0)⟩]) [(⟨(⟨7, ((n53 : Nat) : Int), ((n89 : Nat) : Int), rs92, [], List.replicate 8 0⟩ : Frm), (nk92.map fun k => (⟨k, 0, none⟩ : Addr)), rc92, none, 0⟩ : Fm)] := fun w hw q hq => by rw [List.mem_singleton] at hq; subst hq; exact ⟨(Reads.own (hw _ (.tail _ (.tail _ (.head _))))).pre, Reads.nil w none⟩
          have hlen : (b92).length = b92.length := by first | rfl | (simp; done) | (simp; omega)
          refine ⟨(⟨(⟨7, ((n53 : Nat) : Int), ((n89 : Nat) : Int), rs92, [], List.replicate 8 0⟩ : Frm), (nk92.map fun k => (⟨k, 0, none⟩ : Addr)), rc92, none, 0⟩ : Fm), b92, A92, c92, cb92, [cb, ⟨nk92, ints .i64 (flat rs92) ++ jk92, 74, (0, 0)⟩], by rw [pFrame, hk0, pBody, if_neg (by decide), if_neg (by decide), if_neg (by decide), if_pos rfl, hp53, andThen_ok, hp89, andThen_ok, hp92, andThen_ok, chk, if_pos hfo], hqo, hfo, hy92, ?_, rfl, hr92, ?_, hin, .tail _ (.head _), ?_⟩
          · rw [hlen]; omega
          · rw [hlen]; omega
          · rw [hlen]; rfl
        ·
          rintro _ _ ⟨_, ⟨hs3, rfl, rfl⟩, rfl⟩
          change (_ : List Blk → Prop) [_, _, _, _, _, _]
          refine Ex.then_panic ?_
          refine Ex.outP [false, false, false, false, false, false] ?_
          have hnf : ¬ frOK (⟨7, ((n53 : Nat) : Int), ((n89 : Nat) : Int), rs92, [], List.replicate 8 0⟩ : Frm) := fun g => hs3 (chkE_yes g)
          exact ⟨_, by rw [pFrame, hk0, pBody, if_neg (by decide), if_neg (by decide), if_neg (by decide), if_pos rfl, hp53, andThen_ok, hp89, andThen_ok, hp92, andThen_ok, chk, if_neg hnf, chkE_no hnf], rfl, rfl⟩
      ·
        rintro _ _ ⟨_, ⟨e92, hp92, rfl, rfl⟩, rfl⟩
        change (_ : List Blk → Prop) [_, _, _, _]
        refine Ex.in_panic ?_
        refine Ex.then_panic ?_
        refine Ex.outP [false, false, false, false] ?_
        exact ⟨_, by rw [pFrame, hk0, pBody, if_neg (by decide), if_neg (by decide), if_neg (by decide), if_pos rfl, hp53, andThen_ok, hp89, andThen_ok, hp92, andThen_error], rfl, rfl⟩
    ·
      rintro _ _ ⟨_, ⟨e89, hp89, rfl, rfl⟩, rfl⟩
      change (_ : List Blk → Prop) [_, _, _, _]
      refine Ex.then_panic ?_
      refine Ex.in_panic ?_
      refine Ex.then_panic ?_
      refine Ex.outP [false, false, false, false] ?_
      exact ⟨_, by rw [pFrame, hk0, pBody, if_neg (by decide), if_neg (by decide), if_neg (by decide), if_pos rfl, hp53, andThen_ok, hp89, andThen_error], rfl, rfl⟩
  ·
    rintro _ _ ⟨_, ⟨e53, hp53, rfl, rfl⟩, rfl⟩
    change (_ : List Blk → Prop) [_, _, _]
    refine Ex.in_panic ?_
    refine Ex.then_panic ?_
    refine Ex.outP [false, false, false] ?_
    exact ⟨_, by rw [pFrame, hk0, pBody, if_neg (by decide), if_neg (by decide), if_neg (by decide), if_pos rfl, hp53, andThen_error], rfl, rfl⟩
set_option maxRecDepth 100000 in
theorem frame_k (b : List Int) {m : Nat} (hbm : b.length = m) (A : Option Addr) (cap rk : Nat) (cb : Blk) (hbb : Bytes b) (hle : m ≤ cap) (hbl : m ≤ 140737488351232) (hpos : 0 < m) (hrd : RdB cb A b) (hk0 : b.getD 0 0 < 1 ∨ 7 < b.getD 0 0) (w0 : World) (hk : (⟨some rk, [.slice A m cap], 81, (0, 0)⟩ : Blk).here w0) (hcb : cb.here w0) (hne : cb.no ≠ some rk) : EndsX Try.prog 63 #[.pointer (some ⟨rk, 0, none⟩)] w0 (rk :: cb.no.toList) (fun v G => ∃ (q : Fm) (b' : List Int) (A' : Option Addr) (cap' : Nat) (cb' : Blk) (Gs : List Blk), pFrame b = .ok (q.f, b') ∧ q.OK ∧ frOK q.f ∧ Bytes b' ∧ b'.length < m ∧ v = .agg q.cells.toArray ∧ RdB cb' A' b' ∧ b'.length ≤ cap' ∧ FrsIn (cb' :: Gs) [q] ∧ cb ∈ cb' :: Gs ∧ G = ⟨some rk, [.slice A' b'.length cap'], 81, (0, 0)⟩ :: cb' :: Gs) (fun x G => ∃ e : Int, pFrame b = .error e ∧ x = dieV e ∧ G = []) := by
  have hb0 := hbb.getD 0
  refine spec_ofE 98 [⟨some rk, [.slice A m cap], 81, (0, 0)⟩, cb] (Mem.own2 rfl rfl hk hcb hne) Try.func63 rfl rfl rfl ?_
  refine W.seq ?_
  refine W.region ?_
  refine T.eff (e_alloc ze59 rfl rfl rfl) (Wt.plain rfl) ?_
  rintro _ _ ⟨k1, rfl, rfl⟩
  change (_ : List Blk → Prop) [_, _, _]
  refine T.nil ?_
  refine Ex.next ?_
  refine W.slots (L' := [(0, _), (2, _)]) ⟨rfl, rfl, trivial⟩ ?_
  refine W.seq ?_
  refine W.region ?_
  refine T.q (q_move rfl rfl) (Wt.plain rfl) rfl rfl ?_
  refine T.q (q_nil rfl rfl) (Wt.plain rfl) rfl rfl ?_
  refine T.q (q_fld fl81_0 rfl rfl) (Wt.plain rfl) rfl rfl ?_
  refine T.q (q_load1 ss22 0 rfl rfl rfl rfl) (Wt.plain rfl) rfl rfl ?_
  refine T.q (q_ixE1 sc22 0 (R_rd 1 rfl hrd) rfl rfl rfl (rfl) (by omega) (by first | omega | (simp; done) | (simp [-List.getD_eq_getElem?_getD]; omega))) (Wt.plain rfl) rfl rfl ?_
  refine T.q (q_loadE ss5 (R_rd 1 rfl hrd) rfl rfl (ints_get (by first | omega | (simp; done) | (simp [-List.getD_eq_getElem?_getD]; omega)))) (Wt.plain rfl) rfl rfl ?_
  refine T.q (q_int (b := b.getD 0 0) (q_conv un5 un3 rfl rfl) (i64_wrap (by omega) (by omega))) (Wt.plain rfl) rfl rfl ?_
  refine T.q (q_buildP (cells := .int .i64 (b.getD 0 0) :: (.int .i64 0 :: (.int .i64 0 :: (.slice none 0 0 :: (.slice none 0 0 :: (ints .u8 (List.replicate 8 0))))))) bp59 ze59 rfl rfl ⟨_, _, [.int .i64 (b.getD 0 0)], _, rfl, rfl, rfl, (Nat.le_of_ble_eq_true rfl), rfl, rfl⟩) (Wt.plain rfl) rfl rfl ?_
  refine T.eff (e_alloc ze59 rfl rfl rfl) (Wt.plain rfl) ?_
  rintro _ _ ⟨k2, rfl, rfl⟩
  change (_ : List Blk → Prop) [_, _, _, _]
  refine T.eff (e_storeA (wd59.trans (congrArg some (by first | (simp; done) | (simp; omega)))) 3 rfl rfl rfl rfl (by first | (simp; done) | (simp; omega)) (one_cons rfl (one_cons rfl (one_cons rfl (one_cons rfl (one_cons rfl (ints_one)))))) rfl) (Wt.plain rfl) ?_
  rintro _ _ ⟨rfl, rfl⟩
  change (_ : List Blk → Prop) [_, _, _, _]
  refine T.nil ?_
  refine Ex.next ?_
  refine W.slots (L' := [(0, _), (2, _), (3, _)]) ⟨rfl, rfl, rfl, trivial⟩ ?_
  refine W.seq ?_
  refine W.region ?_
  refine T.q (q_move rfl rfl) (Wt.plain rfl) rfl rfl ?_
  refine T.q (q_move rfl rfl) (Wt.plain rfl) rfl rfl ?_
  refine T.q (q_nil rfl rfl) (Wt.plain rfl) rfl rfl ?_
  refine T.q (q_fld fl81_0 rfl rfl) (Wt.plain rfl) rfl rfl ?_
  refine T.q (q_load1 ss22 0 rfl rfl rfl rfl) (Wt.plain rfl) rfl rfl ?_
  refine T.q (q_sl sc22 1 m cap rfl rfl ⟨_, _, rfl, rfl⟩ rfl rfl (by first | omega | (simp; done) | (simp [-List.getD_eq_getElem?_getD]; omega)) (by first | omega | (simp; done) | (simp [-List.getD_eq_getElem?_getD]; omega)) (by first | omega | (simp; done) | (simp [-List.getD_eq_getElem?_getD]; omega)) (by simp)) (Wt.plain rfl) rfl rfl ?_
  have hrd1 := RdB.cut (l := 1) (cap := cap) hrd (by omega)
  have hbb1 := hbb.drop' 1
  refine T.q (q_nil rfl rfl) (Wt.plain rfl) rfl rfl ?_
  refine T.q (q_fld fl81_0 rfl rfl) (Wt.plain rfl) rfl rfl ?_
  refine T.eff (e_store1 ss22 0 rfl rfl rfl rfl (by simp) rfl rfl) (Wt.plain rfl) ?_
  rintro _ _ ⟨rfl, rfl⟩
  change (_ : List Blk → Prop) [_, _, _, _]
  refine T.nil ?_
  refine Ex.next ?_
  refine W.slots (L' := [(0, _), (2, _), (3, _)]) ⟨rfl, rfl, rfl, trivial⟩ ?_
  refine W.seq ?_
  refine W.seq ?_
  refine W.region ?_
  refine T.q (q_fld fl59_0 rfl rfl) (Wt.plain rfl) rfl rfl ?_
  refine T.q (q_load1 ss3 3 rfl rfl rfl (rfl)) (Wt.plain rfl) rfl rfl ?_
  refine T.nil ?_
  refine Ex.next ?_
  refine W.slots (L' := [(0, _), (2, _), (3, _), (24, _)]) ⟨rfl, rfl, rfl, rfl, trivial⟩ ?_
  refine W.block ?_
  refine W.seq ?_
  refine W.seq ?_
  refine W.region ?_
  refine T.q (q_bool (b := false) (q_eql rfl rfl rfl) (decide_eq_false (by omega))) (Wt.plain rfl) rfl rfl ?_
  refine T.q (q_assign rfl rfl) (Wt.plain rfl) rfl rfl ?_
  refine T.nil ?_
  refine Ex.next ?_
  refine W.slots (L' := [(0, _), (2, _), (3, _), (24, _), (25, _)]) ⟨rfl, rfl, rfl, rfl, rfl, trivial⟩ ?_
  refine W.condF rfl ?_
  refine W.region ?_
  refine T.q (q_bool (b := false) (q_eql rfl rfl rfl) (decide_eq_false (by omega))) (Wt.plain rfl) rfl rfl ?_
  refine T.q (q_assign rfl rfl) (Wt.plain rfl) rfl rfl ?_
  refine T.nil ?_
  refine Ex.next ?_
  refine W.slots (L' := [(0, _), (2, _), (3, _), (24, _), (25, _)]) ⟨rfl, rfl, rfl, rfl, rfl, trivial⟩ ?_
  refine W.condF rfl ?_
  refine W.seq ?_
  refine W.seq ?_
  refine W.region ?_
  refine T.q (q_bool (b := false) (q_eql rfl rfl rfl) (decide_eq_false (by omega))) (Wt.plain rfl) rfl rfl ?_
  refine T.q (q_assign rfl rfl) (Wt.plain rfl) rfl rfl ?_
  refine T.nil ?_
  refine Ex.next ?_
  refine W.slots (L' := [(0, _), (2, _), (3, _), (24, _), (46, _)]) ⟨rfl, rfl, rfl, rfl, rfl, trivial⟩ ?_
  refine W.condF rfl ?_
  refine W.seq ?_
  refine W.region ?_
  refine T.q (q_bool (b := false) (q_eql rfl rfl rfl) (decide_eq_false (by omega))) (Wt.plain rfl) rfl rfl ?_
  refine T.q (q_assign rfl rfl) (Wt.plain rfl) rfl rfl ?_
  refine T.nil ?_
  refine Ex.next ?_
  refine W.slots (L' := [(0, _), (2, _), (3, _), (24, _), (46, _)]) ⟨rfl, rfl, rfl, rfl, rfl, trivial⟩ ?_
  refine W.condF rfl ?_
  refine W.seq ?_
  refine W.region ?_
  refine T.q (q_bool (b := false) (q_eql rfl rfl rfl) (decide_eq_false (by omega))) (Wt.plain rfl) rfl rfl ?_
  refine T.q (q_assign rfl rfl) (Wt.plain rfl) rfl rfl ?_
  refine T.nil ?_
  refine Ex.next ?_
  refine W.slots (L' := [(0, _), (2, _), (3, _), (24, _), (46, _)]) ⟨rfl, rfl, rfl, rfl, rfl, trivial⟩ ?_
  refine W.condF rfl ?_
  refine W.seq ?_
  refine W.region ?_
  refine T.q (q_bool (b := false) (q_eql rfl rfl rfl) (decide_eq_false (by omega))) (Wt.plain rfl) rfl rfl ?_
  refine T.q (q_assign rfl rfl) (Wt.plain rfl) rfl rfl ?_
  refine T.nil ?_
  refine Ex.next ?_
  refine W.slots (L' := [(0, _), (2, _), (3, _), (24, _), (46, _)]) ⟨rfl, rfl, rfl, rfl, rfl, trivial⟩ ?_
  refine W.condF rfl ?_
  refine W.region ?_
  refine T.q (q_bool (b := false) (q_eql rfl rfl rfl) (decide_eq_false (by omega))) (Wt.plain rfl) rfl rfl ?_
  refine T.q (q_assign rfl rfl) (Wt.plain rfl) rfl rfl ?_
  refine T.nil ?_
  refine Ex.next ?_
  refine W.slots (L' := [(0, _), (2, _), (3, _), (46, _)]) ⟨rfl, rfl, rfl, rfl, trivial⟩ ?_
  refine W.condF rfl ?_
  refine W.skip ?_
  refine Ex.in_normal ?_
  refine Ex.next ?_
  refine W.slots (L' := [(0, _), (2, _), (3, _)]) ⟨rfl, rfl, rfl, trivial⟩ ?_
  refine W.seq ?_
  refine W.seq ?_
  refine W.region ?_
  refine T.q (q_fld fl59_0 rfl rfl) (Wt.plain rfl) rfl rfl ?_
  refine T.q (q_load1 ss3 3 rfl rfl rfl (rfl)) (Wt.plain rfl) rfl rfl ?_
  refine T.nil ?_
  refine Ex.next ?_
  refine W.slots (L' := [(0, _), (2, _), (3, _), (56, _)]) ⟨rfl, rfl, rfl, rfl, trivial⟩ ?_
  refine W.block ?_
  refine W.seq ?_
  refine W.region ?_
  refine T.q (q_bool (b := false) (q_eql rfl rfl rfl) (decide_eq_false (by omega))) (Wt.plain rfl) rfl rfl ?_
  refine T.q (q_assign rfl rfl) (Wt.plain rfl) rfl rfl ?_
  refine T.nil ?_
  refine Ex.next ?_
  refine W.slots (L' := [(0, _), (2, _), (3, _), (56, _), (57, _)]) ⟨rfl, rfl, rfl, rfl, rfl, trivial⟩ ?_
  refine W.condF rfl ?_
  refine W.seq ?_
  refine W.region ?_
  refine T.q (q_bool (b := false) (q_eql rfl rfl rfl) (decide_eq_false (by omega))) (Wt.plain rfl) rfl rfl ?_
  refine T.q (q_assign rfl rfl) (Wt.plain rfl) rfl rfl ?_
  refine T.nil ?_
  refine Ex.next ?_
  refine W.slots (L' := [(0, _), (2, _), (3, _), (56, _), (76, _)]) ⟨rfl, rfl, rfl, rfl, rfl, trivial⟩ ?_
  refine W.condF rfl ?_
  refine W.seq ?_
  refine W.region ?_
  refine T.q (q_bool (b := false) (q_eql rfl rfl rfl) (decide_eq_false (by omega))) (Wt.plain rfl) rfl rfl ?_
  refine T.q (q_assign rfl rfl) (Wt.plain rfl) rfl rfl ?_
  refine T.nil ?_
  refine Ex.next ?_
  refine W.slots (L' := [(0, _), (2, _), (3, _), (86, _)]) ⟨rfl, rfl, rfl, rfl, trivial⟩ ?_
  refine W.condF rfl ?_
  refine W.skip ?_
  refine Ex.in_normal ?_
  refine Ex.next ?_
  refine W.slots (L' := [(2, _), (3, _)]) ⟨rfl, rfl, trivial⟩ ?_
  refine W.seq ?_
  refine W.region ?_
  refine T.q (q_loadW (wd59.trans (congrArg some (by first | (simp; done) | (simp; omega)))) (R_blk 3 rfl) rfl rfl) (Wt.plain rfl) rfl rfl ?_
  refine T.eff (e_call enters47 rfl rfl (fun w hm => chk_spec (b.getD 0 0) 0 0 [] [] (List.replicate 8 0) none none 0 0 (by simp) rfl w ((R_nilI .i64) w hm)) rfl rfl) (Wt.plain rfl) ?_
  rintro _ _ ⟨_, _, ⟨rfl, rfl⟩, rfl, rfl⟩
  change (_ : List Blk → Prop) [_, _, _, _]
  refine T.effE (e_callE [] enters76 rfl rfl hx0 (fun w hm => sure_spec (chkE (⟨(b.getD 0 0), 0, 0, [], [], List.replicate 8 0⟩ : Frm)) w) rfl rfl) (Wt.plain rfl) ?_ ?_
  ·
    rintro _ _ ⟨_, _, ⟨hs3, rfl, rfl⟩, rfl, rfl⟩
    change (_ : List Blk → Prop) [_, _, _, _]
    refine T.nil ?_
    refine Ex.next ?_
    refine W.slots (L' := [(2, _), (3, _)]) ⟨rfl, rfl, trivial⟩ ?_
    refine W.seq ?_
    refine W.region ?_
    refine T.q (q_loadW (wd59.trans (congrArg some (by first | (simp; done) | (simp; omega)))) (R_blk 3 rfl) rfl rfl) (Wt.plain rfl) rfl rfl ?_
    refine T.eff (e_storeA (wd59.trans (congrArg some (by first | (simp; done) | (simp; omega)))) 2 rfl rfl rfl rfl (by first | (simp; done) | (simp; omega)) (one_cons rfl (one_cons rfl (one_cons rfl (one_cons rfl (one_cons rfl (ints_one)))))) rfl) (Wt.plain rfl) ?_
    rintro _ _ ⟨rfl, rfl⟩
    change (_ : List Blk → Prop) [_, _, _, _]
    refine T.nil ?_
    refine Ex.next ?_
    refine W.less (L' := [(2, _)]) [true, true, true, false] ⟨rfl, trivial⟩ ?_
    change (_ : List Blk → Prop) [_, _, _]
    refine W.ret ?_
    refine Ex.fine ?_
    refine Ex.outC [true, true, false] 2 rfl (by exact (wd59.trans (congrArg some (by first | (simp; done) | (simp; omega))))) rfl rfl ?_
    have hfo : frOK (⟨(b.getD 0 0), 0, 0, [], [], List.replicate 8 0⟩ : Frm) := chkE_zero.1 hs3
    have hqo : Fm.OK (⟨(⟨(b.getD 0 0), 0, 0, [], [], List.replicate 8 0⟩ : Frm), none, 0, none, 0⟩ : Fm) := ⟨rfl, by simp, Nat.le_refl _, by simp, (fun _ h => by cases h), Bytes.replicate 8⟩
    have hin : FrsIn (cb :: []) [(⟨(⟨(b.getD 0 0), 0, 0, [], [], List.replicate 8 0⟩ : Frm), none, 0, none, 0⟩ : Fm)] := fun w hw q hq => by rw [List.mem_singleton] at hq; subst hq; exact ⟨Reads.nil w none, Reads.nil w none⟩
    have hlen : (b.drop 1).length = (m - 1) := by first | rfl | (simp; done) | (simp; omega)
    refine ⟨(⟨(⟨(b.getD 0 0), 0, 0, [], [], List.replicate 8 0⟩ : Frm), none, 0, none, 0⟩ : Fm), b.drop 1, (cut A cap 1), (cap - 1), cb, [], by rw [pFrame, pBody, if_neg (by omega), if_neg (by omega), if_neg (by omega), if_neg (by omega), if_neg (by omega), chk, if_pos hfo], hqo, hfo, hbb1, ?_, rfl, hrd1, ?_, hin, .head _, ?_⟩
    · rw [hlen]; omega
    · rw [hlen]; omega
    · rw [hlen]; rfl
  ·
    rintro _ _ ⟨_, ⟨hs3, rfl, rfl⟩, rfl⟩
    change (_ : List Blk → Prop) [_, _, _, _]
    refine Ex.then_panic ?_
    refine Ex.outP [false, false, false, false] ?_
    have hnf : ¬ frOK (⟨(b.getD 0 0), 0, 0, [], [], List.replicate 8 0⟩ : Frm) := fun g => hs3 (chkE_yes g)
    exact ⟨_, by rw [pFrame, pBody, if_neg (by omega), if_neg (by omega), if_neg (by omega), if_neg (by omega), if_neg (by omega), chk, if_neg hnf, chkE_no hnf], rfl, rfl⟩
theorem frame_spec (b : List Int) {m : Nat} (hbm : b.length = m) (A : Option Addr) (cap rk : Nat) (cb : Blk) (hbb : Bytes b) (hle : m ≤ cap) (hbl : m ≤ 140737488351232) (hpos : 0 < m) (hrd : RdB cb A b) (w0 : World) (hk : (⟨some rk, [.slice A m cap], 81, (0, 0)⟩ : Blk).here w0) (hcb : cb.here w0) (hne : cb.no ≠ some rk) : EndsX Try.prog 63 #[.pointer (some ⟨rk, 0, none⟩)] w0 (rk :: cb.no.toList) (fun v G => ∃ (q : Fm) (b' : List Int) (A' : Option Addr) (cap' : Nat) (cb' : Blk) (Gs : List Blk), pFrame b = .ok (q.f, b') ∧ q.OK ∧ frOK q.f ∧ Bytes b' ∧ b'.length < m ∧ v = .agg q.cells.toArray ∧ RdB cb' A' b' ∧ b'.length ≤ cap' ∧ FrsIn (cb' :: Gs) [q] ∧ cb ∈ cb' :: Gs ∧ G = ⟨some rk, [.slice A' b'.length cap'], 81, (0, 0)⟩ :: cb' :: Gs) (fun x G => ∃ e : Int, pFrame b = .error e ∧ x = dieV e ∧ G = []) := by
  by_cases hk0 : b.getD 0 0 < 1 ∨ 7 < b.getD 0 0
  · exact frame_k b hbm A cap rk cb hbb hle hbl hpos hrd hk0 w0 hk hcb hne
  · have h7 : b.getD 0 0 = 1 ∨ b.getD 0 0 = 2 ∨ b.getD 0 0 = 3 ∨ b.getD 0 0 = 4 ∨ b.getD 0 0 = 5 ∨ b.getD 0 0 = 6 ∨ b.getD 0 0 = 7 := by omega
    rcases h7 with h | h | h | h | h | h | h
    · exact frame_1 b hbm A cap rk cb hbb hle hbl hpos hrd h w0 hk hcb hne
    · exact frame_2 b hbm A cap rk cb hbb hle hbl hpos hrd h w0 hk hcb hne
    · by_cases hs : m - 1 < 8
      · exact frame_3s b hbm A cap rk cb hbb hle hbl hpos hrd h hs w0 hk hcb hne
      · exact frame_3g b hbm A cap rk cb hbb hle hbl hpos hrd h (by omega) w0 hk hcb hne
    · by_cases hs : m - 1 < 8
      · exact frame_4s b hbm A cap rk cb hbb hle hbl hpos hrd h hs w0 hk hcb hne
      · exact frame_4g b hbm A cap rk cb hbb hle hbl hpos hrd h (by omega) w0 hk hcb hne
    · exact frame_5 b hbm A cap rk cb hbb hle hbl hpos hrd h w0 hk hcb hne
    · exact frame_6 b hbm A cap rk cb hbb hle hbl hpos hrd h w0 hk hcb hne
    · exact frame_7 b hbm A cap rk cb hbb hle hbl hpos hrd h w0 hk hcb hne
end Go.Proofs.Ytmkjnefongjniaa
