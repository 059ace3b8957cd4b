/-
  Statements of layer 10: frames that are cut.
-/
import Derived.Test.YtmkjnefongjniaaF18
namespace Go.Proofs.Ytmkjnefongjniaa
open Go Go.X
theorem rem_nat {a : Int} {n : Nat} (h0 : 0 ≤ a) : a % ((n : Nat) : Int) = ((a.toNat % n : Nat) : Int) := by
  obtain ⟨k, rfl⟩ := Int.eq_ofNat_of_zero_le h0
  simp
theorem neg_wrap {x : Int} (h1 : -9223372036854775807 ≤ x) (h2 : x ≤ 9223372036854775807) : IntKind.i64.wrap (0 - x) = -x := by
  rw [i64_wrap (by omega) (by omega)]; omega
set_option maxRecDepth 100000 in
theorem cuts_neg (m : Fm) (hO : m.OK) (z : Int) (hz : -9223372036854775808 ≤ z) (hz2 : z ≤ 9223372036854775807) (hneg : z < 0) (hok : frOK m.f) (w0 : World) (hR : Reads w0 m.RA (ints .i64 (flat m.f.rs))) (hB : Reads w0 m.BA (ints .u8 m.f.bs)) : Does Try.prog 16 #[.agg (.int .i64 m.f.k :: (.int .i64 m.f.a :: (.int .i64 m.f.l :: (.slice m.RA m.f.rs.length m.rc :: (.slice m.BA m.f.bs.length m.bc :: (ints .u8 m.f.tok)))))).toArray, .int .i64 z] w0 [] (fun v G => v = .bool true ∧ G = []) := by
  have htok := hO.1
  have hw1 := wr_le hok htok
  have hw2 := wr_two htok
  have he : encE [m.f] = 0 := encE_zero.2 ⟨by simp, fun f hf => by rw [List.mem_singleton] at hf; exact hf ▸ hok, by rw [wrs_one]; omega⟩
  have hb : encB [m.f] = wr m.f := by rw [encB_ok he, wrs_one]
  have hbl : (encB [m.f]).length = (wr m.f).length := by rw [hb]
  have hby : Bytes (encB [m.f]) := by rw [hb]; exact Bytes.wr hok hO.2.2.2.2.1 hO.2.2.2.2.2
  have hmod := Nat.mod_lt (-(z + 1)).toNat (show 0 < (encB [m.f]).length - 1 by omega)
  refine spec_of 56 Try.func16 rfl rfl rfl ?_
  refine W.seq ?_
  refine W.region ?_
  refine T.eff (e_box rfl rfl rfl rfl) (Wt.plain rfl) ?_
  rintro _ _ ⟨k1, rfl, rfl⟩
  change (_ : List Blk → Prop) [_]
  change (_ : List Blk → Prop) [⟨some k1, .int .i64 m.f.k :: (.int .i64 m.f.a :: (.int .i64 m.f.l :: (.slice m.RA m.f.rs.length m.rc :: (.slice m.BA m.f.bs.length m.bc :: (ints .u8 m.f.tok))))), 59, (0, 0)⟩]
  refine T.q (q_assign rfl rfl) (Wt.plain rfl) rfl rfl ?_
  refine T.nil ?_
  refine Ex.next ?_
  refine W.slots (L' := [(1, _), (2, _)]) ⟨rfl, rfl, trivial⟩ ?_
  refine W.seq ?_
  refine W.region ?_
  refine T.eff (e_call enters43 rfl rfl (fun w hm => shown10_spec w) rfl rfl) (Wt.plain rfl) ?_
  rintro _ _ ⟨_, _, ⟨rfl, rfl⟩, rfl, rfl⟩
  change (_ : List Blk → Prop) [_]
  refine T.q (q_assign rfl rfl) (Wt.plain rfl) rfl rfl ?_
  refine T.nil ?_
  refine Ex.next ?_
  refine W.slots (L' := [(1, _), (2, _), (5, _)]) ⟨rfl, rfl, rfl, trivial⟩ ?_
  refine W.seq ?_
  refine W.region ?_
  refine T.q (q_loadW (wd59.trans (congrArg some (by first | (simp; done) | (simp; omega)))) (R_blk 0 rfl) rfl rfl) (Wt.plain rfl) rfl rfl ?_
  refine T.eff (e_litS1 sc52 ze59 (.int .i64 m.f.k :: (.int .i64 m.f.a :: (.int .i64 m.f.l :: (.slice m.RA m.f.rs.length m.rc :: (.slice m.BA m.f.bs.length m.bc :: (ints .u8 m.f.tok)))))) rfl rfl (by first | (simp; done) | (simp; omega)) rfl rfl rfl) (Wt.plain rfl) ?_
  rintro _ _ ⟨k2, rfl, rfl⟩
  change (_ : List Blk → Prop) [_, _]
  refine T.eff (e_call enters44 rfl rfl (fun w hm => enc_at [m] rfl _ _ (by first | omega | (simp; done) | (simp; omega) | (simp at *; omega)) (by intro q hq; rw [List.mem_singleton] at hq; subst hq; exact hO) (fs := [m.f]) rfl w (by rw [fcs_sing]; exact (R_blk 1 rfl) w hm) (by intro q hq; rw [List.mem_singleton] at hq; subst hq; exact ⟨hR.ext.reads hm, hB.ext.reads hm⟩)) rfl rfl) (Wt.plain rfl) ?_
  rintro _ _ ⟨_, _, ⟨k3, cap4, junk5, rfl, hc6, rfl⟩, rfl, rfl⟩
  change (_ : List Blk → Prop) [_, _, _]
  refine T.q (q_move rfl rfl) (Wt.plain rfl) rfl rfl ?_
  refine T.q (q_extract rfl rfl rfl) (Wt.plain rfl) rfl rfl ?_
  refine T.q (q_extract rfl rfl rfl) (Wt.plain rfl) rfl rfl ?_
  refine T.q (q_assign rfl rfl) (Wt.plain rfl) rfl rfl ?_
  refine T.q (q_assign rfl rfl) (Wt.plain rfl) rfl rfl ?_
  refine T.nil ?_
  refine Ex.next ?_
  refine W.less (L' := [(1, _), (5, _), (6, _), (7, _)]) [false, false, true] ⟨rfl, rfl, rfl, rfl, trivial⟩ ?_
  change (_ : List Blk → Prop) [_]
  refine W.seq ?_
  refine W.seq ?_
  refine W.region ?_
  refine T.q (q_move rfl rfl) (Wt.plain rfl) rfl rfl ?_
  refine T.q (q_bool (b := false) (q_neq rfl rfl rfl) (decide_eq_false (by omega))) (Wt.plain rfl) rfl rfl ?_
  refine T.q (q_move rfl rfl) (Wt.plain rfl) rfl rfl ?_
  refine T.q (q_move rfl rfl) (Wt.yes rfl rfl rfl) rfl rfl ?_
  refine T.q (q_len sc22 rfl rfl) (Wt.yes rfl rfl rfl) rfl rfl ?_
  refine T.q (q_bool (b := false) (q_lss rfl rfl rfl) (decide_eq_false (by omega))) (Wt.yes rfl rfl rfl) rfl rfl ?_
  refine T.q (q_pickF rfl rfl rfl) (Wt.plain rfl) rfl rfl ?_
  refine T.nil ?_
  refine Ex.next ?_
  refine W.slots (L' := [(1, _), (5, _), (6, _), (7, _), (23, _)]) ⟨rfl, rfl, rfl, rfl, rfl, trivial⟩ ?_
  refine W.condF rfl ?_
  refine W.skip ?_
  refine Ex.next ?_
  refine W.slots (L' := [(1, _), (5, _), (6, _)]) ⟨rfl, rfl, rfl, trivial⟩ ?_
  refine W.seq ?_
  refine W.seq ?_
  refine W.region ?_
  refine T.q (q_move rfl rfl) (Wt.plain rfl) rfl rfl ?_
  refine T.q (q_bool (b := true) (q_lss rfl rfl rfl) (decide_eq_true (by omega))) (Wt.plain rfl) rfl rfl ?_
  refine T.nil ?_
  refine Ex.next ?_
  refine W.slots (L' := [(1, _), (5, _), (6, _), (30, _)]) ⟨rfl, rfl, rfl, rfl, trivial⟩ ?_
  refine W.condT rfl ?_
  refine W.region ?_
  refine T.q (q_move rfl rfl) (Wt.plain rfl) rfl rfl ?_
  refine T.q (q_addi rfl rfl rfl (by omega) (by omega)) (Wt.plain rfl) rfl rfl ?_
  refine T.q (q_int (b := -(z + 1)) (q_neg rfl rfl) ?hE) (Wt.plain rfl) rfl rfl ?_
  case hE => exact neg_wrap (by omega) (by omega)
  refine T.q (q_assign rfl rfl) (Wt.plain rfl) rfl rfl ?_
  refine T.nil ?_
  refine Ex.next ?_
  refine W.slots (L' := [(1, _), (5, _), (6, _)]) ⟨rfl, rfl, rfl, trivial⟩ ?_
  refine W.seq ?_
  refine W.region ?_
  refine T.q (q_move rfl rfl) (Wt.plain rfl) rfl rfl ?_
  refine T.q (q_move rfl rfl) (Wt.plain rfl) rfl rfl ?_
  refine T.q (q_move rfl rfl) (Wt.plain rfl) rfl rfl ?_
  refine T.q (q_len sc22 rfl rfl) (Wt.plain rfl) rfl rfl ?_
  refine T.q (q_int (b := ((((encB [m.f]).length - 1) : Nat) : Int)) (q_subi rfl rfl rfl (by omega) (by omega)) ?hE) (Wt.plain rfl) rfl rfl ?_
  case hE => omega
  refine T.q (q_int (b := (((((-(z + 1)).toNat) % ((encB [m.f]).length - 1)) : Nat) : Int)) (q_rem rfl rfl rfl (by omega) (by omega)) ?hE) (Wt.plain rfl) rfl rfl ?_
  case hE => exact rem_nat (by omega)
  refine T.q (q_int (b := (((1 + (-(z + 1)).toNat % ((encB [m.f]).length - 1)) : Nat) : Int)) (q_addi rfl rfl rfl (by omega) (by omega)) ?hE) (Wt.plain rfl) rfl rfl ?_
  case hE => omega
  refine T.q (q_sl sc22 0 (1 + (-(z + 1)).toNat % ((encB [m.f]).length - 1)) cap4 rfl rfl rfl ⟨_, _, rfl, by omega⟩ rfl (by first | omega | (simp; done) | (simp [-List.getD_eq_getElem?_getD]; omega)) (by first | omega | (simp; done) | (simp [-List.getD_eq_getElem?_getD]; omega)) (by first | omega | (simp; done) | (simp [-List.getD_eq_getElem?_getD]; omega)) (by simp)) (Wt.plain rfl) rfl rfl ?_
  refine T.eff (e_call enters46 rfl rfl (fun w hm => dec_no ((encB [m.f]).take (1 + (-(z + 1)).toNat % ((encB [m.f]).length - 1))) (by rw [List.length_take]; omega) _ _ (by first | omega | (simp; done) | (simp; omega) | (simp at *; omega)) (by first | omega | (simp; done) | (simp; omega) | (simp at *; omega)) (fun x hx => hby x (List.mem_of_mem_take hx)) (by have h := dec_cut m.f hok htok (1 + (-(z + 1)).toNat % ((encB [m.f]).length - 1)) (by omega) (by omega) (by omega); rwa [← hb] at h) w ((R_takeI (R_cutI (xs := encB [m.f]) (l := 0) (R_opre 0 rfl) (by first | omega | (simp; done) | (simp [-List.getD_eq_getElem?_getD]; omega) | (simp at *; omega) | rfl)) (1 + (-(z + 1)).toNat % ((encB [m.f]).length - 1))) w hm)) rfl rfl) (Wt.plain rfl) ?_
  rintro _ _ ⟨_, _, ⟨rfl, rfl⟩, rfl, rfl⟩
  change (_ : List Blk → Prop) [_]
  refine T.q (q_move rfl rfl) (Wt.plain rfl) rfl rfl ?_
  refine T.q (q_extract rfl rfl rfl) (Wt.plain rfl) rfl rfl ?_
  refine T.q (q_extract rfl rfl rfl) (Wt.plain rfl) rfl rfl ?_
  refine T.q (q_assign rfl rfl) (Wt.plain rfl) rfl rfl ?_
  refine T.q (q_assign rfl rfl) (Wt.plain rfl) rfl rfl ?_
  refine T.nil ?_
  refine Ex.next ?_
  refine W.less (L' := [(5, _), (8, _), (9, _)]) [false] ⟨rfl, rfl, rfl, trivial⟩ ?_
  change (_ : List Blk → Prop) []
  refine W.seq ?_
  refine W.region ?_
  refine T.q (q_move rfl rfl) (Wt.plain rfl) rfl rfl ?_
  refine T.q (q_move rfl rfl) (Wt.plain rfl) rfl rfl ?_
  refine T.q (q_move rfl rfl) (Wt.yes rfl rfl rfl) rfl rfl ?_
  refine T.q (q_bool (b := true) (q_eql rfl rfl rfl) (decide_eq_true (by decide))) (Wt.yes rfl rfl rfl) rfl rfl ?_
  refine T.q (q_pickT rfl rfl rfl) (Wt.plain rfl) rfl rfl ?_
  refine T.q (q_move rfl rfl) (Wt.plain rfl) rfl rfl ?_
  refine T.q (q_move rfl rfl) (Wt.yes rfl rfl rfl) rfl rfl ?_
  refine T.q (q_len sc52 rfl rfl) (Wt.yes rfl rfl rfl) rfl rfl ?_
  refine T.q (q_bool (b := true) (q_eql rfl rfl rfl) (decide_eq_true rfl)) (Wt.yes rfl rfl rfl) rfl rfl ?_
  refine T.q (q_pickT rfl rfl rfl) (Wt.plain rfl) rfl rfl ?_
  refine T.q (q_assign rfl rfl) (Wt.plain rfl) rfl rfl ?_
  refine T.nil ?_
  refine Ex.next ?_
  refine W.slots (L' := [(4, _)]) ⟨rfl, trivial⟩ ?_
  refine W.ret ?_
  refine Ex.out1 [] rfl rfl ?_
  exact ⟨rfl, rfl⟩
set_option maxRecDepth 100000 in
theorem cuts_pos (m : Fm) (hO : m.OK) (z : Int) (hz : -9223372036854775808 ≤ z) (hz2 : z ≤ 9223372036854775807) (hpos : 0 ≤ z) (hok : frOK m.f) (w0 : World) (hR : Reads w0 m.RA (ints .i64 (flat m.f.rs))) (hB : Reads w0 m.BA (ints .u8 m.f.bs)) : Does Try.prog 16 #[.agg (.int .i64 m.f.k :: (.int .i64 m.f.a :: (.int .i64 m.f.l :: (.slice m.RA m.f.rs.length m.rc :: (.slice m.BA m.f.bs.length m.bc :: (ints .u8 m.f.tok)))))).toArray, .int .i64 z] w0 [] (fun v G => v = .bool true ∧ G = []) := by
  have htok := hO.1
  have hw1 := wr_le hok htok
  have hw2 := wr_two htok
  have he : encE [m.f] = 0 := encE_zero.2 ⟨by simp, fun f hf => by rw [List.mem_singleton] at hf; exact hf ▸ hok, by rw [wrs_one]; omega⟩
  have hb : encB [m.f] = wr m.f := by rw [encB_ok he, wrs_one]
  have hbl : (encB [m.f]).length = (wr m.f).length := by rw [hb]
  have hby : Bytes (encB [m.f]) := by rw [hb]; exact Bytes.wr hok hO.2.2.2.2.1 hO.2.2.2.2.2
  have hmod := Nat.mod_lt z.toNat (show 0 < (encB [m.f]).length - 1 by omega)
  refine spec_of 56 Try.func16 rfl rfl rfl ?_
  refine W.seq ?_
  refine W.region ?_
  refine T.eff (e_box rfl rfl rfl rfl) (Wt.plain rfl) ?_
  rintro _ _ ⟨k1, rfl, rfl⟩
  change (_ : List Blk → Prop) [_]
  change (_ : List Blk → Prop) [⟨some k1, .int .i64 m.f.k :: (.int .i64 m.f.a :: (.int .i64 m.f.l :: (.slice m.RA m.f.rs.length m.rc :: (.slice m.BA m.f.bs.length m.bc :: (ints .u8 m.f.tok))))), 59, (0, 0)⟩]
  refine T.q (q_assign rfl rfl) (Wt.plain rfl) rfl rfl ?_
  refine T.nil ?_
  refine Ex.next ?_
  refine W.slots (L' := [(1, _), (2, _)]) ⟨rfl, rfl, trivial⟩ ?_
  refine W.seq ?_
  refine W.region ?_
  refine T.eff (e_call enters43 rfl rfl (fun w hm => shown10_spec w) rfl rfl) (Wt.plain rfl) ?_
  rintro _ _ ⟨_, _, ⟨rfl, rfl⟩, rfl, rfl⟩
  change (_ : List Blk → Prop) [_]
  refine T.q (q_assign rfl rfl) (Wt.plain rfl) rfl rfl ?_
  refine T.nil ?_
  refine Ex.next ?_
  refine W.slots (L' := [(1, _), (2, _), (5, _)]) ⟨rfl, rfl, rfl, trivial⟩ ?_
  refine W.seq ?_
  refine W.region ?_
  refine T.q (q_loadW (wd59.trans (congrArg some (by first | (simp; done) | (simp; omega)))) (R_blk 0 rfl) rfl rfl) (Wt.plain rfl) rfl rfl ?_
  refine T.eff (e_litS1 sc52 ze59 (.int .i64 m.f.k :: (.int .i64 m.f.a :: (.int .i64 m.f.l :: (.slice m.RA m.f.rs.length m.rc :: (.slice m.BA m.f.bs.length m.bc :: (ints .u8 m.f.tok)))))) rfl rfl (by first | (simp; done) | (simp; omega)) rfl rfl rfl) (Wt.plain rfl) ?_
  rintro _ _ ⟨k2, rfl, rfl⟩
  change (_ : List Blk → Prop) [_, _]
  refine T.eff (e_call enters44 rfl rfl (fun w hm => enc_at [m] rfl _ _ (by first | omega | (simp; done) | (simp; omega) | (simp at *; omega)) (by intro q hq; rw [List.mem_singleton] at hq; subst hq; exact hO) (fs := [m.f]) rfl w (by rw [fcs_sing]; exact (R_blk 1 rfl) w hm) (by intro q hq; rw [List.mem_singleton] at hq; subst hq; exact ⟨hR.ext.reads hm, hB.ext.reads hm⟩)) rfl rfl) (Wt.plain rfl) ?_
  rintro _ _ ⟨_, _, ⟨k3, cap4, junk5, rfl, hc6, rfl⟩, rfl, rfl⟩
  change (_ : List Blk → Prop) [_, _, _]
  refine T.q (q_move rfl rfl) (Wt.plain rfl) rfl rfl ?_
  refine T.q (q_extract rfl rfl rfl) (Wt.plain rfl) rfl rfl ?_
  refine T.q (q_extract rfl rfl rfl) (Wt.plain rfl) rfl rfl ?_
  refine T.q (q_assign rfl rfl) (Wt.plain rfl) rfl rfl ?_
  refine T.q (q_assign rfl rfl) (Wt.plain rfl) rfl rfl ?_
  refine T.nil ?_
  refine Ex.next ?_
  refine W.less (L' := [(1, _), (5, _), (6, _), (7, _)]) [false, false, true] ⟨rfl, rfl, rfl, rfl, trivial⟩ ?_
  change (_ : List Blk → Prop) [_]
  refine W.seq ?_
  refine W.seq ?_
  refine W.region ?_
  refine T.q (q_move rfl rfl) (Wt.plain rfl) rfl rfl ?_
  refine T.q (q_bool (b := false) (q_neq rfl rfl rfl) (decide_eq_false (by omega))) (Wt.plain rfl) rfl rfl ?_
  refine T.q (q_move rfl rfl) (Wt.plain rfl) rfl rfl ?_
  refine T.q (q_move rfl rfl) (Wt.yes rfl rfl rfl) rfl rfl ?_
  refine T.q (q_len sc22 rfl rfl) (Wt.yes rfl rfl rfl) rfl rfl ?_
  refine T.q (q_bool (b := false) (q_lss rfl rfl rfl) (decide_eq_false (by omega))) (Wt.yes rfl rfl rfl) rfl rfl ?_
  refine T.q (q_pickF rfl rfl rfl) (Wt.plain rfl) rfl rfl ?_
  refine T.nil ?_
  refine Ex.next ?_
  refine W.slots (L' := [(1, _), (5, _), (6, _), (7, _), (23, _)]) ⟨rfl, rfl, rfl, rfl, rfl, trivial⟩ ?_
  refine W.condF rfl ?_
  refine W.skip ?_
  refine Ex.next ?_
  refine W.slots (L' := [(1, _), (5, _), (6, _)]) ⟨rfl, rfl, rfl, trivial⟩ ?_
  refine W.seq ?_
  refine W.seq ?_
  refine W.region ?_
  refine T.q (q_move rfl rfl) (Wt.plain rfl) rfl rfl ?_
  refine T.q (q_bool (b := false) (q_lss rfl rfl rfl) (decide_eq_false (by omega))) (Wt.plain rfl) rfl rfl ?_
  refine T.nil ?_
  refine Ex.next ?_
  refine W.slots (L' := [(1, _), (5, _), (6, _), (30, _)]) ⟨rfl, rfl, rfl, rfl, trivial⟩ ?_
  refine W.condF rfl ?_
  refine W.skip ?_
  refine Ex.next ?_
  refine W.slots (L' := [(1, _), (5, _), (6, _)]) ⟨rfl, rfl, rfl, trivial⟩ ?_
  refine W.seq ?_
  refine W.region ?_
  refine T.q (q_move rfl rfl) (Wt.plain rfl) rfl rfl ?_
  refine T.q (q_move rfl rfl) (Wt.plain rfl) rfl rfl ?_
  refine T.q (q_move rfl rfl) (Wt.plain rfl) rfl rfl ?_
  refine T.q (q_len sc22 rfl rfl) (Wt.plain rfl) rfl rfl ?_
  refine T.q (q_int (b := ((((encB [m.f]).length - 1) : Nat) : Int)) (q_subi rfl rfl rfl (by omega) (by omega)) ?hE) (Wt.plain rfl) rfl rfl ?_
  case hE => omega
  refine T.q (q_int (b := ((((z.toNat) % ((encB [m.f]).length - 1)) : Nat) : Int)) (q_rem rfl rfl rfl (by omega) (by omega)) ?hE) (Wt.plain rfl) rfl rfl ?_
  case hE => exact rem_nat (by omega)
  refine T.q (q_int (b := (((1 + z.toNat % ((encB [m.f]).length - 1)) : Nat) : Int)) (q_addi rfl rfl rfl (by omega) (by omega)) ?hE) (Wt.plain rfl) rfl rfl ?_
  case hE => omega
  refine T.q (q_sl sc22 0 (1 + z.toNat % ((encB [m.f]).length - 1)) cap4 rfl rfl rfl ⟨_, _, rfl, by omega⟩ rfl (by first | omega | (simp; done) | (simp [-List.getD_eq_getElem?_getD]; omega)) (by first | omega | (simp; done) | (simp [-List.getD_eq_getElem?_getD]; omega)) (by first | omega | (simp; done) | (simp [-List.getD_eq_getElem?_getD]; omega)) (by simp)) (Wt.plain rfl) rfl rfl ?_
  refine T.eff (e_call enters46 rfl rfl (fun w hm => dec_no ((encB [m.f]).take (1 + z.toNat % ((encB [m.f]).length - 1))) (by rw [List.length_take]; omega) _ _ (by first | omega | (simp; done) | (simp; omega) | (simp at *; omega)) (by first | omega | (simp; done) | (simp; omega) | (simp at *; omega)) (fun x hx => hby x (List.mem_of_mem_take hx)) (by have h := dec_cut m.f hok htok (1 + z.toNat % ((encB [m.f]).length - 1)) (by omega) (by omega) (by omega); rwa [← hb] at h) w ((R_takeI (R_cutI (xs := encB [m.f]) (l := 0) (R_opre 0 rfl) (by first | omega | (simp; done) | (simp [-List.getD_eq_getElem?_getD]; omega) | (simp at *; omega) | rfl)) (1 + z.toNat % ((encB [m.f]).length - 1))) w hm)) rfl rfl) (Wt.plain rfl) ?_
  rintro _ _ ⟨_, _, ⟨rfl, rfl⟩, rfl, rfl⟩
  change (_ : List Blk → Prop) [_]
  refine T.q (q_move rfl rfl) (Wt.plain rfl) rfl rfl ?_
  refine T.q (q_extract rfl rfl rfl) (Wt.plain rfl) rfl rfl ?_
  refine T.q (q_extract rfl rfl rfl) (Wt.plain rfl) rfl rfl ?_
  refine T.q (q_assign rfl rfl) (Wt.plain rfl) rfl rfl ?_
  refine T.q (q_assign rfl rfl) (Wt.plain rfl) rfl rfl ?_
  refine T.nil ?_
  refine Ex.next ?_
  refine W.less (L' := [(5, _), (8, _), (9, _)]) [false] ⟨rfl, rfl, rfl, trivial⟩ ?_
  change (_ : List Blk → Prop) []
  refine W.seq ?_
  refine W.region ?_
  refine T.q (q_move rfl rfl) (Wt.plain rfl) rfl rfl ?_
  refine T.q (q_move rfl rfl) (Wt.plain rfl) rfl rfl ?_
  refine T.q (q_move rfl rfl) (Wt.yes rfl rfl rfl) rfl rfl ?_
  refine T.q (q_bool (b := true) (q_eql rfl rfl rfl) (decide_eq_true (by decide))) (Wt.yes rfl rfl rfl) rfl rfl ?_
  refine T.q (q_pickT rfl rfl rfl) (Wt.plain rfl) rfl rfl ?_
  refine T.q (q_move rfl rfl) (Wt.plain rfl) rfl rfl ?_
  refine T.q (q_move rfl rfl) (Wt.yes rfl rfl rfl) rfl rfl ?_
  refine T.q (q_len sc52 rfl rfl) (Wt.yes rfl rfl rfl) rfl rfl ?_
  refine T.q (q_bool (b := true) (q_eql rfl rfl rfl) (decide_eq_true rfl)) (Wt.yes rfl rfl rfl) rfl rfl ?_
  refine T.q (q_pickT rfl rfl rfl) (Wt.plain rfl) rfl rfl ?_
  refine T.q (q_assign rfl rfl) (Wt.plain rfl) rfl rfl ?_
  refine T.nil ?_
  refine Ex.next ?_
  refine W.slots (L' := [(4, _)]) ⟨rfl, trivial⟩ ?_
  refine W.ret ?_
  refine Ex.out1 [] rfl rfl ?_
  exact ⟨rfl, rfl⟩
set_option maxRecDepth 100000 in
theorem cuts_no (m : Fm) (hO : m.OK) (z : Int) (_hz : -9223372036854775808 ≤ z) (_hz2 : z ≤ 9223372036854775807) (hno : ¬ frOK m.f) (w0 : World) (hR : Reads w0 m.RA (ints .i64 (flat m.f.rs))) (hB : Reads w0 m.BA (ints .u8 m.f.bs)) : Does Try.prog 16 #[.agg (.int .i64 m.f.k :: (.int .i64 m.f.a :: (.int .i64 m.f.l :: (.slice m.RA m.f.rs.length m.rc :: (.slice m.BA m.f.bs.length m.bc :: (ints .u8 m.f.tok)))))).toArray, .int .i64 z] w0 [] (fun v G => v = .bool true ∧ G = []) := by
  have htok := hO.1
  have he : encE [m.f] = 100 := encE_bad (f := m.f) (by simp) (by simp) hno
  refine spec_of 56 Try.func16 rfl rfl rfl ?_
  refine W.seq ?_
  refine W.region ?_
  refine T.eff (e_box rfl rfl rfl rfl) (Wt.plain rfl) ?_
  rintro _ _ ⟨k1, rfl, rfl⟩
  change (_ : List Blk → Prop) [_]
  change (_ : List Blk → Prop) [⟨some k1, .int .i64 m.f.k :: (.int .i64 m.f.a :: (.int .i64 m.f.l :: (.slice m.RA m.f.rs.length m.rc :: (.slice m.BA m.f.bs.length m.bc :: (ints .u8 m.f.tok))))), 59, (0, 0)⟩]
  refine T.q (q_assign rfl rfl) (Wt.plain rfl) rfl rfl ?_
  refine T.nil ?_
  refine Ex.next ?_
  refine W.slots (L' := [(1, _), (2, _)]) ⟨rfl, rfl, trivial⟩ ?_
  refine W.seq ?_
  refine W.region ?_
  refine T.eff (e_call enters43 rfl rfl (fun w hm => shown10_spec w) rfl rfl) (Wt.plain rfl) ?_
  rintro _ _ ⟨_, _, ⟨rfl, rfl⟩, rfl, rfl⟩
  change (_ : List Blk → Prop) [_]
  refine T.q (q_assign rfl rfl) (Wt.plain rfl) rfl rfl ?_
  refine T.nil ?_
  refine Ex.next ?_
  refine W.slots (L' := [(1, _), (2, _), (5, _)]) ⟨rfl, rfl, rfl, trivial⟩ ?_
  refine W.seq ?_
  refine W.region ?_
  refine T.q (q_loadW (wd59.trans (congrArg some (by first | (simp; done) | (simp; omega)))) (R_blk 0 rfl) rfl rfl) (Wt.plain rfl) rfl rfl ?_
  refine T.eff (e_litS1 sc52 ze59 (.int .i64 m.f.k :: (.int .i64 m.f.a :: (.int .i64 m.f.l :: (.slice m.RA m.f.rs.length m.rc :: (.slice m.BA m.f.bs.length m.bc :: (ints .u8 m.f.tok)))))) rfl rfl (by first | (simp; done) | (simp; omega)) rfl rfl rfl) (Wt.plain rfl) ?_
  rintro _ _ ⟨k2, rfl, rfl⟩
  change (_ : List Blk → Prop) [_, _]
  refine T.eff (e_call enters44 rfl rfl (fun w hm => enc_at [m] rfl _ _ (by first | omega | (simp; done) | (simp; omega) | (simp at *; omega)) (by intro q hq; rw [List.mem_singleton] at hq; subst hq; exact hO) (fs := [m.f]) rfl w (by rw [fcs_sing]; exact (R_blk 1 rfl) w hm) (by intro q hq; rw [List.mem_singleton] at hq; subst hq; exact ⟨hR.ext.reads hm, hB.ext.reads hm⟩)) rfl rfl) (Wt.plain rfl) ?_
  rintro _ _ ⟨_, _, ⟨k3, cap4, junk5, rfl, hc6, rfl⟩, rfl, rfl⟩
  change (_ : List Blk → Prop) [_, _, _]
  refine T.q (q_move rfl rfl) (Wt.plain rfl) rfl rfl ?_
  refine T.q (q_extract rfl rfl rfl) (Wt.plain rfl) rfl rfl ?_
  refine T.q (q_extract rfl rfl rfl) (Wt.plain rfl) rfl rfl ?_
  refine T.q (q_assign rfl rfl) (Wt.plain rfl) rfl rfl ?_
  refine T.q (q_assign rfl rfl) (Wt.plain rfl) rfl rfl ?_
  refine T.nil ?_
  refine Ex.next ?_
  refine W.less (L' := [(1, _), (5, _), (6, _), (7, _)]) [false, false, true] ⟨rfl, rfl, rfl, rfl, trivial⟩ ?_
  change (_ : List Blk → Prop) [_]
  refine W.seq ?_
  refine W.seq ?_
  refine W.region ?_
  refine T.q (q_move rfl rfl) (Wt.plain rfl) rfl rfl ?_
  refine T.q (q_bool (b := true) (q_neq rfl rfl rfl) (decide_eq_true (by omega))) (Wt.plain rfl) rfl rfl ?_
  refine T.q (q_move rfl rfl) (Wt.plain rfl) rfl rfl ?_
  refine T.no (Wn.no rfl rfl rfl rfl) rfl rfl ?_
  refine T.no (Wn.no rfl rfl rfl rfl) rfl rfl ?_
  refine T.no (Wn.no rfl rfl rfl rfl) rfl rfl ?_
  refine T.q (q_pickT rfl rfl rfl) (Wt.plain rfl) rfl rfl ?_
  refine T.nil ?_
  refine Ex.next ?_
  refine W.slots (L' := [(1, _), (5, _), (6, _), (7, _), (23, _)]) ⟨rfl, rfl, rfl, rfl, rfl, trivial⟩ ?_
  refine W.condT rfl ?_
  refine W.seq ?_
  refine W.region ?_
  refine T.q (q_move rfl rfl) (Wt.plain rfl) rfl rfl ?_
  refine T.q (q_move rfl rfl) (Wt.plain rfl) rfl rfl ?_
  refine T.q (q_move rfl rfl) (Wt.yes rfl rfl rfl) rfl rfl ?_
  refine T.q (q_bool (b := true) (q_neq rfl rfl rfl) (decide_eq_true (by omega))) (Wt.yes rfl rfl rfl) rfl rfl ?_
  refine T.q (q_pickT rfl rfl rfl) (Wt.plain rfl) rfl rfl ?_
  refine T.q (q_assign rfl rfl) (Wt.plain rfl) rfl rfl ?_
  refine T.nil ?_
  refine Ex.next ?_
  refine W.less (L' := [(4, _)]) [false] ⟨rfl, trivial⟩ ?_
  change (_ : List Blk → Prop) []
  refine W.ret ?_
  refine Ex.then_ret ?_
  refine Ex.out1 [] rfl rfl ?_
  exact ⟨rfl, rfl⟩
theorem cuts_law (m : Fm) (hO : m.OK) (z : Int) (hz : -9223372036854775808 ≤ z) (hz2 : z ≤ 9223372036854775807) (w0 : World) (hR : Reads w0 m.RA (ints .i64 (flat m.f.rs))) (hB : Reads w0 m.BA (ints .u8 m.f.bs)) : Does Try.prog 16 #[.agg m.cells.toArray, .int .i64 z] w0 [] (fun v G => v = .bool true ∧ G = []) := by
  by_cases hok : frOK m.f
  · by_cases hneg : z < 0
    · exact cuts_neg m hO z hz hz2 hneg hok w0 hR hB
    · exact cuts_pos m hO z hz hz2 (by omega) hok w0 hR hB
  · exact cuts_no m hO z hz hz2 hok w0 hR hB
end Go.Proofs.Ytmkjnefongjniaa
