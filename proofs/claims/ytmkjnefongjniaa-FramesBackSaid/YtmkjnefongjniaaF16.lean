/-
  The walks of layer 10: frames that are the same.
-/
import Derived.Test.YtmkjnefongjniaaHF
namespace Go.Proofs.Ytmkjnefongjniaa
open Go Go.X
set_option maxRecDepth 100000 in
theorem same_spec (f : Frm) (RA RB BA BB : Option Addr) (rc rd bc bd : Nat) (htok : f.tok.length = 8) (hrl : f.rs.length ≤ 9223372036854775807) (w0 : World) (hR : Reads w0 RA (ints .i64 (flat f.rs))) (hR2 : Reads w0 RB (ints .i64 (flat f.rs))) (hB : Reads w0 BA (ints .u8 f.bs)) (hB2 : Reads w0 BB (ints .u8 f.bs)) : Does Try.prog 68 #[.agg (.int .i64 f.k :: (.int .i64 f.a :: (.int .i64 f.l :: (.slice RA f.rs.length rc :: (.slice BA f.bs.length bc :: (ints .u8 f.tok)))))).toArray, .agg (.int .i64 f.k :: (.int .i64 f.a :: (.int .i64 f.l :: (.slice RB f.rs.length rd :: (.slice BB f.bs.length bd :: (ints .u8 f.tok)))))).toArray] w0 [] (fun v G => v = .bool true ∧ G = []) := by
  refine spec_of 68 Try.func68 rfl rfl rfl ?_
  refine W.seq ?_
  refine W.region ?_
  refine T.eff (e_box rfl rfl rfl rfl) (Wt.plain rfl) ?_
  rintro _ _ ⟨k1, rfl, rfl⟩
  change (_ : List Blk → Prop) [_]
  change (_ : List Blk → Prop) [⟨some k1, .int .i64 f.k :: (.int .i64 f.a :: (.int .i64 f.l :: (.slice RA f.rs.length rc :: (.slice BA f.bs.length bc :: (ints .u8 f.tok))))), 59, (0, 0)⟩]
  refine T.eff (e_box rfl rfl rfl rfl) (Wt.plain rfl) ?_
  rintro _ _ ⟨k2, rfl, rfl⟩
  change (_ : List Blk → Prop) [_, _]
  change (_ : List Blk → Prop) [_, ⟨some k2, .int .i64 f.k :: (.int .i64 f.a :: (.int .i64 f.l :: (.slice RB f.rs.length rd :: (.slice BB f.bs.length bd :: (ints .u8 f.tok))))), 59, (0, 0)⟩]
  refine T.q (q_assign rfl rfl) (Wt.plain rfl) rfl rfl ?_
  refine T.nil ?_
  refine Ex.next ?_
  refine W.slots (L' := [(2, _), (3, _)]) ⟨rfl, rfl, trivial⟩ ?_
  refine W.seq ?_
  refine W.seq ?_
  refine W.region ?_
  refine T.q (q_fld fl59_0 rfl rfl) (Wt.plain rfl) rfl rfl ?_
  refine T.q (q_load1 ss3 0 rfl rfl rfl (rfl)) (Wt.plain rfl) rfl rfl ?_
  refine T.q (q_fld fl59_0 rfl rfl) (Wt.plain rfl) rfl rfl ?_
  refine T.q (q_load1 ss3 1 rfl rfl rfl (rfl)) (Wt.plain rfl) rfl rfl ?_
  refine T.q (q_bool (b := false) (q_neq rfl rfl rfl) (decide_eq_false (by simp))) (Wt.plain rfl) rfl rfl ?_
  refine T.q (q_move rfl rfl) (Wt.plain rfl) rfl rfl ?_
  refine T.q (q_fld fl59_1 rfl rfl) (Wt.yes rfl rfl rfl) rfl rfl ?_
  refine T.q (q_load1 ss3 0 rfl rfl rfl (cell_skip1 (rfl))) (Wt.yes rfl rfl rfl) rfl rfl ?_
  refine T.q (q_fld fl59_1 rfl rfl) (Wt.yes rfl rfl rfl) rfl rfl ?_
  refine T.q (q_load1 ss3 1 rfl rfl rfl (cell_skip1 (rfl))) (Wt.yes rfl rfl rfl) rfl rfl ?_
  refine T.q (q_bool (b := false) (q_neq rfl rfl rfl) (decide_eq_false (by simp))) (Wt.yes rfl rfl rfl) rfl rfl ?_
  refine T.q (q_pickF rfl rfl rfl) (Wt.plain rfl) rfl rfl ?_
  refine T.q (q_move rfl rfl) (Wt.plain rfl) rfl rfl ?_
  refine T.q (q_fld fl59_2 rfl rfl) (Wt.yes rfl rfl rfl) rfl rfl ?_
  refine T.q (q_load1 ss3 0 rfl rfl rfl (cell_skip1 (cell_skip1 (rfl)))) (Wt.yes rfl rfl rfl) rfl rfl ?_
  refine T.q (q_fld fl59_2 rfl rfl) (Wt.yes rfl rfl rfl) rfl rfl ?_
  refine T.q (q_load1 ss3 1 rfl rfl rfl (cell_skip1 (cell_skip1 (rfl)))) (Wt.yes rfl rfl rfl) rfl rfl ?_
  refine T.q (q_bool (b := false) (q_neq rfl rfl rfl) (decide_eq_false (by simp))) (Wt.yes rfl rfl rfl) rfl rfl ?_
  refine T.q (q_pickF rfl rfl rfl) (Wt.plain rfl) rfl rfl ?_
  refine T.q (q_move rfl rfl) (Wt.plain rfl) rfl rfl ?_
  refine T.q (q_fld fl59_5 rfl rfl) (Wt.yes rfl rfl rfl) rfl rfl ?_
  refine T.q (q_loadW (wide_ints wd57 (by first | omega | (simp; done) | (simp [-List.getD_eq_getElem?_getD]; omega) | (simp at *; omega) | rfl)) (R_at 0 5 8 rfl (part_skip1 (part_skip1 (part_skip1 (part_skip1 (part_skip1 (part_last (by first | omega | (simp; done) | (simp [-List.getD_eq_getElem?_getD]; omega) | (simp at *; omega) | rfl)))))))) rfl rfl) (Wt.yes rfl rfl rfl) rfl rfl ?_
  refine T.q (q_fld fl59_5 rfl rfl) (Wt.yes rfl rfl rfl) rfl rfl ?_
  refine T.q (q_loadW (wide_ints wd57 (by first | omega | (simp; done) | (simp [-List.getD_eq_getElem?_getD]; omega) | (simp at *; omega) | rfl)) (R_at 1 5 8 rfl (part_skip1 (part_skip1 (part_skip1 (part_skip1 (part_skip1 (part_last (by first | omega | (simp; done) | (simp [-List.getD_eq_getElem?_getD]; omega) | (simp at *; omega) | rfl)))))))) rfl rfl) (Wt.yes rfl rfl rfl) rfl rfl ?_
  refine T.q (q_bool (b := false) (q_neqA ar57 ss5 un5 eg57 rfl rfl rfl (by first | omega | (simp; done) | (simp [-List.getD_eq_getElem?_getD]; omega) | (simp at *; omega) | rfl) (by first | omega | (simp; done) | (simp [-List.getD_eq_getElem?_getD]; omega) | (simp at *; omega) | rfl)) ?hE) (Wt.yes rfl rfl rfl) rfl rfl ?_
  case hE => simp
  refine T.q (q_pickF rfl rfl rfl) (Wt.plain rfl) rfl rfl ?_
  refine T.q (q_move rfl rfl) (Wt.plain rfl) rfl rfl ?_
  refine T.q (q_fld fl59_4 rfl rfl) (Wt.yes rfl rfl rfl) rfl rfl ?_
  refine T.q (q_load1 ss22 0 rfl rfl rfl (cell_skip1 (cell_skip1 (cell_skip1 (cell_skip1 (rfl)))))) (Wt.yes rfl rfl rfl) rfl rfl ?_
  refine T.q (q_bstr sc22 un5 un9 (R_ext hB.ext) (by first | omega | (simp; done) | (simp [-List.getD_eq_getElem?_getD]; omega) | (simp at *; omega) | rfl) rfl rfl) (Wt.yes rfl rfl rfl) rfl rfl ?_
  refine T.q (q_fld fl59_4 rfl rfl) (Wt.yes rfl rfl rfl) rfl rfl ?_
  refine T.q (q_load1 ss22 1 rfl rfl rfl (cell_skip1 (cell_skip1 (cell_skip1 (cell_skip1 (rfl)))))) (Wt.yes rfl rfl rfl) rfl rfl ?_
  refine T.q (q_bstr sc22 un5 un9 (R_ext hB2.ext) (by first | omega | (simp; done) | (simp [-List.getD_eq_getElem?_getD]; omega) | (simp at *; omega) | rfl) rfl rfl) (Wt.yes rfl rfl rfl) rfl rfl ?_
  refine T.q (q_bool (b := false) (q_neqS rfl rfl rfl) ?hE) (Wt.yes rfl rfl rfl) rfl rfl ?_
  case hE => simp
  refine T.q (q_pickF rfl rfl rfl) (Wt.plain rfl) rfl rfl ?_
  refine T.q (q_move rfl rfl) (Wt.plain rfl) rfl rfl ?_
  refine T.q (q_fld fl59_3 rfl rfl) (Wt.yes rfl rfl rfl) rfl rfl ?_
  refine T.q (q_load1 ss56 0 rfl rfl rfl (cell_skip1 (cell_skip1 (cell_skip1 (rfl))))) (Wt.yes rfl rfl rfl) rfl rfl ?_
  refine T.q (q_len sc56 rfl rfl) (Wt.yes rfl rfl rfl) rfl rfl ?_
  refine T.q (q_fld fl59_3 rfl rfl) (Wt.yes rfl rfl rfl) rfl rfl ?_
  refine T.q (q_load1 ss56 1 rfl rfl rfl (cell_skip1 (cell_skip1 (cell_skip1 (rfl))))) (Wt.yes rfl rfl rfl) rfl rfl ?_
  refine T.q (q_len sc56 rfl rfl) (Wt.yes rfl rfl rfl) rfl rfl ?_
  refine T.q (q_bool (b := false) (q_neq rfl rfl rfl) (decide_eq_false (by simp))) (Wt.yes rfl rfl rfl) rfl rfl ?_
  refine T.q (q_pickF rfl rfl rfl) (Wt.plain rfl) rfl rfl ?_
  refine T.nil ?_
  refine Ex.next ?_
  refine W.slots (L' := [(2, _), (3, _), (49, _)]) ⟨rfl, rfl, rfl, trivial⟩ ?_
  refine W.condF rfl ?_
  refine W.skip ?_
  refine Ex.next ?_
  refine W.slots (L' := [(2, _), (3, _)]) ⟨rfl, rfl, trivial⟩ ?_
  refine W.seq ?_
  refine W.seq ?_
  refine W.region ?_
  refine T.q (q_assign rfl rfl) (Wt.plain rfl) rfl rfl ?_
  refine T.nil ?_
  refine Ex.next ?_
  refine W.slots (L' := [(2, _), (3, _), (5, _)]) ⟨rfl, rfl, rfl, trivial⟩ ?_
  refine W.block ?_
  refine W.loop (α := Nat) (fun i => [(2, .pointer (some ⟨k1, 0, none⟩)), (3, .pointer (some ⟨k2, 0, none⟩)), (5, .int .i64 ((i : Nat) : Int))]) (fun i => [⟨some k1, .int .i64 f.k :: (.int .i64 f.a :: (.int .i64 f.l :: (.slice RA f.rs.length rc :: (.slice BA f.bs.length bc :: (ints .u8 f.tok))))), 59, (0, 0)⟩, ⟨some k2, .int .i64 f.k :: (.int .i64 f.a :: (.int .i64 f.l :: (.slice RB f.rs.length rd :: (.slice BB f.bs.length bd :: (ints .u8 f.tok))))), 59, (0, 0)⟩]) (fun i => i ≤ f.rs.length) (fun i => f.rs.length - i) [true, true] 0 (by omega) ⟨rfl, rfl, rfl, trivial⟩ rfl ?_
  rintro i hi
  refine W.seq ?_
  refine W.seq ?_
  refine W.region ?_
  refine T.q (q_move rfl rfl) (Wt.plain rfl) rfl rfl ?_
  refine T.q (q_fld fl59_3 rfl rfl) (Wt.plain rfl) rfl rfl ?_
  refine T.q (q_load1 ss56 0 rfl rfl rfl (cell_skip1 (cell_skip1 (cell_skip1 (rfl))))) (Wt.plain rfl) rfl rfl ?_
  refine T.q (q_len sc56 rfl rfl) (Wt.plain rfl) rfl rfl ?_
  refine T.q (q_lss rfl rfl rfl) (Wt.plain rfl) rfl rfl ?_
  refine T.nil ?_
  refine Ex.next ?_
  refine W.slots (L' := [(2, _), (3, _), (5, _), (54, _)]) ⟨rfl, rfl, rfl, rfl, trivial⟩ ?_
  refine W.cond _ rfl (fun hb3 => ?_) (fun hb3 => ?_)
  · replace hb3 := of_decide_eq_true hb3
    have hir : i < f.rs.length := by omega
    refine W.skip ?_
    refine Ex.next ?_
    refine W.slots (L' := [(2, _), (3, _), (5, _)]) ⟨rfl, rfl, rfl, trivial⟩ ?_
    refine W.seq ?_
    refine W.block ?_
    refine W.seq ?_
    refine W.draw 11 (by kernel_rfl) ?_
    refine D.take 0 rfl (by kernel_rfl) (fun _ h => h) (q_fld fl59_3 rfl rfl) (Wt.plain rfl) rfl rfl ?_
    refine D.take 1 rfl (by kernel_rfl) (fun _ h => h) (q_load1 ss56 0 rfl rfl rfl (cell_skip1 (cell_skip1 (cell_skip1 (rfl))))) (Wt.plain rfl) rfl rfl ?_
    refine D.take 2 rfl (by kernel_rfl) (fun _ h => h) (q_move rfl rfl) (Wt.plain rfl) rfl rfl ?_
    refine D.take 3 rfl (by kernel_rfl) (fun _ h => h) (q_ixE sc56 i (R_ext hR.ext) rfl rfl rfl (by omega) (by omega) (by rw [ints_length, flat_length]; omega)) (Wt.plain rfl) rfl rfl ?_
    refine D.take 4 rfl (by kernel_rfl) (fun _ h => h) (q_loadW wd74 (R_elem (R_ext hR.ext) (i * 2) 2 (flat_getV (by omega))) rfl rfl) (Wt.plain rfl) rfl rfl ?_
    refine D.take 5 rfl (by kernel_rfl) (fun _ h => h) (q_fld fl59_3 rfl rfl) (Wt.plain rfl) rfl rfl ?_
    refine D.take 6 rfl (by kernel_rfl) (fun _ h => h) (q_load1 ss56 1 rfl rfl rfl (cell_skip1 (cell_skip1 (cell_skip1 (rfl))))) (Wt.plain rfl) rfl rfl ?_
    refine D.take 7 rfl (by kernel_rfl) (fun _ h => h) (q_move rfl rfl) (Wt.plain rfl) rfl rfl ?_
    refine D.take 8 rfl (by kernel_rfl) (fun _ h => h) (q_ixE sc56 i (R_ext hR2.ext) rfl rfl rfl (by omega) (by omega) (by rw [ints_length, flat_length]; omega)) (Wt.plain rfl) rfl rfl ?_
    refine D.take 9 rfl (by kernel_rfl) (fun _ h => h) (q_loadW wd74 (R_elem (R_ext hR2.ext) (i * 2) 2 (flat_getV (by omega))) rfl rfl) (Wt.plain rfl) rfl rfl ?_
    refine D.take 10 rfl (by kernel_rfl) (fun _ h => h) (q_neqSame (k := .i64) (xs := [(f.rs.getD i (0, 0)).1, (f.rs.getD i (0, 0)).2]) is74 rfl rfl rfl) (Wt.plain rfl) rfl rfl ?_
    refine D.done (by kernel_rfl) ?_
    refine Ex.next ?_
    refine W.slots (L' := [(2, _), (3, _), (5, _), (67, _)]) ⟨rfl, rfl, rfl, rfl, trivial⟩ ?_
    refine W.condF rfl ?_
    refine W.skip ?_
    refine Ex.in_normal ?_
    refine Ex.next ?_
    refine W.slots (L' := [(2, _), (3, _), (5, _)]) ⟨rfl, rfl, rfl, trivial⟩ ?_
    refine W.region ?_
    refine T.q (q_move rfl rfl) (Wt.plain rfl) rfl rfl ?_
    refine T.q (q_addi rfl rfl rfl (by omega) (by omega)) (Wt.plain rfl) rfl rfl ?_
    refine T.q (q_assign rfl rfl) (Wt.plain rfl) rfl rfl ?_
    refine T.nil ?_
    exact Ex.again [true, true] (i + 1) (by omega) (by omega) ⟨rfl, rfl, rfl, trivial⟩ rfl
  replace hb3 := of_decide_eq_false hb3
  obtain rfl : i = f.rs.length := by omega
  refine W.exit ?_
  refine Ex.then_exit ?_
  refine Ex.then_exit ?_
  refine Ex.in_here ?_
  refine Ex.next ?_
  refine W.less (L' := []) [false, false] trivial ?_
  change (_ : List Blk → Prop) []
  refine W.seq ?_
  refine W.region ?_
  refine T.q (q_assign rfl rfl) (Wt.plain rfl) rfl rfl ?_
  refine T.nil ?_
  refine Ex.next ?_
  refine W.slots (L' := [(4, _)]) ⟨rfl, trivial⟩ ?_
  refine W.ret ?_
  refine Ex.out1 [] rfl rfl ?_
  exact ⟨rfl, rfl⟩
theorem same_at (m q : Fm) (hf : m.f = q.f) (hO : m.OK) (w0 : World) (hm : m.In w0) (hq : q.In w0) : Does Try.prog 68 #[.agg m.cells.toArray, .agg q.cells.toArray] w0 [] (fun v G => v = .bool true ∧ G = []) := by
  obtain ⟨f, RA, rc, BA, bc⟩ := m
  obtain ⟨g, RB, rd, BB, bd⟩ := q
  obtain rfl : f = g := hf
  exact same_spec f RA RB BA BB rc rd bc bd hO.1 hO.2.1 w0 hm.1 hq.1 hm.2 hq.2
set_option maxRecDepth 100000 in
theorem all_spec (ms : List Fm) (LA : Option Addr) (lc : Nat) (hMO : ∀ m ∈ ms, m.OK) (ms2 : List Fm) (LB : Option Addr) (lc2 : Nat) (hMO2 : ∀ m ∈ ms2, m.OK) (hfs : fsOf ms = fsOf ms2) (h16 : ms.length ≤ 16) (w0 : World) (hL : Reads w0 LA (fcs ms)) (hI : ∀ m ∈ ms, m.In w0) (hL2 : Reads w0 LB (fcs ms2)) (hI2 : ∀ m ∈ ms2, m.In w0) : Does Try.prog 51 #[.slice LA ms.length lc, .slice LB ms2.length lc2] w0 [] (fun v G => v = .bool true ∧ G = []) := by
  have htk : ∀ m ∈ ms, m.f.tok.length = 8 := fun m hm => (hMO m hm).1
  have htk2 : ∀ m ∈ ms2, m.f.tok.length = 8 := fun m hm => (hMO2 m hm).1
  have hlen : ms2.length = ms.length := by have := congrArg List.length hfs; simpa using this.symm
  refine spec_of 27 Try.func51 rfl rfl rfl ?_
  refine W.seq ?_
  refine W.region ?_
  refine T.q (q_assign rfl rfl) (Wt.plain rfl) rfl rfl ?_
  refine T.nil ?_
  refine Ex.next ?_
  refine W.slots (L' := [(0, _), (1, _)]) ⟨rfl, rfl, trivial⟩ ?_
  refine W.seq ?_
  refine W.seq ?_
  refine W.region ?_
  refine T.q (q_move rfl rfl) (Wt.plain rfl) rfl rfl ?_
  refine T.q (q_len sc52 rfl rfl) (Wt.plain rfl) rfl rfl ?_
  refine T.q (q_move rfl rfl) (Wt.plain rfl) rfl rfl ?_
  refine T.q (q_len sc52 rfl rfl) (Wt.plain rfl) rfl rfl ?_
  refine T.q (q_bool (b := false) (q_neq rfl rfl rfl) (decide_eq_false (by omega))) (Wt.plain rfl) rfl rfl ?_
  refine T.nil ?_
  refine Ex.next ?_
  refine W.slots (L' := [(0, _), (1, _), (10, _)]) ⟨rfl, rfl, rfl, trivial⟩ ?_
  refine W.condF rfl ?_
  refine W.skip ?_
  refine Ex.next ?_
  refine W.slots (L' := [(0, _), (1, _)]) ⟨rfl, rfl, trivial⟩ ?_
  refine W.seq ?_
  refine W.seq ?_
  refine W.region ?_
  refine T.q (q_assign rfl rfl) (Wt.plain rfl) rfl rfl ?_
  refine T.nil ?_
  refine Ex.next ?_
  refine W.slots (L' := [(0, _), (1, _), (5, _)]) ⟨rfl, rfl, rfl, trivial⟩ ?_
  refine W.block ?_
  refine W.loop (α := Nat) (fun i => [(0, .slice LA ms.length lc), (1, .slice LB ms2.length lc2), (5, .int .i64 ((i : Nat) : Int))]) (fun i => []) (fun i => i ≤ ms.length) (fun i => ms.length - i) [] 0 (by omega) ⟨rfl, rfl, rfl, trivial⟩ rfl ?_
  rintro i hi
  refine W.seq ?_
  refine W.seq ?_
  refine W.region ?_
  refine T.q (q_move rfl rfl) (Wt.plain rfl) rfl rfl ?_
  refine T.q (q_move rfl rfl) (Wt.plain rfl) rfl rfl ?_
  refine T.q (q_len sc52 rfl rfl) (Wt.plain rfl) rfl rfl ?_
  refine T.q (q_lss rfl rfl rfl) (Wt.plain rfl) rfl rfl ?_
  refine T.nil ?_
  refine Ex.next ?_
  refine W.slots (L' := [(0, _), (1, _), (5, _), (14, _)]) ⟨rfl, rfl, rfl, rfl, trivial⟩ ?_
  refine W.cond _ rfl (fun hb1 => ?_) (fun hb1 => ?_)
  · replace hb1 := of_decide_eq_true hb1
    have him : i < ms.length := by omega
    have htki := htk _ (fmA_mem him)
    have htkj := htk2 _ (fmA_mem (show i < ms2.length by omega))
    refine W.skip ?_
    refine Ex.next ?_
    refine W.slots (L' := [(0, _), (1, _), (5, _)]) ⟨rfl, rfl, rfl, trivial⟩ ?_
    refine W.seq ?_
    refine W.block ?_
    refine W.seq ?_
    refine W.draw 10 (by kernel_rfl) ?_
    refine D.take 0 rfl (by kernel_rfl) (fun _ h => h) (q_move rfl rfl) (Wt.plain rfl) rfl rfl ?_
    refine D.take 1 rfl (by kernel_rfl) (fun _ h => h) (q_move rfl rfl) (Wt.plain rfl) rfl rfl ?_
    refine D.take 2 rfl (by kernel_rfl) (fun _ h => h) (q_ixE sc52 i (R_ext hL.ext) rfl rfl rfl (by omega) (by omega) (by rw [fcs_length ms htk]; omega)) (Wt.plain rfl) rfl rfl ?_
    refine D.take 3 rfl (by kernel_rfl) (fun _ h => h) (q_loadW (wd59.trans (congrArg some (by first | (simp; done) | (simp; omega)))) (R_elem (R_ext hL.ext) (i * 13) 13 (show ((fcs ms).drop (i * 13)).take 13 = .int .i64 ((fmA ms i).f.k) :: (.int .i64 ((fmA ms i).f.a) :: (.int .i64 ((fmA ms i).f.l) :: (.slice ((fmA ms i).RA) ((fmA ms i).f.rs.length) ((fmA ms i).rc) :: (.slice ((fmA ms i).BA) ((fmA ms i).f.bs.length) ((fmA ms i).bc) :: (ints .u8 ((fmA ms i).f.tok)))))) from fcs_get ms _ htk (by omega))) rfl rfl) (Wt.plain rfl) rfl rfl ?_
    refine D.take 4 rfl (by kernel_rfl) (fun _ h => h) (q_move rfl rfl) (Wt.plain rfl) rfl rfl ?_
    refine D.take 5 rfl (by kernel_rfl) (fun _ h => h) (q_move rfl rfl) (Wt.plain rfl) rfl rfl ?_
    refine D.take 6 rfl (by kernel_rfl) (fun _ h => h) (q_ixE sc52 i (R_ext hL2.ext) rfl rfl rfl (by omega) (by omega) (by rw [fcs_length ms2 htk2]; omega)) (Wt.plain rfl) rfl rfl ?_
    refine D.take 7 rfl (by kernel_rfl) (fun _ h => h) (q_loadW (wd59.trans (congrArg some (by first | (simp; done) | (simp; omega)))) (R_elem (R_ext hL2.ext) (i * 13) 13 (show ((fcs ms2).drop (i * 13)).take 13 = .int .i64 ((fmA ms2 i).f.k) :: (.int .i64 ((fmA ms2 i).f.a) :: (.int .i64 ((fmA ms2 i).f.l) :: (.slice ((fmA ms2 i).RA) ((fmA ms2 i).f.rs.length) ((fmA ms2 i).rc) :: (.slice ((fmA ms2 i).BA) ((fmA ms2 i).f.bs.length) ((fmA ms2 i).bc) :: (ints .u8 ((fmA ms2 i).f.tok)))))) from fcs_get ms2 _ htk2 (by omega))) rfl rfl) (Wt.plain rfl) rfl rfl ?_
    refine D.one 8 (by kernel_rfl) ?_
    refine Up.eff rfl (e_call enters68 rfl rfl (fun w hm => same_at (fmA ms i) (fmA ms2 i) (fmA_f hfs i) (hMO _ (fmA_mem (show i < ms.length by omega))) w ⟨(R_ext (hI _ (fmA_mem (show i < ms.length by omega))).1.ext) w hm, (R_ext (hI _ (fmA_mem (show i < ms.length by omega))).2.ext) w hm⟩ ⟨(R_ext (hI2 _ (fmA_mem (show i < ms2.length by omega))).1.ext) w hm, (R_ext (hI2 _ (fmA_mem (show i < ms2.length by omega))).2.ext) w hm⟩) rfl rfl) (Wt.plain rfl) ?_
    rintro _ _ ⟨_, _, ⟨rfl, rfl⟩, rfl, rfl⟩
    refine ⟨fun _ => (fun _ h => h), ?_⟩
    change (_ : List Blk → Prop) []
    refine D.take 9 rfl (by kernel_rfl) (fun _ h => h) (q_not rfl rfl) (Wt.plain rfl) rfl rfl ?_
    refine D.done (by kernel_rfl) ?_
    refine Ex.next ?_
    refine W.slots (L' := [(0, _), (1, _), (5, _), (26, _)]) ⟨rfl, rfl, rfl, rfl, trivial⟩ ?_
    refine W.condF rfl ?_
    refine W.skip ?_
    refine Ex.in_normal ?_
    refine Ex.next ?_
    refine W.slots (L' := [(0, _), (1, _), (5, _)]) ⟨rfl, rfl, rfl, trivial⟩ ?_
    refine W.region ?_
    refine T.q (q_move rfl rfl) (Wt.plain rfl) rfl rfl ?_
    refine T.q (q_addi rfl rfl rfl (by omega) (by omega)) (Wt.plain rfl) rfl rfl ?_
    refine T.q (q_assign rfl rfl) (Wt.plain rfl) rfl rfl ?_
    refine T.nil ?_
    exact Ex.again [] (i + 1) (by omega) (by omega) ⟨rfl, rfl, rfl, trivial⟩ rfl
  replace hb1 := of_decide_eq_false hb1
  obtain rfl : i = ms.length := by omega
  refine W.exit ?_
  refine Ex.then_exit ?_
  refine Ex.then_exit ?_
  refine Ex.in_here ?_
  refine Ex.next ?_
  refine W.slots (L' := []) trivial ?_
  refine W.seq ?_
  refine W.region ?_
  refine T.q (q_assign rfl rfl) (Wt.plain rfl) rfl rfl ?_
  refine T.nil ?_
  refine Ex.next ?_
  refine W.slots (L' := [(4, _)]) ⟨rfl, trivial⟩ ?_
  refine W.ret ?_
  refine Ex.out1 [] rfl rfl ?_
  exact ⟨rfl, rfl⟩
end Go.Proofs.Ytmkjnefongjniaa
