/-
  The walks of layer 10, by the document: a frame is written.
-/
import Derived.Test.YtmkjnefongjniaaHF
import Derived.Test.YtmkjnefongjniaaO9
namespace Go.Proofs.Ytmkjnefongjniaa
open Go Go.X
set_option maxRecDepth 100000 in
theorem rput_spec (b : List Int) (BA : Option Addr) (bc : Nat) (hbc : b.length ≤ bc) (hbl : b.length ≤ 140737488354000) (n : Nat) (hn : n < 4611686018427387904) (w0 : World) (hB : Reads w0 BA (ints .u8 b)) : Does Try.prog 75 #[.slice BA b.length bc, .int .i64 ((n : Nat) : Int)] w0 [] (fun v G => ∃ (k cap : Nat) (junk : List Value), v = .slice (some ⟨k, 0, none⟩) (0 + b.length + 2 ^ kd n) cap ∧ 0 + b.length + 2 ^ kd n + junk.length = cap ∧ G = [⟨some k, ints .u8 (b ++ putV n) ++ junk, 5, (0, 0)⟩]) := by
  refine spec_of 14 Try.func75 rfl rfl rfl ?_
  refine W.seq ?_
  refine W.region ?_
  refine T.q (q_assign rfl rfl) (Wt.plain rfl) rfl rfl ?_
  refine T.nil ?_
  refine Ex.next ?_
  refine W.slots (L' := [(0, _), (1, _)]) ⟨rfl, rfl, trivial⟩ ?_
  refine W.seq ?_
  refine W.region ?_
  refine T.q (q_move rfl rfl) (Wt.plain rfl) rfl rfl ?_
  refine T.q (q_move rfl rfl) (Wt.plain rfl) rfl rfl ?_
  refine T.eff (e_call enters21 rfl rfl (fun w hm => refput_at b _ _ (by first | omega | (simp; done) | (simp; omega) | (simp at *; omega)) (by first | omega | (simp; done) | (simp; omega) | (simp at *; omega)) n (by first | omega | (simp; done) | (simp; omega) | (simp at *; omega)) w ((R_ext hB.ext) w hm) (by first | omega | (simp; done) | (simp [-List.getD_eq_getElem?_getD]; omega) | (simp at *; omega) | rfl)) rfl rfl) (Wt.plain rfl) ?_
  rintro _ _ ⟨_, _, ⟨k1, cap2, junk3, rfl, hc4, rfl⟩, rfl, rfl⟩
  change (_ : List Blk → Prop) [_]
  refine T.q (q_move rfl rfl) (Wt.plain rfl) rfl rfl ?_
  refine T.q (q_extract rfl rfl rfl) (Wt.plain rfl) rfl rfl ?_
  refine T.q (q_extract rfl rfl rfl) (Wt.plain rfl) rfl rfl ?_
  refine T.q (q_assign rfl rfl) (Wt.plain rfl) rfl rfl ?_
  refine T.q (q_assign rfl rfl) (Wt.plain rfl) rfl rfl ?_
  refine T.nil ?_
  refine Ex.next ?_
  refine W.slots (L' := [(5, _)]) ⟨rfl, trivial⟩ ?_
  refine W.seq ?_
  refine W.region ?_
  refine T.q (q_move rfl rfl) (Wt.plain rfl) rfl rfl ?_
  refine T.q (q_assign rfl rfl) (Wt.plain rfl) rfl rfl ?_
  refine T.nil ?_
  refine Ex.next ?_
  refine W.slots (L' := [(4, _)]) ⟨rfl, trivial⟩ ?_
  refine W.ret ?_
  refine Ex.out1 [true] rfl rfl ?_
  exact ⟨_, _, _, rfl, by first | assumption | omega, rfl⟩
theorem rput_at (b : List Int) {m : Nat} (hm : b.length = m) (BA : Option Addr) (bc : Nat) (hbc : m ≤ bc) (hbl : m ≤ 140737488354000) (n : Nat) (hn : n < 4611686018427387904) (w0 : World) (hB : Reads w0 BA (ints .u8 b)) : Does Try.prog 75 #[.slice BA m bc, .int .i64 ((n : Nat) : Int)] w0 []
    (fun v G => ∃ (k cap : Nat) (junk : List Value), v = .slice (some ⟨k, 0, none⟩) (m + 2 ^ kd n) cap ∧ m + 2 ^ kd n + junk.length = cap ∧ G = [⟨some k, ints .u8 (b ++ putV n) ++ junk, 5, (0, 0)⟩]) := by
  subst hm
  refine (rput_spec b BA bc hbc hbl n hn w0 hB).mono ?_
  rintro v G ⟨k, cap, junk, rfl, h, rfl⟩
  exact ⟨k, cap, junk, by rw [Nat.zero_add], by omega, rfl⟩
set_option maxRecDepth 100000 in
theorem one_1 (a : Nat) (ha : a < 4611686018427387904) (rs : List (Int × Int)) (bs tok : List Int) (RA BA : Option Addr) (rc bc : Nat) (hb128 : bs.length ≤ 128) (hbc : bs.length ≤ bc) (w0 : World) (hB : Reads w0 BA (ints .u8 bs)) : Does Try.prog 61 #[.agg (.int .i64 1 :: (.int .i64 ((a : Nat) : Int) :: (.int .i64 0 :: (.slice RA rs.length rc :: (.slice BA bs.length bc :: (ints .u8 tok)))))).toArray] w0 [] (fun v G => ∃ (k cap : Nat) (junk : List Value), v = .slice (some ⟨k, 0, none⟩) (wr ⟨1, ((a : Nat) : Int), 0, rs, bs, tok⟩).length cap ∧ (wr ⟨1, ((a : Nat) : Int), 0, rs, bs, tok⟩).length + junk.length = cap ∧ G = [⟨some k, ints .u8 (wr ⟨1, ((a : Nat) : Int), 0, rs, bs, tok⟩) ++ junk, 5, (0, 0)⟩]) := by
  have hka := pow_kd_le a
  have hkb := pow_kd_le bs.length
  refine spec_of 95 Try.func61 rfl rfl rfl ?_
  refine W.seq ?_
  refine W.region ?_
  refine T.eff (e_box rfl rfl rfl rfl) (Wt.plain rfl) ?_
  rintro _ _ ⟨k1, rfl, rfl⟩
  change (_ : List Blk → Prop) [_]
  change (_ : List Blk → Prop) [⟨some k1, .int .i64 1 :: (.int .i64 ((a : Nat) : Int) :: (.int .i64 0 :: (.slice RA rs.length rc :: (.slice BA bs.length bc :: (ints .u8 tok))))), 59, (0, 0)⟩]
  refine T.q (q_assign rfl rfl) (Wt.plain rfl) rfl rfl ?_
  refine T.nil ?_
  refine Ex.next ?_
  refine W.slots (L' := [(1, _)]) ⟨rfl, trivial⟩ ?_
  refine W.seq ?_
  refine W.region ?_
  refine T.q (q_fld fl59_0 rfl rfl) (Wt.plain rfl) rfl rfl ?_
  refine T.q (q_load1 ss3 0 rfl rfl rfl (rfl)) (Wt.plain rfl) rfl rfl ?_
  refine T.q (q_int (b := 1) (q_conv un3 un5 rfl rfl) ?hE) (Wt.plain rfl) rfl rfl ?_
  case hE => decide
  refine T.eff (e_litA sc22 ze5 rfl rfl rfl (by simp [Value.cells]) rfl rfl rfl) (Wt.plain rfl) ?_
  rintro _ _ ⟨k2, rfl, rfl⟩
  change (_ : List Blk → Prop) [_, _]
  refine T.q (q_assign rfl rfl) (Wt.plain rfl) rfl rfl ?_
  refine T.nil ?_
  refine Ex.next ?_
  refine W.slots (L' := [(1, _), (3, _)]) ⟨rfl, rfl, trivial⟩ ?_
  refine W.seq ?_
  refine W.seq ?_
  refine W.region ?_
  refine T.q (q_fld fl59_0 rfl rfl) (Wt.plain rfl) rfl rfl ?_
  refine T.q (q_load1 ss3 0 rfl rfl rfl (rfl)) (Wt.plain rfl) rfl rfl ?_
  refine T.q (q_bool (b := false) (q_eql rfl rfl rfl) (decide_eq_false (by decide))) (Wt.plain rfl) rfl rfl ?_
  refine T.q (q_move rfl rfl) (Wt.plain rfl) rfl rfl ?_
  refine T.q (q_fld fl59_0 rfl rfl) (Wt.yes rfl rfl rfl) rfl rfl ?_
  refine T.q (q_load1 ss3 0 rfl rfl rfl (rfl)) (Wt.yes rfl rfl rfl) rfl rfl ?_
  refine T.q (q_bool (b := false) (q_eql rfl rfl rfl) (decide_eq_false (by decide))) (Wt.yes rfl rfl rfl) rfl rfl ?_
  refine T.q (q_pickF rfl rfl rfl) (Wt.plain rfl) rfl rfl ?_
  refine T.nil ?_
  refine Ex.next ?_
  refine W.slots (L' := [(1, _), (3, _), (17, _)]) ⟨rfl, rfl, rfl, trivial⟩ ?_
  refine W.condF rfl ?_
  refine W.skip ?_
  refine Ex.next ?_
  refine W.slots (L' := [(1, _), (3, _)]) ⟨rfl, rfl, trivial⟩ ?_
  refine W.seq ?_
  refine W.region ?_
  refine T.q (q_move rfl rfl) (Wt.plain rfl) rfl rfl ?_
  refine T.q (q_fld fl59_1 rfl rfl) (Wt.plain rfl) rfl rfl ?_
  refine T.q (q_load1 ss3 0 rfl rfl rfl (cell_skip1 (rfl))) (Wt.plain rfl) rfl rfl ?_
  refine T.eff (e_call enters75 rfl rfl (fun w hm => rput_at [1] (by first | omega | (simp; done) | (simp [-List.getD_eq_getElem?_getD]; omega) | (simp at *; omega) | rfl) _ _ (by first | omega | (simp; done) | (simp; omega) | (simp at *; omega)) (by first | omega | (simp; done) | (simp; omega) | (simp at *; omega)) a (by first | omega | (simp; done) | (simp; omega) | (simp at *; omega)) w ((R_blk 1 rfl) w hm)) rfl rfl) (Wt.plain rfl) ?_
  rintro _ _ ⟨_, _, ⟨k3, cap4, junk5, rfl, hc6, rfl⟩, rfl, rfl⟩
  change (_ : List Blk → Prop) [_, _, _]
  refine T.q (q_assign rfl rfl) (Wt.plain rfl) rfl rfl ?_
  refine T.nil ?_
  refine Ex.next ?_
  refine W.less (L' := [(1, _), (3, _)]) [true, false, true] ⟨rfl, rfl, trivial⟩ ?_
  change (_ : List Blk → Prop) [_, _]
  refine W.seq ?_
  refine W.seq ?_
  refine W.region ?_
  refine T.q (q_fld fl59_0 rfl rfl) (Wt.plain rfl) rfl rfl ?_
  refine T.q (q_load1 ss3 0 rfl rfl rfl (rfl)) (Wt.plain rfl) rfl rfl ?_
  refine T.nil ?_
  refine Ex.next ?_
  refine W.slots (L' := [(1, _), (3, _), (27, _)]) ⟨rfl, rfl, rfl, trivial⟩ ?_
  refine W.block ?_
  refine W.seq ?_
  refine W.region ?_
  refine T.q (q_bool (b := true) (q_eql rfl rfl rfl) (decide_eq_true (by decide))) (Wt.plain rfl) rfl rfl ?_
  refine T.q (q_assign rfl rfl) (Wt.plain rfl) rfl rfl ?_
  refine T.nil ?_
  refine Ex.next ?_
  refine W.slots (L' := [(1, _), (3, _), (27, _), (29, _)]) ⟨rfl, rfl, rfl, rfl, trivial⟩ ?_
  refine W.condT rfl ?_
  refine W.seq ?_
  refine W.drawP 8 [true, false] (by kernel_rfl) ?_
  refine D.take 0 rfl (by kernel_rfl) (S_sub (((List.Sublist.slnil).cons _).cons_cons _)) (q_move rfl rfl) (Wt.plain rfl) rfl rfl ?_
  refine D.take 1 rfl (by kernel_rfl) (S_sub (((List.Sublist.slnil).cons _).cons_cons _)) (q_fld fl59_4 rfl rfl) (Wt.plain rfl) rfl rfl ?_
  refine D.take 2 rfl (by kernel_rfl) (S_sub (((List.Sublist.slnil).cons _).cons_cons _)) (q_load1 ss22 0 rfl rfl rfl (cell_skip1 (cell_skip1 (cell_skip1 (cell_skip1 (rfl)))))) (Wt.plain rfl) rfl rfl ?_
  refine D.take 3 rfl (by kernel_rfl) (S_sub (((List.Sublist.slnil).cons _).cons_cons _)) (q_len sc22 rfl rfl) (Wt.plain rfl) rfl rfl ?_
  refine D.take 5 rfl (by kernel_rfl) (S_sub (((List.Sublist.slnil).cons _).cons_cons _)) (q_fld fl59_4 rfl rfl) (Wt.plain rfl) rfl rfl ?_
  refine D.take 6 rfl (by kernel_rfl) (S_sub (((List.Sublist.slnil).cons _).cons_cons _)) (q_load1 ss22 0 rfl rfl rfl (cell_skip1 (cell_skip1 (cell_skip1 (cell_skip1 (rfl)))))) (Wt.plain rfl) rfl rfl ?_
  refine D.one 4 (by kernel_rfl) ?_
  refine Up.eff rfl (e_call enters75 rfl rfl (fun w hm => rput_at ([1] ++ putV a) (by first | omega | (simp; done) | (simp [-List.getD_eq_getElem?_getD]; omega) | (simp at *; omega) | rfl) _ _ (by first | omega | (simp; done) | (simp; omega) | (simp at *; omega)) (by first | omega | (simp; done) | (simp; omega) | (simp at *; omega)) bs.length (by first | omega | (simp; done) | (simp; omega) | (simp at *; omega)) w ((R_pre 1 rfl) w hm)) rfl rfl) (Wt.plain rfl) ?_
  rintro _ _ ⟨_, _, ⟨k7, cap8, junk9, rfl, hc10, rfl⟩, rfl, rfl⟩
  refine ⟨fun _ => (S_sub ((((List.Sublist.slnil).cons _).cons _).cons_cons _)), ?_⟩
  change (_ : List Blk → Prop) [_, _, _]
  refine D.one 7 (by kernel_rfl) ?_
  refine Up.eff rfl (e_appendI sc22 ze5 rfl 2 .u8 (([1] ++ putV a) ++ putV bs.length) bs junk9 (rfl) (R_ext hB.ext) rfl rfl rfl rfl (by first | omega | (simp; done) | (simp [-List.getD_eq_getElem?_getD]; omega) | (simp at *; omega) | rfl) (by first | omega | (simp; done) | (simp [-List.getD_eq_getElem?_getD]; omega) | (simp at *; omega) | rfl) (by first | omega | (simp; done) | (simp [-List.getD_eq_getElem?_getD]; omega) | (simp at *; omega) | rfl) (by first | omega | (simp; done) | (simp [-List.getD_eq_getElem?_getD]; omega)) (by first | omega | (simp; done) | (simp [-List.getD_eq_getElem?_getD]; omega)) rfl rfl) (Wt.plain rfl) ?_
  rintro _ _ ⟨k11, cap12, junk13, hc14, rfl, rfl⟩
  refine ⟨fun _ => (S_sub ((((List.Sublist.slnil).cons _).cons _).cons_cons _)), ?_⟩
  change (_ : List Blk → Prop) [_, _, _]
  refine D.one 8 (by kernel_rfl) ?_
  refine Up.q rfl (q_assign rfl rfl) (Wt.plain rfl) rfl rfl (fun h => absurd h (by decide)) ?_
  refine D.done (by kernel_rfl) ?_
  refine Ex.next ?_
  refine W.less (L' := [(2, _)]) [false, false, true] ⟨rfl, trivial⟩ ?_
  change (_ : List Blk → Prop) [_]
  refine W.ret ?_
  refine Ex.in_ret ?_
  refine Ex.then_ret ?_
  refine Ex.out1 [true] rfl rfl ?_
  have hw : (([1] ++ putV a) ++ putV bs.length ++ bs) = wr ⟨1, ((a : Nat) : Int), 0, rs, bs, tok⟩ := by simp [wr, wrT]
  have hlw : (((1 + 2 ^ kd a) + 2 ^ kd bs.length) + bs.length) = (wr ⟨1, ((a : Nat) : Int), 0, rs, bs, tok⟩).length := by have e := congrArg List.length hw; (try simp at e ⊢); try omega
  exact ⟨k11, cap12, junk13, by rw [← hlw], by omega, by rw [← hw] <;> rfl⟩
set_option maxRecDepth 100000 in
theorem one_3 (a l : Int) (rs : List (Int × Int)) (bs tok : List Int) (RA BA : Option Addr) (rc bc : Nat) (htok : tok.length = 8) (w0 : World) : Does Try.prog 61 #[.agg (.int .i64 3 :: (.int .i64 a :: (.int .i64 l :: (.slice RA rs.length rc :: (.slice BA bs.length bc :: (ints .u8 tok)))))).toArray] w0 [] (fun v G => ∃ (k cap : Nat) (junk : List Value), v = .slice (some ⟨k, 0, none⟩) (wr ⟨3, a, l, rs, bs, tok⟩).length cap ∧ (wr ⟨3, a, l, rs, bs, tok⟩).length + junk.length = cap ∧ G = [⟨some k, ints .u8 (wr ⟨3, a, l, rs, bs, tok⟩) ++ junk, 5, (0, 0)⟩]) := by
  refine spec_of 95 Try.func61 rfl rfl rfl ?_
  refine W.seq ?_
  refine W.region ?_
  refine T.eff (e_box rfl rfl rfl rfl) (Wt.plain rfl) ?_
  rintro _ _ ⟨k1, rfl, rfl⟩
  change (_ : List Blk → Prop) [_]
  change (_ : List Blk → Prop) [⟨some k1, .int .i64 3 :: (.int .i64 a :: (.int .i64 l :: (.slice RA rs.length rc :: (.slice BA bs.length bc :: (ints .u8 tok))))), 59, (0, 0)⟩]
  refine T.q (q_assign rfl rfl) (Wt.plain rfl) rfl rfl ?_
  refine T.nil ?_
  refine Ex.next ?_
  refine W.slots (L' := [(1, _)]) ⟨rfl, trivial⟩ ?_
  refine W.seq ?_
  refine W.region ?_
  refine T.q (q_fld fl59_0 rfl rfl) (Wt.plain rfl) rfl rfl ?_
  refine T.q (q_load1 ss3 0 rfl rfl rfl (rfl)) (Wt.plain rfl) rfl rfl ?_
  refine T.q (q_int (b := 3) (q_conv un3 un5 rfl rfl) ?hE) (Wt.plain rfl) rfl rfl ?_
  case hE => decide
  refine T.eff (e_litA sc22 ze5 rfl rfl rfl (by simp [Value.cells]) rfl rfl rfl) (Wt.plain rfl) ?_
  rintro _ _ ⟨k2, rfl, rfl⟩
  change (_ : List Blk → Prop) [_, _]
  refine T.q (q_assign rfl rfl) (Wt.plain rfl) rfl rfl ?_
  refine T.nil ?_
  refine Ex.next ?_
  refine W.slots (L' := [(1, _), (3, _)]) ⟨rfl, rfl, trivial⟩ ?_
  refine W.seq ?_
  refine W.seq ?_
  refine W.region ?_
  refine T.q (q_fld fl59_0 rfl rfl) (Wt.plain rfl) rfl rfl ?_
  refine T.q (q_load1 ss3 0 rfl rfl rfl (rfl)) (Wt.plain rfl) rfl rfl ?_
  refine T.q (q_bool (b := true) (q_eql rfl rfl rfl) (decide_eq_true (by decide))) (Wt.plain rfl) rfl rfl ?_
  refine T.q (q_move rfl rfl) (Wt.plain rfl) rfl rfl ?_
  refine T.no (Wn.no rfl rfl rfl rfl) rfl rfl ?_
  refine T.no (Wn.no rfl rfl rfl rfl) rfl rfl ?_
  refine T.no (Wn.no rfl rfl rfl rfl) rfl rfl ?_
  refine T.q (q_pickT rfl rfl rfl) (Wt.plain rfl) rfl rfl ?_
  refine T.nil ?_
  refine Ex.next ?_
  refine W.slots (L' := [(1, _), (3, _), (17, _)]) ⟨rfl, rfl, rfl, trivial⟩ ?_
  refine W.condT rfl ?_
  refine W.seq ?_
  refine W.region ?_
  refine T.q (q_move rfl rfl) (Wt.plain rfl) rfl rfl ?_
  refine T.q (q_fld fl59_5 rfl rfl) (Wt.plain rfl) rfl rfl ?_
  refine T.q (q_slAll ar57 rfl rfl) (Wt.plain rfl) rfl rfl ?_
  refine T.eff (e_appendI sc22 ze5 rfl 1 .u8 [3] tok [] ((List.append_nil _).symm) (R_at 0 5 8 rfl (part_skip1 (part_skip1 (part_skip1 (part_skip1 (part_skip1 (part_last (by first | omega | (simp; done) | (simp [-List.getD_eq_getElem?_getD]; omega) | (simp at *; omega) | rfl)))))))) rfl rfl rfl rfl (by first | omega | (simp; done) | (simp [-List.getD_eq_getElem?_getD]; omega) | (simp at *; omega) | rfl) (by first | omega | (simp; done) | (simp [-List.getD_eq_getElem?_getD]; omega) | (simp at *; omega) | rfl) (by first | omega | (simp; done) | (simp [-List.getD_eq_getElem?_getD]; omega) | (simp at *; omega) | rfl) (by first | omega | (simp; done) | (simp [-List.getD_eq_getElem?_getD]; omega)) (by first | omega | (simp; done) | (simp [-List.getD_eq_getElem?_getD]; omega)) rfl rfl) (Wt.plain rfl) ?_
  rintro _ _ ⟨k3, cap4, junk5, hc6, rfl, rfl⟩
  change (_ : List Blk → Prop) [_, _]
  refine T.q (q_assign rfl rfl) (Wt.plain rfl) rfl rfl ?_
  refine T.nil ?_
  refine Ex.next ?_
  refine W.less (L' := [(2, _)]) [false, true] ⟨rfl, trivial⟩ ?_
  change (_ : List Blk → Prop) [_]
  refine W.ret ?_
  refine Ex.then_ret ?_
  refine Ex.out1 [true] rfl rfl ?_
  have hw : ([3] ++ tok) = wr ⟨3, a, l, rs, bs, tok⟩ := by simp [wr, wrT]
  have hlw : (1 + 8) = (wr ⟨3, a, l, rs, bs, tok⟩).length := by have e := congrArg List.length hw; (try simp at e ⊢); try omega
  exact ⟨k3, cap4, junk5, by rw [← hlw], by omega, by rw [← hw] <;> rfl⟩
set_option maxRecDepth 100000 in
theorem one_4 (a l : Int) (rs : List (Int × Int)) (bs tok : List Int) (RA BA : Option Addr) (rc bc : Nat) (htok : tok.length = 8) (w0 : World) : Does Try.prog 61 #[.agg (.int .i64 4 :: (.int .i64 a :: (.int .i64 l :: (.slice RA rs.length rc :: (.slice BA bs.length bc :: (ints .u8 tok)))))).toArray] w0 [] (fun v G => ∃ (k cap : Nat) (junk : List Value), v = .slice (some ⟨k, 0, none⟩) (wr ⟨4, a, l, rs, bs, tok⟩).length cap ∧ (wr ⟨4, a, l, rs, bs, tok⟩).length + junk.length = cap ∧ G = [⟨some k, ints .u8 (wr ⟨4, a, l, rs, bs, tok⟩) ++ junk, 5, (0, 0)⟩]) := by
  refine spec_of 95 Try.func61 rfl rfl rfl ?_
  refine W.seq ?_
  refine W.region ?_
  refine T.eff (e_box rfl rfl rfl rfl) (Wt.plain rfl) ?_
  rintro _ _ ⟨k1, rfl, rfl⟩
  change (_ : List Blk → Prop) [_]
  change (_ : List Blk → Prop) [⟨some k1, .int .i64 4 :: (.int .i64 a :: (.int .i64 l :: (.slice RA rs.length rc :: (.slice BA bs.length bc :: (ints .u8 tok))))), 59, (0, 0)⟩]
  refine T.q (q_assign rfl rfl) (Wt.plain rfl) rfl rfl ?_
  refine T.nil ?_
  refine Ex.next ?_
  refine W.slots (L' := [(1, _)]) ⟨rfl, trivial⟩ ?_
  refine W.seq ?_
  refine W.region ?_
  refine T.q (q_fld fl59_0 rfl rfl) (Wt.plain rfl) rfl rfl ?_
  refine T.q (q_load1 ss3 0 rfl rfl rfl (rfl)) (Wt.plain rfl) rfl rfl ?_
  refine T.q (q_int (b := 4) (q_conv un3 un5 rfl rfl) ?hE) (Wt.plain rfl) rfl rfl ?_
  case hE => decide
  refine T.eff (e_litA sc22 ze5 rfl rfl rfl (by simp [Value.cells]) rfl rfl rfl) (Wt.plain rfl) ?_
  rintro _ _ ⟨k2, rfl, rfl⟩
  change (_ : List Blk → Prop) [_, _]
  refine T.q (q_assign rfl rfl) (Wt.plain rfl) rfl rfl ?_
  refine T.nil ?_
  refine Ex.next ?_
  refine W.slots (L' := [(1, _), (3, _)]) ⟨rfl, rfl, trivial⟩ ?_
  refine W.seq ?_
  refine W.seq ?_
  refine W.region ?_
  refine T.q (q_fld fl59_0 rfl rfl) (Wt.plain rfl) rfl rfl ?_
  refine T.q (q_load1 ss3 0 rfl rfl rfl (rfl)) (Wt.plain rfl) rfl rfl ?_
  refine T.q (q_bool (b := false) (q_eql rfl rfl rfl) (decide_eq_false (by decide))) (Wt.plain rfl) rfl rfl ?_
  refine T.q (q_move rfl rfl) (Wt.plain rfl) rfl rfl ?_
  refine T.q (q_fld fl59_0 rfl rfl) (Wt.yes rfl rfl rfl) rfl rfl ?_
  refine T.q (q_load1 ss3 0 rfl rfl rfl (rfl)) (Wt.yes rfl rfl rfl) rfl rfl ?_
  refine T.q (q_bool (b := true) (q_eql rfl rfl rfl) (decide_eq_true (by decide))) (Wt.yes rfl rfl rfl) rfl rfl ?_
  refine T.q (q_pickF rfl rfl rfl) (Wt.plain rfl) rfl rfl ?_
  refine T.nil ?_
  refine Ex.next ?_
  refine W.slots (L' := [(1, _), (3, _), (17, _)]) ⟨rfl, rfl, rfl, trivial⟩ ?_
  refine W.condT rfl ?_
  refine W.seq ?_
  refine W.region ?_
  refine T.q (q_move rfl rfl) (Wt.plain rfl) rfl rfl ?_
  refine T.q (q_fld fl59_5 rfl rfl) (Wt.plain rfl) rfl rfl ?_
  refine T.q (q_slAll ar57 rfl rfl) (Wt.plain rfl) rfl rfl ?_
  refine T.eff (e_appendI sc22 ze5 rfl 1 .u8 [4] tok [] ((List.append_nil _).symm) (R_at 0 5 8 rfl (part_skip1 (part_skip1 (part_skip1 (part_skip1 (part_skip1 (part_last (by first | omega | (simp; done) | (simp [-List.getD_eq_getElem?_getD]; omega) | (simp at *; omega) | rfl)))))))) rfl rfl rfl rfl (by first | omega | (simp; done) | (simp [-List.getD_eq_getElem?_getD]; omega) | (simp at *; omega) | rfl) (by first | omega | (simp; done) | (simp [-List.getD_eq_getElem?_getD]; omega) | (simp at *; omega) | rfl) (by first | omega | (simp; done) | (simp [-List.getD_eq_getElem?_getD]; omega) | (simp at *; omega) | rfl) (by first | omega | (simp; done) | (simp [-List.getD_eq_getElem?_getD]; omega)) (by first | omega | (simp; done) | (simp [-List.getD_eq_getElem?_getD]; omega)) rfl rfl) (Wt.plain rfl) ?_
  rintro _ _ ⟨k3, cap4, junk5, hc6, rfl, rfl⟩
  change (_ : List Blk → Prop) [_, _]
  refine T.q (q_assign rfl rfl) (Wt.plain rfl) rfl rfl ?_
  refine T.nil ?_
  refine Ex.next ?_
  refine W.less (L' := [(2, _)]) [false, true] ⟨rfl, trivial⟩ ?_
  change (_ : List Blk → Prop) [_]
  refine W.ret ?_
  refine Ex.then_ret ?_
  refine Ex.out1 [true] rfl rfl ?_
  have hw : ([4] ++ tok) = wr ⟨4, a, l, rs, bs, tok⟩ := by simp [wr, wrT]
  have hlw : (1 + 8) = (wr ⟨4, a, l, rs, bs, tok⟩).length := by have e := congrArg List.length hw; (try simp at e ⊢); try omega
  exact ⟨k3, cap4, junk5, by rw [← hlw], by omega, by rw [← hw] <;> rfl⟩
set_option maxRecDepth 100000 in
theorem one_5 (l : Int) (a : Nat) (ha : a < 4611686018427387904) (rs : List (Int × Int)) (bs tok : List Int) (RA BA : Option Addr) (rc bc : Nat) (w0 : World) : Does Try.prog 61 #[.agg (.int .i64 5 :: (.int .i64 ((a : Nat) : Int) :: (.int .i64 l :: (.slice RA rs.length rc :: (.slice BA bs.length bc :: (ints .u8 tok)))))).toArray] w0 [] (fun v G => ∃ (k cap : Nat) (junk : List Value), v = .slice (some ⟨k, 0, none⟩) (wr ⟨5, ((a : Nat) : Int), l, rs, bs, tok⟩).length cap ∧ (wr ⟨5, ((a : Nat) : Int), l, rs, bs, tok⟩).length + junk.length = cap ∧ G = [⟨some k, ints .u8 (wr ⟨5, ((a : Nat) : Int), l, rs, bs, tok⟩) ++ junk, 5, (0, 0)⟩]) := by
  have hka := pow_kd_le a
  refine spec_of 95 Try.func61 rfl rfl rfl ?_
  refine W.seq ?_
  refine W.region ?_
  refine T.eff (e_box rfl rfl rfl rfl) (Wt.plain rfl) ?_
  rintro _ _ ⟨k1, rfl, rfl⟩
  change (_ : List Blk → Prop) [_]
  change (_ : List Blk → Prop) [⟨some k1, .int .i64 5 :: (.int .i64 ((a : Nat) : Int) :: (.int .i64 l :: (.slice RA rs.length rc :: (.slice BA bs.length bc :: (ints .u8 tok))))), 59, (0, 0)⟩]
  refine T.q (q_assign rfl rfl) (Wt.plain rfl) rfl rfl ?_
  refine T.nil ?_
  refine Ex.next ?_
  refine W.slots (L' := [(1, _)]) ⟨rfl, trivial⟩ ?_
  refine W.seq ?_
  refine W.region ?_
  refine T.q (q_fld fl59_0 rfl rfl) (Wt.plain rfl) rfl rfl ?_
  refine T.q (q_load1 ss3 0 rfl rfl rfl (rfl)) (Wt.plain rfl) rfl rfl ?_
  refine T.q (q_int (b := 5) (q_conv un3 un5 rfl rfl) ?hE) (Wt.plain rfl) rfl rfl ?_
  case hE => decide
  refine T.eff (e_litA sc22 ze5 rfl rfl rfl (by simp [Value.cells]) rfl rfl rfl) (Wt.plain rfl) ?_
  rintro _ _ ⟨k2, rfl, rfl⟩
  change (_ : List Blk → Prop) [_, _]
  refine T.q (q_assign rfl rfl) (Wt.plain rfl) rfl rfl ?_
  refine T.nil ?_
  refine Ex.next ?_
  refine W.slots (L' := [(1, _), (3, _)]) ⟨rfl, rfl, trivial⟩ ?_
  refine W.seq ?_
  refine W.seq ?_
  refine W.region ?_
  refine T.q (q_fld fl59_0 rfl rfl) (Wt.plain rfl) rfl rfl ?_
  refine T.q (q_load1 ss3 0 rfl rfl rfl (rfl)) (Wt.plain rfl) rfl rfl ?_
  refine T.q (q_bool (b := false) (q_eql rfl rfl rfl) (decide_eq_false (by decide))) (Wt.plain rfl) rfl rfl ?_
  refine T.q (q_move rfl rfl) (Wt.plain rfl) rfl rfl ?_
  refine T.q (q_fld fl59_0 rfl rfl) (Wt.yes rfl rfl rfl) rfl rfl ?_
  refine T.q (q_load1 ss3 0 rfl rfl rfl (rfl)) (Wt.yes rfl rfl rfl) rfl rfl ?_
  refine T.q (q_bool (b := false) (q_eql rfl rfl rfl) (decide_eq_false (by decide))) (Wt.yes rfl rfl rfl) rfl rfl ?_
  refine T.q (q_pickF rfl rfl rfl) (Wt.plain rfl) rfl rfl ?_
  refine T.nil ?_
  refine Ex.next ?_
  refine W.slots (L' := [(1, _), (3, _), (17, _)]) ⟨rfl, rfl, rfl, trivial⟩ ?_
  refine W.condF rfl ?_
  refine W.skip ?_
  refine Ex.next ?_
  refine W.slots (L' := [(1, _), (3, _)]) ⟨rfl, rfl, trivial⟩ ?_
  refine W.seq ?_
  refine W.region ?_
  refine T.q (q_move rfl rfl) (Wt.plain rfl) rfl rfl ?_
  refine T.q (q_fld fl59_1 rfl rfl) (Wt.plain rfl) rfl rfl ?_
  refine T.q (q_load1 ss3 0 rfl rfl rfl (cell_skip1 (rfl))) (Wt.plain rfl) rfl rfl ?_
  refine T.eff (e_call enters75 rfl rfl (fun w hm => rput_at [5] (by first | omega | (simp; done) | (simp [-List.getD_eq_getElem?_getD]; omega) | (simp at *; omega) | rfl) _ _ (by first | omega | (simp; done) | (simp; omega) | (simp at *; omega)) (by first | omega | (simp; done) | (simp; omega) | (simp at *; omega)) a (by first | omega | (simp; done) | (simp; omega) | (simp at *; omega)) w ((R_blk 1 rfl) w hm)) rfl rfl) (Wt.plain rfl) ?_
  rintro _ _ ⟨_, _, ⟨k3, cap4, junk5, rfl, hc6, rfl⟩, rfl, rfl⟩
  change (_ : List Blk → Prop) [_, _, _]
  refine T.q (q_assign rfl rfl) (Wt.plain rfl) rfl rfl ?_
  refine T.nil ?_
  refine Ex.next ?_
  refine W.less (L' := [(1, _), (3, _)]) [true, false, true] ⟨rfl, rfl, trivial⟩ ?_
  change (_ : List Blk → Prop) [_, _]
  refine W.seq ?_
  refine W.seq ?_
  refine W.region ?_
  refine T.q (q_fld fl59_0 rfl rfl) (Wt.plain rfl) rfl rfl ?_
  refine T.q (q_load1 ss3 0 rfl rfl rfl (rfl)) (Wt.plain rfl) rfl rfl ?_
  refine T.nil ?_
  refine Ex.next ?_
  refine W.slots (L' := [(1, _), (3, _), (27, _)]) ⟨rfl, rfl, rfl, trivial⟩ ?_
  refine W.block ?_
  refine W.seq ?_
  refine W.region ?_
  refine T.q (q_bool (b := false) (q_eql rfl rfl rfl) (decide_eq_false (by decide))) (Wt.plain rfl) rfl rfl ?_
  refine T.q (q_assign rfl rfl) (Wt.plain rfl) rfl rfl ?_
  refine T.nil ?_
  refine Ex.next ?_
  refine W.slots (L' := [(1, _), (3, _), (27, _), (29, _)]) ⟨rfl, rfl, rfl, rfl, trivial⟩ ?_
  refine W.condF rfl ?_
  refine W.seq ?_
  refine W.seq ?_
  refine W.region ?_
  refine T.q (q_bool (b := false) (q_eql rfl rfl rfl) (decide_eq_false (by decide))) (Wt.plain rfl) rfl rfl ?_
  refine T.q (q_assign rfl rfl) (Wt.plain rfl) rfl rfl ?_
  refine T.nil ?_
  refine Ex.next ?_
  refine W.slots (L' := [(1, _), (3, _), (27, _), (39, _)]) ⟨rfl, rfl, rfl, rfl, trivial⟩ ?_
  refine W.condF rfl ?_
  refine W.region ?_
  refine T.q (q_bool (b := false) (q_eql rfl rfl rfl) (decide_eq_false (by decide))) (Wt.plain rfl) rfl rfl ?_
  refine T.q (q_assign rfl rfl) (Wt.plain rfl) rfl rfl ?_
  refine T.nil ?_
  refine Ex.next ?_
  refine W.slots (L' := [(1, _), (3, _), (39, _)]) ⟨rfl, rfl, rfl, trivial⟩ ?_
  refine W.condF rfl ?_
  refine W.seq ?_
  refine W.region ?_
  refine T.q (q_move rfl rfl) (Wt.plain rfl) rfl rfl ?_
  refine T.q (q_assign rfl rfl) (Wt.plain rfl) rfl rfl ?_
  refine T.nil ?_
  refine Ex.next ?_
  refine W.less (L' := [(2, _)]) [false, true] ⟨rfl, trivial⟩ ?_
  change (_ : List Blk → Prop) [_]
  refine W.ret ?_
  refine Ex.in_ret ?_
  refine Ex.then_ret ?_
  refine Ex.out1 [true] rfl rfl ?_
  have hw : [5] ++ putV a = wr ⟨5, ((a : Nat) : Int), l, rs, bs, tok⟩ := by simp [wr, wrT]
  have hlw : (1 + 2 ^ kd a) = (wr ⟨5, ((a : Nat) : Int), l, rs, bs, tok⟩).length := by have e := congrArg List.length hw; (try simp at e ⊢); try omega
  exact ⟨k3, cap4, junk5, by rw [← hlw], by omega, by rw [← hw] <;> rfl⟩
set_option maxRecDepth 100000 in
theorem one_6 (l : Int) (a : Nat) (ha : a < 4611686018427387904) (rs : List (Int × Int)) (bs tok : List Int) (RA BA : Option Addr) (rc bc : Nat) (w0 : World) : Does Try.prog 61 #[.agg (.int .i64 6 :: (.int .i64 ((a : Nat) : Int) :: (.int .i64 l :: (.slice RA rs.length rc :: (.slice BA bs.length bc :: (ints .u8 tok)))))).toArray] w0 [] (fun v G => ∃ (k cap : Nat) (junk : List Value), v = .slice (some ⟨k, 0, none⟩) (wr ⟨6, ((a : Nat) : Int), l, rs, bs, tok⟩).length cap ∧ (wr ⟨6, ((a : Nat) : Int), l, rs, bs, tok⟩).length + junk.length = cap ∧ G = [⟨some k, ints .u8 (wr ⟨6, ((a : Nat) : Int), l, rs, bs, tok⟩) ++ junk, 5, (0, 0)⟩]) := by
  have hka := pow_kd_le a
  refine spec_of 95 Try.func61 rfl rfl rfl ?_
  refine W.seq ?_
  refine W.region ?_
  refine T.eff (e_box rfl rfl rfl rfl) (Wt.plain rfl) ?_
  rintro _ _ ⟨k1, rfl, rfl⟩
  change (_ : List Blk → Prop) [_]
  change (_ : List Blk → Prop) [⟨some k1, .int .i64 6 :: (.int .i64 ((a : Nat) : Int) :: (.int .i64 l :: (.slice RA rs.length rc :: (.slice BA bs.length bc :: (ints .u8 tok))))), 59, (0, 0)⟩]
  refine T.q (q_assign rfl rfl) (Wt.plain rfl) rfl rfl ?_
  refine T.nil ?_
  refine Ex.next ?_
  refine W.slots (L' := [(1, _)]) ⟨rfl, trivial⟩ ?_
  refine W.seq ?_
  refine W.region ?_
  refine T.q (q_fld fl59_0 rfl rfl) (Wt.plain rfl) rfl rfl ?_
  refine T.q (q_load1 ss3 0 rfl rfl rfl (rfl)) (Wt.plain rfl) rfl rfl ?_
  refine T.q (q_int (b := 6) (q_conv un3 un5 rfl rfl) ?hE) (Wt.plain rfl) rfl rfl ?_
  case hE => decide
  refine T.eff (e_litA sc22 ze5 rfl rfl rfl (by simp [Value.cells]) rfl rfl rfl) (Wt.plain rfl) ?_
  rintro _ _ ⟨k2, rfl, rfl⟩
  change (_ : List Blk → Prop) [_, _]
  refine T.q (q_assign rfl rfl) (Wt.plain rfl) rfl rfl ?_
  refine T.nil ?_
  refine Ex.next ?_
  refine W.slots (L' := [(1, _), (3, _)]) ⟨rfl, rfl, trivial⟩ ?_
  refine W.seq ?_
  refine W.seq ?_
  refine W.region ?_
  refine T.q (q_fld fl59_0 rfl rfl) (Wt.plain rfl) rfl rfl ?_
  refine T.q (q_load1 ss3 0 rfl rfl rfl (rfl)) (Wt.plain rfl) rfl rfl ?_
  refine T.q (q_bool (b := false) (q_eql rfl rfl rfl) (decide_eq_false (by decide))) (Wt.plain rfl) rfl rfl ?_
  refine T.q (q_move rfl rfl) (Wt.plain rfl) rfl rfl ?_
  refine T.q (q_fld fl59_0 rfl rfl) (Wt.yes rfl rfl rfl) rfl rfl ?_
  refine T.q (q_load1 ss3 0 rfl rfl rfl (rfl)) (Wt.yes rfl rfl rfl) rfl rfl ?_
  refine T.q (q_bool (b := false) (q_eql rfl rfl rfl) (decide_eq_false (by decide))) (Wt.yes rfl rfl rfl) rfl rfl ?_
  refine T.q (q_pickF rfl rfl rfl) (Wt.plain rfl) rfl rfl ?_
  refine T.nil ?_
  refine Ex.next ?_
  refine W.slots (L' := [(1, _), (3, _), (17, _)]) ⟨rfl, rfl, rfl, trivial⟩ ?_
  refine W.condF rfl ?_
  refine W.skip ?_
  refine Ex.next ?_
  refine W.slots (L' := [(1, _), (3, _)]) ⟨rfl, rfl, trivial⟩ ?_
  refine W.seq ?_
  refine W.region ?_
  refine T.q (q_move rfl rfl) (Wt.plain rfl) rfl rfl ?_
  refine T.q (q_fld fl59_1 rfl rfl) (Wt.plain rfl) rfl rfl ?_
  refine T.q (q_load1 ss3 0 rfl rfl rfl (cell_skip1 (rfl))) (Wt.plain rfl) rfl rfl ?_
  refine T.eff (e_call enters75 rfl rfl (fun w hm => rput_at [6] (by first | omega | (simp; done) | (simp [-List.getD_eq_getElem?_getD]; omega) | (simp at *; omega) | rfl) _ _ (by first | omega | (simp; done) | (simp; omega) | (simp at *; omega)) (by first | omega | (simp; done) | (simp; omega) | (simp at *; omega)) a (by first | omega | (simp; done) | (simp; omega) | (simp at *; omega)) w ((R_blk 1 rfl) w hm)) rfl rfl) (Wt.plain rfl) ?_
  rintro _ _ ⟨_, _, ⟨k3, cap4, junk5, rfl, hc6, rfl⟩, rfl, rfl⟩
  change (_ : List Blk → Prop) [_, _, _]
  refine T.q (q_assign rfl rfl) (Wt.plain rfl) rfl rfl ?_
  refine T.nil ?_
  refine Ex.next ?_
  refine W.less (L' := [(1, _), (3, _)]) [true, false, true] ⟨rfl, rfl, trivial⟩ ?_
  change (_ : List Blk → Prop) [_, _]
  refine W.seq ?_
  refine W.seq ?_
  refine W.region ?_
  refine T.q (q_fld fl59_0 rfl rfl) (Wt.plain rfl) rfl rfl ?_
  refine T.q (q_load1 ss3 0 rfl rfl rfl (rfl)) (Wt.plain rfl) rfl rfl ?_
  refine T.nil ?_
  refine Ex.next ?_
  refine W.slots (L' := [(1, _), (3, _), (27, _)]) ⟨rfl, rfl, rfl, trivial⟩ ?_
  refine W.block ?_
  refine W.seq ?_
  refine W.region ?_
  refine T.q (q_bool (b := false) (q_eql rfl rfl rfl) (decide_eq_false (by decide))) (Wt.plain rfl) rfl rfl ?_
  refine T.q (q_assign rfl rfl) (Wt.plain rfl) rfl rfl ?_
  refine T.nil ?_
  refine Ex.next ?_
  refine W.slots (L' := [(1, _), (3, _), (27, _), (29, _)]) ⟨rfl, rfl, rfl, rfl, trivial⟩ ?_
  refine W.condF rfl ?_
  refine W.seq ?_
  refine W.seq ?_
  refine W.region ?_
  refine T.q (q_bool (b := false) (q_eql rfl rfl rfl) (decide_eq_false (by decide))) (Wt.plain rfl) rfl rfl ?_
  refine T.q (q_assign rfl rfl) (Wt.plain rfl) rfl rfl ?_
  refine T.nil ?_
  refine Ex.next ?_
  refine W.slots (L' := [(1, _), (3, _), (27, _), (39, _)]) ⟨rfl, rfl, rfl, rfl, trivial⟩ ?_
  refine W.condF rfl ?_
  refine W.region ?_
  refine T.q (q_bool (b := false) (q_eql rfl rfl rfl) (decide_eq_false (by decide))) (Wt.plain rfl) rfl rfl ?_
  refine T.q (q_assign rfl rfl) (Wt.plain rfl) rfl rfl ?_
  refine T.nil ?_
  refine Ex.next ?_
  refine W.slots (L' := [(1, _), (3, _), (39, _)]) ⟨rfl, rfl, rfl, trivial⟩ ?_
  refine W.condF rfl ?_
  refine W.seq ?_
  refine W.region ?_
  refine T.q (q_move rfl rfl) (Wt.plain rfl) rfl rfl ?_
  refine T.q (q_assign rfl rfl) (Wt.plain rfl) rfl rfl ?_
  refine T.nil ?_
  refine Ex.next ?_
  refine W.less (L' := [(2, _)]) [false, true] ⟨rfl, trivial⟩ ?_
  change (_ : List Blk → Prop) [_]
  refine W.ret ?_
  refine Ex.in_ret ?_
  refine Ex.then_ret ?_
  refine Ex.out1 [true] rfl rfl ?_
  have hw : [6] ++ putV a = wr ⟨6, ((a : Nat) : Int), l, rs, bs, tok⟩ := by simp [wr, wrT]
  have hlw : (1 + 2 ^ kd a) = (wr ⟨6, ((a : Nat) : Int), l, rs, bs, tok⟩).length := by have e := congrArg List.length hw; (try simp at e ⊢); try omega
  exact ⟨k3, cap4, junk5, by rw [← hlw], by omega, by rw [← hw] <;> rfl⟩
set_option maxRecDepth 100000 in
theorem one_2 (a l : Nat) (ha : a < 4611686018427387904) (hl2 : l < 4611686018427387904) (rs : List (Int × Int)) (bs tok : List Int) (RA BA : Option Addr) (rc bc : Nat) (hr8 : rs.length ≤ 8) (hris : ∀ i, i < rs.length → lastR ((a : Nat) : Int) rs i ≤ (rs.getD i (0, 0)).1 ∧ (rs.getD i (0, 0)).1 < (rs.getD i (0, 0)).2 ∧ (rs.getD i (0, 0)).2 ≤ 4611686018427387903) (w0 : World) (hR : Reads w0 RA (ints .i64 (flat rs))) : Does Try.prog 61 #[.agg (.int .i64 2 :: (.int .i64 ((a : Nat) : Int) :: (.int .i64 ((l : Nat) : Int) :: (.slice RA rs.length rc :: (.slice BA bs.length bc :: (ints .u8 tok)))))).toArray] w0 [] (fun v G => ∃ (k cap : Nat) (junk : List Value), v = .slice (some ⟨k, 0, none⟩) (wr ⟨2, ((a : Nat) : Int), ((l : Nat) : Int), rs, bs, tok⟩).length cap ∧ (wr ⟨2, ((a : Nat) : Int), ((l : Nat) : Int), rs, bs, tok⟩).length + junk.length = cap ∧ G = [⟨some k, ints .u8 (wr ⟨2, ((a : Nat) : Int), ((l : Nat) : Int), rs, bs, tok⟩) ++ junk, 5, (0, 0)⟩]) := by
  have hka := pow_kd_le a
  have hkl := pow_kd_le l
  have hkr := pow_kd_le rs.length
  refine spec_of 95 Try.func61 rfl rfl rfl ?_
  refine W.seq ?_
  refine W.region ?_
  refine T.eff (e_box rfl rfl rfl rfl) (Wt.plain rfl) ?_
  rintro _ _ ⟨k1, rfl, rfl⟩
  change (_ : List Blk → Prop) [_]
  change (_ : List Blk → Prop) [⟨some k1, .int .i64 2 :: (.int .i64 ((a : Nat) : Int) :: (.int .i64 ((l : Nat) : Int) :: (.slice RA rs.length rc :: (.slice BA bs.length bc :: (ints .u8 tok))))), 59, (0, 0)⟩]
  refine T.q (q_assign rfl rfl) (Wt.plain rfl) rfl rfl ?_
  refine T.nil ?_
  refine Ex.next ?_
  refine W.slots (L' := [(1, _)]) ⟨rfl, trivial⟩ ?_
  refine W.seq ?_
  refine W.region ?_
  refine T.q (q_fld fl59_0 rfl rfl) (Wt.plain rfl) rfl rfl ?_
  refine T.q (q_load1 ss3 0 rfl rfl rfl (rfl)) (Wt.plain rfl) rfl rfl ?_
  refine T.q (q_int (b := 2) (q_conv un3 un5 rfl rfl) ?hE) (Wt.plain rfl) rfl rfl ?_
  case hE => decide
  refine T.eff (e_litA sc22 ze5 rfl rfl rfl (by simp [Value.cells]) rfl rfl rfl) (Wt.plain rfl) ?_
  rintro _ _ ⟨k2, rfl, rfl⟩
  change (_ : List Blk → Prop) [_, _]
  refine T.q (q_assign rfl rfl) (Wt.plain rfl) rfl rfl ?_
  refine T.nil ?_
  refine Ex.next ?_
  refine W.slots (L' := [(1, _), (3, _)]) ⟨rfl, rfl, trivial⟩ ?_
  refine W.seq ?_
  refine W.seq ?_
  refine W.region ?_
  refine T.q (q_fld fl59_0 rfl rfl) (Wt.plain rfl) rfl rfl ?_
  refine T.q (q_load1 ss3 0 rfl rfl rfl (rfl)) (Wt.plain rfl) rfl rfl ?_
  refine T.q (q_bool (b := false) (q_eql rfl rfl rfl) (decide_eq_false (by decide))) (Wt.plain rfl) rfl rfl ?_
  refine T.q (q_move rfl rfl) (Wt.plain rfl) rfl rfl ?_
  refine T.q (q_fld fl59_0 rfl rfl) (Wt.yes rfl rfl rfl) rfl rfl ?_
  refine T.q (q_load1 ss3 0 rfl rfl rfl (rfl)) (Wt.yes rfl rfl rfl) rfl rfl ?_
  refine T.q (q_bool (b := false) (q_eql rfl rfl rfl) (decide_eq_false (by decide))) (Wt.yes rfl rfl rfl) rfl rfl ?_
  refine T.q (q_pickF rfl rfl rfl) (Wt.plain rfl) rfl rfl ?_
  refine T.nil ?_
  refine Ex.next ?_
  refine W.slots (L' := [(1, _), (3, _), (17, _)]) ⟨rfl, rfl, rfl, trivial⟩ ?_
  refine W.condF rfl ?_
  refine W.skip ?_
  refine Ex.next ?_
  refine W.slots (L' := [(1, _), (3, _)]) ⟨rfl, rfl, trivial⟩ ?_
  refine W.seq ?_
  refine W.region ?_
  refine T.q (q_move rfl rfl) (Wt.plain rfl) rfl rfl ?_
  refine T.q (q_fld fl59_1 rfl rfl) (Wt.plain rfl) rfl rfl ?_
  refine T.q (q_load1 ss3 0 rfl rfl rfl (cell_skip1 (rfl))) (Wt.plain rfl) rfl rfl ?_
  refine T.eff (e_call enters75 rfl rfl (fun w hm => rput_at [2] (by first | omega | (simp; done) | (simp [-List.getD_eq_getElem?_getD]; omega) | (simp at *; omega) | rfl) _ _ (by first | omega | (simp; done) | (simp; omega) | (simp at *; omega)) (by first | omega | (simp; done) | (simp; omega) | (simp at *; omega)) a (by first | omega | (simp; done) | (simp; omega) | (simp at *; omega)) w ((R_blk 1 rfl) w hm)) rfl rfl) (Wt.plain rfl) ?_
  rintro _ _ ⟨_, _, ⟨k3, cap4, junk5, rfl, hc6, rfl⟩, rfl, rfl⟩
  change (_ : List Blk → Prop) [_, _, _]
  refine T.q (q_assign rfl rfl) (Wt.plain rfl) rfl rfl ?_
  refine T.nil ?_
  refine Ex.next ?_
  refine W.less (L' := [(1, _), (3, _)]) [true, false, true] ⟨rfl, rfl, trivial⟩ ?_
  change (_ : List Blk → Prop) [_, _]
  refine W.seq ?_
  refine W.seq ?_
  refine W.region ?_
  refine T.q (q_fld fl59_0 rfl rfl) (Wt.plain rfl) rfl rfl ?_
  refine T.q (q_load1 ss3 0 rfl rfl rfl (rfl)) (Wt.plain rfl) rfl rfl ?_
  refine T.nil ?_
  refine Ex.next ?_
  refine W.slots (L' := [(1, _), (3, _), (27, _)]) ⟨rfl, rfl, rfl, trivial⟩ ?_
  refine W.block ?_
  refine W.seq ?_
  refine W.region ?_
  refine T.q (q_bool (b := false) (q_eql rfl rfl rfl) (decide_eq_false (by decide))) (Wt.plain rfl) rfl rfl ?_
  refine T.q (q_assign rfl rfl) (Wt.plain rfl) rfl rfl ?_
  refine T.nil ?_
  refine Ex.next ?_
  refine W.slots (L' := [(1, _), (3, _), (27, _), (29, _)]) ⟨rfl, rfl, rfl, rfl, trivial⟩ ?_
  refine W.condF rfl ?_
  refine W.seq ?_
  refine W.seq ?_
  refine W.region ?_
  refine T.q (q_bool (b := true) (q_eql rfl rfl rfl) (decide_eq_true (by decide))) (Wt.plain rfl) rfl rfl ?_
  refine T.q (q_assign rfl rfl) (Wt.plain rfl) rfl rfl ?_
  refine T.nil ?_
  refine Ex.next ?_
  refine W.slots (L' := [(1, _), (3, _), (27, _), (39, _)]) ⟨rfl, rfl, rfl, rfl, trivial⟩ ?_
  refine W.condT rfl ?_
  refine W.skip ?_
  refine Ex.next ?_
  refine W.slots (L' := [(1, _), (3, _), (39, _)]) ⟨rfl, rfl, rfl, trivial⟩ ?_
  refine W.condT rfl ?_
  refine W.region ?_
  refine T.q (q_move rfl rfl) (Wt.plain rfl) rfl rfl ?_
  refine T.q (q_fld fl59_2 rfl rfl) (Wt.plain rfl) rfl rfl ?_
  refine T.q (q_load1 ss3 0 rfl rfl rfl (cell_skip1 (cell_skip1 (rfl)))) (Wt.plain rfl) rfl rfl ?_
  refine T.eff (e_call enters75 rfl rfl (fun w hm => rput_at ([2] ++ putV a) (by first | omega | (simp; done) | (simp [-List.getD_eq_getElem?_getD]; omega) | (simp at *; omega) | rfl) _ _ (by first | omega | (simp; done) | (simp; omega) | (simp at *; omega)) (by first | omega | (simp; done) | (simp; omega) | (simp at *; omega)) l (by first | omega | (simp; done) | (simp; omega) | (simp at *; omega)) w ((R_pre 1 rfl) w hm)) rfl rfl) (Wt.plain rfl) ?_
  rintro _ _ ⟨_, _, ⟨k7, cap8, junk9, rfl, hc10, rfl⟩, rfl, rfl⟩
  change (_ : List Blk → Prop) [_, _, _]
  refine T.q (q_assign rfl rfl) (Wt.plain rfl) rfl rfl ?_
  refine T.nil ?_
  refine Ex.in_normal ?_
  refine Ex.next ?_
  refine W.less (L' := [(1, _), (3, _)]) [true, false, true] ⟨rfl, rfl, trivial⟩ ?_
  change (_ : List Blk → Prop) [_, _]
  refine W.seq ?_
  refine W.region ?_
  refine T.q (q_move rfl rfl) (Wt.plain rfl) rfl rfl ?_
  refine T.q (q_fld fl59_3 rfl rfl) (Wt.plain rfl) rfl rfl ?_
  refine T.q (q_load1 ss56 0 rfl rfl rfl (cell_skip1 (cell_skip1 (cell_skip1 (rfl))))) (Wt.plain rfl) rfl rfl ?_
  refine T.q (q_len sc56 rfl rfl) (Wt.plain rfl) rfl rfl ?_
  refine T.eff (e_call enters75 rfl rfl (fun w hm => rput_at (([2] ++ putV a) ++ putV l) (by first | omega | (simp; done) | (simp [-List.getD_eq_getElem?_getD]; omega) | (simp at *; omega) | rfl) _ _ (by first | omega | (simp; done) | (simp; omega) | (simp at *; omega)) (by first | omega | (simp; done) | (simp; omega) | (simp at *; omega)) rs.length (by first | omega | (simp; done) | (simp; omega) | (simp at *; omega)) w ((R_pre 1 rfl) w hm)) rfl rfl) (Wt.plain rfl) ?_
  rintro _ _ ⟨_, _, ⟨k11, cap12, junk13, rfl, hc14, rfl⟩, rfl, rfl⟩
  change (_ : List Blk → Prop) [_, _, _]
  refine T.q (q_assign rfl rfl) (Wt.plain rfl) rfl rfl ?_
  refine T.nil ?_
  refine Ex.next ?_
  refine W.less (L' := [(1, _), (3, _)]) [true, false, true] ⟨rfl, rfl, trivial⟩ ?_
  change (_ : List Blk → Prop) [_, _]
  refine W.seq ?_
  refine W.region ?_
  refine T.q (q_assign rfl rfl) (Wt.plain rfl) rfl rfl ?_
  refine T.nil ?_
  refine Ex.next ?_
  refine W.slots (L' := [(1, _), (3, _), (4, _)]) ⟨rfl, rfl, rfl, trivial⟩ ?_
  refine W.seq ?_
  refine W.seq ?_
  refine W.region ?_
  refine T.q (q_fld fl59_0 rfl rfl) (Wt.plain rfl) rfl rfl ?_
  refine T.q (q_load1 ss3 0 rfl rfl rfl (rfl)) (Wt.plain rfl) rfl rfl ?_
  refine T.q (q_bool (b := true) (q_eql rfl rfl rfl) (decide_eq_true (by decide))) (Wt.plain rfl) rfl rfl ?_
  refine T.nil ?_
  refine Ex.next ?_
  refine W.slots (L' := [(1, _), (3, _), (4, _), (53, _)]) ⟨rfl, rfl, rfl, rfl, trivial⟩ ?_
  refine W.condT rfl ?_
  refine W.region ?_
  refine T.q (q_fld fl59_1 rfl rfl) (Wt.plain rfl) rfl rfl ?_
  refine T.q (q_load1 ss3 0 rfl rfl rfl (cell_skip1 (rfl))) (Wt.plain rfl) rfl rfl ?_
  refine T.q (q_assign rfl rfl) (Wt.plain rfl) rfl rfl ?_
  refine T.nil ?_
  refine Ex.next ?_
  refine W.slots (L' := [(1, _), (3, _), (4, _)]) ⟨rfl, rfl, rfl, trivial⟩ ?_
  refine W.seq ?_
  refine W.seq ?_
  refine W.region ?_
  refine T.q (q_assign rfl rfl) (Wt.plain rfl) rfl rfl ?_
  refine T.nil ?_
  refine Ex.next ?_
  refine W.slots (L' := [(1, _), (3, _), (4, _), (5, _)]) ⟨rfl, rfl, rfl, rfl, trivial⟩ ?_
  refine W.block ?_
  refine W.loop (α := Nat × Int × Nat × List Int × Nat × Nat × List Value) (fun x_ => [(1, .pointer (some ⟨k1, 0, none⟩)), (3, .slice (some ⟨x_.2.2.2.2.1, 0, none⟩) x_.2.2.1 x_.2.2.2.2.2.1), (4, .int .i64 x_.2.1), (5, .int .i64 ((x_.1 : Nat) : Int))]) (fun x_ => [⟨some k1, .int .i64 2 :: (.int .i64 ((a : Nat) : Int) :: (.int .i64 ((l : Nat) : Int) :: (.slice RA rs.length rc :: (.slice BA bs.length bc :: (ints .u8 tok))))), 59, (0, 0)⟩, ⟨some x_.2.2.2.2.1, ints .u8 x_.2.2.2.1 ++ x_.2.2.2.2.2.2, 5, (0, 0)⟩]) (fun x_ => x_.1 ≤ rs.length ∧ x_.2.1 = lastR ((a : Nat) : Int) rs x_.1 ∧ 0 ≤ x_.2.1 ∧ x_.2.2.2.1 = ((([2] ++ putV a) ++ putV l) ++ putV rs.length) ++ wrR (rs.take x_.1) ((a : Nat) : Int) ∧ x_.2.2.1 = x_.2.2.2.1.length ∧ x_.2.2.1 + x_.2.2.2.2.2.2.length = x_.2.2.2.2.2.1 ∧ x_.2.2.1 ≤ 40 + 16 * x_.1) (fun x_ => rs.length - x_.1) [true, true] (⟨0, ((a : Nat) : Int), (((1 + 2 ^ kd a) + 2 ^ kd l) + 2 ^ kd rs.length), (([2] ++ putV a) ++ putV l) ++ putV rs.length, k11, cap12, junk13⟩) ⟨Nat.zero_le _, rfl, (by dsimp only; omega), (by simp [wrR]), (by first | (simp; done) | (simp; omega)), (by dsimp only; omega), (by dsimp only; omega)⟩ ⟨rfl, rfl, rfl, rfl, trivial⟩ rfl ?_
  rintro ⟨i, la, ln, zs, nk, cq, jq⟩ hinv
  try dsimp only at hinv
  conv => rhs; dsimp only
  conv => arg -2; dsimp only
  obtain ⟨hi, hla, hla0, hz, hln, hcq, hle⟩ := hinv
  refine W.seq ?_
  refine W.seq ?_
  refine W.region ?_
  refine T.q (q_move rfl rfl) (Wt.plain rfl) rfl rfl ?_
  refine T.q (q_fld fl59_3 rfl rfl) (Wt.plain rfl) rfl rfl ?_
  refine T.q (q_load1 ss56 0 rfl rfl rfl (cell_skip1 (cell_skip1 (cell_skip1 (rfl))))) (Wt.plain rfl) rfl rfl ?_
  refine T.q (q_len sc56 rfl rfl) (Wt.plain rfl) rfl rfl ?_
  refine T.q (q_lss rfl rfl rfl) (Wt.plain rfl) rfl rfl ?_
  refine T.nil ?_
  refine Ex.next ?_
  refine W.slots (L' := [(1, _), (3, _), (4, _), (5, _), (60, _)]) ⟨rfl, rfl, rfl, rfl, rfl, trivial⟩ ?_
  refine W.cond _ rfl (fun hb15 => ?_) (fun hb15 => ?_)
  · replace hb15 := of_decide_eq_true hb15
    have hir : i < rs.length := by omega
    obtain ⟨hc1, hc2, hc3⟩ := hris i hir
    rw [← hla] at hc1
    have hk1 := pow_kd_le ((rs.getD i (0, 0)).1 - la).toNat
    have hk2 := pow_kd_le ((rs.getD i (0, 0)).2 - (rs.getD i (0, 0)).1).toNat
    refine W.skip ?_
    refine Ex.next ?_
    refine W.slots (L' := [(1, _), (3, _), (4, _), (5, _)]) ⟨rfl, rfl, rfl, rfl, trivial⟩ ?_
    refine W.seq ?_
    refine W.block ?_
    refine W.seq ?_
    refine W.region ?_
    refine T.q (q_move rfl rfl) (Wt.plain rfl) rfl rfl ?_
    refine T.q (q_fld fl59_3 rfl rfl) (Wt.plain rfl) rfl rfl ?_
    refine T.q (q_load1 ss56 0 rfl rfl rfl (cell_skip1 (cell_skip1 (cell_skip1 (rfl))))) (Wt.plain rfl) rfl rfl ?_
    refine T.q (q_move rfl rfl) (Wt.plain rfl) rfl rfl ?_
    refine T.q (q_ixE sc56 i (R_ext hR.ext) rfl rfl rfl (by omega) (by omega) (by rw [ints_length, flat_length]; omega)) (Wt.plain rfl) rfl rfl ?_
    refine T.q (q_fldE fl74_0 rfl rfl) (Wt.plain rfl) rfl rfl ?_
    refine T.q (q_loadF ss3 (R_elem (R_ext hR.ext) (i * 2) 2 (flat_getV (by omega))) rfl rfl rfl) (Wt.plain rfl) rfl rfl ?_
    refine T.q (q_move rfl rfl) (Wt.plain rfl) rfl rfl ?_
    refine T.q (q_int (b := ((((rs.getD i (0, 0)).1 - la).toNat : Nat) : Int)) (q_subi rfl rfl rfl (by omega) (by omega)) ?hE) (Wt.plain rfl) rfl rfl ?_
    case hE => omega
    refine T.eff (e_call enters75 rfl rfl (fun w hm => rput_at zs (by first | omega | (simp; done) | (simp [-List.getD_eq_getElem?_getD]; omega) | (simp at *; omega) | rfl) _ _ (by first | omega | (simp; done) | (simp; omega) | (simp at *; omega)) (by first | omega | (simp; done) | (simp; omega) | (simp at *; omega)) (((rs.getD i (0, 0)).1 - la).toNat) (by first | omega | (simp; done) | (simp; omega) | (simp at *; omega)) w ((R_pre 1 rfl) w hm)) rfl rfl) (Wt.plain rfl) ?_
    rintro _ _ ⟨_, _, ⟨k16, cap17, junk18, rfl, hc19, rfl⟩, rfl, rfl⟩
    change (_ : List Blk → Prop) [_, _, _]
    refine T.q (q_assign rfl rfl) (Wt.plain rfl) rfl rfl ?_
    refine T.nil ?_
    refine Ex.next ?_
    refine W.slots (L' := [(1, _), (3, _), (5, _)]) ⟨rfl, rfl, rfl, trivial⟩ ?_
    refine W.seq ?_
    refine W.draw 15 (by kernel_rfl) ?_
    refine D.take 0 rfl (by kernel_rfl) (fun _ h => h) (q_move rfl rfl) (Wt.plain rfl) rfl rfl ?_
    refine D.take 1 rfl (by kernel_rfl) (fun _ h => h) (q_fld fl59_3 rfl rfl) (Wt.plain rfl) rfl rfl ?_
    refine D.take 2 rfl (by kernel_rfl) (fun _ h => h) (q_load1 ss56 0 rfl rfl rfl (cell_skip1 (cell_skip1 (cell_skip1 (rfl))))) (Wt.plain rfl) rfl rfl ?_
    refine D.take 3 rfl (by kernel_rfl) (fun _ h => h) (q_move rfl rfl) (Wt.plain rfl) rfl rfl ?_
    refine D.take 4 rfl (by kernel_rfl) (fun _ h => h) (q_ixE sc56 i (R_ext hR.ext) rfl rfl rfl (by omega) (by omega) (by rw [ints_length, flat_length]; omega)) (Wt.plain rfl) rfl rfl ?_
    refine D.take 5 rfl (by kernel_rfl) (fun _ h => h) (q_fldE fl74_1 rfl rfl) (Wt.plain rfl) rfl rfl ?_
    refine D.take 6 rfl (by kernel_rfl) (fun _ h => h) (q_loadF ss3 (R_elem (R_ext hR.ext) (i * 2) 2 (flat_getV (by omega))) rfl rfl rfl) (Wt.plain rfl) rfl rfl ?_
    refine D.take 7 rfl (by kernel_rfl) (fun _ h => h) (q_fld fl59_3 rfl rfl) (Wt.plain rfl) rfl rfl ?_
    refine D.take 8 rfl (by kernel_rfl) (fun _ h => h) (q_load1 ss56 0 rfl rfl rfl (cell_skip1 (cell_skip1 (cell_skip1 (rfl))))) (Wt.plain rfl) rfl rfl ?_
    refine D.take 9 rfl (by kernel_rfl) (fun _ h => h) (q_move rfl rfl) (Wt.plain rfl) rfl rfl ?_
    refine D.take 10 rfl (by kernel_rfl) (fun _ h => h) (q_ixE sc56 i (R_ext hR.ext) rfl rfl rfl (by omega) (by omega) (by rw [ints_length, flat_length]; omega)) (Wt.plain rfl) rfl rfl ?_
    refine D.take 11 rfl (by kernel_rfl) (fun _ h => h) (q_fldE fl74_0 rfl rfl) (Wt.plain rfl) rfl rfl ?_
    refine D.take 12 rfl (by kernel_rfl) (fun _ h => h) (q_loadF ss3 (R_elem (R_ext hR.ext) (i * 2) 2 (flat_getV (by omega))) rfl rfl rfl) (Wt.plain rfl) rfl rfl ?_
    refine D.take 13 rfl (by kernel_rfl) (fun _ h => h) (q_int (b := ((((rs.getD i (0, 0)).2 - (rs.getD i (0, 0)).1).toNat : Nat) : Int)) (q_subi rfl rfl rfl (by omega) (by omega)) ?hE) (Wt.plain rfl) rfl rfl ?_
    case hE => omega
    refine D.one 14 (by kernel_rfl) ?_
    refine Up.eff rfl (e_call enters75 rfl rfl (fun w hm => rput_at (zs ++ putV (((rs.getD i (0, 0)).1 - la).toNat)) (by first | omega | (simp; done) | (simp [-List.getD_eq_getElem?_getD]; omega) | (simp at *; omega) | rfl) _ _ (by first | omega | (simp; done) | (simp; omega) | (simp at *; omega)) (by first | omega | (simp; done) | (simp; omega) | (simp at *; omega)) (((rs.getD i (0, 0)).2 - (rs.getD i (0, 0)).1).toNat) (by first | omega | (simp; done) | (simp; omega) | (simp at *; omega)) w ((R_pre 2 rfl) w hm)) rfl rfl) (Wt.plain rfl) ?_
    rintro _ _ ⟨_, _, ⟨k20, cap21, junk22, rfl, hc23, rfl⟩, rfl, rfl⟩
    refine ⟨fun _ => (S_sub (((((List.Sublist.slnil).cons _).cons_cons _).cons_cons _).cons_cons _)), ?_⟩
    change (_ : List Blk → Prop) [_, _, _, _]
    refine D.one 15 (by kernel_rfl) ?_
    refine Up.q rfl (q_assign rfl rfl) (Wt.plain rfl) rfl rfl (fun h => absurd h (by decide)) ?_
    refine D.done (by kernel_rfl) ?_
    refine Ex.next ?_
    refine W.less (L' := [(1, _), (3, _), (5, _)]) [true, true, false, true] ⟨rfl, rfl, rfl, trivial⟩ ?_
    change (_ : List Blk → Prop) [_, _, _]
    refine W.region ?_
    refine T.q (q_fld fl59_3 rfl rfl) (Wt.plain rfl) rfl rfl ?_
    refine T.q (q_load1 ss56 0 rfl rfl rfl (cell_skip1 (cell_skip1 (cell_skip1 (rfl))))) (Wt.plain rfl) rfl rfl ?_
    refine T.q (q_move rfl rfl) (Wt.plain rfl) rfl rfl ?_
    refine T.q (q_ixE sc56 i (R_ext hR.ext) rfl rfl rfl (by omega) (by omega) (by rw [ints_length, flat_length]; omega)) (Wt.plain rfl) rfl rfl ?_
    refine T.q (q_fldE fl74_1 rfl rfl) (Wt.plain rfl) rfl rfl ?_
    refine T.q (q_loadF ss3 (R_elem (R_ext hR.ext) (i * 2) 2 (flat_getV (by omega))) rfl rfl rfl) (Wt.plain rfl) rfl rfl ?_
    refine T.q (q_assign rfl rfl) (Wt.plain rfl) rfl rfl ?_
    refine T.nil ?_
    refine Ex.in_normal ?_
    refine Ex.next ?_
    refine W.slots (L' := [(1, _), (3, _), (4, _), (5, _)]) ⟨rfl, rfl, rfl, rfl, trivial⟩ ?_
    refine W.region ?_
    refine T.q (q_move rfl rfl) (Wt.plain rfl) rfl rfl ?_
    refine T.q (q_addi rfl rfl rfl (by omega) (by omega)) (Wt.plain rfl) rfl rfl ?_
    refine T.q (q_assign rfl rfl) (Wt.plain rfl) rfl rfl ?_
    refine T.nil ?_
    exact Ex.again [true, false, true] (⟨i + 1, (rs.getD i (0, 0)).2, ((ln + 2 ^ kd (((rs.getD i (0, 0)).1 - la).toNat)) + 2 ^ kd (((rs.getD i (0, 0)).2 - (rs.getD i (0, 0)).1).toNat)), (zs ++ putV (((rs.getD i (0, 0)).1 - la).toNat)) ++ putV (((rs.getD i (0, 0)).2 - (rs.getD i (0, 0)).1).toNat), k20, cap21, junk22⟩ : Nat × Int × Nat × List Int × Nat × Nat × List Value) (by dsimp only; omega) ⟨by dsimp only; omega, (by dsimp only; rw [lastR_succ]), by dsimp only; omega, (by dsimp only; rw [wrR_take rs _ i hir, ← hla, hz]; simp), (by dsimp only; simp [hln]; try omega), by dsimp only; omega, by dsimp only; omega⟩ ⟨rfl, rfl, rfl, rfl, trivial⟩ (by first | (dsimp only [pick]; done) | rfl)
  replace hb15 := of_decide_eq_false hb15
  obtain rfl : i = rs.length := by omega
  rw [List.take_length] at hz
  refine W.exit ?_
  refine Ex.then_exit ?_
  refine Ex.then_exit ?_
  refine Ex.in_here ?_
  refine Ex.next ?_
  refine W.less (L' := [(3, _)]) [false, true] ⟨rfl, trivial⟩ ?_
  change (_ : List Blk → Prop) [_]
  refine W.seq ?_
  refine W.region ?_
  refine T.q (q_move rfl rfl) (Wt.plain rfl) rfl rfl ?_
  refine T.q (q_assign rfl rfl) (Wt.plain rfl) rfl rfl ?_
  refine T.nil ?_
  refine Ex.next ?_
  refine W.slots (L' := [(2, _)]) ⟨rfl, trivial⟩ ?_
  refine W.ret ?_
  refine Ex.out1 [true] rfl rfl ?_
  have hw : zs = wr ⟨2, ((a : Nat) : Int), ((l : Nat) : Int), rs, bs, tok⟩ := by rw [hz]; simp [wr, wrT]
  have hlw : ln = (wr ⟨2, ((a : Nat) : Int), ((l : Nat) : Int), rs, bs, tok⟩).length := by have e := congrArg List.length hw; (try simp at e ⊢); try omega
  exact ⟨nk, cq, jq, by rw [← hlw], by omega, by rw [← hw] <;> rfl⟩
set_option maxRecDepth 100000 in
theorem one_7 (a l : Nat) (ha : a < 4611686018427387904) (hl2 : l < 4611686018427387904) (rs : List (Int × Int)) (bs tok : List Int) (RA BA : Option Addr) (rc bc : Nat) (hr8 : rs.length ≤ 8) (hris : ∀ i, i < rs.length → lastR 0 rs i ≤ (rs.getD i (0, 0)).1 ∧ (rs.getD i (0, 0)).1 < (rs.getD i (0, 0)).2 ∧ (rs.getD i (0, 0)).2 ≤ 4611686018427387903) (w0 : World) (hR : Reads w0 RA (ints .i64 (flat rs))) : Does Try.prog 61 #[.agg (.int .i64 7 :: (.int .i64 ((a : Nat) : Int) :: (.int .i64 ((l : Nat) : Int) :: (.slice RA rs.length rc :: (.slice BA bs.length bc :: (ints .u8 tok)))))).toArray] w0 [] (fun v G => ∃ (k cap : Nat) (junk : List Value), v = .slice (some ⟨k, 0, none⟩) (wr ⟨7, ((a : Nat) : Int), ((l : Nat) : Int), rs, bs, tok⟩).length cap ∧ (wr ⟨7, ((a : Nat) : Int), ((l : Nat) : Int), rs, bs, tok⟩).length + junk.length = cap ∧ G = [⟨some k, ints .u8 (wr ⟨7, ((a : Nat) : Int), ((l : Nat) : Int), rs, bs, tok⟩) ++ junk, 5, (0, 0)⟩]) := by
  have hka := pow_kd_le a
  have hkl := pow_kd_le l
  have hkr := pow_kd_le rs.length
  refine spec_of 95 Try.func61 rfl rfl rfl ?_
  refine W.seq ?_
  refine W.region ?_
  refine T.eff (e_box rfl rfl rfl rfl) (Wt.plain rfl) ?_
  rintro _ _ ⟨k1, rfl, rfl⟩
  change (_ : List Blk → Prop) [_]
  change (_ : List Blk → Prop) [⟨some k1, .int .i64 7 :: (.int .i64 ((a : Nat) : Int) :: (.int .i64 ((l : Nat) : Int) :: (.slice RA rs.length rc :: (.slice BA bs.length bc :: (ints .u8 tok))))), 59, (0, 0)⟩]
  refine T.q (q_assign rfl rfl) (Wt.plain rfl) rfl rfl ?_
  refine T.nil ?_
  refine Ex.next ?_
  refine W.slots (L' := [(1, _)]) ⟨rfl, trivial⟩ ?_
  refine W.seq ?_
  refine W.region ?_
  refine T.q (q_fld fl59_0 rfl rfl) (Wt.plain rfl) rfl rfl ?_
  refine T.q (q_load1 ss3 0 rfl rfl rfl (rfl)) (Wt.plain rfl) rfl rfl ?_
  refine T.q (q_int (b := 7) (q_conv un3 un5 rfl rfl) ?hE) (Wt.plain rfl) rfl rfl ?_
  case hE => decide
  refine T.eff (e_litA sc22 ze5 rfl rfl rfl (by simp [Value.cells]) rfl rfl rfl) (Wt.plain rfl) ?_
  rintro _ _ ⟨k2, rfl, rfl⟩
  change (_ : List Blk → Prop) [_, _]
  refine T.q (q_assign rfl rfl) (Wt.plain rfl) rfl rfl ?_
  refine T.nil ?_
  refine Ex.next ?_
  refine W.slots (L' := [(1, _), (3, _)]) ⟨rfl, rfl, trivial⟩ ?_
  refine W.seq ?_
  refine W.seq ?_
  refine W.region ?_
  refine T.q (q_fld fl59_0 rfl rfl) (Wt.plain rfl) rfl rfl ?_
  refine T.q (q_load1 ss3 0 rfl rfl rfl (rfl)) (Wt.plain rfl) rfl rfl ?_
  refine T.q (q_bool (b := false) (q_eql rfl rfl rfl) (decide_eq_false (by decide))) (Wt.plain rfl) rfl rfl ?_
  refine T.q (q_move rfl rfl) (Wt.plain rfl) rfl rfl ?_
  refine T.q (q_fld fl59_0 rfl rfl) (Wt.yes rfl rfl rfl) rfl rfl ?_
  refine T.q (q_load1 ss3 0 rfl rfl rfl (rfl)) (Wt.yes rfl rfl rfl) rfl rfl ?_
  refine T.q (q_bool (b := false) (q_eql rfl rfl rfl) (decide_eq_false (by decide))) (Wt.yes rfl rfl rfl) rfl rfl ?_
  refine T.q (q_pickF rfl rfl rfl) (Wt.plain rfl) rfl rfl ?_
  refine T.nil ?_
  refine Ex.next ?_
  refine W.slots (L' := [(1, _), (3, _), (17, _)]) ⟨rfl, rfl, rfl, trivial⟩ ?_
  refine W.condF rfl ?_
  refine W.skip ?_
  refine Ex.next ?_
  refine W.slots (L' := [(1, _), (3, _)]) ⟨rfl, rfl, trivial⟩ ?_
  refine W.seq ?_
  refine W.region ?_
  refine T.q (q_move rfl rfl) (Wt.plain rfl) rfl rfl ?_
  refine T.q (q_fld fl59_1 rfl rfl) (Wt.plain rfl) rfl rfl ?_
  refine T.q (q_load1 ss3 0 rfl rfl rfl (cell_skip1 (rfl))) (Wt.plain rfl) rfl rfl ?_
  refine T.eff (e_call enters75 rfl rfl (fun w hm => rput_at [7] (by first | omega | (simp; done) | (simp [-List.getD_eq_getElem?_getD]; omega) | (simp at *; omega) | rfl) _ _ (by first | omega | (simp; done) | (simp; omega) | (simp at *; omega)) (by first | omega | (simp; done) | (simp; omega) | (simp at *; omega)) a (by first | omega | (simp; done) | (simp; omega) | (simp at *; omega)) w ((R_blk 1 rfl) w hm)) rfl rfl) (Wt.plain rfl) ?_
  rintro _ _ ⟨_, _, ⟨k3, cap4, junk5, rfl, hc6, rfl⟩, rfl, rfl⟩
  change (_ : List Blk → Prop) [_, _, _]
  refine T.q (q_assign rfl rfl) (Wt.plain rfl) rfl rfl ?_
  refine T.nil ?_
  refine Ex.next ?_
  refine W.less (L' := [(1, _), (3, _)]) [true, false, true] ⟨rfl, rfl, trivial⟩ ?_
  change (_ : List Blk → Prop) [_, _]
  refine W.seq ?_
  refine W.seq ?_
  refine W.region ?_
  refine T.q (q_fld fl59_0 rfl rfl) (Wt.plain rfl) rfl rfl ?_
  refine T.q (q_load1 ss3 0 rfl rfl rfl (rfl)) (Wt.plain rfl) rfl rfl ?_
  refine T.nil ?_
  refine Ex.next ?_
  refine W.slots (L' := [(1, _), (3, _), (27, _)]) ⟨rfl, rfl, rfl, trivial⟩ ?_
  refine W.block ?_
  refine W.seq ?_
  refine W.region ?_
  refine T.q (q_bool (b := false) (q_eql rfl rfl rfl) (decide_eq_false (by decide))) (Wt.plain rfl) rfl rfl ?_
  refine T.q (q_assign rfl rfl) (Wt.plain rfl) rfl rfl ?_
  refine T.nil ?_
  refine Ex.next ?_
  refine W.slots (L' := [(1, _), (3, _), (27, _), (29, _)]) ⟨rfl, rfl, rfl, rfl, trivial⟩ ?_
  refine W.condF rfl ?_
  refine W.seq ?_
  refine W.seq ?_
  refine W.region ?_
  refine T.q (q_bool (b := false) (q_eql rfl rfl rfl) (decide_eq_false (by decide))) (Wt.plain rfl) rfl rfl ?_
  refine T.q (q_assign rfl rfl) (Wt.plain rfl) rfl rfl ?_
  refine T.nil ?_
  refine Ex.next ?_
  refine W.slots (L' := [(1, _), (3, _), (27, _), (39, _)]) ⟨rfl, rfl, rfl, rfl, trivial⟩ ?_
  refine W.condF rfl ?_
  refine W.region ?_
  refine T.q (q_bool (b := true) (q_eql rfl rfl rfl) (decide_eq_true (by decide))) (Wt.plain rfl) rfl rfl ?_
  refine T.q (q_assign rfl rfl) (Wt.plain rfl) rfl rfl ?_
  refine T.nil ?_
  refine Ex.next ?_
  refine W.slots (L' := [(1, _), (3, _), (39, _)]) ⟨rfl, rfl, rfl, trivial⟩ ?_
  refine W.condT rfl ?_
  refine W.region ?_
  refine T.q (q_move rfl rfl) (Wt.plain rfl) rfl rfl ?_
  refine T.q (q_fld fl59_2 rfl rfl) (Wt.plain rfl) rfl rfl ?_
  refine T.q (q_load1 ss3 0 rfl rfl rfl (cell_skip1 (cell_skip1 (rfl)))) (Wt.plain rfl) rfl rfl ?_
  refine T.eff (e_call enters75 rfl rfl (fun w hm => rput_at ([7] ++ putV a) (by first | omega | (simp; done) | (simp [-List.getD_eq_getElem?_getD]; omega) | (simp at *; omega) | rfl) _ _ (by first | omega | (simp; done) | (simp; omega) | (simp at *; omega)) (by first | omega | (simp; done) | (simp; omega) | (simp at *; omega)) l (by first | omega | (simp; done) | (simp; omega) | (simp at *; omega)) w ((R_pre 1 rfl) w hm)) rfl rfl) (Wt.plain rfl) ?_
  rintro _ _ ⟨_, _, ⟨k7, cap8, junk9, rfl, hc10, rfl⟩, rfl, rfl⟩
  change (_ : List Blk → Prop) [_, _, _]
  refine T.q (q_assign rfl rfl) (Wt.plain rfl) rfl rfl ?_
  refine T.nil ?_
  refine Ex.in_normal ?_
  refine Ex.next ?_
  refine W.less (L' := [(1, _), (3, _)]) [true, false, true] ⟨rfl, rfl, trivial⟩ ?_
  change (_ : List Blk → Prop) [_, _]
  refine W.seq ?_
  refine W.region ?_
  refine T.q (q_move rfl rfl) (Wt.plain rfl) rfl rfl ?_
  refine T.q (q_fld fl59_3 rfl rfl) (Wt.plain rfl) rfl rfl ?_
  refine T.q (q_load1 ss56 0 rfl rfl rfl (cell_skip1 (cell_skip1 (cell_skip1 (rfl))))) (Wt.plain rfl) rfl rfl ?_
  refine T.q (q_len sc56 rfl rfl) (Wt.plain rfl) rfl rfl ?_
  refine T.eff (e_call enters75 rfl rfl (fun w hm => rput_at (([7] ++ putV a) ++ putV l) (by first | omega | (simp; done) | (simp [-List.getD_eq_getElem?_getD]; omega) | (simp at *; omega) | rfl) _ _ (by first | omega | (simp; done) | (simp; omega) | (simp at *; omega)) (by first | omega | (simp; done) | (simp; omega) | (simp at *; omega)) rs.length (by first | omega | (simp; done) | (simp; omega) | (simp at *; omega)) w ((R_pre 1 rfl) w hm)) rfl rfl) (Wt.plain rfl) ?_
  rintro _ _ ⟨_, _, ⟨k11, cap12, junk13, rfl, hc14, rfl⟩, rfl, rfl⟩
  change (_ : List Blk → Prop) [_, _, _]
  refine T.q (q_assign rfl rfl) (Wt.plain rfl) rfl rfl ?_
  refine T.nil ?_
  refine Ex.next ?_
  refine W.less (L' := [(1, _), (3, _)]) [true, false, true] ⟨rfl, rfl, trivial⟩ ?_
  change (_ : List Blk → Prop) [_, _]
  refine W.seq ?_
  refine W.region ?_
  refine T.q (q_assign rfl rfl) (Wt.plain rfl) rfl rfl ?_
  refine T.nil ?_
  refine Ex.next ?_
  refine W.slots (L' := [(1, _), (3, _), (4, _)]) ⟨rfl, rfl, rfl, trivial⟩ ?_
  refine W.seq ?_
  refine W.seq ?_
  refine W.region ?_
  refine T.q (q_fld fl59_0 rfl rfl) (Wt.plain rfl) rfl rfl ?_
  refine T.q (q_load1 ss3 0 rfl rfl rfl (rfl)) (Wt.plain rfl) rfl rfl ?_
  refine T.q (q_bool (b := false) (q_eql rfl rfl rfl) (decide_eq_false (by decide))) (Wt.plain rfl) rfl rfl ?_
  refine T.nil ?_
  refine Ex.next ?_
  refine W.slots (L' := [(1, _), (3, _), (4, _), (53, _)]) ⟨rfl, rfl, rfl, rfl, trivial⟩ ?_
  refine W.condF rfl ?_
  refine W.skip ?_
  refine Ex.next ?_
  refine W.slots (L' := [(1, _), (3, _), (4, _)]) ⟨rfl, rfl, rfl, trivial⟩ ?_
  refine W.seq ?_
  refine W.seq ?_
  refine W.region ?_
  refine T.q (q_assign rfl rfl) (Wt.plain rfl) rfl rfl ?_
  refine T.nil ?_
  refine Ex.next ?_
  refine W.slots (L' := [(1, _), (3, _), (4, _), (5, _)]) ⟨rfl, rfl, rfl, rfl, trivial⟩ ?_
  refine W.block ?_
  refine W.loop (α := Nat × Int × Nat × List Int × Nat × Nat × List Value) (fun x_ => [(1, .pointer (some ⟨k1, 0, none⟩)), (3, .slice (some ⟨x_.2.2.2.2.1, 0, none⟩) x_.2.2.1 x_.2.2.2.2.2.1), (4, .int .i64 x_.2.1), (5, .int .i64 ((x_.1 : Nat) : Int))]) (fun x_ => [⟨some k1, .int .i64 7 :: (.int .i64 ((a : Nat) : Int) :: (.int .i64 ((l : Nat) : Int) :: (.slice RA rs.length rc :: (.slice BA bs.length bc :: (ints .u8 tok))))), 59, (0, 0)⟩, ⟨some x_.2.2.2.2.1, ints .u8 x_.2.2.2.1 ++ x_.2.2.2.2.2.2, 5, (0, 0)⟩]) (fun x_ => x_.1 ≤ rs.length ∧ x_.2.1 = lastR 0 rs x_.1 ∧ 0 ≤ x_.2.1 ∧ x_.2.2.2.1 = ((([7] ++ putV a) ++ putV l) ++ putV rs.length) ++ wrR (rs.take x_.1) 0 ∧ x_.2.2.1 = x_.2.2.2.1.length ∧ x_.2.2.1 + x_.2.2.2.2.2.2.length = x_.2.2.2.2.2.1 ∧ x_.2.2.1 ≤ 40 + 16 * x_.1) (fun x_ => rs.length - x_.1) [true, true] (⟨0, 0, (((1 + 2 ^ kd a) + 2 ^ kd l) + 2 ^ kd rs.length), (([7] ++ putV a) ++ putV l) ++ putV rs.length, k11, cap12, junk13⟩) ⟨Nat.zero_le _, rfl, (by dsimp only; omega), (by simp [wrR]), (by first | (simp; done) | (simp; omega)), (by dsimp only; omega), (by dsimp only; omega)⟩ ⟨rfl, rfl, rfl, rfl, trivial⟩ rfl ?_
  rintro ⟨i, la, ln, zs, nk, cq, jq⟩ hinv
  try dsimp only at hinv
  conv => rhs; dsimp only
  conv => arg -2; dsimp only
  obtain ⟨hi, hla, hla0, hz, hln, hcq, hle⟩ := hinv
  refine W.seq ?_
  refine W.seq ?_
  refine W.region ?_
  refine T.q (q_move rfl rfl) (Wt.plain rfl) rfl rfl ?_
  refine T.q (q_fld fl59_3 rfl rfl) (Wt.plain rfl) rfl rfl ?_
  refine T.q (q_load1 ss56 0 rfl rfl rfl (cell_skip1 (cell_skip1 (cell_skip1 (rfl))))) (Wt.plain rfl) rfl rfl ?_
  refine T.q (q_len sc56 rfl rfl) (Wt.plain rfl) rfl rfl ?_
  refine T.q (q_lss rfl rfl rfl) (Wt.plain rfl) rfl rfl ?_
  refine T.nil ?_
  refine Ex.next ?_
  refine W.slots (L' := [(1, _), (3, _), (4, _), (5, _), (60, _)]) ⟨rfl, rfl, rfl, rfl, rfl, trivial⟩ ?_
  refine W.cond _ rfl (fun hb15 => ?_) (fun hb15 => ?_)
  · replace hb15 := of_decide_eq_true hb15
    have hir : i < rs.length := by omega
    obtain ⟨hc1, hc2, hc3⟩ := hris i hir
    rw [← hla] at hc1
    have hk1 := pow_kd_le ((rs.getD i (0, 0)).1 - la).toNat
    have hk2 := pow_kd_le ((rs.getD i (0, 0)).2 - (rs.getD i (0, 0)).1).toNat
    refine W.skip ?_
    refine Ex.next ?_
    refine W.slots (L' := [(1, _), (3, _), (4, _), (5, _)]) ⟨rfl, rfl, rfl, rfl, trivial⟩ ?_
    refine W.seq ?_
    refine W.block ?_
    refine W.seq ?_
    refine W.region ?_
    refine T.q (q_move rfl rfl) (Wt.plain rfl) rfl rfl ?_
    refine T.q (q_fld fl59_3 rfl rfl) (Wt.plain rfl) rfl rfl ?_
    refine T.q (q_load1 ss56 0 rfl rfl rfl (cell_skip1 (cell_skip1 (cell_skip1 (rfl))))) (Wt.plain rfl) rfl rfl ?_
    refine T.q (q_move rfl rfl) (Wt.plain rfl) rfl rfl ?_
    refine T.q (q_ixE sc56 i (R_ext hR.ext) rfl rfl rfl (by omega) (by omega) (by rw [ints_length, flat_length]; omega)) (Wt.plain rfl) rfl rfl ?_
    refine T.q (q_fldE fl74_0 rfl rfl) (Wt.plain rfl) rfl rfl ?_
    refine T.q (q_loadF ss3 (R_elem (R_ext hR.ext) (i * 2) 2 (flat_getV (by omega))) rfl rfl rfl) (Wt.plain rfl) rfl rfl ?_
    refine T.q (q_move rfl rfl) (Wt.plain rfl) rfl rfl ?_
    refine T.q (q_int (b := ((((rs.getD i (0, 0)).1 - la).toNat : Nat) : Int)) (q_subi rfl rfl rfl (by omega) (by omega)) ?hE) (Wt.plain rfl) rfl rfl ?_
    case hE => omega
    refine T.eff (e_call enters75 rfl rfl (fun w hm => rput_at zs (by first | omega | (simp; done) | (simp [-List.getD_eq_getElem?_getD]; omega) | (simp at *; omega) | rfl) _ _ (by first | omega | (simp; done) | (simp; omega) | (simp at *; omega)) (by first | omega | (simp; done) | (simp; omega) | (simp at *; omega)) (((rs.getD i (0, 0)).1 - la).toNat) (by first | omega | (simp; done) | (simp; omega) | (simp at *; omega)) w ((R_pre 1 rfl) w hm)) rfl rfl) (Wt.plain rfl) ?_
    rintro _ _ ⟨_, _, ⟨k16, cap17, junk18, rfl, hc19, rfl⟩, rfl, rfl⟩
    change (_ : List Blk → Prop) [_, _, _]
    refine T.q (q_assign rfl rfl) (Wt.plain rfl) rfl rfl ?_
    refine T.nil ?_
    refine Ex.next ?_
    refine W.slots (L' := [(1, _), (3, _), (5, _)]) ⟨rfl, rfl, rfl, trivial⟩ ?_
    refine W.seq ?_
    refine W.draw 15 (by kernel_rfl) ?_
    refine D.take 0 rfl (by kernel_rfl) (fun _ h => h) (q_move rfl rfl) (Wt.plain rfl) rfl rfl ?_
    refine D.take 1 rfl (by kernel_rfl) (fun _ h => h) (q_fld fl59_3 rfl rfl) (Wt.plain rfl) rfl rfl ?_
    refine D.take 2 rfl (by kernel_rfl) (fun _ h => h) (q_load1 ss56 0 rfl rfl rfl (cell_skip1 (cell_skip1 (cell_skip1 (rfl))))) (Wt.plain rfl) rfl rfl ?_
    refine D.take 3 rfl (by kernel_rfl) (fun _ h => h) (q_move rfl rfl) (Wt.plain rfl) rfl rfl ?_
    refine D.take 4 rfl (by kernel_rfl) (fun _ h => h) (q_ixE sc56 i (R_ext hR.ext) rfl rfl rfl (by omega) (by omega) (by rw [ints_length, flat_length]; omega)) (Wt.plain rfl) rfl rfl ?_
    refine D.take 5 rfl (by kernel_rfl) (fun _ h => h) (q_fldE fl74_1 rfl rfl) (Wt.plain rfl) rfl rfl ?_
    refine D.take 6 rfl (by kernel_rfl) (fun _ h => h) (q_loadF ss3 (R_elem (R_ext hR.ext) (i * 2) 2 (flat_getV (by omega))) rfl rfl rfl) (Wt.plain rfl) rfl rfl ?_
    refine D.take 7 rfl (by kernel_rfl) (fun _ h => h) (q_fld fl59_3 rfl rfl) (Wt.plain rfl) rfl rfl ?_
    refine D.take 8 rfl (by kernel_rfl) (fun _ h => h) (q_load1 ss56 0 rfl rfl rfl (cell_skip1 (cell_skip1 (cell_skip1 (rfl))))) (Wt.plain rfl) rfl rfl ?_
    refine D.take 9 rfl (by kernel_rfl) (fun _ h => h) (q_move rfl rfl) (Wt.plain rfl) rfl rfl ?_
    refine D.take 10 rfl (by kernel_rfl) (fun _ h => h) (q_ixE sc56 i (R_ext hR.ext) rfl rfl rfl (by omega) (by omega) (by rw [ints_length, flat_length]; omega)) (Wt.plain rfl) rfl rfl ?_
    refine D.take 11 rfl (by kernel_rfl) (fun _ h => h) (q_fldE fl74_0 rfl rfl) (Wt.plain rfl) rfl rfl ?_
    refine D.take 12 rfl (by kernel_rfl) (fun _ h => h) (q_loadF ss3 (R_elem (R_ext hR.ext) (i * 2) 2 (flat_getV (by omega))) rfl rfl rfl) (Wt.plain rfl) rfl rfl ?_
    refine D.take 13 rfl (by kernel_rfl) (fun _ h => h) (q_int (b := ((((rs.getD i (0, 0)).2 - (rs.getD i (0, 0)).1).toNat : Nat) : Int)) (q_subi rfl rfl rfl (by omega) (by omega)) ?hE) (Wt.plain rfl) rfl rfl ?_
    case hE => omega
    refine D.one 14 (by kernel_rfl) ?_
    refine Up.eff rfl (e_call enters75 rfl rfl (fun w hm => rput_at (zs ++ putV (((rs.getD i (0, 0)).1 - la).toNat)) (by first | omega | (simp; done) | (simp [-List.getD_eq_getElem?_getD]; omega) | (simp at *; omega) | rfl) _ _ (by first | omega | (simp; done) | (simp; omega) | (simp at *; omega)) (by first | omega | (simp; done) | (simp; omega) | (simp at *; omega)) (((rs.getD i (0, 0)).2 - (rs.getD i (0, 0)).1).toNat) (by first | omega | (simp; done) | (simp; omega) | (simp at *; omega)) w ((R_pre 2 rfl) w hm)) rfl rfl) (Wt.plain rfl) ?_
    rintro _ _ ⟨_, _, ⟨k20, cap21, junk22, rfl, hc23, rfl⟩, rfl, rfl⟩
    refine ⟨fun _ => (S_sub (((((List.Sublist.slnil).cons _).cons_cons _).cons_cons _).cons_cons _)), ?_⟩
    change (_ : List Blk → Prop) [_, _, _, _]
    refine D.one 15 (by kernel_rfl) ?_
    refine Up.q rfl (q_assign rfl rfl) (Wt.plain rfl) rfl rfl (fun h => absurd h (by decide)) ?_
    refine D.done (by kernel_rfl) ?_
    refine Ex.next ?_
    refine W.less (L' := [(1, _), (3, _), (5, _)]) [true, true, false, true] ⟨rfl, rfl, rfl, trivial⟩ ?_
    change (_ : List Blk → Prop) [_, _, _]
    refine W.region ?_
    refine T.q (q_fld fl59_3 rfl rfl) (Wt.plain rfl) rfl rfl ?_
    refine T.q (q_load1 ss56 0 rfl rfl rfl (cell_skip1 (cell_skip1 (cell_skip1 (rfl))))) (Wt.plain rfl) rfl rfl ?_
    refine T.q (q_move rfl rfl) (Wt.plain rfl) rfl rfl ?_
    refine T.q (q_ixE sc56 i (R_ext hR.ext) rfl rfl rfl (by omega) (by omega) (by rw [ints_length, flat_length]; omega)) (Wt.plain rfl) rfl rfl ?_
    refine T.q (q_fldE fl74_1 rfl rfl) (Wt.plain rfl) rfl rfl ?_
    refine T.q (q_loadF ss3 (R_elem (R_ext hR.ext) (i * 2) 2 (flat_getV (by omega))) rfl rfl rfl) (Wt.plain rfl) rfl rfl ?_
    refine T.q (q_assign rfl rfl) (Wt.plain rfl) rfl rfl ?_
    refine T.nil ?_
    refine Ex.in_normal ?_
    refine Ex.next ?_
    refine W.slots (L' := [(1, _), (3, _), (4, _), (5, _)]) ⟨rfl, rfl, rfl, rfl, trivial⟩ ?_
    refine W.region ?_
    refine T.q (q_move rfl rfl) (Wt.plain rfl) rfl rfl ?_
    refine T.q (q_addi rfl rfl rfl (by omega) (by omega)) (Wt.plain rfl) rfl rfl ?_
    refine T.q (q_assign rfl rfl) (Wt.plain rfl) rfl rfl ?_
    refine T.nil ?_
    exact Ex.again [true, false, true] (⟨i + 1, (rs.getD i (0, 0)).2, ((ln + 2 ^ kd (((rs.getD i (0, 0)).1 - la).toNat)) + 2 ^ kd (((rs.getD i (0, 0)).2 - (rs.getD i (0, 0)).1).toNat)), (zs ++ putV (((rs.getD i (0, 0)).1 - la).toNat)) ++ putV (((rs.getD i (0, 0)).2 - (rs.getD i (0, 0)).1).toNat), k20, cap21, junk22⟩ : Nat × Int × Nat × List Int × Nat × Nat × List Value) (by dsimp only; omega) ⟨by dsimp only; omega, (by dsimp only; rw [lastR_succ]), by dsimp only; omega, (by dsimp only; rw [wrR_take rs _ i hir, ← hla, hz]; simp), (by dsimp only; simp [hln]; try omega), by dsimp only; omega, by dsimp only; omega⟩ ⟨rfl, rfl, rfl, rfl, trivial⟩ (by first | (dsimp only [pick]; done) | rfl)
  replace hb15 := of_decide_eq_false hb15
  obtain rfl : i = rs.length := by omega
  rw [List.take_length] at hz
  refine W.exit ?_
  refine Ex.then_exit ?_
  refine Ex.then_exit ?_
  refine Ex.in_here ?_
  refine Ex.next ?_
  refine W.less (L' := [(3, _)]) [false, true] ⟨rfl, trivial⟩ ?_
  change (_ : List Blk → Prop) [_]
  refine W.seq ?_
  refine W.region ?_
  refine T.q (q_move rfl rfl) (Wt.plain rfl) rfl rfl ?_
  refine T.q (q_assign rfl rfl) (Wt.plain rfl) rfl rfl ?_
  refine T.nil ?_
  refine Ex.next ?_
  refine W.slots (L' := [(2, _)]) ⟨rfl, trivial⟩ ?_
  refine W.ret ?_
  refine Ex.out1 [true] rfl rfl ?_
  have hw : zs = wr ⟨7, ((a : Nat) : Int), ((l : Nat) : Int), rs, bs, tok⟩ := by rw [hz]; simp [wr, wrT]
  have hlw : ln = (wr ⟨7, ((a : Nat) : Int), ((l : Nat) : Int), rs, bs, tok⟩).length := by have e := congrArg List.length hw; (try simp at e ⊢); try omega
  exact ⟨nk, cq, jq, by rw [← hlw], by omega, by rw [← hw] <;> rfl⟩
theorem one_spec (m : Fm) (hok : frOK m.f) (hO : m.OK) (w0 : World) (hR : Reads w0 m.RA (ints .i64 (flat m.f.rs))) (hB : Reads w0 m.BA (ints .u8 m.f.bs)) : Does Try.prog 61 #[.agg m.cells.toArray] w0 [] (fun v G => ∃ (k cap : Nat) (junk : List Value), v = .slice (some ⟨k, 0, none⟩) (wr m.f).length cap ∧ (wr m.f).length + junk.length = cap ∧ G = [⟨some k, ints .u8 (wr m.f) ++ junk, 5, (0, 0)⟩]) := by
  obtain ⟨⟨k, a, l, rs, bs, tok⟩, RA, rc, BA, bc⟩ := m
  obtain ⟨ht, _, hbc, _⟩ := hO
  obtain ⟨ha0, ha1, hcs⟩ := hok
  dsimp only at ht hbc ha0 ha1 hcs hR hB
  obtain ⟨a, rfl⟩ := Int.eq_ofNat_of_zero_le ha0
  rcases hcs with ⟨rfl, h1, h2, rfl, h3, h4⟩ | ⟨rfl, h1, h2, h3, h4, h5⟩ | ⟨hk, h1, rfl, h2, h3⟩ | ⟨rfl, h1, rfl, h2, h3, h4⟩ | ⟨rfl, rfl, h1, h2, h3⟩ | ⟨rfl, h1, h2, h3, h4, h5⟩
  · exact one_1 a (by omega) rs bs tok RA BA rc bc h2 hbc w0 hB
  · obtain ⟨l, rfl⟩ := Int.eq_ofNat_of_zero_le h1
    have hr := risN_yes.1 h3
    exact one_2 a l (by omega) (by omega) rs bs tok RA BA rc bc hr.2 (lastR_ge hr.1) w0 hR
  · rcases hk with rfl | rfl
    · exact one_3 _ _ rs bs tok RA BA rc bc ht w0
    · exact one_4 _ _ rs bs tok RA BA rc bc ht w0
  · exact one_5 _ a (by omega) rs bs tok RA BA rc bc w0
  · exact one_6 _ a (by omega) rs bs tok RA BA rc bc w0
  · obtain ⟨l, rfl⟩ := Int.eq_ofNat_of_zero_le h1
    have hr := risN_yes.1 h3
    exact one_7 a l (by omega) (by omega) rs bs tok RA BA rc bc hr.2 (fun i hi => (ris_zero hr.1 i hi).imp_right fun g => ⟨g.1, by omega⟩) w0 hR
end Go.Proofs.Ytmkjnefongjniaa
