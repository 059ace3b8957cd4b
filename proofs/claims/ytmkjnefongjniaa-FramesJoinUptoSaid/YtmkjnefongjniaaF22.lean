/-
  Statements of layer 10: frames one behind the other.
-/
import Derived.Test.YtmkjnefongjniaaF18
namespace Go.Proofs.Ytmkjnefongjniaa
open Go Go.X
set_option maxRecDepth 100000 in
theorem join_1 (ms : List Fm) (LA : Option Addr) (lc : Nat) (hMO : ∀ m ∈ ms, m.OK) (ms2 : List Fm) (LB : Option Addr) (lc2 : Nat) (hMO2 : ∀ m ∈ ms2, m.OK) (hlc : ms.length ≤ lc) (hlc2 : ms2.length ≤ lc2) (hkm : ms.length + ms2.length ≤ 1048600) (hne : encE (fsOf ms) ≠ 0) (w0 : World) (hL : Reads w0 LA (fcs ms)) (hI : ∀ m ∈ ms, m.In w0) (hL2 : Reads w0 LB (fcs ms2)) (hI2 : ∀ m ∈ ms2, m.In w0) : Does Try.prog 15 #[.slice LA ms.length lc, .slice LB ms2.length lc2] w0 [] (fun v G => v = .bool true ∧ G = []) := by
  have htk : ∀ m ∈ ms, m.f.tok.length = 8 := fun m hm => (hMO m hm).1
  have htk2 : ∀ m ∈ ms2, m.f.tok.length = 8 := fun m hm => (hMO2 m hm).1
  have hf1 : (fsOf ms).length = ms.length := by simp
  have hf2 : (fsOf ms2).length = ms2.length := by simp
  refine spec_of 77 Try.func15 rfl rfl rfl ?_
  refine W.seq ?_
  refine W.region ?_
  refine T.q (q_assign rfl rfl) (Wt.plain rfl) rfl rfl ?_
  refine T.nil ?_
  refine Ex.next ?_
  refine W.slots (L' := [(0, _), (1, _)]) ⟨rfl, rfl, trivial⟩ ?_
  refine W.seq ?_
  refine W.region ?_
  refine T.eff (e_call enters43 rfl rfl (fun w hm => shown10_spec w) rfl rfl) (Wt.plain rfl) ?_
  rintro _ _ ⟨_, _, ⟨rfl, rfl⟩, rfl, rfl⟩
  change (_ : List Blk → Prop) []
  refine T.q (q_assign rfl rfl) (Wt.plain rfl) rfl rfl ?_
  refine T.nil ?_
  refine Ex.next ?_
  refine W.slots (L' := [(0, _), (1, _), (5, _)]) ⟨rfl, rfl, rfl, trivial⟩ ?_
  refine W.seq ?_
  refine W.region ?_
  refine T.q (q_move rfl rfl) (Wt.plain rfl) rfl rfl ?_
  refine T.eff (e_call enters44 rfl rfl (fun w hm => enc_at ms rfl _ _ (by first | omega | (simp; done) | (simp; omega) | (simp at *; omega)) hMO (fs := (fsOf ms)) rfl w ((R_ext hL.ext) w hm) (ins_later hI hm)) rfl rfl) (Wt.plain rfl) ?_
  rintro _ _ ⟨_, _, ⟨k1, cap2, junk3, rfl, hc4, rfl⟩, rfl, rfl⟩
  change (_ : List Blk → Prop) [_]
  refine T.q (q_move rfl rfl) (Wt.plain rfl) rfl rfl ?_
  refine T.q (q_extract rfl rfl rfl) (Wt.plain rfl) rfl rfl ?_
  refine T.q (q_extract rfl rfl rfl) (Wt.plain rfl) rfl rfl ?_
  refine T.q (q_assign rfl rfl) (Wt.plain rfl) rfl rfl ?_
  refine T.q (q_assign rfl rfl) (Wt.plain rfl) rfl rfl ?_
  refine T.nil ?_
  refine Ex.next ?_
  refine W.slots (L' := [(0, _), (1, _), (5, _), (6, _), (7, _)]) ⟨rfl, rfl, rfl, rfl, rfl, trivial⟩ ?_
  refine W.seq ?_
  refine W.region ?_
  refine T.q (q_move rfl rfl) (Wt.plain rfl) rfl rfl ?_
  refine T.eff (e_call enters44 rfl rfl (fun w hm => enc_at ms2 rfl _ _ (by first | omega | (simp; done) | (simp; omega) | (simp at *; omega)) hMO2 (fs := (fsOf ms2)) rfl w ((R_ext hL2.ext) w hm) (ins_later hI2 hm)) rfl rfl) (Wt.plain rfl) ?_
  rintro _ _ ⟨_, _, ⟨k5, cap6, junk7, rfl, hc8, rfl⟩, rfl, rfl⟩
  change (_ : List Blk → Prop) [_, _]
  refine T.q (q_move rfl rfl) (Wt.plain rfl) rfl rfl ?_
  refine T.q (q_extract rfl rfl rfl) (Wt.plain rfl) rfl rfl ?_
  refine T.q (q_extract rfl rfl rfl) (Wt.plain rfl) rfl rfl ?_
  refine T.q (q_assign rfl rfl) (Wt.plain rfl) rfl rfl ?_
  refine T.q (q_assign rfl rfl) (Wt.plain rfl) rfl rfl ?_
  refine T.nil ?_
  refine Ex.next ?_
  refine W.slots (L' := [(0, _), (1, _), (5, _), (6, _), (7, _), (8, _), (9, _)]) ⟨rfl, rfl, rfl, rfl, rfl, rfl, rfl, trivial⟩ ?_
  refine W.seq ?_
  refine W.region ?_
  refine T.eff (e_litS sc52 ze59 [] rfl rfl rfl (by simp) rfl rfl rfl) (Wt.plain rfl) ?_
  rintro _ _ ⟨k9, rfl, rfl⟩
  change (_ : List Blk → Prop) [_, _, _]
  refine T.q (q_move rfl rfl) (Wt.plain rfl) rfl rfl ?_
  refine T.eff (e_appendS0 (no := (some k9)) sc52 ze59 rfl (by decide) 2 [] [] (fcs ms) (R_ext hL.ext) rfl rfl rfl rfl (rfl) (rfl) (fcs_length ms htk) (fcs_one ms) (by omega) (by omega) rfl rfl) (Wt.plain rfl) ?_
  rintro _ _ ⟨nj, cj, jj, haj, _, rfl, rfl⟩
  change (_ : List Blk → Prop) [_, _, _]
  change (_ : List Blk → Prop) [_, _, ⟨nj, fcs ms ++ jj, 59, (0, 0)⟩]
  refine T.q (q_move rfl rfl) (Wt.plain rfl) rfl rfl ?_
  refine T.eff (e_appendS0 (no := nj) sc52 ze59 rfl (by decide) 2 (fcs ms) jj (fcs ms2) (R_ext hL2.ext) rfl rfl rfl rfl (by rw [fcs_length ms htk]; omega) (haj) (fcs_length ms2 htk2) (fcs_one ms2) (by omega) (by omega) rfl rfl) (Wt.plain rfl) ?_
  rintro _ _ ⟨nk, ck, jk, hak, _, rfl, rfl⟩
  change (_ : List Blk → Prop) [_, _, _]
  change (_ : List Blk → Prop) [_, _, ⟨nk, fcs ms ++ fcs ms2 ++ jk, 59, (0, 0)⟩]
  refine T.eff (e_call enters44 rfl rfl (fun w hm => enc_at (ms ++ ms2) (by simp) _ _ (by first | omega | (simp; done) | (simp; omega) | (simp at *; omega)) (fun m h => (List.mem_append.1 h).elim (hMO m) (hMO2 m)) (fs := (fsOf ms ++ fsOf ms2)) (fsOf_app ms ms2) w (by rw [fcs_app]; exact (R_opre 2 rfl) w hm) (fun m h => (List.mem_append.1 h).elim (ins_later hI hm m) (ins_later hI2 hm m))) rfl rfl) (Wt.plain rfl) ?_
  rintro _ _ ⟨_, _, ⟨k10, cap11, junk12, rfl, hc13, rfl⟩, rfl, rfl⟩
  change (_ : List Blk → Prop) [_, _, _, _]
  refine T.q (q_move rfl rfl) (Wt.plain rfl) rfl rfl ?_
  refine T.q (q_extract rfl rfl rfl) (Wt.plain rfl) rfl rfl ?_
  refine T.q (q_extract rfl rfl rfl) (Wt.plain rfl) rfl rfl ?_
  refine T.q (q_assign rfl rfl) (Wt.plain rfl) rfl rfl ?_
  refine T.q (q_assign rfl rfl) (Wt.plain rfl) rfl rfl ?_
  refine T.nil ?_
  refine Ex.next ?_
  refine W.less (L' := [(0, _), (1, _), (5, _), (6, _), (7, _), (8, _), (9, _), (10, _), (11, _)]) [true, true, false, true] ⟨rfl, rfl, rfl, rfl, rfl, rfl, rfl, rfl, rfl, trivial⟩ ?_
  change (_ : List Blk → Prop) [_, _, _]
  refine W.seq ?_
  refine W.seq ?_
  refine W.region ?_
  refine T.q (q_move rfl rfl) (Wt.plain rfl) rfl rfl ?_
  refine T.q (q_bool (b := true) (q_neq rfl rfl rfl) (decide_eq_true hne)) (Wt.plain rfl) rfl rfl ?_
  refine T.q (q_move rfl rfl) (Wt.plain rfl) rfl rfl ?_
  refine T.no (Wn.no rfl rfl rfl rfl) rfl rfl ?_
  refine T.no (Wn.no rfl rfl rfl rfl) rfl rfl ?_
  refine T.q (q_pickT rfl rfl rfl) (Wt.plain rfl) rfl rfl ?_
  refine T.nil ?_
  refine Ex.next ?_
  refine W.slots (L' := [(0, _), (1, _), (5, _), (6, _), (8, _), (10, _), (11, _), (37, _)]) ⟨rfl, rfl, rfl, rfl, rfl, rfl, rfl, rfl, trivial⟩ ?_
  refine W.condT rfl ?_
  refine W.seq ?_
  refine W.region ?_
  refine T.q (q_move rfl rfl) (Wt.plain rfl) rfl rfl ?_
  refine T.q (q_move rfl rfl) (Wt.plain rfl) rfl rfl ?_
  refine T.q (q_move rfl rfl) (Wt.yes rfl rfl rfl) rfl rfl ?_
  refine T.q (q_bool (b := true) (q_neq rfl rfl rfl) (decide_eq_true (fun g => hne (encE_app g).1))) (Wt.yes rfl rfl rfl) rfl rfl ?_
  refine T.q (q_pickT rfl rfl rfl) (Wt.plain rfl) rfl rfl ?_
  refine T.q (q_assign rfl rfl) (Wt.plain rfl) rfl rfl ?_
  refine T.nil ?_
  refine Ex.next ?_
  refine W.less (L' := [(4, _)]) [false, false, false] ⟨rfl, trivial⟩ ?_
  change (_ : List Blk → Prop) []
  refine W.ret ?_
  refine Ex.then_ret ?_
  refine Ex.out1 [] rfl rfl ?_
  exact ⟨rfl, rfl⟩
set_option maxRecDepth 100000 in
theorem join_2 (ms : List Fm) (LA : Option Addr) (lc : Nat) (hMO : ∀ m ∈ ms, m.OK) (ms2 : List Fm) (LB : Option Addr) (lc2 : Nat) (hMO2 : ∀ m ∈ ms2, m.OK) (hlc : ms.length ≤ lc) (hlc2 : ms2.length ≤ lc2) (hkm : ms.length + ms2.length ≤ 1048600) (he : encE (fsOf ms) = 0) (hne2 : encE (fsOf ms2) ≠ 0) (w0 : World) (hL : Reads w0 LA (fcs ms)) (hI : ∀ m ∈ ms, m.In w0) (hL2 : Reads w0 LB (fcs ms2)) (hI2 : ∀ m ∈ ms2, m.In w0) : Does Try.prog 15 #[.slice LA ms.length lc, .slice LB ms2.length lc2] w0 [] (fun v G => v = .bool true ∧ G = []) := by
  have htk : ∀ m ∈ ms, m.f.tok.length = 8 := fun m hm => (hMO m hm).1
  have htk2 : ∀ m ∈ ms2, m.f.tok.length = 8 := fun m hm => (hMO2 m hm).1
  have hf1 : (fsOf ms).length = ms.length := by simp
  have hf2 : (fsOf ms2).length = ms2.length := by simp
  refine spec_of 77 Try.func15 rfl rfl rfl ?_
  refine W.seq ?_
  refine W.region ?_
  refine T.q (q_assign rfl rfl) (Wt.plain rfl) rfl rfl ?_
  refine T.nil ?_
  refine Ex.next ?_
  refine W.slots (L' := [(0, _), (1, _)]) ⟨rfl, rfl, trivial⟩ ?_
  refine W.seq ?_
  refine W.region ?_
  refine T.eff (e_call enters43 rfl rfl (fun w hm => shown10_spec w) rfl rfl) (Wt.plain rfl) ?_
  rintro _ _ ⟨_, _, ⟨rfl, rfl⟩, rfl, rfl⟩
  change (_ : List Blk → Prop) []
  refine T.q (q_assign rfl rfl) (Wt.plain rfl) rfl rfl ?_
  refine T.nil ?_
  refine Ex.next ?_
  refine W.slots (L' := [(0, _), (1, _), (5, _)]) ⟨rfl, rfl, rfl, trivial⟩ ?_
  refine W.seq ?_
  refine W.region ?_
  refine T.q (q_move rfl rfl) (Wt.plain rfl) rfl rfl ?_
  refine T.eff (e_call enters44 rfl rfl (fun w hm => enc_at ms rfl _ _ (by first | omega | (simp; done) | (simp; omega) | (simp at *; omega)) hMO (fs := (fsOf ms)) rfl w ((R_ext hL.ext) w hm) (ins_later hI hm)) rfl rfl) (Wt.plain rfl) ?_
  rintro _ _ ⟨_, _, ⟨k1, cap2, junk3, rfl, hc4, rfl⟩, rfl, rfl⟩
  change (_ : List Blk → Prop) [_]
  refine T.q (q_move rfl rfl) (Wt.plain rfl) rfl rfl ?_
  refine T.q (q_extract rfl rfl rfl) (Wt.plain rfl) rfl rfl ?_
  refine T.q (q_extract rfl rfl rfl) (Wt.plain rfl) rfl rfl ?_
  refine T.q (q_assign rfl rfl) (Wt.plain rfl) rfl rfl ?_
  refine T.q (q_assign rfl rfl) (Wt.plain rfl) rfl rfl ?_
  refine T.nil ?_
  refine Ex.next ?_
  refine W.slots (L' := [(0, _), (1, _), (5, _), (6, _), (7, _)]) ⟨rfl, rfl, rfl, rfl, rfl, trivial⟩ ?_
  refine W.seq ?_
  refine W.region ?_
  refine T.q (q_move rfl rfl) (Wt.plain rfl) rfl rfl ?_
  refine T.eff (e_call enters44 rfl rfl (fun w hm => enc_at ms2 rfl _ _ (by first | omega | (simp; done) | (simp; omega) | (simp at *; omega)) hMO2 (fs := (fsOf ms2)) rfl w ((R_ext hL2.ext) w hm) (ins_later hI2 hm)) rfl rfl) (Wt.plain rfl) ?_
  rintro _ _ ⟨_, _, ⟨k5, cap6, junk7, rfl, hc8, rfl⟩, rfl, rfl⟩
  change (_ : List Blk → Prop) [_, _]
  refine T.q (q_move rfl rfl) (Wt.plain rfl) rfl rfl ?_
  refine T.q (q_extract rfl rfl rfl) (Wt.plain rfl) rfl rfl ?_
  refine T.q (q_extract rfl rfl rfl) (Wt.plain rfl) rfl rfl ?_
  refine T.q (q_assign rfl rfl) (Wt.plain rfl) rfl rfl ?_
  refine T.q (q_assign rfl rfl) (Wt.plain rfl) rfl rfl ?_
  refine T.nil ?_
  refine Ex.next ?_
  refine W.slots (L' := [(0, _), (1, _), (5, _), (6, _), (7, _), (8, _), (9, _)]) ⟨rfl, rfl, rfl, rfl, rfl, rfl, rfl, trivial⟩ ?_
  refine W.seq ?_
  refine W.region ?_
  refine T.eff (e_litS sc52 ze59 [] rfl rfl rfl (by simp) rfl rfl rfl) (Wt.plain rfl) ?_
  rintro _ _ ⟨k9, rfl, rfl⟩
  change (_ : List Blk → Prop) [_, _, _]
  refine T.q (q_move rfl rfl) (Wt.plain rfl) rfl rfl ?_
  refine T.eff (e_appendS0 (no := (some k9)) sc52 ze59 rfl (by decide) 2 [] [] (fcs ms) (R_ext hL.ext) rfl rfl rfl rfl (rfl) (rfl) (fcs_length ms htk) (fcs_one ms) (by omega) (by omega) rfl rfl) (Wt.plain rfl) ?_
  rintro _ _ ⟨nj, cj, jj, haj, _, rfl, rfl⟩
  change (_ : List Blk → Prop) [_, _, _]
  change (_ : List Blk → Prop) [_, _, ⟨nj, fcs ms ++ jj, 59, (0, 0)⟩]
  refine T.q (q_move rfl rfl) (Wt.plain rfl) rfl rfl ?_
  refine T.eff (e_appendS0 (no := nj) sc52 ze59 rfl (by decide) 2 (fcs ms) jj (fcs ms2) (R_ext hL2.ext) rfl rfl rfl rfl (by rw [fcs_length ms htk]; omega) (haj) (fcs_length ms2 htk2) (fcs_one ms2) (by omega) (by omega) rfl rfl) (Wt.plain rfl) ?_
  rintro _ _ ⟨nk, ck, jk, hak, _, rfl, rfl⟩
  change (_ : List Blk → Prop) [_, _, _]
  change (_ : List Blk → Prop) [_, _, ⟨nk, fcs ms ++ fcs ms2 ++ jk, 59, (0, 0)⟩]
  refine T.eff (e_call enters44 rfl rfl (fun w hm => enc_at (ms ++ ms2) (by simp) _ _ (by first | omega | (simp; done) | (simp; omega) | (simp at *; omega)) (fun m h => (List.mem_append.1 h).elim (hMO m) (hMO2 m)) (fs := (fsOf ms ++ fsOf ms2)) (fsOf_app ms ms2) w (by rw [fcs_app]; exact (R_opre 2 rfl) w hm) (fun m h => (List.mem_append.1 h).elim (ins_later hI hm m) (ins_later hI2 hm m))) rfl rfl) (Wt.plain rfl) ?_
  rintro _ _ ⟨_, _, ⟨k10, cap11, junk12, rfl, hc13, rfl⟩, rfl, rfl⟩
  change (_ : List Blk → Prop) [_, _, _, _]
  refine T.q (q_move rfl rfl) (Wt.plain rfl) rfl rfl ?_
  refine T.q (q_extract rfl rfl rfl) (Wt.plain rfl) rfl rfl ?_
  refine T.q (q_extract rfl rfl rfl) (Wt.plain rfl) rfl rfl ?_
  refine T.q (q_assign rfl rfl) (Wt.plain rfl) rfl rfl ?_
  refine T.q (q_assign rfl rfl) (Wt.plain rfl) rfl rfl ?_
  refine T.nil ?_
  refine Ex.next ?_
  refine W.less (L' := [(0, _), (1, _), (5, _), (6, _), (7, _), (8, _), (9, _), (10, _), (11, _)]) [true, true, false, true] ⟨rfl, rfl, rfl, rfl, rfl, rfl, rfl, rfl, rfl, trivial⟩ ?_
  change (_ : List Blk → Prop) [_, _, _]
  refine W.seq ?_
  refine W.seq ?_
  refine W.region ?_
  refine T.q (q_move rfl rfl) (Wt.plain rfl) rfl rfl ?_
  refine T.q (q_bool (b := false) (q_neq rfl rfl rfl) (decide_eq_false (fun g => g he))) (Wt.plain rfl) rfl rfl ?_
  refine T.q (q_move rfl rfl) (Wt.plain rfl) rfl rfl ?_
  refine T.q (q_move rfl rfl) (Wt.yes rfl rfl rfl) rfl rfl ?_
  refine T.q (q_bool (b := true) (q_neq rfl rfl rfl) (decide_eq_true hne2)) (Wt.yes rfl rfl rfl) rfl rfl ?_
  refine T.q (q_pickF rfl rfl rfl) (Wt.plain rfl) rfl rfl ?_
  refine T.nil ?_
  refine Ex.next ?_
  refine W.slots (L' := [(0, _), (1, _), (5, _), (6, _), (8, _), (10, _), (11, _), (37, _)]) ⟨rfl, rfl, rfl, rfl, rfl, rfl, rfl, rfl, trivial⟩ ?_
  refine W.condT rfl ?_
  refine W.seq ?_
  refine W.region ?_
  refine T.q (q_move rfl rfl) (Wt.plain rfl) rfl rfl ?_
  refine T.q (q_move rfl rfl) (Wt.plain rfl) rfl rfl ?_
  refine T.q (q_move rfl rfl) (Wt.yes rfl rfl rfl) rfl rfl ?_
  refine T.q (q_bool (b := true) (q_neq rfl rfl rfl) (decide_eq_true (fun g => hne2 (encE_app g).2))) (Wt.yes rfl rfl rfl) rfl rfl ?_
  refine T.q (q_pickT rfl rfl rfl) (Wt.plain rfl) rfl rfl ?_
  refine T.q (q_assign rfl rfl) (Wt.plain rfl) rfl rfl ?_
  refine T.nil ?_
  refine Ex.next ?_
  refine W.less (L' := [(4, _)]) [false, false, false] ⟨rfl, trivial⟩ ?_
  change (_ : List Blk → Prop) []
  refine W.ret ?_
  refine Ex.then_ret ?_
  refine Ex.out1 [] rfl rfl ?_
  exact ⟨rfl, rfl⟩
set_option maxRecDepth 100000 in
theorem join_3 (ms : List Fm) (LA : Option Addr) (lc : Nat) (hMO : ∀ m ∈ ms, m.OK) (ms2 : List Fm) (LB : Option Addr) (lc2 : Nat) (hMO2 : ∀ m ∈ ms2, m.OK) (hlc : ms.length ≤ lc) (hlc2 : ms2.length ≤ lc2) (hkm : ms.length + ms2.length ≤ 1048600) (he : encE (fsOf ms) = 0) (he2 : encE (fsOf ms2) = 0) (w0 : World) (hL : Reads w0 LA (fcs ms)) (hI : ∀ m ∈ ms, m.In w0) (hL2 : Reads w0 LB (fcs ms2)) (hI2 : ∀ m ∈ ms2, m.In w0) : Does Try.prog 15 #[.slice LA ms.length lc, .slice LB ms2.length lc2] w0 [] (fun v G => v = .bool true ∧ G = []) := by
  have htk : ∀ m ∈ ms, m.f.tok.length = 8 := fun m hm => (hMO m hm).1
  have htk2 : ∀ m ∈ ms2, m.f.tok.length = 8 := fun m hm => (hMO2 m hm).1
  have hf1 : (fsOf ms).length = ms.length := by simp
  have hf2 : (fsOf ms2).length = ms2.length := by simp
  have hz1 := (encE_zero.1 he).2.2
  have hz2 := (encE_zero.1 he2).2.2
  have hy1 : (encB (fsOf ms)).length ≤ 256 := by rw [encB_ok he]; exact hz1
  have hy2 : (encB (fsOf ms2)).length ≤ 256 := by rw [encB_ok he2]; exact hz2
  refine spec_of 77 Try.func15 rfl rfl rfl ?_
  refine W.seq ?_
  refine W.region ?_
  refine T.q (q_assign rfl rfl) (Wt.plain rfl) rfl rfl ?_
  refine T.nil ?_
  refine Ex.next ?_
  refine W.slots (L' := [(0, _), (1, _)]) ⟨rfl, rfl, trivial⟩ ?_
  refine W.seq ?_
  refine W.region ?_
  refine T.eff (e_call enters43 rfl rfl (fun w hm => shown10_spec w) rfl rfl) (Wt.plain rfl) ?_
  rintro _ _ ⟨_, _, ⟨rfl, rfl⟩, rfl, rfl⟩
  change (_ : List Blk → Prop) []
  refine T.q (q_assign rfl rfl) (Wt.plain rfl) rfl rfl ?_
  refine T.nil ?_
  refine Ex.next ?_
  refine W.slots (L' := [(0, _), (1, _), (5, _)]) ⟨rfl, rfl, rfl, trivial⟩ ?_
  refine W.seq ?_
  refine W.region ?_
  refine T.q (q_move rfl rfl) (Wt.plain rfl) rfl rfl ?_
  refine T.eff (e_call enters44 rfl rfl (fun w hm => enc_at ms rfl _ _ (by first | omega | (simp; done) | (simp; omega) | (simp at *; omega)) hMO (fs := (fsOf ms)) rfl w ((R_ext hL.ext) w hm) (ins_later hI hm)) rfl rfl) (Wt.plain rfl) ?_
  rintro _ _ ⟨_, _, ⟨k1, cap2, junk3, rfl, hc4, rfl⟩, rfl, rfl⟩
  change (_ : List Blk → Prop) [_]
  refine T.q (q_move rfl rfl) (Wt.plain rfl) rfl rfl ?_
  refine T.q (q_extract rfl rfl rfl) (Wt.plain rfl) rfl rfl ?_
  refine T.q (q_extract rfl rfl rfl) (Wt.plain rfl) rfl rfl ?_
  refine T.q (q_assign rfl rfl) (Wt.plain rfl) rfl rfl ?_
  refine T.q (q_assign rfl rfl) (Wt.plain rfl) rfl rfl ?_
  refine T.nil ?_
  refine Ex.next ?_
  refine W.slots (L' := [(0, _), (1, _), (5, _), (6, _), (7, _)]) ⟨rfl, rfl, rfl, rfl, rfl, trivial⟩ ?_
  refine W.seq ?_
  refine W.region ?_
  refine T.q (q_move rfl rfl) (Wt.plain rfl) rfl rfl ?_
  refine T.eff (e_call enters44 rfl rfl (fun w hm => enc_at ms2 rfl _ _ (by first | omega | (simp; done) | (simp; omega) | (simp at *; omega)) hMO2 (fs := (fsOf ms2)) rfl w ((R_ext hL2.ext) w hm) (ins_later hI2 hm)) rfl rfl) (Wt.plain rfl) ?_
  rintro _ _ ⟨_, _, ⟨k5, cap6, junk7, rfl, hc8, rfl⟩, rfl, rfl⟩
  change (_ : List Blk → Prop) [_, _]
  refine T.q (q_move rfl rfl) (Wt.plain rfl) rfl rfl ?_
  refine T.q (q_extract rfl rfl rfl) (Wt.plain rfl) rfl rfl ?_
  refine T.q (q_extract rfl rfl rfl) (Wt.plain rfl) rfl rfl ?_
  refine T.q (q_assign rfl rfl) (Wt.plain rfl) rfl rfl ?_
  refine T.q (q_assign rfl rfl) (Wt.plain rfl) rfl rfl ?_
  refine T.nil ?_
  refine Ex.next ?_
  refine W.slots (L' := [(0, _), (1, _), (5, _), (6, _), (7, _), (8, _), (9, _)]) ⟨rfl, rfl, rfl, rfl, rfl, rfl, rfl, trivial⟩ ?_
  refine W.seq ?_
  refine W.region ?_
  refine T.eff (e_litS sc52 ze59 [] rfl rfl rfl (by simp) rfl rfl rfl) (Wt.plain rfl) ?_
  rintro _ _ ⟨k9, rfl, rfl⟩
  change (_ : List Blk → Prop) [_, _, _]
  refine T.q (q_move rfl rfl) (Wt.plain rfl) rfl rfl ?_
  refine T.eff (e_appendS0 (no := (some k9)) sc52 ze59 rfl (by decide) 2 [] [] (fcs ms) (R_ext hL.ext) rfl rfl rfl rfl (rfl) (rfl) (fcs_length ms htk) (fcs_one ms) (by omega) (by omega) rfl rfl) (Wt.plain rfl) ?_
  rintro _ _ ⟨nj, cj, jj, haj, _, rfl, rfl⟩
  change (_ : List Blk → Prop) [_, _, _]
  change (_ : List Blk → Prop) [_, _, ⟨nj, fcs ms ++ jj, 59, (0, 0)⟩]
  refine T.q (q_move rfl rfl) (Wt.plain rfl) rfl rfl ?_
  refine T.eff (e_appendS0 (no := nj) sc52 ze59 rfl (by decide) 2 (fcs ms) jj (fcs ms2) (R_ext hL2.ext) rfl rfl rfl rfl (by rw [fcs_length ms htk]; omega) (haj) (fcs_length ms2 htk2) (fcs_one ms2) (by omega) (by omega) rfl rfl) (Wt.plain rfl) ?_
  rintro _ _ ⟨nk, ck, jk, hak, _, rfl, rfl⟩
  change (_ : List Blk → Prop) [_, _, _]
  change (_ : List Blk → Prop) [_, _, ⟨nk, fcs ms ++ fcs ms2 ++ jk, 59, (0, 0)⟩]
  refine T.eff (e_call enters44 rfl rfl (fun w hm => enc_at (ms ++ ms2) (by simp) _ _ (by first | omega | (simp; done) | (simp; omega) | (simp at *; omega)) (fun m h => (List.mem_append.1 h).elim (hMO m) (hMO2 m)) (fs := (fsOf ms ++ fsOf ms2)) (fsOf_app ms ms2) w (by rw [fcs_app]; exact (R_opre 2 rfl) w hm) (fun m h => (List.mem_append.1 h).elim (ins_later hI hm m) (ins_later hI2 hm m))) rfl rfl) (Wt.plain rfl) ?_
  rintro _ _ ⟨_, _, ⟨k10, cap11, junk12, rfl, hc13, rfl⟩, rfl, rfl⟩
  change (_ : List Blk → Prop) [_, _, _, _]
  refine T.q (q_move rfl rfl) (Wt.plain rfl) rfl rfl ?_
  refine T.q (q_extract rfl rfl rfl) (Wt.plain rfl) rfl rfl ?_
  refine T.q (q_extract rfl rfl rfl) (Wt.plain rfl) rfl rfl ?_
  refine T.q (q_assign rfl rfl) (Wt.plain rfl) rfl rfl ?_
  refine T.q (q_assign rfl rfl) (Wt.plain rfl) rfl rfl ?_
  refine T.nil ?_
  refine Ex.next ?_
  refine W.less (L' := [(0, _), (1, _), (5, _), (6, _), (7, _), (8, _), (9, _), (10, _), (11, _)]) [true, true, false, true] ⟨rfl, rfl, rfl, rfl, rfl, rfl, rfl, rfl, rfl, trivial⟩ ?_
  change (_ : List Blk → Prop) [_, _, _]
  refine W.seq ?_
  refine W.seq ?_
  refine W.region ?_
  refine T.q (q_move rfl rfl) (Wt.plain rfl) rfl rfl ?_
  refine T.q (q_bool (b := false) (q_neq rfl rfl rfl) (decide_eq_false (fun g => g he))) (Wt.plain rfl) rfl rfl ?_
  refine T.q (q_move rfl rfl) (Wt.plain rfl) rfl rfl ?_
  refine T.q (q_move rfl rfl) (Wt.yes rfl rfl rfl) rfl rfl ?_
  refine T.q (q_bool (b := false) (q_neq rfl rfl rfl) (decide_eq_false (fun g => g he2))) (Wt.yes rfl rfl rfl) rfl rfl ?_
  refine T.q (q_pickF rfl rfl rfl) (Wt.plain rfl) rfl rfl ?_
  refine T.nil ?_
  refine Ex.next ?_
  refine W.slots (L' := [(0, _), (1, _), (5, _), (6, _), (8, _), (10, _), (11, _), (37, _)]) ⟨rfl, rfl, rfl, rfl, rfl, rfl, rfl, rfl, trivial⟩ ?_
  refine W.condF rfl ?_
  refine W.skip ?_
  refine Ex.next ?_
  refine W.slots (L' := [(0, _), (1, _), (5, _), (6, _), (8, _), (10, _), (11, _)]) ⟨rfl, rfl, rfl, rfl, rfl, rfl, rfl, trivial⟩ ?_
  refine W.seq ?_
  refine W.seq ?_
  refine W.region ?_
  refine T.q (q_move rfl rfl) (Wt.plain rfl) rfl rfl ?_
  refine T.q (q_len sc52 rfl rfl) (Wt.plain rfl) rfl rfl ?_
  refine T.q (q_move rfl rfl) (Wt.plain rfl) rfl rfl ?_
  refine T.q (q_len sc52 rfl rfl) (Wt.plain rfl) rfl rfl ?_
  refine T.q (q_addi rfl rfl rfl (by omega) (by omega)) (Wt.plain rfl) rfl rfl ?_
  refine T.q (q_gtr rfl rfl rfl) (Wt.plain rfl) rfl rfl ?_
  refine T.q (q_move rfl rfl) (Wt.plain rfl) rfl rfl ?_
  refine T.both (t := 49) _ rfl (fun hb14 => ?_) (fun hb14 => ?_)
  · replace hb14 := of_decide_eq_true hb14
    refine T.no (Wn.no rfl rfl rfl rfl) rfl rfl ?_
    refine T.no (Wn.no rfl rfl rfl rfl) rfl rfl ?_
    refine T.no (Wn.no rfl rfl rfl rfl) rfl rfl ?_
    refine T.no (Wn.no rfl rfl rfl rfl) rfl rfl ?_
    refine T.no (Wn.no rfl rfl rfl rfl) rfl rfl ?_
    refine T.no (Wn.no rfl rfl rfl rfl) rfl rfl ?_
    refine T.q (q_pickT rfl rfl rfl) (Wt.plain rfl) rfl rfl ?_
    refine T.nil ?_
    refine Ex.next ?_
    refine W.slots (L' := [(5, _), (6, _), (8, _), (10, _), (11, _), (56, _)]) ⟨rfl, rfl, rfl, rfl, rfl, rfl, trivial⟩ ?_
    refine W.condT rfl ?_
    refine W.seq ?_
    refine W.region ?_
    refine T.q (q_move rfl rfl) (Wt.plain rfl) rfl rfl ?_
    refine T.q (q_move rfl rfl) (Wt.plain rfl) rfl rfl ?_
    refine T.q (q_move rfl rfl) (Wt.yes rfl rfl rfl) rfl rfl ?_
    refine T.q (q_bool (b := true) (q_eql rfl rfl rfl) ?hE) (Wt.yes rfl rfl rfl) rfl rfl ?_
    case hE => exact decide_eq_true (encE_two he he2 (by rw [hf1, hf2]; omega))
    refine T.q (q_pickT rfl rfl rfl) (Wt.plain rfl) rfl rfl ?_
    refine T.q (q_assign rfl rfl) (Wt.plain rfl) rfl rfl ?_
    refine T.nil ?_
    refine Ex.next ?_
    refine W.less (L' := [(4, _)]) [false, false, false] ⟨rfl, trivial⟩ ?_
    change (_ : List Blk → Prop) []
    refine W.ret ?_
    refine Ex.then_ret ?_
    refine Ex.out1 [] rfl rfl ?_
    exact ⟨rfl, rfl⟩
  replace hb14 := of_decide_eq_false hb14
  refine T.q (q_move rfl rfl) (Wt.yes rfl rfl rfl) rfl rfl ?_
  refine T.q (q_len sc22 rfl rfl) (Wt.yes rfl rfl rfl) rfl rfl ?_
  refine T.q (q_move rfl rfl) (Wt.yes rfl rfl rfl) rfl rfl ?_
  refine T.q (q_len sc22 rfl rfl) (Wt.yes rfl rfl rfl) rfl rfl ?_
  refine T.q (q_addi rfl rfl rfl (by omega) (by omega)) (Wt.yes rfl rfl rfl) rfl rfl ?_
  refine T.q (q_gtr rfl rfl rfl) (Wt.yes rfl rfl rfl) rfl rfl ?_
  refine T.q (q_pickF rfl rfl rfl) (Wt.plain rfl) rfl rfl ?_
  refine T.nil ?_
  refine Ex.next ?_
  refine W.slots (L' := [(5, _), (6, _), (8, _), (10, _), (11, _), (56, _)]) ⟨rfl, rfl, rfl, rfl, rfl, rfl, trivial⟩ ?_
  refine W.cond _ rfl (fun hb15 => ?_) (fun hb15 => ?_)
  · replace hb15 := of_decide_eq_true hb15
    refine W.seq ?_
    refine W.region ?_
    refine T.q (q_move rfl rfl) (Wt.plain rfl) rfl rfl ?_
    refine T.q (q_move rfl rfl) (Wt.plain rfl) rfl rfl ?_
    refine T.q (q_move rfl rfl) (Wt.yes rfl rfl rfl) rfl rfl ?_
    refine T.q (q_bool (b := true) (q_eql rfl rfl rfl) ?hE) (Wt.yes rfl rfl rfl) rfl rfl ?_
    case hE => exact decide_eq_true (encE_two he he2 (by rw [hf1, hf2]; omega))
    refine T.q (q_pickT rfl rfl rfl) (Wt.plain rfl) rfl rfl ?_
    refine T.q (q_assign rfl rfl) (Wt.plain rfl) rfl rfl ?_
    refine T.nil ?_
    refine Ex.next ?_
    refine W.less (L' := [(4, _)]) [false, false, false] ⟨rfl, trivial⟩ ?_
    change (_ : List Blk → Prop) []
    refine W.ret ?_
    refine Ex.then_ret ?_
    refine Ex.out1 [] rfl rfl ?_
    exact ⟨rfl, rfl⟩
  replace hb15 := of_decide_eq_false hb15
  refine W.skip ?_
  refine Ex.next ?_
  refine W.slots (L' := [(5, _), (6, _), (8, _), (10, _), (11, _)]) ⟨rfl, rfl, rfl, rfl, rfl, trivial⟩ ?_
  refine W.seq ?_
  refine W.region ?_
  refine T.q (q_move rfl rfl) (Wt.plain rfl) rfl rfl ?_
  refine T.q (q_move rfl rfl) (Wt.plain rfl) rfl rfl ?_
  refine T.q (q_move rfl rfl) (Wt.yes rfl rfl rfl) rfl rfl ?_
  refine T.q (q_bool (b := true) (q_eql rfl rfl rfl) ?hE) (Wt.yes rfl rfl rfl) rfl rfl ?_
  case hE => exact decide_eq_true (encE_both he he2 (by rw [hf1, hf2]; omega) (by omega)).1
  refine T.q (q_pickT rfl rfl rfl) (Wt.plain rfl) rfl rfl ?_
  refine T.q (q_move rfl rfl) (Wt.plain rfl) rfl rfl ?_
  refine T.q (q_move rfl rfl) (Wt.yes rfl rfl rfl) rfl rfl ?_
  refine T.q (q_bstr sc22 un5 un9 (R_opre 2 rfl) (by first | omega | (simp; done) | (simp [-List.getD_eq_getElem?_getD]; omega) | (simp at *; omega) | rfl) rfl rfl) (Wt.yes rfl rfl rfl) rfl rfl ?_
  refine T.q (q_move rfl rfl) (Wt.yes rfl rfl rfl) rfl rfl ?_
  refine T.q (q_bstr sc22 un5 un9 (R_opre 0 rfl) (by first | omega | (simp; done) | (simp [-List.getD_eq_getElem?_getD]; omega) | (simp at *; omega) | rfl) rfl rfl) (Wt.yes rfl rfl rfl) rfl rfl ?_
  refine T.q (q_move rfl rfl) (Wt.yes rfl rfl rfl) rfl rfl ?_
  refine T.q (q_bstr sc22 un5 un9 (R_opre 1 rfl) (by first | omega | (simp; done) | (simp [-List.getD_eq_getElem?_getD]; omega) | (simp at *; omega) | rfl) rfl rfl) (Wt.yes rfl rfl rfl) rfl rfl ?_
  refine T.q (q_catS rfl rfl rfl (by rw [bstr_size, bstr_size]; omega)) (Wt.yes rfl rfl rfl) rfl rfl ?_
  refine T.q (q_bool (b := true) (q_eqlS rfl rfl rfl) ?hE) (Wt.yes rfl rfl rfl) rfl rfl ?_
  case hE => rw [(encE_both he he2 (by rw [hf1, hf2]; omega) (by omega)).2, bstr_app]; exact beq_self_eq_true _
  refine T.q (q_pickT rfl rfl rfl) (Wt.plain rfl) rfl rfl ?_
  refine T.q (q_assign rfl rfl) (Wt.plain rfl) rfl rfl ?_
  refine T.nil ?_
  refine Ex.next ?_
  refine W.less (L' := [(4, _)]) [false, false, false] ⟨rfl, trivial⟩ ?_
  change (_ : List Blk → Prop) []
  refine W.ret ?_
  refine Ex.out1 [] rfl rfl ?_
  exact ⟨rfl, rfl⟩
theorem join_law (ms : List Fm) (LA : Option Addr) (lc : Nat) (hMO : ∀ m ∈ ms, m.OK) (ms2 : List Fm) (LB : Option Addr) (lc2 : Nat) (hMO2 : ∀ m ∈ ms2, m.OK) (hlc : ms.length ≤ lc) (hlc2 : ms2.length ≤ lc2) (hkm : ms.length + ms2.length ≤ 1048600) (w0 : World) (hL : Reads w0 LA (fcs ms)) (hI : ∀ m ∈ ms, m.In w0) (hL2 : Reads w0 LB (fcs ms2)) (hI2 : ∀ m ∈ ms2, m.In w0) : Does Try.prog 15 #[.slice LA ms.length lc, .slice LB ms2.length lc2] w0 [] (fun v G => v = .bool true ∧ G = []) := by
  by_cases he : encE (fsOf ms) = 0
  · by_cases he2 : encE (fsOf ms2) = 0
    · exact join_3 ms LA lc hMO ms2 LB lc2 hMO2 hlc hlc2 hkm he he2 w0 hL hI hL2 hI2
    · exact join_2 ms LA lc hMO ms2 LB lc2 hMO2 hlc hlc2 hkm he he2 w0 hL hI hL2 hI2
  · exact join_1 ms LA lc hMO ms2 LB lc2 hMO2 hlc hlc2 hkm he w0 hL hI hL2 hI2
end Go.Proofs.Ytmkjnefongjniaa
