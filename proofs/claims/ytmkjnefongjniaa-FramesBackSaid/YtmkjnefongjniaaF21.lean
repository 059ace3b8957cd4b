/-
  Statements of layer 10: what is written is read.
-/
import Derived.Test.YtmkjnefongjniaaF18
import Derived.Test.YtmkjnefongjniaaF16
namespace Go.Proofs.Ytmkjnefongjniaa
open Go Go.X
set_option maxRecDepth 100000 in
theorem fback_yy (ms : List Fm) (LA : Option Addr) (lc : Nat) (hlc : ms.length ≤ lc) (hMO : ∀ m ∈ ms, m.OK) (b : List Int) (BA : Option Addr) (bc : Nat) (hbc : b.length ≤ bc) (hbl : b.length ≤ 140737488351232) (hbb : Bytes b) (he : encE (fsOf ms) = 0) (fs3 : List Frm) (hd : dec b = .ok fs3) (w0 : World) (hL : Reads w0 LA (fcs ms)) (hI : ∀ m ∈ ms, m.In w0) (hB : Reads w0 BA (ints .u8 b)) : Does Try.prog 18 #[.slice LA ms.length lc, .slice BA b.length bc] w0 [] (fun v G => v = .bool true ∧ G = []) := by
  have htk : ∀ m ∈ ms, m.f.tok.length = 8 := fun m hm => (hMO m hm).1
  have hml : (fsOf ms).length = ms.length := by simp
  obtain ⟨he1, hfo, he3⟩ := encE_zero.1 he
  have hbl2 : (encB (fsOf ms)).length = (wrs (fsOf ms)).length := by rw [encB_ok he]
  have htm : ∀ f ∈ fsOf ms, frOK f ∧ f.tok.length = 8 := fun f hf => ⟨hfo f hf, by obtain ⟨m, hm, rfl⟩ := List.mem_map.1 hf; exact htk m hm⟩
  have hdb : dec (encB (fsOf ms)) = .ok (fsOf ms) := by rw [encB_ok he]; exact dec_back _ (by omega) he3 htm
  have hbw : Bytes (encB (fsOf ms)) := by rw [encB_ok he]; exact Bytes.wrs fun f hf => by obtain ⟨m, hm, rfl⟩ := List.mem_map.1 hf; exact ⟨hfo _ hf, (hMO m hm).2.2.2.2.1, (hMO m hm).2.2.2.2.2⟩
  obtain ⟨hw1, hw3, hw4, hw5⟩ := dec_was hbb hd
  have he3b : encE fs3 = 0 := encE_zero.2 ⟨hw1, fun f hf => (hw5 f hf).1, hw3 ▸ hw4⟩
  refine spec_of 81 Try.func18 rfl rfl rfl ?_
  refine W.seq ?_
  refine W.region ?_
  refine T.q (q_assign rfl rfl) (Wt.plain rfl) rfl rfl ?_
  refine T.nil ?_
  refine Ex.next ?_
  refine W.slots (L' := [(0, _), (1, _)]) ⟨rfl, rfl, trivial⟩ ?_
  refine W.seq ?_
  refine W.region ?_
  refine T.eff (e_call enters43 rfl rfl (fun w hm => shown10_spec w) rfl rfl) (Wt.plain rfl) ?_
  rintro _ _ ⟨_, _, ⟨rfl, rfl⟩, rfl, rfl⟩
  change (_ : List Blk → Prop) []
  refine T.q (q_assign rfl rfl) (Wt.plain rfl) rfl rfl ?_
  refine T.nil ?_
  refine Ex.next ?_
  refine W.slots (L' := [(0, _), (1, _), (5, _)]) ⟨rfl, rfl, rfl, trivial⟩ ?_
  refine W.seq ?_
  refine W.region ?_
  refine T.q (q_move rfl rfl) (Wt.plain rfl) rfl rfl ?_
  refine T.eff (e_call enters44 rfl rfl (fun w hm => enc_at ms rfl _ _ (by first | omega | (simp; done) | (simp; omega) | (simp at *; omega)) hMO (fs := (fsOf ms)) rfl w ((R_ext hL.ext) w hm) (ins_later hI hm)) rfl rfl) (Wt.plain rfl) ?_
  rintro _ _ ⟨_, _, ⟨k1, cap2, junk3, rfl, hc4, rfl⟩, rfl, rfl⟩
  change (_ : List Blk → Prop) [_]
  refine T.q (q_move rfl rfl) (Wt.plain rfl) rfl rfl ?_
  refine T.q (q_extract rfl rfl rfl) (Wt.plain rfl) rfl rfl ?_
  refine T.q (q_extract rfl rfl rfl) (Wt.plain rfl) rfl rfl ?_
  refine T.q (q_assign rfl rfl) (Wt.plain rfl) rfl rfl ?_
  refine T.q (q_assign rfl rfl) (Wt.plain rfl) rfl rfl ?_
  refine T.nil ?_
  refine Ex.next ?_
  refine W.slots (L' := [(0, _), (1, _), (5, _), (6, _), (7, _)]) ⟨rfl, rfl, rfl, rfl, rfl, trivial⟩ ?_
  refine W.seq ?_
  refine W.seq ?_
  refine W.region ?_
  refine T.q (q_move rfl rfl) (Wt.plain rfl) rfl rfl ?_
  refine T.q (q_bool (b := true) (q_eql rfl rfl rfl) (decide_eq_true he)) (Wt.plain rfl) rfl rfl ?_
  refine T.nil ?_
  refine Ex.next ?_
  refine W.slots (L' := [(0, _), (1, _), (5, _), (6, _), (24, _)]) ⟨rfl, rfl, rfl, rfl, rfl, trivial⟩ ?_
  refine W.condT rfl ?_
  refine W.seq ?_
  refine W.region ?_
  refine T.q (q_move rfl rfl) (Wt.plain rfl) rfl rfl ?_
  refine T.eff (e_call enters46 rfl rfl (fun w hm => dec_yes (encB (fsOf ms)) (by first | omega | (simp; done) | (simp [-List.getD_eq_getElem?_getD]; omega) | (simp at *; omega) | rfl) _ _ (by first | omega | (simp; done) | (simp; omega) | (simp at *; omega)) (by first | omega | (simp; done) | (simp; omega) | (simp at *; omega)) hbw (fs := (fsOf ms)) hdb w ((R_opre 0 rfl) w hm)) rfl rfl) (Wt.plain rfl) ?_
  rintro _ _ ⟨_, _, ⟨msx, nox, capx, jkx, Bsx, hfsx, hokx, hcapx, rfl, hinx, rfl⟩, rfl, rfl⟩
  change (_ : List Blk → Prop) (_ :: _ :: Bsx)
  refine T.q (q_move rfl rfl) (Wt.plain rfl) rfl rfl ?_
  refine T.q (q_extract rfl rfl rfl) (Wt.plain rfl) rfl rfl ?_
  refine T.q (q_extract rfl rfl rfl) (Wt.plain rfl) rfl rfl ?_
  refine T.q (q_assign rfl rfl) (Wt.plain rfl) rfl rfl ?_
  refine T.q (q_assign rfl rfl) (Wt.plain rfl) rfl rfl ?_
  refine T.nil ?_
  refine Ex.next ?_
  refine W.slots (L' := [(0, _), (1, _), (5, _), (6, _), (8, _), (9, _)]) ⟨rfl, rfl, rfl, rfl, rfl, rfl, trivial⟩ ?_
  refine W.seq ?_
  refine W.region ?_
  refine T.q (q_move rfl rfl) (Wt.plain rfl) rfl rfl ?_
  refine T.q (q_move rfl rfl) (Wt.plain rfl) rfl rfl ?_
  refine T.eff (e_call enters51 rfl rfl (fun w hm => all_spec ms _ _ hMO msx _ _ (fun m h => (hokx m h).1) hfsx.symm (by omega) w ((R_ext hL.ext) w hm) (ins_later hI hm) ((R_opre 1 rfl) w hm) (hinx w fun b hb => hm.has b (.tail _ (.tail _ (hb))))) rfl rfl) (Wt.plain rfl) ?_
  rintro _ _ ⟨_, _, ⟨rfl, rfl⟩, rfl, rfl⟩
  refine T.turn ?_
  change (_ : List Blk → Prop) (_ :: _ :: Bsx)
  refine T.q (q_assign rfl rfl) (Wt.plain rfl) rfl rfl ?_
  refine T.nil ?_
  refine Ex.next ?_
  refine W.less (L' := [(0, _), (1, _), (5, _), (6, _), (9, _), (10, _)]) [true, false] ⟨rfl, rfl, rfl, rfl, rfl, rfl, trivial⟩ ?_
  change (_ : List Blk → Prop) (_ :: Bsx)
  refine W.seq ?_
  refine W.seq ?_
  refine W.region ?_
  refine T.q (q_move rfl rfl) (Wt.plain rfl) rfl rfl ?_
  refine T.q (q_bool (b := false) (q_neq rfl rfl rfl) (decide_eq_false (by decide))) (Wt.plain rfl) rfl rfl ?_
  refine T.q (q_move rfl rfl) (Wt.plain rfl) rfl rfl ?_
  refine T.q (q_move rfl rfl) (Wt.yes rfl rfl rfl) rfl rfl ?_
  refine T.q (q_not rfl rfl) (Wt.yes rfl rfl rfl) rfl rfl ?_
  refine T.q (q_pickF rfl rfl rfl) (Wt.plain rfl) rfl rfl ?_
  refine T.nil ?_
  refine Ex.next ?_
  refine W.slots (L' := [(0, _), (1, _), (5, _), (6, _), (38, _)]) ⟨rfl, rfl, rfl, rfl, rfl, trivial⟩ ?_
  refine W.condF rfl ?_
  refine W.skip ?_
  refine Ex.next ?_
  refine W.slots (L' := [(0, _), (1, _), (5, _), (6, _)]) ⟨rfl, rfl, rfl, rfl, trivial⟩ ?_
  refine W.seq ?_
  refine W.region ?_
  refine T.q (q_assign rfl rfl) (Wt.plain rfl) rfl rfl ?_
  refine T.nil ?_
  refine Ex.next ?_
  refine W.slots (L' := [(0, _), (1, _), (5, _), (6, _), (11, _)]) ⟨rfl, rfl, rfl, rfl, rfl, trivial⟩ ?_
  refine W.seq ?_
  refine W.seq ?_
  refine W.region ?_
  refine T.q (q_assign rfl rfl) (Wt.plain rfl) rfl rfl ?_
  refine T.nil ?_
  refine Ex.next ?_
  refine W.slots (L' := [(0, _), (1, _), (5, _), (6, _), (11, _), (12, _)]) ⟨rfl, rfl, rfl, rfl, rfl, rfl, trivial⟩ ?_
  refine W.block ?_
  refine W.loop (α := Nat) (fun i => [(0, .slice LA ms.length lc), (1, .slice BA b.length bc), (5, .bool true), (6, .slice (k1.map fun k => (⟨k, 0, none⟩ : Addr)) ((encB (fsOf ms)).length) cap2), (11, .int .i64 (((wrs ((fsOf ms).take i)).length : Nat) : Int)), (12, .int .i64 ((i : Nat) : Int))]) (fun i => (⟨k1, ints .u8 (encB (fsOf ms)) ++ junk3, 5, (0, 0)⟩ :: Bsx)) (fun i => i ≤ ms.length) (fun i => ms.length - i) [true] 0 (by omega) ⟨rfl, rfl, rfl, rfl, rfl, rfl, trivial⟩ rfl ?_
  rintro i hi
  refine W.seq ?_
  refine W.seq ?_
  refine W.region ?_
  refine T.q (q_move rfl rfl) (Wt.plain rfl) rfl rfl ?_
  refine T.q (q_move rfl rfl) (Wt.plain rfl) rfl rfl ?_
  refine T.q (q_len sc52 rfl rfl) (Wt.plain rfl) rfl rfl ?_
  refine T.q (q_lss rfl rfl rfl) (Wt.plain rfl) rfl rfl ?_
  refine T.nil ?_
  refine Ex.next ?_
  refine W.slots (L' := [(0, _), (1, _), (5, _), (6, _), (11, _), (12, _), (42, _)]) ⟨rfl, rfl, rfl, rfl, rfl, rfl, rfl, trivial⟩ ?_
  refine W.cond _ rfl (fun hb5 => ?_) (fun hb5 => ?_)
  · replace hb5 := of_decide_eq_true hb5
    have him : i < ms.length := by omega
    have htki := htk _ (fmA_mem him)
    have hof := hfo _ (fsOf_mem him)
    have hsz := szE_yes hof
    have hwl := wr_le hof htki
    have hl1 := wrs_take_len (fsOf ms) i
    have hl2 := congrArg List.length (wrs_take him)
    rw [List.length_append] at hl2
    refine W.skip ?_
    refine Ex.next ?_
    refine W.slots (L' := [(0, _), (1, _), (5, _), (6, _), (11, _), (12, _)]) ⟨rfl, rfl, rfl, rfl, rfl, rfl, trivial⟩ ?_
    refine W.seq ?_
    refine W.block ?_
    refine W.region ?_
    refine T.q (q_move rfl rfl) (Wt.plain rfl) rfl rfl ?_
    refine T.q (q_move rfl rfl) (Wt.plain rfl) rfl rfl ?_
    refine T.q (q_move rfl rfl) (Wt.plain rfl) rfl rfl ?_
    refine T.q (q_ixE sc52 i (R_ext hL.ext) rfl rfl rfl (by omega) (by omega) (by rw [fcs_length ms htk]; omega)) (Wt.plain rfl) rfl rfl ?_
    refine T.q (q_loadW (wd59.trans (congrArg some (by first | (simp; done) | (simp; omega)))) (R_elem (R_ext hL.ext) (i * 13) 13 (show ((fcs ms).drop (i * 13)).take 13 = .int .i64 ((fmA ms i).f.k) :: (.int .i64 ((fmA ms i).f.a) :: (.int .i64 ((fmA ms i).f.l) :: (.slice ((fmA ms i).RA) ((fmA ms i).f.rs.length) ((fmA ms i).rc) :: (.slice ((fmA ms i).BA) ((fmA ms i).f.bs.length) ((fmA ms i).bc) :: (ints .u8 ((fmA ms i).f.tok)))))) from fcs_get ms _ htk (by omega))) rfl rfl) (Wt.plain rfl) rfl rfl ?_
    refine T.eff (e_call enters49 rfl rfl (fun w hm => fsize_spec (fmA ms i) (hMO _ (fmA_mem (show i < ms.length by omega))) w ((R_ext (hI _ (fmA_mem (show i < ms.length by omega))).1.ext) w hm) ((R_ext (hI _ (fmA_mem (show i < ms.length by omega))).2.ext) w hm)) rfl rfl) (Wt.plain rfl) ?_
    rintro _ _ ⟨_, _, ⟨rfl, rfl⟩, rfl, rfl⟩
    refine T.turn ?_
    change (_ : List Blk → Prop) (_ :: Bsx)
    refine T.q (q_int (b := (((wrs ((fsOf ms).take (i + 1))).length : Nat) : Int)) (q_addi rfl rfl rfl (by omega) (by omega)) ?hE) (Wt.plain rfl) rfl rfl ?_
    case hE => rw [hsz, hl2]; omega
    refine T.q (q_assign rfl rfl) (Wt.plain rfl) rfl rfl ?_
    refine T.nil ?_
    refine Ex.in_normal ?_
    refine Ex.next ?_
    refine W.slots (L' := [(0, _), (1, _), (5, _), (6, _), (11, _), (12, _)]) ⟨rfl, rfl, rfl, rfl, rfl, rfl, trivial⟩ ?_
    refine W.region ?_
    refine T.q (q_move rfl rfl) (Wt.plain rfl) rfl rfl ?_
    refine T.q (q_addi rfl rfl rfl (by omega) (by omega)) (Wt.plain rfl) rfl rfl ?_
    refine T.q (q_assign rfl rfl) (Wt.plain rfl) rfl rfl ?_
    refine T.nil ?_
    exact Ex.again [true] (i + 1) (by omega) (by omega) ⟨rfl, rfl, rfl, rfl, rfl, rfl, trivial⟩ rfl
  replace hb5 := of_decide_eq_false hb5
  obtain rfl : i = ms.length := by omega
  have htl : (wrs ((fsOf ms).take ms.length)).length = (encB (fsOf ms)).length := by rw [encB_ok he, List.take_of_length_le (by simp)]
  refine W.exit ?_
  refine Ex.then_exit ?_
  refine Ex.then_exit ?_
  refine Ex.in_here ?_
  refine Ex.next ?_
  refine W.slots (L' := [(1, _), (5, _), (6, _), (11, _)]) ⟨rfl, rfl, rfl, rfl, trivial⟩ ?_
  refine W.seq ?_
  refine W.region ?_
  refine T.q (q_move rfl rfl) (Wt.plain rfl) rfl rfl ?_
  refine T.q (q_move rfl rfl) (Wt.plain rfl) rfl rfl ?_
  refine T.q (q_len sc22 rfl rfl) (Wt.plain rfl) rfl rfl ?_
  refine T.q (q_bool (b := false) (q_neq rfl rfl rfl) (decide_eq_false (by omega))) (Wt.plain rfl) rfl rfl ?_
  refine T.sub (F' := []) (List.nil_sublist _) ?_
  refine T.nil ?_
  refine Ex.next ?_
  refine W.slots (L' := [(1, _), (5, _), (55, _)]) ⟨rfl, rfl, rfl, trivial⟩ ?_
  refine W.condF rfl ?_
  refine W.skip ?_
  refine Ex.next ?_
  refine W.slots (L' := [(1, _), (5, _)]) ⟨rfl, rfl, trivial⟩ ?_
  refine W.seq ?_
  refine W.region ?_
  refine T.q (q_move rfl rfl) (Wt.plain rfl) rfl rfl ?_
  refine T.eff (e_call enters46 rfl rfl (fun w hm => dec_yes b (by first | omega | (simp; done) | (simp [-List.getD_eq_getElem?_getD]; omega) | (simp at *; omega) | rfl) _ _ (by first | omega | (simp; done) | (simp; omega) | (simp at *; omega)) (by first | omega | (simp; done) | (simp; omega) | (simp at *; omega)) hbb (fs := fs3) hd w ((R_ext hB.ext) w hm)) rfl rfl) (Wt.plain rfl) ?_
  rintro _ _ ⟨_, _, ⟨msz, noz, capz, jkz, Bsz, hfsz, hokz, hcapz, rfl, hinz, rfl⟩, rfl, rfl⟩
  change (_ : List Blk → Prop) (_ :: Bsz)
  refine T.q (q_move rfl rfl) (Wt.plain rfl) rfl rfl ?_
  refine T.q (q_extract rfl rfl rfl) (Wt.plain rfl) rfl rfl ?_
  refine T.q (q_extract rfl rfl rfl) (Wt.plain rfl) rfl rfl ?_
  refine T.q (q_assign rfl rfl) (Wt.plain rfl) rfl rfl ?_
  refine T.q (q_assign rfl rfl) (Wt.plain rfl) rfl rfl ?_
  refine T.nil ?_
  refine Ex.next ?_
  refine W.slots (L' := [(1, _), (5, _), (13, _), (14, _)]) ⟨rfl, rfl, rfl, rfl, trivial⟩ ?_
  refine W.seq ?_
  refine W.seq ?_
  refine W.region ?_
  refine T.q (q_move rfl rfl) (Wt.plain rfl) rfl rfl ?_
  refine T.q (q_bool (b := false) (q_neq rfl rfl rfl) (decide_eq_false (by decide))) (Wt.plain rfl) rfl rfl ?_
  refine T.nil ?_
  refine Ex.next ?_
  refine W.slots (L' := [(1, _), (5, _), (13, _), (62, _)]) ⟨rfl, rfl, rfl, rfl, trivial⟩ ?_
  refine W.condF rfl ?_
  refine W.skip ?_
  refine Ex.next ?_
  refine W.slots (L' := [(1, _), (5, _), (13, _)]) ⟨rfl, rfl, rfl, trivial⟩ ?_
  refine W.seq ?_
  refine W.region ?_
  refine T.q (q_move rfl rfl) (Wt.plain rfl) rfl rfl ?_
  refine T.eff (e_call enters44 rfl rfl (fun w hm => enc_at msz rfl _ _ (by first | omega | (simp; done) | (simp; omega) | (simp at *; omega)) (fun m h => (hokz m h).1) (fs := fs3) hfsz w ((R_opre 0 rfl) w hm) (hinz w fun b hb => hm.has b (.tail _ (hb)))) rfl rfl) (Wt.plain rfl) ?_
  rintro _ _ ⟨_, _, ⟨k6, cap7, junk8, rfl, hc9, rfl⟩, rfl, rfl⟩
  refine T.turn ?_
  change (_ : List Blk → Prop) (_ :: _ :: Bsz)
  refine T.q (q_move rfl rfl) (Wt.plain rfl) rfl rfl ?_
  refine T.q (q_extract rfl rfl rfl) (Wt.plain rfl) rfl rfl ?_
  refine T.q (q_extract rfl rfl rfl) (Wt.plain rfl) rfl rfl ?_
  refine T.q (q_assign rfl rfl) (Wt.plain rfl) rfl rfl ?_
  refine T.q (q_assign rfl rfl) (Wt.plain rfl) rfl rfl ?_
  refine T.nil ?_
  refine Ex.next ?_
  refine W.less (L' := [(1, _), (5, _), (15, _), (16, _)]) [true, false] ⟨rfl, rfl, rfl, rfl, trivial⟩ ?_
  change (_ : List Blk → Prop) (_ :: Bsz)
  refine W.seq ?_
  refine W.region ?_
  refine T.q (q_move rfl rfl) (Wt.plain rfl) rfl rfl ?_
  refine T.q (q_move rfl rfl) (Wt.plain rfl) rfl rfl ?_
  refine T.q (q_move rfl rfl) (Wt.yes rfl rfl rfl) rfl rfl ?_
  refine T.q (q_bool (b := true) (q_eql rfl rfl rfl) ?hE) (Wt.yes rfl rfl rfl) rfl rfl ?_
  case hE => exact decide_eq_true he3b
  refine T.q (q_pickT rfl rfl rfl) (Wt.plain rfl) rfl rfl ?_
  refine T.q (q_move rfl rfl) (Wt.plain rfl) rfl rfl ?_
  refine T.q (q_move rfl rfl) (Wt.yes rfl rfl rfl) rfl rfl ?_
  refine T.q (q_bstr sc22 un5 un9 (R_opre 0 rfl) (by first | omega | (simp; done) | (simp [-List.getD_eq_getElem?_getD]; omega) | (simp at *; omega) | rfl) rfl rfl) (Wt.yes rfl rfl rfl) rfl rfl ?_
  refine T.q (q_move rfl rfl) (Wt.yes rfl rfl rfl) rfl rfl ?_
  refine T.q (q_bstr sc22 un5 un9 (R_ext hB.ext) (by first | omega | (simp; done) | (simp [-List.getD_eq_getElem?_getD]; omega) | (simp at *; omega) | rfl) rfl rfl) (Wt.yes rfl rfl rfl) rfl rfl ?_
  refine T.q (q_bool (b := true) (q_eqlS rfl rfl rfl) ?hE) (Wt.yes rfl rfl rfl) rfl rfl ?_
  case hE => rw [encB_ok he3b, ← hw3]; exact beq_self_eq_true _
  refine T.q (q_pickT rfl rfl rfl) (Wt.plain rfl) rfl rfl ?_
  refine T.q (q_assign rfl rfl) (Wt.plain rfl) rfl rfl ?_
  refine T.nil ?_
  refine Ex.next ?_
  refine W.less (L' := [(4, _)]) [false] ⟨rfl, trivial⟩ ?_
  change (_ : List Blk → Prop) (Bsz)
  refine W.ret ?_
  refine Ex.sub (F' := []) (List.nil_sublist _) ?_
  refine Ex.out1 [] rfl rfl ?_
  exact ⟨rfl, rfl⟩
set_option maxRecDepth 100000 in
theorem fback_yn (ms : List Fm) (LA : Option Addr) (lc : Nat) (hlc : ms.length ≤ lc) (hMO : ∀ m ∈ ms, m.OK) (b : List Int) (BA : Option Addr) (bc : Nat) (hbc : b.length ≤ bc) (hbl : b.length ≤ 140737488351232) (hbb : Bytes b) (he : encE (fsOf ms) = 0) (e3 : Int) (hd : dec b = .error e3) (w0 : World) (hL : Reads w0 LA (fcs ms)) (hI : ∀ m ∈ ms, m.In w0) (hB : Reads w0 BA (ints .u8 b)) : Does Try.prog 18 #[.slice LA ms.length lc, .slice BA b.length bc] w0 [] (fun v G => v = .bool true ∧ G = []) := by
  have htk : ∀ m ∈ ms, m.f.tok.length = 8 := fun m hm => (hMO m hm).1
  have hml : (fsOf ms).length = ms.length := by simp
  obtain ⟨he1, hfo, he3⟩ := encE_zero.1 he
  have hbl2 : (encB (fsOf ms)).length = (wrs (fsOf ms)).length := by rw [encB_ok he]
  have htm : ∀ f ∈ fsOf ms, frOK f ∧ f.tok.length = 8 := fun f hf => ⟨hfo f hf, by obtain ⟨m, hm, rfl⟩ := List.mem_map.1 hf; exact htk m hm⟩
  have hdb : dec (encB (fsOf ms)) = .ok (fsOf ms) := by rw [encB_ok he]; exact dec_back _ (by omega) he3 htm
  have hbw : Bytes (encB (fsOf ms)) := by rw [encB_ok he]; exact Bytes.wrs fun f hf => by obtain ⟨m, hm, rfl⟩ := List.mem_map.1 hf; exact ⟨hfo _ hf, (hMO m hm).2.2.2.2.1, (hMO m hm).2.2.2.2.2⟩
  refine spec_of 81 Try.func18 rfl rfl rfl ?_
  refine W.seq ?_
  refine W.region ?_
  refine T.q (q_assign rfl rfl) (Wt.plain rfl) rfl rfl ?_
  refine T.nil ?_
  refine Ex.next ?_
  refine W.slots (L' := [(0, _), (1, _)]) ⟨rfl, rfl, trivial⟩ ?_
  refine W.seq ?_
  refine W.region ?_
  refine T.eff (e_call enters43 rfl rfl (fun w hm => shown10_spec w) rfl rfl) (Wt.plain rfl) ?_
  rintro _ _ ⟨_, _, ⟨rfl, rfl⟩, rfl, rfl⟩
  change (_ : List Blk → Prop) []
  refine T.q (q_assign rfl rfl) (Wt.plain rfl) rfl rfl ?_
  refine T.nil ?_
  refine Ex.next ?_
  refine W.slots (L' := [(0, _), (1, _), (5, _)]) ⟨rfl, rfl, rfl, trivial⟩ ?_
  refine W.seq ?_
  refine W.region ?_
  refine T.q (q_move rfl rfl) (Wt.plain rfl) rfl rfl ?_
  refine T.eff (e_call enters44 rfl rfl (fun w hm => enc_at ms rfl _ _ (by first | omega | (simp; done) | (simp; omega) | (simp at *; omega)) hMO (fs := (fsOf ms)) rfl w ((R_ext hL.ext) w hm) (ins_later hI hm)) rfl rfl) (Wt.plain rfl) ?_
  rintro _ _ ⟨_, _, ⟨k1, cap2, junk3, rfl, hc4, rfl⟩, rfl, rfl⟩
  change (_ : List Blk → Prop) [_]
  refine T.q (q_move rfl rfl) (Wt.plain rfl) rfl rfl ?_
  refine T.q (q_extract rfl rfl rfl) (Wt.plain rfl) rfl rfl ?_
  refine T.q (q_extract rfl rfl rfl) (Wt.plain rfl) rfl rfl ?_
  refine T.q (q_assign rfl rfl) (Wt.plain rfl) rfl rfl ?_
  refine T.q (q_assign rfl rfl) (Wt.plain rfl) rfl rfl ?_
  refine T.nil ?_
  refine Ex.next ?_
  refine W.slots (L' := [(0, _), (1, _), (5, _), (6, _), (7, _)]) ⟨rfl, rfl, rfl, rfl, rfl, trivial⟩ ?_
  refine W.seq ?_
  refine W.seq ?_
  refine W.region ?_
  refine T.q (q_move rfl rfl) (Wt.plain rfl) rfl rfl ?_
  refine T.q (q_bool (b := true) (q_eql rfl rfl rfl) (decide_eq_true he)) (Wt.plain rfl) rfl rfl ?_
  refine T.nil ?_
  refine Ex.next ?_
  refine W.slots (L' := [(0, _), (1, _), (5, _), (6, _), (24, _)]) ⟨rfl, rfl, rfl, rfl, rfl, trivial⟩ ?_
  refine W.condT rfl ?_
  refine W.seq ?_
  refine W.region ?_
  refine T.q (q_move rfl rfl) (Wt.plain rfl) rfl rfl ?_
  refine T.eff (e_call enters46 rfl rfl (fun w hm => dec_yes (encB (fsOf ms)) (by first | omega | (simp; done) | (simp [-List.getD_eq_getElem?_getD]; omega) | (simp at *; omega) | rfl) _ _ (by first | omega | (simp; done) | (simp; omega) | (simp at *; omega)) (by first | omega | (simp; done) | (simp; omega) | (simp at *; omega)) hbw (fs := (fsOf ms)) hdb w ((R_opre 0 rfl) w hm)) rfl rfl) (Wt.plain rfl) ?_
  rintro _ _ ⟨_, _, ⟨msx, nox, capx, jkx, Bsx, hfsx, hokx, hcapx, rfl, hinx, rfl⟩, rfl, rfl⟩
  change (_ : List Blk → Prop) (_ :: _ :: Bsx)
  refine T.q (q_move rfl rfl) (Wt.plain rfl) rfl rfl ?_
  refine T.q (q_extract rfl rfl rfl) (Wt.plain rfl) rfl rfl ?_
  refine T.q (q_extract rfl rfl rfl) (Wt.plain rfl) rfl rfl ?_
  refine T.q (q_assign rfl rfl) (Wt.plain rfl) rfl rfl ?_
  refine T.q (q_assign rfl rfl) (Wt.plain rfl) rfl rfl ?_
  refine T.nil ?_
  refine Ex.next ?_
  refine W.slots (L' := [(0, _), (1, _), (5, _), (6, _), (8, _), (9, _)]) ⟨rfl, rfl, rfl, rfl, rfl, rfl, trivial⟩ ?_
  refine W.seq ?_
  refine W.region ?_
  refine T.q (q_move rfl rfl) (Wt.plain rfl) rfl rfl ?_
  refine T.q (q_move rfl rfl) (Wt.plain rfl) rfl rfl ?_
  refine T.eff (e_call enters51 rfl rfl (fun w hm => all_spec ms _ _ hMO msx _ _ (fun m h => (hokx m h).1) hfsx.symm (by omega) w ((R_ext hL.ext) w hm) (ins_later hI hm) ((R_opre 1 rfl) w hm) (hinx w fun b hb => hm.has b (.tail _ (.tail _ (hb))))) rfl rfl) (Wt.plain rfl) ?_
  rintro _ _ ⟨_, _, ⟨rfl, rfl⟩, rfl, rfl⟩
  refine T.turn ?_
  change (_ : List Blk → Prop) (_ :: _ :: Bsx)
  refine T.q (q_assign rfl rfl) (Wt.plain rfl) rfl rfl ?_
  refine T.nil ?_
  refine Ex.next ?_
  refine W.less (L' := [(0, _), (1, _), (5, _), (6, _), (9, _), (10, _)]) [true, false] ⟨rfl, rfl, rfl, rfl, rfl, rfl, trivial⟩ ?_
  change (_ : List Blk → Prop) (_ :: Bsx)
  refine W.seq ?_
  refine W.seq ?_
  refine W.region ?_
  refine T.q (q_move rfl rfl) (Wt.plain rfl) rfl rfl ?_
  refine T.q (q_bool (b := false) (q_neq rfl rfl rfl) (decide_eq_false (by decide))) (Wt.plain rfl) rfl rfl ?_
  refine T.q (q_move rfl rfl) (Wt.plain rfl) rfl rfl ?_
  refine T.q (q_move rfl rfl) (Wt.yes rfl rfl rfl) rfl rfl ?_
  refine T.q (q_not rfl rfl) (Wt.yes rfl rfl rfl) rfl rfl ?_
  refine T.q (q_pickF rfl rfl rfl) (Wt.plain rfl) rfl rfl ?_
  refine T.nil ?_
  refine Ex.next ?_
  refine W.slots (L' := [(0, _), (1, _), (5, _), (6, _), (38, _)]) ⟨rfl, rfl, rfl, rfl, rfl, trivial⟩ ?_
  refine W.condF rfl ?_
  refine W.skip ?_
  refine Ex.next ?_
  refine W.slots (L' := [(0, _), (1, _), (5, _), (6, _)]) ⟨rfl, rfl, rfl, rfl, trivial⟩ ?_
  refine W.seq ?_
  refine W.region ?_
  refine T.q (q_assign rfl rfl) (Wt.plain rfl) rfl rfl ?_
  refine T.nil ?_
  refine Ex.next ?_
  refine W.slots (L' := [(0, _), (1, _), (5, _), (6, _), (11, _)]) ⟨rfl, rfl, rfl, rfl, rfl, trivial⟩ ?_
  refine W.seq ?_
  refine W.seq ?_
  refine W.region ?_
  refine T.q (q_assign rfl rfl) (Wt.plain rfl) rfl rfl ?_
  refine T.nil ?_
  refine Ex.next ?_
  refine W.slots (L' := [(0, _), (1, _), (5, _), (6, _), (11, _), (12, _)]) ⟨rfl, rfl, rfl, rfl, rfl, rfl, trivial⟩ ?_
  refine W.block ?_
  refine W.loop (α := Nat) (fun i => [(0, .slice LA ms.length lc), (1, .slice BA b.length bc), (5, .bool true), (6, .slice (k1.map fun k => (⟨k, 0, none⟩ : Addr)) ((encB (fsOf ms)).length) cap2), (11, .int .i64 (((wrs ((fsOf ms).take i)).length : Nat) : Int)), (12, .int .i64 ((i : Nat) : Int))]) (fun i => (⟨k1, ints .u8 (encB (fsOf ms)) ++ junk3, 5, (0, 0)⟩ :: Bsx)) (fun i => i ≤ ms.length) (fun i => ms.length - i) [true] 0 (by omega) ⟨rfl, rfl, rfl, rfl, rfl, rfl, trivial⟩ rfl ?_
  rintro i hi
  refine W.seq ?_
  refine W.seq ?_
  refine W.region ?_
  refine T.q (q_move rfl rfl) (Wt.plain rfl) rfl rfl ?_
  refine T.q (q_move rfl rfl) (Wt.plain rfl) rfl rfl ?_
  refine T.q (q_len sc52 rfl rfl) (Wt.plain rfl) rfl rfl ?_
  refine T.q (q_lss rfl rfl rfl) (Wt.plain rfl) rfl rfl ?_
  refine T.nil ?_
  refine Ex.next ?_
  refine W.slots (L' := [(0, _), (1, _), (5, _), (6, _), (11, _), (12, _), (42, _)]) ⟨rfl, rfl, rfl, rfl, rfl, rfl, rfl, trivial⟩ ?_
  refine W.cond _ rfl (fun hb5 => ?_) (fun hb5 => ?_)
  · replace hb5 := of_decide_eq_true hb5
    have him : i < ms.length := by omega
    have htki := htk _ (fmA_mem him)
    have hof := hfo _ (fsOf_mem him)
    have hsz := szE_yes hof
    have hwl := wr_le hof htki
    have hl1 := wrs_take_len (fsOf ms) i
    have hl2 := congrArg List.length (wrs_take him)
    rw [List.length_append] at hl2
    refine W.skip ?_
    refine Ex.next ?_
    refine W.slots (L' := [(0, _), (1, _), (5, _), (6, _), (11, _), (12, _)]) ⟨rfl, rfl, rfl, rfl, rfl, rfl, trivial⟩ ?_
    refine W.seq ?_
    refine W.block ?_
    refine W.region ?_
    refine T.q (q_move rfl rfl) (Wt.plain rfl) rfl rfl ?_
    refine T.q (q_move rfl rfl) (Wt.plain rfl) rfl rfl ?_
    refine T.q (q_move rfl rfl) (Wt.plain rfl) rfl rfl ?_
    refine T.q (q_ixE sc52 i (R_ext hL.ext) rfl rfl rfl (by omega) (by omega) (by rw [fcs_length ms htk]; omega)) (Wt.plain rfl) rfl rfl ?_
    refine T.q (q_loadW (wd59.trans (congrArg some (by first | (simp; done) | (simp; omega)))) (R_elem (R_ext hL.ext) (i * 13) 13 (show ((fcs ms).drop (i * 13)).take 13 = .int .i64 ((fmA ms i).f.k) :: (.int .i64 ((fmA ms i).f.a) :: (.int .i64 ((fmA ms i).f.l) :: (.slice ((fmA ms i).RA) ((fmA ms i).f.rs.length) ((fmA ms i).rc) :: (.slice ((fmA ms i).BA) ((fmA ms i).f.bs.length) ((fmA ms i).bc) :: (ints .u8 ((fmA ms i).f.tok)))))) from fcs_get ms _ htk (by omega))) rfl rfl) (Wt.plain rfl) rfl rfl ?_
    refine T.eff (e_call enters49 rfl rfl (fun w hm => fsize_spec (fmA ms i) (hMO _ (fmA_mem (show i < ms.length by omega))) w ((R_ext (hI _ (fmA_mem (show i < ms.length by omega))).1.ext) w hm) ((R_ext (hI _ (fmA_mem (show i < ms.length by omega))).2.ext) w hm)) rfl rfl) (Wt.plain rfl) ?_
    rintro _ _ ⟨_, _, ⟨rfl, rfl⟩, rfl, rfl⟩
    refine T.turn ?_
    change (_ : List Blk → Prop) (_ :: Bsx)
    refine T.q (q_int (b := (((wrs ((fsOf ms).take (i + 1))).length : Nat) : Int)) (q_addi rfl rfl rfl (by omega) (by omega)) ?hE) (Wt.plain rfl) rfl rfl ?_
    case hE => rw [hsz, hl2]; omega
    refine T.q (q_assign rfl rfl) (Wt.plain rfl) rfl rfl ?_
    refine T.nil ?_
    refine Ex.in_normal ?_
    refine Ex.next ?_
    refine W.slots (L' := [(0, _), (1, _), (5, _), (6, _), (11, _), (12, _)]) ⟨rfl, rfl, rfl, rfl, rfl, rfl, trivial⟩ ?_
    refine W.region ?_
    refine T.q (q_move rfl rfl) (Wt.plain rfl) rfl rfl ?_
    refine T.q (q_addi rfl rfl rfl (by omega) (by omega)) (Wt.plain rfl) rfl rfl ?_
    refine T.q (q_assign rfl rfl) (Wt.plain rfl) rfl rfl ?_
    refine T.nil ?_
    exact Ex.again [true] (i + 1) (by omega) (by omega) ⟨rfl, rfl, rfl, rfl, rfl, rfl, trivial⟩ rfl
  replace hb5 := of_decide_eq_false hb5
  obtain rfl : i = ms.length := by omega
  have htl : (wrs ((fsOf ms).take ms.length)).length = (encB (fsOf ms)).length := by rw [encB_ok he, List.take_of_length_le (by simp)]
  refine W.exit ?_
  refine Ex.then_exit ?_
  refine Ex.then_exit ?_
  refine Ex.in_here ?_
  refine Ex.next ?_
  refine W.slots (L' := [(1, _), (5, _), (6, _), (11, _)]) ⟨rfl, rfl, rfl, rfl, trivial⟩ ?_
  refine W.seq ?_
  refine W.region ?_
  refine T.q (q_move rfl rfl) (Wt.plain rfl) rfl rfl ?_
  refine T.q (q_move rfl rfl) (Wt.plain rfl) rfl rfl ?_
  refine T.q (q_len sc22 rfl rfl) (Wt.plain rfl) rfl rfl ?_
  refine T.q (q_bool (b := false) (q_neq rfl rfl rfl) (decide_eq_false (by omega))) (Wt.plain rfl) rfl rfl ?_
  refine T.sub (F' := []) (List.nil_sublist _) ?_
  refine T.nil ?_
  refine Ex.next ?_
  refine W.slots (L' := [(1, _), (5, _), (55, _)]) ⟨rfl, rfl, rfl, trivial⟩ ?_
  refine W.condF rfl ?_
  refine W.skip ?_
  refine Ex.next ?_
  refine W.slots (L' := [(1, _), (5, _)]) ⟨rfl, rfl, trivial⟩ ?_
  refine W.seq ?_
  refine W.region ?_
  refine T.q (q_move rfl rfl) (Wt.plain rfl) rfl rfl ?_
  refine T.eff (e_call enters46 rfl rfl (fun w hm => dec_no b (by first | omega | (simp; done) | (simp [-List.getD_eq_getElem?_getD]; omega) | (simp at *; omega) | rfl) _ _ (by first | omega | (simp; done) | (simp; omega) | (simp at *; omega)) (by first | omega | (simp; done) | (simp; omega) | (simp at *; omega)) hbb (hd) w ((R_ext hB.ext) w hm)) rfl rfl) (Wt.plain rfl) ?_
  rintro _ _ ⟨_, _, ⟨rfl, rfl⟩, rfl, rfl⟩
  change (_ : List Blk → Prop) []
  refine T.q (q_move rfl rfl) (Wt.plain rfl) rfl rfl ?_
  refine T.q (q_extract rfl rfl rfl) (Wt.plain rfl) rfl rfl ?_
  refine T.q (q_extract rfl rfl rfl) (Wt.plain rfl) rfl rfl ?_
  refine T.q (q_assign rfl rfl) (Wt.plain rfl) rfl rfl ?_
  refine T.q (q_assign rfl rfl) (Wt.plain rfl) rfl rfl ?_
  refine T.nil ?_
  refine Ex.next ?_
  refine W.slots (L' := [(1, _), (5, _), (13, _), (14, _)]) ⟨rfl, rfl, rfl, rfl, trivial⟩ ?_
  refine W.seq ?_
  refine W.seq ?_
  refine W.region ?_
  refine T.q (q_move rfl rfl) (Wt.plain rfl) rfl rfl ?_
  refine T.q (q_bool (b := true) (q_neq rfl rfl rfl) (decide_eq_true (dec_ne hd))) (Wt.plain rfl) rfl rfl ?_
  refine T.nil ?_
  refine Ex.next ?_
  refine W.slots (L' := [(1, _), (5, _), (13, _), (62, _)]) ⟨rfl, rfl, rfl, rfl, trivial⟩ ?_
  refine W.condT rfl ?_
  refine W.seq ?_
  refine W.region ?_
  refine T.q (q_move rfl rfl) (Wt.plain rfl) rfl rfl ?_
  refine T.q (q_assign rfl rfl) (Wt.plain rfl) rfl rfl ?_
  refine T.nil ?_
  refine Ex.next ?_
  refine W.slots (L' := [(4, _)]) ⟨rfl, trivial⟩ ?_
  refine W.ret ?_
  refine Ex.then_ret ?_
  refine Ex.out1 [] rfl rfl ?_
  exact ⟨rfl, rfl⟩
set_option maxRecDepth 100000 in
theorem fback_ny (ms : List Fm) (LA : Option Addr) (lc : Nat) (hlc : ms.length ≤ lc) (hMO : ∀ m ∈ ms, m.OK) (b : List Int) (BA : Option Addr) (bc : Nat) (hbc : b.length ≤ bc) (hbl : b.length ≤ 140737488351232) (hbb : Bytes b) (he : encE (fsOf ms) ≠ 0) (fs3 : List Frm) (hd : dec b = .ok fs3) (w0 : World) (hL : Reads w0 LA (fcs ms)) (hI : ∀ m ∈ ms, m.In w0) (hB : Reads w0 BA (ints .u8 b)) : Does Try.prog 18 #[.slice LA ms.length lc, .slice BA b.length bc] w0 [] (fun v G => v = .bool true ∧ G = []) := by
  have htk : ∀ m ∈ ms, m.f.tok.length = 8 := fun m hm => (hMO m hm).1
  have hml : (fsOf ms).length = ms.length := by simp
  obtain ⟨hw1, hw3, hw4, hw5⟩ := dec_was hbb hd
  have he3b : encE fs3 = 0 := encE_zero.2 ⟨hw1, fun f hf => (hw5 f hf).1, hw3 ▸ hw4⟩
  refine spec_of 81 Try.func18 rfl rfl rfl ?_
  refine W.seq ?_
  refine W.region ?_
  refine T.q (q_assign rfl rfl) (Wt.plain rfl) rfl rfl ?_
  refine T.nil ?_
  refine Ex.next ?_
  refine W.slots (L' := [(0, _), (1, _)]) ⟨rfl, rfl, trivial⟩ ?_
  refine W.seq ?_
  refine W.region ?_
  refine T.eff (e_call enters43 rfl rfl (fun w hm => shown10_spec w) rfl rfl) (Wt.plain rfl) ?_
  rintro _ _ ⟨_, _, ⟨rfl, rfl⟩, rfl, rfl⟩
  change (_ : List Blk → Prop) []
  refine T.q (q_assign rfl rfl) (Wt.plain rfl) rfl rfl ?_
  refine T.nil ?_
  refine Ex.next ?_
  refine W.slots (L' := [(0, _), (1, _), (5, _)]) ⟨rfl, rfl, rfl, trivial⟩ ?_
  refine W.seq ?_
  refine W.region ?_
  refine T.q (q_move rfl rfl) (Wt.plain rfl) rfl rfl ?_
  refine T.eff (e_call enters44 rfl rfl (fun w hm => enc_at ms rfl _ _ (by first | omega | (simp; done) | (simp; omega) | (simp at *; omega)) hMO (fs := (fsOf ms)) rfl w ((R_ext hL.ext) w hm) (ins_later hI hm)) rfl rfl) (Wt.plain rfl) ?_
  rintro _ _ ⟨_, _, ⟨k1, cap2, junk3, rfl, hc4, rfl⟩, rfl, rfl⟩
  change (_ : List Blk → Prop) [_]
  refine T.q (q_move rfl rfl) (Wt.plain rfl) rfl rfl ?_
  refine T.q (q_extract rfl rfl rfl) (Wt.plain rfl) rfl rfl ?_
  refine T.q (q_extract rfl rfl rfl) (Wt.plain rfl) rfl rfl ?_
  refine T.q (q_assign rfl rfl) (Wt.plain rfl) rfl rfl ?_
  refine T.q (q_assign rfl rfl) (Wt.plain rfl) rfl rfl ?_
  refine T.nil ?_
  refine Ex.next ?_
  refine W.slots (L' := [(0, _), (1, _), (5, _), (6, _), (7, _)]) ⟨rfl, rfl, rfl, rfl, rfl, trivial⟩ ?_
  refine W.seq ?_
  refine W.seq ?_
  refine W.region ?_
  refine T.q (q_move rfl rfl) (Wt.plain rfl) rfl rfl ?_
  refine T.q (q_bool (b := false) (q_eql rfl rfl rfl) (decide_eq_false he)) (Wt.plain rfl) rfl rfl ?_
  refine T.nil ?_
  refine Ex.next ?_
  refine W.slots (L' := [(0, _), (1, _), (5, _), (6, _), (24, _)]) ⟨rfl, rfl, rfl, rfl, rfl, trivial⟩ ?_
  refine W.condF rfl ?_
  refine W.skip ?_
  refine Ex.next ?_
  refine W.less (L' := [(1, _), (5, _)]) [false] ⟨rfl, rfl, trivial⟩ ?_
  change (_ : List Blk → Prop) []
  refine W.seq ?_
  refine W.region ?_
  refine T.q (q_move rfl rfl) (Wt.plain rfl) rfl rfl ?_
  refine T.eff (e_call enters46 rfl rfl (fun w hm => dec_yes b (by first | omega | (simp; done) | (simp [-List.getD_eq_getElem?_getD]; omega) | (simp at *; omega) | rfl) _ _ (by first | omega | (simp; done) | (simp; omega) | (simp at *; omega)) (by first | omega | (simp; done) | (simp; omega) | (simp at *; omega)) hbb (fs := fs3) hd w ((R_ext hB.ext) w hm)) rfl rfl) (Wt.plain rfl) ?_
  rintro _ _ ⟨_, _, ⟨msz, noz, capz, jkz, Bsz, hfsz, hokz, hcapz, rfl, hinz, rfl⟩, rfl, rfl⟩
  change (_ : List Blk → Prop) (_ :: Bsz)
  refine T.q (q_move rfl rfl) (Wt.plain rfl) rfl rfl ?_
  refine T.q (q_extract rfl rfl rfl) (Wt.plain rfl) rfl rfl ?_
  refine T.q (q_extract rfl rfl rfl) (Wt.plain rfl) rfl rfl ?_
  refine T.q (q_assign rfl rfl) (Wt.plain rfl) rfl rfl ?_
  refine T.q (q_assign rfl rfl) (Wt.plain rfl) rfl rfl ?_
  refine T.nil ?_
  refine Ex.next ?_
  refine W.slots (L' := [(1, _), (5, _), (13, _), (14, _)]) ⟨rfl, rfl, rfl, rfl, trivial⟩ ?_
  refine W.seq ?_
  refine W.seq ?_
  refine W.region ?_
  refine T.q (q_move rfl rfl) (Wt.plain rfl) rfl rfl ?_
  refine T.q (q_bool (b := false) (q_neq rfl rfl rfl) (decide_eq_false (by decide))) (Wt.plain rfl) rfl rfl ?_
  refine T.nil ?_
  refine Ex.next ?_
  refine W.slots (L' := [(1, _), (5, _), (13, _), (62, _)]) ⟨rfl, rfl, rfl, rfl, trivial⟩ ?_
  refine W.condF rfl ?_
  refine W.skip ?_
  refine Ex.next ?_
  refine W.slots (L' := [(1, _), (5, _), (13, _)]) ⟨rfl, rfl, rfl, trivial⟩ ?_
  refine W.seq ?_
  refine W.region ?_
  refine T.q (q_move rfl rfl) (Wt.plain rfl) rfl rfl ?_
  refine T.eff (e_call enters44 rfl rfl (fun w hm => enc_at msz rfl _ _ (by first | omega | (simp; done) | (simp; omega) | (simp at *; omega)) (fun m h => (hokz m h).1) (fs := fs3) hfsz w ((R_opre 0 rfl) w hm) (hinz w fun b hb => hm.has b (.tail _ (hb)))) rfl rfl) (Wt.plain rfl) ?_
  rintro _ _ ⟨_, _, ⟨k5, cap6, junk7, rfl, hc8, rfl⟩, rfl, rfl⟩
  refine T.turn ?_
  change (_ : List Blk → Prop) (_ :: _ :: Bsz)
  refine T.q (q_move rfl rfl) (Wt.plain rfl) rfl rfl ?_
  refine T.q (q_extract rfl rfl rfl) (Wt.plain rfl) rfl rfl ?_
  refine T.q (q_extract rfl rfl rfl) (Wt.plain rfl) rfl rfl ?_
  refine T.q (q_assign rfl rfl) (Wt.plain rfl) rfl rfl ?_
  refine T.q (q_assign rfl rfl) (Wt.plain rfl) rfl rfl ?_
  refine T.nil ?_
  refine Ex.next ?_
  refine W.less (L' := [(1, _), (5, _), (15, _), (16, _)]) [true, false] ⟨rfl, rfl, rfl, rfl, trivial⟩ ?_
  change (_ : List Blk → Prop) (_ :: Bsz)
  refine W.seq ?_
  refine W.region ?_
  refine T.q (q_move rfl rfl) (Wt.plain rfl) rfl rfl ?_
  refine T.q (q_move rfl rfl) (Wt.plain rfl) rfl rfl ?_
  refine T.q (q_move rfl rfl) (Wt.yes rfl rfl rfl) rfl rfl ?_
  refine T.q (q_bool (b := true) (q_eql rfl rfl rfl) ?hE) (Wt.yes rfl rfl rfl) rfl rfl ?_
  case hE => exact decide_eq_true he3b
  refine T.q (q_pickT rfl rfl rfl) (Wt.plain rfl) rfl rfl ?_
  refine T.q (q_move rfl rfl) (Wt.plain rfl) rfl rfl ?_
  refine T.q (q_move rfl rfl) (Wt.yes rfl rfl rfl) rfl rfl ?_
  refine T.q (q_bstr sc22 un5 un9 (R_opre 0 rfl) (by first | omega | (simp; done) | (simp [-List.getD_eq_getElem?_getD]; omega) | (simp at *; omega) | rfl) rfl rfl) (Wt.yes rfl rfl rfl) rfl rfl ?_
  refine T.q (q_move rfl rfl) (Wt.yes rfl rfl rfl) rfl rfl ?_
  refine T.q (q_bstr sc22 un5 un9 (R_ext hB.ext) (by first | omega | (simp; done) | (simp [-List.getD_eq_getElem?_getD]; omega) | (simp at *; omega) | rfl) rfl rfl) (Wt.yes rfl rfl rfl) rfl rfl ?_
  refine T.q (q_bool (b := true) (q_eqlS rfl rfl rfl) ?hE) (Wt.yes rfl rfl rfl) rfl rfl ?_
  case hE => rw [encB_ok he3b, ← hw3]; exact beq_self_eq_true _
  refine T.q (q_pickT rfl rfl rfl) (Wt.plain rfl) rfl rfl ?_
  refine T.q (q_assign rfl rfl) (Wt.plain rfl) rfl rfl ?_
  refine T.nil ?_
  refine Ex.next ?_
  refine W.less (L' := [(4, _)]) [false] ⟨rfl, trivial⟩ ?_
  change (_ : List Blk → Prop) (Bsz)
  refine W.ret ?_
  refine Ex.sub (F' := []) (List.nil_sublist _) ?_
  refine Ex.out1 [] rfl rfl ?_
  exact ⟨rfl, rfl⟩
set_option maxRecDepth 100000 in
theorem fback_nn (ms : List Fm) (LA : Option Addr) (lc : Nat) (hlc : ms.length ≤ lc) (hMO : ∀ m ∈ ms, m.OK) (b : List Int) (BA : Option Addr) (bc : Nat) (hbc : b.length ≤ bc) (hbl : b.length ≤ 140737488351232) (hbb : Bytes b) (he : encE (fsOf ms) ≠ 0) (e3 : Int) (hd : dec b = .error e3) (w0 : World) (hL : Reads w0 LA (fcs ms)) (hI : ∀ m ∈ ms, m.In w0) (hB : Reads w0 BA (ints .u8 b)) : Does Try.prog 18 #[.slice LA ms.length lc, .slice BA b.length bc] w0 [] (fun v G => v = .bool true ∧ G = []) := by
  have htk : ∀ m ∈ ms, m.f.tok.length = 8 := fun m hm => (hMO m hm).1
  have hml : (fsOf ms).length = ms.length := by simp
  refine spec_of 81 Try.func18 rfl rfl rfl ?_
  refine W.seq ?_
  refine W.region ?_
  refine T.q (q_assign rfl rfl) (Wt.plain rfl) rfl rfl ?_
  refine T.nil ?_
  refine Ex.next ?_
  refine W.slots (L' := [(0, _), (1, _)]) ⟨rfl, rfl, trivial⟩ ?_
  refine W.seq ?_
  refine W.region ?_
  refine T.eff (e_call enters43 rfl rfl (fun w hm => shown10_spec w) rfl rfl) (Wt.plain rfl) ?_
  rintro _ _ ⟨_, _, ⟨rfl, rfl⟩, rfl, rfl⟩
  change (_ : List Blk → Prop) []
  refine T.q (q_assign rfl rfl) (Wt.plain rfl) rfl rfl ?_
  refine T.nil ?_
  refine Ex.next ?_
  refine W.slots (L' := [(0, _), (1, _), (5, _)]) ⟨rfl, rfl, rfl, trivial⟩ ?_
  refine W.seq ?_
  refine W.region ?_
  refine T.q (q_move rfl rfl) (Wt.plain rfl) rfl rfl ?_
  refine T.eff (e_call enters44 rfl rfl (fun w hm => enc_at ms rfl _ _ (by first | omega | (simp; done) | (simp; omega) | (simp at *; omega)) hMO (fs := (fsOf ms)) rfl w ((R_ext hL.ext) w hm) (ins_later hI hm)) rfl rfl) (Wt.plain rfl) ?_
  rintro _ _ ⟨_, _, ⟨k1, cap2, junk3, rfl, hc4, rfl⟩, rfl, rfl⟩
  change (_ : List Blk → Prop) [_]
  refine T.q (q_move rfl rfl) (Wt.plain rfl) rfl rfl ?_
  refine T.q (q_extract rfl rfl rfl) (Wt.plain rfl) rfl rfl ?_
  refine T.q (q_extract rfl rfl rfl) (Wt.plain rfl) rfl rfl ?_
  refine T.q (q_assign rfl rfl) (Wt.plain rfl) rfl rfl ?_
  refine T.q (q_assign rfl rfl) (Wt.plain rfl) rfl rfl ?_
  refine T.nil ?_
  refine Ex.next ?_
  refine W.slots (L' := [(0, _), (1, _), (5, _), (6, _), (7, _)]) ⟨rfl, rfl, rfl, rfl, rfl, trivial⟩ ?_
  refine W.seq ?_
  refine W.seq ?_
  refine W.region ?_
  refine T.q (q_move rfl rfl) (Wt.plain rfl) rfl rfl ?_
  refine T.q (q_bool (b := false) (q_eql rfl rfl rfl) (decide_eq_false he)) (Wt.plain rfl) rfl rfl ?_
  refine T.nil ?_
  refine Ex.next ?_
  refine W.slots (L' := [(0, _), (1, _), (5, _), (6, _), (24, _)]) ⟨rfl, rfl, rfl, rfl, rfl, trivial⟩ ?_
  refine W.condF rfl ?_
  refine W.skip ?_
  refine Ex.next ?_
  refine W.less (L' := [(1, _), (5, _)]) [false] ⟨rfl, rfl, trivial⟩ ?_
  change (_ : List Blk → Prop) []
  refine W.seq ?_
  refine W.region ?_
  refine T.q (q_move rfl rfl) (Wt.plain rfl) rfl rfl ?_
  refine T.eff (e_call enters46 rfl rfl (fun w hm => dec_no b (by first | omega | (simp; done) | (simp [-List.getD_eq_getElem?_getD]; omega) | (simp at *; omega) | rfl) _ _ (by first | omega | (simp; done) | (simp; omega) | (simp at *; omega)) (by first | omega | (simp; done) | (simp; omega) | (simp at *; omega)) hbb (hd) w ((R_ext hB.ext) w hm)) rfl rfl) (Wt.plain rfl) ?_
  rintro _ _ ⟨_, _, ⟨rfl, rfl⟩, rfl, rfl⟩
  change (_ : List Blk → Prop) []
  refine T.q (q_move rfl rfl) (Wt.plain rfl) rfl rfl ?_
  refine T.q (q_extract rfl rfl rfl) (Wt.plain rfl) rfl rfl ?_
  refine T.q (q_extract rfl rfl rfl) (Wt.plain rfl) rfl rfl ?_
  refine T.q (q_assign rfl rfl) (Wt.plain rfl) rfl rfl ?_
  refine T.q (q_assign rfl rfl) (Wt.plain rfl) rfl rfl ?_
  refine T.nil ?_
  refine Ex.next ?_
  refine W.slots (L' := [(1, _), (5, _), (13, _), (14, _)]) ⟨rfl, rfl, rfl, rfl, trivial⟩ ?_
  refine W.seq ?_
  refine W.seq ?_
  refine W.region ?_
  refine T.q (q_move rfl rfl) (Wt.plain rfl) rfl rfl ?_
  refine T.q (q_bool (b := true) (q_neq rfl rfl rfl) (decide_eq_true (dec_ne hd))) (Wt.plain rfl) rfl rfl ?_
  refine T.nil ?_
  refine Ex.next ?_
  refine W.slots (L' := [(1, _), (5, _), (13, _), (62, _)]) ⟨rfl, rfl, rfl, rfl, trivial⟩ ?_
  refine W.condT rfl ?_
  refine W.seq ?_
  refine W.region ?_
  refine T.q (q_move rfl rfl) (Wt.plain rfl) rfl rfl ?_
  refine T.q (q_assign rfl rfl) (Wt.plain rfl) rfl rfl ?_
  refine T.nil ?_
  refine Ex.next ?_
  refine W.slots (L' := [(4, _)]) ⟨rfl, trivial⟩ ?_
  refine W.ret ?_
  refine Ex.then_ret ?_
  refine Ex.out1 [] rfl rfl ?_
  exact ⟨rfl, rfl⟩
theorem fback_law (ms : List Fm) (LA : Option Addr) (lc : Nat) (hlc : ms.length ≤ lc) (hMO : ∀ m ∈ ms, m.OK) (b : List Int) (BA : Option Addr) (bc : Nat) (hbc : b.length ≤ bc) (hbl : b.length ≤ 140737488351232) (hbb : Bytes b) (w0 : World) (hL : Reads w0 LA (fcs ms)) (hI : ∀ m ∈ ms, m.In w0) (hB : Reads w0 BA (ints .u8 b)) : Does Try.prog 18 #[.slice LA ms.length lc, .slice BA b.length bc] w0 [] (fun v G => v = .bool true ∧ G = []) := by
  by_cases he : encE (fsOf ms) = 0
  · cases hd : dec b with
    | ok fs => exact fback_yy ms LA lc hlc hMO b BA bc hbc hbl hbb he fs hd w0 hL hI hB
    | error e => exact fback_yn ms LA lc hlc hMO b BA bc hbc hbl hbb he e hd w0 hL hI hB
  · cases hd : dec b with
    | ok fs => exact fback_ny ms LA lc hlc hMO b BA bc hbc hbl hbb he fs hd w0 hL hI hB
    | error e => exact fback_nn ms LA lc hlc hMO b BA bc hbc hbl hbb he e hd w0 hL hI hB
end Go.Proofs.Ytmkjnefongjniaa
