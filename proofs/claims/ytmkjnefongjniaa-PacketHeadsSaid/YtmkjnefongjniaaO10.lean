/-
  What the document shows of layer 9.
-/
import Derived.Test.YtmkjnefongjniaaO9
import Derived.Test.YtmkjnefongjniaaO7
import Derived.Test.YtmkjnefongjniaaO8
namespace Go.Proofs.Ytmkjnefongjniaa
open Go Go.X
theorem putf_bad1_at (b : List Int) {m : Nat} (BA : Option Addr) (bc : Nat) (_hbc : m ≤ bc) (_hbl : m ≤ 140737488354000) (z u : Int) (hbad : u < 1 ∨ 7 < u ∨ z < 0) (w0 : World) (_hB : Reads w0 BA (ints .u8 b)) (hm : b.length = m) : Does Try.prog 30 #[.slice BA m bc, .int .i64 z, .int .i64 u] w0 [] (fun v G => v = .tuple #[.slice none 0 0, .int .i64 1] ∧ G = []) := by
  subst hm
  exact putf_bad1 b BA bc _hbc _hbl z u hbad w0 _hB
theorem refputf_bad1_at (b : List Int) {m : Nat} (BA : Option Addr) (bc : Nat) (_hbc : m ≤ bc) (_hbl : m ≤ 140737488354000) (z u : Int) (hbad : u < 1 ∨ 7 < u ∨ z < 0) (w0 : World) (_hB : Reads w0 BA (ints .u8 b)) (hm : b.length = m) : Does Try.prog 31 #[.slice BA m bc, .int .i64 z, .int .i64 u] w0 [] (fun v G => v = .tuple #[.slice none 0 0, .int .i64 1] ∧ G = []) := by
  subst hm
  exact refputf_bad1 b BA bc _hbc _hbl z u hbad w0 _hB
theorem putf_bad2_at (b : List Int) {m : Nat} (BA : Option Addr) (bc : Nat) (_hbc : m ≤ bc) (_hbl : m ≤ 140737488354000) (n : Nat) (hn : n < 9223372036854775808) (s : Nat) (hs1 : 1 ≤ s) (hs7 : s ≤ 7) (hge : 256 ^ s ≤ n) (w0 : World) (_hB : Reads w0 BA (ints .u8 b)) (hm : b.length = m) : Does Try.prog 30 #[.slice BA m bc, .int .i64 ((n : Nat) : Int), .int .i64 ((s : Nat) : Int)] w0 [] (fun v G => v = .tuple #[.slice none 0 0, .int .i64 1] ∧ G = []) := by
  subst hm
  exact putf_bad2 b BA bc _hbc _hbl n hn s hs1 hs7 hge w0 _hB
theorem refputf_bad2_at (b : List Int) {m : Nat} (BA : Option Addr) (bc : Nat) (_hbc : m ≤ bc) (_hbl : m ≤ 140737488354000) (n : Nat) (_hn : n < 9223372036854775808) (s : Nat) (hs1 : 1 ≤ s) (hs7 : s ≤ 7) (hge : 256 ^ s ≤ n) (w0 : World) (_hB : Reads w0 BA (ints .u8 b)) (hm : b.length = m) : Does Try.prog 31 #[.slice BA m bc, .int .i64 ((n : Nat) : Int), .int .i64 ((s : Nat) : Int)] w0 [] (fun v G => v = .tuple #[.slice none 0 0, .int .i64 1] ∧ G = []) := by
  subst hm
  exact refputf_bad2 b BA bc _hbc _hbl n _hn s hs1 hs7 hge w0 _hB
theorem putf_at (b : List Int) {m : Nat} (BA : Option Addr) (bc : Nat) (hbc : m ≤ bc) (hbl : m ≤ 140737488354000) (n : Nat) (hn : n < 9223372036854775808) (s : Nat) (hs1 : 1 ≤ s) (hs7 : s ≤ 7) (hlt : n < 256 ^ s) (w0 : World) (hB : Reads w0 BA (ints .u8 b)) (hm : b.length = m) : Does Try.prog 30 #[.slice BA m bc, .int .i64 ((n : Nat) : Int), .int .i64 ((s : Nat) : Int)] w0 [] (fun v G => ∃ (k cap : Nat) (junk : List Value), v = .tuple #[.slice (some ⟨k, 0, none⟩) (m + s) cap, .int .i64 0] ∧ m + s + junk.length = cap ∧ G = [⟨some k, ints .u8 (b ++ bigS n s) ++ junk, 5, (0, 0)⟩]) := by
  subst hm
  exact putf_spec0 b BA bc hbc hbl n hn s hs1 hs7 hlt w0 hB
theorem refputf_at (b : List Int) {m : Nat} (BA : Option Addr) (bc : Nat) (_hbc : m ≤ bc) (hbl : m ≤ 140737488354000) (n : Nat) (hn : n < 9223372036854775808) (s : Nat) (hs1 : 1 ≤ s) (hs7 : s ≤ 7) (hlt : n < 256 ^ s) (w0 : World) (hB : Reads w0 BA (ints .u8 b)) (hm : b.length = m) : Does Try.prog 31 #[.slice BA m bc, .int .i64 ((n : Nat) : Int), .int .i64 ((s : Nat) : Int)] w0 [] (fun v G => ∃ (k cap : Nat) (junk : List Value), v = .tuple #[.slice (some ⟨k, 0, none⟩) (0 + m + s) cap, .int .i64 0] ∧ 0 + m + s + junk.length = cap ∧ G = [⟨some k, ints .u8 (b ++ bigS n s) ++ junk, 5, (0, 0)⟩]) := by
  subst hm
  exact refputf_spec0 b BA bc _hbc hbl n hn s hs1 hs7 hlt w0 hB
theorem takef_bad1_at (b : List Int) {m : Nat} (BA : Option Addr) (bc : Nat) (_hbc : m ≤ bc) (_hbl : m ≤ 140737488354000) (u : Int) (hbad : u < 1 ∨ 7 < u) (w0 : World) (_hB : Reads w0 BA (ints .u8 b)) (hm : b.length = m) : Does Try.prog 28 #[.slice BA m bc, .int .i64 u] w0 [] (fun v G => v = .tuple #[.int .i64 0, .slice none 0 0, .int .i64 1] ∧ G = []) := by
  subst hm
  exact takef_bad1 b BA bc _hbc _hbl u hbad w0 _hB
theorem reftakef_bad1_at (b : List Int) {m : Nat} (BA : Option Addr) (bc : Nat) (_hbc : m ≤ bc) (_hbl : m ≤ 140737488354000) (u : Int) (hbad : u < 1 ∨ 7 < u) (w0 : World) (_hB : Reads w0 BA (ints .u8 b)) (hm : b.length = m) : Does Try.prog 29 #[.slice BA m bc, .int .i64 u] w0 [] (fun v G => v = .tuple #[.int .i64 0, .slice none 0 0, .int .i64 1] ∧ G = []) := by
  subst hm
  exact reftakef_bad1 b BA bc _hbc _hbl u hbad w0 _hB
theorem takef_bad2_at (b : List Int) {m : Nat} (BA : Option Addr) (bc : Nat) (_hbc : m ≤ bc) (_hbl : m ≤ 140737488354000) (s : Nat) (hs1 : 1 ≤ s) (hs7 : s ≤ 7) (hlt : m < s) (w0 : World) (_hB : Reads w0 BA (ints .u8 b)) (hm : b.length = m) : Does Try.prog 28 #[.slice BA m bc, .int .i64 ((s : Nat) : Int)] w0 [] (fun v G => v = .tuple #[.int .i64 0, .slice none 0 0, .int .i64 3] ∧ G = []) := by
  subst hm
  exact takef_bad2 b BA bc _hbc _hbl s hs1 hs7 hlt w0 _hB
theorem reftakef_bad2_at (b : List Int) {m : Nat} (BA : Option Addr) (bc : Nat) (_hbc : m ≤ bc) (_hbl : m ≤ 140737488354000) (s : Nat) (hs1 : 1 ≤ s) (hs7 : s ≤ 7) (hlt : m < s) (w0 : World) (_hB : Reads w0 BA (ints .u8 b)) (hm : b.length = m) : Does Try.prog 29 #[.slice BA m bc, .int .i64 ((s : Nat) : Int)] w0 [] (fun v G => v = .tuple #[.int .i64 0, .slice none 0 0, .int .i64 3] ∧ G = []) := by
  subst hm
  exact reftakef_bad2 b BA bc _hbc _hbl s hs1 hs7 hlt w0 _hB
theorem takef_at (b : List Int) {m : Nat} (BA : Option Addr) (bc : Nat) (hbc : m ≤ bc) (hbl : m ≤ 140737488354000) (hbb : Bytes b) (s : Nat) (hs1 : 1 ≤ s) (hs7 : s ≤ 7) (hle : s ≤ m) (w0 : World) (hB : Reads w0 BA (ints .u8 b)) (hm : b.length = m) : Does Try.prog 28 #[.slice BA m bc, .int .i64 ((s : Nat) : Int)] w0 [] (fun v G => ∃ (no : Option Nat) (cap : Nat) (junk : List Value), v = .tuple #[.int .i64 ((valS (b.take s) : Nat) : Int), .slice (no.map fun k => (⟨k, 0, none⟩ : Addr)) (m - s) cap, .int .i64 0] ∧ m - s + junk.length = cap ∧ G = [⟨no, ints .u8 (b.drop s) ++ junk, 5, (0, 0)⟩]) := by
  subst hm
  exact takef_spec0 b BA bc hbc hbl hbb s hs1 hs7 hle w0 hB
theorem reftakef_at (b : List Int) {m : Nat} (BA : Option Addr) (bc : Nat) (_hbc : m ≤ bc) (hbl : m ≤ 140737488354000) (hbb : Bytes b) (s : Nat) (hs1 : 1 ≤ s) (hs7 : s ≤ 7) (hle : s ≤ m) (w0 : World) (hB : Reads w0 BA (ints .u8 b)) (hm : b.length = m) : Does Try.prog 29 #[.slice BA m bc, .int .i64 ((s : Nat) : Int)] w0 [] (fun v G => ∃ (k cap : Nat) (junk : List Value), v = .tuple #[.int .i64 ((valS (b.take s) : Nat) : Int), .slice (some ⟨k, 0, none⟩) (0 + (m - s)) cap, .int .i64 0] ∧ 0 + (m - s) + junk.length = cap ∧ G = [⟨some k, ints .u8 (b.drop s) ++ junk, 5, (0, 0)⟩]) := by
  subst hm
  exact reftakef_spec0 b BA bc _hbc hbl hbb s hs1 hs7 hle w0 hB
theorem putb_at (b : List Int) {m : Nat} (BA : Option Addr) (bc : Nat) (hbc : m ≤ bc) (hbl : m ≤ 140737488351232) (tx : List Int) (TA : Option Addr) (tc : Nat) (_htc : tx.length ≤ tc) (htl : tx.length ≤ 140737488351232) (hsum : m + tx.length ≤ 140737488353000) (w0 : World) (hB : Reads w0 BA (ints .u8 b)) (hT : Reads w0 TA (ints .u8 tx)) (hm : b.length = m) : Does Try.prog 23 #[.slice BA m bc, .slice TA tx.length tc] w0 [] (fun v G => ∃ (k cap : Nat) (junk : List Value), v = .tuple #[.slice (some ⟨k, 0, none⟩) ((m + 2 ^ kd tx.length) + tx.length) cap, .int .i64 0] ∧ (m + 2 ^ kd tx.length) + tx.length + junk.length = cap ∧ G = [⟨some k, ints .u8 (b ++ putV tx.length ++ tx) ++ junk, 5, (0, 0)⟩]) := by
  subst hm
  exact putb_spec0 b BA bc hbc hbl tx TA tc _htc htl hsum w0 hB hT
theorem refputb_at (b : List Int) {m : Nat} (BA : Option Addr) (bc : Nat) (hbc : m ≤ bc) (hbl : m ≤ 140737488351232) (tx : List Int) (TA : Option Addr) (tc : Nat) (_htc : tx.length ≤ tc) (htl : tx.length ≤ 140737488351232) (hsum : m + tx.length ≤ 140737488353000) (w0 : World) (hB : Reads w0 BA (ints .u8 b)) (hT : Reads w0 TA (ints .u8 tx)) (hm : b.length = m) : Does Try.prog 24 #[.slice BA m bc, .slice TA tx.length tc] w0 [] (fun v G => ∃ (k cap : Nat) (junk : List Value), v = .tuple #[.slice (some ⟨k, 0, none⟩) ((0 + m + 2 ^ kd tx.length) + tx.length) cap, .int .i64 0] ∧ (0 + m + 2 ^ kd tx.length) + tx.length + junk.length = cap ∧ G = [⟨some k, ints .u8 (b ++ putV tx.length ++ tx) ++ junk, 5, (0, 0)⟩]) := by
  subst hm
  exact refputb_spec0 b BA bc hbc hbl tx TA tc _htc htl hsum w0 hB hT
theorem takeb_at (b : List Int) {m : Nat} (BA : Option Addr) (bc : Nat) (hbc : m ≤ bc) (hbl : m ≤ 140737488354000) (hbb : Bytes b) (z : Int) (ho : takeOk b = true) (hle : ((tv b : Nat) : Int) ≤ z) (henough : tv b ≤ m - 2 ^ tk b) (w0 : World) (hB : Reads w0 BA (ints .u8 b)) (hm : b.length = m) : Does Try.prog 25 #[.slice BA m bc, .int .i64 z] w0 [] (fun v G => ∃ (no : Option Nat) (cap : Nat) (junk : List Value), v = .tuple #[.slice (no.map fun k => (⟨k, 0, none⟩ : Addr)) (tv b) (tv b), .slice (cut (no.map fun k => (⟨k, 0, none⟩ : Addr)) cap (tv b)) (m - 2 ^ tk b - tv b) (cap - tv b), .int .i64 0] ∧ m - 2 ^ tk b + junk.length = cap ∧ G = [⟨no, ints .u8 (b.drop (2 ^ tk b)) ++ junk, 5, (0, 0)⟩]) := by
  subst hm
  exact takeb_spec0 b BA bc hbc hbl hbb z ho hle henough w0 hB
theorem reftakeb_at (b : List Int) {m : Nat} (BA : Option Addr) (bc : Nat) (hbc : m ≤ bc) (hbl : m ≤ 140737488354000) (hbb : Bytes b) (z : Int) (ho : takeOk b = true) (hle : ((tv b : Nat) : Int) ≤ z) (henough : tv b ≤ m - 2 ^ tk b) (w0 : World) (hB : Reads w0 BA (ints .u8 b)) (hm : b.length = m) : Does Try.prog 26 #[.slice BA m bc, .int .i64 z] w0 [] (fun v G => ∃ (k cap : Nat) (junk : List Value) (k2 cap2 : Nat) (junk2 : List Value), v = .tuple #[.slice (some ⟨k, 0, none⟩) (0 + tv b) cap, .slice (some ⟨k2, 0, none⟩) (0 + (0 + (m - 2 ^ tk b) - tv b)) cap2, .int .i64 0] ∧ G = [⟨some k, ints .u8 ((b.drop (2 ^ tk b)).take (tv b)) ++ junk, 5, (0, 0)⟩, ⟨some k2, ints .u8 ((b.drop (2 ^ tk b)).drop (tv b)) ++ junk2, 5, (0, 0)⟩]) := by
  subst hm
  exact reftakeb_spec0 b BA bc hbc hbl hbb z ho hle henough w0 hB
theorem takeb_bad1_at (b : List Int) {m : Nat} (BA : Option Addr) (bc : Nat) (hbc : m ≤ bc) (hbl : m ≤ 140737488354000) (hbb : Bytes b) (z : Int) (hbad : takeOk b = false) (w0 : World) (hB : Reads w0 BA (ints .u8 b)) (hm : b.length = m) : Does Try.prog 25 #[.slice BA m bc, .int .i64 z] w0 [] (fun v G => v = .tuple #[.slice none 0 0, .slice none 0 0, .int .i64 (tbE b z)] ∧ G = []) := by
  subst hm
  exact takeb_bad1 b BA bc hbc hbl hbb z hbad w0 hB
theorem takeb_bad2_at (b : List Int) {m : Nat} (BA : Option Addr) (bc : Nat) (hbc : m ≤ bc) (hbl : m ≤ 140737488354000) (hbb : Bytes b) (z : Int) (ho : takeOk b = true) (hbig : z < ((tv b : Nat) : Int)) (w0 : World) (hB : Reads w0 BA (ints .u8 b)) (hm : b.length = m) : Does Try.prog 25 #[.slice BA m bc, .int .i64 z] w0 [] (fun v G => v = .tuple #[.slice none 0 0, .slice none 0 0, .int .i64 (tbE b z)] ∧ G = []) := by
  subst hm
  exact takeb_bad2 b BA bc hbc hbl hbb z ho hbig w0 hB
theorem takeb_bad3_at (b : List Int) {m : Nat} (BA : Option Addr) (bc : Nat) (hbc : m ≤ bc) (hbl : m ≤ 140737488354000) (hbb : Bytes b) (z : Int) (ho : takeOk b = true) (hfew : m - 2 ^ tk b < tv b) (hle : ((tv b : Nat) : Int) ≤ z) (w0 : World) (hB : Reads w0 BA (ints .u8 b)) (hm : b.length = m) : Does Try.prog 25 #[.slice BA m bc, .int .i64 z] w0 [] (fun v G => v = .tuple #[.slice none 0 0, .slice none 0 0, .int .i64 (tbE b z)] ∧ G = []) := by
  subst hm
  exact takeb_bad3 b BA bc hbc hbl hbb z ho hfew hle w0 hB
theorem reftakeb_bad1_at (b : List Int) {m : Nat} (BA : Option Addr) (bc : Nat) (hbc : m ≤ bc) (hbl : m ≤ 140737488354000) (hbb : Bytes b) (z : Int) (hbad : takeOk b = false) (w0 : World) (hB : Reads w0 BA (ints .u8 b)) (hm : b.length = m) : Does Try.prog 26 #[.slice BA m bc, .int .i64 z] w0 [] (fun v G => v = .tuple #[.slice none 0 0, .slice none 0 0, .int .i64 (tbE b z)] ∧ G = []) := by
  subst hm
  exact reftakeb_bad1 b BA bc hbc hbl hbb z hbad w0 hB
theorem reftakeb_bad2_at (b : List Int) {m : Nat} (BA : Option Addr) (bc : Nat) (hbc : m ≤ bc) (hbl : m ≤ 140737488354000) (hbb : Bytes b) (z : Int) (ho : takeOk b = true) (hbig : z < ((tv b : Nat) : Int)) (w0 : World) (hB : Reads w0 BA (ints .u8 b)) (hm : b.length = m) : Does Try.prog 26 #[.slice BA m bc, .int .i64 z] w0 [] (fun v G => v = .tuple #[.slice none 0 0, .slice none 0 0, .int .i64 (tbE b z)] ∧ G = []) := by
  subst hm
  exact reftakeb_bad2 b BA bc hbc hbl hbb z ho hbig w0 hB
theorem reftakeb_bad3_at (b : List Int) {m : Nat} (BA : Option Addr) (bc : Nat) (hbc : m ≤ bc) (hbl : m ≤ 140737488354000) (hbb : Bytes b) (z : Int) (ho : takeOk b = true) (hfew : m - 2 ^ tk b < tv b) (hle : ((tv b : Nat) : Int) ≤ z) (w0 : World) (hB : Reads w0 BA (ints .u8 b)) (hm : b.length = m) : Does Try.prog 26 #[.slice BA m bc, .int .i64 z] w0 [] (fun v G => v = .tuple #[.slice none 0 0, .slice none 0 0, .int .i64 (tbE b z)] ∧ G = []) := by
  subst hm
  exact reftakeb_bad3 b BA bc hbc hbl hbb z ho hfew hle w0 hB

set_option maxRecDepth 100000 in
theorem shown09_spec (w0 : World) : Does Try.prog 19 #[] w0 [] (fun v G => v = .bool true ∧ G = []) := by
  have hk8 := pow_kd_le 16384
  refine spec_of 110 Try.func19 rfl rfl rfl ?_
  refine W.seq ?_
  refine W.region ?_
  refine T.q (q_assign rfl rfl) (Wt.plain rfl) rfl rfl ?_
  refine T.nil ?_
  refine Ex.next ?_
  refine W.slots (L' := []) trivial ?_
  refine W.seq ?_
  refine W.region ?_
  refine T.eff (e_call enters20 rfl rfl (fun w hm => put_at [] _ _ (by first | omega | (simp; done) | (simp; omega) | (simp at *; omega)) (by first | omega | (simp; done) | (simp; omega) | (simp at *; omega)) 16384 (by first | omega | (simp; done) | (simp; omega) | (simp at *; omega)) w ((R_nilI .u8) w hm) (by first | omega | (simp; done) | (simp [-List.getD_eq_getElem?_getD]; omega) | (simp at *; omega) | rfl)) rfl rfl) (Wt.plain rfl) ?_
  rintro _ _ ⟨_, _, ⟨k1, cap2, junk3, rfl, hc4, rfl⟩, rfl, rfl⟩
  change (_ : List Blk → Prop) [_]
  refine T.q (q_move rfl rfl) (Wt.plain rfl) rfl rfl ?_
  refine T.q (q_extract rfl rfl rfl) (Wt.plain rfl) rfl rfl ?_
  refine T.q (q_extract rfl rfl rfl) (Wt.plain rfl) rfl rfl ?_
  refine T.q (q_assign rfl rfl) (Wt.plain rfl) rfl rfl ?_
  refine T.q (q_assign rfl rfl) (Wt.plain rfl) rfl rfl ?_
  refine T.nil ?_
  refine Ex.next ?_
  refine W.slots (L' := [(1, _), (2, _)]) ⟨rfl, rfl, trivial⟩ ?_
  refine W.seq ?_
  refine W.region ?_
  refine T.eff (e_litA sc22 ze5 rfl rfl rfl (by simp [Value.cells]) rfl rfl rfl) (Wt.plain rfl) ?_
  rintro _ _ ⟨k5, rfl, rfl⟩
  change (_ : List Blk → Prop) [_, _]
  refine T.eff (e_call enters22 rfl rfl (fun w hm => take_bad_at [64, 63] _ _ (by first | omega | (simp; done) | (simp; omega) | (simp at *; omega)) (by first | omega | (simp; done) | (simp; omega) | (simp at *; omega)) (by intro x hx; simp at hx; omega) (by decide +kernel) w ((R_blk 1 rfl) w hm) (by first | omega | (simp; done) | (simp [-List.getD_eq_getElem?_getD]; omega) | (simp at *; omega) | rfl)) rfl rfl) (Wt.plain rfl) ?_
  rintro _ _ ⟨_, _, ⟨rfl, rfl⟩, rfl, rfl⟩
  change (_ : List Blk → Prop) [_, _]
  refine T.q (q_move rfl rfl) (Wt.plain rfl) rfl rfl ?_
  refine T.q (q_extract rfl rfl rfl) (Wt.plain rfl) rfl rfl ?_
  refine T.q (q_extract rfl rfl rfl) (Wt.plain rfl) rfl rfl ?_
  refine T.q (q_extract rfl rfl rfl) (Wt.plain rfl) rfl rfl ?_
  refine T.q (q_assign rfl rfl) (Wt.plain rfl) rfl rfl ?_
  refine T.q (q_assign rfl rfl) (Wt.plain rfl) rfl rfl ?_
  refine T.q (q_assign rfl rfl) (Wt.plain rfl) rfl rfl ?_
  refine T.nil ?_
  refine Ex.next ?_
  refine W.less (L' := [(1, _), (2, _), (5, _)]) [true, false] ⟨rfl, rfl, rfl, trivial⟩ ?_
  change (_ : List Blk → Prop) [_]
  refine W.seq ?_
  refine W.region ?_
  refine T.eff (e_litA sc22 ze5 rfl rfl rfl (by simp [Value.cells]) rfl rfl rfl) (Wt.plain rfl) ?_
  rintro _ _ ⟨k6, rfl, rfl⟩
  change (_ : List Blk → Prop) [_, _]
  refine T.eff (e_call enters22 rfl rfl (fun w hm => take_at [5, 6] _ _ (by first | omega | (simp; done) | (simp; omega) | (simp at *; omega)) (by first | omega | (simp; done) | (simp; omega) | (simp at *; omega)) (by intro x hx; simp at hx; omega) (by decide +kernel) w ((R_blk 1 rfl) w hm) (by first | omega | (simp; done) | (simp [-List.getD_eq_getElem?_getD]; omega) | (simp at *; omega) | rfl)) rfl rfl) (Wt.plain rfl) ?_
  rintro _ _ ⟨_, _, ⟨k7, cap8, junk9, rfl, hc10, rfl⟩, rfl, rfl⟩
  change (_ : List Blk → Prop) [_, _, _]
  refine T.q (q_move rfl rfl) (Wt.plain rfl) rfl rfl ?_
  refine T.q (q_extract rfl rfl rfl) (Wt.plain rfl) rfl rfl ?_
  refine T.q (q_extract rfl rfl rfl) (Wt.plain rfl) rfl rfl ?_
  refine T.q (q_extract rfl rfl rfl) (Wt.plain rfl) rfl rfl ?_
  refine T.q (q_assign rfl rfl) (Wt.plain rfl) rfl rfl ?_
  refine T.q (q_assign rfl rfl) (Wt.plain rfl) rfl rfl ?_
  refine T.q (q_assign rfl rfl) (Wt.plain rfl) rfl rfl ?_
  refine T.nil ?_
  refine Ex.next ?_
  refine W.less (L' := [(1, _), (2, _), (5, _), (6, _), (7, _), (8, _)]) [true, false, true] ⟨rfl, rfl, rfl, rfl, rfl, rfl, trivial⟩ ?_
  change (_ : List Blk → Prop) [_, _]
  refine W.seq ?_
  refine W.region ?_
  refine T.eff (e_call enters30 rfl rfl (fun w hm => putf_bad2_at [] _ _ (by first | omega | (simp; done) | (simp; omega) | (simp at *; omega)) (by first | omega | (simp; done) | (simp; omega) | (simp at *; omega)) 256 (by first | omega | (simp; done) | (simp; omega) | (simp at *; omega)) 1 (by first | omega | (simp; done) | (simp; omega) | (simp at *; omega)) (by first | omega | (simp; done) | (simp; omega) | (simp at *; omega)) (by decide) w ((R_nilI .u8) w hm) (by first | omega | (simp; done) | (simp [-List.getD_eq_getElem?_getD]; omega) | (simp at *; omega) | rfl)) rfl rfl) (Wt.plain rfl) ?_
  rintro _ _ ⟨_, _, ⟨rfl, rfl⟩, rfl, rfl⟩
  change (_ : List Blk → Prop) [_, _]
  refine T.q (q_move rfl rfl) (Wt.plain rfl) rfl rfl ?_
  refine T.q (q_extract rfl rfl rfl) (Wt.plain rfl) rfl rfl ?_
  refine T.q (q_extract rfl rfl rfl) (Wt.plain rfl) rfl rfl ?_
  refine T.q (q_assign rfl rfl) (Wt.plain rfl) rfl rfl ?_
  refine T.q (q_assign rfl rfl) (Wt.plain rfl) rfl rfl ?_
  refine T.nil ?_
  refine Ex.next ?_
  refine W.slots (L' := [(1, _), (2, _), (5, _), (6, _), (7, _), (8, _), (10, _)]) ⟨rfl, rfl, rfl, rfl, rfl, rfl, rfl, trivial⟩ ?_
  refine W.seq ?_
  refine W.region ?_
  refine T.eff (e_call enters30 rfl rfl (fun w hm => putf_at [] _ _ (by first | omega | (simp; done) | (simp; omega) | (simp at *; omega)) (by first | omega | (simp; done) | (simp; omega) | (simp at *; omega)) 258 (by first | omega | (simp; done) | (simp; omega) | (simp at *; omega)) 2 (by first | omega | (simp; done) | (simp; omega) | (simp at *; omega)) (by first | omega | (simp; done) | (simp; omega) | (simp at *; omega)) (by decide) w ((R_nilI .u8) w hm) (by first | omega | (simp; done) | (simp [-List.getD_eq_getElem?_getD]; omega) | (simp at *; omega) | rfl)) rfl rfl) (Wt.plain rfl) ?_
  rintro _ _ ⟨_, _, ⟨k11, cap12, junk13, rfl, hc14, rfl⟩, rfl, rfl⟩
  change (_ : List Blk → Prop) [_, _, _]
  refine T.q (q_move rfl rfl) (Wt.plain rfl) rfl rfl ?_
  refine T.q (q_extract rfl rfl rfl) (Wt.plain rfl) rfl rfl ?_
  refine T.q (q_extract rfl rfl rfl) (Wt.plain rfl) rfl rfl ?_
  refine T.q (q_assign rfl rfl) (Wt.plain rfl) rfl rfl ?_
  refine T.q (q_assign rfl rfl) (Wt.plain rfl) rfl rfl ?_
  refine T.nil ?_
  refine Ex.next ?_
  refine W.slots (L' := [(1, _), (2, _), (5, _), (6, _), (7, _), (8, _), (10, _), (11, _), (12, _)]) ⟨rfl, rfl, rfl, rfl, rfl, rfl, rfl, rfl, rfl, trivial⟩ ?_
  refine W.seq ?_
  refine W.region ?_
  refine T.eff (e_litA sc22 ze5 rfl rfl rfl (by simp [Value.cells]) rfl rfl rfl) (Wt.plain rfl) ?_
  rintro _ _ ⟨k15, rfl, rfl⟩
  change (_ : List Blk → Prop) [_, _, _, _]
  refine T.eff (e_call enters25 rfl rfl (fun w hm => takeb_at [2, 97, 98, 99] _ _ (by first | omega | (simp; done) | (simp; omega) | (simp at *; omega)) (by first | omega | (simp; done) | (simp; omega) | (simp at *; omega)) (by intro x hx; simp at hx; omega) 9 (by decide +kernel) (by decide +kernel) (by decide +kernel) w ((R_blk 3 rfl) w hm) (by first | omega | (simp; done) | (simp [-List.getD_eq_getElem?_getD]; omega) | (simp at *; omega) | rfl)) rfl rfl) (Wt.plain rfl) ?_
  rintro _ _ ⟨_, _, ⟨k16, cap17, junk18, rfl, hc19, rfl⟩, rfl, rfl⟩
  change (_ : List Blk → Prop) [_, _, _, _, _]
  refine T.q (q_move rfl rfl) (Wt.plain rfl) rfl rfl ?_
  refine T.q (q_extract rfl rfl rfl) (Wt.plain rfl) rfl rfl ?_
  refine T.q (q_extract rfl rfl rfl) (Wt.plain rfl) rfl rfl ?_
  refine T.q (q_extract rfl rfl rfl) (Wt.plain rfl) rfl rfl ?_
  refine T.q (q_assign rfl rfl) (Wt.plain rfl) rfl rfl ?_
  refine T.q (q_assign rfl rfl) (Wt.plain rfl) rfl rfl ?_
  refine T.q (q_assign rfl rfl) (Wt.plain rfl) rfl rfl ?_
  refine T.nil ?_
  refine Ex.next ?_
  refine W.less (L' := [(1, _), (2, _), (5, _), (6, _), (7, _), (8, _), (10, _), (11, _), (12, _), (13, _), (14, _), (15, _)]) [true, true, true, false, true] ⟨rfl, rfl, rfl, rfl, rfl, rfl, rfl, rfl, rfl, rfl, rfl, rfl, trivial⟩ ?_
  change (_ : List Blk → Prop) [_, _, _, _]
  refine W.seq ?_
  refine W.region ?_
  refine T.eff (e_litA sc22 ze5 rfl rfl rfl (by simp [Value.cells]) rfl rfl rfl) (Wt.plain rfl) ?_
  rintro _ _ ⟨k20, rfl, rfl⟩
  change (_ : List Blk → Prop) [_, _, _, _, _]
  refine T.eff (e_call enters25 rfl rfl (fun w hm => takeb_bad2_at [2, 97, 98] _ _ (by first | omega | (simp; done) | (simp; omega) | (simp at *; omega)) (by first | omega | (simp; done) | (simp; omega) | (simp at *; omega)) (by intro x hx; simp at hx; omega) 1 (by decide +kernel) (by decide +kernel) w ((R_blk 4 rfl) w hm) (by first | omega | (simp; done) | (simp [-List.getD_eq_getElem?_getD]; omega) | (simp at *; omega) | rfl)) rfl rfl) (Wt.plain rfl) ?_
  rintro _ _ ⟨_, _, ⟨rfl, rfl⟩, rfl, rfl⟩
  change (_ : List Blk → Prop) [_, _, _, _, _]
  refine T.q (q_move rfl rfl) (Wt.plain rfl) rfl rfl ?_
  refine T.q (q_extract rfl rfl rfl) (Wt.plain rfl) rfl rfl ?_
  refine T.q (q_extract rfl rfl rfl) (Wt.plain rfl) rfl rfl ?_
  refine T.q (q_extract rfl rfl rfl) (Wt.plain rfl) rfl rfl ?_
  refine T.q (q_assign rfl rfl) (Wt.plain rfl) rfl rfl ?_
  refine T.q (q_assign rfl rfl) (Wt.plain rfl) rfl rfl ?_
  refine T.q (q_assign rfl rfl) (Wt.plain rfl) rfl rfl ?_
  refine T.nil ?_
  refine Ex.next ?_
  refine W.less (L' := [(1, _), (2, _), (5, _), (6, _), (7, _), (8, _), (10, _), (11, _), (12, _), (13, _), (14, _), (15, _), (18, _)]) [true, true, true, true, false] ⟨rfl, rfl, rfl, rfl, rfl, rfl, rfl, rfl, rfl, rfl, rfl, rfl, rfl, trivial⟩ ?_
  change (_ : List Blk → Prop) [_, _, _, _]
  refine W.seq ?_
  refine W.region ?_
  refine T.q (q_move rfl rfl) (Wt.plain rfl) rfl rfl ?_
  refine T.q (q_bstr sc22 un5 un9 (R_pre 0 rfl) (by first | omega | (simp; done) | (simp [-List.getD_eq_getElem?_getD]; omega) | (simp at *; omega) | rfl) rfl rfl) (Wt.plain rfl) rfl rfl ?_
  refine T.q (q_bool (b := true) (q_eqlS rfl rfl rfl) ?hE) (Wt.plain rfl) rfl rfl ?_
  case hE => decide +kernel
  refine T.q (q_move rfl rfl) (Wt.plain rfl) rfl rfl ?_
  refine T.q (q_move rfl rfl) (Wt.yes rfl rfl rfl) rfl rfl ?_
  refine T.q (q_bool (b := true) (q_eql rfl rfl rfl) (decide_eq_true rfl)) (Wt.yes rfl rfl rfl) rfl rfl ?_
  refine T.q (q_pickT rfl rfl rfl) (Wt.plain rfl) rfl rfl ?_
  refine T.q (q_move rfl rfl) (Wt.plain rfl) rfl rfl ?_
  refine T.q (q_move rfl rfl) (Wt.yes rfl rfl rfl) rfl rfl ?_
  refine T.q (q_bool (b := true) (q_eql rfl rfl rfl) ?hE) (Wt.yes rfl rfl rfl) rfl rfl ?_
  case hE => decide +kernel
  refine T.q (q_pickT rfl rfl rfl) (Wt.plain rfl) rfl rfl ?_
  refine T.q (q_move rfl rfl) (Wt.plain rfl) rfl rfl ?_
  refine T.q (q_move rfl rfl) (Wt.yes rfl rfl rfl) rfl rfl ?_
  refine T.q (q_bool (b := true) (q_eql rfl rfl rfl) ?hE) (Wt.yes rfl rfl rfl) rfl rfl ?_
  case hE => decide +kernel
  refine T.q (q_pickT rfl rfl rfl) (Wt.plain rfl) rfl rfl ?_
  refine T.q (q_move rfl rfl) (Wt.plain rfl) rfl rfl ?_
  refine T.q (q_move rfl rfl) (Wt.yes rfl rfl rfl) rfl rfl ?_
  refine T.q (q_bstr sc22 un5 un9 (R_opre 1 rfl) (by first | omega | (simp; done) | (simp [-List.getD_eq_getElem?_getD]; omega) | (simp at *; omega) | rfl) rfl rfl) (Wt.yes rfl rfl rfl) rfl rfl ?_
  refine T.q (q_bool (b := true) (q_eqlS rfl rfl rfl) ?hE) (Wt.yes rfl rfl rfl) rfl rfl ?_
  case hE => decide +kernel
  refine T.q (q_pickT rfl rfl rfl) (Wt.plain rfl) rfl rfl ?_
  refine T.q (q_move rfl rfl) (Wt.plain rfl) rfl rfl ?_
  refine T.q (q_move rfl rfl) (Wt.yes rfl rfl rfl) rfl rfl ?_
  refine T.q (q_bool (b := true) (q_eql rfl rfl rfl) (decide_eq_true rfl)) (Wt.yes rfl rfl rfl) rfl rfl ?_
  refine T.q (q_pickT rfl rfl rfl) (Wt.plain rfl) rfl rfl ?_
  refine T.q (q_move rfl rfl) (Wt.plain rfl) rfl rfl ?_
  refine T.q (q_move rfl rfl) (Wt.yes rfl rfl rfl) rfl rfl ?_
  refine T.q (q_bool (b := true) (q_eql rfl rfl rfl) (decide_eq_true rfl)) (Wt.yes rfl rfl rfl) rfl rfl ?_
  refine T.q (q_pickT rfl rfl rfl) (Wt.plain rfl) rfl rfl ?_
  refine T.q (q_move rfl rfl) (Wt.plain rfl) rfl rfl ?_
  refine T.q (q_move rfl rfl) (Wt.yes rfl rfl rfl) rfl rfl ?_
  refine T.q (q_bstr sc22 un5 un9 (R_pre 2 rfl) (by first | omega | (simp; done) | (simp [-List.getD_eq_getElem?_getD]; omega) | (simp at *; omega) | rfl) rfl rfl) (Wt.yes rfl rfl rfl) rfl rfl ?_
  refine T.q (q_bool (b := true) (q_eqlS rfl rfl rfl) ?hE) (Wt.yes rfl rfl rfl) rfl rfl ?_
  case hE => decide +kernel
  refine T.q (q_pickT rfl rfl rfl) (Wt.plain rfl) rfl rfl ?_
  refine T.q (q_move rfl rfl) (Wt.plain rfl) rfl rfl ?_
  refine T.q (q_move rfl rfl) (Wt.yes rfl rfl rfl) rfl rfl ?_
  refine T.q (q_bool (b := true) (q_eql rfl rfl rfl) (decide_eq_true rfl)) (Wt.yes rfl rfl rfl) rfl rfl ?_
  refine T.q (q_pickT rfl rfl rfl) (Wt.plain rfl) rfl rfl ?_
  refine T.q (q_move rfl rfl) (Wt.plain rfl) rfl rfl ?_
  refine T.q (q_move rfl rfl) (Wt.yes rfl rfl rfl) rfl rfl ?_
  refine T.q (q_bstr sc22 un5 un9 (R_takeI (R_opre 3 rfl) (tv [2, 97, 98, 99])) (by first | omega | (simp; done) | (simp [-List.getD_eq_getElem?_getD]; omega) | (simp at *; omega) | rfl) rfl rfl) (Wt.yes rfl rfl rfl) rfl rfl ?_
  refine T.q (q_bool (b := true) (q_eqlS rfl rfl rfl) ?hE) (Wt.yes rfl rfl rfl) rfl rfl ?_
  case hE => decide +kernel
  refine T.q (q_pickT rfl rfl rfl) (Wt.plain rfl) rfl rfl ?_
  refine T.q (q_move rfl rfl) (Wt.plain rfl) rfl rfl ?_
  refine T.q (q_move rfl rfl) (Wt.yes rfl rfl rfl) rfl rfl ?_
  refine T.q (q_bstr sc22 un5 un9 (R_cutI (R_opre 3 rfl) (by first | omega | (simp; done) | (simp [-List.getD_eq_getElem?_getD]; omega) | (simp at *; omega) | rfl)) (by first | omega | (simp; done) | (simp [-List.getD_eq_getElem?_getD]; omega) | (simp at *; omega) | rfl) rfl rfl) (Wt.yes rfl rfl rfl) rfl rfl ?_
  refine T.q (q_bool (b := true) (q_eqlS rfl rfl rfl) ?hE) (Wt.yes rfl rfl rfl) rfl rfl ?_
  case hE => decide +kernel
  refine T.q (q_pickT rfl rfl rfl) (Wt.plain rfl) rfl rfl ?_
  refine T.q (q_move rfl rfl) (Wt.plain rfl) rfl rfl ?_
  refine T.q (q_move rfl rfl) (Wt.yes rfl rfl rfl) rfl rfl ?_
  refine T.q (q_bool (b := true) (q_eql rfl rfl rfl) (decide_eq_true rfl)) (Wt.yes rfl rfl rfl) rfl rfl ?_
  refine T.q (q_pickT rfl rfl rfl) (Wt.plain rfl) rfl rfl ?_
  refine T.q (q_move rfl rfl) (Wt.plain rfl) rfl rfl ?_
  refine T.q (q_move rfl rfl) (Wt.yes rfl rfl rfl) rfl rfl ?_
  refine T.q (q_bool (b := true) (q_eql rfl rfl rfl) ?hE) (Wt.yes rfl rfl rfl) rfl rfl ?_
  case hE => decide +kernel
  refine T.q (q_pickT rfl rfl rfl) (Wt.plain rfl) rfl rfl ?_
  refine T.q (q_assign rfl rfl) (Wt.plain rfl) rfl rfl ?_
  refine T.nil ?_
  refine Ex.next ?_
  refine W.less (L' := [(0, _)]) [false, false, false, false] ⟨rfl, trivial⟩ ?_
  change (_ : List Blk → Prop) []
  refine W.ret ?_
  refine Ex.out1 [] rfl rfl ?_
  exact ⟨rfl, rfl⟩

end Go.Proofs.Ytmkjnefongjniaa
