/-
  The walks of layer 10: numbers are laid behind; a frame is written.
-/
import Derived.Test.YtmkjnefongjniaaHF
import Derived.Test.YtmkjnefongjniaaO9
namespace Go.Proofs.Ytmkjnefongjniaa
open Go Go.X
theorem putb_at (b : List Int) {m : Nat} (BA : Option Addr) (bc : Nat) (hbc : m ≤ bc) (hbl : m ≤ 140737488351232) (tx : List Int) (TA : Option Addr) (tc : Nat) (_htc : tx.length ≤ tc) (htl : tx.length ≤ 140737488351232) (hsum : m + tx.length ≤ 140737488353000) (w0 : World) (hB : Reads w0 BA (ints .u8 b)) (hT : Reads w0 TA (ints .u8 tx)) (hm : b.length = m) : Does Try.prog 23 #[.slice BA m bc, .slice TA tx.length tc] w0 [] (fun v G => ∃ (k cap : Nat) (junk : List Value), v = .tuple #[.slice (some ⟨k, 0, none⟩) ((m + 2 ^ kd tx.length) + tx.length) cap, .int .i64 0] ∧ (m + 2 ^ kd tx.length) + tx.length + junk.length = cap ∧ G = [⟨some k, ints .u8 (b ++ putV tx.length ++ tx) ++ junk, 5, (0, 0)⟩]) := by
  subst hm
  exact putb_spec0 b BA bc hbc hbl tx TA tc _htc htl hsum w0 hB hT
theorem takeb_at (b : List Int) {m : Nat} (BA : Option Addr) (bc : Nat) (hbc : m ≤ bc) (hbl : m ≤ 140737488354000) (hbb : Bytes b) (z : Int) (ho : takeOk b = true) (hle : ((tv b : Nat) : Int) ≤ z) (henough : tv b ≤ m - 2 ^ tk b) (w0 : World) (hB : Reads w0 BA (ints .u8 b)) (hm : b.length = m) : Does Try.prog 25 #[.slice BA m bc, .int .i64 z] w0 [] (fun v G => ∃ (no : Option Nat) (cap : Nat) (junk : List Value), v = .tuple #[.slice (no.map fun k => (⟨k, 0, none⟩ : Addr)) (tv b) (tv b), .slice (cut (no.map fun k => (⟨k, 0, none⟩ : Addr)) cap (tv b)) (m - 2 ^ tk b - tv b) (cap - tv b), .int .i64 0] ∧ m - 2 ^ tk b + junk.length = cap ∧ G = [⟨no, ints .u8 (b.drop (2 ^ tk b)) ++ junk, 5, (0, 0)⟩]) := by
  subst hm
  exact takeb_spec0 b BA bc hbc hbl hbb z ho hle henough w0 hB
theorem takeb_bad1_at (b : List Int) {m : Nat} (BA : Option Addr) (bc : Nat) (hbc : m ≤ bc) (hbl : m ≤ 140737488354000) (hbb : Bytes b) (z : Int) (hbad : takeOk b = false) (w0 : World) (hB : Reads w0 BA (ints .u8 b)) (hm : b.length = m) : Does Try.prog 25 #[.slice BA m bc, .int .i64 z] w0 [] (fun v G => v = .tuple #[.slice none 0 0, .slice none 0 0, .int .i64 (tbE b z)] ∧ G = []) := by
  subst hm
  exact takeb_bad1 b BA bc hbc hbl hbb z hbad w0 hB
theorem takeb_bad2_at (b : List Int) {m : Nat} (BA : Option Addr) (bc : Nat) (hbc : m ≤ bc) (hbl : m ≤ 140737488354000) (hbb : Bytes b) (z : Int) (ho : takeOk b = true) (hbig : z < ((tv b : Nat) : Int)) (w0 : World) (hB : Reads w0 BA (ints .u8 b)) (hm : b.length = m) : Does Try.prog 25 #[.slice BA m bc, .int .i64 z] w0 [] (fun v G => v = .tuple #[.slice none 0 0, .slice none 0 0, .int .i64 (tbE b z)] ∧ G = []) := by
  subst hm
  exact takeb_bad2 b BA bc hbc hbl hbb z ho hbig w0 hB
theorem takeb_bad3_at (b : List Int) {m : Nat} (BA : Option Addr) (bc : Nat) (hbc : m ≤ bc) (hbl : m ≤ 140737488354000) (hbb : Bytes b) (z : Int) (ho : takeOk b = true) (hfew : m - 2 ^ tk b < tv b) (hle : ((tv b : Nat) : Int) ≤ z) (w0 : World) (hB : Reads w0 BA (ints .u8 b)) (hm : b.length = m) : Does Try.prog 25 #[.slice BA m bc, .int .i64 z] w0 [] (fun v G => v = .tuple #[.slice none 0 0, .slice none 0 0, .int .i64 (tbE b z)] ∧ G = []) := by
  subst hm
  exact takeb_bad3 b BA bc hbc hbl hbb z ho hfew hle w0 hB
set_option maxRecDepth 100000 in
theorem nums_spec0 (ns : List Nat) (NA : Option Addr) (nc : Nat) (hns : ∀ n ∈ ns, n < 4611686018427387904) (hn8 : ns.length ≤ 8) (xs : List Int) (js : List Value) (no : Option Nat) (bk cp : Nat) (hl : xs.length + js.length = cp) (hx : xs.length ≤ 140737488350000) (w0 : World) (hb : (⟨some bk, [.slice (no.map fun k => (⟨k, 0, none⟩ : Addr)) xs.length cp], 22, (0, 0)⟩ : Blk).here w0) (hc : (⟨no, ints .u8 xs ++ js, 5, (0, 0)⟩ : Blk).here w0) (hne : no ≠ some bk) (hN : Ext w0 (bk :: no.toList) NA (ints .i64 (ns.map fun n => ((n : Nat) : Int)))) : Does Try.prog 74 #[.slice NA ns.length nc, .pointer (some ⟨bk, 0, none⟩)] w0 (bk :: no.toList) (fun v G => ∃ (nk : Option Nat) (cap : Nat) (junk : List Value), v = .tuple #[] ∧ (xs ++ pv ns).length + junk.length = cap ∧ G = [⟨some bk, [.slice (nk.map fun k => (⟨k, 0, none⟩ : Addr)) (xs ++ pv ns).length cap], 22, (0, 0)⟩, ⟨nk, ints .u8 (xs ++ pv ns) ++ junk, 5, (0, 0)⟩]) := by
  refine spec_ofB 18 [⟨some bk, [.slice (no.map fun k => (⟨k, 0, none⟩ : Addr)) xs.length cp], 22, (0, 0)⟩, ⟨no, ints .u8 xs ++ js, 5, (0, 0)⟩] (Mem.own2 rfl rfl hb hc hne) Try.func74 rfl rfl rfl ?_
  refine W.seq ?_
  refine W.region ?_
  refine T.q (q_move rfl rfl) (Wt.plain rfl) rfl rfl ?_
  refine T.q (q_len sc89 rfl rfl) (Wt.plain rfl) rfl rfl ?_
  refine T.q (q_move rfl rfl) (Wt.plain rfl) rfl rfl ?_
  refine T.nil ?_
  refine Ex.next ?_
  refine W.slots (L' := [(1, _), (5, _), (6, _), (7, _)]) ⟨rfl, rfl, rfl, rfl, trivial⟩ ?_
  refine W.block ?_
  refine W.loop (α := Nat × Nat × List Int × Option Nat × Nat × List Value) (fun x_ => [(1, .pointer (some ⟨bk, 0, none⟩)), (5, .slice NA ns.length nc), (6, .int .i64 ((ns.length : Nat) : Int)), (7, .int .i64 ((x_.1 : Nat) : Int))]) (fun x_ => [⟨some bk, [.slice (x_.2.2.2.1.map fun k => (⟨k, 0, none⟩ : Addr)) x_.2.1 x_.2.2.2.2.1], 22, (0, 0)⟩, ⟨x_.2.2.2.1, ints .u8 x_.2.2.1 ++ x_.2.2.2.2.2, 5, (0, 0)⟩]) (fun x_ => x_.1 ≤ ns.length ∧ x_.2.2.1 = xs ++ pv (ns.take x_.1) ∧ x_.2.1 = x_.2.2.1.length ∧ x_.2.1 + x_.2.2.2.2.2.length = x_.2.2.2.2.1 ∧ x_.2.1 ≤ xs.length + 8 * x_.1) (fun x_ => ns.length - x_.1) [true, true] (⟨0, xs.length, xs, no, cp, js⟩) ⟨Nat.zero_le _, (by simp [pv]), rfl, hl, Nat.le_refl _⟩ ⟨rfl, rfl, rfl, rfl, trivial⟩ rfl ?_
  rintro ⟨i, ln, zs, nk, cq, jq⟩ hinv
  try dsimp only at hinv
  conv => rhs; dsimp only
  conv => arg -2; dsimp only
  obtain ⟨hi, hz, hln, hcq, hle⟩ := hinv
  refine W.seq ?_
  refine W.region ?_
  refine T.q (q_lss rfl rfl rfl) (Wt.plain rfl) rfl rfl ?_
  refine T.nil ?_
  refine Ex.next ?_
  refine W.slots (L' := [(1, _), (5, _), (6, _), (7, _), (8, _)]) ⟨rfl, rfl, rfl, rfl, rfl, trivial⟩ ?_
  refine W.seq ?_
  refine W.cond _ rfl (fun hb1 => ?_) (fun hb1 => ?_)
  · replace hb1 := of_decide_eq_true hb1
    have hin : i < ns.length := by omega
    have hnb : ns.getD i 0 < 4611686018427387904 := hns _ (by rw [List.getD_eq_getElem?_getD, List.getElem?_eq_getElem hin]; exact List.getElem_mem hin)
    have hk8 := pow_kd_le (ns.getD i 0)
    refine W.skip ?_
    refine Ex.next ?_
    refine W.slots (L' := [(1, _), (5, _), (6, _), (7, _)]) ⟨rfl, rfl, rfl, rfl, trivial⟩ ?_
    refine W.seq ?_
    refine W.block ?_
    refine W.seq ?_
    refine W.region ?_
    refine T.q (q_ixE1 sc89 i (R_ext hN) rfl rfl rfl (by omega) (by omega) (by first | omega | (simp; done) | (simp [-List.getD_eq_getElem?_getD]; omega))) (Wt.plain rfl) rfl rfl ?_
    refine T.q (q_int (b := (((ns.getD i 0) : Nat) : Int)) (q_loadE ss3 (R_ext hN) rfl rfl (ints_get (by first | omega | (simp; done) | (simp [-List.getD_eq_getElem?_getD]; omega)))) (nums_get hin)) (Wt.plain rfl) rfl rfl ?_
    refine T.q (q_assign rfl rfl) (Wt.plain rfl) rfl rfl ?_
    refine T.nil ?_
    refine Ex.next ?_
    refine W.slots (L' := [(1, _), (4, _), (5, _), (6, _), (7, _)]) ⟨rfl, rfl, rfl, rfl, rfl, trivial⟩ ?_
    refine W.region ?_
    refine T.q (q_load1 ss22 0 rfl rfl rfl rfl) (Wt.plain rfl) rfl rfl ?_
    refine T.q (q_move rfl rfl) (Wt.plain rfl) rfl rfl ?_
    refine T.eff (e_call enters20 rfl rfl (fun w hm => put_at zs _ _ (by first | omega | (simp; done) | (simp; omega) | (simp at *; omega)) (by first | omega | (simp; done) | (simp; omega) | (simp at *; omega)) (ns.getD i 0) (by first | omega | (simp; done) | (simp; omega) | (simp at *; omega)) w ((R_opre 1 rfl) w hm) (by first | omega | (simp; done) | (simp [-List.getD_eq_getElem?_getD]; omega) | (simp at *; omega) | rfl)) rfl rfl) (Wt.plain rfl) ?_
    rintro _ _ ⟨_, _, ⟨k2, cap3, junk4, rfl, hc5, rfl⟩, rfl, rfl⟩
    change (_ : List Blk → Prop) [_, _, _]
    refine T.q (q_move rfl rfl) (Wt.plain rfl) rfl rfl ?_
    refine T.q (q_extract rfl rfl rfl) (Wt.plain rfl) rfl rfl ?_
    refine T.q (q_extract rfl rfl rfl) (Wt.plain rfl) rfl rfl ?_
    refine T.eff (e_store1 ss22 0 rfl rfl rfl rfl (by simp) rfl rfl) (Wt.plain rfl) ?_
    rintro _ _ ⟨rfl, rfl⟩
    change (_ : List Blk → Prop) [_, _, _]
    refine T.nil ?_
    refine Ex.in_normal ?_
    refine Ex.next ?_
    refine W.slots (L' := [(1, _), (5, _), (6, _), (7, _)]) ⟨rfl, rfl, rfl, rfl, trivial⟩ ?_
    refine W.region ?_
    refine T.q (q_addi rfl rfl rfl (by omega) (by omega)) (Wt.plain rfl) rfl rfl ?_
    refine T.q (q_move rfl rfl) (Wt.plain rfl) rfl rfl ?_
    refine T.nil ?_
    exact Ex.again [true, false, true] (⟨i + 1, ln + 2 ^ kd (ns.getD i 0), zs ++ putV (ns.getD i 0), some k2, cap3, junk4⟩ : Nat × Nat × List Int × Option Nat × Nat × List Value) (by dsimp only; omega) ⟨by dsimp only; omega, (by dsimp only; rw [hz, pv_take hin, List.append_assoc]), (by dsimp only; rw [List.length_append, putV_length, hln]), by dsimp only; omega, by dsimp only; omega⟩ ⟨rfl, rfl, rfl, rfl, trivial⟩ (by first | (dsimp only [pick]; done) | rfl)
  replace hb1 := of_decide_eq_false hb1
  obtain rfl : i = ns.length := by omega
  refine W.exit ?_
  refine Ex.then_exit ?_
  refine Ex.then_exit ?_
  refine Ex.in_here ?_
  refine Ex.end0 [true, true] rfl ?_
  rw [List.take_length] at hz
  subst hz
  subst hln
  exact ⟨_, _, _, rfl, hcq, rfl⟩
theorem nums1 (a : Nat) (ha : a < 4611686018427387904) (xs : List Int) {m : Nat} (hxm : xs.length = m) (js : List Value) (no : Option Nat) (bk cp : Nat) (hl : m + js.length = cp) (hx : m ≤ 140737488350000) (w0 : World) (hb : (⟨some bk, [.slice (no.map fun k => (⟨k, 0, none⟩ : Addr)) m cp], 22, (0, 0)⟩ : Blk).here w0) (hc : (⟨no, ints .u8 xs ++ js, 5, (0, 0)⟩ : Blk).here w0)
    (hne : no ≠ some bk) (NA : Option Addr) (nc : Nat) (hN : Ext w0 (bk :: no.toList) NA (ints .i64 ([a].map fun n => ((n : Nat) : Int)))) : Does Try.prog 74 #[.slice NA 1 nc, .pointer (some ⟨bk, 0, none⟩)] w0 (bk :: no.toList)
    (fun v G => ∃ (nk : Option Nat) (cap : Nat) (junk : List Value), v = .tuple #[] ∧ m + 2 ^ kd a + junk.length = cap ∧ G = [⟨some bk, [.slice (nk.map fun k => (⟨k, 0, none⟩ : Addr)) (m + 2 ^ kd a) cap], 22, (0, 0)⟩, ⟨nk, ints .u8 (xs ++ putV a) ++ junk, 5, (0, 0)⟩]) := by
  subst hxm
  refine (nums_spec0 [a] NA nc (by simp; omega) (by simp) xs js no bk cp hl hx w0 hb hc hne hN).mono ?_
  rintro v G ⟨nk, cap, junk, rfl, h, rfl⟩
  have e : xs ++ pv [a] = xs ++ putV a := by simp [pv]
  rw [e] at h ⊢
  have e2 : (xs ++ putV a).length = xs.length + 2 ^ kd a := by simp
  rw [e2] at h ⊢
  exact ⟨_, _, _, rfl, h, rfl⟩
theorem nums2 (a b : Nat) (ha : a < 4611686018427387904) (hb2 : b < 4611686018427387904) (xs : List Int) {m : Nat} (hxm : xs.length = m) (js : List Value) (no : Option Nat) (bk cp : Nat) (hl : m + js.length = cp) (hx : m ≤ 140737488350000) (w0 : World) (hb : (⟨some bk, [.slice (no.map fun k => (⟨k, 0, none⟩ : Addr)) m cp], 22, (0, 0)⟩ : Blk).here w0) (hc : (⟨no, ints .u8 xs ++ js, 5, (0, 0)⟩ : Blk).here w0)
    (hne : no ≠ some bk) (NA : Option Addr) (nc : Nat) (hN : Ext w0 (bk :: no.toList) NA (ints .i64 ([a, b].map fun n => ((n : Nat) : Int)))) : Does Try.prog 74 #[.slice NA 2 nc, .pointer (some ⟨bk, 0, none⟩)] w0 (bk :: no.toList)
    (fun v G => ∃ (nk : Option Nat) (cap : Nat) (junk : List Value), v = .tuple #[] ∧ m + 2 ^ kd a + 2 ^ kd b + junk.length = cap ∧ G = [⟨some bk, [.slice (nk.map fun k => (⟨k, 0, none⟩ : Addr)) (m + 2 ^ kd a + 2 ^ kd b) cap], 22, (0, 0)⟩, ⟨nk, ints .u8 (xs ++ (putV a ++ putV b)) ++ junk, 5, (0, 0)⟩]) := by
  subst hxm
  refine (nums_spec0 [a, b] NA nc (by simp; omega) (by simp) xs js no bk cp hl hx w0 hb hc hne hN).mono ?_
  rintro v G ⟨nk, cap, junk, rfl, h, rfl⟩
  have e : xs ++ pv [a, b] = xs ++ (putV a ++ putV b) := by simp [pv]
  rw [e] at h ⊢
  have e2 : (xs ++ (putV a ++ putV b)).length = xs.length + 2 ^ kd a + 2 ^ kd b := by simp; omega
  rw [e2] at h ⊢
  exact ⟨_, _, _, rfl, h, rfl⟩
theorem nums3 (a b c : Nat) (ha : a < 4611686018427387904) (hb2 : b < 4611686018427387904) (hc2 : c < 4611686018427387904) (xs : List Int) {m : Nat} (hxm : xs.length = m) (js : List Value) (no : Option Nat) (bk cp : Nat) (hl : m + js.length = cp) (hx : m ≤ 140737488350000) (w0 : World) (hb : (⟨some bk, [.slice (no.map fun k => (⟨k, 0, none⟩ : Addr)) m cp], 22, (0, 0)⟩ : Blk).here w0) (hc : (⟨no, ints .u8 xs ++ js, 5, (0, 0)⟩ : Blk).here w0)
    (hne : no ≠ some bk) (NA : Option Addr) (nc : Nat) (hN : Ext w0 (bk :: no.toList) NA (ints .i64 ([a, b, c].map fun n => ((n : Nat) : Int)))) : Does Try.prog 74 #[.slice NA 3 nc, .pointer (some ⟨bk, 0, none⟩)] w0 (bk :: no.toList)
    (fun v G => ∃ (nk : Option Nat) (cap : Nat) (junk : List Value), v = .tuple #[] ∧ m + 2 ^ kd a + 2 ^ kd b + 2 ^ kd c + junk.length = cap ∧ G = [⟨some bk, [.slice (nk.map fun k => (⟨k, 0, none⟩ : Addr)) (m + 2 ^ kd a + 2 ^ kd b + 2 ^ kd c) cap], 22, (0, 0)⟩, ⟨nk, ints .u8 (xs ++ (putV a ++ (putV b ++ putV c))) ++ junk, 5, (0, 0)⟩]) := by
  subst hxm
  refine (nums_spec0 [a, b, c] NA nc (by simp; omega) (by simp) xs js no bk cp hl hx w0 hb hc hne hN).mono ?_
  rintro v G ⟨nk, cap, junk, rfl, h, rfl⟩
  have e : xs ++ pv [a, b, c] = xs ++ (putV a ++ (putV b ++ putV c)) := by simp [pv]
  rw [e] at h ⊢
  have e2 : (xs ++ (putV a ++ (putV b ++ putV c))).length = xs.length + 2 ^ kd a + 2 ^ kd b + 2 ^ kd c := by simp; omega
  rw [e2] at h ⊢
  exact ⟨_, _, _, rfl, h, rfl⟩
set_option maxRecDepth 100000 in
theorem wr_1 (xs : List Int) (js : List Value) (no : Option Nat) (cp : Nat) (hl : xs.length + js.length = cp) (hx : xs.length ≤ 140737488340000) (a : Nat) (ha : a < 4611686018427387904) (rs : List (Int × Int)) (bs tok : List Int) (RA BA : Option Addr) (rc bc : Nat) (hb128 : bs.length ≤ 128) (hbc : bs.length ≤ bc) (w0 : World) (hc : (⟨no, ints .u8 xs ++ js, 5, (0, 0)⟩ : Blk).here w0) (hB : Ext w0 no.toList BA (ints .u8 bs)) : Does Try.prog 60 #[.slice (no.map fun k => (⟨k, 0, none⟩ : Addr)) xs.length cp, .agg (.int .i64 1 :: (.int .i64 ((a : Nat) : Int) :: (.int .i64 0 :: (.slice RA rs.length rc :: (.slice BA bs.length bc :: (ints .u8 tok)))))).toArray] w0 no.toList (fun v G => ∃ (nk : Option Nat) (cap : Nat) (junk : List Value), v = .slice (nk.map fun k => (⟨k, 0, none⟩ : Addr)) (xs.length + (wr ⟨1, ((a : Nat) : Int), 0, rs, bs, tok⟩).length) cap ∧ xs.length + (wr ⟨1, ((a : Nat) : Int), 0, rs, bs, tok⟩).length + junk.length = cap ∧ G = [⟨nk, ints .u8 (xs ++ wr ⟨1, ((a : Nat) : Int), 0, rs, bs, tok⟩) ++ junk, 5, (0, 0)⟩]) := by
  have hka := pow_kd_le a
  have hkb := pow_kd_le bs.length
  refine spec_ofB 94 [⟨no, ints .u8 xs ++ js, 5, (0, 0)⟩] (Mem.ownO hc) Try.func60 rfl rfl rfl ?_
  refine W.seq ?_
  refine W.region ?_
  refine T.eff (e_box rfl rfl rfl rfl) (Wt.plain rfl) ?_
  rintro _ _ ⟨k1, rfl, rfl⟩
  change (_ : List Blk → Prop) [_, _]
  change (_ : List Blk → Prop) [_, ⟨some k1, [.slice (no.map fun k => (⟨k, 0, none⟩ : Addr)) xs.length cp], 22, (0, 0)⟩]
  refine T.eff (e_box rfl rfl rfl rfl) (Wt.plain rfl) ?_
  rintro _ _ ⟨k2, rfl, rfl⟩
  change (_ : List Blk → Prop) [_, _, _]
  change (_ : List Blk → Prop) [_, _, ⟨some k2, .int .i64 1 :: (.int .i64 ((a : Nat) : Int) :: (.int .i64 0 :: (.slice RA rs.length rc :: (.slice BA bs.length bc :: (ints .u8 tok))))), 59, (0, 0)⟩]
  refine T.q (q_assign rfl rfl) (Wt.plain rfl) rfl rfl ?_
  refine T.nil ?_
  refine Ex.next ?_
  refine W.slots (L' := [(2, _), (3, _)]) ⟨rfl, rfl, trivial⟩ ?_
  refine W.seq ?_
  refine W.region ?_
  refine T.q (q_func (first := []) rfl rfl rfl) (Wt.plain rfl) rfl rfl ?_
  refine T.q (q_assign rfl rfl) (Wt.plain rfl) rfl rfl ?_
  refine T.nil ?_
  refine Ex.next ?_
  refine W.slots (L' := [(2, _), (3, _), (5, _)]) ⟨rfl, rfl, rfl, trivial⟩ ?_
  refine W.seq ?_
  refine W.region ?_
  refine T.q (q_load1 ss22 1 rfl rfl rfl rfl) (Wt.plain rfl) rfl rfl ?_
  refine T.q (q_fld fl59_0 rfl rfl) (Wt.plain rfl) rfl rfl ?_
  refine T.q (q_load1 ss3 2 rfl rfl rfl (rfl)) (Wt.plain rfl) rfl rfl ?_
  refine T.q (q_int (b := 1) (q_conv un3 un5 rfl rfl) ?hE) (Wt.plain rfl) rfl rfl ?_
  case hE => decide
  refine T.eff (e_litA sc22 ze5 rfl rfl rfl (by simp [Value.cells]) rfl rfl rfl) (Wt.plain rfl) ?_
  rintro _ _ ⟨k3, rfl, rfl⟩
  change (_ : List Blk → Prop) [_, _, _, _]
  refine T.eff (e_appendO sc22 ze5 rfl 0 .u8 xs [1] js (rfl) (R_blk 3 rfl) rfl rfl rfl rfl (by first | omega | (simp; done) | (simp [-List.getD_eq_getElem?_getD]; omega) | (simp at *; omega) | rfl) (by first | omega | (simp; done) | (simp [-List.getD_eq_getElem?_getD]; omega) | (simp at *; omega) | rfl) (by first | omega | (simp; done) | (simp [-List.getD_eq_getElem?_getD]; omega) | (simp at *; omega) | rfl) (by omega) (by first | omega | (simp; done) | (simp [-List.getD_eq_getElem?_getD]; omega)) (by first | omega | (simp; done) | (simp [-List.getD_eq_getElem?_getD]; omega)) rfl rfl) (Wt.plain rfl) ?_
  rintro _ _ ⟨k4, cap5, junk6, hc7, rfl, rfl⟩
  change (_ : List Blk → Prop) [_, _, _, _]
  refine T.eff (e_store1 ss22 1 rfl rfl rfl rfl (by simp) rfl rfl) (Wt.plain rfl) ?_
  rintro _ _ ⟨rfl, rfl⟩
  change (_ : List Blk → Prop) [_, _, _, _]
  refine T.nil ?_
  refine Ex.next ?_
  refine W.less (L' := [(2, _), (3, _), (5, _)]) [true, true, true, false] ⟨rfl, rfl, rfl, trivial⟩ ?_
  change (_ : List Blk → Prop) [_, _, _]
  refine W.seq ?_
  refine W.region ?_
  refine T.q (q_assign rfl rfl) (Wt.plain rfl) rfl rfl ?_
  refine T.nil ?_
  refine Ex.next ?_
  refine W.slots (L' := [(2, _), (3, _), (5, _), (6, _)]) ⟨rfl, rfl, rfl, rfl, trivial⟩ ?_
  refine W.seq ?_
  refine W.seq ?_
  refine W.region ?_
  refine T.q (q_fld fl59_0 rfl rfl) (Wt.plain rfl) rfl rfl ?_
  refine T.q (q_load1 ss3 2 rfl rfl rfl (rfl)) (Wt.plain rfl) rfl rfl ?_
  refine T.nil ?_
  refine Ex.next ?_
  refine W.slots (L' := [(2, _), (3, _), (5, _), (6, _), (17, _)]) ⟨rfl, rfl, rfl, rfl, rfl, trivial⟩ ?_
  refine W.block ?_
  refine W.seq ?_
  refine W.seq ?_
  refine W.region ?_
  refine T.q (q_bool (b := false) (q_eql rfl rfl rfl) (decide_eq_false (by decide))) (Wt.plain rfl) rfl rfl ?_
  refine T.q (q_assign rfl rfl) (Wt.plain rfl) rfl rfl ?_
  refine T.nil ?_
  refine Ex.next ?_
  refine W.slots (L' := [(2, _), (3, _), (5, _), (6, _), (17, _), (23, _)]) ⟨rfl, rfl, rfl, rfl, rfl, rfl, trivial⟩ ?_
  refine W.condF rfl ?_
  refine W.region ?_
  refine T.q (q_bool (b := false) (q_eql rfl rfl rfl) (decide_eq_false (by decide))) (Wt.plain rfl) rfl rfl ?_
  refine T.q (q_assign rfl rfl) (Wt.plain rfl) rfl rfl ?_
  refine T.nil ?_
  refine Ex.next ?_
  refine W.slots (L' := [(2, _), (3, _), (5, _), (6, _), (17, _), (23, _)]) ⟨rfl, rfl, rfl, rfl, rfl, rfl, trivial⟩ ?_
  refine W.condF rfl ?_
  refine W.seq ?_
  refine W.region ?_
  refine T.q (q_bool (b := true) (q_eql rfl rfl rfl) (decide_eq_true (by decide))) (Wt.plain rfl) rfl rfl ?_
  refine T.q (q_assign rfl rfl) (Wt.plain rfl) rfl rfl ?_
  refine T.nil ?_
  refine Ex.next ?_
  refine W.slots (L' := [(2, _), (3, _), (5, _), (6, _), (17, _), (30, _)]) ⟨rfl, rfl, rfl, rfl, rfl, rfl, trivial⟩ ?_
  refine W.condT rfl ?_
  refine W.seq ?_
  refine W.region ?_
  refine T.q (q_move rfl rfl) (Wt.plain rfl) rfl rfl ?_
  refine T.q (q_fld fl59_1 rfl rfl) (Wt.plain rfl) rfl rfl ?_
  refine T.q (q_load1 ss3 2 rfl rfl rfl (cell_skip1 (rfl))) (Wt.plain rfl) rfl rfl ?_
  refine T.eff (e_litA sc89 ze3 rfl rfl rfl (by simp [Value.cells]) rfl rfl rfl) (Wt.plain rfl) ?_
  rintro _ _ ⟨k8, rfl, rfl⟩
  change (_ : List Blk → Prop) [_, _, _, _]
  refine T.eff (e_callNF [false, false, true, true] enters74 rfl rfl rfl (hx2' rfl rfl rfl) (fun w hm => nums1 a (by first | omega | (simp; done) | (simp; omega) | (simp at *; omega)) (xs ++ [1]) (by first | omega | (simp; done) | (simp [-List.getD_eq_getElem?_getD]; omega) | (simp at *; omega) | rfl) junk6 (some k4) k1 _ (by first | omega | (simp; done) | (simp; omega) | (simp at *; omega)) (by first | omega | (simp; done) | (simp; omega) | (simp at *; omega)) w (hm.at 1 rfl) (hm.at 0 rfl) (hm.neO 1 0 (by decide) rfl rfl rfl) _ _ (ext2 hm 3 1 0 (by decide) (by decide) rfl rfl rfl rfl)) rfl rfl) (Wt.plain rfl) ?_
  rintro _ _ ⟨_, _, ⟨k9, cap10, junk11, rfl, hc12, rfl⟩, rfl, rfl⟩
  change (_ : List Blk → Prop) [_, _, _, _]
  refine T.nil ?_
  refine Ex.next ?_
  refine W.less (L' := [(2, _), (3, _)]) [true, false, true, true] ⟨rfl, rfl, trivial⟩ ?_
  change (_ : List Blk → Prop) [_, _, _]
  refine W.seq ?_
  refine W.region ?_
  refine T.q (q_load1 ss22 1 rfl rfl rfl rfl) (Wt.plain rfl) rfl rfl ?_
  refine T.q (q_fld fl59_4 rfl rfl) (Wt.plain rfl) rfl rfl ?_
  refine T.q (q_load1 ss22 0 rfl rfl rfl (cell_skip1 (cell_skip1 (cell_skip1 (cell_skip1 (rfl)))))) (Wt.plain rfl) rfl rfl ?_
  refine T.eff (e_call enters23 rfl rfl (fun w hm => putb_at ((xs ++ [1]) ++ putV a) _ _ (by first | omega | (simp; done) | (simp; omega) | (simp at *; omega)) (by first | omega | (simp; done) | (simp; omega) | (simp at *; omega)) bs _ _ (by first | omega | (simp; done) | (simp; omega) | (simp at *; omega)) (by first | omega | (simp; done) | (simp; omega) | (simp at *; omega)) (by first | omega | (simp; done) | (simp; omega) | (simp at *; omega)) w ((R_opre 2 rfl) w hm) ((R_ext hB) w hm) (by first | omega | (simp; done) | (simp [-List.getD_eq_getElem?_getD]; omega) | (simp at *; omega) | rfl)) rfl rfl) (Wt.plain rfl) ?_
  rintro _ _ ⟨_, _, ⟨k13, cap14, junk15, rfl, hc16, rfl⟩, rfl, rfl⟩
  change (_ : List Blk → Prop) [_, _, _, _]
  refine T.q (q_move rfl rfl) (Wt.plain rfl) rfl rfl ?_
  refine T.q (q_extract rfl rfl rfl) (Wt.plain rfl) rfl rfl ?_
  refine T.q (q_extract rfl rfl rfl) (Wt.plain rfl) rfl rfl ?_
  refine T.eff (e_store1 ss22 1 rfl rfl rfl rfl (by simp) rfl rfl) (Wt.plain rfl) ?_
  rintro _ _ ⟨rfl, rfl⟩
  change (_ : List Blk → Prop) [_, _, _, _]
  refine T.nil ?_
  refine Ex.next ?_
  refine W.less (L' := [(2, _)]) [false, true, false, true] ⟨rfl, trivial⟩ ?_
  change (_ : List Blk → Prop) [_, _]
  refine W.seq ?_
  refine W.region ?_
  refine T.q (q_load1 ss22 0 rfl rfl rfl rfl) (Wt.plain rfl) rfl rfl ?_
  refine T.q (q_assign rfl rfl) (Wt.plain rfl) rfl rfl ?_
  refine T.nil ?_
  refine Ex.next ?_
  refine W.less (L' := [(4, _)]) [false, true] ⟨rfl, trivial⟩ ?_
  change (_ : List Blk → Prop) [_]
  refine W.ret ?_
  refine Ex.in_ret ?_
  refine Ex.then_ret ?_
  refine Ex.out1 [true] rfl rfl ?_
  have hw : ((xs ++ [1]) ++ putV a) ++ putV bs.length ++ bs = xs ++ wr ⟨1, ((a : Nat) : Int), 0, rs, bs, tok⟩ := by simp [wr, wrT]
  have hlw : (((xs.length + 1) + 2 ^ kd a) + 2 ^ kd bs.length + bs.length) = xs.length + (wr ⟨1, ((a : Nat) : Int), 0, rs, bs, tok⟩).length := by have e := congrArg List.length hw; simp at e ⊢; try omega
  exact ⟨(some k13), cap14, junk15, by rw [← hlw] <;> rfl, by omega, by rw [← hw] <;> rfl⟩
set_option maxRecDepth 100000 in
theorem wr_3 (xs : List Int) (js : List Value) (no : Option Nat) (cp : Nat) (hl : xs.length + js.length = cp) (hx : xs.length ≤ 140737488340000) (a l : Int) (rs : List (Int × Int)) (bs tok : List Int) (RA BA : Option Addr) (rc bc : Nat) (htok : tok.length = 8) (w0 : World) (hc : (⟨no, ints .u8 xs ++ js, 5, (0, 0)⟩ : Blk).here w0) : Does Try.prog 60 #[.slice (no.map fun k => (⟨k, 0, none⟩ : Addr)) xs.length cp, .agg (.int .i64 3 :: (.int .i64 a :: (.int .i64 l :: (.slice RA rs.length rc :: (.slice BA bs.length bc :: (ints .u8 tok)))))).toArray] w0 no.toList (fun v G => ∃ (nk : Option Nat) (cap : Nat) (junk : List Value), v = .slice (nk.map fun k => (⟨k, 0, none⟩ : Addr)) (xs.length + (wr ⟨3, a, l, rs, bs, tok⟩).length) cap ∧ xs.length + (wr ⟨3, a, l, rs, bs, tok⟩).length + junk.length = cap ∧ G = [⟨nk, ints .u8 (xs ++ wr ⟨3, a, l, rs, bs, tok⟩) ++ junk, 5, (0, 0)⟩]) := by
  refine spec_ofB 94 [⟨no, ints .u8 xs ++ js, 5, (0, 0)⟩] (Mem.ownO hc) Try.func60 rfl rfl rfl ?_
  refine W.seq ?_
  refine W.region ?_
  refine T.eff (e_box rfl rfl rfl rfl) (Wt.plain rfl) ?_
  rintro _ _ ⟨k1, rfl, rfl⟩
  change (_ : List Blk → Prop) [_, _]
  change (_ : List Blk → Prop) [_, ⟨some k1, [.slice (no.map fun k => (⟨k, 0, none⟩ : Addr)) xs.length cp], 22, (0, 0)⟩]
  refine T.eff (e_box rfl rfl rfl rfl) (Wt.plain rfl) ?_
  rintro _ _ ⟨k2, rfl, rfl⟩
  change (_ : List Blk → Prop) [_, _, _]
  change (_ : List Blk → Prop) [_, _, ⟨some k2, .int .i64 3 :: (.int .i64 a :: (.int .i64 l :: (.slice RA rs.length rc :: (.slice BA bs.length bc :: (ints .u8 tok))))), 59, (0, 0)⟩]
  refine T.q (q_assign rfl rfl) (Wt.plain rfl) rfl rfl ?_
  refine T.nil ?_
  refine Ex.next ?_
  refine W.slots (L' := [(2, _), (3, _)]) ⟨rfl, rfl, trivial⟩ ?_
  refine W.seq ?_
  refine W.region ?_
  refine T.q (q_func (first := []) rfl rfl rfl) (Wt.plain rfl) rfl rfl ?_
  refine T.q (q_assign rfl rfl) (Wt.plain rfl) rfl rfl ?_
  refine T.nil ?_
  refine Ex.next ?_
  refine W.slots (L' := [(2, _), (3, _), (5, _)]) ⟨rfl, rfl, rfl, trivial⟩ ?_
  refine W.seq ?_
  refine W.region ?_
  refine T.q (q_load1 ss22 1 rfl rfl rfl rfl) (Wt.plain rfl) rfl rfl ?_
  refine T.q (q_fld fl59_0 rfl rfl) (Wt.plain rfl) rfl rfl ?_
  refine T.q (q_load1 ss3 2 rfl rfl rfl (rfl)) (Wt.plain rfl) rfl rfl ?_
  refine T.q (q_int (b := 3) (q_conv un3 un5 rfl rfl) ?hE) (Wt.plain rfl) rfl rfl ?_
  case hE => decide
  refine T.eff (e_litA sc22 ze5 rfl rfl rfl (by simp [Value.cells]) rfl rfl rfl) (Wt.plain rfl) ?_
  rintro _ _ ⟨k3, rfl, rfl⟩
  change (_ : List Blk → Prop) [_, _, _, _]
  refine T.eff (e_appendO sc22 ze5 rfl 0 .u8 xs [3] js (rfl) (R_blk 3 rfl) rfl rfl rfl rfl (by first | omega | (simp; done) | (simp [-List.getD_eq_getElem?_getD]; omega) | (simp at *; omega) | rfl) (by first | omega | (simp; done) | (simp [-List.getD_eq_getElem?_getD]; omega) | (simp at *; omega) | rfl) (by first | omega | (simp; done) | (simp [-List.getD_eq_getElem?_getD]; omega) | (simp at *; omega) | rfl) (by omega) (by first | omega | (simp; done) | (simp [-List.getD_eq_getElem?_getD]; omega)) (by first | omega | (simp; done) | (simp [-List.getD_eq_getElem?_getD]; omega)) rfl rfl) (Wt.plain rfl) ?_
  rintro _ _ ⟨k4, cap5, junk6, hc7, rfl, rfl⟩
  change (_ : List Blk → Prop) [_, _, _, _]
  refine T.eff (e_store1 ss22 1 rfl rfl rfl rfl (by simp) rfl rfl) (Wt.plain rfl) ?_
  rintro _ _ ⟨rfl, rfl⟩
  change (_ : List Blk → Prop) [_, _, _, _]
  refine T.nil ?_
  refine Ex.next ?_
  refine W.less (L' := [(2, _), (3, _), (5, _)]) [true, true, true, false] ⟨rfl, rfl, rfl, trivial⟩ ?_
  change (_ : List Blk → Prop) [_, _, _]
  refine W.seq ?_
  refine W.region ?_
  refine T.q (q_assign rfl rfl) (Wt.plain rfl) rfl rfl ?_
  refine T.nil ?_
  refine Ex.next ?_
  refine W.slots (L' := [(2, _), (3, _), (5, _), (6, _)]) ⟨rfl, rfl, rfl, rfl, trivial⟩ ?_
  refine W.seq ?_
  refine W.seq ?_
  refine W.region ?_
  refine T.q (q_fld fl59_0 rfl rfl) (Wt.plain rfl) rfl rfl ?_
  refine T.q (q_load1 ss3 2 rfl rfl rfl (rfl)) (Wt.plain rfl) rfl rfl ?_
  refine T.nil ?_
  refine Ex.next ?_
  refine W.slots (L' := [(2, _), (3, _), (5, _), (6, _), (17, _)]) ⟨rfl, rfl, rfl, rfl, rfl, trivial⟩ ?_
  refine W.block ?_
  refine W.seq ?_
  refine W.seq ?_
  refine W.region ?_
  refine T.q (q_bool (b := true) (q_eql rfl rfl rfl) (decide_eq_true (by decide))) (Wt.plain rfl) rfl rfl ?_
  refine T.q (q_assign rfl rfl) (Wt.plain rfl) rfl rfl ?_
  refine T.nil ?_
  refine Ex.next ?_
  refine W.slots (L' := [(2, _), (3, _), (5, _), (6, _), (17, _), (23, _)]) ⟨rfl, rfl, rfl, rfl, rfl, rfl, trivial⟩ ?_
  refine W.condT rfl ?_
  refine W.skip ?_
  refine Ex.next ?_
  refine W.slots (L' := [(2, _), (3, _), (5, _), (6, _), (17, _), (23, _)]) ⟨rfl, rfl, rfl, rfl, rfl, rfl, trivial⟩ ?_
  refine W.condT rfl ?_
  refine W.seq ?_
  refine W.drawP 4 [false, true, true] (by kernel_rfl) ?_
  refine D.take 0 rfl (by kernel_rfl) (S_sub ((((List.Sublist.slnil).cons_cons _).cons_cons _).cons _)) (q_load1 ss22 0 rfl rfl rfl rfl) (Wt.plain rfl) rfl rfl ?_
  refine D.take 1 rfl (by kernel_rfl) (S_sub ((((List.Sublist.slnil).cons_cons _).cons_cons _).cons _)) (q_fld fl59_5 rfl rfl) (Wt.plain rfl) rfl rfl ?_
  refine D.take 2 rfl (by kernel_rfl) (S_sub ((((List.Sublist.slnil).cons_cons _).cons_cons _).cons _)) (q_slAll ar57 rfl rfl) (Wt.plain rfl) rfl rfl ?_
  refine D.one 3 (by kernel_rfl) ?_
  refine Up.eff rfl (e_appendI sc22 ze5 rfl 0 .u8 (xs ++ [3]) tok junk6 (rfl) (R_at 2 5 8 rfl (part_skip1 (part_skip1 (part_skip1 (part_skip1 (part_skip1 (part_last (by first | omega | (simp; done) | (simp [-List.getD_eq_getElem?_getD]; omega) | (simp at *; omega) | rfl)))))))) rfl rfl rfl rfl (by first | omega | (simp; done) | (simp [-List.getD_eq_getElem?_getD]; omega) | (simp at *; omega) | rfl) (by first | omega | (simp; done) | (simp [-List.getD_eq_getElem?_getD]; omega) | (simp at *; omega) | rfl) (by first | omega | (simp; done) | (simp [-List.getD_eq_getElem?_getD]; omega) | (simp at *; omega) | rfl) (by first | omega | (simp; done) | (simp [-List.getD_eq_getElem?_getD]; omega)) (by first | omega | (simp; done) | (simp [-List.getD_eq_getElem?_getD]; omega)) rfl rfl) (Wt.plain rfl) ?_
  rintro _ _ ⟨k8, cap9, junk10, hc11, rfl, rfl⟩
  refine ⟨fun _ => (S_sub ((((List.Sublist.slnil).cons_cons _).cons_cons _).cons _)), ?_⟩
  change (_ : List Blk → Prop) [_, _, _]
  refine D.one 4 (by kernel_rfl) ?_
  refine Up.q rfl (q_assign rfl rfl) (Wt.plain rfl) rfl rfl (fun h => absurd h (by decide)) ?_
  refine D.done (by kernel_rfl) ?_
  refine Ex.next ?_
  refine W.less (L' := [(4, _)]) [true, false, false] ⟨rfl, trivial⟩ ?_
  change (_ : List Blk → Prop) [_]
  refine W.ret ?_
  refine Ex.in_ret ?_
  refine Ex.then_ret ?_
  refine Ex.out1 [true] rfl rfl ?_
  have hw : ((xs ++ [3]) ++ tok) = xs ++ wr ⟨3, a, l, rs, bs, tok⟩ := by simp [wr, wrT]
  have hlw : ((xs.length + 1) + 8) = xs.length + (wr ⟨3, a, l, rs, bs, tok⟩).length := by have e := congrArg List.length hw; simp at e ⊢; try omega
  exact ⟨(some k8), cap9, junk10, by rw [← hlw] <;> rfl, by omega, by rw [← hw] <;> rfl⟩
set_option maxRecDepth 100000 in
theorem wr_4 (xs : List Int) (js : List Value) (no : Option Nat) (cp : Nat) (hl : xs.length + js.length = cp) (hx : xs.length ≤ 140737488340000) (a l : Int) (rs : List (Int × Int)) (bs tok : List Int) (RA BA : Option Addr) (rc bc : Nat) (htok : tok.length = 8) (w0 : World) (hc : (⟨no, ints .u8 xs ++ js, 5, (0, 0)⟩ : Blk).here w0) : Does Try.prog 60 #[.slice (no.map fun k => (⟨k, 0, none⟩ : Addr)) xs.length cp, .agg (.int .i64 4 :: (.int .i64 a :: (.int .i64 l :: (.slice RA rs.length rc :: (.slice BA bs.length bc :: (ints .u8 tok)))))).toArray] w0 no.toList (fun v G => ∃ (nk : Option Nat) (cap : Nat) (junk : List Value), v = .slice (nk.map fun k => (⟨k, 0, none⟩ : Addr)) (xs.length + (wr ⟨4, a, l, rs, bs, tok⟩).length) cap ∧ xs.length + (wr ⟨4, a, l, rs, bs, tok⟩).length + junk.length = cap ∧ G = [⟨nk, ints .u8 (xs ++ wr ⟨4, a, l, rs, bs, tok⟩) ++ junk, 5, (0, 0)⟩]) := by
  refine spec_ofB 94 [⟨no, ints .u8 xs ++ js, 5, (0, 0)⟩] (Mem.ownO hc) Try.func60 rfl rfl rfl ?_
  refine W.seq ?_
  refine W.region ?_
  refine T.eff (e_box rfl rfl rfl rfl) (Wt.plain rfl) ?_
  rintro _ _ ⟨k1, rfl, rfl⟩
  change (_ : List Blk → Prop) [_, _]
  change (_ : List Blk → Prop) [_, ⟨some k1, [.slice (no.map fun k => (⟨k, 0, none⟩ : Addr)) xs.length cp], 22, (0, 0)⟩]
  refine T.eff (e_box rfl rfl rfl rfl) (Wt.plain rfl) ?_
  rintro _ _ ⟨k2, rfl, rfl⟩
  change (_ : List Blk → Prop) [_, _, _]
  change (_ : List Blk → Prop) [_, _, ⟨some k2, .int .i64 4 :: (.int .i64 a :: (.int .i64 l :: (.slice RA rs.length rc :: (.slice BA bs.length bc :: (ints .u8 tok))))), 59, (0, 0)⟩]
  refine T.q (q_assign rfl rfl) (Wt.plain rfl) rfl rfl ?_
  refine T.nil ?_
  refine Ex.next ?_
  refine W.slots (L' := [(2, _), (3, _)]) ⟨rfl, rfl, trivial⟩ ?_
  refine W.seq ?_
  refine W.region ?_
  refine T.q (q_func (first := []) rfl rfl rfl) (Wt.plain rfl) rfl rfl ?_
  refine T.q (q_assign rfl rfl) (Wt.plain rfl) rfl rfl ?_
  refine T.nil ?_
  refine Ex.next ?_
  refine W.slots (L' := [(2, _), (3, _), (5, _)]) ⟨rfl, rfl, rfl, trivial⟩ ?_
  refine W.seq ?_
  refine W.region ?_
  refine T.q (q_load1 ss22 1 rfl rfl rfl rfl) (Wt.plain rfl) rfl rfl ?_
  refine T.q (q_fld fl59_0 rfl rfl) (Wt.plain rfl) rfl rfl ?_
  refine T.q (q_load1 ss3 2 rfl rfl rfl (rfl)) (Wt.plain rfl) rfl rfl ?_
  refine T.q (q_int (b := 4) (q_conv un3 un5 rfl rfl) ?hE) (Wt.plain rfl) rfl rfl ?_
  case hE => decide
  refine T.eff (e_litA sc22 ze5 rfl rfl rfl (by simp [Value.cells]) rfl rfl rfl) (Wt.plain rfl) ?_
  rintro _ _ ⟨k3, rfl, rfl⟩
  change (_ : List Blk → Prop) [_, _, _, _]
  refine T.eff (e_appendO sc22 ze5 rfl 0 .u8 xs [4] js (rfl) (R_blk 3 rfl) rfl rfl rfl rfl (by first | omega | (simp; done) | (simp [-List.getD_eq_getElem?_getD]; omega) | (simp at *; omega) | rfl) (by first | omega | (simp; done) | (simp [-List.getD_eq_getElem?_getD]; omega) | (simp at *; omega) | rfl) (by first | omega | (simp; done) | (simp [-List.getD_eq_getElem?_getD]; omega) | (simp at *; omega) | rfl) (by omega) (by first | omega | (simp; done) | (simp [-List.getD_eq_getElem?_getD]; omega)) (by first | omega | (simp; done) | (simp [-List.getD_eq_getElem?_getD]; omega)) rfl rfl) (Wt.plain rfl) ?_
  rintro _ _ ⟨k4, cap5, junk6, hc7, rfl, rfl⟩
  change (_ : List Blk → Prop) [_, _, _, _]
  refine T.eff (e_store1 ss22 1 rfl rfl rfl rfl (by simp) rfl rfl) (Wt.plain rfl) ?_
  rintro _ _ ⟨rfl, rfl⟩
  change (_ : List Blk → Prop) [_, _, _, _]
  refine T.nil ?_
  refine Ex.next ?_
  refine W.less (L' := [(2, _), (3, _), (5, _)]) [true, true, true, false] ⟨rfl, rfl, rfl, trivial⟩ ?_
  change (_ : List Blk → Prop) [_, _, _]
  refine W.seq ?_
  refine W.region ?_
  refine T.q (q_assign rfl rfl) (Wt.plain rfl) rfl rfl ?_
  refine T.nil ?_
  refine Ex.next ?_
  refine W.slots (L' := [(2, _), (3, _), (5, _), (6, _)]) ⟨rfl, rfl, rfl, rfl, trivial⟩ ?_
  refine W.seq ?_
  refine W.seq ?_
  refine W.region ?_
  refine T.q (q_fld fl59_0 rfl rfl) (Wt.plain rfl) rfl rfl ?_
  refine T.q (q_load1 ss3 2 rfl rfl rfl (rfl)) (Wt.plain rfl) rfl rfl ?_
  refine T.nil ?_
  refine Ex.next ?_
  refine W.slots (L' := [(2, _), (3, _), (5, _), (6, _), (17, _)]) ⟨rfl, rfl, rfl, rfl, rfl, trivial⟩ ?_
  refine W.block ?_
  refine W.seq ?_
  refine W.seq ?_
  refine W.region ?_
  refine T.q (q_bool (b := false) (q_eql rfl rfl rfl) (decide_eq_false (by decide))) (Wt.plain rfl) rfl rfl ?_
  refine T.q (q_assign rfl rfl) (Wt.plain rfl) rfl rfl ?_
  refine T.nil ?_
  refine Ex.next ?_
  refine W.slots (L' := [(2, _), (3, _), (5, _), (6, _), (17, _), (23, _)]) ⟨rfl, rfl, rfl, rfl, rfl, rfl, trivial⟩ ?_
  refine W.condF rfl ?_
  refine W.region ?_
  refine T.q (q_bool (b := true) (q_eql rfl rfl rfl) (decide_eq_true (by decide))) (Wt.plain rfl) rfl rfl ?_
  refine T.q (q_assign rfl rfl) (Wt.plain rfl) rfl rfl ?_
  refine T.nil ?_
  refine Ex.next ?_
  refine W.slots (L' := [(2, _), (3, _), (5, _), (6, _), (17, _), (23, _)]) ⟨rfl, rfl, rfl, rfl, rfl, rfl, trivial⟩ ?_
  refine W.condT rfl ?_
  refine W.seq ?_
  refine W.drawP 4 [false, true, true] (by kernel_rfl) ?_
  refine D.take 0 rfl (by kernel_rfl) (S_sub ((((List.Sublist.slnil).cons_cons _).cons_cons _).cons _)) (q_load1 ss22 0 rfl rfl rfl rfl) (Wt.plain rfl) rfl rfl ?_
  refine D.take 1 rfl (by kernel_rfl) (S_sub ((((List.Sublist.slnil).cons_cons _).cons_cons _).cons _)) (q_fld fl59_5 rfl rfl) (Wt.plain rfl) rfl rfl ?_
  refine D.take 2 rfl (by kernel_rfl) (S_sub ((((List.Sublist.slnil).cons_cons _).cons_cons _).cons _)) (q_slAll ar57 rfl rfl) (Wt.plain rfl) rfl rfl ?_
  refine D.one 3 (by kernel_rfl) ?_
  refine Up.eff rfl (e_appendI sc22 ze5 rfl 0 .u8 (xs ++ [4]) tok junk6 (rfl) (R_at 2 5 8 rfl (part_skip1 (part_skip1 (part_skip1 (part_skip1 (part_skip1 (part_last (by first | omega | (simp; done) | (simp [-List.getD_eq_getElem?_getD]; omega) | (simp at *; omega) | rfl)))))))) rfl rfl rfl rfl (by first | omega | (simp; done) | (simp [-List.getD_eq_getElem?_getD]; omega) | (simp at *; omega) | rfl) (by first | omega | (simp; done) | (simp [-List.getD_eq_getElem?_getD]; omega) | (simp at *; omega) | rfl) (by first | omega | (simp; done) | (simp [-List.getD_eq_getElem?_getD]; omega) | (simp at *; omega) | rfl) (by first | omega | (simp; done) | (simp [-List.getD_eq_getElem?_getD]; omega)) (by first | omega | (simp; done) | (simp [-List.getD_eq_getElem?_getD]; omega)) rfl rfl) (Wt.plain rfl) ?_
  rintro _ _ ⟨k8, cap9, junk10, hc11, rfl, rfl⟩
  refine ⟨fun _ => (S_sub ((((List.Sublist.slnil).cons_cons _).cons_cons _).cons _)), ?_⟩
  change (_ : List Blk → Prop) [_, _, _]
  refine D.one 4 (by kernel_rfl) ?_
  refine Up.q rfl (q_assign rfl rfl) (Wt.plain rfl) rfl rfl (fun h => absurd h (by decide)) ?_
  refine D.done (by kernel_rfl) ?_
  refine Ex.next ?_
  refine W.less (L' := [(4, _)]) [true, false, false] ⟨rfl, trivial⟩ ?_
  change (_ : List Blk → Prop) [_]
  refine W.ret ?_
  refine Ex.in_ret ?_
  refine Ex.then_ret ?_
  refine Ex.out1 [true] rfl rfl ?_
  have hw : ((xs ++ [4]) ++ tok) = xs ++ wr ⟨4, a, l, rs, bs, tok⟩ := by simp [wr, wrT]
  have hlw : ((xs.length + 1) + 8) = xs.length + (wr ⟨4, a, l, rs, bs, tok⟩).length := by have e := congrArg List.length hw; simp at e ⊢; try omega
  exact ⟨(some k8), cap9, junk10, by rw [← hlw] <;> rfl, by omega, by rw [← hw] <;> rfl⟩
set_option maxRecDepth 100000 in
theorem wr_5 (xs : List Int) (js : List Value) (no : Option Nat) (cp : Nat) (hl : xs.length + js.length = cp) (hx : xs.length ≤ 140737488340000) (l : Int) (a : Nat) (ha : a < 4611686018427387904) (rs : List (Int × Int)) (bs tok : List Int) (RA BA : Option Addr) (rc bc : Nat) (hr0 : rs.length = 0) (w0 : World) (hc : (⟨no, ints .u8 xs ++ js, 5, (0, 0)⟩ : Blk).here w0) (hR : Ext w0 no.toList RA (ints .i64 (flat rs))) : Does Try.prog 60 #[.slice (no.map fun k => (⟨k, 0, none⟩ : Addr)) xs.length cp, .agg (.int .i64 5 :: (.int .i64 ((a : Nat) : Int) :: (.int .i64 l :: (.slice RA rs.length rc :: (.slice BA bs.length bc :: (ints .u8 tok)))))).toArray] w0 no.toList (fun v G => ∃ (nk : Option Nat) (cap : Nat) (junk : List Value), v = .slice (nk.map fun k => (⟨k, 0, none⟩ : Addr)) (xs.length + (wr ⟨5, ((a : Nat) : Int), l, rs, bs, tok⟩).length) cap ∧ xs.length + (wr ⟨5, ((a : Nat) : Int), l, rs, bs, tok⟩).length + junk.length = cap ∧ G = [⟨nk, ints .u8 (xs ++ wr ⟨5, ((a : Nat) : Int), l, rs, bs, tok⟩) ++ junk, 5, (0, 0)⟩]) := by
  have hka := pow_kd_le a
  have hris : ∀ i, i < rs.length → lastR 0 rs i ≤ (rs.getD i (0, 0)).1 ∧ (rs.getD i (0, 0)).1 < (rs.getD i (0, 0)).2 ∧ (rs.getD i (0, 0)).2 ≤ 4611686018427387903 := fun i hi => absurd hi (by omega)
  refine spec_ofB 94 [⟨no, ints .u8 xs ++ js, 5, (0, 0)⟩] (Mem.ownO hc) Try.func60 rfl rfl rfl ?_
  refine W.seq ?_
  refine W.region ?_
  refine T.eff (e_box rfl rfl rfl rfl) (Wt.plain rfl) ?_
  rintro _ _ ⟨k1, rfl, rfl⟩
  change (_ : List Blk → Prop) [_, _]
  change (_ : List Blk → Prop) [_, ⟨some k1, [.slice (no.map fun k => (⟨k, 0, none⟩ : Addr)) xs.length cp], 22, (0, 0)⟩]
  refine T.eff (e_box rfl rfl rfl rfl) (Wt.plain rfl) ?_
  rintro _ _ ⟨k2, rfl, rfl⟩
  change (_ : List Blk → Prop) [_, _, _]
  change (_ : List Blk → Prop) [_, _, ⟨some k2, .int .i64 5 :: (.int .i64 ((a : Nat) : Int) :: (.int .i64 l :: (.slice RA rs.length rc :: (.slice BA bs.length bc :: (ints .u8 tok))))), 59, (0, 0)⟩]
  refine T.q (q_assign rfl rfl) (Wt.plain rfl) rfl rfl ?_
  refine T.nil ?_
  refine Ex.next ?_
  refine W.slots (L' := [(2, _), (3, _)]) ⟨rfl, rfl, trivial⟩ ?_
  refine W.seq ?_
  refine W.region ?_
  refine T.q (q_func (first := []) rfl rfl rfl) (Wt.plain rfl) rfl rfl ?_
  refine T.q (q_assign rfl rfl) (Wt.plain rfl) rfl rfl ?_
  refine T.nil ?_
  refine Ex.next ?_
  refine W.slots (L' := [(2, _), (3, _), (5, _)]) ⟨rfl, rfl, rfl, trivial⟩ ?_
  refine W.seq ?_
  refine W.region ?_
  refine T.q (q_load1 ss22 1 rfl rfl rfl rfl) (Wt.plain rfl) rfl rfl ?_
  refine T.q (q_fld fl59_0 rfl rfl) (Wt.plain rfl) rfl rfl ?_
  refine T.q (q_load1 ss3 2 rfl rfl rfl (rfl)) (Wt.plain rfl) rfl rfl ?_
  refine T.q (q_int (b := 5) (q_conv un3 un5 rfl rfl) ?hE) (Wt.plain rfl) rfl rfl ?_
  case hE => decide
  refine T.eff (e_litA sc22 ze5 rfl rfl rfl (by simp [Value.cells]) rfl rfl rfl) (Wt.plain rfl) ?_
  rintro _ _ ⟨k3, rfl, rfl⟩
  change (_ : List Blk → Prop) [_, _, _, _]
  refine T.eff (e_appendO sc22 ze5 rfl 0 .u8 xs [5] js (rfl) (R_blk 3 rfl) rfl rfl rfl rfl (by first | omega | (simp; done) | (simp [-List.getD_eq_getElem?_getD]; omega) | (simp at *; omega) | rfl) (by first | omega | (simp; done) | (simp [-List.getD_eq_getElem?_getD]; omega) | (simp at *; omega) | rfl) (by first | omega | (simp; done) | (simp [-List.getD_eq_getElem?_getD]; omega) | (simp at *; omega) | rfl) (by omega) (by first | omega | (simp; done) | (simp [-List.getD_eq_getElem?_getD]; omega)) (by first | omega | (simp; done) | (simp [-List.getD_eq_getElem?_getD]; omega)) rfl rfl) (Wt.plain rfl) ?_
  rintro _ _ ⟨k4, cap5, junk6, hc7, rfl, rfl⟩
  change (_ : List Blk → Prop) [_, _, _, _]
  refine T.eff (e_store1 ss22 1 rfl rfl rfl rfl (by simp) rfl rfl) (Wt.plain rfl) ?_
  rintro _ _ ⟨rfl, rfl⟩
  change (_ : List Blk → Prop) [_, _, _, _]
  refine T.nil ?_
  refine Ex.next ?_
  refine W.less (L' := [(2, _), (3, _), (5, _)]) [true, true, true, false] ⟨rfl, rfl, rfl, trivial⟩ ?_
  change (_ : List Blk → Prop) [_, _, _]
  refine W.seq ?_
  refine W.region ?_
  refine T.q (q_assign rfl rfl) (Wt.plain rfl) rfl rfl ?_
  refine T.nil ?_
  refine Ex.next ?_
  refine W.slots (L' := [(2, _), (3, _), (5, _), (6, _)]) ⟨rfl, rfl, rfl, rfl, trivial⟩ ?_
  refine W.seq ?_
  refine W.seq ?_
  refine W.region ?_
  refine T.q (q_fld fl59_0 rfl rfl) (Wt.plain rfl) rfl rfl ?_
  refine T.q (q_load1 ss3 2 rfl rfl rfl (rfl)) (Wt.plain rfl) rfl rfl ?_
  refine T.nil ?_
  refine Ex.next ?_
  refine W.slots (L' := [(2, _), (3, _), (5, _), (6, _), (17, _)]) ⟨rfl, rfl, rfl, rfl, rfl, trivial⟩ ?_
  refine W.block ?_
  refine W.seq ?_
  refine W.seq ?_
  refine W.region ?_
  refine T.q (q_bool (b := false) (q_eql rfl rfl rfl) (decide_eq_false (by decide))) (Wt.plain rfl) rfl rfl ?_
  refine T.q (q_assign rfl rfl) (Wt.plain rfl) rfl rfl ?_
  refine T.nil ?_
  refine Ex.next ?_
  refine W.slots (L' := [(2, _), (3, _), (5, _), (6, _), (17, _), (23, _)]) ⟨rfl, rfl, rfl, rfl, rfl, rfl, trivial⟩ ?_
  refine W.condF rfl ?_
  refine W.region ?_
  refine T.q (q_bool (b := false) (q_eql rfl rfl rfl) (decide_eq_false (by decide))) (Wt.plain rfl) rfl rfl ?_
  refine T.q (q_assign rfl rfl) (Wt.plain rfl) rfl rfl ?_
  refine T.nil ?_
  refine Ex.next ?_
  refine W.slots (L' := [(2, _), (3, _), (5, _), (6, _), (17, _), (23, _)]) ⟨rfl, rfl, rfl, rfl, rfl, rfl, trivial⟩ ?_
  refine W.condF rfl ?_
  refine W.seq ?_
  refine W.region ?_
  refine T.q (q_bool (b := false) (q_eql rfl rfl rfl) (decide_eq_false (by decide))) (Wt.plain rfl) rfl rfl ?_
  refine T.q (q_assign rfl rfl) (Wt.plain rfl) rfl rfl ?_
  refine T.nil ?_
  refine Ex.next ?_
  refine W.slots (L' := [(2, _), (3, _), (5, _), (6, _), (17, _), (30, _)]) ⟨rfl, rfl, rfl, rfl, rfl, rfl, trivial⟩ ?_
  refine W.condF rfl ?_
  refine W.seq ?_
  refine W.region ?_
  refine T.q (q_bool (b := false) (q_eql rfl rfl rfl) (decide_eq_false (by decide))) (Wt.plain rfl) rfl rfl ?_
  refine T.q (q_assign rfl rfl) (Wt.plain rfl) rfl rfl ?_
  refine T.nil ?_
  refine Ex.next ?_
  refine W.slots (L' := [(2, _), (3, _), (5, _), (6, _), (17, _), (45, _)]) ⟨rfl, rfl, rfl, rfl, rfl, rfl, trivial⟩ ?_
  refine W.condF rfl ?_
  refine W.seq ?_
  refine W.region ?_
  refine T.q (q_bool (b := false) (q_eql rfl rfl rfl) (decide_eq_false (by decide))) (Wt.plain rfl) rfl rfl ?_
  refine T.q (q_assign rfl rfl) (Wt.plain rfl) rfl rfl ?_
  refine T.nil ?_
  refine Ex.next ?_
  refine W.slots (L' := [(2, _), (3, _), (5, _), (6, _), (59, _)]) ⟨rfl, rfl, rfl, rfl, rfl, trivial⟩ ?_
  refine W.condF rfl ?_
  refine W.region ?_
  refine T.q (q_move rfl rfl) (Wt.plain rfl) rfl rfl ?_
  refine T.q (q_fld fl59_1 rfl rfl) (Wt.plain rfl) rfl rfl ?_
  refine T.q (q_load1 ss3 2 rfl rfl rfl (cell_skip1 (rfl))) (Wt.plain rfl) rfl rfl ?_
  refine T.eff (e_litA sc89 ze3 rfl rfl rfl (by simp [Value.cells]) rfl rfl rfl) (Wt.plain rfl) ?_
  rintro _ _ ⟨k8, rfl, rfl⟩
  change (_ : List Blk → Prop) [_, _, _, _]
  refine T.eff (e_callNF [false, false, true, true] enters74 rfl rfl rfl (hx2' rfl rfl rfl) (fun w hm => nums1 a (by first | omega | (simp; done) | (simp; omega) | (simp at *; omega)) (xs ++ [5]) (by first | omega | (simp; done) | (simp [-List.getD_eq_getElem?_getD]; omega) | (simp at *; omega) | rfl) junk6 (some k4) k1 _ (by first | omega | (simp; done) | (simp; omega) | (simp at *; omega)) (by first | omega | (simp; done) | (simp; omega) | (simp at *; omega)) w (hm.at 1 rfl) (hm.at 0 rfl) (hm.neO 1 0 (by decide) rfl rfl rfl) _ _ (ext2 hm 3 1 0 (by decide) (by decide) rfl rfl rfl rfl)) rfl rfl) (Wt.plain rfl) ?_
  rintro _ _ ⟨_, _, ⟨k9, cap10, junk11, rfl, hc12, rfl⟩, rfl, rfl⟩
  change (_ : List Blk → Prop) [_, _, _, _]
  refine T.nil ?_
  refine Ex.in_normal ?_
  refine Ex.next ?_
  refine W.less (L' := [(2, _), (3, _), (5, _), (6, _)]) [true, false, true, true] ⟨rfl, rfl, rfl, rfl, trivial⟩ ?_
  change (_ : List Blk → Prop) [_, _, _]
  refine W.seq ?_
  refine W.seq ?_
  refine W.region ?_
  refine T.q (q_fld fl59_3 rfl rfl) (Wt.plain rfl) rfl rfl ?_
  refine T.q (q_load1 ss56 0 rfl rfl rfl (cell_skip1 (cell_skip1 (cell_skip1 (rfl))))) (Wt.plain rfl) rfl rfl ?_
  refine T.q (q_len sc56 rfl rfl) (Wt.plain rfl) rfl rfl ?_
  refine T.q (q_move rfl rfl) (Wt.plain rfl) rfl rfl ?_
  refine T.nil ?_
  refine Ex.next ?_
  refine W.less (L' := [(2, _), (5, _), (6, _), (72, _), (73, _), (74, _)]) [false, true, true] ⟨rfl, rfl, rfl, rfl, rfl, rfl, trivial⟩ ?_
  change (_ : List Blk → Prop) [_, _]
  refine W.block ?_
  refine W.loop (α := Nat × Int × Nat × List Int × Option Nat × Nat × List Value) (fun x_ => [(2, .pointer (some ⟨k1, 0, none⟩)), (5, .func (.func 74) #[] #[.pointer (some ⟨k1, 0, none⟩)]), (6, .int .i64 x_.2.1), (72, .slice RA rs.length rc), (73, .int .i64 ((rs.length : Nat) : Int)), (74, .int .i64 ((x_.1 : Nat) : Int))]) (fun x_ => [⟨some k1, [.slice (x_.2.2.2.2.1.map fun k => (⟨k, 0, none⟩ : Addr)) x_.2.2.1 x_.2.2.2.2.2.1], 22, (0, 0)⟩, ⟨x_.2.2.2.2.1, ints .u8 x_.2.2.2.1 ++ x_.2.2.2.2.2.2, 5, (0, 0)⟩]) (fun x_ => x_.1 ≤ rs.length ∧ x_.2.1 = lastR 0 rs x_.1 ∧ 0 ≤ x_.2.1 ∧ x_.2.2.2.1 = ((xs ++ [5]) ++ putV a) ++ wrR (rs.take x_.1) 0 ∧ x_.2.2.1 = x_.2.2.2.1.length ∧ x_.2.2.1 + x_.2.2.2.2.2.2.length = x_.2.2.2.2.2.1 ∧ x_.2.2.1 ≤ xs.length + 40 + 16 * x_.1) (fun x_ => rs.length - x_.1) [true, true] (⟨0, 0, ((xs.length + 1) + 2 ^ kd a), (xs ++ [5]) ++ putV a, k9, cap10, junk11⟩) ⟨Nat.zero_le _, rfl, (by dsimp only; omega), (by simp [wrR]), (by first | (simp; done) | (simp; omega)), (by dsimp only; omega), (by dsimp only; omega)⟩ ⟨rfl, rfl, rfl, rfl, rfl, rfl, trivial⟩ rfl ?_
  rintro ⟨i, la, ln, zs, nk, cq, jq⟩ hinv
  try dsimp only at hinv
  conv => rhs; dsimp only
  conv => arg -2; dsimp only
  obtain ⟨hi, hla, hla0, hz, hln, hcq, hle⟩ := hinv
  refine W.seq ?_
  refine W.region ?_
  refine T.q (q_lss rfl rfl rfl) (Wt.plain rfl) rfl rfl ?_
  refine T.nil ?_
  refine Ex.next ?_
  refine W.slots (L' := [(2, _), (5, _), (6, _), (72, _), (73, _), (74, _), (75, _)]) ⟨rfl, rfl, rfl, rfl, rfl, rfl, rfl, trivial⟩ ?_
  refine W.seq ?_
  refine W.cond _ rfl (fun hb13 => ?_) (fun hb13 => ?_)
  · replace hb13 := of_decide_eq_true hb13
    have hir : i < rs.length := by omega
    obtain ⟨hc1, hc2, hc3⟩ := hris i hir
    rw [← hla] at hc1
    have hk1 := pow_kd_le ((rs.getD i (0, 0)).1 - la).toNat
    have hk2 := pow_kd_le ((rs.getD i (0, 0)).2 - (rs.getD i (0, 0)).1).toNat
    refine W.skip ?_
    refine Ex.next ?_
    refine W.slots (L' := [(2, _), (5, _), (6, _), (72, _), (73, _), (74, _)]) ⟨rfl, rfl, rfl, rfl, rfl, rfl, trivial⟩ ?_
    refine W.seq ?_
    refine W.block ?_
    refine W.seq ?_
    refine W.region ?_
    refine T.q (q_ixE sc56 i (R_ext hR) rfl rfl rfl (by omega) (by omega) (by rw [ints_length, flat_length]; omega)) (Wt.plain rfl) rfl rfl ?_
    refine T.q (q_loadW wd74 (R_elem (R_ext hR) (i * 2) 2 (flat_getV (by omega))) rfl rfl) (Wt.plain rfl) rfl rfl ?_
    refine T.eff (e_alloc ze74 rfl rfl rfl) (Wt.plain rfl) ?_
    rintro _ _ ⟨k14, rfl, rfl⟩
    change (_ : List Blk → Prop) [_, _, _]
    refine T.eff (e_storeA wd74 2 rfl rfl rfl rfl (by first | omega | (simp; done) | (simp [-List.getD_eq_getElem?_getD]; omega) | (simp at *; omega) | rfl) (by simp [Value.oneCell']) rfl) (Wt.plain rfl) ?_
    rintro _ _ ⟨rfl, rfl⟩
    change (_ : List Blk → Prop) [_, _, _]
    refine T.nil ?_
    refine Ex.next ?_
    refine W.slots (L' := [(2, _), (5, _), (6, _), (8, _), (72, _), (73, _), (74, _)]) ⟨rfl, rfl, rfl, rfl, rfl, rfl, rfl, trivial⟩ ?_
    refine W.seq ?_
    refine W.region ?_
    refine T.q (q_move rfl rfl) (Wt.plain rfl) rfl rfl ?_
    refine T.q (q_fld fl74_0 rfl rfl) (Wt.plain rfl) rfl rfl ?_
    refine T.q (q_load1 ss3 2 rfl rfl rfl rfl) (Wt.plain rfl) rfl rfl ?_
    refine T.q (q_move rfl rfl) (Wt.plain rfl) rfl rfl ?_
    refine T.q (q_int (b := ((((rs.getD i (0, 0)).1 - la).toNat : Nat) : Int)) (q_subi rfl rfl rfl (by omega) (by omega)) ?hE) (Wt.plain rfl) rfl rfl ?_
    case hE => omega
    refine T.q (q_fld fl74_1 rfl rfl) (Wt.plain rfl) rfl rfl ?_
    refine T.q (q_load1 ss3 2 rfl rfl rfl rfl) (Wt.plain rfl) rfl rfl ?_
    refine T.q (q_fld fl74_0 rfl rfl) (Wt.plain rfl) rfl rfl ?_
    refine T.q (q_load1 ss3 2 rfl rfl rfl rfl) (Wt.plain rfl) rfl rfl ?_
    refine T.q (q_int (b := ((((rs.getD i (0, 0)).2 - (rs.getD i (0, 0)).1).toNat : Nat) : Int)) (q_subi rfl rfl rfl (by omega) (by omega)) ?hE) (Wt.plain rfl) rfl rfl ?_
    case hE => omega
    refine T.eff (e_litA sc89 ze3 rfl rfl rfl (by simp [Value.cells]) rfl rfl rfl) (Wt.plain rfl) ?_
    rintro _ _ ⟨k15, rfl, rfl⟩
    change (_ : List Blk → Prop) [_, _, _, _]
    refine T.eff (e_callNF [false, false, true, true] enters74 rfl rfl rfl (hx2 rfl rfl rfl) (fun w hm => nums2 (((rs.getD i (0, 0)).1 - la).toNat) (((rs.getD i (0, 0)).2 - (rs.getD i (0, 0)).1).toNat) (by first | omega | (simp; done) | (simp; omega) | (simp at *; omega)) (by first | omega | (simp; done) | (simp; omega) | (simp at *; omega)) zs (by first | omega | (simp; done) | (simp [-List.getD_eq_getElem?_getD]; omega) | (simp at *; omega) | rfl) jq nk k1 _ (by first | omega | (simp; done) | (simp; omega) | (simp at *; omega)) (by first | omega | (simp; done) | (simp; omega) | (simp at *; omega)) w (hm.at 0 rfl) (hm.at 1 rfl) (hm.neO 0 1 (by decide) rfl rfl rfl) _ _ (ext2 hm 3 0 1 (by decide) (by decide) rfl rfl rfl rfl)) rfl rfl) (Wt.plain rfl) ?_
    rintro _ _ ⟨_, _, ⟨k16, cap17, junk18, rfl, hc19, rfl⟩, rfl, rfl⟩
    change (_ : List Blk → Prop) [_, _, _, _]
    refine T.nil ?_
    refine Ex.next ?_
    refine W.less (L' := [(2, _), (5, _), (8, _), (72, _), (73, _), (74, _)]) [true, false, true, true] ⟨rfl, rfl, rfl, rfl, rfl, rfl, trivial⟩ ?_
    change (_ : List Blk → Prop) [_, _, _]
    refine W.region ?_
    refine T.q (q_fld fl74_1 rfl rfl) (Wt.plain rfl) rfl rfl ?_
    refine T.q (q_load1 ss3 0 rfl rfl rfl rfl) (Wt.plain rfl) rfl rfl ?_
    refine T.q (q_assign rfl rfl) (Wt.plain rfl) rfl rfl ?_
    refine T.nil ?_
    refine Ex.in_normal ?_
    refine Ex.next ?_
    refine W.less (L' := [(2, _), (5, _), (6, _), (72, _), (73, _), (74, _)]) [false, true, true] ⟨rfl, rfl, rfl, rfl, rfl, rfl, trivial⟩ ?_
    change (_ : List Blk → Prop) [_, _]
    refine W.region ?_
    refine T.q (q_addi rfl rfl rfl (by omega) (by omega)) (Wt.plain rfl) rfl rfl ?_
    refine T.q (q_move rfl rfl) (Wt.plain rfl) rfl rfl ?_
    refine T.nil ?_
    exact Ex.again [true, true] (⟨i + 1, (rs.getD i (0, 0)).2, ((ln + 2 ^ kd (((rs.getD i (0, 0)).1 - la).toNat)) + 2 ^ kd (((rs.getD i (0, 0)).2 - (rs.getD i (0, 0)).1).toNat)), zs ++ (putV (((rs.getD i (0, 0)).1 - la).toNat) ++ putV (((rs.getD i (0, 0)).2 - (rs.getD i (0, 0)).1).toNat)), k16, cap17, junk18⟩ : Nat × Int × Nat × List Int × Option Nat × Nat × List Value) (by dsimp only; omega) ⟨by dsimp only; omega, (by dsimp only; rw [lastR_succ]), by dsimp only; omega, (by dsimp only; rw [wrR_take rs _ i hir, ← hla, hz, List.append_assoc]), (by dsimp only; simp [hln]; omega), by dsimp only; omega, by dsimp only; omega⟩ ⟨rfl, rfl, rfl, rfl, rfl, rfl, trivial⟩ (by first | (dsimp only [pick]; done) | rfl)
  replace hb13 := of_decide_eq_false hb13
  obtain rfl : i = rs.length := by omega
  rw [List.take_length] at hz
  refine W.exit ?_
  refine Ex.then_exit ?_
  refine Ex.then_exit ?_
  refine Ex.in_here ?_
  refine Ex.next ?_
  refine W.slots (L' := [(2, _)]) ⟨rfl, trivial⟩ ?_
  refine W.seq ?_
  refine W.region ?_
  refine T.q (q_load1 ss22 0 rfl rfl rfl rfl) (Wt.plain rfl) rfl rfl ?_
  refine T.q (q_assign rfl rfl) (Wt.plain rfl) rfl rfl ?_
  refine T.nil ?_
  refine Ex.next ?_
  refine W.slots (L' := [(4, _)]) ⟨rfl, trivial⟩ ?_
  refine W.ret ?_
  refine Ex.out1 [false, true] rfl rfl ?_
  have hw : zs = xs ++ wr ⟨5, ((a : Nat) : Int), l, rs, bs, tok⟩ := by rw [hz, List.eq_nil_of_length_eq_zero hr0]; simp [wr, wrT, wrR]
  have hlw : ln = xs.length + (wr ⟨5, ((a : Nat) : Int), l, rs, bs, tok⟩).length := by have e := congrArg List.length hw; simp at e ⊢; try omega
  exact ⟨nk, cq, jq, by rw [← hlw] <;> rfl, by omega, by rw [← hw] <;> rfl⟩
set_option maxRecDepth 100000 in
theorem wr_6 (xs : List Int) (js : List Value) (no : Option Nat) (cp : Nat) (hl : xs.length + js.length = cp) (hx : xs.length ≤ 140737488340000) (l : Int) (a : Nat) (ha : a < 4611686018427387904) (rs : List (Int × Int)) (bs tok : List Int) (RA BA : Option Addr) (rc bc : Nat) (hr0 : rs.length = 0) (w0 : World) (hc : (⟨no, ints .u8 xs ++ js, 5, (0, 0)⟩ : Blk).here w0) (hR : Ext w0 no.toList RA (ints .i64 (flat rs))) : Does Try.prog 60 #[.slice (no.map fun k => (⟨k, 0, none⟩ : Addr)) xs.length cp, .agg (.int .i64 6 :: (.int .i64 ((a : Nat) : Int) :: (.int .i64 l :: (.slice RA rs.length rc :: (.slice BA bs.length bc :: (ints .u8 tok)))))).toArray] w0 no.toList (fun v G => ∃ (nk : Option Nat) (cap : Nat) (junk : List Value), v = .slice (nk.map fun k => (⟨k, 0, none⟩ : Addr)) (xs.length + (wr ⟨6, ((a : Nat) : Int), l, rs, bs, tok⟩).length) cap ∧ xs.length + (wr ⟨6, ((a : Nat) : Int), l, rs, bs, tok⟩).length + junk.length = cap ∧ G = [⟨nk, ints .u8 (xs ++ wr ⟨6, ((a : Nat) : Int), l, rs, bs, tok⟩) ++ junk, 5, (0, 0)⟩]) := by
  have hka := pow_kd_le a
  have hris : ∀ i, i < rs.length → lastR 0 rs i ≤ (rs.getD i (0, 0)).1 ∧ (rs.getD i (0, 0)).1 < (rs.getD i (0, 0)).2 ∧ (rs.getD i (0, 0)).2 ≤ 4611686018427387903 := fun i hi => absurd hi (by omega)
  refine spec_ofB 94 [⟨no, ints .u8 xs ++ js, 5, (0, 0)⟩] (Mem.ownO hc) Try.func60 rfl rfl rfl ?_
  refine W.seq ?_
  refine W.region ?_
  refine T.eff (e_box rfl rfl rfl rfl) (Wt.plain rfl) ?_
  rintro _ _ ⟨k1, rfl, rfl⟩
  change (_ : List Blk → Prop) [_, _]
  change (_ : List Blk → Prop) [_, ⟨some k1, [.slice (no.map fun k => (⟨k, 0, none⟩ : Addr)) xs.length cp], 22, (0, 0)⟩]
  refine T.eff (e_box rfl rfl rfl rfl) (Wt.plain rfl) ?_
  rintro _ _ ⟨k2, rfl, rfl⟩
  change (_ : List Blk → Prop) [_, _, _]
  change (_ : List Blk → Prop) [_, _, ⟨some k2, .int .i64 6 :: (.int .i64 ((a : Nat) : Int) :: (.int .i64 l :: (.slice RA rs.length rc :: (.slice BA bs.length bc :: (ints .u8 tok))))), 59, (0, 0)⟩]
  refine T.q (q_assign rfl rfl) (Wt.plain rfl) rfl rfl ?_
  refine T.nil ?_
  refine Ex.next ?_
  refine W.slots (L' := [(2, _), (3, _)]) ⟨rfl, rfl, trivial⟩ ?_
  refine W.seq ?_
  refine W.region ?_
  refine T.q (q_func (first := []) rfl rfl rfl) (Wt.plain rfl) rfl rfl ?_
  refine T.q (q_assign rfl rfl) (Wt.plain rfl) rfl rfl ?_
  refine T.nil ?_
  refine Ex.next ?_
  refine W.slots (L' := [(2, _), (3, _), (5, _)]) ⟨rfl, rfl, rfl, trivial⟩ ?_
  refine W.seq ?_
  refine W.region ?_
  refine T.q (q_load1 ss22 1 rfl rfl rfl rfl) (Wt.plain rfl) rfl rfl ?_
  refine T.q (q_fld fl59_0 rfl rfl) (Wt.plain rfl) rfl rfl ?_
  refine T.q (q_load1 ss3 2 rfl rfl rfl (rfl)) (Wt.plain rfl) rfl rfl ?_
  refine T.q (q_int (b := 6) (q_conv un3 un5 rfl rfl) ?hE) (Wt.plain rfl) rfl rfl ?_
  case hE => decide
  refine T.eff (e_litA sc22 ze5 rfl rfl rfl (by simp [Value.cells]) rfl rfl rfl) (Wt.plain rfl) ?_
  rintro _ _ ⟨k3, rfl, rfl⟩
  change (_ : List Blk → Prop) [_, _, _, _]
  refine T.eff (e_appendO sc22 ze5 rfl 0 .u8 xs [6] js (rfl) (R_blk 3 rfl) rfl rfl rfl rfl (by first | omega | (simp; done) | (simp [-List.getD_eq_getElem?_getD]; omega) | (simp at *; omega) | rfl) (by first | omega | (simp; done) | (simp [-List.getD_eq_getElem?_getD]; omega) | (simp at *; omega) | rfl) (by first | omega | (simp; done) | (simp [-List.getD_eq_getElem?_getD]; omega) | (simp at *; omega) | rfl) (by omega) (by first | omega | (simp; done) | (simp [-List.getD_eq_getElem?_getD]; omega)) (by first | omega | (simp; done) | (simp [-List.getD_eq_getElem?_getD]; omega)) rfl rfl) (Wt.plain rfl) ?_
  rintro _ _ ⟨k4, cap5, junk6, hc7, rfl, rfl⟩
  change (_ : List Blk → Prop) [_, _, _, _]
  refine T.eff (e_store1 ss22 1 rfl rfl rfl rfl (by simp) rfl rfl) (Wt.plain rfl) ?_
  rintro _ _ ⟨rfl, rfl⟩
  change (_ : List Blk → Prop) [_, _, _, _]
  refine T.nil ?_
  refine Ex.next ?_
  refine W.less (L' := [(2, _), (3, _), (5, _)]) [true, true, true, false] ⟨rfl, rfl, rfl, trivial⟩ ?_
  change (_ : List Blk → Prop) [_, _, _]
  refine W.seq ?_
  refine W.region ?_
  refine T.q (q_assign rfl rfl) (Wt.plain rfl) rfl rfl ?_
  refine T.nil ?_
  refine Ex.next ?_
  refine W.slots (L' := [(2, _), (3, _), (5, _), (6, _)]) ⟨rfl, rfl, rfl, rfl, trivial⟩ ?_
  refine W.seq ?_
  refine W.seq ?_
  refine W.region ?_
  refine T.q (q_fld fl59_0 rfl rfl) (Wt.plain rfl) rfl rfl ?_
  refine T.q (q_load1 ss3 2 rfl rfl rfl (rfl)) (Wt.plain rfl) rfl rfl ?_
  refine T.nil ?_
  refine Ex.next ?_
  refine W.slots (L' := [(2, _), (3, _), (5, _), (6, _), (17, _)]) ⟨rfl, rfl, rfl, rfl, rfl, trivial⟩ ?_
  refine W.block ?_
  refine W.seq ?_
  refine W.seq ?_
  refine W.region ?_
  refine T.q (q_bool (b := false) (q_eql rfl rfl rfl) (decide_eq_false (by decide))) (Wt.plain rfl) rfl rfl ?_
  refine T.q (q_assign rfl rfl) (Wt.plain rfl) rfl rfl ?_
  refine T.nil ?_
  refine Ex.next ?_
  refine W.slots (L' := [(2, _), (3, _), (5, _), (6, _), (17, _), (23, _)]) ⟨rfl, rfl, rfl, rfl, rfl, rfl, trivial⟩ ?_
  refine W.condF rfl ?_
  refine W.region ?_
  refine T.q (q_bool (b := false) (q_eql rfl rfl rfl) (decide_eq_false (by decide))) (Wt.plain rfl) rfl rfl ?_
  refine T.q (q_assign rfl rfl) (Wt.plain rfl) rfl rfl ?_
  refine T.nil ?_
  refine Ex.next ?_
  refine W.slots (L' := [(2, _), (3, _), (5, _), (6, _), (17, _), (23, _)]) ⟨rfl, rfl, rfl, rfl, rfl, rfl, trivial⟩ ?_
  refine W.condF rfl ?_
  refine W.seq ?_
  refine W.region ?_
  refine T.q (q_bool (b := false) (q_eql rfl rfl rfl) (decide_eq_false (by decide))) (Wt.plain rfl) rfl rfl ?_
  refine T.q (q_assign rfl rfl) (Wt.plain rfl) rfl rfl ?_
  refine T.nil ?_
  refine Ex.next ?_
  refine W.slots (L' := [(2, _), (3, _), (5, _), (6, _), (17, _), (30, _)]) ⟨rfl, rfl, rfl, rfl, rfl, rfl, trivial⟩ ?_
  refine W.condF rfl ?_
  refine W.seq ?_
  refine W.region ?_
  refine T.q (q_bool (b := false) (q_eql rfl rfl rfl) (decide_eq_false (by decide))) (Wt.plain rfl) rfl rfl ?_
  refine T.q (q_assign rfl rfl) (Wt.plain rfl) rfl rfl ?_
  refine T.nil ?_
  refine Ex.next ?_
  refine W.slots (L' := [(2, _), (3, _), (5, _), (6, _), (17, _), (45, _)]) ⟨rfl, rfl, rfl, rfl, rfl, rfl, trivial⟩ ?_
  refine W.condF rfl ?_
  refine W.seq ?_
  refine W.region ?_
  refine T.q (q_bool (b := false) (q_eql rfl rfl rfl) (decide_eq_false (by decide))) (Wt.plain rfl) rfl rfl ?_
  refine T.q (q_assign rfl rfl) (Wt.plain rfl) rfl rfl ?_
  refine T.nil ?_
  refine Ex.next ?_
  refine W.slots (L' := [(2, _), (3, _), (5, _), (6, _), (59, _)]) ⟨rfl, rfl, rfl, rfl, rfl, trivial⟩ ?_
  refine W.condF rfl ?_
  refine W.region ?_
  refine T.q (q_move rfl rfl) (Wt.plain rfl) rfl rfl ?_
  refine T.q (q_fld fl59_1 rfl rfl) (Wt.plain rfl) rfl rfl ?_
  refine T.q (q_load1 ss3 2 rfl rfl rfl (cell_skip1 (rfl))) (Wt.plain rfl) rfl rfl ?_
  refine T.eff (e_litA sc89 ze3 rfl rfl rfl (by simp [Value.cells]) rfl rfl rfl) (Wt.plain rfl) ?_
  rintro _ _ ⟨k8, rfl, rfl⟩
  change (_ : List Blk → Prop) [_, _, _, _]
  refine T.eff (e_callNF [false, false, true, true] enters74 rfl rfl rfl (hx2' rfl rfl rfl) (fun w hm => nums1 a (by first | omega | (simp; done) | (simp; omega) | (simp at *; omega)) (xs ++ [6]) (by first | omega | (simp; done) | (simp [-List.getD_eq_getElem?_getD]; omega) | (simp at *; omega) | rfl) junk6 (some k4) k1 _ (by first | omega | (simp; done) | (simp; omega) | (simp at *; omega)) (by first | omega | (simp; done) | (simp; omega) | (simp at *; omega)) w (hm.at 1 rfl) (hm.at 0 rfl) (hm.neO 1 0 (by decide) rfl rfl rfl) _ _ (ext2 hm 3 1 0 (by decide) (by decide) rfl rfl rfl rfl)) rfl rfl) (Wt.plain rfl) ?_
  rintro _ _ ⟨_, _, ⟨k9, cap10, junk11, rfl, hc12, rfl⟩, rfl, rfl⟩
  change (_ : List Blk → Prop) [_, _, _, _]
  refine T.nil ?_
  refine Ex.in_normal ?_
  refine Ex.next ?_
  refine W.less (L' := [(2, _), (3, _), (5, _), (6, _)]) [true, false, true, true] ⟨rfl, rfl, rfl, rfl, trivial⟩ ?_
  change (_ : List Blk → Prop) [_, _, _]
  refine W.seq ?_
  refine W.seq ?_
  refine W.region ?_
  refine T.q (q_fld fl59_3 rfl rfl) (Wt.plain rfl) rfl rfl ?_
  refine T.q (q_load1 ss56 0 rfl rfl rfl (cell_skip1 (cell_skip1 (cell_skip1 (rfl))))) (Wt.plain rfl) rfl rfl ?_
  refine T.q (q_len sc56 rfl rfl) (Wt.plain rfl) rfl rfl ?_
  refine T.q (q_move rfl rfl) (Wt.plain rfl) rfl rfl ?_
  refine T.nil ?_
  refine Ex.next ?_
  refine W.less (L' := [(2, _), (5, _), (6, _), (72, _), (73, _), (74, _)]) [false, true, true] ⟨rfl, rfl, rfl, rfl, rfl, rfl, trivial⟩ ?_
  change (_ : List Blk → Prop) [_, _]
  refine W.block ?_
  refine W.loop (α := Nat × Int × Nat × List Int × Option Nat × Nat × List Value) (fun x_ => [(2, .pointer (some ⟨k1, 0, none⟩)), (5, .func (.func 74) #[] #[.pointer (some ⟨k1, 0, none⟩)]), (6, .int .i64 x_.2.1), (72, .slice RA rs.length rc), (73, .int .i64 ((rs.length : Nat) : Int)), (74, .int .i64 ((x_.1 : Nat) : Int))]) (fun x_ => [⟨some k1, [.slice (x_.2.2.2.2.1.map fun k => (⟨k, 0, none⟩ : Addr)) x_.2.2.1 x_.2.2.2.2.2.1], 22, (0, 0)⟩, ⟨x_.2.2.2.2.1, ints .u8 x_.2.2.2.1 ++ x_.2.2.2.2.2.2, 5, (0, 0)⟩]) (fun x_ => x_.1 ≤ rs.length ∧ x_.2.1 = lastR 0 rs x_.1 ∧ 0 ≤ x_.2.1 ∧ x_.2.2.2.1 = ((xs ++ [6]) ++ putV a) ++ wrR (rs.take x_.1) 0 ∧ x_.2.2.1 = x_.2.2.2.1.length ∧ x_.2.2.1 + x_.2.2.2.2.2.2.length = x_.2.2.2.2.2.1 ∧ x_.2.2.1 ≤ xs.length + 40 + 16 * x_.1) (fun x_ => rs.length - x_.1) [true, true] (⟨0, 0, ((xs.length + 1) + 2 ^ kd a), (xs ++ [6]) ++ putV a, k9, cap10, junk11⟩) ⟨Nat.zero_le _, rfl, (by dsimp only; omega), (by simp [wrR]), (by first | (simp; done) | (simp; omega)), (by dsimp only; omega), (by dsimp only; omega)⟩ ⟨rfl, rfl, rfl, rfl, rfl, rfl, trivial⟩ rfl ?_
  rintro ⟨i, la, ln, zs, nk, cq, jq⟩ hinv
  try dsimp only at hinv
  conv => rhs; dsimp only
  conv => arg -2; dsimp only
  obtain ⟨hi, hla, hla0, hz, hln, hcq, hle⟩ := hinv
  refine W.seq ?_
  refine W.region ?_
  refine T.q (q_lss rfl rfl rfl) (Wt.plain rfl) rfl rfl ?_
  refine T.nil ?_
  refine Ex.next ?_
  refine W.slots (L' := [(2, _), (5, _), (6, _), (72, _), (73, _), (74, _), (75, _)]) ⟨rfl, rfl, rfl, rfl, rfl, rfl, rfl, trivial⟩ ?_
  refine W.seq ?_
  refine W.cond _ rfl (fun hb13 => ?_) (fun hb13 => ?_)
  · replace hb13 := of_decide_eq_true hb13
    have hir : i < rs.length := by omega
    obtain ⟨hc1, hc2, hc3⟩ := hris i hir
    rw [← hla] at hc1
    have hk1 := pow_kd_le ((rs.getD i (0, 0)).1 - la).toNat
    have hk2 := pow_kd_le ((rs.getD i (0, 0)).2 - (rs.getD i (0, 0)).1).toNat
    refine W.skip ?_
    refine Ex.next ?_
    refine W.slots (L' := [(2, _), (5, _), (6, _), (72, _), (73, _), (74, _)]) ⟨rfl, rfl, rfl, rfl, rfl, rfl, trivial⟩ ?_
    refine W.seq ?_
    refine W.block ?_
    refine W.seq ?_
    refine W.region ?_
    refine T.q (q_ixE sc56 i (R_ext hR) rfl rfl rfl (by omega) (by omega) (by rw [ints_length, flat_length]; omega)) (Wt.plain rfl) rfl rfl ?_
    refine T.q (q_loadW wd74 (R_elem (R_ext hR) (i * 2) 2 (flat_getV (by omega))) rfl rfl) (Wt.plain rfl) rfl rfl ?_
    refine T.eff (e_alloc ze74 rfl rfl rfl) (Wt.plain rfl) ?_
    rintro _ _ ⟨k14, rfl, rfl⟩
    change (_ : List Blk → Prop) [_, _, _]
    refine T.eff (e_storeA wd74 2 rfl rfl rfl rfl (by first | omega | (simp; done) | (simp [-List.getD_eq_getElem?_getD]; omega) | (simp at *; omega) | rfl) (by simp [Value.oneCell']) rfl) (Wt.plain rfl) ?_
    rintro _ _ ⟨rfl, rfl⟩
    change (_ : List Blk → Prop) [_, _, _]
    refine T.nil ?_
    refine Ex.next ?_
    refine W.slots (L' := [(2, _), (5, _), (6, _), (8, _), (72, _), (73, _), (74, _)]) ⟨rfl, rfl, rfl, rfl, rfl, rfl, rfl, trivial⟩ ?_
    refine W.seq ?_
    refine W.region ?_
    refine T.q (q_move rfl rfl) (Wt.plain rfl) rfl rfl ?_
    refine T.q (q_fld fl74_0 rfl rfl) (Wt.plain rfl) rfl rfl ?_
    refine T.q (q_load1 ss3 2 rfl rfl rfl rfl) (Wt.plain rfl) rfl rfl ?_
    refine T.q (q_move rfl rfl) (Wt.plain rfl) rfl rfl ?_
    refine T.q (q_int (b := ((((rs.getD i (0, 0)).1 - la).toNat : Nat) : Int)) (q_subi rfl rfl rfl (by omega) (by omega)) ?hE) (Wt.plain rfl) rfl rfl ?_
    case hE => omega
    refine T.q (q_fld fl74_1 rfl rfl) (Wt.plain rfl) rfl rfl ?_
    refine T.q (q_load1 ss3 2 rfl rfl rfl rfl) (Wt.plain rfl) rfl rfl ?_
    refine T.q (q_fld fl74_0 rfl rfl) (Wt.plain rfl) rfl rfl ?_
    refine T.q (q_load1 ss3 2 rfl rfl rfl rfl) (Wt.plain rfl) rfl rfl ?_
    refine T.q (q_int (b := ((((rs.getD i (0, 0)).2 - (rs.getD i (0, 0)).1).toNat : Nat) : Int)) (q_subi rfl rfl rfl (by omega) (by omega)) ?hE) (Wt.plain rfl) rfl rfl ?_
    case hE => omega
    refine T.eff (e_litA sc89 ze3 rfl rfl rfl (by simp [Value.cells]) rfl rfl rfl) (Wt.plain rfl) ?_
    rintro _ _ ⟨k15, rfl, rfl⟩
    change (_ : List Blk → Prop) [_, _, _, _]
    refine T.eff (e_callNF [false, false, true, true] enters74 rfl rfl rfl (hx2 rfl rfl rfl) (fun w hm => nums2 (((rs.getD i (0, 0)).1 - la).toNat) (((rs.getD i (0, 0)).2 - (rs.getD i (0, 0)).1).toNat) (by first | omega | (simp; done) | (simp; omega) | (simp at *; omega)) (by first | omega | (simp; done) | (simp; omega) | (simp at *; omega)) zs (by first | omega | (simp; done) | (simp [-List.getD_eq_getElem?_getD]; omega) | (simp at *; omega) | rfl) jq nk k1 _ (by first | omega | (simp; done) | (simp; omega) | (simp at *; omega)) (by first | omega | (simp; done) | (simp; omega) | (simp at *; omega)) w (hm.at 0 rfl) (hm.at 1 rfl) (hm.neO 0 1 (by decide) rfl rfl rfl) _ _ (ext2 hm 3 0 1 (by decide) (by decide) rfl rfl rfl rfl)) rfl rfl) (Wt.plain rfl) ?_
    rintro _ _ ⟨_, _, ⟨k16, cap17, junk18, rfl, hc19, rfl⟩, rfl, rfl⟩
    change (_ : List Blk → Prop) [_, _, _, _]
    refine T.nil ?_
    refine Ex.next ?_
    refine W.less (L' := [(2, _), (5, _), (8, _), (72, _), (73, _), (74, _)]) [true, false, true, true] ⟨rfl, rfl, rfl, rfl, rfl, rfl, trivial⟩ ?_
    change (_ : List Blk → Prop) [_, _, _]
    refine W.region ?_
    refine T.q (q_fld fl74_1 rfl rfl) (Wt.plain rfl) rfl rfl ?_
    refine T.q (q_load1 ss3 0 rfl rfl rfl rfl) (Wt.plain rfl) rfl rfl ?_
    refine T.q (q_assign rfl rfl) (Wt.plain rfl) rfl rfl ?_
    refine T.nil ?_
    refine Ex.in_normal ?_
    refine Ex.next ?_
    refine W.less (L' := [(2, _), (5, _), (6, _), (72, _), (73, _), (74, _)]) [false, true, true] ⟨rfl, rfl, rfl, rfl, rfl, rfl, trivial⟩ ?_
    change (_ : List Blk → Prop) [_, _]
    refine W.region ?_
    refine T.q (q_addi rfl rfl rfl (by omega) (by omega)) (Wt.plain rfl) rfl rfl ?_
    refine T.q (q_move rfl rfl) (Wt.plain rfl) rfl rfl ?_
    refine T.nil ?_
    exact Ex.again [true, true] (⟨i + 1, (rs.getD i (0, 0)).2, ((ln + 2 ^ kd (((rs.getD i (0, 0)).1 - la).toNat)) + 2 ^ kd (((rs.getD i (0, 0)).2 - (rs.getD i (0, 0)).1).toNat)), zs ++ (putV (((rs.getD i (0, 0)).1 - la).toNat) ++ putV (((rs.getD i (0, 0)).2 - (rs.getD i (0, 0)).1).toNat)), k16, cap17, junk18⟩ : Nat × Int × Nat × List Int × Option Nat × Nat × List Value) (by dsimp only; omega) ⟨by dsimp only; omega, (by dsimp only; rw [lastR_succ]), by dsimp only; omega, (by dsimp only; rw [wrR_take rs _ i hir, ← hla, hz, List.append_assoc]), (by dsimp only; simp [hln]; omega), by dsimp only; omega, by dsimp only; omega⟩ ⟨rfl, rfl, rfl, rfl, rfl, rfl, trivial⟩ (by first | (dsimp only [pick]; done) | rfl)
  replace hb13 := of_decide_eq_false hb13
  obtain rfl : i = rs.length := by omega
  rw [List.take_length] at hz
  refine W.exit ?_
  refine Ex.then_exit ?_
  refine Ex.then_exit ?_
  refine Ex.in_here ?_
  refine Ex.next ?_
  refine W.slots (L' := [(2, _)]) ⟨rfl, trivial⟩ ?_
  refine W.seq ?_
  refine W.region ?_
  refine T.q (q_load1 ss22 0 rfl rfl rfl rfl) (Wt.plain rfl) rfl rfl ?_
  refine T.q (q_assign rfl rfl) (Wt.plain rfl) rfl rfl ?_
  refine T.nil ?_
  refine Ex.next ?_
  refine W.slots (L' := [(4, _)]) ⟨rfl, trivial⟩ ?_
  refine W.ret ?_
  refine Ex.out1 [false, true] rfl rfl ?_
  have hw : zs = xs ++ wr ⟨6, ((a : Nat) : Int), l, rs, bs, tok⟩ := by rw [hz, List.eq_nil_of_length_eq_zero hr0]; simp [wr, wrT, wrR]
  have hlw : ln = xs.length + (wr ⟨6, ((a : Nat) : Int), l, rs, bs, tok⟩).length := by have e := congrArg List.length hw; simp at e ⊢; try omega
  exact ⟨nk, cq, jq, by rw [← hlw] <;> rfl, by omega, by rw [← hw] <;> rfl⟩
set_option maxRecDepth 100000 in
theorem wr_2 (xs : List Int) (js : List Value) (no : Option Nat) (cp : Nat) (hl : xs.length + js.length = cp) (hx : xs.length ≤ 140737488340000) (a l : Nat) (ha : a < 4611686018427387904) (hl2 : l < 4611686018427387904) (rs : List (Int × Int)) (bs tok : List Int) (RA BA : Option Addr) (rc bc : Nat) (hr8 : rs.length ≤ 8) (hris : ∀ i, i < rs.length → lastR ((a : Nat) : Int) rs i ≤ (rs.getD i (0, 0)).1 ∧ (rs.getD i (0, 0)).1 < (rs.getD i (0, 0)).2 ∧ (rs.getD i (0, 0)).2 ≤ 4611686018427387903) (w0 : World) (hc : (⟨no, ints .u8 xs ++ js, 5, (0, 0)⟩ : Blk).here w0) (hR : Ext w0 no.toList RA (ints .i64 (flat rs))) : Does Try.prog 60 #[.slice (no.map fun k => (⟨k, 0, none⟩ : Addr)) xs.length cp, .agg (.int .i64 2 :: (.int .i64 ((a : Nat) : Int) :: (.int .i64 ((l : Nat) : Int) :: (.slice RA rs.length rc :: (.slice BA bs.length bc :: (ints .u8 tok)))))).toArray] w0 no.toList (fun v G => ∃ (nk : Option Nat) (cap : Nat) (junk : List Value), v = .slice (nk.map fun k => (⟨k, 0, none⟩ : Addr)) (xs.length + (wr ⟨2, ((a : Nat) : Int), ((l : Nat) : Int), rs, bs, tok⟩).length) cap ∧ xs.length + (wr ⟨2, ((a : Nat) : Int), ((l : Nat) : Int), rs, bs, tok⟩).length + junk.length = cap ∧ G = [⟨nk, ints .u8 (xs ++ wr ⟨2, ((a : Nat) : Int), ((l : Nat) : Int), rs, bs, tok⟩) ++ junk, 5, (0, 0)⟩]) := by
  have hka := pow_kd_le a
  have hkl := pow_kd_le l
  have hkr := pow_kd_le rs.length
  refine spec_ofB 94 [⟨no, ints .u8 xs ++ js, 5, (0, 0)⟩] (Mem.ownO hc) Try.func60 rfl rfl rfl ?_
  refine W.seq ?_
  refine W.region ?_
  refine T.eff (e_box rfl rfl rfl rfl) (Wt.plain rfl) ?_
  rintro _ _ ⟨k1, rfl, rfl⟩
  change (_ : List Blk → Prop) [_, _]
  change (_ : List Blk → Prop) [_, ⟨some k1, [.slice (no.map fun k => (⟨k, 0, none⟩ : Addr)) xs.length cp], 22, (0, 0)⟩]
  refine T.eff (e_box rfl rfl rfl rfl) (Wt.plain rfl) ?_
  rintro _ _ ⟨k2, rfl, rfl⟩
  change (_ : List Blk → Prop) [_, _, _]
  change (_ : List Blk → Prop) [_, _, ⟨some k2, .int .i64 2 :: (.int .i64 ((a : Nat) : Int) :: (.int .i64 ((l : Nat) : Int) :: (.slice RA rs.length rc :: (.slice BA bs.length bc :: (ints .u8 tok))))), 59, (0, 0)⟩]
  refine T.q (q_assign rfl rfl) (Wt.plain rfl) rfl rfl ?_
  refine T.nil ?_
  refine Ex.next ?_
  refine W.slots (L' := [(2, _), (3, _)]) ⟨rfl, rfl, trivial⟩ ?_
  refine W.seq ?_
  refine W.region ?_
  refine T.q (q_func (first := []) rfl rfl rfl) (Wt.plain rfl) rfl rfl ?_
  refine T.q (q_assign rfl rfl) (Wt.plain rfl) rfl rfl ?_
  refine T.nil ?_
  refine Ex.next ?_
  refine W.slots (L' := [(2, _), (3, _), (5, _)]) ⟨rfl, rfl, rfl, trivial⟩ ?_
  refine W.seq ?_
  refine W.region ?_
  refine T.q (q_load1 ss22 1 rfl rfl rfl rfl) (Wt.plain rfl) rfl rfl ?_
  refine T.q (q_fld fl59_0 rfl rfl) (Wt.plain rfl) rfl rfl ?_
  refine T.q (q_load1 ss3 2 rfl rfl rfl (rfl)) (Wt.plain rfl) rfl rfl ?_
  refine T.q (q_int (b := 2) (q_conv un3 un5 rfl rfl) ?hE) (Wt.plain rfl) rfl rfl ?_
  case hE => decide
  refine T.eff (e_litA sc22 ze5 rfl rfl rfl (by simp [Value.cells]) rfl rfl rfl) (Wt.plain rfl) ?_
  rintro _ _ ⟨k3, rfl, rfl⟩
  change (_ : List Blk → Prop) [_, _, _, _]
  refine T.eff (e_appendO sc22 ze5 rfl 0 .u8 xs [2] js (rfl) (R_blk 3 rfl) rfl rfl rfl rfl (by first | omega | (simp; done) | (simp [-List.getD_eq_getElem?_getD]; omega) | (simp at *; omega) | rfl) (by first | omega | (simp; done) | (simp [-List.getD_eq_getElem?_getD]; omega) | (simp at *; omega) | rfl) (by first | omega | (simp; done) | (simp [-List.getD_eq_getElem?_getD]; omega) | (simp at *; omega) | rfl) (by omega) (by first | omega | (simp; done) | (simp [-List.getD_eq_getElem?_getD]; omega)) (by first | omega | (simp; done) | (simp [-List.getD_eq_getElem?_getD]; omega)) rfl rfl) (Wt.plain rfl) ?_
  rintro _ _ ⟨k4, cap5, junk6, hc7, rfl, rfl⟩
  change (_ : List Blk → Prop) [_, _, _, _]
  refine T.eff (e_store1 ss22 1 rfl rfl rfl rfl (by simp) rfl rfl) (Wt.plain rfl) ?_
  rintro _ _ ⟨rfl, rfl⟩
  change (_ : List Blk → Prop) [_, _, _, _]
  refine T.nil ?_
  refine Ex.next ?_
  refine W.less (L' := [(2, _), (3, _), (5, _)]) [true, true, true, false] ⟨rfl, rfl, rfl, trivial⟩ ?_
  change (_ : List Blk → Prop) [_, _, _]
  refine W.seq ?_
  refine W.region ?_
  refine T.q (q_assign rfl rfl) (Wt.plain rfl) rfl rfl ?_
  refine T.nil ?_
  refine Ex.next ?_
  refine W.slots (L' := [(2, _), (3, _), (5, _), (6, _)]) ⟨rfl, rfl, rfl, rfl, trivial⟩ ?_
  refine W.seq ?_
  refine W.seq ?_
  refine W.region ?_
  refine T.q (q_fld fl59_0 rfl rfl) (Wt.plain rfl) rfl rfl ?_
  refine T.q (q_load1 ss3 2 rfl rfl rfl (rfl)) (Wt.plain rfl) rfl rfl ?_
  refine T.nil ?_
  refine Ex.next ?_
  refine W.slots (L' := [(2, _), (3, _), (5, _), (6, _), (17, _)]) ⟨rfl, rfl, rfl, rfl, rfl, trivial⟩ ?_
  refine W.block ?_
  refine W.seq ?_
  refine W.seq ?_
  refine W.region ?_
  refine T.q (q_bool (b := false) (q_eql rfl rfl rfl) (decide_eq_false (by decide))) (Wt.plain rfl) rfl rfl ?_
  refine T.q (q_assign rfl rfl) (Wt.plain rfl) rfl rfl ?_
  refine T.nil ?_
  refine Ex.next ?_
  refine W.slots (L' := [(2, _), (3, _), (5, _), (6, _), (17, _), (23, _)]) ⟨rfl, rfl, rfl, rfl, rfl, rfl, trivial⟩ ?_
  refine W.condF rfl ?_
  refine W.region ?_
  refine T.q (q_bool (b := false) (q_eql rfl rfl rfl) (decide_eq_false (by decide))) (Wt.plain rfl) rfl rfl ?_
  refine T.q (q_assign rfl rfl) (Wt.plain rfl) rfl rfl ?_
  refine T.nil ?_
  refine Ex.next ?_
  refine W.slots (L' := [(2, _), (3, _), (5, _), (6, _), (17, _), (23, _)]) ⟨rfl, rfl, rfl, rfl, rfl, rfl, trivial⟩ ?_
  refine W.condF rfl ?_
  refine W.seq ?_
  refine W.region ?_
  refine T.q (q_bool (b := false) (q_eql rfl rfl rfl) (decide_eq_false (by decide))) (Wt.plain rfl) rfl rfl ?_
  refine T.q (q_assign rfl rfl) (Wt.plain rfl) rfl rfl ?_
  refine T.nil ?_
  refine Ex.next ?_
  refine W.slots (L' := [(2, _), (3, _), (5, _), (6, _), (17, _), (30, _)]) ⟨rfl, rfl, rfl, rfl, rfl, rfl, trivial⟩ ?_
  refine W.condF rfl ?_
  refine W.seq ?_
  refine W.region ?_
  refine T.q (q_bool (b := true) (q_eql rfl rfl rfl) (decide_eq_true (by decide))) (Wt.plain rfl) rfl rfl ?_
  refine T.q (q_assign rfl rfl) (Wt.plain rfl) rfl rfl ?_
  refine T.nil ?_
  refine Ex.next ?_
  refine W.slots (L' := [(2, _), (3, _), (5, _), (6, _), (17, _), (45, _)]) ⟨rfl, rfl, rfl, rfl, rfl, rfl, trivial⟩ ?_
  refine W.condT rfl ?_
  refine W.seq ?_
  refine W.region ?_
  refine T.q (q_move rfl rfl) (Wt.plain rfl) rfl rfl ?_
  refine T.q (q_fld fl59_1 rfl rfl) (Wt.plain rfl) rfl rfl ?_
  refine T.q (q_load1 ss3 2 rfl rfl rfl (cell_skip1 (rfl))) (Wt.plain rfl) rfl rfl ?_
  refine T.q (q_fld fl59_2 rfl rfl) (Wt.plain rfl) rfl rfl ?_
  refine T.q (q_load1 ss3 2 rfl rfl rfl (cell_skip1 (cell_skip1 (rfl)))) (Wt.plain rfl) rfl rfl ?_
  refine T.q (q_fld fl59_3 rfl rfl) (Wt.plain rfl) rfl rfl ?_
  refine T.q (q_load1 ss56 2 rfl rfl rfl (cell_skip1 (cell_skip1 (cell_skip1 (rfl))))) (Wt.plain rfl) rfl rfl ?_
  refine T.q (q_len sc56 rfl rfl) (Wt.plain rfl) rfl rfl ?_
  refine T.eff (e_litA sc89 ze3 rfl rfl rfl (by simp [Value.cells]) rfl rfl rfl) (Wt.plain rfl) ?_
  rintro _ _ ⟨k8, rfl, rfl⟩
  change (_ : List Blk → Prop) [_, _, _, _]
  refine T.eff (e_callNF [false, false, true, true] enters74 rfl rfl rfl (hx2' rfl rfl rfl) (fun w hm => nums3 a l rs.length (by first | omega | (simp; done) | (simp; omega) | (simp at *; omega)) (by first | omega | (simp; done) | (simp; omega) | (simp at *; omega)) (by first | omega | (simp; done) | (simp; omega) | (simp at *; omega)) (xs ++ [2]) (by first | omega | (simp; done) | (simp [-List.getD_eq_getElem?_getD]; omega) | (simp at *; omega) | rfl) junk6 (some k4) k1 _ (by first | omega | (simp; done) | (simp; omega) | (simp at *; omega)) (by first | omega | (simp; done) | (simp; omega) | (simp at *; omega)) w (hm.at 1 rfl) (hm.at 0 rfl) (hm.neO 1 0 (by decide) rfl rfl rfl) _ _ (ext2 hm 3 1 0 (by decide) (by decide) rfl rfl rfl rfl)) rfl rfl) (Wt.plain rfl) ?_
  rintro _ _ ⟨_, _, ⟨k9, cap10, junk11, rfl, hc12, rfl⟩, rfl, rfl⟩
  change (_ : List Blk → Prop) [_, _, _, _]
  refine T.nil ?_
  refine Ex.next ?_
  refine W.less (L' := [(2, _), (3, _), (5, _)]) [true, false, true, true] ⟨rfl, rfl, rfl, trivial⟩ ?_
  change (_ : List Blk → Prop) [_, _, _]
  refine W.region ?_
  refine T.q (q_fld fl59_1 rfl rfl) (Wt.plain rfl) rfl rfl ?_
  refine T.q (q_load1 ss3 0 rfl rfl rfl (cell_skip1 (rfl))) (Wt.plain rfl) rfl rfl ?_
  refine T.q (q_assign rfl rfl) (Wt.plain rfl) rfl rfl ?_
  refine T.nil ?_
  refine Ex.in_normal ?_
  refine Ex.next ?_
  refine W.slots (L' := [(2, _), (3, _), (5, _), (6, _)]) ⟨rfl, rfl, rfl, rfl, trivial⟩ ?_
  refine W.seq ?_
  refine W.seq ?_
  refine W.region ?_
  refine T.q (q_fld fl59_3 rfl rfl) (Wt.plain rfl) rfl rfl ?_
  refine T.q (q_load1 ss56 0 rfl rfl rfl (cell_skip1 (cell_skip1 (cell_skip1 (rfl))))) (Wt.plain rfl) rfl rfl ?_
  refine T.q (q_len sc56 rfl rfl) (Wt.plain rfl) rfl rfl ?_
  refine T.q (q_move rfl rfl) (Wt.plain rfl) rfl rfl ?_
  refine T.nil ?_
  refine Ex.next ?_
  refine W.less (L' := [(2, _), (5, _), (6, _), (72, _), (73, _), (74, _)]) [false, true, true] ⟨rfl, rfl, rfl, rfl, rfl, rfl, trivial⟩ ?_
  change (_ : List Blk → Prop) [_, _]
  refine W.block ?_
  refine W.loop (α := Nat × Int × Nat × List Int × Option Nat × Nat × List Value) (fun x_ => [(2, .pointer (some ⟨k1, 0, none⟩)), (5, .func (.func 74) #[] #[.pointer (some ⟨k1, 0, none⟩)]), (6, .int .i64 x_.2.1), (72, .slice RA rs.length rc), (73, .int .i64 ((rs.length : Nat) : Int)), (74, .int .i64 ((x_.1 : Nat) : Int))]) (fun x_ => [⟨some k1, [.slice (x_.2.2.2.2.1.map fun k => (⟨k, 0, none⟩ : Addr)) x_.2.2.1 x_.2.2.2.2.2.1], 22, (0, 0)⟩, ⟨x_.2.2.2.2.1, ints .u8 x_.2.2.2.1 ++ x_.2.2.2.2.2.2, 5, (0, 0)⟩]) (fun x_ => x_.1 ≤ rs.length ∧ x_.2.1 = lastR ((a : Nat) : Int) rs x_.1 ∧ 0 ≤ x_.2.1 ∧ x_.2.2.2.1 = ((xs ++ [2]) ++ (putV a ++ (putV l ++ putV rs.length))) ++ wrR (rs.take x_.1) ((a : Nat) : Int) ∧ x_.2.2.1 = x_.2.2.2.1.length ∧ x_.2.2.1 + x_.2.2.2.2.2.2.length = x_.2.2.2.2.2.1 ∧ x_.2.2.1 ≤ xs.length + 40 + 16 * x_.1) (fun x_ => rs.length - x_.1) [true, true] (⟨0, ((a : Nat) : Int), ((((xs.length + 1) + 2 ^ kd a) + 2 ^ kd l) + 2 ^ kd rs.length), (xs ++ [2]) ++ (putV a ++ (putV l ++ putV rs.length)), k9, cap10, junk11⟩) ⟨Nat.zero_le _, rfl, (by dsimp only; omega), (by simp [wrR]), (by first | (simp; done) | (simp; omega)), (by dsimp only; omega), (by dsimp only; omega)⟩ ⟨rfl, rfl, rfl, rfl, rfl, rfl, trivial⟩ rfl ?_
  rintro ⟨i, la, ln, zs, nk, cq, jq⟩ hinv
  try dsimp only at hinv
  conv => rhs; dsimp only
  conv => arg -2; dsimp only
  obtain ⟨hi, hla, hla0, hz, hln, hcq, hle⟩ := hinv
  refine W.seq ?_
  refine W.region ?_
  refine T.q (q_lss rfl rfl rfl) (Wt.plain rfl) rfl rfl ?_
  refine T.nil ?_
  refine Ex.next ?_
  refine W.slots (L' := [(2, _), (5, _), (6, _), (72, _), (73, _), (74, _), (75, _)]) ⟨rfl, rfl, rfl, rfl, rfl, rfl, rfl, trivial⟩ ?_
  refine W.seq ?_
  refine W.cond _ rfl (fun hb13 => ?_) (fun hb13 => ?_)
  · replace hb13 := of_decide_eq_true hb13
    have hir : i < rs.length := by omega
    obtain ⟨hc1, hc2, hc3⟩ := hris i hir
    rw [← hla] at hc1
    have hk1 := pow_kd_le ((rs.getD i (0, 0)).1 - la).toNat
    have hk2 := pow_kd_le ((rs.getD i (0, 0)).2 - (rs.getD i (0, 0)).1).toNat
    refine W.skip ?_
    refine Ex.next ?_
    refine W.slots (L' := [(2, _), (5, _), (6, _), (72, _), (73, _), (74, _)]) ⟨rfl, rfl, rfl, rfl, rfl, rfl, trivial⟩ ?_
    refine W.seq ?_
    refine W.block ?_
    refine W.seq ?_
    refine W.region ?_
    refine T.q (q_ixE sc56 i (R_ext hR) rfl rfl rfl (by omega) (by omega) (by rw [ints_length, flat_length]; omega)) (Wt.plain rfl) rfl rfl ?_
    refine T.q (q_loadW wd74 (R_elem (R_ext hR) (i * 2) 2 (flat_getV (by omega))) rfl rfl) (Wt.plain rfl) rfl rfl ?_
    refine T.eff (e_alloc ze74 rfl rfl rfl) (Wt.plain rfl) ?_
    rintro _ _ ⟨k14, rfl, rfl⟩
    change (_ : List Blk → Prop) [_, _, _]
    refine T.eff (e_storeA wd74 2 rfl rfl rfl rfl (by first | omega | (simp; done) | (simp [-List.getD_eq_getElem?_getD]; omega) | (simp at *; omega) | rfl) (by simp [Value.oneCell']) rfl) (Wt.plain rfl) ?_
    rintro _ _ ⟨rfl, rfl⟩
    change (_ : List Blk → Prop) [_, _, _]
    refine T.nil ?_
    refine Ex.next ?_
    refine W.slots (L' := [(2, _), (5, _), (6, _), (8, _), (72, _), (73, _), (74, _)]) ⟨rfl, rfl, rfl, rfl, rfl, rfl, rfl, trivial⟩ ?_
    refine W.seq ?_
    refine W.region ?_
    refine T.q (q_move rfl rfl) (Wt.plain rfl) rfl rfl ?_
    refine T.q (q_fld fl74_0 rfl rfl) (Wt.plain rfl) rfl rfl ?_
    refine T.q (q_load1 ss3 2 rfl rfl rfl rfl) (Wt.plain rfl) rfl rfl ?_
    refine T.q (q_move rfl rfl) (Wt.plain rfl) rfl rfl ?_
    refine T.q (q_int (b := ((((rs.getD i (0, 0)).1 - la).toNat : Nat) : Int)) (q_subi rfl rfl rfl (by omega) (by omega)) ?hE) (Wt.plain rfl) rfl rfl ?_
    case hE => omega
    refine T.q (q_fld fl74_1 rfl rfl) (Wt.plain rfl) rfl rfl ?_
    refine T.q (q_load1 ss3 2 rfl rfl rfl rfl) (Wt.plain rfl) rfl rfl ?_
    refine T.q (q_fld fl74_0 rfl rfl) (Wt.plain rfl) rfl rfl ?_
    refine T.q (q_load1 ss3 2 rfl rfl rfl rfl) (Wt.plain rfl) rfl rfl ?_
    refine T.q (q_int (b := ((((rs.getD i (0, 0)).2 - (rs.getD i (0, 0)).1).toNat : Nat) : Int)) (q_subi rfl rfl rfl (by omega) (by omega)) ?hE) (Wt.plain rfl) rfl rfl ?_
    case hE => omega
    refine T.eff (e_litA sc89 ze3 rfl rfl rfl (by simp [Value.cells]) rfl rfl rfl) (Wt.plain rfl) ?_
    rintro _ _ ⟨k15, rfl, rfl⟩
    change (_ : List Blk → Prop) [_, _, _, _]
    refine T.eff (e_callNF [false, false, true, true] enters74 rfl rfl rfl (hx2 rfl rfl rfl) (fun w hm => nums2 (((rs.getD i (0, 0)).1 - la).toNat) (((rs.getD i (0, 0)).2 - (rs.getD i (0, 0)).1).toNat) (by first | omega | (simp; done) | (simp; omega) | (simp at *; omega)) (by first | omega | (simp; done) | (simp; omega) | (simp at *; omega)) zs (by first | omega | (simp; done) | (simp [-List.getD_eq_getElem?_getD]; omega) | (simp at *; omega) | rfl) jq nk k1 _ (by first | omega | (simp; done) | (simp; omega) | (simp at *; omega)) (by first | omega | (simp; done) | (simp; omega) | (simp at *; omega)) w (hm.at 0 rfl) (hm.at 1 rfl) (hm.neO 0 1 (by decide) rfl rfl rfl) _ _ (ext2 hm 3 0 1 (by decide) (by decide) rfl rfl rfl rfl)) rfl rfl) (Wt.plain rfl) ?_
    rintro _ _ ⟨_, _, ⟨k16, cap17, junk18, rfl, hc19, rfl⟩, rfl, rfl⟩
    change (_ : List Blk → Prop) [_, _, _, _]
    refine T.nil ?_
    refine Ex.next ?_
    refine W.less (L' := [(2, _), (5, _), (8, _), (72, _), (73, _), (74, _)]) [true, false, true, true] ⟨rfl, rfl, rfl, rfl, rfl, rfl, trivial⟩ ?_
    change (_ : List Blk → Prop) [_, _, _]
    refine W.region ?_
    refine T.q (q_fld fl74_1 rfl rfl) (Wt.plain rfl) rfl rfl ?_
    refine T.q (q_load1 ss3 0 rfl rfl rfl rfl) (Wt.plain rfl) rfl rfl ?_
    refine T.q (q_assign rfl rfl) (Wt.plain rfl) rfl rfl ?_
    refine T.nil ?_
    refine Ex.in_normal ?_
    refine Ex.next ?_
    refine W.less (L' := [(2, _), (5, _), (6, _), (72, _), (73, _), (74, _)]) [false, true, true] ⟨rfl, rfl, rfl, rfl, rfl, rfl, trivial⟩ ?_
    change (_ : List Blk → Prop) [_, _]
    refine W.region ?_
    refine T.q (q_addi rfl rfl rfl (by omega) (by omega)) (Wt.plain rfl) rfl rfl ?_
    refine T.q (q_move rfl rfl) (Wt.plain rfl) rfl rfl ?_
    refine T.nil ?_
    exact Ex.again [true, true] (⟨i + 1, (rs.getD i (0, 0)).2, ((ln + 2 ^ kd (((rs.getD i (0, 0)).1 - la).toNat)) + 2 ^ kd (((rs.getD i (0, 0)).2 - (rs.getD i (0, 0)).1).toNat)), zs ++ (putV (((rs.getD i (0, 0)).1 - la).toNat) ++ putV (((rs.getD i (0, 0)).2 - (rs.getD i (0, 0)).1).toNat)), k16, cap17, junk18⟩ : Nat × Int × Nat × List Int × Option Nat × Nat × List Value) (by dsimp only; omega) ⟨by dsimp only; omega, (by dsimp only; rw [lastR_succ]), by dsimp only; omega, (by dsimp only; rw [wrR_take rs _ i hir, ← hla, hz, List.append_assoc]), (by dsimp only; simp [hln]; omega), by dsimp only; omega, by dsimp only; omega⟩ ⟨rfl, rfl, rfl, rfl, rfl, rfl, trivial⟩ (by first | (dsimp only [pick]; done) | rfl)
  replace hb13 := of_decide_eq_false hb13
  obtain rfl : i = rs.length := by omega
  rw [List.take_length] at hz
  refine W.exit ?_
  refine Ex.then_exit ?_
  refine Ex.then_exit ?_
  refine Ex.in_here ?_
  refine Ex.next ?_
  refine W.slots (L' := [(2, _)]) ⟨rfl, trivial⟩ ?_
  refine W.seq ?_
  refine W.region ?_
  refine T.q (q_load1 ss22 0 rfl rfl rfl rfl) (Wt.plain rfl) rfl rfl ?_
  refine T.q (q_assign rfl rfl) (Wt.plain rfl) rfl rfl ?_
  refine T.nil ?_
  refine Ex.next ?_
  refine W.slots (L' := [(4, _)]) ⟨rfl, trivial⟩ ?_
  refine W.ret ?_
  refine Ex.out1 [false, true] rfl rfl ?_
  have hw : zs = xs ++ wr ⟨2, ((a : Nat) : Int), ((l : Nat) : Int), rs, bs, tok⟩ := by rw [hz]; simp [wr, wrT]
  have hlw : ln = xs.length + (wr ⟨2, ((a : Nat) : Int), ((l : Nat) : Int), rs, bs, tok⟩).length := by have e := congrArg List.length hw; simp at e ⊢; try omega
  exact ⟨nk, cq, jq, by rw [← hlw] <;> rfl, by omega, by rw [← hw] <;> rfl⟩
set_option maxRecDepth 100000 in
theorem wr_7 (xs : List Int) (js : List Value) (no : Option Nat) (cp : Nat) (hl : xs.length + js.length = cp) (hx : xs.length ≤ 140737488340000) (a l : Nat) (ha : a < 4611686018427387904) (hl2 : l < 4611686018427387904) (rs : List (Int × Int)) (bs tok : List Int) (RA BA : Option Addr) (rc bc : Nat) (hr8 : rs.length ≤ 8) (hris : ∀ i, i < rs.length → lastR 0 rs i ≤ (rs.getD i (0, 0)).1 ∧ (rs.getD i (0, 0)).1 < (rs.getD i (0, 0)).2 ∧ (rs.getD i (0, 0)).2 ≤ 4611686018427387903) (w0 : World) (hc : (⟨no, ints .u8 xs ++ js, 5, (0, 0)⟩ : Blk).here w0) (hR : Ext w0 no.toList RA (ints .i64 (flat rs))) : Does Try.prog 60 #[.slice (no.map fun k => (⟨k, 0, none⟩ : Addr)) xs.length cp, .agg (.int .i64 7 :: (.int .i64 ((a : Nat) : Int) :: (.int .i64 ((l : Nat) : Int) :: (.slice RA rs.length rc :: (.slice BA bs.length bc :: (ints .u8 tok)))))).toArray] w0 no.toList (fun v G => ∃ (nk : Option Nat) (cap : Nat) (junk : List Value), v = .slice (nk.map fun k => (⟨k, 0, none⟩ : Addr)) (xs.length + (wr ⟨7, ((a : Nat) : Int), ((l : Nat) : Int), rs, bs, tok⟩).length) cap ∧ xs.length + (wr ⟨7, ((a : Nat) : Int), ((l : Nat) : Int), rs, bs, tok⟩).length + junk.length = cap ∧ G = [⟨nk, ints .u8 (xs ++ wr ⟨7, ((a : Nat) : Int), ((l : Nat) : Int), rs, bs, tok⟩) ++ junk, 5, (0, 0)⟩]) := by
  have hka := pow_kd_le a
  have hkl := pow_kd_le l
  have hkr := pow_kd_le rs.length
  refine spec_ofB 94 [⟨no, ints .u8 xs ++ js, 5, (0, 0)⟩] (Mem.ownO hc) Try.func60 rfl rfl rfl ?_
  refine W.seq ?_
  refine W.region ?_
  refine T.eff (e_box rfl rfl rfl rfl) (Wt.plain rfl) ?_
  rintro _ _ ⟨k1, rfl, rfl⟩
  change (_ : List Blk → Prop) [_, _]
  change (_ : List Blk → Prop) [_, ⟨some k1, [.slice (no.map fun k => (⟨k, 0, none⟩ : Addr)) xs.length cp], 22, (0, 0)⟩]
  refine T.eff (e_box rfl rfl rfl rfl) (Wt.plain rfl) ?_
  rintro _ _ ⟨k2, rfl, rfl⟩
  change (_ : List Blk → Prop) [_, _, _]
  change (_ : List Blk → Prop) [_, _, ⟨some k2, .int .i64 7 :: (.int .i64 ((a : Nat) : Int) :: (.int .i64 ((l : Nat) : Int) :: (.slice RA rs.length rc :: (.slice BA bs.length bc :: (ints .u8 tok))))), 59, (0, 0)⟩]
  refine T.q (q_assign rfl rfl) (Wt.plain rfl) rfl rfl ?_
  refine T.nil ?_
  refine Ex.next ?_
  refine W.slots (L' := [(2, _), (3, _)]) ⟨rfl, rfl, trivial⟩ ?_
  refine W.seq ?_
  refine W.region ?_
  refine T.q (q_func (first := []) rfl rfl rfl) (Wt.plain rfl) rfl rfl ?_
  refine T.q (q_assign rfl rfl) (Wt.plain rfl) rfl rfl ?_
  refine T.nil ?_
  refine Ex.next ?_
  refine W.slots (L' := [(2, _), (3, _), (5, _)]) ⟨rfl, rfl, rfl, trivial⟩ ?_
  refine W.seq ?_
  refine W.region ?_
  refine T.q (q_load1 ss22 1 rfl rfl rfl rfl) (Wt.plain rfl) rfl rfl ?_
  refine T.q (q_fld fl59_0 rfl rfl) (Wt.plain rfl) rfl rfl ?_
  refine T.q (q_load1 ss3 2 rfl rfl rfl (rfl)) (Wt.plain rfl) rfl rfl ?_
  refine T.q (q_int (b := 7) (q_conv un3 un5 rfl rfl) ?hE) (Wt.plain rfl) rfl rfl ?_
  case hE => decide
  refine T.eff (e_litA sc22 ze5 rfl rfl rfl (by simp [Value.cells]) rfl rfl rfl) (Wt.plain rfl) ?_
  rintro _ _ ⟨k3, rfl, rfl⟩
  change (_ : List Blk → Prop) [_, _, _, _]
  refine T.eff (e_appendO sc22 ze5 rfl 0 .u8 xs [7] js (rfl) (R_blk 3 rfl) rfl rfl rfl rfl (by first | omega | (simp; done) | (simp [-List.getD_eq_getElem?_getD]; omega) | (simp at *; omega) | rfl) (by first | omega | (simp; done) | (simp [-List.getD_eq_getElem?_getD]; omega) | (simp at *; omega) | rfl) (by first | omega | (simp; done) | (simp [-List.getD_eq_getElem?_getD]; omega) | (simp at *; omega) | rfl) (by omega) (by first | omega | (simp; done) | (simp [-List.getD_eq_getElem?_getD]; omega)) (by first | omega | (simp; done) | (simp [-List.getD_eq_getElem?_getD]; omega)) rfl rfl) (Wt.plain rfl) ?_
  rintro _ _ ⟨k4, cap5, junk6, hc7, rfl, rfl⟩
  change (_ : List Blk → Prop) [_, _, _, _]
  refine T.eff (e_store1 ss22 1 rfl rfl rfl rfl (by simp) rfl rfl) (Wt.plain rfl) ?_
  rintro _ _ ⟨rfl, rfl⟩
  change (_ : List Blk → Prop) [_, _, _, _]
  refine T.nil ?_
  refine Ex.next ?_
  refine W.less (L' := [(2, _), (3, _), (5, _)]) [true, true, true, false] ⟨rfl, rfl, rfl, trivial⟩ ?_
  change (_ : List Blk → Prop) [_, _, _]
  refine W.seq ?_
  refine W.region ?_
  refine T.q (q_assign rfl rfl) (Wt.plain rfl) rfl rfl ?_
  refine T.nil ?_
  refine Ex.next ?_
  refine W.slots (L' := [(2, _), (3, _), (5, _), (6, _)]) ⟨rfl, rfl, rfl, rfl, trivial⟩ ?_
  refine W.seq ?_
  refine W.seq ?_
  refine W.region ?_
  refine T.q (q_fld fl59_0 rfl rfl) (Wt.plain rfl) rfl rfl ?_
  refine T.q (q_load1 ss3 2 rfl rfl rfl (rfl)) (Wt.plain rfl) rfl rfl ?_
  refine T.nil ?_
  refine Ex.next ?_
  refine W.slots (L' := [(2, _), (3, _), (5, _), (6, _), (17, _)]) ⟨rfl, rfl, rfl, rfl, rfl, trivial⟩ ?_
  refine W.block ?_
  refine W.seq ?_
  refine W.seq ?_
  refine W.region ?_
  refine T.q (q_bool (b := false) (q_eql rfl rfl rfl) (decide_eq_false (by decide))) (Wt.plain rfl) rfl rfl ?_
  refine T.q (q_assign rfl rfl) (Wt.plain rfl) rfl rfl ?_
  refine T.nil ?_
  refine Ex.next ?_
  refine W.slots (L' := [(2, _), (3, _), (5, _), (6, _), (17, _), (23, _)]) ⟨rfl, rfl, rfl, rfl, rfl, rfl, trivial⟩ ?_
  refine W.condF rfl ?_
  refine W.region ?_
  refine T.q (q_bool (b := false) (q_eql rfl rfl rfl) (decide_eq_false (by decide))) (Wt.plain rfl) rfl rfl ?_
  refine T.q (q_assign rfl rfl) (Wt.plain rfl) rfl rfl ?_
  refine T.nil ?_
  refine Ex.next ?_
  refine W.slots (L' := [(2, _), (3, _), (5, _), (6, _), (17, _), (23, _)]) ⟨rfl, rfl, rfl, rfl, rfl, rfl, trivial⟩ ?_
  refine W.condF rfl ?_
  refine W.seq ?_
  refine W.region ?_
  refine T.q (q_bool (b := false) (q_eql rfl rfl rfl) (decide_eq_false (by decide))) (Wt.plain rfl) rfl rfl ?_
  refine T.q (q_assign rfl rfl) (Wt.plain rfl) rfl rfl ?_
  refine T.nil ?_
  refine Ex.next ?_
  refine W.slots (L' := [(2, _), (3, _), (5, _), (6, _), (17, _), (30, _)]) ⟨rfl, rfl, rfl, rfl, rfl, rfl, trivial⟩ ?_
  refine W.condF rfl ?_
  refine W.seq ?_
  refine W.region ?_
  refine T.q (q_bool (b := false) (q_eql rfl rfl rfl) (decide_eq_false (by decide))) (Wt.plain rfl) rfl rfl ?_
  refine T.q (q_assign rfl rfl) (Wt.plain rfl) rfl rfl ?_
  refine T.nil ?_
  refine Ex.next ?_
  refine W.slots (L' := [(2, _), (3, _), (5, _), (6, _), (17, _), (45, _)]) ⟨rfl, rfl, rfl, rfl, rfl, rfl, trivial⟩ ?_
  refine W.condF rfl ?_
  refine W.seq ?_
  refine W.region ?_
  refine T.q (q_bool (b := true) (q_eql rfl rfl rfl) (decide_eq_true (by decide))) (Wt.plain rfl) rfl rfl ?_
  refine T.q (q_assign rfl rfl) (Wt.plain rfl) rfl rfl ?_
  refine T.nil ?_
  refine Ex.next ?_
  refine W.slots (L' := [(2, _), (3, _), (5, _), (6, _), (59, _)]) ⟨rfl, rfl, rfl, rfl, rfl, trivial⟩ ?_
  refine W.condT rfl ?_
  refine W.region ?_
  refine T.q (q_move rfl rfl) (Wt.plain rfl) rfl rfl ?_
  refine T.q (q_fld fl59_1 rfl rfl) (Wt.plain rfl) rfl rfl ?_
  refine T.q (q_load1 ss3 2 rfl rfl rfl (cell_skip1 (rfl))) (Wt.plain rfl) rfl rfl ?_
  refine T.q (q_fld fl59_2 rfl rfl) (Wt.plain rfl) rfl rfl ?_
  refine T.q (q_load1 ss3 2 rfl rfl rfl (cell_skip1 (cell_skip1 (rfl)))) (Wt.plain rfl) rfl rfl ?_
  refine T.q (q_fld fl59_3 rfl rfl) (Wt.plain rfl) rfl rfl ?_
  refine T.q (q_load1 ss56 2 rfl rfl rfl (cell_skip1 (cell_skip1 (cell_skip1 (rfl))))) (Wt.plain rfl) rfl rfl ?_
  refine T.q (q_len sc56 rfl rfl) (Wt.plain rfl) rfl rfl ?_
  refine T.eff (e_litA sc89 ze3 rfl rfl rfl (by simp [Value.cells]) rfl rfl rfl) (Wt.plain rfl) ?_
  rintro _ _ ⟨k8, rfl, rfl⟩
  change (_ : List Blk → Prop) [_, _, _, _]
  refine T.eff (e_callNF [false, false, true, true] enters74 rfl rfl rfl (hx2' rfl rfl rfl) (fun w hm => nums3 a l rs.length (by first | omega | (simp; done) | (simp; omega) | (simp at *; omega)) (by first | omega | (simp; done) | (simp; omega) | (simp at *; omega)) (by first | omega | (simp; done) | (simp; omega) | (simp at *; omega)) (xs ++ [7]) (by first | omega | (simp; done) | (simp [-List.getD_eq_getElem?_getD]; omega) | (simp at *; omega) | rfl) junk6 (some k4) k1 _ (by first | omega | (simp; done) | (simp; omega) | (simp at *; omega)) (by first | omega | (simp; done) | (simp; omega) | (simp at *; omega)) w (hm.at 1 rfl) (hm.at 0 rfl) (hm.neO 1 0 (by decide) rfl rfl rfl) _ _ (ext2 hm 3 1 0 (by decide) (by decide) rfl rfl rfl rfl)) rfl rfl) (Wt.plain rfl) ?_
  rintro _ _ ⟨_, _, ⟨k9, cap10, junk11, rfl, hc12, rfl⟩, rfl, rfl⟩
  change (_ : List Blk → Prop) [_, _, _, _]
  refine T.nil ?_
  refine Ex.in_normal ?_
  refine Ex.next ?_
  refine W.less (L' := [(2, _), (3, _), (5, _), (6, _)]) [true, false, true, true] ⟨rfl, rfl, rfl, rfl, trivial⟩ ?_
  change (_ : List Blk → Prop) [_, _, _]
  refine W.seq ?_
  refine W.seq ?_
  refine W.region ?_
  refine T.q (q_fld fl59_3 rfl rfl) (Wt.plain rfl) rfl rfl ?_
  refine T.q (q_load1 ss56 0 rfl rfl rfl (cell_skip1 (cell_skip1 (cell_skip1 (rfl))))) (Wt.plain rfl) rfl rfl ?_
  refine T.q (q_len sc56 rfl rfl) (Wt.plain rfl) rfl rfl ?_
  refine T.q (q_move rfl rfl) (Wt.plain rfl) rfl rfl ?_
  refine T.nil ?_
  refine Ex.next ?_
  refine W.less (L' := [(2, _), (5, _), (6, _), (72, _), (73, _), (74, _)]) [false, true, true] ⟨rfl, rfl, rfl, rfl, rfl, rfl, trivial⟩ ?_
  change (_ : List Blk → Prop) [_, _]
  refine W.block ?_
  refine W.loop (α := Nat × Int × Nat × List Int × Option Nat × Nat × List Value) (fun x_ => [(2, .pointer (some ⟨k1, 0, none⟩)), (5, .func (.func 74) #[] #[.pointer (some ⟨k1, 0, none⟩)]), (6, .int .i64 x_.2.1), (72, .slice RA rs.length rc), (73, .int .i64 ((rs.length : Nat) : Int)), (74, .int .i64 ((x_.1 : Nat) : Int))]) (fun x_ => [⟨some k1, [.slice (x_.2.2.2.2.1.map fun k => (⟨k, 0, none⟩ : Addr)) x_.2.2.1 x_.2.2.2.2.2.1], 22, (0, 0)⟩, ⟨x_.2.2.2.2.1, ints .u8 x_.2.2.2.1 ++ x_.2.2.2.2.2.2, 5, (0, 0)⟩]) (fun x_ => x_.1 ≤ rs.length ∧ x_.2.1 = lastR 0 rs x_.1 ∧ 0 ≤ x_.2.1 ∧ x_.2.2.2.1 = ((xs ++ [7]) ++ (putV a ++ (putV l ++ putV rs.length))) ++ wrR (rs.take x_.1) 0 ∧ x_.2.2.1 = x_.2.2.2.1.length ∧ x_.2.2.1 + x_.2.2.2.2.2.2.length = x_.2.2.2.2.2.1 ∧ x_.2.2.1 ≤ xs.length + 40 + 16 * x_.1) (fun x_ => rs.length - x_.1) [true, true] (⟨0, 0, ((((xs.length + 1) + 2 ^ kd a) + 2 ^ kd l) + 2 ^ kd rs.length), (xs ++ [7]) ++ (putV a ++ (putV l ++ putV rs.length)), k9, cap10, junk11⟩) ⟨Nat.zero_le _, rfl, (by dsimp only; omega), (by simp [wrR]), (by first | (simp; done) | (simp; omega)), (by dsimp only; omega), (by dsimp only; omega)⟩ ⟨rfl, rfl, rfl, rfl, rfl, rfl, trivial⟩ rfl ?_
  rintro ⟨i, la, ln, zs, nk, cq, jq⟩ hinv
  try dsimp only at hinv
  conv => rhs; dsimp only
  conv => arg -2; dsimp only
  obtain ⟨hi, hla, hla0, hz, hln, hcq, hle⟩ := hinv
  refine W.seq ?_
  refine W.region ?_
  refine T.q (q_lss rfl rfl rfl) (Wt.plain rfl) rfl rfl ?_
  refine T.nil ?_
  refine Ex.next ?_
  refine W.slots (L' := [(2, _), (5, _), (6, _), (72, _), (73, _), (74, _), (75, _)]) ⟨rfl, rfl, rfl, rfl, rfl, rfl, rfl, trivial⟩ ?_
  refine W.seq ?_
  refine W.cond _ rfl (fun hb13 => ?_) (fun hb13 => ?_)
  · replace hb13 := of_decide_eq_true hb13
    have hir : i < rs.length := by omega
    obtain ⟨hc1, hc2, hc3⟩ := hris i hir
    rw [← hla] at hc1
    have hk1 := pow_kd_le ((rs.getD i (0, 0)).1 - la).toNat
    have hk2 := pow_kd_le ((rs.getD i (0, 0)).2 - (rs.getD i (0, 0)).1).toNat
    refine W.skip ?_
    refine Ex.next ?_
    refine W.slots (L' := [(2, _), (5, _), (6, _), (72, _), (73, _), (74, _)]) ⟨rfl, rfl, rfl, rfl, rfl, rfl, trivial⟩ ?_
    refine W.seq ?_
    refine W.block ?_
    refine W.seq ?_
    refine W.region ?_
    refine T.q (q_ixE sc56 i (R_ext hR) rfl rfl rfl (by omega) (by omega) (by rw [ints_length, flat_length]; omega)) (Wt.plain rfl) rfl rfl ?_
    refine T.q (q_loadW wd74 (R_elem (R_ext hR) (i * 2) 2 (flat_getV (by omega))) rfl rfl) (Wt.plain rfl) rfl rfl ?_
    refine T.eff (e_alloc ze74 rfl rfl rfl) (Wt.plain rfl) ?_
    rintro _ _ ⟨k14, rfl, rfl⟩
    change (_ : List Blk → Prop) [_, _, _]
    refine T.eff (e_storeA wd74 2 rfl rfl rfl rfl (by first | omega | (simp; done) | (simp [-List.getD_eq_getElem?_getD]; omega) | (simp at *; omega) | rfl) (by simp [Value.oneCell']) rfl) (Wt.plain rfl) ?_
    rintro _ _ ⟨rfl, rfl⟩
    change (_ : List Blk → Prop) [_, _, _]
    refine T.nil ?_
    refine Ex.next ?_
    refine W.slots (L' := [(2, _), (5, _), (6, _), (8, _), (72, _), (73, _), (74, _)]) ⟨rfl, rfl, rfl, rfl, rfl, rfl, rfl, trivial⟩ ?_
    refine W.seq ?_
    refine W.region ?_
    refine T.q (q_move rfl rfl) (Wt.plain rfl) rfl rfl ?_
    refine T.q (q_fld fl74_0 rfl rfl) (Wt.plain rfl) rfl rfl ?_
    refine T.q (q_load1 ss3 2 rfl rfl rfl rfl) (Wt.plain rfl) rfl rfl ?_
    refine T.q (q_move rfl rfl) (Wt.plain rfl) rfl rfl ?_
    refine T.q (q_int (b := ((((rs.getD i (0, 0)).1 - la).toNat : Nat) : Int)) (q_subi rfl rfl rfl (by omega) (by omega)) ?hE) (Wt.plain rfl) rfl rfl ?_
    case hE => omega
    refine T.q (q_fld fl74_1 rfl rfl) (Wt.plain rfl) rfl rfl ?_
    refine T.q (q_load1 ss3 2 rfl rfl rfl rfl) (Wt.plain rfl) rfl rfl ?_
    refine T.q (q_fld fl74_0 rfl rfl) (Wt.plain rfl) rfl rfl ?_
    refine T.q (q_load1 ss3 2 rfl rfl rfl rfl) (Wt.plain rfl) rfl rfl ?_
    refine T.q (q_int (b := ((((rs.getD i (0, 0)).2 - (rs.getD i (0, 0)).1).toNat : Nat) : Int)) (q_subi rfl rfl rfl (by omega) (by omega)) ?hE) (Wt.plain rfl) rfl rfl ?_
    case hE => omega
    refine T.eff (e_litA sc89 ze3 rfl rfl rfl (by simp [Value.cells]) rfl rfl rfl) (Wt.plain rfl) ?_
    rintro _ _ ⟨k15, rfl, rfl⟩
    change (_ : List Blk → Prop) [_, _, _, _]
    refine T.eff (e_callNF [false, false, true, true] enters74 rfl rfl rfl (hx2 rfl rfl rfl) (fun w hm => nums2 (((rs.getD i (0, 0)).1 - la).toNat) (((rs.getD i (0, 0)).2 - (rs.getD i (0, 0)).1).toNat) (by first | omega | (simp; done) | (simp; omega) | (simp at *; omega)) (by first | omega | (simp; done) | (simp; omega) | (simp at *; omega)) zs (by first | omega | (simp; done) | (simp [-List.getD_eq_getElem?_getD]; omega) | (simp at *; omega) | rfl) jq nk k1 _ (by first | omega | (simp; done) | (simp; omega) | (simp at *; omega)) (by first | omega | (simp; done) | (simp; omega) | (simp at *; omega)) w (hm.at 0 rfl) (hm.at 1 rfl) (hm.neO 0 1 (by decide) rfl rfl rfl) _ _ (ext2 hm 3 0 1 (by decide) (by decide) rfl rfl rfl rfl)) rfl rfl) (Wt.plain rfl) ?_
    rintro _ _ ⟨_, _, ⟨k16, cap17, junk18, rfl, hc19, rfl⟩, rfl, rfl⟩
    change (_ : List Blk → Prop) [_, _, _, _]
    refine T.nil ?_
    refine Ex.next ?_
    refine W.less (L' := [(2, _), (5, _), (8, _), (72, _), (73, _), (74, _)]) [true, false, true, true] ⟨rfl, rfl, rfl, rfl, rfl, rfl, trivial⟩ ?_
    change (_ : List Blk → Prop) [_, _, _]
    refine W.region ?_
    refine T.q (q_fld fl74_1 rfl rfl) (Wt.plain rfl) rfl rfl ?_
    refine T.q (q_load1 ss3 0 rfl rfl rfl rfl) (Wt.plain rfl) rfl rfl ?_
    refine T.q (q_assign rfl rfl) (Wt.plain rfl) rfl rfl ?_
    refine T.nil ?_
    refine Ex.in_normal ?_
    refine Ex.next ?_
    refine W.less (L' := [(2, _), (5, _), (6, _), (72, _), (73, _), (74, _)]) [false, true, true] ⟨rfl, rfl, rfl, rfl, rfl, rfl, trivial⟩ ?_
    change (_ : List Blk → Prop) [_, _]
    refine W.region ?_
    refine T.q (q_addi rfl rfl rfl (by omega) (by omega)) (Wt.plain rfl) rfl rfl ?_
    refine T.q (q_move rfl rfl) (Wt.plain rfl) rfl rfl ?_
    refine T.nil ?_
    exact Ex.again [true, true] (⟨i + 1, (rs.getD i (0, 0)).2, ((ln + 2 ^ kd (((rs.getD i (0, 0)).1 - la).toNat)) + 2 ^ kd (((rs.getD i (0, 0)).2 - (rs.getD i (0, 0)).1).toNat)), zs ++ (putV (((rs.getD i (0, 0)).1 - la).toNat) ++ putV (((rs.getD i (0, 0)).2 - (rs.getD i (0, 0)).1).toNat)), k16, cap17, junk18⟩ : Nat × Int × Nat × List Int × Option Nat × Nat × List Value) (by dsimp only; omega) ⟨by dsimp only; omega, (by dsimp only; rw [lastR_succ]), by dsimp only; omega, (by dsimp only; rw [wrR_take rs _ i hir, ← hla, hz, List.append_assoc]), (by dsimp only; simp [hln]; omega), by dsimp only; omega, by dsimp only; omega⟩ ⟨rfl, rfl, rfl, rfl, rfl, rfl, trivial⟩ (by first | (dsimp only [pick]; done) | rfl)
  replace hb13 := of_decide_eq_false hb13
  obtain rfl : i = rs.length := by omega
  rw [List.take_length] at hz
  refine W.exit ?_
  refine Ex.then_exit ?_
  refine Ex.then_exit ?_
  refine Ex.in_here ?_
  refine Ex.next ?_
  refine W.slots (L' := [(2, _)]) ⟨rfl, trivial⟩ ?_
  refine W.seq ?_
  refine W.region ?_
  refine T.q (q_load1 ss22 0 rfl rfl rfl rfl) (Wt.plain rfl) rfl rfl ?_
  refine T.q (q_assign rfl rfl) (Wt.plain rfl) rfl rfl ?_
  refine T.nil ?_
  refine Ex.next ?_
  refine W.slots (L' := [(4, _)]) ⟨rfl, trivial⟩ ?_
  refine W.ret ?_
  refine Ex.out1 [false, true] rfl rfl ?_
  have hw : zs = xs ++ wr ⟨7, ((a : Nat) : Int), ((l : Nat) : Int), rs, bs, tok⟩ := by rw [hz]; simp [wr, wrT]
  have hlw : ln = xs.length + (wr ⟨7, ((a : Nat) : Int), ((l : Nat) : Int), rs, bs, tok⟩).length := by have e := congrArg List.length hw; simp at e ⊢; try omega
  exact ⟨nk, cq, jq, by rw [← hlw] <;> rfl, by omega, by rw [← hw] <;> rfl⟩
theorem write_spec (xs : List Int) {n : Nat} (hxn : xs.length = n) (js : List Value) (no : Option Nat) (cp : Nat) (hl : n + js.length = cp) (hx : n ≤ 140737488340000) (m : Fm) (hok : frOK m.f) (hO : m.OK) (w0 : World) (hc : (⟨no, ints .u8 xs ++ js, 5, (0, 0)⟩ : Blk).here w0)
    (hR : Ext w0 no.toList m.RA (ints .i64 (flat m.f.rs))) (hB : Ext w0 no.toList m.BA (ints .u8 m.f.bs)) : Does Try.prog 60 #[.slice (no.map fun k => (⟨k, 0, none⟩ : Addr)) n cp, .agg m.cells.toArray] w0 no.toList
    (fun v G => ∃ (nk : Option Nat) (cap : Nat) (junk : List Value), v = .slice (nk.map fun k => (⟨k, 0, none⟩ : Addr)) (n + (wr m.f).length) cap ∧ n + (wr m.f).length + junk.length = cap ∧ G = [⟨nk, ints .u8 (xs ++ wr m.f) ++ junk, 5, (0, 0)⟩]) := by
  subst hxn
  obtain ⟨⟨k, a, l, rs, bs, tok⟩, RA, rc, BA, bc⟩ := m
  obtain ⟨ht, _, hbc, _⟩ := hO
  obtain ⟨ha0, ha1, hcs⟩ := hok
  dsimp only at ht hbc ha0 ha1 hcs hR hB
  obtain ⟨a, rfl⟩ := Int.eq_ofNat_of_zero_le ha0
  rcases hcs with ⟨rfl, h1, h2, rfl, h3, h4⟩ | ⟨rfl, h1, h2, h3, h4, h5⟩ | ⟨hk, h1, rfl, h2, h3⟩ | ⟨rfl, h1, rfl, h2, h3, h4⟩ | ⟨rfl, rfl, h1, h2, h3⟩ | ⟨rfl, h1, h2, h3, h4, h5⟩
  · exact wr_1 xs js no cp hl hx a (by omega) rs bs tok RA BA rc bc h2 hbc w0 hc hB
  · obtain ⟨l, rfl⟩ := Int.eq_ofNat_of_zero_le h1
    have hr := risN_yes.1 h3
    exact wr_2 xs js no cp hl hx a l (by omega) (by omega) rs bs tok RA BA rc bc hr.2 (lastR_ge hr.1) w0 hc hR
  · rcases hk with rfl | rfl
    · exact wr_3 xs js no cp hl hx _ _ rs bs tok RA BA rc bc ht w0 hc
    · exact wr_4 xs js no cp hl hx _ _ rs bs tok RA BA rc bc ht w0 hc
  · exact wr_5 xs js no cp hl hx _ a (by omega) rs bs tok RA BA rc bc h3 w0 hc hR
  · exact wr_6 xs js no cp hl hx _ a (by omega) rs bs tok RA BA rc bc h2 w0 hc hR
  · obtain ⟨l, rfl⟩ := Int.eq_ofNat_of_zero_le h1
    have hr := risN_yes.1 h3
    exact wr_7 xs js no cp hl hx a l (by omega) (by omega) rs bs tok RA BA rc bc hr.2 (fun i hi => (ris_zero hr.1 i hi).imp_right fun g => ⟨g.1, by omega⟩) w0 hc hR
end Go.Proofs.Ytmkjnefongjniaa
