/-
  The walks of Seal and Open, told as contracts.
-/
import Derived.Test.YtpklnjegimchoaaGreatDoorMQ
import Derived.Test.YtpklnjegimchoaaGreatDoorMS
import Derived.Test.YtpklnjegimchoaaGreatDoorMU
namespace Go.Proofs.YtpklnjegimchoaaGreatDoor
open Go Go.X
theorem tagSumX : ∃ f : List Int → List Int → List Int, (∀ k xs, (f k xs).length = 16 ∧ Bytes (f k xs)) ∧ ∀ (key xs : List Int) (hk : key.length = 32) (hkb : Bytes key) (hxb : Bytes xs) (XA : Option Addr) (xc : Nat) (hxc : xs.length ≤ xc) (hxl : xs.length ≤ 140737488354000) (w0 : World) (hX : Reads w0 XA (ints .u8 xs)) (hq : Reads w0 (some ⟨10, 0, none⟩) (ints .u64 primeW)), Does Tryz.prog 237 #[.agg (ints .u8 key).toArray, .slice XA xs.length xc] w0 [] (fun v G => v = .agg (ints .u8 (f key xs)).toArray ∧ G = []) :=
  ⟨sumP, fun k xs => ⟨lowS_length _ _, Bytes.lowS _ _⟩, sum_spec_p⟩
noncomputable def sumF : List Int → List Int → List Int := Classical.choose tagSumX
@[simp] theorem sumF_length (k xs : List Int) : (sumF k xs).length = 16 := ((Classical.choose_spec tagSumX).1 k xs).1
theorem Bytes.sumF (k xs : List Int) : Bytes (sumF k xs) := ((Classical.choose_spec tagSumX).1 k xs).2
theorem pad_at (xs : List Int) (js : List Value) (k cp : Nat) {m : Nat} (hxm : xs.length = m) (hl : m + js.length = cp) (hb : m ≤ 140737488354000) (w0 : World) (hk : (⟨some k, ints .u8 xs ++ js, 5, (0, 0)⟩ : Blk).here w0) : Does Tryz.prog 236 #[.slice (some ⟨k, 0, none⟩) m cp] w0 [k] (fun v G => ∃ (k2 cap : Nat) (junk : List Value), v = .slice (some ⟨k2, 0, none⟩) (m + padN m) cap ∧ m + padN m + junk.length = cap ∧ G = [⟨some k2, ints .u8 (xs ++ List.replicate (padN m) 0) ++ junk, 5, (0, 0)⟩]) := by
  subst hxm
  exact pad_spec xs js k cp hl hb w0 hk
def lnF (bl sl i : Nat) : Nat := if i = 0 then bl else sl
def lenF (bl sl q : Nat) : Int := bt (if q < 8 then bl else sl) (q % 8)
theorem lenF_eq (bl sl i m : Nat) (hm : m < 8) : bt (lnF bl sl i) m = lenF bl sl (8 * i + m) := by
  unfold lnF lenF
  rw [show (8 * i + m) % 8 = m by omega]
  by_cases h : i = 0
  · rw [if_pos h, if_pos (by omega)]
  · rw [if_neg h, if_neg (by omega)]
theorem lit2 (a b : Nat) (i : Nat) (hi : i < 2) : ([((a : Nat) : Int), ((b : Nat) : Int)]).getD i 0 = ((lnF a b i : Nat) : Int) := by
  match i, hi with
  | 0, _ => rfl
  | 1, _ => rfl
theorem lnF_le {a b i n : Nat} (ha : a ≤ n) (hb : b ≤ n) : lnF a b i ≤ n := by unfold lnF; split <;> assumption
def fillT (b s : List Int) : List Int := b ++ List.replicate (padN b.length) 0 ++ s ++ List.replicate (padN (b.length + padN b.length + s.length)) 0
def tagT (b s : List Int) : List Int := fillT b s ++ gather (lenF b.length s.length) 16 []
theorem fillT_length (b s : List Int) : (fillT b s).length = b.length + padN b.length + s.length + padN (b.length + padN b.length + s.length) := by simp [fillT]; omega
theorem Bytes.zeros (n : Nat) : Bytes (List.replicate n 0) := fun x hx => by have := List.eq_of_mem_replicate hx; omega
theorem Bytes.tagT {b s : List Int} (hb : Bytes b) (hs : Bytes s) : Bytes (tagT b s) :=
  bytes_app (bytes_app (bytes_app (bytes_app hb (Bytes.zeros _)) hs) (Bytes.zeros _)) (Bytes.gather (fun _ => bt_ok _ _) (fun _ hx => by cases hx) 16)
noncomputable def tagS (key nonce b s : List Int) : List Int := sumF (((block key nonce 0).drop 0).take 32) (tagT b s)
theorem tagsum_at (key xs : List Int) (hk : key.length = 32) (hkb : Bytes key) (hxb : Bytes xs) (XA : Option Addr) (xc : Nat) {m : Nat} (hxc : m ≤ xc) (hxl : m ≤ 140737488354000) (w0 : World) (hX : Reads w0 XA (ints .u8 xs)) (hq : Reads w0 (some ⟨10, 0, none⟩) (ints .u64 primeW)) (hm : xs.length = m) : Does Tryz.prog 237 #[.agg (ints .u8 key).toArray, .slice XA m xc] w0 [] (fun v G => v = .agg (ints .u8 (sumF key xs)).toArray ∧ G = []) := by
  subst hm
  exact (Classical.choose_spec tagSumX).2 key xs hk hkb hxb XA xc hxc hxl w0 hX hq
theorem gather_one (f : Nat → Int) (n : Nat) : gather f (n + 1) [] = gather f n [] ++ [f n] := rfl
theorem fill_def (b s : List Int) : b ++ List.replicate (padN b.length) 0 ++ s ++ List.replicate (padN (b.length + padN b.length + s.length)) 0 = fillT b s := rfl
theorem bblk (key nonce : List Int) (c : Int) {n m : Nat} : Bytes (((block key nonce c).drop n).take m) := (bdrop (Bytes.block key nonce c)).take m
theorem tag_def (b s : List Int) : fillT b s ++ gather (lenF b.length s.length) (8 * 2) [] = tagT b s := rfl
theorem tagT_length (b s : List Int) : (tagT b s).length = b.length + padN b.length + s.length + padN (b.length + padN b.length + s.length) + 16 := by rw [tagT, List.length_append, fillT_length, gather_length]; simp
theorem tag_out (key nonce b s : List Int) : Value.agg (ints .u8 (sumF (((block key nonce 0).drop 0).take 32) (tagT b s))).toArray = Value.agg (ints .u8 (tagS key nonce b s)).toArray := by rw [tagS]
set_option maxRecDepth 100000 in
set_option maxHeartbeats 1000000 in
theorem tag_spec (key nonce b s : List Int) (hk : key.length = 32) (hnn : nonce.length = 12) (hkb : Bytes key) (hbb : Bytes b) (hsb : Bytes s) (BA SA : Option Addr) (bc sc : Nat) (hbc : b.length ≤ bc) (hsc : s.length ≤ sc) (hbp : 0 < b.length) (hbl : b.length ≤ 1000000) (hsl : s.length ≤ 1000000) (w0 : World) (hB : Reads w0 BA (ints .u8 b)) (hS : Reads w0 SA (ints .u8 s)) (hh : Reads w0 (some ⟨4, 0, none⟩) (ints .u32 headW)) (ht : Reads w0 (some ⟨5, 0, none⟩) (ints .i64 tbl)) (hq : Reads w0 (some ⟨10, 0, none⟩) (ints .u64 primeW)) : Does Tryz.prog 184 #[.agg (ints .u8 key).toArray, .agg (ints .u8 nonce).toArray, .slice BA b.length bc, .slice SA s.length sc] w0 [] (fun v G => v = .agg (ints .u8 (tagS key nonce b s)).toArray ∧ G = []) := by
  have hp1 := padN_lt b.length
  have hp2 := padN_lt (b.length + padN b.length + s.length)
  have hfl := fillT_length b s
  have htl := tagT_length b s
  refine spec_of 52 Tryz.func184 rfl rfl rfl ?_
  refine W.seq ?_
  refine W.region ?_
  refine T.eff (e_box rfl rfl rfl rfl) (Wt.plain rfl) ?_
  rintro _ _ ⟨k1, rfl, rfl⟩
  change (_ : List Blk → Prop) [_]
  refine T.eff (e_box rfl rfl rfl rfl) (Wt.plain rfl) ?_
  rintro _ _ ⟨k2, rfl, rfl⟩
  change (_ : List Blk → Prop) [_, _]
  refine T.eff (e_alloc ze272 rfl rfl rfl) (Wt.plain rfl) ?_
  rintro _ _ ⟨k3, rfl, rfl⟩
  change (_ : List Blk → Prop) [_, _, _]
  refine T.nil ?_
  refine Ex.next ?_
  refine W.slots (L' := [(2, _), (3, _), (4, _), (5, _), (8, _)]) ⟨rfl, rfl, rfl, rfl, rfl, trivial⟩ ?_
  refine W.seq ?_
  refine W.region ?_
  refine T.q (q_loadW (wide_ints wd38 (by first | omega | (simp; done) | (simp [-List.getD_eq_getElem?_getD]; omega) | (simp at *; omega) | rfl)) (R_blk 0 rfl) rfl rfl) (Wt.plain rfl) rfl rfl ?_
  refine T.q (q_loadW (wide_ints wd189 (by first | omega | (simp; done) | (simp [-List.getD_eq_getElem?_getD]; omega) | (simp at *; omega) | rfl)) (R_blk 1 rfl) rfl rfl) (Wt.plain rfl) rfl rfl ?_
  refine T.eff (e_call enters235 rfl rfl (fun w hm => block_spec key nonce 0 hk hnn w (R_ext hh.ext w hm) (R_ext ht.ext w hm)) rfl rfl) (Wt.plain rfl) ?_
  rintro _ _ ⟨_, _, ⟨rfl, rfl⟩, rfl, rfl⟩
  change (_ : List Blk → Prop) [_, _, _]
  refine T.eff (e_alloc ze311 rfl rfl rfl) (Wt.plain rfl) ?_
  rintro _ _ ⟨k4, rfl, rfl⟩
  change (_ : List Blk → Prop) [_, _, _, _]
  refine T.eff (e_storeA (wide_ints wd311 (by first | omega | (simp; done) | (simp [-List.getD_eq_getElem?_getD]; omega) | (simp at *; omega) | rfl)) 3 rfl rfl rfl rfl (by first | omega | (simp; done) | (simp [-List.getD_eq_getElem?_getD]; omega) | (simp at *; omega) | rfl) ints_one rfl) (Wt.plain rfl) ?_
  rintro _ _ ⟨rfl, rfl⟩
  change (_ : List Blk → Prop) [_, _, _, _]
  refine T.nil ?_
  refine Ex.next ?_
  refine W.less (L' := [(2, _), (3, _), (8, _), (9, _)]) [false, false, true, true] ⟨rfl, rfl, rfl, rfl, trivial⟩ ?_
  change (_ : List Blk → Prop) [_, _]
  refine W.seq ?_
  refine W.region ?_
  refine T.q (q_move rfl rfl) (Wt.plain rfl) rfl rfl ?_
  refine T.eff (e_call enters28 rfl rfl (fun w hm => clone_pos b _ _ (by first | omega | (simp; done) | (simp; omega) | (simp at *; omega)) (by first | omega | (simp; done) | (simp; omega) | (simp at *; omega)) w ((R_ext hB.ext) w hm) (by omega) (by first | omega | (simp; done) | (simp [-List.getD_eq_getElem?_getD]; omega) | (simp at *; omega) | rfl)) rfl rfl) (Wt.plain rfl) ?_
  rintro _ _ ⟨_, _, ⟨k5, cap6, junk7, rfl, hc8, rfl⟩, rfl, rfl⟩
  change (_ : List Blk → Prop) [_, _, _]
  refine T.eff (e_callM 2 enters236 rfl rfl rfl (fun w hm => pad_at b junk7 _ _ (by first | omega | (simp; done) | (simp [-List.getD_eq_getElem?_getD]; omega) | (simp at *; omega) | rfl) (by first | omega | (simp; done) | (simp; omega) | (simp at *; omega)) (by first | omega | (simp; done) | (simp; omega) | (simp at *; omega)) w (hm.at 2 rfl)) rfl rfl) (Wt.plain rfl) ?_
  rintro _ _ ⟨_, _, ⟨k9, cap10, junk11, rfl, hc12, rfl⟩, rfl, rfl⟩
  change (_ : List Blk → Prop) [_, _, _]
  refine T.q (q_assign rfl rfl) (Wt.plain rfl) rfl rfl ?_
  refine T.nil ?_
  refine Ex.next ?_
  refine W.slots (L' := [(2, _), (3, _), (8, _), (9, _), (10, _)]) ⟨rfl, rfl, rfl, rfl, rfl, trivial⟩ ?_
  refine W.seq ?_
  refine W.region ?_
  refine T.q (q_move rfl rfl) (Wt.plain rfl) rfl rfl ?_
  refine T.q (q_move rfl rfl) (Wt.plain rfl) rfl rfl ?_
  refine T.eff (e_appendI sc22 ze5 rfl 2 .u8 (b ++ List.replicate (padN b.length) 0) s junk11 (rfl) (R_ext hS.ext) rfl rfl rfl rfl (by first | omega | (simp; done) | (simp [-List.getD_eq_getElem?_getD]; omega) | (simp at *; omega) | rfl) (by first | omega | (simp; done) | (simp [-List.getD_eq_getElem?_getD]; omega) | (simp at *; omega) | rfl) (by first | omega | (simp; done) | (simp [-List.getD_eq_getElem?_getD]; omega) | (simp at *; omega) | rfl) (by first | omega | (simp; done) | (simp [-List.getD_eq_getElem?_getD]; omega)) (by first | omega | (simp; done) | (simp [-List.getD_eq_getElem?_getD]; omega)) rfl rfl) (Wt.plain rfl) ?_
  rintro _ _ ⟨k13, cap14, junk15, hc16, rfl, rfl⟩
  change (_ : List Blk → Prop) [_, _, _]
  refine T.eff (e_callM 2 enters236 rfl rfl rfl (fun w hm => pad_at (b ++ List.replicate (padN b.length) 0 ++ s) junk15 _ _ (by first | omega | (simp; done) | (simp [-List.getD_eq_getElem?_getD]; omega) | (simp at *; omega) | rfl) (by first | omega | (simp; done) | (simp; omega) | (simp at *; omega)) (by first | omega | (simp; done) | (simp; omega) | (simp at *; omega)) w (hm.at 2 rfl)) rfl rfl) (Wt.plain rfl) ?_
  rintro _ _ ⟨_, _, ⟨k17, cap18, junk19, rfl, hc20, rfl⟩, rfl, rfl⟩
  change (_ : List Blk → Prop) [_, _, _]
  conv => rhs; rw [fill_def b s]
  refine T.q (q_assign rfl rfl) (Wt.plain rfl) rfl rfl ?_
  refine T.nil ?_
  refine Ex.next ?_
  refine W.slots (L' := [(2, _), (3, _), (8, _), (9, _), (10, _)]) ⟨rfl, rfl, rfl, rfl, rfl, trivial⟩ ?_
  refine W.seq ?_
  refine W.seq ?_
  refine W.region ?_
  refine T.q (q_move rfl rfl) (Wt.plain rfl) rfl rfl ?_
  refine T.q (q_len sc22 rfl rfl) (Wt.plain rfl) rfl rfl ?_
  refine T.q (q_move rfl rfl) (Wt.plain rfl) rfl rfl ?_
  refine T.q (q_len sc22 rfl rfl) (Wt.plain rfl) rfl rfl ?_
  refine T.eff (e_litA sc32 ze3 rfl rfl rfl (by simp [Value.cells]) rfl rfl rfl) (Wt.plain rfl) ?_
  rintro _ _ ⟨k21, rfl, rfl⟩
  change (_ : List Blk → Prop) [_, _, _, _]
  refine T.q (q_len sc32 rfl rfl) (Wt.plain rfl) rfl rfl ?_
  refine T.q (q_move rfl rfl) (Wt.plain rfl) rfl rfl ?_
  refine T.nil ?_
  refine Ex.next ?_
  refine W.slots (L' := [(8, _), (9, _), (10, _), (28, _), (29, _), (30, _)]) ⟨rfl, rfl, rfl, rfl, rfl, rfl, trivial⟩ ?_
  refine W.block ?_
  refine W.loop (α := Nat × Nat × Nat × List Value) (fun x_ => [(8, .pointer (some ⟨k3, 0, none⟩)), (9, .pointer (some ⟨k4, 0, none⟩)), (10, .slice (some ⟨x_.2.1, 0, none⟩) (b.length + padN b.length + s.length + padN (b.length + padN b.length + s.length) + 8 * x_.1) x_.2.2.1), (28, .slice (some ⟨k21, 0, none⟩) 2 2), (29, .int .i64 ((2 : Nat) : Int)), (30, .int .i64 ((x_.1 : Nat) : Int))]) (fun x_ => [⟨some k3, ints .u8 (List.replicate 16 0), 272, (0, 0)⟩, ⟨some k4, ints .u8 (block key nonce 0), 311, (0, 0)⟩, ⟨some x_.2.1, ints .u8 (fillT b s ++ gather (lenF b.length s.length) (8 * x_.1) []) ++ x_.2.2.2, 5, (0, 0)⟩, ⟨some k21, ints .i64 [((b.length : Nat) : Int), ((s.length : Nat) : Int)], 3, (0, 0)⟩]) (fun x_ => x_.1 ≤ 2 ∧ b.length + padN b.length + s.length + padN (b.length + padN b.length + s.length) + 8 * x_.1 + x_.2.2.2.length = x_.2.2.1) (fun x_ => 2 - x_.1) [true, true, true, true] (⟨0, k17, cap18, junk19⟩) ⟨by dsimp only; omega, by dsimp only; omega⟩ ⟨rfl, rfl, rfl, rfl, rfl, rfl, trivial⟩ (by dsimp only [pick]; rw [show gather (lenF b.length s.length) (8 * 0) [] = [] from rfl, List.append_nil]; rfl) ?_
  rintro ⟨i, kk, cp, jj⟩ ⟨hi, hj⟩
  conv => rhs; dsimp only
  conv => arg -2; dsimp only
  dsimp only at hi hj
  refine W.seq ?_
  refine W.region ?_
  refine T.q (q_lss rfl rfl rfl) (Wt.plain rfl) rfl rfl ?_
  refine T.nil ?_
  refine Ex.next ?_
  refine W.slots (L' := [(8, _), (9, _), (10, _), (28, _), (29, _), (30, _), (31, _)]) ⟨rfl, rfl, rfl, rfl, rfl, rfl, rfl, trivial⟩ ?_
  refine W.seq ?_
  refine W.cond _ rfl (fun hb22 => ?_) (fun hb22 => ?_)
  · replace hb22 := of_decide_eq_true hb22
    refine W.skip ?_
    refine Ex.next ?_
    refine W.slots (L' := [(8, _), (9, _), (10, _), (28, _), (29, _), (30, _)]) ⟨rfl, rfl, rfl, rfl, rfl, rfl, trivial⟩ ?_
    refine W.seq ?_
    refine W.block ?_
    refine W.seq ?_
    refine W.region ?_
    refine T.q (q_ixS0 sc32 i rfl rfl rfl (by omega) (by omega)) (Wt.plain rfl) rfl rfl ?_
    refine T.q (q_int (b := ((lnF b.length s.length i : Nat) : Int)) (q_loadI ss3 3 rfl rfl rfl (by first | omega | (simp; done) | (simp [-List.getD_eq_getElem?_getD]; omega))) (lit2 _ _ i (by omega))) (Wt.plain rfl) rfl rfl ?_
    refine T.q (q_assign rfl rfl) (Wt.plain rfl) rfl rfl ?_
    refine T.nil ?_
    refine Ex.next ?_
    refine W.slots (L' := [(8, _), (9, _), (10, _), (12, _), (28, _), (29, _), (30, _)]) ⟨rfl, rfl, rfl, rfl, rfl, rfl, rfl, trivial⟩ ?_
    refine W.seq ?_
    refine W.region ?_
    refine T.q (q_move rfl rfl) (Wt.plain rfl) rfl rfl ?_
    refine T.nil ?_
    refine Ex.next ?_
    refine W.slots (L' := [(8, _), (9, _), (10, _), (12, _), (28, _), (29, _), (30, _), (34, _)]) ⟨rfl, rfl, rfl, rfl, rfl, rfl, rfl, rfl, trivial⟩ ?_
    refine W.block ?_
    refine W.loop (α := Nat × Nat × Nat × List Value) (fun x_ => [(8, .pointer (some ⟨k3, 0, none⟩)), (9, .pointer (some ⟨k4, 0, none⟩)), (10, .slice (some ⟨x_.2.1, 0, none⟩) (b.length + padN b.length + s.length + padN (b.length + padN b.length + s.length) + (8 * i + x_.1)) x_.2.2.1), (12, .int .i64 ((lnF b.length s.length i : Nat) : Int)), (28, .slice (some ⟨k21, 0, none⟩) 2 2), (29, .int .i64 ((2 : Nat) : Int)), (30, .int .i64 ((i : Nat) : Int)), (34, .int .i64 ((x_.1 : Nat) : Int))]) (fun x_ => [⟨some k3, ints .u8 (List.replicate 16 0), 272, (0, 0)⟩, ⟨some k4, ints .u8 (block key nonce 0), 311, (0, 0)⟩, ⟨some x_.2.1, ints .u8 (fillT b s ++ gather (lenF b.length s.length) (8 * i + x_.1) []) ++ x_.2.2.2, 5, (0, 0)⟩, ⟨some k21, ints .i64 [((b.length : Nat) : Int), ((s.length : Nat) : Int)], 3, (0, 0)⟩]) (fun x_ => x_.1 ≤ 8 ∧ b.length + padN b.length + s.length + padN (b.length + padN b.length + s.length) + (8 * i + x_.1) + x_.2.2.2.length = x_.2.2.1) (fun x_ => 8 - x_.1) [true, true, true, true] (⟨0, kk, cp, jj⟩) ⟨by dsimp only; omega, by dsimp only; omega⟩ ⟨rfl, rfl, rfl, rfl, rfl, rfl, rfl, rfl, trivial⟩ rfl ?_
    rintro ⟨m, kq, cq, jq⟩ ⟨hm8, hjq⟩
    conv => rhs; dsimp only
    conv => arg -2; dsimp only
    dsimp only at hm8 hjq
    refine W.seq ?_
    refine W.region ?_
    refine T.q (q_lss rfl rfl rfl) (Wt.plain rfl) rfl rfl ?_
    refine T.nil ?_
    refine Ex.next ?_
    refine W.slots (L' := [(8, _), (9, _), (10, _), (12, _), (28, _), (29, _), (30, _), (34, _), (35, _)]) ⟨rfl, rfl, rfl, rfl, rfl, rfl, rfl, rfl, rfl, trivial⟩ ?_
    refine W.seq ?_
    refine W.cond _ rfl (fun hb23 => ?_) (fun hb23 => ?_)
    · replace hb23 := of_decide_eq_true hb23
      refine W.skip ?_
      refine Ex.next ?_
      refine W.slots (L' := [(8, _), (9, _), (10, _), (12, _), (28, _), (29, _), (30, _), (34, _)]) ⟨rfl, rfl, rfl, rfl, rfl, rfl, rfl, rfl, trivial⟩ ?_
      refine W.seq ?_
      refine W.block ?_
      refine W.seq ?_
      refine W.region ?_
      refine T.q (q_move rfl rfl) (Wt.plain rfl) rfl rfl ?_
      refine T.q (q_assign rfl rfl) (Wt.plain rfl) rfl rfl ?_
      refine T.nil ?_
      refine Ex.next ?_
      refine W.slots (L' := [(8, _), (9, _), (10, _), (12, _), (13, _), (28, _), (29, _), (30, _), (34, _)]) ⟨rfl, rfl, rfl, rfl, rfl, rfl, rfl, rfl, rfl, trivial⟩ ?_
      refine W.region ?_
      refine T.q (q_move rfl rfl) (Wt.plain rfl) rfl rfl ?_
      refine T.q (q_move rfl rfl) (Wt.plain rfl) rfl rfl ?_
      refine T.q (q_move rfl rfl) (Wt.plain rfl) rfl rfl ?_
      refine T.q (q_muli rfl rfl rfl (by omega) (by omega)) (Wt.plain rfl) rfl rfl ?_
      refine T.q (q_shr rfl rfl rfl (by omega)) (Wt.plain rfl) rfl rfl ?_
      refine T.q (q_int (b := bt (lnF b.length s.length i) m) (q_conv un3 un5 rfl rfl) (shr_bt _ m (by have := lnF_le (i := i) hbl hsl; omega) (by omega))) (Wt.plain rfl) rfl rfl ?_
      refine T.eff (e_litA sc22 ze5 rfl rfl rfl (by simp [Value.cells]) rfl rfl rfl) (Wt.plain rfl) ?_
      rintro _ _ ⟨k24, rfl, rfl⟩
      change (_ : List Blk → Prop) [_, _, _, _, _]
      refine T.eff (e_appendI sc22 ze5 rfl 2 .u8 (fillT b s ++ gather (lenF b.length s.length) (8 * i + m) []) [bt (lnF b.length s.length i) m] jq (rfl) (R_blk 4 rfl) rfl rfl rfl rfl (by first | omega | (simp; done) | (simp [-List.getD_eq_getElem?_getD]; omega) | (simp at *; omega) | rfl) (by first | omega | (simp; done) | (simp [-List.getD_eq_getElem?_getD]; omega) | (simp at *; omega) | rfl) (by first | omega | (simp; done) | (simp [-List.getD_eq_getElem?_getD]; omega) | (simp at *; omega) | rfl) (by first | omega | (simp; done) | (simp [-List.getD_eq_getElem?_getD]; omega)) (by first | omega | (simp; done) | (simp [-List.getD_eq_getElem?_getD]; omega)) rfl rfl) (Wt.plain rfl) ?_
      rintro _ _ ⟨k25, cap26, junk27, hc28, rfl, rfl⟩
      change (_ : List Blk → Prop) [_, _, _, _, _]
      conv => rhs; rw [List.append_assoc, lenF_eq _ _ _ _ (by omega), ← gather_one]
      refine T.q (q_assign rfl rfl) (Wt.plain rfl) rfl rfl ?_
      refine T.nil ?_
      refine Ex.in_normal ?_
      refine Ex.next ?_
      refine W.less (L' := [(8, _), (9, _), (10, _), (12, _), (28, _), (29, _), (30, _), (34, _)]) [true, true, true, true, false] ⟨rfl, rfl, rfl, rfl, rfl, rfl, rfl, rfl, trivial⟩ ?_
      change (_ : List Blk → Prop) [_, _, _, _]
      refine W.region ?_
      refine T.q (q_addi rfl rfl rfl (by omega) (by omega)) (Wt.plain rfl) rfl rfl ?_
      refine T.q (q_move rfl rfl) (Wt.plain rfl) rfl rfl ?_
      refine T.nil ?_
      exact Ex.again [true, true, true, true] (⟨m + 1, k25, cap26, junk27⟩ : Nat × Nat × Nat × List Value) (by dsimp only; omega) ⟨by dsimp only; omega, by dsimp only; omega⟩ ⟨rfl, rfl, rfl, rfl, rfl, rfl, rfl, rfl, trivial⟩ (by first | (dsimp only [pick]; done) | rfl)
    · replace hb23 := of_decide_eq_false hb23
      obtain rfl : m = 8 := by omega
      refine W.exit ?_
      refine Ex.then_exit ?_
      refine Ex.then_exit ?_
      refine Ex.in_here ?_
      refine Ex.in_normal ?_
      refine Ex.next ?_
      refine W.slots (L' := [(8, _), (9, _), (10, _), (28, _), (29, _), (30, _)]) ⟨rfl, rfl, rfl, rfl, rfl, rfl, trivial⟩ ?_
      refine W.region ?_
      refine T.q (q_addi rfl rfl rfl (by omega) (by omega)) (Wt.plain rfl) rfl rfl ?_
      refine T.q (q_move rfl rfl) (Wt.plain rfl) rfl rfl ?_
      refine T.nil ?_
      exact Ex.again [true, true, true, true] (⟨i + 1, kq, cq, jq⟩ : Nat × Nat × Nat × List Value) (by dsimp only; omega) ⟨by dsimp only; omega, by dsimp only; omega⟩ ⟨rfl, rfl, rfl, rfl, rfl, rfl, trivial⟩ (by first | (dsimp only [pick]; done) | rfl)
  · replace hb22 := of_decide_eq_false hb22
    obtain rfl : i = 2 := by omega
    conv => rhs; rw [tag_def b s]
    refine W.exit ?_
    refine Ex.then_exit ?_
    refine Ex.then_exit ?_
    refine Ex.in_here ?_
    refine Ex.next ?_
    refine W.less (L' := [(8, _), (9, _), (10, _)]) [true, true, true, false] ⟨rfl, rfl, rfl, trivial⟩ ?_
    change (_ : List Blk → Prop) [_, _, _]
    refine W.seq ?_
    refine W.region ?_
    refine T.q (q_slA ar311 0 32 64 rfl rfl rfl ⟨_, _, rfl, rfl⟩ rfl (by first | omega | (simp; done) | (simp [-List.getD_eq_getElem?_getD]; omega)) (by first | omega | (simp; done) | (simp [-List.getD_eq_getElem?_getD]; omega)) (by first | omega | (simp; done) | (simp [-List.getD_eq_getElem?_getD]; omega)) (by simp)) (Wt.plain rfl) rfl rfl ?_
    refine T.q (q_arrp ar38 rfl rfl (by first | omega | (simp; done) | (simp [-List.getD_eq_getElem?_getD]; omega))) (Wt.plain rfl) rfl rfl ?_
    refine T.q (q_loadW (wide_ints wd38 (by first | omega | (simp; done) | (simp [-List.getD_eq_getElem?_getD]; omega) | (simp at *; omega) | rfl)) ((R_takeI (R_cutI (R_blk 1 rfl) (by first | omega | (simp; done) | (simp [-List.getD_eq_getElem?_getD]; omega))) 32 : ∀ w, Mem _ _ _ w → Reads w (cut (some ⟨k4, 0, none⟩) 64 0) _)) rfl rfl) (Wt.plain rfl) rfl rfl ?_
    refine T.q (q_move rfl rfl) (Wt.plain rfl) rfl rfl ?_
    refine T.eff (e_call enters237 rfl rfl (fun w hm => tagsum_at (((block key nonce 0).drop 0).take 32) (tagT b s) (by first | omega | (simp; done) | (simp; omega) | (simp at *; omega)) (bblk _ _ _) (Bytes.tagT hbb hsb) _ _ (by first | omega | (simp; done) | (simp; omega) | (simp at *; omega)) (by first | omega | (simp; done) | (simp; omega) | (simp at *; omega)) w ((R_pre 2 rfl) w hm) (R_ext hq.ext w hm) ((by first | omega | (simp; done) | (simp; omega) | (simp at *; omega)))) rfl rfl) (Wt.plain rfl) ?_
    rintro _ _ ⟨_, _, ⟨rfl, rfl⟩, rfl, rfl⟩
    change (_ : List Blk → Prop) [_, _, _]
    refine T.eff (e_storeA (wide_ints wd272 (by first | omega | (simp; done) | (simp [-List.getD_eq_getElem?_getD]; omega) | (simp at *; omega) | rfl)) 0 rfl rfl rfl rfl (by first | omega | (simp; done) | (simp [-List.getD_eq_getElem?_getD]; omega) | (simp at *; omega) | rfl) ints_one rfl) (Wt.plain rfl) ?_
    rintro _ _ ⟨rfl, rfl⟩
    change (_ : List Blk → Prop) [_, _, _]
    refine T.nil ?_
    refine Ex.next ?_
    refine W.less (L' := [(8, _)]) [true, false, true] ⟨rfl, trivial⟩ ?_
    change (_ : List Blk → Prop) [_, _]
    refine W.ret ?_
    refine Ex.outC [false, false] 0 rfl (by exact (wide_ints wd272 (by first | omega | (simp; done) | (simp [-List.getD_eq_getElem?_getD]; omega) | (simp at *; omega) | rfl))) rfl rfl ?_
    exact ⟨tag_out key nonce b s, rfl⟩
end Go.Proofs.YtpklnjegimchoaaGreatDoor
namespace Go.Proofs.YtpklnjegimchoaaGreatDoor
open Go Go.X
theorem Bytes.xorS (key nonce : List Int) (c : Int) (x : List Int) : Bytes (xorS key nonce c x) := Bytes.gather (fun i => by unfold xorAt bits; exact wrap8 _) (fun _ hx => by cases hx) _
theorem seal_parts (key nonce x : List Int) : ints .u8 (xorS key nonce 1 x ++ (List.replicate (x.length + 16) 0).drop x.length) = ints .u8 (xorS key nonce 1 x) ++ ints .u8 (List.replicate 16 0) := by
  rw [← ints_append, List.drop_replicate, Nat.add_sub_cancel_left]
theorem take_xor (key nonce x : List Int) : (xorS key nonce 1 x).take x.length = xorS key nonce 1 x := List.take_of_length_le (by simp)
theorem seal_end (key nonce x t : List Int) (h : t.length = 16) : (xorS key nonce 1 x ++ List.replicate 16 0).take x.length ++ t ++ (xorS key nonce 1 x ++ List.replicate 16 0).drop (x.length + 16) = xorS key nonce 1 x ++ t := by
  rw [List.take_left' (by simp), List.drop_eq_nil_of_le (by simp), List.append_nil]
theorem cut_own {k c l : Nat} (h : l < c) : cut (some ⟨k, 0, none⟩) c l = some ⟨k, l, none⟩ := by
  unfold cut
  rw [if_neg (by omega)]
  simp only [Option.map_some, Addr.add, Nat.zero_add]
  by_cases h0 : l = 0
  · rw [if_pos h0, h0]
  · rw [if_neg h0]
theorem tag_at (key nonce b s : List Int) (hk : key.length = 32) (hnn : nonce.length = 12) (hkb : Bytes key) (hbb : Bytes b) (hsb : Bytes s) (BA SA : Option Addr) (bc sc : Nat) {n m : Nat} (hbc : n ≤ bc) (hsc : m ≤ sc) (hbp : 0 < n) (hbl : n ≤ 1000000) (hsl : m ≤ 1000000) (w0 : World) (hB : Reads w0 BA (ints .u8 b)) (hS : Reads w0 SA (ints .u8 s)) (hh : Reads w0 (some ⟨4, 0, none⟩) (ints .u32 headW)) (ht : Reads w0 (some ⟨5, 0, none⟩) (ints .i64 tbl)) (hq : Reads w0 (some ⟨10, 0, none⟩) (ints .u64 primeW)) (hn : b.length = n) (hm : s.length = m) :
    Does Tryz.prog 184 #[.agg (ints .u8 key).toArray, .agg (ints .u8 nonce).toArray, .slice BA n bc, .slice SA m sc] w0 [] (fun v G => v = .agg (ints .u8 (tagS key nonce b s)).toArray ∧ G = []) := by
  subst hn hm
  exact tag_spec key nonce b s hk hnn hkb hbb hsb BA SA bc sc hbc hsc hbp hbl hsl w0 hB hS hh ht hq
@[simp] theorem tagS_length (key nonce b s : List Int) : (tagS key nonce b s).length = 16 := sumF_length _ _
theorem xor_at' (key nonce : List Int) (ctr : Int) (hk : key.length = 32) (hnn : nonce.length = 12) (hctr : IntKind.u32.wrap ctr = ctr) (A : Option Addr) (c : Nat) (xs : List Int) {m : Nat} (hsz : m ≤ 140737488351232) (w0 : World) (hR : Reads w0 A (ints .u8 xs)) (hh : Reads w0 (some ⟨4, 0, none⟩) (ints .u32 headW)) (ht : Reads w0 (some ⟨5, 0, none⟩) (ints .i64 tbl)) (hm : xs.length = m) :
    Does Tryz.prog 185 #[.agg (ints .u8 key).toArray, .int .u32 ctr, .agg (ints .u8 nonce).toArray, .slice A m c] w0 [] (fun v G => ∃ (k cap : Nat) (junk : List Value), v = .slice (some ⟨k, 0, none⟩) m cap ∧ m + junk.length = cap ∧ G = [⟨some k, ints .u8 (xorS key nonce ctr xs) ++ junk, 5, (0, 0)⟩]) := by
  subst hm
  exact xor_spec key nonce ctr hk hnn hctr A c xs hsz w0 hR hh ht
set_option maxRecDepth 100000 in
set_option maxHeartbeats 1000000 in
theorem seal_spec (key nonce b x : List Int) (hk : key.length = 32) (hnn : nonce.length = 12) (hkb : Bytes key) (hbb : Bytes b) (BA XA : Option Addr) (bc xc : Nat) (hbc : b.length ≤ bc) (hxc : x.length ≤ xc) (hbp : 0 < b.length) (hbl : b.length ≤ 1000000) (hxl : x.length ≤ 1000000) (w0 : World) (hB : Reads w0 BA (ints .u8 b)) (hX : Reads w0 XA (ints .u8 x)) (hh : Reads w0 (some ⟨4, 0, none⟩) (ints .u32 headW)) (ht : Reads w0 (some ⟨5, 0, none⟩) (ints .i64 tbl)) (hq : Reads w0 (some ⟨10, 0, none⟩) (ints .u64 primeW)) : Does Tryz.prog 212 #[.agg (ints .u8 key).toArray, .agg (ints .u8 nonce).toArray, .slice BA b.length bc, .slice XA x.length xc] w0 [] (fun v G => ∃ k : Nat, v = .slice (some ⟨k, 0, none⟩) (x.length + 16) (x.length + 16) ∧ G = [⟨some k, ints .u8 (xorS key nonce 1 x ++ tagS key nonce b (xorS key nonce 1 x)), 5, (0, 0)⟩]) := by
  have htg := tagS_length key nonce b (xorS key nonce 1 x)
  refine spec_of 38 Tryz.func212 rfl rfl rfl ?_
  refine W.seq ?_
  refine W.region ?_
  refine T.eff (e_box rfl rfl rfl rfl) (Wt.plain rfl) ?_
  rintro _ _ ⟨k1, rfl, rfl⟩
  change (_ : List Blk → Prop) [_]
  refine T.eff (e_box rfl rfl rfl rfl) (Wt.plain rfl) ?_
  rintro _ _ ⟨k2, rfl, rfl⟩
  change (_ : List Blk → Prop) [_, _]
  refine T.q (q_assign rfl rfl) (Wt.plain rfl) rfl rfl ?_
  refine T.nil ?_
  refine Ex.next ?_
  refine W.slots (L' := [(2, _), (3, _), (4, _), (5, _)]) ⟨rfl, rfl, rfl, rfl, trivial⟩ ?_
  refine W.seq ?_
  refine W.region ?_
  refine T.q (q_move rfl rfl) (Wt.plain rfl) rfl rfl ?_
  refine T.q (q_len sc22 rfl rfl) (Wt.plain rfl) rfl rfl ?_
  refine T.q (q_addi rfl rfl rfl (by omega) (by omega)) (Wt.plain rfl) rfl rfl ?_
  refine T.eff (e_makeI sc22 ze5 (x.length + 16) (x.length + 16) rfl rfl rfl (by omega) (by omega) (by omega) (by omega) (by omega) rfl rfl) (Wt.plain rfl) ?_
  rintro _ _ ⟨k3, rfl, rfl⟩
  change (_ : List Blk → Prop) [_, _, _]
  refine T.q (q_assign rfl rfl) (Wt.plain rfl) rfl rfl ?_
  refine T.nil ?_
  refine Ex.next ?_
  refine W.slots (L' := [(2, _), (3, _), (4, _), (5, _), (9, _)]) ⟨rfl, rfl, rfl, rfl, rfl, trivial⟩ ?_
  refine W.seq ?_
  refine W.region ?_
  refine T.q (q_move rfl rfl) (Wt.plain rfl) rfl rfl ?_
  refine T.q (q_loadW (wide_ints wd38 (by first | omega | (simp; done) | (simp [-List.getD_eq_getElem?_getD]; omega) | (simp at *; omega) | rfl)) (R_blk 0 rfl) rfl rfl) (Wt.plain rfl) rfl rfl ?_
  refine T.q (q_loadW (wide_ints wd189 (by first | omega | (simp; done) | (simp [-List.getD_eq_getElem?_getD]; omega) | (simp at *; omega) | rfl)) (R_blk 1 rfl) rfl rfl) (Wt.plain rfl) rfl rfl ?_
  refine T.q (q_move rfl rfl) (Wt.plain rfl) rfl rfl ?_
  refine T.eff (e_call enters185 rfl rfl (fun w hm => xor_at' key nonce 1 hk hnn (by decide +kernel) _ _ x (by first | omega | (simp; done) | (simp; omega) | (simp at *; omega)) w ((R_ext hX.ext) w hm) (R_ext hh.ext w hm) (R_ext ht.ext w hm) (by first | omega | (simp; done) | (simp [-List.getD_eq_getElem?_getD]; omega) | (simp at *; omega) | rfl)) rfl rfl) (Wt.plain rfl) ?_
  rintro _ _ ⟨_, _, ⟨k4, cap5, junk6, rfl, hc7, rfl⟩, rfl, rfl⟩
  change (_ : List Blk → Prop) [_, _, _, _]
  refine T.eff (e_copyI sc22 2 (List.replicate (x.length + 16) 0) (xorS key nonce 1 x) (R_pre 3 rfl) rfl rfl rfl rfl (by first | omega | (simp; done) | (simp [-List.getD_eq_getElem?_getD]; omega) | (simp at *; omega) | rfl) (by first | omega | (simp; done) | (simp [-List.getD_eq_getElem?_getD]; omega)) (by first | omega | (simp; done) | (simp [-List.getD_eq_getElem?_getD]; omega)) rfl rfl) (Wt.plain rfl) ?_
  rintro _ _ ⟨rfl, rfl⟩
  change (_ : List Blk → Prop) [_, _, _, _]
  conv => rhs; rw [seal_parts key nonce x]
  refine T.nil ?_
  refine Ex.next ?_
  refine W.less (L' := [(2, _), (3, _), (4, _), (5, _), (9, _)]) [true, true, true, false] ⟨rfl, rfl, rfl, rfl, rfl, trivial⟩ ?_
  change (_ : List Blk → Prop) [_, _, _]
  refine W.seq ?_
  refine W.draw 11 (by kernel_rfl) ?_
  refine D.take 0 rfl (by kernel_rfl) (fun _ h => h) (q_loadW (wide_ints wd38 (by first | omega | (simp; done) | (simp [-List.getD_eq_getElem?_getD]; omega) | (simp at *; omega) | rfl)) (R_blk 0 rfl) rfl rfl) (Wt.plain rfl) rfl rfl ?_
  refine D.take 1 rfl (by kernel_rfl) (fun _ h => h) (q_loadW (wide_ints wd189 (by first | omega | (simp; done) | (simp [-List.getD_eq_getElem?_getD]; omega) | (simp at *; omega) | rfl)) (R_blk 1 rfl) rfl rfl) (Wt.plain rfl) rfl rfl ?_
  refine D.take 2 rfl (by kernel_rfl) (fun _ h => h) (q_move rfl rfl) (Wt.plain rfl) rfl rfl ?_
  refine D.take 3 rfl (by kernel_rfl) (fun _ h => h) (q_move rfl rfl) (Wt.plain rfl) rfl rfl ?_
  refine D.take 4 rfl (by kernel_rfl) (fun _ h => h) (q_move rfl rfl) (Wt.plain rfl) rfl rfl ?_
  refine D.take 5 rfl (by kernel_rfl) (fun _ h => h) (q_len sc22 rfl rfl) (Wt.plain rfl) rfl rfl ?_
  refine D.take 6 rfl (by kernel_rfl) (fun _ h => h) (q_move rfl rfl) (Wt.plain rfl) rfl rfl ?_
  refine D.take 7 rfl (by kernel_rfl) (fun _ h => h) (q_len sc22 rfl rfl) (Wt.plain rfl) rfl rfl ?_
  refine D.take 8 rfl (by kernel_rfl) (fun _ h => h) (q_sl sc22 0 x.length x.length rfl rfl rfl ⟨_, _, rfl, by omega⟩ ⟨_, _, rfl, by omega⟩ (by first | omega | (simp; done) | (simp [-List.getD_eq_getElem?_getD]; omega)) (by first | omega | (simp; done) | (simp [-List.getD_eq_getElem?_getD]; omega)) (by first | omega | (simp; done) | (simp [-List.getD_eq_getElem?_getD]; omega)) (by simp)) (Wt.plain rfl) rfl rfl ?_
  refine D.two 9 10 (by kernel_rfl) ?_ ?_
  ·
    refine Up.eff rfl (e_call enters184 rfl rfl (fun w hm => tag_at key nonce b ((xorS key nonce 1 x).take x.length) hk hnn hkb hbb (Bytes.take (Bytes.xorS _ _ _ _) _) _ _ _ _ (by first | omega | (simp; done) | (simp; omega) | (simp at *; omega)) (by first | omega | (simp; done) | (simp; omega) | (simp at *; omega)) (by first | omega | (simp; done) | (simp; omega) | (simp at *; omega)) (by first | omega | (simp; done) | (simp; omega) | (simp at *; omega)) (by first | omega | (simp; done) | (simp; omega) | (simp at *; omega)) w ((R_ext hB.ext) w hm) ((R_takeI (R_cutI (l := 0) (R_pre 2 rfl) (by first | omega | (simp; done) | (simp [-List.getD_eq_getElem?_getD]; omega) | (simp at *; omega) | rfl)) x.length) w hm) (R_ext hh.ext w hm) (R_ext ht.ext w hm) (R_ext hq.ext w hm) (by first | omega | (simp; done) | (simp [-List.getD_eq_getElem?_getD]; omega) | (simp at *; omega) | rfl) (by first | omega | (simp; done) | (simp [-List.getD_eq_getElem?_getD]; omega) | (simp at *; omega) | rfl)) rfl rfl) (Wt.plain rfl) ?_
    rintro _ _ ⟨_, _, ⟨rfl, rfl⟩, rfl, rfl⟩
    refine ⟨fun _ => (fun _ h => h), ?_⟩
    change (_ : List Blk → Prop) [_, _, _]
    refine D.one 10 (by kernel_rfl) ?_
    refine Up.eff rfl (e_alloc ze272 rfl rfl rfl) (Wt.plain rfl) ?_
    rintro _ _ ⟨k8, rfl, rfl⟩
    refine ⟨fun _ => (S_sub (((((List.Sublist.slnil).cons _).cons_cons _).cons_cons _).cons_cons _)), ?_⟩
    change (_ : List Blk → Prop) [_, _, _, _]
    refine D.one 11 (by kernel_rfl) ?_
    refine Up.eff rfl (e_storeA (wide_ints wd272 (by first | omega | (simp; done) | (simp [-List.getD_eq_getElem?_getD]; omega) | (simp at *; omega) | rfl)) 3 rfl rfl rfl rfl (by first | omega | (simp; done) | (simp [-List.getD_eq_getElem?_getD]; omega) | (simp at *; omega) | rfl) ints_one rfl) (Wt.plain rfl) ?_
    rintro _ _ ⟨rfl, rfl⟩
    refine ⟨fun h => absurd h (by decide), ?_⟩
    change (_ : List Blk → Prop) [_, _, _, _]
    conv => rhs; rw [take_xor key nonce x, ← ints_append]
    refine D.done (by kernel_rfl) ?_
    refine Ex.next ?_
    refine W.less (L' := [(3, _), (9, _), (10, _)]) [false, false, true, true] ⟨rfl, rfl, rfl, trivial⟩ ?_
    change (_ : List Blk → Prop) [_, _]
    refine W.seq ?_
    refine W.drawP 6 [false, true] (by kernel_rfl) ?_
    refine D.take 0 rfl (by kernel_rfl) (S_sub (((List.Sublist.slnil).cons_cons _).cons _)) (q_move rfl rfl) (Wt.plain rfl) rfl rfl ?_
    refine D.take 1 rfl (by kernel_rfl) (S_sub (((List.Sublist.slnil).cons_cons _).cons _)) (q_move rfl rfl) (Wt.plain rfl) rfl rfl ?_
    refine D.take 2 rfl (by kernel_rfl) (S_sub (((List.Sublist.slnil).cons_cons _).cons _)) (q_len sc22 rfl rfl) (Wt.plain rfl) rfl rfl ?_
    refine D.take 3 rfl (by kernel_rfl) (S_sub (((List.Sublist.slnil).cons_cons _).cons _)) (q_sl sc22 x.length (x.length + 16) (x.length + 16) rfl rfl ⟨_, _, rfl, by omega⟩ rfl rfl (by first | omega | (simp; done) | (simp [-List.getD_eq_getElem?_getD]; omega)) (by first | omega | (simp; done) | (simp [-List.getD_eq_getElem?_getD]; omega)) (by first | omega | (simp; done) | (simp [-List.getD_eq_getElem?_getD]; omega)) (by simp)) (Wt.plain rfl) rfl rfl ?_
    refine D.take 4 rfl (by kernel_rfl) (S_sub (((List.Sublist.slnil).cons_cons _).cons _)) (q_slAll ar272 rfl rfl) (Wt.plain rfl) rfl rfl ?_
    refine D.one 5 (by kernel_rfl) ?_
    refine Up.eff rfl (e_copyO sc22 0 x.length (xorS key nonce 1 x ++ List.replicate 16 0) (tagS key nonce b (xorS key nonce 1 x)) (R_blk 1 rfl) rfl rfl rfl rfl (cut_own (by omega)) (by first | omega | (simp; done) | (simp [-List.getD_eq_getElem?_getD]; omega) | (simp at *; omega) | rfl) (by first | omega | (simp; done) | (simp [-List.getD_eq_getElem?_getD]; omega)) (by first | omega | (simp; done) | (simp [-List.getD_eq_getElem?_getD]; omega) | (simp at *; omega) | rfl) rfl rfl) (Wt.plain rfl) ?_
    rintro _ _ ⟨rfl, rfl⟩
    refine ⟨fun _ => (S_sub (((List.Sublist.slnil).cons_cons _).cons _)), ?_⟩
    change (_ : List Blk → Prop) [_, _]
    conv => rhs; rw [seal_end _ _ _ _ htg]
    refine D.done (by kernel_rfl) ?_
    refine Ex.next ?_
    refine W.less (L' := [(9, _)]) [true, false] ⟨rfl, trivial⟩ ?_
    change (_ : List Blk → Prop) [_]
    refine W.seq ?_
    refine W.region ?_
    refine T.q (q_move rfl rfl) (Wt.plain rfl) rfl rfl ?_
    refine T.q (q_assign rfl rfl) (Wt.plain rfl) rfl rfl ?_
    refine T.nil ?_
    refine Ex.next ?_
    refine W.slots (L' := [(8, _)]) ⟨rfl, trivial⟩ ?_
    refine W.ret ?_
    refine Ex.out1 [true] rfl rfl ?_
    exact ⟨_, rfl, rfl⟩
  ·
    refine Up.eff rfl (e_alloc ze272 rfl rfl rfl) (Wt.plain rfl) ?_
    rintro _ _ ⟨k9, rfl, rfl⟩
    refine ⟨fun _ => (S_sub (((((List.Sublist.slnil).cons _).cons_cons _).cons_cons _).cons_cons _)), ?_⟩
    change (_ : List Blk → Prop) [_, _, _, _]
    refine D.one 9 (by kernel_rfl) ?_
    refine Up.eff rfl (e_call enters184 rfl rfl (fun w hm => tag_at key nonce b ((xorS key nonce 1 x).take x.length) hk hnn hkb hbb (Bytes.take (Bytes.xorS _ _ _ _) _) _ _ _ _ (by first | omega | (simp; done) | (simp; omega) | (simp at *; omega)) (by first | omega | (simp; done) | (simp; omega) | (simp at *; omega)) (by first | omega | (simp; done) | (simp; omega) | (simp at *; omega)) (by first | omega | (simp; done) | (simp; omega) | (simp at *; omega)) (by first | omega | (simp; done) | (simp; omega) | (simp at *; omega)) w ((R_ext hB.ext) w hm) ((R_takeI (R_cutI (l := 0) (R_pre 2 rfl) (by first | omega | (simp; done) | (simp [-List.getD_eq_getElem?_getD]; omega) | (simp at *; omega) | rfl)) x.length) w hm) (R_ext hh.ext w hm) (R_ext ht.ext w hm) (R_ext hq.ext w hm) (by first | omega | (simp; done) | (simp [-List.getD_eq_getElem?_getD]; omega) | (simp at *; omega) | rfl) (by first | omega | (simp; done) | (simp [-List.getD_eq_getElem?_getD]; omega) | (simp at *; omega) | rfl)) rfl rfl) (Wt.plain rfl) ?_
    rintro _ _ ⟨_, _, ⟨rfl, rfl⟩, rfl, rfl⟩
    refine ⟨fun _ => (S_sub (((((List.Sublist.slnil).cons _).cons_cons _).cons_cons _).cons_cons _)), ?_⟩
    change (_ : List Blk → Prop) [_, _, _, _]
    refine D.one 11 (by kernel_rfl) ?_
    refine Up.eff rfl (e_storeA (wide_ints wd272 (by first | omega | (simp; done) | (simp [-List.getD_eq_getElem?_getD]; omega) | (simp at *; omega) | rfl)) 3 rfl rfl rfl rfl (by first | omega | (simp; done) | (simp [-List.getD_eq_getElem?_getD]; omega) | (simp at *; omega) | rfl) ints_one rfl) (Wt.plain rfl) ?_
    rintro _ _ ⟨rfl, rfl⟩
    refine ⟨fun h => absurd h (by decide), ?_⟩
    change (_ : List Blk → Prop) [_, _, _, _]
    conv => rhs; rw [take_xor key nonce x, ← ints_append]
    refine D.done (by kernel_rfl) ?_
    refine Ex.next ?_
    refine W.less (L' := [(3, _), (9, _), (10, _)]) [false, false, true, true] ⟨rfl, rfl, rfl, trivial⟩ ?_
    change (_ : List Blk → Prop) [_, _]
    refine W.seq ?_
    refine W.drawP 6 [false, true] (by kernel_rfl) ?_
    refine D.take 0 rfl (by kernel_rfl) (S_sub (((List.Sublist.slnil).cons_cons _).cons _)) (q_move rfl rfl) (Wt.plain rfl) rfl rfl ?_
    refine D.take 1 rfl (by kernel_rfl) (S_sub (((List.Sublist.slnil).cons_cons _).cons _)) (q_move rfl rfl) (Wt.plain rfl) rfl rfl ?_
    refine D.take 2 rfl (by kernel_rfl) (S_sub (((List.Sublist.slnil).cons_cons _).cons _)) (q_len sc22 rfl rfl) (Wt.plain rfl) rfl rfl ?_
    refine D.take 3 rfl (by kernel_rfl) (S_sub (((List.Sublist.slnil).cons_cons _).cons _)) (q_sl sc22 x.length (x.length + 16) (x.length + 16) rfl rfl ⟨_, _, rfl, by omega⟩ rfl rfl (by first | omega | (simp; done) | (simp [-List.getD_eq_getElem?_getD]; omega)) (by first | omega | (simp; done) | (simp [-List.getD_eq_getElem?_getD]; omega)) (by first | omega | (simp; done) | (simp [-List.getD_eq_getElem?_getD]; omega)) (by simp)) (Wt.plain rfl) rfl rfl ?_
    refine D.take 4 rfl (by kernel_rfl) (S_sub (((List.Sublist.slnil).cons_cons _).cons _)) (q_slAll ar272 rfl rfl) (Wt.plain rfl) rfl rfl ?_
    refine D.one 5 (by kernel_rfl) ?_
    refine Up.eff rfl (e_copyO sc22 0 x.length (xorS key nonce 1 x ++ List.replicate 16 0) (tagS key nonce b (xorS key nonce 1 x)) (R_blk 1 rfl) rfl rfl rfl rfl (cut_own (by omega)) (by first | omega | (simp; done) | (simp [-List.getD_eq_getElem?_getD]; omega) | (simp at *; omega) | rfl) (by first | omega | (simp; done) | (simp [-List.getD_eq_getElem?_getD]; omega)) (by first | omega | (simp; done) | (simp [-List.getD_eq_getElem?_getD]; omega) | (simp at *; omega) | rfl) rfl rfl) (Wt.plain rfl) ?_
    rintro _ _ ⟨rfl, rfl⟩
    refine ⟨fun _ => (S_sub (((List.Sublist.slnil).cons_cons _).cons _)), ?_⟩
    change (_ : List Blk → Prop) [_, _]
    conv => rhs; rw [seal_end _ _ _ _ htg]
    refine D.done (by kernel_rfl) ?_
    refine Ex.next ?_
    refine W.less (L' := [(9, _)]) [true, false] ⟨rfl, trivial⟩ ?_
    change (_ : List Blk → Prop) [_]
    refine W.seq ?_
    refine W.region ?_
    refine T.q (q_move rfl rfl) (Wt.plain rfl) rfl rfl ?_
    refine T.q (q_assign rfl rfl) (Wt.plain rfl) rfl rfl ?_
    refine T.nil ?_
    refine Ex.next ?_
    refine W.slots (L' := [(8, _)]) ⟨rfl, trivial⟩ ?_
    refine W.ret ?_
    refine Ex.out1 [true] rfl rfl ?_
    exact ⟨_, rfl, rfl⟩
end Go.Proofs.YtpklnjegimchoaaGreatDoor
namespace Go.Proofs.YtpklnjegimchoaaGreatDoor
open Go Go.X
theorem xor_at2 (key nonce : List Int) (ctr : Int) (hk : key.length = 32) (hnn : nonce.length = 12) (hctr : IntKind.u32.wrap ctr = ctr) (A : Option Addr) (c : Nat) (xs : List Int) {m : Nat} (hsz : m ≤ 140737488351232) (w0 : World) (hR : Reads w0 A (ints .u8 xs)) (hh : Reads w0 (some ⟨4, 0, none⟩) (ints .u32 headW)) (ht : Reads w0 (some ⟨5, 0, none⟩) (ints .i64 tbl)) (hm : xs.length = m) :
    Does Tryz.prog 185 #[.agg (ints .u8 key).toArray, .int .u32 ctr, .agg (ints .u8 nonce).toArray, .slice A m c] w0 [] (fun v G => ∃ k : Nat, v = .slice (some ⟨k, 0, none⟩) m m ∧ G = [⟨some k, ints .u8 (xorS key nonce ctr xs), 5, (0, 0)⟩]) := by
  subst hm
  exact xor_spec2 key nonce ctr hk hnn hctr A c xs hsz w0 hR hh ht
theorem same_at (a b : List Int) (ha : a.length = 16) (hab : b = a) (w0 : World) : Does Tryz.prog 183 #[.agg (ints .u8 a).toArray, .agg (ints .u8 b).toArray] w0 [] (fun v G => v = .bool true ∧ G = []) := by
  subst hab
  exact same_spec _ ha w0
theorem reads_parts {w : World} {SA : Option Addr} {c t : List Int} (h : Reads w SA (ints .u8 (c ++ t))) (ht : t.length = 16) : ∃ ad, SA = some ad ∧ Reads w (some ad) (ints .u8 c) ∧ Reads w (some (ad.add c.length)) (ints .u8 t) := by
  obtain ⟨v, hv⟩ : ∃ v, (ints .u8 (c ++ t))[0]? = some v := ⟨_, List.getElem?_eq_getElem (by simp; omega)⟩
  obtain ⟨ad, rfl, _⟩ := h 0 v hv
  refine ⟨ad, rfl, ?_, ?_⟩
  · rw [ints_append] at h
    exact h.pre
  · have h2 := h.cut (cap := c.length + 17) (l := c.length) (by simp; omega)
    rw [cut, if_neg (by omega), ints_drop, List.drop_left' rfl] at h2
    exact h2
theorem cut_ad {ad : Addr} {n s : Nat} (h : n + 16 ≤ s) : cut (some ad) s n = some (ad.add n) := by
  unfold cut
  rw [if_neg (by omega)]
  rfl
set_option maxRecDepth 100000 in
set_option maxHeartbeats 1000000 in
theorem open_spec (key nonce b x : List Int) (hk : key.length = 32) (hnn : nonce.length = 12) (hkb : Bytes key) (hbb : Bytes b) (hxb : Bytes x) (BA SA : Option Addr) (bc sc : Nat) (hbc : b.length ≤ bc) (hsc : x.length + 16 ≤ sc) (hbp : 0 < b.length) (hbl : b.length ≤ 1000000) (hxl : x.length ≤ 1000000) (w0 : World) (hB : Reads w0 BA (ints .u8 b)) (hS : Reads w0 SA (ints .u8 (xorS key nonce 1 x ++ tagS key nonce b (xorS key nonce 1 x)))) (hh : Reads w0 (some ⟨4, 0, none⟩) (ints .u32 headW)) (ht : Reads w0 (some ⟨5, 0, none⟩) (ints .i64 tbl)) (hq : Reads w0 (some ⟨10, 0, none⟩) (ints .u64 primeW)) : Does Tryz.prog 109 #[.agg (ints .u8 key).toArray, .agg (ints .u8 nonce).toArray, .slice BA b.length bc, .slice SA (x.length + 16) sc] w0 [] (fun v G => ∃ k : Nat, v = .tuple #[.slice (some ⟨k, 0, none⟩) x.length x.length, .int .i64 0] ∧ G = [⟨some k, ints .u8 x, 5, (0, 0)⟩]) := by
  have hcl := xorS_length key nonce 1 x
  obtain ⟨ad, rfl, hC, hT⟩ := reads_parts hS (tagS_length _ _ _ _)
  rw [hcl] at hT
  have hcut := cut_ad (ad := ad) hsc
  refine spec_of 37 Tryz.func109 rfl rfl rfl ?_
  refine W.seq ?_
  refine W.region ?_
  refine T.eff (e_box rfl rfl rfl rfl) (Wt.plain rfl) ?_
  rintro _ _ ⟨k1, rfl, rfl⟩
  change (_ : List Blk → Prop) [_]
  refine T.eff (e_box rfl rfl rfl rfl) (Wt.plain rfl) ?_
  rintro _ _ ⟨k2, rfl, rfl⟩
  change (_ : List Blk → Prop) [_, _]
  refine T.q (q_assign rfl rfl) (Wt.plain rfl) rfl rfl ?_
  refine T.q (q_assign rfl rfl) (Wt.plain rfl) rfl rfl ?_
  refine T.nil ?_
  refine Ex.next ?_
  refine W.slots (L' := [(2, _), (3, _), (4, _), (5, _)]) ⟨rfl, rfl, rfl, rfl, trivial⟩ ?_
  refine W.seq ?_
  refine W.region ?_
  refine T.q (q_move rfl rfl) (Wt.plain rfl) rfl rfl ?_
  refine T.q (q_len sc22 rfl rfl) (Wt.plain rfl) rfl rfl ?_
  refine T.q (q_int (b := ((x.length : Nat) : Int)) (q_subi rfl rfl rfl (by omega) (by omega)) ?hE) (Wt.plain rfl) rfl rfl ?_
  case hE => omega
  refine T.q (q_assign rfl rfl) (Wt.plain rfl) rfl rfl ?_
  refine T.nil ?_
  refine Ex.next ?_
  refine W.slots (L' := [(2, _), (3, _), (4, _), (5, _), (10, _)]) ⟨rfl, rfl, rfl, rfl, rfl, trivial⟩ ?_
  refine W.seq ?_
  refine W.seq ?_
  refine W.region ?_
  refine T.q (q_move rfl rfl) (Wt.plain rfl) rfl rfl ?_
  refine T.q (q_bool (b := false) (q_lss rfl rfl rfl) (decide_eq_false (by omega))) (Wt.plain rfl) rfl rfl ?_
  refine T.nil ?_
  refine Ex.next ?_
  refine W.slots (L' := [(2, _), (3, _), (4, _), (5, _), (10, _), (15, _)]) ⟨rfl, rfl, rfl, rfl, rfl, rfl, trivial⟩ ?_
  refine W.condF rfl ?_
  refine W.skip ?_
  refine Ex.next ?_
  refine W.slots (L' := [(2, _), (3, _), (4, _), (5, _), (10, _)]) ⟨rfl, rfl, rfl, rfl, rfl, trivial⟩ ?_
  refine W.seq ?_
  refine W.seq ?_
  refine W.draw 15 (by kernel_rfl) ?_
  refine D.take 0 rfl (by kernel_rfl) (fun _ h => h) (q_loadW (wide_ints wd38 (by first | omega | (simp; done) | (simp [-List.getD_eq_getElem?_getD]; omega) | (simp at *; omega) | rfl)) (R_blk 0 rfl) rfl rfl) (Wt.plain rfl) rfl rfl ?_
  refine D.take 1 rfl (by kernel_rfl) (fun _ h => h) (q_loadW (wide_ints wd189 (by first | omega | (simp; done) | (simp [-List.getD_eq_getElem?_getD]; omega) | (simp at *; omega) | rfl)) (R_blk 1 rfl) rfl rfl) (Wt.plain rfl) rfl rfl ?_
  refine D.take 2 rfl (by kernel_rfl) (fun _ h => h) (q_move rfl rfl) (Wt.plain rfl) rfl rfl ?_
  refine D.take 3 rfl (by kernel_rfl) (fun _ h => h) (q_move rfl rfl) (Wt.plain rfl) rfl rfl ?_
  refine D.take 4 rfl (by kernel_rfl) (fun _ h => h) (q_move rfl rfl) (Wt.plain rfl) rfl rfl ?_
  refine D.take 5 rfl (by kernel_rfl) (fun _ h => h) (q_move rfl rfl) (Wt.plain rfl) rfl rfl ?_
  refine D.take 6 rfl (by kernel_rfl) (fun _ h => h) (q_sl sc22 0 x.length x.length rfl rfl rfl ⟨_, _, rfl, by omega⟩ ⟨_, _, rfl, by omega⟩ (by first | omega | (simp; done) | (simp [-List.getD_eq_getElem?_getD]; omega)) (by first | omega | (simp; done) | (simp [-List.getD_eq_getElem?_getD]; omega)) (by first | omega | (simp; done) | (simp [-List.getD_eq_getElem?_getD]; omega)) (by simp)) (Wt.plain rfl) rfl rfl ?_
  refine D.take 8 rfl (by kernel_rfl) (fun _ h => h) (q_move rfl rfl) (Wt.plain rfl) rfl rfl ?_
  refine D.take 9 rfl (by kernel_rfl) (fun _ h => h) (q_move rfl rfl) (Wt.plain rfl) rfl rfl ?_
  refine D.take 10 rfl (by kernel_rfl) (fun _ h => h) (q_sl sc22 x.length (x.length + 16) sc rfl rfl ⟨_, _, rfl, by omega⟩ rfl rfl (by first | omega | (simp; done) | (simp [-List.getD_eq_getElem?_getD]; omega)) (by first | omega | (simp; done) | (simp [-List.getD_eq_getElem?_getD]; omega)) (by first | omega | (simp; done) | (simp [-List.getD_eq_getElem?_getD]; omega)) (by simp)) (Wt.plain rfl) rfl rfl ?_
  rw [hcut]
  refine D.take 11 rfl (by kernel_rfl) (fun _ h => h) (q_arrp ar272 rfl rfl (by first | omega | (simp; done) | (simp [-List.getD_eq_getElem?_getD]; omega))) (Wt.plain rfl) rfl rfl ?_
  refine D.take 12 rfl (by kernel_rfl) (fun _ h => h) (q_loadW (wide_ints wd272 (by first | omega | (simp; done) | (simp [-List.getD_eq_getElem?_getD]; omega) | (simp at *; omega) | rfl)) (R_ext hT.ext) rfl rfl) (Wt.plain rfl) rfl rfl ?_
  refine D.one 7 (by kernel_rfl) ?_
  refine Up.eff rfl (e_call enters184 rfl rfl (fun w hm => tag_at key nonce b (xorS key nonce 1 x) hk hnn hkb hbb (Bytes.xorS _ _ _ _) _ _ _ _ (by first | omega | (simp; done) | (simp; omega) | (simp at *; omega)) (by first | omega | (simp; done) | (simp; omega) | (simp at *; omega)) (by first | omega | (simp; done) | (simp; omega) | (simp at *; omega)) (by first | omega | (simp; done) | (simp; omega) | (simp at *; omega)) (by first | omega | (simp; done) | (simp; omega) | (simp at *; omega)) w ((R_ext hB.ext) w hm) ((R_cutI (l := 0) (R_ext hC.ext) (by first | omega | (simp; done) | (simp [-List.getD_eq_getElem?_getD]; omega) | (simp at *; omega) | rfl)) w hm) (R_ext hh.ext w hm) (R_ext ht.ext w hm) (R_ext hq.ext w hm) (by first | omega | (simp; done) | (simp [-List.getD_eq_getElem?_getD]; omega) | (simp at *; omega) | rfl) (by first | omega | (simp; done) | (simp [-List.getD_eq_getElem?_getD]; omega) | (simp at *; omega) | rfl)) rfl rfl) (Wt.plain rfl) ?_
  rintro _ _ ⟨_, _, ⟨rfl, rfl⟩, rfl, rfl⟩
  refine ⟨fun _ => (fun _ h => h), ?_⟩
  change (_ : List Blk → Prop) [_, _]
  refine D.one 13 (by kernel_rfl) ?_
  refine Up.eff rfl (e_call enters183 rfl rfl (fun w hm => same_at _ _ (tagS_length _ _ _ _) rfl w) rfl rfl) (Wt.plain rfl) ?_
  rintro _ _ ⟨_, _, ⟨rfl, rfl⟩, rfl, rfl⟩
  refine ⟨fun _ => (fun _ h => h), ?_⟩
  change (_ : List Blk → Prop) [_, _]
  refine D.take 14 rfl (by kernel_rfl) (fun _ h => h) (q_not rfl rfl) (Wt.plain rfl) rfl rfl ?_
  refine D.done (by kernel_rfl) ?_
  refine Ex.next ?_
  refine W.slots (L' := [(3, _), (4, _), (5, _), (10, _), (30, _)]) ⟨rfl, rfl, rfl, rfl, rfl, trivial⟩ ?_
  refine W.condF rfl ?_
  refine W.skip ?_
  refine Ex.next ?_
  refine W.slots (L' := [(3, _), (4, _), (5, _), (10, _)]) ⟨rfl, rfl, rfl, rfl, trivial⟩ ?_
  refine W.seq ?_
  refine W.draw 6 (by kernel_rfl) ?_
  refine D.take 0 rfl (by kernel_rfl) (fun _ h => h) (q_loadW (wide_ints wd38 (by first | omega | (simp; done) | (simp [-List.getD_eq_getElem?_getD]; omega) | (simp at *; omega) | rfl)) (R_blk 0 rfl) rfl rfl) (Wt.plain rfl) rfl rfl ?_
  refine D.take 1 rfl (by kernel_rfl) (fun _ h => h) (q_loadW (wide_ints wd189 (by first | omega | (simp; done) | (simp [-List.getD_eq_getElem?_getD]; omega) | (simp at *; omega) | rfl)) (R_blk 1 rfl) rfl rfl) (Wt.plain rfl) rfl rfl ?_
  refine D.take 2 rfl (by kernel_rfl) (fun _ h => h) (q_move rfl rfl) (Wt.plain rfl) rfl rfl ?_
  refine D.take 3 rfl (by kernel_rfl) (fun _ h => h) (q_move rfl rfl) (Wt.plain rfl) rfl rfl ?_
  refine D.take 4 rfl (by kernel_rfl) (fun _ h => h) (q_sl sc22 0 x.length sc rfl rfl rfl ⟨_, _, rfl, by omega⟩ rfl (by first | omega | (simp; done) | (simp [-List.getD_eq_getElem?_getD]; omega)) (by first | omega | (simp; done) | (simp [-List.getD_eq_getElem?_getD]; omega)) (by first | omega | (simp; done) | (simp [-List.getD_eq_getElem?_getD]; omega)) (by simp)) (Wt.plain rfl) rfl rfl ?_
  refine D.one 5 (by kernel_rfl) ?_
  refine Up.eff rfl (e_call enters185 rfl rfl (fun w hm => xor_at2 key nonce 1 hk hnn (by decide +kernel) _ _ (xorS key nonce 1 x) (by first | omega | (simp; done) | (simp; omega) | (simp at *; omega)) w ((R_cutI (l := 0) (R_ext hC.ext) (by first | omega | (simp; done) | (simp [-List.getD_eq_getElem?_getD]; omega) | (simp at *; omega) | rfl)) w hm) (R_ext hh.ext w hm) (R_ext ht.ext w hm) (by first | omega | (simp; done) | (simp [-List.getD_eq_getElem?_getD]; omega) | (simp at *; omega) | rfl)) rfl rfl) (Wt.plain rfl) ?_
  rintro _ _ ⟨_, _, ⟨k3, rfl, rfl⟩, rfl, rfl⟩
  refine ⟨fun _ => (S_sub ((((List.Sublist.slnil).cons _).cons_cons _).cons_cons _)), ?_⟩
  change (_ : List Blk → Prop) [_, _, _]
  refine D.one 6 (by kernel_rfl) ?_
  refine Up.q rfl (q_assign rfl rfl) (Wt.plain rfl) rfl rfl (fun h => absurd h (by decide)) ?_
  refine D.one 7 (by kernel_rfl) ?_
  refine Up.q rfl (q_assign rfl rfl) (Wt.plain rfl) rfl rfl (fun h => absurd h (by decide)) ?_
  refine D.done (by kernel_rfl) ?_
  refine Ex.next ?_
  refine W.less (L' := [(8, _), (9, _)]) [false, false, true] ⟨rfl, rfl, trivial⟩ ?_
  change (_ : List Blk → Prop) [_]
  refine W.ret ?_
  refine Ex.out2 [true] rfl rfl rfl ?_
  exact ⟨_, rfl, by rw [xorS_twice _ _ _ hxb]; rfl⟩
end Go.Proofs.YtpklnjegimchoaaGreatDoor
namespace Go.Proofs.YtpklnjegimchoaaGreatDoor
open Go Go.X Go.Z
theorem sealX : ∃ f : SealF, (∀ k n b t, (f k n b t).length = t.length + 16 ∧ Bytes (f k n b t)) ∧ f = fun k n b t => xorS k n 1 t ++ tagS k n b (xorS k n 1 t) :=
  ⟨_, fun k n b t => ⟨by simp, bytes_app (Bytes.xorS _ _ _ _) (Bytes.sumF _ _)⟩, rfl⟩
noncomputable def sealS : SealF := Classical.choose sealX
theorem sealS_length (k n b t : List Int) : (sealS k n b t).length = t.length + 16 := ((Classical.choose_spec sealX).1 k n b t).1
theorem Bytes.sealS (k n b t : List Int) : Bytes (sealS k n b t) := ((Classical.choose_spec sealX).1 k n b t).2
theorem sealS_eq (k n b t : List Int) : sealS k n b t = xorS k n 1 t ++ tagS k n b (xorS k n 1 t) := by
  have h := (Classical.choose_spec sealX).2
  exact congrFun (congrFun (congrFun (congrFun h k) n) b) t
section
variable {w0 w : World} {ρ ρ' : Env} {g g' : G}
noncomputable abbrev inS : In := inZ sealS Bytes.sealS
theorem lenPos_ok {e : E} {I : In} (he : Eok I ρ e) {cs : Cs} {vs : List Value} (h : lenPos e cs = true) (hv : Cs.ev ρ cs = some vs) : 0 < vs.length := by
  unfold lenPos at h
  split at h
  · next b hb =>
    have := lt_ok he.bok (rfl : (Lin.k 0).ev ρ = some 0) (Cs.ev_len hv) hb
    subst h
    have := of_decide_eq_true this.symm
    omega
  · cases h
theorem evVs4 {a b c d : SV} {vs : List Value} (h : evVs ρ [a, b, c, d] = some vs) : ∃ v1 v2 v3 v4, vs = [v1, v2, v3, v4] ∧ a.ev ρ = some v1 ∧ b.ev ρ = some v2 ∧ c.ev ρ = some v3 ∧ d.ev ρ = some v4 := by
  simp only [evVs] at h
  cases ha : a.ev ρ <;> simp only [ha] at h
  · cases h
  cases hb : b.ev ρ <;> simp only [hb] at h
  · cases h
  cases hc : c.ev ρ <;> simp only [hc] at h
  · cases h
  cases hd : d.ev ρ <;> simp only [hd] at h
  · cases h
  cases h
  exact ⟨_, _, _, _, rfl, rfl, rfl, rfl, rfl⟩
theorem run_allL {l : Nat} {n : Lin} {vs : List Value} (h : ρ.l l = some vs) (hn : n.ev ρ = some (vs.length : Int)) (h1 : vs.all Value.oneCell' = true) : Cs.ev ρ [.run l 0 n] = some vs := by
  simp only [Cs.ev, Seg.ev, h, hn]
  rw [if_pos ⟨by omega, by omega, h1⟩]
  simp
theorem bytesV_ints {b : List Int} (h : BytesV (ints .u8 b)) : Bytes b := by
  obtain ⟨c, h1, h2⟩ := h
  rw [ints_inj h1]
  exact h2
theorem newB_ok {I : In} (hg : Gok I w0 ρ g w) {cs : Cs} {s : SC} (h : newB g cs = some (s, g')) {vs : List Value} (hv : Cs.ev ρ cs = some vs) {k : Nat} {w' : World} (hm : Mem w [] [⟨some k, vs, 5, (0, 0)⟩] w') :
    ∃ ρ', ρ.le ρ' ∧ SC.ev ρ' s = some (.slice (some ⟨k, 0, none⟩) vs.length vs.length) ∧ Gok I w0 ρ' g' w' := by
  unfold newB at h
  split at h
  · next id nb rs hn =>
    cases h
    obtain ⟨hle1, hg1, hs1, hj1⟩ := hg.junk 0 1 (by omega) [] (by simp) (fun v hv => by cases hv)
    have hhere := hm.has _ (List.mem_cons_self ..)
    have hnew := hm.mine _ (List.mem_cons_self ..) k rfl
    have hnew : w.heap.size ≤ k := by simpa using hnew
    obtain ⟨hle2, hg2⟩ := hg1.new (nid := none) (id := id) (nb' := nb) (rs' := rs) hn hm.kept hnew (hb := .cells (cs ++ [.run g.e.nl 0 (slackL g.e.ni 1)]) 5) (fun ρ' hle => ⟨k, vs, rfl, by
      have := Cs.ev_append (Cs.ev_mono (hle1.trans hle) hv) (Cs.ev_mono hle hj1)
      rw [List.append_nil] at this
      exact this, hhere⟩)
    refine ⟨_, hle1.trans hle2, ?_, hg2⟩
    have h1 := Lin.ev_mono (hle1.trans hle2) (Cs.ev_len hv)
    have h2 := Lin.ev_add h1 (Lin.ev_mono hle2 hs1)
    simp only [SC.ev, Env.setB_self, h1, h2]
    rw [if_pos (by omega), add_lit]
    congr 2
  · cases h
theorem pSeal_ok (hw0 : Glob w0) (hq : Reads w0 (some ⟨10, 0, none⟩) (ints .u64 primeW)) : PrimOk Tryz.prog inS w0 212 pSeal := by
  intro args g r g' h ρ vs w hvs hg
  have hI := inS.ok
  have hG := hw0.kept hg.mem.kept
  have hQ := reads_kept hq hg.mem.kept
  unfold pSeal at h
  split at h
  · next k nn x y =>
    split at h
    · next bs ts hbs hts =>
      cases hb : (bytesC g.e k && lenIs g.e k 32 && bytesC g.e nn && lenIs g.e nn 12 && bytesC g.e bs && lenUp g.e bs 65536 && lenPos g.e bs && bytesC g.e ts && lenUp g.e ts 65536) with
      | false => rw [hb, cond_false] at h; cases h
      | true =>
        rw [hb, cond_true] at h
        simp only [Bool.and_eq_true] at hb
        obtain ⟨⟨⟨⟨⟨⟨⟨⟨hk1, hk2⟩, hn1⟩, hn2⟩, hb1⟩, hb2⟩, hb3⟩, ht1⟩, ht2⟩ := hb
        split at h
        next i e hmk =>
        split at h
        · next s g2 hnb =>
          cases h
          obtain ⟨v1, v2, v3, v4, rfl, e1, e2, e3, e4⟩ := evVs4 hvs
          simp only [SV.ev, EV.ev] at e1 e2
          obtain ⟨kc, hkv, rfl⟩ := Option.map_eq_some_iff.1 e1
          obtain ⟨nc, hnv, rfl⟩ := Option.map_eq_some_iff.1 e2
          obtain ⟨A, l, c, vb, rfl, hlc, hcv, hlen, hR⟩ := argCs_ok hg hbs e3
          obtain ⟨A2, l2, c2, vt, rfl, hlc2, hcv2, hlen2, hR2⟩ := argCs_ok hg hts e4
          have q1 := lenIs_ok hg.env hk2 hkv
          have q2 := lenIs_ok hg.env hn2 hnv
          have q3 := lenUp_ok hg.env hb2 hcv
          have q4 := lenPos_ok hg.env hb3 hcv
          have q5 := lenUp_ok hg.env ht2 hcv2
          obtain ⟨K, rfl, hK⟩ := bytesC_ok hI hg.env hk1 hkv
          obtain ⟨N, rfl, hN⟩ := bytesC_ok hI hg.env hn1 hnv
          obtain ⟨B, rfl, hB⟩ := bytesC_ok hI hg.env hb1 hcv
          obtain ⟨X, rfl, hX⟩ := bytesC_ok hI hg.env ht1 hcv2
          rw [ints_length] at q1 q2 q3 q4 q5 hlen hlen2
          subst hlen hlen2
          obtain ⟨ρ1, hle1, hi1, hg1⟩ := mkL_ok hI hg hmk (vs := ints .u8 (sealS K N B X)) (us := [ints .u8 K, ints .u8 N, ints .u8 B, ints .u8 X]) (by
            have := Lin.ev_add (Cs.ev_len hcv2) (rfl : (Lin.k 16).ev ρ = some 16)
            rw [this, ints_length, ints_length, sealS_length]; simp) (ints_all _) (by simp only [evAs, normC_ok hkv, normC_ok hnv, normC_ok hcv, normC_ok hcv2]) ⟨K, N, B, X, rfl, rfl⟩ (by exact Nat.succ_ne_zero _)
          have hlen : ((Cs.len ts).add (.k 16)).ev ρ1 = some (((ints .u8 (sealS K N B X)).length : Nat) : Int) := by
            have := Lin.ev_mono hle1 (Lin.ev_add (Cs.ev_len hcv2) (rfl : (Lin.k 16).ev ρ = some 16))
            rw [this, ints_length, ints_length, sealS_length]; simp
          refine .inl ⟨fun w => enters212 _ w, Calls.mono (seal_spec K N B X q1 q2 hK hB A A2 c c2 hlc hlc2 q4 (by omega) (by omega) w hR hR2 hG.head hG.round hQ) ?_⟩
          rintro e w' ⟨v, F, rfl, hm, kk, rfl, rfl⟩
          rw [← sealS_eq] at hm
          have hrun : Cs.ev ρ1 [.run i 0 ((Cs.len ts).add (.k 16))] = some (ints .u8 (sealS K N B X)) := run_allL hi1 hlen (ints_all _)
          obtain ⟨ρ2, hle2, hsv, hg2⟩ := newB_ok hg1 hnb hrun hm
          rw [ints_length, sealS_length] at hsv
          exact ⟨ρ2, _, hle1.trans hle2, rfl, hsv, hg2⟩
        · cases h
    · cases h
  · cases h
theorem pOpen_ok (hw0 : Glob w0) (hq : Reads w0 (some ⟨10, 0, none⟩) (ints .u64 primeW)) : PrimOk Tryz.prog inS w0 109 pOpen := by
  intro args g r g' h ρ vs w hvs hg
  have hI := inS.ok
  have hG := hw0.kept hg.mem.kept
  have hQ := reads_kept hq hg.mem.kept
  unfold pOpen at h
  split at h
  · next k nn x y =>
    split at h
    · next bs ss hbs hss =>
      split at h
      · next i n hno =>
        split at h
        · next n' k' nn' bs' ts hli =>
          cases hb : (n.beq n' && Cs.beq (normC k) k' && Cs.beq (normC nn) nn' && Cs.beq (normC bs) bs' && bytesC g.e bs && bytesC g.e k && bytesC g.e nn && lenIs g.e k 32 && lenIs g.e nn 12 && lenUp g.e bs 65536 && lenPos g.e bs && lenUp g.e ts 65536 && bytesC g.e ts) with
          | false => rw [hb, cond_false] at h; cases h
          | true =>
            rw [hb, cond_true] at h
            simp only [Bool.and_eq_true] at hb
            obtain ⟨⟨⟨⟨⟨⟨⟨⟨⟨⟨⟨⟨f1, f2⟩, f3⟩, f4⟩, hb1⟩, hk1⟩, hn1⟩, hk2⟩, hn2⟩, hb2⟩, hb3⟩, ht2⟩, ht1⟩ := hb
            split at h
            · next s g2 hnb =>
              cases h
              obtain rfl := Lin.beq_ok f1
              obtain rfl := Cs.beq_ok f2
              obtain rfl := Cs.beq_ok f3
              obtain rfl := Cs.beq_ok f4
              obtain ⟨v1, v2, v3, v4, rfl, e1, e2, e3, e4⟩ := evVs4 hvs
              simp only [SV.ev, EV.ev] at e1 e2
              obtain ⟨kc, hkv, rfl⟩ := Option.map_eq_some_iff.1 e1
              obtain ⟨nc, hnv, rfl⟩ := Option.map_eq_some_iff.1 e2
              obtain ⟨A, l, c, vb, rfl, hlc, hcv, hlen, hR⟩ := argCs_ok hg hbs e3
              obtain ⟨A2, l2, c2, vt, rfl, hlc2, hcv2, hlen2, hR2⟩ := argCs_ok hg hss e4
              obtain ⟨us, u1, u2, u3, u4⟩ := hg.env.lok i _ hli
              obtain ⟨uus, hus, K, N, B, X, rfl, rfl⟩ := u4 _ rfl
              cases hts : Cs.ev ρ ts with
              | none => simp [evAs, normC_ok hkv, normC_ok hnv, normC_ok hcv, hts] at hus
              | some vv =>
                simp only [evAs, normC_ok hkv, normC_ok hnv, normC_ok hcv, hts, Option.some.injEq, List.cons.injEq, and_true] at hus
                obtain ⟨rfl, rfl, rfl, rfl⟩ := hus
                have q1 := lenIs_ok hg.env hk2 hkv
                have q2 := lenIs_ok hg.env hn2 hnv
                have q3 := lenUp_ok hg.env hb2 hcv
                have q4 := lenPos_ok hg.env hb3 hcv
                have q5 := lenUp_ok hg.env ht2 hts
                have hK := bytesV_ints (bytesC_ok hI hg.env hk1 hkv)
                have hN := bytesV_ints (bytesC_ok hI hg.env hn1 hnv)
                have hB := bytesV_ints (bytesC_ok hI hg.env hb1 hcv)
                have hX := bytesV_ints (bytesC_ok hI hg.env ht1 hts)
                have hrow : ints .u8 (sealS K N B X) = vt := by
                  have h1 := normC_ok hcv2
                  rw [hno, run_allL u1 u2 u3] at h1
                  exact Option.some.inj h1
                subst hrow
                rw [ints_length] at q1 q2 q3 q4 q5 hlen hlen2
                rw [sealS_length] at hlen2
                subst hlen hlen2
                rw [sealS_eq] at hR2
                refine .inl ⟨fun w => enters109 _ w, Calls.mono (open_spec K N B X q1 q2 hK hB hX A A2 c c2 hlc hlc2 q4 (by omega) (by omega) w hR hR2 hG.head hG.round hQ) ?_⟩
                rintro e w' ⟨v, F, rfl, hm, kk, rfl, rfl⟩
                obtain ⟨ρ2, hle2, hsv, hg2⟩ := newB_ok hg hnb hts hm
                rw [ints_length] at hsv
                refine ⟨ρ2, _, hle2, rfl, ?_, hg2⟩
                simp only [SV.ev, evEs, EV.ev, hsv]
                rfl
            · cases h
        · cases h
      · cases h
    · cases h
  · cases h
end
end Go.Proofs.YtpklnjegimchoaaGreatDoor
