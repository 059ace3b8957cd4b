/-
  The walks of the tag.
-/
import Derived.Test.YtpklnjegimchoaaGreatDoorMO
import Derived.Test.YtpklnjegimchoaaGreatDoorMP
import Derived.Test.YtpklnjegimchoaaGreatDoorMR
namespace Go.Proofs.YtpklnjegimchoaaGreatDoor
open Go Go.X
theorem ar272 : arr Tryz.prog 272 = some (16, 5, 1) := by kernel_rfl
theorem ar345 : arr Tryz.prog 345 = some (17, 5, 1) := by kernel_rfl
theorem wd272 : wide Tryz.prog 272 = some 16 := by kernel_rfl
theorem wd345 : wide Tryz.prog 345 = some 17 := by kernel_rfl
theorem ze272 : zer Tryz.prog 272 = some (ints .u8 (List.replicate 16 0)) := by kernel_rfl
theorem ze345 : zer Tryz.prog 345 = some (ints .u8 (List.replicate 17 0)) := by kernel_rfl
end Go.Proofs.YtpklnjegimchoaaGreatDoor
namespace Go.Proofs.YtpklnjegimchoaaGreatDoor
open Go Go.X
theorem bxor_self (x : Int) : bits .xor .u8 x x = 0 := by
  simp [bits, BitVec.xor_self, IntKind.wrap, IntKind.signed]
set_option maxRecDepth 100000 in
theorem same_spec (a : List Int) (ha : a.length = 16) (w0 : World) : Does Tryz.prog 183 #[.agg (ints .u8 a).toArray, .agg (ints .u8 a).toArray] w0 [] (fun v G => v = .bool true ∧ G = []) := by
  refine spec_of 22 Tryz.func183 rfl rfl rfl ?_
  refine W.seq ?_
  refine W.region ?_
  refine T.eff (e_box rfl rfl rfl rfl) (Wt.plain rfl) ?_
  rintro _ _ ⟨k1, rfl, rfl⟩
  change (_ : List Blk → Prop) [_]
  refine T.eff (e_box rfl rfl rfl rfl) (Wt.plain rfl) ?_
  rintro _ _ ⟨k2, rfl, rfl⟩
  change (_ : List Blk → Prop) [_, _]
  refine T.q (q_assign rfl rfl) (Wt.plain rfl) rfl rfl ?_
  refine T.nil ?_
  refine Ex.next ?_
  refine W.slots (L' := [(2, _), (3, _)]) ⟨rfl, rfl, trivial⟩ ?_
  refine W.seq ?_
  refine W.region ?_
  refine T.q (q_assign rfl rfl) (Wt.plain rfl) rfl rfl ?_
  refine T.nil ?_
  refine Ex.next ?_
  refine W.slots (L' := [(2, _), (3, _), (5, _)]) ⟨rfl, rfl, rfl, trivial⟩ ?_
  refine W.seq ?_
  refine W.seq ?_
  refine W.region ?_
  refine T.q (q_move rfl rfl) (Wt.plain rfl) rfl rfl ?_
  refine T.nil ?_
  refine Ex.next ?_
  refine W.slots (L' := [(2, _), (3, _), (5, _), (7, _)]) ⟨rfl, rfl, rfl, rfl, trivial⟩ ?_
  refine W.block ?_
  refine W.loop (α := Nat) (fun i => [(2, .pointer (some ⟨k1, 0, none⟩)), (3, .pointer (some ⟨k2, 0, none⟩)), (5, .int .u8 0), (7, .int .i64 ((i : Nat) : Int))]) (fun i => [⟨some k1, ints .u8 a, 272, (0, 0)⟩, ⟨some k2, ints .u8 a, 272, (0, 0)⟩]) (fun i => i ≤ 16) (fun i => 16 - i) [true, true] 0 (by omega) ⟨rfl, rfl, rfl, rfl, trivial⟩ rfl ?_
  rintro i hi
  refine W.seq ?_
  refine W.region ?_
  refine T.q (q_lss rfl rfl rfl) (Wt.plain rfl) rfl rfl ?_
  refine T.nil ?_
  refine Ex.next ?_
  refine W.slots (L' := [(2, _), (3, _), (5, _), (7, _), (8, _)]) ⟨rfl, rfl, rfl, rfl, rfl, trivial⟩ ?_
  refine W.seq ?_
  refine W.cond _ rfl (fun hb3 => ?_) (fun hb3 => ?_)
  · replace hb3 := of_decide_eq_true hb3
    refine W.skip ?_
    refine Ex.next ?_
    refine W.slots (L' := [(2, _), (3, _), (5, _), (7, _)]) ⟨rfl, rfl, rfl, rfl, trivial⟩ ?_
    refine W.seq ?_
    refine W.block ?_
    refine W.seq ?_
    refine W.region ?_
    refine T.q (q_move rfl rfl) (Wt.plain rfl) rfl rfl ?_
    refine T.q (q_assign rfl rfl) (Wt.plain rfl) rfl rfl ?_
    refine T.nil ?_
    refine Ex.next ?_
    refine W.slots (L' := [(2, _), (3, _), (5, _), (6, _), (7, _)]) ⟨rfl, rfl, rfl, rfl, rfl, trivial⟩ ?_
    refine W.draw 9 (by kernel_rfl) ?_
    refine D.take 0 rfl (by kernel_rfl) (fun _ h => h) (q_move rfl rfl) (Wt.plain rfl) rfl rfl ?_
    refine D.take 1 rfl (by kernel_rfl) (fun _ h => h) (q_move rfl rfl) (Wt.plain rfl) rfl rfl ?_
    refine D.take 2 rfl (by kernel_rfl) (fun _ h => h) (q_ixA0 ar272 i rfl rfl rfl (by omega) (by omega)) (Wt.plain rfl) rfl rfl ?_
    refine D.take 3 rfl (by kernel_rfl) (fun _ h => h) (q_loadI ss5 0 rfl rfl rfl (by first | omega | (simp; done) | (simp [-List.getD_eq_getElem?_getD]; omega))) (Wt.plain rfl) rfl rfl ?_
    refine D.take 4 rfl (by kernel_rfl) (fun _ h => h) (q_move rfl rfl) (Wt.plain rfl) rfl rfl ?_
    refine D.take 5 rfl (by kernel_rfl) (fun _ h => h) (q_ixA0 ar272 i rfl rfl rfl (by omega) (by omega)) (Wt.plain rfl) rfl rfl ?_
    refine D.take 6 rfl (by kernel_rfl) (fun _ h => h) (q_loadI ss5 1 rfl rfl rfl (by first | omega | (simp; done) | (simp [-List.getD_eq_getElem?_getD]; omega))) (Wt.plain rfl) rfl rfl ?_
    refine D.take 7 rfl (by kernel_rfl) (fun _ h => h) (q_int (b := 0) (q_xor rfl rfl rfl) (bxor_self _)) (Wt.plain rfl) rfl rfl ?_
    refine D.take 8 rfl (by kernel_rfl) (fun _ h => h) (q_int (b := 0) (q_or rfl rfl rfl) ?hE) (Wt.plain rfl) rfl rfl ?_
    case hE => decide +kernel
    refine D.one 9 (by kernel_rfl) ?_
    refine Up.q rfl (q_assign rfl rfl) (Wt.plain rfl) rfl rfl (fun h => absurd h (by decide)) ?_
    refine D.done (by kernel_rfl) ?_
    refine Ex.in_normal ?_
    refine Ex.next ?_
    refine W.slots (L' := [(2, _), (3, _), (5, _), (7, _)]) ⟨rfl, rfl, rfl, rfl, trivial⟩ ?_
    refine W.region ?_
    refine T.q (q_addi rfl rfl rfl (by omega) (by omega)) (Wt.plain rfl) rfl rfl ?_
    refine T.q (q_move rfl rfl) (Wt.plain rfl) rfl rfl ?_
    refine T.nil ?_
    exact Ex.again [true, true] (i + 1) (by omega) (by omega) ⟨rfl, rfl, rfl, rfl, trivial⟩ rfl
  · replace hb3 := of_decide_eq_false hb3
    obtain rfl : i = 16 := by omega
    refine W.exit ?_
    refine Ex.then_exit ?_
    refine Ex.then_exit ?_
    refine Ex.in_here ?_
    refine Ex.next ?_
    refine W.less (L' := [(5, _)]) [false, false] ⟨rfl, trivial⟩ ?_
    change (_ : List Blk → Prop) []
    refine W.seq ?_
    refine W.region ?_
    refine T.q (q_move rfl rfl) (Wt.plain rfl) rfl rfl ?_
    refine T.q (q_bool (b := true) (q_eql rfl rfl rfl) ?hE) (Wt.plain rfl) rfl rfl ?_
    case hE => decide
    refine T.q (q_assign rfl rfl) (Wt.plain rfl) rfl rfl ?_
    refine T.nil ?_
    refine Ex.next ?_
    refine W.slots (L' := [(4, _)]) ⟨rfl, trivial⟩ ?_
    refine W.ret ?_
    refine Ex.out1 [] rfl rfl ?_
    exact ⟨rfl, rfl⟩
end Go.Proofs.YtpklnjegimchoaaGreatDoor
namespace Go.Proofs.YtpklnjegimchoaaGreatDoor
open Go Go.X
def padN (n : Nat) : Nat := (16 - n % 16) % 16
theorem padN_lt (n : Nat) : padN n < 16 := Nat.mod_lt _ (by decide)
theorem padN_eq (n : Nat) : (16 - (n : Int) % 16) % 16 = ((padN n : Nat) : Int) := by
  unfold padN; omega
set_option maxRecDepth 100000 in
theorem pad_spec (xs : List Int) (js : List Value) (k cp : Nat) (hl : xs.length + js.length = cp) (hb : xs.length ≤ 140737488354000) (w0 : World) (hk : (⟨some k, ints .u8 xs ++ js, 5, (0, 0)⟩ : Blk).here w0) : Does Tryz.prog 236 #[.slice (some ⟨k, 0, none⟩) xs.length cp] w0 [k] (fun v G => ∃ (k2 cap : Nat) (junk : List Value), v = .slice (some ⟨k2, 0, none⟩) (xs.length + padN xs.length) cap ∧ xs.length + padN xs.length + junk.length = cap ∧ G = [⟨some k2, ints .u8 (xs ++ List.replicate (padN xs.length) 0) ++ junk, 5, (0, 0)⟩]) := by
  have hpn := padN_lt xs.length
  refine spec_ofB 10 [⟨some k, ints .u8 xs ++ js, 5, (0, 0)⟩] (Mem.own1 rfl hk) Tryz.func236 rfl rfl rfl ?_
  refine W.seq ?_
  refine W.region ?_
  refine T.q (q_assign rfl rfl) (Wt.plain rfl) rfl rfl ?_
  refine T.nil ?_
  refine Ex.next ?_
  refine W.slots (L' := [(0, _)]) ⟨rfl, trivial⟩ ?_
  refine W.seq ?_
  refine W.region ?_
  refine T.q (q_move rfl rfl) (Wt.plain rfl) rfl rfl ?_
  refine T.q (q_move rfl rfl) (Wt.plain rfl) rfl rfl ?_
  refine T.q (q_len sc22 rfl rfl) (Wt.plain rfl) rfl rfl ?_
  refine T.q (q_rem rfl rfl rfl (by omega) (by decide)) (Wt.plain rfl) rfl rfl ?_
  refine T.q (q_subi rfl rfl rfl (by omega) (by omega)) (Wt.plain rfl) rfl rfl ?_
  refine T.q (q_int (b := ((padN xs.length : Nat) : Int)) (q_rem rfl rfl rfl (by omega) (by decide)) (padN_eq xs.length)) (Wt.plain rfl) rfl rfl ?_
  refine T.eff (e_appendZ sc22 un3 ze5 0 xs js (padN xs.length) (rfl) rfl rfl rfl (by omega) rfl (by first | omega | (simp; done) | (simp [-List.getD_eq_getElem?_getD]; omega) | (simp at *; omega) | rfl) (by first | omega | (simp; done) | (simp [-List.getD_eq_getElem?_getD]; omega) | (simp at *; omega) | rfl) (by first | omega | (simp; done) | (simp [-List.getD_eq_getElem?_getD]; omega)) (by first | omega | (simp; done) | (simp [-List.getD_eq_getElem?_getD]; omega)) rfl rfl) (Wt.plain rfl) ?_
  rintro _ _ ⟨k1, cap2, junk3, hc4, rfl, rfl⟩
  change (_ : List Blk → Prop) [_]
  refine T.q (q_assign rfl rfl) (Wt.plain rfl) rfl rfl ?_
  refine T.nil ?_
  refine Ex.next ?_
  refine W.slots (L' := [(2, _)]) ⟨rfl, trivial⟩ ?_
  refine W.ret ?_
  refine Ex.out1 [true] rfl rfl ?_
  exact ⟨_, _, _, rfl, by first | assumption | omega, rfl⟩
end Go.Proofs.YtpklnjegimchoaaGreatDoor
namespace Go.Proofs.YtpklnjegimchoaaGreatDoor
open Go Go.X
def blkS (x : List Int) : List Int := (x ++ (List.replicate 17 0).drop x.length).set x.length 1
theorem blk_def (x : List Int) : (x ++ (List.replicate 17 0).drop x.length).set x.length 1 = blkS x := rfl
theorem blkS_length {x : List Int} (h : x.length ≤ 16) : (blkS x).length = 17 := by simp [blkS]; omega
theorem Bytes.blkS {x : List Int} (h : Bytes x) : Bytes (blkS x) := fun y hy => by
  rcases List.mem_or_eq_of_mem_set hy with hy | rfl
  · rcases List.mem_append.1 hy with hy | hy
    · exact h y hy
    · have := List.eq_of_mem_replicate (List.mem_of_mem_drop hy); omega
  · omega
set_option maxRecDepth 100000 in
theorem blk_spec (x : List Int) (XA : Option Addr) (xc : Nat) (hxc : x.length ≤ xc) (hx : x.length ≤ 16) (w0 : World) (hX : Reads w0 XA (ints .u8 x)) : Does Tryz.prog 265 #[.slice XA x.length xc] w0 [] (fun v G => v = .tuple #[.agg (ints .u8 (blkS x)).toArray, .int .i64 0] ∧ G = []) := by
  have hbl := blkS_length hx
  refine spec_of 14 Tryz.func265 rfl rfl rfl ?_
  refine W.seq ?_
  refine W.region ?_
  refine T.eff (e_alloc ze345 rfl rfl rfl) (Wt.plain rfl) ?_
  rintro _ _ ⟨k1, rfl, rfl⟩
  change (_ : List Blk → Prop) [_]
  refine T.q (q_assign rfl rfl) (Wt.plain rfl) rfl rfl ?_
  refine T.nil ?_
  refine Ex.next ?_
  refine W.slots (L' := [(0, _), (2, _)]) ⟨rfl, rfl, trivial⟩ ?_
  refine W.seq ?_
  refine W.region ?_
  refine T.eff (e_alloc ze345 rfl rfl rfl) (Wt.plain rfl) ?_
  rintro _ _ ⟨k2, rfl, rfl⟩
  change (_ : List Blk → Prop) [_, _]
  refine T.nil ?_
  refine Ex.next ?_
  refine W.slots (L' := [(0, _), (2, _), (4, _)]) ⟨rfl, rfl, rfl, trivial⟩ ?_
  refine W.seq ?_
  refine W.seq ?_
  refine W.region ?_
  refine T.q (q_move rfl rfl) (Wt.plain rfl) rfl rfl ?_
  refine T.q (q_len sc22 rfl rfl) (Wt.plain rfl) rfl rfl ?_
  refine T.q (q_bool (b := false) (q_gtr rfl rfl rfl) (decide_eq_false (by omega))) (Wt.plain rfl) rfl rfl ?_
  refine T.nil ?_
  refine Ex.next ?_
  refine W.slots (L' := [(0, _), (2, _), (4, _), (7, _)]) ⟨rfl, rfl, rfl, rfl, trivial⟩ ?_
  refine W.condF rfl ?_
  refine W.skip ?_
  refine Ex.next ?_
  refine W.slots (L' := [(0, _), (2, _), (4, _)]) ⟨rfl, rfl, rfl, trivial⟩ ?_
  refine W.seq ?_
  refine W.region ?_
  refine T.q (q_slAll ar345 rfl rfl) (Wt.plain rfl) rfl rfl ?_
  refine T.q (q_move rfl rfl) (Wt.plain rfl) rfl rfl ?_
  refine T.eff (e_copyI sc22 1 (List.replicate 17 0) x (R_ext hX.ext) rfl rfl rfl rfl (by first | omega | (simp; done) | (simp [-List.getD_eq_getElem?_getD]; omega) | (simp at *; omega) | rfl) (by first | omega | (simp; done) | (simp [-List.getD_eq_getElem?_getD]; omega)) (by first | omega | (simp; done) | (simp [-List.getD_eq_getElem?_getD]; omega)) rfl rfl) (Wt.plain rfl) ?_
  rintro _ _ ⟨rfl, rfl⟩
  change (_ : List Blk → Prop) [_, _]
  refine T.q (q_ixA0 ar345 x.length rfl rfl rfl (by omega) (by omega)) (Wt.plain rfl) rfl rfl ?_
  refine T.eff (e_storeI ss5 1 rfl rfl rfl rfl (by first | omega | (simp; done) | (simp [-List.getD_eq_getElem?_getD]; omega)) rfl) (Wt.plain rfl) ?_
  rintro _ _ ⟨rfl, rfl⟩
  change (_ : List Blk → Prop) [_, _]
  conv => rhs; rw [blk_def x]
  refine T.nil ?_
  refine Ex.next ?_
  refine W.slots (L' := [(2, _), (4, _)]) ⟨rfl, rfl, trivial⟩ ?_
  refine W.seq ?_
  refine W.region ?_
  refine T.q (q_loadW (wide_ints wd345 (by first | omega | (simp; done) | (simp [-List.getD_eq_getElem?_getD]; omega) | (simp at *; omega) | rfl)) (R_blk 1 rfl) rfl rfl) (Wt.plain rfl) rfl rfl ?_
  refine T.eff (e_storeA (wide_ints wd345 (by first | omega | (simp; done) | (simp [-List.getD_eq_getElem?_getD]; omega) | (simp at *; omega) | rfl)) 0 rfl rfl rfl rfl (by first | omega | (simp; done) | (simp [-List.getD_eq_getElem?_getD]; omega) | (simp at *; omega) | rfl) ints_one rfl) (Wt.plain rfl) ?_
  rintro _ _ ⟨rfl, rfl⟩
  change (_ : List Blk → Prop) [_, _]
  refine T.q (q_assign rfl rfl) (Wt.plain rfl) rfl rfl ?_
  refine T.nil ?_
  refine Ex.next ?_
  refine W.less (L' := [(2, _), (3, _)]) [true, false] ⟨rfl, rfl, trivial⟩ ?_
  change (_ : List Blk → Prop) [_]
  refine W.ret ?_
  refine Ex.outCT [false] 0 rfl (by exact (wide_ints wd345 (by first | omega | (simp; done) | (simp [-List.getD_eq_getElem?_getD]; omega) | (simp at *; omega) | rfl))) rfl rfl rfl ?_
  exact ⟨rfl, rfl⟩
end Go.Proofs.YtpklnjegimchoaaGreatDoor
namespace Go.Proofs.YtpklnjegimchoaaGreatDoor
open Go Go.X
theorem bdrop {b : List Int} (h : Bytes b) {n : Nat} : Bytes (b.drop n) := fun x hx => h x (List.mem_of_mem_drop hx)
theorem blk_at (x : List Int) (XA : Option Addr) (xc : Nat) {m : Nat} (hxc : m ≤ xc) (hx : m ≤ 16) (w0 : World) (hX : Reads w0 XA (ints .u8 x)) (hm : x.length = m) : Does Tryz.prog 265 #[.slice XA m xc] w0 [] (fun v G => v = .tuple #[.agg (ints .u8 (blkS x)).toArray, .int .i64 0] ∧ G = []) := by
  subst hm
  exact blk_spec x XA xc hxc hx w0 hX
noncomputable def rrS (key : List Int) : List Int := trimS (((key).drop 0).take 16) ++ (List.replicate 17 0).drop 16
@[simp] theorem rrS_length (key : List Int) : (rrS key).length = 17 := by simp [rrS]
theorem Bytes.rrS (key : List Int) : Bytes (rrS key) := bytes_app (Bytes.trimS _) fun x hx => by have := List.eq_of_mem_replicate (List.mem_of_mem_drop hx); omega
def pieceS (xs : List Int) (j : Nat) : List Int := (xs.drop (16 * j)).take (min 16 (xs.length - 16 * j))
noncomputable def polyI (rr xs : List Int) : Nat → List Int
  | 0 => List.replicate 17 0
  | j + 1 => mulS (addS (polyI rr xs j) (blkS (pieceS xs j))) rr
@[simp] theorem polyI_length (rr xs : List Int) (j : Nat) : (polyI rr xs j).length = 17 := by cases j <;> simp [polyI]
theorem Bytes.polyI (rr xs : List Int) (j : Nat) : Bytes (polyI rr xs j) := by
  cases j with
  | zero => intro x hx; have := List.eq_of_mem_replicate hx; omega
  | succ j => exact Bytes.mulS _ _
noncomputable def sumP (key xs : List Int) : List Int := lowS (polyI (rrS key) xs ((xs.length + 15) / 16)) ((key.drop 16).take 16)
theorem step16 {xs : List Int} {j l2 : Nat} (h : l2 = xs.length - 16 * j) : xs.drop (16 * (j + 1)) = (xs.drop (16 * j)).drop (min 16 l2) := by
  rw [List.drop_drop]
  by_cases h2 : 16 ≤ l2
  · rw [Nat.min_eq_left h2]; rfl
  · rw [List.drop_eq_nil_of_le (by omega), List.drop_eq_nil_of_le (by omega)]
theorem rr_def (key : List Int) : trimS (((key).drop 0).take 16) ++ (List.replicate 17 0).drop 16 = rrS key := rfl
set_option maxRecDepth 100000 in
theorem sum_spec_p (key xs : List Int) (hk : key.length = 32) (hkb : Bytes key) (hxb : Bytes xs) (XA : Option Addr) (xc : Nat) (hxc : xs.length ≤ xc) (hxl : xs.length ≤ 140737488354000) (w0 : World) (hX : Reads w0 XA (ints .u8 xs)) (hq : Reads w0 (some ⟨10, 0, none⟩) (ints .u64 primeW)) : Does Tryz.prog 237 #[.agg (ints .u8 key).toArray, .slice XA xs.length xc] w0 [] (fun v G => v = .agg (ints .u8 (sumP key xs)).toArray ∧ G = []) := by
  refine spec_of 44 Tryz.func237 rfl rfl rfl ?_
  refine W.seq ?_
  refine W.region ?_
  refine T.eff (e_box rfl rfl rfl rfl) (Wt.plain rfl) ?_
  rintro _ _ ⟨k1, rfl, rfl⟩
  change (_ : List Blk → Prop) [_]
  refine T.eff (e_alloc ze272 rfl rfl rfl) (Wt.plain rfl) ?_
  rintro _ _ ⟨k2, rfl, rfl⟩
  change (_ : List Blk → Prop) [_, _]
  refine T.nil ?_
  refine Ex.next ?_
  refine W.slots (L' := [(1, _), (2, _), (4, _)]) ⟨rfl, rfl, rfl, trivial⟩ ?_
  refine W.seq ?_
  refine W.region ?_
  refine T.q (q_slA ar38 0 16 32 rfl rfl rfl ⟨_, _, rfl, rfl⟩ rfl (by first | omega | (simp; done) | (simp [-List.getD_eq_getElem?_getD]; omega)) (by first | omega | (simp; done) | (simp [-List.getD_eq_getElem?_getD]; omega)) (by first | omega | (simp; done) | (simp [-List.getD_eq_getElem?_getD]; omega)) (by simp)) (Wt.plain rfl) rfl rfl ?_
  refine T.q (q_arrp ar272 rfl rfl (by first | omega | (simp; done) | (simp [-List.getD_eq_getElem?_getD]; omega))) (Wt.plain rfl) rfl rfl ?_
  refine T.q (q_loadW (wide_ints wd272 (by first | omega | (simp; done) | (simp [-List.getD_eq_getElem?_getD]; omega) | (simp at *; omega) | rfl)) ((R_takeI (R_cutI (R_blk 0 rfl) (by first | omega | (simp; done) | (simp [-List.getD_eq_getElem?_getD]; omega))) 16 : ∀ w, Mem _ _ _ w → Reads w (cut (some ⟨k1, 0, none⟩) 32 0) _)) rfl rfl) (Wt.plain rfl) rfl rfl ?_
  refine T.eff (e_call enters264 rfl rfl (fun w hm => trim_spec (((key).drop 0).take 16) ((bdrop hkb).take 16) (by first | omega | (simp; done) | (simp; omega) | (simp at *; omega)) w) rfl rfl) (Wt.plain rfl) ?_
  rintro _ _ ⟨_, _, ⟨rfl, rfl⟩, rfl, rfl⟩
  change (_ : List Blk → Prop) [_, _]
  refine T.eff (e_alloc ze272 rfl rfl rfl) (Wt.plain rfl) ?_
  rintro _ _ ⟨k3, rfl, rfl⟩
  change (_ : List Blk → Prop) [_, _, _]
  refine T.eff (e_storeA (wide_ints wd272 (by first | omega | (simp; done) | (simp [-List.getD_eq_getElem?_getD]; omega) | (simp at *; omega) | rfl)) 2 rfl rfl rfl rfl (by first | omega | (simp; done) | (simp [-List.getD_eq_getElem?_getD]; omega) | (simp at *; omega) | rfl) ints_one rfl) (Wt.plain rfl) ?_
  rintro _ _ ⟨rfl, rfl⟩
  change (_ : List Blk → Prop) [_, _, _]
  refine T.nil ?_
  refine Ex.next ?_
  refine W.slots (L' := [(1, _), (2, _), (4, _), (5, _)]) ⟨rfl, rfl, rfl, rfl, trivial⟩ ?_
  refine W.seq ?_
  refine W.region ?_
  refine T.eff (e_alloc ze345 rfl rfl rfl) (Wt.plain rfl) ?_
  rintro _ _ ⟨k4, rfl, rfl⟩
  change (_ : List Blk → Prop) [_, _, _, _]
  refine T.eff (e_alloc ze345 rfl rfl rfl) (Wt.plain rfl) ?_
  rintro _ _ ⟨k5, rfl, rfl⟩
  change (_ : List Blk → Prop) [_, _, _, _, _]
  refine T.nil ?_
  refine Ex.next ?_
  refine W.slots (L' := [(1, _), (2, _), (4, _), (5, _), (6, _), (7, _)]) ⟨rfl, rfl, rfl, rfl, rfl, rfl, trivial⟩ ?_
  refine W.seq ?_
  refine W.draw 2 (by kernel_rfl) ?_
  refine D.take 0 rfl (by kernel_rfl) (fun _ h => h) (q_slAll ar345 rfl rfl) (Wt.plain rfl) rfl rfl ?_
  refine D.take 1 rfl (by kernel_rfl) (fun _ h => h) (q_slAll ar272 rfl rfl) (Wt.plain rfl) rfl rfl ?_
  refine D.one 2 (by kernel_rfl) ?_
  refine Up.eff rfl (e_copyI sc22 3 (List.replicate 17 0) (trimS (((key).drop 0).take 16)) (R_blk 2 rfl) rfl rfl rfl rfl (by first | omega | (simp; done) | (simp [-List.getD_eq_getElem?_getD]; omega) | (simp at *; omega) | rfl) (by first | omega | (simp; done) | (simp [-List.getD_eq_getElem?_getD]; omega)) (by first | omega | (simp; done) | (simp [-List.getD_eq_getElem?_getD]; omega)) rfl rfl) (Wt.plain rfl) ?_
  rintro _ _ ⟨rfl, rfl⟩
  refine ⟨fun h => absurd h (by decide), ?_⟩
  change (_ : List Blk → Prop) [_, _, _, _, _]
  conv => rhs; rw [rr_def key]
  refine D.done (by kernel_rfl) ?_
  refine Ex.next ?_
  refine W.less (L' := [(1, _), (2, _), (4, _), (6, _), (7, _)]) [true, true, false, true, true] ⟨rfl, rfl, rfl, rfl, rfl, trivial⟩ ?_
  change (_ : List Blk → Prop) [_, _, _, _]
  refine W.seq ?_
  refine W.block ?_
  refine W.loop (α := Nat × Option Addr × Nat × Nat) (fun x_ => [(1, .slice x_.2.1 x_.2.2.1 x_.2.2.2), (2, .pointer (some ⟨k1, 0, none⟩)), (4, .pointer (some ⟨k2, 0, none⟩)), (6, .pointer (some ⟨k4, 0, none⟩)), (7, .pointer (some ⟨k5, 0, none⟩))]) (fun x_ => [⟨some k1, ints .u8 key, 38, (0, 0)⟩, ⟨some k2, ints .u8 (List.replicate 16 0), 272, (0, 0)⟩, ⟨some k4, ints .u8 (rrS key), 345, (0, 0)⟩, ⟨some k5, ints .u8 (polyI (rrS key) xs x_.1), 345, (0, 0)⟩]) (fun x_ => x_.2.2.1 = xs.length - 16 * x_.1 ∧ (x_.1 = 0 ∨ 16 * x_.1 < xs.length + 16) ∧ x_.2.2.1 ≤ x_.2.2.2 ∧ ∀ w, Reads w XA (ints .u8 xs) → Reads w x_.2.1 (ints .u8 (xs.drop (16 * x_.1)))) (fun x_ => x_.2.2.1) [true, true, true, true] (⟨0, XA, xs.length, xc⟩) ⟨rfl, .inl rfl, by dsimp only; omega, fun w h => h⟩ ⟨rfl, rfl, rfl, rfl, rfl, trivial⟩ rfl ?_
  rintro ⟨j, A2, l2, c2⟩ ⟨hl2, hj0, hlc, hRA⟩
  conv => rhs; dsimp only
  conv => arg -2; dsimp only
  dsimp only at hl2 hj0 hlc hRA
  refine W.seq ?_
  refine W.seq ?_
  refine W.region ?_
  refine T.q (q_move rfl rfl) (Wt.plain rfl) rfl rfl ?_
  refine T.q (q_len sc22 rfl rfl) (Wt.plain rfl) rfl rfl ?_
  refine T.q (q_gtr rfl rfl rfl) (Wt.plain rfl) rfl rfl ?_
  refine T.nil ?_
  refine Ex.next ?_
  refine W.slots (L' := [(1, _), (2, _), (4, _), (6, _), (7, _), (20, _)]) ⟨rfl, rfl, rfl, rfl, rfl, rfl, trivial⟩ ?_
  refine W.cond _ rfl (fun hb6 => ?_) (fun hb6 => ?_)
  · replace hb6 := of_decide_eq_true hb6
    have hbl : (blkS (((xs.drop (16 * j)).take (min 16 l2)))).length = 17 := blkS_length (by rw [List.length_take, List.length_drop]; omega)
    refine W.skip ?_
    refine Ex.next ?_
    refine W.slots (L' := [(1, _), (2, _), (4, _), (6, _), (7, _)]) ⟨rfl, rfl, rfl, rfl, rfl, trivial⟩ ?_
    refine W.block ?_
    refine W.seq ?_
    refine W.region ?_
    refine T.q (q_move rfl rfl) (Wt.plain rfl) rfl rfl ?_
    refine T.q (q_len sc22 rfl rfl) (Wt.plain rfl) rfl rfl ?_
    refine T.q (q_int (b := ((min 16 l2 : Nat) : Int)) (q_min rfl rfl rfl) ?hE) (Wt.plain rfl) rfl rfl ?_
    case hE => omega
    refine T.q (q_assign rfl rfl) (Wt.plain rfl) rfl rfl ?_
    refine T.nil ?_
    refine Ex.next ?_
    refine W.slots (L' := [(1, _), (2, _), (4, _), (6, _), (7, _), (8, _)]) ⟨rfl, rfl, rfl, rfl, rfl, rfl, trivial⟩ ?_
    refine W.seq ?_
    refine W.region ?_
    refine T.q (q_move rfl rfl) (Wt.plain rfl) rfl rfl ?_
    refine T.q (q_move rfl rfl) (Wt.plain rfl) rfl rfl ?_
    refine T.q (q_sl sc22 0 (min 16 l2) c2 rfl rfl rfl ⟨_, _, rfl, by omega⟩ rfl (by first | omega | (simp; done) | (simp [-List.getD_eq_getElem?_getD]; omega)) (by first | omega | (simp; done) | (simp [-List.getD_eq_getElem?_getD]; omega)) (by first | omega | (simp; done) | (simp [-List.getD_eq_getElem?_getD]; omega)) (by simp)) (Wt.plain rfl) rfl rfl ?_
    refine T.eff (e_call enters265 rfl rfl (fun w hm => blk_at ((xs.drop (16 * j)).take (min 16 l2)) _ _ (by first | omega | (simp; done) | (simp; omega) | (simp at *; omega)) (by first | omega | (simp; done) | (simp; omega) | (simp at *; omega)) w ((R_takeI (R_cutI (l := 0) (fun w hm => hRA w (R_ext hX.ext w hm)) (by first | omega | (simp; done) | (simp [-List.getD_eq_getElem?_getD]; omega) | (simp at *; omega) | rfl)) (min 16 l2)) w hm) ((by first | omega | (simp; done) | (simp; omega) | (simp at *; omega)))) rfl rfl) (Wt.plain rfl) ?_
    rintro _ _ ⟨_, _, ⟨rfl, rfl⟩, rfl, rfl⟩
    change (_ : List Blk → Prop) [_, _, _, _]
    refine T.q (q_move rfl rfl) (Wt.plain rfl) rfl rfl ?_
    refine T.q (q_extract rfl rfl rfl) (Wt.plain rfl) rfl rfl ?_
    refine T.q (q_extract rfl rfl rfl) (Wt.plain rfl) rfl rfl ?_
    refine T.eff (e_alloc ze345 rfl rfl rfl) (Wt.plain rfl) ?_
    rintro _ _ ⟨k7, rfl, rfl⟩
    change (_ : List Blk → Prop) [_, _, _, _, _]
    refine T.eff (e_storeA (wide_ints wd345 (by first | omega | (simp; done) | (simp [-List.getD_eq_getElem?_getD]; omega) | (simp at *; omega) | rfl)) 4 rfl rfl rfl rfl (by first | omega | (simp; done) | (simp [-List.getD_eq_getElem?_getD]; omega) | (simp at *; omega) | rfl) ints_one rfl) (Wt.plain rfl) ?_
    rintro _ _ ⟨rfl, rfl⟩
    change (_ : List Blk → Prop) [_, _, _, _, _]
    refine T.q (q_assign rfl rfl) (Wt.plain rfl) rfl rfl ?_
    refine T.nil ?_
    refine Ex.next ?_
    refine W.slots (L' := [(1, _), (2, _), (4, _), (6, _), (7, _), (8, _), (9, _)]) ⟨rfl, rfl, rfl, rfl, rfl, rfl, rfl, trivial⟩ ?_
    refine W.seq ?_
    refine W.draw 5 (by kernel_rfl) ?_
    refine D.take 0 rfl (by kernel_rfl) (fun _ h => h) (q_loadW (wide_ints wd345 (by first | omega | (simp; done) | (simp [-List.getD_eq_getElem?_getD]; omega) | (simp at *; omega) | rfl)) (R_blk 3 rfl) rfl rfl) (Wt.plain rfl) rfl rfl ?_
    refine D.take 1 rfl (by kernel_rfl) (fun _ h => h) (q_loadW (wide_ints wd345 (by first | omega | (simp; done) | (simp [-List.getD_eq_getElem?_getD]; omega) | (simp at *; omega) | rfl)) (R_blk 4 rfl) rfl rfl) (Wt.plain rfl) rfl rfl ?_
    refine D.take 3 rfl (by kernel_rfl) (fun _ h => h) (q_loadW (wide_ints wd345 (by first | omega | (simp; done) | (simp [-List.getD_eq_getElem?_getD]; omega) | (simp at *; omega) | rfl)) (R_blk 2 rfl) rfl rfl) (Wt.plain rfl) rfl rfl ?_
    refine D.one 2 (by kernel_rfl) ?_
    refine Up.eff rfl (e_call enters267 rfl rfl (fun w hm => add_spec (polyI (rrS key) xs j) (blkS ((xs.drop (16 * j)).take (min 16 l2))) (Bytes.polyI _ _ _) (Bytes.blkS ((bdrop hxb).take _)) (by first | omega | (simp; done) | (simp; omega) | (simp at *; omega)) (blkS_length (by first | omega | (simp; done) | (simp; omega) | (simp at *; omega))) w (R_ext hq.ext w hm)) rfl rfl) (Wt.plain rfl) ?_
    rintro _ _ ⟨_, _, ⟨rfl, rfl⟩, rfl, rfl⟩
    refine ⟨fun _ => (fun _ h => h), ?_⟩
    change (_ : List Blk → Prop) [_, _, _, _, _]
    refine D.one 4 (by kernel_rfl) ?_
    refine Up.eff rfl (e_call enters266 rfl rfl (fun w hm => mul_spec (addS (polyI (rrS key) xs j) (blkS ((xs.drop (16 * j)).take (min 16 l2)))) (rrS key) (Bytes.addS _ _) (Bytes.rrS _) (by first | omega | (simp; done) | (simp; omega) | (simp at *; omega)) (by first | omega | (simp; done) | (simp; omega) | (simp at *; omega)) w (R_ext hq.ext w hm)) rfl rfl) (Wt.plain rfl) ?_
    rintro _ _ ⟨_, _, ⟨rfl, rfl⟩, rfl, rfl⟩
    refine ⟨fun _ => (fun _ h => h), ?_⟩
    change (_ : List Blk → Prop) [_, _, _, _, _]
    refine D.one 5 (by kernel_rfl) ?_
    refine Up.eff rfl (e_storeA (wide_ints wd345 (by first | omega | (simp; done) | (simp [-List.getD_eq_getElem?_getD]; omega) | (simp at *; omega) | rfl)) 3 rfl rfl rfl rfl (by first | omega | (simp; done) | (simp [-List.getD_eq_getElem?_getD]; omega) | (simp at *; omega) | rfl) ints_one rfl) (Wt.plain rfl) ?_
    rintro _ _ ⟨rfl, rfl⟩
    refine ⟨fun h => absurd h (by decide), ?_⟩
    change (_ : List Blk → Prop) [_, _, _, _, _]
    refine D.done (by kernel_rfl) ?_
    refine Ex.next ?_
    refine W.less (L' := [(1, _), (2, _), (4, _), (6, _), (7, _), (8, _)]) [true, true, true, true, false] ⟨rfl, rfl, rfl, rfl, rfl, rfl, trivial⟩ ?_
    change (_ : List Blk → Prop) [_, _, _, _]
    refine W.region ?_
    refine T.q (q_move rfl rfl) (Wt.plain rfl) rfl rfl ?_
    refine T.q (q_move rfl rfl) (Wt.plain rfl) rfl rfl ?_
    refine T.q (q_sl sc22 (min 16 l2) l2 c2 rfl rfl ⟨_, _, rfl, by omega⟩ rfl rfl (by first | omega | (simp; done) | (simp [-List.getD_eq_getElem?_getD]; omega)) (by first | omega | (simp; done) | (simp [-List.getD_eq_getElem?_getD]; omega)) (by first | omega | (simp; done) | (simp [-List.getD_eq_getElem?_getD]; omega)) (by simp)) (Wt.plain rfl) rfl rfl ?_
    refine T.q (q_assign rfl rfl) (Wt.plain rfl) rfl rfl ?_
    refine T.nil ?_
    refine Ex.in_normal ?_
    exact Ex.again [true, true, true, true] (⟨j + 1, cut A2 c2 (min 16 l2), (l2 - (min 16 l2)), (c2 - (min 16 l2))⟩ : Nat × Option Addr × Nat × Nat) (by dsimp only; omega) ⟨by dsimp only; omega, .inr (by dsimp only; omega), by dsimp only; omega, fun w h => by dsimp only; rw [step16 hl2, ← ints_drop]; exact (hRA w h).cut (by rw [ints_length, List.length_drop]; omega)⟩ ⟨rfl, rfl, rfl, rfl, rfl, trivial⟩ (congrArg (fun r_ : List Int => ([⟨some k1, ints .u8 key, 38, (0, 0)⟩, ⟨some k2, ints .u8 (List.replicate 16 0), 272, (0, 0)⟩, ⟨some k4, ints .u8 (rrS key), 345, (0, 0)⟩, ⟨some k5, ints .u8 r_, 345, (0, 0)⟩] : List Blk)) (by subst hl2; rfl))
  · replace hb6 := of_decide_eq_false hb6
    obtain rfl : j = (xs.length + 15) / 16 := by omega
    refine W.exit ?_
    refine Ex.then_exit ?_
    refine Ex.then_exit ?_
    refine Ex.in_here ?_
    refine Ex.next ?_
    refine W.less (L' := [(2, _), (4, _), (7, _)]) [true, true, false, true] ⟨rfl, rfl, rfl, trivial⟩ ?_
    change (_ : List Blk → Prop) [_, _, _]
    refine W.seq ?_
    refine W.draw 5 (by kernel_rfl) ?_
    refine D.take 0 rfl (by kernel_rfl) (fun _ h => h) (q_loadW (wide_ints wd345 (by first | omega | (simp; done) | (simp [-List.getD_eq_getElem?_getD]; omega) | (simp at *; omega) | rfl)) (R_blk 2 rfl) rfl rfl) (Wt.plain rfl) rfl rfl ?_
    refine D.take 1 rfl (by kernel_rfl) (fun _ h => h) (q_slA ar38 16 32 32 rfl rfl ⟨_, _, rfl, rfl⟩ rfl rfl (by first | omega | (simp; done) | (simp [-List.getD_eq_getElem?_getD]; omega)) (by first | omega | (simp; done) | (simp [-List.getD_eq_getElem?_getD]; omega)) (by first | omega | (simp; done) | (simp [-List.getD_eq_getElem?_getD]; omega)) (by simp)) (Wt.plain rfl) rfl rfl ?_
    refine D.take 2 rfl (by kernel_rfl) (fun _ h => h) (q_arrp ar272 rfl rfl (by first | omega | (simp; done) | (simp [-List.getD_eq_getElem?_getD]; omega))) (Wt.plain rfl) rfl rfl ?_
    refine D.take 3 rfl (by kernel_rfl) (fun _ h => h) (q_loadW (wide_ints wd272 (by first | omega | (simp; done) | (simp [-List.getD_eq_getElem?_getD]; omega) | (simp at *; omega) | rfl)) ((R_takeI (R_cutI (R_blk 0 rfl) (by first | omega | (simp; done) | (simp [-List.getD_eq_getElem?_getD]; omega))) 16 : ∀ w, Mem _ _ _ w → Reads w (cut (some ⟨k1, 0, none⟩) 32 16) _)) rfl rfl) (Wt.plain rfl) rfl rfl ?_
    refine D.one 4 (by kernel_rfl) ?_
    refine Up.eff rfl (e_call enters268 rfl rfl (fun w hm => low_spec (polyI (rrS key) xs ((xs.length + 15) / 16)) (((key).drop 16).take 16) (Bytes.polyI _ _ _) ((bdrop hkb).take _) (by first | omega | (simp; done) | (simp; omega) | (simp at *; omega)) (by first | omega | (simp; done) | (simp; omega) | (simp at *; omega)) w (R_ext hq.ext w hm)) rfl rfl) (Wt.plain rfl) ?_
    rintro _ _ ⟨_, _, ⟨rfl, rfl⟩, rfl, rfl⟩
    refine ⟨fun _ => (fun _ h => h), ?_⟩
    change (_ : List Blk → Prop) [_, _, _]
    refine D.one 5 (by kernel_rfl) ?_
    refine Up.eff rfl (e_storeA (wide_ints wd272 (by first | omega | (simp; done) | (simp [-List.getD_eq_getElem?_getD]; omega) | (simp at *; omega) | rfl)) 1 rfl rfl rfl rfl (by first | omega | (simp; done) | (simp [-List.getD_eq_getElem?_getD]; omega) | (simp at *; omega) | rfl) ints_one rfl) (Wt.plain rfl) ?_
    rintro _ _ ⟨rfl, rfl⟩
    refine ⟨fun h => absurd h (by decide), ?_⟩
    change (_ : List Blk → Prop) [_, _, _]
    refine D.done (by kernel_rfl) ?_
    refine Ex.next ?_
    refine W.less (L' := [(4, _)]) [false, true, true] ⟨rfl, trivial⟩ ?_
    change (_ : List Blk → Prop) [_, _]
    refine W.ret ?_
    refine Ex.outC [false, false] 0 rfl (by exact (wide_ints wd272 (by first | omega | (simp; done) | (simp [-List.getD_eq_getElem?_getD]; omega) | (simp at *; omega) | rfl))) rfl rfl ?_
    exact ⟨rfl, rfl⟩
end Go.Proofs.YtpklnjegimchoaaGreatDoor
