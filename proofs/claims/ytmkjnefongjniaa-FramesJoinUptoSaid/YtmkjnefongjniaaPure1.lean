/-
  What the words of layer 4 come to, over whole numbers alone.
-/
import Derived.Test.YtmkjnefongjniaaX6
namespace Go.X
open Go

/-- x turned to the left by k. -/
def rotl (x k : Int) : Int := bits .or .u32 (shl .u32 x k) (shr .u32 x (32 - k))
theorem and31 (k : Int) (h0 : 0 ≤ k) (h1 : k < 32) : bits .and .u64 (IntKind.u64.wrap k) 31 = k := by
  have hw : IntKind.u64.wrap k = k := by simp [IntKind.wrap, IntKind.bits, IntKind.signed]; omega
  rw [hw, show (31 : Int) = ((31 : Nat) : Int) from rfl]
  obtain ⟨m, rfl⟩ := Int.eq_ofNat_of_zero_le h0
  rw [u64_and_nat m 31 (by omega) (by omega), nat_mask5]
  congr 1
  omega
def u32 (n : Int) : Int := IntKind.u32.wrap n
/-- P4.1 -/
def quarter (x : List Int) : List Int :=
  let a := x.getD 0 0; let b := x.getD 1 0; let c := x.getD 2 0; let d := x.getD 3 0
  let a := IntKind.u32.wrap (a + b)
  let d := rotl (bits .xor .u32 d a) 16
  let c := IntKind.u32.wrap (c + d)
  let b := rotl (bits .xor .u32 b c) 12
  let a := IntKind.u32.wrap (a + b)
  let d := rotl (bits .xor .u32 d a) 8
  let c := IntKind.u32.wrap (c + d)
  let b := rotl (bits .xor .u32 b c) 7
  [a, b, c, d]
@[simp] theorem quarter_length (x : List Int) : (quarter x).length = 4 := rfl
/-- The same, step by step, as the reference has it. -/
def turns : List Int := [16, 12, 8, 7]
theorem turns_ok {i : Nat} (h : i < 4) : 0 ≤ turns.getD i 0 ∧ turns.getD i 0 < 32 := by
  match i, h with
  | 0, _ => decide
  | 1, _ => decide
  | 2, _ => decide
  | 3, _ => decide
def refstep (i : Nat) (x : List Int) : List Int :=
  let y := x.set (i % 2 * 2) (IntKind.u32.wrap (x.getD (i % 2 * 2) 0 + x.getD ((i % 2 * 2 + 1) % 4) 0))
  y.set ((i % 2 * 2 + 3) % 4) (rotl (bits .xor .u32 (y.getD ((i % 2 * 2 + 3) % 4) 0) (y.getD (i % 2 * 2) 0)) (turns.getD i 0))
def refq : Nat → List Int → List Int
  | 0, x => x
  | i + 1, x => refstep i (refq i x)
@[simp] theorem refq_length (x : List Int) : ∀ i, (refq i x).length = x.length
  | 0 => rfl
  | i + 1 => by simp [refq, refstep, refq_length x i]
theorem refq_quarter (x : List Int) (h : x.length = 4) : refq 4 x = quarter x := by
  match x, h with
  | [a, b, c, d], _ => rfl

/-- Places filled, one behind the other. -/
def fillAt (idx : Nat → Nat) (f : Nat → Int) : Nat → List Int → List Int
  | 0, s => s
  | i + 1, s => (fillAt idx f i s).set (idx i) (f i)
@[simp] theorem fillAt_length (idx : Nat → Nat) (f : Nat → Int) (s : List Int) : ∀ i, (fillAt idx f i s).length = s.length
  | 0 => rfl
  | i + 1 => by simp [fillAt, fillAt_length idx f s i]

/-- Four bytes as a word, the lowest first. -/
def word (xs : List Int) : Int :=
  bits .or .u32 (bits .or .u32 (bits .or .u32 (IntKind.u32.wrap (xs.getD 0 0)) (shl .u32 (IntKind.u32.wrap (xs.getD 1 0)) 8)) (shl .u32 (IntKind.u32.wrap (xs.getD 2 0)) 16)) (shl .u32 (IntKind.u32.wrap (xs.getD 3 0)) 24)
def headW : List Int := [1634760805, 857760878, 2036477234, 1797285236]
def tbl : List Int := [0, 4, 8, 12, 1, 5, 9, 13, 2, 6, 10, 14, 3, 7, 11, 15, 0, 5, 10, 15, 1, 6, 11, 12, 2, 7, 8, 13, 3, 4, 9, 14]
@[simp] theorem headW_length : headW.length = 4 := rfl
@[simp] theorem tbl_length : tbl.length = 32 := rfl
def pl (j : Nat) : List Int := (tbl.drop (j * 4)).take 4
theorem pl_ok {j i : Nat} (hj : j < 8) (hi : i < 4) : 0 ≤ (pl j).getD i 0 ∧ (pl j).getD i 0 < 16 := by
  have h : ∀ j, j < 8 → ∀ i, i < 4 → 0 ≤ (pl j).getD i 0 ∧ (pl j).getD i 0 < 16 := by decide
  exact h j hj i hi
theorem pl_length {j : Nat} (hj : j < 8) : (pl j).length = 4 := by
  have h : ∀ j, j < 8 → (pl j).length = 4 := by decide
  exact h j hj
/-- The words that a stream begins with. -/
def initS (key nonce : List Int) (ctr : Int) : List Int :=
  fillAt (fun i => 13 + i) (fun i => word (nonce.drop (4 * i))) 3 ((fillAt (fun i => 4 + i) (fun i => word (key.drop (4 * i))) 8 (fillAt (fun i => i) (fun i => headW.getD i 0) 4 (List.replicate 16 0))).set 12 ctr)
@[simp] theorem initS_length (key nonce : List Int) (ctr : Int) : (initS key nonce ctr).length = 16 := by simp [initS, fillAt_length]
def qof (p x : List Int) : List Int := quarter [x.getD (p.getD 0 0).toNat 0, x.getD (p.getD 1 0).toNat 0, x.getD (p.getD 2 0).toNat 0, x.getD (p.getD 3 0).toNat 0]
@[simp] theorem qof_length (p x : List Int) : (qof p x).length = 4 := rfl
def qstep (p x : List Int) : List Int := fillAt (fun i => (p.getD i 0).toNat) (fun i => (qof p x).getD i 0) 4 x
@[simp] theorem qstep_length (p x : List Int) : (qstep p x).length = x.length := fillAt_length _ _ _ _
/-- The first j steps of a double round; n double rounds. -/
def dr : Nat → List Int → List Int
  | 0, x => x
  | j + 1, x => qstep (pl j) (dr j x)
@[simp] theorem dr_length (x : List Int) : ∀ j, (dr j x).length = x.length
  | 0 => rfl
  | j + 1 => by simp [dr, qstep_length, dr_length x j]
def rn : Nat → List Int → List Int
  | 0, x => x
  | n + 1, x => dr 8 (rn n x)
@[simp] theorem rn_length (x : List Int) : ∀ n, (rn n x).length = x.length
  | 0 => rfl
  | n + 1 => by simp [rn, dr_length, rn_length x n]
/-- Words as bytes. -/
def ser (f : Nat → Int) : Nat → List Int
  | 0 => List.replicate 64 0
  | i + 1 => fillAt (fun k => 4 * i + k) (fun k => IntKind.u8.wrap (shr .u32 (f i) (8 * (k : Int)))) 4 (ser f i)
@[simp] theorem ser_length (f : Nat → Int) : ∀ i, (ser f i).length = 64
  | 0 => by simp [ser]
  | i + 1 => by simp [ser, fillAt_length, ser_length f i]
/-- P4.2 -/
def block (key nonce : List Int) (ctr : Int) : List Int :=
  ser (fun i => IntKind.u32.wrap ((rn 10 (initS key nonce ctr)).getD i 0 + (initS key nonce ctr).getD i 0)) 16
@[simp] theorem block_length (key nonce : List Int) (ctr : Int) : (block key nonce ctr).length = 64 := ser_length _ _
/-! The reference goes by the places that it reckons. -/
def rstep (a b c d : Nat) (x : List Int) : List Int :=
  let q := quarter [x.getD a 0, x.getD b 0, x.getD c 0, x.getD d 0]
  (((x.set a (q.getD 0 0)).set b (q.getD 1 0)).set c (q.getD 2 0)).set d (q.getD 3 0)
theorem rstep_lo {j : Nat} (h : j < 4) (x : List Int) : rstep (j % 4) (4 + (j + 0) % 4) (8 + (j + 2 * 0) % 4) (12 + (j + 3 * 0) % 4) x = qstep (pl j) x := by
  match j, h with
  | 0, _ => rfl
  | 1, _ => rfl
  | 2, _ => rfl
  | 3, _ => rfl
theorem rstep_hi {j : Nat} (h : 4 ≤ j) (h' : j < 8) (x : List Int) : rstep (j % 4) (4 + (j + 1) % 4) (8 + (j + 2 * 1) % 4) (12 + (j + 3 * 1) % 4) x = qstep (pl j) x := by
  match j, h, h' with
  | 4, _, _ => rfl
  | 5, _, _ => rfl
  | 6, _, _ => rfl
  | 7, _, _ => rfl
/-- What the reference gathers. -/
def gather (f : Nat → Int) : Nat → List Int → List Int
  | 0, s => s
  | i + 1, s => gather f i s ++ [f i]
@[simp] theorem gather_length (f : Nat → Int) (s : List Int) : ∀ i, (gather f i s).length = s.length + i
  | 0 => rfl
  | i + 1 => by simp [gather, gather_length f s i]; omega
def rword (key : List Int) (i : Nat) : Int := word ((key.drop (4 * i)))
/-- The four bytes from the 4i-th on, cut short: the same word. -/
theorem word_take (xs : List Int) : word (xs.take 4) = word xs := by
  unfold word
  simp only [List.getD_eq_getElem?_getD, List.getElem?_take]
  simp
def initR (key nonce : List Int) (ctr : Int) : List Int :=
  gather (fun i => word (nonce.drop (4 * i))) 3 (gather (fun i => word (key.drop (4 * i))) 8 headW ++ [ctr])
theorem initR_eq (key nonce : List Int) (ctr : Int) : initR key nonce ctr = initS key nonce ctr := by rfl
@[simp] theorem initR_length (key nonce : List Int) (ctr : Int) : (initR key nonce ctr).length = 16 := by rw [initR_eq]; exact initS_length key nonce ctr
end Go.X
