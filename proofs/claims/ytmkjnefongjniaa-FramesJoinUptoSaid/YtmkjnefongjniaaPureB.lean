/-
  What the words of layer 6 come to, over whole numbers alone.
-/
import Derived.Test.YtmkjnefongjniaaPure3
import Derived.Test.YtmkjnefongjniaaX9
namespace Go.X
open Go

theorem or32_comm (a b : Int) : bits .or .u32 a b = bits .or .u32 b a := by
  simp only [bits]
  rw [BitVec.or_comm]
/-- x turned to the right by k, as the reference has it. -/
theorem ror_rotl (x k : Int) : bits .or .u32 (shr .u32 x k) (shl .u32 x (32 - k)) = rotl x (32 - k) := by
  rw [rotl, or32_comm, show 32 - (32 - k) = k by omega]
theorem add3 (a b c : Int) : IntKind.u32.wrap (IntKind.u32.wrap (a + b) + c) = IntKind.u32.wrap (a + IntKind.u32.wrap (b + c)) := by
  rw [wrap32_mod, wrap32_mod', Int.add_assoc]
def add2 (v : List Int) (a b : Nat) (x : Int) : List Int := v.set a (IntKind.u32.wrap (v.getD a 0 + IntKind.u32.wrap (v.getD b 0 + x)))
def xrot (v : List Int) (d a : Nat) (k : Int) : List Int := v.set d (rotl (bits .xor .u32 (v.getD d 0) (v.getD a 0)) k)
def add1 (v : List Int) (c d : Nat) : List Int := v.set c (IntKind.u32.wrap (v.getD c 0 + v.getD d 0))
@[simp] theorem add2_length (v : List Int) (a b : Nat) (x : Int) : (add2 v a b x).length = v.length := by simp [add2]
@[simp] theorem xrot_length (v : List Int) (d a : Nat) (k : Int) : (xrot v d a k).length = v.length := by simp [xrot]
@[simp] theorem add1_length (v : List Int) (c d : Nat) : (add1 v c d).length = v.length := by simp [add1]
def mixS (v : List Int) (a b c d : Nat) (x y : Int) : List Int :=
  xrot (add1 (xrot (add2 (xrot (add1 (xrot (add2 v a b x) d a 16) c d) b c 20) a b y) d a 24) c d) b c 25
@[simp] theorem mixS_length (v : List Int) (a b c d : Nat) (x y : Int) : (mixS v a b c d x y).length = v.length := by simp [mixS]

theorem xor32_assoc (a b c : Int) : bits .xor .u32 (bits .xor .u32 a b) c = bits .xor .u32 a (bits .xor .u32 b c) := by
  have h : ∀ x : BitVec 32, BitVec.ofInt 32 (IntKind.u32.wrap ((x.toNat : Nat) : Int)) = x := fun x => by
    have hx := x.isLt
    have e : IntKind.u32.wrap ((x.toNat : Nat) : Int) = ((x.toNat : Nat) : Int) := by simp [IntKind.wrap, IntKind.bits, IntKind.signed]; omega
    rw [e]
    simp
  show IntKind.u32.wrap ((BitVec.ofInt 32 (IntKind.u32.wrap ((BitVec.ofInt 32 a ^^^ BitVec.ofInt 32 b).toNat : Int)) ^^^ BitVec.ofInt 32 c).toNat : Int) =
    IntKind.u32.wrap ((BitVec.ofInt 32 a ^^^ BitVec.ofInt 32 (IntKind.u32.wrap ((BitVec.ofInt 32 b ^^^ BitVec.ofInt 32 c).toNat : Int))).toNat : Int)
  rw [h, h, BitVec.xor_assoc]
/-- Four bytes from the j-th on, as a word. -/
def wordAt (bs : List Int) (j : Nat) : Int :=
  bits .or .u32 (bits .or .u32 (bits .or .u32 (IntKind.u32.wrap (bs.getD j 0)) (shl .u32 (IntKind.u32.wrap (bs.getD (j + 1) 0)) 8)) (shl .u32 (IntKind.u32.wrap (bs.getD (j + 2) 0)) 16)) (shl .u32 (IntKind.u32.wrap (bs.getD (j + 3) 0)) 24)
def msg (bs : List Int) : List Int := gather (fun q => wordAt bs (4 * q)) 16 []
@[simp] theorem msg_length (bs : List Int) : (msg bs).length = 16 := by simp [msg]
def startW : List Int := [1779033703, 3144134277, 1013904242, 2773480762, 1359893119, 2600822924, 528734635, 1541459225]
@[simp] theorem startW_length : startW.length = 8 := rfl
/-- The words that are mixed, as they are laid one by one. -/
def vfill (h : List Int) : Nat → List Int
  | 0 => List.replicate 16 0
  | i + 1 => ((vfill h i).set i (h.getD i 0)).set (8 + i) (startW.getD i 0)
@[simp] theorem vfill_length (h : List Int) : ∀ i, (vfill h i).length = 16
  | 0 => by simp [vfill]
  | i + 1 => by simp [vfill, vfill_length h i]
theorem vfill_all (h : List Int) (hl : h.length = 8) : vfill h 8 = h ++ startW := by
  match h, hl with
  | [a, b, c, d, e, f, g, i], _ => rfl
def vtold (v : List Int) (t : Int) : List Int :=
  (v.set 12 (bits .xor .u32 (v.getD 12 0) (IntKind.u32.wrap t))).set 13 (bits .xor .u32 ((v.set 12 (bits .xor .u32 (v.getD 12 0) (IntKind.u32.wrap t))).getD 13 0) (IntKind.u32.wrap (shr .u64 t 32)))
@[simp] theorem vtold_length (v : List Int) (t : Int) : (vtold v t).length = v.length := by simp [vtold]
def vlast (v : List Int) : List Int := v.set 14 (bits .xor .u32 (if IntKind.u32.signed then -1 else IntKind.u32.max) (v.getD 14 0))
@[simp] theorem vlast_length (v : List Int) : (vlast v).length = v.length := by simp [vlast]
def vstart (h : List Int) (t : Int) (last : Bool) : List Int := bif last then vlast (vtold (h ++ startW) t) else vtold (h ++ startW) t
theorem vstart_length (h : List Int) (t : Int) (last : Bool) (hl : h.length = 8) : (vstart h t last).length = 16 := by cases last <;> simp [vstart, hl]
def sgm : List Int := [0, 1, 2, 3, 4, 5, 6, 7, 8, 9, 10, 11, 12, 13, 14, 15, 14, 10, 4, 8, 9, 15, 13, 6, 1, 12, 0, 2, 11, 7, 5, 3, 11, 8, 12, 0, 5, 2, 15, 13, 10, 14, 3, 6, 7, 1, 9, 4, 7, 9, 3, 1, 13, 12, 11, 14, 2, 6, 5, 10, 4, 0, 15, 8, 9, 0, 5, 7, 2, 4, 10, 15, 14, 1, 11, 12, 6, 8, 3, 13, 2, 12, 6, 10, 0, 11, 8, 3, 4, 13, 7, 5, 15, 14, 1, 9, 12, 5, 1, 15, 14, 13, 4, 10, 0, 7, 6, 3, 9, 2, 8, 11, 13, 11, 7, 14, 12, 1, 3, 9, 5, 0, 15, 4, 8, 6, 2, 10, 6, 15, 14, 9, 11, 3, 0, 8, 12, 2, 13, 7, 1, 4, 10, 5, 10, 2, 8, 4, 7, 6, 1, 5, 15, 11, 9, 14, 3, 12, 13, 0]
@[simp] theorem sgm_length : sgm.length = 160 := by decide +kernel
def sg (r : Nat) : List Int := (sgm.drop (r * 16)).take 16
theorem sg_length {r : Nat} (h : r < 10) : (sg r).length = 16 := by simp [sg]; omega
theorem sg_ok {r i : Nat} (hr : r < 10) (hi : i < 16) : 0 ≤ (sg r).getD i 0 ∧ (sg r).getD i 0 < 16 := by
  have h : ∀ r, r < 10 → ∀ i, i < 16 → 0 ≤ (sg r).getD i 0 ∧ (sg r).getD i 0 < 16 := by decide +kernel
  exact h r hr i hi
def bstep (s m v : List Int) (j : Nat) : List Int :=
  mixS v ((pl j).getD 0 0).toNat ((pl j).getD 1 0).toNat ((pl j).getD 2 0).toNat ((pl j).getD 3 0).toNat (m.getD (s.getD (2 * j) 0).toNat 0) (m.getD (s.getD (2 * j + 1) 0).toNat 0)
def bdr (s m v : List Int) : Nat → List Int
  | 0 => v
  | j + 1 => bstep s m (bdr s m v j) j
@[simp] theorem bdr_length (s m v : List Int) : ∀ j, (bdr s m v j).length = v.length
  | 0 => rfl
  | j + 1 => by simp [bdr, bstep, bdr_length s m v j]
def brn (m v : List Int) : Nat → List Int
  | 0 => v
  | r + 1 => bdr (sg r) m (brn m v r) 8
@[simp] theorem brn_length (m v : List Int) : ∀ r, (brn m v r).length = v.length
  | 0 => rfl
  | r + 1 => by simp [brn, brn_length m v r]
def hfold (v : List Int) : Nat → List Int → List Int
  | 0, h => h
  | i + 1, h => (hfold v i h).set i (bits .xor .u32 ((hfold v i h).getD i 0) (bits .xor .u32 (v.getD i 0) (v.getD (8 + i) 0)))
@[simp] theorem hfold_length (v : List Int) (h : List Int) : ∀ i, (hfold v i h).length = h.length
  | 0 => rfl
  | i + 1 => by simp [hfold, hfold_length v h i]
/-- P6.1: a state that is pressed with 64 bytes. -/
def pressS (h bs : List Int) (t : Int) (last : Bool) : List Int := hfold (brn (msg bs) (vstart h t last) 10) 8 h
@[simp] theorem pressS_length (h bs : List Int) (t : Int) (last : Bool) : (pressS h bs t last).length = h.length := by simp [pressS]
theorem hfold_gather (v h : List Int) (hl : h.length = 8) : gather (fun i => bits .xor .u32 (bits .xor .u32 (h.getD i 0) (v.getD i 0)) (v.getD (i + 8) 0)) 8 [] = hfold v 8 h := by
  match h, hl with
  | [a, b, c, d, e, f, g, i], _ =>
    simp only [gather, hfold, xor32_assoc]
    rfl
theorem low32 (t : Int) (h0 : 0 ≤ t) (h1 : t < 18446744073709551616) : IntKind.u32.wrap (bits .and .u64 t 4294967295) = IntKind.u32.wrap t := by
  obtain ⟨m, rfl⟩ := Int.eq_ofNat_of_zero_le h0
  rw [show (4294967295 : Int) = ((4294967295 : Nat) : Int) from rfl, u64_and_nat m _ (by omega) (by omega), show (4294967295 : Nat) = 2 ^ 32 - 1 from rfl, Nat.and_two_pow_sub_one_eq_mod]
  simp [IntKind.wrap, IntKind.bits, IntKind.signed]
/-- The reference goes by the places that it reckons. -/
theorem bstep_lo {j : Nat} (h : j < 4) (s m v : List Int) : mixS v j (4 + j) (8 + j) (12 + j) (m.getD (s.getD (2 * j) 0).toNat 0) (m.getD (s.getD (2 * j + 1) 0).toNat 0) = bstep s m v j := by
  match j, h with
  | 0, _ => rfl
  | 1, _ => rfl
  | 2, _ => rfl
  | 3, _ => rfl
theorem bstep_hi {j : Nat} (h : j < 4) (s m v : List Int) : mixS v j (4 + (j + 1) % 4) (8 + (j + 2) % 4) (12 + (j + 3) % 4) (m.getD (s.getD (8 + 2 * j) 0).toNat 0) (m.getD (s.getD (9 + 2 * j) 0).toNat 0) = bstep s m v (4 + j) := by
  match j, h with
  | 0, _ => rfl
  | 1, _ => rfl
  | 2, _ => rfl
  | 3, _ => rfl
end Go.X
