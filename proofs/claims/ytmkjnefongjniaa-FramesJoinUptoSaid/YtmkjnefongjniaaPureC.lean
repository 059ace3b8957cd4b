/-
  What a hash of layer 6 comes to, over whole numbers alone.
-/
import Derived.Test.YtmkjnefongjniaaPureB
import Derived.Test.YtmkjnefongjniaaX10
namespace Go.X
open Go

/-- The key as it is laid ahead of the text. -/
def kpad (key : List Int) : List Int := if key.length = 0 then [] else key ++ List.replicate (64 - key.length) 0
def full (key b : List Int) : List Int := kpad key ++ b
theorem kpad_nil {key : List Int} (h : key.length = 0) : kpad key = [] := if_pos h
theorem kpad_some {key : List Int} (h : key.length ≠ 0) : kpad key = key ++ List.replicate (64 - key.length) 0 := if_neg h
def sumH0 (kl : Nat) (z : Int) : List Int := startW.set 0 (bits .xor .u32 (startW.getD 0 0) (bits .xor .u32 (bits .xor .u32 16842752 (shl .u32 (IntKind.u32.wrap (kl : Int)) 8)) (IntKind.u32.wrap z)))
@[simp] theorem sumH0_length (kl : Nat) (z : Int) : (sumH0 kl z).length = 8 := by simp [sumH0]
theorem sumH0_ref (kl : Nat) (z : Int) (hk : kl ≤ 32) :
    startW.set 0 (bits .xor .u32 (bits .xor .u32 (bits .xor .u32 (startW.getD 0 0) 16842752) (IntKind.u32.wrap (256 * (kl : Int)))) (IntKind.u32.wrap z)) = sumH0 kl z := by
  have e : shl .u32 (IntKind.u32.wrap (kl : Int)) 8 = IntKind.u32.wrap (256 * (kl : Int)) := by
    simp [shl, IntKind.wrap, IntKind.bits, IntKind.signed]; omega
  rw [sumH0, e, xor32_assoc, xor32_assoc, xor32_assoc]
/-- The state behind j whole pieces. -/
def absorb (h ys : List Int) : Nat → List Int
  | 0 => h
  | j + 1 => pressS (absorb h ys j) (ys.drop (64 * j)) ((64 * (j + 1) : Nat) : Int) false
@[simp] theorem absorb_length (h ys : List Int) : ∀ j, (absorb h ys j).length = h.length
  | 0 => rfl
  | j + 1 => by simp [absorb, absorb_length h ys j]
def lastj (n : Nat) : Nat := (n - 1) / 64
/-- The state behind all. -/
def digest (h ys : List Int) : List Int :=
  pressS (absorb h ys (lastj ys.length)) (ys.drop (64 * lastj ys.length) ++ (List.replicate 64 0).drop (ys.length - 64 * lastj ys.length)) ((ys.length : Nat) : Int) true
@[simp] theorem digest_length (h ys : List Int) : (digest h ys).length = h.length := by simp [digest]
/-- The bytes of a state. -/
def outB (h : List Int) (q : Nat) : Int := IntKind.u8.wrap (shr .u32 (h.getD (q / 4) 0) (8 * ((q % 4 : Nat) : Int)))
def out32 (h : List Int) : List Int := gather (outB h) 32 []
@[simp] theorem out32_length (h : List Int) : (out32 h).length = 32 := by simp [out32]
theorem Bytes.gather {f : Nat → Int} (hf : ∀ i, 0 ≤ f i ∧ f i < 256) {s : List Int} (h : Bytes s) : ∀ i, Bytes (gather f i s)
  | 0 => h
  | i + 1 => fun x hx => by
    rcases List.mem_append.1 hx with h1 | h1
    · exact Bytes.gather hf h i x h1
    · rw [List.mem_singleton] at h1
      rw [h1]; exact hf i
theorem Bytes.out32 (h : List Int) : Bytes (out32 h) := Bytes.gather (fun _ => wrap8 _) (fun _ hx => by cases hx) 32
/-- P6.1 -/
def sumS (key : List Int) (s : Nat) (b : List Int) : List Int := (out32 (digest (sumH0 key.length ((s : Nat) : Int)) (full key b))).take s
theorem sumS_length (key : List Int) {s : Nat} (b : List Int) (h : s ≤ 32) : (sumS key s b).length = s := by simp [sumS]; omega
theorem gather_take (f : Nat → Int) : ∀ n s, s ≤ n → (gather f n []).take s = gather f s []
  | 0, s, h => by
    obtain rfl : s = 0 := by omega
    rfl
  | n + 1, s, h => by
    have hl : (gather f n []).length = n := by simp
    by_cases he : s = n + 1
    · subst he
      rw [List.take_of_length_le (by simp)]
    · rw [gather, List.take_append_of_le_length (by omega)]
      exact gather_take f n s (by omega)
theorem sumS_gather (key : List Int) {s : Nat} (b : List Int) (h : s ≤ 32) : sumS key s b = gather (outB (digest (sumH0 key.length ((s : Nat) : Int)) (full key b))) s [] := gather_take _ 32 s h
/-! The first 64 bytes alone are pressed. -/
theorem msg_congr {bs cs : List Int} (h : ∀ i, i < 64 → bs.getD i 0 = cs.getD i 0) : msg bs = msg cs := by
  refine ext_getD (by simp) fun i hi => ?_
  rw [msg_length] at hi
  rw [msg, msg, gather_get _ _ _ hi, gather_get _ _ _ hi, wordAt, wordAt, h (4 * i) (by omega), h (4 * i + 1) (by omega), h (4 * i + 2) (by omega), h (4 * i + 3) (by omega)]
theorem pressS_congr (h : List Int) {bs cs : List Int} (t : Int) (last : Bool) (he : ∀ i, i < 64 → bs.getD i 0 = cs.getD i 0) : pressS h bs t last = pressS h cs t last := by
  rw [pressS, pressS, msg_congr he]
/-- The reference's way: noughts behind, 64 bytes at a time. -/
def rabs (h zs : List Int) (n tot : Nat) : Nat → List Int
  | 0 => h
  | j + 1 => pressS (rabs h zs n tot j) ((zs.drop (64 * j)).take 64) (min (((64 * j : Nat) : Int) + 64) ((n : Nat) : Int)) (decide (64 * j + 64 = tot))
@[simp] theorem rabs_length (h zs : List Int) (n tot : Nat) : ∀ j, (rabs h zs n tot j).length = h.length
  | 0 => rfl
  | j + 1 => by simp [rabs, rabs_length h zs n tot j]
theorem getD_app_left {xs ys : List Int} {i : Nat} (h : i < xs.length) : (xs ++ ys).getD i 0 = xs.getD i 0 := by
  simp only [List.getD_eq_getElem?_getD]; rw [List.getElem?_append_left h]
theorem getD_app_right {xs ys : List Int} {i : Nat} (h : xs.length ≤ i) : (xs ++ ys).getD i 0 = ys.getD (i - xs.length) 0 := by
  simp only [List.getD_eq_getElem?_getD]; rw [List.getElem?_append_right h]
theorem getD_rep (n i : Nat) : (List.replicate n (0 : Int)).getD i 0 = 0 := by
  rw [List.getD_eq_getElem?_getD, List.getElem?_replicate]; split <;> rfl
theorem rabs_absorb (h ys : List Int) (p : Nat) (hp : ys.length + p = 64 * (lastj ys.length + 1)) : ∀ j, j ≤ lastj ys.length → rabs h (ys ++ List.replicate p 0) ys.length (64 * (lastj ys.length + 1)) j = absorb h ys j
  | 0, _ => rfl
  | j + 1, hj => by
    have h64 : 64 * (j + 1) < ys.length + 1 := by unfold lastj at hj; omega
    rw [rabs, absorb, rabs_absorb h ys p hp j (by omega), show min (((64 * j : Nat) : Int) + 64) ((ys.length : Nat) : Int) = ((64 * (j + 1) : Nat) : Int) by omega, show decide (64 * j + 64 = 64 * (lastj ys.length + 1)) = false by simp; omega]
    refine pressS_congr _ _ _ fun i hi => ?_
    rw [getD_take _ hi, getD_drop, getD_drop, getD_app_left (by omega)]
theorem rabs_digest (h ys : List Int) (p : Nat) (hp : ys.length + p = 64 * (lastj ys.length + 1)) : rabs h (ys ++ List.replicate p 0) ys.length (64 * (lastj ys.length + 1)) (lastj ys.length + 1) = digest h ys := by
  have hJ : 64 * lastj ys.length ≤ ys.length := by unfold lastj; omega
  rw [rabs, digest, rabs_absorb h ys p hp _ (Nat.le_refl _), show min (((64 * lastj ys.length : Nat) : Int) + 64) ((ys.length : Nat) : Int) = ((ys.length : Nat) : Int) by omega, show decide (64 * lastj ys.length + 64 = 64 * (lastj ys.length + 1)) = true by simp; omega]
  refine pressS_congr _ _ _ fun i hi => ?_
  rw [getD_take _ hi, getD_drop]
  by_cases hlt : 64 * lastj ys.length + i < ys.length
  · rw [getD_app_left hlt, getD_app_left (by rw [List.length_drop]; omega), getD_drop]
  · rw [getD_app_right (by omega), getD_app_right (by rw [List.length_drop]; omega), getD_rep, List.drop_replicate, getD_rep]
theorem kpad_le (key : List Int) (h : key.length ≤ 32) : (kpad key).length ≤ 64 := by
  unfold kpad; split <;> simp; omega
theorem kpad_split {key : List Int} (n : Nat) (h : key.length ≠ 0) (h' : key.length ≤ 64) : key ++ (List.replicate (64 + n) 0).drop key.length = kpad key ++ List.replicate n 0 := by
  rw [kpad_some h, List.drop_replicate, List.append_assoc, List.replicate_append_replicate, show 64 + n - key.length = 64 - key.length + n by omega]
theorem cut_zero (A : Option Addr) (c : Nat) : cut A c 0 = A := by
  unfold cut
  split
  · rfl
  · cases A <;> simp [Addr.add]
end Go.X
