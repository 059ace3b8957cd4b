/-
  Laws of what is laid over, over whole numbers alone.
-/
import Derived.Test.YtmkjnefongjniaaPure2
import Derived.Laws.BitsAllLaws
import Derived.Laws.Closers25b
namespace Go.X
open Go

/-- Every one is a byte. -/
def Bytes (xs : List Int) : Prop := ∀ x ∈ xs, 0 ≤ x ∧ x < 256
theorem Bytes.getD {xs : List Int} (h : Bytes xs) (i : Nat) : 0 ≤ xs.getD i 0 ∧ xs.getD i 0 < 256 := by
  rw [List.getD_eq_getElem?_getD]
  cases hi : xs[i]? with
  | none => simp
  | some v => simpa using h v (List.mem_of_getElem? hi)
theorem Bytes.replicate (n : Nat) : Bytes (List.replicate n 0) := fun x hx => by
  have := List.eq_of_mem_replicate hx
  omega
theorem Bytes.set {xs : List Int} (h : Bytes xs) {v : Int} (hv : 0 ≤ v ∧ v < 256) (i : Nat) : Bytes (xs.set i v) := fun x hx => by
  rcases List.mem_or_eq_of_mem_set hx with h1 | rfl
  · exact h x h1
  · exact hv
theorem wrap8 (n : Int) : 0 ≤ IntKind.u8.wrap n ∧ IntKind.u8.wrap n < 256 := by simp [IntKind.wrap, IntKind.bits, IntKind.signed]; omega
theorem Bytes.fillAt {idx : Nat → Nat} {f : Nat → Int} (hf : ∀ i, 0 ≤ f i ∧ f i < 256) {s : List Int} (h : Bytes s) : ∀ i, Bytes (fillAt idx f i s)
  | 0 => h
  | i + 1 => (Bytes.fillAt hf h i).set (hf i) _
theorem Bytes.ser (f : Nat → Int) : ∀ i, Bytes (ser f i)
  | 0 => Bytes.replicate 64
  | i + 1 => Bytes.fillAt (fun _ => wrap8 _) (Bytes.ser f i) 4
theorem Bytes.block (key nonce : List Int) (ctr : Int) : Bytes (block key nonce ctr) := Bytes.ser _ _
theorem xor8_twice {a b : Int} (ha : 0 ≤ a ∧ a < 256) (hb : 0 ≤ b ∧ b < 256) : bits .xor .u8 (bits .xor .u8 a b) b = a := by
  obtain ⟨m, rfl⟩ := Int.eq_ofNat_of_zero_le ha.1
  obtain ⟨n, rfl⟩ := Int.eq_ofNat_of_zero_le hb.1
  have hm : m < 256 := by omega
  have hn : n < 256 := by omega
  rw [u8_xor_nat m n hm hn, u8_xor_nat _ _ (Nat.xor_lt_two_pow (n := 8) hm hn) hn, Nat.xor_assoc, Nat.xor_self, Nat.xor_zero]
theorem xor8_zero {b : Int} (hb : 0 ≤ b ∧ b < 256) : bits .xor .u8 0 b = b := by
  obtain ⟨n, rfl⟩ := Int.eq_ofNat_of_zero_le hb.1
  have hn : n < 256 := by omega
  rw [show (0 : Int) = ((0 : Nat) : Int) from rfl, u8_xor_nat 0 n (by omega) hn, Nat.zero_xor]
theorem xorS_twice (key nonce : List Int) (ctr : Int) {xs : List Int} (h : Bytes xs) : xorS key nonce ctr (xorS key nonce ctr xs) = xs := by
  refine ext_getD (by simp [xorS_length]) fun i hi => ?_
  rw [xorS_length, xorS_length] at hi
  rw [xorS_get _ _ _ _ (by rw [xorS_length]; exact hi), xorAt, xorS_get _ _ _ _ hi, xorAt]
  exact xor8_twice (h.getD i) ((Bytes.block key nonce _).getD _)
theorem getD_take (xs : List Int) {k i : Nat} (h : i < k) : (xs.take k).getD i 0 = xs.getD i 0 := by
  simp only [List.getD_eq_getElem?_getD, List.getElem?_take]; simp [h]
theorem getD_drop (xs : List Int) (k i : Nat) : (xs.drop k).getD i 0 = xs.getD (k + i) 0 := by
  simp only [List.getD_eq_getElem?_getD, List.getElem?_drop]
theorem xorS_take (key nonce : List Int) (ctr : Int) (xs : List Int) {r : Nat} (hr : r ≤ xs.length) : (xorS key nonce ctr xs).take r = xorS key nonce ctr (xs.take r) := by
  refine ext_getD (by simp [xorS_length]) fun i hi => ?_
  simp only [List.length_take, xorS_length] at hi
  rw [getD_take _ (by omega), xorS_get _ _ _ _ (by omega), xorS_get _ _ _ _ (by rw [List.length_take]; omega), xorAt, xorAt, getD_take _ (by omega)]
theorem xorS_drop (key nonce : List Int) (ctr : Int) (xs : List Int) (h : 64 ≤ xs.length) : (xorS key nonce ctr xs).drop 64 = xorS key nonce (IntKind.u32.wrap (ctr + 1)) (xs.drop 64) := by
  refine ext_getD (by simp [xorS_length]) fun i hi => ?_
  simp only [List.length_drop, xorS_length] at hi
  rw [getD_drop, xorS_get _ _ _ _ (by omega), xorS_get _ _ _ _ (by rw [List.length_drop]; omega), xorAt, xorAt, getD_drop, wrap32_mod', show (64 + i) % 64 = i % 64 by omega, show (64 + i) / 64 = i / 64 + 1 by omega]
  congr 4
  omega
theorem xorS_noughts (key nonce : List Int) (ctr : Int) (hc : IntKind.u32.wrap ctr = ctr) : xorS key nonce ctr (List.replicate 128 0) = block key nonce ctr ++ block key nonce (IntKind.u32.wrap (ctr + 1)) := by
  have hl : (block key nonce ctr).length = 64 := block_length _ _ _
  have hl' : (block key nonce (IntKind.u32.wrap (ctr + 1))).length = 64 := block_length _ _ _
  have hz : ∀ i, (List.replicate 128 (0 : Int)).getD i 0 = 0 := fun i => by
    rw [List.getD_eq_getElem?_getD, List.getElem?_replicate]; split <;> rfl
  refine ext_getD (by simp [xorS_length, hl, hl']) fun i hi => ?_
  simp only [xorS_length, List.length_replicate] at hi
  rw [xorS_get _ _ _ _ (by rw [List.length_replicate]; exact hi), xorAt, hz, xor8_zero ((Bytes.block key nonce _).getD _), List.getD_eq_getElem?_getD (l := _ ++ _)]
  by_cases h : i < 64
  · rw [List.getElem?_append_left (by omega), ← List.getD_eq_getElem?_getD, show i / 64 = 0 by omega, show i % 64 = i by omega]
    simp [hc]
  · rw [List.getElem?_append_right (by omega), hl, ← List.getD_eq_getElem?_getD, show i / 64 = 1 by omega, show i % 64 = i - 64 by omega]
    rfl
theorem bstr_app (xs ys : List Int) : bstr (xs ++ ys) = bstr xs ++ bstr ys := by
  apply ByteArray.ext
  simp [bstr, ByteArray.data_append]
theorem bstr_size (xs : List Int) : (bstr xs).size = xs.length := by simp [bstr, ByteArray.size]
/-- P4.4: what the document shows. -/
def kshown : List Int := fillAt (fun q => q) (fun q => IntKind.u8.wrap ((q : Nat) : Int)) 32 (List.replicate 32 0)
def nshown : List Int := [0, 0, 0, 9, 0, 0, 0, 74, 0, 0, 0, 0]
theorem block_shown : ∀ i, i < 8 → (block kshown nshown 1).getD i 0 = ([16, 241, 231, 228, 209, 59, 89, 21] : List Int).getD i 0 := by decide +kernel
theorem quarter_shown : quarter [286331153, 16909060, 2609737539, 19088743] = [3928658676, 3407673550, 1166100270, 1484899515] := by decide +kernel
end Go.X
