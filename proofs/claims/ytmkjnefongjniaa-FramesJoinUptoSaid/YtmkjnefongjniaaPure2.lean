/-
  What the laying over of layer 4 comes to, over whole numbers alone.
-/
import Derived.Test.YtmkjnefongjniaaPure1
namespace Go.X
open Go

theorem wrap32_mod (a b : Int) : IntKind.u32.wrap (a + IntKind.u32.wrap b) = IntKind.u32.wrap (a + b) := by simp [IntKind.wrap, IntKind.bits, IntKind.signed]
theorem wrap32_mod' (a b : Int) : IntKind.u32.wrap (IntKind.u32.wrap a + b) = IntKind.u32.wrap (a + b) := by simp [IntKind.wrap, IntKind.bits, IntKind.signed]
/-- The i-th byte of what is laid over. -/
def xorAt (key nonce : List Int) (ctr : Int) (xs : List Int) (i : Nat) : Int :=
  bits .xor .u8 (xs.getD i 0) ((block key nonce (IntKind.u32.wrap (ctr + ((i / 64 : Nat) : Int)))).getD (i % 64) 0)
/-- P4.3 -/
def xorS (key nonce : List Int) (ctr : Int) (xs : List Int) : List Int := gather (xorAt key nonce ctr xs) xs.length []
@[simp] theorem xorS_length (key nonce : List Int) (ctr : Int) (xs : List Int) : (xorS key nonce ctr xs).length = xs.length := by simp [xorS, gather_length]
theorem fillAt_gather (f : Nat → Int) (n : Nat) : ∀ i, i ≤ n → fillAt (fun q => q) f i (List.replicate n 0) = gather f i [] ++ List.replicate (n - i) 0
  | 0, _ => by simp [fillAt, gather]
  | i + 1, h => by
    have ih := fillAt_gather f n i (by omega)
    have hl : (gather f i []).length = i := by simp [gather_length]
    obtain ⟨d, hd⟩ : ∃ d, n - i = d + 1 := ⟨n - i - 1, by omega⟩
    rw [fillAt, ih, hd, List.replicate_succ, List.set_append_right _ _ (by omega), hl, Nat.sub_self, List.set_cons_zero, gather, show n - (i + 1) = d by omega]
    simp
theorem fillAt_all (f : Nat → Int) (n : Nat) : fillAt (fun q => q) f n (List.replicate n 0) = gather f n [] := by
  rw [fillAt_gather f n n (Nat.le_refl n), Nat.sub_self]; simp
theorem ctr_first (ctr : Int) (h : IntKind.u32.wrap ctr = ctr) : ctr = IntKind.u32.wrap (ctr + (((0 + 63) / 64 : Nat) : Int)) := by simpa using h.symm
theorem ctr_here (ctr c : Int) {i : Nat} (hc : c = IntKind.u32.wrap (ctr + (((i + 63) / 64 : Nat) : Int))) (h : i % 64 = 0) : c = IntKind.u32.wrap (ctr + ((i / 64 : Nat) : Int)) := by
  rw [hc, show (i + 63) / 64 = i / 64 by omega]
theorem ctr_next (ctr c : Int) {i : Nat} (hc : c = IntKind.u32.wrap (ctr + (((i + 63) / 64 : Nat) : Int))) (h : i % 64 = 0) : IntKind.u32.wrap (c + 1) = IntKind.u32.wrap (ctr + (((i + 1 + 63) / 64 : Nat) : Int)) := by
  rw [hc, wrap32_mod', show (i + 1 + 63) / 64 = (i + 63) / 64 + 1 by omega]
  congr 1
  omega
theorem ctr_same (ctr c : Int) {i : Nat} (hc : c = IntKind.u32.wrap (ctr + (((i + 63) / 64 : Nat) : Int))) (h : i % 64 ≠ 0) : c = IntKind.u32.wrap (ctr + (((i + 1 + 63) / 64 : Nat) : Int)) := by
  rw [hc, show (i + 1 + 63) / 64 = (i + 63) / 64 by omega]
theorem gather_get (f : Nat → Int) : ∀ n i, i < n → (gather f n []).getD i 0 = f i
  | 0, i, h => absurd h (by omega)
  | n + 1, i, h => by
    have hl : (gather f n []).length = n := by simp [gather_length]
    rw [gather, List.getD_eq_getElem?_getD]
    by_cases hi : i < n
    · rw [List.getElem?_append_left (by omega), ← List.getD_eq_getElem?_getD]
      exact gather_get f n i hi
    · obtain rfl : i = n := by omega
      rw [List.getElem?_append_right (by omega), hl]
      simp
theorem ext_getD {xs ys : List Int} (h : xs.length = ys.length) (hg : ∀ i, i < xs.length → xs.getD i 0 = ys.getD i 0) : xs = ys := by
  refine List.ext_getElem h fun i h1 h2 => ?_
  have := hg i h1
  simpa [List.getD_eq_getElem?_getD, h1, h2] using this
theorem xorS_get (key nonce : List Int) (ctr : Int) (xs : List Int) {i : Nat} (h : i < xs.length) : (xorS key nonce ctr xs).getD i 0 = xorAt key nonce ctr xs i := gather_get _ _ _ h
/-- In the reference's words: the block that is laid over what lies from 64m on. -/
theorem xorAt_in (key nonce : List Int) (ctr : Int) (xs : List Int) {m i : Nat} (h1 : 64 * m ≤ i) (h2 : i < 64 * m + 64) :
    xorAt key nonce ctr xs i = bits .xor .u8 (xs.getD i 0) ((block key nonce (IntKind.u32.wrap (ctr + IntKind.u32.wrap (((64 * m : Nat) : Int) / 64)))).getD (i - 64 * m) 0) := by
  rw [wrap32_mod, xorAt, show i % 64 = i - 64 * m by omega, show i / 64 = m by omega, show (((64 * m : Nat) : Int) / 64) = ((m : Nat) : Int) by omega]
end Go.X
