/-
  What the keys of layer 8 come to, over whole numbers alone.
-/
import Derived.Test.YtmkjnefongjniaaPureD
namespace Go.X
open Go

/-- P8.1: the i-th block. -/
def lastT (k info : List Int) : Nat → List Int
  | 0 => []
  | i + 1 => macS k (lastT k info i ++ info ++ [IntKind.u8.wrap (((i + 1 : Nat) : Int))])
def outT (k info : List Int) : Nat → List Int
  | 0 => []
  | i + 1 => outT k info i ++ lastT k info (i + 1)
@[simp] theorem lastT_succ (k info : List Int) (i : Nat) : (lastT k info (i + 1)).length = 32 := macS_length _ _
theorem outT_succ (k info : List Int) (i : Nat) : outT k info (i + 1) = outT k info i ++ lastT k info (i + 1) := rfl
theorem lastT_ref (k info : List Int) (j : Nat) : macS k ((([] ++ lastT k info j) ++ info) ++ [IntKind.u8.wrap (((j + 1) : Nat) : Int)]) = lastT k info (j + 1) := by
  rw [List.nil_append, lastT]
theorem lastT_le (k info : List Int) : ∀ i, (lastT k info i).length ≤ 32
  | 0 => by simp [lastT]
  | i + 1 => Nat.le_of_eq (lastT_succ k info i)
@[simp] theorem outT_length (k info : List Int) : ∀ i, (outT k info i).length = 32 * i
  | 0 => rfl
  | i + 1 => by rw [outT, List.length_append, outT_length k info i, lastT_succ]; omega
theorem outT_take (k info : List Int) (i : Nat) : ∀ j, i ≤ j → (outT k info j).take (32 * i) = outT k info i
  | 0, h => by
    obtain rfl : i = 0 := by omega
    rfl
  | j + 1, h => by
    by_cases he : i = j + 1
    · subst he
      exact List.take_of_length_le (by simp)
    · rw [outT, List.take_append_of_le_length (by simp; omega)]
      exact outT_take k info i j (by omega)
/-- P8.1 -/
def expS (k info : List Int) (n : Nat) : List Int := (outT k info ((n + 31) / 32)).take n
@[simp] theorem expS_length (k info : List Int) (n : Nat) : (expS k info n).length = n := by simp [expS]; omega
theorem expS_take (k info : List Int) (n m : Nat) (h : n ≤ m) : (expS k info m).take n = expS k info n := by
  rw [expS, expS, List.take_take, Nat.min_eq_left h, ← outT_take k info ((n + 31) / 32) ((m + 31) / 32) (by omega), List.take_take, Nat.min_eq_left (by omega)]
theorem Bytes.app {xs ys : List Int} (h : Bytes xs) (g : Bytes ys) : Bytes (xs ++ ys) := fun x hx => (List.mem_append.1 hx).elim (h x) (g x)
theorem Bytes.take {xs : List Int} (h : Bytes xs) (n : Nat) : Bytes (xs.take n) := fun x hx => h x (List.mem_of_mem_take hx)
theorem Bytes.nil : Bytes [] := fun _ h => by cases h
theorem Bytes.lastT (k info : List Int) : ∀ i, Bytes (lastT k info i)
  | 0 => Bytes.nil
  | _ + 1 => Bytes.macS _ _
theorem Bytes.outT (k info : List Int) : ∀ i, Bytes (outT k info i)
  | 0 => Bytes.nil
  | i + 1 => (Bytes.outT k info i).app (Bytes.lastT k info (i + 1))
theorem Bytes.expS (k info : List Int) (n : Nat) : Bytes (expS k info n) := (Bytes.outT k info _).take n
/-- P8.2 -/
def chainA (k b : List Int) : List Int := macS (macS k b) [1]
def chainB (k b : List Int) : List Int := macS (macS k b) (chainA k b ++ [2])
@[simp] theorem chainA_length (k b : List Int) : (chainA k b).length = 32 := macS_length _ _
@[simp] theorem chainB_length (k b : List Int) : (chainB k b).length = 32 := macS_length _ _
theorem chain_exp (k b : List Int) : expS (macS k b) [] 64 = chainA k b ++ chainB k b := by
  have w1 : IntKind.u8.wrap (((0 + 1 : Nat) : Int)) = 1 := by decide
  have w2 : IntKind.u8.wrap (((0 + 1 + 1 : Nat) : Int)) = 2 := by decide
  have l1 : lastT (macS k b) [] (0 + 1) = chainA k b := by rw [lastT, lastT, w1]; rfl
  have l2 : lastT (macS k b) [] (0 + 1 + 1) = chainB k b := by rw [lastT, l1, w2, List.append_nil]; rfl
  have h : outT (macS k b) [] (0 + 1 + 1) = chainA k b ++ chainB k b := by rw [outT, outT, outT, l1, l2, List.nil_append]
  rw [expS, show (64 + 31) / 32 = 0 + 1 + 1 from rfl, h, List.take_of_length_le (by simp)]
theorem copy33 (xs : List Int) (v : Int) (h : xs.length = 32) : (xs ++ (List.replicate 33 0).drop 32).set 32 v = xs ++ [v] := by
  rw [List.set_append_right _ _ (by omega), h]; rfl
/-- P8.3 -/
def laterN : List Int := [115, 104, 101, 97, 118, 101, 32, 108, 97, 116, 101, 114]
def keyN : List Int := [115, 104, 101, 97, 118, 101, 32, 107, 101, 121]
def laterS (k : List Int) : List Int := expS k laterN 32
def ofS (k : List Int) : List Int := expS k keyN 32
@[simp] theorem laterS_length (k : List Int) : (laterS k).length = 32 := expS_length _ _ _
@[simp] theorem ofS_length (k : List Int) : (ofS k).length = 32 := expS_length _ _ _
end Go.X
