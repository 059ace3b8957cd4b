/-
  What the keys of layer 15 come to, over whole numbers alone.
-/
import Derived.Test.YtkoomaoelekpaaaDoorPureE
namespace Go.X
open Go

/-- P15.1: the key of an epoch, or that there is none. -/
def keyS (E f : Int) (s0 s1 : List Int) (e : Int) : List Int × Int := if e < f ∨ (e ≠ E ∧ e ≠ E - 1) then (List.replicate 32 0, 150) else if e = E then (ofS s0, 0) else (ofS s1, 0)
def refKeyS (E : Int) (now last : List Int) (hs : Bool) (e : Int) : List Int × Int := if e = E then (ofS now, 0) else if e = E - 1 ∧ hs = true then (ofS last, 0) else (List.replicate 32 0, 150)
@[simp] theorem keyS_length (E f : Int) (s0 s1 : List Int) (e : Int) : (keyS E f s0 s1 e).1.length = 32 := by
  unfold keyS; split
  · simp
  · split <;> simp
@[simp] theorem refKeyS_length (E : Int) (now last : List Int) (hs : Bool) (e : Int) : (refKeyS E now last hs e).1.length = 32 := by
  unfold refKeyS; split
  · simp
  · split <;> simp
theorem keyS_ref {E f : Int} (h : f ≤ E) (s0 s1 : List Int) (e : Int) : keyS E f s0 s1 e = refKeyS E s0 s1 (decide (f < E)) e := by
  unfold keyS refKeyS
  simp only [decide_eq_true_eq]
  by_cases h1 : e = E
  · rw [if_neg (by omega), if_pos h1, if_pos h1]
  · by_cases h2 : e = E - 1 ∧ f < E
    · rw [if_neg (by omega), if_neg h1, if_neg h1, if_pos h2]
    · rw [if_pos (by omega), if_neg h1, if_neg h2]
def nextS (E : Int) (s0 : List Int) : List Int × Int := if 65535 ≤ E then (List.replicate 32 0, 6) else (ofS (laterS s0), 0)
@[simp] theorem nextS_length (E : Int) (s0 : List Int) : (nextS E s0).1.length = 32 := by unfold nextS; split <;> simp
def advR (E : Int) : Int := if 65535 ≤ E then 6 else 0
def advE (E : Int) : Int := if 65535 ≤ E then E else E + 1
def advK (E : Int) (s0 : List Int) : List Int := if 65535 ≤ E then s0 else laterS s0
def advL (E : Int) (s0 s1 : List Int) : List Int := if 65535 ≤ E then s1 else s0
def advH (E : Int) (hs : Bool) : Bool := if 65535 ≤ E then hs else true
theorem advK_length {E : Int} {s0 : List Int} (h : s0.length = 32) : (advK E s0).length = 32 := by unfold advK; split <;> simp [h]
theorem advL_length {E : Int} {s0 s1 : List Int} (h : s0.length = 32) (h1 : s1.length = 32) : (advL E s0 s1).length = 32 := by unfold advL; split <;> simp [h, h1]
theorem advH_eq {E f : Int} (h : f ≤ E) : advH E (decide (f < E)) = decide (f < advE E) := by
  unfold advH advE
  split
  · rfl
  · simp; omega
theorem advE_ge {E : Int} : E ≤ advE E ∧ advE E ≤ E + 1 := by unfold advE; split <;> omega
theorem advE_lt {E : Int} (h : E < 65535) : advE E = E + 1 := if_neg (by omega)
theorem advR_lt {E : Int} (h : E < 65535) : advR E = 0 := if_neg (by omega)
theorem advK_lt {E : Int} (h : E < 65535) (s0 : List Int) : advK E s0 = laterS s0 := if_neg (by omega)
theorem advL_lt {E : Int} (h : E < 65535) (s0 s1 : List Int) : advL E s0 s1 = s0 := if_neg (by omega)
theorem nextS_lt {E : Int} (h : E < 65535) (s0 : List Int) : nextS E s0 = (ofS (laterS s0), 0) := if_neg (by omega)
theorem keyS_now (E f : Int) (s0 s1 : List Int) (h : f ≤ E) : keyS E f s0 s1 E = (ofS s0, 0) := by rw [keyS, if_neg (by omega), if_pos rfl]
theorem keyS_last (E f e : Int) (s0 s1 : List Int) (h : f < E) (he : e = E - 1) : keyS E f s0 s1 e = (ofS s1, 0) := by rw [keyS, if_neg (by omega), if_neg (by omega)]
theorem keyS_none (E f e : Int) (s0 s1 : List Int) (h : e < f ∨ (e ≠ E ∧ e ≠ E - 1)) : keyS E f s0 s1 e = (List.replicate 32 0, 150) := if_pos h
/-- An epoch as it begins. -/
def eS (z : Int) : Int := max 0 (min z 65535)
theorem eS_ok (z : Int) : 0 ≤ eS z ∧ eS z ≤ 65535 := by unfold eS; omega
theorem advE_le {E : Int} (h : E ≤ 65535) : advE E ≤ 65535 := by unfold advE; split <;> omega
/-- The secret, so many epochs on. -/
def itS (key : List Int) : Nat → List Int
  | 0 => key
  | i + 1 => laterS (itS key i)
@[simp] theorem itS_length {key : List Int} (h : key.length = 32) : ∀ i, (itS key i).length = 32
  | 0 => h
  | _ + 1 => laterS_length _
def k7 : List Int := 7 :: List.replicate 31 0
@[simp] theorem k7_length : k7.length = 32 := rfl
theorem k7a : (!decide (ofS k7 = ofS (laterS k7))) = true := by decide +kernel
theorem k7b : (!decide (ofS (laterS k7) = ofS (laterS (laterS k7)))) = true := by decide +kernel
end Go.X
