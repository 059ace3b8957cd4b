/-
  What the document shows of layer 8, reckoned out.
-/
import Derived.Test.YtkoomaoelekpaaaDoorPureE
namespace Go.X
open Go
def zkey : List Int := List.replicate 32 0
@[simp] theorem zkey_length : zkey.length = 32 := rfl
theorem later_of : (!decide (laterS zkey = ofS zkey)) = true := by decide +kernel
theorem later_zero : (!decide (laterS zkey = zkey)) = true := by decide +kernel
end Go.X
