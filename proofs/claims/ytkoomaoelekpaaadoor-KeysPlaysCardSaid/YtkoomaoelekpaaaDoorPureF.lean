/-
  What the document shows of layer 6, reckoned out.
-/
import Derived.Test.YtkoomaoelekpaaaDoorPureE
namespace Go.X
open Go
theorem hash_abc : (hashS [97, 98, 99]).getD 0 0 = 80 ∧ (hashS [97, 98, 99]).getD 1 0 = 140 ∧ (hashS [97, 98, 99]).getD 30 0 = 89 ∧ (hashS [97, 98, 99]).getD 31 0 = 130 := by decide +kernel
theorem hash_nil : (hashS []).getD 0 0 = 105 ∧ (hashS []).getD 1 0 = 33 ∧ (hashS []).getD 31 0 = 249 := by decide +kernel
end Go.X
