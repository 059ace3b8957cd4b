/-
  A slice of numbers is one of whole numbers.
-/
import Derived.Test.YtkoomaoelekpaaaDoorLift
namespace Go.Proofs.YtkoomaoelekpaaaDoor
open Go Go.X Go.ChangeShapes Go.WideShapes Go.ChangeAt Go.RowKit
theorem s57 : slc Tryd.prog 57 = some (3, 1, 8) := by kernel_rfl

end Go.Proofs.YtkoomaoelekpaaaDoor
