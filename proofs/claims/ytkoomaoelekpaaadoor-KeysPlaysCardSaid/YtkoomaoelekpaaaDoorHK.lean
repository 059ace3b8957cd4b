/-
  Closed facts on the types and the functions that the walks name.
-/
import Derived.Test.YtkoomaoelekpaaaDoorH
namespace Go.Proofs.YtkoomaoelekpaaaDoor
open Go Go.X
theorem ar73 : arr Tryd.prog 73 = some (33, 5, 1) := by kernel_rfl
theorem sc87 : slc Tryd.prog 87 = some (22, 1, 24) := by kernel_rfl
theorem ss22 : scalar Tryd.prog 22 = true := by kernel_rfl
theorem ze22 : zer Tryd.prog 22 = some ([.slice none 0 0]) := by kernel_rfl
theorem ze73 : zer Tryd.prog 73 = some (ints .u8 (List.replicate 33 0)) := by kernel_rfl
theorem enters25 : Enters Tryd.prog 25 := enters_of Tryd.func25 (by kernel_rfl) (by kernel_rfl)
theorem enters26 : Enters Tryd.prog 26 := enters_of Tryd.func26 (by kernel_rfl) (by kernel_rfl)
theorem enters27 : Enters Tryd.prog 27 := enters_of Tryd.func27 (by kernel_rfl) (by kernel_rfl)
theorem enters28 : Enters Tryd.prog 28 := enters_of Tryd.func28 (by kernel_rfl) (by kernel_rfl)
theorem enters29 : Enters Tryd.prog 29 := enters_of Tryd.func29 (by kernel_rfl) (by kernel_rfl)
theorem enters30 : Enters Tryd.prog 30 := enters_of Tryd.func30 (by kernel_rfl) (by kernel_rfl)
theorem enters31 : Enters Tryd.prog 31 := enters_of Tryd.func31 (by kernel_rfl) (by kernel_rfl)
theorem enters32 : Enters Tryd.prog 32 := enters_of Tryd.func32 (by kernel_rfl) (by kernel_rfl)
theorem enters33 : Enters Tryd.prog 33 := enters_of Tryd.func33 (by kernel_rfl) (by kernel_rfl)
theorem enters34 : Enters Tryd.prog 34 := enters_of Tryd.func34 (by kernel_rfl) (by kernel_rfl)
theorem enters35 : Enters Tryd.prog 35 := enters_of Tryd.func35 (by kernel_rfl) (by kernel_rfl)
theorem enters52 : Enters Tryd.prog 52 := enters_of Tryd.func52 (by kernel_rfl) (by kernel_rfl)
theorem enters53 : Enters Tryd.prog 53 := enters_of Tryd.func53 (by kernel_rfl) (by kernel_rfl)
theorem enters54 : Enters Tryd.prog 54 := enters_of Tryd.func54 (by kernel_rfl) (by kernel_rfl)
theorem enters55 : Enters Tryd.prog 55 := enters_of Tryd.func55 (by kernel_rfl) (by kernel_rfl)
theorem enters59 : Enters Tryd.prog 59 := enters_of Tryd.func59 (by kernel_rfl) (by kernel_rfl)
end Go.Proofs.YtkoomaoelekpaaaDoor
