/-
  Closed facts on the types and the functions that the walks name.
-/
import Derived.Test.YtmkjnefongjniaaPureO
import Derived.Test.YtmkjnefongjniaaRows
namespace Go.Proofs.Ytmkjnefongjniaa
open Go Go.X
theorem ar87 : arr Try.prog 87 = some (3, 3, 1) := by kernel_rfl
theorem sc22 : slc Try.prog 22 = some (5, 1, 1) := by kernel_rfl
theorem sc89 : slc Try.prog 89 = some (3, 1, 8) := by kernel_rfl
theorem ss3 : scalar Try.prog 3 = true := by kernel_rfl
theorem ss5 : scalar Try.prog 5 = true := by kernel_rfl
theorem un3 : Try.prog.underlying 3 = some (.int .i64) := by kernel_rfl
theorem un5 : Try.prog.underlying 5 = some (.int .u8) := by kernel_rfl
theorem un9 : Try.prog.underlying 9 = some (.string) := by kernel_rfl
theorem un22 : Try.prog.underlying 22 = some (.slice 5) := by kernel_rfl
theorem un70 : Try.prog.underlying 70 = some (.int .u64) := by kernel_rfl
theorem un93 : Try.prog.underlying 93 = some (.int .u64) := by kernel_rfl
theorem wd87 : wide Try.prog 87 = some 3 := by kernel_rfl
theorem ze3 : zer Try.prog 3 = some ([.int .i64 0]) := by kernel_rfl
theorem ze5 : zer Try.prog 5 = some ([.int .u8 0]) := by kernel_rfl
theorem ze87 : zer Try.prog 87 = some (ints .i64 (List.replicate 3 0)) := by kernel_rfl
theorem enters19 : Enters Try.prog 19 := enters_of Try.func19 (by kernel_rfl) (by kernel_rfl)
theorem enters20 : Enters Try.prog 20 := enters_of Try.func20 (by kernel_rfl) (by kernel_rfl)
theorem enters21 : Enters Try.prog 21 := enters_of Try.func21 (by kernel_rfl) (by kernel_rfl)
theorem enters22 : Enters Try.prog 22 := enters_of Try.func22 (by kernel_rfl) (by kernel_rfl)
theorem enters23 : Enters Try.prog 23 := enters_of Try.func23 (by kernel_rfl) (by kernel_rfl)
theorem enters24 : Enters Try.prog 24 := enters_of Try.func24 (by kernel_rfl) (by kernel_rfl)
theorem enters25 : Enters Try.prog 25 := enters_of Try.func25 (by kernel_rfl) (by kernel_rfl)
theorem enters26 : Enters Try.prog 26 := enters_of Try.func26 (by kernel_rfl) (by kernel_rfl)
theorem enters27 : Enters Try.prog 27 := enters_of Try.func27 (by kernel_rfl) (by kernel_rfl)
theorem enters28 : Enters Try.prog 28 := enters_of Try.func28 (by kernel_rfl) (by kernel_rfl)
theorem enters29 : Enters Try.prog 29 := enters_of Try.func29 (by kernel_rfl) (by kernel_rfl)
theorem enters30 : Enters Try.prog 30 := enters_of Try.func30 (by kernel_rfl) (by kernel_rfl)
theorem enters31 : Enters Try.prog 31 := enters_of Try.func31 (by kernel_rfl) (by kernel_rfl)
theorem enters52 : Enters Try.prog 52 := enters_of Try.func52 (by kernel_rfl) (by kernel_rfl)
theorem enters53 : Enters Try.prog 53 := enters_of Try.func53 (by kernel_rfl) (by kernel_rfl)
theorem enters54 : Enters Try.prog 54 := enters_of Try.func54 (by kernel_rfl) (by kernel_rfl)
theorem enters55 : Enters Try.prog 55 := enters_of Try.func55 (by kernel_rfl) (by kernel_rfl)
theorem enters56 : Enters Try.prog 56 := enters_of Try.func56 (by kernel_rfl) (by kernel_rfl)
theorem enters57 : Enters Try.prog 57 := enters_of Try.func57 (by kernel_rfl) (by kernel_rfl)
theorem enters69 : Enters Try.prog 69 := enters_of Try.func69 (by kernel_rfl) (by kernel_rfl)
theorem enters70 : Enters Try.prog 70 := enters_of Try.func70 (by kernel_rfl) (by kernel_rfl)
theorem enters72 : Enters Try.prog 72 := enters_of Try.func72 (by kernel_rfl) (by kernel_rfl)
end Go.Proofs.Ytmkjnefongjniaa
