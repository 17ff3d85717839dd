/- The statement CoreUtcCardSaid: the law answers true for every input, and leaves what was there as it was. Conditions: none. -/
import Derived.Test.YticgocmhmffneaaGreatDoorRows
import Derived.Test.YticgocmhmffneaaGreatDoorCards
import Derived.Test.YticgocmhmffneaaGreatDoorTie
import Derived.SevenTiedAt
import Derived.Test.YticgocmhmffneaaGreatDoorEngL
namespace Go.Proofs.YticgocmhmffneaaGreatDoor.coreUtc
open Go.Eng Go.ChangeShapes Go.WideShapes Go.ChangeAt Go.RowKit
set_option linter.unusedVariables false

theorem cw : Rows.coreUtcRow.wfByText (OpenSpec.ofChange Rows.coreUtcSpec) = true := by kernel_rfl
theorem cm : Tryz.pinned.checked.prog.mainIs = some (true, "e76bbcf0e0abc421b0f9b582a4c3210a395a7d39ff817130e5f2bdcff26bd25b".toList) := by kernel_rfl
theorem cf : Tryz.prog.funcNamed "angelus/angelustop.CoreUtc" = some 13 := by kernel_rfl
theorem cl : true = Tryz.pinned.checked.prog.looks [] := by kernel_rfl
theorem cs : ([24, 126, 25].all fun u => !Tryz.prog.wantsStandIn u) = true := by kernel_rfl
theorem cg : false = Rows.coreUtcRow.goesBy Tryz.pinned.checked.prog := by kernel_rfl
end Go.Proofs.YticgocmhmffneaaGreatDoor.coreUtc
