/- The statement LeapMakesCardSaid: the law answers true for every input, and leaves what was there as it was. Conditions: none. -/
import Derived.Test.YtfbegkddkdenbaaGreatDoorRows
import Derived.Test.YtfbegkddkdenbaaGreatDoorCards
import Derived.Test.YtfbegkddkdenbaaGreatDoorTie
import Derived.SevenTiedAt
import Derived.Lay
import Derived.MakeChecks
import Derived.Test.YtfbegkddkdenbaaGreatDoorEngL
namespace Go.Proofs.YtfbegkddkdenbaaGreatDoor.leapMakes
open Go.Eng Go.ChangeShapes Go.WideShapes Go.ChangeAt Go.RowKit
set_option linter.unusedVariables false

theorem cw : Rows.leapMakesRow.wfByText (OpenSpec.ofChange Rows.leapMakesSpec) = true := by kernel_rfl
theorem cm : Tryz.pinned.checked.prog.mainIs = some (true, "124b784c50fdf732b03b80007096f2d1c30c200810585d6b4c704119aa126a07".toList) := by kernel_rfl
theorem cf : Tryz.prog.funcNamed "angelus/angeluslaw21.LeapMakes" = some 3 := by kernel_rfl
theorem cl : true = Tryz.pinned.checked.prog.looks [] := by kernel_rfl
theorem cs : ([24, 3].all fun u => !Tryz.prog.wantsStandIn u) = true := by kernel_rfl
theorem cg : false = Rows.leapMakesRow.goesBy Tryz.pinned.checked.prog := by kernel_rfl
end Go.Proofs.YtfbegkddkdenbaaGreatDoor.leapMakes
