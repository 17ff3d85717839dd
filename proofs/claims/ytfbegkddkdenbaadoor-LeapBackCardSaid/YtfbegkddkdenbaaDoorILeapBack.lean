/- The statement LeapBackCardSaid: the law answers true for every input, and leaves what was there as it was. Conditions: none. -/
import Derived.Test.YtfbegkddkdenbaaDoorRows
import Derived.Test.YtfbegkddkdenbaaDoorCards
import Derived.Test.YtfbegkddkdenbaaDoorTie
import Derived.SevenTiedAt
import Derived.Lay
import Derived.MakeChecks
import Derived.Test.YtfbegkddkdenbaaDoorEngL
namespace Go.Proofs.YtfbegkddkdenbaaDoor.leapBack
open Go.Eng Go.ChangeShapes Go.WideShapes Go.ChangeAt Go.RowKit
set_option linter.unusedVariables false

theorem cw : Rows.leapBackRow.wfByText (OpenSpec.ofChange Rows.leapBackSpec) = true := by kernel_rfl
theorem cm : Tryd.pinned.checked.prog.mainIs = some (true, "a68ef177736f69e96d83f4001fb0c804d6d41f560617b7f3ab5ddd2c91cd97f2".toList) := by kernel_rfl
theorem cf : Tryd.prog.funcNamed "angelus/angeluslaw21.LeapBack" = some 6 := by kernel_rfl
theorem cl : true = Tryd.pinned.checked.prog.looks [] := by kernel_rfl
theorem cs : ([24, 3].all fun u => !Tryd.prog.wantsStandIn u) = true := by kernel_rfl
theorem cg : false = Rows.leapBackRow.goesBy Tryd.pinned.checked.prog := by kernel_rfl
end Go.Proofs.YtfbegkddkdenbaaDoor.leapBack
