/- The statement CoreLeapsCardSaid: the law answers true for every input, and leaves what was there as it was. Conditions: none. -/
import Derived.Test.YtppeepkmnijdpaaGreatDoorRows
import Derived.Test.YtppeepkmnijdpaaGreatDoorCards
import Derived.Test.YtppeepkmnijdpaaGreatDoorTie
import Derived.SevenTiedAt
import Derived.LaidSub
import Derived.Lay
import Derived.MakeChecks
import Derived.Test.YtppeepkmnijdpaaGreatDoorEngL
namespace Go.Proofs.YtppeepkmnijdpaaGreatDoor.coreLeaps
open Go.Eng Go.ChangeShapes Go.WideShapes Go.ChangeAt Go.RowKit
set_option linter.unusedVariables false

theorem cw : Rows.coreLeapsRow.wfByText (OpenSpec.ofChange Rows.coreLeapsSpec) = true := by kernel_rfl
theorem cm : Tryz.pinned.checked.prog.mainIs = some (true, "03133262e2074ed831112a4d9beade972f400db329989f62699cd12a793ef6f6".toList) := by kernel_rfl
theorem cf : Tryz.prog.funcNamed "angelus/angelustop.CoreLeaps" = some 3 := by kernel_rfl
theorem cl : true = Tryz.pinned.checked.prog.looks [] := by kernel_rfl
theorem cs : ([9, 3].all fun u => !Tryz.prog.wantsStandIn u) = true := by kernel_rfl
theorem cg : false = Rows.coreLeapsRow.goesBy Tryz.pinned.checked.prog := by kernel_rfl
end Go.Proofs.YtppeepkmnijdpaaGreatDoor.coreLeaps
