/- The statement CoreLeapsCardSaid: the law answers true for every input, and leaves what was there as it was. Conditions: none. -/
import Derived.Test.YtppeepkmnijdpaaGreatDoorRows
import Derived.Test.YtppeepkmnijdpaaGreatDoorCards
import Derived.Test.YtppeepkmnijdpaaGreatDoorTie
import Derived.SevenTiedAt
import Derived.LaidSub
import Derived.Lay
import Derived.MakeChecks
import Derived.Test.YtppeepkmnijdpaaGreatDoorEngL
namespace Go.Proofs.YtppeepkmnijdpaaGreatDoor.coreLeaps
open Go.Eng Go.ChangeShapes Go.WideShapes Go.ChangeAt Go.RowKit
set_option linter.unusedVariables false

theorem k1 : (Rows.coreLeapsRow.wf (OpenSpec.ofChange Rows.coreLeapsSpec)) = true := by kernel_rfl
theorem k2 : (laidOutB Tryz.pinned.checked.prog) = true := by kernel_rfl
theorem k3 : (mapsRowed Tryz.pinned.checked.prog) = true := by kernel_rfl
theorem k4 : (Tryz.f3.params.all (Tryz.pinned.checked.prog.readableRec ·)) = true := by kernel_rfl
theorem k5 : (namedTie Tryz.pinned.checked.prog Rows.coreLeapsRow.named Rows.coreLeapsSpec.vars) = true := by kernel_rfl
theorem k6 : (Rows.coreLeapsRow.stops == []) = true := by kernel_rfl
theorem k7 : (Tryz.pinned.checked.prog.stops == []) = true := by kernel_rfl
theorem k8 : (Rows.coreLeapsRow.knobs == []) = true := by kernel_rfl
theorem k9 : (Tryz.pinned.checked.prog.stopKnobs == []) = true := by kernel_rfl
theorem k10 : (Rows.coreLeapsRow.inPlace == Tryz.pinned.checked.prog.inPlace 3) = true := by kernel_rfl
theorem k11 : (Rows.coreLeapsRow.unfollowed == Tryz.pinned.checked.prog.unfollowed 3) = true := by kernel_rfl
end Go.Proofs.YtppeepkmnijdpaaGreatDoor.coreLeaps
