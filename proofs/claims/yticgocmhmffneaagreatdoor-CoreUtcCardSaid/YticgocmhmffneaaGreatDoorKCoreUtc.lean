/- The statement CoreUtcCardSaid: the law answers true for every input, and leaves what was there as it was. Conditions: none. -/
import Derived.Test.YticgocmhmffneaaGreatDoorRows
import Derived.Test.YticgocmhmffneaaGreatDoorCards
import Derived.Test.YticgocmhmffneaaGreatDoorTie
import Derived.SevenTiedAt
import Derived.Test.YticgocmhmffneaaGreatDoorEngL
namespace Go.Proofs.YticgocmhmffneaaGreatDoor.coreUtc
open Go.Eng Go.ChangeShapes Go.WideShapes Go.ChangeAt Go.RowKit
set_option linter.unusedVariables false

theorem k1 : (Rows.coreUtcRow.wf (OpenSpec.ofChange Rows.coreUtcSpec)) = true := by kernel_rfl
theorem k2 : (laidOutB Tryz.pinned.checked.prog) = true := by kernel_rfl
theorem k3 : (mapsRowed Tryz.pinned.checked.prog) = true := by kernel_rfl
theorem k4 : (Tryz.f13.params.all (Tryz.pinned.checked.prog.readableRec ·)) = true := by kernel_rfl
theorem k5 : (namedTie Tryz.pinned.checked.prog Rows.coreUtcRow.named Rows.coreUtcSpec.vars) = true := by kernel_rfl
theorem k6 : (Rows.coreUtcRow.stops == []) = true := by kernel_rfl
theorem k7 : (Tryz.pinned.checked.prog.stops == []) = true := by kernel_rfl
theorem k8 : (Rows.coreUtcRow.knobs == []) = true := by kernel_rfl
theorem k9 : (Tryz.pinned.checked.prog.stopKnobs == []) = true := by kernel_rfl
theorem k10 : (Rows.coreUtcRow.inPlace == Tryz.pinned.checked.prog.inPlace 13) = true := by kernel_rfl
theorem k11 : (Rows.coreUtcRow.unfollowed == Tryz.pinned.checked.prog.unfollowed 13) = true := by kernel_rfl
end Go.Proofs.YticgocmhmffneaaGreatDoor.coreUtc
