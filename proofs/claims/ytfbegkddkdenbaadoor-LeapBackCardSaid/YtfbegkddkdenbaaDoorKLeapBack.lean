/- The statement LeapBackCardSaid: the law answers true for every input, and leaves what was there as it was. Conditions: none. -/
import Derived.Test.YtfbegkddkdenbaaDoorRows
import Derived.Test.YtfbegkddkdenbaaDoorCards
import Derived.Test.YtfbegkddkdenbaaDoorTie
import Derived.SevenTiedAt
import Derived.Lay
import Derived.MakeChecks
import Derived.Test.YtfbegkddkdenbaaDoorEngL
namespace Go.Proofs.YtfbegkddkdenbaaDoor.leapBack
open Go.Eng Go.ChangeShapes Go.WideShapes Go.ChangeAt Go.RowKit
set_option linter.unusedVariables false

theorem k1 : (Rows.leapBackRow.wf (OpenSpec.ofChange Rows.leapBackSpec)) = true := by kernel_rfl
theorem k2 : (laidOutB Tryd.pinned.checked.prog) = true := by kernel_rfl
theorem k3 : (mapsRowed Tryd.pinned.checked.prog) = true := by kernel_rfl
theorem k4 : (Tryd.f6.params.all (Tryd.pinned.checked.prog.readableRec ·)) = true := by kernel_rfl
theorem k5 : (namedTie Tryd.pinned.checked.prog Rows.leapBackRow.named Rows.leapBackSpec.vars) = true := by kernel_rfl
theorem k6 : (Rows.leapBackRow.stops == []) = true := by kernel_rfl
theorem k7 : (Tryd.pinned.checked.prog.stops == []) = true := by kernel_rfl
theorem k8 : (Rows.leapBackRow.knobs == []) = true := by kernel_rfl
theorem k9 : (Tryd.pinned.checked.prog.stopKnobs == []) = true := by kernel_rfl
theorem k10 : (Rows.leapBackRow.inPlace == Tryd.pinned.checked.prog.inPlace 6) = true := by kernel_rfl
theorem k11 : (Rows.leapBackRow.unfollowed == Tryd.pinned.checked.prog.unfollowed 6) = true := by kernel_rfl
end Go.Proofs.YtfbegkddkdenbaaDoor.leapBack
