/- The statement LeapStepsCardSaid: the law answers true for every input, and leaves what was there as it was. Conditions: none. -/
import Derived.Test.YtfbegkddkdenbaaDoorRows
import Derived.Test.YtfbegkddkdenbaaDoorCards
import Derived.Test.YtfbegkddkdenbaaDoorTie
import Derived.SevenTiedAt
import Derived.Lay
import Derived.MakeChecks
import Derived.Test.YtfbegkddkdenbaaDoorEngL
namespace Go.Proofs.YtfbegkddkdenbaaDoor.leapSteps
open Go.Eng Go.ChangeShapes Go.WideShapes Go.ChangeAt Go.RowKit
set_option linter.unusedVariables false

theorem k12 : (Rows.leapStepsRow.recurses == Tryd.pinned.checked.prog.recurses 3) = true := by kernel_rfl
theorem k13 : (Rows.leapStepsRow.named == Tryd.pinned.checked.prog.varsNamed 3) = true := by kernel_rfl
theorem k14 : (Rows.leapStepsRow.maps == (Tryd.f3.params.toList ++ Rows.leapStepsSpec.plain.varTypes Tryd.pinned.checked.prog).any (Tryd.pinned.checked.prog.mapsRec ·)) = true := by kernel_rfl
theorem k15 : (Rows.leapStepsRow.ifaces == (Tryd.f3.params.toList ++ Rows.leapStepsSpec.plain.varTypes Tryd.pinned.checked.prog).any (Tryd.pinned.checked.prog.ifacesRec ·)) = true := by kernel_rfl
theorem k16 : (Rows.leapStepsRow.mapsOut == Tryd.pinned.checked.prog.mapsAmong Tryd.f3.resultTypes.toList) = true := by kernel_rfl
theorem k17 : (Rows.leapStepsRow.loops == (Tryd.f3.params.toList ++ Rows.leapStepsSpec.plain.varTypes Tryd.pinned.checked.prog).any (Tryd.pinned.checked.prog.loopsFrom ·)) = true := by kernel_rfl
theorem k18 : (Rows.leapStepsRow.wideKeys == (Tryd.f3.params.toList ++ Rows.leapStepsSpec.plain.varTypes Tryd.pinned.checked.prog ++ Tryd.f3.resultTypes.toList).any (Tryd.pinned.checked.prog.wideKeysFrom ·)) = true := by kernel_rfl
theorem k19 : (Rows.leapStepsSpec.vars.all (Tryd.pinned.checked.prog.varReadable ·)) = true := by kernel_rfl
theorem k20 : (Tryd.f3.resultTypes.all (fun t => Tryd.pinned.checked.prog.readableRec t && decide (t < Tryd.pinned.checked.prog.types.size))) = true := by kernel_rfl
theorem k21 : (Rows.leapStepsRow.ifacesOut == Tryd.f3.resultTypes.toList.any (Tryd.pinned.checked.prog.ifacesRec ·)) = true := by kernel_rfl
theorem k22 : (Rows.leapStepsRow.loopsOut == Tryd.f3.resultTypes.toList.any (Tryd.pinned.checked.prog.loopsFrom ·)) = true := by kernel_rfl
theorem k23 : (Rows.leapStepsRow.plainKeys == Tryd.pinned.checked.prog.plainKeys) = true := by kernel_rfl
theorem k24 : (Rows.leapStepsRow.shortTexts.isNone) = true := by kernel_rfl
theorem k25 : (Tryd.pinned.checked.prog.stopsHeard) = true := by kernel_rfl
theorem k26 : (Tryd.pinned.checked.prog.mayEnter) = true := by kernel_rfl
theorem k27 : (Rows.leapStepsRow.lifted == Tryd.pinned.checked.prog.liftsFinal) = true := by kernel_rfl
theorem k28 : (Tryd.pinned.checked.prog.make == some Rows.leapStepsRow.make) = true := by kernel_rfl
theorem k29 : (Rows.leapStepsRow.kinds == (if Rows.leapStepsRow.domain.isEmpty then [] else Tryd.f3.params.toList.map fun t => match Tryd.pinned.checked.prog.underlying t with | some (.int k) => some k | _ => none)) = true := by kernel_rfl
theorem k30 : (Rows.leapStepsRow.pinned == Rows.leapStepsRow.pinnedBy) = true := by kernel_rfl
theorem k31 : (Rows.leapStepsRow.veiled == (Tryd.f3.params.toList ++ Rows.leapStepsSpec.plain.varTypes Tryd.pinned.checked.prog ++ Tryd.f3.resultTypes.toList).any (Tryd.pinned.checked.prog.veiledRec ·)) = true := by kernel_rfl
theorem k32 : (Rows.leapStepsRow.veiledFits Tryd.pinned.checked.prog Tryd.f3.params.toList (Tryd.f3.params.toList ++ Rows.leapStepsSpec.plain.varTypes Tryd.pinned.checked.prog ++ Tryd.f3.resultTypes.toList)) = true := by kernel_rfl
end Go.Proofs.YtfbegkddkdenbaaDoor.leapSteps
