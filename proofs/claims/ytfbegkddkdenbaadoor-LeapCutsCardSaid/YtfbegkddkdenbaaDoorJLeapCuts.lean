/- The statement LeapCutsCardSaid: the law answers true for every input, and leaves what was there as it was. Conditions: none. -/
import Derived.Test.YtfbegkddkdenbaaDoorRows
import Derived.Test.YtfbegkddkdenbaaDoorCards
import Derived.Test.YtfbegkddkdenbaaDoorTie
import Derived.SevenTiedAt
import Derived.Lay
import Derived.MakeChecks
import Derived.Test.YtfbegkddkdenbaaDoorEngL
namespace Go.Proofs.YtfbegkddkdenbaaDoor.leapCuts
open Go.Eng Go.ChangeShapes Go.WideShapes Go.ChangeAt Go.RowKit
set_option linter.unusedVariables false

theorem k12 : (Rows.leapCutsRow.recurses == Tryd.pinned.checked.prog.recurses 5) = true := by kernel_rfl
theorem k13 : (Rows.leapCutsRow.named == Tryd.pinned.checked.prog.varsNamed 5) = true := by kernel_rfl
theorem k14 : (Rows.leapCutsRow.maps == (Tryd.f5.params.toList ++ Rows.leapCutsSpec.plain.varTypes Tryd.pinned.checked.prog).any (Tryd.pinned.checked.prog.mapsRec ·)) = true := by kernel_rfl
theorem k15 : (Rows.leapCutsRow.ifaces == (Tryd.f5.params.toList ++ Rows.leapCutsSpec.plain.varTypes Tryd.pinned.checked.prog).any (Tryd.pinned.checked.prog.ifacesRec ·)) = true := by kernel_rfl
theorem k16 : (Rows.leapCutsRow.mapsOut == Tryd.pinned.checked.prog.mapsAmong Tryd.f5.resultTypes.toList) = true := by kernel_rfl
theorem k17 : (Rows.leapCutsRow.loops == (Tryd.f5.params.toList ++ Rows.leapCutsSpec.plain.varTypes Tryd.pinned.checked.prog).any (Tryd.pinned.checked.prog.loopsFrom ·)) = true := by kernel_rfl
theorem k18 : (Rows.leapCutsRow.wideKeys == (Tryd.f5.params.toList ++ Rows.leapCutsSpec.plain.varTypes Tryd.pinned.checked.prog ++ Tryd.f5.resultTypes.toList).any (Tryd.pinned.checked.prog.wideKeysFrom ·)) = true := by kernel_rfl
theorem k19 : (Rows.leapCutsSpec.vars.all (Tryd.pinned.checked.prog.varReadable ·)) = true := by kernel_rfl
theorem k20 : (Tryd.f5.resultTypes.all (fun t => Tryd.pinned.checked.prog.readableRec t && decide (t < Tryd.pinned.checked.prog.types.size))) = true := by kernel_rfl
theorem k21 : (Rows.leapCutsRow.ifacesOut == Tryd.f5.resultTypes.toList.any (Tryd.pinned.checked.prog.ifacesRec ·)) = true := by kernel_rfl
theorem k22 : (Rows.leapCutsRow.loopsOut == Tryd.f5.resultTypes.toList.any (Tryd.pinned.checked.prog.loopsFrom ·)) = true := by kernel_rfl
theorem k23 : (Rows.leapCutsRow.plainKeys == Tryd.pinned.checked.prog.plainKeys) = true := by kernel_rfl
theorem k24 : (Rows.leapCutsRow.shortTexts.isNone) = true := by kernel_rfl
theorem k25 : (Tryd.pinned.checked.prog.stopsHeard) = true := by kernel_rfl
theorem k26 : (Tryd.pinned.checked.prog.mayEnter) = true := by kernel_rfl
theorem k27 : (Rows.leapCutsRow.lifted == Tryd.pinned.checked.prog.liftsFinal) = true := by kernel_rfl
theorem k28 : (Tryd.pinned.checked.prog.make == some Rows.leapCutsRow.make) = true := by kernel_rfl
theorem k29 : (Rows.leapCutsRow.kinds == (if Rows.leapCutsRow.domain.isEmpty then [] else Tryd.f5.params.toList.map fun t => match Tryd.pinned.checked.prog.underlying t with | some (.int k) => some k | _ => none)) = true := by kernel_rfl
theorem k30 : (Rows.leapCutsRow.pinned == Rows.leapCutsRow.pinnedBy) = true := by kernel_rfl
theorem k31 : (Rows.leapCutsRow.veiled == (Tryd.f5.params.toList ++ Rows.leapCutsSpec.plain.varTypes Tryd.pinned.checked.prog ++ Tryd.f5.resultTypes.toList).any (Tryd.pinned.checked.prog.veiledRec ·)) = true := by kernel_rfl
theorem k32 : (Rows.leapCutsRow.veiledFits Tryd.pinned.checked.prog Tryd.f5.params.toList (Tryd.f5.params.toList ++ Rows.leapCutsSpec.plain.varTypes Tryd.pinned.checked.prog ++ Tryd.f5.resultTypes.toList)) = true := by kernel_rfl
end Go.Proofs.YtfbegkddkdenbaaDoor.leapCuts
