/- The statement LeapBackCardSaid: the law answers true for every input, and leaves what was there as it was. Conditions: none. -/
import Derived.Test.YtfbegkddkdenbaaDoorRows
import Derived.Test.YtfbegkddkdenbaaDoorCards
import Derived.Test.YtfbegkddkdenbaaDoorTie
import Derived.SevenTiedAt
import Derived.Lay
import Derived.MakeChecks
import Derived.Test.YtfbegkddkdenbaaDoorEngL
namespace Go.Proofs.YtfbegkddkdenbaaDoor.leapBack
open Go.Eng Go.ChangeShapes Go.WideShapes Go.ChangeAt Go.RowKit
set_option linter.unusedVariables false

theorem k12 : (Rows.leapBackRow.recurses == Tryd.pinned.checked.prog.recurses 6) = true := by kernel_rfl
theorem k13 : (Rows.leapBackRow.named == Tryd.pinned.checked.prog.varsNamed 6) = true := by kernel_rfl
theorem k14 : (Rows.leapBackRow.maps == (Tryd.f6.params.toList ++ Rows.leapBackSpec.plain.varTypes Tryd.pinned.checked.prog).any (Tryd.pinned.checked.prog.mapsRec ·)) = true := by kernel_rfl
theorem k15 : (Rows.leapBackRow.ifaces == (Tryd.f6.params.toList ++ Rows.leapBackSpec.plain.varTypes Tryd.pinned.checked.prog).any (Tryd.pinned.checked.prog.ifacesRec ·)) = true := by kernel_rfl
theorem k16 : (Rows.leapBackRow.mapsOut == Tryd.pinned.checked.prog.mapsAmong Tryd.f6.resultTypes.toList) = true := by kernel_rfl
theorem k17 : (Rows.leapBackRow.loops == (Tryd.f6.params.toList ++ Rows.leapBackSpec.plain.varTypes Tryd.pinned.checked.prog).any (Tryd.pinned.checked.prog.loopsFrom ·)) = true := by kernel_rfl
theorem k18 : (Rows.leapBackRow.wideKeys == (Tryd.f6.params.toList ++ Rows.leapBackSpec.plain.varTypes Tryd.pinned.checked.prog ++ Tryd.f6.resultTypes.toList).any (Tryd.pinned.checked.prog.wideKeysFrom ·)) = true := by kernel_rfl
theorem k19 : (Rows.leapBackSpec.vars.all (Tryd.pinned.checked.prog.varReadable ·)) = true := by kernel_rfl
theorem k20 : (Tryd.f6.resultTypes.all (fun t => Tryd.pinned.checked.prog.readableRec t && decide (t < Tryd.pinned.checked.prog.types.size))) = true := by kernel_rfl
theorem k21 : (Rows.leapBackRow.ifacesOut == Tryd.f6.resultTypes.toList.any (Tryd.pinned.checked.prog.ifacesRec ·)) = true := by kernel_rfl
theorem k22 : (Rows.leapBackRow.loopsOut == Tryd.f6.resultTypes.toList.any (Tryd.pinned.checked.prog.loopsFrom ·)) = true := by kernel_rfl
theorem k23 : (Rows.leapBackRow.plainKeys == Tryd.pinned.checked.prog.plainKeys) = true := by kernel_rfl
theorem k24 : (Rows.leapBackRow.shortTexts.isNone) = true := by kernel_rfl
theorem k25 : (Tryd.pinned.checked.prog.stopsHeard) = true := by kernel_rfl
theorem k26 : (Tryd.pinned.checked.prog.mayEnter) = true := by kernel_rfl
theorem k27 : (Rows.leapBackRow.lifted == Tryd.pinned.checked.prog.liftsFinal) = true := by kernel_rfl
theorem k28 : (Tryd.pinned.checked.prog.make == some Rows.leapBackRow.make) = true := by kernel_rfl
theorem k29 : (Rows.leapBackRow.kinds == (if Rows.leapBackRow.domain.isEmpty then [] else Tryd.f6.params.toList.map fun t => match Tryd.pinned.checked.prog.underlying t with | some (.int k) => some k | _ => none)) = true := by kernel_rfl
theorem k30 : (Rows.leapBackRow.pinned == Rows.leapBackRow.pinnedBy) = true := by kernel_rfl
theorem k31 : (Rows.leapBackRow.veiled == (Tryd.f6.params.toList ++ Rows.leapBackSpec.plain.varTypes Tryd.pinned.checked.prog ++ Tryd.f6.resultTypes.toList).any (Tryd.pinned.checked.prog.veiledRec ·)) = true := by kernel_rfl
theorem k32 : (Rows.leapBackRow.veiledFits Tryd.pinned.checked.prog Tryd.f6.params.toList (Tryd.f6.params.toList ++ Rows.leapBackSpec.plain.varTypes Tryd.pinned.checked.prog ++ Tryd.f6.resultTypes.toList)) = true := by kernel_rfl
end Go.Proofs.YtfbegkddkdenbaaDoor.leapBack
