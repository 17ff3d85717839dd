/- The statement LeapReadsCardSaid: the law answers true for every input, and leaves what was there as it was. Conditions: none. -/
import Derived.Test.YtfbegkddkdenbaaDoorRows
import Derived.Test.YtfbegkddkdenbaaDoorCards
import Derived.Test.YtfbegkddkdenbaaDoorTie
import Derived.SevenTiedAt
import Derived.Lay
import Derived.MakeChecks
import Derived.Test.YtfbegkddkdenbaaDoorEngL
namespace Go.Proofs.YtfbegkddkdenbaaDoor.leapReads
open Go.Eng Go.ChangeShapes Go.WideShapes Go.ChangeAt Go.RowKit
set_option linter.unusedVariables false

theorem k12 : (Rows.leapReadsRow.recurses == Tryd.pinned.checked.prog.recurses 4) = true := by kernel_rfl
theorem k13 : (Rows.leapReadsRow.named == Tryd.pinned.checked.prog.varsNamed 4) = true := by kernel_rfl
theorem k14 : (Rows.leapReadsRow.maps == (Tryd.f4.params.toList ++ Rows.leapReadsSpec.plain.varTypes Tryd.pinned.checked.prog).any (Tryd.pinned.checked.prog.mapsRec ·)) = true := by kernel_rfl
theorem k15 : (Rows.leapReadsRow.ifaces == (Tryd.f4.params.toList ++ Rows.leapReadsSpec.plain.varTypes Tryd.pinned.checked.prog).any (Tryd.pinned.checked.prog.ifacesRec ·)) = true := by kernel_rfl
theorem k16 : (Rows.leapReadsRow.mapsOut == Tryd.pinned.checked.prog.mapsAmong Tryd.f4.resultTypes.toList) = true := by kernel_rfl
theorem k17 : (Rows.leapReadsRow.loops == (Tryd.f4.params.toList ++ Rows.leapReadsSpec.plain.varTypes Tryd.pinned.checked.prog).any (Tryd.pinned.checked.prog.loopsFrom ·)) = true := by kernel_rfl
theorem k18 : (Rows.leapReadsRow.wideKeys == (Tryd.f4.params.toList ++ Rows.leapReadsSpec.plain.varTypes Tryd.pinned.checked.prog ++ Tryd.f4.resultTypes.toList).any (Tryd.pinned.checked.prog.wideKeysFrom ·)) = true := by kernel_rfl
theorem k19 : (Rows.leapReadsSpec.vars.all (Tryd.pinned.checked.prog.varReadable ·)) = true := by kernel_rfl
theorem k20 : (Tryd.f4.resultTypes.all (fun t => Tryd.pinned.checked.prog.readableRec t && decide (t < Tryd.pinned.checked.prog.types.size))) = true := by kernel_rfl
theorem k21 : (Rows.leapReadsRow.ifacesOut == Tryd.f4.resultTypes.toList.any (Tryd.pinned.checked.prog.ifacesRec ·)) = true := by kernel_rfl
theorem k22 : (Rows.leapReadsRow.loopsOut == Tryd.f4.resultTypes.toList.any (Tryd.pinned.checked.prog.loopsFrom ·)) = true := by kernel_rfl
theorem k23 : (Rows.leapReadsRow.plainKeys == Tryd.pinned.checked.prog.plainKeys) = true := by kernel_rfl
theorem k24 : (Rows.leapReadsRow.shortTexts.isNone) = true := by kernel_rfl
theorem k25 : (Tryd.pinned.checked.prog.stopsHeard) = true := by kernel_rfl
theorem k26 : (Tryd.pinned.checked.prog.mayEnter) = true := by kernel_rfl
theorem k27 : (Rows.leapReadsRow.lifted == Tryd.pinned.checked.prog.liftsFinal) = true := by kernel_rfl
theorem k28 : (Tryd.pinned.checked.prog.make == some Rows.leapReadsRow.make) = true := by kernel_rfl
theorem k29 : (Rows.leapReadsRow.kinds == (if Rows.leapReadsRow.domain.isEmpty then [] else Tryd.f4.params.toList.map fun t => match Tryd.pinned.checked.prog.underlying t with | some (.int k) => some k | _ => none)) = true := by kernel_rfl
theorem k30 : (Rows.leapReadsRow.pinned == Rows.leapReadsRow.pinnedBy) = true := by kernel_rfl
theorem k31 : (Rows.leapReadsRow.veiled == (Tryd.f4.params.toList ++ Rows.leapReadsSpec.plain.varTypes Tryd.pinned.checked.prog ++ Tryd.f4.resultTypes.toList).any (Tryd.pinned.checked.prog.veiledRec ·)) = true := by kernel_rfl
theorem k32 : (Rows.leapReadsRow.veiledFits Tryd.pinned.checked.prog Tryd.f4.params.toList (Tryd.f4.params.toList ++ Rows.leapReadsSpec.plain.varTypes Tryd.pinned.checked.prog ++ Tryd.f4.resultTypes.toList)) = true := by kernel_rfl
end Go.Proofs.YtfbegkddkdenbaaDoor.leapReads
