/- The statement NetHeardCardSaid: the law answers true for every input, and leaves what was there as it was. Conditions: none. -/
import Derived.Test.YticgocmhmffneaaGreatDoorRows
import Derived.Test.YticgocmhmffneaaGreatDoorCards
import Derived.Test.YticgocmhmffneaaGreatDoorTie
import Derived.SevenTiedAt
import Derived.Test.YticgocmhmffneaaGreatDoorEngL
namespace Go.Proofs.YticgocmhmffneaaGreatDoor.netHeard
open Go.Eng Go.ChangeShapes Go.WideShapes Go.ChangeAt Go.RowKit
set_option linter.unusedVariables false

theorem k12 : (Rows.netHeardRow.recurses == Tryz.pinned.checked.prog.recurses 9) = true := by kernel_rfl
theorem k13 : (Rows.netHeardRow.named == Tryz.pinned.checked.prog.varsNamed 9) = true := by kernel_rfl
theorem k14 : (Rows.netHeardRow.maps == (Tryz.f9.params.toList ++ Rows.netHeardSpec.plain.varTypes Tryz.pinned.checked.prog).any (Tryz.pinned.checked.prog.mapsRec ·)) = true := by kernel_rfl
theorem k15 : (Rows.netHeardRow.ifaces == (Tryz.f9.params.toList ++ Rows.netHeardSpec.plain.varTypes Tryz.pinned.checked.prog).any (Tryz.pinned.checked.prog.ifacesRec ·)) = true := by kernel_rfl
theorem k16 : (Rows.netHeardRow.mapsOut == Tryz.pinned.checked.prog.mapsAmong Tryz.f9.resultTypes.toList) = true := by kernel_rfl
theorem k17 : (Rows.netHeardRow.loops == (Tryz.f9.params.toList ++ Rows.netHeardSpec.plain.varTypes Tryz.pinned.checked.prog).any (Tryz.pinned.checked.prog.loopsFrom ·)) = true := by kernel_rfl
theorem k18 : (Rows.netHeardRow.wideKeys == (Tryz.f9.params.toList ++ Rows.netHeardSpec.plain.varTypes Tryz.pinned.checked.prog ++ Tryz.f9.resultTypes.toList).any (Tryz.pinned.checked.prog.wideKeysFrom ·)) = true := by kernel_rfl
theorem k19 : (Rows.netHeardSpec.vars.all (Tryz.pinned.checked.prog.varReadable ·)) = true := by kernel_rfl
theorem k20 : (Tryz.f9.resultTypes.all (fun t => Tryz.pinned.checked.prog.readableRec t && decide (t < Tryz.pinned.checked.prog.types.size))) = true := by kernel_rfl
theorem k21 : (Rows.netHeardRow.ifacesOut == Tryz.f9.resultTypes.toList.any (Tryz.pinned.checked.prog.ifacesRec ·)) = true := by kernel_rfl
theorem k22 : (Rows.netHeardRow.loopsOut == Tryz.f9.resultTypes.toList.any (Tryz.pinned.checked.prog.loopsFrom ·)) = true := by kernel_rfl
theorem k23 : (Rows.netHeardRow.plainKeys == Tryz.pinned.checked.prog.plainKeys) = true := by kernel_rfl
theorem k24 : (Rows.netHeardRow.shortTexts.isNone) = true := by kernel_rfl
theorem k25 : (Tryz.pinned.checked.prog.stopsHeard) = true := by kernel_rfl
theorem k26 : (Tryz.pinned.checked.prog.mayEnter) = true := by kernel_rfl
theorem k27 : (Rows.netHeardRow.lifted == Tryz.pinned.checked.prog.liftsFinal) = true := by kernel_rfl
theorem k28 : (Tryz.pinned.checked.prog.make == some Rows.netHeardRow.make) = true := by kernel_rfl
theorem k29 : (Rows.netHeardRow.kinds == (if Rows.netHeardRow.domain.isEmpty then [] else Tryz.f9.params.toList.map fun t => match Tryz.pinned.checked.prog.underlying t with | some (.int k) => some k | _ => none)) = true := by kernel_rfl
theorem k30 : (Rows.netHeardRow.pinned == Rows.netHeardRow.pinnedBy) = true := by kernel_rfl
theorem k31 : (Rows.netHeardRow.veiled == (Tryz.f9.params.toList ++ Rows.netHeardSpec.plain.varTypes Tryz.pinned.checked.prog ++ Tryz.f9.resultTypes.toList).any (Tryz.pinned.checked.prog.veiledRec ·)) = true := by kernel_rfl
theorem k32 : (Rows.netHeardRow.veiledFits Tryz.pinned.checked.prog Tryz.f9.params.toList (Tryz.f9.params.toList ++ Rows.netHeardSpec.plain.varTypes Tryz.pinned.checked.prog ++ Tryz.f9.resultTypes.toList)) = true := by kernel_rfl
end Go.Proofs.YticgocmhmffneaaGreatDoor.netHeard
