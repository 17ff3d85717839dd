/- The statement NetKeepsCardSaid: the law answers true for every input, and leaves what was there as it was. Conditions: none. -/
import Derived.Test.YticgocmhmffneaaGreatDoorRows
import Derived.Test.YticgocmhmffneaaGreatDoorCards
import Derived.Test.YticgocmhmffneaaGreatDoorTie
import Derived.SevenTiedAt
import Derived.Test.YticgocmhmffneaaGreatDoorEngL
namespace Go.Proofs.YticgocmhmffneaaGreatDoor.netKeeps
open Go.Eng Go.ChangeShapes Go.WideShapes Go.ChangeAt Go.RowKit
set_option linter.unusedVariables false

theorem k12 : (Rows.netKeepsRow.recurses == Tryz.pinned.checked.prog.recurses 10) = true := by kernel_rfl
theorem k13 : (Rows.netKeepsRow.named == Tryz.pinned.checked.prog.varsNamed 10) = true := by kernel_rfl
theorem k14 : (Rows.netKeepsRow.maps == (Tryz.f10.params.toList ++ Rows.netKeepsSpec.plain.varTypes Tryz.pinned.checked.prog).any (Tryz.pinned.checked.prog.mapsRec ·)) = true := by kernel_rfl
theorem k15 : (Rows.netKeepsRow.ifaces == (Tryz.f10.params.toList ++ Rows.netKeepsSpec.plain.varTypes Tryz.pinned.checked.prog).any (Tryz.pinned.checked.prog.ifacesRec ·)) = true := by kernel_rfl
theorem k16 : (Rows.netKeepsRow.mapsOut == Tryz.pinned.checked.prog.mapsAmong Tryz.f10.resultTypes.toList) = true := by kernel_rfl
theorem k17 : (Rows.netKeepsRow.loops == (Tryz.f10.params.toList ++ Rows.netKeepsSpec.plain.varTypes Tryz.pinned.checked.prog).any (Tryz.pinned.checked.prog.loopsFrom ·)) = true := by kernel_rfl
theorem k18 : (Rows.netKeepsRow.wideKeys == (Tryz.f10.params.toList ++ Rows.netKeepsSpec.plain.varTypes Tryz.pinned.checked.prog ++ Tryz.f10.resultTypes.toList).any (Tryz.pinned.checked.prog.wideKeysFrom ·)) = true := by kernel_rfl
theorem k19 : (Rows.netKeepsSpec.vars.all (Tryz.pinned.checked.prog.varReadable ·)) = true := by kernel_rfl
theorem k20 : (Tryz.f10.resultTypes.all (fun t => Tryz.pinned.checked.prog.readableRec t && decide (t < Tryz.pinned.checked.prog.types.size))) = true := by kernel_rfl
theorem k21 : (Rows.netKeepsRow.ifacesOut == Tryz.f10.resultTypes.toList.any (Tryz.pinned.checked.prog.ifacesRec ·)) = true := by kernel_rfl
theorem k22 : (Rows.netKeepsRow.loopsOut == Tryz.f10.resultTypes.toList.any (Tryz.pinned.checked.prog.loopsFrom ·)) = true := by kernel_rfl
theorem k23 : (Rows.netKeepsRow.plainKeys == Tryz.pinned.checked.prog.plainKeys) = true := by kernel_rfl
theorem k24 : (Rows.netKeepsRow.shortTexts.isNone) = true := by kernel_rfl
theorem k25 : (Tryz.pinned.checked.prog.stopsHeard) = true := by kernel_rfl
theorem k26 : (Tryz.pinned.checked.prog.mayEnter) = true := by kernel_rfl
theorem k27 : (Rows.netKeepsRow.lifted == Tryz.pinned.checked.prog.liftsFinal) = true := by kernel_rfl
theorem k28 : (Tryz.pinned.checked.prog.make == some Rows.netKeepsRow.make) = true := by kernel_rfl
theorem k29 : (Rows.netKeepsRow.kinds == (if Rows.netKeepsRow.domain.isEmpty then [] else Tryz.f10.params.toList.map fun t => match Tryz.pinned.checked.prog.underlying t with | some (.int k) => some k | _ => none)) = true := by kernel_rfl
theorem k30 : (Rows.netKeepsRow.pinned == Rows.netKeepsRow.pinnedBy) = true := by kernel_rfl
theorem k31 : (Rows.netKeepsRow.veiled == (Tryz.f10.params.toList ++ Rows.netKeepsSpec.plain.varTypes Tryz.pinned.checked.prog ++ Tryz.f10.resultTypes.toList).any (Tryz.pinned.checked.prog.veiledRec ·)) = true := by kernel_rfl
theorem k32 : (Rows.netKeepsRow.veiledFits Tryz.pinned.checked.prog Tryz.f10.params.toList (Tryz.f10.params.toList ++ Rows.netKeepsSpec.plain.varTypes Tryz.pinned.checked.prog ++ Tryz.f10.resultTypes.toList)) = true := by kernel_rfl
end Go.Proofs.YticgocmhmffneaaGreatDoor.netKeeps
