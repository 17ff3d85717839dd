/- The statement CoreRisesCardSaid: the law answers true for every input, and leaves what was there as it was. Conditions: none. -/
import Derived.Test.YticgocmhmffneaaGreatDoorRows
import Derived.Test.YticgocmhmffneaaGreatDoorCards
import Derived.Test.YticgocmhmffneaaGreatDoorTie
import Derived.SevenTiedAt
import Derived.Test.YticgocmhmffneaaGreatDoorEngL
namespace Go.Proofs.YticgocmhmffneaaGreatDoor.coreRises
open Go.Eng Go.ChangeShapes Go.WideShapes Go.ChangeAt Go.RowKit
set_option linter.unusedVariables false

theorem k12 : (Rows.coreRisesRow.recurses == Tryz.pinned.checked.prog.recurses 3) = true := by kernel_rfl
theorem k13 : (Rows.coreRisesRow.named == Tryz.pinned.checked.prog.varsNamed 3) = true := by kernel_rfl
theorem k14 : (Rows.coreRisesRow.maps == (Tryz.f3.params.toList ++ Rows.coreRisesSpec.plain.varTypes Tryz.pinned.checked.prog).any (Tryz.pinned.checked.prog.mapsRec ·)) = true := by kernel_rfl
theorem k15 : (Rows.coreRisesRow.ifaces == (Tryz.f3.params.toList ++ Rows.coreRisesSpec.plain.varTypes Tryz.pinned.checked.prog).any (Tryz.pinned.checked.prog.ifacesRec ·)) = true := by kernel_rfl
theorem k16 : (Rows.coreRisesRow.mapsOut == Tryz.pinned.checked.prog.mapsAmong Tryz.f3.resultTypes.toList) = true := by kernel_rfl
theorem k17 : (Rows.coreRisesRow.loops == (Tryz.f3.params.toList ++ Rows.coreRisesSpec.plain.varTypes Tryz.pinned.checked.prog).any (Tryz.pinned.checked.prog.loopsFrom ·)) = true := by kernel_rfl
theorem k18 : (Rows.coreRisesRow.wideKeys == (Tryz.f3.params.toList ++ Rows.coreRisesSpec.plain.varTypes Tryz.pinned.checked.prog ++ Tryz.f3.resultTypes.toList).any (Tryz.pinned.checked.prog.wideKeysFrom ·)) = true := by kernel_rfl
theorem k19 : (Rows.coreRisesSpec.vars.all (Tryz.pinned.checked.prog.varReadable ·)) = true := by kernel_rfl
theorem k20 : (Tryz.f3.resultTypes.all (fun t => Tryz.pinned.checked.prog.readableRec t && decide (t < Tryz.pinned.checked.prog.types.size))) = true := by kernel_rfl
theorem k21 : (Rows.coreRisesRow.ifacesOut == Tryz.f3.resultTypes.toList.any (Tryz.pinned.checked.prog.ifacesRec ·)) = true := by kernel_rfl
theorem k22 : (Rows.coreRisesRow.loopsOut == Tryz.f3.resultTypes.toList.any (Tryz.pinned.checked.prog.loopsFrom ·)) = true := by kernel_rfl
theorem k23 : (Rows.coreRisesRow.plainKeys == Tryz.pinned.checked.prog.plainKeys) = true := by kernel_rfl
theorem k24 : (Rows.coreRisesRow.shortTexts.isNone) = true := by kernel_rfl
theorem k25 : (Tryz.pinned.checked.prog.stopsHeard) = true := by kernel_rfl
theorem k26 : (Tryz.pinned.checked.prog.mayEnter) = true := by kernel_rfl
theorem k27 : (Rows.coreRisesRow.lifted == Tryz.pinned.checked.prog.liftsFinal) = true := by kernel_rfl
theorem k28 : (Tryz.pinned.checked.prog.make == some Rows.coreRisesRow.make) = true := by kernel_rfl
theorem k29 : (Rows.coreRisesRow.kinds == (if Rows.coreRisesRow.domain.isEmpty then [] else Tryz.f3.params.toList.map fun t => match Tryz.pinned.checked.prog.underlying t with | some (.int k) => some k | _ => none)) = true := by kernel_rfl
theorem k30 : (Rows.coreRisesRow.pinned == Rows.coreRisesRow.pinnedBy) = true := by kernel_rfl
theorem k31 : (Rows.coreRisesRow.veiled == (Tryz.f3.params.toList ++ Rows.coreRisesSpec.plain.varTypes Tryz.pinned.checked.prog ++ Tryz.f3.resultTypes.toList).any (Tryz.pinned.checked.prog.veiledRec ·)) = true := by kernel_rfl
theorem k32 : (Rows.coreRisesRow.veiledFits Tryz.pinned.checked.prog Tryz.f3.params.toList (Tryz.f3.params.toList ++ Rows.coreRisesSpec.plain.varTypes Tryz.pinned.checked.prog ++ Tryz.f3.resultTypes.toList)) = true := by kernel_rfl
end Go.Proofs.YticgocmhmffneaaGreatDoor.coreRises
