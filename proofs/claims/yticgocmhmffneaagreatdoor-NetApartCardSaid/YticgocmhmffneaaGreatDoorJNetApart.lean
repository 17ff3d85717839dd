/- The statement NetApartCardSaid: the law answers true for every input, and leaves what was there as it was. Conditions: none. -/
import Derived.Test.YticgocmhmffneaaGreatDoorRows
import Derived.Test.YticgocmhmffneaaGreatDoorCards
import Derived.Test.YticgocmhmffneaaGreatDoorTie
import Derived.SevenTiedAt
import Derived.Test.YticgocmhmffneaaGreatDoorEngL
namespace Go.Proofs.YticgocmhmffneaaGreatDoor.netApart
open Go.Eng Go.ChangeShapes Go.WideShapes Go.ChangeAt Go.RowKit
set_option linter.unusedVariables false

theorem k12 : (Rows.netApartRow.recurses == Tryz.pinned.checked.prog.recurses 7) = true := by kernel_rfl
theorem k13 : (Rows.netApartRow.named == Tryz.pinned.checked.prog.varsNamed 7) = true := by kernel_rfl
theorem k14 : (Rows.netApartRow.maps == (Tryz.f7.params.toList ++ Rows.netApartSpec.plain.varTypes Tryz.pinned.checked.prog).any (Tryz.pinned.checked.prog.mapsRec ·)) = true := by kernel_rfl
theorem k15 : (Rows.netApartRow.ifaces == (Tryz.f7.params.toList ++ Rows.netApartSpec.plain.varTypes Tryz.pinned.checked.prog).any (Tryz.pinned.checked.prog.ifacesRec ·)) = true := by kernel_rfl
theorem k16 : (Rows.netApartRow.mapsOut == Tryz.pinned.checked.prog.mapsAmong Tryz.f7.resultTypes.toList) = true := by kernel_rfl
theorem k17 : (Rows.netApartRow.loops == (Tryz.f7.params.toList ++ Rows.netApartSpec.plain.varTypes Tryz.pinned.checked.prog).any (Tryz.pinned.checked.prog.loopsFrom ·)) = true := by kernel_rfl
theorem k18 : (Rows.netApartRow.wideKeys == (Tryz.f7.params.toList ++ Rows.netApartSpec.plain.varTypes Tryz.pinned.checked.prog ++ Tryz.f7.resultTypes.toList).any (Tryz.pinned.checked.prog.wideKeysFrom ·)) = true := by kernel_rfl
theorem k19 : (Rows.netApartSpec.vars.all (Tryz.pinned.checked.prog.varReadable ·)) = true := by kernel_rfl
theorem k20 : (Tryz.f7.resultTypes.all (fun t => Tryz.pinned.checked.prog.readableRec t && decide (t < Tryz.pinned.checked.prog.types.size))) = true := by kernel_rfl
theorem k21 : (Rows.netApartRow.ifacesOut == Tryz.f7.resultTypes.toList.any (Tryz.pinned.checked.prog.ifacesRec ·)) = true := by kernel_rfl
theorem k22 : (Rows.netApartRow.loopsOut == Tryz.f7.resultTypes.toList.any (Tryz.pinned.checked.prog.loopsFrom ·)) = true := by kernel_rfl
theorem k23 : (Rows.netApartRow.plainKeys == Tryz.pinned.checked.prog.plainKeys) = true := by kernel_rfl
theorem k24 : (Rows.netApartRow.shortTexts.isNone) = true := by kernel_rfl
theorem k25 : (Tryz.pinned.checked.prog.stopsHeard) = true := by kernel_rfl
theorem k26 : (Tryz.pinned.checked.prog.mayEnter) = true := by kernel_rfl
theorem k27 : (Rows.netApartRow.lifted == Tryz.pinned.checked.prog.liftsFinal) = true := by kernel_rfl
theorem k28 : (Tryz.pinned.checked.prog.make == some Rows.netApartRow.make) = true := by kernel_rfl
theorem k29 : (Rows.netApartRow.kinds == (if Rows.netApartRow.domain.isEmpty then [] else Tryz.f7.params.toList.map fun t => match Tryz.pinned.checked.prog.underlying t with | some (.int k) => some k | _ => none)) = true := by kernel_rfl
theorem k30 : (Rows.netApartRow.pinned == Rows.netApartRow.pinnedBy) = true := by kernel_rfl
theorem k31 : (Rows.netApartRow.veiled == (Tryz.f7.params.toList ++ Rows.netApartSpec.plain.varTypes Tryz.pinned.checked.prog ++ Tryz.f7.resultTypes.toList).any (Tryz.pinned.checked.prog.veiledRec ·)) = true := by kernel_rfl
theorem k32 : (Rows.netApartRow.veiledFits Tryz.pinned.checked.prog Tryz.f7.params.toList (Tryz.f7.params.toList ++ Rows.netApartSpec.plain.varTypes Tryz.pinned.checked.prog ++ Tryz.f7.resultTypes.toList)) = true := by kernel_rfl
end Go.Proofs.YticgocmhmffneaaGreatDoor.netApart
