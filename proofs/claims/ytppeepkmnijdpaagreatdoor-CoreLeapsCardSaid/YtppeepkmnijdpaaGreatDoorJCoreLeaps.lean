/- The statement CoreLeapsCardSaid: the law answers true for every input, and leaves what was there as it was. Conditions: none. -/
import Derived.Test.YtppeepkmnijdpaaGreatDoorRows
import Derived.Test.YtppeepkmnijdpaaGreatDoorCards
import Derived.Test.YtppeepkmnijdpaaGreatDoorTie
import Derived.SevenTiedAt
import Derived.LaidSub
import Derived.Lay
import Derived.MakeChecks
import Derived.Test.YtppeepkmnijdpaaGreatDoorEngL
namespace Go.Proofs.YtppeepkmnijdpaaGreatDoor.coreLeaps
open Go.Eng Go.ChangeShapes Go.WideShapes Go.ChangeAt Go.RowKit
set_option linter.unusedVariables false

theorem k12 : (Rows.coreLeapsRow.recurses == Tryz.pinned.checked.prog.recurses 3) = true := by kernel_rfl
theorem k13 : (Rows.coreLeapsRow.named == Tryz.pinned.checked.prog.varsNamed 3) = true := by kernel_rfl
theorem k14 : (Rows.coreLeapsRow.maps == (Tryz.f3.params.toList ++ Rows.coreLeapsSpec.plain.varTypes Tryz.pinned.checked.prog).any (Tryz.pinned.checked.prog.mapsRec ·)) = true := by kernel_rfl
theorem k15 : (Rows.coreLeapsRow.ifaces == (Tryz.f3.params.toList ++ Rows.coreLeapsSpec.plain.varTypes Tryz.pinned.checked.prog).any (Tryz.pinned.checked.prog.ifacesRec ·)) = true := by kernel_rfl
theorem k16 : (Rows.coreLeapsRow.mapsOut == Tryz.pinned.checked.prog.mapsAmong Tryz.f3.resultTypes.toList) = true := by kernel_rfl
theorem k17 : (Rows.coreLeapsRow.loops == (Tryz.f3.params.toList ++ Rows.coreLeapsSpec.plain.varTypes Tryz.pinned.checked.prog).any (Tryz.pinned.checked.prog.loopsFrom ·)) = true := by kernel_rfl
theorem k18 : (Rows.coreLeapsRow.wideKeys == (Tryz.f3.params.toList ++ Rows.coreLeapsSpec.plain.varTypes Tryz.pinned.checked.prog ++ Tryz.f3.resultTypes.toList).any (Tryz.pinned.checked.prog.wideKeysFrom ·)) = true := by kernel_rfl
theorem k19 : (Rows.coreLeapsSpec.vars.all (Tryz.pinned.checked.prog.varReadable ·)) = true := by kernel_rfl
theorem k20 : (Tryz.f3.resultTypes.all (fun t => Tryz.pinned.checked.prog.readableRec t && decide (t < Tryz.pinned.checked.prog.types.size))) = true := by kernel_rfl
theorem k21 : (Rows.coreLeapsRow.ifacesOut == Tryz.f3.resultTypes.toList.any (Tryz.pinned.checked.prog.ifacesRec ·)) = true := by kernel_rfl
theorem k22 : (Rows.coreLeapsRow.loopsOut == Tryz.f3.resultTypes.toList.any (Tryz.pinned.checked.prog.loopsFrom ·)) = true := by kernel_rfl
theorem k23 : (Rows.coreLeapsRow.plainKeys == Tryz.pinned.checked.prog.plainKeys) = true := by kernel_rfl
theorem k24 : (Rows.coreLeapsRow.shortTexts.isNone) = true := by kernel_rfl
theorem k25 : (Tryz.pinned.checked.prog.stopsHeard) = true := by kernel_rfl
theorem k26 : (Tryz.pinned.checked.prog.mayEnter) = true := by kernel_rfl
theorem k27 : (Rows.coreLeapsRow.lifted == Tryz.pinned.checked.prog.liftsFinal) = true := by kernel_rfl
theorem k28 : (Tryz.pinned.checked.prog.make == some Rows.coreLeapsRow.make) = true := by kernel_rfl
theorem k29 : (Rows.coreLeapsRow.kinds == (if Rows.coreLeapsRow.domain.isEmpty then [] else Tryz.f3.params.toList.map fun t => match Tryz.pinned.checked.prog.underlying t with | some (.int k) => some k | _ => none)) = true := by kernel_rfl
theorem k30 : (Rows.coreLeapsRow.pinned == Rows.coreLeapsRow.pinnedBy) = true := by kernel_rfl
theorem k31 : (Rows.coreLeapsRow.veiled == (Tryz.f3.params.toList ++ Rows.coreLeapsSpec.plain.varTypes Tryz.pinned.checked.prog ++ Tryz.f3.resultTypes.toList).any (Tryz.pinned.checked.prog.veiledRec ·)) = true := by kernel_rfl
theorem k32 : (Rows.coreLeapsRow.veiledFits Tryz.pinned.checked.prog Tryz.f3.params.toList (Tryz.f3.params.toList ++ Rows.coreLeapsSpec.plain.varTypes Tryz.pinned.checked.prog ++ Tryz.f3.resultTypes.toList)) = true := by kernel_rfl
end Go.Proofs.YtppeepkmnijdpaaGreatDoor.coreLeaps
