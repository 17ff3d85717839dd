/- The statement NodeQuietSaid: the law answers true for every input, and leaves what was there as it was. Conditions: none. -/
import Derived.Test.YtnjmfbjgcfnanaaGreatRows
import Derived.Test.YtnjmfbjgcfnanaaGreatEngR
namespace Go.Proofs.YtnjmfbjgcfnanaaGreat.nodeQuiet
open Go.Eng Go.ChangeShapes Go.WideShapes Go.ChangeAt Go.RowKit
set_option linter.unusedVariables false

theorem k1 : (Rows.nodeQuietRow.wf (OpenSpec.ofChange Rows.nodeQuietSpec)) = true := by kernel_rfl
theorem k2 : (laidOutB Tryz.pinned.checked.prog) = true := by kernel_rfl
theorem k3 : (mapsRowed Tryz.pinned.checked.prog) = true := by kernel_rfl
theorem k4 : (Tryz.f4.params.all (Tryz.pinned.checked.prog.readableRec ·)) = true := by kernel_rfl
theorem k5 : (namedTie Tryz.pinned.checked.prog Rows.nodeQuietRow.named Rows.nodeQuietSpec.vars) = true := by kernel_rfl
theorem k6 : (Rows.nodeQuietRow.stops == []) = true := by kernel_rfl
theorem k7 : (Tryz.pinned.checked.prog.stops == []) = true := by kernel_rfl
theorem k8 : (Rows.nodeQuietRow.knobs == []) = true := by kernel_rfl
theorem k9 : (Tryz.pinned.checked.prog.stopKnobs == []) = true := by kernel_rfl
theorem k10 : (Rows.nodeQuietRow.inPlace == Tryz.pinned.checked.prog.inPlace 4) = true := by kernel_rfl
theorem k11 : (Rows.nodeQuietRow.unfollowed == Tryz.pinned.checked.prog.unfollowed 4) = true := by kernel_rfl
end Go.Proofs.YtnjmfbjgcfnanaaGreat.nodeQuiet
