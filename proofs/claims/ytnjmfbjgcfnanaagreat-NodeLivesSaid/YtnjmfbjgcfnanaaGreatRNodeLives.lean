/- The statement NodeLivesSaid: the law answers true for every input, and leaves what was there as it was. Conditions: none. -/
import Derived.Test.YtnjmfbjgcfnanaaGreatRows
import Derived.Test.YtnjmfbjgcfnanaaGreatEngR
import Derived.Test.YtnjmfbjgcfnanaaGreatLNodeLives
import Derived.Test.YtnjmfbjgcfnanaaGreatKNodeLives
import Derived.Test.YtnjmfbjgcfnanaaGreatJNodeLives
namespace Go.Proofs.YtnjmfbjgcfnanaaGreat.nodeLives
open Go.Eng Go.ChangeShapes Go.WideShapes Go.ChangeAt Go.RowKit
set_option linter.unusedVariables false

set_option maxRecDepth 100000 in
theorem Uk {a b : Bool} (h : a = true) (k : b = true) : (a && b) = true := by rw [h, k]; rfl
set_option maxRecDepth 100000 in
theorem closed : joinedFacts Tryz.pinned.checked.prog 5 Tryz.f5 Rows.nodeLivesSpec Rows.nodeLivesRow = true :=
  (Uk (Uk (Uk (Uk (Uk (Uk (Uk (Uk (Uk (Uk (Uk (Uk (Uk (Uk (Uk (Uk (Uk (Uk (Uk (Uk (Uk (Uk (Uk (Uk (Uk (Uk (Uk (Uk (Uk (Uk (Uk k1 k2) k3) k4) k5) k6) k7) k8) k9) k10) k11) k12) k13) k14) k15) k16) k17) k18) k19) k20) k21) k22) k23) k24) k25) k26) k27) k28) k29) k30) k31) k32)

theorem over : Rows.nodeLivesRow.holds Tryz.pinned (OpenSpec.ofChange Rows.nodeLivesSpec) :=
  OpenClaim.holds_of_wide 5 Tryz.f5 rfl rfl rfl rfl rfl rfl rfl ⟨rfl, rfl, rfl, rfl, rfl⟩ rfl rfl rfl rfl rfl (by kernel_rfl) Tryz.func5 closed
    (of_decide_eq_true (by kernel_rfl)) (by unfold Func.isWrapper; first | (rw [if_pos (by decide +kernel)]; kernel_rfl) | (rw [if_neg (by decide +kernel)]; exact ⟨rfl, rfl⟩))
    (fun os started H enc _ => lifted os started H enc)

/-- the statement -/
theorem proved : Rows.NodeLivesSaid := over
#print axioms proved
end Go.Proofs.YtnjmfbjgcfnanaaGreat.nodeLives
