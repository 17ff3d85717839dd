/- The statement LeapCutsCardSaid: the law answers true for every input, and leaves what was there as it was. Conditions: none. -/
import Derived.Test.YtfbegkddkdenbaaDoorRows
import Derived.Test.YtfbegkddkdenbaaDoorCards
import Derived.Test.YtfbegkddkdenbaaDoorTie
import Derived.SevenTiedAt
import Derived.Lay
import Derived.MakeChecks
import Derived.Test.YtfbegkddkdenbaaDoorEngL
import Derived.Test.YtfbegkddkdenbaaDoorLLeapCuts
import Derived.Test.YtfbegkddkdenbaaDoorKLeapCuts
import Derived.Test.YtfbegkddkdenbaaDoorJLeapCuts
import Derived.Test.YtfbegkddkdenbaaDoorILeapCuts
namespace Go.Proofs.YtfbegkddkdenbaaDoor.leapCuts
open Go.Proofs.YtfbegkddkdenbaaDoor
open Go.Eng Go.ChangeShapes Go.WideShapes Go.ChangeAt Go.RowKit
set_option linter.unusedVariables false

set_option maxRecDepth 100000 in
theorem and_t {a b : Bool} (h : a = true) (k : b = true) : (a && b) = true := by rw [h, k]; rfl
set_option maxRecDepth 100000 in
theorem closed : joinedFacts Tryd.pinned.checked.prog 5 Tryd.f5 Rows.leapCutsSpec Rows.leapCutsRow = true :=
  (and_t (and_t (and_t (and_t (and_t (and_t (and_t (and_t (and_t (and_t (and_t (and_t (and_t (and_t (and_t (and_t (and_t (and_t (and_t (and_t (and_t (and_t (and_t (and_t (and_t (and_t (and_t (and_t (and_t (and_t (and_t k1 k2) k3) k4) k5) k6) k7) k8) k9) k10) k11) k12) k13) k14) k15) k16) k17) k18) k19) k20) k21) k22) k23) k24) k25) k26) k27) k28) k29) k30) k31) k32)

theorem over : Rows.leapCutsRow.holds Tryd.pinned (OpenSpec.ofChange Rows.leapCutsSpec) :=
  OpenClaim.holds_of_wide 5 Tryd.f5 rfl rfl rfl rfl rfl rfl rfl ⟨rfl, rfl, rfl, rfl, rfl⟩ rfl rfl rfl rfl rfl (by kernel_rfl) Tryd.func5 closed
    (of_decide_eq_true (by kernel_rfl)) (by unfold Func.isWrapper; first | (rw [if_pos (by decide +kernel)]; kernel_rfl) | (rw [if_neg (by decide +kernel)]; exact ⟨rfl, rfl⟩))
    (fun os started H enc _ => lifted os started H enc)

/-- the statement -/
theorem proved : Rows.LeapCutsCardSaid :=
  Claim7.holds_tied_plain_at .later [] [.data, .data, .data, .data, .sentinel, .sentinel, .pinned] true (true, "a68ef177736f69e96d83f4001fb0c804d6d41f560617b7f3ab5ddd2c91cd97f2") true
    over (fun _ h => by cases h) cw (fun _ h => by cases h) leapCuts_row_tie rfl ⟨rfl, rfl⟩ cm rfl
    (fun f fn hf hfn => by
      obtain rfl : f = 5 := Option.some.inj ((show Tryd.prog.funcNamed "angelus/angeluslaw21.LeapCuts" = some 5 from cf).symm.trans hf) |>.symm
      obtain rfl : fn = Tryd.f5 := (Option.some.inj (Tryd.func5.symm.trans hfn)).symm
      exact ⟨cl, fun j t ht => by
        rw [Tryd.params5] at ht
        have hm : t ∈ [24, 3] := by simpa using Array.mem_of_getElem? ht
        have hall : ([24, 3].all fun u => !Tryd.prog.wantsStandIn u) = true := cs
        exact (show Tryd.prog.wantsStandIn t = false by simpa using List.all_eq_true.1 hall t hm)⟩)
    cg
#print axioms proved
end Go.Proofs.YtfbegkddkdenbaaDoor.leapCuts
