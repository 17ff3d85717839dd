/- The statement LeapBackCardSaid: the law answers true for every input, and leaves what was there as it was. Conditions: none. -/
import Derived.Test.YtfbegkddkdenbaaDoorRows
import Derived.Test.YtfbegkddkdenbaaDoorCards
import Derived.Test.YtfbegkddkdenbaaDoorTie
import Derived.SevenTiedAt
import Derived.Lay
import Derived.MakeChecks
import Derived.Test.YtfbegkddkdenbaaDoorEngL
import Derived.Test.YtfbegkddkdenbaaDoorLLeapBack
import Derived.Test.YtfbegkddkdenbaaDoorKLeapBack
import Derived.Test.YtfbegkddkdenbaaDoorJLeapBack
import Derived.Test.YtfbegkddkdenbaaDoorILeapBack
namespace Go.Proofs.YtfbegkddkdenbaaDoor.leapBack
open Go.Proofs.YtfbegkddkdenbaaDoor
open Go.Eng Go.ChangeShapes Go.WideShapes Go.ChangeAt Go.RowKit
set_option linter.unusedVariables false

set_option maxRecDepth 100000 in
theorem and_t {a b : Bool} (h : a = true) (k : b = true) : (a && b) = true := by rw [h, k]; rfl
set_option maxRecDepth 100000 in
theorem closed : joinedFacts Tryd.pinned.checked.prog 6 Tryd.f6 Rows.leapBackSpec Rows.leapBackRow = true :=
  (and_t (and_t (and_t (and_t (and_t (and_t (and_t (and_t (and_t (and_t (and_t (and_t (and_t (and_t (and_t (and_t (and_t (and_t (and_t (and_t (and_t (and_t (and_t (and_t (and_t (and_t (and_t (and_t (and_t (and_t (and_t k1 k2) k3) k4) k5) k6) k7) k8) k9) k10) k11) k12) k13) k14) k15) k16) k17) k18) k19) k20) k21) k22) k23) k24) k25) k26) k27) k28) k29) k30) k31) k32)

theorem over : Rows.leapBackRow.holds Tryd.pinned (OpenSpec.ofChange Rows.leapBackSpec) :=
  OpenClaim.holds_of_wide 6 Tryd.f6 rfl rfl rfl rfl rfl rfl rfl ⟨rfl, rfl, rfl, rfl, rfl⟩ rfl rfl rfl rfl rfl (by kernel_rfl) Tryd.func6 closed
    (of_decide_eq_true (by kernel_rfl)) (by unfold Func.isWrapper; first | (rw [if_pos (by decide +kernel)]; kernel_rfl) | (rw [if_neg (by decide +kernel)]; exact ⟨rfl, rfl⟩))
    (fun os started H enc _ => lifted os started H enc)

/-- the statement -/
theorem proved : Rows.LeapBackCardSaid :=
  Claim7.holds_tied_plain_at .later [] [.data, .data, .data, .data, .sentinel, .sentinel, .pinned] true (true, "a68ef177736f69e96d83f4001fb0c804d6d41f560617b7f3ab5ddd2c91cd97f2") true
    over (fun _ h => by cases h) cw (fun _ h => by cases h) leapBack_row_tie rfl ⟨rfl, rfl⟩ cm rfl
    (fun f fn hf hfn => by
      obtain rfl : f = 6 := Option.some.inj ((show Tryd.prog.funcNamed "angelus/angeluslaw21.LeapBack" = some 6 from cf).symm.trans hf) |>.symm
      obtain rfl : fn = Tryd.f6 := (Option.some.inj (Tryd.func6.symm.trans hfn)).symm
      exact ⟨cl, fun j t ht => by
        rw [Tryd.params6] at ht
        have hm : t ∈ [24, 3] := by simpa using Array.mem_of_getElem? ht
        have hall : ([24, 3].all fun u => !Tryd.prog.wantsStandIn u) = true := cs
        exact (show Tryd.prog.wantsStandIn t = false by simpa using List.all_eq_true.1 hall t hm)⟩)
    cg
#print axioms proved
end Go.Proofs.YtfbegkddkdenbaaDoor.leapBack
