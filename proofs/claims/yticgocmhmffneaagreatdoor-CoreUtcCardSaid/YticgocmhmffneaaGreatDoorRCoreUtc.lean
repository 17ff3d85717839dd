/- The statement CoreUtcCardSaid: the law answers true for every input, and leaves what was there as it was. Conditions: none. -/
import Derived.Test.YticgocmhmffneaaGreatDoorRows
import Derived.Test.YticgocmhmffneaaGreatDoorCards
import Derived.Test.YticgocmhmffneaaGreatDoorTie
import Derived.SevenTiedAt
import Derived.Test.YticgocmhmffneaaGreatDoorEngL
import Derived.Test.YticgocmhmffneaaGreatDoorLCoreUtc
import Derived.Test.YticgocmhmffneaaGreatDoorKCoreUtc
import Derived.Test.YticgocmhmffneaaGreatDoorJCoreUtc
import Derived.Test.YticgocmhmffneaaGreatDoorICoreUtc
namespace Go.Proofs.YticgocmhmffneaaGreatDoor.coreUtc
open Go.Proofs.YticgocmhmffneaaGreatDoor
open Go.Eng Go.ChangeShapes Go.WideShapes Go.ChangeAt Go.RowKit
set_option linter.unusedVariables false

set_option maxRecDepth 100000 in
theorem Uk {a b : Bool} (h : a = true) (k : b = true) : (a && b) = true := by rw [h, k]; rfl
set_option maxRecDepth 100000 in
theorem closed : joinedFacts Tryz.pinned.checked.prog 13 Tryz.f13 Rows.coreUtcSpec Rows.coreUtcRow = true :=
  (Uk (Uk (Uk (Uk (Uk (Uk (Uk (Uk (Uk (Uk (Uk (Uk (Uk (Uk (Uk (Uk (Uk (Uk (Uk (Uk (Uk (Uk (Uk (Uk (Uk (Uk (Uk (Uk (Uk (Uk (Uk k1 k2) k3) k4) k5) k6) k7) k8) k9) k10) k11) k12) k13) k14) k15) k16) k17) k18) k19) k20) k21) k22) k23) k24) k25) k26) k27) k28) k29) k30) k31) k32)

theorem over : Rows.coreUtcRow.holds Tryz.pinned (OpenSpec.ofChange Rows.coreUtcSpec) :=
  OpenClaim.holds_of_wide 13 Tryz.f13 rfl rfl rfl rfl rfl rfl rfl ⟨rfl, rfl, rfl, rfl, rfl⟩ rfl rfl rfl rfl rfl (by kernel_rfl) Tryz.func13 closed
    (of_decide_eq_true (by kernel_rfl)) (by unfold Func.isWrapper; first | (rw [if_pos (by decide +kernel)]; kernel_rfl) | (rw [if_neg (by decide +kernel)]; exact ⟨rfl, rfl⟩))
    (fun os started H enc _ => lifted os started H enc)

/-- the statement -/
theorem proved : Rows.CoreUtcCardSaid :=
  Claim7.holds_tied_plain_at .later [] [.data] true (true, "e76bbcf0e0abc421b0f9b582a4c3210a395a7d39ff817130e5f2bdcff26bd25b") true
    over (fun _ h => by cases h) cw (fun _ h => by cases h) coreUtc_row_tie rfl ⟨rfl, rfl⟩ cm rfl
    (fun f fn hf hfn => by
      obtain rfl : f = 13 := Option.some.inj ((show Tryz.prog.funcNamed "angelus/angelustop.CoreUtc" = some 13 from cf).symm.trans hf) |>.symm
      obtain rfl : fn = Tryz.f13 := (Option.some.inj (Tryz.func13.symm.trans hfn)).symm
      exact ⟨cl, fun j t ht => by
        rw [Tryz.params13] at ht
        have hm : t ∈ [24, 126, 25] := by simpa using Array.mem_of_getElem? ht
        have hall : ([24, 126, 25].all fun u => !Tryz.prog.wantsStandIn u) = true := cs
        exact (show Tryz.prog.wantsStandIn t = false by simpa using List.all_eq_true.1 hall t hm)⟩)
    cg
#print axioms proved
end Go.Proofs.YticgocmhmffneaaGreatDoor.coreUtc
