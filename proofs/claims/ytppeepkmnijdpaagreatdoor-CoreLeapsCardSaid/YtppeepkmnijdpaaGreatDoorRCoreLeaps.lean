/- The statement CoreLeapsCardSaid: the law answers true for every input, and leaves what was there as it was. Conditions: none. -/
import Derived.Test.YtppeepkmnijdpaaGreatDoorRows
import Derived.Test.YtppeepkmnijdpaaGreatDoorCards
import Derived.Test.YtppeepkmnijdpaaGreatDoorTie
import Derived.SevenTiedAt
import Derived.LaidSub
import Derived.Lay
import Derived.MakeChecks
import Derived.Test.YtppeepkmnijdpaaGreatDoorEngL
import Derived.Test.YtppeepkmnijdpaaGreatDoorLCoreLeaps
import Derived.Test.YtppeepkmnijdpaaGreatDoorKCoreLeaps
import Derived.Test.YtppeepkmnijdpaaGreatDoorJCoreLeaps
import Derived.Test.YtppeepkmnijdpaaGreatDoorICoreLeaps
namespace Go.Proofs.YtppeepkmnijdpaaGreatDoor.coreLeaps
open Go.Proofs.YtppeepkmnijdpaaGreatDoor
open Go.Eng Go.ChangeShapes Go.WideShapes Go.ChangeAt Go.RowKit
set_option linter.unusedVariables false

set_option maxRecDepth 100000 in
theorem Oc {a b : Bool} (h : a = true) (k : b = true) : (a && b) = true := by rw [h, k]; rfl
set_option maxRecDepth 100000 in
theorem closed : joinedFacts Tryz.pinned.checked.prog 3 Tryz.f3 Rows.coreLeapsSpec Rows.coreLeapsRow = true :=
  (Oc (Oc (Oc (Oc (Oc (Oc (Oc (Oc (Oc (Oc (Oc (Oc (Oc (Oc (Oc (Oc (Oc (Oc (Oc (Oc (Oc (Oc (Oc (Oc (Oc (Oc (Oc (Oc (Oc (Oc (Oc k1 k2) k3) k4) k5) k6) k7) k8) k9) k10) k11) k12) k13) k14) k15) k16) k17) k18) k19) k20) k21) k22) k23) k24) k25) k26) k27) k28) k29) k30) k31) k32)

theorem over : Rows.coreLeapsRow.holds Tryz.pinned (OpenSpec.ofChange Rows.coreLeapsSpec) :=
  OpenClaim.holds_of_wide 3 Tryz.f3 rfl rfl rfl rfl rfl rfl rfl ⟨rfl, rfl, rfl, rfl, rfl⟩ rfl rfl rfl rfl rfl (by kernel_rfl) Tryz.func3 closed
    (of_decide_eq_true (by kernel_rfl)) (by unfold Func.isWrapper; first | (rw [if_pos (by decide +kernel)]; kernel_rfl) | (rw [if_neg (by decide +kernel)]; exact ⟨rfl, rfl⟩))
    (fun os started H enc _ => lifted os started H enc)

/-- the statement -/
theorem proved : Rows.CoreLeapsCardSaid :=
  Claim7.holds_tied_plain_at .later [] [.data, .data, .data, .data, .sentinel, .sentinel, .pinned] true (true, "03133262e2074ed831112a4d9beade972f400db329989f62699cd12a793ef6f6") true
    over (fun _ h => by cases h) cw (fun _ h => by cases h) coreLeaps_row_tie rfl ⟨rfl, rfl⟩ cm rfl
    (fun f fn hf hfn => by
      obtain rfl : f = 3 := Option.some.inj ((show Tryz.prog.funcNamed "angelus/angelustop.CoreLeaps" = some 3 from cf).symm.trans hf) |>.symm
      obtain rfl : fn = Tryz.f3 := (Option.some.inj (Tryz.func3.symm.trans hfn)).symm
      exact ⟨cl, fun j t ht => by
        rw [Tryz.params3] at ht
        have hm : t ∈ [9, 3] := by simpa using Array.mem_of_getElem? ht
        have hall : ([9, 3].all fun u => !Tryz.prog.wantsStandIn u) = true := cs
        exact (show Tryz.prog.wantsStandIn t = false by simpa using List.all_eq_true.1 hall t hm)⟩)
    cg
#print axioms proved
end Go.Proofs.YtppeepkmnijdpaaGreatDoor.coreLeaps
