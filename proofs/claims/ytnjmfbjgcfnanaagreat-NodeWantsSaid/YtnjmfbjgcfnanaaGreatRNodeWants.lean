/- The statement NodeWantsSaid: the law answers true for every input, and leaves what was there as it was. Conditions: none. -/
import Derived.Test.YtnjmfbjgcfnanaaGreatRows
import Derived.Test.YtnjmfbjgcfnanaaGreatEngR
import Derived.Test.YtnjmfbjgcfnanaaGreatCndW
namespace Go.Proofs.YtnjmfbjgcfnanaaGreat.nodeWants
open Go.Eng Go.ChangeShapes Go.WideShapes Go.ChangeAt Go.RowKit
set_option linter.unusedVariables false

theorem own : ownKnob Tryz.prog.godebug = none := by kernel_rfl
theorem laidOut : laidOutB Tryz.prog = true := by kernel_rfl

set_option maxRecDepth 100000 in
theorem lifted (os : Os) (started : os.Started) (H : Type) (enc : TypeId × Value → H) :
    ReturnsInHanded {} Tryz.checked os 3 .any (Rows.nodeWantsSpec.pre6 enc Tryz.prog Tryz.f3 Rows.nodeWantsRow.domain false) (Rows.nodeWantsSpec.post enc Tryz.prog Tryz.f3 false true false false) := by
  refine law_lifted (C := Tryz.checked) (tb := 4) started own (by kernel_rfl) Tryz.func3
    (ChangeSpec.witness6 (enc := enc) (C := Tryz.checked) false ⟨#[], #[.agg #[.int .i64 0, .int .i64 0, .int .i64 0, .int .i64 0, .int .i64 0, .int .i64 0, .int .i64 0, .int .i64 0, .int .i64 0, .int .i64 0, .bool false], .int .u32 0, .slice none 0 0], []⟩ 8 (by kernel_rfl) (by kernel_rfl) (by kernel_rfl) (by kernel_rfl))
    laidOut rfl (by kernel_rfl) (by kernel_rfl) Tryz.underlying4 ?_ ?_
  · intro ds hds
    match ds, hds with
    | [d0, d1, d2], _ => exact ⟨rfl, rfl, rfl⟩
  intro W base args ds ps hval hA hlt hsh
  change DataW.TrodAll enc Tryz.prog W 0 (fun _ => true) true Tryz.f3.params.toList args.toList ds ps at hA
  rw [Tryz.params3] at hA
  change ∀ (j : Nat) t v, Tryz.f3.params[j]? = some t → args[j]? = some v → Value.okWide Tryz.prog W .any base t v at hval
  rw [Tryz.params3] at hval
  obtain ⟨v0, vs0, d0, ds0, p0, q0, hargs, rfl, rfl, h0, r0⟩ := trodAll_cons hA
  obtain ⟨v1, vs1, d1, ds1, p1, q1, rfl, rfl, rfl, h1, r1⟩ := trodAll_cons r0
  obtain ⟨v2, vs2, d2, ds2, p2, q2, rfl, rfl, rfl, h2, r2⟩ := trodAll_cons r1
  obtain ⟨rfl, rfl, rfl⟩ := trodAll_nil r2
  obtain rfl : args = #[v0, v1, v2] := by cases args; simp_all
  obtain ⟨c0, rfl, O0⟩ := open_okst (n := 11) (q := .cons 1 (.i .i64) (.cons 1 (.i .i64) (.cons 1 (.i .i64) (.cons 1 (.i .i64) (.cons 1 (.i .i64) (.cons 1 (.i .i64) (.cons 1 (.i .i64) (.cons 1 (.i .i64) (.cons 1 (.i .i64) (.cons 1 (.i .i64) (.cons 1 (.b) (.nil)))))))))))) (by kernel_rfl) (by kernel_rfl) (hval 0 23 v0 rfl rfl) h0
  obtain ⟨a1, rfl, w1⟩ := open_k (k := .u32) Tryz.underlying24 (hval 1 24 v1 rfl rfl) h1
  obtain ⟨s2, xs2, rfl, E2, w2⟩ := open_rows (e := 3) (ks := [.i64]) Tryz.underlying25 (by kernel_rfl) (by kernel_rfl) (hval 2 25 v2 rfl rfl) h2
  exact law_calls (law26_NodeWants.fin O0 w1 E2)

theorem over : Rows.nodeWantsRow.holds Tryz.pinned (OpenSpec.ofChange Rows.nodeWantsSpec) :=
  OpenClaim.holds_of_wide 3 Tryz.f3 rfl rfl rfl rfl rfl rfl rfl ⟨rfl, rfl, rfl, rfl, rfl⟩ rfl rfl rfl rfl rfl (by kernel_rfl) Tryz.func3 (by kernel_rfl)
    (of_decide_eq_true (by kernel_rfl)) (by unfold Func.isWrapper; first | (rw [if_pos (by decide +kernel)]; kernel_rfl) | (rw [if_neg (by decide +kernel)]; exact ⟨rfl, rfl⟩))
    (fun os started H enc _ => lifted os started H enc)

/-- the statement -/
theorem proved : Rows.NodeWantsSaid := over
#print axioms proved
end Go.Proofs.YtnjmfbjgcfnanaaGreat.nodeWants
