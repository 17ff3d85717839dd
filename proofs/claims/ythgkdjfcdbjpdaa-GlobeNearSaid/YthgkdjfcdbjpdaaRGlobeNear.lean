/- The statement GlobeNearSaid: the law answers true for every input, and leaves what was there as it was. Conditions: none. -/
import Derived.Test.YthgkdjfcdbjpdaaRows
import Derived.Test.YthgkdjfcdbjpdaaEngR
import Derived.Test.YthgkdjfcdbjpdaaCglo5
namespace Go.Proofs.Ythgkdjfcdbjpdaa.globeNear
open Go.Eng Go.ChangeShapes Go.WideShapes Go.ChangeAt Go.RowKit
set_option linter.unusedVariables false

theorem own : ownKnob Try.prog.godebug = none := by kernel_rfl
theorem laidOut : laidOutB Try.prog = true := by kernel_rfl

set_option maxRecDepth 100000 in
theorem lifted (os : Os) (started : os.Started) (H : Type) (enc : TypeId × Value → H) :
    ReturnsInHanded {} Try.checked os 6 .any (Rows.globeNearSpec.pre6 enc Try.prog Try.f6 Rows.globeNearRow.domain false) (Rows.globeNearSpec.post enc Try.prog Try.f6 false true false false) := by
  refine law_lifted (C := Try.checked) (tb := 4) started own (by kernel_rfl) Try.func6
    (ChangeSpec.witness6 (enc := enc) (C := Try.checked) false ⟨#[], #[.int .i64 0, .slice none 0 0, .slice none 0 0, .slice none 0 0, .int .i64 0, .int .i64 0, .int .i64 0], []⟩ 8 (by kernel_rfl) (by kernel_rfl) (by kernel_rfl) (by kernel_rfl))
    laidOut rfl (by kernel_rfl) (by kernel_rfl) Try.underlying4 ?_ ?_
  · intro ds hds
    match ds, hds with
    | [d0, d1, d2, d3, d4, d5, d6], _ => exact ⟨rfl, rfl, rfl⟩
  intro W base args ds ps hval hA hlt hsh
  change DataW.TrodAll enc Try.prog W 0 (fun _ => true) true Try.f6.params.toList args.toList ds ps at hA
  rw [Try.params6] at hA
  change ∀ (j : Nat) t v, Try.f6.params[j]? = some t → args[j]? = some v → Value.okWide Try.prog W .any base t v at hval
  rw [Try.params6] at hval
  obtain ⟨v0, vs0, d0, ds0, p0, q0, hargs, rfl, rfl, h0, r0⟩ := trodAll_cons hA
  obtain ⟨v1, vs1, d1, ds1, p1, q1, rfl, rfl, rfl, h1, r1⟩ := trodAll_cons r0
  obtain ⟨v2, vs2, d2, ds2, p2, q2, rfl, rfl, rfl, h2, r2⟩ := trodAll_cons r1
  obtain ⟨v3, vs3, d3, ds3, p3, q3, rfl, rfl, rfl, h3, r3⟩ := trodAll_cons r2
  obtain ⟨v4, vs4, d4, ds4, p4, q4, rfl, rfl, rfl, h4, r4⟩ := trodAll_cons r3
  obtain ⟨v5, vs5, d5, ds5, p5, q5, rfl, rfl, rfl, h5, r5⟩ := trodAll_cons r4
  obtain ⟨v6, vs6, d6, ds6, p6, q6, rfl, rfl, rfl, h6, r6⟩ := trodAll_cons r5
  obtain ⟨rfl, rfl, rfl⟩ := trodAll_nil r6
  obtain rfl : args = #[v0, v1, v2, v3, v4, v5, v6] := by cases args; simp_all
  obtain ⟨a0, rfl, w0⟩ := open_i64 Try.underlying3 (hval 0 3 v0 rfl rfl) h0
  obtain ⟨s1, xs1, rfl, E1, w1⟩ := open_is (e := 3) Try.underlying48 Try.underlying3 (by kernel_rfl) (hval 1 48 v1 rfl rfl) h1
  obtain ⟨s2, xs2, rfl, E2, w2⟩ := open_is (e := 3) Try.underlying48 Try.underlying3 (by kernel_rfl) (hval 2 48 v2 rfl rfl) h2
  obtain ⟨s3, xs3, rfl, E3, w3⟩ := open_is (e := 3) Try.underlying48 Try.underlying3 (by kernel_rfl) (hval 3 48 v3 rfl rfl) h3
  obtain ⟨a4, rfl, w4⟩ := open_i64 Try.underlying3 (hval 4 3 v4 rfl rfl) h4
  obtain ⟨a5, rfl, w5⟩ := open_i64 Try.underlying3 (hval 5 3 v5 rfl rfl) h5
  obtain ⟨a6, rfl, w6⟩ := open_i64 Try.underlying3 (hval 6 3 v6 rfl rfl) h6
  exact law_calls (law14_GlobeNear.cl E1 E2 E3)

theorem over : Rows.globeNearRow.holds Try.pinned (OpenSpec.ofChange Rows.globeNearSpec) :=
  OpenClaim.holds_of_wide 6 Try.f6 rfl rfl rfl rfl rfl rfl rfl ⟨rfl, rfl, rfl, rfl, rfl⟩ rfl rfl rfl rfl rfl (by kernel_rfl) Try.func6 (by kernel_rfl)
    (of_decide_eq_true (by kernel_rfl)) (by unfold Func.isWrapper; first | (rw [if_pos (by decide +kernel)]; kernel_rfl) | (rw [if_neg (by decide +kernel)]; exact ⟨rfl, rfl⟩))
    (fun os started H enc _ => lifted os started H enc)

/-- the statement -/
theorem proved : Rows.GlobeNearSaid := over
#print axioms proved
end Go.Proofs.Ythgkdjfcdbjpdaa.globeNear

