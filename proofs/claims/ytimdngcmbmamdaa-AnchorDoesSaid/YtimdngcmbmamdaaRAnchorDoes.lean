/- The statement AnchorDoesSaid: the law answers true for every input, and leaves what was there as it was. Conditions: none. -/
import Derived.Test.YtimdngcmbmamdaaRows
import Derived.Test.YtimdngcmbmamdaaEngR
import Derived.Test.YtimdngcmbmamdaaCancD
namespace Go.Proofs.Ytimdngcmbmamdaa.anchorDoes
open Go.Eng Go.ChangeShapes Go.WideShapes Go.ChangeAt Go.RowKit
set_option linter.unusedVariables false

theorem own : ownKnob Try.prog.godebug = none := by kernel_rfl
theorem laidOut : laidOutB Try.prog = true := by kernel_rfl

set_option maxRecDepth 100000 in
theorem lifted (os : Os) (started : os.Started) (H : Type) (enc : TypeId × Value → H) :
    ReturnsInHanded {} Try.checked os 10 .any (Rows.anchorDoesSpec.pre6 enc Try.prog Try.f10 Rows.anchorDoesRow.domain false) (Rows.anchorDoesSpec.post enc Try.prog Try.f10 false true false false) := by
  refine law_lifted (C := Try.checked) (tb := 4) started own (by kernel_rfl) Try.func10
    (ChangeSpec.witness6 (enc := enc) (C := Try.checked) false ⟨#[], #[.agg #[.int .i64 0, .int .i64 0, .int .i64 0, .slice none 0 0], .slice none 0 0], []⟩ 8 (by kernel_rfl) (by kernel_rfl) (by kernel_rfl) (by kernel_rfl))
    laidOut rfl (by kernel_rfl) (by kernel_rfl) Try.underlying4 ?_ ?_
  · intro ds hds
    match ds, hds with
    | [d0, d1], _ => exact ⟨rfl, rfl, rfl⟩
  intro W base args ds ps hval hA hlt hsh
  change DataW.TrodAll enc Try.prog W 0 (fun _ => true) true Try.f10.params.toList args.toList ds ps at hA
  rw [Try.params10] at hA
  change ∀ (j : Nat) t v, Try.f10.params[j]? = some t → args[j]? = some v → Value.okWide Try.prog W .any base t v at hval
  rw [Try.params10] at hval
  obtain ⟨v0, vs0, d0, ds0, p0, q0, hargs, rfl, rfl, h0, r0⟩ := trodAll_cons hA
  obtain ⟨v1, vs1, d1, ds1, p1, q1, rfl, rfl, rfl, h1, r1⟩ := trodAll_cons r0
  obtain ⟨rfl, rfl, rfl⟩ := trodAll_nil r1
  obtain rfl : args = #[v0, v1] := by cases args; simp_all
  obtain ⟨c0, rfl, O0⟩ := open_okst (n := 4) (q := .cons 1 (.i .i64) (.cons 1 (.i .i64) (.cons 1 (.i .i64) (.cons 1 (.sl 2 (.cons 1 (.i .i64) (.cons 1 (.i .i64) (.nil)))) (.nil))))) (by kernel_rfl) (by kernel_rfl) (hval 0 24 v0 rfl rfl) h0
  obtain ⟨s1, xs1, rfl, E1, w1⟩ := open_rows (e := 94) (ks := [.i64, .i64, .i64, .i64, .i64, .u16, .u16, .i64, .i64, .i64, .i64, .i64, .i64, .i64, .i64, .i64, .u16, .i64]) Try.underlying81 (by kernel_rfl) (by kernel_rfl) (hval 1 81 v1 rfl rfl) h1
  exact law_calls (law23_AnchorDoes.fin (fun x hx => ⟨u16_of (w1 x hx).2.2.2.2.2.1, u16_of (w1 x hx).2.2.2.2.2.2.1⟩) O0 E1)

theorem over : Rows.anchorDoesRow.holds Try.pinned (OpenSpec.ofChange Rows.anchorDoesSpec) :=
  OpenClaim.holds_of_wide 10 Try.f10 rfl rfl rfl rfl rfl rfl rfl ⟨rfl, rfl, rfl, rfl, rfl⟩ rfl rfl rfl rfl rfl (by kernel_rfl) Try.func10 (by kernel_rfl)
    (of_decide_eq_true (by kernel_rfl)) (by unfold Func.isWrapper; first | (rw [if_pos (by decide +kernel)]; kernel_rfl) | (rw [if_neg (by decide +kernel)]; exact ⟨rfl, rfl⟩))
    (fun os started H enc _ => lifted os started H enc)

/-- the statement -/
theorem proved : Rows.AnchorDoesSaid := over
#print axioms proved
end Go.Proofs.Ytimdngcmbmamdaa.anchorDoes
