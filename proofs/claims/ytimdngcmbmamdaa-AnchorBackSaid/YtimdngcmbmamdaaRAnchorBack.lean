/- The statement AnchorBackSaid: the law answers true for every input, and leaves what was there as it was. Conditions: none. -/
import Derived.Test.YtimdngcmbmamdaaRows
import Derived.Test.YtimdngcmbmamdaaEngR
import Derived.Test.YtimdngcmbmamdaaCancB
namespace Go.Proofs.Ytimdngcmbmamdaa.anchorBack
open Go.Eng Go.ChangeShapes Go.WideShapes Go.ChangeAt Go.RowKit
set_option linter.unusedVariables false

theorem own : ownKnob Try.prog.godebug = none := by kernel_rfl
theorem laidOut : laidOutB Try.prog = true := by kernel_rfl

set_option maxRecDepth 100000 in
theorem lifted (os : Os) (started : os.Started) (H : Type) (enc : TypeId × Value → H) :
    ReturnsInHanded {} Try.checked os 9 .any (Rows.anchorBackSpec.pre6 enc Try.prog Try.f9 Rows.anchorBackRow.domain false) (Rows.anchorBackSpec.post enc Try.prog Try.f9 false true false false) := by
  refine law_lifted (C := Try.checked) (tb := 4) started own (by kernel_rfl) Try.func9
    (ChangeSpec.witness6 (enc := enc) (C := Try.checked) false ⟨#[], #[.agg #[.int .i64 0, .int .i64 0, .int .i64 0, .slice none 0 0], .agg #[.int .i64 0, .int .i64 0, .int .i64 0, .int .i64 0, .int .u16 0, .int .u16 0, .int .i64 0, .int .i64 0, .int .i64 0, .int .i64 0, .int .i64 0, .int .i64 0, .int .i64 0, .int .i64 0], .int .i64 0], []⟩ 8 (by kernel_rfl) (by kernel_rfl) (by kernel_rfl) (by kernel_rfl))
    laidOut rfl (by kernel_rfl) (by kernel_rfl) Try.underlying4 ?_ ?_
  · intro ds hds
    match ds, hds with
    | [d0, d1, d2], _ => exact ⟨rfl, rfl, rfl⟩
  intro W base args ds ps hval hA hlt hsh
  change DataW.TrodAll enc Try.prog W 0 (fun _ => true) true Try.f9.params.toList args.toList ds ps at hA
  rw [Try.params9] at hA
  change ∀ (j : Nat) t v, Try.f9.params[j]? = some t → args[j]? = some v → Value.okWide Try.prog W .any base t v at hval
  rw [Try.params9] at hval
  obtain ⟨v0, vs0, d0, ds0, p0, q0, hargs, rfl, rfl, h0, r0⟩ := trodAll_cons hA
  obtain ⟨v1, vs1, d1, ds1, p1, q1, rfl, rfl, rfl, h1, r1⟩ := trodAll_cons r0
  obtain ⟨v2, vs2, d2, ds2, p2, q2, rfl, rfl, rfl, h2, r2⟩ := trodAll_cons r1
  obtain ⟨rfl, rfl, rfl⟩ := trodAll_nil r2
  obtain rfl : args = #[v0, v1, v2] := by cases args; simp_all
  obtain ⟨c0, rfl, O0⟩ := open_okst (n := 4) (q := .cons 1 (.i .i64) (.cons 1 (.i .i64) (.cons 1 (.i .i64) (.cons 1 (.sl 2 (.cons 1 (.i .i64) (.cons 1 (.i .i64) (.nil)))) (.nil))))) (by kernel_rfl) (by kernel_rfl) (hval 0 24 v0 rfl rfl) h0
  obtain ⟨x1, rfl, w1⟩ := open_st (ks := [.i64, .i64, .i64, .i64, .u16, .u16, .i64, .i64, .i64, .i64, .i64, .i64, .i64, .i64]) (by kernel_rfl) (by kernel_rfl) (hval 1 62 v1 rfl rfl) h1
  obtain ⟨a2, rfl, w2⟩ := open_i64 Try.underlying3 (hval 2 3 v2 rfl rfl) h2
  exact law_calls (law23_AnchorBack.fin ⟨u16_of w1.2.2.2.2.1, u16_of w1.2.2.2.2.2.1⟩ O0)

theorem over : Rows.anchorBackRow.holds Try.pinned (OpenSpec.ofChange Rows.anchorBackSpec) :=
  OpenClaim.holds_of_wide 9 Try.f9 rfl rfl rfl rfl rfl rfl rfl ⟨rfl, rfl, rfl, rfl, rfl⟩ rfl rfl rfl rfl rfl (by kernel_rfl) Try.func9 (by kernel_rfl)
    (of_decide_eq_true (by kernel_rfl)) (by unfold Func.isWrapper; first | (rw [if_pos (by decide +kernel)]; kernel_rfl) | (rw [if_neg (by decide +kernel)]; exact ⟨rfl, rfl⟩))
    (fun os started H enc _ => lifted os started H enc)

/-- the statement -/
theorem proved : Rows.AnchorBackSaid := over
#print axioms proved
end Go.Proofs.Ytimdngcmbmamdaa.anchorBack
