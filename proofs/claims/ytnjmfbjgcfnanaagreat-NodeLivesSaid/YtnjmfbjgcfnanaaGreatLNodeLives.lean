/- The statement NodeLivesSaid: the law answers true for every input, and leaves what was there as it was. Conditions: none. -/
import Derived.Test.YtnjmfbjgcfnanaaGreatRows
import Derived.Test.YtnjmfbjgcfnanaaGreatEngR
import Derived.Test.YtnjmfbjgcfnanaaGreatLnL
namespace Go.Proofs.YtnjmfbjgcfnanaaGreat.nodeLives
open Go.Eng Go.ChangeShapes Go.WideShapes Go.ChangeAt Go.RowKit
set_option linter.unusedVariables false

theorem own : ownKnob Tryz.prog.godebug = none := by kernel_rfl
theorem laidOut : laidOutB Tryz.prog = true := by kernel_rfl

set_option maxRecDepth 100000 in
theorem lifted (os : Os) (started : os.Started) (H : Type) (enc : TypeId × Value → H) :
    ReturnsInHanded {} Tryz.checked os 5 .any (Rows.nodeLivesSpec.pre6 enc Tryz.prog Tryz.f5 Rows.nodeLivesRow.domain false) (Rows.nodeLivesSpec.post enc Tryz.prog Tryz.f5 false true false false) := by
  refine law_lifted (C := Tryz.checked) (tb := 4) started own (by kernel_rfl) Tryz.func5
    (ChangeSpec.witness6 (enc := enc) (C := Tryz.checked) false ⟨#[], #[.agg #[.int .i64 0, .int .i64 0, .int .i64 0, .int .i64 0, .int .i64 0, .int .i64 0, .int .i64 0, .int .i64 0, .int .i64 0, .int .i64 0, .bool false], .slice none 0 0, .slice none 0 0, .int .u32 0], []⟩ 8 (by kernel_rfl) (by kernel_rfl) (by kernel_rfl) (by kernel_rfl))
    laidOut rfl (by kernel_rfl) (by kernel_rfl) Tryz.underlying4 ?_ ?_
  · intro ds hds
    match ds, hds with
    | [d0, d1, d2, d3], _ => exact ⟨rfl, rfl, rfl⟩
  intro W base args ds ps hval hA hlt hsh
  change DataW.TrodAll enc Tryz.prog W 0 (fun _ => true) true Tryz.f5.params.toList args.toList ds ps at hA
  rw [Tryz.params5] at hA
  change ∀ (j : Nat) t v, Tryz.f5.params[j]? = some t → args[j]? = some v → Value.okWide Tryz.prog W .any base t v at hval
  rw [Tryz.params5] at hval
  obtain ⟨v0, vs0, d0, ds0, p0, q0, hargs, rfl, rfl, h0, r0⟩ := trodAll_cons hA
  obtain ⟨v1, vs1, d1, ds1, p1, q1, rfl, rfl, rfl, h1, r1⟩ := trodAll_cons r0
  obtain ⟨v2, vs2, d2, ds2, p2, q2, rfl, rfl, rfl, h2, r2⟩ := trodAll_cons r1
  obtain ⟨v3, vs3, d3, ds3, p3, q3, rfl, rfl, rfl, h3, r3⟩ := trodAll_cons r2
  obtain ⟨rfl, rfl, rfl⟩ := trodAll_nil r3
  obtain rfl : args = #[v0, v1, v2, v3] := by cases args; simp_all
  obtain ⟨c0, rfl, O0⟩ := Aem (n := 11) (q := .cons 1 (.i .i64) (.cons 1 (.i .i64) (.cons 1 (.i .i64) (.cons 1 (.i .i64) (.cons 1 (.i .i64) (.cons 1 (.i .i64) (.cons 1 (.i .i64) (.cons 1 (.i .i64) (.cons 1 (.i .i64) (.cons 1 (.i .i64) (.cons 1 (.b) (.nil)))))))))))) (by kernel_rfl) (by kernel_rfl) (hval 0 23 v0 rfl rfl) h0
  obtain ⟨s1, rfl, O1⟩ := vZ (n := 20) (q := .cons 1 (.i .i64) (.cons 1 (.i .i64) (.cons 1 (.i .i64) (.cons 1 (.i .u32) (.cons 14 (.cons 1 (.i .i64) (.cons 1 (.i .i64) (.cons 1 (.i .i64) (.cons 1 (.i .i64) (.cons 1 (.i .u16) (.cons 1 (.i .u16) (.cons 1 (.i .i64) (.cons 1 (.i .i64) (.cons 1 (.i .i64) (.cons 1 (.i .i64) (.cons 1 (.i .i64) (.cons 1 (.i .i64) (.cons 1 (.i .i64) (.cons 1 (.i .i64) (.nil))))))))))))))) (.cons 1 (.sl 1 (.i .u8)) (.cons 1 (.s) (.nil)))))))) Tryz.underlying55 (by kernel_rfl) (hval 1 55 v1 rfl rfl) h1
  obtain ⟨s2, rfl, O2⟩ := vZ (n := 20) (q := .cons 1 (.i .i64) (.cons 1 (.i .i64) (.cons 1 (.i .i64) (.cons 1 (.i .u32) (.cons 14 (.cons 1 (.i .i64) (.cons 1 (.i .i64) (.cons 1 (.i .i64) (.cons 1 (.i .i64) (.cons 1 (.i .u16) (.cons 1 (.i .u16) (.cons 1 (.i .i64) (.cons 1 (.i .i64) (.cons 1 (.i .i64) (.cons 1 (.i .i64) (.cons 1 (.i .i64) (.cons 1 (.i .i64) (.cons 1 (.i .i64) (.cons 1 (.i .i64) (.nil))))))))))))))) (.cons 1 (.sl 1 (.i .u8)) (.cons 1 (.s) (.nil)))))))) Tryz.underlying55 (by kernel_rfl) (hval 2 55 v2 rfl rfl) h2
  obtain ⟨a3, rfl, w3⟩ := Aqm (k := .u32) Tryz.underlying24 (hval 3 24 v3 rfl rfl) h3
  exact Ad4 (law26_NodeLives.fin O0 O1 O2 w3)
end Go.Proofs.YtnjmfbjgcfnanaaGreat.nodeLives
