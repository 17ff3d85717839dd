/- The statement CoreUtcCardSaid: the law answers true for every input, and leaves what was there as it was. Conditions: none. -/
import Derived.Test.YticgocmhmffneaaGreatDoorRows
import Derived.Test.YticgocmhmffneaaGreatDoorCards
import Derived.Test.YticgocmhmffneaaGreatDoorTie
import Derived.SevenTiedAt
import Derived.Test.YticgocmhmffneaaGreatDoorEngL
import Derived.Test.YticgocmhmffneaaGreatDoorMwU
namespace Go.Proofs.YticgocmhmffneaaGreatDoor.coreUtc
open Go.Proofs.YticgocmhmffneaaGreatDoor
open Go.Eng Go.ChangeShapes Go.WideShapes Go.ChangeAt Go.RowKit
set_option linter.unusedVariables false

theorem own : ownKnob Tryz.prog.godebug = none := by kernel_rfl
theorem laidOut : laidOutB Tryz.prog = true := by kernel_rfl

theorem Ab2 {W : World} (h : laidMetH Tryz.prog [("math/bits.deBruijn64tab", Rows.laid_math_bits_deBruijn64tab)] W) : Tb W :=
  Ae4 (tab := Lib.deBruijn64tab) (g := 0) (t := 461) (e := 5) (by kernel_rfl) (by kernel_rfl) (by kernel_rfl) (by kernel_rfl) Tryz.underlying461 Tryz.underlying5 (by kernel_rfl) h
theorem door_met (os : Os) (args : Array Value) : laidMetH Tryz.prog [("math/bits.deBruijn64tab", Rows.laid_math_bits_deBruijn64tab)] ((World.doorLaid Tryz.prog 400 os).forCall (fun _ _ => 0) ⟨#[], args, []⟩).memory :=
  laidMetH_of_parts3 (fuel := 8) (laidMet_of_run' 8 (by kernel_rfl) (by kernel_rfl)) (by kernel_rfl) (by kernel_rfl)

set_option maxRecDepth 100000 in
theorem lifted (os : Os) (started : os.Started) (H : Type) (enc : TypeId × Value → H) :
    ReturnsInHanded {} Tryz.checked os 13 .any (fun w args => (Rows.coreUtcSpec.pre enc Tryz.prog Tryz.f13 [] false w args ∧ laidMetH Tryz.prog [("math/bits.deBruijn64tab", Rows.laid_math_bits_deBruijn64tab)] w) ∧ sizedMet enc Tryz.prog Tryz.f13 (OpenSpec.ofChange Rows.coreUtcSpec) false w args) (Rows.coreUtcSpec.post enc Tryz.prog Tryz.f13 false true false false) := by
  refine Wu (C := Tryz.checked) (tb := 4) (laid := [("math/bits.deBruijn64tab", Rows.laid_math_bits_deBruijn64tab)]) started own (by kernel_rfl) Tryz.func13
    (ChangeSpec.witness_shaped (enc := enc) (C := Tryz.checked) (os := os) (X := fun w _ => laidMetH Tryz.prog [("math/bits.deBruijn64tab", Rows.laid_math_bits_deBruijn64tab)] w) false (World.doorLaid Tryz.prog 400 os) #[.agg #[.int .i64 0, .int .i64 0, .int .i64 0, .int .i64 0, .int .i64 0, .int .i64 0, .int .i64 0, .int .i64 0, .int .i64 0, .int .i64 0, .slice none 0 0], .agg #[.int .i64 0, .int .i64 0, .int .i64 0, .slice none 0 0], .slice none 0 0] 8 rfl (World.shaped_of_RefB (by kernel_rfl) (by kernel_rfl)) (by kernel_rfl) (by kernel_rfl) (by kernel_rfl) (door_met os _))
    laidOut rfl (by kernel_rfl) (by kernel_rfl) Tryz.underlying4 ?_ ?_
  · intro ds hds
    match ds, hds with
    | [d0, d1, d2], _ => exact ⟨rfl, rfl, rfl⟩
  intro W base args ds ps hval hA hlt hsh hL
  have hT := Ab2 hL
  change DataW.TrodAll enc Tryz.prog W 0 (fun _ => true) true Tryz.f13.params.toList args.toList ds ps at hA
  rw [Tryz.params13] at hA
  change ∀ (j : Nat) t v, Tryz.f13.params[j]? = some t → args[j]? = some v → Value.okWide Tryz.prog W .any base t v at hval
  rw [Tryz.params13] at hval
  obtain ⟨v0, vs0, d0, ds0, p0, q0, hargs, rfl, rfl, h0, r0⟩ := trodAll_cons hA
  obtain ⟨v1, vs1, d1, ds1, p1, q1, rfl, rfl, rfl, h1, r1⟩ := trodAll_cons r0
  obtain ⟨v2, vs2, d2, ds2, p2, q2, rfl, rfl, rfl, h2, r2⟩ := trodAll_cons r1
  obtain ⟨rfl, rfl, rfl⟩ := trodAll_nil r2
  obtain rfl : args = #[v0, v1, v2] := by cases args; simp_all
  obtain ⟨c0, rfl, O0⟩ := Aem (n := 11) (q := .cons 1 (.i .i64) (.cons 1 (.i .i64) (.cons 1 (.i .i64) (.cons 1 (.i .i64) (.cons 1 (.i .i64) (.cons 1 (.i .i64) (.cons 1 (.i .i64) (.cons 1 (.i .i64) (.cons 1 (.i .i64) (.cons 1 (.i .i64) (.cons 1 (.sl 1 (.i .i64)) (.nil)))))))))))) (by kernel_rfl) (by kernel_rfl) (hval 0 24 v0 rfl rfl) h0
  obtain ⟨c1, rfl, O1⟩ := Aem (n := 4) (q := .cons 1 (.i .i64) (.cons 1 (.i .i64) (.cons 1 (.i .i64) (.cons 1 (.sl 2 (.cons 1 (.i .i64) (.cons 1 (.i .i64) (.nil)))) (.nil))))) (by kernel_rfl) (by kernel_rfl) (hval 1 126 v1 rfl rfl) h1
  obtain ⟨s2, rfl, O2⟩ := vZ (n := 11) (q := .cons 1 (.i .i64) (.cons 1 (.i .i64) (.cons 1 (.i .i64) (.cons 1 (.b) (.cons 1 (.i .u32) (.cons 1 (.s) (.cons 1 (.sl 1 (.i .u8)) (.cons 4 (.cons 1 (.sl 1 (.i .i64)) (.cons 1 (.sl 1 (.i .i64)) (.cons 1 (.sl 1 (.i .i64)) (.cons 1 (.sl 1 (.i .u64)) (.nil))))) (.nil))))))))) Tryz.underlying25 (by kernel_rfl) (hval 2 25 v2 rfl rfl) h2
  exact Ad4 (Aak.fin O0 O1 O2 hT)
end Go.Proofs.YticgocmhmffneaaGreatDoor.coreUtc
