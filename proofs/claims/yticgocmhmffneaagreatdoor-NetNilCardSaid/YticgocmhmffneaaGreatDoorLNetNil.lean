/- The statement NetNilCardSaid: the law answers true for every input, and leaves what was there as it was. Conditions: none. -/
import Derived.Test.YticgocmhmffneaaGreatDoorRows
import Derived.Test.YticgocmhmffneaaGreatDoorCards
import Derived.Test.YticgocmhmffneaaGreatDoorTie
import Derived.SevenTiedAt
import Derived.Test.YticgocmhmffneaaGreatDoorEngL
import Derived.Test.YticgocmhmffneaaGreatDoorMtD
namespace Go.Proofs.YticgocmhmffneaaGreatDoor.netNil
open Go.Proofs.YticgocmhmffneaaGreatDoor
open Go.Eng Go.ChangeShapes Go.WideShapes Go.ChangeAt Go.RowKit
set_option linter.unusedVariables false

theorem own : ownKnob Tryz.prog.godebug = none := by kernel_rfl
theorem laidOut : laidOutB Tryz.prog = true := by kernel_rfl

theorem kK {W : World} (h : laidMetH Tryz.prog [("math/bits.deBruijn64tab", Rows.laid_math_bits_deBruijn64tab)] W) : Tb W :=
  fH (tab := Lib.deBruijn64tab) (g := 0) (t := 461) (e := 5) (by kernel_rfl) (by kernel_rfl) (by kernel_rfl) (by kernel_rfl) Tryz.underlying461 Tryz.underlying5 (by kernel_rfl) h
theorem Sg (os : Os) (args : Array Value) : laidMetH Tryz.prog [("math/bits.deBruijn64tab", Rows.laid_math_bits_deBruijn64tab)] ((World.doorLaid Tryz.prog 400 os).forCall (fun _ _ => 0) ⟨#[], args, []⟩).memory :=
  laidMetH_of_parts3 (fuel := 8) (laidMet_of_run' 8 (by kernel_rfl) (by kernel_rfl)) (by kernel_rfl) (by kernel_rfl)

set_option maxRecDepth 100000 in
theorem lifted (os : Os) (started : os.Started) (H : Type) (enc : TypeId × Value → H) :
    ReturnsInHanded {} Tryz.checked os 11 .any (fun w args => (Rows.netNilSpec.pre enc Tryz.prog Tryz.f11 [] false w args ∧ laidMetH Tryz.prog [("math/bits.deBruijn64tab", Rows.laid_math_bits_deBruijn64tab)] w) ∧ sizedMet enc Tryz.prog Tryz.f11 (OpenSpec.ofChange Rows.netNilSpec) false w args) (Rows.netNilSpec.post enc Tryz.prog Tryz.f11 false true false false) := by
  refine Mr (C := Tryz.checked) (tb := 4) (laid := [("math/bits.deBruijn64tab", Rows.laid_math_bits_deBruijn64tab)]) started own (by kernel_rfl) Tryz.func11
    (ChangeSpec.witness_shaped (enc := enc) (C := Tryz.checked) (os := os) (X := fun w _ => laidMetH Tryz.prog [("math/bits.deBruijn64tab", Rows.laid_math_bits_deBruijn64tab)] w) false (World.doorLaid Tryz.prog 400 os) #[.int .i64 0, .slice none 0 0, .string ByteArray.empty] 8 rfl (World.shaped_of_RefB (by kernel_rfl) (by kernel_rfl)) (by kernel_rfl) (by kernel_rfl) (by kernel_rfl) (Sg os _))
    laidOut rfl (by kernel_rfl) (by kernel_rfl) Tryz.underlying4 ?_ ?_
  · intro ds hds
    match ds, hds with
    | [d0, d1, d2], _ => exact ⟨rfl, rfl, rfl⟩
  intro W base args ds ps hval hA hlt hsh hL
  have hT := kK hL
  change DataW.TrodAll enc Tryz.prog W 0 (fun _ => true) true Tryz.f11.params.toList args.toList ds ps at hA
  rw [Tryz.params11] at hA
  change ∀ (j : Nat) t v, Tryz.f11.params[j]? = some t → args[j]? = some v → Value.okWide Tryz.prog W .any base t v at hval
  rw [Tryz.params11] at hval
  obtain ⟨v0, vs0, d0, ds0, p0, q0, hargs, rfl, rfl, h0, r0⟩ := trodAll_cons hA
  obtain ⟨v1, vs1, d1, ds1, p1, q1, rfl, rfl, rfl, h1, r1⟩ := trodAll_cons r0
  obtain ⟨v2, vs2, d2, ds2, p2, q2, rfl, rfl, rfl, h2, r2⟩ := trodAll_cons r1
  obtain ⟨rfl, rfl, rfl⟩ := trodAll_nil r2
  obtain rfl : args = #[v0, v1, v2] := by cases args; simp_all
  obtain ⟨a0, rfl, w0⟩ := Ahe Tryz.underlying3 (hval 0 3 v0 rfl rfl) h0
  obtain ⟨s1, xs1, rfl, E1, w1⟩ := An6 (e := 5) (ks := [.u8]) Tryz.underlying41 (by kernel_rfl) (by kernel_rfl) (hval 1 41 v1 rfl rfl) h1
  obtain ⟨a2, rfl, w2⟩ := Aol Tryz.underlying9 (hval 2 9 v2 rfl rfl) h2
  exact Ad4 (law27_NetNil.cl hT)
end Go.Proofs.YticgocmhmffneaaGreatDoor.netNil
