/- Plain facts of the slope. Conditions: none. -/
import Derived.Test.YtahojpppjpfjmaaGreatCrefsl
namespace Go.Proofs.YtahojpppjpfjmaaGreat
open Go.Eng
set_option linter.unusedVariables false
set_option linter.unusedSimpArgs false

/-! ### plain facts of the slope -/
structure SV (drift : Int) (v : Int × Int) : Prop where
  d0 : 1 ≤ v.2
  d1 : v.2 ≤ 1125899906842624
  n0 : -2251799813685248 ≤ v.1
  n1 : v.1 ≤ 2251799813685248
  up : v.1 * (1000 - dr drift) ≤ 2 * dr drift * v.2
  dn : -v.1 * (1000 - dr drift) ≤ 2 * dr drift * v.2
theorem slopeV_SV (drift : Int) (es : List E3) : SV drift (slopeV drift es) := by
  have hd := dr_bd drift
  unfold slopeV
  split
  · exact ⟨by decide, by decide, by decide, by decide, by simp only; omega, by simp only; omega⟩
  · rename_i h
    have hin : ∀ e ∈ es, InR (es.headD (0, 0, 0)) e := Classical.byContradiction fun x => h (.inr (.inr (.inr (.inl x))))
    have hn : ¬ 8 < es.length := fun x => h (.inr (.inl x))
    have hB : ¬ slopeD (es.headD (0, 0, 0)) es < 1 := fun x => h (.inr (.inr (.inr (.inr x))))
    obtain ⟨_, _, _, _, b5, b6, b7, b8, _⟩ := slope_bd (e0 := es.headD (0, 0, 0)) (by omega) hin
    generalize slopeN (es.headD (0, 0, 0)) es = A at *
    generalize slopeD (es.headD (0, 0, 0)) es = B at *
    have cd : 0 ≤ 2 * dr drift * B := Int.mul_nonneg (by omega) (by omega)
    have cc : 0 ≤ 2 * dr drift * (1000 - dr drift) := Int.mul_nonneg (by omega) (by omega)
    unfold bound
    split
    · exact ⟨by simp only; omega, by simp only; omega, by simp only; omega, by simp only; omega, Int.le_refl _, by simp only; rw [Int.neg_mul]; omega⟩
    · rename_i h1
      split
      · exact ⟨by simp only; omega, by simp only; omega, by simp only; omega, by simp only; omega, by simp only; rw [Int.neg_mul]; omega, by simp only; rw [Int.neg_neg]; omega⟩
      · rename_i h2
        refine ⟨by simp only; omega, by simp only; omega, by simp only; omega, by simp only; omega, ?_, ?_⟩
        · simp only
          by_cases x : 0 < A
          · have : ¬ A * (1000 - dr drift) > 2 * dr drift * B := fun y => h1 ⟨x, y⟩
            omega
          · have := Int.mul_le_mul_of_nonneg_right (show A ≤ 0 by omega) (show 0 ≤ 1000 - dr drift by omega)
            omega
        · simp only
          by_cases x : A < 0
          · have : ¬ -A * (1000 - dr drift) > 2 * dr drift * B := fun y => h2 ⟨x, y⟩
            omega
          · have := Int.mul_le_mul_of_nonneg_right (show -A ≤ 0 by omega) (show 0 ≤ 1000 - dr drift by omega)
            omega
end Go.Proofs.YtahojpppjpfjmaaGreat
