/- Contracts of fix.MulDiv and of the reference's MulDiv with its parts Times and Over. Conditions: arguments are integers of 64 bits; Over's divisor is at most 2^63. -/
import Derived.Test.YtimdngcmbmamdaaCdiv
import Derived.Test.YtimdngcmbmamdaaEngB
namespace Go.Proofs.Ytimdngcmbmamdaa
open Go.Eng
set_option linter.unusedVariables false

def mdB (a b c : Int) : Bool := !decide (c < 1) && decide (I64 (a * b / c))
def mdV (a b c : Int) : Int := if mdB a b c = true then a * b / c else 0
theorem md_c {a b c : Int} (h : c < 1) : mdV a b c = 0 ∧ mdB a b c = false := by
  have : mdB a b c = false := by simp [mdB, h]
  exact ⟨by simp [mdV, this], this⟩
theorem md_lose {a b c : Int} (h : ¬ I64 (a * b / c)) : mdV a b c = 0 ∧ mdB a b c = false := by
  have : mdB a b c = false := by simp [mdB, h]
  exact ⟨by simp [mdV, this], this⟩
theorem md_win {a b c v : Int} (hc : ¬ c < 1) (e : a * b / c = v) (h : I64 v) : mdV a b c = v ∧ mdB a b c = true := by
  subst e
  have : mdB a b c = true := by simp [mdB, h]; omega
  exact ⟨by simp [mdV, this], this⟩
theorem md_V64 (a b c : Int) : I64 (mdV a b c) := by
  unfold mdV; split
  · rename_i h; simp [mdB] at h; exact h.2
  · decide
theorem md_same {a b : Int} (h : (decide (a < 0) == decide (b < 0)) = true) : a * b = (a.natAbs : Int) * (b.natAbs : Int) := by
  simp only [beq_iff_eq, decide_eq_decide] at h
  by_cases h1 : a < 0
  · have h2 := h.1 h1
    have e1 : (a.natAbs : Int) = -a := by omega
    have e2 : (b.natAbs : Int) = -b := by omega
    rw [e1, e2, Int.neg_mul_neg]
  · have h2 : ¬ b < 0 := fun x => h1 (h.2 x)
    have e1 : (a.natAbs : Int) = a := by omega
    have e2 : (b.natAbs : Int) = b := by omega
    rw [e1, e2]
theorem md_diff {a b : Int} (h : ¬ (decide (a < 0) == decide (b < 0)) = true) : a * b = -((a.natAbs : Int) * (b.natAbs : Int)) := by
  simp only [beq_iff_eq, decide_eq_decide] at h
  by_cases h1 : a < 0
  · have h2 : ¬ b < 0 := fun x => h ⟨fun _ => x, fun _ => h1⟩
    have e1 : (a.natAbs : Int) = -a := by omega
    have e2 : (b.natAbs : Int) = b := by omega
    rw [e1, e2, Int.neg_mul, Int.neg_neg]
  · have h2 : b < 0 := by
      by_cases x : b < 0
      · exact x
      · exact absurd ⟨fun y => absurd y h1, fun y => absurd y x⟩ h
    have e1 : (a.natAbs : Int) = a := by omega
    have e2 : (b.natAbs : Int) = -b := by omega
    rw [e1, e2, Int.mul_neg, Int.neg_neg]
theorem neg_div {P c : Int} (hc : 0 < c) : -P / c = if P % c > 0 then -(P / c) - 1 else -(P / c) := by
  have e := Int.mul_ediv_add_emod P c
  have e1 := Int.emod_nonneg P (b := c) (by omega)
  have e2 := Int.emod_lt_of_pos P hc
  split
  · refine ((Int.ediv_emod_unique hc (r := c - P % c)).2 ⟨?_, by omega, by omega⟩).1
    rw [Int.mul_sub, Int.mul_neg]; omega
  · refine ((Int.ediv_emod_unique hc (r := 0)).2 ⟨?_, by omega, by omega⟩).1
    rw [Int.mul_neg]; omega
theorem abs_bd {a : Int} (h : I64 a) : 0 ≤ (a.natAbs : Int) ∧ (a.natAbs : Int) ≤ 9223372036854775808 := by unfold I64 at h; omega

theorem abs_U {a : Int} (h : I64 a) : U64 (a.natAbs : Int) := by unfold I64 at h; unfold U64; omega

theorem fix_MulDiv.cl {a b c : Int} (ha : I64 a) (hb : I64 b) (hc : I64 c) {w : World} {k : TR [(false, [.i .i64]), (false, [.b])] → World → Prop}
    (h : ∀ w', Gro w w' → k ((mdV a b c, ()), (mdB a b c, ()), ()) w') :
    clS Try.prog F.fix_MulDiv [.int .i64 a, .int .i64 b, .int .i64 c] w true [(false, [.i .i64]), (false, [.b])] k := by
  refine fix_MulDiv.ok ?_
  unfold fix_MulDiv.wp
  rw [brB_if]; split
  · rename_i h1
    have h1 : c < 1 := by simpa using h1
    have := h w (Gro.refl w); rw [(md_c h1).1, (md_c h1).2] at this; exact this
  rename_i h1
  have h1 : ¬ c < 1 := by simpa using h1
  have wc : IntKind.wrap .u64 c = c := wu64_in (by unfold U64; unfold I64 at hc; omega)
  refine fix_Size.cl ha (fix_Size.cl hb ?_)
  have A := abs_bd ha
  have B := abs_bd hb
  refine bits_Mul64.cl (abs_U ha) (abs_U hb) ?_
  have PB := mul_bd A.1 A.2 B.1 B.2
  have hs := @md_same a b
  have hd := @md_diff a b
  simp only [wc]
  generalize hP : (a.natAbs : Int) * (b.natAbs : Int) = P at *
  have e := Int.mul_ediv_add_emod P c
  have e1 := Int.emod_nonneg P (b := c) (by omega)
  have e2 := Int.emod_lt_of_pos P (b := c) (by omega)
  have e3 := Int.ediv_nonneg PB.1 (show 0 ≤ c by omega)
  have nd := neg_div (P := P) (c := c) (by omega)
  have lose : ¬ I64 (a * b / c) → ∀ w', Gro w w' → k ((0, ()), (false, ()), ()) w' := fun x w' g => by
    have := h w' g; rw [(md_lose x).1, (md_lose x).2] at this; exact this
  have win : ∀ v, a * b / c = v → I64 v → ∀ w', Gro w w' → k ((v, ()), (true, ()), ()) w' := fun v x y w' g => by
    have := h w' g; rw [(md_win h1 x y).1, (md_win h1 x y).2] at this; exact this
  rw [brB_if]; split
  · rename_i g
    have g : c ≤ P / 18446744073709551616 := by simpa using g
    refine lose ?_ w (Gro.refl w)
    have : 18446744073709551616 ≤ P / c := Int.le_ediv_of_mul_le (by omega) (by omega)
    unfold I64
    by_cases x : (decide (a < 0) == decide (b < 0)) = true
    · rw [hs x]; omega
    · rw [hd x, nd]; split <;> omega
  rename_i g
  have g : P / 18446744073709551616 < c := by simpa using g
  refine bits_Div64.cl (by unfold U64; omega) (by unfold U64; omega) (by unfold U64; unfold I64 at hc; omega) g fun w1 g1 => ?_
  have eP : P / 18446744073709551616 * 18446744073709551616 + P % 18446744073709551616 = P := by omega
  simp only [eP]
  have e4 : P / c < 18446744073709551616 := Int.ediv_lt_of_lt_mul (by omega) (by omega)
  generalize hq : P / c = q at *
  generalize P % c = r at *
  rw [brB_if]; split
  · rename_i x
    have hs := hs x
    rw [hs, hq] at win lose
    rw [brB_if]; split
    · rename_i y; have y : 9223372036854775807 < q := by simpa using y
      exact lose (by unfold I64; omega) w1 g1
    · rename_i y; have y : ¬ 9223372036854775807 < q := by simpa using y
      rw [w64_in (by unfold I64; omega)]
      exact win q (by omega) (by unfold I64; omega) w1 g1
  rename_i x
  have hd := hd x
  rw [hd, nd] at win lose
  refine CutT.by (fun z w' => w1 = w' ∧ z = (if r > 0 then q + 1 else q, ()) ∧ z.1 < 18446744073709551616) ?_ ?_
  · rw [brB_if]; split
    · rename_i y; have y : 0 < r := by simpa using y
      rw [if_pos y] at lose
      rw [brB_if]; split
      · rename_i z; have z : IntKind.wrap .u64 (q + 1) = 0 := by simpa using z
        rw [wu64] at z
        exact lose (by unfold I64; omega) w1 g1
      · rename_i z; have z : ¬ IntKind.wrap .u64 (q + 1) = 0 := by simpa using z
        rw [wu64] at z
        have e : IntKind.wrap .u64 (q + 1) = q + 1 := by rw [wu64]; omega
        rw [e]
        exact ⟨rfl, by first | rfl | rw [if_pos y], by show q + 1 < _; omega⟩
    · rename_i y; have y : ¬ 0 < r := by simpa using y
      exact ⟨rfl, by rw [if_neg y], e4⟩
  rintro z w' ⟨rfl, rfl, hz⟩ _
  have e5 : (if r > 0 then -q - 1 else -q) = -(if r > 0 then q + 1 else q) := by split <;> omega
  rw [e5] at win lose
  have e6 : 0 ≤ (if r > 0 then q + 1 else q) := by split <;> omega
  simp only at hz ⊢
  generalize (if r > 0 then q + 1 else q) = v at *
  rw [brB_if]; split
  · rename_i y; have y : 9223372036854775808 < v := by simpa using y
    exact lose (by unfold I64; omega) w1 g1
  · rename_i y; have y : ¬ 9223372036854775808 < v := by simpa using y
    have e7 : IntKind.wrap .i64 (IntKind.wrap .u64 (0 - v)) = -v := by rw [wu64, w64]; omega
    rw [e7]
    exact win (-v) rfl (by unfold I64; omega) w1 g1
end Go.Proofs.Ytimdngcmbmamdaa
