/- Contracts of layer 13: Most, Gain, Over, the entries' Good, the sums. Conditions: integers of 64 bits; Over's numbers as its text bears them. -/
import Derived.Test.YtgpgdhopmifbpaaCref
import Derived.Test.YtgpgdhopmifbpaaEngS
namespace Go.Proofs.Ytgpgdhopmifbpaa
open Go.Eng
set_option linter.unusedVariables false
set_option linter.unusedSimpArgs false

def goodB (e : E3) : Bool := decide (0 ≤ e.1) && decide (e.1 ≤ 1125899906842624) && decide (-1125899906842624 ≤ e.2.1) && decide (e.2.1 ≤ 1125899906842624) && decide (1 ≤ e.2.2) && decide (e.2.2 ≤ 63)
theorem goodB_iff {e : E3} : goodB e = true ↔ 0 ≤ e.1 ∧ e.1 ≤ 1125899906842624 ∧ -1125899906842624 ≤ e.2.1 ∧ e.2.1 ≤ 1125899906842624 ∧ 1 ≤ e.2.2 ∧ e.2.2 ≤ 63 := by
  simp [goodB, and_assoc]

theorem good_wp {x y z : Int} {w2 : World} {k : TR [(false, [.b])] → World → Prop} (h : k ((goodB (x, y, z), ()), ()) w2) :
    brB (decide (x ≥ 0)) (brB (decide (x ≤ 1125899906842624)) (brB (decide (y ≥ Int.negSucc 1125899906842623)) (brB (decide (y ≤ 1125899906842624)) (brB (decide (z ≥ 1))
      (k ((decide (z ≤ 63), ()), ()) w2) (k ((false, ()), ()) w2)) (k ((false, ()), ()) w2)) (k ((false, ()), ()) w2)) (k ((false, ()), ()) w2)) (k ((false, ()), ()) w2) := by
  have e : goodB (x, y, z) = (decide (x ≥ 0) && decide (x ≤ 1125899906842624) && decide (y ≥ Int.negSucc 1125899906842623) && decide (y ≤ 1125899906842624) && decide (z ≥ 1) && decide (z ≤ 63)) := rfl
  rw [e] at h
  revert h
  cases decide (x ≥ 0) <;> cases decide (x ≤ 1125899906842624) <;> cases decide (y ≥ Int.negSucc 1125899906842623) <;> cases decide (y ≤ 1125899906842624) <;> cases decide (z ≥ 1) <;> exact fun h => h

theorem table_Entry_Good.cl {x y z : Int} {w : World} {k : TR [(false, [.b])] → World → Prop} (h : ∀ w', Gro w w' → k ((goodB (x, y, z), ()), ()) w') :
    clS Try.prog F.table_Entry_Good [.agg #[.int .i64 x, .int .i64 y, .int .i64 z]] w false [(false, [.b])] k := by
  refine table_Entry_Good.ok ?_
  unfold table_Entry_Good.wp
  refine alK_by fun b w1 e k1 u1 => ?_
  simp only [add_eq, Nat.zero_add, k1.ld (c := .i .i64) (i := 0) (v := .int .i64 x) (x := x) rfl (dec_i _ _), k1.ld (c := .i .i64) (i := 1) (v := .int .i64 y) (x := y) rfl (dec_i _ _), k1.ld (c := .i .i64) (i := 2) (v := .int .i64 z) (x := z) rfl (dec_i _ _)]
  exact good_wp (h w1 u1)
/-- d, between 0 and 10 -/
def dr (drift : Int) : Int := min (max drift 0) 10
theorem dr_bd (drift : Int) : 0 ≤ dr drift ∧ dr drift ≤ 10 := by unfold dr; omega
theorem slope_Most.cl {drift : Int} {w : World} {k : TR [(true, [.i .i64, .i .i64])] → World → Prop} (h : ∀ w', Gro w w' → k ((2 * dr drift, 1000 - dr drift, ()), ()) w') :
    clS Try.prog F.slope_Most [.int .i64 drift] w false [(true, [.i .i64, .i .i64])] k := by
  refine slope_Most.ok ?_
  unfold slope_Most.wp
  refine alK_by fun b w1 e k1 u1 => fix_Clamp.cl ?_
  have ec : clamp drift 0 10 = dr drift := by unfold clamp dr; omega
  have hd := dr_bd drift
  simp only [ec]
  rw [w64_in (n := 2 * dr drift) (by unfold I64; omega), w64_in (n := 1000 - dr drift) (by unfold I64; omega)]
  refine k1.st _ (by simp) rfl fun w2 k2 u2 => ?_
  simp only [k2.ldc (c := .i .i64) (o := 0) (i := 0) (v := .int .i64 (2 * dr drift)) (x := 2 * dr drift) rfl (dec_i _ _), k2.ldc (c := .i .i64) (o := 0) (i := 1) (v := .int .i64 (1000 - dr drift)) (x := 1000 - dr drift) rfl (dec_i _ _), ldN_nil]
  exact h w2 (u1.new u2 (by omega))
theorem slope_Slope_Gain.cl {a b t : Int} (ha : I64 a) (hb : I64 b) (ht : I64 t) {w : World} {k : TR [(false, [.i .i64])] → World → Prop} (h : ∀ w', Gro w w' → k ((mdV a t b, ()), ()) w') :
    clS Try.prog F.slope_Slope_Gain [.agg #[.int .i64 a, .int .i64 b], .int .i64 t] w false [(false, [.i .i64])] k := by
  refine slope_Slope_Gain.ok ?_
  unfold slope_Slope_Gain.wp
  refine alK_by fun p w1 e k1 u1 => ?_
  simp only [add_eq, Nat.zero_add, k1.ld (c := .i .i64) (i := 0) (v := .int .i64 a) (x := a) rfl (dec_i _ _), k1.ld (c := .i .i64) (i := 1) (v := .int .i64 b) (x := b) rfl (dec_i _ _)]
  exact fix_MulDiv.cl ha ht hb fun w2 g2 => h w2 (u1.trans g2)
theorem slope_over.cl {a b c d : Int} (ha : 0 ≤ a ∧ I64 a) (hb : 0 ≤ b ∧ I64 b) (hc : 0 ≤ c ∧ I64 c) (hd : 0 ≤ d ∧ I64 d) {w : World} {k : TR [(false, [.b])] → World → Prop} (h : ∀ w', Gro w w' → k ((decide (a * d > c * b), ()), ()) w') :
    clS Try.prog F.slope_over [.agg #[.int .i64 a, .int .i64 b], .agg #[.int .i64 c, .int .i64 d]] w false [(false, [.b])] k := by
  refine slope_over.ok ?_
  unfold slope_over.wp
  refine alK_by fun p w1 e k1 u1 => alK_by fun q w2 e2 k2 u2 => ?_
  have k1 := k1.gro u2
  have W : ∀ {x : Int}, 0 ≤ x ∧ I64 x → IntKind.wrap .u64 x = x ∧ U64 x := fun {x} hx => ⟨wu64_in (by unfold I64 at hx; unfold U64; omega), by unfold I64 at hx; unfold U64; omega⟩
  simp only [add_eq, Nat.zero_add, k1.ld (c := .i .i64) (i := 0) (v := .int .i64 a) (x := a) rfl (dec_i _ _), k1.ld (c := .i .i64) (i := 1) (v := .int .i64 b) (x := b) rfl (dec_i _ _),
    k2.ld (c := .i .i64) (i := 0) (v := .int .i64 c) (x := c) rfl (dec_i _ _), k2.ld (c := .i .i64) (i := 1) (v := .int .i64 d) (x := d) rfl (dec_i _ _)]
  rw [(W ha).1, (W hd).1]
  refine bits_Mul64.cl (W ha).2 (W hd).2 ?_
  simp only [add_eq, Nat.zero_add, k1.ld (c := .i .i64) (i := 0) (v := .int .i64 a) (x := a) rfl (dec_i _ _), k1.ld (c := .i .i64) (i := 1) (v := .int .i64 b) (x := b) rfl (dec_i _ _),
    k2.ld (c := .i .i64) (i := 0) (v := .int .i64 c) (x := c) rfl (dec_i _ _), k2.ld (c := .i .i64) (i := 1) (v := .int .i64 d) (x := d) rfl (dec_i _ _)]
  rw [(W hb).1, (W hc).1]
  refine bits_Mul64.cl (W hc).2 (W hb).2 ?_
  have h := h w2 (u1.trans u2)
  simp only
  generalize a * d = X at *
  generalize c * b = Y at *
  rw [brB_if]; split
  · rename_i x; have x : X / 18446744073709551616 > Y / 18446744073709551616 := of_decide_eq_true x
    rw [decide_eq_true (by omega)] at h; exact h
  · rename_i x; have x : ¬ X / 18446744073709551616 > Y / 18446744073709551616 := fun y => x (decide_eq_true y)
    rw [brB_if]; split
    · rename_i y; have y : X / 18446744073709551616 = Y / 18446744073709551616 := beq_iff_eq.1 y
      have e : decide (X % 18446744073709551616 > Y % 18446744073709551616) = decide (X > Y) := by rw [decide_eq_decide]; omega
      rw [e]; exact h
    · rename_i y; have y : ¬ X / 18446744073709551616 = Y / 18446744073709551616 := fun z => y (beq_iff_eq.2 z)
      rw [decide_eq_false (by omega)] at h; exact h

end Go.Proofs.Ytgpgdhopmifbpaa
