/- Contracts of layer 13: Most, Gain, Over, the entries' Good, the sums. Conditions: integers of 64 bits; Over's numbers as its text bears them. -/
import Derived.Test.YtahojpppjpfjmaaGreatCref
import Derived.Test.YtahojpppjpfjmaaGreatEngB
namespace Go.Proofs.YtahojpppjpfjmaaGreat
open Go.Eng
set_option linter.unusedVariables false
set_option linter.unusedSimpArgs false

def goodB (e : E3) : Bool := decide (0 ≤ e.1) && decide (e.1 ≤ 1125899906842624) && decide (-1125899906842624 ≤ e.2.1) && decide (e.2.1 ≤ 1125899906842624) && decide (1 ≤ e.2.2) && decide (e.2.2 ≤ 63)
theorem goodB_iff {e : E3} : goodB e = true ↔ 0 ≤ e.1 ∧ e.1 ≤ 1125899906842624 ∧ -1125899906842624 ≤ e.2.1 ∧ e.2.1 ≤ 1125899906842624 ∧ 1 ≤ e.2.2 ∧ e.2.2 ≤ 63 := by
  simp [goodB, and_assoc]

theorem good_wp {x y z : Int} {w2 : World} {k : TR [(false, [.b])] → World → Prop} (h : k ((goodB (x, y, z), ()), ()) w2) :
    brB (decide (x ≥ 0)) (brB (decide (x ≤ 1125899906842624)) (brB (decide (y ≥ Int.negSucc 1125899906842623)) (brB (decide (y ≤ 1125899906842624)) (brB (decide (z ≥ 1))
      (k ((decide (z ≤ 63), ()), ()) w2) (k ((false, ()), ()) w2)) (k ((false, ()), ()) w2)) (k ((false, ()), ()) w2)) (k ((false, ()), ()) w2)) (k ((false, ()), ()) w2) := by
  have e : goodB (x, y, z) = (decide (x ≥ 0) && decide (x ≤ 1125899906842624) && decide (y ≥ Int.negSucc 1125899906842623) && decide (y ≤ 1125899906842624) && decide (z ≥ 1) && decide (z ≤ 63)) := rfl
  rw [e] at h
  revert h
  cases decide (x ≥ 0) <;> cases decide (x ≤ 1125899906842624) <;> cases decide (y ≥ Int.negSucc 1125899906842623) <;> cases decide (y ≤ 1125899906842624) <;> cases decide (z ≥ 1) <;> exact fun h => h

theorem table_Entry_Good.cl {x y z : Int} {w : World} {k : TR [(false, [.b])] → World → Prop} (h : ∀ w', Gro w w' → k ((goodB (x, y, z), ()), ()) w') :
    clS Tryz.prog F.table_Entry_Good [.agg #[.int .i64 x, .int .i64 y, .int .i64 z]] w false [(false, [.b])] k := by
  refine table_Entry_Good.ok ?_
  unfold table_Entry_Good.wp
  refine alK_by fun b w1 e k1 u1 => ?_
  simp only [add_eq, Nat.zero_add, k1.ld (c := .i .i64) (i := 0) (v := .int .i64 x) (x := x) rfl (dec_i _ _), k1.ld (c := .i .i64) (i := 1) (v := .int .i64 y) (x := y) rfl (dec_i _ _), k1.ld (c := .i .i64) (i := 2) (v := .int .i64 z) (x := z) rfl (dec_i _ _)]
  exact good_wp (h w1 u1)
theorem ref12_Good.cl {x y z : Int} {w : World} {k : TR [(false, [.b])] → World → Prop} (h : ∀ w', Gro w w' → k ((goodB (x, y, z), ()), ()) w') :
    clS Tryz.prog F.ref12_Good [.agg #[.int .i64 x, .int .i64 y, .int .i64 z]] w false [(false, [.b])] k := by
  refine ref12_Good.ok ?_
  unfold ref12_Good.wp
  refine alK_by fun b w1 e k1 u1 => ?_
  simp only [add_eq, Nat.zero_add, k1.ld (c := .i .i64) (i := 0) (v := .int .i64 x) (x := x) rfl (dec_i _ _), k1.ld (c := .i .i64) (i := 1) (v := .int .i64 y) (x := y) rfl (dec_i _ _), k1.ld (c := .i .i64) (i := 2) (v := .int .i64 z) (x := z) rfl (dec_i _ _)]
  exact good_wp (h w1 u1)

/-- d, between 0 and 10 -/
def dr (drift : Int) : Int := min (max drift 0) 10
theorem dr_bd (drift : Int) : 0 ≤ dr drift ∧ dr drift ≤ 10 := by unfold dr; omega
theorem slope_Most.cl {drift : Int} {w : World} {k : TR [(true, [.i .i64, .i .i64])] → World → Prop} (h : ∀ w', Gro w w' → k ((2 * dr drift, 1000 - dr drift, ()), ()) w') :
    clS Tryz.prog F.slope_Most [.int .i64 drift] w false [(true, [.i .i64, .i .i64])] k := by
  refine slope_Most.ok ?_
  unfold slope_Most.wp
  refine alK_by fun b w1 e k1 u1 => fix_Clamp.cl ?_
  have ec : clamp drift 0 10 = dr drift := by unfold clamp dr; omega
  have hd := dr_bd drift
  simp only [ec]
  rw [w64_in (n := 2 * dr drift) (by unfold I64; omega), w64_in (n := 1000 - dr drift) (by unfold I64; omega)]
  refine k1.st _ (by simp) rfl fun w2 k2 u2 => ?_
  simp only [k2.ldc (c := .i .i64) (o := 0) (i := 0) (v := .int .i64 (2 * dr drift)) (x := 2 * dr drift) rfl (dec_i _ _), k2.ldc (c := .i .i64) (o := 0) (i := 1) (v := .int .i64 (1000 - dr drift)) (x := 1000 - dr drift) rfl (dec_i _ _), ldN_nil]
  exact h w2 (u1.new u2 (by omega))
theorem ref13_Most.cl {drift : Int} {w : World} {k : TR [(false, [.i .i64]), (false, [.i .i64])] → World → Prop} (h : k ((2 * dr drift, ()), (1000 - dr drift, ()), ()) w) :
    clS Tryz.prog F.ref13_Most [.int .i64 drift] w true [(false, [.i .i64]), (false, [.i .i64])] k := by
  refine ref13_Most.ok ?_
  unfold ref13_Most.wp
  have ec : (if 10 < (if 0 > drift then 0 else drift) then 10 else (if 0 > drift then 0 else drift)) = dr drift := by unfold dr; split <;> split <;> omega
  have hd := dr_bd drift
  rw [ec, w64_in (n := 2 * dr drift) (by unfold I64; omega), w64_in (n := 1000 - dr drift) (by unfold I64; omega)]
  exact h

theorem slope_Slope_Gain.cl {a b t : Int} (ha : I64 a) (hb : I64 b) (ht : I64 t) {w : World} {k : TR [(false, [.i .i64])] → World → Prop} (h : ∀ w', Gro w w' → k ((mdV a t b, ()), ()) w') :
    clS Tryz.prog F.slope_Slope_Gain [.agg #[.int .i64 a, .int .i64 b], .int .i64 t] w false [(false, [.i .i64])] k := by
  refine slope_Slope_Gain.ok ?_
  unfold slope_Slope_Gain.wp
  refine alK_by fun p w1 e k1 u1 => ?_
  simp only [add_eq, Nat.zero_add, k1.ld (c := .i .i64) (i := 0) (v := .int .i64 a) (x := a) rfl (dec_i _ _), k1.ld (c := .i .i64) (i := 1) (v := .int .i64 b) (x := b) rfl (dec_i _ _)]
  exact fix_MulDiv.cl ha ht hb fun w2 g2 => h w2 (u1.trans g2)
theorem ref13_Gain.cl {a b t : Int} (ha : I64 a) (hb : I64 b) (ht : I64 t) {w : World} {k : TR [(false, [.i .i64])] → World → Prop} (h : ∀ w', Gro w w' → k ((mdV a t b, ()), ()) w') :
    clS Tryz.prog F.ref13_Gain [.int .i64 a, .int .i64 b, .int .i64 t] w false [(false, [.i .i64])] k := by
  refine ref13_Gain.ok ?_
  unfold ref13_Gain.wp
  exact ref01_MulDiv.cl ha ht hb fun w2 g2 => h w2 g2

theorem slope_over.cl {a b c d : Int} (ha : 0 ≤ a ∧ I64 a) (hb : 0 ≤ b ∧ I64 b) (hc : 0 ≤ c ∧ I64 c) (hd : 0 ≤ d ∧ I64 d) {w : World} {k : TR [(false, [.b])] → World → Prop} (h : ∀ w', Gro w w' → k ((decide (a * d > c * b), ()), ()) w') :
    clS Tryz.prog F.slope_over [.agg #[.int .i64 a, .int .i64 b], .agg #[.int .i64 c, .int .i64 d]] w false [(false, [.b])] k := by
  refine slope_over.ok ?_
  unfold slope_over.wp
  refine alK_by fun p w1 e k1 u1 => alK_by fun q w2 e2 k2 u2 => ?_
  have k1 := k1.gro u2
  have W : ∀ {x : Int}, 0 ≤ x ∧ I64 x → IntKind.wrap .u64 x = x ∧ U64 x := fun {x} hx => ⟨wu64_in (by unfold I64 at hx; unfold U64; omega), by unfold I64 at hx; unfold U64; omega⟩
  simp only [add_eq, Nat.zero_add, k1.ld (c := .i .i64) (i := 0) (v := .int .i64 a) (x := a) rfl (dec_i _ _), k1.ld (c := .i .i64) (i := 1) (v := .int .i64 b) (x := b) rfl (dec_i _ _),
    k2.ld (c := .i .i64) (i := 0) (v := .int .i64 c) (x := c) rfl (dec_i _ _), k2.ld (c := .i .i64) (i := 1) (v := .int .i64 d) (x := d) rfl (dec_i _ _)]
  rw [(W ha).1, (W hd).1]
  refine bits_Mul64.cl (W ha).2 (W hd).2 ?_
  simp only [add_eq, Nat.zero_add, k1.ld (c := .i .i64) (i := 0) (v := .int .i64 a) (x := a) rfl (dec_i _ _), k1.ld (c := .i .i64) (i := 1) (v := .int .i64 b) (x := b) rfl (dec_i _ _),
    k2.ld (c := .i .i64) (i := 0) (v := .int .i64 c) (x := c) rfl (dec_i _ _), k2.ld (c := .i .i64) (i := 1) (v := .int .i64 d) (x := d) rfl (dec_i _ _)]
  rw [(W hb).1, (W hc).1]
  refine bits_Mul64.cl (W hc).2 (W hb).2 ?_
  have h := h w2 (u1.trans u2)
  simp only
  generalize a * d = X at *
  generalize c * b = Y at *
  rw [brB_if]; split
  · rename_i x; have x : X / 18446744073709551616 > Y / 18446744073709551616 := of_decide_eq_true x
    rw [decide_eq_true (by omega)] at h; exact h
  · rename_i x; have x : ¬ X / 18446744073709551616 > Y / 18446744073709551616 := fun y => x (decide_eq_true y)
    rw [brB_if]; split
    · rename_i y; have y : X / 18446744073709551616 = Y / 18446744073709551616 := beq_iff_eq.1 y
      have e : decide (X % 18446744073709551616 > Y % 18446744073709551616) = decide (X > Y) := by rw [decide_eq_decide]; omega
      rw [e]; exact h
    · rename_i y; have y : ¬ X / 18446744073709551616 = Y / 18446744073709551616 := fun z => y (beq_iff_eq.2 z)
      rw [decide_eq_false (by omega)] at h; exact h

/-- the reference's way: the quotient of a d by b, bit by bit -/
theorem ref13_Over.cl {a b c d : Int} (ha : 0 ≤ a ∧ a ≤ 4503599627370496) (hb : 1 ≤ b ∧ b ≤ 4503599627370496) (hd : 0 ≤ d ∧ d ≤ 1000) {w : World} {k : TR [(false, [.b])] → World → Prop} (h : k ((decide (a * d > c * b), ()), ()) w) :
    clS Tryz.prog F.ref13_Over [.int .i64 a, .int .i64 b, .int .i64 c, .int .i64 d] w false [(false, [.b])] k := by
  refine ref13_Over.ok ?_
  unfold ref13_Over.wp
  obtain ⟨d, rfl⟩ := Int.eq_ofNat_of_zero_le hd.1
  have hd' : d ≤ 1000 := by omega
  refine LoopT.by (fun z w' => w = w' ∧ ∃ t : Nat, t ≤ 10 ∧ z = (a * ((d / 2 ^ t : Nat) : Int) / b, a * ((d / 2 ^ t : Nat) : Int) % b, (t : Int) - 1, ())) (fun z => (z.2.2.1 + 1).toNat) ⟨rfl, 10, by omega, ?_⟩ ?_
  · have : d / 2 ^ 10 = 0 := Nat.div_eq_of_lt (by omega)
    rw [this]; simp
  rintro z w2 ⟨rfl, t, ht, rfl⟩ _
  rw [brB_if]; split
  case isFalse m =>
    have m : t = 0 := by simp at m; omega
    subst m
    rw [Nat.pow_zero, Nat.div_one]
    simp only
    have e := Int.mul_ediv_add_emod (a * (d : Int)) b
    have e1 := Int.emod_nonneg (a * (d : Int)) (b := b) (by omega)
    have e2 := Int.emod_lt_of_pos (a * (d : Int)) (b := b) (by omega)
    generalize a * (d : Int) = X at *
    generalize X / b = Q at *
    generalize X % b = r at *
    rw [brB_if]; split
    · rename_i x; have x : Q > c := of_decide_eq_true x
      have : c * b < X := by
        have := Int.mul_le_mul_of_nonneg_left (show c + 1 ≤ Q by omega) (show 0 ≤ b by omega)
        rw [Int.mul_add, Int.mul_comm b c] at this; omega
      rw [decide_eq_true (by omega)] at h; exact h
    · rename_i x; have x : ¬ Q > c := fun y => x (decide_eq_true y)
      rw [brB_if]; split
      · rename_i y; have y : Q = c := beq_iff_eq.1 y
        subst y
        rw [Int.mul_comm] at e
        have e : decide (r > 0) = decide (X > Q * b) := by rw [decide_eq_decide]; omega
        rw [e]; exact h
      · rename_i y; have y : ¬ Q = c := fun z => y (beq_iff_eq.2 z)
        have : X < c * b := by
          have := Int.mul_le_mul_of_nonneg_left (show Q + 1 ≤ c by omega) (show 0 ≤ b by omega)
          rw [Int.mul_add, Int.mul_comm b c] at this; omega
        rw [decide_eq_false (by omega)] at h; exact h
  rename_i m
  have m : 1 ≤ t := by simp at m; omega
  obtain ⟨s, rfl⟩ : ∃ s, t = s + 1 := ⟨t - 1, by omega⟩
  have es : (((s + 1 : Nat) : Int) - 1) = (s : Int) := by omega
  have eu : IntKind.wrap .u64 (s : Int) = (s : Int) := wu64_in (by unfold U64; omega)
  simp only [es, eu]
  rw [shr_eq s (by show s ≤ 64; omega), ← Int.natCast_ediv]
  have e2 : d / 2 ^ s = 2 * (d / 2 ^ (s + 1)) + d / 2 ^ s % 2 := by
    have := Nat.div_add_mod (d / 2 ^ s) 2
    rw [Nat.div_div_eq_div_mul, ← Nat.pow_succ] at this; exact this.symm
  have hβ : d / 2 ^ s % 2 < 2 := Nat.mod_lt _ (by decide)
  have hD : d / 2 ^ s ≤ 1000 := Nat.le_trans (Nat.div_le_self _ _) hd'
  have et : Int.tmod ((d / 2 ^ s : Nat) : Int) 2 = ((d / 2 ^ s % 2 : Nat) : Int) := by rw [Int.tmod_eq_emod_of_nonneg (by omega)]; rfl
  rw [et]
  generalize hD' : d / 2 ^ s = D at *
  generalize hE : d / 2 ^ (s + 1) = E at *
  generalize hB : D % 2 = β at *
  have pa := mul_bd ha.1 ha.2 (show 0 ≤ (E : Int) by omega) (show (E : Int) ≤ 500 by omega)
  have qe := Int.mul_ediv_add_emod (a * (E : Int)) b
  have q1 := Int.emod_nonneg (a * (E : Int)) (b := b) (by omega)
  have q2 := Int.emod_lt_of_pos (a * (E : Int)) (b := b) (by omega)
  have q3 := Int.ediv_nonneg pa.1 (show 0 ≤ b by omega)
  have q4 := Int.ediv_le_self b pa.1
  have ae := Int.mul_ediv_add_emod a b
  have a1 := Int.emod_nonneg a (b := b) (by omega)
  have a2 := Int.emod_lt_of_pos a (b := b) (by omega)
  have a3 := Int.ediv_nonneg ha.1 (show 0 ≤ b by omega)
  have a4 := Int.ediv_le_self b ha.1
  have at1 : Int.tdiv a b = a / b := Int.tdiv_eq_ediv_of_nonneg ha.1
  have at2 : Int.tmod a b = a % b := Int.tmod_eq_emod_of_nonneg ha.1
  rw [at1, at2]
  have uniq : ∀ {X Q r : Int}, b * Q + r = X → 0 ≤ r → r < b → X / b = Q ∧ X % b = r := fun {X Q r} h1 h2 h3 => (Int.ediv_emod_unique (by omega)).2 ⟨by omega, h2, h3⟩
  generalize hq : a * (E : Int) / b = q at *
  generalize hr : a * (E : Int) % b = r at *
  refine CutT.by (fun z w' => w = w' ∧ b * z.1 + z.2.1 = 2 * (a * (E : Int)) ∧ 0 ≤ z.2.1 ∧ z.2.1 < b ∧ 0 ≤ z.1 ∧ z.1 ≤ 2 * q + 1) ?_ ?_
  · have w1 : IntKind.wrap .i64 (2 * r) = 2 * r := w64_in (by unfold I64; omega)
    have w2' : IntKind.wrap .i64 (2 * q) = 2 * q := w64_in (by unfold I64; omega)
    simp only [w1, w2']
    have f : b * (2 * q) = 2 * (b * q) := Int.mul_left_comm _ _ _
    rw [brB_if]; split
    · rename_i x; have x : 2 * r ≥ b := of_decide_eq_true x
      rw [w64_in (n := 2 * q + 1) (by unfold I64; omega), w64_in (n := 2 * r - b) (by unfold I64; omega)]
      refine ⟨by trivial, ?_, by (try simp only); omega, by (try simp only); omega, by (try simp only); omega, by (try simp only); omega⟩
      (try simp only); rw [Int.mul_add, f]; omega
    · rename_i x; have x : ¬ 2 * r ≥ b := fun y => x (decide_eq_true y)
      refine ⟨by trivial, ?_, by (try simp only); omega, by (try simp only); omega, by (try simp only); omega, by (try simp only); omega⟩
      (try simp only); rw [f]; omega
  rintro ⟨q', r', u⟩ w2 ⟨rfl, g1, g2, g3, g4, g5⟩ _
  simp only at g1 g2 g3 g4 g5 ⊢
  have e4 : IntKind.wrap .i64 ((s : Int) - 1) = (s : Int) - 1 := w64_in (by unfold I64; omega)
  rw [shK_eq (by omega), nzK_eq (by decide), e4, brB_if]
  split
  · rename_i x; have x : β = 1 := by have := beq_iff_eq.1 x; omega
    subst x
    rw [nzK_eq (by omega), nzK_eq (by omega)]
    have eX : a * (D : Int) = 2 * (a * (E : Int)) + a := by rw [e2, Int.natCast_add, Int.mul_add, Int.natCast_mul, Int.mul_left_comm]; simp
    have w1 : IntKind.wrap .i64 (r' + a % b) = r' + a % b := w64_in (by unfold I64; omega)
    have w2' : IntKind.wrap .i64 (q' + IntKind.wrap .i64 (a / b)) = q' + a / b := by rw [w64_in (n := a / b) (by unfold I64; omega), w64_in (by unfold I64; omega)]
    rw [w1, w2', brB_if]
    have f : b * (q' + a / b) = b * q' + b * (a / b) := Int.mul_add _ _ _
    split
    · rename_i x; have x : r' + a % b ≥ b := of_decide_eq_true x
      rw [w64_in (n := q' + a / b + 1) (by unfold I64; omega), w64_in (n := r' + a % b - b) (by unfold I64; omega)]
      have := uniq (X := a * (D : Int)) (Q := q' + a / b + 1) (r := r' + a % b - b) (by rw [Int.mul_add, f]; omega) (by omega) (by omega)
      exact ⟨⟨by trivial, s, by omega, by rw [hD', this.1, this.2]⟩, by (try simp only); omega⟩
    · rename_i x; have x : ¬ r' + a % b ≥ b := fun y => x (decide_eq_true y)
      have := uniq (X := a * (D : Int)) (Q := q' + a / b) (r := r' + a % b) (by rw [f]; omega) (by omega) (by omega)
      exact ⟨⟨by trivial, s, by omega, by rw [hD', this.1, this.2]⟩, by (try simp only); omega⟩
  · rename_i x; have x : β = 0 := by
      have : ¬ β = 1 := fun y => x (beq_iff_eq.2 (by rw [y]; rfl))
      omega
    subst x
    have eX : a * (D : Int) = 2 * (a * (E : Int)) := by rw [e2, Nat.add_zero, Int.natCast_mul, Int.mul_left_comm]; simp
    have := uniq (X := a * (D : Int)) (Q := q') (r := r') (by omega) (by omega) (by omega)
    exact ⟨⟨by trivial, s, by omega, by rw [hD', this.1, this.2]⟩, by (try simp only); omega⟩
end Go.Proofs.YtahojpppjpfjmaaGreat
