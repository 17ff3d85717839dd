/- The laws of chapter 01: each answers true and leaves what was there as it was. Conditions: arguments are integers of 64 bits. -/
import Derived.Test.YtccnlakbplmhnaaCref
namespace Go.Proofs.Ytccnlakbplmhnaa
open Go.Eng
set_option linter.unusedVariables false
set_option linter.unusedSimpArgs false

theorem law01_alive.cl {w : World} {k : TR [(false, [.b])] → World → Prop} (h : ∀ w', Gro w w' → k ((true, ()), ()) w') :
    clS Try.prog F.law01_alive [] w false [(false, [.b])] k := by
  refine law01_alive.ok ?_
  unfold law01_alive.wp
  refine fix_Floor.cl (by decide) (by decide) fun w1 g1 => fix_MulDiv.cl (by decide) (by decide) (by decide) fun w2 g2 => ?_
  exact h w2 (g1.trans g2)

theorem law01_FixFloors.cl {a b : Int} (ha : I64 a) (hb : I64 b) {w : World} : clS Try.prog F.law01_FixFloors [.int .i64 a, .int .i64 b] w false [(false, [.b])] (Holds w) := by
  refine law01_FixFloors.ok ?_
  unfold law01_FixFloors.wp
  refine law01_alive.cl fun w1 g1 => ?_
  rw [Bool.not_true, brB_false]
  refine fix_Floor.cl ha hb fun w2 g2 => fix_Size.cl ha (ref01_Size.cl ha ?_)
  have g := g1.trans g2
  rw [bne_self_eq_false, brB_false, brB_if]
  split
  · rename_i h; have h : b < 1 := of_decide_eq_true h
    simp only [floorV, floorR, if_pos h, beq_self_eq_true, brB_true]
    exact holds g (by simp [h])
  · rename_i h; have h : ¬ b < 1 := fun x => h (decide_eq_true x)
    refine ref01_Floor.cl ha hb (by omega) fun w3 g3 => ?_
    simp only [floorV, floorR, if_neg h, beq_self_eq_true, brB_true, decide_eq_false h, Bool.not_false]
    have e0 := Int.emod_nonneg a (b := b) (by omega)
    have e1 := Int.emod_lt_of_pos a (b := b) (by omega)
    have e2 := Int.mul_ediv_add_emod a b
    rw [Int.mul_comm] at e2
    rw [decide_eq_true e0, brB_true, decide_eq_true e1, brB_true]
    refine holds (g.trans g3) ?_
    rw [beq_iff_eq]
    have : IntKind.wrap .i64 (IntKind.wrap .i64 (a / b * b) + a % b) = a := by
      unfold I64 at ha
      simp only [w64]; omega
    exact this

theorem law01_FixProducts.cl {a b c : Int} (ha : I64 a) (hb : I64 b) (hc : I64 c) {w : World} : clS Try.prog F.law01_FixProducts [.int .i64 a, .int .i64 b, .int .i64 c] w false [(false, [.b])] (Holds w) := by
  refine law01_FixProducts.ok ?_
  unfold law01_FixProducts.wp
  refine law01_alive.cl fun w1 g1 => ?_
  rw [Bool.not_true, brB_false]
  refine fix_MulDiv.cl ha hb hc fun w2 g2 => ref01_MulDiv.cl ha hb hc fun w3 g3 => ?_
  simp only [beq_self_eq_true, brB_true]
  exact holds ((g1.trans g2).trans g3) rfl

theorem md_scale {a c : Int} (ha : I64 a) (h : ¬ c < 1) : mdV a c c = a ∧ mdB a c c = true := md_win h (Int.mul_ediv_cancel _ (by omega)) ha

theorem law01_FixScales.cl {a c : Int} (ha : I64 a) (hc : I64 c) {w : World} : clS Try.prog F.law01_FixScales [.int .i64 a, .int .i64 c] w false [(false, [.b])] (Holds w) := by
  refine law01_FixScales.ok ?_
  unfold law01_FixScales.wp
  refine law01_alive.cl fun w1 g1 => ?_
  rw [Bool.not_true, brB_false, brB_if]
  split
  · rename_i h; have h : c < 1 := of_decide_eq_true h
    refine fix_MulDiv.cl ha hc hc fun w2 g2 => ?_
    exact holds (g1.trans g2) (by rw [(md_c h).2]; rfl)
  · rename_i h; have h : ¬ c < 1 := fun x => h (decide_eq_true x)
    refine fix_MulDiv.cl ha hc hc fun w2 g2 => ?_
    have s := md_scale ha h
    simp only [s.1, s.2, Bool.not_true, brB_false, bne_self_eq_false]
    have wc : IntKind.wrap .i64 (0 - c) = -c := by rw [w64_in (by unfold I64 at *; omega)]; omega
    rw [wc]
    refine fix_MulDiv.cl ha (by unfold I64 at *; omega) hc fun w3 g3 => ?_
    have g := (g1.trans g2).trans g3
    have e : a * -c / c = -a := by rw [Int.mul_neg, ← Int.neg_mul]; exact Int.mul_ediv_cancel _ (by omega)
    rw [brB_if]; split
    · rename_i x; have x : a = -9223372036854775808 := by simpa [negS] using x
      have l := md_lose (a := a) (b := -c) (c := c) (by rw [e, x]; decide)
      simp only [l.1, l.2, Bool.not_false, brB_true, beq_self_eq_true]
      exact holds g rfl
    · rename_i x; have x : ¬ a = -9223372036854775808 := by simpa [negS] using x
      have l := md_win (a := a) (b := -c) (c := c) h e (by unfold I64 at *; omega)
      simp only [l.1, l.2, brB_true]
      refine holds g ?_
      rw [w64_in (by unfold I64 at *; omega)]
      simp

theorem law01_FixClamps.cl {x low high : Int} {w : World} : clS Try.prog F.law01_FixClamps [.int .i64 x, .int .i64 low, .int .i64 high] w false [(false, [.b])] (Holds w) := by
  refine law01_FixClamps.ok ?_
  unfold law01_FixClamps.wp
  refine law01_alive.cl fun w1 g1 => ?_
  rw [Bool.not_true, brB_false]
  refine fix_Clamp.cl ?_
  simp only
  unfold clamp
  rw [brB_if]; split
  · rename_i h; have h : high < low := of_decide_eq_true h
    exact holds g1 (beq_iff_eq.2 (show max (min x high) low = low by omega))
  · rename_i h; have h : ¬ high < low := fun x => h (decide_eq_true x)
    rw [decide_eq_true (show max (min x high) low ≥ low by omega), brB_true, decide_eq_true (show max (min x high) low ≤ high by omega), brB_true, brB_if]
    split
    · exact holds g1 rfl
    · rename_i h1; have h1 : ¬ max (min x high) low = x := by simpa using h1
      rw [brB_if]; split
      · rename_i h2; have h2 : x < low := of_decide_eq_true h2
        rw [brB_if, if_pos (beq_iff_eq.2 (show max (min x high) low = low by omega))]
        exact holds g1 rfl
      · rename_i h2; have h2 : ¬ x < low := fun x => h2 (decide_eq_true x)
        rw [decide_eq_true (show x > high by omega), brB_true]
        exact holds g1 (beq_iff_eq.2 (show max (min x high) low = high by omega))

theorem law01_FixOrder.cl {a b c : Int} (ha : I64 a) (hb : I64 b) (hc : I64 c) {w : World} : clS Try.prog F.law01_FixOrder [.int .i64 a, .int .i64 b, .int .i64 c] w false [(false, [.b])] (Holds w) := by
  refine law01_FixOrder.ok ?_
  unfold law01_FixOrder.wp
  refine law01_alive.cl fun w1 g1 => ?_
  rw [Bool.not_true, brB_false, brB_if]
  split
  · exact holds g1 rfl
  · rename_i h; have h : ¬ b < a := fun x => h (decide_eq_true x)
    refine fix_Sat.cl ha hc (fix_Sat.cl hb hc ?_)
    refine holds g1 (decide_eq_true ?_)
    show sat a c ≤ sat b c
    unfold sat; unfold I64 at ha hb hc; repeat' split
    all_goals omega

theorem law01_FixBack.cl {a b : Int} (ha : I64 a) (hb : I64 b) {w : World} : clS Try.prog F.law01_FixBack [.int .i64 a, .int .i64 b] w false [(false, [.b])] (Holds w) := by
  refine law01_FixBack.ok ?_
  unfold law01_FixBack.wp
  refine law01_alive.cl fun w1 g1 => ?_
  rw [Bool.not_true, brB_false]
  refine fix_Add.cl ha hb ?_
  by_cases h : I64 (a + b)
  · simp only [addV, addB, if_pos h, decide_eq_true h, Bool.not_true, brB_false]
    refine fix_Sub.cl h hb ?_
    have e : a + b - b = a := by omega
    simp only [subV, subB, e, if_pos ha, decide_eq_true ha, brB_true, beq_self_eq_true]
    refine fix_Sat.cl ha hb (holds g1 ?_)
    rw [beq_iff_eq]; show sat a b = _
    unfold sat; unfold I64 at h; rw [if_neg (by omega), if_neg (by omega)]
  · simp only [addV, addB, if_neg h, decide_eq_false h, Bool.not_false, brB_true]
    exact holds g1 rfl

theorem law01_FixSums.cl {a b : Int} (ha : I64 a) (hb : I64 b) {w : World} : clS Try.prog F.law01_FixSums [.int .i64 a, .int .i64 b] w false [(false, [.b])] (Holds w) := by
  refine law01_FixSums.ok ?_
  unfold law01_FixSums.wp
  refine law01_alive.cl fun w1 g1 => ?_
  rw [Bool.not_true, brB_false]
  refine fix_Add.cl ha hb (ref01_Add.cl ha hb ?_)
  simp only [bne_self_eq_false, brB_false, beq_self_eq_true, Bool.not_true]
  refine CutT.by (fun _ w' => w1 = w') ?_ ?_
  · by_cases h : I64 (a + b)
    · have es : sat a b = a + b := by unfold sat; unfold I64 at h; rw [if_neg (by omega), if_neg (by omega)]
      simp only [addB, addV, if_pos h, decide_eq_true h, brB_true, Bool.not_true, brB_false]
      refine fix_Sat.cl ha hb ?_
      simp only [es, bne_self_eq_false, brB_false]
    · simp only [addB, addV, if_neg h, decide_eq_false h, brB_false, Bool.not_false, brB_true]
      rw [brB_if]; split
      · rename_i x; have x : 0 < b := of_decide_eq_true x
        have es : sat a b = 9223372036854775807 := by unfold sat; unfold I64 at h ha hb; rw [if_pos (by omega)]
        refine fix_Sat.cl ha hb ?_
        simp only [es, bne_self_eq_false, brB_false]
        rw [decide_eq_false (by omega), brB_false]
        try trivial
      · rename_i x; have x : ¬ 0 < b := fun y => x (decide_eq_true y)
        have x1 : b < 0 := by unfold I64 at h ha hb; omega
        have es : sat a b = Int.negSucc 9223372036854775807 := by rw [negS]; unfold sat; unfold I64 at h ha hb; rw [if_neg (by omega), if_pos (by omega)]; rfl
        rw [decide_eq_true x1, brB_true]
        refine fix_Sat.cl ha hb ?_
        simp only [es, bne_self_eq_false, brB_false]
  rintro _ w2 rfl _
  refine fix_Sub.cl ha hb ?_
  rw [brB_if]; split
  · rename_i x; have x : b = -9223372036854775808 := by simpa [negS] using x
    subst x
    by_cases h : a < 0
    · have h1 : I64 (a - -9223372036854775808) := by unfold I64 at *; omega
      simp only [subB, subV, if_pos h1, decide_eq_true h1, decide_eq_true h, beq_self_eq_true, brB_true, Bool.not_true, brB_false, w64_in h1]
      exact holds g1 rfl
    · have h1 : ¬ I64 (a - -9223372036854775808) := by unfold I64 at *; omega
      simp only [subB, subV, if_neg h1, decide_eq_false h1, decide_eq_false h, beq_self_eq_true, brB_true, Bool.not_false, brB_false]
      exact holds g1 rfl
  · rename_i x; have x : ¬ b = -9223372036854775808 := by simpa [negS] using x
    have wb : IntKind.wrap .i64 (0 - b) = -b := by rw [w64_in (by unfold I64 at *; omega)]; omega
    rw [wb]
    refine ref01_Add.cl ha (by unfold I64 at *; omega) ?_
    have e : a + -b = a - b := by omega
    simp only [addV, addB, subV, subB, e, beq_self_eq_true, brB_true]
    exact holds g1 rfl
end Go.Proofs.Ytccnlakbplmhnaa
