/- The laws of chapter 13: each answers true and leaves what was there as it was. Conditions: arguments are integers of 64 bits, entries in a slice of any length. -/
import Derived.Test.YtccnlakbplmhnaaCrefsl
namespace Go.Proofs.Ytccnlakbplmhnaa
open Go.Eng
set_option linter.unusedVariables false
set_option linter.unusedSimpArgs false

/-! ### plain facts of the slope -/
structure SV (drift : Int) (v : Int × Int) : Prop where
  d0 : 1 ≤ v.2
  d1 : v.2 ≤ 1125899906842624
  n0 : -2251799813685248 ≤ v.1
  n1 : v.1 ≤ 2251799813685248
  up : v.1 * (1000 - dr drift) ≤ 2 * dr drift * v.2
  dn : -v.1 * (1000 - dr drift) ≤ 2 * dr drift * v.2
theorem slopeV_SV (drift : Int) (es : List E3) : SV drift (slopeV drift es) := by
  have hd := dr_bd drift
  unfold slopeV
  split
  · exact ⟨by decide, by decide, by decide, by decide, by simp only; omega, by simp only; omega⟩
  · rename_i h
    have hin : ∀ e ∈ es, InR (es.headD (0, 0, 0)) e := Classical.byContradiction fun x => h (.inr (.inr (.inr (.inl x))))
    have hn : ¬ 8 < es.length := fun x => h (.inr (.inl x))
    have hB : ¬ slopeD (es.headD (0, 0, 0)) es < 1 := fun x => h (.inr (.inr (.inr (.inr x))))
    obtain ⟨_, _, _, _, b5, b6, b7, b8, _⟩ := slope_bd (e0 := es.headD (0, 0, 0)) (by omega) hin
    generalize slopeN (es.headD (0, 0, 0)) es = A at *
    generalize slopeD (es.headD (0, 0, 0)) es = B at *
    have cd : 0 ≤ 2 * dr drift * B := Int.mul_nonneg (by omega) (by omega)
    have cc : 0 ≤ 2 * dr drift * (1000 - dr drift) := Int.mul_nonneg (by omega) (by omega)
    unfold bound
    split
    · exact ⟨by simp only; omega, by simp only; omega, by simp only; omega, by simp only; omega, Int.le_refl _, by simp only; rw [Int.neg_mul]; omega⟩
    · rename_i h1
      split
      · exact ⟨by simp only; omega, by simp only; omega, by simp only; omega, by simp only; omega, by simp only; rw [Int.neg_mul]; omega, by simp only; rw [Int.neg_neg]; omega⟩
      · rename_i h2
        refine ⟨by simp only; omega, by simp only; omega, by simp only; omega, by simp only; omega, ?_, ?_⟩
        · simp only
          by_cases x : 0 < A
          · have : ¬ A * (1000 - dr drift) > 2 * dr drift * B := fun y => h1 ⟨x, y⟩
            omega
          · have := Int.mul_le_mul_of_nonneg_right (show A ≤ 0 by omega) (show 0 ≤ 1000 - dr drift by omega)
            omega
        · simp only
          by_cases x : A < 0
          · have : ¬ -A * (1000 - dr drift) > 2 * dr drift * B := fun y => h2 ⟨x, y⟩
            omega
          · have := Int.mul_le_mul_of_nonneg_right (show -A ≤ 0 by omega) (show 0 ≤ 1000 - dr drift by omega)
            omega

theorem two_ents {w : World} {b : Nat} {x y z u v t : Int} (h : Blk w b [.int .i64 x, .int .i64 y, .int .i64 z, .int .i64 u, .int .i64 v, .int .i64 t]) : Ents w (some ⟨b, 0, none⟩, 2, 2) [(x, y, z), (u, v, t)] :=
  ⟨rfl, fun _ => ⟨_, rfl, h.news⟩⟩
theorem pair_eq {a b c d : Int} : ((a == b) && ((c == d) && true)) = decide (a = b ∧ c = d) := by
  rw [Bool.and_true, Bool.decide_and]; rfl

set_option maxRecDepth 10000 in
theorem alive_1 : slopeV 10 [(0, 0, 1), (1000, 5, 1)] = (5000, 1000000) := by decide +kernel
set_option maxRecDepth 10000 in
theorem alive_2 : slopeV 1 [(0, 0, 1), (1000, 5, 1)] = (2, 999) := by decide +kernel

theorem law13_alive.cl {w : World} {k : TR [(false, [.b])] → World → Prop} (h : ∀ w', Gro w w' → k ((true, ()), ()) w') :
    clS Try.prog F.law13_alive [] w false [(false, [.b])] k := by
  refine law13_alive.ok ?_
  unfold law13_alive.wp
  refine alK_by fun p1 w1 e1 k1 u1 => alK_by fun p3 w2 e3 k3 u3 => ?_
  have l1 := k1.lt
  have k1 := k1.gro u3
  have g2 := u1.trans u3
  have s1 := u1.size
  refine k1.sta _ rfl rfl fun w3 k1 v1 => ?_
  have l3 := k3.lt
  have k3 := k3.upd v1 (by omega)
  refine k3.sta _ rfl rfl fun w4 k3 v3 => ?_
  have k1 := k1.upd v3 (by omega)
  have g4 : Gro w w4 := Upd.new (Upd.new g2 v1 (by omega)) v3 (by omega)
  refine k1.ld3 (k3.ld3 (alK_by fun p9 w5 e9 k9 u9 => ?_))
  refine slope_Of.cl (two_ents k9) fun w6 u6 => ?_
  rw [alive_1]
  refine brT (by rfl) ?_
  have k1 := (k1.gro u9).gro u6
  have k3 := (k3.gro u9).gro u6
  refine k1.ld3 (k3.ld3 (alK_by fun p15 w7 e15 k15 u15 => ?_))
  refine slope_Of.cl (two_ents k15) fun w8 u8 => ?_
  rw [alive_2]
  exact h w8 ((((g4.trans u9).trans u6).trans u15).trans u8)

theorem law13_SlopeIs.cl {drift : Int} {s : Sl} {es : List E3} {w : World} (hE : Ents w s es) :
    clS Try.prog F.law13_SlopeIs [.int .i64 drift, .slice s.1 s.2.1 s.2.2] w false [(false, [.b])] (Holds w) := by
  refine law13_SlopeIs.ok ?_
  unfold law13_SlopeIs.wp
  refine law13_alive.cl fun w1 g1 => brNot (fun h => by cases h) fun _ => ?_
  have hl := hE.len
  refine brD (fun _ => holds g1 rfl) fun c => ?_
  have c : ¬ (s.2.1 : Int) > 100 := c
  refine slope_Of.cl (hE.gro g1) fun w2 g2 => alK_by fun p5 w3 e3 k5 u3 => ?_
  refine k5.sta _ rfl rfl fun w4 k5 u4 => ?_
  have g4 : Gro w w4 := Upd.new (Upd.gro (g1.trans g2) u3) u4 (fun h => absurd (g1.trans g2).size (by omega))
  refine law13_rows.cl (hE.gro g4) (by omega) fun s' w5 g5 hE' => ref13_Of.cl hE' fun w6 g6 => slope_Most.cl fun w7 g7 => alK_by fun p14 w8 e8 k14 u8 => ?_
  refine k14.sta _ rfl rfl fun w9 k14 u9 => ?_
  refine ref13_Most.cl ?_
  have g7' : Gro w4 w7 := (g5.trans g6).trans g7
  have l5 := k5.lt
  have := g7'.size
  have k5 := ((k5.gro g7').gro u8).upd u9 (by omega)
  have g9 : Gro w w9 := Upd.new (Upd.gro (g4.trans g7') u8) u9 (fun h => absurd (g4.trans g7').size (by omega))
  refine k5.i0 rfl (brE (fun _ => ?_) fun h => absurd rfl h)
  refine k5.i1 1 rfl (brE (fun _ => ?_) fun h => absurd rfl h)
  refine k14.i0 rfl (brE (fun _ => ?_) fun h => absurd rfl h)
  refine k14.i1 1 rfl (holds g9 (by simp))

theorem law13_SlopeBound.cl {drift : Int} {s : Sl} {es : List E3} {w : World} (hE : Ents w s es) :
    clS Try.prog F.law13_SlopeBound [.int .i64 drift, .slice s.1 s.2.1 s.2.2] w false [(false, [.b])] (Holds w) := by
  refine law13_SlopeBound.ok ?_
  unfold law13_SlopeBound.wp
  refine law13_alive.cl fun w1 g1 => brNot (fun h => by cases h) fun _ => ?_
  refine brD (fun _ => holds g1 rfl) fun c => ?_
  refine slope_Of.cl (hE.gro g1) fun w2 g2 => alK_by fun p5 w3 e3 k5 u3 => ?_
  have sv := slopeV_SV drift es
  revert sv
  generalize slopeV drift es = v
  rintro ⟨d0, d1, n0, n1, up, dn⟩
  refine k5.sta [.int .i64 v.1, .int .i64 v.2] rfl rfl fun w4 k5 u4 => ?_
  have g4 : Gro w w4 := Upd.new (Upd.gro (g1.trans g2) u3) u4 (fun h => absurd (g1.trans g2).size (by omega))
  refine ref13_Most.cl (k5.i1 1 rfl (brD (fun h => absurd h (by show ¬ v.2 < 1; omega)) fun _ => ?_))
  refine k5.i0 rfl (brD (fun h => absurd h (by show ¬ v.1 < _; rw [negS]; omega)) fun _ => ?_)
  refine k5.i0 rfl (brD (fun h => absurd h (by show ¬ v.1 > _; omega)) fun _ => ?_)
  refine k5.i0 rfl (k5.i0 rfl (k5.i1 1 rfl ?_))
  have wn : IntKind.wrap .i64 (0 - v.1) = -v.1 := by rw [w64_in (by unfold I64; omega)]; omega
  rw [wn]
  have hd := dr_bd drift
  refine ref13_Over.cl (by split <;> omega) (by omega) (by simp only; omega) ?_
  refine holds g4 ?_
  have : ¬ (if -v.1 > v.1 then -v.1 else v.1) * (1000 - dr drift) > 2 * dr drift * v.2 := by split <;> omega
  show (!decide _) = true
  rw [decide_eq_false this]; rfl

theorem law13_SlopeGains.cl {a b t drift r : Int} (ha : I64 a) (hb : I64 b) (ht : I64 t) {w : World} :
    clS Try.prog F.law13_SlopeGains [.agg #[.int .i64 a, .int .i64 b], .int .i64 t, .int .i64 drift, .int .i64 r] w false [(false, [.b])] (Holds w) := by
  refine law13_SlopeGains.ok ?_
  unfold law13_SlopeGains.wp
  refine alK_by fun p1 w1 e1 k1 u1 => law13_alive.cl fun w2 g2 => brNot (fun h => by cases h) fun _ => ?_
  rw [drK_eq]
  have k2 := (k1.gro g2).drew
  have g2 : Gro w w2.drew := Upd.drew (u1.trans g2)
  have c0 : w2.drew.cell? ⟨p1, 0, none⟩ = some (.int .i64 a) := k2.cell 0
  have c1 : w2.drew.cell? (Addr.add ⟨p1, 0, none⟩ 1) = some (.int .i64 b) := by rw [add_eq]; exact k2.cell 1
  refine k2.ld2 (k2.i0 rfl (k2.i1 1 rfl ?_))
  refine slope_Slope_Gain.cl ha hb ht fun w3 g3 => ?_
  have k3 := k2.gro g3
  have d0 : w3.cell? ⟨p1, 0, none⟩ = some (.int .i64 a) := k3.cell 0
  have d1 : w3.cell? (Addr.add ⟨p1, 0, none⟩ 1) = some (.int .i64 b) := by rw [add_eq]; exact k3.cell 1
  rw [add_zero', c0, c1]
  refine ⟨⟨d1, d0, d0, d1, trivial⟩, ?_⟩
  refine ref13_Gain.cl ha hb ht fun w4 g4 => ?_
  have k4 := k3.gro g4
  have f0 : w4.cell? ⟨p1, 0, none⟩ = some (.int .i64 a) := k4.cell 0
  have f1 : w4.cell? (Addr.add ⟨p1, 0, none⟩ 1) = some (.int .i64 b) := by rw [add_eq]; exact k4.cell 1
  refine ⟨⟨f0, f1, trivial⟩, ?_⟩
  have g := (g2.trans g3).trans g4
  refine brN (fun h => absurd rfl h) fun _ => ?_
  have hd := dr_bd drift
  refine ref13_Most.cl (brD (fun _ => holds g rfl) fun r0 => brD (fun _ => holds g rfl) fun r1 => ?_)
  refine slope_Most.cl fun w5 g5 => ?_
  simp only
  have p := mul_bd (a := r) (b := 1000 - dr drift) (m := 1099511627776) (n := 1000) (by omega) (by omega) (by omega) (by omega)
  have q := mul_bd (a := r) (b := 2 * dr drift) (m := 1099511627776) (n := 20) (by omega) (by omega) (by omega) (by omega)
  rw [w64_in (n := r * (1000 - dr drift)) (by unfold I64; omega), w64_in (n := r * (2 * dr drift)) (by unfold I64; omega)]
  refine slope_Slope_Gain.cl (by unfold I64; omega) (by unfold I64; omega) (by unfold I64; omega) fun w6 g6 => ?_
  have e : 2 * dr drift * (r * (1000 - dr drift)) / (1000 - dr drift) = r * (2 * dr drift) := by
    rw [← Int.mul_assoc, Int.mul_comm (2 * dr drift)]
    exact Int.mul_ediv_cancel _ (by omega)
  have := md_win (a := 2 * dr drift) (b := r * (1000 - dr drift)) (c := 1000 - dr drift) (by omega) e (by unfold I64; omega)
  rw [this.1]
  exact holds ((g.trans g5).trans g6) (by simp)
end Go.Proofs.Ytccnlakbplmhnaa
