/- Contracts of layer 14: Global, below and Back. Conditions: a map of entries. -/
import Derived.Test.YthgkdjfcdbjpdaaCglo
namespace Go.Proofs.Ythgkdjfcdbjpdaa
open Go.Eng Go
set_option linter.unusedVariables false
set_option linter.unusedSimpArgs false

abbrev aM (m : M5) : Value := .agg #[.int .i64 m.1, .int .i64 m.2.1, .int .i64 m.2.2.1, .int .i64 m.2.2.2.1, .int .i64 m.2.2.2.2]
theorem mdV_gn {drift : Int} {m : M5} (h : MB drift m) {t : Int} (h0 : 0 ≤ t) (h1 : t ≤ 1125899906842624) : mdV m.2.2.1 (t - m.1) m.2.2.2.1 = gn m t := by
  have hb := gn_bd h h0 h1
  have hd := h.sv.d0
  simp only at hd
  have : mdB m.2.2.1 (t - m.1) m.2.2.2.1 = true := by
    unfold mdB
    rw [decide_eq_false (by omega), Bool.not_false, Bool.true_and, decide_eq_true_eq]
    unfold gn at hb
    unfold I64; omega
  unfold mdV
  rw [if_pos this]; rfl
theorem MB.I {drift : Int} {m : M5} (h : MB drift m) : I64 m.2.2.1 ∧ I64 m.2.2.2.1 := by
  have := h.sv.d0
  have := h.sv.d1
  have := h.sv.n0
  have := h.sv.n1
  simp only at *
  unfold I64; omega
theorem clamp_in {x : Int} (h0 : -1125899906842624 ≤ x) (h1 : x ≤ 1125899906842624) : clamp x (Int.negSucc 1125899906842623) 1125899906842624 = x := by
  unfold clamp; rw [negS]; omega
theorem sat_in {a b : Int} (h : I64 (a + b)) : sat a b = a + b := by unfold sat; unfold I64 at h; rw [if_neg (by omega), if_neg (by omega)]

set_option maxRecDepth 20000 in
theorem globe_Map_Global.cl {drift : Int} {m : M5} {t : Int} {w : World} (hm : MB drift m) {k : TR [(false, [.i .i64]), (false, [.b])] → World → Prop}
    (hk : ∀ w', Gro w w' → k ((gV m t, ()), (okG m t, ()), ()) w') :
    clS Try.prog F.globe_Map_Global [aM m, .int .i64 t] w true [(false, [.i .i64]), (false, [.b])] k := by
  refine globe_Map_Global.ok ?_
  unfold globe_Map_Global.wp
  have no : ∀ w', Gro w w' → okG m t = false → k ((0, ()), (false, ()), ()) w' := fun w' g h => by
    have := hk w' g
    unfold gV at this
    rw [h] at this; exact this
  refine alK_by fun p1 w2 e1 k1 u1 => brD (fun c => no w2 u1 ?_) fun c0 => brD (fun c => no w2 u1 ?_) fun c1 => ?_
  · unfold okG; rw [decide_eq_false (by omega : ¬ 0 ≤ t)]; rfl
  · unfold okG; rw [decide_eq_false (by omega : ¬ t ≤ 1125899906842624), Bool.and_false]; rfl
  have hl0 := hm.l0
  have hl1 := hm.l1
  have ho0 := hm.o0
  have ho1 := hm.o1
  refine k1.i0 rfl (brD (fun c => absurd (show m.1 < 0 from c) (by omega)) fun _ => k1.i0 rfl (brD (fun c => absurd (show m.1 > 1125899906842624 from c) (by omega)) fun _ => ?_))
  refine k1.ldp 2 rfl rfl (k1.i0 rfl ?_)
  have hb := gn_bd hm (t := t) (by omega) (by omega)
  have ew : IntKind.wrap .i64 (t - m.1) = t - m.1 := w64_in (by unfold I64; omega)
  dsimp only
  rw [ew]
  refine slope_Slope_Gain.cl hm.I.1 hm.I.2 (by unfold I64; omega) fun w8 u8 => ?_
  dsimp only
  rw [mdV_gn hm (by omega) (by omega)]
  refine (k1.gro u8).i1 1 rfl (fix_Clamp.cl ?_)
  dsimp only
  rw [clamp_in ho0 ho1]
  refine fix_Sat.cl (by unfold I64; omega) (by unfold I64; omega) (fix_Clamp.cl ?_)
  dsimp only
  rw [clamp_in hb.1 hb.2, sat_in (by unfold I64; omega)]
  refine fix_Sat.cl (by unfold I64; omega) (by unfold I64; omega) ?_
  dsimp only
  rw [sat_in (by unfold I64; omega)]
  have g := u1.trans u8
  have er : t + m.2.1 + gn m t = raw m t := rfl
  rw [er]
  refine brD (fun c => no w8 g ?_) fun c2 => brD (fun c => no w8 g ?_) fun c3 => ?_
  · have c : raw m t < 0 := c
    unfold okG; rw [decide_eq_false (by omega : ¬ 0 ≤ raw m t), Bool.and_false]; rfl
  · have c : raw m t > 1125899906842624 := c
    unfold okG; rw [decide_eq_false (by omega : ¬ raw m t ≤ 1125899906842624), Bool.and_false]
  · have c2 : ¬ raw m t < 0 := c2
    have c3 : ¬ raw m t > 1125899906842624 := c3
    have ok : okG m t = true := by
      unfold okG
      rw [decide_eq_true (by omega : 0 ≤ t), decide_eq_true (by omega : t ≤ 1125899906842624), decide_eq_true (by omega : 0 ≤ raw m t), decide_eq_true (by omega : raw m t ≤ 1125899906842624)]; rfl
    have := hk w8 g
    unfold gV at this
    rw [ok, if_pos rfl] at this
    exact this

set_option maxRecDepth 20000 in
theorem ref14_Raw.cl {drift : Int} {m : M5} {t : Int} {w : World} (hm : MB drift m) (h0 : 0 ≤ t) (h1 : t ≤ 1125899906842624) {k : TR [(false, [.i .i64])] → World → Prop}
    (hk : ∀ w', Gro w w' → k ((raw m t, ()), ()) w') : clS Try.prog F.ref14_Raw [aM m, .int .i64 t] w false [(false, [.i .i64])] k := by
  refine ref14_Raw.ok ?_
  unfold ref14_Raw.wp
  have hl0 := hm.l0
  have hl1 := hm.l1
  have ho0 := hm.o0
  have ho1 := hm.o1
  have hb := gn_bd hm h0 h1
  refine alK_by fun p1 w2 e1 k1 u1 => ?_
  rw [drK_eq]
  have k2 := k1.drew
  refine k2.i1 1 rfl (k2.i1 2 rfl (k2.i1 3 rfl (k2.i0 rfl ?_)))
  have ew : IntKind.wrap .i64 (t - m.1) = t - m.1 := w64_in (by unfold I64; omega)
  rw [ew]
  refine ref13_Gain.cl hm.I.1 hm.I.2 (by unfold I64; omega) fun w8 u8 => ⟨⟨k2.hold u8 (fun x => x) 0 (by simp), k2.hold u8 (fun x => x) 1 (by simp), trivial⟩, ?_⟩
  dsimp only
  rw [mdV_gn hm h0 h1, w64_in (n := t + m.2.1) (by unfold I64; omega), w64_in (n := t + m.2.1 + gn m t) (by unfold I64; omega)]
  exact hk w8 ((Upd.drew u1).trans u8 fun _ _ x => x)

set_option maxRecDepth 20000 in
theorem ref14_Global.cl {drift : Int} {m : M5} {t : Int} {w : World} (hm : MB drift m) {k : TR [(false, [.i .i64]), (false, [.b])] → World → Prop}
    (hk : ∀ w', Gro w w' → k ((gV m t, ()), (okG m t, ()), ()) w') :
    clS Try.prog F.ref14_Global [aM m, .int .i64 t] w true [(false, [.i .i64]), (false, [.b])] k := by
  refine ref14_Global.ok ?_
  unfold ref14_Global.wp
  have no : ∀ w', Gro w w' → okG m t = false → k ((0, ()), (false, ()), ()) w' := fun w' g h => by
    have := hk w' g
    unfold gV at this
    rw [h] at this; exact this
  refine alK_by fun p1 w2 e1 k1 u1 => brD (fun c => no w2 u1 ?_) fun c0 => brD (fun c => no w2 u1 ?_) fun c1 => ?_
  · unfold okG; rw [decide_eq_false (by omega : ¬ 0 ≤ t)]; rfl
  · unfold okG; rw [decide_eq_false (by omega : ¬ t ≤ 1125899906842624), Bool.and_false]; rfl
  refine k1.ld5 (ref14_Raw.cl (m := m) hm (by omega) (by omega) fun w8 u8 => ?_)
  have g := u1.trans u8
  refine brD (fun c => no w8 g ?_) fun c2 => brD (fun c => no w8 g ?_) fun c3 => ?_
  · have c : raw m t < 0 := c
    unfold okG; rw [decide_eq_false (by omega : ¬ 0 ≤ raw m t), Bool.and_false]; rfl
  · have c : raw m t > 1125899906842624 := c
    unfold okG; rw [decide_eq_false (by omega : ¬ raw m t ≤ 1125899906842624), Bool.and_false]
  · have c2 : ¬ raw m t < 0 := c2
    have c3 : ¬ raw m t > 1125899906842624 := c3
    have ok : okG m t = true := by
      unfold okG
      rw [decide_eq_true (by omega : 0 ≤ t), decide_eq_true (by omega : t ≤ 1125899906842624), decide_eq_true (by omega : 0 ≤ raw m t), decide_eq_true (by omega : raw m t ≤ 1125899906842624)]; rfl
    have := hk w8 g
    unfold gV at this
    rw [ok, if_pos rfl] at this
    exact this

theorem okG_iff {m : M5} {t : Int} : okG m t = true ↔ 0 ≤ t ∧ t ≤ 1125899906842624 ∧ 0 ≤ raw m t ∧ raw m t ≤ 1125899906842624 := by
  unfold okG; simp [and_assoc]

set_option maxRecDepth 20000 in
theorem globe_Map_below.cl {drift : Int} {m : M5} {t g : Int} {w : World} (hm : MB drift m) (h0 : 0 ≤ t) (h1 : t ≤ 1125899906842624) (g0 : 0 ≤ g) (g1 : g ≤ 1125899906842624) {k : TR [(false, [.b])] → World → Prop}
    (hk : ∀ w', Gro w w' → k ((decide (raw m t < g), ()), ()) w') : clS Try.prog F.globe_Map_below [aM m, .int .i64 t, .int .i64 g] w false [(false, [.b])] k := by
  refine globe_Map_below.ok ?_
  unfold globe_Map_below.wp
  have hl0 := hm.l0
  have hl1 := hm.l1
  have ho0 := hm.o0
  have ho1 := hm.o1
  have hb := gn_bd hm h0 h1
  refine alK_by fun p1 w2 e1 k1 u1 => k1.ld5 (globe_Map_Global.cl (m := m) hm fun w5 u5 => brC (fun c => ?_) fun c => ?_)
  · have c : okG m t = true := c
    have := hk w5 (u1.trans u5)
    show k ((decide (gV m t < g), ()), ()) w5
    unfold gV
    rw [if_pos c]; exact this
  · have c : okG m t = false := c
    have hno : ¬ (0 ≤ raw m t ∧ raw m t ≤ 1125899906842624) := fun h => by
      have := okG_iff.2 ⟨h0, h1, h.1, h.2⟩
      rw [c] at this; cases this
    rw [drK_eq]
    have k2 := (k1.gro u5).drew
    refine k2.i1 1 rfl (k2.ldp 2 rfl rfl (k2.i0 rfl (fix_Clamp.cl ⟨⟨k2.hold (Gro.refl _) (fun x => x) 0 (by simp), k2.hold2 (Gro.refl _) (fun x => x) 2 0 (by simp), k2.hold2 (Gro.refl _) (fun x => x) 2 1 (by simp), k2.hold (Gro.refl _) (fun x => x) 1 (by simp), trivial⟩, ?_⟩)))
    have ew : IntKind.wrap .i64 (t - m.1) = t - m.1 := w64_in (by unfold I64; omega)
    dsimp only
    rw [ew, clamp_in ho0 ho1]
    refine slope_Slope_Gain.cl hm.I.1 hm.I.2 (by unfold I64; omega) fun w8 u8 => ⟨⟨k2.hold u8 (fun x => x) 0 (by simp), k2.hold2 u8 (fun x => x) 2 0 (by simp), k2.hold2 u8 (fun x => x) 2 1 (by simp), k2.hold u8 (fun x => x) 1 (by simp), trivial⟩, ?_⟩
    dsimp only
    rw [mdV_gn hm h0 h1]
    refine fix_Clamp.cl ⟨⟨k2.hold u8 (fun x => x) 0 (by simp), k2.hold2 u8 (fun x => x) 2 0 (by simp), k2.hold2 u8 (fun x => x) 2 1 (by simp), k2.hold u8 (fun x => x) 1 (by simp), trivial⟩, ?_⟩
    dsimp only
    rw [clamp_in hb.1 hb.2, w64_in (n := t + m.2.1) (by unfold I64; omega), w64_in (n := t + m.2.1 + gn m t) (by unfold I64; omega)]
    have := hk w8 ((u1.trans u5).trans ((Gro.drew w5).trans u8))
    have er : t + m.2.1 + gn m t = raw m t := rfl
    rw [er]
    have e : decide (raw m t < g) = decide (raw m t < 0) := by
      by_cases h : raw m t < 0
      · rw [decide_eq_true h, decide_eq_true (by omega)]
      · rw [decide_eq_false h, decide_eq_false (by omega)]
    rw [e] at this
    exact this

/-- what Back answers -/
def BackS (m : M5) (g x : Int) (b : Bool) : Prop :=
  (b = true → 0 ≤ x ∧ okG m x = true ∧ g ≤ raw m x ∧ ∀ y, 0 ≤ y → y < x → raw m y < g) ∧ (b = false → x = 0 ∧ (g < 0 ∨ g > 1125899906842624 ∨ ∀ y, okG m y = true → raw m y < g))
theorem mid_eq {lo hi : Int} (h0 : 0 ≤ lo) (h1 : lo < hi) (h2 : hi ≤ 1125899906842624) : IntKind.wrap .i64 (Int.tdiv (IntKind.wrap .i64 (lo + hi)) 2) = (lo + hi) / 2 := by
  rw [w64_in (n := lo + hi) (by unfold I64; omega), Int.tdiv_eq_ediv_of_nonneg (by omega), w64_in (by unfold I64; omega)]
set_option maxRecDepth 20000 in
theorem globe_Map_Back.cl {drift : Int} {m : M5} {g : Int} {w : World} (hm : MB drift m) {k : TR [(false, [.i .i64]), (false, [.b])] → World → Prop}
    (hk : ∀ x b w', Gro w w' → BackS m g x b → k ((x, ()), (b, ()), ()) w') : clS Try.prog F.globe_Map_Back [aM m, .int .i64 g] w true [(false, [.i .i64]), (false, [.b])] k := by
  refine globe_Map_Back.ok ?_
  unfold globe_Map_Back.wp
  refine alK_by fun p1 w2 e1 k1 u1 => brD (fun c => hk 0 false w2 u1 ⟨(fun h => by cases h), fun _ => ⟨rfl, .inl c⟩⟩) fun c0 => brD (fun c => hk 0 false w2 u1 ⟨(fun h => by cases h), fun _ => ⟨rfl, .inr (.inl c)⟩⟩) fun c1 => ?_
  refine LoopT.by (fun z w' => Gro w w' ∧ Blk w' p1 (m5 m) ∧ 0 ≤ z.1 ∧ z.1 ≤ z.2.1 ∧ z.2.1 ≤ 1125899906842624 ∧ (∀ y, 0 ≤ y → y < z.1 → raw m y < g) ∧ (z.2.1 < 1125899906842624 → g ≤ raw m z.2.1))
    (fun z => (z.2.1 - z.1).toNat) ⟨u1, k1, by decide, by decide, by decide, (fun y h0 h1 => by have h1 : y < 0 := h1; omega), fun h => absurd h (by decide)⟩ ?_
  clear k1
  rintro ⟨lo, hi, _⟩ w5 ⟨gw, k1, h0, h1, h2, hlo, hhi⟩ _
  dsimp only at h0 h1 h2 hlo hhi ⊢
  refine brD (fun c => ?_) fun c => ?_
  · have c : lo < hi := c
    rw [nzK_eq (by decide), mid_eq h0 c h2]
    refine k1.ld5 (globe_Map_below.cl (m := m) hm (by omega) (by omega) (by omega) (by omega) fun w8 u8 => brD (fun c' => ?_) fun c' => ?_)
    · have c' : raw m ((lo + hi) / 2) < g := c'
      rw [w64_in (by unfold I64; omega)]
      refine ⟨⟨gw.trans u8, k1.gro u8, (by show 0 ≤ (lo + hi) / 2 + 1; omega), (by show (lo + hi) / 2 + 1 ≤ hi; omega), h2, fun y hy0 hy1 => ?_, hhi⟩, ?_⟩
      · have hy1 : y < (lo + hi) / 2 + 1 := hy1
        have := raw_mono hm (show y ≤ (lo + hi) / 2 by omega)
        omega
      · show (hi - ((lo + hi) / 2 + 1)).toNat < (hi - lo).toNat
        omega
    · have c' : ¬ raw m ((lo + hi) / 2) < g := c'
      refine ⟨⟨gw.trans u8, k1.gro u8, h0, (by show lo ≤ (lo + hi) / 2; omega), (by show (lo + hi) / 2 ≤ _; omega), hlo, fun _ => (by show g ≤ raw m ((lo + hi) / 2); omega)⟩, ?_⟩
      show ((lo + hi) / 2 - lo).toNat < (hi - lo).toNat
      omega
  · have c : ¬ lo < hi := c
    obtain rfl : lo = hi := by omega
    refine k1.ld5 (globe_Map_Global.cl (m := m) hm fun w8 u8 => brNot (fun c' => ?_) fun c' => brD (fun c2 => ?_) fun c2 => ?_)
    · have c' : okG m lo = false := c'
      refine hk 0 false w8 (gw.trans u8) ⟨(fun h => by cases h), fun _ => ⟨rfl, .inr (.inr fun y hy => ?_)⟩⟩
      obtain ⟨y0, y1, y2, y3⟩ := okG_iff.1 hy
      by_cases hyl : y < lo
      · exact hlo y y0 hyl
      · -- lo is out: above, or below
        have hmn := raw_mono hm (show lo ≤ y by omega)
        by_cases hlt : lo < 1125899906842624
        · have := hhi hlt
          have : okG m lo = true := okG_iff.2 ⟨h0, by omega, by omega, by omega⟩
          rw [c'] at this; cases this
        · obtain rfl : y = lo := by omega
          rw [c'] at hy; cases hy
    · have c' : okG m lo = true := c'
      have c2 : gV m lo < g := c2
      unfold gV at c2
      rw [if_pos c'] at c2
      refine hk 0 false w8 (gw.trans u8) ⟨(fun h => by cases h), fun _ => ⟨rfl, .inr (.inr fun y hy => ?_)⟩⟩
      obtain ⟨y0, y1, y2, y3⟩ := okG_iff.1 hy
      have hlt : ¬ lo < 1125899906842624 := fun h => by have := hhi h; omega
      have := raw_mono hm (show y ≤ lo by omega)
      omega
    · have c' : okG m lo = true := c'
      have c2 : ¬ gV m lo < g := c2
      unfold gV at c2
      rw [if_pos c'] at c2
      exact hk lo true w8 (gw.trans u8) ⟨fun _ => ⟨h0, c', by omega, hlo⟩, fun h => by cases h⟩
end Go.Proofs.Ythgkdjfcdbjpdaa
