/- Contracts of layer 14: Global, below and Back. Conditions: a map of entries. -/
import Derived.Test.YtahojpppjpfjmaaGreatCglo
namespace Go.Proofs.YtahojpppjpfjmaaGreat
open Go.Eng Go
set_option linter.unusedVariables false
set_option linter.unusedSimpArgs false

abbrev aM (m : M5) : Value := .agg #[.int .i64 m.1, .int .i64 m.2.1, .int .i64 m.2.2.1, .int .i64 m.2.2.2.1, .int .i64 m.2.2.2.2]
theorem mdV_gn {drift : Int} {m : M5} (h : MB drift m) {t : Int} (h0 : 0 ≤ t) (h1 : t ≤ 1125899906842624) : mdV m.2.2.1 (t - m.1) m.2.2.2.1 = gn m t := by
  have hb := gn_bd h h0 h1
  have hd := h.sv.d0
  simp only at hd
  have : mdB m.2.2.1 (t - m.1) m.2.2.2.1 = true := by
    unfold mdB
    rw [decide_eq_false (by omega), Bool.not_false, Bool.true_and, decide_eq_true_eq]
    unfold gn at hb
    unfold I64; omega
  unfold mdV
  rw [if_pos this]; rfl
theorem MB.I {drift : Int} {m : M5} (h : MB drift m) : I64 m.2.2.1 ∧ I64 m.2.2.2.1 := by
  have := h.sv.d0
  have := h.sv.d1
  have := h.sv.n0
  have := h.sv.n1
  simp only at *
  unfold I64; omega
theorem clamp_in {x : Int} (h0 : -1125899906842624 ≤ x) (h1 : x ≤ 1125899906842624) : clamp x (Int.negSucc 1125899906842623) 1125899906842624 = x := by
  unfold clamp; rw [negS]; omega
theorem sat_in {a b : Int} (h : I64 (a + b)) : sat a b = a + b := by unfold sat; unfold I64 at h; rw [if_neg (by omega), if_neg (by omega)]

set_option maxRecDepth 20000 in
theorem globe_Map_Global.cl {drift : Int} {m : M5} {t : Int} {w : World} (hm : MB drift m) {k : TR [(false, [.i .i64]), (false, [.b])] → World → Prop}
    (hk : ∀ w', Gro w w' → k ((gV m t, ()), (okG m t, ()), ()) w') :
    clS Tryz.prog F.globe_Map_Global [aM m, .int .i64 t] w true [(false, [.i .i64]), (false, [.b])] k := by
  refine globe_Map_Global.ok ?_
  unfold globe_Map_Global.wp
  have no : ∀ w', Gro w w' → okG m t = false → k ((0, ()), (false, ()), ()) w' := fun w' g h => by
    have := hk w' g
    unfold gV at this
    rw [h] at this; exact this
  refine alK_by fun p1 w2 e1 k1 u1 => brD (fun c => no w2 u1 ?_) fun c0 => brD (fun c => no w2 u1 ?_) fun c1 => ?_
  · unfold okG; rw [decide_eq_false (by omega : ¬ 0 ≤ t)]; rfl
  · unfold okG; rw [decide_eq_false (by omega : ¬ t ≤ 1125899906842624), Bool.and_false]; rfl
  have hl0 := hm.l0
  have hl1 := hm.l1
  have ho0 := hm.o0
  have ho1 := hm.o1
  refine k1.i0 rfl (brD (fun c => absurd (show m.1 < 0 from c) (by omega)) fun _ => k1.i0 rfl (brD (fun c => absurd (show m.1 > 1125899906842624 from c) (by omega)) fun _ => ?_))
  refine k1.ldp 2 rfl rfl (k1.i0 rfl ?_)
  have hb := gn_bd hm (t := t) (by omega) (by omega)
  have ew : IntKind.wrap .i64 (t - m.1) = t - m.1 := w64_in (by unfold I64; omega)
  dsimp only
  rw [ew]
  refine slope_Slope_Gain.cl hm.I.1 hm.I.2 (by unfold I64; omega) fun w8 u8 => ?_
  dsimp only
  rw [mdV_gn hm (by omega) (by omega)]
  refine (k1.gro u8).i1 1 rfl (fix_Clamp.cl ?_)
  dsimp only
  rw [clamp_in ho0 ho1]
  refine fix_Sat.cl (by unfold I64; omega) (by unfold I64; omega) (fix_Clamp.cl ?_)
  dsimp only
  rw [clamp_in hb.1 hb.2, sat_in (by unfold I64; omega)]
  refine fix_Sat.cl (by unfold I64; omega) (by unfold I64; omega) ?_
  dsimp only
  rw [sat_in (by unfold I64; omega)]
  have g := u1.trans u8
  have er : t + m.2.1 + gn m t = raw m t := rfl
  rw [er]
  refine brD (fun c => no w8 g ?_) fun c2 => brD (fun c => no w8 g ?_) fun c3 => ?_
  · have c : raw m t < 0 := c
    unfold okG; rw [decide_eq_false (by omega : ¬ 0 ≤ raw m t), Bool.and_false]; rfl
  · have c : raw m t > 1125899906842624 := c
    unfold okG; rw [decide_eq_false (by omega : ¬ raw m t ≤ 1125899906842624), Bool.and_false]
  · have c2 : ¬ raw m t < 0 := c2
    have c3 : ¬ raw m t > 1125899906842624 := c3
    have ok : okG m t = true := by
      unfold okG
      rw [decide_eq_true (by omega : 0 ≤ t), decide_eq_true (by omega : t ≤ 1125899906842624), decide_eq_true (by omega : 0 ≤ raw m t), decide_eq_true (by omega : raw m t ≤ 1125899906842624)]; rfl
    have := hk w8 g
    unfold gV at this
    rw [ok, if_pos rfl] at this
    exact this

set_option maxRecDepth 20000 in
theorem ref14_Raw.cl {drift : Int} {m : M5} {t : Int} {w : World} (hm : MB drift m) (h0 : 0 ≤ t) (h1 : t ≤ 1125899906842624) {k : TR [(false, [.i .i64])] → World → Prop}
    (hk : ∀ w', Gro w w' → k ((raw m t, ()), ()) w') : clS Tryz.prog F.ref14_Raw [aM m, .int .i64 t] w false [(false, [.i .i64])] k := by
  refine ref14_Raw.ok ?_
  unfold ref14_Raw.wp
  have hl0 := hm.l0
  have hl1 := hm.l1
  have ho0 := hm.o0
  have ho1 := hm.o1
  have hb := gn_bd hm h0 h1
  refine alK_by fun p1 w2 e1 k1 u1 => ?_
  rw [drK_eq]
  have k2 := k1.drew
  refine k2.i1 1 rfl (k2.i1 2 rfl (k2.i1 3 rfl (k2.i0 rfl ?_)))
  have ew : IntKind.wrap .i64 (t - m.1) = t - m.1 := w64_in (by unfold I64; omega)
  rw [ew]
  refine ref13_Gain.cl hm.I.1 hm.I.2 (by unfold I64; omega) fun w8 u8 => ⟨⟨k2.hold u8 (fun x => x) 0 (by simp), k2.hold u8 (fun x => x) 1 (by simp), trivial⟩, ?_⟩
  dsimp only
  rw [mdV_gn hm h0 h1, w64_in (n := t + m.2.1) (by unfold I64; omega), w64_in (n := t + m.2.1 + gn m t) (by unfold I64; omega)]
  exact hk w8 ((Upd.drew u1).trans u8 fun _ _ x => x)

set_option maxRecDepth 20000 in
theorem ref14_Global.cl {drift : Int} {m : M5} {t : Int} {w : World} (hm : MB drift m) {k : TR [(false, [.i .i64]), (false, [.b])] → World → Prop}
    (hk : ∀ w', Gro w w' → k ((gV m t, ()), (okG m t, ()), ()) w') :
    clS Tryz.prog F.ref14_Global [aM m, .int .i64 t] w true [(false, [.i .i64]), (false, [.b])] k := by
  refine ref14_Global.ok ?_
  unfold ref14_Global.wp
  have no : ∀ w', Gro w w' → okG m t = false → k ((0, ()), (false, ()), ()) w' := fun w' g h => by
    have := hk w' g
    unfold gV at this
    rw [h] at this; exact this
  refine alK_by fun p1 w2 e1 k1 u1 => brD (fun c => no w2 u1 ?_) fun c0 => brD (fun c => no w2 u1 ?_) fun c1 => ?_
  · unfold okG; rw [decide_eq_false (by omega : ¬ 0 ≤ t)]; rfl
  · unfold okG; rw [decide_eq_false (by omega : ¬ t ≤ 1125899906842624), Bool.and_false]; rfl
  refine k1.ld5 (ref14_Raw.cl (m := m) hm (by omega) (by omega) fun w8 u8 => ?_)
  have g := u1.trans u8
  refine brD (fun c => no w8 g ?_) fun c2 => brD (fun c => no w8 g ?_) fun c3 => ?_
  · have c : raw m t < 0 := c
    unfold okG; rw [decide_eq_false (by omega : ¬ 0 ≤ raw m t), Bool.and_false]; rfl
  · have c : raw m t > 1125899906842624 := c
    unfold okG; rw [decide_eq_false (by omega : ¬ raw m t ≤ 1125899906842624), Bool.and_false]
  · have c2 : ¬ raw m t < 0 := c2
    have c3 : ¬ raw m t > 1125899906842624 := c3
    have ok : okG m t = true := by
      unfold okG
      rw [decide_eq_true (by omega : 0 ≤ t), decide_eq_true (by omega : t ≤ 1125899906842624), decide_eq_true (by omega : 0 ≤ raw m t), decide_eq_true (by omega : raw m t ≤ 1125899906842624)]; rfl
    have := hk w8 g
    unfold gV at this
    rw [ok, if_pos rfl] at this
    exact this

theorem okG_iff {m : M5} {t : Int} : okG m t = true ↔ 0 ≤ t ∧ t ≤ 1125899906842624 ∧ 0 ≤ raw m t ∧ raw m t ≤ 1125899906842624 := by
  unfold okG; simp [and_assoc]

/-- what Back answers -/
def BackS (m : M5) (g x : Int) (b : Bool) : Prop :=
  (b = true → 0 ≤ x ∧ okG m x = true ∧ g ≤ raw m x ∧ ∀ y, 0 ≤ y → y < x → raw m y < g) ∧ (b = false → x = 0 ∧ (g < 0 ∨ g > 1125899906842624 ∨ ∀ y, okG m y = true → raw m y < g))
theorem mid_eq {lo hi : Int} (h0 : 0 ≤ lo) (h1 : lo < hi) (h2 : hi ≤ 1125899906842624) : IntKind.wrap .i64 (Int.tdiv (IntKind.wrap .i64 (lo + hi)) 2) = (lo + hi) / 2 := by
  rw [w64_in (n := lo + hi) (by unfold I64; omega), Int.tdiv_eq_ediv_of_nonneg (by omega), w64_in (by unfold I64; omega)]
end Go.Proofs.YtahojpppjpfjmaaGreat
