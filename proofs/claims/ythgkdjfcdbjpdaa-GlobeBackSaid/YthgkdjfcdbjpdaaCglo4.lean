/- Laws of layer 14: GlobeBack. Conditions: none. -/
import Derived.Test.YthgkdjfcdbjpdaaCglo3
namespace Go.Proofs.Ythgkdjfcdbjpdaa
open Go.Eng Go
set_option linter.unusedVariables false
set_option linter.unusedSimpArgs false

/-- is there a time at which the other clock's is one that can be and isn't below -/
def Reach (m : M5) (g : Int) : Prop := ∃ y, okG m y = true ∧ g ≤ raw m y
set_option maxRecDepth 20000 in
theorem law14_reaches.cl {drift : Int} {m : M5} {g : Int} {w : World} (hm : MB drift m) {k : TR [(false, [.b])] → World → Prop}
    (hk : ∀ b w', Gro w w' → (b = true → Reach m g) → k ((b, ()), ()) w') : clS Try.prog F.law14_reaches [aM m, .int .i64 g] w false [(false, [.b])] k := by
  refine law14_reaches.ok ?_
  unfold law14_reaches.wp
  refine alK_by fun p1 w2 e1 k1 u1 => ?_
  refine LoopT.by (fun z w' => Gro w w' ∧ Blk w' p1 (m5 m) ∧ 0 ≤ z.1 ∧ z.1 ≤ z.2.1 ∧ z.2.1 ≤ 1125899906842624)
    (fun z => (z.2.1 - z.1).toNat) ⟨u1, k1, by decide, by decide, by decide⟩ ?_
  clear k1
  rintro ⟨lo, hi, _⟩ w5 ⟨gw, k1, h0, h1, h2⟩ _
  dsimp only at h0 h1 h2 ⊢
  refine brD (fun c => ?_) fun c => ?_
  · have c : lo < hi := c
    rw [nzK_eq (by decide), mid_eq h0 c h2]
    refine k1.ld5 (ref14_Raw.cl (m := m) hm (by omega) (by omega) fun w8 u8 => brD (fun c' => ?_) fun c' => ?_)
    · rw [w64_in (by unfold I64; omega)]
      refine ⟨⟨gw.trans u8, k1.gro u8, (by show 0 ≤ (lo + hi) / 2 + 1; omega), (by show (lo + hi) / 2 + 1 ≤ hi; omega), h2⟩, ?_⟩
      show (hi - ((lo + hi) / 2 + 1)).toNat < (hi - lo).toNat
      omega
    · refine ⟨⟨gw.trans u8, k1.gro u8, h0, (by show lo ≤ (lo + hi) / 2; omega), (by show (lo + hi) / 2 ≤ _; omega)⟩, ?_⟩
      show ((lo + hi) / 2 - lo).toNat < (hi - lo).toNat
      omega
  · refine k1.ld5 (ref14_Global.cl (m := m) hm fun w8 u8 => brC (fun c' => ?_) fun c' => ?_)
    · have c' : okG m lo = true := c'
      refine hk _ w8 (gw.trans u8) fun h => ⟨lo, c', ?_⟩
      have h := of_decide_eq_true h
      unfold gV at h
      rw [if_pos c'] at h
      exact h
    · exact hk false w8 (gw.trans u8) fun h => by cases h

set_option maxRecDepth 20000 in
theorem law14_GlobeBack.cl {drift t g : Int} {s : Sl} {es : List E3} {w : World} (hE : Ents w s es) (ht : I64 t) (hg : I64 g) :
    clS Try.prog F.law14_GlobeBack [.int .i64 drift, .slice s.1 s.2.1 s.2.2, .int .i64 t, .int .i64 g] w false [(false, [.b])] (Holds w) := by
  refine law14_GlobeBack.ok ?_
  unfold law14_GlobeBack.wp
  have hl := hE.len
  refine law14_alive.cl fun w2 u2 => brF rfl (brD (fun c => holds u2 rfl) fun c => ?_)
  have c : ¬ (s.2.1 : Int) > 100 := c
  refine law14_filled.cl (hE.gro u2) (by omega) fun pt st sm w4 g4 hF => ?_
  have gd := fill_good es
  have h8 := hF.T.2.2.1
  have g24 := u2.trans g4
  refine globe_Of.cl hF.T.tv h8 gd (fun hnil w6 u6 => ?_) fun hne w6 u6 => ?_
  · refine alK_by fun p7 w8 e7 k7 u7 => k7.sta _ rfl rfl fun w9 k9 u9 => ?_
    have f9 : Gro w4 w9 := Gro.fresh u6 u7 u9 e7
    refine ref14_Of.cl (hF.M.gro f9) h8 gd (fun _ w11 u11 => ?_) fun h => absurd hnil h
    refine alK_by fun p12 w13 e12 k12 u12 => k12.sta _ rfl rfl fun w14 k14 u14 => brT rfl (holds ((g24.trans f9).trans (Gro.fresh u11 u12 u14 e12)) ?_)
    have := hF.M.len
    show ((sm.2.1 : Int) == 0) = true
    rw [this, hnil]; rfl
  · have hm := mapV_MB (drift := drift) hne gd
    obtain ⟨m, em⟩ : ∃ m, mapV drift (fillL es) = m := ⟨_, rfl⟩
    rw [em] at hm ⊢
    refine alK_by fun p7 w8 e7 k7 u7 => k7.sta (m5 m) rfl rfl fun w9 k9 u9 => ?_
    have f9 : Gro w4 w9 := Gro.fresh u6 u7 u9 e7
    refine ref14_Of.cl (hF.M.gro f9) h8 gd (fun h => absurd h hne) fun _ w11 u11 => ?_
    rw [em]
    refine alK_by fun p12 w13 e12 k12 u12 => k12.sta (m5 m) rfl rfl fun w14 k14 u14 => brF rfl ?_
    have f14 : Gro w9 w14 := Gro.fresh u11 u12 u14 e12
    have q := k9.gro f14
    have g14 := (g24.trans f9).trans f14
    refine CutT.by (fun _ w' => Gro w14 w') ?_ ?_
    · refine q.ld5 (globe_Map_Global.cl (m := m) hm fun w20 u20 => brC (fun o => ?_) fun _ => u20)
      have o : okG m t = true := o
      have e1 : gV m t = raw m t := by unfold gV; rw [if_pos o]
      obtain ⟨t0, t1, t2, t3⟩ := okG_iff.1 o
      refine (q.gro u20).ld5 (globe_Map_Back.cl (m := m) hm fun x b w23 u23 hb => ?_)
      dsimp only at hb
      rw [e1] at hb
      refine ((q.gro u20).gro u23).ld5 (globe_Map_Global.cl (m := m) hm fun w26 u26 => ?_)
      cases b
      · rcases (hb.2 rfl).2 with h | h | h
        · omega
        · omega
        · have := h t o; omega
      obtain ⟨x0, ox, hx, hlow⟩ := hb.1 rfl
      have hxt : x ≤ t := by
        by_cases h : t < x
        · have := hlow t t0 h; omega
        · omega
      have hr : raw m x = raw m t := by have := raw_mono hm hxt; omega
      have e2 : gV m x = raw m x := by unfold gV; rw [if_pos ox]
      refine brF rfl (brD (fun c => absurd (show x > t from c) (by omega)) fun _ => brF (by show (!okG m x) = false; rw [ox]; rfl) (brF ?_ ((u20.trans u23).trans u26)))
      show (gV m x != gV m t) = false
      rw [e1, e2, hr]; simp
    · rintro _ w17 u17 _
      have g17 := g14.trans u17
      refine (q.gro u17).ld5 (globe_Map_Back.cl (m := m) hm fun x b w29 u29 hb => ?_)
      have k29 := (k14.gro u17).gro u29
      have g29 := g17.trans u29
      cases b
      · obtain ⟨rfl, hno⟩ := hb.2 rfl
        refine brT rfl (brT rfl (brD (fun c => holds g29 rfl) fun c1 => brD (fun c => holds g29 rfl) fun c2 => ?_))
        refine k29.ld5 (law14_reaches.cl (m := m) hm fun b w32 u32 hr => holds (g29.trans u32) ?_)
        cases b
        · rfl
        · obtain ⟨y, oy, hy⟩ := hr rfl
          rcases hno with h | h | h
          · omega
          · omega
          · have := h y oy; omega
      · obtain ⟨x0, ox, hx, hlow⟩ := hb.1 rfl
        obtain ⟨_, x1, _, _⟩ := okG_iff.1 ox
        have e2 : gV m x = raw m x := by unfold gV; rw [if_pos ox]
        refine brF rfl (k29.ld5 (ref14_Global.cl (m := m) hm fun w35 u35 => brT ox (brT ?_ (brE (fun c => holds (g29.trans u35) rfl) fun c => ?_))))
        · show decide (gV m x ≥ g) = true
          rw [e2]; exact decide_eq_true hx
        · have c : x ≠ 0 := c
          rw [w64_in (n := x - 1) (by unfold I64; omega)]
          refine (k29.gro u35).ld5 (ref14_Raw.cl (m := m) hm (by omega) (by omega) fun w38 u38 => holds ((g29.trans u35).trans u38) ?_)
          exact decide_eq_true (hlow (x - 1) (by omega) (by omega))
end Go.Proofs.Ythgkdjfcdbjpdaa
