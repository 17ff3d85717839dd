/- Contracts of layer 16: a flood beats and tells its time; the laws' helpers. Conditions: none. -/
import Derived.Test.YtahojpppjpfjmaaGreatCflo5
namespace Go.Proofs.YtahojpppjpfjmaaGreat
open Go.Eng Go
set_option linter.unusedVariables false
set_option linter.unusedSimpArgs false

/-! ### beat -/
def b1f (f : Fl) (e : El) : Fl := if btB e = true then fgF f else f
def b1l (e : El) (es : List E3) : List E3 := if btB e = true then [] else es
def inT (loc : Int) : Bool := decide (0 ≤ loc) && decide (loc ≤ 1125899906842624)
theorem inT_iff {loc : Int} : inT loc = true ↔ 0 ≤ loc ∧ loc ≤ 1125899906842624 := by unfold inT; simp
theorem inT_no {loc : Int} (h : loc < 0 ∨ loc > 1125899906842624) : inT loc = false := by
  cases hb : inT loc
  · rfl
  · have := inT_iff.1 hb; omega
def btW (f : Fl) (e : El) (l : MkL) (es : List E3) (loc : Int) : S6 × Bool := wdF (b1f f e) (btE e) l (b1l e es) loc
def btF (f : Fl) (e : El) (l : MkL) (es : List E3) (loc : Int) : S6 × Bool := if inT loc = true then (if (btW f e l es loc).2 = true then ((btW f e l es loc).1, true) else ((0, 0, 0, 0, 0, 0), false)) else ((0, 0, 0, 0, 0, 0), false)
def b2e (e : El) (loc : Int) : El := if inT loc = true then isE (btE e) else btE e

set_option maxRecDepth 20000 in
set_option maxHeartbeats 1000000 in
theorem flood_Flood_Beat.cw {O : Nat → Prop} {bf be : Nat} {f : Fl} {e : El} {l : MkL} {es : List E3} {loc : Int} {w : World} (hF : FW w O bf be f e l es) {k : TR [(true, KS), (false, [.b])] → World → Prop}
    (h : ∀ w' O', FW w' O' bf be (b1f f e) (b2e e loc) l (b1l e es) → Nx O w O' w' → k (tS (btF f e l es loc).1, ((btF f e l es loc).2, ()), ()) w') :
    clS Tryz.prog F.flood_Flood_Beat [.pointer (some ⟨bf, 0, none⟩), .int .i64 loc] w true [(true, KS), (false, [.b])] k := by
  refine flood_Flood_Beat.ok ?_
  unfold flood_Flood_Beat.wp
  refine alK_by fun p1 w2 e1 k1 u1 => brF rfl ?_
  have np1 : ¬ O p1 := fun h => by have := hF.lt p1 h; omega
  have F2 := hF.gro u1
  have l1 := k1.lt
  unfold btF b2e at h
  refine CutT.by (fun _ w' => ∃ O', FW w' O' bf be (b1f f e) (btE e) l (b1l e es) ∧ Nx O w O' w' ∧ Blk w' p1 (encs KS (tS (0, 0, 0, 0, 0, 0))) ∧ ¬ O' p1) ?_ ?_
  · rw [ncK_eq]
    refine F2.elect ?_
    obtain ⟨r, E2, hr⟩ := F2.turnB
    refine elect_Elect_Beat.cl E2 fun w11 E11 u11 => ?_
    obtain ⟨F11, X11⟩ := hr _ _ _ E11 u11
    have k11 := X11.blk k1 np1
    have X11' := Nx.pre u1 X11
    refine brC (fun c => ?_) fun c => ?_
    · have c : btB e = true := c
      refine flood_Flood_forget.cw F11 fun w13 O' F13 X13 => ⟨O', ?_, X11'.trans X13, X13.blk k11.1 k11.2⟩
      unfold b1f b1l; rw [if_pos c, if_pos c]; exact F13
    · have c : ¬ btB e = true := by have c : btB e = false := c; rw [c]; simp
      refine ⟨O, ?_, X11', k11⟩
      unfold b1f b1l; rw [if_neg c, if_neg c]; exact F11
  rintro _ w7 ⟨O', F7, X7, k7, n7⟩ _
  have l7 := k7.lt
  have fin : ∀ {O'' : Nat → Prop} {w' w'' : World} {f' e' l' es'}, FW w' O'' bf be f' e' l' es' → Nx O w O'' w' → ¬ O'' p1 → Upd (fun x => x = p1) w' w'' → FW w'' O'' bf be f' e' l' es' ∧ Nx O w O'' w'' := fun hf X n u =>
    ⟨hf.upd u fun z hz h => by rw [h] at hz; exact n hz, Upd.trans X.u u fun i hi h => by omega, X.sub⟩
  refine brD (fun c => ?_) fun c1 => brD (fun c => ?_) fun c2 => ?_
  · have c : loc < 0 := c
    rw [if_neg (by rw [inT_no (.inl c)]; simp), if_neg (by rw [inT_no (.inl c)]; simp)] at h
    refine k7.sta _ rfl rfl fun w14 k14 u14 => k14.cA (cs := KS) (tS (0, 0, 0, 0, 0, 0)) rfl ?_
    obtain ⟨F14, X14⟩ := fin F7 X7 n7 u14
    exact h w14 O' F14 X14
  · have c : loc > 1125899906842624 := c
    rw [if_neg (by rw [inT_no (.inr c)]; simp), if_neg (by rw [inT_no (.inr c)]; simp)] at h
    refine k7.sta _ rfl rfl fun w14 k14 u14 => k14.cA (cs := KS) (tS (0, 0, 0, 0, 0, 0)) rfl ?_
    obtain ⟨F14, X14⟩ := fin F7 X7 n7 u14
    exact h w14 O' F14 X14
  have hin : inT loc = true := inT_iff.2 ⟨by have c : ¬ loc < 0 := c1; omega, by have c : ¬ loc > 1125899906842624 := c2; omega⟩
  rw [if_pos hin, if_pos hin] at h
  refine flood_Flood_word.cw F7 fun w19 F19 X19 => ?_
  have X19' := X7.trans X19
  have k19 := X19.blk k7 n7
  change ∀ w' O', FW w' O' bf be (b1f f e) (isE (btE e)) l (b1l e es) → _ at h
  have hW : wdF (b1f f e) (btE e) l (b1l e es) loc = btW f e l es loc := rfl
  rw [hW]
  generalize btW f e l es loc = Z at *
  refine alK_by fun p20 w21 e20 k20 u20 => k20.sta _ rfl rfl fun w22 k22 u22 => ?_
  have g22 : Gro w19 w22 := Gro.fresh (Gro.refl _) u20 u22 e20
  have F22 := F19.gro g22
  have X22 := X19'.gro g22
  have k22' := k19.1.gro g22
  refine brNot (fun c => ?_) fun c => ?_
  · have c : Z.2 = false := c
    rw [if_neg (by rw [c]; simp)] at h
    refine k22'.sta _ rfl rfl fun w23 k23 u23 => k23.cA (cs := KS) (tS (0, 0, 0, 0, 0, 0)) rfl ?_
    obtain ⟨F23, X23⟩ := fin F22 X22 k19.2 u23
    exact h w23 O' F23 X23
  · have c : Z.2 = true := c
    rw [if_pos c] at h
    change Blk w22 p20 (encs KS (tS Z.1)) at k22
    refine k22.cA (cs := KS) (tS Z.1) rfl (k22'.sta _ rfl rfl fun w26 k26 u26 => k26.cA (cs := KS) (tS Z.1) rfl ?_)
    obtain ⟨F26, X26⟩ := fin F22 X22 k19.2 u26
    exact h w26 O' F26 X26

/-! ### time -/
def tmF (f : Fl) (e : El) (es : List E3) (loc : Int) : Int × Int × Int :=
  if synF f e es.length = false then (0, 0, 9) else if inT loc = false then (0, 0, 8) else if mine e = true then (loc, 0, 0)
  else if okG (mapV f.drift es) loc = true then (gV (mapV f.drift es) loc, maxH es, 0) else (0, 0, 8)

set_option maxRecDepth 20000 in
set_option maxHeartbeats 1000000 in
theorem flood_Flood_Time.cw {O : Nat → Prop} {bf be : Nat} {f : Fl} {e : El} {l : MkL} {es : List E3} {loc : Int} {w : World} (hF : FW w O bf be f e l es) {k : TR [(false, [.i .i64]), (false, [.i .i64]), (false, [.i .i64])] → World → Prop}
    (h : ∀ w', Gro w w' → k (((tmF f e es loc).1, ()), ((tmF f e es loc).2.1, ()), ((tmF f e es loc).2.2, ()), ()) w') :
    clS Tryz.prog F.flood_Flood_Time [.pointer (some ⟨bf, 0, none⟩), .int .i64 loc] w true [(false, [.i .i64]), (false, [.i .i64]), (false, [.i .i64])] k := by
  refine flood_Flood_Time.ok ?_
  unfold flood_Flood_Time.wp
  unfold tmF at h
  refine brF rfl (flood_Flood_Synced.cw hF fun w2 u2 => brNot (fun c => ?_) fun c => ?_)
  · have c : synF f e es.length = false := c
    rw [if_pos c] at h; exact h w2 u2
  have cs : ¬ synF f e es.length = false := by have c : synF f e es.length = true := c; rw [c]; simp
  rw [if_neg cs] at h
  have F2 := hF.gro u2
  refine CutT.by (fun z w' => w' = w2 ∧ (z.1 = true ↔ inT loc = false)) ?_ ?_
  · refine brD (fun c => ⟨rfl, by have c : loc < 0 := c; simp [inT_no (.inl c)]⟩) fun c => ⟨rfl, ?_⟩
    have c : ¬ loc < 0 := c
    show decide (loc > 1125899906842624) = true ↔ _
    rw [decide_eq_true_iff]
    refine ⟨fun h => inT_no (.inr h), fun h => ?_⟩
    by_cases h2 : loc > 1125899906842624
    · exact h2
    · rw [inT_iff.2 ⟨by omega, by omega⟩] at h; cases h
  rintro ⟨z, _⟩ _ ⟨rfl, hz⟩ _
  dsimp only at hz
  refine brC (fun c => ?_) fun c => ?_
  · have c : z = true := c
    rw [if_pos (hz.1 c)] at h; exact h _ u2
  have ct : ¬ inT loc = false := fun x => by have c : z = false := c; rw [hz.2 x] at c; cases c
  rw [if_neg ct] at h
  rw [ncK_eq]
  refine F2.elect (elect_Elect_Mine.cw F2 fun w9 u9 => ?_)
  have F9 := F2.gro u9
  have g9 := u2.trans u9
  refine brC (fun c => ?_) fun c => ?_
  · have c : mine e = true := c
    rw [if_pos c] at h; exact h _ g9
  have cm' : mine e = false := c
  have cm : ¬ mine e = true := by rw [cm']; simp
  rw [if_neg cm] at h
  have hne : es ≠ [] := by
    intro h0; subst h0
    refine cs ?_
    unfold synF
    have : (e.root == e.me) = false := cm'
    rw [this]
    have := hF.need
    simp; omega
  have hMB : MB f.drift (mapV f.drift es) := mapV_MB hne hF.good
  generalize hm : mapV f.drift es = m at *
  have hm5 : m.2.2.2.2 = maxH es := by rw [← hm]; rfl
  refine CutT.by (fun z w' => Gro w w' ∧ ∃ p, z.1 = ⟨p, 0, none⟩ ∧ Blk w' p (m5 m)) ?_ ?_
  · rw [drK_eq]
    have gd : Gro w w9.drew := g9.trans (Gro.drew _)
    obtain ⟨r, s, b1, E1, o1, _⟩ := (hF.gro gd).ex
    rw [ncK_eq]
    refine b1.c2 2 3 (x := f.drift) rfl ?_
    rw [ncK_eq]
    have hd : ∀ {w' : World}, Gro w9.drew w' → w'.cell? (Addr.add (Addr.add ⟨bf, 0, none⟩ 2) 3) = some ((w9.drew.cell? (Addr.add (Addr.add ⟨bf, 0, none⟩ 2) 3)).getD undef) := fun u => b1.hold2 u (fun x => x) 2 3 (by simp [flC])
    have hT : TV w9.drew (some (Addr.add ⟨bf, 0, none⟩ 6)) s es := .inr ⟨_, rfl, Blk.slotG (fpre be f) (fpost f) b1, o1.ents⟩
    refine ⟨?_, ?_⟩
    · refine globe_Of.cl hT hF.len hF.good (fun h => absurd h hne) fun _ w18 u18 => ⟨⟨hd u18, trivial⟩, ?_⟩
      rw [hm]
      refine alK_by fun p19 w20 e19 k19 u19 => ⟨⟨hd (u18.trans u19), trivial⟩, k19.sta _ rfl rfl fun w21 k21 u21 => ⟨trivial, ?_⟩⟩
      exact ⟨gd.trans (Gro.fresh u18 u19 u21 e19), p19, rfl, k21⟩
    · refine alK_by fun p22 w23 e22 k22 u22 => ⟨⟨hd u22, trivial⟩, ?_⟩
      refine globe_Of.cl (hT.gro u22) hF.len hF.good (fun h => absurd h hne) fun _ w25 u25 => ⟨trivial, ?_⟩
      rw [hm]
      refine (k22.gro u25).sta _ rfl rfl fun w26 k26 u26 => ⟨trivial, ?_⟩
      refine ⟨gd.trans (Upd.trans (u22.trans u25) u26 fun i hi h => ?_), p22, rfl, k26⟩
      omega
  · rintro ⟨z, _⟩ w12 ⟨g12, p, hz, kp⟩ _
    dsimp only at hz
    subst hz
    refine kp.cA (cs := [.i .i64, .i .i64, .i .i64, .i .i64, .i .i64]) (t5 m) rfl ?_
    refine globe_Map_Global.cl (m := m) hMB fun w29 u29 => brNot (fun c => ?_) fun c => ?_
    · have c : okG m loc = false := c
      rw [if_neg (by rw [c]; simp)] at h
      exact h _ (g12.trans u29)
    · have c : okG m loc = true := c
      rw [if_pos c] at h
      rw [drK_eq]
      refine (kp.gro u29).drew.c1 4 (x := m.2.2.2.2) rfl ?_
      rw [hm5]
      exact h _ ((g12.trans u29).trans (Gro.drew _))

/-- a word in the document's plain form: what the law hands to the flood -/
abbrev K14' : List CK := [.i .i64, .i .i64, .i .i64, .i .i64, .i .u16, .i .u16, .i .i64, .i .i64, .i .i64, .i .i64, .i .i64, .i .i64, .i .i64, .i .i64]
def syP (p : Tvs K14') : S6 := (p.2.1, p.2.2.2.1, p.2.2.2.2.1, p.2.2.2.2.2.1, p.2.2.2.2.2.2.1, p.2.2.2.2.2.2.2.1)
end Go.Proofs.YtahojpppjpfjmaaGreat
