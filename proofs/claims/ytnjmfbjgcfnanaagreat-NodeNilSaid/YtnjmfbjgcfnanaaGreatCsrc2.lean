/- Contracts of layer 19 beside a flood; the law SourcePrefers. Conditions: none. -/
import Derived.Test.YtnjmfbjgcfnanaaGreatCsrc
import Derived.Test.YtnjmfbjgcfnanaaGreatCfloK
namespace Go.Proofs.YtnjmfbjgcfnanaaGreat
open Go.Eng Go
set_option linter.unusedVariables false
set_option linter.unusedSimpArgs false

abbrev K19 : List CK := [.i .i64, .i .i64, .i .i64, .i .i64, .i .i64, .i .i64, .i .u16, .i .u16, .i .i64, .i .i64, .i .i64, .i .i64, .i .i64, .i .i64, .i .i64, .i .i64, .i .i64, .i .i64, .i .i64]
def pl19 (x : Tvs K19) : P14 := (x.2.2.1, x.2.2.2.1, x.2.2.2.2.1, x.2.2.2.2.2.1, x.2.2.2.2.2.2.1, x.2.2.2.2.2.2.2.1, x.2.2.2.2.2.2.2.2.1, x.2.2.2.2.2.2.2.2.2.1, x.2.2.2.2.2.2.2.2.2.2.1, x.2.2.2.2.2.2.2.2.2.2.2.1, x.2.2.2.2.2.2.2.2.2.2.2.2.1, x.2.2.2.2.2.2.2.2.2.2.2.2.2.1, x.2.2.2.2.2.2.2.2.2.2.2.2.2.2.1, x.2.2.2.2.2.2.2.2.2.2.2.2.2.2.2.1, ())
def en19 (x : Tvs K19) : E3 := (x.2.2.2.2.2.2.2.2.2.2.2.2.2.2.2.2.1, x.2.2.2.2.2.2.2.2.2.2.2.2.2.2.2.2.2.1, x.2.2.2.2.2.2.2.2.2.2.2.2.2.2.2.2.2.2.1)

/-- the answer of a synchronized flood -/
def flA5 (f : Fl) (e : El) (l : MkL) (es : List E3) (loc : Int) : A5 × Int :=
  if (tmF f e es loc).2.2 ≠ 0 then ((0, 0, 0, 0, 0), (tmF f e es loc).2.2)
  else (((tmF f e es loc).1, (tmF f e es loc).2.1, e.root, (mkM e l).1, if mine e = true then 1 else 2), 0)

set_option maxRecDepth 20000 in
set_option maxHeartbeats 1000000 in
theorem source_flooded.cw {O : Nat → Prop} {bf be : Nat} {f : Fl} {e : El} {l : MkL} {es : List E3} {loc : Int} {w : World} (hF : FW w O bf be f e l es) {k : TR [(true, K5), (false, [.i .i64])] → World → Prop}
    (h : ∀ w', Gro w w' → k (tA5 (flA5 f e l es loc).1, ((flA5 f e l es loc).2, ()), ()) w') :
    clS Tryz.prog F.source_flooded [.pointer (some ⟨bf, 0, none⟩), .int .i64 loc] w true [(true, K5), (false, [.i .i64])] k := by
  refine source_flooded.ok ?_
  unfold source_flooded.wp
  unfold flA5 at h
  refine alK_by fun p1 w2 e1 k1 u1 => flood_Flood_Time.cw (hF.gro u1) fun w4 u4 => ?_
  have l1 := k1.lt
  generalize tmF f e es loc = Z at *
  have g4 := u1.trans u4
  refine brN (fun c => ?_) fun c => ?_
  · have c : Z.2.2 ≠ 0 := c
    rw [if_pos c] at h
    refine (k1.gro u4).sta _ rfl rfl fun w5 k5 u5 => k5.cA (tA5 (0, 0, 0, 0, 0)) rfl (h w5 (Upd.trans g4 u5 fun i hi h => by omega))
  have c : Z.2.2 = 0 := c
  rw [if_neg (fun h => h c)] at h
  rw [ncK_eq]
  have F4 := hF.gro g4
  refine F4.elect ?_
  obtain ⟨r0, E4⟩ := F4.el
  refine elect_Elect_Mark.cl E4 fun w10 u10 => ?_
  refine alK_by fun p11 w12 e11 k11 u12 => k11.sta _ rfl rfl fun w13 k13 u13 => ?_
  have f13 : Gro w10 w13 := Gro.fresh (Gro.refl _) u12 u13 e11
  have g13 := (g4.trans u10).trans f13
  have q13 := ((k1.gro u4).gro u10).gro f13
  have hne : ∀ p, w13.drew.heap.size = p → p ≠ p1 := fun p hp => by have : w13.drew.heap.size = w13.heap.size := rfl; have := q13.lt; omega
  refine CutT.by (fun z w' => Gro w w' ∧ Gro w13 w' ∧ ∃ p, z.1 = ⟨p, 0, none⟩ ∧ p ≠ p1 ∧ w.heap.size ≤ p ∧ Blk w' p (cA5 (Z.1, Z.2.1, e.root, (mkM e l).1, 2))) ?_ ?_
  · rw [drK_eq, ncK_eq]
    have gd : Gro w w13.drew := g13.trans (Gro.drew _)
    have FD := hF.gro gd
    have m13 := k13.drew
    have lo : ∀ p, w13.drew.heap.size = p → w.heap.size ≤ p := fun p hp => by have := gd.size; omega
    refine FD.elect (m13.c0 rfl ?_)
    have hd : ∀ {w' : World}, Gro w13.drew w' → w'.cell? ⟨p11, 0, none⟩ = some ((w13.drew.cell? ⟨p11, 0, none⟩).getD undef) ∧ w'.cell? ⟨bf, 0, none⟩ = some ((w13.drew.cell? ⟨bf, 0, none⟩).getD undef) := fun u =>
      ⟨m13.hold u (fun x => x) 0 (by simp), FD.hold0 u (fun x => x)⟩
    refine ⟨?_, ?_⟩
    · refine elect_Elect_Root.cw FD ⟨⟨(hd (Gro.refl _)).1, (hd (Gro.refl _)).2, trivial⟩, ?_⟩
      refine alK_by fun p23 w24 e23 k23 u24 => ⟨⟨(hd u24).1, (hd u24).2, trivial⟩, k23.sta _ rfl rfl fun w25 k25 u25 => ⟨trivial, ?_⟩⟩
      have g25 : Gro w13.drew w25 := Gro.fresh (Gro.refl _) u24 u25 e23
      exact ⟨gd.trans g25, (Gro.drew _).trans g25, p23, rfl, hne p23 e23, lo p23 e23, k25⟩
    · refine alK_by fun p26 w27 e26 k26 u27 => ⟨⟨(hd u27).1, (hd u27).2, trivial⟩, ?_⟩
      refine elect_Elect_Root.cw (FD.gro u27) ⟨⟨(hd u27).1, trivial⟩, k26.sta _ rfl rfl fun w30 k30 u30 => ⟨trivial, ?_⟩⟩
      have g30 : Gro w13.drew w30 := Gro.fresh (Gro.refl _) u27 u30 e26
      exact ⟨gd.trans g30, (Gro.drew _).trans g30, p26, rfl, hne p26 e26, lo p26 e26, k30⟩
  · rintro ⟨z, _⟩ w16 ⟨g16, f16, p, hz, hp, lp, kp⟩ _
    dsimp only at hz
    subst hz
    have F16 := hF.gro g16
    rw [ncK_eq]
    refine F16.elect (elect_Elect_Mine.cw F16 fun w34 u34 => ?_)
    have k34 := kp.gro u34
    have q34 := (q13.gro f16).gro u34
    have g34 := g16.trans u34
    refine brC (fun c => ?_) fun c => ?_
    · have c : mine e = true := c
      rw [if_pos c] at h
      refine k34.sN 4 _ (by simp [cA5]) rfl fun w35 k35 u35 => ?_
      change Blk w35 p (cA5 (Z.1, Z.2.1, e.root, (mkM e l).1, 1)) at k35
      refine k35.cA (tA5 (Z.1, Z.2.1, e.root, (mkM e l).1, 1)) rfl ((q34.upd u35 (fun h => hp h.symm)).sta _ rfl rfl fun w37 k37 u37 => k37.cA (tA5 (Z.1, Z.2.1, e.root, (mkM e l).1, 1)) rfl ?_)
      exact h w37 (Upd.trans (Upd.trans g34 u35 fun i hi h => by omega) u37 fun i hi h => by omega)
    · have c : ¬ mine e = true := by have c : mine e = false := c; rw [c]; simp
      rw [if_neg c] at h
      refine k34.cA (tA5 (Z.1, Z.2.1, e.root, (mkM e l).1, 2)) rfl (q34.sta _ rfl rfl fun w37 k37 u37 => k37.cA (tA5 (Z.1, Z.2.1, e.root, (mkM e l).1, 2)) rfl ?_)
      exact h w37 (Upd.trans g34 u37 fun i hi h => by omega)

/-- a source's answer beside a flood -/
def srcT (s : So) (f : Fl) (e : El) (l : MkL) (es : List E3) (loc : Int) : A5 × Int := if synF f e es.length = true then flA5 f e l es loc else tmS s loc
set_option maxRecDepth 20000 in
theorem source_Source_Time.cw {b bf be : Nat} {O : Nat → Prop} {s : So} {loc : Int} {f : Fl} {e : El} {l : MkL} {es : List E3} {w : World} (hB : Blk w b (soC s)) (hF : FW w O bf be f e l es)
    {k : TR [(true, K5), (false, [.i .i64])] → World → Prop} (h : ∀ w', Gro w w' → k (tA5 (srcT s f e l es loc).1, ((srcT s f e l es loc).2, ()), ()) w') :
    clS Tryz.prog F.source_Source_Time [.pointer (some ⟨b, 0, none⟩), .pointer (some ⟨bf, 0, none⟩), .int .i64 loc] w true [(true, K5), (false, [.i .i64])] k := by
  unfold srcT at h
  by_cases hs : synF f e es.length = true
  · rw [if_pos hs] at h
    refine source_Source_Time.ok ?_
    unfold source_Source_Time.wp
    refine alK_by fun p1 w2 e1 k1 u1 => ?_
    refine CutT.by (fun z w' => w' = w2 ∧ z.1 = false) (brF rfl ⟨rfl, rfl⟩) ?_
    rintro ⟨z, _⟩ _ ⟨rfl, hz⟩ _
    dsimp only at hz
    subst hz
    refine brF rfl (flood_Flood_Synced.cw (hF.gro u1) fun w9 u9 => brT hs ?_)
    refine source_flooded.cw ((hF.gro u1).gro u9) (loc := loc) fun w11 u11 => ?_
    generalize flA5 f e l es loc = Z at *
    refine ((k1.gro u9).gro u11).sta _ rfl rfl fun w12 k12 u12 => k12.cA (tA5 Z.1) rfl (h w12 ?_)
    exact Upd.trans ((u1.trans u9).trans u11) u12 fun i hi h => by omega
  · rw [if_neg hs] at h
    obtain ⟨r, q, hb⟩ := hF.b
    exact source_Source_Time.cl0 hB hb (by cases c : synF f e es.length; rfl; exact absurd c hs) h

/-- a round of a stored answer -/
def soBt (s : So) : So := if s.has = false then s else if IntKind.wrap .i64 (s.age + 1) ≥ s.limit then ⟨s.limit, (0, 0, 0), 0, 0, 0, false⟩ else { s with age := IntKind.wrap .i64 (s.age + 1) }
set_option maxRecDepth 20000 in
theorem source_Source_Beat.cw {b : Nat} {s : So} {w : World} (hB : Blk w b (soC s)) {k : TR [] → World → Prop}
    (h : ∀ w', Blk w' b (soC (soBt s)) → Upd (fun x => x = b) w w' → k () w') :
    clS Tryz.prog F.source_Source_Beat [.pointer (some ⟨b, 0, none⟩)] w true [] k := by
  refine source_Source_Beat.ok ?_
  unfold source_Source_Beat.wp
  unfold soBt at h
  refine brF rfl ?_
  rw [ncK_eq]
  refine hB.c1 7 (c := .b) (x := s.has) rfl (brNot (fun c => ?_) fun c => ?_)
  · have c : s.has = false := c
    rw [if_pos c] at h; exact h w hB (Upd.refl _ _)
  have c : ¬ s.has = false := by have c : s.has = true := c; rw [c]; simp
  rw [if_neg c] at h
  rw [ncK_eq]
  refine hB.i1 6 rfl ?_
  rw [ncK_eq]
  refine hB.sN 6 _ (by simp [soC]) rfl fun w6 k6 u6 => ?_
  rw [drK_eq, ncK_eq]
  have k6 : Blk w6 b (soC { s with age := IntKind.wrap .i64 (s.age + 1) }) := k6
  refine k6.drew.i1 6 rfl ?_
  rw [ncK_eq]
  refine k6.drew.i0 rfl (brD (fun c => ?_) fun c => ?_)
  · have c : IntKind.wrap .i64 (s.age + 1) ≥ s.limit := c
    rw [if_pos c] at h
    exact source_Source_Drop.cl k6.drew fun w13 k13 u13 => h w13 k13 (Upd.trans u6.drew u13 fun _ _ h => h)
  · have c : ¬ IntKind.wrap .i64 (s.age + 1) ≥ s.limit := c
    rw [if_neg c] at h
    exact h _ k6.drew u6.drew

def soPut (s : So) (e : E3) (root boot : Int) : So := if putOk e root = true then { s with e := e, root := root, boot := boot, age := 0, has := true } else s
theorem tmS_9 {s : So} {loc : Int} : ((tmS s loc).2 = 9 ↔ s.has = false) ∧ ((tmS s loc).2 = 0 → (tmS s loc).1.2.2.2.2 = 3) := by
  unfold tmS
  by_cases h : s.has = false
  · rw [if_pos h]; simp [h]
  · rw [if_neg h]
    split
    · simp [h]
    · split
      · simp [h]
      · simp [h]
end Go.Proofs.YtnjmfbjgcfnanaaGreat
