/- Contracts of the document's layer 19, and of nil sources. Conditions: what an election keeps (EI). -/
import Derived.Test.YtahojpppjpfjmaaGreatCsrc2
import Derived.Test.YtahojpppjpfjmaaGreatCfloD
namespace Go.Proofs.YtahojpppjpfjmaaGreat
open Go.Eng Go
set_option linter.unusedVariables false
set_option linter.unusedSimpArgs false

theorem goodE_B (e : E3) : goodE e = goodB e := rfl

/-! ### nil -/
theorem source_Source_Drop.nil {w : World} {k : TR [] → World → Prop} (h : k () w) : clS Tryz.prog F.source_Source_Drop [.pointer none] w true [] k := by
  refine source_Source_Drop.ok ?_
  unfold source_Source_Drop.wp
  exact h
theorem source_Source_Beat.nil {w : World} {k : TR [] → World → Prop} (h : k () w) : clS Tryz.prog F.source_Source_Beat [.pointer none] w true [] k := by
  refine source_Source_Beat.ok ?_
  unfold source_Source_Beat.wp
  exact h
theorem source_Source_Fresh.nil {w : World} {k : TR [(false, [.b])] → World → Prop} (h : k ((false, ()), ()) w) : clS Tryz.prog F.source_Source_Fresh [.pointer none] w false [(false, [.b])] k := by
  refine source_Source_Fresh.ok ?_
  unfold source_Source_Fresh.wp
  exact h
theorem source_Source_Put.nil {e : E3} {root boot : Int} {w : World} {k : TR [(false, [.i .i64])] → World → Prop} (h : ∀ w', Gro w w' → k ((2, ()), ()) w') : clS Tryz.prog F.source_Source_Put [.pointer none, .agg #[.int .i64 e.1, .int .i64 e.2.1, .int .i64 e.2.2], .agg #[.int .i64 root, .int .u16 boot]] w false [(false, [.i .i64])] k := by
  refine source_Source_Put.ok ?_
  unfold source_Source_Put.wp
  exact alK_by fun p1 w2 e1 k1 u1 => alK_by fun p3 w4 e3 k3 u3 => brT rfl (h w4 (u1.trans u3))
theorem source_Source_Time.nil {s f : Option Addr} (hn : s = none ∨ f = none) {loc : Int} {w : World} {k : TR [(true, K5), (false, [.i .i64])] → World → Prop} (h : ∀ w', Gro w w' → k (tA5 (0, 0, 0, 0, 0), (2, ()), ()) w') : clS Tryz.prog F.source_Source_Time [.pointer s, .pointer f, .int .i64 loc] w true [(true, K5), (false, [.i .i64])] k := by
  refine source_Source_Time.ok ?_
  unfold source_Source_Time.wp
  refine alK_by fun p1 w2 e1 k1 u1 => CutT.by (fun z w' => w' = w2 ∧ z.1 = true) ?_ ?_
  · cases s with
    | none => exact brT rfl ⟨rfl, rfl⟩
    | some a => exact brF rfl ⟨rfl, by rcases hn with h | h; cases h; rw [h]; rfl⟩
  · rintro ⟨z, _⟩ _ ⟨rfl, hz⟩ _
    dsimp only at hz
    subst hz
    exact brT rfl (k1.sta _ rfl rfl fun w6 k6 u6 => k6.cA (tA5 (0, 0, 0, 0, 0)) rfl (h w6 (Gro.fresh (Gro.refl _) u1 u6 e1)))

/-! ### the document's -/
def rBt (s : So) : So := if s.has = false then s else if IntKind.wrap .i64 (s.age + 1) ≥ s.limit then { s with age := IntKind.wrap .i64 (s.age + 1), has := false } else { s with age := IntKind.wrap .i64 (s.age + 1) }
/-- the same answer, or none in either -/
def SoR (s r : So) : Prop := r.limit = s.limit ∧ r.has = s.has ∧ (s.has = true → r = s)
theorem SoR.beat {s r : So} (h : SoR s r) : SoR (soBt s) (rBt r) := by
  obtain ⟨h1, h2, h3⟩ := h
  by_cases hs : s.has = false
  · have e1 : soBt s = s := by unfold soBt; rw [if_pos hs]
    have e2 : rBt r = r := by unfold rBt; rw [if_pos (h2.trans hs)]
    rw [e1, e2]; exact ⟨h1, h2, h3⟩
  · have e := h3 (by cases c : s.has; exact absurd c hs; rfl)
    subst e
    by_cases c : IntKind.wrap .i64 (r.age + 1) ≥ r.limit
    · have e1 : soBt r = ⟨r.limit, (0, 0, 0), 0, 0, 0, false⟩ := by unfold soBt; rw [if_neg hs, if_pos c]
      have e2 : rBt r = { r with age := IntKind.wrap .i64 (r.age + 1), has := false } := by unfold rBt; rw [if_neg hs, if_pos c]
      rw [e1, e2]; exact ⟨rfl, rfl, fun h => by cases h⟩
    · have e1 : soBt r = { r with age := IntKind.wrap .i64 (r.age + 1) } := by unfold soBt; rw [if_neg hs, if_neg c]
      have e2 : rBt r = { r with age := IntKind.wrap .i64 (r.age + 1) } := by unfold rBt; rw [if_neg hs, if_neg c]
      rw [e1, e2]; exact ⟨rfl, rfl, fun _ => rfl⟩
theorem SoR.time {s r : So} (h : SoR s r) (loc : Int) : tmS r loc = tmS s loc := by
  obtain ⟨h1, h2, h3⟩ := h
  cases hs : s.has
  · unfold tmS; rw [if_pos hs, if_pos (h2.trans hs)]
  · rw [h3 hs]

set_option maxRecDepth 20000 in
theorem ref19_Source_Beat.cw {b : Nat} {s : So} {w : World} (hB : Blk w b (soC s)) {k : TR [] → World → Prop}
    (h : ∀ w', Blk w' b (soC (rBt s)) → Upd (fun x => x = b) w w' → k () w') :
    clS Tryz.prog F.ref19_Source_Beat [.pointer (some ⟨b, 0, none⟩)] w true [] k := by
  refine ref19_Source_Beat.ok ?_
  unfold ref19_Source_Beat.wp
  unfold rBt at h
  rw [ncK_eq]
  refine hB.c1 7 (c := .b) (x := s.has) rfl (brNot (fun c => ?_) fun c => ?_)
  · have c : s.has = false := c
    rw [if_pos c] at h; exact h w hB (Upd.refl _ _)
  have c : ¬ s.has = false := by have c : s.has = true := c; rw [c]; simp
  rw [if_neg c] at h
  rw [ncK_eq]
  refine hB.i1 6 rfl ?_
  rw [ncK_eq]
  refine hB.sN 6 _ (by simp [soC]) rfl fun w6 k6 u6 => ?_
  rw [drK_eq, ncK_eq]
  have k6 : Blk w6 b (soC { s with age := IntKind.wrap .i64 (s.age + 1) }) := k6
  refine k6.drew.i1 6 rfl ?_
  rw [ncK_eq]
  refine k6.drew.i0 rfl (brD (fun c => ?_) fun c => ?_)
  · have c : IntKind.wrap .i64 (s.age + 1) ≥ s.limit := c
    rw [if_pos c] at h
    rw [ncK_eq]
    exact k6.drew.sN 7 _ (by simp [soC]) rfl fun w13 k13 u13 => h w13 k13 (Upd.trans u6.drew u13 fun _ _ h => h)
  · have c : ¬ IntKind.wrap .i64 (s.age + 1) ≥ s.limit := c
    rw [if_neg c] at h
    exact h _ k6.drew u6.drew

set_option maxRecDepth 20000 in
theorem ref19_Source_Put.cl {b : Nat} {s : So} {e : E3} {root boot : Int} {w : World} (hB : Blk w b (soC s)) {k : TR [(false, [.i .i64])] → World → Prop}
    (h0 : putOk e root = false → ∀ w', Gro w w' → k ((1, ()), ()) w')
    (h1 : putOk e root = true → ∀ w', Blk w' b (soC { s with e := e, root := root, boot := boot, age := 0, has := true }) → Upd (fun x => x = b) w w' → k ((0, ()), ()) w') :
    clS Tryz.prog F.ref19_Source_Put [.pointer (some ⟨b, 0, none⟩), .agg #[.int .i64 e.1, .int .i64 e.2.1, .int .i64 e.2.2], .int .i64 root, .int .u16 boot] w false [(false, [.i .i64])] k := by
  refine ref19_Source_Put.ok ?_
  unfold ref19_Source_Put.wp
  have lb := hB.lt
  refine alK_by fun p1 w2 e1 k1 u1 => k1.ld3 (ref12_Good.cl fun w5 u5 => ?_)
  have g5 := u1.trans u5
  have no : (goodE e = true → 0 ≤ root → root < 64 → False) → putOk e root = false := fun h => by
    cases hp : putOk e root
    · rfl
    · obtain ⟨a, b, c⟩ := putOk_iff.1 hp; exact (h a b c).elim
  refine brNot (fun c => h0 (no fun x _ _ => by have c : goodB e = false := c; rw [goodE_B, c] at x; cases x) w5 g5) fun c0 => ?_
  have c0 : goodE e = true := c0
  refine brD (fun c => h0 (no fun _ x _ => by have c : root < 0 := c; omega) w5 g5) fun c1 => brD (fun c => h0 (no fun _ _ x => by have c : root > 63 := c; omega) w5 g5) fun c2 => ?_
  have c1 : ¬ root < 0 := c1
  have c2 : ¬ root > 63 := c2
  have q1 := k1.gro u5
  have B := hB.gro g5
  refine q1.ld3 ?_
  rw [ncK_eq]
  refine B.sN 1 _ (by simp [soC]) rfl fun w8 k8 u8 => ?_
  rw [ncK_eq]
  refine k8.sN 4 _ (by simp [soC, splice]) rfl fun w10 k10 u10 => ?_
  rw [ncK_eq]
  refine k10.sN 5 _ (by simp [soC, splice]) rfl fun w12 k12 u12 => ?_
  rw [ncK_eq]
  refine k12.sN 6 _ (by simp [soC, splice]) rfl fun w14 k14 u14 => ?_
  rw [ncK_eq]
  refine k14.sN 7 _ (by simp [soC, splice]) rfl fun w16 k16 u16 => ?_
  refine h1 (putOk_iff.2 ⟨c0, by omega, by omega⟩) w16 k16 ?_
  exact Upd.trans (Upd.trans (Upd.trans (Upd.trans (Upd.trans (Upd.of_gro g5) u8 fun _ _ h => h) u10 fun _ _ h => h) u12 fun _ _ h => h) u14 fun _ _ h => h) u16 fun _ _ h => h

set_option maxRecDepth 20000 in
set_option maxHeartbeats 2000000 in
theorem ref19_Source_Time.cw {b br bE : Nat} {O : Nat → Prop} {s : So} {loc : Int} {f : Fl} {e : El} {l : MkL} {es : List E3} {w : World} (hB : Blk w b (soC s)) (hF : RW w O br bE f e l es)
    {k : TR [(true, K5), (false, [.i .i64])] → World → Prop} (h : ∀ w', Gro w w' → k (tA5 (srcT s f e l es loc).1, ((srcT s f e l es loc).2, ()), ()) w') :
    clS Tryz.prog F.ref19_Source_Time [.pointer (some ⟨b, 0, none⟩), .pointer (some ⟨br, 0, none⟩), .int .i64 loc] w true [(true, K5), (false, [.i .i64])] k := by
  refine ref19_Source_Time.ok ?_
  unfold ref19_Source_Time.wp
  unfold srcT at h
  refine alK_by fun p1 w2 e1 k1 u1 => ref16_Flood_Synced.cw (hF.gro u1) fun w4 u4 => ?_
  have l1 := k1.lt
  have g4 := u1.trans u4
  have F4 := hF.gro g4
  have k4 := k1.gro u4
  have fin : ∀ {w' w'' : World}, Gro w w' → Upd (fun x => x = p1) w' w'' → Gro w w'' := fun g u => Upd.trans g u fun i hi h => by omega
  refine brC (fun c => ?_) fun c => ?_
  · have c : synF f e es.length = true := c
    rw [if_pos c] at h
    unfold flA5 at h
    refine ref16_Flood_Time.cw F4 (loc := loc) fun w6 u6 => ?_
    generalize tmF f e es loc = Z at *
    have F6 := F4.gro u6
    have k6 := k4.gro u6
    have g6 := g4.trans u6
    refine brN (fun c => ?_) fun c => ?_
    · have c : Z.2.2 ≠ 0 := c
      rw [if_pos c] at h
      exact k6.sta _ rfl rfl fun w7 k7 u7 => k7.cA (tA5 (0, 0, 0, 0, 0)) rfl (h w7 (fin g6 u7))
    have c : Z.2.2 = 0 := c
    rw [if_neg (fun h => h c)] at h
    rw [ncK_eq]
    refine F6.hdr (ref15_Elect_Mark.cl F6.elb F6.inv fun w12 u12 => ref16_Flood_Mine.cw (F6.gro u12) fun w14 u14 => ?_)
    have F14 := (F6.gro u12).gro u14
    have k14 := (k6.gro u12).gro u14
    have g14 := (g6.trans u12).trans u14
    refine brC (fun c => ?_) fun c => ?_
    · have c : mine e = true := c
      rw [if_pos c] at h
      rw [ncK_eq]
      refine F14.hdr ?_
      rw [ncK_eq]
      refine F14.elb.c1 5 (x := e.root) (r15_get (by decide)) ?_
      exact k14.sta _ rfl rfl fun w19 k19 u19 => k19.cA (tA5 (Z.1, Z.2.1, e.root, (mkM e l).1, 1)) rfl (h w19 (fin g14 u19))
    · have c : ¬ mine e = true := by have c : mine e = false := c; rw [c]; simp
      rw [if_neg c] at h
      rw [ncK_eq]
      refine F14.hdr ?_
      rw [ncK_eq]
      refine F14.elb.c1 5 (x := e.root) (r15_get (by decide)) ?_
      exact k14.sta _ rfl rfl fun w19 k19 u19 => k19.cA (tA5 (Z.1, Z.2.1, e.root, (mkM e l).1, 2)) rfl (h w19 (fin g14 u19))
  · have c : ¬ synF f e es.length = true := by have c : synF f e es.length = false := c; rw [c]; simp
    rw [if_neg c] at h
    have B4 := hB.gro g4
    have out : ∀ {a : A5} {n : Int}, tmS s loc = (a, n) → ∀ {w' : World} , Gro w w' → k (tA5 a, (n, ()), ()) w' := fun ht w' g => by
      have := h w' g
      rw [ht] at this; exact this
    rw [ncK_eq]
    refine B4.c1 7 (c := .b) (x := s.has) rfl (brNot (fun c => ?_) fun c => ?_)
    · have c : s.has = false := c
      exact k4.sta _ rfl rfl fun w16 k16 u16 => k16.cA (tA5 (0, 0, 0, 0, 0)) rfl (out (by unfold tmS; rw [if_pos c]) (fin g4 u16))
    have c : s.has = true := c
    have e0 : ¬ s.has = false := by rw [c]; simp
    refine brD (fun c1 => ?_) fun c1 => ?_
    · have c1 : loc < 0 := c1
      exact k4.sta _ rfl rfl fun w16 k16 u16 => k16.cA (tA5 (0, 0, 0, 0, 0)) rfl (out (by unfold tmS; rw [if_neg e0, if_pos (.inl c1)]) (fin g4 u16))
    refine brD (fun c2 => ?_) fun c2 => ?_
    · have c2 : loc > 1125899906842624 := c2
      exact k4.sta _ rfl rfl fun w16 k16 u16 => k16.cA (tA5 (0, 0, 0, 0, 0)) rfl (out (by unfold tmS; rw [if_neg e0, if_pos (.inr c2)]) (fin g4 u16))
    have e1 : ¬ (loc < 0 ∨ loc > 1125899906842624) := fun h => h.elim c1 c2
    rw [ncK_eq]
    refine B4.c2 1 1 (x := s.e.2.1) rfl (brD (fun c3 => ?_) fun c3 => ?_)
    · exact k4.sta _ rfl rfl fun w16 k16 u16 => k16.cA (tA5 (0, 0, 0, 0, 0)) rfl (out (by unfold tmS; rw [if_neg e0, if_neg e1, if_pos (.inl c3)]) (fin g4 u16))
    rw [ncK_eq]
    refine B4.c2 1 1 (x := s.e.2.1) rfl (brD (fun c4 => ?_) fun c4 => ?_)
    · exact k4.sta _ rfl rfl fun w16 k16 u16 => k16.cA (tA5 (0, 0, 0, 0, 0)) rfl (out (by unfold tmS; rw [if_neg e0, if_neg e1, if_pos (.inr c4)]) (fin g4 u16))
    have e2 : ¬ (IntKind.wrap .i64 (loc + s.e.2.1) < 0 ∨ IntKind.wrap .i64 (loc + s.e.2.1) > 1125899906842624) := fun h => h.elim c3 c4
    rw [drK_eq, ncK_eq]
    have B := B4.drew
    refine B.c2 1 1 (x := s.e.2.1) rfl ?_
    rw [ncK_eq]
    refine B.c2 1 2 (x := s.e.2.2) rfl ?_
    rw [ncK_eq]
    refine B.c1 4 (x := s.root) rfl ?_
    rw [ncK_eq]
    refine B.c1 5 (c := .i .u16) (x := s.boot) rfl ?_
    exact k4.drew.sta _ rfl rfl fun w33 k33 u33 => ⟨trivial, k33.cA (tA5 (IntKind.wrap .i64 (loc + s.e.2.1), s.e.2.2, s.root, s.boot, 3)) rfl (out (by unfold tmS; rw [if_neg e0, if_neg e1, if_neg e2]) (fin (g4.trans (Gro.drew _)) u33))⟩

set_option maxRecDepth 20000 in
theorem law19_same.cl {a : A5} {w : World} {k : TR [(false, [.b])] → World → Prop} (h : ∀ w', Gro w w' → k ((true, ()), ()) w') :
    clS Tryz.prog F.law19_same [.agg #[.int .i64 a.1, .int .i64 a.2.1, .int .i64 a.2.2.1, .int .u16 a.2.2.2.1, .int .i64 a.2.2.2.2], .agg #[.int .i64 a.1, .int .i64 a.2.1, .int .i64 a.2.2.1, .int .u16 a.2.2.2.1, .int .i64 a.2.2.2.2]] w false [(false, [.b])] k := by
  refine law19_same.ok ?_
  unfold law19_same.wp
  refine alK_by fun p1 w2 e1 k1 u1 => alK_by fun p3 w4 e3 k3 u3 => ?_
  have q := k1.gro u3
  have g := u1.trans u3
  have hT : ∀ x : Int, (x == x) = true := fun x => by simp
  refine q.c0 (c := .i .i64) (x := a.1) rfl (k3.c0 (c := .i .i64) (x := a.1) rfl (brT (hT _) (q.c1 1 (c := .i .i64) (x := a.2.1) rfl (k3.c1 1 (c := .i .i64) (x := a.2.1) rfl (brT (hT _) ?_)))))
  refine q.c1 2 (c := .i .i64) (x := a.2.2.1) rfl (k3.c1 2 (c := .i .i64) (x := a.2.2.1) rfl (brT (hT _) (q.c2 2 1 (c := .i .u16) (x := a.2.2.2.1) rfl (k3.c1 3 (c := .i .u16) (x := a.2.2.2.1) rfl (brT (hT _) ?_)))))
  refine q.c1 4 (c := .i .i64) (x := a.2.2.2.2) rfl (k3.c1 4 (c := .i .i64) (x := a.2.2.2.2) rfl ?_)
  have := h w4 g
  rw [← hT a.2.2.2.2] at this; exact this
end Go.Proofs.YtahojpppjpfjmaaGreat
