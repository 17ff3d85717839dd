/- Contracts of the document's layer 16: a flood beats, tells its time. Conditions: what an election keeps (EI). -/
import Derived.Test.YtahojpppjpfjmaaGreatCref16
namespace Go.Proofs.YtahojpppjpfjmaaGreat
open Go.Eng Go
set_option linter.unusedVariables false
set_option linter.unusedSimpArgs false

/-- a step of the election alone -/
theorem RW.turnE {O : Nat → Prop} {br bE : Nat} {f : Fl} {e : El} {l : MkL} {es : List E3} {w : World} (hF : RW w O br bE f e l es) {w' : World} {e' : El} (hE : Blk w' bE (r15 e' l)) (u : Upd (fun z => z = bE) w w') (hI : EI e' l) (hm : e'.me = e.me) :
    RW w' O br bE f e' l es ∧ Nx O w O w' := by
  obtain ⟨⟨s, h1, h2, h3⟩, elb, ne, obr, obE, lt, inv, len, good, need, me⟩ := hF
  exact ⟨⟨⟨s, h1.upd u ne, Row.upd h2 u fun a ha => (h3 a ha).2.1, h3⟩, hE, ne, obr, obE, fun z hz => Nat.lt_of_lt_of_le (lt z hz) u.size, hI, len, good, need, me.trans hm.symm⟩, u.mono fun z h => by rw [h]; exact obE, fun z hz => .inl hz⟩

set_option maxRecDepth 20000 in
set_option maxHeartbeats 2000000 in
theorem ref16_Flood_Beat.cw {O : Nat → Prop} {br bE : Nat} {f : Fl} {e : El} {l : MkL} {es : List E3} {loc : Int} {w : World} (hF : RW w O br bE f e l es) {k : TR [(true, K14)] → World → Prop}
    (h : ∀ w' O', RW w' O' br bE (b1f f e) (b2e e loc) l (b1l e es) → Nx O w O' w' → k (if (btF f e l es loc).2 = true then plP (btF f e l es loc).1 else pl0, ()) w') :
    clS Tryz.prog F.ref16_Flood_Beat [.pointer (some ⟨br, 0, none⟩), .int .i64 loc] w false [(true, K14)] k := by
  refine ref16_Flood_Beat.ok ?_
  unfold ref16_Flood_Beat.wp
  refine alK_by fun p1 w2 e1 k1 u1 => ?_
  change Blk w2 p1 (encs K14 pl0) at k1
  have np1 : ¬ O p1 := fun h => by have := hF.lt p1 h; omega
  have F2 := hF.gro u1
  have l1 := k1.lt
  have hk := btE_keep e
  unfold btF b2e at h
  refine CutT.by (fun _ w' => ∃ O', RW w' O' br bE (b1f f e) (btE e) l (b1l e es) ∧ Nx O w O' w' ∧ Blk w' p1 (encs K14 pl0) ∧ ¬ O' p1) ?_ ?_
  · rw [ncK_eq]
    refine F2.hdr (ref15_Elect_Beat.cl F2.elb F2.inv fun w11 E11 u11 => ?_)
    obtain ⟨F11, X11⟩ := F2.turnE E11 u11 hF.inv.beat hk.1
    have k11 := X11.blk k1 np1
    have X11' := Nx.pre u1 X11
    refine brC (fun c => ?_) fun c => ?_
    · have c : btB e = true := c
      refine ref16_Flood_forget.cw F11 fun w13 F13 u13 => ⟨O, ?_, X11'.trans ⟨u13.mono fun z h => by rw [h]; exact hF.obr, fun z hz => .inl hz⟩, k11.1.upd u13 (fun h => by rw [h] at np1; exact np1 hF.obr), np1⟩
      unfold b1f b1l; rw [if_pos c, if_pos c]; exact F13
    · have c : ¬ btB e = true := by have c : btB e = false := c; rw [c]; simp
      refine ⟨O, ?_, X11', k11⟩
      unfold b1f b1l; rw [if_neg c, if_neg c]; exact F11
  rintro _ w7 ⟨O', F7, X7, k7, n7⟩ _
  have l7 := k7.lt
  have fin : ∀ {O'' : Nat → Prop} {w' w'' : World} {f' e' l' es'}, RW w' O'' br bE f' e' l' es' → Nx O w O'' w' → ¬ O'' p1 → Upd (fun x => x = p1) w' w'' → RW w'' O'' br bE f' e' l' es' ∧ Nx O w O'' w'' := fun hf X n u =>
    ⟨hf.upd u fun z hz h => by rw [h] at hz; exact n hz, Upd.trans X.u u fun i hi h => by omega, X.sub⟩
  refine ref16_time.cl (brNot (fun c => ?_) fun c => ?_)
  · have c : ¬ inT loc = true := by have c : inT loc = false := c; rw [c]; simp
    rw [if_neg c, if_neg c] at h
    refine k7.sta _ rfl rfl fun w14 k14 u14 => k14.cA (cs := K14) pl0 rfl ?_
    obtain ⟨F14, X14⟩ := fin F7 X7 n7 u14
    exact h w14 O' F14 X14
  have hin : inT loc = true := c
  rw [if_pos hin, if_pos hin] at h
  unfold btW wdF at h
  generalize b1f f e = f1 at *
  generalize b1l e es = es1 at *
  generalize btE e = e1 at *
  refine ref16_Flood_Mine.cw F7 fun w17 u17 => ?_
  have F17 := F7.gro u17
  have X17 := X7.gro u17
  have k17 := k7.gro u17
  refine brC (fun c => ?_) fun c => ?_
  · have c : mine e1 = true := c
    rw [if_pos c, if_pos rfl, if_pos rfl] at h
    rw [drK_eq, ncK_eq]
    have F18 := F17.gro (Gro.drew _)
    refine F18.hdr ?_
    rw [ncK_eq]
    refine F18.hdr ?_
    rw [ncK_eq]
    refine F18.elb.c1 4 (c := .i .u16) (x := e1.seq) (r15_get (by decide)) (ref02_Next.cl F18.inv.seq ?_)
    obtain ⟨s8, b8, _⟩ := F18.ex
    refine ⟨⟨b8.hold (Gro.refl _) (fun x => x) 0 (by simp [rfC]), b8.hold (Gro.refl _) (fun x => x) 0 (by simp [rfC]), trivial⟩, ?_⟩
    rw [ncK_eq]
    refine F18.elb.sN 4 _ (by simp [r15_len]) rfl fun w28 k28 u28 => ⟨trivial, ?_⟩
    have he : isE e1 = { e1 with seq := IntKind.wrap .u16 (e1.seq + 1) } := by unfold isE; rw [if_pos c]
    have k28 : Blk w28 bE (r15 (isE e1) l) := by
      rw [he]
      have : (r15 e1 l).set 4 (.int .u16 (IntKind.wrap .u16 (e1.seq + 1))) = r15 { e1 with seq := IntKind.wrap .u16 (e1.seq + 1) } l := r15_set (by decide) rfl fun i hi hn => by
        match i, hn with
        | 0, _ => rfl
        | 1, _ => rfl
        | 2, _ => rfl
        | 3, _ => rfl
        | 4, h => exact absurd rfl h
        | 5, _ => rfl
        | 6, _ => rfl
        | 7, _ => rfl
        | j + 8, _ => rfl
      rw [← this]; exact k28
    obtain ⟨F28, X28⟩ := F18.turnE k28 u28 F18.inv.isE (by rw [he])
    have X28 := (X17.gro (Gro.drew _)).trans X28
    have kp28 := (k17.gro (Gro.drew _)).upd u28 (fun h => by rw [h] at n7; exact n7 F7.obE)
    rw [drK_eq, ncK_eq]
    have F29 := F28.gro (Gro.drew _)
    have hm2 : (isE e1).me = e1.me := by rw [he]
    refine F29.hdr ?_
    rw [ncK_eq]
    refine F29.elb.c0 (x := e1.me) ((r15_get (by decide)).trans (by rw [← hm2]; rfl)) ?_
    rw [ncK_eq]
    refine F29.hdr ?_
    rw [ncK_eq]
    refine F29.elb.c0 (x := e1.me) ((r15_get (by decide)).trans (by rw [← hm2]; rfl)) ?_
    rw [ncK_eq]
    refine F29.hdr ?_
    rw [ncK_eq]
    refine F29.elb.c1 3 (c := .i .u16) (x := e1.boot) ((r15_get (by decide)).trans (by rw [he]; rfl)) ?_
    rw [ncK_eq]
    refine F29.hdr ?_
    rw [ncK_eq]
    refine F29.elb.c1 4 (c := .i .u16) (x := IntKind.wrap .u16 (e1.seq + 1)) ((r15_get (by decide)).trans (by rw [he]; rfl)) ?_
    have hf1 : f1.me = e1.me := F7.me
    refine kp28.drew.sta _ rfl rfl fun w46 k46 u46 => ⟨trivial, ?_⟩
    refine k46.cA (cs := K14) (plP (e1.me, e1.me, e1.boot, IntKind.wrap .u16 (e1.seq + 1), 0, loc)) rfl ?_
    obtain ⟨F46, X46⟩ := fin F29 (X28.gro (Gro.drew _)) n7 u46
    have := h w46 O' F46 X46
    unfold isM at this
    rw [if_pos c, hf1] at this
    exact this
  · have c : ¬ mine e1 = true := by have c : mine e1 = false := c; rw [c]; simp
    rw [if_neg c, isE_no c] at h
    refine ref16_Flood_Synced.cw F17 fun w49 u49 => ?_
    have F49 := F17.gro u49
    have X49 := X17.gro u49
    have k49 := k17.gro u49
    refine brNot (fun c2 => ?_) fun c2 => ?_
    · have c2 : synF f1 e1 es1.length = false := c2
      rw [if_pos c2] at h
      refine k49.sta _ rfl rfl fun w50 k50 u50 => k50.cA (cs := K14) pl0 rfl ?_
      obtain ⟨F50, X50⟩ := fin F49 X49 n7 u50
      exact h w50 O' F50 X50
    · have c2 : ¬ synF f1 e1 es1.length = false := by have c2 : synF f1 e1 es1.length = true := c2; rw [c2]; simp
      rw [if_neg c2] at h
      rw [ncK_eq]
      refine F49.hdr (ref15_Elect_Mark.cl F49.elb F49.inv fun w55 u55 => ?_)
      rw [drK_eq, ncK_eq]
      have g56 : Gro w49 w55.drew := u55.trans (Gro.drew _)
      have F56 := F49.gro g56
      have X56 := X49.gro g56
      have k56 := k49.gro g56
      obtain ⟨s6, b6, _⟩ := F56.ex
      refine F56.hdr ?_
      rw [ncK_eq]
      refine F56.elb.c0 (x := e1.me) (r15_get (by decide)) ?_
      rw [ncK_eq]
      refine F56.hdr ?_
      rw [ncK_eq]
      refine F56.elb.c1 5 (x := e1.root) (r15_get (by decide)) ?_
      rw [ncK_eq]
      refine b6.c1 6 (x := f1.lh) rfl ?_
      rw [ncK_eq]
      refine b6.c1 5 (x := f1.lg) rfl ?_
      rw [ncK_eq]
      refine b6.c1 4 (x := f1.ll) rfl ?_
      refine alK_by fun p71 w72 e71 k71 u72 => ⟨⟨b6.hold u72 (fun x => x) 4 (by simp [rfC]), b6.hold u72 (fun x => x) 5 (by simp [rfC]), b6.hold u72 (fun x => x) 6 (by simp [rfC]), F56.elb.hold u72 (fun x => x) 5 (by rw [r15_len]; decide), b6.hold u72 (fun x => x) 0 (by simp [rfC]), F56.elb.hold u72 (fun x => x) 0 (by rw [r15_len]; decide), b6.hold u72 (fun x => x) 0 (by simp [rfC]), trivial⟩, ?_⟩
      refine k71.sta _ rfl rfl fun w73 k73 u73 => ⟨trivial, ?_⟩
      have g73 : Gro w55.drew w73 := Gro.fresh (Gro.refl _) u72 u73 e71
      have hfw : fwS f1 e1 l loc = (e1.me, e1.root, (mkM e1 l).1, (mkM e1 l).2.1, f1.lh, IntKind.wrap .i64 (IntKind.wrap .i64 (f1.lg + loc) - f1.ll)) := by unfold fwS; rw [F7.me]
      change Blk w73 p71 (encs K14 (plP (e1.me, e1.root, (mkM e1 l).1, (mkM e1 l).2.1, f1.lh, IntKind.wrap .i64 (IntKind.wrap .i64 (f1.lg + loc) - f1.ll)))) at k73
      rw [← hfw] at k73
      have n71 : p71 ≠ p1 := by have := k56.lt; omega
      refine k73.cA (cs := K14) (plP (fwS f1 e1 l loc)) rfl (ref05_Good.cl1 (x := plP (fwS f1 e1 l loc)) rfl fun w76 u76 => ?_)
      rw [syP_plP]
      have F76 := (F56.gro g73).gro u76
      have X76 := (X56.gro g73).gro u76
      have k76 := (k56.gro g73).gro u76
      refine brNot (fun c3 => ?_) fun c3 => ?_
      · have c3 : ¬ okF (flS (fwS f1 e1 l loc)) = true := by have c3 : okF (flS (fwS f1 e1 l loc)) = false := c3; rw [c3]; simp
        rw [if_neg c3] at h
        refine k76.sta _ rfl rfl fun w77 k77 u77 => k77.cA (cs := K14) pl0 rfl ?_
        obtain ⟨F77, X77⟩ := fin F76 X76 n7 u77
        exact h w77 O' F77 X77
      · have c3 : okF (flS (fwS f1 e1 l loc)) = true := c3
        rw [if_pos c3, if_pos rfl] at h
        refine (k73.gro u76).cA (cs := K14) (plP (fwS f1 e1 l loc)) rfl (k76.sta _ rfl rfl fun w80 k80 u80 => k80.cA (cs := K14) (plP (fwS f1 e1 l loc)) rfl ?_)
        obtain ⟨F80, X80⟩ := fin F76 X76 n7 u80
        exact h w80 O' F80 X80

set_option maxRecDepth 20000 in
set_option maxHeartbeats 1000000 in
theorem ref16_Flood_Time.cw {O : Nat → Prop} {br bE : Nat} {f : Fl} {e : El} {l : MkL} {es : List E3} {loc : Int} {w : World} (hF : RW w O br bE f e l es) {k : TR [(false, [.i .i64]), (false, [.i .i64]), (false, [.i .i64])] → World → Prop}
    (h : ∀ w', Gro w w' → k (((tmF f e es loc).1, ()), ((tmF f e es loc).2.1, ()), ((tmF f e es loc).2.2, ()), ()) w') :
    clS Tryz.prog F.ref16_Flood_Time [.pointer (some ⟨br, 0, none⟩), .int .i64 loc] w true [(false, [.i .i64]), (false, [.i .i64]), (false, [.i .i64])] k := by
  refine ref16_Flood_Time.ok ?_
  unfold ref16_Flood_Time.wp
  unfold tmF at h
  refine ref16_Flood_Synced.cw hF fun w2 u2 => brNot (fun c => ?_) fun c => ?_
  · have c : synF f e es.length = false := c
    rw [if_pos c] at h; exact h w2 u2
  have cs : ¬ synF f e es.length = false := by have c : synF f e es.length = true := c; rw [c]; simp
  rw [if_neg cs] at h
  have F2 := hF.gro u2
  refine ref16_time.cl (brNot (fun c => ?_) fun c => ?_)
  · have c : inT loc = false := c
    rw [if_pos c] at h; exact h _ u2
  have ct : ¬ inT loc = false := by have c : inT loc = true := c; rw [c]; simp
  rw [if_neg ct] at h
  refine ref16_Flood_Mine.cw F2 fun w6 u6 => ?_
  have F6 := F2.gro u6
  have g6 := u2.trans u6
  refine brC (fun c => ?_) fun c => ?_
  · have c : mine e = true := c
    rw [if_pos c] at h; exact h _ g6
  have cm' : mine e = false := c
  have cm : ¬ mine e = true := by rw [cm']; simp
  rw [if_neg cm] at h
  have hne : es ≠ [] := by
    intro h0; subst h0
    refine cs ?_
    unfold synF
    have : (e.root == e.me) = false := cm'
    rw [this]
    have := hF.need
    simp; omega
  have hMB : MB f.drift (mapV f.drift es) := mapV_MB hne hF.good
  generalize hm : mapV f.drift es = m at *
  have hm5 : m.2.2.2.2 = maxH es := by rw [← hm]; rfl
  refine CutT.by (fun z w' => Gro w w' ∧ ∃ p, z.1 = ⟨p, 0, none⟩ ∧ Blk w' p (m5 m)) ?_ ?_
  · rw [drK_eq]
    have gd : Gro w w6.drew := g6.trans (Gro.drew _)
    obtain ⟨s, b1, E1, _⟩ := (hF.gro gd).ex
    rw [ncK_eq]
    refine b1.c1 2 (x := f.drift) rfl ?_
    rw [ncK_eq]
    refine b1.c1 3 (c := .sl) (x := s) rfl ?_
    have hd : ∀ {w' : World}, Gro w6.drew w' → Hold [(7, (Addr.add ⟨br, 0, none⟩ 3), (w6.drew.cell? (Addr.add ⟨br, 0, none⟩ 3)).getD undef), (3, (Addr.add ⟨br, 0, none⟩ 2), (w6.drew.cell? (Addr.add ⟨br, 0, none⟩ 2)).getD undef)] w' := fun u => ⟨b1.hold u (fun x => x) 3 (by simp [rfC]), b1.hold u (fun x => x) 2 (by simp [rfC]), trivial⟩
    refine ⟨?_, ?_⟩
    · refine ref14_Of.cl E1 hF.len hF.good (fun h => absurd h hne) fun _ w16 u16 => ⟨hd u16, ?_⟩
      rw [hm]
      refine alK_by fun p17 w18 e17 k17 u18 => ⟨hd (u16.trans u18), k17.sta _ rfl rfl fun w19 k19 u19 => ⟨trivial, ?_⟩⟩
      exact ⟨gd.trans (Gro.fresh u16 u18 u19 e17), p17, rfl, k19⟩
    · refine alK_by fun p20 w21 e20 k20 u21 => ⟨hd u21, ?_⟩
      refine ref14_Of.cl (E1.gro u21) hF.len hF.good (fun h => absurd h hne) fun _ w23 u23 => ⟨trivial, ?_⟩
      rw [hm]
      refine (k20.gro u23).sta _ rfl rfl fun w24 k24 u24 => ⟨trivial, ?_⟩
      refine ⟨gd.trans (Upd.trans (u21.trans u23) u24 fun i hi h => ?_), p20, rfl, k24⟩
      omega
  · rintro ⟨z, _⟩ w9 ⟨g9, p, hz, kp⟩ _
    dsimp only at hz
    subst hz
    refine kp.cA (cs := [.i .i64, .i .i64, .i .i64, .i .i64, .i .i64]) (t5 m) rfl ?_
    refine ref14_Global.cl (m := m) hMB fun w27 u27 => brNot (fun c => ?_) fun c => ?_
    · have c : okG m loc = false := c
      rw [if_neg (by rw [c]; simp)] at h
      exact h _ (g9.trans u27)
    · have c : okG m loc = true := c
      rw [if_pos c] at h
      rw [drK_eq]
      refine (kp.gro u27).drew.c1 4 (x := m.2.2.2.2) rfl ?_
      rw [hm5]
      exact h _ ((g9.trans u27).trans (Gro.drew _))
end Go.Proofs.YtahojpppjpfjmaaGreat
