/- The law FloodSays. Conditions: none. -/
import Derived.Test.YtgpgdhopmifbpaaCfloC
namespace Go.Proofs.Ytgpgdhopmifbpaa
open Go.Eng Go
set_option linter.unusedVariables false
set_option linter.unusedSimpArgs false

abbrev K16 : List CK := [.i .i64, .i .i64, .i .i64, .i .i64, .i .i64, .i .i64, .i .u16, .i .u16, .i .i64, .i .i64, .i .i64, .i .i64, .i .i64, .i .i64, .i .i64, .i .i64]
/-- what an election holds of the last accepted word -/
def Lnk (f : Fl) (e : El) (l : MkL) (p : P14) (t : Int) : Prop :=
  0 ≤ e.root ∧ e.root = p.2.2.2.1 ∧ mget l e.root = some (p.2.2.2.2.1, p.2.2.2.2.2.1, ()) ∧ f.lh = IntKind.wrap .i64 (p.2.2.2.2.2.2.1 + 1) ∧ f.lg = p.2.2.2.2.2.2.2.1 ∧ f.ll = t
theorem hrN_may {e : El} {l : MkL} {root : Int} {m : Tvs MK} (h : hrN e l root m ≠ 0) : 0 ≤ root ∧ root < e.me := by
  unfold hrN at h
  by_cases c : mayE e root = false
  · rw [if_pos c] at h; exact absurd rfl h
  · unfold mayE at c
    by_cases d : root < 0 ∨ root ≥ e.me
    · rw [if_pos d] at c; exact absurd rfl c
    · omega
theorem hrF_may {e : El} {l : MkL} {s : S6} {loc : Int} (h : hrF e l s loc ≠ 0) : 0 ≤ s.2.1 ∧ s.2.1 < e.me := by
  unfold hrF at h
  split at h
  · exact hrN_may h
  · exact absurd rfl h
theorem Lnk.hear {f : Fl} {e : El} {l : MkL} {p : P14} {loc : Int} (h : 0 ≤ (syP p).2.1) : Lnk (hfF f (syP p) loc) (hrE e (syP p).2.1) (mset l (syP p).2.1 (mrk (syP p))) p loc := by
  refine ⟨h, rfl, ?_, rfl, rfl, rfl⟩
  rw [mget_mset]
  show (if (hrE e (syP p).2.1).root = (syP p).2.1 then _ else _) = _
  exact if_pos rfl
theorem mine_root {e : El} (h : mine e = true) : e.root = e.me := by unfold mine at h; rwa [beq_iff_eq] at h
theorem mine_of {e : El} (h : e.root = e.me) : mine e = true := by unfold mine; rwa [beq_iff_eq]
theorem btE_keep (e : El) : (btE e).me = e.me ∧ (btE e).tmo = e.tmo ∧ (btE e).ign = e.ign ∧ (btE e).boot = e.boot ∧ (btE e).seq = e.seq := by
  unfold btE; split
  · exact ⟨rfl, rfl, rfl, rfl, rfl⟩
  · split <;> exact ⟨rfl, rfl, rfl, rfl, rfl⟩
theorem b2e_keep (e : El) (loc : Int) : (b2e e loc).me = e.me ∧ (b2e e loc).root = (btE e).root := by
  have h := btE_keep e
  unfold b2e; split
  · unfold isE; split <;> exact ⟨h.1, rfl⟩
  · exact ⟨h.1, rfl⟩
theorem btE_root (e : El) : (btE e).root = if btB e = true then e.me else e.root := by
  unfold btE btB
  by_cases c : mine e = true
  · rw [if_pos c, if_pos c]; rfl
  · rw [if_neg c, if_neg c]
    by_cases d : IntKind.wrap .i64 (e.beats + 1) < e.tmo
    · rw [if_pos d, if_pos d]; rfl
    · rw [if_neg d, if_neg d]; rfl
theorem btB_no {e : El} (h : mine e = true) : btB e = false := by unfold btB; rw [if_pos h]

/-- what a beat says -/
theorem says {f : Fl} {e : El} {l : MkL} {es : List E3} {p : P14} {t loc : Int} (hm : f.me = e.me) (hme : 0 ≤ e.me) (hn : 1 ≤ f.need)
    (hI : mine e = true ∨ (e.root < 0 ∧ es = []) ∨ Lnk f e l p t) (h2 : (btF f e l es loc).2 = true) :
    ((btF f e l es loc).1.2.1 ≠ e.me → (btF f e l es loc).1 = (e.me, e.root, p.2.2.2.2.1, p.2.2.2.2.2.1, IntKind.wrap .i64 (p.2.2.2.2.2.2.1 + 1), IntKind.wrap .i64 (IntKind.wrap .i64 (p.2.2.2.2.2.2.2.1 + loc) - t)) ∧ e.root = p.2.2.2.1)
    ∧ ((btF f e l es loc).1.2.1 = e.me → (btF f e l es loc).1.2.2.2.2.1 = 0 ∧ (btF f e l es loc).1.2.2.2.2.2 = loc ∧ mine (b2e e loc) = true) := by
  have hk := btE_keep e
  unfold btF at h2 ⊢
  have hin : inT loc = true := by
    cases c : inT loc
    · rw [if_neg (by rw [c]; simp)] at h2; cases h2
    · rfl
  rw [if_pos hin] at h2 ⊢
  have hw : (btW f e l es loc).2 = true := by
    cases c : (btW f e l es loc).2
    · rw [if_neg (by rw [c]; simp)] at h2; cases h2
    · rfl
  rw [if_pos hw]
  dsimp only
  have f1 : (b1f f e).me = f.me ∧ (b1f f e).need = f.need := by unfold b1f; split <;> exact ⟨rfl, rfl⟩
  unfold btW wdF at hw ⊢
  by_cases cm : mine (btE e) = true
  · rw [if_pos cm]
    refine ⟨fun h => absurd (f1.1.trans hm) h, fun _ => ⟨rfl, rfl, mine_of ?_⟩⟩
    have := b2e_keep e loc
    rw [this.1, this.2, mine_root cm, hk.1]
  · rw [if_neg cm] at hw ⊢
    by_cases cs : synF (b1f f e) (btE e) (b1l e es).length = false
    · rw [if_pos cs] at hw; cases hw
    rw [if_neg cs] at hw ⊢
    have bno : ¬ btB e = true := fun h => cm (mine_of (by rw [btE_root, if_pos h, hk.1]))
    have hr : (btE e).root = e.root := by rw [btE_root, if_neg bno]
    have nm : ¬ mine e = true := fun h => cm (mine_of (by rw [hr, hk.1]; exact mine_root h))
    have rne : e.root ≠ e.me := fun h => nm (mine_of h)
    have hb1 : b1f f e = f := by unfold b1f; rw [if_neg bno]
    have hb2 : b1l e es = es := by unfold b1l; rw [if_neg bno]
    rw [hb1, hb2] at cs
    rw [hb1]
    have hL : Lnk f e l p t := by
      rcases hI with h | ⟨h1, h2⟩ | h
      · exact absurd h nm
      · refine absurd ?_ cs
        unfold synF
        rw [show ((btE e).root == (btE e).me) = false from beq_eq_false_iff_ne.2 (by rw [hr, hk.1]; exact rne), h2]
        simp; omega
      · exact h
    obtain ⟨q1, q2, q3, q4, q5, q6⟩ := hL
    have hmk : mkM (btE e) l = (p.2.2.2.2.1, p.2.2.2.2.2.1, ()) := by
      unfold mkM; rw [if_neg (by rw [hr]; omega), if_neg cm, hr, q3]; rfl
    refine ⟨fun _ => ⟨?_, q2⟩, fun h => absurd (hr.symm.trans h) rne⟩
    unfold fwS
    rw [hmk, hr, q4, q5, q6, hm]

set_option maxRecDepth 20000 in
set_option maxHeartbeats 4000000 in
theorem law16_FloodSays.cl {me r0 r1 r2 r3 : Int} {s : Sl} {xs : List (Tvs K16)} {w : World} (hR : RowsT w s K16 xs) :
    clS Try.prog F.law16_FloodSays [.int .i64 me, .agg #[.int .i64 r0, .int .i64 r1, .int .i64 r2, .int .i64 r3], .slice s.1 s.2.1 s.2.2] w false [(false, [.b])] (Holds w) := by
  refine law16_FloodSays.ok ?_
  unfold law16_FloodSays.wp
  refine alK_by fun p1 w2 e1 k1 u1 => law16_alive.cl fun w4 u4 => brF rfl (brD (fun _ => holds (u1.trans u4) rfl) fun cl => ?_)
  have cl : ¬ (s.2.1 : Int) > 200 := cl
  have hl := hR.len (by decide)
  have g4 := u1.trans u4
  refine (k1.gro u4).cA (cs := [.i .i64, .i .i64, .i .i64, .i .i64]) (r0, r1, r2, r3, ()) rfl (law16_rules.cl fun w7 u7 => ?_)
  have g7 := g4.trans u7
  refine flood_New.cw (fun c w9 u9 => brT rfl (holds (g7.trans u9) rfl)) fun m0 m1 hg O bf be w9 F9 hO u9 => brF rfl ?_
  have g9 := g7.trans u9
  have hO' : ∀ z, O z → w.heap.size ≤ z := fun z hz => Nat.le_trans g7.size (hO z hz)
  refine alK_by fun p10 w11 e10 k10 u11 => ?_
  change Blk w11 p10 (encs K14 (0, 0, 0, 0, 0, 0, 0, 0, 0, 0, 0, 0, 0, 0, ())) at k10
  have G11 := g9.trans u11
  refine LoopT.by (fun z W => ∃ (i : Nat) (O' : Nat → Prop) (f : Fl) (e : El) (l : MkL) (es : List E3) (p : P14), z.2.1 = i ∧ i ≤ xs.length ∧ Gro w W ∧ FW W O' bf be f e l es ∧ (∀ z, O' z → w.heap.size ≤ z) ∧ Blk W p10 (encs K14 p) ∧ ¬ O' p10 ∧ f.me = me ∧ e.me = me ∧ (mine e = true ∨ (e.root < 0 ∧ es = []) ∨ Lnk f e l p z.1))
    (fun z => ((xs.length : Int) - z.2.1).toNat) ⟨0, O, _, _, _, _, _, rfl, by omega, G11, F9.gro u11, hO', k10, fun h => by have := F9.lt _ h; omega, rfl, rfl, .inr (.inl ⟨by show (-1 : Int) < 0; decide, rfl⟩)⟩ ?_
  have lw : w.heap.size ≤ p10 := by have := g9.size; omega
  clear k10 F9 hO' hO
  rintro ⟨t, z, _⟩ W ⟨i, O', f, e, l, es, p, hz, hi, g, hF, hO, kp, np, fm, em, hI⟩ _
  dsimp only at hz hI
  subst hz
  refine brD (fun c => ?_) fun c => holds g rfl
  have c : (i : Int) < s.2.1 := c
  have hi1 : i < xs.length := by omega
  have hx : xs[i]? = some xs[i] := List.getElem?_eq_getElem hi1
  generalize xs[i] = x at hx
  have hRW := hR.gro g
  have hw1 : IntKind.wrap .i64 ((i : Int) + 1) = i + 1 := w64_in (by unfold I64; omega)
  refine hRW.ix (by decide) rfl hx fun a ha => hRW.ldN ha hx ?_
  refine alK_by fun p17 w18 e17 k17 u18 => k17.sta _ rfl rfl fun w19 k19 u19 => ?_
  change Blk w19 p17 (encs K16 x) at k19
  have g19 : Gro W w19 := Gro.fresh (Gro.refl _) u18 u19 e17
  have n17 : ¬ O' p17 := fun h => by have := hF.lt _ h; omega
  have lp := kp.lt
  have d17 : p17 ≠ p10 := by omega
  have lw17 : w.heap.size ≤ p17 := by have := g.size; omega
  have hF19 := hF.gro g19
  have kp19 := kp.gro g19
  have G19 := g.trans g19
  -- the state behind the first half
  refine CutT.by (fun z W' => ∃ (O2 : Nat → Prop) (f : Fl) (e : El) (l : MkL) (es : List E3) (p : P14), Gro w W' ∧ FW W' O2 bf be f e l es ∧ (∀ z, O2 z → w.heap.size ≤ z) ∧ Blk W' p10 (encs K14 p) ∧ ¬ O2 p10 ∧ Blk W' p17 (encs K16 x) ∧ ¬ O2 p17 ∧ f.me = me ∧ e.me = me ∧ (mine e = true ∨ (e.root < 0 ∧ es = []) ∨ Lnk f e l p z.1)) ?_ ?_
  · have stay : ∀ {W'}, Gro w19 W' → ∃ (O2 : Nat → Prop) (f : Fl) (e : El) (l : MkL) (es : List E3) (p : P14), Gro w W' ∧ FW W' O2 bf be f e l es ∧ (∀ z, O2 z → w.heap.size ≤ z) ∧ Blk W' p10 (encs K14 p) ∧ ¬ O2 p10 ∧ Blk W' p17 (encs K16 x) ∧ ¬ O2 p17 ∧ f.me = me ∧ e.me = me ∧ (mine e = true ∨ (e.root < 0 ∧ es = []) ∨ Lnk f e l p t) :=
      fun g' => ⟨O', f, e, l, es, p, G19.trans g', hF19.gro g', hO, kp19.gro g', np, k19.gro g', n17, fm, em, hI⟩
    refine k19.c0 (c := .i .i64) (x := x.1) rfl (brD (fun _ => ?_) fun _ => stay (Gro.refl _))
    rw [drK_eq]
    have kd := k19.drew
    refine kd.cN 2 (cs := K14) x.2.2 rfl (kd.c1 1 (x := x.2.1) rfl (law16_sync.cl (p := x.2.2) fun w28 u28 => ?_))
    have hh : ∀ {w'} {S : Nat → Prop}, Upd S w19.drew w' → ¬ S p17 → ∀ j, j < 14 → w'.cell? (Addr.add (Addr.add ⟨p17, 0, none⟩ 2) j) = some ((w19.drew.cell? (Addr.add (Addr.add ⟨p17, 0, none⟩ 2) j)).getD undef) := fun u hS j hj => kd.hold2 u hS 2 j (by rw [show (encs K16 x).length = 16 from rfl]; omega)
    have h28 := hh u28 (fun x => x)
    refine ⟨⟨kd.hold u28 (fun x => x) 1 (by simp [encs]), h28 0 (by decide), h28 1 (by decide), h28 2 (by decide), h28 3 (by decide), h28 4 (by decide), h28 5 (by decide), h28 6 (by decide), h28 7 (by decide), h28 8 (by decide), h28 9 (by decide), h28 10 (by decide), h28 11 (by decide), h28 12 (by decide), h28 13 (by decide), trivial⟩, ?_⟩
    have f28 : Gro w19 w28 := (Gro.drew _).trans u28
    refine flood_Flood_Hear.cw (s := syP x.2.2) (loc := x.2.1) (hF19.gro f28) (fun h0 w30 u30 => ?_) fun c hc hc0 ok w30 O30 F30 x30 => ?_
    · have h30 := hh (u28.trans u30) (fun x => x)
      refine ⟨⟨h30 0 (by decide), h30 1 (by decide), h30 2 (by decide), h30 3 (by decide), h30 4 (by decide), h30 5 (by decide), h30 6 (by decide), h30 7 (by decide), h30 8 (by decide), h30 9 (by decide), h30 10 (by decide), h30 11 (by decide), h30 12 (by decide), h30 13 (by decide), trivial⟩, ?_⟩
      exact brS rfl (stay (f28.trans u30))
    · have h30 := hh ((Upd.of_gro u28).trans x30.u fun _ _ h => h) n17
      refine ⟨⟨h30 0 (by decide), h30 1 (by decide), h30 2 (by decide), h30 3 (by decide), h30 4 (by decide), h30 5 (by decide), h30 6 (by decide), h30 7 (by decide), h30 8 (by decide), h30 9 (by decide), h30 10 (by decide), h30 11 (by decide), h30 12 (by decide), h30 13 (by decide), trivial⟩, ?_⟩
      have k30 := x30.blk (k19.gro f28) n17
      have q30 := x30.blk (kp19.gro f28) np
      refine brN (fun _ => ?_) fun h => absurd h hc0
      refine k30.1.cN 2 (cs := K14) x.2.2 rfl (q30.1.sta (encs K14 x.2.2) rfl rfl fun w32 k32 u32 => ?_)
      have k32' := k30.1.upd u32 d17
      refine k32'.c1 1 (x := x.2.1) rfl ?_
      have G28 := G19.trans f28
      have G30 : Gro w w30 := Upd.trans G28 x30.u fun i hi h => by have := hO i h; omega
      refine ⟨O30, _, _, _, _, x.2.2, Upd.trans G30 u32 fun i hi h => by omega, F30.upd u32 fun z hz h => by rw [h] at hz; exact q30.2 hz, fun z hz => (x30.sub z hz).elim (hO z) fun h => Nat.le_trans G28.size h, k32, q30.2, k32', k30.2, fm, em, .inr (.inr ?_)⟩
      exact Lnk.hear (hrF_may (by rw [hc]; exact hc0)).1
  clear hI hF19 kp19 hF kp g19 G19 hO np n17 k19 fm em
  rintro ⟨t', _⟩ w22 ⟨O2, f, e, l, es, p, g, hF, hO, kp, np, k17', n17, fm, em, hI⟩ _
  dsimp only at hI
  have next : ∀ {W' : World} {O3 : Nat → Prop} {f e l es}, Gro w W' → FW W' O3 bf be f e l es → (∀ z, O3 z → w.heap.size ≤ z) → Blk W' p10 (encs K14 p) → ¬ O3 p10 → f.me = me → e.me = me → (mine e = true ∨ (e.root < 0 ∧ es = []) ∨ Lnk f e l p t') →
      (∃ (j : Nat) (O' : Nat → Prop) (f : Fl) (e : El) (l : MkL) (es : List E3) (p : P14), ((t', IntKind.wrap .i64 ((i : Int) + 1), ()) : Int × Int × Unit).2.1 = j ∧ j ≤ xs.length ∧ Gro w W' ∧ FW W' O' bf be f e l es ∧ (∀ z, O' z → w.heap.size ≤ z) ∧ Blk W' p10 (encs K14 p) ∧ ¬ O' p10 ∧ f.me = me ∧ e.me = me ∧ (mine e = true ∨ (e.root < 0 ∧ es = []) ∨ Lnk f e l p t')) ∧ ((xs.length : Int) - IntKind.wrap .i64 ((i : Int) + 1)).toNat < ((xs.length : Int) - i).toNat := by
    intro W' O3 f e l es a1 a2 a3 a4 a5 a6 a7 a8
    rw [hw1]
    exact ⟨⟨i + 1, O3, f, e, l, es, p, rfl, by omega, a1, a2, a3, a4, a5, a6, a7, a8⟩, by omega⟩
  refine CutT.by (fun z W' => W' = w22) ?_ ?_
  · exact k17'.c0 (c := .i .i64) (x := x.1) rfl (brE (fun _ => rfl) fun _ => k17'.c0 (c := .i .i64) (x := x.1) rfl rfl)
  rintro ⟨b, _⟩ _ rfl _
  refine brC (fun _ => ?_) fun _ => next g hF hO kp np fm em hI
  rw [ncK_eq]
  refine hF.elect (elect_Elect_Root.cw hF (k17'.c1 1 (x := x.2.1) rfl (flood_Flood_Beat.cw hF (loc := x.2.1) fun w45 O45 F45 x45 => ?_)))
  have k45 := x45.blk k17' n17
  have q45 := x45.blk kp np
  have G45 : Gro w w45 := Upd.trans g x45.u fun i hi h => by have := hO i h; omega
  have hO45 : ∀ z, O45 z → w.heap.size ≤ z := fun z hz => (x45.sub z hz).elim (hO z) fun h => Nat.le_trans g.size h
  have f45 : (b1f f e).me = me := by unfold b1f; split <;> exact fm
  have e45 : (b2e e x.2.1).me = me := (b2e_keep _ _).1.trans em
  have hsay := says (loc := x.2.1) (fm.trans em.symm) (by omega) hF.need hI
  have I45 : mine (b2e e x.2.1) = true ∨ ((b2e e x.2.1).root < 0 ∧ b1l e es = []) ∨ Lnk (b1f f e) (b2e e x.2.1) l p t' := by
    have hk := b2e_keep e x.2.1
    by_cases c : btB e = true
    · left; refine mine_of ?_; rw [hk.1, hk.2, btE_root, if_pos c]
    · have hr : (b2e e x.2.1).root = e.root := by rw [hk.2, btE_root, if_neg c]
      have h1 : b1l e es = es := by unfold b1l; rw [if_neg c]
      have h2 : b1f f e = f := by unfold b1f; rw [if_neg c]
      rcases hI with h | ⟨h, h'⟩ | h
      · left; refine mine_of ?_; rw [hr, hk.1]; exact mine_root h
      · right; left; exact ⟨by rw [hr]; exact h, by rw [h1]; exact h'⟩
      · right; right
        rw [h2]
        obtain ⟨a1, a2, a3, a4, a5, a6⟩ := h
        exact ⟨by rw [hr]; exact a1, by rw [hr]; exact a2, by rw [hr]; exact a3, a4, a5, a6⟩
  generalize b2e e x.2.1 = e2 at *
  generalize btF f e l es x.2.1 = Z at *
  refine alK_by fun p46 w47 e46 k46 u47 => k46.sta _ rfl rfl fun w48 k48 u48 => ?_
  change Blk w48 p46 (encs KS (tS Z.1)) at k48
  have f48 : Gro w45 w48 := Gro.fresh (Gro.refl _) u47 u48 e46
  have G48 := G45.trans f48
  have F48 := F45.gro f48
  have k48' := k45.1.gro f48
  have q48 := q45.1.gro f48
  refine CutT.by (fun _ W' => W' = w48) ?_ ?_
  · refine brC (fun hz => ?_) fun _ => rfl
    have hz : Z.2 = true := hz
    obtain ⟨s1, s2⟩ := hsay hz
    refine k48.c1 1 (x := Z.1.2.1) rfl (brN (fun hr => ?_) fun _ => rfl)
    have hr : Z.1.2.1 ≠ me := hr
    obtain ⟨s1, s1'⟩ := s1 (by rw [em]; exact hr)
    obtain ⟨a, ea⟩ : ∃ a : S6, a = Z.1 := ⟨_, rfl⟩
    rw [← ea] at k48 s1 hr
    subst s1
    refine k48.c1 1 rfl (brS rfl (k48.c1 1 rfl (q48.c1 3 rfl (brS s1' (k48.c1 2 rfl (q48.c1 4 rfl (brS rfl (k48.c1 3 rfl (q48.c1 5 rfl (brS rfl ?_))))))))))
    refine k48.c1 4 rfl (q48.c1 6 rfl (brS rfl (k48.c1 5 rfl (q48.c1 7 rfl (k48'.c1 1 rfl (brS rfl (k48.c0 rfl (brS em rfl))))))))
  · rintro _ _ rfl _
    refine brC (fun hz => ?_) fun _ => next G48 F48 hO45 q48 q45.2 f45 e45 I45
    have hz : Z.2 = true := hz
    obtain ⟨s1, s2⟩ := hsay hz
    refine k48.c1 1 (x := Z.1.2.1) rfl (brE (fun hr => ?_) fun _ => next G48 F48 hO45 q48 q45.2 f45 e45 I45)
    have hr : Z.1.2.1 = me := hr
    obtain ⟨s2, s3, s4⟩ := s2 (hr.trans em.symm)
    refine k48.c1 4 (x := Z.1.2.2.2.2.1) rfl (brS s2 (k48.c1 5 (x := Z.1.2.2.2.2.2) rfl (k48'.c1 1 (x := x.2.1) rfl (brS s3 ?_))))
    rw [ncK_eq]
    refine F48.elect (elect_Elect_Mine.cw F48 fun w73 u73 => brF (by rw [s4]; rfl) (next (G48.trans u73) (F48.gro u73) hO45 (q48.gro u73) q45.2 f45 e45 I45))
end Go.Proofs.Ytgpgdhopmifbpaa
