/- Laws of layer 22: UtcBack, UtcDays, UtcLeaps, UtcOrder. Conditions: what an argument is. -/
import Derived.Test.YtimdngcmbmamdaaCutcA
namespace Go.Proofs.Ytimdngcmbmamdaa
open Go.Eng Go
set_option linter.unusedVariables false
set_option linter.unusedSimpArgs false

theorem taiS_err {m : Tb} {u : U6} (h : (taiS m u).2 ≠ 0) : (taiS m u).1 = 0 := by
  unfold taiS at *
  split
  · rfl
  split
  · rfl
  split
  · rfl
  rename_i h1 h2 h3
  rw [if_neg h1, if_neg h2, if_neg h3] at h
  exact absurd rfl h
theorem taiS_ok {m : Tb} {u : U6} (h : (taiS m u).2 = 0) : GoodU u ∧ inR m (numD (dU u)) ∧ secU u < 86400 + stS m.ls (numD (dU u)) ∧ (taiS m u).1 = begT m (numD (dU u)) + secU u := by
  unfold taiS at *
  split at h
  · cases h
  split at h
  · cases h
  split at h
  · cases h
  rename_i h1 h2 h3
  rw [if_neg h1, if_neg h2, if_neg h3]
  exact ⟨Decidable.not_not.1 h1, Decidable.not_not.1 h2, by omega, rfl⟩
theorem taiS_of {m : Tb} (hg : GoodT m) {tai x : Int} (hx : IsOf m tai x) {d : D3} (hd : GoodD d) (hn : numD d = x) : taiS m (uOf d (tai - begT m x)) = (tai, 0) := by
  have bs := beg_succ hg x
  have sr := st_rng hg x
  obtain ⟨h1, h2, h3⟩ := hx
  obtain ⟨g1, g2, g3⟩ := uOf_good hd (s := tai - begT m x) (by omega) (by omega)
  unfold taiS
  rw [g2, g3, hn, if_neg (fun h => h g1), if_neg (fun h => h h1), if_neg (by omega)]
  congr 1; omega
theorem isOf_tai {m : Tb} (hg : GoodT m) {u : U6} (h : (taiS m u).2 = 0) : IsOf m (taiS m u).1 (numD (dU u)) := by
  obtain ⟨h1, h2, h3, h4⟩ := taiS_ok h
  have := secU_rng h1
  have bs := beg_succ hg (numD (dU u))
  rw [h4]
  exact ⟨h2, by omega, by omega⟩
set_option maxRecDepth 20000 in
set_option maxHeartbeats 2000000 in
theorem law22_UtcBack.cl {m : Tb} {s : Sl} {tai : Int} {u : U6} {w : World} (hR : RowsP w s m.ls) (hI : ∀ l ∈ m.ls, I64 l.1 ∧ I64 l.2) (ht : I64 tai) : clS Try.prog F.law22_UtcBack [vT m s, .int .i64 tai, vU u] w false RB1 (Holds w) := by
  refine law22_UtcBack.ok ?_
  unfold law22_UtcBack.wp
  have hl := hR.len
  refine alK_by fun p1 w2 e1 k1 u1 => alK_by fun p3 w4 e3 k3 u3 => law22_alive.cl fun w6 u6 => brF rfl ?_
  have q1 := (k1.gro u3).gro u6
  have q3 := k3.gro u6
  have g6 := (u1.trans u3).trans u6
  refine q1.c1 3 (c := .sl) (x := s) rfl (brD (fun c => holds g6 rfl) fun c => ?_)
  have c : ¬ (s.2.1 : Int) > 64 := c
  refine Blk.ldT q1 (law22_made.cl (m := m) (hR.gro g6) (by omega) hI (fun hne w10 u10 => brT rfl (holds (g6.trans u10) rfl)) fun he b w10 hb hT u10 => brF rfl ?_)
  have hg := errT_good he
  have g10 := g6.trans u10
  refine CutT.by (fun _ W => Gro w10 W) ?_ fun _ W g _ => ?_
  · refine utc_Of.cl hT hg ht (fun hno w15 u15 => ?_) fun x hx d hd hn w15 u15 => ?_
    · refine alK_by fun p16 w17 e16 k16 u17 => k16.sta _ rfl rfl fun w18 k18 u18 => ?_
      refine brF rfl ?_
      exact Gro.fresh u15 u17 u18 e16
    · have hts := taiS_of hg hx hd hn
      generalize uOf d (tai - begT m x) = U at hts ⊢
      refine alK_by fun p16 w17 e16 k16 u17 => k16.sta _ rfl rfl fun w18 k18 u18 => ?_
      have g18 : Gro w10 w18 := Gro.fresh u15 u17 u18 e16
      refine brT rfl (Blk.ldU (u := U) k18 (utc_Tai.cl (u := U) (hT.gro g18) hg fun w21 u21 => ?_))
      rw [hts]
      refine brF rfl ?_
      refine brF (by simp) ?_
      exact g18.trans u21
  · have r3 := (q3.gro u10).gro g
    refine Blk.ldU (u := u) r3 (law22_of.cl (u := u) fun w24 u24 => utc_Tai.cl (u := u) (hT.gro (g.trans u24)) hg fun w26 u26 => ?_)
    have g26 := (g.trans u24).trans u26
    refine brN (fun c2 => ?_) fun c2 => ?_
    · refine holds (g10.trans g26) ?_
      show ((taiS m u).1 == 0) = true
      rw [taiS_err c2]; rfl
    · have c2 : (taiS m u).2 = 0 := c2
      have hx := isOf_tai hg c2
      obtain ⟨t1, t2', t3, t4⟩ := taiS_ok c2
      have br := beg_rng hg (numD (dU u))
      have nr := numD_range t1.1
      have sr := secU_rng t1
      refine utc_Of.cl (hT.gro g26) hg (by rw [t4]; unfold I64; omega) (fun hno => absurd hx (hno _)) fun x' hx' d hd hn w28 u28 => ?_
      have : x' = numD (dU u) := hx'.uniq hg hx
      subst this
      have : d = dU u := numD_inj hd t1.1 hn
      subst this
      have eu : uOf (dU u) ((taiS m u).1 - begT m (numD (dU u))) = u := by rw [t4, show begT m (numD (dU u)) + secU u - begT m (numD (dU u)) = secU u by omega, uOf_sec t1]
      rw [eu]
      refine alK_by fun p29 w30 e29 k29 u30 => k29.sta _ rfl rfl fun w31 k31 u31 => ?_
      have g31 : Gro w10 w31 := Gro.fresh (g26.trans u28) u30 u31 e29
      rw [drK_eq]
      have K31 := k31.drew
      have K3 := ((q3.gro u10).gro g31).drew
      have gd := g31.trans (Gro.drew w31)
      generalize w31.drew = w32 at K31 K3 gd
      refine brT rfl ?_
      have hh : ∀ {w'}, Gro w32 w' → ∀ i, i < 6 → w'.cell? (Addr.add ⟨p3, 0, none⟩ i) = some ((w32.cell? (Addr.add ⟨p3, 0, none⟩ i)).getD undef) := fun u i hi => K3.hold u (fun x => x) i (by simpa using hi)
      refine Blk.ldU (u := u) K31 (Blk.ldU (u := u) K3 (law22_plain.cl (u := u) fun w36 u36 => ⟨⟨hh u36 0 (by decide), hh u36 1 (by decide), hh u36 2 (by decide), hh u36 3 (by decide), hh u36 4 (by decide), hh u36 5 (by decide), trivial⟩, ?_⟩))
      exact holds ((g10.trans gd).trans u36) (eq6_self u)
theorem law22_UtcBack.fin {cs : List Value} {tai : Int} {x : Tvs K6} {w : World} (h : Okc w shT cs) (ht : I64 tai) : clS Try.prog F.law22_UtcBack [.agg cs.toArray, .int .i64 tai, .agg (encs K6 x).toArray] w false RB1 (Holds w) := by
  obtain ⟨m, s, rfl, hR, hI, _⟩ := tab_open h
  exact law22_UtcBack.cl (u := uX x) hR hI ht

theorem taiS_day {m : Tb} (hg : GoodT m) {d : D3} (hd : GoodD d) (hin : inR m (numD d)) : taiS m (d.1, d.2.1, d.2.2, 0, 0, 0) = (begT m (numD d), 0) := by
  have sr := st_rng hg (numD d)
  have g : GoodU (d.1, d.2.1, d.2.2, 0, 0, 0) := ⟨hd, by dsimp only; omega⟩
  have e : dU (d.1, d.2.1, d.2.2, 0, 0, 0) = d := rfl
  have e2 : secU (d.1, d.2.1, d.2.2, 0, 0, 0) = 0 := by unfold secU; rfl
  unfold taiS
  rw [e, e2, if_neg (fun h => h g), if_neg (fun h => h hin), if_neg (by omega), Int.add_zero]
set_option maxRecDepth 20000 in
set_option maxHeartbeats 2000000 in
theorem law22_UtcDays.cl {m : Tb} {s : Sl} {day : Int} {w : World} (hR : RowsP w s m.ls) (hI : ∀ l ∈ m.ls, I64 l.1 ∧ I64 l.2) (ht : I64 day) : clS Try.prog F.law22_UtcDays [vT m s, .int .i64 day] w false RB1 (Holds w) := by
  refine law22_UtcDays.ok ?_
  unfold law22_UtcDays.wp
  have hl := hR.len
  refine alK_by fun p1 w2 e1 k1 u1 => law22_alive.cl fun w6 u6 => brF rfl ?_
  have q1 := k1.gro u6
  have g6 := u1.trans u6
  refine q1.c1 3 (c := .sl) (x := s) rfl (brD (fun c => holds g6 rfl) fun c => ?_)
  have c : ¬ (s.2.1 : Int) > 64 := c
  refine Blk.ldT q1 (law22_made.cl (m := m) (hR.gro g6) (by omega) hI (fun hne w10 u10 => brT rfl (holds (g6.trans u10) rfl)) fun he b w10 hb hT u10 => brF rfl ?_)
  have hg := errT_good he
  have g10 := g6.trans u10
  have hr := hg.1
  unfold Rngd at hr
  have r1 := q1.gro u10
  refine r1.i0 rfl (brD (fun _ => holds g10 rfl) fun c1 => r1.i1 2 rfl ?_)
  have c1 : ¬ day < m.st := c1
  rw [w64_in (n := m.en - 1) (by unfold I64; omega)]
  refine brD (fun _ => holds g10 rfl) fun c2 => ?_
  have c2 : ¬ day ≥ m.en - 1 := c2
  refine civil_Of.cl ht (fun x => by omega) fun _ _ d hd hn w12 u12 => alK_by fun p13 w14 e13 k13 u14 => k13.sta _ rfl rfl fun w15 k15 u15 => ?_
  have g15 : Gro w10 w15 := Gro.fresh u12 u14 u15 e13
  rw [w64_in (n := day + 1) (by unfold I64; omega)]
  refine civil_Of.cl (by unfold I64; omega) (fun x => by omega) fun _ _ d' hd' hn' w17 u17 => alK_by fun p18 w19 e18 k18 u19 => k18.sta _ rfl rfl fun w20 k20 u20 => ?_
  have g20 : Gro w15 w20 := Gro.fresh u17 u19 u20 e18
  have v15 := k15.gro g20
  refine v15.ld3 (utc_Tai.cl (u := (d.1, d.2.1, d.2.2, 0, 0, 0)) (hT.gro (g15.trans g20)) hg fun w23 u23 => (k20.gro u23).ld3 ?_)
  refine utc_Tai.cl (u := (d'.1, d'.2.1, d'.2.2, 0, 0, 0)) (hT.gro ((g15.trans g20).trans u23)) hg fun w26 u26 => ?_
  rw [taiS_day hg hd (by rw [hn]; exact ⟨by omega, by omega⟩), taiS_day hg hd' (by rw [hn']; exact ⟨by omega, by omega⟩), hn, hn']
  have g26 := ((g15.trans g20).trans u23).trans u26
  refine brT rfl (brT rfl (brT rfl (brT rfl (Blk.ldT (r1.gro g26) (ref21_Step.cl (m := m) (hR.gro (g10.trans g26)) (by omega) fun w29 u29 => holds ((g10.trans g26).trans u29) ?_)))))
  have bs := beg_succ hg day
  have br := beg_rng hg day
  have sr := st_rng hg day
  show (IntKind.wrap .i64 (begT m (day + 1) - begT m day) == IntKind.wrap .i64 (86400 + stS m.ls day)) = true
  rw [w64_in (n := begT m (day + 1) - begT m day) (by unfold I64; omega), w64_in (by unfold I64; omega), beq_iff_eq]
  omega
theorem law22_UtcDays.fin {cs : List Value} {day : Int} {w : World} (h : Okc w shT cs) (ht : I64 day) : clS Try.prog F.law22_UtcDays [.agg cs.toArray, .int .i64 day] w false RB1 (Holds w) := by
  obtain ⟨m, s, rfl, hR, hI, _⟩ := tab_open h
  exact law22_UtcDays.cl hR hI ht

theorem strU_good {u : U6} (h : GoodU u) : strU u = ofL (txtU u) := by unfold strU; rw [if_pos (show goodUb u = true from decide_eq_true h)]
set_option maxRecDepth 20000 in
set_option maxHeartbeats 2000000 in
theorem law22_UtcOrder.cl {m : Tb} {s : Sl} {ta tb : Int} {w : World} (hR : RowsP w s m.ls) (hI : ∀ l ∈ m.ls, I64 l.1 ∧ I64 l.2) (ha : I64 ta) (hb : I64 tb) : clS Try.prog F.law22_UtcOrder [vT m s, .int .i64 ta, .int .i64 tb] w false RB1 (Holds w) := by
  refine law22_UtcOrder.ok ?_
  unfold law22_UtcOrder.wp
  have hl := hR.len
  refine alK_by fun p1 w2 e1 k1 u1 => law22_alive.cl fun w6 u6 => brF rfl ?_
  have q1 := k1.gro u6
  have g6 := u1.trans u6
  refine q1.c1 3 (c := .sl) (x := s) rfl (brD (fun c => holds g6 rfl) fun c => ?_)
  have c : ¬ (s.2.1 : Int) > 64 := c
  refine Blk.ldT q1 (law22_made.cl (m := m) (hR.gro g6) (by omega) hI (fun hne w10 u10 => brT rfl (holds (g6.trans u10) rfl)) fun he b w10 hbb hT u10 => brF rfl ?_)
  have hg := errT_good he
  have g10 := g6.trans u10
  have two : ∀ (A : U6) (ea : Int) (w12 : World), Gro w10 w12 → (ea ≠ 0 → ea = 11) → (ea = 0 → ∃ x d, IsOf m ta x ∧ GoodD d ∧ numD d = x ∧ A = uOf d (ta - begT m x)) →
      alK (cU z6) T.utc_Utc w12 fun p11 w12 => stN (cU A) p11 0 w12 fun w13 =>
      clS Try.prog F.utc_Of [.pointer (some ⟨b, 0, none⟩), .int .i64 tb] w13 true RUE fun r14 w15 =>
      alK (cU z6) T.utc_Utc w15 fun p16 w17 => stN [.int .i64 r14.1.1, .int .i64 r14.1.2.1, .int .i64 r14.1.2.2.1, .int .i64 r14.1.2.2.2.1, .int .i64 r14.1.2.2.2.2.1, .int .i64 r14.1.2.2.2.2.2.1] p16 0 w17 fun w18 =>
      CutT (fun (J19 : ((Bool) × Unit) → World → Prop) => brB (ea != 0) (J19 (true, ()) w18) (J19 ((r14.2.1.1 != 0), ()) w18)) (fun (z20 : (Bool) × Unit) w21 => ∀ _ : Nat → Value,
        brB z20.1 (brB (ea == 0) (Holds w ((true, ()), ()) w21) (Holds w (((ea == 11), ()), ()) w21)) (
        drK w21 fun w22 => ldN K6 p11 0 w22 fun x23 => ldN K6 p16 0 w22 fun x24 =>
        clS Try.prog F.utc_Utc_Text [.agg #[.int .i64 x23.1, .int .i64 x23.2.1, .int .i64 x23.2.2.1, .int .i64 x23.2.2.2.1, .int .i64 x23.2.2.2.2.1, .int .i64 x23.2.2.2.2.2.1]] w22 false RS1 fun r25 w26 =>
        Hold [(2, (p16.add 0), (w22.cell? (p16.add 0)).getD undef), (2, (p16.add 1), (w22.cell? (p16.add 1)).getD undef), (2, (p16.add 2), (w22.cell? (p16.add 2)).getD undef), (2, (p16.add 3), (w22.cell? (p16.add 3)).getD undef), (2, (p16.add 4), (w22.cell? (p16.add 4)).getD undef), (2, (p16.add 5), (w22.cell? (p16.add 5)).getD undef), (0, (p11.add 0), (w22.cell? (p11.add 0)).getD undef), (0, (p11.add 1), (w22.cell? (p11.add 1)).getD undef), (0, (p11.add 2), (w22.cell? (p11.add 2)).getD undef), (0, (p11.add 3), (w22.cell? (p11.add 3)).getD undef), (0, (p11.add 4), (w22.cell? (p11.add 4)).getD undef), (0, (p11.add 5), (w22.cell? (p11.add 5)).getD undef)] w26 ∧ (
        clS Try.prog F.utc_Utc_Text [.agg #[.int .i64 x24.1, .int .i64 x24.2.1, .int .i64 x24.2.2.1, .int .i64 x24.2.2.2.1, .int .i64 x24.2.2.2.2.1, .int .i64 x24.2.2.2.2.2.1]] w26 false RS1 fun r27 w28 =>
        Hold [(0, (p11.add 0), (w22.cell? (p11.add 0)).getD undef), (0, (p11.add 1), (w22.cell? (p11.add 1)).getD undef), (0, (p11.add 2), (w22.cell? (p11.add 2)).getD undef), (0, (p11.add 3), (w22.cell? (p11.add 3)).getD undef), (0, (p11.add 4), (w22.cell? (p11.add 4)).getD undef), (0, (p11.add 5), (w22.cell? (p11.add 5)).getD undef)] w28 ∧ (
        brB ((Op.bytesLess r25.1.1.toList r27.1.1.toList) == (decide (ta < tb))) (
        ldN K6 p11 0 w28 fun x29 => ldN K6 p16 0 w28 fun x30 =>
        Holds w ((((((x29.1 == x30.1) && ((x29.2.1 == x30.2.1) && ((x29.2.2.1 == x30.2.2.1) && true))) && ((x29.2.2.2.1 == x30.2.2.2.1) && ((x29.2.2.2.2.1 == x30.2.2.2.2.1) && ((x29.2.2.2.2.2.1 == x30.2.2.2.2.2.1) && true)))) == (ta == tb)), ()), ()) w28) (Holds w ((false, ()), ()) w28))))) := by
    intro A ea w12 g12 h11 h0
    refine alK_by fun p11 w12' e11 k11 u12' => k11.sta _ rfl rfl fun w13 k13 u13 => ?_
    have g13 : Gro w10 w13 := Gro.fresh g12 u12' u13 e11
    refine utc_Of.cl (hT.gro g13) hg hb (fun hno w15 u15 => ?_) fun y hy d' hd' hn' w15 u15 => ?_
    · refine alK_by fun p16 w17 e16 k16 u17 => k16.sta _ rfl rfl fun w18 k18 u18 => ?_
      have g18 : Gro w13 w18 := Gro.fresh u15 u17 u18 e16
      refine CutT.by (fun z W => Gro w10 W ∧ z.1 = true) (brC (fun _ => ⟨g13.trans g18, rfl⟩) fun _ => ⟨g13.trans g18, rfl⟩) ?_
      rintro ⟨z, _⟩ W ⟨gW, hz⟩ _
      dsimp only at hz
      subst hz
      refine brT rfl (brE (fun _ => holds (g10.trans gW) rfl) fun c2 => holds (g10.trans gW) ?_)
      rw [h11 c2]; rfl
    · obtain ⟨B, hB⟩ : ∃ B : U6, B = uOf d' (tb - begT m y) := ⟨_, rfl⟩
      rw [← hB]
      refine alK_by fun p16 w17 e16 k16 u17 => k16.sta _ rfl rfl fun w18 k18 u18 => ?_
      have g18 : Gro w13 w18 := Gro.fresh u15 u17 u18 e16
      refine CutT.by (fun z W => w18 = W ∧ z.1 = decide (ea ≠ 0)) (brN (fun c2 => ⟨rfl, (decide_eq_true c2).symm⟩) fun c2 => ⟨rfl, by rw [decide_eq_false (fun h => h c2)]; rfl⟩) ?_
      rintro ⟨z, _⟩ _ ⟨rfl, hz⟩ _
      dsimp only at hz
      subst hz
      refine brD (fun c2 => brF (by simpa using c2) (holds ((g10.trans g13).trans g18) (by rw [h11 c2]; rfl))) fun c2 => ?_
      obtain ⟨x, d, hx, hd, hn, hA⟩ := h0 (Decidable.not_not.1 c2)
      rw [drK_eq]
      have K11 := (k13.gro g18).drew
      have K16 := k18.drew
      have gd := (g13.trans g18).trans (Gro.drew w18)
      generalize w18.drew = w22 at K11 K16 gd
      have h16 : ∀ {w'}, Gro w22 w' → ∀ i, i < 6 → w'.cell? (Addr.add ⟨p16, 0, none⟩ i) = some ((w22.cell? (Addr.add ⟨p16, 0, none⟩ i)).getD undef) := fun u i hi => K16.hold u (fun x => x) i (by simpa using hi)
      have h11' : ∀ {w'}, Gro w22 w' → ∀ i, i < 6 → w'.cell? (Addr.add ⟨p11, 0, none⟩ i) = some ((w22.cell? (Addr.add ⟨p11, 0, none⟩ i)).getD undef) := fun u i hi => K11.hold u (fun x => x) i (by simpa using hi)
      refine Blk.ldU (u := A) K11 (Blk.ldU (u := B) K16 (utc_Utc_Text.cl (u := A) fun w26 u26 => ⟨⟨h16 u26 0 (by decide), h16 u26 1 (by decide), h16 u26 2 (by decide), h16 u26 3 (by decide), h16 u26 4 (by decide), h16 u26 5 (by decide), h11' u26 0 (by decide), h11' u26 1 (by decide), h11' u26 2 (by decide), h11' u26 3 (by decide), h11' u26 4 (by decide), h11' u26 5 (by decide), trivial⟩, ?_⟩))
      refine utc_Utc_Text.cl (u := B) fun w28 u28 => ⟨⟨h11' (u26.trans u28) 0 (by decide), h11' (u26.trans u28) 1 (by decide), h11' (u26.trans u28) 2 (by decide), h11' (u26.trans u28) 3 (by decide), h11' (u26.trans u28) 4 (by decide), h11' (u26.trans u28) 5 (by decide), trivial⟩, ?_⟩
      have bx := beg_succ hg x
      have by_ := beg_succ hg y
      have sx := st_rng hg x
      have sy := st_rng hg y
      have hx' := hx
      have hy' := hy
      obtain ⟨_, x1, x2⟩ := hx
      obtain ⟨_, y1, y2⟩ := hy
      obtain ⟨ga1, ga2, ga3⟩ := uOf_good hd (s := ta - begT m x) (by omega) (by omega)
      obtain ⟨gb1, gb2, gb3⟩ := uOf_good hd' (s := tb - begT m y) (by omega) (by omega)
      rw [← hA] at ga1 ga2 ga3
      rw [← hB] at gb1 gb2 gb3
      have ord : x < y → ta < tb := fun h => by
        rcases ilt_ge (x + 1) y with c | c
        · have := beg_mono hg c; omega
        · have : x + 1 = y := by omega
          rw [this] at x2; omega
      have ord2 : y < x → tb < ta := fun h => by
        rcases ilt_ge (y + 1) x with c | c
        · have := beg_mono hg c; omega
        · have : y + 1 = x := by omega
          rw [this] at y2; omega
      have kd := numD_iff hd hd'
      rw [hn, hn'] at kd
      refine brT ?_ (Blk.ldU (u := A) ((K11.gro u26).gro u28) (Blk.ldU (u := B) ((K16.gro u26).gro u28) (holds (((g10.trans gd).trans u26).trans u28) ?_)))
      · show (Op.bytesLess (strU A).toList (strU B).toList == decide (ta < tb)) = true
        rw [strU_good ga1, strU_good gb1, ofL_toList, ofL_toList, txtU_less ga1 gb1, ga2, gb2, ga3, gb3, beq_iff_eq, Bool.eq_iff_iff, decide_eq_true_iff, decide_eq_true_iff]
        constructor
        · rintro (h | ⟨h, h2⟩)
          · exact ord (kd.2 h)
          · subst h
            have : x = y := by rw [← hn, ← hn']
            subst this; omega
        · intro h
          rcases Int.lt_trichotomy x y with c | c | c
          · exact .inl (kd.1 c)
          · subst c
            exact .inr ⟨numD_inj hd hd' (hn.trans hn'.symm), by omega⟩
          · have := ord2 c; omega
      · show (_ == (ta == tb)) = true
        rw [eq6 A B, beq_iff_eq, Bool.eq_iff_iff, decide_eq_true_iff, beq_iff_eq]
        constructor
        · intro h
          have e1 : d = d' := by rw [← ga2, ← gb2, h]
          have e2 : ta - begT m x = tb - begT m y := by rw [← ga3, ← gb3, h]
          subst e1
          have : x = y := by rw [← hn, ← hn']
          subst this; omega
        · intro h
          subst h
          have : x = y := hx'.uniq hg hy'
          subst this
          have : d = d' := numD_inj hd hd' (hn.trans hn'.symm)
          subst this
          rw [hA, hB]
  refine utc_Of.cl hT hg ha (fun hno w12 u12 => ?_) fun x hx d hd hn w12 u12 => ?_
  · exact two z6 11 w12 u12 (fun _ => rfl) fun h => by cases h
  · exact two (uOf d (ta - begT m x)) 0 w12 u12 (fun h => absurd rfl h) fun _ => ⟨x, d, hx, hd, hn, rfl⟩
theorem law22_UtcOrder.fin {cs : List Value} {ta tb : Int} {w : World} (h : Okc w shT cs) (ha : I64 ta) (hb : I64 tb) : clS Try.prog F.law22_UtcOrder [.agg cs.toArray, .int .i64 ta, .int .i64 tb] w false RB1 (Holds w) := by
  obtain ⟨m, s, rfl, hR, hI, _⟩ := tab_open h
  exact law22_UtcOrder.cl hR hI ha hb
end Go.Proofs.Ytimdngcmbmamdaa
