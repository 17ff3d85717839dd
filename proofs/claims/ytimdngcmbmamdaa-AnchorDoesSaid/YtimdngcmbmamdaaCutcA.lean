/- Laws of layer 22: alive, UtcTells, UtcBack, UtcDays. Conditions: what an argument is. -/
import Derived.Test.YtimdngcmbmamdaaCutc2
import Derived.Test.YtimdngcmbmamdaaEngR
namespace Go.Proofs.Ytimdngcmbmamdaa
open Go.Eng Go
set_option linter.unusedVariables false
set_option linter.unusedSimpArgs false

def mA : Tb := ⟨17000, 36, 18000, [(17166, 1)]⟩
theorem numA {d : D3} (h : GoodD d) (hn : numD d = 17166) : d = (2016, 12, 31) := numD_inj h (by decide) (by rw [hn]; decide)
theorem law22_alive.cl {w : World} {k : TR RB1 → World → Prop} (h : ∀ w', Gro w w' → k ((true, ()), ()) w') : clS Try.prog F.law22_alive [] w false RB1 k := by
  refine law22_alive.ok ?_
  unfold law22_alive.wp
  refine alK_by fun p1 w2 e1 k1 u1 => ?_
  have hR : RowsP w2 (some ⟨p1, 0, none⟩, 1, 1) mA.ls := ⟨rfl, fun _ => ⟨_, rfl, fun k v hk => k1.news k v hk⟩⟩
  refine leap_Make.cl (m := mA) hR (by decide) (by decide) (fun hne => absurd (by decide : errT mA = 0) hne) fun he b w4 hb hT u4 => ?_
  have hg := errT_good he
  have h17 : IsOf mA 1483228836 17166 := by decide
  refine utc_Of.cl hT hg (by decide) (fun hno => absurd h17 (hno _)) fun x hx d hd hn w6 u6 => ?_
  have : x = 17166 := hx.uniq hg h17
  subst this
  have := numA hd hn
  subst this
  obtain ⟨A, hA⟩ : ∃ A : U6, A = uOf (2016, 12, 31) (1483228836 - begT mA 17166) := ⟨_, rfl⟩
  have hA2 : A = (2016, 12, 31, 23, 59, 60) := by rw [hA]; decide
  rw [← hA]
  refine alK_by fun p7 w8 e7 k7 u8 => k7.sta _ rfl rfl fun w9 k9 u9 => Blk.ldU (u := A) k9 ?_
  have g9 : Gro w4 w9 := Gro.fresh u6 u8 u9 e7
  refine utc_Tai.cl (u := A) (hT.gro g9) hg fun w12 u12 => brT rfl (Blk.ldU (u := A) (k9.gro u12) (utc_Utc_Text.cl (u := A) fun w15 u15 => ?_))
  have e1 : taiS mA A = (1483228836, 0) := by rw [hA2]; decide
  rw [e1]
  refine brT ?_ (brT rfl (h w15 ((((u1.trans u4).trans g9).trans u12).trans u15)))
  show (strU A == _) = true
  rw [hA2]; decide

/-! ### arguments -/
abbrev shT : Shp := .cons 1 (.i .i64) (.cons 1 (.i .i64) (.cons 1 (.i .i64) (.cons 1 (.sl 2 (.cons 1 (.i .i64) (.cons 1 (.i .i64) (.nil)))) (.nil))))
theorem tab_open {w : World} {cs : List Value} (h : Okc w shT cs) : ∃ (m : Tb) (s : Sl), cs = cT m s ∧ RowsP w s m.ls ∧ (∀ l ∈ m.ls, I64 l.1 ∧ I64 l.2) ∧ I64 m.st ∧ I64 m.ah ∧ I64 m.en ∧ s.2.1 ≤ s.2.2 := by
  obtain ⟨_, _, rfl, _, ⟨a, rfl, wa⟩, _, _, rfl, _, ⟨b, rfl, wb⟩, _, _, rfl, _, ⟨c, rfl, wc⟩, _, _, rfl, _, ⟨s, rfl, hs, _, rows, hl, hR, hrow⟩, rfl⟩ := h
  obtain ⟨xs, hf, hlen, hI⟩ := typed_rows (cs := K2) (Q := fun _ => True) (R := fun x => I64 x.1 ∧ I64 x.2.1) rows fun r hr => by
    obtain ⟨_, _, _, rfl, _, ⟨x, rfl, wx⟩, _, _, rfl, _, ⟨y, rfl, wy⟩, rfl⟩ := hrow r hr
    exact ⟨(x, y, ()), rfl, i64_of wx, i64_of wy⟩
  refine ⟨⟨a, b, c, xs.map fun x => (x.1, x.2.1)⟩, s, rfl, ?_, ?_, i64_of wa, i64_of wb, i64_of wc, hs⟩
  · show Row w s 2 _
    have e : (xs.map fun x => ((x.1, x.2.1) : P2)).map t2 = xs := by
      rw [List.map_map]
      conv => rhs; rw [← List.map_id xs]
      rfl
    rw [e, ← hf]; exact hR
  · intro l hl
    obtain ⟨x, hx, rfl⟩ := List.mem_map.1 hl
    exact hI x hx
def uX (x : Tvs KU6) : U6 := (x.1, x.2.1, x.2.2.1, x.2.2.2.1, x.2.2.2.2.1, x.2.2.2.2.2.1)

theorem eq6 (a b : U6) : ((((a.1 == b.1) && ((a.2.1 == b.2.1) && ((a.2.2.1 == b.2.2.1) && true))) && ((a.2.2.2.1 == b.2.2.2.1) && ((a.2.2.2.2.1 == b.2.2.2.2.1) && ((a.2.2.2.2.2 == b.2.2.2.2.2) && true))))) = decide (a = b) := by
  obtain ⟨a1, a2, a3, a4, a5, a6⟩ := a
  obtain ⟨b1, b2, b3, b4, b5, b6⟩ := b
  refine bq ?_
  simp only [Bool.and_eq_true, beq_iff_eq, Prod.mk.injEq, and_true]
  constructor
  · rintro ⟨⟨h1, h2, h3⟩, h4, h5, h6⟩; exact ⟨h1, h2, h3, h4, h5, h6⟩
  · rintro ⟨h1, h2, h3, h4, h5, h6⟩; exact ⟨⟨h1, h2, h3⟩, h4, h5, h6⟩
theorem eq6_self (a : U6) : ((((a.1 == a.1) && ((a.2.1 == a.2.1) && ((a.2.2.1 == a.2.2.1) && true))) && ((a.2.2.2.1 == a.2.2.2.1) && ((a.2.2.2.2.1 == a.2.2.2.2.1) && ((a.2.2.2.2.2 == a.2.2.2.2.2) && true))))) = true := by rw [eq6]; simp

set_option maxRecDepth 20000 in
set_option maxHeartbeats 2000000 in
theorem law22_UtcTells.cl {m : Tb} {s : Sl} {tai : Int} {u : U6} {w : World} (hR : RowsP w s m.ls) (hI : ∀ l ∈ m.ls, I64 l.1 ∧ I64 l.2) (ht : I64 tai) : clS Try.prog F.law22_UtcTells [vT m s, .int .i64 tai, vU u] w false RB1 (Holds w) := by
  refine law22_UtcTells.ok ?_
  unfold law22_UtcTells.wp
  have hl := hR.len
  refine alK_by fun p1 w2 e1 k1 u1 => alK_by fun p3 w4 e3 k3 u3 => law22_alive.cl fun w6 u6 => brF rfl ?_
  have q1 := (k1.gro u3).gro u6
  have q3 := k3.gro u6
  have g6 := (u1.trans u3).trans u6
  refine q1.c1 3 (c := .sl) (x := s) rfl (brD (fun c => holds g6 rfl) fun c => ?_)
  have c : ¬ (s.2.1 : Int) > 64 := c
  refine Blk.ldT q1 (law22_made.cl (m := m) (hR.gro g6) (by omega) hI (fun hne w10 u10 => brT rfl ?_) fun he b w10 hb hT u10 => brF rfl ?_)
  · refine utc_Of.nil fun w12 u12 => alK_by fun p13 w14 e13 k13 u14 => k13.sta _ rfl rfl fun w15 k15 u15 => ?_
    have g15 : Gro w10 w15 := Gro.fresh u12 u14 u15 e13
    refine Blk.ldU (u := u) ((q3.gro u10).gro g15) (law22_of.cl (u := u) fun w18 u18 => utc_Tai.nil (u := u) fun w20 u20 => ?_)
    have k20 := (k15.gro u18).gro u20
    refine brT rfl (brT rfl (Blk.ldU (u := z6) k20 (brT rfl (brT rfl (holds ((((g6.trans u10).trans g15).trans u18).trans u20) rfl)))))
  · have hg := errT_good he
    have g10 := g6.trans u10
    have rest : ∀ {w'}, Gro w10 w' → ldN KU6 ⟨p3, 0, none⟩ 0 w' fun x41 =>
        clS Try.prog F.law22_of [.agg #[.int .i64 x41.1, .int .i64 x41.2.1, .int .i64 x41.2.2.1, .int .i64 x41.2.2.2.1, .int .i64 x41.2.2.2.2.1, .int .i64 x41.2.2.2.2.2.1]] w' false RU1 fun r42 w43 =>
        clS Try.prog F.utc_Tai [.pointer (some ⟨b, 0, none⟩), .agg #[.int .i64 r42.1.1, .int .i64 r42.1.2.1, .int .i64 r42.1.2.2.1, .int .i64 r42.1.2.2.2.1, .int .i64 r42.1.2.2.2.2.1, .int .i64 r42.1.2.2.2.2.2.1]] w43 true RII fun r44 w45 =>
        ldN K4 ⟨p1, 0, none⟩ 0 w45 fun x46 => ldN KU6 ⟨p3, 0, none⟩ 0 w45 fun x47 =>
        clS Try.prog F.ref22_Tai [.agg #[.int .i64 x46.1, .int .i64 x46.2.1, .int .i64 x46.2.2.1, .slice x46.2.2.2.1.1 x46.2.2.2.1.2.1 x46.2.2.2.1.2.2], .agg #[.int .i64 x47.1, .int .i64 x47.2.1, .int .i64 x47.2.2.1, .int .i64 x47.2.2.2.1, .int .i64 x47.2.2.2.2.1, .int .i64 x47.2.2.2.2.2.1]] w45 true RII fun r48 w49 =>
        brB (r44.1.1 == r48.1.1) (Holds w (((r44.2.1.1 == r48.2.1.1), ()), ()) w49) (Holds w ((false, ()), ()) w49) := by
      intro w' g
      refine Blk.ldU (u := u) ((q3.gro u10).gro g) (law22_of.cl (u := u) fun w43 u43 => utc_Tai.cl (u := u) (hT.gro (g.trans u43)) hg fun w45 u45 => ?_)
      have g45 := (g.trans u43).trans u45
      refine Blk.ldT ((q1.gro u10).gro g45) (Blk.ldU (u := u) ((q3.gro u10).gro g45) (ref22_Tai.cl (u := u) (hR.gro (g10.trans g45)) hg fun w49 u49 => ?_))
      refine brT (by simp) (holds ((g10.trans g45).trans u49) (by simp))
    refine utc_Of.cl hT hg ht (fun hno w23 u23 => ?_) fun x hx d hd hn w23 u23 => ?_
    · refine alK_by fun p24 w25 e24 k24 u25 => k24.sta _ rfl rfl fun w26 k26 u26 => ?_
      have g26 : Gro w10 w26 := Gro.fresh u23 u25 u26 e24
      refine Blk.ldT ((q1.gro u10).gro g26) (ref22_Of.cl (hR.gro (g10.trans g26)) hg ht (fun _ w29 u29 => ?_) fun x hx => absurd hx (hno x))
      refine alK_by fun p30 w31 e30 k30 u31 => k30.sta _ rfl rfl fun w32 k32 u32 => ?_
      have g32 : Gro w26 w32 := Gro.fresh u29 u31 u32 e30
      refine CutT.by (fun _ W => Gro w10 W) ?_ fun _ W g _ => rest g
      rw [drK_eq]
      have K26 := (k26.gro g32).drew
      have K32 := k32.drew
      have gd := (g26.trans g32).trans (Gro.drew w32)
      generalize w32.drew = w36 at K26 K32 gd
      have hh : ∀ {w'}, Gro w36 w' → ∀ i, i < 6 → w'.cell? (Addr.add ⟨p30, 0, none⟩ i) = some ((w36.cell? (Addr.add ⟨p30, 0, none⟩ i)).getD undef) := fun u i hi => K32.hold u (fun x => x) i (by simpa using hi)
      refine Blk.ldU (u := z6) K26 (Blk.ldU (u := z6) K32 (law22_plain.cl (u := z6) fun w40 u40 => ⟨⟨hh u40 0 (by decide), hh u40 1 (by decide), hh u40 2 (by decide), hh u40 3 (by decide), hh u40 4 (by decide), hh u40 5 (by decide), trivial⟩, ?_⟩))
      refine brF (by show (!_) = false; rw [eq6_self z6]; rfl) ?_
      refine brF rfl ?_
      refine brT rfl ?_
      refine brF rfl ?_
      exact gd.trans u40
    · obtain ⟨U, hU⟩ : ∃ U : U6, U = uOf d (tai - begT m x) := ⟨_, rfl⟩
      rw [← hU]
      refine alK_by fun p24 w25 e24 k24 u25 => k24.sta _ rfl rfl fun w26 k26 u26 => ?_
      have g26 : Gro w10 w26 := Gro.fresh u23 u25 u26 e24
      refine Blk.ldT ((q1.gro u10).gro g26) (ref22_Of.cl (hR.gro (g10.trans g26)) hg ht (fun hno => absurd hx (hno x)) fun x' hx' d' hd' hn' w29 u29 => ?_)
      have : x' = x := hx'.uniq hg hx
      subst this
      have : d' = d := numD_inj hd' hd (hn'.trans hn.symm)
      subst this
      rw [← hU]
      refine alK_by fun p30 w31 e30 k30 u31 => k30.sta _ rfl rfl fun w32 k32 u32 => ?_
      have g32 : Gro w26 w32 := Gro.fresh u29 u31 u32 e30
      refine CutT.by (fun _ W => Gro w10 W) ?_ fun _ W g _ => rest g
      rw [drK_eq]
      have K26 := (k26.gro g32).drew
      have K32 := k32.drew
      have gd := (g26.trans g32).trans (Gro.drew w32)
      generalize w32.drew = w36 at K26 K32 gd
      have hh : ∀ {w'}, Gro w36 w' → ∀ i, i < 6 → w'.cell? (Addr.add ⟨p30, 0, none⟩ i) = some ((w36.cell? (Addr.add ⟨p30, 0, none⟩ i)).getD undef) := fun u i hi => K32.hold u (fun x => x) i (by simpa using hi)
      refine Blk.ldU (u := U) K26 (Blk.ldU (u := U) K32 (law22_plain.cl (u := U) fun w40 u40 => ⟨⟨hh u40 0 (by decide), hh u40 1 (by decide), hh u40 2 (by decide), hh u40 3 (by decide), hh u40 4 (by decide), hh u40 5 (by decide), trivial⟩, ?_⟩))
      refine brF (by show (!_) = false; rw [eq6_self U]; rfl) ?_
      refine brF rfl ?_
      refine brF rfl ?_
      exact gd.trans u40
theorem law22_UtcTells.fin {cs : List Value} {tai : Int} {x : Tvs KU6} {w : World} (h : Okc w shT cs) (ht : I64 tai) : clS Try.prog F.law22_UtcTells [.agg cs.toArray, .int .i64 tai, .agg (encs KU6 x).toArray] w false RB1 (Holds w) := by
  obtain ⟨m, s, rfl, hR, hI, _⟩ := tab_open h
  exact law22_UtcTells.cl (u := uX x) hR hI ht
end Go.Proofs.Ytimdngcmbmamdaa
