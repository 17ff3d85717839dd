/- The law SourceDoes. Conditions: numbers of 16 bits are such. -/
import Derived.Test.YtahojpppjpfjmaaGreatCref19
namespace Go.Proofs.YtahojpppjpfjmaaGreat
open Go.Eng Go
set_option linter.unusedVariables false
set_option linter.unusedSimpArgs false

set_option maxRecDepth 20000 in
set_option maxHeartbeats 8000000 in
theorem law19_SourceDoes.cl {me r0 r1 r2 r3 limit : Int} {s : Sl} {xs : List (Tvs K19)} (hU : ∀ x ∈ xs, UP (pl19 x)) {w : World} (hR : RowsT w s K19 xs) :
    clS Tryz.prog F.law19_SourceDoes [.int .i64 me, .agg #[.int .i64 r0, .int .i64 r1, .int .i64 r2, .int .i64 r3], .int .i64 limit, .slice s.1 s.2.1 s.2.2] w false [(false, [.b])] (Holds w) := by
  refine law19_SourceDoes.ok ?_
  unfold law19_SourceDoes.wp
  refine alK_by fun p1 w2 e1 k1 u1 => law19_alive.cl fun w4 u4 => brF rfl (brD (fun _ => holds (u1.trans u4) rfl) fun cl => ?_)
  have cl : ¬ (s.2.1 : Int) > 200 := cl
  have hl := hR.len (by decide)
  have g4 := u1.trans u4
  have k4 := k1.gro u4
  refine k4.i0 rfl (k4.i1 1 rfl (k4.i1 2 rfl (k4.i1 3 rfl (ref16_Good.cl (brNot (fun _ => holds g4 rfl) fun c2 => ?_)))))
  have c2 : (decide (0 ≤ me) && decide (me < 64) && flG r0 r1 r2 r3) = true := c2
  have c2 : 0 ≤ me ∧ me < 64 ∧ flG r0 r1 r2 r3 = true := by simpa [and_assoc] using c2
  obtain ⟨m0, m1, hg⟩ := c2
  -- the source: there or not
  have start : ∀ {w12 : World} {B : TR [(false, [.p]), (false, [(.i .i64)])] → World → Prop}, Gro w w12 → Blk w12 p1 [.int .i64 r0, .int .i64 r1, .int .i64 r2, .int .i64 r3] →
      (∀ O bf be w30, FW w30 O bf be ⟨me, r0, r1, r2, r3, 0, 0, 0⟩ ⟨me, r0, r1, 0, 0, -1, 0, 0⟩ [] [] → (∀ z, O z → w12.heap.size ≤ z) → Gro w12 w30 → B ((some ⟨bf, 0, none⟩, ()), (0, ()), ()) w30) →
      ldN [.i .i64, .i .i64, .i .i64, .i .i64] ⟨p1, 0, none⟩ 0 w12 fun x13 =>
      clS Tryz.prog F.law19_rules [.agg #[.int .i64 x13.1, .int .i64 x13.2.1, .int .i64 x13.2.2.1, .int .i64 x13.2.2.2.1]] w12 false [(true, [(.i .i64), (.i .i64), (.i .i64), (.i .i64)])] fun r14 w15 =>
      clS Tryz.prog F.flood_New [.int .i64 me, .agg #[.int .i64 r14.1.1, .int .i64 r14.1.2.1, .int .i64 r14.1.2.2.1, .int .i64 r14.1.2.2.2.1]] w15 true [(false, [.p]), (false, [(.i .i64)])] fun r16 w17 =>
      clS Tryz.prog F.source_Source_Drop [.pointer none] w17 true [] fun r18 w19 =>
      clS Tryz.prog F.source_Source_Beat [.pointer none] w19 true [] fun r20 w21 =>
      clS Tryz.prog F.source_Source_Time [.pointer none, .pointer r16.1.1, .int .i64 1] w21 true [(true, [(.i .i64), (.i .i64), (.i .i64), (.i .u16), (.i .i64)]), (false, [(.i .i64)])] fun r22 w23 =>
      alK [.int .i64 0, .int .i64 0, .int .i64 0, .int .u16 0, .int .i64 0] T.source_Answer w23 fun p24 w25 =>
      stN [.int .i64 r22.1.1, .int .i64 r22.1.2.1, .int .i64 r22.1.2.2.1, .int .u16 r22.1.2.2.2.1, .int .i64 r22.1.2.2.2.2.1] p24 0 w25 fun w26 =>
      brB (r22.2.1.1 != 2) (Holds w ((false, ()), ()) w26) (
      clS Tryz.prog F.source_Source_Fresh [.pointer none] w26 false [(false, [.b])] fun r27 w28 =>
      brB r27.1.1 (Holds w ((false, ()), ()) w28) (
      clS Tryz.prog F.source_Source_Put [.pointer none, .agg #[.int .i64 0, .int .i64 0, .int .i64 1], .agg #[.int .i64 0, .int .u16 0]] w28 false [(false, [(.i .i64)])] fun r29 w30 =>
      brB (r29.1.1 != 2) (Holds w ((false, ()), ()) w30) (brB (r16.2.1.1 != 0) (Holds w ((false, ()), ()) w30) (B r16 w30)))) := by
    intro w12 B g k hA
    refine k.cA (cs := [.i .i64, .i .i64, .i .i64, .i .i64]) (r0, r1, r2, r3, ()) rfl (law19_rules.cl fun w15 u15 => flood_New.cw (fun c w17 u17 => ?_) fun _ _ _ O bf be w17 F17 hO u17 => ?_)
    · rcases c with c | c | c
      · omega
      · omega
      · have c : flG r0 r1 r2 r3 = false := c
        rw [hg] at c; cases c
    refine source_Source_Drop.nil (source_Source_Beat.nil (source_Source_Time.nil (.inl rfl) fun w23 u23 => alK_by fun p24 w25 e24 k24 u25 => k24.sta _ rfl rfl fun w26 k26 u26 => brF rfl (source_Source_Fresh.nil (brF rfl (source_Source_Put.nil (e := (0, 0, 1)) fun w30 u30 => brF rfl (brF rfl ?_))))))
    have f : Gro w17 w30 := (Gro.fresh u23 u25 u26 e24).trans u30
    exact hA O bf be w30 (F17.gro f) (fun z hz => Nat.le_trans u15.size (hO z hz)) ((u15.trans u17).trans f)
  refine source_New.cl (fun c => ?_) fun l1 l2 b1 w12 lb1 B1 u12 => ?_
  · refine start g4 k4 fun O bf be w30 F30 hO u30 => ?_
    refine CutT.by (fun z w' => w' = w30 ∧ z.1 = true) ?_ ?_
    · refine brD (fun _ => ⟨rfl, rfl⟩) fun d => ⟨rfl, ?_⟩
      have d : ¬ limit < 1 := d
      show decide (limit > 1000) = true
      rw [decide_eq_true_iff]; omega
    · rintro ⟨z, _⟩ _ ⟨rfl, hz⟩ _
      dsimp only at hz
      subst hz
      exact brT rfl (brT rfl (holds (g4.trans u30) rfl))
  have g12 := g4.trans u12
  refine start g12 (k4.gro u12) fun O bf be w30 F30 hO u30 => ?_
  refine CutT.by (fun z w' => w' = w30 ∧ z.1 = false) ?_ ?_
  · refine brD (fun d => absurd (show limit < 1 from d) (by omega)) fun _ => ⟨rfl, ?_⟩
    show decide (limit > 1000) = false
    rw [decide_eq_false_iff_not]; omega
  rintro ⟨z, _⟩ w33 ⟨rfl, hz⟩ _
  dsimp only at hz
  subst hz
  have g30 := g12.trans u30
  refine brF rfl (source_Source_Time.nil (.inr rfl) fun w35 u35 => brF rfl (brF rfl ?_))
  have k35 := ((k4.gro u12).gro u30).gro u35
  refine alK_by fun b2 w37 e37 B2 u37 => ?_
  change Blk w37 b2 (soC ⟨limit, (0, 0, 0), 0, 0, 0, false⟩) at B2
  have k37 := k35.gro u37
  have f37 := u35.trans u37
  refine k37.i0 rfl (k37.i1 1 rfl (k37.i1 2 rfl (k37.i1 3 rfl (ref16_New.cw m0 m1 hg (by unfold U16; omega) fun Or br bE w43 R43 hOr u43 => ?_))))
  have G37 := g30.trans f37
  have G43 := G37.trans u43
  have F37 := F30.gro f37
  have lb1' := B1.lt
  have s30 := u30.size
  have s35 := u35.size
  have l37 := B2.lt
  have n1 : ¬ O b1 ∧ ¬ Or b1 := ⟨fun h => by have := hO _ h; omega, fun h => by have := hOr _ h; have := (((B1.gro u30).gro u35).gro u37).lt; omega⟩
  have n2 : ¬ O b2 ∧ ¬ Or b2 := ⟨fun h => by have := F30.lt _ h; omega, fun h => by have := hOr _ h; omega⟩
  have d12 : b1 ≠ b2 := by have := ((B1.gro u30).gro u35).lt; omega
  have z1 : w.heap.size ≤ b1 := Nat.le_trans g4.size lb1
  have z2 : w.heap.size ≤ b2 := by have := (g30.trans u35).size; omega
  have B1' := (((B1.gro u30).gro u35).gro u37).gro u43
  refine LoopT.by (fun z W => ∃ (i : Nat) (O Or : Nat → Prop) (f : Fl) (e : El) (l : MkL) (es : List E3) (so ro : So), z.1 = i ∧ i ≤ xs.length ∧ FP w W bf be br bE ⟨me, r0, r1, r2, r3, 0, 0, 0⟩ me r0 r1 O Or f e l es ∧ Blk W b1 (soC so) ∧ Blk W b2 (soC ro) ∧ SoR so ro ∧ (¬ O b1 ∧ ¬ Or b1) ∧ (¬ O b2 ∧ ¬ Or b2))
    (fun z => ((xs.length : Int) - z.1).toNat) ⟨0, O, Or, _, _, _, _, _, _, rfl, by omega, ⟨G43, F37.gro u43, R43, fun z hz hr => by have := F37.lt z hz; have := hOr z hr; omega, fun z hz => Nat.le_trans g12.size (hO z hz), fun z hz => Nat.le_trans G37.size (hOr z hz), rfl, rfl, rfl, rfl⟩, B1', B2.gro u43, ⟨rfl, rfl, fun _ => rfl⟩, n1, n2⟩ ?_
  clear n1 n2 B1' B1 B2 F37 F30 R43 hO hOr
  rintro ⟨z, _⟩ W ⟨i, O, Or, f, e, l, es, so, ro, hz, hi, P, B1, B2, hS, n1, n2⟩ _
  dsimp only at hz
  subst hz
  refine brD (fun c => ?_) fun c => holds P.g rfl
  have c : (i : Int) < s.2.1 := c
  have hi1 : i < xs.length := by omega
  have hx : xs[i]? = some xs[i] := List.getElem?_eq_getElem hi1
  have hxU := hU _ (List.getElem_mem hi1)
  generalize xs[i] = x at hx hxU
  have hRW := hR.gro P.g
  have hw1 : IntKind.wrap .i64 ((i : Int) + 1) = i + 1 := w64_in (by unfold I64; omega)
  refine hRW.ix (by decide) rfl hx fun a ha => hRW.ldN ha hx ?_
  refine alK_by fun p49 w50 e49 k49 u50 => k49.sta _ rfl rfl fun w51 k51 u51 => ?_
  change Blk w51 p49 (encs K19 x) at k51
  have g51 : Gro W w51 := Gro.fresh (Gro.refl _) u50 u51 e49
  have a1 : ¬ O p49 := fun h => by have := P.fw.lt _ h; omega
  have a2 : ¬ Or p49 := fun h => by have := P.rw'.lt _ h; omega
  have P51 := P.gro g51
  have C1 := B1.gro g51
  have C2 := B2.gro g51
  have d1 : p49 ≠ b1 ∧ p49 ≠ b2 := by have := B1.lt; have := B2.lt; omega
  refine CutT.by (fun _ W' => ∃ (O Or : Nat → Prop) (f : Fl) (e : El) (l : MkL) (es : List E3) (so ro : So), FP w W' bf be br bE ⟨me, r0, r1, r2, r3, 0, 0, 0⟩ me r0 r1 O Or f e l es ∧ Blk W' b1 (soC so) ∧ Blk W' b2 (soC ro) ∧ SoR so ro ∧ (¬ O b1 ∧ ¬ Or b1) ∧ (¬ O b2 ∧ ¬ Or b2) ∧ Blk W' p49 (encs K19 x) ∧ ¬ O p49 ∧ ¬ Or p49) ?_ ?_
  · have stay : ∀ {W'}, Gro w51 W' → ∃ (O Or : Nat → Prop) (f : Fl) (e : El) (l : MkL) (es : List E3) (so ro : So), FP w W' bf be br bE ⟨me, r0, r1, r2, r3, 0, 0, 0⟩ me r0 r1 O Or f e l es ∧ Blk W' b1 (soC so) ∧ Blk W' b2 (soC ro) ∧ SoR so ro ∧ (¬ O b1 ∧ ¬ Or b1) ∧ (¬ O b2 ∧ ¬ Or b2) ∧ Blk W' p49 (encs K19 x) ∧ ¬ O p49 ∧ ¬ Or p49 :=
      fun g' => ⟨O, Or, f, e, l, es, so, ro, P51.gro g', C1.gro g', C2.gro g', hS, n1, n2, k51.gro g', a1, a2⟩
    refine k51.c0 (c := .i .i64) (x := x.1) rfl (CutT.by (fun z W' => W' = w51) (brC (fun _ => rfl) fun _ => rfl) ?_)
    rintro ⟨b, _⟩ w58 rfl _
    refine brC (fun _ => ?_) fun _ => brC (fun _ => ?_) fun _ => brC (fun _ => ?_) fun _ => brC (fun _ => ?_) fun _ => stay (Gro.refl _)
    · refine k51.cN 2 (cs := K14) (pl19 x) rfl (alK_by fun p60 w61 e60 k60 u61 => k60.sta _ rfl rfl fun w62 k62 u62 => ?_)
      change Blk w62 p60 (encs K14 (pl19 x)) at k62
      have f62 : Gro w58 w62 := Gro.fresh (Gro.refl _) u61 u62 e60
      have P62 := P51.gro f62
      have m1' : ¬ O p60 := fun h => by have := P51.fw.lt _ h; omega
      have m2' : ¬ Or p60 := fun h => by have := P51.rw'.lt _ h; omega
      refine k62.c1 1 rfl (k62.c1 3 rfl (k62.c1 4 rfl (k62.c1 5 rfl (k62.c1 6 rfl (k62.c1 7 rfl ?_)))))
      refine (k51.gro f62).c1 1 (x := x.2.1) rfl ?_
      refine flood_Flood_Hear.cw (s := syP (pl19 x)) (loc := x.2.1) P62.fw (fun h0 w71 u71 => ?_) fun c hc hc0 ok w71 O71 F71 x71 => ?_
      · refine (k62.gro u71).cA (cs := K14) (pl19 x) rfl (((k51.gro f62).gro u71).c1 1 (x := x.2.1) rfl ?_)
        exact ref16_Flood_Hear.cw hxU (P62.gro u71).rw' (fun _ w75 u75 => stay ((f62.trans u71).trans u75)) fun c hc hc0 w75 O75 R75 x75 => absurd (hc.symm.trans h0) hc0
      · have M71 := P62.mid x71
        have q71 := x71.blk k62 m1'
        have r71 := x71.blk (k51.gro f62) a1
        refine q71.1.cA (cs := K14) (pl19 x) rfl (r71.1.c1 1 (x := x.2.1) rfl ?_)
        refine ref16_Flood_Hear.cw hxU M71.1 (fun h0 w75 u75 => absurd (hc.symm.trans h0) hc0) fun c' hc' hc0' w75 O75 R75 x75 => ?_
        have ecc : c' = c := hc'.symm.trans hc
        subst ecc
        have P75 := P62.both x71 F71 x75 R75 P.ff P.em P.et P.ei
        have t1 := P75.2 b1 _ (C1.gro f62) n1.1 n1.2
        have t2 := P75.2 b2 _ (C2.gro f62) n2.1 n2.2
        have t3 := P75.2 p49 _ (k51.gro f62) a1 a2
        exact ⟨_, _, _, _, _, _, so, ro, P75.1, t1.1, t2.1, hS, t1.2, t2.2, t3.1, t3.2.1, t3.2.2⟩
    · refine k51.c1 1 (x := x.2.1) rfl (flood_Flood_Beat.cw P51.fw (loc := x.2.1) fun w78 O78 F78 x78 => ?_)
      have M78 := P51.mid x78
      refine (x78.blk k51 a1).1.c1 1 (x := x.2.1) rfl (ref16_Flood_Beat.cw M78.1 (loc := x.2.1) fun w81 O81 R81 x81 => ?_)
      have P81 := P51.both x78 F78 x81 R81 ?_ ?_ ?_ ?_
      · have t1 := P81.2 b1 _ C1 n1.1 n1.2
        have t2 := P81.2 b2 _ C2 n2.1 n2.2
        have t3 := P81.2 p49 _ k51 a1 a2
        refine source_Source_Beat.cw t1.1 fun w83 D1 u83 => ref19_Source_Beat.cw (t2.1.upd u83 (fun h => d12 h.symm)) fun w85 D2 u85 => ?_
        have P83 := P81.1.upd u83 (fun z hz h => by rw [h] at hz; exact t1.2.1 hz) (fun z hz h => by rw [h] at hz; exact t1.2.2 hz) (fun z h => by rw [h]; exact z1)
        have P85 := P83.upd u85 (fun z hz h => by rw [h] at hz; exact t2.2.1 hz) (fun z hz h => by rw [h] at hz; exact t2.2.2 hz) (fun z h => by rw [h]; exact z2)
        exact ⟨_, _, _, _, _, _, soBt so, rBt ro, P85, D1.upd u85 d12, D2, hS.beat, t1.2, t2.2, (t3.1.upd u83 d1.1).upd u85 d1.2, t3.2.1, t3.2.2⟩
      · have : fgF (b1f f e) = fgF f := by unfold b1f; split <;> rfl
        rw [this]; exact P.ff
      · exact (b2e_keep _ _).1.trans P.em
      · have : (b2e e x.2.1).tmo = e.tmo := by
          have := (btE_keep e).2.1
          unfold b2e isE; split
          · split <;> exact this
          · exact this
        exact this.trans P.et
      · have : (b2e e x.2.1).ign = e.ign := by
          have := (btE_keep e).2.2.1
          unfold b2e isE; split
          · split <;> exact this
          · exact this
        exact this.trans P.ei
    · rw [drK_eq]
      have kd := k51.drew
      have gd := Gro.drew w58
      have Pd := P51.gro gd
      refine kd.cN 16 (cs := [.i .i64, .i .i64, .i .i64]) ((en19 x).1, (en19 x).2.1, (en19 x).2.2, ()) rfl (kd.c2 2 3 (x := (pl19 x).2.2.2.1) rfl (kd.c2 2 4 (c := .i .u16) (x := (pl19 x).2.2.2.2.1) rfl ?_))
      refine kd.cN 16 (cs := [.i .i64, .i .i64, .i .i64]) ((en19 x).1, (en19 x).2.1, (en19 x).2.2, ()) rfl (kd.c2 2 3 (x := (pl19 x).2.2.2.1) rfl (kd.c2 2 4 (c := .i .u16) (x := (pl19 x).2.2.2.2.1) rfl ?_))
      have hh : ∀ {w'} {S : Nat → Prop}, Upd S w58.drew w' → ¬ S p49 → ∀ o j, o + j < 19 → w'.cell? (Addr.add (Addr.add ⟨p49, 0, none⟩ o) j) = some ((w58.drew.cell? (Addr.add (Addr.add ⟨p49, 0, none⟩ o) j)).getD undef) := fun u hS o j hj => kd.hold2 u hS o j (by rw [show (encs K19 x).length = 19 from rfl]; omega)
      refine source_Source_Put.cl (e := en19 x) (C1.gro gd) (fun h0 w94 u94 => ?_) fun h1 w94 D1 u94 => ?_
      · have h94 := hh u94 (fun x => x)
        refine ⟨⟨h94 2 4 (by decide), h94 2 3 (by decide), h94 16 0 (by decide), h94 16 1 (by decide), h94 16 2 (by decide), h94 2 4 (by decide), h94 2 3 (by decide), h94 16 0 (by decide), h94 16 1 (by decide), h94 16 2 (by decide), trivial⟩, ?_⟩
        refine ref19_Source_Put.cl (e := en19 x) ((C2.gro gd).gro u94) (fun _ w96 u96 => ?_) fun h1 _ _ _ => absurd (h0.symm.trans h1) (by decide)
        have h96 := hh (u94.trans u96) (fun x => x)
        exact ⟨⟨h96 2 4 (by decide), h96 2 3 (by decide), h96 16 0 (by decide), h96 16 1 (by decide), h96 16 2 (by decide), trivial⟩, brS rfl (stay ((gd.trans u94).trans u96))⟩
      · have h94 := hh u94 d1.1
        refine ⟨⟨h94 2 4 (by decide), h94 2 3 (by decide), h94 16 0 (by decide), h94 16 1 (by decide), h94 16 2 (by decide), h94 2 4 (by decide), h94 2 3 (by decide), h94 16 0 (by decide), h94 16 1 (by decide), h94 16 2 (by decide), trivial⟩, ?_⟩
        refine ref19_Source_Put.cl (e := en19 x) ((C2.gro gd).upd u94 (fun h => d12 h.symm)) (fun h0 _ _ => absurd (h0.symm.trans h1) (by decide)) fun _ w96 D2 u96 => ?_
        have h96 := hh (Upd.trans (u94.mono fun z (h : z = b1) => (_root_.Or.inl h : z = b1 ∨ z = b2)) u96 fun i _ h => _root_.Or.inr h) (fun h => h.elim d1.1 d1.2)
        refine ⟨⟨h96 2 4 (by decide), h96 2 3 (by decide), h96 16 0 (by decide), h96 16 1 (by decide), h96 16 2 (by decide), trivial⟩, brS rfl ?_⟩
        have P94 := Pd.upd u94 (fun z hz h => by rw [h] at hz; exact n1.1 hz) (fun z hz h => by rw [h] at hz; exact n1.2 hz) (fun z h => by rw [h]; exact z1)
        have P96 := P94.upd u96 (fun z hz h => by rw [h] at hz; exact n2.1 hz) (fun z hz h => by rw [h] at hz; exact n2.2 hz) (fun z h => by rw [h]; exact z2)
        exact ⟨_, _, _, _, _, _, _, _, P96, D1.upd u96 d12, D2, ⟨hS.1, rfl, fun _ => by rw [show ro.limit = so.limit from hS.1]⟩, n1, n2, (kd.upd u94 d1.1).upd u96 d1.2, a1, a2⟩
    · refine source_Source_Drop.cl C1 fun w98 D1 u98 => (C2.upd u98 (fun h => d12 h.symm)).sN 7 _ (by simp [soC]) rfl fun w99 D2 u99 => ?_
      have P98 := P51.upd u98 (fun z hz h => by rw [h] at hz; exact n1.1 hz) (fun z hz h => by rw [h] at hz; exact n1.2 hz) (fun z h => by rw [h]; exact z1)
      have P99 := P98.upd u99 (fun z hz h => by rw [h] at hz; exact n2.1 hz) (fun z hz h => by rw [h] at hz; exact n2.2 hz) (fun z h => by rw [h]; exact z2)
      have D2 : Blk w99 b2 (soC { ro with has := false }) := D2
      exact ⟨_, _, _, _, _, _, _, { ro with has := false }, P99, D1.upd u99 d12, D2, ⟨hS.1, rfl, fun h => by cases h⟩, n1, n2, (k51.upd u98 d1.1).upd u99 d1.2, a1, a2⟩
  clear P P51 B1 B2 C1 C2 hS n1 n2 a1 a2 k51 g51
  rintro _ w54 ⟨O, Or, f, e, l, es, so, ro, P, B1, B2, hS, n1, n2, k54, a1, a2⟩ _
  refine k54.c1 1 (x := x.2.1) rfl (source_Source_Time.cw B1 P.fw (loc := x.2.1) fun w102 u102 => ?_)
  obtain ⟨A, hA⟩ : ∃ A, A = srcT so f e l es x.2.1 := ⟨_, rfl⟩
  rw [← hA]
  refine alK_by fun p103 w104 e103 k103 u104 => k103.sta _ rfl rfl fun w105 k105 u105 => ?_
  change Blk w105 p103 (cA5 A.1) at k105
  have f105 : Gro w54 w105 := Gro.fresh u102 u104 u105 e103
  refine (k54.gro f105).c1 1 (x := x.2.1) rfl (ref19_Source_Time.cw (B2.gro f105) (P.gro f105).rw' (loc := x.2.1) fun w108 u108 => ?_)
  have hA2 : srcT ro f e l es x.2.1 = A := by rw [hA]; unfold srcT; rw [hS.time]
  rw [hA2]
  refine alK_by fun p109 w110 e109 k109 u110 => k109.sta _ rfl rfl fun w111 k111 u111 => ?_
  change Blk w111 p109 (cA5 A.1) at k111
  have f111 : Gro w105 w111 := Gro.fresh u108 u110 u111 e109
  have k112 := (k105.gro f111).drew
  have q112 := k111.drew
  rw [drK_eq]
  refine k112.cA (tA5 A.1) rfl (q112.cA (tA5 A.1) rfl (law19_same.cl (a := A.1) fun w116 u116 => ?_))
  have hp : ∀ {w'}, Gro w111.drew w' → ∀ j, j < 5 → w'.cell? (Addr.add ⟨p103, 0, none⟩ j) = some ((w111.drew.cell? (Addr.add ⟨p103, 0, none⟩ j)).getD undef) := fun u j hj => k112.hold u (fun x => x) j (by simpa [cA5] using hj)
  have hq : ∀ {w'}, Gro w111.drew w' → ∀ j, j < 5 → w'.cell? (Addr.add ⟨p109, 0, none⟩ j) = some ((w111.drew.cell? (Addr.add ⟨p109, 0, none⟩ j)).getD undef) := fun u j hj => q112.hold u (fun x => x) j (by simpa [cA5] using hj)
  refine ⟨⟨hq u116 0 (by decide), hq u116 1 (by decide), hq u116 2 (by decide), hq u116 3 (by decide), hq u116 4 (by decide), hp u116 0 (by decide), hp u116 1 (by decide), hp u116 2 (by decide), hp u116 3 (by decide), hp u116 4 (by decide), trivial⟩, brF rfl (brS rfl ?_)⟩
  have f116 := ((f105.trans f111).trans (Gro.drew _)).trans u116
  have D1 := B1.gro f116
  have D2 := B2.gro f116
  refine D2.c1 7 (c := .b) (x := ro.has) rfl (source_Source_Fresh.cl D1 ⟨⟨D2.hold (Gro.refl _) (fun x => x) 7 (by simp [soC]), hq u116 0 (by decide), hq u116 1 (by decide), hq u116 2 (by decide), hq u116 3 (by decide), hq u116 4 (by decide), hp u116 0 (by decide), hp u116 1 (by decide), hp u116 2 (by decide), hp u116 3 (by decide), hp u116 4 (by decide), trivial⟩, brF ?_ ?_⟩)
  · show (!(so.has == ro.has)) = false
    rw [hS.2.1]; simp
  · refine ⟨⟨i + 1, O, Or, f, e, l, es, so, ro, hw1, by omega, P.gro f116, D1, D2, hS, n1, n2⟩, ?_⟩
    show ((xs.length : Int) - IntKind.wrap .i64 ((i : Int) + 1)).toNat < ((xs.length : Int) - i).toNat
    rw [hw1]; omega
end Go.Proofs.YtahojpppjpfjmaaGreat
