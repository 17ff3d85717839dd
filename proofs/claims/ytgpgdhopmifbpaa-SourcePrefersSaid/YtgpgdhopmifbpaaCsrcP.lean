/- The law SourcePrefers. Conditions: none. -/
import Derived.Test.YtgpgdhopmifbpaaCsrc2
namespace Go.Proofs.Ytgpgdhopmifbpaa
open Go.Eng Go
set_option linter.unusedVariables false
set_option linter.unusedSimpArgs false

set_option maxRecDepth 20000 in
set_option maxHeartbeats 4000000 in
theorem law19_SourcePrefers.cl {me r0 r1 r2 r3 limit : Int} {s : Sl} {xs : List (Tvs K19)} {w : World} (hR : RowsT w s K19 xs) :
    clS Try.prog F.law19_SourcePrefers [.int .i64 me, .agg #[.int .i64 r0, .int .i64 r1, .int .i64 r2, .int .i64 r3], .int .i64 limit, .slice s.1 s.2.1 s.2.2] w false [(false, [.b])] (Holds w) := by
  refine law19_SourcePrefers.ok ?_
  unfold law19_SourcePrefers.wp
  refine alK_by fun p1 w2 e1 k1 u1 => law19_alive.cl fun w4 u4 => brF rfl (brD (fun _ => holds (u1.trans u4) rfl) fun cl => ?_)
  have cl : ¬ (s.2.1 : Int) > 200 := cl
  have hl := hR.len (by decide)
  have g4 := u1.trans u4
  have k4 := k1.gro u4
  have bad : ∀ {w'} {r5 r7 : Option Addr} {e7 : Int}, Gro w w' → Blk w' p1 [.int .i64 r0, .int .i64 r1, .int .i64 r2, .int .i64 r3] → ∀ {A : TR [(false, [.p]), (false, [.i .i64])] → World → Prop}, 
      ldN [.i .i64, .i .i64, .i .i64, .i .i64] ⟨p1, 0, none⟩ 0 w' fun x9 => clS Try.prog F.law19_rules [.agg #[.int .i64 x9.1, .int .i64 x9.2.1, .int .i64 x9.2.2.1, .int .i64 x9.2.2.2.1]] w' false [(true, [.i .i64, .i .i64, .i .i64, .i .i64])] fun r10 w11 =>
        clS Try.prog F.flood_New [.int .i64 me, .agg #[.int .i64 r10.1.1, .int .i64 r10.1.2.1, .int .i64 r10.1.2.2.1, .int .i64 r10.1.2.2.2.1]] w11 true [(false, [.p]), (false, [.i .i64])] fun r12 w13 =>
          brB true (Holds w ((true, ()), ()) w13) (A r12 w13) := by
    intro w' r5 r7 e7 g k A
    refine k.cA (cs := [.i .i64, .i .i64, .i .i64, .i .i64]) (r0, r1, r2, r3, ()) rfl (law19_rules.cl fun w11 u11 => flood_New.cw (fun _ w13 u13 => brT rfl (holds ((g.trans u11).trans u13) rfl)) fun _ _ _ O bf be w13 _ _ u13 => brT rfl (holds ((g.trans u11).trans u13) rfl))
  refine source_New.cl (fun c => source_New.cl (fun _ => bad (r5 := none) (r7 := none) (e7 := 0) g4 k4) fun c1 c2 _ _ _ _ _ => by omega) fun c1 c2 b1 w6 lb1 B1 u6 => source_New.cl (fun c => by omega) fun _ _ b2 w8 lb2 B2 u8 => ?_
  have g8 := (g4.trans u6).trans u8
  have k8 := (k4.gro u6).gro u8
  refine k8.cA (cs := [.i .i64, .i .i64, .i .i64, .i .i64]) (r0, r1, r2, r3, ()) rfl (law19_rules.cl fun w11 u11 => ?_)
  have g11 := g8.trans u11
  refine flood_New.cw (fun c w13 u13 => brF rfl (brT rfl (holds (g11.trans u13) rfl))) fun m0 m1 hg O bf be w13 F13 hO u13 => brF rfl (brF rfl ?_)
  have g13 := g11.trans u13
  have hO' : ∀ z, O z → w.heap.size ≤ z := fun z hz => Nat.le_trans g11.size (hO z hz)
  have lb1' := B1.lt
  have lb2' := B2.lt
  have d12 : b1 ≠ b2 := by omega
  have z1 : w.heap.size ≤ b1 := Nat.le_trans g4.size lb1
  have z2 : w.heap.size ≤ b2 := Nat.le_trans (g4.trans u6).size lb2
  have B1 := ((B1.gro u8).gro u11)
  have B2 := (B2.gro u11)
  have nn1 : ¬ O b1 := fun h => by have := hO b1 h; have := B1.lt; omega
  have nn2 : ¬ O b2 := fun h => by have := hO b2 h; have := B2.lt; omega
  refine LoopT.by (fun z W => ∃ (i : Nat) (O' : Nat → Prop) (f : Fl) (e : El) (l : MkL) (es : List E3) (so : So), z.1 = i ∧ i ≤ xs.length ∧ Gro w W ∧ FW W O' bf be f e l es ∧ (∀ z, O' z → w.heap.size ≤ z) ∧ Blk W b1 (soC so) ∧ ¬ O' b1 ∧ Blk W b2 (soC ⟨limit, (0, 0, 0), 0, 0, 0, false⟩) ∧ ¬ O' b2)
    (fun z => ((xs.length : Int) - z.1).toNat) ⟨0, O, _, _, _, _, _, rfl, by omega, g13, F13, hO', B1.gro u13, nn1, B2.gro u13, nn2⟩ ?_
  clear F13 hO' hO nn1 nn2 B1 B2
  rintro ⟨z, _⟩ W ⟨i, O', f, e, l, es, so, hz, hi, g, hF, hO, B1, n1, B2, n2⟩ _
  dsimp only at hz
  subst hz
  refine brD (fun c => ?_) fun c => holds g rfl
  have c : (i : Int) < s.2.1 := c
  have hi1 : i < xs.length := by omega
  have hx : xs[i]? = some xs[i] := List.getElem?_eq_getElem hi1
  generalize xs[i] = x at hx
  have hRW := hR.gro g
  have hw1 : IntKind.wrap .i64 ((i : Int) + 1) = i + 1 := w64_in (by unfold I64; omega)
  refine hRW.ix (by decide) rfl hx fun a ha => hRW.ldN ha hx ?_
  refine alK_by fun p19 w20 e19 k19 u20 => k19.sta _ rfl rfl fun w21 k21 u21 => ?_
  change Blk w21 p19 (encs K19 x) at k21
  have g21 : Gro W w21 := Gro.fresh (Gro.refl _) u20 u21 e19
  have n19 : ¬ O' p19 := fun h => by have := hF.lt _ h; omega
  have F21 := hF.gro g21
  have B1_21 := B1.gro g21
  have B2_21 := B2.gro g21
  have G21 := g.trans g21
  have d1 : p19 ≠ b1 ∧ p19 ≠ b2 := by have := B1.lt; have := B2.lt; omega
  refine CutT.by (fun _ W' => ∃ (O' : Nat → Prop) (f : Fl) (e : El) (l : MkL) (es : List E3) (so : So), Gro w W' ∧ FW W' O' bf be f e l es ∧ (∀ z, O' z → w.heap.size ≤ z) ∧ Blk W' b1 (soC so) ∧ ¬ O' b1 ∧ Blk W' b2 (soC ⟨limit, (0, 0, 0), 0, 0, 0, false⟩) ∧ ¬ O' b2 ∧ Blk W' p19 (encs K19 x) ∧ ¬ O' p19) ?_ ?_
  · have stay : ∀ {W'}, Gro w21 W' → ∃ (O' : Nat → Prop) (f : Fl) (e : El) (l : MkL) (es : List E3) (so : So), Gro w W' ∧ FW W' O' bf be f e l es ∧ (∀ z, O' z → w.heap.size ≤ z) ∧ Blk W' b1 (soC so) ∧ ¬ O' b1 ∧ Blk W' b2 (soC ⟨limit, (0, 0, 0), 0, 0, 0, false⟩) ∧ ¬ O' b2 ∧ Blk W' p19 (encs K19 x) ∧ ¬ O' p19 :=
      fun g' => ⟨O', f, e, l, es, so, G21.trans g', F21.gro g', hO, B1_21.gro g', n1, B2_21.gro g', n2, k21.gro g', n19⟩
    have step : ∀ {w0 W' O2 f2 e2 l2 es2}, Gro w21 w0 → Nx O' w0 O2 W' → FW W' O2 bf be f2 e2 l2 es2 → ∃ (O' : Nat → Prop) (f : Fl) (e : El) (l : MkL) (es : List E3) (so : So), Gro w W' ∧ FW W' O' bf be f e l es ∧ (∀ z, O' z → w.heap.size ≤ z) ∧ Blk W' b1 (soC so) ∧ ¬ O' b1 ∧ Blk W' b2 (soC ⟨limit, (0, 0, 0), 0, 0, 0, false⟩) ∧ ¬ O' b2 ∧ Blk W' p19 (encs K19 x) ∧ ¬ O' p19 :=
      fun g0 X F2 => ⟨_, _, _, _, _, so, Upd.trans (G21.trans g0) X.u fun i hi h => by have := hO i h; omega, F2, fun z hz => (X.sub z hz).elim (hO z) fun h => Nat.le_trans (G21.trans g0).size h, (X.blk (B1_21.gro g0) n1).1, (X.blk (B1_21.gro g0) n1).2, (X.blk (B2_21.gro g0) n2).1, (X.blk (B2_21.gro g0) n2).2, (X.blk (k21.gro g0) n19).1, (X.blk (k21.gro g0) n19).2⟩
    refine k21.c0 (c := .i .i64) (x := x.1) rfl (CutT.by (fun z W' => W' = w21) (brC (fun _ => rfl) fun _ => rfl) ?_)
    rintro ⟨b, _⟩ w28 rfl _
    refine brC (fun _ => ?_) fun _ => brC (fun _ => ?_) fun _ => brC (fun _ => ?_) fun _ => stay (Gro.refl _)
    · refine k21.cN 2 (cs := K14) (pl19 x) rfl (alK_by fun p30 w31 e30 k30 u31 => k30.sta _ rfl rfl fun w32 k32 u32 => ?_)
      change Blk w32 p30 (encs K14 (pl19 x)) at k32
      have f32 : Gro w28 w32 := Gro.fresh (Gro.refl _) u31 u32 e30
      refine k32.c1 1 rfl (k32.c1 3 rfl (k32.c1 4 rfl (k32.c1 5 rfl (k32.c1 6 rfl (k32.c1 7 rfl ?_)))))
      refine (k21.gro f32).c1 1 (x := x.2.1) rfl ?_
      refine flood_Flood_Hear.cw (s := syP (pl19 x)) (loc := x.2.1) (F21.gro f32) (fun _ w41 u41 => stay (f32.trans u41)) fun c hc hc0 ok w41 O41 F41 x41 => step f32 x41 F41
    · refine k21.c1 1 (x := x.2.1) rfl (flood_Flood_Beat.cw F21 fun w44 O44 F44 x44 => ?_)
      have a1 := x44.blk B1_21 n1
      have a2 := x44.blk B2_21 n2
      have a3 := x44.blk k21 n19
      refine source_Source_Beat.cw a1.1 fun w46 B46 u46 => ⟨O44, _, _, _, _, soBt so, ?_, F44.upd u46 fun z hz h => by rw [h] at hz; exact a1.2 hz, fun z hz => (x44.sub z hz).elim (hO z) fun h => Nat.le_trans G21.size h, B46, a1.2, a2.1.upd u46 (fun h => d12 h.symm), a2.2, a3.1.upd u46 d1.1, a3.2⟩
      exact Upd.trans (Upd.trans G21 x44.u fun i hi h => by have := hO i h; omega) u46 fun i hi h => by omega
    · refine k21.cN 16 (cs := [.i .i64, .i .i64, .i .i64]) ((en19 x).1, (en19 x).2.1, (en19 x).2.2, ()) rfl (k21.c2 2 3 (x := (pl19 x).2.2.2.1) rfl (k21.c2 2 4 (c := .i .u16) (x := (pl19 x).2.2.2.2.1) rfl ?_))
      refine source_Source_Put.cl (e := en19 x) B1_21 (fun _ w51 u51 => stay u51) fun _ w51 B51 u51 => ?_
      exact ⟨O', f, e, l, es, _, Upd.trans G21 u51 fun i hi h => by omega, F21.upd u51 fun z hz h => by rw [h] at hz; exact n1 hz, hO, B51, n1, B2_21.upd u51 (fun h => d12 h.symm), n2, k21.upd u51 d1.1, n19⟩
  clear hF F21 B1_21 B2_21 hO B1 n1 B2 n2 k21 n19 g21 G21 g
  rintro _ w24 ⟨O', f, e, l, es, so, g, hF, hO, B1, n1, B2, n2, k19', n19⟩ _
  have next : ∀ {W' : World}, Gro w24 W' → (∃ (j : Nat) (O' : Nat → Prop) (f : Fl) (e : El) (l : MkL) (es : List E3) (so : So), ((IntKind.wrap .i64 ((i : Int) + 1), ()) : Int × Unit).1 = j ∧ j ≤ xs.length ∧ Gro w W' ∧ FW W' O' bf be f e l es ∧ (∀ z, O' z → w.heap.size ≤ z) ∧ Blk W' b1 (soC so) ∧ ¬ O' b1 ∧ Blk W' b2 (soC ⟨limit, (0, 0, 0), 0, 0, 0, false⟩) ∧ ¬ O' b2) ∧ ((xs.length : Int) - IntKind.wrap .i64 ((i : Int) + 1)).toNat < ((xs.length : Int) - i).toNat := by
    intro W' g'
    rw [hw1]
    exact ⟨⟨i + 1, O', f, e, l, es, so, rfl, by omega, g.trans g', hF.gro g', hO, B1.gro g', n1, B2.gro g', n2⟩, by omega⟩
  refine k19'.c1 1 (x := x.2.1) rfl (source_Source_Time.cw B1 hF (loc := x.2.1) fun w54 u54 => ?_)
  obtain ⟨A, hA⟩ : ∃ A, A = srcT so f e l es x.2.1 := ⟨_, rfl⟩
  rw [← hA]
  refine alK_by fun p55 w56 e55 k55 u56 => k55.sta _ rfl rfl fun w57 k57 u57 => ?_
  change Blk w57 p55 (cA5 A.1) at k57
  have f57 : Gro w24 w57 := Gro.fresh u54 u56 u57 e55
  refine (k19'.gro f57).c1 1 (x := x.2.1) rfl (source_Source_Time.cw (B2.gro f57) (hF.gro f57) (loc := x.2.1) fun w60 u60 => ?_)
  obtain ⟨B, hB⟩ : ∃ B, B = srcT ⟨limit, (0, 0, 0), 0, 0, 0, false⟩ f e l es x.2.1 := ⟨_, rfl⟩
  rw [← hB]
  refine alK_by fun p61 w62 e61 k61 u62 => k61.sta _ rfl rfl fun w63 k63 u63 => ?_
  change Blk w63 p61 (cA5 B.1) at k63
  have f63' : Gro w57 w63 := Gro.fresh u60 u62 u63 e61
  have f63 := f57.trans f63'
  have k55 := k57.gro f63'
  have F63 := hF.gro f63
  refine CutT.by (fun _ W' => Gro w63 W') ?_ ?_
  · rw [drK_eq]
    refine flood_Flood_Synced.cw (F63.gro (Gro.drew _)) fun w69 u69 => ⟨trivial, ?_⟩
    have f69 : Gro w63 w69 := (Gro.drew _).trans u69
    refine brC (fun hs => ?_) fun _ => f69
    have hs : synF f e es.length = true := hs
    have hAB : A = B := by rw [hA, hB]; unfold srcT; rw [if_pos hs, if_pos hs]
    have hA' : A = flA5 f e l es x.2.1 := by rw [hA]; unfold srcT; rw [if_pos hs]
    subst hAB
    have a69 := k55.gro f69
    have b69 := k63.gro f69
    have F69 := F63.gro f69
    refine a69.cA (tA5 A.1) rfl (b69.cA (tA5 A.1) rfl (brF ?_ (brS rfl (brE (fun h0 => ?_) fun _ => f69))))
    · simp
    have h0 : A.2 = 0 := h0
    have hA3 : A.1.2.2.1 = e.root ∧ A.1.2.2.2.2 = if mine e = true then 1 else 2 := by
      rw [hA'] at h0 ⊢
      unfold flA5 at h0 ⊢
      by_cases hc : (tmF f e es x.2.1).2.2 = 0
      · rw [if_neg (fun h => h hc)]; exact ⟨rfl, rfl⟩
      · rw [if_pos hc] at h0; exact absurd h0 hc
    refine a69.c1 2 (x := A.1.2.2.1) rfl ?_
    rw [ncK_eq]
    have ha : ∀ {w'}, Gro w69 w' → ∀ j, j < 5 → w'.cell? (Addr.add ⟨p55, 0, none⟩ j) = some ((w69.cell? (Addr.add ⟨p55, 0, none⟩ j)).getD undef) := fun u j hj => a69.hold u (fun x => x) j (by simpa [cA5] using hj)
    have hb : ∀ {w'}, Gro w69 w' → ∀ j, j < 5 → w'.cell? (Addr.add ⟨p61, 0, none⟩ j) = some ((w69.cell? (Addr.add ⟨p61, 0, none⟩ j)).getD undef) := fun u j hj => b69.hold u (fun x => x) j (by simpa [cA5] using hj)
    have r0 := Gro.refl w69
    refine F69.elect (elect_Elect_Root.cw F69 ⟨⟨F69.hold0 r0 (fun x => x), ha r0 2 (by decide), hb r0 0 (by decide), hb r0 1 (by decide), hb r0 2 (by decide), hb r0 3 (by decide), hb r0 4 (by decide), ha r0 0 (by decide), ha r0 1 (by decide), ha r0 2 (by decide), ha r0 3 (by decide), ha r0 4 (by decide), trivial⟩, brS hA3.1 (a69.c1 4 (x := A.1.2.2.2.2) rfl ?_)⟩)
    rw [ncK_eq]
    refine F69.elect (elect_Elect_Mine.cw F69 fun w81 u81 => ⟨⟨ha u81 4 (by decide), F69.hold0 u81 (fun x => x), ha u81 2 (by decide), hb u81 0 (by decide), hb u81 1 (by decide), hb u81 2 (by decide), hb u81 3 (by decide), hb u81 4 (by decide), ha u81 0 (by decide), ha u81 1 (by decide), ha u81 2 (by decide), ha u81 3 (by decide), ha u81 4 (by decide), trivial⟩, brF ?_ (f69.trans u81)⟩)
    show (!((A.1.2.2.2.2 == 1) == mine e)) = false
    rw [hA3.2]
    cases mine e <;> rfl
  · rintro _ w66 f66 _
    refine flood_Flood_Synced.cw (F63.gro f66) fun w83 u83 => ?_
    have f83 := f66.trans u83
    have n83 := next (f63.trans f83)
    refine brNot (fun hs => ?_) fun _ => n83
    have hs : synF f e es.length = false := hs
    have hA' : A = tmS so x.2.1 := by rw [hA]; unfold srcT; rw [if_neg (by rw [hs]; simp)]
    have hB' : B.2 = 9 := by rw [hB]; unfold srcT; rw [if_neg (by rw [hs]; simp)]; exact tmS_9.1.2 rfl
    have h9 := tmS_9 (s := so) (loc := x.2.1)
    rw [← hA'] at h9
    have B83 := (B1.gro f63).gro f83
    have last : clS Try.prog F.source_Source_Fresh [.pointer (some ⟨b1, 0, none⟩)] w83 false [(false, [.b])] fun r85 w86 => brB ((A.2 == 9) == r85.1.1) (Holds w ((false, ()), ()) w86) ((∃ (j : Nat) (O' : Nat → Prop) (f : Fl) (e : El) (l : MkL) (es : List E3) (so : So), ((IntKind.wrap .i64 ((i : Int) + 1), ()) : Int × Unit).1 = j ∧ j ≤ xs.length ∧ Gro w w86 ∧ FW w86 O' bf be f e l es ∧ (∀ z, O' z → w.heap.size ≤ z) ∧ Blk w86 b1 (soC so) ∧ ¬ O' b1 ∧ Blk w86 b2 (soC ⟨limit, (0, 0, 0), 0, 0, 0, false⟩) ∧ ¬ O' b2) ∧ ((xs.length : Int) - IntKind.wrap .i64 ((i : Int) + 1)).toNat < ((xs.length : Int) - i).toNat) := by
      refine source_Source_Fresh.cl B83 (brF ?_ n83)
      show ((A.2 == 9) == so.has) = false
      cases hh : so.has
      · rw [h9.1.2 hh]; rfl
      · rw [show (A.2 == 9) = false from beq_eq_false_iff_ne.2 fun h => by rw [h9.1.1 h] at hh; cases hh]; rfl
    refine brS hB' (brE (fun h0 => ?_) fun _ => last)
    have h0 : A.2 = 0 := h0
    exact (k55.gro f83).c1 4 (x := A.1.2.2.2.2) rfl (brS (h9.2 h0) last)
end Go.Proofs.Ytgpgdhopmifbpaa
