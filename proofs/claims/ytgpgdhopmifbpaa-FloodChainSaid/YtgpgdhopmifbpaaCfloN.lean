/- The law FloodChain. Conditions: numbers of 16 bits are such. -/
import Derived.Test.YtgpgdhopmifbpaaCfloC
namespace Go.Proofs.Ytgpgdhopmifbpaa
open Go.Eng Go
set_option linter.unusedVariables false
set_option linter.unusedSimpArgs false

theorem map_one' (drift : Int) (e : E3) : mapV drift [e] = (e.1, e.2.1, 0, 1, maxH [e]) := by
  unfold mapV
  rw [slopeV_no (.inl (by show 1 < 2; decide))]
  simp [sL, sO]
theorem wrap_u16 {n : Int} (h : U16 n) : IntKind.wrap .i64 n = n := w64_in (by unfold U16 at h; unfold I64; omega)

/-- a node that hears its first word from node 0 -/
theorem chain_hear {me t loc i : Int} {nd b sq : Int} (hm : 1 ≤ me) (hi : 0 ≤ i) (hi2 : i < 60) (ht : 0 ≤ t) (ht2 : t ≤ 1125899906842624) (hl : 0 ≤ loc) (hl2 : loc ≤ 1099511627776) :
    hrF ⟨me, 1000, 0, 0, 0, -1, 0, 0⟩ [] (nd, 0, b, sq, i, t) loc = 2 := by
  unfold hrF
  rw [if_pos (okH_iff.2 ⟨hi, by show i < 63; omega, hl, by omega, ht, ht2⟩)]
  unfold hrN
  have h1 : mayE ⟨me, 1000, 0, 0, 0, -1, 0, 0⟩ 0 = true := by
    unfold mayE
    rw [if_neg (by show ¬ ((0 : Int) < 0 ∨ 0 ≥ me); omega), if_neg (by unfold mine; rw [beq_iff_eq]; show ¬ (-1 : Int) = me; omega), if_pos (by show (-1 : Int) < 0; decide)]
  rw [if_neg (by rw [h1]; simp), if_neg (by unfold frE; simp [mget]), if_pos (by show (-1 : Int) ≠ 0; decide)]

theorem chain_beat {me t loc i h : Int} {nd b sq : Int} (hm : 1 ≤ me) (hm2 : me ≤ 60) (hi : 0 ≤ i) (hi2 : i < 60) (ht : 0 ≤ t) (ht2 : t ≤ 1163936137216) (hl : 0 ≤ loc) (hl2 : loc ≤ 1099511627776) (hh : 0 ≤ h) (hh2 : h ≤ 1073741824) (hb : U16 b) (hs : U16 sq) :
    btF (hfF ⟨me, 1000, 0, 1, 10, 0, 0, 0⟩ (nd, 0, b, sq, i, t) loc) (hrE ⟨me, 1000, 0, 0, 0, -1, 0, 0⟩ 0) (mset [] 0 (mrk (nd, 0, b, sq, i, t))) (esF 2 [] (nd, 0, b, sq, i, t) loc) (loc + h) = ((me, 0, b, sq, i + 1, t + h), true)
    ∧ tmF (b1f (hfF ⟨me, 1000, 0, 1, 10, 0, 0, 0⟩ (nd, 0, b, sq, i, t) loc) (hrE ⟨me, 1000, 0, 0, 0, -1, 0, 0⟩ 0)) (b2e (hrE ⟨me, 1000, 0, 0, 0, -1, 0, 0⟩ 0) (loc + h)) (b1l (hrE ⟨me, 1000, 0, 0, 0, -1, 0, 0⟩ 0) (esF 2 [] (nd, 0, b, sq, i, t) loc)) (loc + h) = (t + h, i + 1, 0) := by
  have hme : ¬ ((0 : Int) = me) := by omega
  have m0 : mine (hrE ⟨me, 1000, 0, 0, 0, -1, 0, 0⟩ 0) = false := by unfold mine hrE; exact beq_eq_false_iff_ne.2 hme
  have w1 : IntKind.wrap .i64 ((0 : Int) + 1) = 1 := by decide
  have bB : btB (hrE ⟨me, 1000, 0, 0, 0, -1, 0, 0⟩ 0) = false := by
    unfold btB; rw [if_neg (by rw [m0]; simp)]; show (if IntKind.wrap .i64 ((0 : Int) + 1) < 1000 then false else true) = false; rw [w1]; rfl
  have bE : btE (hrE ⟨me, 1000, 0, 0, 0, -1, 0, 0⟩ 0) = ⟨me, 1000, 0, 0, 0, 0, 1, 0⟩ := by
    unfold btE; rw [if_neg (by rw [m0]; simp)]; unfold hrE
    show (if IntKind.wrap .i64 ((0 : Int) + 1) < 1000 then _ else _) = _
    rw [w1, if_pos (by decide)]
  have m1 : mine ⟨me, 1000, 0, 0, 0, 0, 1, 0⟩ = false := beq_eq_false_iff_ne.2 hme
  have iT : inT (loc + h) = true := inT_iff.2 ⟨by omega, by omega⟩
  have b2 : b2e (hrE ⟨me, 1000, 0, 0, 0, -1, 0, 0⟩ 0) (loc + h) = ⟨me, 1000, 0, 0, 0, 0, 1, 0⟩ := by
    unfold b2e; rw [if_pos iT, bE, isE_no (by rw [m1]; simp)]
  have ok : okH (nd, 0, b, sq, i, t) loc = true := okH_iff.2 ⟨hi, by show i < 63; omega, hl, by omega, ht, by show t ≤ _; omega⟩
  have hx := entF_good ok
  have wi : IntKind.wrap .i64 (i + 1) = i + 1 := w64_in (by unfold I64; omega)
  have wt : IntKind.wrap .i64 (t - loc) = t - loc := w64_in (by unfold I64; omega)
  have en : entF (nd, 0, b, sq, i, t) loc = (loc, t - loc, i + 1) := by unfold entF; dsimp only; rw [wi, wt]
  have ad : addN [] (entF (nd, 0, b, sq, i, t) loc) = 0 := by
    unfold addN tooOld; simp [hx]
  have eF : esF 2 [] (nd, 0, b, sq, i, t) loc = [(loc, t - loc, i + 1)] := by
    unfold esF adF; rw [if_pos rfl, if_pos ad, adF_one hx, en]
  have f1 : b1f (hfF ⟨me, 1000, 0, 1, 10, 0, 0, 0⟩ (nd, 0, b, sq, i, t) loc) (hrE ⟨me, 1000, 0, 0, 0, -1, 0, 0⟩ 0) = ⟨me, 1000, 0, 1, 10, loc, t, i + 1⟩ := by
    unfold b1f; rw [if_neg (by rw [bB]; simp)]; unfold hfF; dsimp only; rw [wi]
  have l1 : b1l (hrE ⟨me, 1000, 0, 0, 0, -1, 0, 0⟩ 0) (esF 2 [] (nd, 0, b, sq, i, t) loc) = [(loc, t - loc, i + 1)] := by
    unfold b1l; rw [if_neg (by rw [bB]; simp), eF]
  have sy : synF ⟨me, 1000, 0, 1, 10, loc, t, i + 1⟩ ⟨me, 1000, 0, 0, 0, 0, 1, 0⟩ 1 = true := by
    unfold synF; rw [show ((0 : Int) == me) = false from beq_eq_false_iff_ne.2 hme]; rfl
  refine ⟨?_, ?_⟩
  · unfold btF btW
    rw [f1, bE, l1, if_pos iT]
    have wd : wdF ⟨me, 1000, 0, 1, 10, loc, t, i + 1⟩ ⟨me, 1000, 0, 0, 0, 0, 1, 0⟩ (mset [] 0 (mrk (nd, 0, b, sq, i, t))) [(loc, t - loc, i + 1)] (loc + h) = ((me, 0, b, sq, i + 1, t + h), true) := by
      unfold wdF
      rw [if_neg (by rw [m1]; simp), show [(loc, t - loc, i + 1)].length = 1 from rfl, if_neg (by rw [sy]; simp)]
      have fw : fwS ⟨me, 1000, 0, 1, 10, loc, t, i + 1⟩ ⟨me, 1000, 0, 0, 0, 0, 1, 0⟩ (mset [] 0 (mrk (nd, 0, b, sq, i, t))) (loc + h) = (me, 0, b, sq, i + 1, t + h) := by
        unfold fwS mkM
        rw [if_neg (by show ¬ (0 : Int) < 0; decide), if_neg (by rw [m1]; simp)]
        show (me, 0, b, sq, i + 1, IntKind.wrap .i64 (IntKind.wrap .i64 (t + (loc + h)) - loc)) = _
        rw [w64_in (n := t + (loc + h)) (by unfold I64; omega), w64_in (by unfold I64; omega), show t + (loc + h) - loc = t + h by omega]
      rw [fw]
      have : okF (flS (me, 0, b, sq, i + 1, t + h)) = true := by
        refine okF_take fun e he => ?_
        unfold flS at he
        dsimp only at he
        rw [wrap_u16 hb, wrap_u16 hs] at he
        unfold U16 at hb hs
        simp only [List.mem_cons, List.not_mem_nil, or_false] at he
        rcases he with rfl | rfl | rfl | rfl | rfl | rfl <;> exact inF_iff.2 ⟨by dsimp only; omega, by dsimp only; omega⟩
      rw [this]
    rw [wd]; rfl
  · unfold tmF
    rw [f1, b2, l1, show [(loc, t - loc, i + 1)].length = 1 from rfl, if_neg (by rw [sy]; simp), if_neg (by rw [iT]; simp), if_neg (by rw [m1]; simp), map_one']
    have hr : raw (loc, t - loc, 0, 1, maxH [(loc, t - loc, i + 1)]) (loc + h) = t + h := by
      unfold raw gn; dsimp only; rw [Int.zero_mul]; simp; omega
    have og : okG (loc, t - loc, 0, 1, maxH [(loc, t - loc, i + 1)]) (loc + h) = true := okG_iff.2 ⟨by omega, by omega, by rw [hr]; omega, by rw [hr]; omega⟩
    rw [if_pos og]
    unfold gV; rw [if_pos og, hr]
    have eH : maxH [(loc, t - loc, i + 1)] = i + 1 := by show mxH 0 _ = _; unfold mxH; rw [if_pos (by show i + 1 > 0; omega)]
    rw [eH]

set_option maxRecDepth 20000 in
set_option maxHeartbeats 2000000 in
theorem law16_FloodChain.cl {x : P14} (hx : UP x) {s1 s2 : Sl} {xs ys : List Int} {w : World} (hR1 : Row w s1 1 (xs.map (Value.int .i64))) (hR2 : Row w s2 1 (ys.map (Value.int .i64))) :
    clS Try.prog F.law16_FloodChain [vP x, .slice s1.1 s1.2.1 s1.2.2, .slice s2.1 s2.2.1 s2.2.2] w false [(false, [.b])] (Holds w) := by
  refine law16_FloodChain.ok ?_
  unfold law16_FloodChain.wp
  refine alK_by fun p1 w2 e1 k1 u1 => law16_alive.cl fun w4 u4 => brF rfl ?_
  change Blk w2 p1 (encs K14 x) at k1
  have g4 := u1.trans u4
  have k4 := k1.gro u4
  have hl1 := hR1.ilen
  have hl2 := hR2.ilen
  refine brD (fun _ => holds g4 rfl) fun c1 => brD (fun _ => holds g4 rfl) fun c2 => ?_
  have c1 : ¬ (s1.2.1 : Int) > 60 := c1
  have c2 : ¬ (s2.2.1 : Int) < s1.2.1 := c2
  refine k4.c1 6 rfl (brN (fun _ => holds g4 rfl) fun c3 => k4.c1 3 rfl (brN (fun _ => holds g4 rfl) fun c4 => k4.c1 7 rfl (brD (fun _ => holds g4 rfl) fun c5 => k4.c1 7 rfl (brD (fun _ => holds g4 rfl) fun c6 => ?_))))
  refine k4.cA (cs := K14) x rfl (law16_sync.cl (p := x) fun w11 u11 => ?_)
  obtain ⟨hb, hs⟩ := hx
  obtain ⟨nd, hnd⟩ : ∃ n : Int, n = x.2.1 := ⟨_, rfl⟩
  obtain ⟨b, hbe⟩ : ∃ n : Int, n = x.2.2.2.2.1 := ⟨_, rfl⟩
  obtain ⟨sq, hse⟩ : ∃ n : Int, n = x.2.2.2.2.2.1 := ⟨_, rfl⟩
  obtain ⟨t0, hte⟩ : ∃ n : Int, n = x.2.2.2.2.2.2.2.1 := ⟨_, rfl⟩
  have c5 : ¬ x.2.2.2.2.2.2.2.1 < 0 := c5
  have c6 : ¬ x.2.2.2.2.2.2.2.1 > 1099511627776 := c6
  have hsy : syP x = (nd, 0, b, sq, 0, t0) := by
    have c3 : x.2.2.2.2.2.2.1 = 0 := c3
    have c4 : x.2.2.2.1 = 0 := c4
    unfold syP; rw [c3, c4, hnd, hbe, hse, hte]
  rw [← hte] at c5 c6
  have c5 : ¬ t0 < 0 := c5
  have c6 : ¬ t0 > 1099511627776 := c6
  rw [hsy]
  have hb : U16 b := by rw [hbe]; exact hb
  have hs : U16 sq := by rw [hse]; exact hs
  refine alK_by fun p12 w13 e12 k12 u13 => k12.sta _ rfl rfl fun w14 k14 u14 => ?_
  change Blk w14 p12 (encs KS (tS (nd, 0, b, sq, 0, t0))) at k14
  have f14 : Gro w11 w14 := Gro.fresh (Gro.refl _) u13 u14 e12
  have q14 := (k4.gro u11).gro f14
  have G14 := (g4.trans u11).trans f14
  have ln : p1 < p12 := by have := k4.lt; have := u11.size; omega
  have lw : w.heap.size ≤ p12 := by have := G14.size; have := (g4.trans u11).size; omega
  refine q14.c1 7 (x := x.2.2.2.2.2.2.2.1) rfl ?_
  refine LoopT.by (fun z W => ∃ (i : Nat) (nd : Int), z.2.1 = i ∧ i ≤ xs.length ∧ 0 ≤ z.1 ∧ z.1 ≤ 1099511627776 + 1073741824 * i ∧ Gro w W ∧ Blk W p1 (encs K14 x) ∧ Blk W p12 (encs KS (tS (nd, 0, b, sq, i, z.1))))
    (fun z => ((xs.length : Int) - z.2.1).toNat) ⟨0, nd, rfl, by omega, ?_, ?_, G14, q14, ?_⟩ ?_
  · have h : (0 : Int) ≤ t0 := by omega
    rw [hte] at h; exact h
  · have h : t0 ≤ 1099511627776 + 1073741824 * ((0 : Nat) : Int) := by omega
    rw [hte] at h; exact h
  · show Blk w14 p12 (encs KS (tS (nd, 0, b, sq, _, x.2.2.2.2.2.2.2.1))); rw [← hte]; exact k14
  clear k14 q14 G14 f14 u14 k12
  rintro ⟨t, z, _⟩ W ⟨i, nd, hz, hi, t0', t1', g, q, kp⟩ _
  dsimp only at hz t0' t1' kp
  subst hz
  refine brD (fun c => ?_) fun c => holds g rfl
  have c : (i : Int) < s1.2.1 := c
  have hi1 : i < xs.length := by omega
  have hi2 : i < ys.length := by omega
  have hx1 : xs[i]? = some xs[i] := List.getElem?_eq_getElem hi1
  have hy1 : ys[i]? = some ys[i] := List.getElem?_eq_getElem hi2
  generalize xs[i] = lo at hx1
  generalize ys[i] = ho at hy1
  have R2 : ∀ {W' : World} {k : Int → Prop}, Gro w W' → k ho → ixK s2.1 s2.2.1 (i : Int) fun a => ld1 (.i .i64) (a.add ((i : Int).toNat * 1)) W' k := fun g hk => (hR2.gro g).ix rfl hy1 hk
  refine (hR1.gro g).ix rfl hx1 (brD (fun _ => holds g rfl) fun d1 => brD (fun _ => holds g rfl) fun d2 => R2 g (brD (fun _ => holds g rfl) fun d3 => R2 g (brD (fun _ => holds g rfl) fun d4 => ?_)))
  have d1 : ¬ lo < 0 := d1
  have d2 : ¬ lo > 1099511627776 := d2
  have d3 : ¬ ho < 0 := d3
  have d4 : ¬ ho > 1073741824 := d4
  have hw : IntKind.wrap .i64 ((i : Int) + 1) = i + 1 := w64_in (by unfold I64; omega)
  refine law16_rules.cl fun w26 u26 => ?_
  have g26 := g.trans u26
  dsimp only
  rw [hw]
  refine flood_New.cw (fun c w6 u6 => ?_) fun m0 m1 hg O bf be w28 F28 hO u28 => ?_
  · rcases c with c | c | c
    · omega
    · omega
    · exact absurd c (by decide)
  refine brF rfl (((kp.gro u26).gro u28).cA (cs := KS) (tS (nd, 0, b, sq, i, t)) rfl ?_)
  have hb2 := chain_beat (me := i + 1) (t := t) (loc := lo) (i := i) (h := ho) (nd := nd) (b := b) (sq := sq) (by omega) (by omega) (by omega) (by omega) t0' (by omega) (by omega) (by omega) (by omega) (by omega) hb hs
  have hh := chain_hear (me := i + 1) (t := t) (loc := lo) (i := i) (nd := nd) (b := b) (sq := sq) (by omega) (by omega) (by omega) t0' (by omega) (by omega) (by omega)
  refine flood_Flood_Hear.cw (s := (nd, 0, b, sq, i, t)) (loc := lo) F28 (fun h => ?_) fun c hc _ _ w31 O31 F31 x31 => ?_
  · have h := hh.symm.trans h; exact absurd h (by decide)
  have c2' : c = 2 := hc.symm.trans hh
  subst c2'
  clear hc
  refine brF rfl ?_
  have g28 := g26.trans u28
  have hO' : ∀ z, O z → w.heap.size ≤ z := fun z hz => Nat.le_trans g26.size (hO z hz)
  have g31 : Gro w w31 := Upd.trans g28 x31.u fun i hi h => by have := hO' i h; omega
  have l1 := q.lt
  have l12 := kp.lt
  have s26 := u26.size
  have no : ∀ z, z < W.heap.size → ¬ O z := fun z hz h => by have := hO z h; omega
  have q31 := x31.blk ((q.gro u26).gro u28) (no _ l1)
  have kp31 := x31.blk ((kp.gro u26).gro u28) (no _ l12)
  refine R2 g31 ?_
  have wl : IntKind.wrap .i64 (lo + ho) = lo + ho := w64_in (by unfold I64; omega)
  rw [wl]
  refine flood_Flood_Beat.cw F31 (loc := lo + ho) fun w35 O35 F35 x35 => ?_
  have q35 := x35.blk q31.1 q31.2
  have kp35 := x35.blk kp31.1 kp31.2
  have hO31 : ∀ z, O31 z → w.heap.size ≤ z := fun z hz => (x31.sub z hz).elim (hO' z) fun h => Nat.le_trans g28.size h
  have g35 : Gro w w35 := Upd.trans g31 x35.u fun i hi h => by have := hO31 i h; omega
  have eB := hb2.1
  have eT := hb2.2
  generalize hZB : btF _ _ _ _ (lo + ho) = ZB
  have eB : ZB = ((((i : Int) + 1, 0, b, sq, (i : Int) + 1, t + ho), true) : S6 × Bool) := hZB.symm.trans eB
  rw [eB]
  refine alK_by fun p36 w37 e36 k36 u37 => k36.sta _ rfl rfl fun w38 k38 u38 => ?_
  change Blk w38 p36 (encs KS (tS ((i : Int) + 1, 0, b, sq, (i : Int) + 1, t + ho))) at k38
  have f38 : Gro w35 w38 := Gro.fresh (Gro.refl _) u37 u38 e36
  have g38 := g35.trans f38
  refine R2 g38 (R2 g38 ?_)
  rw [wl]
  refine flood_Flood_Time.cw (F35.gro f38) (loc := lo + ho) fun w44 u44 => ?_
  generalize hZT : tmF _ _ _ (lo + ho) = ZT
  have eT : ZT = (t + ho, (i : Int) + 1, 0) := hZT.symm.trans eT
  rw [eT]
  have g44 := g38.trans u44
  have k44 := k38.gro u44
  have q44 := (q35.1.gro f38).gro u44
  have p44 := (kp35.1.gro f38).gro u44
  have n36 : p36 ≠ p12 ∧ p36 ≠ p1 := by have := kp35.1.lt; have := q35.1.lt; omega
  have wt : IntKind.wrap .i64 (t + ho) = t + ho := w64_in (by unfold I64; omega)
  refine brF rfl (k44.c1 5 rfl (brS wt.symm (k44.c1 4 rfl (brS rfl (k44.c1 3 rfl (q44.c1 5 rfl (brS hse (k44.c1 2 rfl (q44.c1 4 rfl (brS hbe ?_))))))))))
  refine k44.c1 1 rfl (brS rfl (k44.c0 rfl (brS rfl (brS wt.symm (brS rfl (brS rfl (k44.cA (cs := KS) (tS ((i : Int) + 1, 0, b, sq, (i : Int) + 1, t + ho)) rfl ?_)))))))
  refine p44.sta _ rfl rfl fun w54 k54 u54 => ⟨⟨i + 1, (i : Int) + 1, ?_, by omega, ?_, ?_, Upd.trans g44 u54 fun i hi h => by omega, q44.upd u54 (by omega), ?_⟩, ?_⟩
  · rfl
  · show 0 ≤ IntKind.wrap .i64 (t + ho); rw [wt]; omega
  · show IntKind.wrap .i64 (t + ho) ≤ _; rw [wt]; omega
  · show Blk w54 p12 (encs KS (tS ((i : Int) + 1, 0, b, sq, _, IntKind.wrap .i64 (t + ho)))); rw [wt]; exact k54
  · show ((xs.length : Int) - ((i : Int) + 1)).toNat < ((xs.length : Int) - (i : Int)).toNat; omega
end Go.Proofs.Ytgpgdhopmifbpaa
