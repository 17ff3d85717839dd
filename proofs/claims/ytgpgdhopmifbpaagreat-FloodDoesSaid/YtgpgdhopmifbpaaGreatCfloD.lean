/- The law FloodDoes. Conditions: numbers of 16 bits are such. -/
import Derived.Test.YtgpgdhopmifbpaaGreatCref16b
import Derived.Test.YtgpgdhopmifbpaaGreatCfloK
namespace Go.Proofs.YtgpgdhopmifbpaaGreat
open Go.Eng Go
set_option linter.unusedVariables false
set_option linter.unusedSimpArgs false

/-! ### a nil node -/
theorem flood_Flood_Boot.nil {boot : Int} {w : World} {k : TR [] → World → Prop} (h : k () w) : clS Tryz.prog F.flood_Flood_Boot [.pointer none, .int .u16 boot] w true [] k := by
  refine flood_Flood_Boot.ok ?_
  unfold flood_Flood_Boot.wp
  exact h
theorem flood_Flood_Beat.nil {loc : Int} {w : World} {k : TR [(true, KS), (false, [.b])] → World → Prop} (h : ∀ w', Gro w w' → k (tS (0, 0, 0, 0, 0, 0), (false, ()), ()) w') : clS Tryz.prog F.flood_Flood_Beat [.pointer none, .int .i64 loc] w true [(true, KS), (false, [.b])] k := by
  refine flood_Flood_Beat.ok ?_
  unfold flood_Flood_Beat.wp
  exact alK_by fun p1 w2 e1 k1 u1 => brT rfl (k1.sta _ rfl rfl fun w3 k3 u3 => k3.cA (cs := KS) (tS (0, 0, 0, 0, 0, 0)) rfl (h w3 (Gro.fresh (Gro.refl _) u1 u3 e1)))
theorem flood_Flood_Time.nil {loc : Int} {w : World} {k : TR [(false, [.i .i64]), (false, [.i .i64]), (false, [.i .i64])] → World → Prop} (h : k ((0, ()), (0, ()), (2, ()), ()) w) : clS Tryz.prog F.flood_Flood_Time [.pointer none, .int .i64 loc] w true [(false, [.i .i64]), (false, [.i .i64]), (false, [.i .i64])] k := by
  refine flood_Flood_Time.ok ?_
  unfold flood_Flood_Time.wp
  exact h
theorem flood_Flood_Hear.nil {s0 s1 s2 s3 s4 s5 loc : Int} {w : World} {k : TR [(false, [.i .i64])] → World → Prop} (h : ∀ w', Gro w w' → k ((0, ()), ()) w') : clS Tryz.prog F.flood_Flood_Hear [.pointer none, .agg #[.int .i64 s0, .int .i64 s1, .int .u16 s2, .int .u16 s3, .int .i64 s4, .int .i64 s5], .int .i64 loc] w false [(false, [.i .i64])] k := by
  refine flood_Flood_Hear.ok ?_
  unfold flood_Flood_Hear.wp
  exact alK_by fun p1 w2 e1 k1 u1 => brT rfl (h w2 u1)
theorem flood_Flood_Synced.nil {w : World} {k : TR [(false, [.b])] → World → Prop} (h : ∀ w', Gro w w' → k ((false, ()), ()) w') : clS Tryz.prog F.flood_Flood_Synced [.pointer none] w false [(false, [.b])] k := by
  refine flood_Flood_Synced.ok ?_
  unfold flood_Flood_Synced.wp
  rw [drK_eq]
  exact h _ (Gro.drew w)
theorem flood_Flood_Entries.nil {w : World} {k : TR [(false, [.i .i64])] → World → Prop} (h : k ((0, ()), ()) w) : clS Tryz.prog F.flood_Flood_Entries [.pointer none] w false [(false, [.i .i64])] k := by
  refine flood_Flood_Entries.ok ?_
  unfold flood_Flood_Entries.wp
  exact h

/-! ### the program's flood and the document's, side by side -/
structure FP (w W : World) (bf be br bE : Nat) (F0 : Fl) (me r0 r1 : Int) (O Or : Nat → Prop) (f : Fl) (e : El) (l : MkL) (es : List E3) : Prop where
  g : Gro w W
  fw : FW W O bf be f e l es
  rw' : RW W Or br bE f e l es
  dis : ∀ z, O z → ¬ Or z
  hO : ∀ z, O z → w.heap.size ≤ z
  hR : ∀ z, Or z → w.heap.size ≤ z
  ff : fgF f = F0
  em : e.me = me
  et : e.tmo = r0
  ei : e.ign = r1
theorem FP.gro {w W W' : World} {bf be br bE : Nat} {F0 : Fl} {me r0 r1 : Int} {O Or : Nat → Prop} {f : Fl} {e : El} {l : MkL} {es : List E3} (h : FP w W bf be br bE F0 me r0 r1 O Or f e l es) (u : Gro W W') : FP w W' bf be br bE F0 me r0 r1 O Or f e l es :=
  ⟨h.g.trans u, h.fw.gro u, h.rw'.gro u, h.dis, h.hO, h.hR, h.ff, h.em, h.et, h.ei⟩
theorem FP.upd {S : Nat → Prop} {w W W' : World} {bf be br bE : Nat} {F0 : Fl} {me r0 r1 : Int} {O Or : Nat → Prop} {f : Fl} {e : El} {l : MkL} {es : List E3} (h : FP w W bf be br bE F0 me r0 r1 O Or f e l es) (u : Upd S W W') (h1 : ∀ z, O z → ¬ S z) (h2 : ∀ z, Or z → ¬ S z) (h3 : ∀ z, S z → w.heap.size ≤ z) : FP w W' bf be br bE F0 me r0 r1 O Or f e l es :=
  ⟨Upd.trans h.g u fun i hi hs => by have := h3 i hs; omega, h.fw.upd u h1, h.rw'.upd u h2, h.dis, h.hO, h.hR, h.ff, h.em, h.et, h.ei⟩
/-- between the two steps -/
theorem FP.mid {w W W1 : World} {bf be br bE : Nat} {F0 : Fl} {me r0 r1 : Int} {O Or O1 : Nat → Prop} {f : Fl} {e : El} {l : MkL} {es : List E3} (h : FP w W bf be br bE F0 me r0 r1 O Or f e l es) (X : Nx O W O1 W1) : RW W1 Or br bE f e l es ∧ ∀ z, O1 z → ¬ Or z :=
  ⟨h.rw'.upd X.u fun z hz ho => h.dis z ho hz, fun z hz hr => (X.sub z hz).elim (fun ho => h.dis z ho hr) fun hs => by have := h.rw'.lt z hr; omega⟩
theorem FP.both {w W W1 W2 : World} {bf be br bE : Nat} {F0 : Fl} {me r0 r1 : Int} {O Or O1 Or1 : Nat → Prop} {f f1 : Fl} {e e1 : El} {l l1 : MkL} {es es1 : List E3} (h : FP w W bf be br bE F0 me r0 r1 O Or f e l es)
    (X1 : Nx O W O1 W1) (F1 : FW W1 O1 bf be f1 e1 l1 es1) (X2 : Nx Or W1 Or1 W2) (R2 : RW W2 Or1 br bE f1 e1 l1 es1) (ff : fgF f1 = F0) (em : e1.me = me) (et : e1.tmo = r0) (ei : e1.ign = r1) :
    FP w W2 bf be br bE F0 me r0 r1 O1 Or1 f1 e1 l1 es1 ∧ (∀ q cs, Blk W q cs → ¬ O q → ¬ Or q → Blk W2 q cs ∧ ¬ O1 q ∧ ¬ Or1 q) := by
  have d1 := (h.mid X1).2
  refine ⟨⟨Upd.trans (Upd.trans h.g X1.u fun i hi ho => by have := h.hO i ho; omega) X2.u fun i hi ho => by have := h.hR i ho; omega, F1.upd X2.u fun z hz ho => d1 z hz ho, R2, ?_, ?_, ?_, ff, em, et, ei⟩, ?_⟩
  · intro z hz hr
    rcases X2.sub z hr with h' | h'
    · exact d1 z hz h'
    · have := F1.lt z hz; omega
  · intro z hz
    rcases X1.sub z hz with h' | h'
    · exact h.hO z h'
    · exact Nat.le_trans h.g.size h'
  · intro z hz
    rcases X2.sub z hz with h' | h'
    · exact h.hR z h'
    · exact Nat.le_trans (Nat.le_trans h.g.size X1.u.size) h'
  · intro q cs hq n1 n2
    obtain ⟨b1, b2⟩ := X1.blk hq n1
    obtain ⟨b3, b4⟩ := X2.blk b1 n2
    exact ⟨b3, b2, b4⟩

set_option maxRecDepth 20000 in
set_option maxHeartbeats 8000000 in
theorem law16_FloodDoes.cl {me r0 r1 r2 r3 : Int} {s : Sl} {xs : List (Tvs K16)} (hU : ∀ x ∈ xs, UP x.2.2) {w : World} (hR : RowsT w s K16 xs) :
    clS Tryz.prog F.law16_FloodDoes [.int .i64 me, .agg #[.int .i64 r0, .int .i64 r1, .int .i64 r2, .int .i64 r3], .slice s.1 s.2.1 s.2.2] w false [(false, [.b])] (Holds w) := by
  refine law16_FloodDoes.ok ?_
  unfold law16_FloodDoes.wp
  refine alK_by fun p1 w2 e1 k1 u1 => law16_alive.cl fun w4 u4 => brF rfl (brD (fun _ => holds (u1.trans u4) rfl) fun cl => ?_)
  have cl : ¬ (s.2.1 : Int) > 200 := cl
  have hl := hR.len (by decide)
  have g4 := u1.trans u4
  have k4 := k1.gro u4
  have nilp : ∀ {w9 : World} {r8 : TR [(false, [.p]), (false, [.i .i64])]} {A : World → Prop}, Gro w w9 → Blk w9 p1 [.int .i64 r0, .int .i64 r1, .int .i64 r2, .int .i64 r3] → (∀ w', Gro w9 w' → Blk w' p1 [.int .i64 r0, .int .i64 r1, .int .i64 r2, .int .i64 r3] → A w') →
      clS Tryz.prog F.flood_Flood_Boot [.pointer none, .int .u16 1] w9 true [] fun r10 w11 =>
      clS Tryz.prog F.flood_Flood_Beat [.pointer none, .int .i64 1] w11 true [(true, [(.i .i64), (.i .i64), (.i .u16), (.i .u16), (.i .i64), (.i .i64)]), (false, [.b])] fun r12 w13 =>
      alK [.int .i64 0, .int .i64 0, .int .u16 0, .int .u16 0, .int .i64 0, .int .i64 0] T.frame_Sync w13 fun p14 w15 =>
      stN [.int .i64 r12.1.1, .int .i64 r12.1.2.1, .int .u16 r12.1.2.2.1, .int .u16 r12.1.2.2.2.1, .int .i64 r12.1.2.2.2.2.1, .int .i64 r12.1.2.2.2.2.2.1] p14 0 w15 fun w16 =>
      clS Tryz.prog F.flood_Flood_Time [.pointer none, .int .i64 1] w16 true [(false, [(.i .i64)]), (false, [(.i .i64)]), (false, [(.i .i64)])] fun r17 w18 =>
      clS Tryz.prog F.flood_Flood_Hear [.pointer none, .agg #[.int .i64 0, .int .i64 0, .int .u16 0, .int .u16 1, .int .i64 0, .int .i64 0], .int .i64 1] w18 false [(false, [(.i .i64)])] fun r19 w20 =>
      brB (r19.1.1 != 0) (Holds w ((false, ()), ()) w20) (brB r12.2.1.1 (Holds w ((false, ()), ()) w20) (brB (r17.2.2.1.1 != 2) (Holds w ((false, ()), ()) w20) (
      clS Tryz.prog F.flood_Flood_Synced [.pointer none] w20 false [(false, [.b])] fun r21 w22 =>
      brB r21.1.1 (Holds w ((false, ()), ()) w22) (
      clS Tryz.prog F.flood_Flood_Entries [.pointer none] w22 false [(false, [(.i .i64)])] fun r23 w24 =>
      brB (r23.1.1 != 0) (Holds w ((false, ()), ()) w24) (A w24))))) := by
    intro w9 r8 A g k hA
    refine flood_Flood_Boot.nil (flood_Flood_Beat.nil fun w13 u13 => alK_by fun p14 w15 e14 k14 u15 => k14.sta _ rfl rfl fun w16 k16 u16 => flood_Flood_Time.nil (flood_Flood_Hear.nil fun w20 u20 => brF rfl (brF rfl (brF rfl (flood_Flood_Synced.nil fun w22 u22 => brF rfl (flood_Flood_Entries.nil (brF rfl ?_)))))))
    have f : Gro w9 w22 := ((Gro.fresh u13 u15 u16 e14).trans u20).trans u22
    exact hA w22 f (k.gro f)
  refine k4.cA (cs := [.i .i64, .i .i64, .i .i64, .i .i64]) (r0, r1, r2, r3, ()) rfl (law16_rules.cl fun w7 u7 => ?_)
  have g7 := g4.trans u7
  have k7 := k4.gro u7
  have hgood : ∀ b : Bool, (decide (0 ≤ me) && decide (me < 64) && flG r0 r1 r2 r3) = b → (b = true ↔ 0 ≤ me ∧ me < 64 ∧ flG r0 r1 r2 r3 = true) := fun b h => by rw [← h]; simp [and_assoc]
  refine flood_New.cw (fun c w9 u9 => ?_) fun m0 m1 hg O bf be w9 F9 hO u9 => ?_
  · refine nilp (r8 := ((none, ()), (1, ()), ())) (g7.trans u9) (k7.gro u9) fun w24 g24 k24 => ?_
    have G24 := (g7.trans u9).trans g24
    refine k24.i0 rfl (k24.i1 1 rfl (k24.i1 2 rfl (k24.i1 3 rfl (ref16_Good.cl (brNot (fun _ => brT rfl (holds G24 rfl)) fun c2 => ?_)))))
    have c2 : (decide (0 ≤ me) && decide (me < 64) && flG r0 r1 r2 r3) = true := c2
    have c2 := (hgood _ rfl).1 c2
    rcases c with c | c | c
    · omega
    · omega
    · rw [c2.2.2] at c; cases c
  have hg : flG r0 r1 r2 r3 = true := hg
  refine nilp (r8 := ((some ⟨bf, 0, none⟩, ()), (0, ()), ())) (g7.trans u9) (k7.gro u9) fun w24 g24 k24 => ?_
  have G24 := (g7.trans u9).trans g24
  have F24 := F9.gro g24
  refine k24.i0 rfl (k24.i1 1 rfl (k24.i1 2 rfl (k24.i1 3 rfl (ref16_Good.cl (brNot (fun c2 => ?_) fun _ => ?_)))))
  · have c2 : (decide (0 ≤ me) && decide (me < 64) && flG r0 r1 r2 r3) = false := c2
    have := (hgood _ c2).2 ⟨m0, m1, hg⟩
    cases this
  refine k24.cA (cs := [.i .i64, .i .i64, .i .i64, .i .i64]) (r0, r1, r2, r3, ()) rfl (law16_rules.cl fun w33 u33 => flood_Rules_Good.cl fun w35 u35 => brF (by rw [hg]; rfl) ?_)
  have f35 := u33.trans u35
  have k35 := k24.gro f35
  refine k35.i0 rfl (k35.i1 1 rfl (k35.i1 2 rfl (k35.i1 3 rfl (ref16_New.cw m0 m1 hg (by unfold U16; omega) fun Or br bE w41 R41 hOr u41 => ?_))))
  have G35 := G24.trans f35
  have G41 := G35.trans u41
  have hO' : ∀ z, O z → w.heap.size ≤ z := fun z hz => Nat.le_trans g7.size (hO z hz)
  have hOr' : ∀ z, Or z → w.heap.size ≤ z := fun z hz => Nat.le_trans G35.size (hOr z hz)
  have F41 := (F24.gro f35).gro u41
  have F35 := F24.gro f35
  have l1 := k7.lt
  have nO : ¬ O p1 := fun h => by have := hO p1 h; omega
  have nR : ¬ Or p1 := fun h => by have := hOr p1 h; have := k35.lt; omega
  refine LoopT.by (fun z W => ∃ (i br bE : Nat) (O Or : Nat → Prop) (f : Fl) (e : El) (l : MkL) (es : List E3), z.1 = some ⟨br, 0, none⟩ ∧ z.2.1 = i ∧ i ≤ xs.length ∧ FP w W bf be br bE ⟨me, r0, r1, r2, r3, 0, 0, 0⟩ me r0 r1 O Or f e l es ∧ Blk W p1 [.int .i64 r0, .int .i64 r1, .int .i64 r2, .int .i64 r3] ∧ ¬ O p1 ∧ ¬ Or p1)
    (fun z => ((xs.length : Int) - z.2.1).toNat) ⟨0, br, bE, O, Or, _, _, _, _, rfl, rfl, by omega, ⟨G41, F41, R41, fun z hz hr => by have := F35.lt z hz; have := hOr z hr; omega, hO', hOr', rfl, rfl, rfl, rfl⟩, k35.gro u41, nO, nR⟩ ?_
  clear F41 F35 F24 F9 R41 hO' hOr' hO hOr nO nR k35 k24 k7 k4
  rintro ⟨z0, z, _⟩ W ⟨i, br, bE, O, Or, f, e, l, es, hz0, hz, hi, P, kr, n1, n2⟩ _
  dsimp only at hz hz0
  subst hz hz0
  refine brD (fun c => ?_) fun c => holds P.g rfl
  have c : (i : Int) < s.2.1 := c
  have hi1 : i < xs.length := by omega
  have hx : xs[i]? = some xs[i] := List.getElem?_eq_getElem hi1
  have hxU := hU _ (List.getElem_mem hi1)
  generalize xs[i] = x at hx hxU
  have hRW := hR.gro P.g
  have hw1 : IntKind.wrap .i64 ((i : Int) + 1) = i + 1 := w64_in (by unfold I64; omega)
  refine hRW.ix (by decide) rfl hx fun a ha => hRW.ldN ha hx ?_
  refine alK_by fun p47 w48 e47 k47 u48 => k47.sta _ rfl rfl fun w49 k49 u49 => ?_
  change Blk w49 p47 (encs K16 x) at k49
  have g49 : Gro W w49 := Gro.fresh (Gro.refl _) u48 u49 e47
  have a1 : ¬ O p47 := fun h => by have := P.fw.lt _ h; omega
  have a2 : ¬ Or p47 := fun h => by have := P.rw'.lt _ h; omega
  have P49 := P.gro g49
  have kr49 := kr.gro g49
  have lw47 : w.heap.size ≤ p47 := by have := P.g.size; omega
  refine CutT.by (fun z W' => ∃ (br bE : Nat) (O Or : Nat → Prop) (f : Fl) (e : El) (l : MkL) (es : List E3), z.1 = some ⟨br, 0, none⟩ ∧ FP w W' bf be br bE ⟨me, r0, r1, r2, r3, 0, 0, 0⟩ me r0 r1 O Or f e l es ∧ Blk W' p1 [.int .i64 r0, .int .i64 r1, .int .i64 r2, .int .i64 r3] ∧ ¬ O p1 ∧ ¬ Or p1) ?_ ?_
  · have stay : ∀ {W'}, Gro w49 W' → ∃ (br' bE : Nat) (O Or : Nat → Prop) (f : Fl) (e : El) (l : MkL) (es : List E3), some (⟨br, 0, none⟩ : Addr) = some ⟨br', 0, none⟩ ∧ FP w W' bf be br' bE ⟨me, r0, r1, r2, r3, 0, 0, 0⟩ me r0 r1 O Or f e l es ∧ Blk W' p1 [.int .i64 r0, .int .i64 r1, .int .i64 r2, .int .i64 r3] ∧ ¬ O p1 ∧ ¬ Or p1 :=
      fun g' => ⟨br, bE, O, Or, f, e, l, es, rfl, P49.gro g', kr49.gro g', n1, n2⟩
    refine k49.c0 (c := .i .i64) (x := x.1) rfl (CutT.by (fun z W' => W' = w49) (brC (fun _ => rfl) fun _ => brC (fun _ => rfl) fun _ => rfl) ?_)
    rintro ⟨b, _⟩ w56 rfl _
    refine brC (fun _ => ?_) fun _ => ?_
    · rw [drK_eq]
      have kd := k49.drew
      refine kd.cN 2 (cs := K14) x.2.2 rfl (kd.c1 1 (x := x.2.1) rfl (kd.cN 2 (cs := K14) x.2.2 rfl (kd.c1 1 (x := x.2.1) rfl (law16_sync.cl (p := x.2.2) fun w63 u63 => ?_))))
      have hh : ∀ {w'} {S : Nat → Prop}, Upd S w56.drew w' → ¬ S p47 → ∀ j, j < 14 → w'.cell? (Addr.add (Addr.add ⟨p47, 0, none⟩ 2) j) = some ((w56.drew.cell? (Addr.add (Addr.add ⟨p47, 0, none⟩ 2) j)).getD undef) := fun u hS j hj => kd.hold2 u hS 2 j (by rw [show (encs K16 x).length = 16 from rfl]; omega)
      have hl1 : ∀ {w'} {S : Nat → Prop}, Upd S w56.drew w' → ¬ S p47 → w'.cell? (Addr.add ⟨p47, 0, none⟩ 1) = some ((w56.drew.cell? (Addr.add ⟨p47, 0, none⟩ 1)).getD undef) := fun u hS => kd.hold u hS 1 (by rw [show (encs K16 x).length = 16 from rfl]; omega)
      have h63 := hh u63 (fun x => x)
      have i63 := hl1 u63 (fun x => x)
      refine ⟨⟨i63, h63 0 (by decide), h63 1 (by decide), h63 2 (by decide), h63 3 (by decide), h63 4 (by decide), h63 5 (by decide), h63 6 (by decide), h63 7 (by decide), h63 8 (by decide), h63 9 (by decide), h63 10 (by decide), h63 11 (by decide), h63 12 (by decide), h63 13 (by decide), i63, h63 0 (by decide), h63 1 (by decide), h63 2 (by decide), h63 3 (by decide), h63 4 (by decide), h63 5 (by decide), h63 6 (by decide), h63 7 (by decide), h63 8 (by decide), h63 9 (by decide), h63 10 (by decide), h63 11 (by decide), h63 12 (by decide), h63 13 (by decide), trivial⟩, ?_⟩
      have f63 : Gro w56 w63 := (Gro.drew _).trans u63
      have P63 := P49.gro f63
      refine flood_Flood_Hear.cw (s := syP x.2.2) (loc := x.2.1) P63.fw (fun h0 w65 u65 => ?_) fun c hc hc0 ok w65 O65 F65 x65 => ?_
      · have h65 := hh (u63.trans u65) (fun x => x)
        have i65 := hl1 (u63.trans u65) (fun x => x)
        refine ⟨⟨i65, h65 0 (by decide), h65 1 (by decide), h65 2 (by decide), h65 3 (by decide), h65 4 (by decide), h65 5 (by decide), h65 6 (by decide), h65 7 (by decide), h65 8 (by decide), h65 9 (by decide), h65 10 (by decide), h65 11 (by decide), h65 12 (by decide), h65 13 (by decide), i65, h65 0 (by decide), h65 1 (by decide), h65 2 (by decide), h65 3 (by decide), h65 4 (by decide), h65 5 (by decide), h65 6 (by decide), h65 7 (by decide), h65 8 (by decide), h65 9 (by decide), h65 10 (by decide), h65 11 (by decide), h65 12 (by decide), h65 13 (by decide), trivial⟩, ?_⟩
        have P65 := P63.gro u65
        refine ref16_Flood_Hear.cw hxU P65.rw' (fun _ w67 u67 => ?_) fun c hc hc0 w67 O67 R67 x67 => absurd (hc.symm.trans h0) hc0
        have h67 := hh ((u63.trans u65).trans u67) (fun x => x)
        have i67 := hl1 ((u63.trans u65).trans u67) (fun x => x)
        exact ⟨⟨i67, h67 0 (by decide), h67 1 (by decide), h67 2 (by decide), h67 3 (by decide), h67 4 (by decide), h67 5 (by decide), h67 6 (by decide), h67 7 (by decide), h67 8 (by decide), h67 9 (by decide), h67 10 (by decide), h67 11 (by decide), h67 12 (by decide), h67 13 (by decide), trivial⟩, brS rfl (stay ((f63.trans u65).trans u67))⟩
      · have h65 := hh ((Upd.of_gro u63).trans x65.u fun _ _ h => h) a1
        have i65 := hl1 ((Upd.of_gro u63).trans x65.u fun _ _ h => h) a1
        refine ⟨⟨i65, h65 0 (by decide), h65 1 (by decide), h65 2 (by decide), h65 3 (by decide), h65 4 (by decide), h65 5 (by decide), h65 6 (by decide), h65 7 (by decide), h65 8 (by decide), h65 9 (by decide), h65 10 (by decide), h65 11 (by decide), h65 12 (by decide), h65 13 (by decide), i65, h65 0 (by decide), h65 1 (by decide), h65 2 (by decide), h65 3 (by decide), h65 4 (by decide), h65 5 (by decide), h65 6 (by decide), h65 7 (by decide), h65 8 (by decide), h65 9 (by decide), h65 10 (by decide), h65 11 (by decide), h65 12 (by decide), h65 13 (by decide), trivial⟩, ?_⟩
        have M65 := P63.mid x65
        refine ref16_Flood_Hear.cw hxU M65.1 (fun h0 w67 u67 => absurd (hc.symm.trans h0) hc0) fun c' hc' hc0' w67 O67 R67 x67 => ?_
        have ecc : c' = c := hc'.symm.trans hc
        subst ecc
        have P67 := P63.both x65 F65 x67 R67 P.ff P.em P.et P.ei
        have q67 := P67.2 p47 _ (k49.gro f63) a1 a2
        have U67 : Upd (fun z => O z ∨ Or z) w56.drew w67 := Upd.trans (Upd.trans (Upd.of_gro u63) x65.u fun i hi h => .inl h) x67.u fun i hi h => .inr h
        have h67 := hh U67 (fun h => h.elim a1 a2)
        have i67 := hl1 U67 (fun h => h.elim a1 a2)
        have r67 := P67.2 p1 _ (kr49.gro f63) n1 n2
        exact ⟨⟨i67, h67 0 (by decide), h67 1 (by decide), h67 2 (by decide), h67 3 (by decide), h67 4 (by decide), h67 5 (by decide), h67 6 (by decide), h67 7 (by decide), h67 8 (by decide), h67 9 (by decide), h67 10 (by decide), h67 11 (by decide), h67 12 (by decide), h67 13 (by decide), trivial⟩, brS rfl ⟨br, bE, _, _, _, _, _, _, rfl, P67.1, r67.1, r67.2.1, r67.2.2⟩⟩
    · refine CutT.by (fun z W' => W' = w56) (brC (fun _ => rfl) fun _ => rfl) ?_
      rintro ⟨b, _⟩ w70 rfl _
      refine brC (fun _ => ?_) fun _ => brC (fun _ => ?_) fun _ => brC (fun _ => ?_) fun _ => stay (Gro.refl _)
      · refine k49.c1 1 (x := x.2.1) rfl (flood_Flood_Beat.cw P49.fw (loc := x.2.1) fun w73 O73 F73 x73 => ?_)
        obtain ⟨Z, hZ⟩ : ∃ Z, Z = btF f e l es x.2.1 := ⟨_, rfl⟩
        rw [← hZ]
        refine alK_by fun p74 w75 e74 k74 u75 => k74.sta _ rfl rfl fun w76 k76 u76 => ?_
        change Blk w76 p74 (encs KS (tS Z.1)) at k76
        have f76 : Gro w73 w76 := Gro.fresh (Gro.refl _) u75 u76 e74
        have x76 := x73.gro f76
        have M76 := P49.mid x76
        have q76 := x76.blk k49 a1
        refine q76.1.c1 1 (x := x.2.1) rfl (ref16_Flood_Beat.cw M76.1 (loc := x.2.1) fun w79 O79 R79 x79 => ?_)
        rw [← hZ]
        have P79 := P49.both x76 (F73.gro f76) x79 R79 ?_ ?_ ?_ ?_
        · have n74a : ¬ O73 p74 := fun h => by have := F73.lt _ h; omega
          have n74 : ¬ Or p74 := fun h => by have := (P49.mid x73).1.lt _ h; omega
          have b74 := x79.blk k76 n74
          have r79 := P79.2 p1 _ kr49 n1 n2
          refine alK_by fun p80 w81 e80 k80 u81 => k80.sta _ rfl rfl fun w82 k82 u82 => ?_
          change Blk w82 p80 (encs K14 (if Z.2 = true then plP Z.1 else pl0)) at k82
          have f82 : Gro w79 w82 := Gro.fresh (Gro.refl _) u81 u82 e80
          have b82 := b74.1.gro f82
          rw [drK_eq]
          have b83 := b82.drew
          have k83 := k82.drew
          have z0 : Z.2 = false → Z.1 = (0, 0, 0, 0, 0, 0) := by
            intro h
            rw [hZ] at h ⊢
            unfold btF at h ⊢
            split
            · rename_i hin
              rw [if_pos hin] at h
              split
              · rename_i hw; rw [if_pos hw] at h; cases h
              · rfl
            · rfl
          refine k83.c0 (x := if Z.2 = true then 1 else 0) (by cases hz : Z.2 <;> rfl) (brF ?_ ?_)
          · show (!(Z.2 == ((if Z.2 = true then (1 : Int) else 0) == 1))) = false
            cases Z.2 <;> rfl
          refine b83.cA (cs := KS) (tS Z.1) rfl (k83.cA (cs := K14) (if Z.2 = true then plP Z.1 else pl0) rfl (law16_sync.cl (p := if Z.2 = true then plP Z.1 else pl0) fun w88 u88 => ?_))
          have hb : ∀ j, j < 6 → w88.cell? (Addr.add ⟨p74, 0, none⟩ j) = some ((w82.drew.cell? (Addr.add ⟨p74, 0, none⟩ j)).getD undef) := fun j hj => b83.hold u88 (fun x => x) j (by rw [show (encs KS (tS Z.1)).length = 6 from rfl]; exact hj)
          refine ⟨⟨hb 0 (by decide), hb 1 (by decide), hb 2 (by decide), hb 3 (by decide), hb 4 (by decide), hb 5 (by decide), k83.hold u88 (fun x => x) 0 (by cases hz : Z.2 <;> simp [encs]), trivial⟩, brF ?_ ?_⟩
          · have : syP (if Z.2 = true then plP Z.1 else pl0) = Z.1 := by
              cases hz : Z.2
              · rw [z0 hz]; rfl
              · rfl
            rw [this]; simp
          · have g88 := (f82.trans (Gro.drew _)).trans u88
            exact ⟨br, bE, _, _, _, _, _, _, rfl, P79.1.gro g88, r79.1.gro g88, r79.2.1, r79.2.2⟩
        · have : fgF (b1f f e) = fgF f := by unfold b1f; split <;> rfl
          rw [this]; exact P.ff
        · exact (b2e_keep _ _).1.trans P.em
        · have : (b2e e x.2.1).tmo = e.tmo := by
            have := (btE_keep e).2.1
            unfold b2e isE; split
            · split <;> exact this
            · exact this
          exact this.trans P.et
        · have : (b2e e x.2.1).ign = e.ign := by
            have := (btE_keep e).2.2.1
            unfold b2e isE; split
            · split <;> exact this
            · exact this
          exact this.trans P.ei
      · refine k49.c1 1 (x := x.2.1) rfl (flood_Flood_Time.cw P49.fw (loc := x.2.1) fun w91 u91 => (k49.gro u91).c1 1 (x := x.2.1) rfl (ref16_Flood_Time.cw (P49.gro u91).rw' (loc := x.2.1) fun w94 u94 => ?_))
        exact brS rfl (brS rfl (brS rfl (stay (u91.trans u94))))
      · refine k49.c2 2 4 (c := .i .u16) (x := x.2.2.2.2.2.2.1) rfl (flood_Flood_Boot.cw P49.fw fun w97 O97 F97 x97 => ?_)
        have r97 := x97.blk kr49 n1
        have q97 := x97.blk k49 a1
        refine r97.1.i0 rfl (r97.1.i1 1 rfl (r97.1.i1 2 rfl (r97.1.i1 3 rfl (q97.1.c2 2 4 (c := .i .u16) (x := x.2.2.2.2.2.2.1) rfl (ref16_New.cw m0 m1 hg hxU.1 fun Or2 br2 bE2 w104 R104 hOr u104 => ?_)))))
        have G97 : Gro w w97 := Upd.trans P49.g x97.u fun i hi h => by have := P.hO i h; omega
        refine ⟨br2, bE2, O97, Or2, _, _, _, _, rfl, ⟨G97.trans u104, ?_, R104, fun z hz hr => by have := F97.lt z hz; have := hOr z hr; omega, fun z hz => (x97.sub z hz).elim (P.hO z) fun h => Nat.le_trans P49.g.size h, fun z hz => Nat.le_trans G97.size (hOr z hz), rfl, rfl, rfl, rfl⟩, r97.1.gro u104, r97.2, fun h => by have := hOr p1 h; have := r97.1.lt; omega⟩
        have e1 : fgF f = ⟨me, r0, r1, r2, r3, 0, 0, 0⟩ := P.ff
        have e2 : bootE e x.2.2.2.2.2.2.1 = ⟨me, r0, r1, x.2.2.2.2.2.2.1, 0, -1, 0, 0⟩ := by unfold bootE; rw [P.em, P.et, P.ei]
        have := F97.gro u104
        rw [e1, e2] at this
        exact this
  clear P P49 kr kr49 n1 n2 a1 a2 k49 g49
  rintro ⟨z, _⟩ w52 ⟨br, bE, O, Or, f, e, l, es, hz, P, kr, n1, n2⟩ _
  dsimp only at hz
  subst hz
  rw [ncK_eq]
  refine P.fw.elect ?_
  obtain ⟨r, E⟩ := P.fw.el
  refine elect_Elect_Mark.cl E fun w108 u108 => ?_
  refine alK_by fun p109 w110 e109 k109 u110 => k109.sta _ rfl rfl fun w111 k111 u111 => ?_
  change Blk w111 p109 (encs MK (mkM e l)) at k111
  have g111 : Gro w52 w111 := Gro.fresh u108 u110 u111 e109
  have P111 := P.gro g111
  rw [ncK_eq]
  refine P111.rw'.hdr (ref15_Elect_Mark.cl P111.rw'.elb P111.rw'.inv fun w115 u115 => ?_)
  rw [drK_eq, ncK_eq]
  have f116 : Gro w111 w115.drew := u115.trans (Gro.drew _)
  have P116 := P111.gro f116
  have m116 := k111.gro f116
  refine P116.fw.elect ?_
  rw [ncK_eq]
  refine P116.rw'.hdr ?_
  rw [ncK_eq]
  refine P116.rw'.elb.c1 5 (x := e.root) (r15_get (by decide)) ?_
  obtain ⟨sr, br6, _⟩ := P116.rw'.ex
  have H3 : ∀ {w'}, Gro w115.drew w' → w'.cell? (Addr.add ⟨bE, 0, none⟩ 5) = some ((w115.drew.cell? (Addr.add ⟨bE, 0, none⟩ 5)).getD undef) ∧ w'.cell? ⟨br, 0, none⟩ = some ((w115.drew.cell? ⟨br, 0, none⟩).getD undef) ∧ w'.cell? ⟨bf, 0, none⟩ = some ((w115.drew.cell? ⟨bf, 0, none⟩).getD undef) := fun u =>
    ⟨P116.rw'.elb.hold u (fun x => x) 5 (by rw [r15_len]; decide), br6.hold u (fun x => x) 0 (by simp [rfC]), P116.fw.hold0 u (fun x => x)⟩
  have r0' := Gro.refl w115.drew
  refine elect_Elect_Root.cw P116.fw ⟨⟨(H3 r0').1, (H3 r0').2.1, (H3 r0').2.2, trivial⟩, brS rfl ?_⟩
  rw [ncK_eq]
  refine P116.fw.elect (elect_Elect_Mine.cw P116.fw fun w128 u128 => ⟨⟨P116.fw.hold0 u128 (fun x => x), (H3 u128).1, (H3 u128).2.1, (H3 u128).2.2, trivial⟩, ?_⟩)
  refine ref16_Flood_Mine.cw (P116.gro u128).rw' fun w130 u130 => ?_
  have f130 := u128.trans u130
  refine ⟨⟨P116.fw.hold0 f130 (fun x => x), (H3 f130).1, (H3 f130).2.1, (H3 f130).2.2, trivial⟩, brF ?_ ?_⟩
  · show (!(mine e == mine e)) = false
    simp
  have P130 := P116.gro f130
  have m130 := m116.gro f130
  refine m130.c0 (c := .i .u16) (x := (mkM e l).1) rfl (brS rfl (m130.c1 1 (c := .i .u16) (x := (mkM e l).2.1) rfl (brS rfl (brF ?_ ?_))))
  · show (!(mkB e == mkB e)) = false
    simp
  have M2 : ∀ {w'}, Gro w130 w' → w'.cell? (Addr.add ⟨p109, 0, none⟩ 1) = some ((w130.cell? (Addr.add ⟨p109, 0, none⟩ 1)).getD undef) ∧ w'.cell? ⟨p109, 0, none⟩ = some ((w130.cell? ⟨p109, 0, none⟩).getD undef) := fun u => ⟨m130.hold u (fun x => x) 1 (by simp [encs]), m130.hold u (fun x => x) 0 (by simp [encs])⟩
  refine flood_Flood_Synced.cw P130.fw fun w134 u134 => ⟨⟨(M2 u134).1, (M2 u134).2, P116.fw.hold0 (f130.trans u134) (fun x => x), (H3 (f130.trans u134)).1, (H3 (f130.trans u134)).2.1, (H3 (f130.trans u134)).2.2, trivial⟩, ?_⟩
  refine ref16_Flood_Synced.cw (P130.gro u134).rw' fun w136 u136 => ?_
  have f136 := u134.trans u136
  have F136 := f130.trans f136
  refine ⟨⟨(M2 f136).1, (M2 f136).2, P116.fw.hold0 F136 (fun x => x), (H3 F136).1, (H3 F136).2.1, (H3 F136).2.2, trivial⟩, brF ?_ ?_⟩
  · show (!(synF f e es.length == synF f e es.length)) = false
    simp
  have P136 := P130.gro f136
  obtain ⟨s8, b8, E8, _⟩ := P136.rw'.ex
  rw [ncK_eq]
  refine b8.c1 3 (c := .sl) (x := s8) rfl (flood_Flood_Entries.cw P136.fw ⟨⟨b8.hold (Gro.refl _) (fun x => x) 3 (by simp [rfC]), (M2 f136).1, (M2 f136).2, P116.fw.hold0 F136 (fun x => x), (H3 F136).1, (H3 F136).2.1, (H3 F136).2.2, trivial⟩, brS ?_ ?_⟩)
  · show (es.length : Int) = (s8.2.1 : Int)
    rw [E8.len]
  · have gl := (g111.trans f116).trans F136
    refine ⟨⟨i + 1, br, bE, O, Or, f, e, l, es, rfl, hw1, by omega, P.gro gl, kr.gro gl, n1, n2⟩, ?_⟩
    show ((xs.length : Int) - IntKind.wrap .i64 ((i : Int) + 1)).toNat < ((xs.length : Int) - i).toNat
    rw [hw1]; omega
end Go.Proofs.YtgpgdhopmifbpaaGreat
