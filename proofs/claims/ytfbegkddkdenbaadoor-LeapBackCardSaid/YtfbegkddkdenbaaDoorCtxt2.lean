/- Contracts: seconds' Good and Text; the document's dates: ahead, Number, Next, number, Parse, Date of a day. Conditions: none. -/
import Derived.Test.YtfbegkddkdenbaaDoorCtxt
namespace Go.Proofs.YtfbegkddkdenbaaDoor
open Go.Eng Go
set_option linter.unusedVariables false
set_option linter.unusedSimpArgs false

theorem strD_good {d : D3} (h : GoodD d) : strD d = ofL (txtD d) := by unfold strD; rw [if_pos (show goodDb d = true from decide_eq_true h)]
/-! ### the document's numbers of days -/
theorem ref20_ahead.cl {y : Int} (h1 : 1 ≤ y) (h2 : y ≤ 20000) {w : World} {k : TR RI1 → World → Prop} (h : k ((yrs y, ()), ()) w) : clS Tryd.prog F.ref20_ahead [.int .i64 y] w false RI1 k := by
  refine ref20_ahead.ok ?_
  unfold ref20_ahead.wp
  refine LoopT.by (fun z W => W = w ∧ z.1 = yrs z.2.1 ∧ 1 ≤ z.2.1 ∧ z.2.1 ≤ y ∧ (z.2.1 - 1) % 400 = 0) (fun z => (y - z.2.1).toNat) ⟨rfl, by decide, by show (1 : Int) ≤ 1; omega, h1, by decide⟩ ?_
  rintro ⟨n, q, _⟩ _ ⟨rfl, e1, e2, e3, e4⟩ _
  dsimp only at e1 e2 e3 e4
  subst e1
  have yr := yrs_rng e2 (by omega : q ≤ 20000)
  have ew : IntKind.wrap .i64 (q + 400) = q + 400 := w64_in (by unfold I64; omega)
  rw [show IntKind.wrap .i64 (((yrs q, q, ()) : Int × Int × Unit).2.1 + 400) = q + 400 from ew]
  refine brD (fun c => ?_) fun c => ?_
  · have c : q + 400 ≤ y := c
    have e5 : IntKind.wrap .i64 (yrs q + 146097) = yrs q + 146097 := w64_in (by unfold I64; omega)
    refine ⟨⟨rfl, ?_, by show (1 : Int) ≤ q + 400; omega, c, by show (q + 400 - 1) % 400 = 0; omega⟩, by show (y - (q + 400)).toNat < (y - q).toNat; omega⟩
    show IntKind.wrap .i64 (yrs q + 146097) = yrs (q + 400)
    rw [e5]; unfold yrs; omega
  · refine LoopT.by (fun z W => W = _ ∧ z.1 = yrs z.2.1 ∧ 1 ≤ z.2.1 ∧ z.2.1 ≤ y) (fun z => (y - z.2.1).toNat) ⟨rfl, rfl, e2, e3⟩ ?_
    rintro ⟨n, q, _⟩ _ ⟨rfl, e1, e2, e3⟩ _
    dsimp only at e1 e2 e3
    subst e1
    have yr := yrs_rng e2 (by omega : q ≤ 20000)
    have ew : IntKind.wrap .i64 (q + 1) = q + 1 := w64_in (by unfold I64; omega)
    refine brD (fun c => ?_) fun c => ?_
    · have c : q < y := c
      have ys := yrs_succ q
      have ex : IntKind.wrap .i64 (yrs q + 365) = yrs q + 365 := w64_in (by unfold I64; omega)
      have dc : (y - IntKind.wrap .i64 (q + 1)).toNat < (y - q).toNat := by rw [ew]; omega
      refine ref20_Long.cl (by show 0 ≤ q; omega) (brC (fun c2 => ⟨⟨rfl, ?_, by show (1 : Int) ≤ IntKind.wrap .i64 (q + 1); omega, by show IntKind.wrap .i64 (q + 1) ≤ y; omega⟩, dc⟩) fun c2 => ⟨⟨rfl, ?_, by show (1 : Int) ≤ IntKind.wrap .i64 (q + 1); omega, by show IntKind.wrap .i64 (q + 1) ≤ y; omega⟩, dc⟩)
      · have c2 : lpY q = true := c2
        rw [if_pos c2] at ys
        show IntKind.wrap .i64 (IntKind.wrap .i64 (yrs q + 365) + 1) = yrs (IntKind.wrap .i64 (q + 1))
        rw [ew, ys, ex, w64_in (by unfold I64; omega)]
      · have c2 : lpY q = false := c2
        rw [if_neg (by rw [c2]; simp)] at ys
        show IntKind.wrap .i64 (yrs q + 365) = yrs (IntKind.wrap .i64 (q + 1))
        rw [ew, ys, ex]; omega
    · have c : ¬ q < y := c
      have : q = y := by omega
      subst this; exact h
set_option maxRecDepth 20000 in
theorem ref20_Number.cl {d : D3} (hg : GoodD d) {w : World} {k : TR RI1 → World → Prop} (h : ∀ w', Gro w w' → k ((numD d, ()), ()) w') : clS Tryd.prog F.ref20_Number [vD d] w false RI1 k := by
  refine ref20_Number.ok ?_
  unfold ref20_Number.wp
  obtain ⟨g1, g2, g3, g4, g5, g6⟩ := hg
  have m1 := (mlen_le d.1 d.2.1).2
  have yr := yrs_rng g1 (by omega : d.1 ≤ 20000)
  refine alK_by fun p1 w2 e1 k1 u1 => k1.i0 rfl (ref20_ahead.cl g1 (by omega) (ref20_ahead.cl (by decide) (by decide) ?_))
  have e70 : yrs 1970 = 719162 := by decide
  rw [e70, w64_in (n := yrs d.1 - 719162) (by unfold I64; omega)]
  refine LoopT.by (fun z W => ∃ i : Nat, (i : Int) < d.2.1 ∧ z.1 = yrs d.1 - 719162 + cumD d.1 i ∧ z.2.1 = (i : Int) + 1 ∧ Blk W p1 [.int .i64 d.1, .int .i64 d.2.1, .int .i64 d.2.2] ∧ Gro w W)
    (fun z => (20 - z.2.1).toNat) ⟨0, by omega, by simp [cumD], rfl, k1, u1⟩ ?_
  rintro ⟨z1, z2, _⟩ W ⟨i, hi, e1, e2, hB, hG⟩ _
  dsimp only at e1 e2
  subst e1 e2
  have cr := cum_rng d.1 i
  refine hB.i1 1 rfl (brD (fun c => ?_) fun c => ?_)
  · have c : (i : Int) + 1 < d.2.1 := c
    have ml := mlen_le d.1 (i + 1)
    refine hB.i0 rfl (ref20_Days.cl (by omega) ⟨⟨i + 1, by omega, ?_, ?_, hB, hG⟩, ?_⟩)
    · show IntKind.wrap .i64 (yrs d.1 - 719162 + cumD d.1 i + mlen d.1 ((i : Int) + 1)) = _
      rw [w64_in (by unfold I64; omega)]; simp only [cumD]; omega
    · show IntKind.wrap .i64 ((i : Int) + 1 + 1) = _
      rw [w64_in (by unfold I64; omega)]; omega
    · show (20 - IntKind.wrap .i64 ((i : Int) + 1 + 1)).toNat < (20 - ((i : Int) + 1)).toNat
      rw [w64_in (by unfold I64; omega)]; omega
  · have c : ¬ (i : Int) + 1 < d.2.1 := c
    have e : (d.2.1 - 1).toNat = i := by omega
    refine hB.i1 2 rfl ?_
    have := h W hG
    unfold numD at this
    rw [e] at this
    rw [show IntKind.wrap .i64 (IntKind.wrap .i64 (((yrs d.1 - 719162 + cumD d.1 i, (i : Int) + 1, ()) : Int × Int × Unit).1 + d.2.2) - 1) = -719162 + yrs d.1 + cumD d.1 i + d.2.2 - 1 from by
      show IntKind.wrap .i64 (IntKind.wrap .i64 (yrs d.1 - 719162 + cumD d.1 i + d.2.2) - 1) = _
      rw [w64_in (n := yrs d.1 - 719162 + cumD d.1 i + d.2.2) (by unfold I64; omega), w64_in (by unfold I64; omega)]; omega]
    exact this
set_option maxRecDepth 20000 in
theorem ref20_Next.cl {d : D3} (hg : GoodD d) {w : World} {k : TR [(true, K3)] → World → Prop} (h : ∀ w', Gro w w' → k (tD (nextD d), ()) w') : clS Tryd.prog F.ref20_Next [vD d] w false [(true, K3)] k := by
  refine ref20_Next.ok ?_
  unfold ref20_Next.wp
  obtain ⟨g1, g2, g3, g4, g5, g6⟩ := hg
  have m1 := mlen_le d.1 d.2.1
  refine alK_by fun p1 w2 e1 k1 u1 => alK_by fun p3 w4 e3 k3 u3 => ?_
  have l1 := k1.lt
  have l3 := k3.lt
  have g4' := u1.trans u3
  have q1 := k1.gro u3
  refine q1.i1 2 rfl (q1.s1 2 (by simp) fun w6 k6 u6 => ?_)
  have e6 : IntKind.wrap .i64 (d.2.2 + 1) = d.2.2 + 1 := w64_in (by unfold I64; omega)
  rw [e6] at k6
  have q3 := k3.upd u6 (by omega)
  have G6 : Gro w w6 := Upd.trans g4' u6 fun i hi h => by omega
  refine CutT.by (fun z W => Gro w W ∧ Blk W p3 [.int .i64 0, .int .i64 0, .int .i64 0] ∧ Blk W p1 (if d.2.2 + 1 > mlen d.1 d.2.1 then [.int .i64 d.1, .int .i64 (d.2.1 + 1), .int .i64 1] else [.int .i64 d.1, .int .i64 d.2.1, .int .i64 (d.2.2 + 1)])) ?_ ?_
  · rw [drK_eq]
    have k6 := k6.drew
    have q3 := q3.drew
    have G6 := G6.trans (Gro.drew _)
    generalize w6.drew = w10 at k6 q3 G6
    refine k6.i1 2 rfl (k6.i0 rfl (k6.i1 1 rfl (ref20_Days.cl (by omega) ⟨⟨k6.hold (Gro.refl _) (fun x => x) 2 (by simp), trivial⟩, brD (fun c => ?_) fun c => ?_⟩)))
    · have c : d.2.2 + 1 > mlen d.1 d.2.1 := c
      rw [if_pos c]
      refine k6.s1 2 (by simp) fun w16 k16 u16 => k16.i1 1 rfl (k16.s1 1 (by simp) fun w18 k18 u18 => ⟨?_, ?_, ?_⟩)
      · exact Upd.trans (Upd.trans G6 u16 fun i hi h => by omega) u18 fun i hi h => by omega
      · exact (q3.upd u16 (by omega)).upd u18 (by omega)
      · have e7 : IntKind.wrap .i64 (d.2.1 + 1) = d.2.1 + 1 := w64_in (by unfold I64; omega)
        rw [e7] at k18; exact k18
    · have c : ¬ d.2.2 + 1 > mlen d.1 d.2.1 := c
      rw [if_neg c]
      exact ⟨G6, q3, k6⟩
  · rintro ⟨⟩ w9 ⟨G9, q3, hB⟩ _
    have fin : ∀ {W} {x : D3}, Gro w W → Blk W p3 [.int .i64 0, .int .i64 0, .int .i64 0] → x = nextD d → stN [.int .i64 x.1, .int .i64 x.2.1, .int .i64 x.2.2] ⟨p3, 0, none⟩ 0 W fun w24 => ldN K3 ⟨p3, 0, none⟩ 0 w24 fun x25 => k ((x25.1, x25.2.1, x25.2.2.1, ()), ()) w24 := by
      intro W x G q e
      refine q.sta _ rfl rfl fun w24 k24 u24 => k24.ld3 ?_
      subst e
      exact h w24 (Upd.trans G u24 fun i hi h => by omega)
    unfold nextD at fin
    by_cases c : d.2.2 + 1 > mlen d.1 d.2.1
    · rw [if_pos c] at hB fin
      refine hB.i1 1 rfl (brD (fun c2 => ?_) fun c2 => ?_)
      · have c2 : d.2.1 + 1 > 12 := c2
        rw [if_pos c2] at fin
        refine hB.s1 1 (by simp) fun w20 k20 u20 => k20.i0 rfl (k20.s0 (by simp) fun w22 k22 u22 => ?_)
        have e7 : IntKind.wrap .i64 (d.1 + 1) = d.1 + 1 := w64_in (by unfold I64; omega)
        rw [e7] at k22
        refine Blk.ld3 (x := d.1 + 1) (y := 1) (z := 1) k22 ?_
        exact fin (x := (d.1 + 1, 1, 1)) (Upd.trans (Upd.trans G9 u20 fun i hi h => by omega) u22 fun i hi h => by omega) ((q3.upd u20 (by omega)).upd u22 (by omega)) rfl
      · have c2 : ¬ d.2.1 + 1 > 12 := c2
        rw [if_neg c2] at fin
        exact hB.ld3 (fin (x := (d.1, d.2.1 + 1, 1)) G9 q3 rfl)
    · rw [if_neg c] at hB fin
      refine hB.i1 1 rfl (brD (fun c2 => absurd (show d.2.1 > 12 from c2) (by omega)) fun c2 => ?_)
      exact hB.ld3 (fin (x := (d.1, d.2.1, d.2.2 + 1)) G9 q3 rfl)
end Go.Proofs.YtfbegkddkdenbaaDoor
