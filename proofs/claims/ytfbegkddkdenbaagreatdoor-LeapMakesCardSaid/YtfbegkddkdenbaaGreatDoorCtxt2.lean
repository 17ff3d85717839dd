/- Contracts: seconds' Good and Text; the document's dates: ahead, Number, Next, number, Parse, Date of a day. Conditions: none. -/
import Derived.Test.YtfbegkddkdenbaaGreatDoorCtxt
namespace Go.Proofs.YtfbegkddkdenbaaGreatDoor
open Go.Eng Go
set_option linter.unusedVariables false
set_option linter.unusedSimpArgs false

theorem strD_good {d : D3} (h : GoodD d) : strD d = ofL (txtD d) := by unfold strD; rw [if_pos (show goodDb d = true from decide_eq_true h)]
/-! ### the document's numbers of days -/
set_option maxRecDepth 20000 in
theorem ref20_Next.cl {d : D3} (hg : GoodD d) {w : World} {k : TR [(true, K3)] → World → Prop} (h : ∀ w', Gro w w' → k (tD (nextD d), ()) w') : clS Tryz.prog F.ref20_Next [vD d] w false [(true, K3)] k := by
  refine ref20_Next.ok ?_
  unfold ref20_Next.wp
  obtain ⟨g1, g2, g3, g4, g5, g6⟩ := hg
  have m1 := mlen_le d.1 d.2.1
  refine alK_by fun p1 w2 e1 k1 u1 => alK_by fun p3 w4 e3 k3 u3 => ?_
  have l1 := k1.lt
  have l3 := k3.lt
  have g4' := u1.trans u3
  have q1 := k1.gro u3
  refine q1.i1 2 rfl (q1.s1 2 (by simp) fun w6 k6 u6 => ?_)
  have e6 : IntKind.wrap .i64 (d.2.2 + 1) = d.2.2 + 1 := w64_in (by unfold I64; omega)
  rw [e6] at k6
  have q3 := k3.upd u6 (by omega)
  have G6 : Gro w w6 := Upd.trans g4' u6 fun i hi h => by omega
  refine CutT.by (fun z W => Gro w W ∧ Blk W p3 [.int .i64 0, .int .i64 0, .int .i64 0] ∧ Blk W p1 (if d.2.2 + 1 > mlen d.1 d.2.1 then [.int .i64 d.1, .int .i64 (d.2.1 + 1), .int .i64 1] else [.int .i64 d.1, .int .i64 d.2.1, .int .i64 (d.2.2 + 1)])) ?_ ?_
  · rw [drK_eq]
    have k6 := k6.drew
    have q3 := q3.drew
    have G6 := G6.trans (Gro.drew _)
    generalize w6.drew = w10 at k6 q3 G6
    refine k6.i1 2 rfl (k6.i0 rfl (k6.i1 1 rfl (ref20_Days.cl (by omega) ⟨⟨k6.hold (Gro.refl _) (fun x => x) 2 (by simp), trivial⟩, brD (fun c => ?_) fun c => ?_⟩)))
    · have c : d.2.2 + 1 > mlen d.1 d.2.1 := c
      rw [if_pos c]
      refine k6.s1 2 (by simp) fun w16 k16 u16 => k16.i1 1 rfl (k16.s1 1 (by simp) fun w18 k18 u18 => ⟨?_, ?_, ?_⟩)
      · exact Upd.trans (Upd.trans G6 u16 fun i hi h => by omega) u18 fun i hi h => by omega
      · exact (q3.upd u16 (by omega)).upd u18 (by omega)
      · have e7 : IntKind.wrap .i64 (d.2.1 + 1) = d.2.1 + 1 := w64_in (by unfold I64; omega)
        rw [e7] at k18; exact k18
    · have c : ¬ d.2.2 + 1 > mlen d.1 d.2.1 := c
      rw [if_neg c]
      exact ⟨G6, q3, k6⟩
  · rintro ⟨⟩ w9 ⟨G9, q3, hB⟩ _
    have fin : ∀ {W} {x : D3}, Gro w W → Blk W p3 [.int .i64 0, .int .i64 0, .int .i64 0] → x = nextD d → stN [.int .i64 x.1, .int .i64 x.2.1, .int .i64 x.2.2] ⟨p3, 0, none⟩ 0 W fun w24 => ldN K3 ⟨p3, 0, none⟩ 0 w24 fun x25 => k ((x25.1, x25.2.1, x25.2.2.1, ()), ()) w24 := by
      intro W x G q e
      refine q.sta _ rfl rfl fun w24 k24 u24 => k24.ld3 ?_
      subst e
      exact h w24 (Upd.trans G u24 fun i hi h => by omega)
    unfold nextD at fin
    by_cases c : d.2.2 + 1 > mlen d.1 d.2.1
    · rw [if_pos c] at hB fin
      refine hB.i1 1 rfl (brD (fun c2 => ?_) fun c2 => ?_)
      · have c2 : d.2.1 + 1 > 12 := c2
        rw [if_pos c2] at fin
        refine hB.s1 1 (by simp) fun w20 k20 u20 => k20.i0 rfl (k20.s0 (by simp) fun w22 k22 u22 => ?_)
        have e7 : IntKind.wrap .i64 (d.1 + 1) = d.1 + 1 := w64_in (by unfold I64; omega)
        rw [e7] at k22
        refine Blk.ld3 (x := d.1 + 1) (y := 1) (z := 1) k22 ?_
        exact fin (x := (d.1 + 1, 1, 1)) (Upd.trans (Upd.trans G9 u20 fun i hi h => by omega) u22 fun i hi h => by omega) ((q3.upd u20 (by omega)).upd u22 (by omega)) rfl
      · have c2 : ¬ d.2.1 + 1 > 12 := c2
        rw [if_neg c2] at fin
        exact hB.ld3 (fin (x := (d.1, d.2.1 + 1, 1)) G9 q3 rfl)
    · rw [if_neg c] at hB fin
      refine hB.i1 1 rfl (brD (fun c2 => absurd (show d.2.1 > 12 from c2) (by omega)) fun c2 => ?_)
      exact hB.ld3 (fin (x := (d.1, d.2.1, d.2.2 + 1)) G9 q3 rfl)
end Go.Proofs.YtfbegkddkdenbaaGreatDoor
