/- Contracts of the reference's slope, of the law's rows and of alive in chapter 13. Conditions: the entries are integers of 64 bits. -/
import Derived.Test.YtahojpppjpfjmaaGreatCgather
namespace Go.Proofs.YtahojpppjpfjmaaGreat
open Go.Eng
set_option linter.unusedVariables false
set_option linter.unusedSimpArgs false

set_option maxHeartbeats 1000000 in
theorem ref13_Of.cl {drift : Int} {s : Sl} {es : List E3} {w : World} (hE : Ents w s es) {k : TR [(false, [.i .i64]), (false, [.i .i64])] → World → Prop}
    (hk : ∀ w', Gro w w' → k (((slopeV drift es).1, ()), ((slopeV drift es).2, ()), ()) w') :
    clS Tryz.prog F.ref13_Of [.int .i64 drift, .slice s.1 s.2.1 s.2.2] w true [(false, [.i .i64]), (false, [.i .i64])] k := by
  refine ref13_Of.ok ?_
  unfold ref13_Of.wp
  have hl := hE.len
  have out : ∀ {w' : World}, slopeV drift es = (0, 1) → Gro w w' → k ((0, ()), (1, ()), ()) w' := by
    intro w' e g
    have := hk w' g
    rw [e] at this; exact this
  refine brD (fun c => out (slopeV_no (.inl ?_)) (Gro.refl w)) fun c1 => brD (fun c => out (slopeV_no (.inr (.inl ?_))) (Gro.refl w)) fun c2 => ?_
  · have c : (s.2.1 : Int) < 2 := c; omega
  · have c : (s.2.1 : Int) > 8 := c; omega
  have c1 : ¬ (s.2.1 : Int) < 2 := c1
  have c2 : ¬ (s.2.1 : Int) > 8 := c2
  refine LoopT.by (fun z w' => Gro w w' ∧ ∃ i : Nat, z = ((i : Int), ()) ∧ i ≤ es.length ∧ (∀ e ∈ es.take i, goodB e = true))
    (fun z => (8 - z.1).toNat) ⟨Gro.refl w, 0, rfl, by omega, by simp⟩ ?_
  rintro z w4 ⟨g, i, rfl, hi, hr⟩ _
  refine brD (fun c => ?_) (fun c => ?_)
  · have hi' : i < es.length := by have c : (i : Int) < (s.2.1 : Int) := c; omega
    have he : es[i]? = some es[i] := List.getElem?_eq_getElem hi'
    generalize es[i] = e at he
    have hE3 := hE.gro g
    refine hE3.ix rfl he fun a ha => hE3.ldN ha he ?_
    refine alK_by fun p w5 e4 k4 u4 => k4.sta _ rfl rfl fun w6 k5 u5 => k5.ld3 (ref12_Good.cl fun w7 u6 => ?_)
    have g7 : Gro w w7 := Upd.gro (Upd.new (Upd.gro g u4) u5 (fun h => absurd g.size (by omega))) u6
    refine brNot (fun hb => out (slopeV_no (.inr (.inr (.inl fun x => ?_)))) g7) fun hb => ?_
    · have hb : goodB e = false := hb
      have := x e (List.mem_of_getElem? he); rw [hb] at this; cases this
    · have e6 : IntKind.wrap .i64 ((i : Int) + 1) = ((i + 1 : Nat) : Int) := by rw [w64_in (by unfold I64; omega)]; rfl
      refine ⟨⟨g7, i + 1, ?_, by omega, ?_⟩, ?_⟩
      · show (_, ()) = _; rw [e6]
      · intro x hx
        rw [take_snoc he] at hx
        rcases List.mem_append.1 hx with hx | hx
        · exact hr x hx
        · simp at hx; subst hx; exact hb
      · show (8 - IntKind.wrap .i64 ((i : Int) + 1)).toNat < (8 - (i : Int)).toNat
        rw [e6]; omega
  have hi' : i = es.length := by have c : ¬ (i : Int) < (s.2.1 : Int) := c; omega
  subst hi'
  rw [List.take_length] at hr
  obtain ⟨e0, he0⟩ : ∃ e0, es[0]? = some e0 := ⟨_, List.getElem?_eq_getElem (show 0 < es.length by omega)⟩
  have hd0 : es.headD (0, 0, 0) = e0 := by cases es; cases he0; simpa using he0
  clear c
  refine LoopT.by (fun z w' => Gro w w' ∧ ∃ i : Nat, i ≤ es.length ∧ (∀ e ∈ es.take i, InR e0 e) ∧
      z = ((sm e0 (es.take i)).2.1, (sm e0 (es.take i)).2.2.1, (sm e0 (es.take i)).2.2.2.1, (sm e0 (es.take i)).2.2.2.2, (i : Int), ()))
    (fun z => (8 - z.2.2.2.2.1).toNat) ⟨g, 0, by omega, by simp, rfl⟩ ?_
  clear g
  rintro z w4 ⟨g, i, hi, hin, rfl⟩ _
  refine brD (fun c => ?_) (fun c => ?_)
  · have hi' : i < es.length := by have c : (i : Int) < (s.2.1 : Int) := c; omega
    have he : es[i]? = some es[i] := List.getElem?_eq_getElem hi'
    generalize es[i] = e at he
    have hE3 := hE.gro g
    refine hE3.ix (z := (i : Int)) rfl he fun a ha => hE3.ldN ha he ?_
    refine alK_by fun p w5 e4 k4 u4 => k4.sta _ rfl rfl fun w6 k5 u5 => ?_
    simp only [drK_eq]
    have g5 : Gro w w6.drew := (Upd.drew (Upd.new (Upd.gro g u4) u5 (fun h => absurd g.size (by omega))))
    have hE5 := hE.gro g5
    have hE6 := hE5.drew
    have ge := goodB_iff.1 (hr e (List.mem_of_getElem? he))
    have ge0 := goodB_iff.1 (hr e0 (List.mem_of_getElem? he0))
    refine k5.drew.i0 rfl (hE5.ix (i := 0) rfl he0 fun a' ha' => hE5.f0 ha' (i := 0) rfl he0 (k5.drew.drew.i1 1 rfl (hE6.ix (i := 0) rfl he0 fun a' ha' => hE6.f1 ha' (i := 0) rfl he0 ?_)))
    simp only
    rw [w64_in (n := e.1 - e0.1) (by unfold I64; omega), w64_in (n := e.2.1 - e0.2.1) (by unfold I64; omega)]
    refine in_wp (fun r => ?_) (fun r => ?_)
    · exact out (slopeV_no (.inr (.inr (.inr (.inl fun x => r (by have := x e (List.mem_of_getElem? he); rw [hd0] at this; exact this)))))) (Upd.drew g5)
    · have sb := SB_of i (es.take i) (by simp; omega) hin
      have sb' := sb.step r
      obtain ⟨r0, r1, r2, r3⟩ := r
      have p := prod_bd r0 r1 r2 r3 (by decide)
      have q := mul_bd r0 r1 r0 r1
      obtain ⟨a0, a1, a2, a3, a4, a5, a6, a7, a8⟩ := sb
      have e6 : IntKind.wrap .i64 ((i : Int) + 1) = ((i + 1 : Nat) : Int) := by rw [w64_in (by unfold I64; omega)]; rfl
      rw [e6, w64_in (n := (e.1 - e0.1) * (e.2.1 - e0.2.1)) (by unfold I64; omega), w64_in (n := (e.1 - e0.1) * (e.1 - e0.1)) (by unfold I64; omega)]
      rw [w64_in (n := (sm e0 (es.take i)).2.1 + _) (by unfold I64; omega), w64_in (n := (sm e0 (es.take i)).2.2.1 + _) (by unfold I64; omega), w64_in (n := (sm e0 (es.take i)).2.2.2.1 + _) (by unfold I64; omega), w64_in (n := (sm e0 (es.take i)).2.2.2.2 + _) (by unfold I64; omega)]
      refine ⟨⟨Upd.drew g5, i + 1, by omega, ?_, ?_⟩, ?_⟩
      · intro x hx
        rw [take_snoc he] at hx
        rcases List.mem_append.1 hx with hx | hx
        · exact hin x hx
        · simp at hx; subst hx; exact ⟨r0, r1, r2, r3⟩
      · rw [take_snoc he, sm_snoc]; rfl
      · show (8 - ((i + 1 : Nat) : Int)).toNat < (8 - (i : Int)).toNat
        omega
  have hi' : i = es.length := by have c : ¬ (i : Int) < (s.2.1 : Int) := c; omega
  subst hi'
  rw [List.take_length] at hin ⊢
  obtain ⟨b1, b2, b3, b4, b5, b6, b7, b8, b9⟩ := slope_bd (e0 := e0) (by omega) hin
  have ea : IntKind.wrap .i64 (IntKind.wrap .i64 ((s.2.1 : Int) * (sm e0 es).2.2.2.1) - IntKind.wrap .i64 ((sm e0 es).2.1 * (sm e0 es).2.2.1)) = slopeN e0 es := by
    rw [hl, ← b9, w64_in b1, w64_in b2]; exact w64_in (by unfold slopeN at b5 b6; unfold I64; omega)
  have eb : IntKind.wrap .i64 (IntKind.wrap .i64 ((s.2.1 : Int) * (sm e0 es).2.2.2.2) - IntKind.wrap .i64 ((sm e0 es).2.1 * (sm e0 es).2.1)) = slopeD e0 es := by
    rw [hl, ← b9, w64_in b3, w64_in b4]; exact w64_in (by unfold slopeD at b7 b8; unfold I64; omega)
  simp only
  rw [ea, eb]
  refine brD (fun c => ?_) fun c => ?_
  · exact out (slopeV_no (.inr (.inr (.inr (.inr (by rw [hd0]; omega)))))) g
  have hv : slopeV drift es = bound drift (slopeN e0 es) (slopeD e0 es) := by
    unfold slopeV
    rw [hd0, if_neg]
    intro h
    rcases h with h | h | h | h | h
    · omega
    · omega
    · exact h hr
    · exact h hin
    · omega
  rw [hv] at hk
  clear out hv ea eb
  generalize slopeN e0 es = A at *
  generalize slopeD e0 es = B at *
  have hd := dr_bd drift
  refine ref13_Most.cl ?_
  simp only
  have wA : IntKind.wrap .i64 (0 - A) = -A := by rw [w64_in (by unfold I64; omega)]; omega
  have wD : IntKind.wrap .i64 (0 - 2 * dr drift) = -(2 * dr drift) := by rw [w64_in (by unfold I64; omega)]; omega
  rw [wA, wD]
  have hk := hk w4 g
  unfold bound at hk
  refine CutT.by (fun _ w' => w' = w4 ∧ ¬ (0 < A ∧ A * (1000 - dr drift) > 2 * dr drift * B)) ?_ ?_
  · refine brD (fun h => ?_) fun h => ⟨rfl, fun x => h x.1⟩
    refine ref13_Over.cl (by omega) (by omega) (by omega) ?_
    refine brD (fun h2 => ?_) fun h2 => ⟨rfl, fun x => h2 x.2⟩
    rw [if_pos ⟨h, h2⟩] at hk; exact hk
  rintro _ w5 ⟨rfl, h1⟩ _
  rw [if_neg h1] at hk
  refine brD (fun h => ?_) fun h => ?_
  · refine ref13_Over.cl (by omega) (by omega) (by omega) ?_
    refine brD (fun h2 => ?_) fun h2 => ?_
    · rw [if_pos ⟨h, h2⟩] at hk; exact hk
    · rw [if_neg (fun x => h2 x.2)] at hk; exact hk
  · rw [if_neg (fun x => h x.1)] at hk; exact hk
end Go.Proofs.YtahojpppjpfjmaaGreat
