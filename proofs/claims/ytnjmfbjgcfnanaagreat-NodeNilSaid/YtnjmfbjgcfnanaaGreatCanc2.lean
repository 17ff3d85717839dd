/- The law AnchorRuns. Conditions: numbers of 16 bits are such. -/
import Derived.Test.YtnjmfbjgcfnanaaGreatCanc
namespace Go.Proofs.YtnjmfbjgcfnanaaGreat
open Go.Eng Go
set_option linter.unusedVariables false
set_option linter.unusedSimpArgs false

set_option maxRecDepth 20000 in
theorem anchor_Book_Tai.cl {b : Nat} {a : A6} {t : Int} {w : World} (hB : Blk w b (bk true a)) (h0 : 0 ≤ t) (h1 : t ≤ 1125899906842624) (hg : okF (flA a) = true) {k : TR [(true, [.i .i64, .i .i64]), (false, [.i .i64])] → World → Prop}
    (hk : ∀ w', Gro w w' → k ((a.2.2.2.2.2 + (t - a.2.2.2.2.1) / 1000, (t - a.2.2.2.2.1) % 1000, ()), (0, ()), ()) w') :
    clS Tryz.prog F.anchor_Book_Tai [.pointer (some ⟨b, 0, none⟩), .agg #[.int .i64 a.2.2.1, .int .u16 a.2.2.2.1], .int .i64 t] w true [(true, [.i .i64, .i .i64]), (false, [.i .i64])] k := by
  refine anchor_Book_Tai.ok ?_
  unfold anchor_Book_Tai.wp
  have lb := hB.lt
  unfold okF at hg
  rw [List.all_eq_true] at hg
  have g4 := inF_iff.1 (hg (8, a.2.2.2.2.1, 1125899906842624) (by simp [flA]))
  have g5 := inF_iff.1 (hg (8, a.2.2.2.2.2, 1125899906842624) (by simp [flA]))
  dsimp only at g4 g5
  refine alK_by fun p1 w2 e1 k1 u1 => alK_by fun p3 w4 e3 k3 u3 => brF rfl ?_
  have g4' := u1.trans u3
  have B4 := hB.gro g4'
  have q1 := k1.gro u3
  have l1 := k1.lt
  rw [ncK_eq]
  refine B4.c0 rfl (brF rfl ?_)
  refine CutT.by (fun z w' => w' = w4.drew ∧ z.1 = false) ?_ ?_
  · rw [drK_eq, ncK_eq]
    refine B4.drew.c2 1 2 rfl (q1.drew.c0 rfl (brN (fun h => absurd rfl h) fun _ => ?_))
    rw [ncK_eq]
    exact B4.drew.c2 1 3 rfl (q1.drew.c1 1 rfl ⟨rfl, by simp⟩)
  · rintro ⟨z, _⟩ _ ⟨rfl, hz⟩ _
    dsimp only at hz
    subst hz
    refine brF rfl (brD (fun c => absurd (show t < 0 from c) (by omega)) fun _ => brD (fun c => absurd (show t > 1125899906842624 from c) (by omega)) fun _ => ?_)
    rw [ncK_eq]
    refine B4.drew.c2 1 4 rfl ?_
    rw [w64_in (by unfold I64; omega)]
    refine fix_Floor.cl (by unfold I64; omega) (by unfold I64; omega) fun w30 u30 => ?_
    rw [ncK_eq]
    refine (B4.drew.gro u30).c2 1 5 rfl ?_
    have e : floorV (t - a.2.2.2.2.1) 1000 = (t - a.2.2.2.2.1) / 1000 := by unfold floorV; rw [if_neg (by decide)]
    have e' : floorR (t - a.2.2.2.2.1) 1000 = (t - a.2.2.2.2.1) % 1000 := by unfold floorR; rw [if_neg (by decide)]
    dsimp only
    rw [e, e', w64_in (by unfold I64; omega)]
    refine (k3.drew.gro u30).sta _ rfl rfl fun w33 k33 u33 => k33.ld2 ?_
    exact hk w33 (Upd.trans ((Upd.drew g4').trans u30 fun _ _ x => x) u33 fun i hi h => by have := u1.size; omega)

set_option maxRecDepth 20000 in
set_option maxHeartbeats 1000000 in
theorem anchor_Book_Make.cl {b : Nat} {has : Bool} {old : A6} {me tai : Int} {t0 t1 t2 t3 t4 : Int} (h3 : U16 t3) {w : World} (hB : Blk w b (bk has old)) (hg : okF (flA (me, IntKind.wrap .u16 (old.2.1 + 1), t2, t3, t0, tai)) = true)
    {k : TR [(true, K6), (false, [.i .i64])] → World → Prop}
    (hk : ∀ w', Blk w' b (bk true (me, IntKind.wrap .u16 (old.2.1 + 1), t2, t3, t0, tai)) → Upd (fun z => z = b) w w' → k (t6 (me, IntKind.wrap .u16 (old.2.1 + 1), t2, t3, t0, tai), (0, ()), ()) w') :
    clS Tryz.prog F.anchor_Book_Make [.pointer (some ⟨b, 0, none⟩), .int .i64 me, .agg #[.int .i64 t0, .int .i64 t1, .int .i64 t2, .int .u16 t3, .int .i64 t4], .int .i64 tai] w true [(true, K6), (false, [.i .i64])] k := by
  refine anchor_Book_Make.ok ?_
  unfold anchor_Book_Make.wp
  have lb := hB.lt
  have hU : UA (me, IntKind.wrap .u16 (old.2.1 + 1), t2, t3, t0, tai) := ⟨by show U16 (IntKind.wrap .u16 _); rw [wu16]; unfold U16; omega, h3⟩
  obtain ⟨a, ea⟩ : ∃ a : A6, a = (me, IntKind.wrap .u16 (old.2.1 + 1), t2, t3, t0, tai) := ⟨_, rfl⟩
  refine alK_by fun p1 w2 e1 k1 u1 => alK_by fun p3 w4 e3 k3 u3 => brF rfl ?_
  have l1 := k1.lt
  have l3 := k3.lt
  have g4 := u1.trans u3
  have B4 := (hB.gro g4).drew
  have q1 := (k1.gro u3).drew
  have n : b < p1 ∧ p1 < p3 := by omega
  refine CutT.by (fun z w' => Gro w w' ∧ Gro w4 w' ∧ ∃ pb, z.1 = ⟨pb, 0, none⟩ ∧ w4.heap.size ≤ pb ∧ Blk w' pb (a6 a)) ?_ ?_
  · rw [drK_eq, ncK_eq]
    refine B4.c2 1 1 rfl (q1.c1 2 rfl (q1.c2 2 1 rfl (q1.c0 rfl ⟨?_, ?_⟩)))
    · refine wrap_Next.cl ⟨⟨q1.hold (Gro.refl _) (fun x => x) 0 (by simp), q1.hold2 (Gro.refl _) (fun x => x) 2 1 (by simp), q1.hold (Gro.refl _) (fun x => x) 2 (by simp), B4.hold2 (Gro.refl _) (fun x => x) 1 1 (by simp [bk, a6]), trivial⟩, ?_⟩
      refine alK_by fun p18 w19 e18 k18 u18 => ⟨⟨q1.hold u18 (fun x => x) 0 (by simp), q1.hold2 u18 (fun x => x) 2 1 (by simp), q1.hold u18 (fun x => x) 2 (by simp), B4.hold2 u18 (fun x => x) 1 1 (by simp [bk, a6]), trivial⟩, ?_⟩
      have e18 : w4.heap.size = p18 := e18
      subst ea
      refine k18.sta _ rfl rfl fun w20 k20 u20 => ?_
      have f : Gro w4 w20 := Upd.trans ((Gro.drew w4).trans u18) u20 fun i hi h => by omega
      exact ⟨trivial, g4.trans f, f, p18, rfl, by omega, k20⟩
    · refine alK_by fun p18 w19 e18 k18 u18 => ⟨⟨q1.hold u18 (fun x => x) 0 (by simp), q1.hold2 u18 (fun x => x) 2 1 (by simp), q1.hold u18 (fun x => x) 2 (by simp), B4.hold2 u18 (fun x => x) 1 1 (by simp [bk, a6]), trivial⟩, ?_⟩
      have e18 : w4.heap.size = p18 := e18
      refine wrap_Next.cl ⟨⟨q1.hold u18 (fun x => x) 0 (by simp), q1.hold2 u18 (fun x => x) 2 1 (by simp), q1.hold u18 (fun x => x) 2 (by simp), trivial⟩, ?_⟩
      subst ea
      refine k18.sta _ rfl rfl fun w20 k20 u20 => ?_
      have f : Gro w4 w20 := Upd.trans ((Gro.drew w4).trans u18) u20 fun i hi h => by omega
      exact ⟨trivial, g4.trans f, f, p18, rfl, by omega, k20⟩
  · rintro ⟨z, _⟩ w9 ⟨g9, f9, pb, hz, hpb, kb⟩ _
    dsimp only at hz
    subst hz
    rw [← ea] at hg hU hk
    refine kb.cA (t6 a) rfl (frame_Good_of_frame_Anchor.cl (a := a) hU fun w28 u28 => brNot (fun c => absurd (show okF (flA a) = false from c) (by rw [hg]; simp)) fun _ => ?_)
    rw [drK_eq]
    have kb2 := (kb.gro u28).drew
    have B2 := ((hB.gro g9).gro u28).drew
    refine kb2.cA (t6 a) rfl ?_
    rw [ncK_eq]
    refine B2.sN0 [.bool true] (by simp [bk]) rfl fun w34 k34 u34 => ⟨?_, ?_⟩
    · have hne : pb ≠ b := by omega
      exact ⟨kb2.hold u34 hne 0 (by simp [a6]), kb2.hold u34 hne 1 (by simp [a6]), kb2.hold u34 hne 2 (by simp [a6]), kb2.hold u34 hne 3 (by simp [a6]), kb2.hold u34 hne 4 (by simp [a6]), kb2.hold u34 hne 5 (by simp [a6]), trivial⟩
    rw [ncK_eq]
    refine k34.sN 1 (a6 a) (by simp [bk, a6, splice]) rfl fun w36 k36 u36 => ⟨trivial, ?_⟩
    refine ((kb2.upd u34 (by omega)).upd u36 (by omega)).cA (t6 a) rfl ?_
    have q3 := (((((k3.gro f9).gro u28).drew).upd u34 (by omega)).upd u36 (by omega))
    refine q3.sta (a6 a) rfl rfl fun w38 k38 u38 => k38.cA (t6 a) rfl ?_
    refine hk w38 (k36.upd u38 (by omega)) ?_
    have U : Upd (fun z => z = b) w w36 := (Upd.of_gro (Upd.drew (g9.trans u28))).trans (u34.trans u36 fun _ _ h => h) fun _ _ h => h
    exact Upd.trans U u38 fun i hi h => by omega

/-! ### frames of the document -/
abbrev I14 : List IntKind := [.i64, .i64, .i64, .i64, .u16, .u16, .i64, .i64, .i64, .i64, .i64, .i64, .i64, .i64]
abbrev K14 : List CK := [.i .i64, .i .i64, .i .i64, .i .i64, .i .u16, .i .u16, .i .i64, .i .i64, .i .i64, .i .i64, .i .i64, .i .i64, .i .i64, .i .i64]
abbrev P14 := Tvs K14
def ofP (x : P14) : A6 := (x.2.1, x.2.2.2.2.2.1, x.2.2.2.1, x.2.2.2.2.1, x.2.2.2.2.2.2.2.2.2.2.2.2.1, x.2.2.2.2.2.2.2.2.2.2.2.2.2.1)
abbrev vP (x : P14) : Value := .agg #[.int .i64 x.1, .int .i64 x.2.1, .int .i64 x.2.2.1, .int .i64 x.2.2.2.1, .int .u16 x.2.2.2.2.1, .int .u16 x.2.2.2.2.2.1, .int .i64 x.2.2.2.2.2.2.1, .int .i64 x.2.2.2.2.2.2.2.1, .int .i64 x.2.2.2.2.2.2.2.2.1, .int .i64 x.2.2.2.2.2.2.2.2.2.1, .int .i64 x.2.2.2.2.2.2.2.2.2.2.1, .int .i64 x.2.2.2.2.2.2.2.2.2.2.2.1, .int .i64 x.2.2.2.2.2.2.2.2.2.2.2.2.1, .int .i64 x.2.2.2.2.2.2.2.2.2.2.2.2.2.1]
def UP (x : P14) : Prop := U16 x.2.2.2.2.1 ∧ U16 x.2.2.2.2.2.1

set_option maxRecDepth 20000 in
theorem ref05_Fields.cl6 {x : P14} (hu : UP x) (h6 : x.1 = 6) {w : World} {k : TR [(false, [.sl])] → World → Prop} (h : ∀ s w', Gro w w' → Ents w' s (flA (ofP x)) → k ((s, ()), ()) w') : clS Tryz.prog F.ref05_Fields [vP x] w false [(false, [.sl])] k := by
  refine ref05_Fields.ok ?_
  unfold ref05_Fields.wp
  refine alK_by fun p1 w2 e1 k1 u1 => ?_
  change Blk w2 p1 (encs K14 x) at k1
  refine k1.c1 1 rfl (alK_by fun p4 w5 e4 k4 u4 => k4.sta _ rfl rfl fun w6 k6 u6 => ?_)
  have l1 := k1.lt
  have q1 := (k1.gro u4).upd u6 (by omega)
  have g6 := Gro.fresh u1 u4 u6 e4
  refine q1.c0 rfl ?_
  rw [h6]
  refine brF rfl (brF rfl (brF rfl (brF rfl (brF rfl (brT rfl (k6.ld3 ?_))))))
  refine q1.c1 5 rfl (q1.c1 3 rfl (q1.c1 4 rfl (q1.c1 12 rfl (q1.c1 13 rfl ?_))))
  have hb := hu.1
  have hs := hu.2
  unfold U16 at hb hs
  rw [w64_in (n := x.2.2.2.2.2.1) (by unfold I64; omega), w64_in (n := x.2.2.2.2.1) (by unfold I64; omega)]
  exact alK_by fun p44 w45 e44 k44 u44 => h (some ⟨p44, 0, none⟩, 6, 6) w45 (g6.trans u44) (ents_new k44 rfl rfl)

set_option maxRecDepth 20000 in
theorem ref05_Good.cl6 {x : P14} (hu : UP x) (h6 : x.1 = 6) {w : World} {k : TR [(false, [.b])] → World → Prop} (h : ∀ w', Gro w w' → k ((okF (flA (ofP x)), ()), ()) w') : clS Tryz.prog F.ref05_Good [vP x] w false [(false, [.b])] k := by
  refine ref05_Good.ok ?_
  unfold ref05_Good.wp
  refine alK_by fun p1 w2 e1 k1 u1 => ?_
  change Blk w2 p1 (encs K14 x) at k1
  refine k1.cA x rfl (ref05_Fields.cl6 (x := x) hu h6 fun s w4 u4 hE => ?_)
  have hl := hE.len
  have hlen : (flA (ofP x)).length = 6 := rfl
  refine LoopT.by (fun z w' => Gro w4 w' ∧ ∃ i : Nat, z = ((i : Int), ()) ∧ i ≤ (flA (ofP x)).length ∧ ∀ e ∈ (flA (ofP x)).take i, inF e = true) (fun z => (1000 - z.1).toNat) ⟨Gro.refl _, 0, rfl, by omega, by simp⟩ ?_
  rintro z w7 ⟨g, i, rfl, hi, hgood⟩ _
  have g4 := u1.trans u4
  have out : ∀ w', Gro w4 w' → okF (flA (ofP x)) = false → k ((false, ()), ()) w' := fun w' g h0 => by
    have := h w' (g4.trans g)
    rw [h0] at this; exact this
  refine brD (fun c => ?_) fun c => ?_
  · have hi' : i < (flA (ofP x)).length := by have c : (i : Int) < (s.2.1 : Int) := c; omega
    have he : (flA (ofP x))[i]? = some (flA (ofP x))[i] := List.getElem?_eq_getElem hi'
    generalize (flA (ofP x))[i] = e at he
    have hE7 := hE.gro g
    refine hE7.ix (z := (i : Int)) rfl he fun ad ha => hE7.ldN ha he ?_
    refine alK_by fun p10 w11 e10 k10 u11 => k10.sta _ rfl rfl fun w12 k12 u12 => k12.i1 1 rfl ?_
    have g12 := Gro.fresh g u11 u12 e10
    refine brD (fun c => out w12 g12 (okF_no he ?_)) fun c1 => k12.i1 1 rfl (k12.i1 2 rfl (brD (fun c => out w12 g12 (okF_no he ?_)) fun c2 => ⟨⟨g12, i + 1, ?_, by omega, ?_⟩, ?_⟩))
    · have c : e.2.1 < 0 := c
      cases hb : inF e
      · rfl
      · have := inF_iff.1 hb; omega
    · have c : e.2.1 > e.2.2 := c
      cases hb : inF e
      · rfl
      · have := inF_iff.1 hb; omega
    · show (IntKind.wrap .i64 ((i : Int) + 1), ()) = _
      rw [w64_in (by unfold I64; omega)]; rfl
    · have c1 : ¬ e.2.1 < 0 := c1
      have c2 : ¬ e.2.1 > e.2.2 := c2
      rw [List.take_add_one, he]
      intro y hy
      rcases List.mem_append.1 hy with hy | hy
      · exact hgood y hy
      · have : y = e := by simpa using hy
        subst this
        exact inF_iff.2 ⟨by omega, by omega⟩
    · show (1000 - IntKind.wrap .i64 ((i : Int) + 1)).toNat < (1000 - (i : Int)).toNat
      rw [w64_in (by unfold I64; omega)]; omega
  · have c : ¬ (i : Int) < (s.2.1 : Int) := c
    have hi' : i = (flA (ofP x)).length := by omega
    subst hi'
    rw [List.take_length] at hgood
    have := h w7 (g4.trans g)
    rw [okF_take hgood] at this
    have e : decide ((s.2.1 : Int) > 0) = true := decide_eq_true (by omega)
    show k ((decide ((s.2.1 : Int) > 0), ()), ()) w7
    rw [e]; exact this

end Go.Proofs.YtnjmfbjgcfnanaaGreat
