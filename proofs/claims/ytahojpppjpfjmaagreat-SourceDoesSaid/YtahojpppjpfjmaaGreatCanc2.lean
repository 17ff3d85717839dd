/- The law AnchorRuns. Conditions: numbers of 16 bits are such. -/
import Derived.Test.YtahojpppjpfjmaaGreatCanc
namespace Go.Proofs.YtahojpppjpfjmaaGreat
open Go.Eng Go
set_option linter.unusedVariables false
set_option linter.unusedSimpArgs false

/-! ### frames of the document -/
abbrev I14 : List IntKind := [.i64, .i64, .i64, .i64, .u16, .u16, .i64, .i64, .i64, .i64, .i64, .i64, .i64, .i64]
abbrev K14 : List CK := [.i .i64, .i .i64, .i .i64, .i .i64, .i .u16, .i .u16, .i .i64, .i .i64, .i .i64, .i .i64, .i .i64, .i .i64, .i .i64, .i .i64]
abbrev P14 := Tvs K14
def ofP (x : P14) : A6 := (x.2.1, x.2.2.2.2.2.1, x.2.2.2.1, x.2.2.2.2.1, x.2.2.2.2.2.2.2.2.2.2.2.2.1, x.2.2.2.2.2.2.2.2.2.2.2.2.2.1)
abbrev vP (x : P14) : Value := .agg #[.int .i64 x.1, .int .i64 x.2.1, .int .i64 x.2.2.1, .int .i64 x.2.2.2.1, .int .u16 x.2.2.2.2.1, .int .u16 x.2.2.2.2.2.1, .int .i64 x.2.2.2.2.2.2.1, .int .i64 x.2.2.2.2.2.2.2.1, .int .i64 x.2.2.2.2.2.2.2.2.1, .int .i64 x.2.2.2.2.2.2.2.2.2.1, .int .i64 x.2.2.2.2.2.2.2.2.2.2.1, .int .i64 x.2.2.2.2.2.2.2.2.2.2.2.1, .int .i64 x.2.2.2.2.2.2.2.2.2.2.2.2.1, .int .i64 x.2.2.2.2.2.2.2.2.2.2.2.2.2.1]
def UP (x : P14) : Prop := U16 x.2.2.2.2.1 ∧ U16 x.2.2.2.2.2.1

set_option maxRecDepth 20000 in
theorem ref05_Fields.cl6 {x : P14} (hu : UP x) (h6 : x.1 = 6) {w : World} {k : TR [(false, [.sl])] → World → Prop} (h : ∀ s w', Gro w w' → Ents w' s (flA (ofP x)) → k ((s, ()), ()) w') : clS Tryz.prog F.ref05_Fields [vP x] w false [(false, [.sl])] k := by
  refine ref05_Fields.ok ?_
  unfold ref05_Fields.wp
  refine alK_by fun p1 w2 e1 k1 u1 => ?_
  change Blk w2 p1 (encs K14 x) at k1
  refine k1.c1 1 rfl (alK_by fun p4 w5 e4 k4 u4 => k4.sta _ rfl rfl fun w6 k6 u6 => ?_)
  have l1 := k1.lt
  have q1 := (k1.gro u4).upd u6 (by omega)
  have g6 := Gro.fresh u1 u4 u6 e4
  refine q1.c0 rfl ?_
  rw [h6]
  refine brF rfl (brF rfl (brF rfl (brF rfl (brF rfl (brT rfl (k6.ld3 ?_))))))
  refine q1.c1 5 rfl (q1.c1 3 rfl (q1.c1 4 rfl (q1.c1 12 rfl (q1.c1 13 rfl ?_))))
  have hb := hu.1
  have hs := hu.2
  unfold U16 at hb hs
  rw [w64_in (n := x.2.2.2.2.2.1) (by unfold I64; omega), w64_in (n := x.2.2.2.2.1) (by unfold I64; omega)]
  exact alK_by fun p44 w45 e44 k44 u44 => h (some ⟨p44, 0, none⟩, 6, 6) w45 (g6.trans u44) (ents_new k44 rfl rfl)

set_option maxRecDepth 20000 in
theorem ref05_Good.cl6 {x : P14} (hu : UP x) (h6 : x.1 = 6) {w : World} {k : TR [(false, [.b])] → World → Prop} (h : ∀ w', Gro w w' → k ((okF (flA (ofP x)), ()), ()) w') : clS Tryz.prog F.ref05_Good [vP x] w false [(false, [.b])] k := by
  refine ref05_Good.ok ?_
  unfold ref05_Good.wp
  refine alK_by fun p1 w2 e1 k1 u1 => ?_
  change Blk w2 p1 (encs K14 x) at k1
  refine k1.cA x rfl (ref05_Fields.cl6 (x := x) hu h6 fun s w4 u4 hE => ?_)
  have hl := hE.len
  have hlen : (flA (ofP x)).length = 6 := rfl
  refine LoopT.by (fun z w' => Gro w4 w' ∧ ∃ i : Nat, z = ((i : Int), ()) ∧ i ≤ (flA (ofP x)).length ∧ ∀ e ∈ (flA (ofP x)).take i, inF e = true) (fun z => (1000 - z.1).toNat) ⟨Gro.refl _, 0, rfl, by omega, by simp⟩ ?_
  rintro z w7 ⟨g, i, rfl, hi, hgood⟩ _
  have g4 := u1.trans u4
  have out : ∀ w', Gro w4 w' → okF (flA (ofP x)) = false → k ((false, ()), ()) w' := fun w' g h0 => by
    have := h w' (g4.trans g)
    rw [h0] at this; exact this
  refine brD (fun c => ?_) fun c => ?_
  · have hi' : i < (flA (ofP x)).length := by have c : (i : Int) < (s.2.1 : Int) := c; omega
    have he : (flA (ofP x))[i]? = some (flA (ofP x))[i] := List.getElem?_eq_getElem hi'
    generalize (flA (ofP x))[i] = e at he
    have hE7 := hE.gro g
    refine hE7.ix (z := (i : Int)) rfl he fun ad ha => hE7.ldN ha he ?_
    refine alK_by fun p10 w11 e10 k10 u11 => k10.sta _ rfl rfl fun w12 k12 u12 => k12.i1 1 rfl ?_
    have g12 := Gro.fresh g u11 u12 e10
    refine brD (fun c => out w12 g12 (okF_no he ?_)) fun c1 => k12.i1 1 rfl (k12.i1 2 rfl (brD (fun c => out w12 g12 (okF_no he ?_)) fun c2 => ⟨⟨g12, i + 1, ?_, by omega, ?_⟩, ?_⟩))
    · have c : e.2.1 < 0 := c
      cases hb : inF e
      · rfl
      · have := inF_iff.1 hb; omega
    · have c : e.2.1 > e.2.2 := c
      cases hb : inF e
      · rfl
      · have := inF_iff.1 hb; omega
    · show (IntKind.wrap .i64 ((i : Int) + 1), ()) = _
      rw [w64_in (by unfold I64; omega)]; rfl
    · have c1 : ¬ e.2.1 < 0 := c1
      have c2 : ¬ e.2.1 > e.2.2 := c2
      rw [List.take_add_one, he]
      intro y hy
      rcases List.mem_append.1 hy with hy | hy
      · exact hgood y hy
      · have : y = e := by simpa using hy
        subst this
        exact inF_iff.2 ⟨by omega, by omega⟩
    · show (1000 - IntKind.wrap .i64 ((i : Int) + 1)).toNat < (1000 - (i : Int)).toNat
      rw [w64_in (by unfold I64; omega)]; omega
  · have c : ¬ (i : Int) < (s.2.1 : Int) := c
    have hi' : i = (flA (ofP x)).length := by omega
    subst hi'
    rw [List.take_length] at hgood
    have := h w7 (g4.trans g)
    rw [okF_take hgood] at this
    have e : decide ((s.2.1 : Int) > 0) = true := decide_eq_true (by omega)
    show k ((decide ((s.2.1 : Int) > 0), ()), ()) w7
    rw [e]; exact this

end Go.Proofs.YtahojpppjpfjmaaGreat
