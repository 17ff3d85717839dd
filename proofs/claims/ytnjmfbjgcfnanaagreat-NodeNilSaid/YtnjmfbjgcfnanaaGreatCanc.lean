/- Contracts of layers 2, 5 and 23 that AnchorRuns needs: numbers that go round, an anchor's frame, the book. Conditions: none. -/
import Derived.Test.YtnjmfbjgcfnanaaGreatCfix
import Derived.Test.YtnjmfbjgcfnanaaGreatEngX
namespace Go.Proofs.YtnjmfbjgcfnanaaGreat
open Go.Eng Go
set_option linter.unusedVariables false
set_option linter.unusedSimpArgs false

abbrev A6 := Int × Int × Int × Int × Int × Int
abbrev K6 : List CK := [.i .i64, .i .u16, .i .i64, .i .u16, .i .i64, .i .i64]
def a6 (a : A6) : List Value := [.int .i64 a.1, .int .u16 a.2.1, .int .i64 a.2.2.1, .int .u16 a.2.2.2.1, .int .i64 a.2.2.2.2.1, .int .i64 a.2.2.2.2.2]
def t6 (a : A6) : Tvs K6 := (a.1, a.2.1, a.2.2.1, a.2.2.2.1, a.2.2.2.2.1, a.2.2.2.2.2, ())
abbrev v6 (a : A6) : Value := .agg #[.int .i64 a.1, .int .u16 a.2.1, .int .i64 a.2.2.1, .int .u16 a.2.2.2.1, .int .i64 a.2.2.2.2.1, .int .i64 a.2.2.2.2.2]

def nwr (a b : Int) : Bool := decide (IntKind.wrap .i16 (IntKind.wrap .u16 (a - b)) > 0)
theorem wrap_Newer.cl {a b : Int} {w : World} {k : TR [(false, [.b])] → World → Prop} (h : k ((nwr a b, ()), ()) w) : clS Tryz.prog F.wrap_Newer [.int .u16 a, .int .u16 b] w false [(false, [.b])] k := by
  refine wrap_Newer.ok ?_
  unfold wrap_Newer.wp
  exact h
theorem wrap_Next.cl {a : Int} {w : World} {k : TR [(false, [.i .u16])] → World → Prop} (h : k ((IntKind.wrap .u16 (a + 1), ()), ()) w) : clS Tryz.prog F.wrap_Next [.int .u16 a] w false [(false, [.i .u16])] k := by
  refine wrap_Next.ok ?_
  unfold wrap_Next.wp
  exact h

theorem frame_node.cl {n : Int} {w : World} {k : TR [(true, [.i .i64, .i .i64, .i .i64])] → World → Prop} (h : ∀ w', Gro w w' → k ((1, n, 63, ()), ()) w') : clS Tryz.prog F.frame_node [.int .i64 n] w false [(true, [.i .i64, .i .i64, .i .i64])] k := by
  refine frame_node.ok ?_
  unfold frame_node.wp
  exact alK_by fun p w2 e k1 u1 => k1.sta _ rfl rfl fun w3 k3 u3 => k3.ld3 (h w3 (Gro.fresh (Gro.refl _) u1 u3 e))
theorem frame_short.cl {n : Int} (hn : U16 n) {w : World} {k : TR [(true, [.i .i64, .i .i64, .i .i64])] → World → Prop} (h : ∀ w', Gro w w' → k ((2, n, 65535, ()), ()) w') : clS Tryz.prog F.frame_short [.int .u16 n] w false [(true, [.i .i64, .i .i64, .i .i64])] k := by
  refine frame_short.ok ?_
  unfold frame_short.wp
  rw [w64_in (by unfold U16 at hn; unfold I64; omega)]
  exact alK_by fun p w2 e k1 u1 => k1.sta _ rfl rfl fun w3 k3 u3 => k3.ld3 (h w3 (Gro.fresh (Gro.refl _) u1 u3 e))
theorem frame_time.cl {n : Int} {w : World} {k : TR [(true, [.i .i64, .i .i64, .i .i64])] → World → Prop} (h : ∀ w', Gro w w' → k ((8, n, 1125899906842624, ()), ()) w') : clS Tryz.prog F.frame_time [.int .i64 n] w false [(true, [.i .i64, .i .i64, .i .i64])] k := by
  refine frame_time.ok ?_
  unfold frame_time.wp
  exact alK_by fun p w2 e k1 u1 => k1.sta _ rfl rfl fun w3 k3 u3 => k3.ld3 (h w3 (Gro.fresh (Gro.refl _) u1 u3 e))

/-- a field is within its bounds -/
def inF (e : E3) : Bool := decide (0 ≤ e.2.1) && decide (e.2.1 ≤ e.2.2)
def okF (es : List E3) : Bool := es.all inF
def flA (a : A6) : List E3 := [(1, a.1, 63), (2, a.2.1, 65535), (1, a.2.2.1, 63), (2, a.2.2.2.1, 65535), (8, a.2.2.2.2.1, 1125899906842624), (8, a.2.2.2.2.2, 1125899906842624)]
def UA (a : A6) : Prop := U16 a.2.1 ∧ U16 a.2.2.2.1
theorem ents_new {w : World} {b n : Nat} {es : List E3} {cs : List Value} (h : Blk w b cs) (e : cs = flat3 es) (hn : n = es.length) : Ents w (some ⟨b, 0, none⟩, n, n) es := by
  subst e
  exact ⟨by rw [flat3_length, hn], fun _ => ⟨_, rfl, h.news⟩⟩

set_option maxRecDepth 20000 in
theorem frame_Anchor_fields.cl {a : A6} (hu : UA a) {w : World} {k : TR [(false, [.sl])] → World → Prop} (h : ∀ s w', Gro w w' → Ents w' s (flA a) → k ((s, ()), ()) w') : clS Tryz.prog F.frame_Anchor_fields [v6 a] w false [(false, [.sl])] k := by
  refine frame_Anchor_fields.ok ?_
  unfold frame_Anchor_fields.wp
  refine alK_by fun p1 w2 e1 k1 u1 => ?_
  rw [drK_eq]
  have k3 := k1.drew
  have hold : ∀ {w' : World}, Gro w2.drew w' → Hold [(16, (Addr.add ⟨p1, 0, none⟩ 5), (w2.drew.cell? (Addr.add ⟨p1, 0, none⟩ 5)).getD undef), (13, (Addr.add ⟨p1, 0, none⟩ 4), (w2.drew.cell? (Addr.add ⟨p1, 0, none⟩ 4)).getD undef), (10, (Addr.add ⟨p1, 0, none⟩ 3), (w2.drew.cell? (Addr.add ⟨p1, 0, none⟩ 3)).getD undef), (7, (Addr.add ⟨p1, 0, none⟩ 2), (w2.drew.cell? (Addr.add ⟨p1, 0, none⟩ 2)).getD undef), (4, (Addr.add ⟨p1, 0, none⟩ 1), (w2.drew.cell? (Addr.add ⟨p1, 0, none⟩ 1)).getD undef), (1, ⟨p1, 0, none⟩, (w2.drew.cell? ⟨p1, 0, none⟩).getD undef)] w' :=
    fun u => ⟨k3.hold u (fun x => x) 5 (by simp), k3.hold u (fun x => x) 4 (by simp), k3.hold u (fun x => x) 3 (by simp), k3.hold u (fun x => x) 2 (by simp), k3.hold u (fun x => x) 1 (by simp), k3.hold u (fun x => x) 0 (by simp), trivial⟩
  refine k3.c0 rfl (k3.c1 1 rfl (k3.c1 2 rfl (k3.c1 3 rfl (k3.c1 4 rfl (k3.c1 5 rfl ?_)))))
  refine frame_node.cl fun w11 u11 => ⟨hold u11, frame_short.cl hu.1 fun w13 u13 => ⟨hold (u11.trans u13), frame_node.cl fun w15 u15 => ⟨hold ((u11.trans u13).trans u15), ?_⟩⟩⟩
  have g15 := (u11.trans u13).trans u15
  refine frame_short.cl hu.2 fun w17 u17 => ⟨hold (g15.trans u17), frame_time.cl fun w19 u19 => ⟨hold ((g15.trans u17).trans u19), frame_time.cl fun w21 u21 => ⟨hold (((g15.trans u17).trans u19).trans u21), ?_⟩⟩⟩
  have g21 := ((g15.trans u17).trans u19).trans u21
  refine alK_by fun p22 w23 e22 k22 u22 => ⟨hold (g21.trans u22), h (some ⟨p22, 0, none⟩, 6, 6) w23 (((Upd.drew u1).trans g21 fun _ _ x => x).trans u22 fun _ _ x => x) (ents_new k22 rfl rfl)⟩

theorem frame_kind_of_frame_Anchor.cl {a : A6} {w : World} {k : TR [(false, [.i .u8])] → World → Prop} (h : k ((6, ()), ()) w) : clS Tryz.prog F.frame_kind [.iface T.frame_Anchor (v6 a)] w false [(false, [.i .u8])] k := by
  refine frame_kind_of_frame_Anchor.ok ?_
  unfold frame_kind_of_frame_Anchor.wp
  exact h

theorem inF_iff {e : E3} : inF e = true ↔ 0 ≤ e.2.1 ∧ e.2.1 ≤ e.2.2 := by unfold inF; simp
theorem okF_no {es : List E3} {i : Nat} {e : E3} (he : es[i]? = some e) (h : inF e = false) : okF es = false := by
  unfold okF
  rw [List.all_eq_false]
  exact ⟨e, List.mem_of_getElem? he, by rw [h]; simp⟩
theorem okF_take {es : List E3} (h : ∀ e ∈ es, inF e = true) : okF es = true := by unfold okF; rw [List.all_eq_true]; exact h

set_option maxRecDepth 20000 in
theorem frame_Good_of_frame_Anchor.cl {a : A6} (hu : UA a) {w : World} {k : TR [(false, [.b])] → World → Prop} (h : ∀ w', Gro w w' → k ((okF (flA a), ()), ()) w') : clS Tryz.prog F.frame_Good [.iface T.frame_Anchor (v6 a)] w false [(false, [.b])] k := by
  refine frame_Good_of_frame_Anchor.ok ?_
  unfold frame_Good_of_frame_Anchor.wp
  refine frame_kind_of_frame_Anchor.cl (brF rfl (frame_Anchor_fields.cl hu fun s w4 u4 hE => ?_))
  have hl := hE.len
  have h6 : (flA a).length = 6 := rfl
  refine LoopT.by (fun z w' => Gro w4 w' ∧ ∃ i : Nat, z = ((i : Int), ()) ∧ i ≤ (flA a).length ∧ ∀ e ∈ (flA a).take i, inF e = true) (fun z => (1000 - z.1).toNat) ⟨Gro.refl _, 0, rfl, by omega, by simp⟩ ?_
  rintro z w7 ⟨g, i, rfl, hi, hgood⟩ _
  have out : ∀ w', Gro w4 w' → okF (flA a) = false → k ((false, ()), ()) w' := fun w' g h0 => by
    have := h w' (u4.trans g)
    rw [h0] at this; exact this
  refine brD (fun c => ?_) fun c => ?_
  · have hi' : i < (flA a).length := by have c : (i : Int) < (s.2.1 : Int) := c; omega
    have he : (flA a)[i]? = some (flA a)[i] := List.getElem?_eq_getElem hi'
    generalize (flA a)[i] = e at he
    have hE7 := hE.gro g
    refine hE7.ix (z := (i : Int)) rfl he fun ad ha => hE7.ldN ha he ?_
    refine alK_by fun p10 w11 e10 k10 u11 => k10.sta _ rfl rfl fun w12 k12 u12 => k12.i1 1 rfl ?_
    have g12 := Gro.fresh g u11 u12 e10
    refine brD (fun c => out w12 g12 (okF_no he ?_)) fun c1 => k12.i1 1 rfl (k12.i1 2 rfl (brD (fun c => out w12 g12 (okF_no he ?_)) fun c2 => ⟨⟨g12, i + 1, ?_, by omega, ?_⟩, ?_⟩))
    · have c : e.2.1 < 0 := c
      cases hb : inF e
      · rfl
      · have := inF_iff.1 hb; omega
    · have c : e.2.1 > e.2.2 := c
      cases hb : inF e
      · rfl
      · have := inF_iff.1 hb; omega
    · show (IntKind.wrap .i64 ((i : Int) + 1), ()) = _
      rw [w64_in (by unfold I64; omega)]; rfl
    · have c1 : ¬ e.2.1 < 0 := c1
      have c2 : ¬ e.2.1 > e.2.2 := c2
      rw [List.take_add_one, he]
      intro x hx
      rcases List.mem_append.1 hx with hx | hx
      · exact hgood x hx
      · have : x = e := by simpa using hx
        subst this
        exact inF_iff.2 ⟨by omega, by omega⟩
    · show (1000 - IntKind.wrap .i64 ((i : Int) + 1)).toNat < (1000 - (i : Int)).toNat
      rw [w64_in (by unfold I64; omega)]; omega
  · have hi' : i = (flA a).length := by have c : ¬ (i : Int) < (s.2.1 : Int) := c; omega
    subst hi'
    rw [List.take_length] at hgood
    have := h w7 (u4.trans g)
    rw [okF_take hgood] at this
    exact this

/-! ### the book -/
def bk (has : Bool) (a : A6) : List Value := .bool has :: a6 a
set_option maxRecDepth 20000 in
theorem anchor_Book_Hear.cl {b : Nat} {has : Bool} {old a : A6} (hu : UA a) {w : World} (hB : Blk w b (bk has old)) {k : TR [(false, [.b])] → World → Prop}
    (h1 : okF (flA a) = true → (has = true → nwr a.2.1 old.2.1 = true) → ∀ w', Blk w' b (bk true a) → Upd (fun z => z = b) w w' → k ((true, ()), ()) w')
    (h0 : ¬ (okF (flA a) = true ∧ (has = true → nwr a.2.1 old.2.1 = true)) → ∀ w', Blk w' b (bk has old) → Gro w w' → k ((false, ()), ()) w') :
    clS Tryz.prog F.anchor_Book_Hear [.pointer (some ⟨b, 0, none⟩), v6 a] w false [(false, [.b])] k := by
  refine anchor_Book_Hear.ok ?_
  unfold anchor_Book_Hear.wp
  have lb := hB.lt
  refine alK_by fun p1 w2 e1 k1 u1 => ?_
  refine CutT.by (fun _ w' => Gro w w' ∧ Blk w' p1 (a6 a) ∧ okF (flA a) = true ∧ (has = true → nwr a.2.1 old.2.1 = true)) ?_ ?_
  · rw [drK_eq]
    have k3 := k1.drew
    refine brF rfl (k3.cA (t6 a) rfl (frame_Good_of_frame_Anchor.cl (a := a) hu fun w9 u9 => ⟨⟨k3.hold u9 (fun x => x) 0 (by simp), k3.hold u9 (fun x => x) 1 (by simp), k3.hold u9 (fun x => x) 2 (by simp), k3.hold u9 (fun x => x) 3 (by simp), k3.hold u9 (fun x => x) 4 (by simp), k3.hold u9 (fun x => x) 5 (by simp), trivial⟩, ?_⟩))
    have g9 : Gro w w9 := (Upd.drew u1).trans u9 fun _ _ x => x
    have B9 := hB.gro g9
    have k9 := k3.gro u9
    refine brNot (fun c => h0 (fun x => ?_) w9 B9 g9) fun c => ?_
    · have c : okF (flA a) = false := c
      rw [c] at x; exact absurd x.1 (by simp)
    have c : okF (flA a) = true := c
    rw [ncK_eq]
    refine B9.c0 rfl (brC (fun ch => ?_) fun ch => ⟨g9, k9, c, fun h => ?_⟩)
    · refine k9.c1 1 rfl ?_
      rw [ncK_eq]
      refine B9.c2 1 1 rfl (wrap_Newer.cl ⟨⟨B9.hold (Gro.refl _) (fun x => x) 0 (by simp [bk]), k3.hold u9 (fun x => x) 0 (by simp), k3.hold u9 (fun x => x) 1 (by simp), k3.hold u9 (fun x => x) 2 (by simp), k3.hold u9 (fun x => x) 3 (by simp), k3.hold u9 (fun x => x) 4 (by simp), k3.hold u9 (fun x => x) 5 (by simp), trivial⟩, ?_⟩)
      refine brNot (fun cn => h0 (fun x => ?_) w9 B9 g9) fun cn => ⟨g9, k9, c, fun _ => cn⟩
      have cn : nwr a.2.1 old.2.1 = false := cn
      have := x.2 ch
      rw [cn] at this; cases this
    · have ch : has = false := ch
      rw [ch] at h; cases h
  · rintro _ w5 ⟨g, k5, hg, hn⟩ _
    rw [drK_eq]
    have B5 := (hB.gro g).drew
    have k6 := k5.drew
    refine k6.cA (t6 a) rfl ?_
    rw [ncK_eq]
    refine B5.sN0 [.bool true] (by simp [bk]) rfl fun w20 k20 u20 => ⟨?_, ?_⟩
    · have hne : p1 ≠ b := by omega
      exact ⟨k6.hold u20 hne 0 (by simp [a6]), k6.hold u20 hne 1 (by simp [a6]), k6.hold u20 hne 2 (by simp [a6]), k6.hold u20 hne 3 (by simp [a6]), k6.hold u20 hne 4 (by simp [a6]), k6.hold u20 hne 5 (by simp [a6]), trivial⟩
    rw [ncK_eq]
    refine k20.sN 1 (a6 a) (by simp [bk, a6, splice]) rfl fun w22 k22 u22 => ⟨trivial, h1 hg hn w22 k22 ((Upd.of_gro (Upd.drew g)).trans (u20.trans u22 fun _ _ h => h) fun _ _ h => h)⟩
theorem ref02_Newer.cl {a b : Int} (ha : U16 a) (hb : U16 b) {w : World} {k : TR [(false, [.b])] → World → Prop} (h : k ((nwr a b, ()), ()) w) : clS Tryz.prog F.ref02_Newer [.int .u16 a, .int .u16 b] w false [(false, [.b])] k := by
  refine ref02_Newer.ok ?_
  unfold ref02_Newer.wp
  rw [nzK_eq (by decide)]
  unfold U16 at ha hb
  rw [w64_in (n := a) (by unfold I64; omega), w64_in (n := b) (by unfold I64; omega), w64_in (n := a + 65536) (by unfold I64; omega), w64_in (n := a + 65536 - b) (by unfold I64; omega), Int.tmod_eq_emod_of_nonneg (by omega)]
  have key : ∀ x : Bool, (x = true ↔ 1 ≤ (a + 65536 - b) % 65536 ∧ (a + 65536 - b) % 65536 ≤ 32767) → k ((x, ()), ()) w := fun x hx => by
    have : x = nwr a b := by
      rw [Bool.eq_iff_iff, hx]
      unfold nwr
      rw [decide_eq_true_iff, wi16, wu16]
      omega
    rw [this]; exact h
  refine brD (fun c => key _ ?_) fun c => key _ ?_
  · have c : (a + 65536 - b) % 65536 ≥ 1 := c
    rw [decide_eq_true_iff]; omega
  · have c : ¬ (a + 65536 - b) % 65536 ≥ 1 := c
    simp; omega
theorem ref02_Next.cl {a : Int} (ha : U16 a) {w : World} {k : TR [(false, [.i .u16])] → World → Prop} (h : k ((IntKind.wrap .u16 (a + 1), ()), ()) w) : clS Tryz.prog F.ref02_Next [.int .u16 a] w false [(false, [.i .u16])] k := by
  refine ref02_Next.ok ?_
  unfold ref02_Next.wp
  rw [nzK_eq (by decide)]
  unfold U16 at ha
  rw [w64_in (n := a) (by unfold I64; omega), w64_in (n := a + 1) (by unfold I64; omega), Int.tmod_eq_emod_of_nonneg (by omega)]
  have : IntKind.wrap .u16 ((a + 1) % 65536) = IntKind.wrap .u16 (a + 1) := by rw [wu16, wu16]; omega
  rw [this]; exact h
end Go.Proofs.YtnjmfbjgcfnanaaGreat
