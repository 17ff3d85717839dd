/- Contracts of the document's layers 5 (a Sync) and 16: a flood. Conditions: what an election keeps (EI). -/
import Derived.Test.YtahojpppjpfjmaaGreatCref15b
namespace Go.Proofs.YtahojpppjpfjmaaGreat
open Go.Eng Go
set_option linter.unusedVariables false
set_option linter.unusedSimpArgs false

/-! ### a Sync in the document's form -/
def plP (s : S6) : P14 := (1, s.1, 0, s.2.1, s.2.2.1, s.2.2.2.1, s.2.2.2.2.1, s.2.2.2.2.2, 0, 0, 0, 0, 0, 0, ())
def pl0 : P14 := (0, 0, 0, 0, 0, 0, 0, 0, 0, 0, 0, 0, 0, 0, ())
theorem syP_plP (s : S6) : syP (plP s) = s := rfl

set_option maxRecDepth 20000 in
theorem ref05_Fields.cl1 {x : P14} (h1 : x.1 = 1) {w : World} {k : TR [(false, [.sl])] → World → Prop} (h : ∀ s w', Gro w w' → Ents w' s (flS (syP x)) → k ((s, ()), ()) w') : clS Tryz.prog F.ref05_Fields [vP x] w false [(false, [.sl])] k := by
  refine ref05_Fields.ok ?_
  unfold ref05_Fields.wp
  refine alK_by fun p1 w2 e1 k1 u1 => ?_
  change Blk w2 p1 (encs K14 x) at k1
  refine k1.c1 1 rfl (alK_by fun p4 w5 e4 k4 u4 => k4.sta _ rfl rfl fun w6 k6 u6 => ?_)
  have l1 := k1.lt
  have q1 := (k1.gro u4).upd u6 (by omega)
  have g6 := Gro.fresh u1 u4 u6 e4
  refine q1.c0 rfl ?_
  rw [h1]
  refine brT rfl (k6.ld3 ?_)
  refine q1.c1 3 rfl (q1.c1 4 rfl (q1.c1 5 rfl (q1.c1 6 rfl (q1.c1 7 rfl ?_))))
  exact alK_by fun p44 w45 e44 k44 u44 => h (some ⟨p44, 0, none⟩, 6, 6) w45 (g6.trans u44) (ents_new k44 rfl rfl)

set_option maxRecDepth 20000 in
theorem ref05_Good.cl1 {x : P14} (h1 : x.1 = 1) {w : World} {k : TR [(false, [.b])] → World → Prop} (h : ∀ w', Gro w w' → k ((okF (flS (syP x)), ()), ()) w') : clS Tryz.prog F.ref05_Good [vP x] w false [(false, [.b])] k := by
  refine ref05_Good.ok ?_
  unfold ref05_Good.wp
  refine alK_by fun p1 w2 e1 k1 u1 => ?_
  change Blk w2 p1 (encs K14 x) at k1
  refine k1.cA x rfl (ref05_Fields.cl1 (x := x) h1 fun s w4 u4 hE => ?_)
  have hl := hE.len
  have hlen : (flS (syP x)).length = 6 := rfl
  refine LoopT.by (fun z w' => Gro w4 w' ∧ ∃ i : Nat, z = ((i : Int), ()) ∧ i ≤ (flS (syP x)).length ∧ ∀ e ∈ (flS (syP x)).take i, inF e = true) (fun z => (1000 - z.1).toNat) ⟨Gro.refl _, 0, rfl, by omega, by simp⟩ ?_
  rintro z w7 ⟨g, i, rfl, hi, hgood⟩ _
  have g4 := u1.trans u4
  have out : ∀ w', Gro w4 w' → okF (flS (syP x)) = false → k ((false, ()), ()) w' := fun w' g h0 => by
    have := h w' (g4.trans g)
    rw [h0] at this; exact this
  refine brD (fun c => ?_) fun c => ?_
  · have hi' : i < (flS (syP x)).length := by have c : (i : Int) < (s.2.1 : Int) := c; omega
    have he : (flS (syP x))[i]? = some (flS (syP x))[i] := List.getElem?_eq_getElem hi'
    generalize (flS (syP x))[i] = e at he
    have hE7 := hE.gro g
    refine hE7.ix (z := (i : Int)) rfl he fun ad ha => hE7.ldN ha he ?_
    refine alK_by fun p10 w11 e10 k10 u11 => k10.sta _ rfl rfl fun w12 k12 u12 => k12.i1 1 rfl ?_
    have g12 := Gro.fresh g u11 u12 e10
    refine brD (fun c => out w12 g12 (okF_no he ?_)) fun c1 => k12.i1 1 rfl (k12.i1 2 rfl (brD (fun c => out w12 g12 (okF_no he ?_)) fun c2 => ⟨⟨g12, i + 1, ?_, by omega, ?_⟩, ?_⟩))
    · have c : e.2.1 < 0 := c
      cases hb : inF e
      · rfl
      · have := inF_iff.1 hb; omega
    · have c : e.2.1 > e.2.2 := c
      cases hb : inF e
      · rfl
      · have := inF_iff.1 hb; omega
    · show (IntKind.wrap .i64 ((i : Int) + 1), ()) = _
      rw [w64_in (by unfold I64; omega)]; rfl
    · have c1 : ¬ e.2.1 < 0 := c1
      have c2 : ¬ e.2.1 > e.2.2 := c2
      rw [List.take_add_one, he]
      intro y hy
      rcases List.mem_append.1 hy with hy | hy
      · exact hgood y hy
      · have : y = e := by simpa using hy
        subst this
        exact inF_iff.2 ⟨by omega, by omega⟩
    · show (1000 - IntKind.wrap .i64 ((i : Int) + 1)).toNat < (1000 - (i : Int)).toNat
      rw [w64_in (by unfold I64; omega)]; omega
  · have c : ¬ (i : Int) < (s.2.1 : Int) := c
    have hi' : i = (flS (syP x)).length := by omega
    subst hi'
    rw [List.take_length] at hgood
    have := h w7 (g4.trans g)
    rw [okF_take hgood] at this
    have e : decide ((s.2.1 : Int) > 0) = true := decide_eq_true (by omega)
    show k ((decide ((s.2.1 : Int) > 0), ()), ()) w7
    rw [e]; exact this

theorem adF_len {es : List E3} {x : E3} (h : es.length ≤ 8) : (adF es x).length ≤ 8 := by
  unfold adF; split
  · exact addL_len h
  · simp
theorem adF_good {es : List E3} {x : E3} (h : ∀ y ∈ es, goodB y = true) (hx : goodB x = true) : ∀ y ∈ adF es x, goodB y = true := by
  unfold adF; split
  · exact addL_good h hx
  · intro y hy
    have : y = x := by simpa using hy
    subst this; exact hx
/-! ### the flood -/
def rfC (bE : Nat) (f : Fl) (s : Sl) : List Value := [.pointer (some ⟨bE, 0, none⟩), .int .i64 f.need, .int .i64 f.drift, .slice s.1 s.2.1 s.2.2, .int .i64 f.ll, .int .i64 f.lg, .int .i64 f.lh]
structure RW (w : World) (O : Nat → Prop) (br bE : Nat) (f : Fl) (e : El) (l : MkL) (es : List E3) : Prop where
  ex : ∃ s, Blk w br (rfC bE f s) ∧ Ents w s es ∧ (∀ a, s.1 = some a → a.block ≠ br ∧ a.block ≠ bE ∧ O a.block)
  elb : Blk w bE (r15 e l)
  ne : br ≠ bE
  obr : O br
  obE : O bE
  lt : ∀ z, O z → z < w.heap.size
  inv : EI e l
  len : es.length ≤ 8
  good : ∀ x ∈ es, goodB x = true
  need : 1 ≤ f.need
  me : f.me = e.me
theorem RW.upd {S O : Nat → Prop} {w w' : World} {br bE : Nat} {f : Fl} {e : El} {l : MkL} {es : List E3} (h : RW w O br bE f e l es) (u : Upd S w w') (hS : ∀ z, O z → ¬ S z) : RW w' O br bE f e l es := by
  obtain ⟨⟨s, h1, h2, h3⟩, elb, ne, obr, obE, lt, inv, len, good, need, me⟩ := h
  exact ⟨⟨s, h1.upd u (hS _ obr), Row.upd h2 u fun a ha => hS _ (h3 a ha).2.2, h3⟩, elb.upd u (hS _ obE), ne, obr, obE, fun z hz => Nat.lt_of_lt_of_le (lt z hz) u.size, inv, len, good, need, me⟩
theorem RW.gro {O : Nat → Prop} {w w' : World} {br bE : Nat} {f : Fl} {e : El} {l : MkL} {es : List E3} (h : RW w O br bE f e l es) (u : Gro w w') : RW w' O br bE f e l es := h.upd u fun _ _ x => x
theorem RW.hdr {O : Nat → Prop} {w : World} {br bE : Nat} {f : Fl} {e : El} {l : MkL} {es : List E3} (h : RW w O br bE f e l es) {k : Option Addr → Prop} (hk : k (some ⟨bE, 0, none⟩)) : ld1 .p ⟨br, 0, none⟩ w k := by
  obtain ⟨s, h1, _⟩ := h.ex
  exact h1.c0 (c := .p) (x := some ⟨bE, 0, none⟩) rfl hk

theorem ref16_Good.cl {me r0 r1 r2 r3 : Int} {w : World} {k : TR [(false, [.b])] → World → Prop} (h : k ((decide (0 ≤ me) && decide (me < 64) && flG r0 r1 r2 r3, ()), ()) w) : clS Tryz.prog F.ref16_Good [.int .i64 me, .int .i64 r0, .int .i64 r1, .int .i64 r2, .int .i64 r3] w false [(false, [.b])] k := by
  refine ref16_Good.ok ?_
  unfold ref16_Good.wp
  refine ref15_Good.cl ?_
  have key : ∀ b : Bool, (b = true ↔ (decide (0 ≤ me) && decide (me < 64) && elG r0 r1) = true ∧ 1 ≤ r2 ∧ r2 ≤ 8 ∧ 0 ≤ r3 ∧ r3 ≤ 10) → k ((b, ()), ()) w := fun b hb => by
    have : b = (decide (0 ≤ me) && decide (me < 64) && flG r0 r1 r2 r3) := by rw [Bool.eq_iff_iff, hb]; simp [flG_iff, and_assoc]
    rw [this]; exact h
  refine brC (fun c0 => brD (fun c1 => brD (fun c2 => brD (fun c3 => key _ ?_) fun c3 => key _ ?_) fun c2 => key _ ?_) fun c1 => key _ ?_) fun c0 => key _ ?_
  all_goals (have c0 : (decide (0 ≤ me) && decide (me < 64) && elG r0 r1) = _ := c0; rw [c0]; simp)
  all_goals omega

theorem ref16_New.cw {me r0 r1 r2 r3 boot : Int} (m0 : 0 ≤ me) (m1 : me < 64) (hg : flG r0 r1 r2 r3 = true) (hb : U16 boot) {w : World} {k : TR [(false, [.p])] → World → Prop}
    (h : ∀ O br bE w', RW w' O br bE ⟨me, r0, r1, r2, r3, 0, 0, 0⟩ ⟨me, r0, r1, boot, 0, -1, 0, 0⟩ [] [] → (∀ z, O z → w.heap.size ≤ z) → Gro w w' → k ((some ⟨br, 0, none⟩, ()), ()) w') :
    clS Tryz.prog F.ref16_New [.int .i64 me, .int .i64 r0, .int .i64 r1, .int .i64 r2, .int .i64 r3, .int .u16 boot] w false [(false, [.p])] k := by
  refine ref16_New.ok ?_
  unfold ref16_New.wp
  refine ref15_New.cl fun bE w2 lE kE u2 => alK_by fun br w4 er kr u4 => ?_
  have l1 := kE.lt
  have l2 := kr.lt
  refine h (fun z => z = br ∨ z = bE) br bE w4 ⟨⟨(none, 0, 0), kr, Ents.nil _, fun a h => by cases h⟩, kE.gro u4, by omega, .inl rfl, .inr rfl, ?_, EI.new m0 m1 (flG_iff.1 hg).1 hb, by simp, by simp, (flG_iff.1 hg).2.1, rfl⟩ ?_ (u2.trans u4)
  · rintro z (rfl | rfl)
    · exact l2
    · have := u4.size; omega
  · rintro z (rfl | rfl)
    · have := u2.size; omega
    · exact lE

set_option maxRecDepth 20000 in
theorem ref16_Flood_forget.cw {O : Nat → Prop} {br bE : Nat} {f : Fl} {e : El} {l : MkL} {es : List E3} {w : World} (hF : RW w O br bE f e l es) {k : TR [] → World → Prop}
    (h : ∀ w', RW w' O br bE (fgF f) e l [] → Upd (fun z => z = br) w w' → k () w') : clS Tryz.prog F.ref16_Flood_forget [.pointer (some ⟨br, 0, none⟩)] w true [] k := by
  refine ref16_Flood_forget.ok ?_
  unfold ref16_Flood_forget.wp
  obtain ⟨⟨s, h1, h2, h3⟩, elb, ne, obr, obE, lt, inv, len, good, need, me⟩ := hF
  rw [ncK_eq]
  refine h1.sN 3 _ (by simp [rfC]) rfl fun w2 k2 u2 => ?_
  rw [ncK_eq]
  refine k2.sN 4 _ (by simp [rfC, splice]) rfl fun w4 k4 u4 => ?_
  rw [ncK_eq]
  refine k4.sN 5 _ (by simp [rfC, splice]) rfl fun w6 k6 u6 => ?_
  rw [ncK_eq]
  refine k6.sN 6 _ (by simp [rfC, splice]) rfl fun w8 k8 u8 => ?_
  have U : Upd (fun z => z = br) w w8 := Upd.trans (Upd.trans (Upd.trans u2 u4 fun _ _ h => h) u6 fun _ _ h => h) u8 fun _ _ h => h
  exact h w8 ⟨⟨(none, 0, 0), k8, Ents.nil _, fun a h => by cases h⟩, elb.upd U (fun h => ne h.symm), ne, obr, obE, fun z hz => Nat.lt_of_lt_of_le (lt z hz) U.size, inv, by simp, by simp, need, me⟩ U

theorem ref16_Flood_Mine.cw {O : Nat → Prop} {br bE : Nat} {f : Fl} {e : El} {l : MkL} {es : List E3} {w : World} (hF : RW w O br bE f e l es) {k : TR [(false, [.b])] → World → Prop}
    (h : ∀ w', Gro w w' → k ((mine e, ()), ()) w') : clS Tryz.prog F.ref16_Flood_Mine [.pointer (some ⟨br, 0, none⟩)] w false [(false, [.b])] k := by
  refine ref16_Flood_Mine.ok ?_
  unfold ref16_Flood_Mine.wp
  rw [drK_eq, ncK_eq]
  have hD := hF.gro (Gro.drew w)
  refine hD.hdr ?_
  rw [ncK_eq]
  refine hD.elb.c1 5 (x := e.root) (r15_get (by decide)) ?_
  rw [ncK_eq]
  refine hD.hdr ?_
  rw [ncK_eq]
  exact hD.elb.c0 (x := e.me) (r15_get (by decide)) (h _ (Gro.drew w))

theorem ref16_Flood_Synced.cw {O : Nat → Prop} {br bE : Nat} {f : Fl} {e : El} {l : MkL} {es : List E3} {w : World} (hF : RW w O br bE f e l es) {k : TR [(false, [.b])] → World → Prop}
    (h : ∀ w', Gro w w' → k ((synF f e es.length, ()), ()) w') : clS Tryz.prog F.ref16_Flood_Synced [.pointer (some ⟨br, 0, none⟩)] w false [(false, [.b])] k := by
  refine ref16_Flood_Synced.ok ?_
  unfold ref16_Flood_Synced.wp
  rw [drK_eq]
  have hD := hF.gro (Gro.drew w)
  refine ref16_Flood_Mine.cw hD fun w3 u3 => ⟨trivial, ?_⟩
  have g3 := (Gro.drew w).trans u3
  unfold synF at h
  refine brC (fun c => ?_) fun c => ?_
  · have := h w3 g3
    rw [show (e.root == e.me) = true from c] at this; exact this
  · have h := h w3 g3
    rw [show (e.root == e.me) = false from c] at h
    obtain ⟨s, h1, h2, h3⟩ := (hF.gro g3).ex
    rw [ncK_eq]
    refine h1.c1 3 (c := .sl) (x := s) rfl ?_
    rw [ncK_eq]
    refine h1.c1 1 (x := f.need) rfl ?_
    dsimp only
    rw [h2.len]; exact h

theorem ref16_time.cl {t : Int} {w : World} {k : TR [(false, [.b])] → World → Prop} (h : k ((inT t, ()), ()) w) : clS Tryz.prog F.ref16_time [.int .i64 t] w false [(false, [.b])] k := by
  refine ref16_time.ok ?_
  unfold ref16_time.wp
  unfold inT at h
  refine brD (fun c => ?_) fun c => ?_
  · have c : t ≥ 0 := c
    rw [decide_eq_true (show 0 ≤ t by omega), Bool.true_and] at h; exact h
  · have c : ¬ t ≥ 0 := c
    rw [decide_eq_false (show ¬ 0 ≤ t by omega), Bool.false_and] at h; exact h

set_option maxRecDepth 20000 in
set_option maxHeartbeats 1000000 in
theorem ref16_Flood_Hear.cw {O : Nat → Prop} {br bE : Nat} {f : Fl} {e : El} {l : MkL} {es : List E3} {p : P14} (hp : UP p) {loc : Int} {w : World} (hF : RW w O br bE f e l es) {k : TR [(false, [.i .i64])] → World → Prop}
    (h0 : hrF e l (syP p) loc = 0 → ∀ w', Gro w w' → k ((0, ()), ()) w')
    (h1 : ∀ c, hrF e l (syP p) loc = c → c ≠ 0 → ∀ w' O', RW w' O' br bE (hfF f (syP p) loc) (hrE e (syP p).2.1) (mset l (syP p).2.1 (mrk (syP p))) (esF c es (syP p) loc) → Nx O w O' w' → k ((c, ()), ()) w') :
    clS Tryz.prog F.ref16_Flood_Hear [.pointer (some ⟨br, 0, none⟩), vP p, .int .i64 loc] w false [(false, [.i .i64])] k := by
  refine ref16_Flood_Hear.ok ?_
  unfold ref16_Flood_Hear.wp
  refine alK_by fun p1 w2 e1 k1 u1 => ?_
  change Blk w2 p1 (encs K14 p) at k1
  have l1 := k1.lt
  obtain ⟨s, hs⟩ : ∃ s : S6, s = syP p := ⟨_, rfl⟩
  rw [← hs] at h0 h1
  have s4 : p.2.2.2.2.2.2.1 = s.2.2.2.2.1 := by rw [hs]; rfl
  have s5 : p.2.2.2.2.2.2.2.1 = s.2.2.2.2.2 := by rw [hs]; rfl
  have bad : ∀ w', Gro w w' → ¬ (0 ≤ s.2.2.2.2.1 ∧ s.2.2.2.2.1 < 63 ∧ 0 ≤ loc ∧ loc ≤ 1125899906842624 ∧ 0 ≤ s.2.2.2.2.2 ∧ s.2.2.2.2.2 ≤ 1125899906842624) → k ((0, ()), ()) w' := fun w' g h => h0 (by
    unfold hrF
    cases ho : okH s loc
    · rfl
    · exact absurd (okH_iff.1 ho) h) w' g
  refine k1.c1 6 (x := s.2.2.2.2.1) (by rw [← s4]; rfl) (brD (fun c => bad w2 u1 (by have c : s.2.2.2.2.1 < 0 := c; omega)) fun c1 => k1.c1 6 (x := s.2.2.2.2.1) (by rw [← s4]; rfl) (brD (fun c => bad w2 u1 (by have c : s.2.2.2.2.1 > 62 := c; omega)) fun c2 => ?_))
  have c1 : ¬ s.2.2.2.2.1 < 0 := c1
  have c2 : ¬ s.2.2.2.2.1 > 62 := c2
  refine ref16_time.cl (brNot (fun c => bad w2 u1 fun h => ?_) fun c3 => ?_)
  · have c : inT loc = false := c
    rw [inT_iff.2 ⟨h.2.2.1, h.2.2.2.1⟩] at c; cases c
  have c3 := inT_iff.1 (show inT loc = true from c3)
  refine k1.c1 7 (x := s.2.2.2.2.2) (by rw [← s5]; rfl) (ref16_time.cl (brNot (fun c => bad w2 u1 fun h => ?_) fun c4 => ?_))
  · have c : inT s.2.2.2.2.2 = false := c
    rw [inT_iff.2 ⟨h.2.2.2.2.1, h.2.2.2.2.2⟩] at c; cases c
  have c4 := inT_iff.1 (show inT s.2.2.2.2.2 = true from c4)
  have ok : okH s loc = true := okH_iff.2 ⟨by omega, by omega, c3.1, c3.2, c4.1, c4.2⟩
  have hN : hrF e l s loc = hrN e l s.2.1 (mrk s) := by unfold hrF; rw [if_pos ok]
  have hx := entF_good ok
  have hmu : U16 (mrk s).1 ∧ U16 (mrk s).2.1 := by rw [hs]; exact hp
  rw [drK_eq, ncK_eq]
  have F10 := (hF.gro u1).gro (Gro.drew _)
  have g10 : Gro w w2.drew := u1.trans (Gro.drew _)
  have k10 := k1.drew
  refine F10.hdr (k10.c1 3 (x := s.2.1) (by rw [hs]; rfl) (k10.c1 4 (c := .i .u16) (x := (mrk s).1) (by rw [hs]; rfl) (k10.c1 5 (c := .i .u16) (x := (mrk s).2.1) (by rw [hs]; rfl) ?_)))
  have np1 : ¬ O p1 := fun h => by have := hF.lt p1 h; omega
  obtain ⟨⟨sl, f1, f2, f3⟩, elb, fne, obr, obE, flt, inv, flen, fgood, fneed, fme⟩ := F10
  refine ref15_Elect_Hear.cl elb inv hmu (fun hz w17 u17 => ⟨trivial, brT rfl (h0 (hN.trans hz) w17 (g10.trans u17))⟩) fun c hc hc0 w17 E17 u17 => ⟨trivial, brF (beq_eq_false_iff_ne.2 hc0) ?_⟩
  have hc' : hrF e l s loc = c := hN.trans hc
  have hmay := hrN_may (by rw [hc]; exact hc0)
  have F17 : RW w17 O br bE f (hrE e s.2.1) (mset l s.2.1 (mrk s)) es :=
    ⟨⟨sl, f1.upd u17 fne, Row.upd f2 u17 fun a ha => (f3 a ha).2.1, f3⟩, E17, fne, obr, obE, fun z hz => Nat.lt_of_lt_of_le (flt z hz) u17.size, inv.hear hmay.1 hmay.2 hmu, flen, fgood, fneed, fme⟩
  have X17 : Nx O w O w17 := Nx.pre g10 ⟨u17.mono fun z h => by rw [h]; exact obE, fun z hz => .inl hz⟩
  have k17 := k10.upd u17 (fun h => by rw [h] at np1; exact np1 obE)
  refine CutT.by (fun _ w' => ∃ f', f'.me = f.me ∧ f'.tmo = f.tmo ∧ f'.ign = f.ign ∧ f'.need = f.need ∧ f'.drift = f.drift ∧ RW w' O br bE f' (hrE e s.2.1) (mset l s.2.1 (mrk s)) (if c = 2 then [] else es) ∧ Nx O w O w' ∧ Blk w' p1 (encs K14 p)) ?_ ?_
  · refine brE (fun c2 => ?_) fun c2 => ?_
    · have c2 : c = 2 := c2
      refine ref16_Flood_forget.cw F17 fun w22 F22 u22 => ⟨fgF f, rfl, rfl, rfl, rfl, rfl, by rw [if_pos c2]; exact F22, X17.trans ⟨u22.mono fun z h => by rw [h]; exact obr, fun z hz => .inl hz⟩, k17.upd u22 (fun h => by rw [h] at np1; exact np1 obr)⟩
    · have c2 : c ≠ 2 := c2
      exact ⟨f, rfl, rfl, rfl, rfl, rfl, by rw [if_neg c2]; exact F17, X17, k17⟩
  rintro _ w20 ⟨f', q1, q2, q3, q4, q5, F20, X20, k20⟩ _
  clear F17 X17 k17 f1 f2 f3
  refine k20.c1 7 (x := s.2.2.2.2.2) (by rw [← s5]; rfl) (k20.c1 6 (x := s.2.2.2.2.1) (by rw [← s4]; rfl) ?_)
  refine alK_by fun p25 w26 e25 k25 u26 => k25.sta _ rfl rfl fun w27 k27 u27 => ?_
  have g27 : Gro w20 w27 := Gro.fresh (Gro.refl _) u26 u27 e25
  change Blk w27 p25 (encs [.i .i64, .i .i64, .i .i64] ((entF s loc).1, (entF s loc).2.1, (entF s loc).2.2, ())) at k27
  rw [drK_eq, ncK_eq]
  have F28 := (F20.gro g27).gro (Gro.drew _)
  have g28 : Gro w20 w27.drew := g27.trans (Gro.drew _)
  obtain ⟨⟨sl, f1, f2, f3⟩, elb8, _, _, _, flt8, inv8, flen8, fgood8, fneed8, fme8⟩ := F28
  refine f1.c1 3 (c := .sl) (x := sl) rfl (k27.drew.ld3 ?_)
  refine ref12_Add.cl (e := entF s loc) f2 flen8 fun s' w33 u33 E33 hs' => ⟨trivial, ?_⟩
  have lbr := f1.lt
  have lbE := elb8.lt
  have own : ∀ a, s'.1 = some a → (a.block ≠ br ∧ a.block ≠ bE ∧ (O a.block ∨ w20.heap.size ≤ a.block)) ∧ a.block < w33.heap.size := fun a ha => by
    rcases hs' with rfl | h
    · exact ⟨⟨(f3 a ha).1, (f3 a ha).2.1, .inl (f3 a ha).2.2⟩, Nat.lt_of_lt_of_le (flt8 _ (f3 a ha).2.2) u33.size⟩
    · have := h a ha; have := g28.size; exact ⟨⟨by omega, by omega, .inr (by omega)⟩, by omega⟩
  refine CutT.by (fun z w' => Gro w33 w' ∧ Ents w' z.1 (esF c es s loc) ∧ (∀ a, z.1.1 = some a → (a.block ≠ br ∧ a.block ≠ bE ∧ (O a.block ∨ w20.heap.size ≤ a.block)) ∧ a.block < w'.heap.size)) ?_ ?_
  · refine brN (fun cn => ?_) fun cn => ?_
    · have cn : addN (if c = 2 then [] else es) (entF s loc) ≠ 0 := cn
      refine (k27.drew.gro u33).ld3 (ref12_Add.cl (s := (none, 0, 0)) (es := []) (e := entF s loc) (Ents.nil _) (by simp) fun s2 w39 u39 E39 hs2 => ⟨u39, ?_, fun a ha => ?_⟩)
      · unfold esF adF; rw [if_neg cn]; rw [adF_one hx] at E39; exact E39
      · rcases hs2 with h | h
        · have ha : s2.1 = some a := ha
          rw [h] at ha; cases ha
        · have := h a ha; have := g28.size; have := u33.size; exact ⟨⟨by omega, by omega, .inr (by omega)⟩, by omega⟩
    · have cn : addN (if c = 2 then [] else es) (entF s loc) = 0 := cn
      refine ⟨Gro.refl _, ?_, own⟩
      unfold esF adF; rw [if_pos cn]; exact E33
  rintro ⟨sz, _⟩ w36 ⟨g36, E36, own36⟩ _
  dsimp only at E36 own36
  have f36 := (g28.trans u33).trans g36
  have b36 := (f1.gro u33).gro g36
  have k36 := k20.gro f36
  have np : p1 ≠ br := fun h => by rw [h] at np1; exact np1 obr
  rw [ncK_eq]
  refine b36.sN 3 _ (by simp [rfC]) rfl fun w41 k41 u41 => ?_
  rw [ncK_eq]
  refine k41.sN 4 _ (by simp [rfC, splice]) rfl fun w43 k43 u43 => ?_
  refine ((k36.upd u41 np).upd u43 np).c1 7 (x := s.2.2.2.2.2) (by rw [← s5]; rfl) ?_
  rw [ncK_eq]
  refine k43.sN 5 _ (by simp [rfC, splice]) rfl fun w46 k46 u46 => ?_
  refine (((k36.upd u41 np).upd u43 np).upd u46 np).c1 6 (x := s.2.2.2.2.1) (by rw [← s4]; rfl) ?_
  rw [ncK_eq]
  refine k46.sN 6 _ (by simp [rfC, splice]) rfl fun w49 k49 u49 => ?_
  have U : Upd (fun z => z = br) w36 w49 := Upd.trans (Upd.trans (Upd.trans u41 u43 fun _ _ h => h) u46 fun _ _ h => h) u49 fun _ _ h => h
  have efl : hfF f s loc = { f' with ll := loc, lg := s.2.2.2.2.2, lh := IntKind.wrap .i64 (s.2.2.2.2.1 + 1) } := by
    unfold hfF; rw [q1, q2, q3, q4, q5]
  refine h1 c hc' hc0 w49 (fun z => O z ∨ ∃ a, sz.1 = some a ∧ a.block = z) ⟨⟨sz, ?_, Row.upd E36 U fun a ha => (own36 a ha).1.1, fun a ha => ⟨(own36 a ha).1.1, (own36 a ha).1.2.1, .inr ⟨a, ha, rfl⟩⟩⟩, (F20.elb.gro f36).upd U (fun h => fne h.symm), fne, .inl obr, .inl obE, ?_, F20.inv, ?_, ?_, ?_, ?_⟩ ⟨?_, ?_⟩
  · rw [efl]; exact k49
  · rintro z (hz | ⟨a, ha, rfl⟩)
    · exact Nat.lt_of_lt_of_le (F20.lt z hz) (Nat.le_trans f36.size U.size)
    · exact Nat.lt_of_lt_of_le (own36 a ha).2 U.size
  · exact adF_len F20.len
  · exact adF_good F20.good hx
  · rw [efl]; exact F20.need
  · exact fme
  · refine Upd.trans (X20.u.gro f36) U fun i hi h => by rw [h]; exact obr
  · rintro z (hz | ⟨a, ha, rfl⟩)
    · exact .inl hz
    · rcases (own36 a ha).1.2.2 with h | h
      · exact .inl h
      · exact .inr (Nat.le_trans X20.u.size h)
end Go.Proofs.YtahojpppjpfjmaaGreat
