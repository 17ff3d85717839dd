/- Contracts of the document's books of anchors (ref23), of nil books; the law AnchorDoes. Conditions: what an argument is. -/
import Derived.Test.YtimdngcmbmamdaaCancB
namespace Go.Proofs.Ytimdngcmbmamdaa
open Go.Eng Go
set_option linter.unusedVariables false
set_option linter.unusedSimpArgs false

abbrev R6E : List (Bool × List CK) := [(true, K6), (false, [.i .i64])]
abbrev R6B : List (Bool × List CK) := [(true, K6), (false, [.b])]
abbrev zA : A6 := (0, 0, 0, 0, 0, 0)
/-- an anchor as the document has it -/
def plP (a : A6) : P14 := (6, a.1, 0, a.2.2.1, a.2.2.2.1, a.2.1, 0, 0, 0, 0, 0, 0, a.2.2.2.2.1, a.2.2.2.2.2, ())
def zP : P14 := (0, 0, 0, 0, 0, 0, 0, 0, 0, 0, 0, 0, 0, 0, ())
def rA (has : Bool) (a : A6) : P14 := if has = true then plP a else zP
def Bk (has : Bool) (a : A6) : Prop := (has = true → okF (flA a) = true) ∧ (has = false → a = zA) ∧ UA a
theorem Bk.yes {a : A6} (h : okF (flA a) = true) (hu : UA a) : Bk true a := ⟨fun _ => h, (fun h => by cases h), hu⟩
theorem Bk.no : Bk false zA := ⟨(fun h => by cases h), fun _ => rfl, by unfold UA U16; decide⟩
theorem ofP_plP (a : A6) : ofP (plP a) = a := rfl
theorem ofP_rA {has : Bool} {a : A6} (h : Bk has a) : ofP (rA has a) = a := by
  cases has
  · rw [h.2.1 rfl]; rfl
  · rfl
theorem kind_rA (has : Bool) (a : A6) : ((rA has a).1 = 6) = (has = true) := by cases has <;> simp [rA, zP, plP]
theorem Blk.ldP {w : World} {b : Nat} {x : P14} (h : Blk w b (encs K14 x)) {k : Tvs K14 → Prop} (hk : k x) : ldN K14 ⟨b, 0, none⟩ 0 w k := h.cA (cs := K14) x rfl hk
theorem Blk.ldA {w : World} {b : Nat} {x : A6} (h : Blk w b (a6 x)) {k : Tvs K6 → Prop} (hk : k (t6 x)) : ldN K6 ⟨b, 0, none⟩ 0 w k := h.cA (t6 x) rfl hk
theorem stP {w : World} {b : Nat} {x : P14} (y : P14) (h : Blk w b (encs K14 x)) {k : World → Prop} (hk : ∀ w', Blk w' b (encs K14 y) → Upd (fun z => z = b) w w' → k w') : stN (encs K14 y) ⟨b, 0, none⟩ 0 w k := h.sta _ rfl rfl hk
theorem stA {w : World} {b : Nat} {x : A6} (y : A6) (h : Blk w b (a6 x)) {k : World → Prop} (hk : ∀ w', Blk w' b (a6 y) → Upd (fun z => z = b) w w' → k w') : stN (a6 y) ⟨b, 0, none⟩ 0 w k := h.sta _ rfl rfl hk

theorem anchor_Book_Drop.nil {w : World} {k : TR [] → World → Prop} (hk : k () w) : clS Try.prog F.anchor_Book_Drop [.pointer none] w true [] k := by
  refine anchor_Book_Drop.ok ?_
  unfold anchor_Book_Drop.wp
  exact hk
theorem anchor_Book_Drop.cl {b : Nat} {has : Bool} {a : A6} {w : World} (hB : Blk w b (bk has a)) {k : TR [] → World → Prop} (hk : ∀ w', Blk w' b (bk false zA) → Upd (fun z => z = b) w w' → k () w') : clS Try.prog F.anchor_Book_Drop [.pointer (some ⟨b, 0, none⟩)] w true [] k := by
  refine anchor_Book_Drop.ok ?_
  unfold anchor_Book_Drop.wp
  refine brT rfl ?_
  rw [ncK_eq]
  exact hB.sta _ rfl rfl fun w2 k2 u2 => hk w2 k2 u2
theorem anchor_Book_Has.nil {w : World} {k : TR R6B → World → Prop} (hk : ∀ w', Gro w w' → k (t6 zA, (false, ()), ()) w') : clS Try.prog F.anchor_Book_Has [.pointer none] w true R6B k := by
  refine anchor_Book_Has.ok ?_
  unfold anchor_Book_Has.wp
  refine alK_by fun p1 w2 e1 k1 u1 => brT rfl (stA (x := zA) zA k1 fun w3 k3 u3 => Blk.ldA k3 (hk w3 (Gro.fresh (Gro.refl _) u1 u3 e1)))
theorem anchor_Book_Has.cl {b : Nat} {has : Bool} {a : A6} {w : World} (hB : Blk w b (bk has a)) {k : TR R6B → World → Prop} (hk : ∀ w', Gro w w' → k (t6 a, (has, ()), ()) w') : clS Try.prog F.anchor_Book_Has [.pointer (some ⟨b, 0, none⟩)] w true R6B k := by
  refine anchor_Book_Has.ok ?_
  unfold anchor_Book_Has.wp
  have lb := hB.lt
  refine alK_by fun p1 w2 e1 k1 u1 => brF rfl ?_
  rw [drK_eq, ncK_eq]
  have B := (hB.gro u1).drew
  have K := k1.drew
  refine B.cN 1 (t6 a) rfl ?_
  rw [ncK_eq]
  refine B.c0 (c := .b) (x := has) rfl (stA (x := zA) a K fun w10 k10 u10 => ⟨⟨B.hold u10 (by omega) 0 (by simp [bk]), trivial⟩, Blk.ldA k10 (hk w10 (Upd.trans (u1.trans (Gro.drew _)) u10 fun i hi h => by omega))⟩)
theorem anchor_Book_Hear.nil {a : A6} {w : World} {k : TR RB1 → World → Prop} (hk : ∀ w', Gro w w' → k ((false, ()), ()) w') : clS Try.prog F.anchor_Book_Hear [.pointer none, v6 a] w false RB1 k := by
  refine anchor_Book_Hear.ok ?_
  unfold anchor_Book_Hear.wp
  refine alK_by fun p1 w2 e1 k1 u1 => CutT.by (fun _ _ => False) ?_ fun _ _ h => h.elim
  rw [drK_eq]
  exact brT rfl (hk _ (u1.trans (Gro.drew _)))
theorem anchor_Book_Make.nil {me t0 t1 t2 t3 t4 tai : Int} {w : World} {k : TR R6E → World → Prop} (hk : ∀ w', Gro w w' → k (t6 zA, (2, ()), ()) w') :
    clS Try.prog F.anchor_Book_Make [.pointer none, .int .i64 me, .agg #[.int .i64 t0, .int .i64 t1, .int .i64 t2, .int .u16 t3, .int .i64 t4], .int .i64 tai] w true R6E k := by
  refine anchor_Book_Make.ok ?_
  unfold anchor_Book_Make.wp
  refine alK_by fun p1 w2 e1 k1 u1 => alK_by fun p3 w4 e3 k3 u3 => brT rfl (stA (x := zA) zA k3 fun w5 k5 u5 => Blk.ldA k5 (hk w5 (Gro.fresh u1 u3 u5 e3)))
/-- the anchor that is made next -/
def nxA (old : A6) (me root boot global tai : Int) : A6 := (me, IntKind.wrap .u16 (old.2.1 + 1), root, boot, global, tai)
theorem nxA_UA {old : A6} {me root boot global tai : Int} (h : U16 boot) : UA (nxA old me root boot global tai) := ⟨by show U16 (IntKind.wrap .u16 _); rw [wu16]; unfold U16; omega, h⟩
set_option maxRecDepth 20000 in
set_option maxHeartbeats 1000000 in
theorem anchor_Book_Make.bad {b : Nat} {has : Bool} {old : A6} {me tai t0 t1 t2 t3 t4 : Int} (h3 : U16 t3) {w : World} (hB : Blk w b (bk has old)) (hg : okF (flA (nxA old me t2 t3 t0 tai)) = false)
    {k : TR R6E → World → Prop} (hk : ∀ w', Gro w w' → k (t6 zA, (1, ()), ()) w') :
    clS Try.prog F.anchor_Book_Make [.pointer (some ⟨b, 0, none⟩), .int .i64 me, .agg #[.int .i64 t0, .int .i64 t1, .int .i64 t2, .int .u16 t3, .int .i64 t4], .int .i64 tai] w true R6E k := by
  refine anchor_Book_Make.ok ?_
  unfold anchor_Book_Make.wp
  have lb := hB.lt
  have hU : UA (nxA old me t2 t3 t0 tai) := nxA_UA h3
  obtain ⟨a, ea⟩ : ∃ a : A6, a = nxA old me t2 t3 t0 tai := ⟨_, rfl⟩
  refine alK_by fun p1 w2 e1 k1 u1 => alK_by fun p3 w4 e3 k3 u3 => brF rfl ?_
  have g4 := u1.trans u3
  have B4 := (hB.gro g4).drew
  have q1 := (k1.gro u3).drew
  have s1 := u1.size
  refine CutT.by (fun z w' => Gro w4 w' ∧ ∃ pb, z.1 = ⟨pb, 0, none⟩ ∧ Blk w' pb (a6 a)) ?_ ?_
  · rw [drK_eq, ncK_eq]
    refine B4.c2 1 1 rfl (q1.c1 2 rfl (q1.c2 2 1 rfl (q1.c0 rfl ⟨?_, ?_⟩)))
    · refine wrap_Next.cl ⟨⟨q1.hold (Gro.refl _) (fun x => x) 0 (by simp), q1.hold2 (Gro.refl _) (fun x => x) 2 1 (by simp), q1.hold (Gro.refl _) (fun x => x) 2 (by simp), B4.hold2 (Gro.refl _) (fun x => x) 1 1 (by simp [bk, a6]), trivial⟩, ?_⟩
      refine alK_by fun p18 w19 e18 k18 u18 => ⟨⟨q1.hold u18 (fun x => x) 0 (by simp), q1.hold2 u18 (fun x => x) 2 1 (by simp), q1.hold u18 (fun x => x) 2 (by simp), B4.hold2 u18 (fun x => x) 1 1 (by simp [bk, a6]), trivial⟩, ?_⟩
      have e18 : w4.heap.size = p18 := e18
      subst ea
      refine k18.sta _ rfl rfl fun w20 k20 u20 => ⟨trivial, Upd.trans ((Gro.drew w4).trans u18) u20 fun i hi h => by omega, p18, rfl, k20⟩
    · refine alK_by fun p18 w19 e18 k18 u18 => ⟨⟨q1.hold u18 (fun x => x) 0 (by simp), q1.hold2 u18 (fun x => x) 2 1 (by simp), q1.hold u18 (fun x => x) 2 (by simp), B4.hold2 u18 (fun x => x) 1 1 (by simp [bk, a6]), trivial⟩, ?_⟩
      have e18 : w4.heap.size = p18 := e18
      refine wrap_Next.cl ⟨⟨q1.hold u18 (fun x => x) 0 (by simp), q1.hold2 u18 (fun x => x) 2 1 (by simp), q1.hold u18 (fun x => x) 2 (by simp), trivial⟩, ?_⟩
      subst ea
      refine k18.sta _ rfl rfl fun w20 k20 u20 => ⟨trivial, Upd.trans ((Gro.drew w4).trans u18) u20 fun i hi h => by omega, p18, rfl, k20⟩
  · rintro ⟨z, _⟩ w9 ⟨g9, pb, hz, kb⟩ _
    dsimp only at hz
    subst hz
    rw [← ea] at hg hU
    refine Blk.ldA kb (frame_Good_of_frame_Anchor.cl (a := a) hU fun w28 u28 => brNot (fun _ => stA (x := zA) zA ((k3.gro g9).gro u28) fun w29 k29 u29 => Blk.ldA k29 (hk w29 (Upd.trans ((g4.trans g9).trans u28) u29 fun i hi h => by omega))) fun c => ?_)
    have c : okF (flA a) = true := c
    rw [c] at hg; cases hg

/-! ### the document's -/
set_option maxRecDepth 20000 in
theorem ref05_Only.cl6 {x : P14} (h6 : x.1 = 6) {w : World} {k : TR [(true, K14)] → World → Prop} (hk : ∀ w', Gro w w' → k (plP (ofP x), ()) w') : clS Try.prog F.ref05_Only [vP x] w false [(true, K14)] k := by
  refine ref05_Only.ok ?_
  unfold ref05_Only.wp
  refine alK_by fun p1 w2 e1 k1 u1 => alK_by fun p3 w4 e3 k3 u3 => ?_
  change Blk w2 p1 (encs K14 x) at k1
  have q := k1.gro u3
  have hne : ∀ n : Int, n ≠ 6 → (x.1 == n) = false := fun n hn => beq_eq_false_iff_ne.2 (by rw [h6]; exact fun e => hn e.symm)
  refine q.c0 (c := .i .i64) (x := x.1) rfl ?_
  refine brF (hne 1 (by decide)) ?_
  refine brF (hne 2 (by decide)) ?_
  refine brF (hne 3 (by decide)) ?_
  refine brF (hne 4 (by decide)) ?_
  refine brF (hne 5 (by decide)) ?_
  refine brT (by rw [h6]; rfl) ?_
  refine q.c1 1 rfl (q.c1 5 rfl (q.c1 3 rfl (q.c1 4 rfl (q.c1 12 rfl (q.c1 13 rfl ?_)))))
  exact stP (x := zP) (plP (ofP x)) k3 fun w42 k42 u42 => Blk.ldP k42 (hk w42 (Gro.fresh u1 u3 u42 e3))
theorem ref23_Book_Tai.v {b : Nat} {has : Bool} {a : A6} {root boot t : Int} (hI : Bk has a) {w : World} (hB : Blk w b (encs K14 (rA has a))) {k : TR RIII → World → Prop}
    (hk : ∀ w', Gro w w' → k (((taiV has a root boot t).1, ()), ((taiV has a root boot t).2.1, ()), ((taiV has a root boot t).2.2, ()), ()) w') :
    clS Try.prog F.ref23_Book_Tai [.pointer (some ⟨b, 0, none⟩), .int .i64 root, .int .u16 boot, .int .i64 t] w true RIII k := by
  refine ref23_Book_Tai.ok ?_
  unfold ref23_Book_Tai.wp
  have out : ∀ {x : Int × Int × Int}, taiV has a root boot t = x → ∀ {w'}, Gro w w' → k ((x.1, ()), (x.2.1, ()), (x.2.2, ()), ()) w' := fun e w' g => by subst e; exact hk w' g
  rw [ncK_eq]
  cases has
  · refine hB.c0 (c := .i .i64) (x := 0) rfl (brT rfl (out (x := (0, 0, 7)) rfl (Gro.refl _)))
  have hB : Blk w b (encs K14 (plP a)) := hB
  obtain ⟨r1, r2, r3, r4⟩ := okF_rng (hI.1 rfl)
  have nh : ¬ (true = false) := by simp
  refine hB.c0 (c := .i .i64) (x := 6) rfl (brF rfl ?_)
  rw [ncK_eq]
  refine hB.c1 3 (c := .i .i64) (x := a.2.2.1) rfl (brN (fun c => out (x := (0, 0, 9)) (by unfold taiV; rw [if_neg nh, if_pos (.inl c)]) (Gro.refl _)) fun c1 => ?_)
  rw [ncK_eq]
  refine hB.c1 4 (c := .i .u16) (x := a.2.2.2.1) rfl (brN (fun c => out (x := (0, 0, 9)) (by unfold taiV; rw [if_neg nh, if_pos (.inr c)]) (Gro.refl _)) fun c2 => ?_)
  have c12 : ¬ (a.2.2.1 ≠ root ∨ a.2.2.2.1 ≠ boot) := fun h => h.elim (fun x => x c1) (fun x => x c2)
  refine brD (fun c => out (x := (0, 0, 8)) (by unfold taiV; rw [if_neg nh, if_neg c12, if_pos (.inl c)]) (Gro.refl _)) fun c3 => ?_
  refine brD (fun c => out (x := (0, 0, 8)) (by unfold taiV; rw [if_neg nh, if_neg c12, if_pos (.inr c)]) (Gro.refl _)) fun c4 => ?_
  have c3 : ¬ t < 0 := c3
  have c4 : ¬ t > 1125899906842624 := c4
  rw [ncK_eq]
  refine hB.c1 12 (c := .i .i64) (x := a.2.2.2.2.1) rfl ?_
  rw [w64_in (n := t - a.2.2.2.2.1) (by unfold I64; omega)]
  refine ref01_Floor.cl (by unfold I64; omega) (by decide) (by decide) fun w10 u10 => ?_
  rw [ncK_eq]
  refine (hB.gro u10).c1 13 (c := .i .i64) (x := a.2.2.2.2.2) rfl ?_
  have e : IntKind.wrap .i64 (a.2.2.2.2.2 + (t - a.2.2.2.2.1) / 1000) = a.2.2.2.2.2 + (t - a.2.2.2.2.1) / 1000 := w64_in (by unfold I64; omega)
  have := out (x := (a.2.2.2.2.2 + (t - a.2.2.2.2.1) / 1000, (t - a.2.2.2.2.1) % 1000, 0)) (by unfold taiV; rw [if_neg nh, if_neg c12, if_neg (fun h => h.elim c3 c4)]) u10
  rw [← e] at this; exact this
theorem ref23_Book_Time.v {b : Nat} {has : Bool} {a : A6} {root boot tai : Int} (hI : Bk has a) {w : World} (hB : Blk w b (encs K14 (rA has a))) {k : TR RII → World → Prop}
    (hk : ∀ w', Gro w w' → k (((timV has a root boot tai).1, ()), ((timV has a root boot tai).2, ()), ()) w') :
    clS Try.prog F.ref23_Book_Time [.pointer (some ⟨b, 0, none⟩), .int .i64 root, .int .u16 boot, .int .i64 tai] w true RII k := by
  refine ref23_Book_Time.ok ?_
  unfold ref23_Book_Time.wp
  have out : ∀ {x : Int × Int}, timV has a root boot tai = x → ∀ {w'}, Gro w w' → k ((x.1, ()), (x.2, ()), ()) w' := fun e w' g => by subst e; exact hk w' g
  clear hk
  refine ref23_Book_Tai.v hI hB fun w2 u2 => brN (fun c => out (x := (0, _)) (by unfold timV; rw [if_pos c]) u2) fun c1 => ?_
  have c1 : (taiV has a root boot 0).2.2 = 0 := c1
  have c1' : ¬ (taiV has a root boot 0).2.2 ≠ 0 := fun h => h c1
  refine brD (fun c => out (x := (0, 8)) (by have c : tai < Int.negSucc 1125899906842623 := c; unfold timV; rw [if_neg c1', if_pos (.inl (by omega))]) u2) fun c2 => ?_
  refine brD (fun c => out (x := (0, 8)) (by unfold timV; rw [if_neg c1', if_pos (.inr c)]) u2) fun c3 => ?_
  have c2 : ¬ tai < Int.negSucc 1125899906842623 := c2
  have c3 : ¬ tai > 1125899906842624 := c3
  have hh : has = true := by
    cases has
    · unfold taiV at c1; rw [if_pos rfl] at c1; cases c1
    · rfl
  subst hh
  have hB : Blk w b (encs K14 (plP a)) := hB
  obtain ⟨r1, r2, r3, r4⟩ := okF_rng (hI.1 rfl)
  rw [drK_eq, ncK_eq]
  have B := (hB.gro u2).drew
  have g := u2.trans (Gro.drew w2)
  refine B.c1 12 (c := .i .i64) (x := a.2.2.2.2.1) rfl ?_
  rw [ncK_eq]
  refine B.c1 13 (c := .i .i64) (x := a.2.2.2.2.2) rfl ?_
  have n2 : ¬ (tai < -1125899906842624 ∨ tai > 1125899906842624) := by omega
  rw [w64_in (n := tai - a.2.2.2.2.2) (by unfold I64; omega), w64_in (n := 1000 * (tai - a.2.2.2.2.2)) (by unfold I64; omega), w64_in (n := a.2.2.2.2.1 + 1000 * (tai - a.2.2.2.2.2)) (by unfold I64; omega)]
  refine brD (fun c => out (x := (0, 8)) (by unfold timV; rw [if_neg c1', if_neg n2, if_pos (.inl c)]) g) fun c4 => brD (fun c => out (x := (0, 8)) (by unfold timV; rw [if_neg c1', if_neg n2, if_pos (.inr c)]) g) fun c5 => ?_
  exact out (x := (_, 0)) (by unfold timV; rw [if_neg c1', if_neg n2, if_neg (fun h => h.elim c4 c5)]) g
set_option maxRecDepth 20000 in
set_option maxHeartbeats 1000000 in
theorem ref23_Book_Hear.cl {b : Nat} {has : Bool} {a : A6} {x : P14} (hI : Bk has a) (hx : UP x) (h6 : x.1 = 6) {w : World} (hB : Blk w b (encs K14 (rA has a))) {k : TR RB1 → World → Prop}
    (h1 : okF (flA (ofP x)) = true → (has = true → nwr (ofP x).2.1 a.2.1 = true) → ∀ w', Blk w' b (encs K14 (rA true (ofP x))) → Upd (fun z => z = b) w w' → k ((true, ()), ()) w')
    (h0 : ¬ (okF (flA (ofP x)) = true ∧ (has = true → nwr (ofP x).2.1 a.2.1 = true)) → ∀ w', Gro w w' → k ((false, ()), ()) w') :
    clS Try.prog F.ref23_Book_Hear [.pointer (some ⟨b, 0, none⟩), vP x] w false RB1 k := by
  refine ref23_Book_Hear.ok ?_
  unfold ref23_Book_Hear.wp
  have lb := hB.lt
  refine alK_by fun p1 w2 e1 k1 u1 => ?_
  change Blk w2 p1 (encs K14 x) at k1
  refine CutT.by (fun _ W => Gro w W ∧ Blk W p1 (encs K14 x) ∧ okF (flA (ofP x)) = true ∧ (has = true → nwr (ofP x).2.1 a.2.1 = true)) ?_ ?_
  · rw [drK_eq]
    have K := k1.drew
    have B := (hB.gro u1).drew
    have g := u1.trans (Gro.drew w2)
    generalize w2.drew = w6 at K B g
    have hh : ∀ {w'}, Gro w6 w' → ∀ i, i < 14 → w'.cell? (Addr.add ⟨p1, 0, none⟩ i) = some ((w6.cell? (Addr.add ⟨p1, 0, none⟩ i)).getD undef) := fun u i hi => K.hold u (fun x => x) i (by simpa [encs] using hi)
    refine K.c0 (c := .i .i64) (x := x.1) rfl (brF (by show (x.1 != 6) = false; rw [h6]; rfl) (Blk.ldP K (ref05_Good.cl6 hx h6 fun w10 u10 => ?_)))
    refine ⟨⟨hh u10 0 (by decide), hh u10 1 (by decide), hh u10 2 (by decide), hh u10 3 (by decide), hh u10 4 (by decide), hh u10 5 (by decide), hh u10 6 (by decide), hh u10 7 (by decide), hh u10 8 (by decide), hh u10 9 (by decide), hh u10 10 (by decide), hh u10 11 (by decide), hh u10 12 (by decide), hh u10 13 (by decide), hh u10 0 (by decide), trivial⟩, ?_⟩
    have g10 := g.trans u10
    refine brNot (fun c => h0 (fun x => by have c : okF (flA (ofP _)) = false := c; rw [c] at x; cases x.1) w10 g10) fun c => ?_
    have c : okF (flA (ofP x)) = true := c
    rw [ncK_eq]
    refine (B.gro u10).c0 (c := .i .i64) (x := (rA has a).1) rfl (brE (fun ch => ?_) fun ch => ⟨g10, K.gro u10, c, fun h => absurd ((kind_rA has a).symm ▸ h : (rA has a).1 = 6) ch⟩)
    have ch : has = true := (kind_rA has a) ▸ ch
    subst ch
    have B : Blk w6 b (encs K14 (plP a)) := B
    refine (K.gro u10).c1 5 (c := .i .u16) (x := (ofP x).2.1) rfl ?_
    rw [ncK_eq]
    refine (B.gro u10).c1 5 (c := .i .u16) (x := a.2.1) rfl (ref02_Newer.cl hx.2 hI.2.2.1 ⟨⟨(B.gro u10).hold (Gro.refl _) (fun x => x) 0 (by simp [encs]), hh u10 0 (by decide), hh u10 1 (by decide), hh u10 2 (by decide), hh u10 3 (by decide), hh u10 4 (by decide), hh u10 5 (by decide), hh u10 6 (by decide), hh u10 7 (by decide), hh u10 8 (by decide), hh u10 9 (by decide), hh u10 10 (by decide), hh u10 11 (by decide), hh u10 12 (by decide), hh u10 13 (by decide), hh u10 0 (by decide), trivial⟩, ?_⟩)
    refine brNot (fun cn => h0 (fun y => by have cn : nwr (ofP x).2.1 a.2.1 = false := cn; rw [y.2 rfl] at cn; cases cn) w10 g10) fun cn => ⟨g10, K.gro u10, c, fun _ => cn⟩
  · rintro _ w5 ⟨g, K, hg, hn⟩ _
    refine Blk.ldP K (ref05_Only.cl6 h6 fun w20 u20 => ?_)
    rw [ncK_eq]
    exact stP (x := rA has a) (plP (ofP x)) ((hB.gro g).gro u20) fun w22 k22 u22 => h1 hg hn w22 k22 ((Upd.of_gro (g.trans u20)).trans u22 fun _ _ h => h)
set_option maxRecDepth 20000 in
set_option maxHeartbeats 1000000 in
theorem ref23_Book_Make.cl {b : Nat} {has : Bool} {a : A6} {me root boot global tai : Int} (hI : Bk has a) (hb : U16 boot) {w : World} (hB : Blk w b (encs K14 (rA has a))) {k : TR [(true, K14)] → World → Prop}
    (h1 : okF (flA (nxA a me root boot global tai)) = true → ∀ w', Blk w' b (encs K14 (rA true (nxA a me root boot global tai))) → Upd (fun z => z = b) w w' → k (plP (nxA a me root boot global tai), ()) w')
    (h0 : okF (flA (nxA a me root boot global tai)) = false → ∀ w', Gro w w' → k (zP, ()) w') :
    clS Try.prog F.ref23_Book_Make [.pointer (some ⟨b, 0, none⟩), .int .i64 me, .int .i64 root, .int .u16 boot, .int .i64 global, .int .i64 tai] w false [(true, K14)] k := by
  refine ref23_Book_Make.ok ?_
  unfold ref23_Book_Make.wp
  have lb := hB.lt
  refine alK_by fun p1 w2 e1 k1 u1 => ?_
  rw [ncK_eq]
  have seq : (rA has a).2.2.2.2.2.1 = a.2.1 := by
    cases has
    · rw [hI.2.1 rfl]; rfl
    · rfl
  refine (hB.gro u1).c1 5 (c := .i .u16) (x := a.2.1) (by rw [← seq]; rfl) (ref02_Next.cl hI.2.2.1 (alK_by fun p7 w8 e7 k7 u8 => ?_))
  obtain ⟨n, hn⟩ : ∃ n, n = nxA a me root boot global tai := ⟨_, rfl⟩
  have en : plP n = (6, me, 0, root, boot, IntKind.wrap .u16 (a.2.1 + 1), 0, 0, 0, 0, 0, 0, global, tai, ()) := by rw [hn]; rfl
  rw [← hn] at h1 h0
  have hU : UA n := by rw [hn]; exact nxA_UA hb
  have l1 := k1.lt
  have l7 := k7.lt
  refine k7.sta (encs K14 (6, me, 0, root, boot, IntKind.wrap .u16 (a.2.1 + 1), 0, 0, 0, 0, 0, 0, global, tai, ())) rfl rfl fun w9 k9 u9 => ?_
  rw [← en] at k9
  have g9 : Gro w2 w9 := Gro.fresh (Gro.refl _) u8 u9 e7
  refine Blk.ldP k9 (ref05_Good.cl6 (x := plP n) ⟨hU.2, hU.1⟩ rfl fun w12 u12 => brNot (fun c => ?_) fun c => ?_)
  · refine stP (x := zP) zP ((k1.gro g9).gro u12) fun w13 k13 u13 => Blk.ldP k13 (h0 c w13 (Upd.trans ((u1.trans g9).trans u12) u13 fun i hi h => by omega))
  · refine Blk.ldP (k9.gro u12) ?_
    rw [ncK_eq]
    refine stP (x := rA has a) (plP n) (((hB.gro u1).gro g9).gro u12) fun w17 k17 u17 => Blk.ldP ((k9.gro u12).upd u17 (by omega)) (stP (x := zP) (plP n) (((k1.gro g9).gro u12).upd u17 (by omega)) fun w19 k19 u19 => Blk.ldP k19 (h1 c w19 (k17.upd u19 (by omega)) ?_))
    exact ((Upd.of_gro ((u1.trans g9).trans u12)).trans u17 fun _ _ h => h).trans u19 fun i hi h => by omega
theorem eqA (a b : A6) : ((a.1 == b.1) && ((a.2.1 == b.2.1) && ((a.2.2.1 == b.2.2.1) && ((a.2.2.2.1 == b.2.2.2.1) && ((a.2.2.2.2.1 == b.2.2.2.2.1) && ((a.2.2.2.2.2 == b.2.2.2.2.2) && true)))))) = decide (a = b) := by
  obtain ⟨a1, a2, a3, a4, a5, a6⟩ := a
  obtain ⟨b1, b2, b3, b4, b5, b6⟩ := b
  refine bq ?_
  simp only [Bool.and_eq_true, beq_iff_eq, Prod.mk.injEq, and_true]
theorem eqA_self (a : A6) : ((a.1 == a.1) && ((a.2.1 == a.2.1) && ((a.2.2.1 == a.2.2.1) && ((a.2.2.2.1 == a.2.2.2.1) && ((a.2.2.2.2.1 == a.2.2.2.2.1) && ((a.2.2.2.2.2 == a.2.2.2.2.2) && true)))))) = true := by rw [eqA]; simp

/-! ### asked -/
abbrev K18 : List CK := [.i .i64, .i .i64, .i .i64, .i .i64, .i .i64, .i .u16, .i .u16, .i .i64, .i .i64, .i .i64, .i .i64, .i .i64, .i .i64, .i .i64, .i .i64, .i .i64, .i .u16, .i .i64]
abbrev C18 := Tvs K18
def rtC (c : C18) : Int := c.2.2.2.2.2.2.2.2.2.2.2.2.2.2.2.1
def btC (c : C18) : Int := c.2.2.2.2.2.2.2.2.2.2.2.2.2.2.2.2.1
def nC (c : C18) : Int := c.2.2.2.2.2.2.2.2.2.2.2.2.2.2.2.2.2.1
abbrev vC (c : C18) : Value := .agg #[.int .i64 c.1, .int .i64 c.2.1, .int .i64 c.2.2.1, .int .i64 c.2.2.2.1, .int .i64 c.2.2.2.2.1, .int .u16 c.2.2.2.2.2.1, .int .u16 c.2.2.2.2.2.2.1, .int .i64 c.2.2.2.2.2.2.2.1, .int .i64 c.2.2.2.2.2.2.2.2.1, .int .i64 c.2.2.2.2.2.2.2.2.2.1, .int .i64 c.2.2.2.2.2.2.2.2.2.2.1, .int .i64 c.2.2.2.2.2.2.2.2.2.2.2.1, .int .i64 c.2.2.2.2.2.2.2.2.2.2.2.2.1, .int .i64 c.2.2.2.2.2.2.2.2.2.2.2.2.2.1, .int .i64 c.2.2.2.2.2.2.2.2.2.2.2.2.2.2.1, .int .i64 c.2.2.2.2.2.2.2.2.2.2.2.2.2.2.2.1, .int .u16 c.2.2.2.2.2.2.2.2.2.2.2.2.2.2.2.2.1, .int .i64 c.2.2.2.2.2.2.2.2.2.2.2.2.2.2.2.2.2.1]
set_option maxRecDepth 20000 in
set_option maxHeartbeats 2000000 in
theorem law23_asked.cl {b br : Nat} {has : Bool} {a : A6} {c : C18} {tp : Option Addr} {t : Option Tb} (hI : Bk has a) {w : World} (hB : Blk w b (bk has a)) (hR : Blk w br (encs K14 (rA has a))) (hT : TbO w tp t) {k : TR RB1 → World → Prop} (hk : ∀ w', Gro w w' → k ((true, ()), ()) w') :
    clS Try.prog F.law23_asked [.pointer (some ⟨b, 0, none⟩), .pointer (some ⟨br, 0, none⟩), .pointer tp, vC c] w false RB1 k := by
  refine law23_asked.ok ?_
  unfold law23_asked.wp
  refine alK_by fun p1 w2 e1 k1 u1 => ?_
  change Blk w2 p1 (encs K18 c) at k1
  refine k1.c1 15 (c := .i .i64) (x := rtC c) rfl (k1.c1 16 (c := .i .u16) (x := btC c) rfl (alK_by fun p5 w6 e5 k5 u6 => k5.sta _ rfl rfl fun w7 k7 u7 => k7.cA (cs := [.i .i64, .i .u16]) (rtC c, btC c, ()) rfl ?_))
  have g7 : Gro w2 w7 := Gro.fresh (Gro.refl _) u6 u7 e5
  have K1 := k1.gro g7
  refine K1.c1 17 (c := .i .i64) (x := nC c) rfl (anchor_Book_Tai.v (root := rtC c) (boot := btC c) (hB.gro (u1.trans g7)) hI.1 fun w11 u11 => ?_)
  obtain ⟨V, hV⟩ : ∃ V, V = taiV has a (rtC c) (btC c) (nC c) := ⟨_, rfl⟩
  have tr : V.2.2 = 0 → I64 V.1 := by
    intro h
    rw [hV] at h ⊢
    unfold taiV at h ⊢
    split at h
    · cases h
    split at h
    · cases h
    split at h
    · cases h
    rename_i h1 h2 h3
    rw [if_neg h1, if_neg h2, if_neg h3]
    obtain ⟨r1, r2, r3, r4⟩ := okF_rng (hI.1 (by cases has; exact absurd rfl h1; rfl))
    show I64 (a.2.2.2.2.2 + (nC c - a.2.2.2.2.1) / 1000)
    unfold I64; omega
  rw [← hV]
  refine alK_by fun p12 w13 e12 k12 u13 => k12.sta _ rfl rfl fun w14 k14 u14 => ?_
  have g14 : Gro w7 w14 := Gro.fresh u11 u13 u14 e12
  have K1' := K1.gro g14
  have G14 := (u1.trans g7).trans g14
  refine K1'.c1 15 (c := .i .i64) (x := rtC c) rfl (K1'.c1 16 (c := .i .u16) (x := btC c) rfl (K1'.c1 17 (c := .i .i64) (x := nC c) rfl (ref23_Book_Tai.v (root := rtC c) (boot := btC c) hI (hR.gro G14) fun w19 u19 => ?_)))
  rw [← hV]
  have k19 := k14.gro u19
  have G19 := G14.trans u19
  refine k19.i0 rfl (brF (by show (V.1 != V.1) = false; simp) ?_)
  refine k19.i1 1 rfl (brF (by show (V.2.1 != V.2.1) = false; simp) ?_)
  refine brF (by show (V.2.2 != V.2.2) = false; simp) ?_
  have K5 := (k7.gro g14).gro u19
  refine K5.cA (cs := [.i .i64, .i .u16]) (rtC c, btC c, ()) rfl ((K1'.gro u19).c1 17 (c := .i .i64) (x := nC c) rfl ?_)
  refine anchor_Book_Utc.v (root := rtC c) (boot := btC c) (hB.gro G19) hI.1 (hT.gro G19) fun u n e w25 hU u25 => ?_
  rw [← hV] at hU
  refine alK_by fun p26 w27 e26 k26 u27 => k26.sta _ rfl rfl fun w28 k28 u28 => ?_
  have g28 : Gro w19 w28 := Gro.fresh u25 u27 u28 e26
  refine CutT.by (fun _ W => Gro w19 W) ?_ ?_
  · unfold UtcR at hU
    refine brN (fun cv => ?_) fun cv => ?_
    · have cv : V.2.2 ≠ 0 := cv
      rw [if_pos cv] at hU
      obtain ⟨h1, h2, h3⟩ := hU
      refine brF (by show (e != V.2.2) = false; rw [h3]; simp) (brF (by show (n != 0) = false; rw [h2]; rfl) ?_)
      refine Blk.ldU (u := u) k28 (brF ?_ g28)
      rw [h1]
      show (!_) = false
      rw [eq6_self z6]; rfl
    · have cv : V.2.2 = 0 := cv
      rw [if_neg (fun h => h cv)] at hU
      obtain ⟨hU, hn⟩ := hU
      refine (k19.gro g28).i0 rfl (utc_Of.o (hT.gro (G19.trans g28)) (tr cv) fun u' e' w35 hU' u35 => ?_)
      obtain ⟨eu, ee⟩ := hU.uniq hT.good hU'
      subst eu ee
      refine alK_by fun p36 w37 e36 k36 u37 => k36.sta _ rfl rfl fun w38 k38 u38 => ?_
      have g38 : Gro w28 w38 := Gro.fresh u35 u37 u38 e36
      have g38' := g28.trans g38
      refine brF (by show (e != e) = false; simp) (Blk.ldU (u := u) (k28.gro g38) (Blk.ldU (u := u) k38 ?_))
      refine brF (by show (!_) = false; rw [eq6_self u]; rfl) ?_
      refine brE (fun he => ((k19.gro g38').i1 1 rfl ?_)) fun he => ?_
      · have he : e = 0 := he
        rw [if_neg (fun h => h he)] at hn
        refine brF (by show (n != V.2.1) = false; rw [hn]; simp) ?_
        exact brF (by show (e != 0) = false; rw [he]; rfl) g38'
      · have he : e ≠ 0 := he
        rw [if_pos he] at hn
        exact brT (by show (e != 0) = true; rw [bne_iff_ne]; exact he) (brF (by show (n != 0) = false; rw [hn]; rfl) g38')
  · intro _ w31 g31 _
    have G31 := G19.trans g31
    refine (K5.gro g31).cA (cs := [.i .i64, .i .u16]) (rtC c, btC c, ()) rfl (((K1'.gro u19).gro g31).c1 17 (c := .i .i64) (x := nC c) rfl ?_)
    refine anchor_Book_Time.v (root := rtC c) (boot := btC c) (hB.gro G31) hI.1 fun w45 u45 => ?_
    have K := ((K1'.gro u19).gro g31).gro u45
    have G45 := G31.trans u45
    refine K.c1 15 (c := .i .i64) (x := rtC c) rfl (K.c1 16 (c := .i .u16) (x := btC c) rfl (K.c1 17 (c := .i .i64) (x := nC c) rfl (ref23_Book_Time.v (root := rtC c) (boot := btC c) hI (hR.gro G45) fun w50 u50 => ?_)))
    generalize timV has a (rtC c) (btC c) (nC c) = TM
    refine brT (by show (TM.1 == TM.1) = true; simp) ?_
    have := hk w50 (G45.trans u50)
    rw [show ((((((TM.1, ()), (TM.2, ()), ()) : TR RII).2.1.1) == ((((TM.1, ()), (TM.2, ()), ()) : TR RII).2.1.1)) : Bool) = true from by simp]
    exact this

/-! ### the law -/
def wC (c : C18) : P14 := (c.2.1, c.2.2.1, c.2.2.2.1, c.2.2.2.2.1, c.2.2.2.2.2.1, c.2.2.2.2.2.2.1, c.2.2.2.2.2.2.2.1, c.2.2.2.2.2.2.2.2.1, c.2.2.2.2.2.2.2.2.2.1, c.2.2.2.2.2.2.2.2.2.2.1, c.2.2.2.2.2.2.2.2.2.2.2.1, c.2.2.2.2.2.2.2.2.2.2.2.2.1, c.2.2.2.2.2.2.2.2.2.2.2.2.2.1, c.2.2.2.2.2.2.2.2.2.2.2.2.2.2.1, ())
set_option maxRecDepth 20000 in
set_option maxHeartbeats 4000000 in
theorem law23_AnchorDoes.cl {m : Tb} {s sc : Sl} {xs : List C18} (hU : ∀ x ∈ xs, UP (wC x)) {w : World} (hR : RowsP w s m.ls) (hI : ∀ l ∈ m.ls, I64 l.1 ∧ I64 l.2) (hS : RowsT w sc K18 xs) : clS Try.prog F.law23_AnchorDoes [vT m s, .slice sc.1 sc.2.1 sc.2.2] w false RB1 (Holds w) := by
  refine law23_AnchorDoes.ok ?_
  unfold law23_AnchorDoes.wp
  have hl := hR.len
  have hls := hS.len (by decide)
  refine alK_by fun p1 w2 e1 k1 u1 => law23_alive.cl fun w4 u4 => brF rfl ?_
  have g4 := u1.trans u4
  have q1 := k1.gro u4
  refine brD (fun _ => holds g4 rfl) fun cs => q1.c1 3 (c := .sl) (x := s) rfl (brD (fun _ => holds g4 rfl) fun c => ?_)
  have cs : ¬ (sc.2.1 : Int) > 100 := cs
  have c : ¬ (s.2.1 : Int) > 64 := c
  refine Blk.ldT q1 (law23_made.cl (m := m) (s := s) (hR.gro g4) (by omega) hI fun tp tt w8 hT u8 => ?_)
  have g8 := g4.trans u8
  refine alK_by fun p9 w10 e9 k9 u10 => ?_
  change Blk w10 p9 (bk false zA) at k9
  have z9 : w8.heap.size ≤ p9 := by omega
  refine anchor_Book_Drop.nil (anchor_Book_Has.nil fun w14 u14 => alK_by fun p15 w16 e15 k15 u16 => k15.sta _ rfl rfl fun w17 k17 u17 => ?_)
  have g17 : Gro w10 w17 := Gro.fresh u14 u16 u17 e15
  refine anchor_Book_Tai.nil fun w19 u19 => alK_by fun p20 w21 e20 k20 u21 => k20.sta _ rfl rfl fun w22 k22 u22 => ?_
  have g22 : Gro w10 w22 := g17.trans (Gro.fresh u19 u21 u22 e20)
  refine anchor_Book_Make.nil fun w24 u24 => alK_by fun p25 w26 e25 k25 u26 => k25.sta _ rfl rfl fun w27 k27 u27 => ?_
  have g27 : Gro w10 w27 := g22.trans (Gro.fresh u24 u26 u27 e25)
  refine anchor_Book_Time.nil fun w29 u29 => ?_
  refine brF rfl ?_
  refine brF rfl ?_
  refine brF rfl ?_
  refine brF rfl ?_
  refine anchor_Book_Hear.nil (a := zA) fun w31 u31 => brF rfl (alK_by fun p32 w33 e32 k32 u33 => ?_)
  change Blk w33 p32 (encs K14 (rA false zA)) at k32
  have g33 : Gro w10 w33 := ((g27.trans u29).trans u31).trans u33
  have G33 := (g8.trans u10).trans g33
  have B9 := k9.gro g33
  have l9 := B9.lt
  have l32 := k32.lt
  have n93 : p9 ≠ p32 := by have := ((g27.trans u29).trans u31).size; have := k9.lt; omega
  have z32 : w8.heap.size ≤ p32 := by have := ((u10.trans g27).trans u29).trans u31 |>.size; omega
  refine LoopT.by (fun z W => ∃ (i : Nat) (has : Bool) (a : A6), z.1 = i ∧ i ≤ xs.length ∧ Bk has a ∧ Blk W p9 (bk has a) ∧ Blk W p32 (encs K14 (rA has a)) ∧ Gro w8 W) (fun z => ((xs.length : Int) - z.1).toNat)
    ⟨0, false, zA, rfl, by omega, Bk.no, B9, k32, u10.trans g33⟩ ?_
  rintro ⟨z, _⟩ W ⟨i, has, a, hz, hi, hK, hB, hP, hG8⟩ _
  have hG := g8.trans hG8
  dsimp only at hz
  subst hz
  refine brD (fun cc => ?_) fun _ => holds hG rfl
  have cc : (i : Int) < sc.2.1 := cc
  have hi1 : i < xs.length := by omega
  have hx : xs[i]? = some xs[i] := List.getElem?_eq_getElem hi1
  have hxU := hU _ (List.getElem_mem hi1)
  generalize xs[i] = x at hx hxU
  have hSW := hS.gro hG
  refine hSW.ix (by decide) rfl hx fun ad had => hSW.ldN had hx (alK_by fun p39 w40 e39 k39 u40 => k39.sta (encs K18 x) rfl rfl fun w41 k41 u41 => ?_)
  have g41 : Gro W w41 := Gro.fresh (Gro.refl _) u40 u41 e39
  refine k41.cN 1 (cs := K14) (wC x) rfl (alK_by fun p43 w44 e43 k43 u44 => k43.sta (encs K14 (wC x)) rfl rfl fun w45 k45 u45 => ?_)
  have g45 : Gro W w45 := g41.trans (Gro.fresh (Gro.refl _) u44 u45 e43)
  have k39' := k41.gro (Gro.fresh (Gro.refl _) u44 u45 e43)
  have b9 := hB.gro g45
  have b32 := hP.gro g45
  have G45 := hG8.trans g45
  have ltW9 := hB.lt
  have ltW32 := hP.lt
  have l39 := k41.lt
  have l43 := k45.lt
  have o39 : W.heap.size ≤ p39 := by omega
  have o43 : p39 < p43 := by omega
  have zW := hG8.size
  have hxU1 : U16 (wC x).2.2.2.2.1 := hxU.1
  refine CutT.by (fun _ W' => ∃ (has : Bool) (a : A6), Bk has a ∧ Blk W' p9 (bk has a) ∧ Blk W' p32 (encs K14 (rA has a)) ∧ Gro w8 W' ∧ Blk W' p39 (encs K18 x)) ?_ ?_
  · refine k39'.c0 (c := .i .i64) (x := x.1) rfl (CutT.by (fun _ W' => w45 = W') (brC (fun _ => rfl) fun _ => rfl) ?_)
    rintro ⟨zb, _⟩ w52 rfl _
    refine brC (fun _ => ?_) fun _ => brC (fun _ => ?_) fun _ => brC (fun _ => ?_) fun _ => ⟨has, a, hK, b9, b32, G45, k39'⟩
    · refine k45.sN0 [.int .i64 6] (by simp [encs]) rfl fun w53 k53 u53 => ?_
      have k53 : Blk w53 p43 (encs K14 (wk (wC x))) := k53
      rw [drK_eq]
      have K43 := k53.drew
      have c9 := (b9.upd u53 (by omega)).drew
      have c32 := (b32.upd u53 (by omega)).drew
      have c39 := (k39'.upd u53 (by omega)).drew
      have G54 : Gro w8 w53.drew := Upd.trans G45 u53.drew fun j hj h => by omega
      have hy : UP (wk (wC x)) := hxU
      have h6 : (wk (wC x)).1 = 6 := rfl
      generalize wk (wC x) = y at K43 hy h6
      generalize w53.drew = w54 at K43 c9 c32 c39 G54
      have hh : ∀ {S : Nat → Prop} {w'}, Upd S w54 w' → ¬ S p43 → ∀ i, i < 14 → w'.cell? (Addr.add ⟨p43, 0, none⟩ i) = some ((w54.cell? (Addr.add ⟨p43, 0, none⟩ i)).getD undef) := fun u hS i hi => K43.hold u hS i (by simpa [encs] using hi)
      refine Blk.ldP K43 (Blk.ldP K43 (law23_of.cl (x := y) fun w58 u58 => ?_))
      have d58 := @hh _ _ u58 (fun x => x)
      refine ⟨⟨d58 0 (by decide), d58 1 (by decide), d58 2 (by decide), d58 3 (by decide), d58 4 (by decide), d58 5 (by decide), d58 6 (by decide), d58 7 (by decide), d58 8 (by decide), d58 9 (by decide), d58 10 (by decide), d58 11 (by decide), d58 12 (by decide), d58 13 (by decide), d58 0 (by decide), d58 1 (by decide), d58 2 (by decide), d58 3 (by decide), d58 4 (by decide), d58 5 (by decide), d58 6 (by decide), d58 7 (by decide), d58 8 (by decide), d58 9 (by decide), d58 10 (by decide), d58 11 (by decide), d58 12 (by decide), d58 13 (by decide), trivial⟩, ?_⟩
      have G58 := G54.trans u58
      have hUA : UA (ofP y) := ⟨hy.2, hy.1⟩
      refine anchor_Book_Hear.cl (a := ofP y) hUA (c9.gro u58) (fun hg hn w60 B60 u60 => ?_) fun hno w60 B60 u60 => ?_
      · have U60 : Upd (fun z => z = p9) w54 w60 := (Upd.of_gro u58).trans u60 fun _ _ h => h
        have d60 := @hh _ _ U60 (by omega)
        refine ⟨⟨d60 0 (by decide), d60 1 (by decide), d60 2 (by decide), d60 3 (by decide), d60 4 (by decide), d60 5 (by decide), d60 6 (by decide), d60 7 (by decide), d60 8 (by decide), d60 9 (by decide), d60 10 (by decide), d60 11 (by decide), d60 12 (by decide), d60 13 (by decide), d60 0 (by decide), d60 1 (by decide), d60 2 (by decide), d60 3 (by decide), d60 4 (by decide), d60 5 (by decide), d60 6 (by decide), d60 7 (by decide), d60 8 (by decide), d60 9 (by decide), d60 10 (by decide), d60 11 (by decide), d60 12 (by decide), d60 13 (by decide), trivial⟩, ?_⟩
        refine ref23_Book_Hear.cl hK hy h6 ((c32.gro u58).upd u60 (fun h => n93 h.symm)) (fun _ _ w62 B62 u62 => ?_) fun hno => absurd ⟨hg, hn⟩ hno
        have U62 : Upd (fun z => z = p9 ∨ z = p32) w54 w62 := (U60.mono fun _ h => .inl h).trans u62 fun _ _ h => .inr h
        have d62 := @hh _ _ U62 (by omega)
        refine ⟨⟨d62 0 (by decide), d62 1 (by decide), d62 2 (by decide), d62 3 (by decide), d62 4 (by decide), d62 5 (by decide), d62 6 (by decide), d62 7 (by decide), d62 8 (by decide), d62 9 (by decide), d62 10 (by decide), d62 11 (by decide), d62 12 (by decide), d62 13 (by decide), trivial⟩, brF rfl ?_⟩
        exact ⟨true, ofP y, Bk.yes hg hUA, B60.upd u62 n93, B62, Upd.trans G54 U62 fun j hj h => by omega, c39.upd U62 (by omega)⟩
      · have d60 := @hh _ _ (u58.trans u60) (fun x => x)
        refine ⟨⟨d60 0 (by decide), d60 1 (by decide), d60 2 (by decide), d60 3 (by decide), d60 4 (by decide), d60 5 (by decide), d60 6 (by decide), d60 7 (by decide), d60 8 (by decide), d60 9 (by decide), d60 10 (by decide), d60 11 (by decide), d60 12 (by decide), d60 13 (by decide), d60 0 (by decide), d60 1 (by decide), d60 2 (by decide), d60 3 (by decide), d60 4 (by decide), d60 5 (by decide), d60 6 (by decide), d60 7 (by decide), d60 8 (by decide), d60 9 (by decide), d60 10 (by decide), d60 11 (by decide), d60 12 (by decide), d60 13 (by decide), trivial⟩, ?_⟩
        refine ref23_Book_Hear.cl hK hy h6 ((c32.gro u58).gro u60) (fun hg hn => absurd ⟨hg, hn⟩ hno) fun _ w62 u62 => ?_
        have d62 := @hh _ _ ((u58.trans u60).trans u62) (fun x => x)
        refine ⟨⟨d62 0 (by decide), d62 1 (by decide), d62 2 (by decide), d62 3 (by decide), d62 4 (by decide), d62 5 (by decide), d62 6 (by decide), d62 7 (by decide), d62 8 (by decide), d62 9 (by decide), d62 10 (by decide), d62 11 (by decide), d62 12 (by decide), d62 13 (by decide), trivial⟩, brF rfl ?_⟩
        exact ⟨has, a, hK, B60.gro u62, ((c32.gro u58).gro u60).gro u62, (G58.trans u60).trans u62, ((c39.gro u58).gro u60).gro u62⟩
    · generalize hy : wC x = y at k45 hxU1
      refine k45.c1 1 (c := .i .i64) (x := y.2.1) rfl (k45.c1 12 (c := .i .i64) (x := y.2.2.2.2.2.2.2.2.2.2.2.2.1) rfl (k45.c1 3 (c := .i .i64) (x := y.2.2.2.1) rfl (k45.c1 4 (c := .i .u16) (x := y.2.2.2.2.1) rfl (k45.c1 13 (c := .i .i64) (x := y.2.2.2.2.2.2.2.2.2.2.2.2.2.1) rfl ?_))))
      generalize hgl : y.2.2.2.2.2.2.2.2.2.2.2.2.1 = gl
      generalize hta : y.2.2.2.2.2.2.2.2.2.2.2.2.2.1 = ta
      have rest : ∀ (n : A6) (e : Int) (p : P14) (w69 : World), Upd (fun z => z = p9) w45 w69 → ofP p = n → ((e == 0) == (p.1 == 6)) = true → (e = 0 ∨ e = 1) →
          (∀ {k : TR [(true, K14)] → World → Prop} {w72 : World}, Gro w69 w72 → (∀ w79, Upd (fun z => z = p32) w72 w79 → k (p, ()) w79) → clS Try.prog F.ref23_Book_Make [.pointer (some ⟨p32, 0, none⟩), .int .i64 y.2.1, .int .i64 y.2.2.2.1, .int .u16 y.2.2.2.2.1, .int .i64 gl, .int .i64 ta] w72 false [(true, K14)] k) → True := fun _ _ _ _ _ _ _ _ _ => trivial
      clear rest
      have U16b : U16 y.2.2.2.2.1 := hxU1
      by_cases hok : okF (flA (nxA a y.2.1 y.2.2.2.1 y.2.2.2.2.1 gl ta)) = true
      · refine anchor_Book_Make.cl (old := a) (me := y.2.1) (t2 := y.2.2.2.1) (t3 := y.2.2.2.2.1) (t0 := gl) (tai := ta) U16b b9 hok fun w69 B69 u69 => ?_
        change Blk w69 p9 (bk true (nxA a y.2.1 y.2.2.2.1 y.2.2.2.2.1 gl ta)) at B69
        obtain ⟨n, hn⟩ : ∃ n, n = nxA a y.2.1 y.2.2.2.1 y.2.2.2.2.1 gl ta := ⟨_, rfl⟩
        have hUn : UA n := by rw [hn]; exact nxA_UA U16b
        refine alK_by fun p70 w71 e70 k70 u71 => k70.sta (a6 (nxA a y.2.1 y.2.2.2.1 y.2.2.2.2.1 gl ta)) rfl rfl fun w72 k72 u72 => ?_
        rw [← hn] at B69 k72 hok
        have g72 : Gro w69 w72 := Gro.fresh (Gro.refl _) u71 u72 e70
        have U72 : Upd (fun z => z = p9) w45 w72 := u69.trans g72 fun _ _ h => h.elim
        have K43 := k45.upd U72 (by omega)
        have lt70 := k72.lt
        have s69 := u69.size
        refine K43.c1 1 (c := .i .i64) (x := y.2.1) rfl (K43.c1 3 (c := .i .i64) (x := y.2.2.2.1) rfl (K43.c1 4 (c := .i .u16) (x := y.2.2.2.2.1) rfl (K43.c1 12 (c := .i .i64) (x := y.2.2.2.2.2.2.2.2.2.2.2.2.1) rfl (K43.c1 13 (c := .i .i64) (x := y.2.2.2.2.2.2.2.2.2.2.2.2.2.1) rfl ?_))))
        rw [hgl, hta]
        refine ref23_Book_Make.cl (me := y.2.1) (root := y.2.2.2.1) (boot := y.2.2.2.2.1) (global := gl) (tai := ta) hK U16b (b32.upd U72 (fun h => n93 h.symm)) (fun _ w79 B79 u79 => ?_) fun h => by rw [← hn, hok] at h; cases h
        rw [← hn] at B79 ⊢
        refine alK_by fun p80 w81 e80 k80 u81 => k80.sta (encs K14 (plP n)) rfl rfl fun w82 k82 u82 => ?_
        have g82 : Gro w79 w82 := Gro.fresh (Gro.refl _) u81 u82 e80
        rw [drK_eq]
        have k70' := ((k72.upd u79 (by omega)).gro g82).drew
        have k80' := k82.drew
        have B9' := ((B69.gro g72).upd u79 n93).gro g82 |>.drew
        have B32' := (B79.gro g82).drew
        have U83 : Upd (fun z => z = p9 ∨ z = p32) w45 w82.drew := (((U72.mono fun _ h => .inl h).trans u79 fun _ _ h => .inr h).trans g82 fun _ _ h => h.elim).drew
        generalize w82.drew = w83 at k70' k80' B9' B32' U83
        refine Blk.ldA k70' (Blk.ldP k80' (law23_of.cl (x := plP n) fun w87 u87 => ?_))
        refine ⟨⟨k70'.hold u87 (fun x => x) 0 (by simp [a6]), k70'.hold u87 (fun x => x) 1 (by simp [a6]), k70'.hold u87 (fun x => x) 2 (by simp [a6]), k70'.hold u87 (fun x => x) 3 (by simp [a6]), k70'.hold u87 (fun x => x) 4 (by simp [a6]), k70'.hold u87 (fun x => x) 5 (by simp [a6]), trivial⟩, ?_⟩
        refine brF (by show (!_) = false; rw [ofP_plP]; exact congrArg (!·) (eqA_self n)) ?_
        refine (k80'.gro u87).c0 (c := .i .i64) (x := 6) rfl (brF rfl (brF rfl ?_))
        exact ⟨true, n, Bk.yes hok hUn, B9'.gro u87, B32'.gro u87, Upd.trans G45 (U83.gro u87) fun j hj h => by omega, k39'.upd (U83.gro u87) (by omega)⟩
      · have hbad : okF (flA (nxA a y.2.1 y.2.2.2.1 y.2.2.2.2.1 gl ta)) = false := Bool.eq_false_iff.2 hok
        refine anchor_Book_Make.bad (old := a) (me := y.2.1) (t2 := y.2.2.2.1) (t3 := y.2.2.2.2.1) (t0 := gl) (tai := ta) U16b b9 hbad fun w69 u69 => ?_
        refine alK_by fun p70 w71 e70 k70 u71 => k70.sta (a6 zA) rfl rfl fun w72 k72 u72 => ?_
        have g72 : Gro w45 w72 := Gro.fresh u69 u71 u72 e70
        have K43 := k45.gro g72
        refine K43.c1 1 (c := .i .i64) (x := y.2.1) rfl (K43.c1 3 (c := .i .i64) (x := y.2.2.2.1) rfl (K43.c1 4 (c := .i .u16) (x := y.2.2.2.2.1) rfl (K43.c1 12 (c := .i .i64) (x := y.2.2.2.2.2.2.2.2.2.2.2.2.1) rfl (K43.c1 13 (c := .i .i64) (x := y.2.2.2.2.2.2.2.2.2.2.2.2.2.1) rfl ?_))))
        rw [hgl, hta]
        refine ref23_Book_Make.cl (me := y.2.1) (root := y.2.2.2.1) (boot := y.2.2.2.2.1) (global := gl) (tai := ta) hK U16b (b32.gro g72) (fun h => by rw [hbad] at h; cases h) fun _ w79 u79 => ?_
        refine alK_by fun p80 w81 e80 k80 u81 => k80.sta (encs K14 zP) rfl rfl fun w82 k82 u82 => ?_
        have g82 : Gro w72 w82 := Gro.fresh u79 u81 u82 e80
        rw [drK_eq]
        have k70' := (k72.gro g82).drew
        have k80' := k82.drew
        have g83 : Gro w45 w82.drew := (g72.trans g82).trans (Gro.drew _)
        generalize w82.drew = w83 at k70' k80' g83
        refine Blk.ldA k70' (Blk.ldP k80' (law23_of.cl (x := zP) fun w87 u87 => ?_))
        refine ⟨⟨k70'.hold u87 (fun x => x) 0 (by simp [a6]), k70'.hold u87 (fun x => x) 1 (by simp [a6]), k70'.hold u87 (fun x => x) 2 (by simp [a6]), k70'.hold u87 (fun x => x) 3 (by simp [a6]), k70'.hold u87 (fun x => x) 4 (by simp [a6]), k70'.hold u87 (fun x => x) 5 (by simp [a6]), trivial⟩, ?_⟩
        refine brF (by show (!_) = false; exact congrArg (!·) (eqA_self zA)) ?_
        refine (k80'.gro u87).c0 (c := .i .i64) (x := 0) rfl (brF rfl (brT rfl (brF rfl ?_)))
        have g87 := g83.trans u87
        exact ⟨has, a, hK, b9.gro g87, b32.gro g87, G45.trans g87, k39'.gro g87⟩
    · refine anchor_Book_Drop.cl b9 fun w90 B90 u90 => stP (x := rA has a) zP (b32.upd u90 (fun h => n93 h.symm)) fun w91 B91 u91 => ?_
      have U91 : Upd (fun z => z = p9 ∨ z = p32) w45 w91 := (u90.mono fun _ h => .inl h).trans u91 fun _ _ h => .inr h
      exact ⟨false, zA, Bk.no, B90.upd u91 n93, B91, Upd.trans G45 U91 fun j hj h => by omega, k39'.upd U91 (by omega)⟩
  · clear hK hB hP b9 b32 G45 k39'
    rintro _ w48 ⟨has, a, hK, hB, hP, hG8, k39'⟩ _
    refine anchor_Book_Has.cl hB fun w93 u93 => alK_by fun p94 w95 e94 k94 u95 => k94.sta (a6 a) rfl rfl fun w96 k96 u96 => ?_
    have g96 : Gro w48 w96 := Gro.fresh u93 u95 u96 e94
    rw [drK_eq]
    have K94 := k96.drew
    have K32 := (hP.gro g96).drew
    have g97 := g96.trans (Gro.drew w96)
    generalize w96.drew = w97 at K94 K32 g97
    have h94 : ∀ {w'}, Gro w97 w' → ∀ i, i < 6 → w'.cell? (Addr.add ⟨p94, 0, none⟩ i) = some ((w97.cell? (Addr.add ⟨p94, 0, none⟩ i)).getD undef) := fun u i hi => K94.hold u (fun x => x) i (by simpa [a6] using hi)
    have h32 : ∀ {w'}, Gro w97 w' → ∀ i, i < 14 → w'.cell? (Addr.add ⟨p32, 0, none⟩ i) = some ((w97.cell? (Addr.add ⟨p32, 0, none⟩ i)).getD undef) := fun u i hi => K32.hold u (fun x => x) i (by simpa [encs] using hi)
    refine Blk.ldA K94 (Blk.ldP K32 (law23_of.cl (x := rA has a) fun w101 u101 => ?_))
    refine ⟨⟨h32 u101 0 (by decide), h32 u101 1 (by decide), h32 u101 2 (by decide), h32 u101 3 (by decide), h32 u101 4 (by decide), h32 u101 5 (by decide), h32 u101 6 (by decide), h32 u101 7 (by decide), h32 u101 8 (by decide), h32 u101 9 (by decide), h32 u101 10 (by decide), h32 u101 11 (by decide), h32 u101 12 (by decide), h32 u101 13 (by decide),
      h94 u101 0 (by decide), h94 u101 1 (by decide), h94 u101 2 (by decide), h94 u101 3 (by decide), h94 u101 4 (by decide), h94 u101 5 (by decide), trivial⟩, ?_⟩
    refine brF (by show (!_) = false; rw [ofP_rA hK]; exact congrArg (!·) (eqA_self a)) ?_
    have K32' := K32.gro u101
    have g101 := g97.trans u101
    refine K32'.c0 (c := .i .i64) (x := (rA has a).1) rfl (brF ?_ ?_)
    · show (!(has == ((rA has a).1 == 6))) = false
      cases has <;> rfl
    refine (k39'.gro g101).cA (cs := K18) x rfl (law23_asked.cl (c := x) hK (hB.gro g101) K32' (hT.gro (hG8.trans g101)) fun w105 u105 => ?_)
    have v105 := u101.trans u105
    refine ⟨⟨K32'.hold u105 (fun x => x) 0 (by simp [encs]), h32 v105 0 (by decide), h32 v105 1 (by decide), h32 v105 2 (by decide), h32 v105 3 (by decide), h32 v105 4 (by decide), h32 v105 5 (by decide), h32 v105 6 (by decide), h32 v105 7 (by decide), h32 v105 8 (by decide), h32 v105 9 (by decide), h32 v105 10 (by decide), h32 v105 11 (by decide), h32 v105 12 (by decide), h32 v105 13 (by decide),
      h94 v105 0 (by decide), h94 v105 1 (by decide), h94 v105 2 (by decide), h94 v105 3 (by decide), h94 v105 4 (by decide), h94 v105 5 (by decide), trivial⟩, brF rfl ?_⟩
    have ei := wsucc hi1 (show xs.length ≤ 1000000000 by omega)
    have g105 := g101.trans u105
    exact ⟨⟨i + 1, has, a, ei, by omega, hK, hB.gro g105, K32'.gro u105, hG8.trans g105⟩, by
      show ((xs.length : Int) - IntKind.wrap .i64 ((i : Int) + 1)).toNat < ((xs.length : Int) - (i : Int)).toNat
      rw [ei]; omega⟩
theorem law23_AnchorDoes.fin {cs : List Value} {sc : Sl} {xs : List C18} (hU : ∀ x ∈ xs, UP (wC x)) {w : World} (h : Okc w shT cs) (hS : RowsT w sc K18 xs) : clS Try.prog F.law23_AnchorDoes [.agg cs.toArray, .slice sc.1 sc.2.1 sc.2.2] w false RB1 (Holds w) := by
  obtain ⟨m, s, rfl, hR, hI, _⟩ := tab_open h
  exact law23_AnchorDoes.cl hU hR hI hS
end Go.Proofs.Ytimdngcmbmamdaa
