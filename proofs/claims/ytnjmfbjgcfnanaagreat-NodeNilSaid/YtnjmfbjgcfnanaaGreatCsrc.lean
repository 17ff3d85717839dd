/- Contracts of layer 19 and the laws SourceExact and SourceAges. Conditions: numbers of 16 bits are such. -/
import Derived.Test.YtnjmfbjgcfnanaaGreatCflo
namespace Go.Proofs.YtnjmfbjgcfnanaaGreat
open Go.Eng Go
set_option linter.unusedVariables false
set_option linter.unusedSimpArgs false

/-- a stored answer: limit, the entry, whose, age, present -/
structure So where
  limit : Int
  e : E3
  root : Int
  boot : Int
  age : Int
  has : Bool
def soC (s : So) : List Value := [.int .i64 s.limit, .int .i64 s.e.1, .int .i64 s.e.2.1, .int .i64 s.e.2.2, .int .i64 s.root, .int .u16 s.boot, .int .i64 s.age, .bool s.has]

def goodE (e : E3) : Bool := decide (0 ≤ e.1) && decide (e.1 ≤ 1125899906842624) && decide (-1125899906842624 ≤ e.2.1) && decide (e.2.1 ≤ 1125899906842624) && decide (1 ≤ e.2.2) && decide (e.2.2 ≤ 63)
theorem goodE_iff {e : E3} : goodE e = true ↔ 0 ≤ e.1 ∧ e.1 ≤ 1125899906842624 ∧ -1125899906842624 ≤ e.2.1 ∧ e.2.1 ≤ 1125899906842624 ∧ 1 ≤ e.2.2 ∧ e.2.2 ≤ 63 := by unfold goodE; simp [and_assoc]

set_option maxRecDepth 20000 in
theorem table_Entry_Good.cl' {e : E3} {w : World} {k : TR [(false, [.b])] → World → Prop} (h : ∀ w', Gro w w' → k ((goodE e, ()), ()) w') : clS Tryz.prog F.table_Entry_Good [.agg #[.int .i64 e.1, .int .i64 e.2.1, .int .i64 e.2.2]] w false [(false, [.b])] k := by
  refine table_Entry_Good.ok ?_
  unfold table_Entry_Good.wp
  refine alK_by fun p1 w2 e1 k1 u1 => ?_
  have key : ∀ b : Bool, (b = true ↔ 0 ≤ e.1 ∧ e.1 ≤ 1125899906842624 ∧ -1125899906842624 ≤ e.2.1 ∧ e.2.1 ≤ 1125899906842624 ∧ 1 ≤ e.2.2 ∧ e.2.2 ≤ 63) → k ((b, ()), ()) w2 := fun b hb => by
    have : b = goodE e := by rw [Bool.eq_iff_iff, hb, goodE_iff]
    rw [this]; exact h w2 u1
  refine k1.i0 rfl (brD (fun c1 => k1.i0 rfl (brD (fun c2 => k1.i1 1 rfl (brD (fun c3 => k1.i1 1 rfl (brD (fun c4 => k1.i1 2 rfl (brD (fun c5 => k1.i1 2 rfl (key _ ?_)) fun c5 => key _ ?_)) fun c4 => key _ ?_)) fun c3 => key _ ?_)) fun c2 => key _ ?_)) fun c1 => key _ ?_) <;> ((try replace c1 : e.1 ≥ 0 := c1); (try replace c1 : ¬ e.1 ≥ 0 := c1); (try replace c2 : e.1 ≤ 1125899906842624 := c2); (try replace c2 : ¬ e.1 ≤ 1125899906842624 := c2); (try replace c3 : e.2.1 ≥ -1125899906842624 := c3); (try replace c3 : ¬ e.2.1 ≥ -1125899906842624 := c3); (try replace c4 : e.2.1 ≤ 1125899906842624 := c4); (try replace c4 : ¬ e.2.1 ≤ 1125899906842624 := c4); (try replace c5 : e.2.2 ≥ 1 := c5); (try replace c5 : ¬ e.2.2 ≥ 1 := c5); (try show decide (e.2.2 ≤ 63) = true ↔ _); simp; omega)

theorem source_New.cl {limit : Int} {w : World} {k : TR [(false, [.p]), (false, [.i .i64])] → World → Prop}
    (h0 : (limit < 1 ∨ limit > 1000) → k ((none, ()), (1, ()), ()) w)
    (h1 : 1 ≤ limit → limit ≤ 1000 → ∀ b w', w.heap.size ≤ b → Blk w' b (soC ⟨limit, (0, 0, 0), 0, 0, 0, false⟩) → Gro w w' → k ((some ⟨b, 0, none⟩, ()), (0, ()), ()) w') :
    clS Tryz.prog F.source_New [.int .i64 limit] w true [(false, [.p]), (false, [.i .i64])] k := by
  refine source_New.ok ?_
  unfold source_New.wp
  refine brD (fun c => h0 (.inl c)) fun c1 => brD (fun c => h0 (.inr c)) fun c2 => ?_
  have c1 : ¬ limit < 1 := c1
  have c2 : ¬ limit > 1000 := c2
  exact alK_by fun b w2 e k1 u1 => h1 (by omega) (by omega) b w2 (by omega) k1 u1

def putOk (e : E3) (root : Int) : Bool := goodE e && decide (0 ≤ root) && decide (root < 64)
theorem putOk_iff {e : E3} {r : Int} : putOk e r = true ↔ goodE e = true ∧ 0 ≤ r ∧ r < 64 := by unfold putOk; simp [and_assoc]

set_option maxRecDepth 20000 in
theorem source_Source_Put.cl {b : Nat} {s : So} {e : E3} {root boot : Int} {w : World} (hB : Blk w b (soC s)) {k : TR [(false, [.i .i64])] → World → Prop}
    (h0 : putOk e root = false → ∀ w', Gro w w' → k ((1, ()), ()) w')
    (h1 : putOk e root = true → ∀ w', Blk w' b (soC { s with e := e, root := root, boot := boot, age := 0, has := true }) → Upd (fun x => x = b) w w' → k ((0, ()), ()) w') :
    clS Tryz.prog F.source_Source_Put [.pointer (some ⟨b, 0, none⟩), .agg #[.int .i64 e.1, .int .i64 e.2.1, .int .i64 e.2.2], .agg #[.int .i64 root, .int .u16 boot]] w false [(false, [.i .i64])] k := by
  refine source_Source_Put.ok ?_
  unfold source_Source_Put.wp
  refine alK_by fun p1 w2 e1 k1 u1 => alK_by fun p3 w4 e3 k3 u3 => brF rfl ((k1.gro u3).ld3 (table_Entry_Good.cl' fun w7 u7 => ?_))
  have g7 := (u1.trans u3).trans u7
  have no : (goodE e = true → 0 ≤ root → root < 64 → False) → putOk e root = false := fun h => by
    cases hp : putOk e root
    · rfl
    · obtain ⟨a, b, c⟩ := putOk_iff.1 hp; exact (h a b c).elim
  refine brNot (fun c => h0 (no fun x _ _ => by have c : goodE e = false := c; rw [c] at x; cases x) w7 g7) fun c0 => ?_
  have c0 : goodE e = true := c0
  have q1 := (k1.gro u3).gro u7
  have q3 := k3.gro u7
  refine q3.i0 rfl (brD (fun c => h0 (no fun _ x _ => by have c : root < 0 := c; omega) w7 g7) fun c1 => q3.i0 rfl (brD (fun c => h0 (no fun _ _ x => by have c : root ≥ 64 := c; omega) w7 g7) fun c2 => ?_))
  have c1 : ¬ root < 0 := c1
  have c2 : ¬ root ≥ 64 := c2
  rw [drK_eq]
  have lb := hB.lt
  refine q1.drew.ld3 (q3.drew.cA (cs := [.i .i64, .i .u16]) (root, boot, ()) rfl ?_)
  rw [ncK_eq]
  have B7 := (hB.gro g7).drew
  have n13 : b ≠ p1 ∧ b ≠ p3 := by have := u1.size; omega
  refine B7.sN 1 _ (by simp [soC]) rfl fun w14 k14 u14 => ⟨⟨q3.drew.hold2 u14 (by omega) 0 0 (by simp), q3.drew.hold2 u14 (by omega) 0 1 (by simp), trivial⟩, ?_⟩
  rw [ncK_eq]
  refine k14.sN 4 _ (by simp [soC, splice]) rfl fun w16 k16 u16 => ⟨trivial, ?_⟩
  rw [ncK_eq]
  refine k16.sN 6 _ (by simp [soC, splice]) rfl fun w18 k18 u18 => ⟨trivial, ?_⟩
  rw [ncK_eq]
  refine k18.sN 7 _ (by simp [soC, splice]) rfl fun w20 k20 u20 => ⟨trivial, ?_⟩
  refine h1 (putOk_iff.2 ⟨c0, by omega, by omega⟩) w20 k20 ?_
  exact Upd.trans (Upd.trans (Upd.trans (Upd.trans (Upd.of_gro (g7.trans (Gro.drew _))) u14 fun _ _ h => h) u16 fun _ _ h => h) u18 fun _ _ h => h) u20 fun _ _ h => h

theorem source_Source_Drop.cl {b : Nat} {s : So} {w : World} (hB : Blk w b (soC s)) {k : TR [] → World → Prop} (h : ∀ w', Blk w' b (soC ⟨s.limit, (0, 0, 0), 0, 0, 0, false⟩) → Upd (fun x => x = b) w w' → k () w') :
    clS Tryz.prog F.source_Source_Drop [.pointer (some ⟨b, 0, none⟩)] w true [] k := by
  refine source_Source_Drop.ok ?_
  unfold source_Source_Drop.wp
  refine brT rfl ?_
  rw [ncK_eq]
  refine hB.i0 rfl ?_
  rw [ncK_eq]
  exact hB.sta _ rfl rfl fun w4 k4 u4 => h w4 k4 u4

set_option maxRecDepth 20000 in
/-- a round of a present answer -/
theorem source_Source_Beat.cl {b : Nat} {s : So} {w : World} (hB : Blk w b (soC s)) (hh : s.has = true) (ha : 0 ≤ s.age ∧ s.age ≤ 1000) {k : TR [] → World → Prop}
    (h0 : s.age + 1 ≥ s.limit → ∀ w', Blk w' b (soC ⟨s.limit, (0, 0, 0), 0, 0, 0, false⟩) → Upd (fun x => x = b) w w' → k () w')
    (h1 : s.age + 1 < s.limit → ∀ w', Blk w' b (soC { s with age := s.age + 1 }) → Upd (fun x => x = b) w w' → k () w') :
    clS Tryz.prog F.source_Source_Beat [.pointer (some ⟨b, 0, none⟩)] w true [] k := by
  refine source_Source_Beat.ok ?_
  unfold source_Source_Beat.wp
  refine brF rfl ?_
  rw [ncK_eq]
  refine hB.c1 7 (c := .b) (x := s.has) rfl (brF (by rw [hh]; rfl) ?_)
  rw [ncK_eq]
  refine hB.i1 6 rfl ?_
  rw [ncK_eq, w64_in (by unfold I64; omega)]
  refine hB.sN 6 _ (by simp [soC]) rfl fun w6 k6 u6 => ?_
  rw [drK_eq, ncK_eq]
  have k6 : Blk w6 b (soC { s with age := s.age + 1 }) := k6
  refine k6.drew.i1 6 rfl ?_
  rw [ncK_eq]
  refine k6.drew.i0 rfl (brD (fun c => ?_) fun c => ?_)
  · exact source_Source_Drop.cl k6.drew fun w13 k13 u13 => h0 c w13 k13 (Upd.trans u6.drew u13 fun _ _ h => h)
  · exact h1 (by have c : ¬ s.age + 1 ≥ s.limit := c; omega) _ k6.drew u6.drew
abbrev A5 := Int × Int × Int × Int × Int
abbrev K5 : List CK := [.i .i64, .i .i64, .i .i64, .i .u16, .i .i64]
def cA5 (a : A5) : List Value := [.int .i64 a.1, .int .i64 a.2.1, .int .i64 a.2.2.1, .int .u16 a.2.2.2.1, .int .i64 a.2.2.2.2]
def tA5 (a : A5) : Tvs K5 := (a.1, a.2.1, a.2.2.1, a.2.2.2.1, a.2.2.2.2, ())
/-- the answer while the flood is not synchronized -/
def tmS (s : So) (loc : Int) : A5 × Int :=
  if s.has = false then ((0, 0, 0, 0, 0), 9)
  else if loc < 0 ∨ loc > 1125899906842624 then ((0, 0, 0, 0, 0), 8)
  else if IntKind.wrap .i64 (loc + s.e.2.1) < 0 ∨ IntKind.wrap .i64 (loc + s.e.2.1) > 1125899906842624 then ((0, 0, 0, 0, 0), 8)
  else ((IntKind.wrap .i64 (loc + s.e.2.1), s.e.2.2, s.root, s.boot, 3), 0)

set_option maxRecDepth 20000 in
set_option maxHeartbeats 1000000 in
theorem source_Source_Time.cl0 {b bf be r : Nat} {s : So} {loc : Int} {f : Fl} {q : Sl} {e : El} {l : MkL} {es : List E3} {w : World} (hB : Blk w b (soC s)) (hF : FlB w bf be r f q e l es) (hs : synF f e es.length = false)
    {k : TR [(true, K5), (false, [.i .i64])] → World → Prop} (h : ∀ w', Gro w w' → k (tA5 (tmS s loc).1, ((tmS s loc).2, ()), ()) w') :
    clS Tryz.prog F.source_Source_Time [.pointer (some ⟨b, 0, none⟩), .pointer (some ⟨bf, 0, none⟩), .int .i64 loc] w true [(true, K5), (false, [.i .i64])] k := by
  refine source_Source_Time.ok ?_
  unfold source_Source_Time.wp
  refine alK_by fun p1 w2 e1 k1 u1 => ?_
  refine CutT.by (fun z w' => w' = w2 ∧ z.1 = false) (brF rfl ⟨rfl, rfl⟩) ?_
  rintro ⟨z, _⟩ _ ⟨rfl, hz⟩ _
  dsimp only at hz
  subst hz
  refine brF rfl (flood_Flood_Synced.cl (hF.gro u1) fun w9 u9 => brF hs ?_)
  have B9 := (hB.gro u1).gro u9
  have k9 := k1.gro u9
  have g9 := u1.trans u9
  have out : ∀ (a : A5) (c : Int) (w' : World), Gro w w' → Blk w' p1 (cA5 (0, 0, 0, 0, 0)) → tmS s loc = (a, c) → ∀ {P : Prop}, (∀ w'', Blk w'' p1 (cA5 a) → Gro w w'' → k (tA5 a, (c, ()), ()) w'') := by
    intro a c w' _ _ ht P w'' _ g
    have := h w'' g
    rw [ht] at this; exact this
  have fin : ∀ {w' w'' : World}, Gro w9 w' → Upd (fun x => x = p1) w' w'' → Gro w w'' := fun g u => Upd.trans (g9.trans g) u fun i hi h => by omega
  rw [ncK_eq]
  refine B9.c1 7 (c := .b) (x := s.has) rfl (brNot (fun c => ?_) fun c => ?_)
  · have c : s.has = false := c
    refine k9.sta _ rfl rfl fun w16 k16 u16 => k16.cA (tA5 (0, 0, 0, 0, 0)) rfl ?_
    have := h w16 (fin (Gro.refl _) u16)
    unfold tmS at this; rw [if_pos c] at this; exact this
  have c : s.has = true := c
  have e0 : ¬ s.has = false := by rw [c]; simp
  refine brD (fun c1 => ?_) fun c1 => ?_
  · have c1 : loc < 0 := c1
    refine k9.sta _ rfl rfl fun w16 k16 u16 => k16.cA (tA5 (0, 0, 0, 0, 0)) rfl ?_
    have := h w16 (fin (Gro.refl _) u16)
    unfold tmS at this; rw [if_neg e0, if_pos (.inl c1)] at this; exact this
  refine brD (fun c2 => ?_) fun c2 => ?_
  · have c2 : loc > 1125899906842624 := c2
    refine k9.sta _ rfl rfl fun w16 k16 u16 => k16.cA (tA5 (0, 0, 0, 0, 0)) rfl ?_
    have := h w16 (fin (Gro.refl _) u16)
    unfold tmS at this; rw [if_neg e0, if_pos (.inr c2)] at this; exact this
  have e1 : ¬ (loc < 0 ∨ loc > 1125899906842624) := fun h => h.elim c1 c2
  rw [ncK_eq]
  refine B9.c2 1 1 (x := s.e.2.1) rfl ?_
  refine brD (fun c3 => ?_) fun c3 => ?_
  · refine k9.sta _ rfl rfl fun w16 k16 u16 => k16.cA (tA5 (0, 0, 0, 0, 0)) rfl ?_
    have := h w16 (fin (Gro.refl _) u16)
    unfold tmS at this; rw [if_neg e0, if_neg e1, if_pos (.inl c3)] at this; exact this
  refine brD (fun c4 => ?_) fun c4 => ?_
  · refine k9.sta _ rfl rfl fun w16 k16 u16 => k16.cA (tA5 (0, 0, 0, 0, 0)) rfl ?_
    have := h w16 (fin (Gro.refl _) u16)
    unfold tmS at this; rw [if_neg e0, if_neg e1, if_pos (.inr c4)] at this; exact this
  have e2 : ¬ (IntKind.wrap .i64 (loc + s.e.2.1) < 0 ∨ IntKind.wrap .i64 (loc + s.e.2.1) > 1125899906842624) := fun h => h.elim c3 c4
  rw [drK_eq, ncK_eq]
  refine B9.drew.c2 1 2 (x := s.e.2.2) rfl ?_
  rw [ncK_eq]
  refine B9.drew.cN 4 (cs := [.i .i64, .i .u16]) (s.root, s.boot, ()) rfl ?_
  refine k9.drew.sta _ rfl rfl fun w33 k33 u33 => ⟨trivial, k33.cA (tA5 (IntKind.wrap .i64 (loc + s.e.2.1), s.e.2.2, s.root, s.boot, 3)) rfl ?_⟩
  have := h w33 (fin (Gro.drew _) u33)
  unfold tmS at this; rw [if_neg e0, if_neg e1, if_neg e2] at this; exact this

end Go.Proofs.YtnjmfbjgcfnanaaGreat
