/- Contracts of layer 15: an election hears, beats, issues, marks. Conditions: numbers of 16 bits are such. -/
import Derived.Test.YtnjmfbjgcfnanaaGreatCflo
namespace Go.Proofs.YtnjmfbjgcfnanaaGreat
open Go.Eng Go
set_option linter.unusedVariables false
set_option linter.unusedSimpArgs false

/-! ### the plain law -/
def mine (e : El) : Bool := e.root == e.me
def mayE (e : El) (root : Int) : Bool :=
  if root < 0 ∨ root ≥ e.me then false else if mine e = true then e.quiet == 0 else if e.root < 0 then true else decide (root ≤ e.root)
def newM (m o : Tvs MK) : Bool := if nwr m.1 o.1 = true then true else if m.1 = o.1 then nwr m.2.1 o.2.1 else false
def frE (l : MkL) (root : Int) (m : Tvs MK) : Bool := match mget l root with | some o => newM m o | none => true
def hrN (e : El) (l : MkL) (root : Int) (m : Tvs MK) : Int :=
  if mayE e root = false then 0 else if frE l root m = false then 0 else if e.root ≠ root then 2 else if ((mget l root).getD (0, 0, ())).1 ≠ m.1 then 2 else 1
def hrE (e : El) (root : Int) : El := { e with root := root, beats := 0, quiet := 0 }
def btB (e : El) : Bool := if mine e = true then false else if IntKind.wrap .i64 (e.beats + 1) < e.tmo then false else true
def btE (e : El) : El :=
  if mine e = true then { e with quiet := if 0 > IntKind.wrap .i64 (e.quiet - 1) then 0 else IntKind.wrap .i64 (e.quiet - 1) }
  else if IntKind.wrap .i64 (e.beats + 1) < e.tmo then { e with beats := IntKind.wrap .i64 (e.beats + 1) }
  else { e with root := e.me, beats := 0, quiet := e.ign }
def isE (e : El) : El := if mine e = true then { e with seq := IntKind.wrap .u16 (e.seq + 1) } else e
def isM (e : El) : Tvs MK := if mine e = true then (e.boot, IntKind.wrap .u16 (e.seq + 1), ()) else (0, 0, ())
def mkM (e : El) (l : MkL) : Tvs MK := if e.root < 0 then (0, 0, ()) else if mine e = true then (e.boot, e.seq, ()) else (mget l e.root).getD (0, 0, ())
def mkB (e : El) : Bool := if e.root < 0 then false else if mine e = true then decide (e.seq > 0) else true

theorem elect_Elect_Root.cl {b r : Nat} {e : El} {l : MkL} {w : World} (hB : ElB w b r e l) {k : TR [(false, [.i .i64])] → World → Prop}
    (h : k ((e.root, ()), ()) w) : clS Tryz.prog F.elect_Elect_Root [.pointer (some ⟨b, 0, none⟩)] w false [(false, [.i .i64])] k := by
  refine elect_Elect_Root.ok ?_
  unfold elect_Elect_Root.wp
  refine brF rfl ?_
  rw [ncK_eq]
  exact hB.blk.i1 5 rfl h

theorem elect_Elect_may.cl {b r : Nat} {e : El} {l : MkL} {root : Int} {w : World} (hB : ElB w b r e l) {k : TR [(false, [.b])] → World → Prop}
    (h : ∀ w', Gro w w' → k ((mayE e root, ()), ()) w') : clS Tryz.prog F.elect_Elect_may [.pointer (some ⟨b, 0, none⟩), .int .i64 root] w false [(false, [.b])] k := by
  refine elect_Elect_may.ok ?_
  unfold elect_Elect_may.wp
  refine CutT.by (fun z w' => w' = w ∧ (z.1 = true ↔ root < 0 ∨ root ≥ e.me)) ?_ ?_
  · refine brD (fun c => ⟨rfl, by have c : root < 0 := c; simp [c]⟩) fun c => ?_
    have c : ¬ root < 0 := c
    rw [ncK_eq]
    exact hB.blk.i0 rfl ⟨rfl, by simp [c]⟩
  · rintro ⟨z, _⟩ _ ⟨rfl, hz⟩ _
    dsimp only at hz
    unfold mayE at h
    refine brC (fun c => ?_) fun c => ?_
    · have c : z = true := c
      have := h _ (Gro.refl _)
      rw [if_pos (hz.1 c)] at this; exact this
    · have c : z = false := c
      have hn : ¬ (root < 0 ∨ root ≥ e.me) := fun x => by rw [hz.2 x] at c; cases c
      rw [if_neg hn] at h
      refine elect_Elect_Mine.cl hB fun w7 u7 => ?_
      have hB := hB.gro u7
      refine brC (fun c => ?_) fun c => ?_
      · have c : mine e = true := c
        rw [if_pos c] at h
        rw [ncK_eq]
        exact hB.blk.i1 7 rfl (h _ u7)
      · have c : mine e = false := c
        rw [if_neg (by rw [c]; simp)] at h
        rw [ncK_eq]
        refine hB.blk.i1 5 rfl (brD (fun c => ?_) fun c => ?_)
        · have c : e.root < 0 := c
          rw [if_pos c] at h; exact h _ u7
        · have c : ¬ e.root < 0 := c
          rw [if_neg c] at h
          rw [ncK_eq]
          exact hB.blk.i1 5 rfl (h _ u7)

theorem elect_Mark_newer.cl {m o : Tvs MK} {w : World} {k : TR [(false, [.b])] → World → Prop} (h : ∀ w', Gro w w' → k ((newM m o, ()), ()) w') :
    clS Tryz.prog F.elect_Mark_newer [.agg #[.int .u16 m.1, .int .u16 m.2.1], .agg #[.int .u16 o.1, .int .u16 o.2.1]] w false [(false, [.b])] k := by
  refine elect_Mark_newer.ok ?_
  unfold elect_Mark_newer.wp
  refine alK_by fun p1 w2 e1 k1 u1 => alK_by fun p3 w4 e3 k3 u3 => ?_
  have q := k1.gro u3
  have g := u1.trans u3
  unfold newM at h
  refine q.c0 rfl (k3.c0 rfl (wrap_Newer.cl (brC (fun c => ?_) fun c => q.c0 rfl (k3.c0 rfl (brE (fun c2 => q.c1 1 rfl (k3.c1 1 rfl (wrap_Newer.cl ?_))) fun c2 => ?_)))))
  · have c : nwr m.1 o.1 = true := c
    have := h _ g
    rw [if_pos c] at this; exact this
  · have c : nwr m.1 o.1 = false := c
    have c2 : m.1 = o.1 := c2
    have := h _ g
    rw [if_neg (by rw [c]; simp), if_pos c2] at this; exact this
  · have c : nwr m.1 o.1 = false := c
    have c2 : m.1 ≠ o.1 := c2
    have := h _ g
    rw [if_neg (by rw [c]; simp), if_neg c2] at this; exact this

def elS (b r : Nat) : Nat → Prop := fun z => z = b ∨ z = r

set_option maxRecDepth 20000 in
set_option maxHeartbeats 800000 in
theorem elect_Elect_Hear.cl {b r : Nat} {e : El} {l : MkL} {root : Int} {m : Tvs MK} {w : World} (hB : ElB w b r e l) {k : TR [(false, [.i .i64])] → World → Prop}
    (h0 : hrN e l root m = 0 → ∀ w', Gro w w' → k ((0, ()), ()) w')
    (h1 : ∀ c, hrN e l root m = c → c ≠ 0 → ∀ w', ElB w' b r (hrE e root) (mset l root m) → Upd (elS b r) w w' → k ((c, ()), ()) w') :
    clS Tryz.prog F.elect_Elect_Hear [.pointer (some ⟨b, 0, none⟩), .int .i64 root, .agg #[.int .u16 m.1, .int .u16 m.2.1]] w false [(false, [.i .i64])] k := by
  refine elect_Elect_Hear.ok ?_
  unfold elect_Elect_Hear.wp
  refine alK_by fun p1 w2 e1 k1 u1 => brF rfl ?_
  have lb := hB.blk.lt
  have lr := hB.map.lt
  refine elect_Elect_may.cl (hB.gro u1) fun w4 u4 => brNot (fun c => ?_) fun c => ?_
  · have c : mayE e root = false := c
    exact h0 (by unfold hrN; rw [if_pos c]) w4 (u1.trans u4)
  have cm : ¬ mayE e root = false := by have c : mayE e root = true := c; rw [c]; simp
  have g4 := u1.trans u4
  have B4 := hB.gro g4
  rw [ncK_eq]
  refine B4.blk.c1 8 (c := .m) (x := some r) rfl ?_
  refine lkO_by B4.map (z := ((0 : Int), (0 : Int), ())) (kt := T.int) (et := T.elect_Mark) (by kernel_rfl) (by kernel_rfl) (fun w => by kernel_rfl) ?_
  generalize hx : (mget l root).getD (0, 0, ()) = x
  refine alK_by fun p9 w10 e9 k9 u9 => k9.sta _ rfl rfl fun w11 k11 u11 => ?_
  have g11 : Gro w4 w11 := Gro.fresh (Gro.refl _) u9 u11 e9
  have q1 := k1.gro (u4.trans g11)
  have l1 := k1.lt
  have s4 := u4.size
  refine CutT.by (fun _ w' => Gro w11 w' ∧ frE l root m = true) ?_ ?_
  · cases hm : mget l root with
    | none => exact brF rfl ⟨Gro.refl _, by unfold frE; rw [hm]⟩
    | some o =>
      have ho : x = o := by rw [← hx, hm]; rfl
      refine brT rfl (q1.cA (cs := MK) m rfl (k11.cA (cs := MK) x rfl (elect_Mark_newer.cl fun w18 u18 => brNot (fun c => ?_) fun c => ?_)))
      · have c : newM m x = false := c
        refine h0 ?_ w18 ((g4.trans g11).trans u18)
        unfold hrN frE
        rw [if_neg cm, hm]
        dsimp only
        rw [← ho, if_pos c]
      · have c : newM m x = true := c
        exact ⟨u18, by unfold frE; rw [hm, ← ho]; exact c⟩
  rintro _ w14 ⟨u14, hf⟩ _
  have B14 := (B4.gro g11).gro u14
  have q14 := q1.gro u14
  have x14 := k11.gro u14
  have hN : hrN e l root m = if e.root ≠ root then 2 else if x.1 ≠ m.1 then 2 else 1 := by
    unfold hrN; rw [if_neg cm, if_neg (by rw [hf]; simp), hx]
  refine CutT.by (fun z w' => w' = w14 ∧ hrN e l root m = if z.1 = true then 2 else 1) ?_ ?_
  · rw [ncK_eq]
    refine B14.blk.i1 5 rfl (brN (fun c => ⟨rfl, ?_⟩) fun c => x14.c0 rfl (q14.c0 rfl ⟨rfl, ?_⟩))
    · have c : e.root ≠ root := c
      rw [hN, if_pos c]; rfl
    · have c : e.root = root := c
      rw [hN, if_neg (fun h => h c)]
      show _ = if (x.1 != m.1) = true then (2 : Int) else 1
      by_cases hxm : x.1 = m.1
      · rw [if_neg (fun h => h hxm), if_neg (by simp [hxm])]
      · rw [if_pos hxm, if_pos (by simp [hxm])]
  rintro ⟨z, _⟩ _ ⟨rfl, hz⟩ _
  dsimp only at hz
  rw [drK_eq, ncK_eq]
  have B := B14.gro (Gro.drew _)
  refine B.blk.c1 8 (c := .m) (x := some r) rfl (q14.drew.cA (cs := MK) m rfl ?_)
  refine muK_by (v := m) B.map (kt := T.int) (et := T.elect_Mark) (by kernel_rfl) (by kernel_rfl) fun w30 M30 u30 => ⟨trivial, ?_⟩
  have ne := MapT.ne hB.map hB.blk
  have b30 := B.blk.upd u30 ne
  rw [ncK_eq]
  refine b30.sN 5 _ (by simp [elC]) rfl fun w32 k32 u32 => ?_
  rw [ncK_eq]
  refine k32.sN 6 _ (by simp [elC, splice]) rfl fun w34 k34 u34 => ?_
  rw [ncK_eq]
  refine k34.sN 7 _ (by simp [elC, splice]) rfl fun w36 k36 u36 => ?_
  have M36 := ((M30.upd u32 (fun h => ne h.symm)).upd u34 (fun h => ne h.symm)).upd u36 (fun h => ne h.symm)
  have G14 := ((g4.trans g11).trans u14).trans (Gro.drew _)
  have U : Upd (elS b r) w w36 := Upd.trans (Upd.trans (Upd.trans (Upd.trans (Upd.of_gro G14) u30 fun i _ h => .inr h) u32 fun i _ h => .inl h) u34 fun i _ h => .inl h) u36 fun i _ h => .inl h
  have fin : ∀ c, hrN e l root m = c → c ≠ 0 → k ((c, ()), ()) w36 := fun c hc h => h1 c hc h w36 ⟨k36, M36⟩ U
  refine brC (fun c => ?_) fun c => ?_
  · have c : z = true := c
    rw [if_pos c] at hz
    exact fin 2 hz (by decide)
  · have c : z = false := c
    rw [if_neg (by rw [c]; simp)] at hz
    exact fin 1 hz (by decide)

set_option maxRecDepth 20000 in
theorem elect_Elect_Beat.cl {b r : Nat} {e : El} {l : MkL} {w : World} (hB : ElB w b r e l) {k : TR [(false, [.b])] → World → Prop}
    (h : ∀ w', ElB w' b r (btE e) l → Upd (fun z => z = b) w w' → k ((btB e, ()), ()) w') :
    clS Tryz.prog F.elect_Elect_Beat [.pointer (some ⟨b, 0, none⟩)] w false [(false, [.b])] k := by
  refine elect_Elect_Beat.ok ?_
  unfold elect_Elect_Beat.wp
  have ne := MapT.ne hB.map hB.blk
  refine brF rfl (elect_Elect_Mine.cl hB fun w2 u2 => ?_)
  have B2 := hB.gro u2
  refine brC (fun c => ?_) fun c => ?_
  · have c : mine e = true := c
    rw [ncK_eq]
    refine B2.blk.i1 7 rfl ?_
    rw [ncK_eq]
    refine B2.blk.sN 7 _ (by simp [elC]) rfl fun w6 k6 u6 => ?_
    have := h w6 ⟨by unfold btE; rw [if_pos c]; exact k6, (B2.map.upd u6 (fun h => ne h.symm))⟩ (Upd.trans (Upd.of_gro u2) u6 fun _ _ h => h)
    unfold btB at this; rw [if_pos c] at this; exact this
  · have c : ¬ mine e = true := by have c : mine e = false := c; rw [c]; simp
    rw [ncK_eq]
    refine B2.blk.i1 6 rfl ?_
    rw [ncK_eq]
    refine B2.blk.sN 6 _ (by simp [elC]) rfl fun w10 k10 u10 => ?_
    have U10 : Upd (fun z => z = b) w w10 := Upd.trans (Upd.of_gro u2) u10 fun _ _ h => h
    have M10 := B2.map.upd u10 (fun h => ne h.symm)
    change Blk w10 b (elC { e with beats := IntKind.wrap .i64 (e.beats + 1) } (some r)) at k10
    rw [drK_eq, ncK_eq]
    refine k10.drew.i1 6 rfl ?_
    rw [ncK_eq]
    refine k10.drew.i1 1 rfl (brD (fun c2 => ?_) fun c2 => ?_)
    · have c2 : IntKind.wrap .i64 (e.beats + 1) < e.tmo := c2
      have := h _ ⟨by unfold btE; rw [if_neg c, if_pos c2]; exact k10.drew, M10.drew⟩ U10.drew
      unfold btB at this; rw [if_neg c, if_pos c2] at this; exact this
    · have c2 : ¬ IntKind.wrap .i64 (e.beats + 1) < e.tmo := c2
      rw [drK_eq, ncK_eq]
      have k11 := k10.drew.drew
      refine k11.i0 rfl ?_
      rw [ncK_eq]
      refine k11.c2 1 1 (x := e.ign) rfl ?_
      rw [ncK_eq]
      refine k11.sN 5 _ (by simp [elC]) rfl fun w22 k22 u22 => ⟨trivial, ?_⟩
      rw [ncK_eq]
      refine k22.sN 6 _ (by simp [elC, splice]) rfl fun w24 k24 u24 => ⟨trivial, ?_⟩
      rw [ncK_eq]
      refine k24.sN 7 _ (by simp [elC, splice]) rfl fun w26 k26 u26 => ⟨trivial, ?_⟩
      have M26 := (((M10.drew.drew.upd u22 (fun h => ne h.symm)).upd u24 (fun h => ne h.symm)).upd u26 (fun h => ne h.symm))
      have := h w26 ⟨by unfold btE; rw [if_neg c, if_neg c2]; exact k26, M26⟩ (Upd.trans (Upd.trans (Upd.trans U10.drew.drew u22 fun _ _ h => h) u24 fun _ _ h => h) u26 fun _ _ h => h)
      unfold btB at this; rw [if_neg c, if_neg c2] at this; exact this

set_option maxRecDepth 20000 in
theorem elect_Elect_Issue.cl {b r : Nat} {e : El} {l : MkL} {w : World} (hB : ElB w b r e l) {k : TR [(true, MK), (false, [.b])] → World → Prop}
    (h : ∀ w', ElB w' b r (isE e) l → Upd (fun z => z = b) w w' → k (isM e, (mine e, ()), ()) w') :
    clS Tryz.prog F.elect_Elect_Issue [.pointer (some ⟨b, 0, none⟩)] w true [(true, MK), (false, [.b])] k := by
  refine elect_Elect_Issue.ok ?_
  unfold elect_Elect_Issue.wp
  have ne := MapT.ne hB.map hB.blk
  have lb := hB.blk.lt
  refine alK_by fun p1 w2 e1 k1 u1 => elect_Elect_Mine.cl (hB.gro u1) fun w4 u4 => ?_
  have B4 := (hB.gro u1).gro u4
  have k4 := k1.gro u4
  unfold isE isM at h
  refine brNot (fun c => ?_) fun c => ?_
  · have c : mine e = false := c
    refine k4.sta _ rfl rfl fun w5 k5 u5 => k5.cA (cs := MK) (0, 0, ()) rfl ?_
    have g5 : Gro w w5 := Upd.trans (u1.trans u4) u5 fun i hi h => by omega
    rw [c, if_neg (by simp), if_neg (by simp)] at h
    exact h w5 (hB.gro g5) (Upd.of_gro g5)
  · have c : mine e = true := c
    rw [c, if_pos rfl, if_pos rfl] at h
    rw [ncK_eq]
    refine B4.blk.c1 4 rfl (wrap_Next.cl ?_)
    rw [ncK_eq]
    refine B4.blk.sN 4 _ (by simp [elC]) rfl fun w12 k12 u12 => ?_
    change Blk w12 b (elC { e with seq := IntKind.wrap .u16 (e.seq + 1) } (some r)) at k12
    rw [drK_eq, ncK_eq]
    refine k12.drew.c1 3 rfl ?_
    rw [ncK_eq]
    refine k12.drew.c1 4 rfl ?_
    have n1 : p1 ≠ b := by omega
    refine (k4.upd u12 n1).drew.sta _ rfl rfl fun w18 k18 u18 => ⟨trivial, k18.cA (cs := MK) (e.boot, IntKind.wrap .u16 (e.seq + 1), ()) rfl ?_⟩
    have lr := hB.map.lt
    refine h w18 ⟨k12.drew.upd u18 (fun h => n1 h.symm), ((B4.map.upd u12 (fun h => ne h.symm)).drew).upd u18 (by omega)⟩ ?_
    exact Upd.trans (Upd.trans (Upd.of_gro (u1.trans u4)) u12 fun _ _ h => h).drew u18 fun i hi h => by omega

set_option maxRecDepth 20000 in
theorem elect_Elect_Mark.cl {b r : Nat} {e : El} {l : MkL} {w : World} (hB : ElB w b r e l) {k : TR [(true, MK), (false, [.b])] → World → Prop}
    (h : ∀ w', Gro w w' → k (mkM e l, (mkB e, ()), ()) w') :
    clS Tryz.prog F.elect_Elect_Mark [.pointer (some ⟨b, 0, none⟩)] w true [(true, MK), (false, [.b])] k := by
  refine elect_Elect_Mark.ok ?_
  unfold elect_Elect_Mark.wp
  have lb := hB.blk.lt
  refine alK_by fun p1 w2 e1 k1 u1 => ?_
  have B2 := hB.gro u1
  unfold mkM mkB at h
  refine CutT.by (fun z w' => w' = w2 ∧ (z.1 = true ↔ e.root < 0)) ?_ ?_
  · refine brF rfl ?_
    rw [ncK_eq]
    exact B2.blk.i1 5 rfl ⟨rfl, by simp⟩
  rintro ⟨z, _⟩ _ ⟨rfl, hz⟩ _
  dsimp only at hz
  refine brC (fun c => ?_) fun c => ?_
  · have c : z = true := c
    rw [if_pos (hz.1 c), if_pos (hz.1 c)] at h
    refine k1.sta _ rfl rfl fun w8 k8 u8 => k8.cA (cs := MK) (0, 0, ()) rfl (h w8 (Gro.fresh (Gro.refl _) u1 u8 e1))
  have c : z = false := c
  have hn : ¬ e.root < 0 := fun x => by rw [hz.2 x] at c; cases c
  rw [if_neg hn, if_neg hn] at h
  refine elect_Elect_Mine.cl B2 fun w11 u11 => ?_
  have B := (B2.gro u11).gro (Gro.drew _)
  have k11 := (k1.gro u11).drew
  have g : Gro w w11.drew := (u1.trans u11).trans (Gro.drew _)
  refine brC (fun c => ?_) fun c => ?_
  · have c : mine e = true := c
    rw [if_pos c, if_pos c] at h
    rw [drK_eq, ncK_eq]
    refine B.blk.c1 3 rfl ?_
    rw [ncK_eq]
    refine B.blk.c1 4 rfl ?_
    rw [ncK_eq]
    refine B.blk.c1 4 rfl ?_
    refine k11.sta _ rfl rfl fun w19 k19 u19 => ⟨⟨?_, trivial⟩, k19.cA (cs := MK) (e.boot, e.seq, ()) rfl (h w19 (Upd.trans g u19 fun i hi h => by omega))⟩
    exact B.blk.hold u19 (by omega) 4 (by simp [elC])
  · have c : ¬ mine e = true := by have c : mine e = false := c; rw [c]; simp
    rw [if_neg c, if_neg c] at h
    rw [drK_eq, ncK_eq]
    refine B.blk.c1 8 (c := .m) (x := some r) rfl ?_
    rw [ncK_eq]
    refine B.blk.i1 5 rfl ?_
    refine lkP_by B.map (z := ((0 : Int), (0 : Int), ())) (kt := T.int) (et := T.elect_Mark) (by kernel_rfl) (by kernel_rfl) (fun w => by kernel_rfl) ⟨trivial, ?_⟩
    refine k11.sta _ rfl rfl fun w27 k27 u27 => ⟨trivial, k27.cA (cs := MK) ((mget l e.root).getD (0, 0, ())) rfl (h w27 (Upd.trans g u27 fun i hi h => by omega))⟩
end Go.Proofs.YtnjmfbjgcfnanaaGreat
