/- Contracts: the document's Of and Tai (ref22); the laws' helpers of layer 22. Conditions: a table that is one. -/
import Derived.Test.YtimdngcmbmamdaaCutc
namespace Go.Proofs.Ytimdngcmbmamdaa
open Go.Eng Go
set_option linter.unusedVariables false
set_option linter.unusedSimpArgs false

abbrev K4 : List CK := [.i .i64, .i .i64, .i .i64, .sl]
theorem Blk.ldT {w : World} {b : Nat} {m : Tb} {s : Sl} (h : Blk w b (cT m s)) {k : Tvs K4 → Prop} (hk : k (m.st, m.ah, m.en, s, ())) : ldN K4 ⟨b, 0, none⟩ 0 w k := h.cA (cs := K4) (m.st, m.ah, m.en, s, ()) rfl hk
set_option maxRecDepth 20000 in
set_option maxHeartbeats 2000000 in
theorem ref22_Of.cl {w : World} {m : Tb} {s : Sl} (hR : RowsP w s m.ls) (hg : GoodT m) {tai : Int} (ht : I64 tai) {k : TR RUB → World → Prop}
    (h0 : (∀ x, ¬ IsOf m tai x) → ∀ w', Gro w w' → k (tU z6, (false, ()), ()) w')
    (h1 : ∀ x, IsOf m tai x → ∀ d, GoodD d → numD d = x → ∀ w', Gro w w' → k (tU (uOf d (tai - begT m x)), (true, ()), ()) w') :
    clS Try.prog F.ref22_Of [vT m s, .int .i64 tai] w true RUB k := by
  refine ref22_Of.ok ?_
  unfold ref22_Of.wp
  have hr := hg.1
  unfold Rngd at hr
  have ht' := ht
  unfold I64 at ht'
  refine alK_by fun p1 w2 e1 k1 u1 => alK_by fun p3 w4 e3 k3 u3 => ?_
  have l1 := k1.lt
  have l3 := k3.lt
  have g4 := u1.trans u3
  have q1 := k1.gro u3
  refine q1.i0 rfl (q1.i1 2 rfl ?_)
  rw [drK_eq]
  have q1 := q1.drew
  have q3 := k3.drew
  have g7 := g4.trans (Gro.drew w4)
  have fin : ∀ {w' w'' : World}, Gro w4.drew w' → Upd (fun x => x = p3) w' w'' → Gro w w'' := fun g u => Upd.trans (g7.trans g) u fun i hi h => by omega
  generalize w4.drew = w7 at q1 q3 g7 fin
  have hh : ∀ {a b}, Blk a p1 (cT m s) → Gro a b → ∀ i, i < 4 → b.cell? (Addr.add ⟨p1, 0, none⟩ i) = some ((a.cell? (Addr.add ⟨p1, 0, none⟩ i)).getD undef) := fun q u i hi => q.hold u (fun x => x) i (by simpa using hi)
  have wu : ∀ x, IsOf m tai x → begT m m.st ≤ tai ∧ tai < begT m (m.en - 1 + 1) := fun x hx => by
    obtain ⟨⟨x1, x2⟩, x3, x4⟩ := hx
    constructor
    · rcases ilt_ge m.st x with c | c
      · have := beg_mono hg c; omega
      · have : x = m.st := by omega
        subst this; exact x3
    · rcases ilt_ge (x + 1) m.en with c | c
      · have := beg_mono hg c; rw [show m.en - 1 + 1 = m.en by omega]; omega
      · have : x + 1 = m.en := by omega
        rw [show m.en - 1 + 1 = m.en by omega, ← this]; exact x4
  refine Blk.ldT q1 (ref22_Begin.cl (hR.gro g7) hg (by omega) fun w10 u10 => ⟨⟨hh q1 u10 0 (by decide), hh q1 u10 1 (by decide), hh q1 u10 2 (by decide), hh q1 u10 3 (by decide), trivial⟩, ?_⟩)
  refine brD (fun c => (q3.gro u10).sta _ rfl rfl fun w11 k11 u11 => k11.cA (cs := KU6) (tU z6) rfl (h0 (fun x hx => by have := (wu x hx).1; have c : tai < begT m m.st := c; omega) w11 (fin u10 u11))) fun c1 => ?_
  have c1 : ¬ tai < begT m m.st := c1
  have r1 := q1.gro u10
  have ee : IntKind.wrap .i64 (m.en - 1) = m.en - 1 := w64_in (by unfold I64; omega)
  refine Blk.ldT r1 (Blk.ldT r1 ?_)
  rw [ee]
  have h0' : ∀ {a b}, Gro w10 a → Gro a b → Gro w10 b := fun g u => g.trans u
  refine ref22_Begin.cl (hR.gro (g7.trans u10)) hg (by omega) fun w16 u16 => ⟨⟨hh r1 u16 0 (by decide), hh r1 u16 1 (by decide), hh r1 u16 2 (by decide), hh r1 u16 3 (by decide), hh r1 u16 0 (by decide), hh r1 u16 1 (by decide), hh r1 u16 2 (by decide), hh r1 u16 3 (by decide),
    hh q1 (u10.trans u16) 0 (by decide), hh q1 (u10.trans u16) 1 (by decide), hh q1 (u10.trans u16) 2 (by decide), hh q1 (u10.trans u16) 3 (by decide), trivial⟩, ?_⟩
  refine ref21_Step.cl (hR.gro ((g7.trans u10).trans u16)) (by have := hg.2.2.1; omega) fun w18 u18 => ⟨⟨hh r1 (u16.trans u18) 0 (by decide), hh r1 (u16.trans u18) 1 (by decide), hh r1 (u16.trans u18) 2 (by decide), hh r1 (u16.trans u18) 3 (by decide),
    hh q1 ((u10.trans u16).trans u18) 0 (by decide), hh q1 ((u10.trans u16).trans u18) 1 (by decide), hh q1 ((u10.trans u16).trans u18) 2 (by decide), hh q1 ((u10.trans u16).trans u18) 3 (by decide), trivial⟩, ?_⟩
  have bs := beg_succ hg (m.en - 1)
  have br := beg_rng hg (m.en - 1)
  have sr := st_rng hg (m.en - 1)
  have eg : IntKind.wrap .i64 (IntKind.wrap .i64 (begT m (m.en - 1) + 86400) + stS m.ls (m.en - 1)) = begT m (m.en - 1 + 1) := by
    rw [w64_in (n := begT m (m.en - 1) + 86400) (by unfold I64; omega), w64_in (by unfold I64; omega), bs]
  rw [show IntKind.wrap .i64 (IntKind.wrap .i64 ((((begT m (m.en - 1), ()), ()) : TR RI1).1.1 + 86400) + (((stS m.ls (m.en - 1), ()), ()) : TR RI1).1.1) = begT m (m.en - 1 + 1) from eg]
  have G18 := (u10.trans u16).trans u18
  refine brD (fun c => (q3.gro G18).sta _ rfl rfl fun w11 k11 u11 => k11.cA (cs := KU6) (tU z6) rfl (h0 (fun x hx => by have := (wu x hx).2; have c : tai ≥ begT m (m.en - 1 + 1) := c; omega) w11 (fin G18 u11))) fun c2 => ?_
  have c2 : ¬ tai ≥ begT m (m.en - 1 + 1) := c2
  refine LoopT.by (fun z W => m.st ≤ z.1 ∧ z.1 ≤ z.2.1 ∧ z.2.1 < m.en ∧ begT m z.1 ≤ tai ∧ tai < begT m (z.2.1 + 1) ∧ Gro w7 W) (fun z => (z.2.1 - z.1).toNat) ⟨by show m.st ≤ m.st; omega, by show m.st ≤ m.en - 1; omega, by show m.en - 1 < m.en; omega, by show begT m m.st ≤ tai; omega, by show tai < begT m (m.en - 1 + 1); omega, G18⟩ ?_
  rintro ⟨lo, hi, _⟩ W ⟨i1, i2, i3, i4, i5, hG⟩ _
  dsimp only at i1 i2 i3 i4 i5
  have qW := q1.gro hG
  refine brD (fun c => ?_) fun c => ?_
  · have c : lo < hi := c
    rw [nzK_eq (by decide)]
    have em : IntKind.wrap .i64 (lo + IntKind.wrap .i64 (Int.tdiv (IntKind.wrap .i64 (IntKind.wrap .i64 (hi - lo) + 1)) 2)) = lo + (hi - lo + 1) / 2 := by
      rw [w64_in (n := hi - lo) (by unfold I64; omega), w64_in (n := hi - lo + 1) (by unfold I64; omega), tdiv4 (by omega), w64_in (n := (hi - lo + 1) / 2) (by unfold I64; omega), w64_in (by unfold I64; omega)]
    rw [show IntKind.wrap .i64 (((lo, hi, ()) : Int × Int × Unit).1 + IntKind.wrap .i64 (Int.tdiv (IntKind.wrap .i64 (IntKind.wrap .i64 (((lo, hi, ()) : Int × Int × Unit).2.1 - ((lo, hi, ()) : Int × Int × Unit).1) + 1)) 2)) = lo + (hi - lo + 1) / 2 from em]
    generalize hmid : lo + (hi - lo + 1) / 2 = mid
    have ei : IntKind.wrap .i64 (mid - 1) = mid - 1 := w64_in (by unfold I64; omega)
    refine Blk.ldT qW (ref22_Begin.cl (hR.gro (g7.trans hG)) hg (by omega) fun w26 u26 => brD (fun c3 => ⟨⟨by show m.st ≤ mid; omega, by show mid ≤ hi; omega, i3, c3, i5, hG.trans u26⟩, by show (hi - mid).toNat < (hi - lo).toNat; omega⟩) fun c3 => ?_)
    have c3 : ¬ begT m mid ≤ tai := c3
    refine ⟨⟨i1, by show lo ≤ IntKind.wrap .i64 (mid - 1); omega, by show IntKind.wrap .i64 (mid - 1) < m.en; omega, i4, ?_, hG.trans u26⟩, by show (IntKind.wrap .i64 (mid - 1) - lo).toNat < (hi - lo).toNat; omega⟩
    show tai < begT m (IntKind.wrap .i64 (mid - 1) + 1)
    rw [ei, show mid - 1 + 1 = mid by omega]; omega
  · have c : ¬ lo < hi := c
    have : lo = hi := by omega
    subst this
    have hIs : IsOf m tai lo := ⟨⟨i1, i3⟩, i4, i5⟩
    have h1 := h1 lo hIs
    have bs := beg_succ hg lo
    have br := beg_rng hg lo
    have sr := st_rng hg lo
    have es : IntKind.wrap .i64 (tai - begT m lo) = tai - begT m lo := w64_in (by unfold I64; omega)
    refine Blk.ldT qW (ref22_Begin.cl (hR.gro (g7.trans hG)) hg (by show -10000000 ≤ lo ∧ lo ≤ 10000000; omega) fun w29 u29 => ref22_date.cl (by show -719162 ≤ lo; omega) (by show lo ≤ 2932896; omega) fun d hd hn w31 u31 => ?_)
    have h1 := h1 d hd hn
    rw [show IntKind.wrap .i64 (tai - (((begT m lo, ()), ()) : TR RI1).1.1) = tai - begT m lo from es]
    refine alK_by fun p32 w33 e32 k32 u33 => k32.sta _ rfl rfl fun w34 k34 u34 => ?_
    have g34 : Gro w7 w34 := Gro.fresh ((hG.trans u29).trans u31) u33 u34 e32
    unfold uOf at h1
    have q34 := q3.gro g34
    refine brE (fun c2 => ?_) fun c2 => ?_
    · rw [if_pos c2] at h1
      refine k34.ld3 (q34.sta _ rfl rfl fun w36 k36 u36 => k36.cA (cs := KU6) (d.1, d.2.1, d.2.2, 23, 59, 60, ()) rfl (h1 w36 (fin g34 u36)))
    · rw [if_neg c2] at h1
      refine k34.ld3 ?_
      have s0 : 0 ≤ tai - begT m lo := by omega
      have s1 : tai - begT m lo ≤ 86400 := by omega
      generalize tai - begT m lo = sec at *
      rw [nzK_eq (by decide), nzK_eq (by decide), nzK_eq (by decide), nzK_eq (by decide), tdiv4 s0, tmod4 s0, tmod4 s0, w64_in (n := sec / 3600) (by unfold I64; omega), tdiv4 (by omega), w64_in (n := sec % 3600 / 60) (by unfold I64; omega)]
      exact q34.sta _ rfl rfl fun w36 k36 u36 => k36.cA (cs := KU6) (d.1, d.2.1, d.2.2, sec / 3600, sec % 3600 / 60, sec % 60, ()) rfl (h1 w36 (fin g34 u36))
set_option maxRecDepth 20000 in
set_option maxHeartbeats 1000000 in
theorem ref22_Tai.cl {w : World} {m : Tb} {s : Sl} (hR : RowsP w s m.ls) (hg : GoodT m) {u : U6} {k : TR RII → World → Prop} (h : ∀ w', Gro w w' → k (((taiS m u).1, ()), ((taiS m u).2, ()), ()) w') :
    clS Try.prog F.ref22_Tai [vT m s, vU u] w true RII k := by
  refine ref22_Tai.ok ?_
  unfold ref22_Tai.wp
  have out : ∀ {a : Int × Int}, taiS m u = a → ∀ w', Gro w w' → k ((a.1, ()), (a.2, ()), ()) w' := fun e => by subst e; exact h
  clear h
  refine alK_by fun p1 w2 e1 k1 u1 => alK_by fun p3 w4 e3 k3 u3 => ?_
  have q1 := k1.gro u3
  have g4 := u1.trans u3
  refine Blk.ldU (u := u) k3 (ref22_Good.cl fun w7 u7 => brNot (fun c => ?_) fun c => ?_)
  · have c : goodUb u = false := c
    exact out (a := (0, 1)) (by unfold taiS; rw [if_pos (of_decide_eq_false c)]) w7 (g4.trans u7)
  have c : GoodU u := of_decide_eq_true c
  refine Blk.ldUd (u := u) (k3.gro u7) (ref20_Number.cl (d := dU u) c.1 fun w10 u10 => ?_)
  have r1 := (q1.gro u7).gro u10
  have r3 := (k3.gro u7).gro u10
  have g10 := (g4.trans u7).trans u10
  have nin : ¬ inR m (numD (dU u)) → k ((0, ()), (11, ()), ()) w10 := fun hn => out (a := (0, 11)) (by unfold taiS; rw [if_neg (fun x => x c), if_pos hn]) w10 g10
  refine r1.i0 rfl (brD (fun c2 => nin fun x => by have := x.1; have c2 : numD (dU u) < m.st := c2; omega) fun c2 => ?_)
  refine r1.i1 2 rfl (brD (fun c3 => nin fun x => by have := x.2; have c3 : numD (dU u) ≥ m.en := c3; omega) fun c3 => ?_)
  have c2 : ¬ numD (dU u) < m.st := c2
  have c3 : ¬ numD (dU u) ≥ m.en := c3
  have hin : inR m (numD (dU u)) := ⟨by omega, by omega⟩
  refine r3.i1 3 rfl (r3.i1 4 rfl (r3.i1 5 rfl (Blk.ldT r1 (ref21_Step.cl (hR.gro g10) (by have := hg.2.2.1; omega) fun w18 u18 => ?_))))
  have sr := st_rng hg (numD (dU u))
  have br := beg_rng hg (numD (dU u))
  have nr := numD_range c.1
  have secr := secU_rng c
  have cc := c
  obtain ⟨_, a1, a2, a3, a4, a5, a6⟩ := c
  have es : IntKind.wrap .i64 (IntKind.wrap .i64 (IntKind.wrap .i64 (3600 * u.2.2.2.1) + IntKind.wrap .i64 (60 * u.2.2.2.2.1)) + u.2.2.2.2.2) = secU u := by
    rw [w64_in (n := 3600 * u.2.2.2.1) (by unfold I64; omega), w64_in (n := 60 * u.2.2.2.2.1) (by unfold I64; omega), w64_in (n := 3600 * u.2.2.2.1 + 60 * u.2.2.2.2.1) (by unfold I64; omega), w64_in (by unfold I64; omega)]; rfl
  rw [es]
  have eg : IntKind.wrap .i64 (86400 + stS m.ls (numD (dU u))) = 86400 + stS m.ls (numD (dU u)) := w64_in (by unfold I64; omega)
  have ef : IntKind.wrap .i64 (begT m (numD (dU u)) + secU u) = begT m (numD (dU u)) + secU u := w64_in (by unfold I64; omega)
  rw [show IntKind.wrap .i64 (86400 + (((stS m.ls (numD (dU u)), ()), ()) : TR RI1).1.1) = 86400 + stS m.ls (numD (dU u)) from eg]
  refine brD (fun c2 => ?_) fun c2 => ?_
  · exact out (a := (0, 7)) (by unfold taiS; rw [if_neg (fun x => x cc), if_neg (fun x => x hin), if_pos c2]) w18 (g10.trans u18)
  · refine Blk.ldT (r1.gro u18) (ref22_Begin.cl (hR.gro (g10.trans u18)) hg (by show -10000000 ≤ numD (dU u) ∧ numD (dU u) ≤ 10000000; omega) fun w21 u21 => ?_)
    rw [show IntKind.wrap .i64 ((((begT m (numD (dU u)), ()), ()) : TR RI1).1.1 + secU u) = begT m (numD (dU u)) + secU u from ef]
    exact out (a := (begT m (numD (dU u)) + secU u, 0)) (by unfold taiS; rw [if_neg (fun x => x cc), if_neg (fun x => x hin), if_neg c2]) w21 ((g10.trans u18).trans u21)

/-! ### the laws' helpers -/
theorem law22_plain.cl {u : U6} {w : World} {k : TR RU1 → World → Prop} (h : ∀ w', Gro w w' → k (tU u, ()) w') : clS Try.prog F.law22_plain [vU u] w false RU1 k := by
  refine law22_plain.ok ?_
  unfold law22_plain.wp
  refine alK_by fun p1 w2 e1 k1 u1 => alK_by fun p3 w4 e3 k3 u3 => ?_
  have l3 := k3.lt
  have q1 := k1.gro u3
  have s1 := u1.size
  refine Blk.ldUd (u := u) q1 (q1.i1 3 rfl (q1.i1 4 rfl (q1.i1 5 rfl (k3.sta _ rfl rfl fun w9 k9 u9 => k9.cA (cs := KU6) (tU u) rfl ?_))))
  exact h w9 (Upd.trans (u1.trans u3) u9 fun i hi h => by omega)
theorem law22_of.cl {u : U6} {w : World} {k : TR RU1 → World → Prop} (h : ∀ w', Gro w w' → k (tU u, ()) w') : clS Try.prog F.law22_of [vU u] w false RU1 k := by
  refine law22_of.ok ?_
  unfold law22_of.wp
  refine alK_by fun p1 w2 e1 k1 u1 => alK_by fun p3 w4 e3 k3 u3 => ?_
  have l3 := k3.lt
  have q1 := k1.gro u3
  have s1 := u1.size
  refine Blk.ldUd (u := u) q1 (q1.i1 3 rfl (q1.i1 4 rfl (q1.i1 5 rfl (k3.sta _ rfl rfl fun w9 k9 u9 => k9.cA (cs := KU6) (tU u) rfl ?_))))
  exact h w9 (Upd.trans (u1.trans u3) u9 fun i hi h => by omega)
theorem okP_one (ls : L2) : ∀ u ∈ (ls.map t2).flatMap (encs K2), u.oneCell' = true := by
  intro u hu
  obtain ⟨x, _, hu⟩ := List.mem_flatMap.1 hu
  simp only [encs, enc, List.mem_cons, List.not_mem_nil, or_false] at hu
  rcases hu with rfl | rfl <;> rfl
/-- a slice of leaps, copied one by one -/
abbrev OwnP (w : World) (base : Nat) (s : Sl) (ls : L2) : Prop := OwnR w base T.leap_Leap 2 s ls.length ((ls.map t2).flatMap (encs K2))
set_option maxRecDepth 20000 in
set_option maxHeartbeats 1000000 in
theorem law22_made.cl {w : World} {m : Tb} {s : Sl} (hR : RowsP w s m.ls) (hn : m.ls.length ≤ 100000) (hI : ∀ l ∈ m.ls, I64 l.1 ∧ I64 l.2) {k : TR [(false, [.p]), (false, [.b])] → World → Prop}
    (h0 : errT m ≠ 0 → ∀ w', Gro w w' → k ((none, ()), (false, ()), ()) w')
    (h1 : errT m = 0 → ∀ b w', w.heap.size ≤ b → TbW w' b m → Gro w w' → k ((some ⟨b, 0, none⟩, ()), (true, ()), ()) w') :
    clS Try.prog F.law22_made [vT m s] w true [(false, [.p]), (false, [.b])] k := by
  refine law22_made.ok ?_
  unfold law22_made.wp
  have hl := hR.len
  refine alK_by fun p1 w2 e1 k1 u1 => k1.c1 3 (c := .sl) (x := s) rfl ?_
  have l1 := k1.lt
  refine LoopT.by (fun z W => ∃ i : Nat, z.2.1 = i ∧ i ≤ m.ls.length ∧ OwnP W w2.heap.size z.1 (m.ls.take i) ∧ Gro w2 W) (fun z => ((m.ls.length : Int) - z.2.1).toNat) ⟨0, rfl, by omega, OwnR.nil _ _ _ _, Gro.refl _⟩ ?_
  rintro ⟨sl, z2, _⟩ W ⟨i, e2, hi, hO, hG⟩ _
  dsimp only at e2 hO
  subst e2
  refine brD (fun c => ?_) fun c => ?_
  · have c : (i : Int) < s.2.1 := c
    have hi' : i < m.ls.length := by omega
    have hx : m.ls[i]? = some m.ls[i] := List.getElem?_eq_getElem hi'
    have tk : m.ls.take (i + 1) = m.ls.take i ++ [m.ls[i]] := by rw [List.take_add_one, hx]; rfl
    generalize m.ls[i] = x at *
    have hRW := hR.gro (u1.trans hG)
    refine hRW.ix rfl hx fun a ha => hRW.ldN ha hx (alK_by fun p9 w10 e9 k9 u10 => k9.sta _ rfl rfl fun w11 k11 u11 => k11.ld2 (alK_by fun p13 w14 e13 k13 u14 => ?_))
    have g14 : Gro W w14 := (Gro.fresh (Gro.refl _) u10 u11 e9).trans u14
    have hO14 := hO.gro g14
    have hsz := g14.size
    have hG2 := hG.size
    refine ap_own (s := sl) (x := (some ⟨p13, 0, none⟩, 1, 1)) (e := T.leap_Leap) (size := 2) (base := w2.heap.size) (n := (m.ls.take i).length) (xs := ((m.ls.take i).map t2).flatMap (encs K2)) (news := encs K2 (t2 x)) (by kernel_rfl) (by kernel_rfl) (by decide) hO14
      ⟨rfl, fun _ => ⟨_, rfl, k13.news⟩⟩ ?_ (by show (m.ls.take i).length + 1 ≤ _; rw [List.length_take]; omega) (by omega) fun s' w16 o16 u16 hb => ?_
    · intro u hu
      simp only [t2, encs, enc, List.mem_cons, List.not_mem_nil, or_false] at hu
      rcases hu with rfl | rfl <;> rfl
    · have ei := wsucc hi' (show m.ls.length ≤ 1000000000 by omega)
      refine ⟨⟨i + 1, ei, by omega, ?_, ?_⟩, ?_⟩
      · show OwnP w16 w2.heap.size s' (m.ls.take (i + 1))
        rw [tk]
        unfold OwnP
        rw [List.length_append, List.map_append, List.flatMap_append]
        simpa using o16
      · exact Upd.trans (hG.trans g14) u16 fun j hj ⟨a, ha, hb⟩ => by have := (hO14.blk ha).1; omega
      · show ((m.ls.length : Int) - IntKind.wrap .i64 ((i : Int) + 1)).toNat < ((m.ls.length : Int) - (i : Int)).toNat
        rw [ei]; omega
  · have c : ¬ (i : Int) < s.2.1 := c
    have : i = m.ls.length := by omega
    subst this
    rw [List.take_length] at hO
    have kW := k1.gro hG
    refine kW.i0 rfl (kW.i1 1 rfl (kW.i1 2 rfl (leap_Make.cl (m := m) (s := sl) hO.row (by omega) hI (fun hne w21 u21 => ?_) fun he b w21 hb hT u21 => ?_)))
    · have e : (errT m == 0) = false := beq_eq_false_iff_ne.2 hne
      have := h0 hne w21 ((u1.trans hG).trans u21)
      rw [← e] at this; exact this
    · exact h1 he b w21 (by have := (u1.trans hG).size; omega) hT ((u1.trans hG).trans u21)
end Go.Proofs.Ytimdngcmbmamdaa
