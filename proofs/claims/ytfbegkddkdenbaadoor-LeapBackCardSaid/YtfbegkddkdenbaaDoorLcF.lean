/- The document's Parse of a table of leaps (ref21). Conditions: none. -/
import Derived.Test.YtfbegkddkdenbaaDoorLcD
import Derived.Test.YtfbegkddkdenbaaDoorLcE
namespace Go.Proofs.YtfbegkddkdenbaaDoor
open Go.Eng Go
set_option linter.unusedVariables false
set_option linter.unusedSimpArgs false

def dayOf (ws : List Bs) : Option Int := match ws[1]? with | some x => dayW x | none => none
theorem stepW_noday {r : RS} {ws : List Bs} (h : dayOf ws = none) : stepW r ws = .inr 3 := by
  unfold dayOf at h
  unfold stepW
  split
  · by_cases c : ws.length = 3
    · obtain ⟨a, b, d, rfl⟩ := list3 c
      simp at h
      unfold stW0; simp only [h]; split <;> rfl
    · exact stW0_no c
  split
  · split
    · by_cases c : ws.length = 3
      · obtain ⟨a, b, d, rfl⟩ := list3 c
        exact stW1_none (by simpa using h)
      · exact stW1_no c
    · by_cases c : ws.length = 2
      · obtain ⟨a, b, rfl⟩ := list2 c
        exact stW2_none (by simpa using h)
      · exact stW2_no c
  · rfl
abbrev K4t : List CK := [.i .i64, .i .i64, .i .i64, .sl]
abbrev RPT : List (Bool × List CK) := [(true, K4t), (false, [.i .i64]), (false, [.i .i64])]
abbrev tupT (m : Tb) (s : Sl) : Tvs K4t := (m.st, m.ah, m.en, s, ())
theorem ldTb {w : World} {b : Nat} {m : Tb} {s : Sl} (h : Blk w b (cT m s)) {k : Tvs K4t → Prop} (hk : k (tupT m s)) : ldN K4t ⟨b, 0, none⟩ 0 w k := h.cA (cs := K4t) (tupT m s) rfl hk
set_option maxRecDepth 20000 in
set_option maxHeartbeats 2000000 in
theorem ref21_Parse.cl {l : Bs} {w : World} {k : TR RPT → World → Prop} (hl : l.length < 40000000)
    (h0 : ∀ at_ e, prsL l = (none, at_, e) → ∀ w', Gro w w' → k (tupT t0 (none, 0, 0), (at_, ()), (e, ()), ()) w')
    (h1 : ∀ m, prsL l = (some m, 0, 0) → ∀ sl w', RowsP w' sl m.ls → Gro w w' → k (tupT m sl, (0, ()), (0, ()), ()) w') :
    clS Tryd.prog F.ref21_Parse [.string (ofL l)] w true RPT k := by
  refine ref21_Parse.ok ?_
  unfold ref21_Parse.wp
  rw [ofL_size]
  refine alK_by fun p1 w2 e1 k1 u1 => ?_
  have l1 := k1.lt
  have low : ∀ {W W' : World}, Gro w W → Upd (fun x => p1 ≤ x) W W' → Gro w W' := fun g u => Upd.trans g u fun j hj h => by omega
  have fail : ∀ {W : World} {at_ e : Int}, Gro w W → Blk W p1 (cT t0 (none, 0, 0)) → prsL l = (none, at_, e) → stN [.int .i64 0, .int .i64 0, .int .i64 0, .slice none 0 0] ⟨p1, 0, none⟩ 0 W fun w3 =>
      ldN K4t ⟨p1, 0, none⟩ 0 w3 fun x4 => k ((x4.1, x4.2.1, x4.2.2.1, (x4.2.2.2.1.1, x4.2.2.2.1.2.1, x4.2.2.2.1.2.2), ()), (at_, ()), (e, ()), ()) w3 := fun {W at_ e} g kb hp =>
    kb.sta (cT t0 (none, 0, 0)) rfl rfl fun w3 k3 u3 => ldTb k3 (h0 at_ e hp w3 (low g (u3.mono fun j h => by omega)))
  refine brD (fun c => ?_) fun c => ?_
  · have c : (l.length : Int) > 16384 := c
    exact fail u1 k1 (by unfold prsL; rw [if_pos (by omega)])
  have c : ¬ (l.length : Int) > 16384 := c
  have hp : prsL l = goL (pcs 10 l) 0 r0 := by unfold prsL; rw [if_neg (by omega)]
  refine alK_by fun p5 w6 e5 k5 u5 => ref21_Pieces.cl (a := 10) (at_ := 10) rfl hl fun s w8 R8 hs8 u8 => ?_
  have o : p1 < p5 := by omega
  have l5 := k5.lt
  have kk1 := (k1.gro u5).gro u8
  have kk5 := k5.gro u8
  have g8 := (u1.trans u5).trans u8
  have l8 := kk5.lt
  have hpl := pcs_len 10 l
  have hpe := pcs_each 10 l
  have hlen := R8.len'
  have hs : ∀ a, s.1 = some a → a.block ≠ p5 ∧ a.block < w8.heap.size := fun a ha => by
    obtain ⟨y, ys, hy⟩ := pcs_head (l := l) (a := 10)
    have hc := R8.cell ha (z := 0) (i := 0) (l := y) rfl (by rw [hy]; rfl)
    have hlt := cell_lt hc
    rw [add_block] at hlt
    have := hs8 a ha
    exact ⟨by omega, hlt⟩
  refine LoopT.by (fun z W => ∃ (i : Nat) (r : RS), z.1 = (r.q : Int) ∧ z.2.1 = i ∧ i ≤ (pcs 10 l).length ∧ RI r ∧ (∃ sl, Blk W p5 (cT r.t sl) ∧ OwnE T.ref21_Leap W w8.heap.size sl r.t.ls) ∧ Fr p5 w8.heap.size w8 W ∧ goL (pcs 10 l) 0 r0 = goL ((pcs 10 l).drop i) i r)
    (fun z => (((pcs 10 l).length : Int) - z.2.1).toNat) ⟨0, r0, rfl, rfl, by omega, RI.zero, ⟨(none, 0, 0), kk5, OwnR.nil _ _ _ _⟩, Fr.gro (Gro.refl _), rfl⟩ ?_
  rintro ⟨q, z, _⟩ W ⟨i, r, eq, ez, hi, hI, ⟨sl, hB, hO⟩, fr, hgo⟩ _
  dsimp only at eq ez
  subst eq ez
  have szW := fr.size
  have g8' : ∀ {W'}, Fr p5 w8.heap.size w8 W' → Gro w W' := fun fr' => low g8 (fr'.mono fun j h => by omega)
  have b1 : ∀ {W'}, Fr p5 w8.heap.size w8 W' → Blk W' p1 (cT t0 (none, 0, 0)) := fun fr' => kk1.upd fr' (by omega)
  refine brD (fun c2 => ?_) fun c2 => ?_
  · have c2 : (i : Int) < s.2.1 := c2
    have hi' : i < (pcs 10 l).length := by omega
    have hx : (pcs 10 l)[i]? = some (pcs 10 l)[i] := List.getElem?_eq_getElem hi'
    have hdr : (pcs 10 l).drop i = (pcs 10 l)[i] :: (pcs 10 l).drop (i + 1) := List.drop_eq_getElem_cons hi'
    have hxl := hpe _ (List.getElem_mem hi')
    generalize (pcs 10 l)[i] = x at hx hdr hxl
    rw [hdr, goL] at hgo
    have RW : RowS W s (pcs 10 l) := R8.upd fr fun a ha hh => by have := hs a ha; omega
    have ei : IntKind.wrap .i64 ((i : Int) + 1) = ((i + 1 : Nat) : Int) := by rw [w64_in (by unfold I64; omega)]; omega
    have ei2 : IntKind.wrap .i64 ((i : Int) + 1) = (i : Int) + 1 := by rw [w64_in (by unfold I64; omega)]
    have dec : (((pcs 10 l).length : Int) - IntKind.wrap .i64 ((i : Int) + 1)).toNat < (((pcs 10 l).length : Int) - (i : Int)).toNat := by rw [ei]; omega
    have bad : ∀ {e : Int} {W' : World}, stepL r x = .inr e → Fr p5 w8.heap.size w8 W' → stN [.int .i64 0, .int .i64 0, .int .i64 0, .slice none 0 0] ⟨p1, 0, none⟩ 0 W' fun w3 =>
        ldN K4t ⟨p1, 0, none⟩ 0 w3 fun x4 => k ((x4.1, x4.2.1, x4.2.2.1, (x4.2.2.2.1.1, x4.2.2.2.1.2.1, x4.2.2.2.1.2.2), ()), (IntKind.wrap .i64 ((i : Int) + 1), ()), (e, ()), ()) w3 := fun {e W'} he fr' => by
      rw [ei2]
      refine fail (g8' fr') (b1 fr') ?_
      rw [he] at hgo
      rw [hp, hgo]
    rw [lit_nil]
    refine RW.get rfl hx (brS (fun c3 => ?_) fun c3 => ?_)
    · subst c3
      exact ⟨⟨i + 1, r, rfl, ei, by omega, hI, ⟨sl, hB, hO⟩, fr, hgo⟩, dec⟩
    obtain ⟨x0, l', rfl⟩ : ∃ x0 l', x = x0 :: l' := by cases x with | nil => exact absurd rfl c3 | cons x l' => exact ⟨x, l', rfl⟩
    refine siK_by (i := 0) rfl rfl (brE (fun c4 => ?_) fun c4 => ?_)
    · have c4 : (x0.toNat : Int) = 35 := c4
      have : x0 = 35 := UInt8.toNat_inj.1 (by show x0.toNat = 35; omega)
      subst this
      have e : stepL r (35 :: l') = .inl r := by unfold stepL; rw [if_pos (.inr rfl)]
      rw [e] at hgo
      exact ⟨⟨i + 1, r, rfl, ei, by omega, hI, ⟨sl, hB, hO⟩, fr, hgo⟩, dec⟩
    have c4 : (x0.toNat : Int) ≠ 35 := c4
    have est : stepL r (x0 :: l') = stepW r (pcs 32 (x0 :: l')) := by
      unfold stepL; rw [if_neg]
      rintro (h | h)
      · cases h
      · simp at h; subst h; exact c4 rfl
    rw [est] at hgo bad
    refine ref21_Pieces.cl (a := 32) (at_ := 32) rfl (by omega) fun sw w16 R16 hsw u16 => ?_
    generalize pcs 32 (x0 :: l') = ws at R16 hgo bad est
    have hlw := R16.len'
    have B16 := hB.gro u16
    have O16 := OwnR.gro hO u16
    have lW := hB.lt
    have fr16 : Fr p5 w8.heap.size w8 w16 := Fr.trans' fr (Fr.gro u16)
    have hw5 : ∀ a, sw.1 = some a → a.block ≠ p5 ∧ ∀ a0, sl.1 = some a0 → a0.block ≠ a.block := fun a ha => by
      have := hsw a ha
      exact ⟨by omega, fun a0 h0 => by have := (OwnR.blk hO h0).2.1; omega⟩
    -- the word's day
    refine CutT.by (fun z W' => Gro w16 W' ∧ (z.2.1 = true → dayOf ws = some z.1) ∧ (z.2.1 = false → dayOf ws = none)) ?_ ?_
    · refine brD (fun c5 => ?_) fun c5 => ⟨Gro.refl _, ?_, ?_⟩
      · have c5 : (sw.2.1 : Int) > 1 := c5
        have h1x : ws[1]? = some (ws[1]'(by omega)) := List.getElem?_eq_getElem _
        generalize ws[1]'(by omega) = y at h1x
        refine R16.get (i := 1) rfl h1x (ref21_day.cl (fun hn w' u => ⟨u, (fun h => by cases h), fun _ => ?_⟩) fun n hn w' u => ⟨u, fun _ => ?_, (fun h => by cases h)⟩)
        · unfold dayOf; rw [h1x]; exact hn
        · unfold dayOf; rw [h1x]; exact hn
      · have c5 : ¬ (sw.2.1 : Int) > 1 := c5
        intro h; exact absurd (of_decide_eq_true h) c5
      · have c5 : ¬ (sw.2.1 : Int) > 1 := c5
        intro _
        have : ws[1]? = none := List.getElem?_eq_none (by omega)
        unfold dayOf; rw [this]
    rintro ⟨zd, zk, _⟩ w19 ⟨u19, hk1, hk2⟩ _
    dsimp only at hk1 hk2
    refine CutT.by (fun z W' => w19 = W' ∧ z.1 = (!zk || decide (r.q = 2))) ?_ ?_
    · refine brNot (fun c5 => ⟨rfl, ?_⟩) fun c5 => ⟨rfl, ?_⟩
      · have c5 : zk = false := c5
        rw [c5]; rfl
      · have c5 : zk = true := c5
        rw [c5]
        show ((r.q : Int) == 2) = (false || decide (r.q = 2))
        rw [Bool.false_or]
        exact bq (by rw [beq_iff_eq]; omega)
    rintro ⟨z2, _⟩ _ ⟨rfl, hz2⟩ _
    dsimp only at hz2
    subst hz2
    have fr19 : Fr p5 w8.heap.size w8 w19 := Fr.trans' fr16 (Fr.gro u19)
    refine brC (fun c5 => ?_) fun c5 => ?_
    · have c5 : (!zk || decide (r.q = 2)) = true := c5
      refine bad ?_ fr19
      cases hzk : zk with
      | false => exact stepW_noday (hk2 hzk)
      | true =>
        rw [hzk] at c5
        have : r.q = 2 := of_decide_eq_true (by simpa using c5)
        unfold stepW; rw [if_neg (by omega), if_neg (by omega)]
    have c5 : (!zk || decide (r.q = 2)) = false := c5
    have hzk : zk = true := by cases h : zk; rw [h] at c5; cases c5; rfl
    have hq2 : r.q ≠ 2 := by intro h; rw [hzk, h] at c5; cases c5
    have hday := hk1 hzk
    have B19 := B16.gro u19
    have O19 := OwnR.gro O16 u19
    have R19 : RowS w19 sw ws := R16.gro u19
    have n64 := hI.n
    refine brE (fun c6 => ?_) fun c6 => ?_
    · -- the line that begins a table
      have c6 : (r.q : Int) = 0 := c6
      have eW : stepW r ws = stW0 r ws := by unfold stepW; rw [if_pos (by omega)]
      refine CutT.by (fun z W' => Gro w19 W' ∧ (z.1 = true → stW0 r ws = .inr 3) ∧ (z.1 = false → ∃ b c, ws = [startL, b, c] ∧ plainL c)) ?_ ?_
      · refine brN (fun c7 => ⟨Gro.refl _, fun _ => stW0_no ?_, (fun h => by cases h)⟩) fun c7 => ?_
        · have c7 : (sw.2.1 : Int) ≠ 3 := c7; omega
        have c7 : (sw.2.1 : Int) = 3 := c7
        obtain ⟨y0, y1, y2, rfl⟩ := list3 (ws := ws) (by omega)
        refine R19.get (i := 0) rfl rfl ?_
        rw [lit_start, beqS]
        refine brNot (fun c8 => ⟨Gro.refl _, fun _ => stW0_bad fun h => (of_decide_eq_false c8) h.1, (fun h => by cases h)⟩) fun c8 => ?_
        have c8 : y0 = startL := of_decide_eq_true c8
        subst c8
        refine R19.get (i := 2) rfl rfl (ref21_small.cl ⟨Gro.refl _, fun h => ?_, fun h => ⟨y1, y2, rfl, ?_⟩⟩)
        · exact stW0_bad fun hh => smallL_neg.1 (of_decide_eq_true h) hh.2
        · exact Decidable.not_not.1 fun hh => (of_decide_eq_false h) (smallL_neg.2 hh)
      rintro ⟨zb, _⟩ w31 ⟨u31, hb1, hb2⟩ _
      dsimp only at hb1 hb2
      have fr31 : Fr p5 w8.heap.size w8 w31 := Fr.trans' fr19 (Fr.gro u31)
      refine brC (fun c7 => bad (by rw [eW]; exact hb1 c7) fr31) fun c7 => ?_
      obtain ⟨y1, y2, rfl, hpl2⟩ := hb2 c7
      have hd2 : dayW y1 = some zd := by unfold dayOf at hday; simpa using hday
      rw [eW, stW0_some hpl2 hd2] at hgo
      refine (B19.gro u31).s0 (by simp) fun w40 k40 u40 => ?_
      have R40 : RowS w40 sw [startL, y1, y2] := (R19.gro u31).upd u40 fun a ha => (hw5 a ha).1
      refine R40.get (i := 2) rfl rfl (ref21_small.cl ?_)
      refine k40.s1 1 (by simp) fun w45 k45 u45 => ?_
      have es : smallL y2 = (valD y2 : Int) := by unfold smallL; rw [if_pos hpl2]
      rw [es] at k45
      refine ⟨⟨i + 1, ⟨1, ⟨zd, valD y2, r.t.en, r.t.ls⟩⟩, rfl, ei, by omega, stepL_inv hI (by rw [est, eW, stW0_some hpl2 hd2]), ⟨sl, k45, ?_⟩, ?_, hgo⟩, dec⟩
      · exact rd_st (rd_st (OwnR.gro O19 u31) u40 (by omega)) u45 (by omega)
      · exact Fr.trans' (Fr.trans' fr31 (Fr.blk u40)) (Fr.blk u45)
    have c6 : (r.q : Int) ≠ 0 := c6
    have hq1 : r.q = 1 := by have := hI.q; omega
    have ws0 : ∃ y0 ys, ws = y0 :: ys := by
      cases ws with
      | nil => unfold dayOf at hday; simp at hday
      | cons y ys => exact ⟨y, ys, rfl⟩
    obtain ⟨y0, ys, hys⟩ := ws0
    have hl19 := (OwnE.rows O19).len
    refine B19.c1 3 (c := .sl) (x := sl) rfl ?_
    rw [lit_leap]
    refine R19.get (i := 0) rfl (show ws[0]? = some y0 by rw [hys]; rfl) (brS (fun c7 => ?_) fun c7 => ?_)
    · -- a leap's line
      have eW : stepW r ws = stW1 r ws := by unfold stepW; rw [if_neg (by omega), if_pos hq1, if_pos (by rw [hys, c7]; rfl)]
      refine CutT.by (fun z W' => w19 = W' ∧ (z.1 = true → stW1 r ws = .inr 3) ∧ (z.1 = false → ∃ a b c, ws = [a, b, c] ∧ (c = p1L ∨ c = m1L))) ?_ ?_
      · refine brN (fun c8 => ⟨rfl, fun _ => stW1_no ?_, (fun h => by cases h)⟩) fun c8 => ?_
        · have c8 : (sw.2.1 : Int) ≠ 3 := c8; omega
        have c8 : (sw.2.1 : Int) = 3 := c8
        obtain ⟨z0, z1, z2, rfl⟩ := list3 (ws := ws) (by omega)
        refine R19.get (i := 2) rfl rfl ?_
        rw [lit_p1, lit_m1, beqS]
        refine brNot (fun c9 => ?_) fun c9 => ⟨rfl, (fun h => by cases h), fun _ => ⟨_, _, _, rfl, .inl (of_decide_eq_true c9)⟩⟩
        have c9 : ¬ z2 = p1L := of_decide_eq_false c9
        refine R19.get (i := 2) rfl rfl ?_
        rw [beqS]
        refine ⟨rfl, fun h => stW1_bad fun hh => ?_, fun h => ⟨_, _, _, rfl, .inr ?_⟩⟩
        · have h : (!decide (z2 = m1L)) = true := h
          rcases hh with hh | hh
          · exact c9 hh
          · rw [decide_eq_true hh] at h; cases h
        · have h : (!decide (z2 = m1L)) = false := h
          by_cases hh : z2 = m1L
          · exact hh
          · rw [decide_eq_false hh] at h; cases h
      rintro ⟨zb, _⟩ _ ⟨rfl, hb1, hb2⟩ _
      dsimp only at hb1 hb2
      refine brC (fun c8 => bad (by rw [eW]; exact hb1 c8) fr19) fun c8 => ?_
      obtain ⟨z0, z1, z2, rfl, hz⟩ := hb2 c8
      have hd2 : dayW z1 = some zd := by unfold dayOf at hday; simpa using hday
      have eS := stW1_some (r := r) (a := z0) hz hd2
      refine brE (fun c9 => bad (by rw [eW, eS, if_pos (by have c9 : (sl.2.1 : Int) = 64 := c9; omega)]) fr19) fun c9 => ?_
      have c9 : (sl.2.1 : Int) ≠ 64 := c9
      rw [if_neg (by omega)] at eS
      refine CutT.by (fun z W' => w19 = W' ∧ z.1 = decide (zd < r.t.st ∨ late r.t.ls zd)) ?_ ?_
      · refine B19.i0 rfl (brD (fun c10 => ⟨rfl, ?_⟩) fun c10 => ?_)
        · symm; rw [decide_eq_true_iff]; exact .inl c10
        have c10 : ¬ zd < r.t.st := c10
        refine brD (fun c11 => ?_) fun c11 => ⟨rfl, ?_⟩
        · have c11 : (sl.2.1 : Int) > 0 := c11
          have hx : r.t.ls[r.t.ls.length - 1]? = some (r.t.ls[r.t.ls.length - 1]'(by omega)) := List.getElem?_eq_getElem _
          generalize r.t.ls[r.t.ls.length - 1]'(by omega) = xl at hx
          refine B19.c1 3 (c := .sl) (x := sl) rfl ?_
          have ew := w64_pred (n := sl.2.1) (by omega) (by omega)
          rw [show IntKind.wrap .i64 ((sl.2.1 : Int) - 1) = ((r.t.ls.length - 1 : Nat) : Int) from by rw [ew, hl19]]
          refine (OwnE.rows O19).ix rfl hx fun a ha => (OwnE.rows O19).f0 ha hx rfl ⟨rfl, ?_⟩
          show decide (zd ≤ xl.1) = _
          refine bq ?_
          rw [decide_eq_true_iff]
          exact ⟨fun h => .inr ((late_iff hx).2 h), fun h => by
            rcases h with h | h
            · exact absurd h c10
            · exact (late_iff hx).1 h⟩
        · have c11 : ¬ (sl.2.1 : Int) > 0 := c11
          have : r.t.ls = [] := List.eq_nil_of_length_eq_zero (by omega)
          symm; rw [decide_eq_false_iff_not, this]
          rintro (h | h)
          · exact c10 h
          · exact late_nil h
      rintro ⟨zo, _⟩ _ ⟨rfl, hzo⟩ _
      dsimp only at hzo
      subst hzo
      refine brD (fun c10 => bad (by rw [eW, eS, if_pos c10]) fr19) fun c10 => ?_
      rw [if_neg c10] at eS
      refine CutT.by (fun z W' => w19 = W' ∧ z.1 = if z2 = p1L then (1 : Int) else -1) ?_ ?_
      · refine R19.get (i := 2) rfl rfl ?_
        rw [lit_m1]
        refine brS (fun c11 => ⟨rfl, ?_⟩) fun c11 => ⟨rfl, ?_⟩
        · rw [c11, if_neg (by decide)]; rfl
        · rw [if_pos (by rcases hz with h | h; exact h; exact absurd h c11)]
      rintro ⟨zs, _⟩ _ ⟨rfl, hzs⟩ _
      dsimp only at hzs
      subst hzs
      refine B19.c1 3 (c := .sl) (x := sl) rfl (alK_by fun p75 w76 e75 k75 u76 => ?_)
      have O76 := OwnR.gro O19 u76
      have l19 := B19.lt
      have s19 := u19.size
      have s16 := u16.size
      have s76 := u76.size
      refine OwnE.snoc (x := (zd, if z2 = p1L then 1 else -1)) (ls := r.t.ls) (base := w8.heap.size) (e := T.ref21_Leap) (by kernel_rfl) (by kernel_rfl) O76 k75 (by omega) (by omega) fun s' w78 O78 u78 => ?_
      have hown : ∀ a0, sl.1 = some a0 → w8.heap.size ≤ a0.block := fun a0 h0 => (OwnR.blk O76 h0).1
      have B78 := (B19.gro u76).upd u78 fun ⟨a0, h0, h1⟩ => by have := hown a0 h0; omega
      refine B78.sN 3 [.slice s'.1 s'.2.1 s'.2.2] (by simp) rfl fun w79 k79 u79 => ?_
      rw [eW, eS] at hgo
      refine ⟨⟨i + 1, ⟨1, ⟨r.t.st, r.t.ah, r.t.en, r.t.ls ++ [(zd, if z2 = p1L then 1 else -1)]⟩⟩, by show (r.q : Int) = ((1 : Nat) : Int); rw [hq1], ei, by omega, stepL_inv hI (by rw [est, eW, eS]), ⟨s', k79, rd_st O78 u79 (by omega)⟩, ?_, hgo⟩, dec⟩
      exact Fr.trans' (Fr.trans' (Fr.trans' fr19 (Fr.gro u76)) (u78.mono fun j ⟨a0, h0, h1⟩ => .inr (by have := hown a0 h0; omega))) (Fr.blk u79)
    · -- the line that ends a table
      have eW : stepW r ws = stW2 r ws := by
        unfold stepW; rw [if_neg (by omega), if_pos hq1, if_neg]
        rw [hys]; intro h; injection h with h; exact c7 h
      refine CutT.by (fun z W' => w19 = W' ∧ (z.1 = true → stW2 r ws = .inr 3) ∧ (z.1 = false → ∃ b, ws = [endL, b])) ?_ ?_
      · refine brN (fun c8 => ⟨rfl, fun _ => stW2_no ?_, (fun h => by cases h)⟩) fun c8 => ?_
        · have c8 : (sw.2.1 : Int) ≠ 2 := c8; omega
        have c8 : (sw.2.1 : Int) = 2 := c8
        obtain ⟨z0, z1, rfl⟩ := list2 (ws := ws) (by omega)
        refine R19.get (i := 0) rfl rfl ?_
        rw [lit_end, beqS]
        refine ⟨rfl, fun h => stW2_bad fun hh => ?_, fun h => ⟨z1, ?_⟩⟩
        · have h : (!decide (z0 = endL)) = true := h
          rw [decide_eq_true hh] at h; cases h
        · have h : (!decide (z0 = endL)) = false := h
          by_cases hh : z0 = endL
          · rw [hh]
          · rw [decide_eq_false hh] at h; cases h
      rintro ⟨zb, _⟩ _ ⟨rfl, hb1, hb2⟩ _
      dsimp only at hb1 hb2
      refine brC (fun c8 => bad (by rw [eW]; exact hb1 c8) fr19) fun c8 => ?_
      obtain ⟨z1, rfl⟩ := hb2 c8
      have hd2 : dayW z1 = some zd := by unfold dayOf at hday; simpa using hday
      have eS := stW2_some (r := r) (a := endL) rfl hd2
      refine CutT.by (fun z W' => w19 = W' ∧ z.1 = decide (zd ≤ r.t.st ∨ late r.t.ls zd)) ?_ ?_
      · refine B19.i0 rfl (brD (fun c10 => ⟨rfl, ?_⟩) fun c10 => ?_)
        · symm; rw [decide_eq_true_iff]; exact .inl c10
        have c10 : ¬ zd ≤ r.t.st := c10
        refine brD (fun c11 => ?_) fun c11 => ⟨rfl, ?_⟩
        · have c11 : (sl.2.1 : Int) > 0 := c11
          have hx : r.t.ls[r.t.ls.length - 1]? = some (r.t.ls[r.t.ls.length - 1]'(by omega)) := List.getElem?_eq_getElem _
          generalize r.t.ls[r.t.ls.length - 1]'(by omega) = xl at hx
          refine B19.c1 3 (c := .sl) (x := sl) rfl ?_
          have ew := w64_pred (n := sl.2.1) (by omega) (by omega)
          rw [show IntKind.wrap .i64 ((sl.2.1 : Int) - 1) = ((r.t.ls.length - 1 : Nat) : Int) from by rw [ew, hl19]]
          refine (OwnE.rows O19).ix rfl hx fun a ha => (OwnE.rows O19).f0 ha hx rfl ⟨rfl, ?_⟩
          show decide (zd ≤ xl.1) = _
          refine bq ?_
          rw [decide_eq_true_iff]
          exact ⟨fun h => .inr ((late_iff hx).2 h), fun h => by
            rcases h with h | h
            · exact absurd h c10
            · exact (late_iff hx).1 h⟩
        · have c11 : ¬ (sl.2.1 : Int) > 0 := c11
          have : r.t.ls = [] := List.eq_nil_of_length_eq_zero (by omega)
          symm; rw [decide_eq_false_iff_not, this]
          rintro (h | h)
          · exact c10 h
          · exact late_nil h
      rintro ⟨zo, _⟩ _ ⟨rfl, hzo⟩ _
      dsimp only at hzo
      subst hzo
      refine brD (fun c10 => bad (by rw [eW, eS, if_pos c10]) fr19) fun c10 => ?_
      rw [if_neg c10] at eS
      rw [eW, eS] at hgo
      refine B19.s1 2 (by simp) fun w96 k96 u96 => ?_
      refine ⟨⟨i + 1, ⟨2, ⟨r.t.st, r.t.ah, zd, r.t.ls⟩⟩, rfl, ei, by omega, stepL_inv hI (by rw [est, eW, eS]), ⟨sl, k96, rd_st O19 u96 (by omega)⟩, Fr.trans' fr19 (Fr.blk u96), hgo⟩, dec⟩
  · have c2 : ¬ (i : Int) < s.2.1 := c2
    have : i = (pcs 10 l).length := by omega
    subst this
    rw [List.drop_length, goL] at hgo
    refine brD (fun c3 => ?_) fun c3 => ?_
    · have c3 : (r.q : Int) < 2 := c3
      rw [if_pos (by omega)] at hgo
      rw [hlen]
      exact fail (g8' fr) (b1 fr) (by rw [hp, hgo])
    · have c3 : ¬ (r.q : Int) < 2 := c3
      rw [if_neg (by omega)] at hgo
      refine ldTb hB ((b1 fr).sta (cT r.t sl) rfl rfl fun w100 k100 u100 => ldTb k100 ?_)
      refine h1 r.t (by rw [hp, hgo]) sl w100 (OwnE.rows (e := T.ref21_Leap) (base := w8.heap.size) ?_) (low (g8' fr) (u100.mono fun j h => by omega))
      exact OwnR.upd hO u100 fun a ha hh => by have := (OwnR.blk hO ha).1; omega
end Go.Proofs.YtfbegkddkdenbaaDoor
