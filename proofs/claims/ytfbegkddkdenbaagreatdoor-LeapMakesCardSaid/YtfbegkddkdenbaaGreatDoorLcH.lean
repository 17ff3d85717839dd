/- What the laws of leap lean on: the document's Fault, made, same, alive. Conditions: what an argument is. -/
import Derived.Test.YtfbegkddkdenbaaGreatDoorLcD
import Derived.Test.YtfbegkddkdenbaaGreatDoorLcG
namespace Go.Proofs.YtfbegkddkdenbaaGreatDoor
open Go.Eng Go
set_option linter.unusedVariables false
set_option linter.unusedSimpArgs false

theorem asc_take {en : Int} : ∀ {lo : Int} {ls : L2} (n : Nat), Asc en lo ls → Asc en lo (ls.take n)
  | _, [], _, _ => by simp [Asc]
  | _, _ :: _, 0, _ => trivial
  | _, y :: ls, n + 1, h => ⟨h.1, h.2.1, asc_take n h.2.2⟩
set_option maxRecDepth 20000 in
set_option maxHeartbeats 1000000 in
theorem ref21_Fault.cl {w : World} {m : Tb} {s : Sl} (hR : RowsP w s m.ls) (hn : m.ls.length ≤ 1000000) {k : TR RI1 → World → Prop} (h : ∀ w', Gro w w' → k ((errT m, ()), ()) w') :
    clS Tryz.prog F.ref21_Fault [vT m s] w false RI1 k := by
  refine ref21_Fault.ok ?_
  unfold ref21_Fault.wp
  have hl := hR.len
  refine alK_by fun p1 w2 e1 k1 u1 => ?_
  have one : (¬ Rngd m ∨ ¬ ∀ l ∈ m.ls, Stp l) → ∀ {w'}, Gro w w' → k ((1, ()), ()) w' := fun hc w' g => by
    have e : errT m = 1 := by
      unfold errT
      rcases hc with hc | hc
      · rw [if_pos hc]
      · by_cases c : Rngd m
        · rw [if_neg (fun x => x c), if_pos hc]
        · rw [if_pos c]
    have := h w' g; rw [e] at this; exact this
  refine k1.i0 rfl (brD (fun c => one (.inl fun hh => by have c : m.st < -719162 := c; unfold Rngd at hh; omega) u1) fun c1 => ?_)
  refine k1.i0 rfl (brD (fun c => one (.inl fun hh => by have c : m.st > 2932896 := c; unfold Rngd at hh; omega) u1) fun c2 => ?_)
  refine k1.i1 2 rfl (brD (fun c => one (.inl fun hh => by have c : m.en < -719162 := c; unfold Rngd at hh; omega) u1) fun c3 => ?_)
  refine k1.i1 2 rfl (brD (fun c => one (.inl fun hh => by have c : m.en > 2932896 := c; unfold Rngd at hh; omega) u1) fun c4 => ?_)
  refine k1.i0 rfl (k1.i1 2 rfl (brD (fun c => one (.inl fun hh => by have c : m.st ≥ m.en := c; unfold Rngd at hh; omega) u1) fun c5 => ?_))
  refine k1.i1 1 rfl (brD (fun c => one (.inl fun hh => by have c : m.ah < 0 := c; unfold Rngd at hh; omega) u1) fun c6 => ?_)
  refine k1.i1 1 rfl (brD (fun c => one (.inl fun hh => by have c : m.ah > 99 := c; unfold Rngd at hh; omega) u1) fun c7 => ?_)
  have hr : Rngd m := by
    have c1 : ¬ m.st < -719162 := c1
    have c2 : ¬ m.st > 2932896 := c2
    have c3 : ¬ m.en < -719162 := c3
    have c4 : ¬ m.en > 2932896 := c4
    have c5 : ¬ m.st ≥ m.en := c5
    have c6 : ¬ m.ah < 0 := c6
    have c7 : ¬ m.ah > 99 := c7
    unfold Rngd; omega
  refine k1.c1 3 (c := .sl) (x := s) rfl ?_
  refine LoopT.by (fun z W => ∃ i : Nat, z.1 = i ∧ i ≤ m.ls.length ∧ Gro w2 W ∧ ∀ l ∈ m.ls.take i, Stp l) (fun z => ((m.ls.length : Int) - z.1).toNat) ⟨0, rfl, by omega, Gro.refl _, by simp⟩ ?_
  rintro ⟨zi, _⟩ W ⟨i, ez, hi, hG, hs⟩ _
  dsimp only at ez
  subst ez
  have kW := k1.gro hG
  have gW := u1.trans hG
  refine brD (fun c => ?_) fun c => ?_
  · have c : (i : Int) < s.2.1 := c
    have hi' : i < m.ls.length := by omega
    have hx : m.ls[i]? = some m.ls[i] := List.getElem?_eq_getElem hi'
    have hmem := List.getElem_mem hi'
    have tk : m.ls.take (i + 1) = m.ls.take i ++ [m.ls[i]] := by rw [List.take_add_one, hx]; rfl
    generalize m.ls[i] = x at hx hmem tk
    have RW := hR.gro gW
    have ei := wsucc hi' (show m.ls.length ≤ 1000000000 by omega)
    refine RW.ix rfl hx fun a ha => RW.ldN ha hx (alK_by fun p17 w18 e17 k17 u18 => k17.sta _ rfl rfl fun w19 k19 u19 => ?_)
    have g19 : Gro W w19 := Gro.fresh (Gro.refl _) u18 u19 e17
    have next : Stp x → (∃ i' : Nat, IntKind.wrap .i64 ((i : Int) + 1) = i' ∧ i' ≤ m.ls.length ∧ Gro w2 w19 ∧ ∀ l ∈ m.ls.take i', Stp l) ∧ ((m.ls.length : Int) - IntKind.wrap .i64 ((i : Int) + 1)).toNat < ((m.ls.length : Int) - (i : Int)).toNat := fun hx => by
      refine ⟨⟨i + 1, ei, by omega, hG.trans g19, ?_⟩, by rw [ei]; omega⟩
      intro l hl
      rw [tk] at hl
      rcases List.mem_append.1 hl with hl | hl
      · exact hs l hl
      · rw [List.mem_singleton.1 hl]; exact hx
    refine k19.i1 1 rfl (brN (fun c2 => k19.i1 1 rfl (brN (fun c3 => one (.inr fun hh => ?_) (gW.trans g19)) fun c3 => next (.inr c3))) fun c2 => next (.inl c2))
    have c2 : x.2 ≠ 1 := c2
    have c3 : x.2 ≠ Int.negSucc 0 := c3
    have := hh x hmem
    unfold Stp at this
    rcases this with h | h
    · exact c2 h
    · exact c3 h
  have c : ¬ (i : Int) < s.2.1 := c
  have : i = m.ls.length := by omega
  subst this
  rw [List.take_length] at hs
  refine kW.c1 3 (c := .sl) (x := s) rfl (brD (fun c2 => ?_) fun c2 => ?_)
  · have c2 : (s.2.1 : Int) > 64 := c2
    have e : errT m = 6 := by unfold errT; rw [if_neg (fun x => x hr), if_neg (fun x => x hs), if_pos (by omega)]
    have := h W gW; rw [e] at this; exact this
  have c2 : ¬ (s.2.1 : Int) > 64 := c2
  refine kW.c1 3 (c := .sl) (x := s) rfl ?_
  have twelve : ¬ Asc m.en (m.st - 1) m.ls → ∀ {w'}, Gro w w' → k ((12, ()), ()) w' := fun hc w' g => by
    have e : errT m = 12 := by unfold errT; rw [if_neg (fun x => x hr), if_neg (fun x => x hs), if_neg (by omega), if_pos hc]
    have := h w' g; rw [e] at this; exact this
  refine LoopT.by (fun z W => ∃ i : Nat, z.1 = i ∧ i ≤ m.ls.length ∧ Gro w2 W ∧ Asc m.en (m.st - 1) (m.ls.take i)) (fun z => ((m.ls.length : Int) - z.1).toNat) ⟨0, rfl, by omega, hG, by simp [Asc]⟩ ?_
  rintro ⟨zi, _⟩ W ⟨i, ez, hi, hG, hA⟩ _
  dsimp only at ez
  subst ez
  have gW := u1.trans hG
  refine brD (fun c => ?_) fun c => ?_
  · have c : (i : Int) < s.2.1 := c
    have hi' : i < m.ls.length := by omega
    have hx : m.ls[i]? = some m.ls[i] := List.getElem?_eq_getElem hi'
    have hmem := List.getElem_mem hi'
    have tk : m.ls.take (i + 1) = m.ls.take i ++ [m.ls[i]] := by rw [List.take_add_one, hx]; rfl
    generalize m.ls[i] = x at hx hmem tk
    have RW := hR.gro gW
    have ei := wsucc hi' (show m.ls.length ≤ 1000000000 by omega)
    refine RW.ix rfl hx fun a ha => RW.ldN ha hx (alK_by fun p17 w18 e17 k17 u18 => k17.sta _ rfl rfl fun w19 k19 u19 => ?_)
    have g19 : Gro W w19 := Gro.fresh (Gro.refl _) u18 u19 e17
    rw [drK_eq]
    have g32 := (gW.trans g19).trans (Gro.drew w19)
    have G32 := (hG.trans g19).trans (Gro.drew w19)
    have q1 := (k1.gro (hG.trans g19)).drew
    have k19 : Blk w19.drew p17 [.int .i64 x.1, .int .i64 x.2] := k19.drew
    have R32 := hR.gro g32
    generalize w19.drew = w32 at g32 G32 q1 k19 R32
    refine k19.i0 rfl (q1.i0 rfl (brD (fun c3 => twelve (fun hh => ?_) g32) fun c3 => ?_))
    · have c3 : x.1 < m.st := c3
      have := hh.mem x hmem; omega
    refine k19.i0 rfl (q1.i1 2 rfl (brD (fun c4 => twelve (fun hh => ?_) g32) fun c4 => ?_))
    · have c4 : x.1 ≥ m.en := c4
      have := hh.mem x hmem; omega
    have c3 : ¬ x.1 < m.st := c3
    have c4 : ¬ x.1 ≥ m.en := c4
    have next : ¬ late (m.ls.take i) x.1 → (∃ i' : Nat, IntKind.wrap .i64 ((i : Int) + 1) = i' ∧ i' ≤ m.ls.length ∧ Gro w2 w32 ∧ Asc m.en (m.st - 1) (m.ls.take i')) ∧ ((m.ls.length : Int) - IntKind.wrap .i64 ((i : Int) + 1)).toNat < ((m.ls.length : Int) - (i : Int)).toNat := fun hx => by
      refine ⟨⟨i + 1, ei, by omega, G32, ?_⟩, by rw [ei]; omega⟩
      rw [tk]
      exact asc_snoc hA (by omega) (by omega) (late_not hA hx)
    refine brD (fun c5 => ?_) fun c5 => next ?_
    · have c5 : (i : Int) > 0 := c5
      have hy : m.ls[i - 1]? = some (m.ls[i - 1]'(by omega)) := List.getElem?_eq_getElem _
      generalize m.ls[i - 1]'(by omega) = y at hy
      have ew : IntKind.wrap .i64 ((i : Int) - 1) = ((i - 1 : Nat) : Int) := by rw [w64_in (by unfold I64; omega)]; omega
      refine k19.i0 rfl (q1.c1 3 (c := .sl) (x := s) rfl ?_)
      rw [show IntKind.wrap .i64 (((i : Int), ()).1 - 1) = ((i - 1 : Nat) : Int) from ew]
      refine R32.ix rfl hy fun a ha => R32.f0 ha hy rfl (brD (fun c6 => twelve (fun hh => ?_) g32) fun c6 => next ?_)
      · have c6 : x.1 ≤ y.1 := c6
        have := asc_get hh (show i - 1 < i by omega) hy hx; omega
      · have c6 : ¬ x.1 ≤ y.1 := c6
        rintro ⟨z, hz, hd⟩
        rw [List.length_take, Nat.min_eq_left (by omega), List.getElem?_take_of_lt (by omega), hy] at hz
        injection hz with hz
        subst hz; omega
    · have c5 : ¬ (i : Int) > 0 := c5
      have : i = 0 := by omega
      subst this
      exact late_nil
  · have c : ¬ (i : Int) < s.2.1 := c
    have : i = m.ls.length := by omega
    subst this
    rw [List.take_length] at hA
    have e : errT m = 0 := by unfold errT; rw [if_neg (fun x => x hr), if_neg (fun x => x hs), if_neg (by omega), if_neg (fun x => x hA)]
    have := h W gW; rw [e] at this; exact this

/-- a table of the program's own, copied leap by leap -/
abbrev RPI : List (Bool × List CK) := [(false, [.p]), (false, [.i .i64])]
set_option maxRecDepth 20000 in
set_option maxHeartbeats 1000000 in
theorem law21_made.cl {w : World} {m : Tb} {s : Sl} (hR : RowsP w s m.ls) (hn : m.ls.length ≤ 100000) (hI : ∀ l ∈ m.ls, I64 l.1 ∧ I64 l.2) {k : TR RPI → World → Prop}
    (h0 : errT m ≠ 0 → ∀ w', Gro w w' → k ((none, ()), (errT m, ()), ()) w')
    (h1 : errT m = 0 → ∀ b w', w.heap.size ≤ b → TbW w' b m → Gro w w' → k ((some ⟨b, 0, none⟩, ()), (0, ()), ()) w') :
    clS Tryz.prog F.law21_made [vT m s] w true RPI k := by
  refine law21_made.ok ?_
  unfold law21_made.wp
  have hl := hR.len
  refine alK_by fun p1 w2 e1 k1 u1 => k1.c1 3 (c := .sl) (x := s) rfl ?_
  have l1 := k1.lt
  refine LoopT.by (fun z W => ∃ i : Nat, z.2.1 = i ∧ i ≤ m.ls.length ∧ OwnE T.leap_Leap W w2.heap.size z.1 (m.ls.take i) ∧ Gro w2 W) (fun z => ((m.ls.length : Int) - z.2.1).toNat) ⟨0, rfl, by omega, OwnR.nil _ _ _ _, Gro.refl _⟩ ?_
  rintro ⟨sl, z2, _⟩ W ⟨i, e2, hi, hO, hG⟩ _
  dsimp only at e2 hO
  subst e2
  refine brD (fun c => ?_) fun c => ?_
  · have c : (i : Int) < s.2.1 := c
    have hi' : i < m.ls.length := by omega
    have hx : m.ls[i]? = some m.ls[i] := List.getElem?_eq_getElem hi'
    have tk : m.ls.take (i + 1) = m.ls.take i ++ [m.ls[i]] := by rw [List.take_add_one, hx]; rfl
    generalize m.ls[i] = x at *
    have hRW := hR.gro (u1.trans hG)
    refine hRW.ix rfl hx fun a ha => hRW.ldN ha hx (alK_by fun p9 w10 e9 k9 u10 => k9.sta _ rfl rfl fun w11 k11 u11 => k11.ld2 (alK_by fun p13 w14 e13 k13 u14 => ?_))
    have g14 : Gro W w14 := (Gro.fresh (Gro.refl _) u10 u11 e9).trans u14
    have hO14 := OwnR.gro hO g14
    have hsz := g14.size
    have hG2 := hG.size
    have ei := wsucc hi' (show m.ls.length ≤ 1000000000 by omega)
    refine OwnE.snoc (x := x) (ls := m.ls.take i) (base := w2.heap.size) (e := T.leap_Leap) (by kernel_rfl) (by kernel_rfl) hO14 k13 (by rw [List.length_take]; omega) (by omega) fun s' w16 o16 u16 => ?_
    refine ⟨⟨i + 1, ei, by omega, by rw [tk]; exact o16, ?_⟩, ?_⟩
    · exact Upd.trans (hG.trans g14) u16 fun j hj ⟨a, ha, hb⟩ => by have := (OwnR.blk hO14 ha).1; omega
    · show ((m.ls.length : Int) - IntKind.wrap .i64 ((i : Int) + 1)).toNat < ((m.ls.length : Int) - (i : Int)).toNat
      rw [ei]; omega
  · have c : ¬ (i : Int) < s.2.1 := c
    have : i = m.ls.length := by omega
    subst this
    rw [List.take_length] at hO
    have kW := k1.gro hG
    refine kW.i0 rfl (kW.i1 1 rfl (kW.i1 2 rfl (leap_Make.cl (m := m) (s := sl) (OwnR.row hO) (by omega) hI (fun hne w21 u21 => ?_) fun he b w21 hb hT u21 => ?_)))
    · exact h0 hne w21 ((u1.trans hG).trans u21)
    · exact h1 he b w21 (by have := (u1.trans hG).size; omega) hT ((u1.trans hG).trans u21)
theorem leap_Table_Range.cl {w : World} {b : Nat} {m : Tb} (hT : TbW w b m) {k : TR [(false, [.i .i64]), (false, [.i .i64])] → World → Prop} (h : ∀ w', Gro w w' → k ((m.st, ()), (m.en, ()), ()) w') :
    clS Tryz.prog F.leap_Table_Range [.pointer (some ⟨b, 0, none⟩)] w true [(false, [.i .i64]), (false, [.i .i64])] k := by
  refine leap_Table_Range.ok ?_
  unfold leap_Table_Range.wp
  obtain ⟨s, hB, hR⟩ := hT
  refine brF rfl ?_
  rw [drK_eq]
  have hB := hB.drew
  rw [ncK_eq]
  refine hB.i0 rfl ?_
  rw [ncK_eq]
  exact hB.i1 2 rfl (h _ (Gro.drew w))
theorem eq2 {a b : P2} : ((a.1 == b.1) && ((a.2 == b.2) && true)) = decide (a = b) := by
  refine bq ?_
  simp only [Bool.and_eq_true, beq_iff_eq, and_true]
  exact ⟨fun ⟨h1, h2⟩ => Prod.ext h1 h2, fun h => by rw [h]; exact ⟨rfl, rfl⟩⟩
set_option maxRecDepth 20000 in
set_option maxHeartbeats 2000000 in
theorem law21_same.cl {w : World} {b : Nat} {m : Tb} {s : Sl} (hT : TbW w b m) (hR : RowsP w s m.ls) (hn : m.ls.length ≤ 100000) {k : TR RB1 → World → Prop} (h : ∀ w', Gro w w' → k ((true, ()), ()) w') {ah : Int} :
    clS Tryz.prog F.law21_same [.pointer (some ⟨b, 0, none⟩), .agg #[.int .i64 m.st, .int .i64 ah, .int .i64 m.en, .slice s.1 s.2.1 s.2.2]] w false RB1 k := by
  refine law21_same.ok ?_
  unfold law21_same.wp
  have hl := hR.len
  refine alK_by fun p1 w2 e1 k1 u1 => alK_by fun p3 w4 e3 k3 u3 => alK_by fun p5 w6 e5 k5 u5 => k5.s0 (by simp) fun w7 k7 u7 => ?_
  have l1 := k1.lt
  have l3 := k3.lt
  have o : p1 < p3 ∧ p3 < p5 := by omega
  have g6 := (u1.trans u3).trans u5
  have g7 : Gro w w7 := Upd.trans g6 u7 fun j hj hh => by have := u1.size; omega
  have k1 := ((k1.gro u3).gro u5).upd u7 (by omega)
  have k3 := (k3.gro u5).upd u7 (by omega)
  obtain ⟨s', hB0, hR0⟩ := hT
  refine leap_Table_All.tg (hB0.gro g7) fun pb w9 eb u9 hpb sz9 => ?_
  have g9 := g7.trans u9
  have l5 := k7.lt
  have hR9 := hR0.gro g9
  have K1 := k1.gro u9
  have K3 := k3.gro u9
  have K5 := k7.gro u9
  refine ⟨fun x => un2 x ∈ m.ls, m.ls.map tup2, fun z => z = p5 ∨ z = p3,
    fun pre W => Gro w W ∧ Blk W p1 [.int .i64 m.st, .int .i64 ah, .int .i64 m.en, .slice s.1 s.2.1 s.2.2] ∧ Blk W p3 [.bool false] ∧ Blk W p5 [.int .i64 pre.length] ∧ pre.map un2 = m.ls.take pre.length, fun _ pre _ => ¬ pre.map un2 <+: m.ls,
    slices_Values_1.itsV (fun l hl => hl) ⟨_, hpb⟩ hR9 (by omega) (by omega) (fun hx a ha hh => by have := hR0.blk hx ha; have := u1.size; omega),
    fun W tu => ⟨g9.turn tu g9.size, K1.turn tu, K3.turn tu, K5.turn tu, rfl⟩, ?_, ?_, ?_⟩
  · intro x W hx hs
    refine alK_by fun p18 w19 e18 k18 u19 => k18.sta _ rfl rfl fun w20 k20 u20 => asg_gro (Gro.fresh (Gro.refl W) u19 u20 e18) ?_
    rintro W2 tu pre ⟨hg2, h1', h3', h5', hpre⟩ hlen
    rw [List.length_map] at hlen
    have k2 : Blk W2 p18 [.int .i64 (un2 x).1, .int .i64 (un2 x).2] := k20.turn tu
    rw [drK_eq]
    have hg2 := hg2.trans (Gro.drew W2)
    have h1' := h1'.drew
    have h3' := h3'.drew
    have h5' := h5'.drew
    have k2 := k2.drew
    have hd := Gro.drew W2
    generalize W2.drew = w21 at hg2 h1' h3' h5' k2 hd
    refine h5'.i0 rfl (h1'.c1 3 (c := .sl) (x := s) rfl (brD (fun c => absurd (show (pre.length : Int) ≥ (s.2.1 : Int) from c) (by omega)) fun c => ?_))
    have hx2 : m.ls[pre.length]? = some (m.ls[pre.length]'hlen) := List.getElem?_eq_getElem _
    generalize m.ls[pre.length]'hlen = y at hx2
    have RW := hR.gro hg2
    refine k2.ld2 (h1'.c1 3 (c := .sl) (x := s) rfl (h5'.i0 rfl (RW.ix rfl hx2 fun a ha => RW.ldN ha hx2 ?_)))
    show brB (!(((un2 x).1 == y.1) && (((un2 x).2 == y.2) && true))) _ _
    rw [eq2]
    have em : (pre ++ [x]).map un2 = pre.map un2 ++ [un2 x] := by simp
    refine brNot (fun c2 => ?_) fun c2 => ?_
    · have c2 : ¬ un2 x = y := of_decide_eq_false c2
      refine h3'.sN0 [.bool false] (by simp) rfl fun w24 k24 u24 => ?_
      have rw24 : Rnd w9.heap.size (fun z => z = p5 ∨ z = p3) W2 w24 := Rnd.of (Upd.trans (Upd.of_gro hd) u24 fun _ _ x => x) fun k hk _ => by
        have hk : k = p3 := hk
        exact ⟨fun _ => .inr hk, fun hB => absurd hB (by omega)⟩
      refine ⟨rw24, fun W4 _ hp => ?_⟩
      rw [em] at hp
      obtain ⟨t, ht⟩ := hp
      have : m.ls[pre.length]? = some (un2 x) := by
        rw [← ht, hpre]
        have hlt : (m.ls.take pre.length).length = pre.length := by rw [List.length_take]; omega
        rw [List.append_assoc, List.getElem?_append_right (by omega), hlt]; simp
      rw [hx2] at this
      injection this with this
      exact c2 this.symm
    · have c2 : un2 x = y := of_decide_eq_true c2
      refine h5'.i0 rfl (h5'.s0 (by simp) fun w32 k32 u32 => ?_)
      have ew : IntKind.wrap .i64 ((pre.length : Int) + 1) = (((pre ++ [x]).length : Nat) : Int) := by rw [w64_in (by unfold I64; omega)]; simp
      rw [ew] at k32
      have rw32 : Rnd w9.heap.size (fun z => z = p5 ∨ z = p3) W2 w32 := Rnd.of (Upd.trans (Upd.of_gro hd) u32 fun _ _ x => x) fun k hk _ => by
        have hk : k = p5 := hk
        exact ⟨fun _ => .inl hk, fun hB => absurd hB (by omega)⟩
      refine ⟨rw32, fun W4 t4 => ⟨?_, (h1'.upd u32 (by omega)).turn t4, (h3'.upd u32 (by omega)).turn t4, k32.turn t4, ?_⟩⟩
      · exact (Upd.trans hg2 u32 fun j hj hh => by have := u1.size; omega).turn t4 g9.size
      · rw [em, hpre, c2, List.length_append, List.length_singleton, List.take_add_one, hx2]; rfl
  · rintro D W hD ⟨hgW, h1', h3', h5', hpre⟩ hm
    rw [List.length_map] at h5'
    refine leap_Table_Range.cl ⟨s', hB0.gro hgW, hR0.gro hgW⟩ fun w34 u34 => ?_
    have h1' := h1'.gro u34
    have h3' := h3'.gro u34
    have h5' := h5'.gro u34
    have m34 := hm.gro u34
    refine h5'.i0 rfl (h1'.c1 3 (c := .sl) (x := s) rfl ?_)
    refine brT (by show ((m.ls.length : Int) == (s.2.1 : Int)) = true; rw [hl]; exact beq_self_eq_true _) ?_
    refine h1'.i0 rfl (brT (beq_self_eq_true _) (h1'.i1 2 rfl ?_))
    refine h3'.sN0 [.bool (m.en == m.en)] (by simp) rfl fun w39 k39 u39 => ?_
    have hl3 := h3'.lt
    refine tkK_by (m34.upd u39 (by omega)) fun w40 ht => ?_
    have k40 : Blk w40 p3 [.bool (m.en == m.en)] := k39.turn (ht w.heap.size (Nat.le_trans g9.size hD))
    rw [beq_self_eq_true] at k40
    refine k40.b0 (h w40 ?_)
    exact (Upd.trans (hgW.trans u34) u39 fun j hj hh => by have := u1.size; omega).turn (ht w.heap.size (Nat.le_trans g9.size hD)) (Nat.le_refl _)
  · intro st hst D pre W hD hp hx hm
    refine absurd ?_ hx
    obtain ⟨t, ht⟩ := hp
    refine ⟨t.map un2, ?_⟩
    rw [← List.map_append, ht, un2_map]
/-! ### alive -/
def litA : Bs := [115, 116, 97, 114, 116, 32, 49, 57, 55, 50, 45, 48, 49, 45, 48, 49, 32, 49, 48, 10, 108, 101, 97, 112, 32, 49, 57, 55, 50, 45, 48, 54, 45, 51, 48, 32, 43, 49, 10, 101, 110, 100, 32, 49, 57, 55, 51, 45, 48, 49, 45, 48, 49]
theorem litA_prs : prsL litA = (some ⟨730, 10, 1096, [(911, 1)]⟩, 0, 0) := by kernel_rfl
theorem litA_eq : (⟨#[115, 116, 97, 114, 116, 32, 49, 57, 55, 50, 45, 48, 49, 45, 48, 49, 32, 49, 48, 10, 108, 101, 97, 112, 32, 49, 57, 55, 50, 45, 48, 54, 45, 51, 48, 32, 43, 49, 10, 101, 110, 100, 32, 49, 57, 55, 51, 45, 48, 49, 45, 48, 49]⟩ : ByteArray) = ofL litA := rfl
set_option maxRecDepth 20000 in
theorem law21_alive.cl {w : World} {k : TR RB1 → World → Prop} (h : ∀ w', Gro w w' → k ((true, ()), ()) w') : clS Tryz.prog F.law21_alive [] w false RB1 k := by
  refine law21_alive.ok ?_
  unfold law21_alive.wp
  rw [litA_eq]
  refine leap_Parse.cl (fun at_ e hp => by rw [litA_prs] at hp; cases hp) fun m hp b w2 hb hT u2 => ?_
  have hg := (prsL_some hp).2
  rw [litA_prs] at hp
  injection hp with hp _
  injection hp with hp
  subst hp
  refine leap_Table_Ahead.cl hT hg (fun c => absurd (show inR _ _ by unfold inR; decide) c) fun _ w4 u4 => ?_
  refine leap_Table_Ahead.cl (hT.gro u4) hg (fun c => absurd (show inR _ _ by unfold inR; decide) c) fun _ w6 u6 => ?_
  refine brT rfl (brT rfl (brT (by decide) (brT rfl (brT (by decide) (brT rfl ?_)))))
  exact leap_Table_Step.cl ((hT.gro u4).gro u6) hg fun w8 u8 => h w8 (((u2.trans u4).trans u6).trans u8)
end Go.Proofs.YtfbegkddkdenbaaGreatDoor
