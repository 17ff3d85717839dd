/- The law LeapMakes: a table that is none; made, told and asked, all as the document has it. Conditions: what an argument is. -/
import Derived.Test.YtfbegkddkdenbaaGreatDoorLcH
import Derived.Test.YtfbegkddkdenbaaGreatDoorEngR
namespace Go.Proofs.YtfbegkddkdenbaaGreatDoor
open Go.Eng Go
set_option linter.unusedVariables false
set_option linter.unusedSimpArgs false

abbrev K4u : List CK := [.i .i64, .i .i64, .i .i64, .sl]
abbrev tupU (m : Tb) (s : Sl) : Tvs K4u := (m.st, m.ah, m.en, s, ())
theorem ldTu {w : World} {b : Nat} {m : Tb} {s : Sl} (h : Blk w b (cT m s)) {k : Tvs K4u → Prop} (hk : k (tupU m s)) : ldN K4u ⟨b, 0, none⟩ 0 w k := h.cA (cs := K4u) (tupU m s) rfl hk
theorem leap_Table_Range.nil {w : World} {k : TR [(false, [.i .i64]), (false, [.i .i64])] → World → Prop} (h : k ((0, ()), (0, ()), ()) w) : clS Tryz.prog F.leap_Table_Range [.pointer none] w true [(false, [.i .i64]), (false, [.i .i64])] k := by
  refine leap_Table_Range.ok ?_
  unfold leap_Table_Range.wp
  exact brT rfl h
theorem leap_Table_Ahead.nil {w : World} {day : Int} {k : TR [(false, [.i .i64]), (false, [.b])] → World → Prop} (h : ∀ w', Gro w w' → k ((0, ()), (false, ()), ()) w') : clS Tryz.prog F.leap_Table_Ahead [.pointer none, .int .i64 day] w true [(false, [.i .i64]), (false, [.b])] k := by
  refine leap_Table_Ahead.ok ?_
  unfold leap_Table_Ahead.wp
  refine alK_by fun p1 w2 e1 k1 u1 => ?_
  rw [drK_eq]
  exact brT rfl (h _ (u1.trans (Gro.drew w2)))
theorem leap_Table_Step.nil {w : World} {day : Int} {k : TR [(false, [.i .i64])] → World → Prop} (h : ∀ w', Gro w w' → k ((0, ()), ()) w') : clS Tryz.prog F.leap_Table_Step [.pointer none, .int .i64 day] w false [(false, [.i .i64])] k := by
  refine leap_Table_Step.ok ?_
  unfold leap_Table_Step.wp
  exact alK_by fun p1 w2 e1 k1 u1 => alK_by fun p3 w4 e3 k3 u3 => (k1.gro u3).p0 (brT rfl (h w4 (u1.trans u3)))
theorem leap_Table_All_1.its {w : World} {M : Nat → Prop} {V : TR RS2 → Prop} : ItS Tryz.prog (.func (.func F.leap_Table_All_1) #[] #[]) RS2 V [] M w := by
  refine its_by (by kernel_rfl) fun l J Jx W g hJ hJx hY h0 => ?_
  show clS Tryz.prog F.leap_Table_All_1 [.func (.yield l) #[] #[]] W true [] _
  exact leap_Table_All_1.ok (p0 := .func (.yield l) #[] #[]) (.inl h0)
set_option maxRecDepth 20000 in
theorem law21_same.nil {w : World} {k : TR RB1 → World → Prop} (h : ∀ w', Gro w w' → k ((true, ()), ()) w') :
    clS Tryz.prog F.law21_same [.pointer none, .agg #[.int .i64 0, .int .i64 0, .int .i64 0, .slice none 0 0]] w false RB1 k := by
  refine law21_same.ok (t := none) (m0 := 0) (m1 := 0) (m2 := 0) (m3 := (none, 0, 0)) ?_
  unfold law21_same.wp
  refine alK_by fun p1 w2 e1 k1 u1 => alK_by fun p3 w4 e3 k3 u3 => alK_by fun p5 w6 e5 k5 u5 => k5.s0 (by simp) fun w7 k7 u7 => ?_
  have l1 := k1.lt
  have l3 := k3.lt
  have o : p1 < p3 ∧ p3 < p5 := by omega
  have g6 := (u1.trans u3).trans u5
  have g7 : Gro w w7 := Upd.trans g6 u7 fun j hj hh => by have := u1.size; omega
  have k1 : Blk w7 p1 [.int .i64 0, .int .i64 0, .int .i64 0, .slice none 0 0] := ((k1.gro u3).gro u5).upd u7 (by omega)
  have k3 := (k3.gro u5).upd u7 (by omega)
  refine leap_Table_All.ok ?_
  unfold leap_Table_All.wp
  refine brT rfl ?_
  refine ⟨fun _ => True, [], fun z => False,
    fun pre W => Gro w W ∧ Blk W p1 [.int .i64 0, .int .i64 0, .int .i64 0, .slice none 0 0] ∧ Blk W p3 [.bool false] ∧ Blk W p5 [.int .i64 0], fun _ pre _ => pre ≠ [],
    leap_Table_All_1.its, fun W tu => ⟨g7.turn tu g7.size, k1.turn tu, k3.turn tu, k7.turn tu⟩, ?_, ?_, ?_⟩
  · intro x W hx hs
    refine alK_by fun p18 w19 e18 k18 u19 => k18.sta _ rfl rfl fun w20 k20 u20 => asg_gro (Gro.fresh (Gro.refl W) u19 u20 e18) ?_
    rintro W2 tu pre _ hlen
    exact absurd hlen (by simp)
  · rintro D W hD ⟨hgW, h1', h3', h5'⟩ hm
    refine leap_Table_Range.nil (h5'.i0 rfl (h1'.c1 3 (c := .sl) (x := (none, 0, 0)) rfl (brT rfl (h1'.i0 rfl (brT rfl (h1'.i1 2 rfl ?_))))))
    refine h3'.sN0 [.bool true] (by simp) rfl fun w39 k39 u39 => ?_
    have hl3 := h3'.lt
    have l5 := k7.lt
    refine tkK_by (hm.upd u39 (by omega)) fun w40 ht => ?_
    have k40 : Blk w40 p3 [.bool true] := k39.turn (ht w.heap.size (Nat.le_trans g7.size hD))
    refine k40.b0 (h w40 ?_)
    exact (Upd.trans hgW u39 fun j hj hh => by have := u1.size; omega).turn (ht w.heap.size (Nat.le_trans g7.size hD)) (Nat.le_refl _)
  · intro st hst D pre W hD hp hx hm
    exact absurd (List.prefix_nil.1 hp) hx
set_option maxRecDepth 20000 in
set_option maxHeartbeats 2000000 in
theorem law21_LeapMakes.cl {w : World} {m : Tb} {s : Sl} {day : Int} (hR : RowsP w s m.ls) (hI : ∀ l ∈ m.ls, I64 l.1 ∧ I64 l.2) (hm : I64 m.st ∧ I64 m.ah ∧ I64 m.en) (hd : I64 day) :
    clS Tryz.prog F.law21_LeapMakes [vT m s, .int .i64 day] w false RB1 (Holds w) := by
  refine law21_LeapMakes.ok ?_
  unfold law21_LeapMakes.wp
  have hl := hR.len
  refine alK_by fun p1 w2 e1 k1 u1 => law21_alive.cl fun w4 u4 => brF rfl ?_
  have k4 := k1.gro u4
  have g4 := u1.trans u4
  refine k4.c1 3 (c := .sl) (x := s) rfl (brD (fun c => holds g4 rfl) fun c => ?_)
  have c : ¬ (s.2.1 : Int) > 100 := c
  refine ldTu k4 (law21_made.cl (m := m) (hR.gro g4) (by omega) hI (fun hne w8 u8 => ?_) fun he b w8 hb hT u8 => ?_)
  · have g8 := g4.trans u8
    refine ldTu (k4.gro u8) (ref21_Fault.cl (m := m) (s := s) (hR.gro g8) (by omega) fun w11 u11 => brN (fun _ => ?_) fun c2 => absurd (show errT m = 0 from c2) hne)
    refine leap_Table_Range.nil (leap_Table_Ahead.nil fun w15 u15 => brT rfl (brT (beq_self_eq_true _) (brT rfl (brT rfl (brT rfl (leap_Table_Step.nil fun w17 u17 => brT rfl (leap_Table_Text.nil ?_)))))))
    rw [lit_nil]
    refine brS (fun _ => law21_same.nil fun w21 u21 => ?_) fun c2 => absurd rfl c2
    exact holds ((((g8.trans u11).trans u15).trans u17).trans u21) rfl
  have hg := errT_good he
  have n64 := hg.2.2.1
  have g8 := g4.trans u8
  refine ldTu (k4.gro u8) (ref21_Fault.cl (m := m) (s := s) (hR.gro g8) (by omega) fun w11 u11 => brN (fun c2 => absurd he c2) fun _ => ?_)
  have g11 := g8.trans u11
  have T11 := hT.gro u11
  have k11 := (k4.gro u8).gro u11
  -- what is told of a day
  refine clS_mono (k := fun r w' => Gro w11 w' ∧ (inR m day → r = ((ahS m.ah m.ls day, ()), (true, ()), ())) ∧ (¬ inR m day → r = ((0, ()), (false, ()), ()))) (fun r w23 hr => ?_) (leap_Table_Ahead.cl T11 hg (fun c w' u => ⟨u, fun h => absurd h c, fun _ => rfl⟩) fun c w' u => ⟨u, fun _ => rfl, fun h => absurd c h⟩)
  obtain ⟨u23, hr1, hr2⟩ := hr
  have g23 := g11.trans u23
  have k23 := k11.gro u23
  refine CutT.by (fun _ W => Gro w23 W) ?_ ?_
  · refine CutT.by (fun z W => w23 = W ∧ z.1 = decide (¬ inR m day)) ?_ ?_
    · refine k23.i0 rfl (brD (fun c3 => ⟨rfl, ?_⟩) fun c3 => k23.i1 2 rfl ⟨rfl, ?_⟩)
      · have c3 : day < m.st := c3
        symm; rw [decide_eq_true_iff]; unfold inR; omega
      · have c3 : ¬ day < m.st := c3
        show decide (day ≥ m.en) = _
        refine bq ?_
        rw [decide_eq_true_iff]; unfold inR; omega
    rintro ⟨z, _⟩ _ ⟨rfl, hz⟩ _
    dsimp only at hz
    subst hz
    refine brD (fun c3 => ?_) fun c3 => ?_
    · rw [hr2 c3]
      exact brF rfl (brN (fun c4 => absurd rfl c4) fun _ => Gro.refl _)
    · have c3 : inR m day := Decidable.not_not.1 c3
      rw [hr1 c3]
      refine brF rfl (ldTu k23 (ref21_Ahead.cl (hR.gro g23) hg fun w34 u34 => brN (fun c4 => absurd rfl c4) fun _ => u34))
  rintro _ w26 u26 _
  rw [drK_eq]
  have u35 := u26.trans (Gro.drew w26)
  have g35 := g23.trans u35
  have T35 := (T11.gro u23).gro u35
  have k35 := k23.gro u35
  generalize w26.drew = w35 at u35 g35 T35 k35
  have HH : ∀ {wa wb : World}, Gro w35 wa → Gro w35 wb → ∀ i, i < 4 → wb.cell? (Addr.add ⟨p1, 0, none⟩ i) = some ((wa.cell? (Addr.add ⟨p1, 0, none⟩ i)).getD undef) := fun {wa wb} ga gb i hi => by
    have h1 := k35.gro ga
    have h2 := k35.gro gb
    rw [add_eq, Nat.zero_add, h1.cell, h2.cell]
    match i, hi with
    | 0, _ => rfl
    | 1, _ => rfl
    | 2, _ => rfl
    | 3, _ => rfl
  have r35 := Gro.refl w35
  refine brT rfl (ldTu k35 (leap_Table_Step.cl T35 hg fun w38 u38 => ⟨?_, ?_⟩))
  · repeat' (first | exact trivial | refine ⟨HH ?_ ?_ _ (by decide), ?_⟩ | fail)
    all_goals assumption
  refine ref21_Step.cl (hR.gro (g35.trans u38)) (by omega) fun w40 u40 => ⟨?_, ?_⟩
  · have r40 := u38.trans u40
    repeat' (first | exact trivial | refine ⟨HH ?_ ?_ _ (by decide), ?_⟩ | fail)
    all_goals assumption
  have r40 := u38.trans u40
  refine brT (beq_self_eq_true _) (ldTu (k35.gro r40) (law21_same.cl (T35.gro r40) (hR.gro (g35.trans r40)) (by omega) fun w43 u43 => ⟨?_, ?_⟩))
  · have r43 := r40.trans u43
    repeat' (first | exact trivial | refine ⟨HH ?_ ?_ _ (by decide), ?_⟩ | fail)
    all_goals assumption
  have r43 := r40.trans u43
  refine brT rfl (ldTu (k35.gro r43) (leap_Table_Text.cl (T35.gro r43) hg fun w46 u46 => ⟨?_, ?_⟩))
  · have r46 := r43.trans u46
    repeat' (first | exact trivial | refine ⟨HH ?_ ?_ _ (by decide), ?_⟩ | fail)
    all_goals assumption
  have r46 := r43.trans u46
  refine ref21_Text.cl (m := m) (s := s) (hR.gro (g35.trans r46)) hg fun w48 u48 => ⟨?_, ?_⟩
  · have r48 := r46.trans u48
    repeat' (first | exact trivial | refine ⟨HH ?_ ?_ _ (by decide), ?_⟩ | fail)
    all_goals assumption
  exact holds (g35.trans (r46.trans u48)) ((ba_beq_iff _ _).2 rfl)
abbrev shTm : Shp := .cons 1 (.i .i64) (.cons 1 (.i .i64) (.cons 1 (.i .i64) (.cons 1 (.sl 2 (.cons 1 (.i .i64) (.cons 1 (.i .i64) (.nil)))) (.nil))))
theorem tabm_open {w : World} {cs : List Value} (h : Okc w shTm cs) : ∃ (m : Tb) (s : Sl), cs = cT m s ∧ RowsP w s m.ls ∧ (∀ l ∈ m.ls, I64 l.1 ∧ I64 l.2) ∧ I64 m.st ∧ I64 m.ah ∧ I64 m.en := by
  obtain ⟨_, _, rfl, _, ⟨a, rfl, wa⟩, _, _, rfl, _, ⟨b, rfl, wb⟩, _, _, rfl, _, ⟨c, rfl, wc⟩, _, _, rfl, _, ⟨s, rfl, _, _, rows, hl, hR, hrow⟩, rfl⟩ := h
  obtain ⟨xs, hf, hlen, hI⟩ := typed_rows (cs := K2) (Q := fun _ => True) (R := fun x => I64 x.1 ∧ I64 x.2.1) rows fun r hr => by
    obtain ⟨_, _, _, rfl, _, ⟨x, rfl, wx⟩, _, _, rfl, _, ⟨y, rfl, wy⟩, rfl⟩ := hrow r hr
    exact ⟨(x, y, ()), rfl, i64_of wx, i64_of wy⟩
  refine ⟨⟨a, b, c, xs.map fun x => (x.1, x.2.1)⟩, s, rfl, ?_, ?_, i64_of wa, i64_of wb, i64_of wc⟩
  · show Row w s 2 _
    have e : (xs.map fun x => ((x.1, x.2.1) : P2)).map t2 = xs := by
      rw [List.map_map]
      conv => rhs; rw [← List.map_id xs]
      rfl
    rw [e, ← hf]; exact hR
  · intro l hl
    obtain ⟨x, hx, rfl⟩ := List.mem_map.1 hl
    exact hI x hx
theorem law21_LeapMakes.fin {cs : List Value} {day : Int} {w : World} (h : Okc w shTm cs) (hd : I64 day) : clS Tryz.prog F.law21_LeapMakes [.agg cs.toArray, .int .i64 day] w false RB1 (Holds w) := by
  obtain ⟨m, s, rfl, hR, hI, hm⟩ := tabm_open h
  exact law21_LeapMakes.cl hR hI hm hd
end Go.Proofs.YtfbegkddkdenbaaGreatDoor
