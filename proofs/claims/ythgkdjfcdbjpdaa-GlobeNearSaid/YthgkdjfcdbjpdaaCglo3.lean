/- Laws of layer 14: a filled table; GlobeIs, GlobeOn, GlobeOne. Conditions: none. -/
import Derived.Test.YthgkdjfcdbjpdaaCglo2
namespace Go.Proofs.Ythgkdjfcdbjpdaa
open Go.Eng Go
set_option linter.unusedVariables false
set_option linter.unusedSimpArgs false

/-- a table and the document's list, apart from each other -/
structure Fl (w : World) (base bt : Nat) (st sm : Sl) (es : List E3) : Prop where
  T : Tab w base bt st es
  M : Ents w sm es
  lt : ∀ b, sm.1 = some b → b.block < w.heap.size ∧ b.block ≠ bt
  ne : ∀ a b, st.1 = some a → sm.1 = some b → a.block ≠ b.block
  good : ∀ e ∈ es, goodB e = true
theorem Fl.gro {w w' : World} {base bt : Nat} {st sm : Sl} {es : List E3} (h : Fl w base bt st sm es) (u : Gro w w') : Fl w' base bt st sm es :=
  ⟨h.T.gro u, h.M.gro u, fun b hb => ⟨Nat.lt_of_lt_of_le (h.lt b hb).1 u.size, (h.lt b hb).2⟩, h.ne, h.good⟩
theorem addL_good {es : List E3} {e : E3} (h : ∀ e ∈ es, goodB e = true) : ∀ x ∈ addL es e, goodB x = true := by
  unfold addL
  split
  · exact h
  · rename_i hc
    intro x hx
    rcases List.mem_append.1 (List.mem_of_mem_drop hx) with hx | hx
    · exact h x hx
    · rw [List.mem_singleton.1 hx]
      cases hb : goodB e
      · exact absurd (.inl hb) hc
      · rfl
def fillL (es : List E3) : List E3 := es.foldl addL []
theorem fillL_snoc (es : List E3) (e : E3) : fillL (es ++ [e]) = addL (fillL es) e := by simp [fillL]

theorem law14_filled.cl {w : World} {s : Sl} {es : List E3} (hE : Ents w s es) (hn : es.length ≤ 100) {k : TR [(false, [.p]), (false, [.sl])] → World → Prop}
    (hk : ∀ pt st sm w', Gro w w' → Fl w' w.heap.size pt st sm (fillL es) → k ((some ⟨pt, 0, none⟩, ()), (sm, ()), ()) w') :
    clS Try.prog F.law14_filled [.slice s.1 s.2.1 s.2.2] w true [(false, [.p]), (false, [.sl])] k := by
  refine law14_filled.ok ?_
  unfold law14_filled.wp
  have hl := hE.len
  refine alK_by fun p1 w2 e1 k1 u1 => ?_
  refine LoopT.by (fun z w' => Gro w w' ∧ ∃ i : Nat, z.2.1 = (i : Int) ∧ i ≤ es.length ∧ ∃ st, Fl w' w.heap.size p1 st z.1 (fillL (es.take i)))
    (fun z => (1000 - z.2.1).toNat) ⟨u1, 0, rfl, by omega, (none, 0, 0), Tab.new k1, ⟨rfl, fun h => absurd rfl h⟩, (fun b h => by cases h), (fun a b h => by cases h), fun e h => by cases h⟩ ?_
  rintro ⟨sm, zi, _⟩ w5 ⟨g, i, hz, hi, st, hF⟩ _
  obtain rfl : zi = (i : Int) := hz
  dsimp only
  refine brD (fun c => ?_) fun c => ?_
  · have hi' : i < es.length := by have c : (i : Int) < (s.2.1 : Int) := c; omega
    have he : es[i]? = some es[i] := List.getElem?_eq_getElem hi'
    generalize es[i] = e at he
    have hE3 := hE.gro g
    refine hE3.ix rfl he fun a ha => hE3.ldN ha he ?_
    refine alK_by fun p8 w9 e8 k8 u9 => k8.sta _ rfl rfl fun w10 k10 u10 => k10.ld3 ?_
    have f10 : Gro w5 w10 := Gro.fresh (Gro.refl _) u9 u10 e8
    have np : ¬ (p8 = p1 ∨ ∃ a, st.1 = some a ∧ a.block = p8) := by
      rintro (h | ⟨a, ha, h⟩)
      · have := hF.T.1.lt; omega
      · have := (hF.T.2.1.blk ha).2.1; omega
    have hF := hF.gro f10
    have l10 := k10.lt
    have b5 := hF.T.1.lt
    refine table_Table_Add.own (g.trans f10) hF.T (by omega) fun st' w13 T13 g13 U13 hft => ?_
    have k13 := k10.upd U13 np
    have M13 : Ents w13 sm (fillL (es.take i)) := hF.M.upd U13 (by
      rintro b hb (h | ⟨a, ha, h⟩)
      · exact (hF.lt b hb).2 h
      · exact hF.ne a b ha hb h)
    refine k13.ld3 (ref12_Add.cl M13 hF.T.2.2.1 fun sm' w16 u16 hM' hfr => ⟨⟨g13.trans u16, i + 1, ?_, by omega, st', ?_⟩, ?_⟩)
    · show IntKind.wrap .i64 ((i : Int) + 1) = _
      rw [len_succ (by omega)]
    · have ht : fillL (es.take (i + 1)) = addL (fillL (es.take i)) e := by rw [take_snoc he, fillL_snoc]
      rw [ht]
      refine ⟨T13.gro u16, hM', fun b hb => ?_, fun a b ha hb => ?_, addL_good hF.good⟩
      · have hb : sm'.1 = some b := hb
        rcases hfr with h | h
        · subst h
          have h1 := (hF.lt b hb).1
          exact ⟨Nat.lt_of_lt_of_le h1 (Nat.le_trans U13.size u16.size), (hF.lt b hb).2⟩
        · have h1 := h b hb
          refine ⟨h1.2, ?_⟩
          have := T13.1.lt
          omega
      · have hb : sm'.1 = some b := hb
        rcases hfr with h | h
        · subst h
          rcases hft a ha with ⟨a0, h0, h1⟩ | h1
          · rw [h1]; exact hF.ne a0 b h0 hb
          · have := (hF.lt b hb).1; omega
        · have h1 := (h b hb).1
          have := (T13.2.1.blk ha).2.1
          omega
    · show (1000 - IntKind.wrap .i64 ((i : Int) + 1)).toNat < (1000 - (i : Int)).toNat
      rw [len_succ (by omega)]; omega
  · have hi' : i = es.length := by have c : ¬ (i : Int) < (s.2.1 : Int) := c; omega
    subst hi'
    rw [List.take_length] at hF
    exact hk p1 st sm w5 g hF

theorem raw_0 {m : M5} (h : m.2.2.1 = 0) (t : Int) : raw m t = t + m.2.1 := by
  unfold raw gn; rw [h, Int.zero_mul, Int.zero_ediv]; omega
theorem Back_0 {m : M5} (h : m.2.2.1 = 0) {t g x : Int} {b : Bool} (ht : okG m t = true) (hg : g = t + m.2.1) (hb : BackS m g x b) : x = t ∧ b = true := by
  obtain ⟨t0, t1, t2, t3⟩ := okG_iff.1 ht
  rw [raw_0 h] at t2 t3
  cases b
  · rcases (hb.2 rfl).2 with h1 | h1 | h1
    · omega
    · omega
    · have := h1 t ht
      rw [raw_0 h] at this; omega
  · obtain ⟨h0, h1, h2, h3⟩ := hb.1 rfl
    rw [raw_0 h] at h2
    refine ⟨?_, rfl⟩
    by_cases hlt : t < x
    · have := h3 t t0 hlt
      rw [raw_0 h] at this; omega
    · omega
theorem map_one (drift : Int) (e : E3) : mapV drift [e] = (e.1, e.2.1, 0, 1, maxH [e]) := by
  unfold mapV
  rw [slopeV_no (.inl (by show 1 < 2; decide))]
  simp [sL, sO]

theorem law14_alive.cl {w : World} {k : TR [(false, [.b])] → World → Prop} (hk : ∀ w', Gro w w' → k ((true, ()), ()) w') : clS Try.prog F.law14_alive [] w false [(false, [.b])] k := by
  refine law14_alive.ok ?_
  unfold law14_alive.wp
  refine alK_by fun p1 w2 e1 k1 u1 => ?_
  have hE : Ents w2 (some ⟨p1, 0, none⟩, 1, 1) [(100, 50, 3)] := ⟨rfl, fun _ => ⟨_, rfl, k1.news⟩⟩
  refine law14_filled.cl hE (by decide) fun pt st sm w4 g4 hF => ?_
  have hf : fillL [(100, 50, 3)] = [(100, 50, 3)] := by decide
  rw [hf] at hF
  refine globe_Of.cl hF.T.tv (by decide) hF.good (fun h => by cases h) fun _ w6 u6 => ?_
  have hm : MB 10 (mapV 10 [(100, 50, 3)]) := mapV_MB (by simp) hF.good
  rw [map_one] at hm ⊢
  have e3 : maxH [(100, 50, 3)] = 3 := by decide
  rw [e3] at hm ⊢
  refine alK_by fun p7 w8 e7 k7 u7 => k7.sta _ rfl rfl fun w9 k9 u9 => k9.ld5 ?_
  refine globe_Map_Global.cl (m := (100, 50, 0, 1, 3)) hm fun w12 u12 => (k9.gro u12).ld5 ?_
  refine globe_Map_Back.cl (m := (100, 50, 0, 1, 3)) hm fun x b w15 u15 hb => ?_
  obtain ⟨rfl, rfl⟩ := Back_0 (m := (100, 50, 0, 1, 3)) rfl (t := 7) (g := 57) (by decide) rfl hb
  refine brT rfl (((k9.gro u12).gro u15).i1 4 rfl (brT rfl (brT (by decide) (brT (by decide) (brT rfl ?_)))))
  exact hk w15 ((Gro.fresh (u1.trans (g4.trans u6)) u7 u9 e7).trans (u12.trans u15))

theorem fill_good (es : List E3) : ∀ e ∈ fillL es, goodB e = true := by
  have key : ∀ (n : Nat) (es : List E3), es.length = n → ∀ e ∈ fillL es, goodB e = true := by
    intro n
    induction n with
    | zero => intro es hl e he; rw [List.eq_nil_of_length_eq_zero hl] at he; cases he
    | succ n ih =>
      intro es hl
      have hne : es ≠ [] := by intro e; subst e; cases hl
      rw [← List.dropLast_concat_getLast hne, fillL_snoc]
      exact addL_good (ih _ (by simp [hl]))
  exact key _ es rfl

set_option maxRecDepth 20000 in
theorem law14_GlobeIs.cl {drift t : Int} {s : Sl} {es : List E3} {w : World} (hE : Ents w s es) :
    clS Try.prog F.law14_GlobeIs [.int .i64 drift, .slice s.1 s.2.1 s.2.2, .int .i64 t] w false [(false, [.b])] (Holds w) := by
  refine law14_GlobeIs.ok ?_
  unfold law14_GlobeIs.wp
  have hl := hE.len
  refine law14_alive.cl fun w2 u2 => brF rfl (brD (fun c => holds u2 rfl) fun c => ?_)
  have c : ¬ (s.2.1 : Int) > 100 := c
  refine law14_filled.cl (hE.gro u2) (by omega) fun pt st sm w4 g4 hF => ?_
  have gd := fill_good es
  have h8 := hF.T.2.2.1
  have g24 := u2.trans g4
  refine globe_Of.cl hF.T.tv h8 gd (fun hnil w6 u6 => ?_) fun hne w6 u6 => ?_
  · refine alK_by fun p7 w8 e7 k7 u7 => k7.sta _ rfl rfl fun w9 k9 u9 => ?_
    have f9 : Gro w4 w9 := Gro.fresh u6 u7 u9 e7
    refine ref14_Of.cl (hF.M.gro f9) h8 gd (fun _ w11 u11 => ?_) fun h => absurd hnil h
    refine alK_by fun p12 w13 e12 k12 u12 => k12.sta _ rfl rfl fun w14 k14 u14 => brF rfl (brT rfl ?_)
    have f14 : Gro w9 w14 := Gro.fresh u11 u12 u14 e12
    refine globe_Of.cl (es := []) (.inl ⟨rfl, rfl, rfl⟩) (by decide) (fun e h => by cases h) (fun _ w16 u16 => ?_) fun h => absurd rfl h
    refine alK_by fun p17 w18 e17 k17 u17 => k17.sta _ rfl rfl fun w19 k19 u19 => ?_
    have f19 : Gro w14 w19 := Gro.fresh u16 u17 u19 e17
    refine ((k9.gro f14).gro f19).ld5 (brT rfl (k19.ld5 (brT rfl (holds (((g24.trans f9).trans f14).trans f19) rfl))))
  · have hm := mapV_MB (drift := drift) hne gd
    obtain ⟨m, em⟩ : ∃ m, mapV drift (fillL es) = m := ⟨_, rfl⟩
    rw [em] at hm ⊢
    refine alK_by fun p7 w8 e7 k7 u7 => k7.sta (m5 m) rfl rfl fun w9 k9 u9 => ?_
    have f9 : Gro w4 w9 := Gro.fresh u6 u7 u9 e7
    refine ref14_Of.cl (hF.M.gro f9) h8 gd (fun h => absurd h hne) fun _ w11 u11 => ?_
    rw [em]
    refine alK_by fun p12 w13 e12 k12 u12 => k12.sta (m5 m) rfl rfl fun w14 k14 u14 => brF rfl (brF rfl ?_)
    have f14 : Gro w9 w14 := Gro.fresh u11 u12 u14 e12
    have q := k9.gro f14
    refine q.i0 rfl (k14.i0 rfl (brN (fun h => absurd rfl h) fun _ => q.i1 1 rfl (k14.i1 1 rfl (brN (fun h => absurd rfl h) fun _ => ?_))))
    refine q.i1 2 rfl (k14.i1 2 rfl (brN (fun h => absurd rfl h) fun _ => q.ia 2 1 rfl (k14.i1 3 rfl (brN (fun h => absurd rfl h) fun _ => ?_))))
    refine q.i1 4 rfl (k14.i1 4 rfl (brN (fun h => absurd rfl h) fun _ => q.ld5 ?_))
    refine globe_Map_Global.cl (m := m) hm fun w34 u34 => (k14.gro u34).ld5 (ref14_Global.cl (m := m) hm fun w37 u37 => brT (by simp) (holds (((g24.trans f9).trans f14).trans (u34.trans u37)) (by simp)))

set_option maxRecDepth 20000 in
theorem law14_GlobeOn.cl {drift t b : Int} {s : Sl} {es : List E3} {w : World} (hE : Ents w s es) (ht : I64 t) (hb : I64 b) :
    clS Try.prog F.law14_GlobeOn [.int .i64 drift, .slice s.1 s.2.1 s.2.2, .int .i64 t, .int .i64 b] w false [(false, [.b])] (Holds w) := by
  refine law14_GlobeOn.ok ?_
  unfold law14_GlobeOn.wp
  have hl := hE.len
  refine law14_alive.cl fun w2 u2 => brF rfl (brD (fun c => holds u2 rfl) fun c => ?_)
  have c : ¬ (s.2.1 : Int) > 100 := c
  refine brD (fun c => holds u2 rfl) fun c1 => brD (fun c => holds u2 rfl) fun c2 => brD (fun c => holds u2 rfl) fun c3 => ?_
  rw [w64_in (n := 1125899906842624 - b) (by unfold I64 at *; omega)]
  refine brD (fun c => holds u2 rfl) fun c4 => ?_
  refine law14_filled.cl (hE.gro u2) (by omega) fun pt st sm w4 g4 hF => ?_
  have gd := fill_good es
  have h8 := hF.T.2.2.1
  have g24 := u2.trans g4
  refine globe_Of.cl hF.T.tv h8 gd (fun hnil w6 u6 => ?_) fun hne w6 u6 => ?_
  · exact alK_by fun p7 w8 e7 k7 u7 => k7.sta _ rfl rfl fun w9 k9 u9 => brT rfl (holds (g24.trans (Gro.fresh u6 u7 u9 e7)) rfl)
  · have hm := mapV_MB (drift := drift) hne gd
    generalize mapV drift (fillL es) = m at hm
    refine alK_by fun p7 w8 e7 k7 u7 => k7.sta (m5 m) rfl rfl fun w9 k9 u9 => brF rfl ?_
    have f9 : Gro w4 w9 := Gro.fresh u6 u7 u9 e7
    rw [w64_in (n := t + b) (by unfold I64; omega)]
    refine k9.ld5 (globe_Map_Global.cl (m := m) hm fun w12 u12 => (k9.gro u12).ld5 (globe_Map_Global.cl (m := m) hm fun w15 u15 => ?_))
    have g15 := (g24.trans f9).trans (u12.trans u15)
    refine brNot (fun _ => holds g15 rfl) fun o1 => brNot (fun _ => holds g15 rfl) fun o2 => ?_
    have o1 : okG m t = true := o1
    have o2 : okG m (t + b) = true := o2
    have e1 : gV m t = raw m t := by unfold gV; rw [if_pos o1]
    have e2 : gV m (t + b) = raw m (t + b) := by unfold gV; rw [if_pos o2]
    obtain ⟨_, _, r0, r1⟩ := okG_iff.1 o1
    obtain ⟨_, _, r2, r3⟩ := okG_iff.1 o2
    have hd := dr_bd drift
    refine ref13_Most.cl (brT ?_ ?_)
    · show decide (gV m (t + b) ≥ gV m t) = true
      rw [e1, e2]
      have := raw_mono hm (show t ≤ t + b by omega)
      exact decide_eq_true (by omega)
    refine ref13_Gain.cl (dr_I (drift := drift)).1.2 (dr_I (drift := drift)).2.2 hb fun w19 u19 => holds (g15.trans u19) ?_
    have up := raw_up hm (t := t) (b := b) (by omega)
    have q1 : 0 ≤ 2 * dr drift * b := Int.mul_nonneg (by omega) (by omega)
    have q0 : 0 ≤ 2 * dr drift * b / (1000 - dr drift) := Int.ediv_nonneg q1 (by omega)
    have q2 : 2 * dr drift * b ≤ 20 * 1073741824 := by
      have := mul_bd (a := 2 * dr drift) (b := b) (m := 20) (n := 1073741824) (by omega) (by omega) (by omega) (by omega)
      omega
    have q3 : 2 * dr drift * b / (1000 - dr drift) ≤ 2 * dr drift * b := Int.ediv_le_self _ q1
    have hmd : mdV (2 * dr drift) b (1000 - dr drift) = 2 * dr drift * b / (1000 - dr drift) := by
      unfold mdV
      rw [if_pos]
      unfold mdB
      rw [decide_eq_false (by omega), Bool.not_false, Bool.true_and, decide_eq_true_eq]
      unfold I64; omega
    show decide (IntKind.wrap .i64 (gV m (t + b) - gV m t) ≤ IntKind.wrap .i64 (IntKind.wrap .i64 (b + mdV (2 * dr drift) b (1000 - dr drift)) + 2)) = true
    rw [e1, e2, hmd]
    generalize 2 * dr drift * b / (1000 - dr drift) = q at *
    rw [w64_in (n := raw m (t + b) - raw m t) (by unfold I64; omega), w64_in (n := b + q) (by unfold I64; omega), w64_in (n := b + q + 2) (by unfold I64; omega)]
    exact decide_eq_true (by omega)

set_option maxRecDepth 20000 in
theorem law14_GlobeOne.cl {drift t : Int} {e : E3} {w : World} (he : I64 e.1 ∧ I64 e.2.1 ∧ I64 e.2.2) (ht : I64 t) :
    clS Try.prog F.law14_GlobeOne [.int .i64 drift, .agg #[.int .i64 e.1, .int .i64 e.2.1, .int .i64 e.2.2], .int .i64 t] w false [(false, [.b])] (Holds w) := by
  refine law14_GlobeOne.ok ?_
  unfold law14_GlobeOne.wp
  refine alK_by fun p1 w2 e1 k1 u1 => law14_alive.cl fun w4 u4 => brF rfl ((k1.gro u4).ld3 ?_)
  have q1 := k1.gro u4
  refine alK_by fun p6 w7 e6 k6 u7 => ?_
  have hE : Ents w7 (some ⟨p6, 0, none⟩, 1, 1) [e] := ⟨rfl, fun _ => ⟨_, rfl, k6.news⟩⟩
  have g7 := (u1.trans u4).trans u7
  have q7 := q1.gro u7
  have lift : ∀ {w' : World}, Gro w7 w' → Gro w w' := fun h => g7.trans h
  refine law14_filled.cl hE (by show 1 ≤ 100; decide) fun pt st sm w9 g9 hF => ?_
  have hf : fillL [e] = if goodB e = true then [e] else [] := by
    show addL [] e = _
    unfold addL tooOld
    cases h : goodB e <;> simp
  refine globe_Of.cl hF.T.tv hF.T.2.2.1 hF.good (fun hnil w11 u11 => ?_) fun hne w11 u11 => ?_
  · refine alK_by fun p12 w13 e12 k12 u13 => k12.sta _ rfl rfl fun w14 k14 u14 => brT rfl ?_
    have f14 : Gro w7 w14 := g9.trans (Gro.fresh u11 u13 u14 e12)
    refine (q7.gro f14).ld3 (table_Entry_Good.cl fun w17 u17 => holds (lift (f14.trans u17)) ?_)
    rw [hnil] at hf
    show (!goodB e) = true
    cases h : goodB e
    · rfl
    · rw [h] at hf; cases hf
  · have ge : goodB e = true := by
      cases h : goodB e
      · rw [h] at hf; exact absurd hf hne
      · rfl
    rw [if_pos ge] at hf
    rw [hf] at hF ⊢
    have hm := mapV_MB (drift := drift) (es := [e]) (by simp) hF.good
    rw [map_one] at hm ⊢
    have gb := goodB_iff.1 ge
    have eH : maxH [e] = e.2.2 := by show mxH 0 e = _; unfold mxH; rw [if_pos (by omega)]
    rw [eH] at hm ⊢
    refine alK_by fun p12 w13 e12 k12 u13 => k12.sta (m5 (e.1, e.2.1, 0, 1, e.2.2)) rfl rfl fun w14 k14 u14 => brF rfl ?_
    have f14 : Gro w7 w14 := g9.trans (Gro.fresh u11 u13 u14 e12)
    refine brD (fun c => holds (lift f14) rfl) fun c0 => brD (fun c => holds (lift f14) rfl) fun c1 => ?_
    have q14 := q7.gro f14
    have ew : IntKind.wrap .i64 (t + e.2.1) = t + e.2.1 := w64_in (by unfold I64; omega)
    refine q14.i1 1 rfl (k14.ld5 (globe_Map_Global.cl (m := (e.1, e.2.1, 0, 1, e.2.2)) hm fun w21 u21 => ?_))
    rw [ew]
    have er : raw (e.1, e.2.1, 0, 1, e.2.2) t = t + e.2.1 := raw_0 rfl t
    refine CutT.by (fun z w' => w' = w21 ∧ z.1 = decide (t + e.2.1 < 0 ∨ t + e.2.1 > 1125899906842624)) ?_ ?_
    · refine brD (fun c => ⟨rfl, (decide_eq_true (.inl c)).symm⟩) fun c => ⟨rfl, ?_⟩
      show decide _ = decide _
      by_cases h : t + e.2.1 > 1125899906842624
      · rw [decide_eq_true h, decide_eq_true (.inr h)]
      · rw [decide_eq_false h, decide_eq_false (by omega)]
    · rintro ⟨z, _⟩ _ ⟨rfl, rfl⟩ _
      dsimp only
      refine brD (fun c => ?_) fun c => ?_
      · have no : okG (e.1, e.2.1, 0, 1, e.2.2) t = false := by
          cases h : okG (e.1, e.2.1, 0, 1, e.2.2) t
          · rfl
          · have := okG_iff.1 h; rw [er] at this; omega
        refine brT (by rw [no]; rfl) (holds (lift (f14.trans u21)) ?_)
        show (gV _ t == 0) = true
        unfold gV; rw [no]; rfl
      · have ok : okG (e.1, e.2.1, 0, 1, e.2.2) t = true := okG_iff.2 ⟨by omega, by omega, by rw [er]; omega, by rw [er]; omega⟩
        refine (k14.gro u21).ld5 (globe_Map_Back.cl (m := (e.1, e.2.1, 0, 1, e.2.2)) hm fun x b w27 u27 hb => ?_)
        obtain ⟨rfl, rfl⟩ := Back_0 (m := (e.1, e.2.1, 0, 1, e.2.2)) rfl ok rfl hb
        refine brT ok (brT ?_ (brT rfl (brT (by simp) (((k14.gro u21).gro u27).i1 4 rfl (((q14.gro u21).gro u27).i1 2 rfl (holds (lift (f14.trans (u21.trans u27))) (by simp)))))))
        show (gV _ x == x + e.2.1) = true
        unfold gV; rw [if_pos ok, er]; simp
end Go.Proofs.Ythgkdjfcdbjpdaa
