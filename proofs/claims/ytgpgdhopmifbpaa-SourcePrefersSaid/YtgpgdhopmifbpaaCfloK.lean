/- The law FloodKnows. Conditions: none. -/
import Derived.Test.YtgpgdhopmifbpaaCfloS
namespace Go.Proofs.Ytgpgdhopmifbpaa
open Go.Eng Go
set_option linter.unusedVariables false
set_option linter.unusedSimpArgs false

theorem FW.hold0 {O S : Nat → Prop} {w w' : World} {bf be : Nat} {f : Fl} {e : El} {l : MkL} {es : List E3} (h : FW w O bf be f e l es) (u : Upd S w w') (hS : ¬ S bf) : w'.cell? ⟨bf, 0, none⟩ = some ((w.cell? ⟨bf, 0, none⟩).getD undef) := by
  obtain ⟨r, s, h1, _⟩ := h.ex
  exact h1.hold u hS 0 (by simp [flC])
theorem esF_len {c : Int} {es : List E3} {s : S6} {loc : Int} (h8 : es.length ≤ 8) : (c = 2 → (esF c es s loc).length = 1) ∧ ((esF c es s loc).length = 1 ∨ (c ≠ 2 → (esF c es s loc).length = min 8 (es.length + 1))) := by
  have key : ∀ es : List E3, es.length ≤ 8 → (adF es (entF s loc)).length = 1 ∨ (adF es (entF s loc)).length = min 8 (es.length + 1) := fun es h8 => by
    unfold adF
    by_cases c : addN es (entF s loc) = 0
    · rw [if_pos c, (addN_0 c).2.2, List.length_drop, List.length_append, List.length_singleton]; right; omega
    · rw [if_neg c]; left; rfl
  unfold esF
  refine ⟨fun h => ?_, ?_⟩
  · rw [if_pos h]
    rcases key [] (by simp) with h | h
    · exact h
    · rw [h]; rfl
  · by_cases h : c = 2
    · exact .inr fun h' => absurd h h'
    · rw [if_neg h]
      exact (key es h8).imp id fun h _ => h
theorem tm9 {f : Fl} {e : El} {es : List E3} : ((tmF f e es 0).2.2 == 9) = !(synF f e es.length) := by
  unfold tmF
  cases c : synF f e es.length
  · rfl
  · have i0 : inT 0 = true := by decide
    rw [if_neg (by simp), if_neg (by rw [i0]; simp)]
    split
    · rfl
    · split <;> rfl
theorem hrN_code {e : El} {l : MkL} {root : Int} {m : Tvs MK} : hrN e l root m = 0 ∨ hrN e l root m = 1 ∨ hrN e l root m = 2 := by
  unfold hrN
  split
  · exact .inl rfl
  · split
    · exact .inl rfl
    · split
      · exact .inr (.inr rfl)
      · split
        · exact .inr (.inr rfl)
        · exact .inr (.inl rfl)
theorem hrF_code {e : El} {l : MkL} {s : S6} {loc : Int} : hrF e l s loc = 0 ∨ hrF e l s loc = 1 ∨ hrF e l s loc = 2 := by
  unfold hrF; split
  · exact hrN_code
  · exact .inl rfl

set_option maxRecDepth 20000 in
set_option maxHeartbeats 4000000 in
theorem law16_FloodKnows.cl {me r0 r1 r2 r3 : Int} {s : Sl} {xs : List (Tvs K16)} {w : World} (hR : RowsT w s K16 xs) :
    clS Try.prog F.law16_FloodKnows [.int .i64 me, .agg #[.int .i64 r0, .int .i64 r1, .int .i64 r2, .int .i64 r3], .slice s.1 s.2.1 s.2.2] w false [(false, [.b])] (Holds w) := by
  refine law16_FloodKnows.ok ?_
  unfold law16_FloodKnows.wp
  refine alK_by fun p1 w2 e1 k1 u1 => law16_alive.cl fun w4 u4 => brF rfl (brD (fun _ => holds (u1.trans u4) rfl) fun cl => ?_)
  have cl : ¬ (s.2.1 : Int) > 200 := cl
  have hl := hR.len (by decide)
  have g4 := u1.trans u4
  refine (k1.gro u4).cA (cs := [.i .i64, .i .i64, .i .i64, .i .i64]) (r0, r1, r2, r3, ()) rfl (law16_rules.cl fun w7 u7 => ?_)
  have g7 := g4.trans u7
  refine flood_New.cw (fun c w9 u9 => brT rfl (holds (g7.trans u9) rfl)) fun m0 m1 hg O bf be w9 F9 hO u9 => brF rfl ?_
  have g9 := g7.trans u9
  have hO' : ∀ z, O z → w.heap.size ≤ z := fun z hz => Nat.le_trans g7.size (hO z hz)
  have n1 : ¬ O p1 := fun h => by have := hO p1 h; have := ((k1.gro u4).gro u7).lt; omega
  have k9 := ((k1.gro u4).gro u7).gro u9
  have nm : ∀ e : El, e.me = me → e.root < 0 → mine e = false := fun e h1 h2 => by
    unfold mine; exact beq_eq_false_iff_ne.2 (by omega)
  refine LoopT.by (fun z W => ∃ (i : Nat) (O' : Nat → Prop) (f : Fl) (e : El) (l : MkL) (es : List E3), z.1 = i ∧ i ≤ xs.length ∧ Gro w W ∧ FW W O' bf be f e l es ∧ (∀ z, O' z → w.heap.size ≤ z) ∧ Blk W p1 [.int .i64 r0, .int .i64 r1, .int .i64 r2, .int .i64 r3] ∧ ¬ O' p1 ∧ f.need = r2 ∧ e.me = me ∧ (mine e = true → es = []))
    (fun z => ((xs.length : Int) - z.1).toNat) ⟨0, O, _, _, _, _, rfl, by omega, g9, F9, hO', k9, n1, rfl, rfl, fun _ => rfl⟩ ?_
  clear k9 F9 hO' hO n1
  rintro ⟨z, _⟩ W ⟨i, O', f, e, l, es, hz, hi, g, hF, hO, kr, nr, fn, em, hI⟩ _
  dsimp only at hz
  subst hz
  refine brD (fun c => ?_) fun c => holds g rfl
  have c : (i : Int) < s.2.1 := c
  have hi1 : i < xs.length := by omega
  have hx : xs[i]? = some xs[i] := List.getElem?_eq_getElem hi1
  generalize xs[i] = x at hx
  have hRW := hR.gro g
  have hw1 : IntKind.wrap .i64 ((i : Int) + 1) = i + 1 := w64_in (by unfold I64; omega)
  refine hRW.ix (by decide) rfl hx fun a ha => hRW.ldN ha hx ?_
  refine alK_by fun p15 w16 e15 k15 u16 => k15.sta _ rfl rfl fun w17 k17 u17 => ?_
  change Blk w17 p15 (encs K16 x) at k17
  have g17 : Gro W w17 := Gro.fresh (Gro.refl _) u16 u17 e15
  have n15 : ¬ O' p15 := fun h => by have := hF.lt _ h; omega
  have F17 := hF.gro g17
  have kr17 := kr.gro g17
  have G17 := g.trans g17
  refine flood_Flood_Entries.cw F17 ?_
  refine CutT.by (fun _ W' => ∃ (O' : Nat → Prop) (f : Fl) (e : El) (l : MkL) (es : List E3), Gro w W' ∧ FW W' O' bf be f e l es ∧ (∀ z, O' z → w.heap.size ≤ z) ∧ Blk W' p1 [.int .i64 r0, .int .i64 r1, .int .i64 r2, .int .i64 r3] ∧ ¬ O' p1 ∧ f.need = r2 ∧ e.me = me ∧ (mine e = true → es = [])) ?_ ?_
  · have stay : ∀ {W'}, Gro w17 W' → ∃ (O' : Nat → Prop) (f : Fl) (e : El) (l : MkL) (es : List E3), Gro w W' ∧ FW W' O' bf be f e l es ∧ (∀ z, O' z → w.heap.size ≤ z) ∧ Blk W' p1 [.int .i64 r0, .int .i64 r1, .int .i64 r2, .int .i64 r3] ∧ ¬ O' p1 ∧ f.need = r2 ∧ e.me = me ∧ (mine e = true → es = []) :=
      fun g' => ⟨O', f, e, l, es, G17.trans g', F17.gro g', hO, kr17.gro g', nr, fn, em, hI⟩
    have step : ∀ {W' O2 f2 e2 l2 es2}, Nx O' w17 O2 W' → FW W' O2 bf be f2 e2 l2 es2 → f2.need = r2 → e2.me = me → (mine e2 = true → es2 = []) → ∃ (O' : Nat → Prop) (f : Fl) (e : El) (l : MkL) (es : List E3), Gro w W' ∧ FW W' O' bf be f e l es ∧ (∀ z, O' z → w.heap.size ≤ z) ∧ Blk W' p1 [.int .i64 r0, .int .i64 r1, .int .i64 r2, .int .i64 r3] ∧ ¬ O' p1 ∧ f.need = r2 ∧ e.me = me ∧ (mine e = true → es = []) :=
      fun X F2 a1 a2 a3 => ⟨_, _, _, _, _, Upd.trans G17 X.u fun i hi h => by have := hO i h; omega, F2, fun z hz => (X.sub z hz).elim (hO z) fun h => Nat.le_trans G17.size h, (X.blk kr17 nr).1, (X.blk kr17 nr).2, a1, a2, a3⟩
    refine k17.c0 (c := .i .i64) (x := x.1) rfl (CutT.by (fun z W' => W' = w17) (brC (fun _ => rfl) fun _ => brC (fun _ => rfl) fun _ => rfl) ?_)
    rintro ⟨b, _⟩ w19 rfl _
    refine brC (fun _ => ?_) fun _ => ?_
    · rw [drK_eq]
      have kd := k17.drew
      refine kd.cN 2 (cs := K14) x.2.2 rfl (kd.c1 1 (x := x.2.1) rfl (law16_sync.cl (p := x.2.2) fun w28 u28 => ?_))
      have hh : ∀ {w'} {S : Nat → Prop}, Upd S w19.drew w' → ¬ S p15 → ∀ j, j < 14 → w'.cell? (Addr.add (Addr.add ⟨p15, 0, none⟩ 2) j) = some ((w19.drew.cell? (Addr.add (Addr.add ⟨p15, 0, none⟩ 2) j)).getD undef) := fun u hS j hj => kd.hold2 u hS 2 j (by rw [show (encs K16 x).length = 16 from rfl]; omega)
      have h28 := hh u28 (fun x => x)
      refine ⟨⟨kd.hold u28 (fun x => x) 1 (by simp [encs]), h28 0 (by decide), h28 1 (by decide), h28 2 (by decide), h28 3 (by decide), h28 4 (by decide), h28 5 (by decide), h28 6 (by decide), h28 7 (by decide), h28 8 (by decide), h28 9 (by decide), h28 10 (by decide), h28 11 (by decide), h28 12 (by decide), h28 13 (by decide), trivial⟩, ?_⟩
      have f28 : Gro w19 w28 := (Gro.drew _).trans u28
      refine flood_Flood_Hear.cw (s := syP x.2.2) (loc := x.2.1) (F17.gro f28) (fun h0 w30 u30 => ?_) fun c hc hc0 ok w30 O30 F30 x30 => ?_
      · have h30 := hh (u28.trans u30) (fun x => x)
        refine ⟨⟨h30 0 (by decide), h30 1 (by decide), h30 2 (by decide), h30 3 (by decide), h30 4 (by decide), h30 5 (by decide), h30 6 (by decide), h30 7 (by decide), h30 8 (by decide), h30 9 (by decide), h30 10 (by decide), h30 11 (by decide), h30 12 (by decide), h30 13 (by decide), trivial⟩, ?_⟩
        refine flood_Flood_Entries.cw ((F17.gro f28).gro u30) (brT rfl (brS rfl (brF rfl (brF rfl (stay (f28.trans u30))))))
      · have h30 := hh ((Upd.of_gro u28).trans x30.u fun _ _ h => h) n15
        refine ⟨⟨h30 0 (by decide), h30 1 (by decide), h30 2 (by decide), h30 3 (by decide), h30 4 (by decide), h30 5 (by decide), h30 6 (by decide), h30 7 (by decide), h30 8 (by decide), h30 9 (by decide), h30 10 (by decide), h30 11 (by decide), h30 12 (by decide), h30 13 (by decide), trivial⟩, ?_⟩
        refine flood_Flood_Entries.cw F30 (brF (beq_eq_false_iff_ne.2 hc0) ?_)
        have hlen := esF_len (c := c) (es := es) (s := syP x.2.2) (loc := x.2.1) hF.len
        have hmay := hrF_may (hc.symm ▸ hc0 : hrF e l (syP x.2.2) x.2.1 ≠ 0)
        have fin := step (Nx.pre f28 x30) F30 fn em (fun h => by
          have h := mine_root h
          have h : (syP x.2.2).2.1 = e.me := h
          omega)
        have hcc : c = 1 ∨ c = 2 := by have := hrF_code (e := e) (l := l) (s := syP x.2.2) (loc := x.2.1); omega
        have h8 := hF.len
        rcases hcc with rfl | rfl
        · refine brF rfl (brT rfl ?_)
          have hw8 : IntKind.wrap .i64 ((es.length : Int) + 1) = es.length + 1 := w64_in (by unfold I64; omega)
          refine brN (fun cn => ?_) fun _ => fin
          refine brN (fun c1 => ?_) fun _ => fin
          have c1 : ((esF 1 es (syP x.2.2) x.2.1).length : Int) ≠ 1 := c1
          have cn : ((esF 1 es (syP x.2.2) x.2.1).length : Int) ≠ (if 8 < IntKind.wrap .i64 ((es.length : Int) + 1) then 8 else IntKind.wrap .i64 ((es.length : Int) + 1)) := cn
          rw [hw8] at cn
          rcases hlen.2 with h | h
          · omega
          · have h := h (by decide)
            exfalso; apply cn; rw [h]
            by_cases h9 : 8 < (es.length : Int) + 1
            · rw [if_pos h9]; omega
            · rw [if_neg h9]; omega
        · have h1 : ((esF 2 es (syP x.2.2) x.2.1).length : Int) = 1 := by rw [hlen.1 rfl]; rfl
          exact brT rfl (brS h1 (brF rfl fin))
    · refine CutT.by (fun z W' => W' = w19) (brC (fun _ => rfl) fun _ => rfl) ?_
      rintro ⟨b, _⟩ _ rfl _
      refine brC (fun _ => ?_) fun _ => ?_
      · refine k17.c1 1 (x := x.2.1) rfl (flood_Flood_Beat.cw F17 fun w41 O41 F41 x41 => step x41 F41 ?_ ?_ ?_)
        · unfold b1f; split <;> exact fn
        · exact (b2e_keep _ _).1.trans em
        · intro h
          have hk := b2e_keep e x.2.1
          have hr := mine_root h
          rw [hk.1, hk.2, btE_root] at hr
          unfold b1l
          by_cases cb : btB e = true
          · rw [if_pos cb]
          · rw [if_neg cb] at hr ⊢
            exact hI (mine_of hr)
      · refine brC (fun _ => ?_) fun _ => stay (Gro.refl _)
        refine k17.c2 2 4 (c := .i .u16) (x := x.2.2.2.2.2.2.1) rfl (flood_Flood_Boot.cw F17 fun w44 O44 F44 x44 => flood_Flood_Entries.cw F44 (brS rfl (flood_Flood_Synced.cw F44 fun w48 u48 => brF ?_ ?_)))
        · have h1 := nm (bootE e x.2.2.2.2.2.2.1) em (by show (-1 : Int) < 0; decide)
          show synF _ _ 0 = false
          unfold synF
          rw [show ((bootE e x.2.2.2.2.2.2.1).root == (bootE e x.2.2.2.2.2.2.1).me) = false from h1]
          have := hF.need
          show (false || decide ((0 : Int) ≥ f.need)) = false
          simp; omega
        · exact step (x44.gro u48) (F44.gro u48) fn em fun _ => rfl
  clear hI F17 kr17 hF kr g17 G17 hO nr n15 k17 fn em g
  rintro _ w22 ⟨O', f, e, l, es, g, hF, hO, kr, nr, fn, em, hI⟩ _
  have next : ∀ {W' : World}, Gro w22 W' → (∃ (j : Nat) (O' : Nat → Prop) (f : Fl) (e : El) (l : MkL) (es : List E3), ((IntKind.wrap .i64 ((i : Int) + 1), ()) : Int × Unit).1 = j ∧ j ≤ xs.length ∧ Gro w W' ∧ FW W' O' bf be f e l es ∧ (∀ z, O' z → w.heap.size ≤ z) ∧ Blk W' p1 [.int .i64 r0, .int .i64 r1, .int .i64 r2, .int .i64 r3] ∧ ¬ O' p1 ∧ f.need = r2 ∧ e.me = me ∧ (mine e = true → es = [])) ∧ ((xs.length : Int) - IntKind.wrap .i64 ((i : Int) + 1)).toNat < ((xs.length : Int) - i).toNat := by
    intro W' g'
    rw [hw1]
    exact ⟨⟨i + 1, O', f, e, l, es, rfl, by omega, g.trans g', hF.gro g', hO, kr.gro g', nr, fn, em, hI⟩, by omega⟩
  refine flood_Flood_Time.cw hF fun w50 u50 => ?_
  rw [drK_eq, ncK_eq]
  have f51 : Gro w22 w50.drew := u50.trans (Gro.drew _)
  have F51 := hF.gro f51
  refine F51.elect (flood_Flood_Synced.cw F51 fun w55 u55 => ⟨⟨F51.hold0 u55 (fun x => x), trivial⟩, ?_⟩)
  have F55 := F51.gro u55
  refine elect_Elect_Mine.cw F55 fun w57 u57 => ⟨⟨F51.hold0 (u55.trans u57) (fun x => x), trivial⟩, ?_⟩
  have F57 := F55.gro u57
  have f57 := u55.trans u57
  have h9 := tm9 (f := f) (e := e) (es := es)
  refine brC (fun cm => ?_) fun cm => ?_
  · have cm : mine e = true := cm
    have hes := hI cm
    have hsy : synF f e es.length = true := by unfold synF; rw [show (e.root == e.me) = true from cm]; rfl
    refine brF (by show (!(synF f e es.length == true)) = false; rw [hsy]; rfl) ?_
    refine flood_Flood_Synced.cw F57 fun w59 u59 => ⟨⟨F51.hold0 (f57.trans u59) (fun x => x), trivial⟩, brF (by show ((_ == 9) == _) = false; rw [h9, hsy]; rfl) ?_⟩
    rw [ncK_eq]
    have F59 := F57.gro u59
    refine F59.elect (elect_Elect_Mine.cw F59 fun w63 u63 => ⟨⟨F59.hold0 u63 (fun x => x), F51.hold0 ((f57.trans u59).trans u63) (fun x => x), trivial⟩, brT cm ?_⟩)
    have F63 := F59.gro u63
    refine flood_Flood_Entries.cw F63 ⟨⟨F59.hold0 u63 (fun x => x), F51.hold0 ((f57.trans u59).trans u63) (fun x => x), trivial⟩, brS (by rw [hes]; rfl) ?_⟩
    exact next (f51.trans ((f57.trans u59).trans u63))
  · have cm : mine e = false := cm
    have hsy : synF f e es.length = decide ((es.length : Int) ≥ r2) := by unfold synF; rw [show (e.root == e.me) = false from cm, fn]; rfl
    have kr57 := kr.gro (f51.trans f57)
    refine kr57.c1 2 (x := r2) rfl (flood_Flood_Entries.cw F57 ⟨⟨kr57.hold (Gro.refl _) (fun x => x) 2 (by simp), F51.hold0 f57 (fun x => x), trivial⟩, brF ?_ ?_⟩)
    · show (!(synF f e es.length == decide ((es.length : Int) ≥ r2))) = false
      rw [hsy]; simp
    refine flood_Flood_Synced.cw F57 fun w70 u70 => ⟨⟨kr57.hold u70 (fun x => x) 2 (by simp), F51.hold0 (f57.trans u70) (fun x => x), trivial⟩, brF ?_ ?_⟩
    · show ((_ == 9) == _) = false
      rw [h9]; cases synF f e es.length <;> rfl
    rw [ncK_eq]
    have F70 := F57.gro u70
    refine F70.elect (elect_Elect_Mine.cw F70 fun w74 u74 => ⟨⟨F70.hold0 u74 (fun x => x), kr57.hold (u70.trans u74) (fun x => x) 2 (by simp), F51.hold0 ((f57.trans u70).trans u74) (fun x => x), trivial⟩, brF cm ?_⟩)
    exact next (f51.trans ((f57.trans u70).trans u74))
end Go.Proofs.Ytgpgdhopmifbpaa
