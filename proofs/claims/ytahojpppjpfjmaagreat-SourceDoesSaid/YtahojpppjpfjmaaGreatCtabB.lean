/- Contracts of layer 12, part B: a table written: Clear, Add; the document's Add and Hops. Conditions: none. -/
import Derived.Test.YtahojpppjpfjmaaGreatCtabA
namespace Go.Proofs.YtahojpppjpfjmaaGreat
open Go.Eng Go
set_option linter.unusedVariables false
set_option linter.unusedSimpArgs false

/-! ### the plain law -/
def tooOld (es : List E3) (e : E3) : Bool := match es.getLast? with | some l => decide (e.1 ≤ l.1) | none => false
def addL (es : List E3) (e : E3) : List E3 := if goodB e = false ∨ tooOld es e = true then es else (es ++ [e]).drop (es.length + 1 - 8)
def addN (es : List E3) (e : E3) : Int := if goodB e = false then 1 else if tooOld es e = true then 12 else 0
theorem addL_len {es : List E3} {e : E3} (h : es.length ≤ 8) : (addL es e).length ≤ 8 := by
  unfold addL; split
  · exact h
  · rw [List.length_drop, List.length_append, List.length_singleton]; omega

/-- A table of one's own within a block: its row lies at or beyond base. -/
def TabG (w : World) (base bt : Nat) (pre post : List Value) (s : Sl) (es : List E3) : Prop := Blk w bt (pre ++ .slice s.1 s.2.1 s.2.2 :: post) ∧ OwnR w base T.table_Entry 3 s es.length (flat3 es) ∧ es.length ≤ 8 ∧ ∀ a, s.1 = some a → a.block ≠ bt
theorem TabG.tv {w : World} {base bt : Nat} {pre post : List Value} {s : Sl} {es : List E3} (h : TabG w base bt pre post s es) : TV w (some ⟨bt, pre.length, none⟩) s es := .inr ⟨_, rfl, Blk.slotG pre post h.1, h.2.1.ents⟩
theorem TabG.upd {S : Nat → Prop} {w w' : World} {base bt : Nat} {pre post : List Value} {s : Sl} {es : List E3} (h : TabG w base bt pre post s es) (u : Upd S w w') (hb : ¬ S bt) (hs : ∀ a, s.1 = some a → ¬ S a.block) : TabG w' base bt pre post s es :=
  ⟨h.1.upd u hb, h.2.1.upd u hs, h.2.2⟩
theorem TabG.gro {w w' : World} {base bt : Nat} {pre post : List Value} {s : Sl} {es : List E3} (h : TabG w base bt pre post s es) (u : Gro w w') : TabG w' base bt pre post s es := h.upd u (fun x => x) fun _ _ x => x
/-- A table of one's own: its row lies at or beyond base. -/
def Tab (w : World) (base bt : Nat) (s : Sl) (es : List E3) : Prop := Blk w bt [.slice s.1 s.2.1 s.2.2] ∧ OwnR w base T.table_Entry 3 s es.length (flat3 es) ∧ es.length ≤ 8 ∧ ∀ a, s.1 = some a → a.block ≠ bt
theorem Tab.g {w : World} {base bt : Nat} {s : Sl} {es : List E3} (h : Tab w base bt s es) : TabG w base bt [] [] s es := h
theorem Tab.tv {w : World} {base bt : Nat} {s : Sl} {es : List E3} (h : Tab w base bt s es) : TV w (some ⟨bt, 0, none⟩) s es := h.g.tv
theorem Tab.upd {S : Nat → Prop} {w w' : World} {base bt : Nat} {s : Sl} {es : List E3} (h : Tab w base bt s es) (u : Upd S w w') (hb : ¬ S bt) (hs : ∀ a, s.1 = some a → ¬ S a.block) : Tab w' base bt s es :=
  ⟨h.1.upd u hb, h.2.1.upd u hs, h.2.2⟩
theorem Tab.gro {w w' : World} {base bt : Nat} {s : Sl} {es : List E3} (h : Tab w base bt s es) (u : Gro w w') : Tab w' base bt s es := h.upd u (fun x => x) fun _ _ x => x
/-- a slice written within a block -/
theorem Blk.stG {b : Nat} {k : World → Prop} (pre post : List Value) {c v : Value} {w : World} (h : Blk w b (pre ++ c :: post)) (hv : okc v = true)
    (hk : ∀ w', Blk w' b (pre ++ v :: post) → Upd (fun x => x = b) w w' → k w') : stN [v] ⟨b, pre.length, none⟩ 0 w k := by
  refine h.st [v] (by rw [List.length_append, List.length_cons]; simp) (by simp [hv]) fun w' k' u => hk w' ?_ u
  have e : splice (pre ++ c :: post) (pre.length + 0) [v] = pre ++ v :: post := by
    simp [splice]
  rwa [e] at k'
theorem Blk.holdG {S : Nat → Prop} {w w' : World} {b : Nat} {c : Value} (pre post : List Value) (h : Blk w b (pre ++ c :: post)) (u : Upd S w w') (hS : ¬ S b) : w'.cell? ⟨b, pre.length, none⟩ = some ((w.cell? ⟨b, pre.length, none⟩).getD undef) := by
  have := h.hold u hS pre.length (by rw [List.length_append, List.length_cons]; omega)
  rwa [add_eq, Nat.zero_add] at this

set_option maxRecDepth 20000 in
theorem slices_Clone.cl {w : World} {x : Sl} {es : List E3} (hr : Ents w x es) (hn : es.length ≤ 1000) (hx : x.1 ≠ none) {k : TR [(false, [.sl])] → World → Prop}
    (hk : ∀ s' w', Gro w w' → OwnR w' w.heap.size T.table_Entry 3 s' es.length (flat3 es) → k ((s', ()), ()) w') :
    clS Tryz.prog F.slices_Clone_table_Entry_table_Entry [.slice x.1 x.2.1 x.2.2] w false [(false, [.sl])] k := by
  refine slices_Clone_table_Entry_table_Entry.ok ?_
  unfold slices_Clone_table_Entry_table_Entry.wp
  refine brF (by cases h : x.1; exact absurd h hx; rfl) ?_
  refine alK_own 3 0 rfl (by omega) fun p1 w2 e1 own0 u1 => ?_
  refine ap_own (s := (some ⟨p1, 0, none⟩, 0, 0)) (x := x) (e := T.table_Entry) (size := 3) (news := flat3 es) (by kernel_rfl) (by kernel_rfl) (by decide) own0 (hr.gro u1) (flat3_one es) ?_ ?_ ?_
  · rw [hr.len]; omega
  · exact Nat.le_of_lt (own0.blk rfl).2.1
  · intro s' w4 ho u4 _
    rw [hr.len, Nat.zero_add, List.nil_append] at ho
    refine hk s' w4 (Upd.trans u1 u4 fun i hi h => ?_) (ho.rebase fun a ha => by have := (ho.blk ha).1; omega)
    obtain ⟨a, ha, h⟩ := h
    cases ha
    have : p1 = i := h
    omega
theorem brOr {x y : Bool} {A B : Prop} (h1 : x = true → A) (h2 : x = false → B) : brB x A B := brC h1 h2
theorem tooOld_some {es : List E3} {e l : E3} (h : es.getLast? = some l) : tooOld es e = decide (e.1 ≤ l.1) := by unfold tooOld; rw [h]

set_option maxRecDepth 20000 in
set_option maxHeartbeats 800000 in
theorem table_Table_Add.clG {w : World} {base bt : Nat} (pre post : List Value) {s : Sl} {es : List E3} {e : E3} (hT : TabG w base bt pre post s es) (hbase : base ≤ w.heap.size) {k : TR [(false, [.i .i64])] → World → Prop}
    (hk : ∀ s' w', TabG w' base bt pre post s' (addL es e) → Upd (fun z => z = bt ∨ ∃ a, s.1 = some a ∧ a.block = z) w w' →
      (∀ a, s'.1 = some a → (∃ a0, s.1 = some a0 ∧ a.block = a0.block) ∨ w.heap.size ≤ a.block) → k ((addN es e, ()), ()) w') :
    clS Tryz.prog F.table_Table_Add [.pointer (some ⟨bt, pre.length, none⟩), .agg #[.int .i64 e.1, .int .i64 e.2.1, .int .i64 e.2.2]] w false [(false, [.i .i64])] k := by
  refine table_Table_Add.ok ?_
  unfold table_Table_Add.wp
  have same : ∀ w', Gro w w' → addL es e = es → k ((addN es e, ()), ()) w' := fun w' g h => hk s w' (by rw [h]; exact hT.gro g) (Upd.of_gro g) fun a ha => .inl ⟨a, ha, rfl⟩
  refine alK_by fun p1 w2 e1 k1 u1 => ?_
  have l1 := k1.lt
  refine CutT.by (fun _ w' => Gro w w' ∧ Blk w' p1 [.int .i64 e.1, .int .i64 e.2.1, .int .i64 e.2.2] ∧ goodB e = true ∧ tooOld es e = false) ?_ ?_
  · have hb : ∀ {w10 : World}, Gro w w10 → Blk w10 p1 [.int .i64 e.1, .int .i64 e.2.1, .int .i64 e.2.2] → ∀ {A : World → Prop},
        (goodB e = true → ∀ w', Gro w w' → Gro w10 w' → Blk w' p1 [.int .i64 e.1, .int .i64 e.2.1, .int .i64 e.2.2] → A w') →
        ldN [.i .i64, .i .i64, .i .i64] ⟨p1, 0, none⟩ 0 w10 fun x11 => clS Tryz.prog F.table_Entry_Good [.agg #[.int .i64 x11.1, .int .i64 x11.2.1, .int .i64 x11.2.2.1]] w10 false [(false, [.b])] fun r12 w13 =>
          brB (!r12.1.1) (k ((1, ()), ()) w13) (A w13) := by
      intro w10 g k1' A hA
      refine k1'.ld3 (table_Entry_Good.cl fun w13 u13 => brNot (fun c => ?_) fun c => hA c w13 (g.trans u13) u13 (k1'.gro u13))
      have c : goodB e = false := c
      have := same w13 (g.trans u13) (by unfold addL; rw [if_pos (.inl c)])
      unfold addN at this
      rw [if_pos c] at this; exact this
    refine table_Table_Last.cl (hT.gro u1).tv (by have := hT.2.2.1; omega) (fun hnil w7 u7 => ?_) fun l hl w7 u7 => ?_
    · refine alK_by fun p8 w9 e8 k8 u8 => k8.sta _ rfl rfl fun w10 k10 u10 => brF rfl ?_
      have g10 : Gro w2 w10 := Gro.fresh u7 u8 u10 e8
      refine hb (u1.trans g10) (k1.gro g10) (A := fun w13 => brB false _ _) fun hg w' g' _ k' => ⟨g', k', hg, ?_⟩
      unfold tooOld; rw [hnil]; rfl
    · refine alK_by fun p8 w9 e8 k8 u8 => k8.sta _ rfl rfl fun w10 k10 u10 => brF rfl ?_
      have g10 : Gro w2 w10 := Gro.fresh u7 u8 u10 e8
      refine hb (u1.trans g10) (k1.gro g10) (A := fun w13 => brB true _ _) fun hg w' g' u' k' => ?_
      refine k'.i0 rfl ((k10.gro u').i0 rfl (brD (fun c => ?_) fun c => ⟨g', k', hg, ?_⟩))
      · have c : e.1 ≤ l.1 := c
        have ho : tooOld es e = true := by rw [tooOld_some hl, decide_eq_true c]
        have := same w' g' (by unfold addL; rw [if_pos (.inr ho)])
        unfold addN at this
        rw [if_neg (by rw [hg]; simp), if_pos ho] at this; exact this
      · have c : ¬ e.1 ≤ l.1 := c
        rw [tooOld_some hl, decide_eq_false c]
  · rintro _ w5 ⟨g5, k5, hg, ho⟩ _
    have hn : addN es e = 0 := by unfold addN; rw [if_neg (by rw [hg]; simp), if_neg (by rw [ho]; simp)]
    have hL : addL es e = (es ++ [e]).drop (es.length + 1 - 8) := by unfold addL; rw [if_neg (by rw [hg, ho]; simp)]
    obtain ⟨hb, hO, h8, hd⟩ := hT.gro (Upd.drew g5)
    rw [drK_eq, ncK_eq]
    refine (Blk.slotG pre post hb).sl0 ?_
    refine (k5.drew).ld3 (alK_by fun p20 w21 e20 k20 u20 => ⟨?_, ?_⟩)
    · exact ⟨k5.drew.hold u20 (fun x => x) 0 (by simp), k5.drew.hold u20 (fun x => x) 1 (by simp), k5.drew.hold u20 (fun x => x) 2 (by simp), Blk.holdG pre post hb u20 (fun x => x), trivial⟩
    · have own1 : ∀ a, s.1 = some a → a.block < p1 := fun a ha => by have := (hT.2.1.blk ha).2.1; omega
      have lb : bt < p1 := by have := hT.1.lt; omega
      have l5 := k5.lt
      refine ap_own (x := (some ⟨p20, 0, none⟩, 1, 1)) (e := T.table_Entry) (size := 3) (news := flat3 [e]) (by kernel_rfl) (by kernel_rfl) (by decide) (hO.gro u20) ⟨rfl, fun _ => ⟨_, rfl, k20.news⟩⟩ (flat3_one _) ?_ ?_ ?_
      · show es.length + 1 ≤ _; omega
      · exact Nat.le_trans hbase (Nat.le_trans g5.size u20.size)
      intro s' w23 ho' u23 hbl
      have k23 := (k5.drew.gro u20)
      have np1 : ¬ ∃ a, s.1 = some a ∧ a.block = p1 := by rintro ⟨a, ha, h⟩; have := own1 a ha; omega
      have nbt : ¬ ∃ a, s.1 = some a ∧ a.block = bt := by rintro ⟨a, ha, h⟩; exact hd a ha h
      have u16 : Upd (fun z => ∃ a, s.1 = some a ∧ a.block = z) w5.drew w23 := (Upd.of_gro u20).trans u23 fun _ _ h => h
      refine ⟨⟨k5.drew.hold u16 np1 0 (by simp), k5.drew.hold u16 np1 1 (by simp), k5.drew.hold u16 np1 2 (by simp), trivial⟩, ?_⟩
      rw [ncK_eq]
      refine Blk.stG pre post (hb.upd u16 nbt) (v := .slice s'.1 s'.2.1 s'.2.2) rfl fun w25 k25 u25 => ⟨trivial, ?_⟩
      rw [ncK_eq]
      have hbl' : ∀ a, s'.1 = some a → (∃ a0, s.1 = some a0 ∧ a.block = a0.block) ∨ w.heap.size ≤ a.block := fun a ha => (hbl a ha).imp id fun h => by have := (Upd.drew g5).size; have := u20.size; omega
      have nbt' : ∀ a, s'.1 = some a → a.block ≠ bt := fun a ha h => by
        rcases hbl' a ha with ⟨a0, h0, h1⟩ | h1
        · exact hd a0 h0 (by omega)
        · have := hT.1.lt; omega
      have hO' : OwnR w25 base T.table_Entry 3 s' (es ++ [e]).length (flat3 (es ++ [e])) := by
        rw [flat3_append, List.length_append]
        exact ho'.upd u25 fun a ha h => nbt' a ha h
      have U : Upd (fun z => z = bt ∨ ∃ a, s.1 = some a ∧ a.block = z) w w25 :=
        ((Upd.of_gro (Upd.drew g5)).trans u16 fun _ _ h => .inr h).trans u25 fun _ _ h => .inl h
      refine (Blk.slotG pre post k25).sl0 ?_
      have hlen : s'.2.1 = es.length + 1 := by rw [hO'.len, List.length_append]; rfl
      refine brD (fun c => ?_) fun c => ?_
      · have c : (s'.2.1 : Int) > 8 := c
        rw [ncK_eq]
        refine (Blk.slotG pre post k25).sl0 ?_
        rw [slK_eq ⟨by decide, by omega, by have := hO'.cap; omega⟩]
        have hne : s'.1 ≠ none := by
          obtain ⟨a, ha⟩ := hO'.ents.addr (i := 0) (e := (es ++ [e])[0]'(by rw [List.length_append]; show 0 < _ + 1; omega)) (List.getElem?_eq_getElem _)
          rw [ha]; simp
        refine slices_Clone.cl (x := (slA s'.1 s'.2.2 1 3, s'.2.1 - 1, s'.2.2 - 1)) (hO'.ents.from hO'.cap (l := 1) (by rw [List.length_append]; show 1 ≤ _ + 1; omega)) (by rw [List.length_drop, List.length_append]; show _ + 1 - 1 ≤ _; omega) ?_ fun s2 w31 u31 ho2 => ?_
        · show slA s'.1 s'.2.2 1 3 ≠ none
          unfold slA
          split
          · exact hne
          · cases h : s'.1
            · exact absurd h hne
            · simp
        · rw [ncK_eq]
          have n2 : ∀ a, s2.1 = some a → w.heap.size ≤ a.block := fun a ha => by have := (ho2.blk ha).1; have := U.size; omega
          refine Blk.stG pre post (k25.gro u31) (v := .slice s2.1 s2.2.1 s2.2.2) rfl fun w33 k33 u33 => ?_
          rw [← hn]
          have h7 : (es ++ [e]).drop 1 = addL es e := by rw [hL, show es.length + 1 - 8 = 1 by omega]
          rw [h7] at ho2
          refine hk s2 w33 ⟨k33, (ho2.upd u33 fun a ha h => ?_).rebase fun a ha => Nat.le_trans hbase (n2 a ha), addL_len hT.2.2.1, fun a ha h => ?_⟩ ((U.gro u31).trans u33 fun _ _ h => .inl h) fun a ha => .inr (n2 a ha)
          · have := n2 a ha; have := hT.1.lt; omega
          · have := n2 a ha; have := hT.1.lt; omega
      · have c : ¬ (s'.2.1 : Int) > 8 := c
        rw [← hn]
        have h7 : es ++ [e] = addL es e := by rw [hL, show es.length + 1 - 8 = 0 by omega]; rfl
        rw [h7] at hO'
        exact hk s' w25 ⟨k25, hO', addL_len hT.2.2.1, nbt'⟩ U hbl'
theorem table_Table_Add.cl {w : World} {base bt : Nat} {s : Sl} {es : List E3} {e : E3} (hT : Tab w base bt s es) (hbase : base ≤ w.heap.size) {k : TR [(false, [.i .i64])] → World → Prop}
    (hk : ∀ s' w', Tab w' base bt s' (addL es e) → Upd (fun z => z = bt ∨ ∃ a, s.1 = some a ∧ a.block = z) w w' →
      (∀ a, s'.1 = some a → (∃ a0, s.1 = some a0 ∧ a.block = a0.block) ∨ w.heap.size ≤ a.block) → k ((addN es e, ()), ()) w') :
    clS Tryz.prog F.table_Table_Add [.pointer (some ⟨bt, 0, none⟩), .agg #[.int .i64 e.1, .int .i64 e.2.1, .int .i64 e.2.2]] w false [(false, [.i .i64])] k :=
  table_Table_Add.clG [] [] hT.g hbase fun s' w' h => hk s' w' h
theorem table_Table_Clear.clG {w : World} {base bt : Nat} (pre post : List Value) {s : Sl} {es : List E3} (hT : TabG w base bt pre post s es) {k : TR [] → World → Prop} (hk : ∀ w', TabG w' base bt pre post (none, 0, 0) [] → Upd (fun z => z = bt) w w' → k () w') :
    clS Tryz.prog F.table_Table_Clear [.pointer (some ⟨bt, pre.length, none⟩)] w true [] k := by
  refine table_Table_Clear.ok ?_
  unfold table_Table_Clear.wp
  refine brT rfl ?_
  rw [ncK_eq]
  exact Blk.stG pre post hT.1 rfl fun w2 k2 u2 => hk w2 ⟨k2, OwnR.nil _ _ _ _, by simp, fun a h => by cases h⟩ u2
end Go.Proofs.YtahojpppjpfjmaaGreat
