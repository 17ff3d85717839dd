/- More laws of chapter 13: Moved, Signs, Line. Conditions: arguments are integers of 64 bits, entries in a slice of any length. -/
import Derived.Test.YtccnlakbplmhnaaCslopelaw
namespace Go.Proofs.Ytccnlakbplmhnaa
open Go.Eng
set_option linter.unusedVariables false
set_option linter.unusedSimpArgs false

/-! ### moved -/
def mv (l o : Int) (e : E3) : E3 := (e.1 + l, e.2.1 + o, e.2.2)
theorem sm_mv (l o : Int) (e0 : E3) (es : List E3) : sm (mv l o e0) (es.map (mv l o)) = sm e0 es := by
  unfold sm
  rw [List.foldl_map]
  have : (fun x y => st5 (mv l o e0) x (mv l o y)) = st5 e0 := by
    funext s e
    simp only [st5, mv]
    have e1 : e.1 + l - (e0.1 + l) = e.1 - e0.1 := by omega
    have e2 : e.2.1 + o - (e0.2.1 + o) = e.2.1 - e0.2.1 := by omega
    rw [e1, e2]
  rw [this]
theorem slopeV_mv {drift l o : Int} {es : List E3} (h1 : ∀ e ∈ es, goodB e = true) (h2 : ∀ e ∈ es, goodB (mv l o e) = true) : slopeV drift (es.map (mv l o)) = slopeV drift es := by
  cases es with
  | nil => rfl
  | cons e0 t =>
    have hi : (∀ e ∈ (e0 :: t).map (mv l o), InR (((e0 :: t).map (mv l o)).headD (0, 0, 0)) e) ↔ (∀ e ∈ (e0 :: t), InR ((e0 :: t).headD (0, 0, 0)) e) := by
      simp only [List.map_cons, List.headD_cons, List.mem_cons, List.mem_map, InR, mv]
      constructor
      · intro h e he
        rcases he with rfl | he
        · have := h _ (.inl rfl); omega
        · have := h _ (.inr ⟨e, he, rfl⟩); simp only at this; omega
      · rintro h e (rfl | ⟨e', he, rfl⟩)
        · have := h e0 (.inl rfl); simp only; omega
        · have := h e' (.inr he); simp only; omega
    have hs : sm (((e0 :: t).map (mv l o)).headD (0, 0, 0)) ((e0 :: t).map (mv l o)) = sm ((e0 :: t).headD (0, 0, 0)) (e0 :: t) := sm_mv l o e0 (e0 :: t)
    have hg : (∀ e ∈ (e0 :: t).map (mv l o), goodB e = true) := by
      intro e he
      obtain ⟨e', he', rfl⟩ := List.mem_map.1 he
      exact h2 e' he'
    unfold slopeV slopeN slopeD
    rw [hs, List.length_map]
    have c : ((e0 :: t).length < 2 ∨ 8 < (e0 :: t).length ∨ (¬∀ (e : E3), e ∈ List.map (mv l o) (e0 :: t) → goodB e = true) ∨
      (¬∀ (e : E3), e ∈ List.map (mv l o) (e0 :: t) → InR ((List.map (mv l o) (e0 :: t)).headD (0, 0, 0)) e) ∨
      (sm ((e0 :: t).headD (0, 0, 0)) (e0 :: t)).1 * (sm ((e0 :: t).headD (0, 0, 0)) (e0 :: t)).2.2.2.2 - (sm ((e0 :: t).headD (0, 0, 0)) (e0 :: t)).2.1 * (sm ((e0 :: t).headD (0, 0, 0)) (e0 :: t)).2.1 < 1) ↔
      ((e0 :: t).length < 2 ∨ 8 < (e0 :: t).length ∨ (¬∀ (e : E3), e ∈ (e0 :: t) → goodB e = true) ∨
      (¬∀ (e : E3), e ∈ (e0 :: t) → InR ((e0 :: t).headD (0, 0, 0)) e) ∨
      (sm ((e0 :: t).headD (0, 0, 0)) (e0 :: t)).1 * (sm ((e0 :: t).headD (0, 0, 0)) (e0 :: t)).2.2.2.2 - (sm ((e0 :: t).headD (0, 0, 0)) (e0 :: t)).2.1 * (sm ((e0 :: t).headD (0, 0, 0)) (e0 :: t)).2.1 < 1) := by
      rw [hi]
      constructor
      · rintro (h | h | h | h | h)
        · exact .inl h
        · exact .inr (.inl h)
        · exact absurd hg h
        · exact .inr (.inr (.inr (.inl h)))
        · exact .inr (.inr (.inr (.inr h)))
      · rintro (h | h | h | h | h)
        · exact .inl h
        · exact .inr (.inl h)
        · exact absurd h1 h
        · exact .inr (.inr (.inr (.inl h)))
        · exact .inr (.inr (.inr (.inr h)))
    simp only [c]

theorem law13_SlopeMoved.cl {drift l o : Int} {s : Sl} {es : List E3} {w : World} (hE : Ents w s es) :
    clS Try.prog F.law13_SlopeMoved [.int .i64 drift, .slice s.1 s.2.1 s.2.2, .int .i64 l, .int .i64 o] w false [(false, [.b])] (Holds w) := by
  refine law13_SlopeMoved.ok ?_
  unfold law13_SlopeMoved.wp
  refine law13_alive.cl fun w1 g1 => brNot (fun h => by cases h) fun _ => ?_
  have hl := hE.len
  refine brD (fun _ => holds g1 rfl) fun c => brD (fun _ => holds g1 rfl) fun l0 => brD (fun _ => holds g1 rfl) fun l1 => brD (fun _ => holds g1 rfl) fun o0 => brD (fun _ => holds g1 rfl) fun o1 => ?_
  have c : ¬ (s.2.1 : Int) > 8 := c
  rw [negS] at l0 o0
  refine LoopT.by (fun z w' => Gro w w' ∧ ∃ i : Nat, z.2.1 = (i : Int) ∧ i ≤ es.length ∧ (∀ e ∈ es.take i, goodB e = true) ∧ (∀ e ∈ es.take i, goodB (mv l o e) = true) ∧
      w'.ownsRow w.heap.size T.table_Entry 3 (.slice z.1.1 z.1.2.1 z.1.2.2) i (flat3 ((es.take i).map (mv l o))))
    (fun z => (1000 - z.2.1).toNat) ⟨g1, 0, rfl, by omega, by simp, by simp, (by have := own_nil w1 w.heap.size T.table_Entry 3; exact this)⟩ ?_
  rintro ⟨z, zi, u⟩ w4 ⟨g, i, hz, hi, hg, hm, ho⟩ _
  simp only at hz ho
  subst hz
  refine brD (fun c => ?_) (fun c => ?_)
  · have hi' : i < es.length := by have c : (i : Int) < (s.2.1 : Int) := c; omega
    have he : es[i]? = some es[i] := List.getElem?_eq_getElem hi'
    generalize es[i] = e at he
    have hE3 := hE.gro g
    refine hE3.ix (z := (i : Int)) rfl he fun a ha => hE3.ldN ha he ?_
    refine alK_by fun p w5 e4 k4 u4 => ?_
    refine k4.sta [.int .i64 e.1, .int .i64 e.2.1, .int .i64 e.2.2] rfl rfl fun w6 k5 u5 => ?_
    refine k5.ld3 ?_
    refine table_Entry_Good.cl fun w7 u6 => ?_
    have f7 : Gro w4 w7 := Upd.gro (Upd.new (Upd.gro (Gro.refl w4) u4) u5 (fun h => absurd h (by omega))) u6
    have g7 := g.trans f7
    refine brNot (fun hb => holds g7 rfl) fun hb => ?_
    have hb : goodB e = true := hb
    have ge := goodB_iff.1 hb
    have k7 := k5.gro u6
    refine k7.i0 rfl ?_
    refine k7.i1 1 rfl ?_
    refine k7.i1 2 rfl ?_
    rw [w64_in (n := e.1 + l) (by unfold I64; omega), w64_in (n := e.2.1 + o) (by unfold I64; omega)]
    refine alK_by fun p' w8 e8 k8 u8 => ?_
    refine k8.sta [.int .i64 (e.1 + l), .int .i64 (e.2.1 + o), .int .i64 e.2.2] rfl rfl fun w9 k9 u9 => ?_
    refine k9.ld3 ?_
    refine table_Entry_Good.cl fun w10 u10 => ?_
    have f10 : Gro w4 w10 := Upd.gro (Upd.new (Upd.gro f7 u8) u9 (fun h => absurd f7.size (by omega))) u10
    have g10 := g.trans f10
    refine brNot (fun hb => holds g10 rfl) fun hb2 => ?_
    have hb2 : goodB (mv l o e) = true := hb2
    have k10 := k9.gro u10
    refine k10.ld3 ?_
    refine alK_by fun p'' w11 e11 k11 u11 => ?_
    have f11 := f10.trans u11
    refine slOf_snoc (e := T.table_Entry) (size := 3) (by kernel_rfl) (by kernel_rfl) (by decide) (g.trans f11) (own_gro ho f11) rfl k11.news (by simp [Value.oneCell']) (by omega) ?_
    intro s' w12 ho12 g12 _
    have e6 : IntKind.wrap .i64 ((i : Int) + 1) = ((i + 1 : Nat) : Int) := by rw [w64_in (by unfold I64; omega)]; rfl
    refine ⟨⟨g12, i + 1, e6, by omega, ?_, ?_, ?_⟩, ?_⟩
    · intro x hx
      rw [take_snoc he] at hx
      rcases List.mem_append.1 hx with hx | hx
      · exact hg x hx
      · simp at hx; subst hx; exact hb
    · intro x hx
      rw [take_snoc he] at hx
      rcases List.mem_append.1 hx with hx | hx
      · exact hm x hx
      · simp at hx; subst hx; exact hb2
    · rw [take_snoc he, List.map_append, flat3_append]; exact ho12
    · show (1000 - IntKind.wrap .i64 ((i : Int) + 1)).toNat < (1000 - (i : Int)).toNat
      rw [e6]; omega
  · have hi' : i = es.length := by have c : ¬ (i : Int) < (s.2.1 : Int) := c; omega
    subst hi'
    rw [List.take_length] at ho hg hm
    refine slope_Of.cl (hE.gro g) fun w5 g5 => ?_
    have hr : Ents w4 z (es.map (mv l o)) := own_row ho
    refine slope_Of.cl (hr.gro g5) fun w6 g6 => ?_
    rw [slopeV_mv hg hm]
    exact holds ((g.trans g5).trans g6) (by simp)

/-! ### signs -/
theorem snoc_ind {α : Type} {p : List α → Prop} (h0 : p []) (h1 : ∀ l e, p l → p (l ++ [e])) (l : List α) : p l := by
  have : ∀ n (l : List α), l.length = n → p l := by
    intro n
    induction n with
    | zero => intro l hl; rw [List.eq_nil_of_length_eq_zero hl]; exact h0
    | succ n ih =>
      intro l hl
      have hne : l ≠ [] := by intro e; subst e; cases hl
      obtain ⟨m, e, rfl⟩ : ∃ m e, l = m ++ [e] := ⟨l.dropLast, l.getLast hne, (List.dropLast_concat_getLast hne).symm⟩
      exact h1 m e (ih m (by simpa using hl))
  exact this _ l rfl
theorem pw_snoc {α : Type} {R : α → α → Prop} {l : List α} {e : α} : (l ++ [e]).Pairwise R ↔ l.Pairwise R ∧ ∀ f ∈ l, R f e := by
  rw [List.pairwise_append]; simp
/-- what a further entry adds -/
def tn (e0 : E3) (es : List E3) (x y : Int) : Int := (sm e0 es).1 * (x * y) - x * (sm e0 es).2.2.1 - y * (sm e0 es).2.1 + (sm e0 es).2.2.2.1
def td (e0 : E3) (es : List E3) (x : Int) : Int := (sm e0 es).1 * (x * x) - 2 * (x * (sm e0 es).2.1) + (sm e0 es).2.2.2.2
theorem slopeN_snoc (e0 : E3) (es : List E3) (e : E3) : slopeN e0 (es ++ [e]) = slopeN e0 es + tn e0 es (e.1 - e0.1) (e.2.1 - e0.2.1) := by
  unfold slopeN tn
  rw [sm_snoc]
  simp only [st5]
  generalize sm e0 es = s
  generalize e.1 - e0.1 = x
  generalize e.2.1 - e0.2.1 = y
  grind
theorem slopeD_snoc (e0 : E3) (es : List E3) (e : E3) : slopeD e0 (es ++ [e]) = slopeD e0 es + td e0 es (e.1 - e0.1) := by
  unfold slopeD td
  rw [sm_snoc]
  simp only [st5]
  generalize sm e0 es = s
  generalize e.1 - e0.1 = x
  grind
theorem tn_snoc (e0 : E3) (es : List E3) (e : E3) (x y : Int) : tn e0 (es ++ [e]) x y = tn e0 es x y + (x - (e.1 - e0.1)) * (y - (e.2.1 - e0.2.1)) := by
  unfold tn
  rw [sm_snoc]
  simp only [st5]
  generalize sm e0 es = s
  generalize e.1 - e0.1 = u
  generalize e.2.1 - e0.2.1 = v
  grind
theorem td_snoc (e0 : E3) (es : List E3) (e : E3) (x : Int) : td e0 (es ++ [e]) x = td e0 es x + (x - (e.1 - e0.1)) * (x - (e.1 - e0.1)) := by
  unfold td
  rw [sm_snoc]
  simp only [st5]
  generalize sm e0 es = s
  generalize e.1 - e0.1 = u
  grind
theorem tn_up (e0 : E3) (e : E3) : ∀ es : List E3, (∀ f ∈ es, f.1 ≤ e.1 ∧ f.2.1 ≤ e.2.1) → 0 ≤ tn e0 es (e.1 - e0.1) (e.2.1 - e0.2.1) :=
  snoc_ind (fun _ => by simp [tn, sm]) fun l f ih h => by
    rw [tn_snoc]
    have h1 := ih fun g hg => h g (by simp [hg])
    have h2 := h f (by simp)
    have := Int.mul_nonneg (show 0 ≤ e.1 - e0.1 - (f.1 - e0.1) by omega) (show 0 ≤ e.2.1 - e0.2.1 - (f.2.1 - e0.2.1) by omega)
    omega
theorem tn_down (e0 : E3) (e : E3) : ∀ es : List E3, (∀ f ∈ es, f.1 ≤ e.1 ∧ e.2.1 ≤ f.2.1) → tn e0 es (e.1 - e0.1) (e.2.1 - e0.2.1) ≤ 0 :=
  snoc_ind (fun _ => by simp [tn, sm]) fun l f ih h => by
    rw [tn_snoc]
    have h1 := ih fun g hg => h g (by simp [hg])
    have h2 := h f (by simp)
    have := Int.mul_nonneg (show 0 ≤ e.1 - e0.1 - (f.1 - e0.1) by omega) (show 0 ≤ -(e.2.1 - e0.2.1 - (f.2.1 - e0.2.1)) by omega)
    rw [Int.mul_neg] at this
    omega
theorem td_pos (e0 : E3) (e : E3) : ∀ es : List E3, (∀ f ∈ es, f.1 < e.1) → (0 ≤ td e0 es (e.1 - e0.1)) ∧ (es ≠ [] → 0 < td e0 es (e.1 - e0.1)) :=
  snoc_ind (fun _ => ⟨by simp [td, sm], fun h => absurd rfl h⟩) fun l f ih h => by
    rw [td_snoc]
    have h1 := ih fun g hg => h g (by simp [hg])
    have h2 := h f (by simp)
    have := Int.mul_pos (show 0 < e.1 - e0.1 - (f.1 - e0.1) by omega) (show 0 < e.1 - e0.1 - (f.1 - e0.1) by omega)
    exact ⟨by omega, fun _ => by omega⟩
theorem slopeN_up (e0 : E3) : ∀ es : List E3, es.Pairwise (fun f e => f.1 < e.1) → es.Pairwise (fun f e => f.2.1 ≤ e.2.1) → 0 ≤ slopeN e0 es :=
  snoc_ind (fun _ _ => by simp [slopeN, sm]) fun l e ih h1 h2 => by
    rw [pw_snoc] at h1 h2
    rw [slopeN_snoc]
    have := ih h1.1 h2.1
    have := tn_up e0 e l fun f hf => ⟨Int.le_of_lt (h1.2 f hf), h2.2 f hf⟩
    omega
theorem slopeN_down (e0 : E3) : ∀ es : List E3, es.Pairwise (fun f e => f.1 < e.1) → es.Pairwise (fun f e => e.2.1 ≤ f.2.1) → slopeN e0 es ≤ 0 :=
  snoc_ind (fun _ _ => by simp [slopeN, sm]) fun l e ih h1 h2 => by
    rw [pw_snoc] at h1 h2
    rw [slopeN_snoc]
    have := ih h1.1 h2.1
    have := tn_down e0 e l fun f hf => ⟨Int.le_of_lt (h1.2 f hf), h2.2 f hf⟩
    omega
theorem slopeD_pos (e0 : E3) : ∀ es : List E3, es.Pairwise (fun f e => f.1 < e.1) → 0 ≤ slopeD e0 es ∧ (2 ≤ es.length → 0 < slopeD e0 es) :=
  snoc_ind (fun _ => ⟨by simp [slopeD, sm], by simp⟩) fun l e ih h1 => by
    rw [pw_snoc] at h1
    rw [slopeD_snoc]
    have := ih h1.1
    have := td_pos e0 e l h1.2
    refine ⟨by omega, fun h => ?_⟩
    have := this.2 (by intro e; subst e; simp at h)
    omega
theorem bound_sign {drift A B : Int} : (0 ≤ A → 0 ≤ (bound drift A B).1) ∧ (A ≤ 0 → (bound drift A B).1 ≤ 0) := by
  have hd := dr_bd drift
  unfold bound
  split
  · exact ⟨fun _ => by simp only; omega, fun _ => by omega⟩
  · split
    · exact ⟨fun _ => by omega, fun _ => by simp only; omega⟩
    · exact ⟨fun h => h, fun h => h⟩
theorem slopeV_sign {drift : Int} {es : List E3} (h : es.Pairwise (fun f e => f.1 < e.1)) :
    (es.Pairwise (fun f e => f.2.1 ≤ e.2.1) → 0 ≤ (slopeV drift es).1) ∧ (es.Pairwise (fun f e => e.2.1 ≤ f.2.1) → (slopeV drift es).1 ≤ 0) := by
  unfold slopeV
  split
  · exact ⟨fun _ => by simp, fun _ => by simp⟩
  · exact ⟨fun h2 => bound_sign.1 (slopeN_up _ es h h2), fun h2 => bound_sign.2 (slopeN_down _ es h h2)⟩

theorem pw_next {α : Type} {R : α → α → Prop} (tr : ∀ a b c, R a b → R b c → R a c) {es : List α} {i : Nat} {e : α} (he : es[i]? = some e) (h : (es.take i).Pairwise R)
    (hp : ∀ p, 0 < i → es[i - 1]? = some p → R p e) : (es.take (i + 1)).Pairwise R := by
  rw [take_snoc he, pw_snoc]
  refine ⟨h, fun f hf => ?_⟩
  have hi : 0 < i := by
    rcases i with _ | i
    · simp at hf
    · omega
  have hl : i < es.length := (List.getElem?_eq_some_iff.1 he).1
  have hpe : es[i - 1]? = some es[i - 1] := List.getElem?_eq_getElem (by omega)
  have hR := hp _ hi hpe
  obtain ⟨j, rfl⟩ : ∃ j, i = j + 1 := ⟨i - 1, by omega⟩
  simp only [Nat.add_sub_cancel] at hpe hR
  rw [take_snoc hpe] at h hf
  rw [pw_snoc] at h
  rcases List.mem_append.1 hf with hf | hf
  · exact tr _ _ _ (h.2 f hf) hR
  · simp at hf; subst hf; exact hR

set_option maxHeartbeats 1000000 in
theorem law13_SlopeSigns.cl {drift : Int} {s : Sl} {es : List E3} {w : World} (hE : Ents w s es) (h64 : ∀ e ∈ es, I64 e.1 ∧ I64 e.2.1 ∧ I64 e.2.2) :
    clS Try.prog F.law13_SlopeSigns [.int .i64 drift, .slice s.1 s.2.1 s.2.2] w false [(false, [.b])] (Holds w) := by
  refine law13_SlopeSigns.ok ?_
  unfold law13_SlopeSigns.wp
  refine law13_alive.cl fun w1 g1 => brNot (fun h => by cases h) fun _ => ?_
  have hl := hE.len
  refine brD (fun _ => holds g1 rfl) fun c => ?_
  have c : ¬ (s.2.1 : Int) > 8 := c
  refine LoopT.by (fun z w' => Gro w w' ∧ ∃ i : Nat, z.2.2.1 = (i : Int) ∧ i ≤ es.length ∧ (es.take i).Pairwise (fun f e => f.1 < e.1) ∧
      (z.1 = true → (es.take i).Pairwise (fun f e => f.2.1 ≤ e.2.1)) ∧ (z.2.1 = true → (es.take i).Pairwise (fun f e => e.2.1 ≤ f.2.1)))
    (fun z => (1000 - z.2.2.1).toNat) ⟨g1, 0, rfl, by omega, by simp, by simp, by simp⟩ ?_
  rintro ⟨up, dn, zi, u⟩ w4 ⟨g, i, hz, hi, hs, hu, hd⟩ _
  simp only at hz hu hd
  subst hz
  refine brD (fun c => ?_) (fun c => ?_)
  · have hi' : i < es.length := by have c : (i : Int) < (s.2.1 : Int) := c; omega
    have he : es[i]? = some es[i] := List.getElem?_eq_getElem hi'
    generalize es[i] = e at he
    have hE3 := hE.gro g
    refine hE3.ix (z := (i : Int)) rfl he fun a ha => hE3.ldN ha he ?_
    refine alK_by fun p w5 e4 k4 u4 => ?_
    refine k4.sta [.int .i64 e.1, .int .i64 e.2.1, .int .i64 e.2.2] rfl rfl fun w6 k5 u5 => ?_
    have f6 : Gro w4 w6 := Upd.new (Upd.gro (Gro.refl w4) u4) u5 (fun h => absurd h (by omega))
    have prev : 0 < i → ∃ q, es[i - 1]? = some q ∧ IntKind.wrap .i64 ((i : Int) - 1) = ((i - 1 : Nat) : Int) := fun h => ⟨_, List.getElem?_eq_getElem (by omega), by rw [w64_in (by unfold I64; omega)]; omega⟩
    refine CutT.by (fun _ w' => Gro w w' ∧ Blk w' p [.int .i64 e.1, .int .i64 e.2.1, .int .i64 e.2.2] ∧ (∀ q, 0 < i → es[i - 1]? = some q → q.1 < e.1)) ?_ ?_
    · rw [drK_eq]
      have g6 : Gro w w6.drew := Upd.drew (g.trans f6)
      refine brD (fun h => ?_) fun h => ⟨g6, k5.drew, fun q hq => absurd hq (by have h : ¬ (i : Int) > 0 := h; omega)⟩
      have h : (i : Int) > 0 := h
      obtain ⟨q, hq, hw⟩ := prev (by omega)
      have hE6 := hE.gro g6
      refine k5.drew.i0 rfl (hE6.ix hw hq fun a' ha' => hE6.f0 ha' hw hq ?_)
      refine brD (fun _ => holds g6 rfl) fun hlt => ?_
      have hlt : ¬ e.1 ≤ q.1 := hlt
      refine k5.drew.ld3 ?_
      refine table_Entry_Good.cl fun w7 u7 => ?_
      have cq := (hE6.cell ha' hq).1
      have cq' := ((hE6.gro u7).cell ha' hq).1
      have ce : w6.drew.cell? ⟨p, 0, none⟩ = some (.int .i64 e.1) := k5.drew.cell 0
      have ce' : w7.cell? ⟨p, 0, none⟩ = some (.int .i64 e.1) := (k5.drew.gro u7).cell 0
      rw [hw, Int.toNat_natCast, cq, ce]
      refine ⟨⟨cq', ce', trivial⟩, ?_⟩
      refine brNot (fun _ => holds (g6.trans u7) rfl) fun _ => ⟨g6.trans u7, k5.drew.gro u7, fun q' _ hq' => ?_⟩
      rw [hq] at hq'; cases hq'; omega
    clear f6 k4 u4 u5
    rintro _ w7 ⟨g7, k7, hlt⟩ _
    have hs' := pw_next (R := fun f e => f.1 < e.1) (fun a b c h1 h2 => Int.lt_trans h1 h2) he hs hlt
    refine CutT.by (fun z w' => Gro w w' ∧ Blk w' p [.int .i64 e.1, .int .i64 e.2.1, .int .i64 e.2.2] ∧ (z.1 = true → (es.take (i + 1)).Pairwise (fun f e => f.2.1 ≤ e.2.1))) ?_ ?_
    · rw [drK_eq]
      have g6 : Gro w w7.drew := Upd.drew g7
      refine brD (fun h => ?_) fun h => ⟨g6, k7.drew, fun hz => pw_next (R := fun f e => f.2.1 ≤ e.2.1) (fun a b c h1 h2 => Int.le_trans h1 h2) he (hu hz) fun q hq => absurd hq (by have h : ¬ (i : Int) > 0 := h; omega)⟩
      have h : (i : Int) > 0 := h
      obtain ⟨q, hq, hw⟩ := prev (by omega)
      have hE6 := hE.gro g6
      refine k7.drew.i1 1 rfl (hE6.ix hw hq fun a' ha' => hE6.f1 ha' hw hq ?_)
      refine brD (fun hlt => ⟨g6, k7.drew, fun hz => by cases hz⟩) fun hlt => ⟨g6, k7.drew, fun hz => pw_next (R := fun f e => f.2.1 ≤ e.2.1) (fun a b c h1 h2 => Int.le_trans h1 h2) he (hu hz) fun q' _ hq' => ?_⟩
      rw [hq] at hq'; cases hq'
      have hlt : ¬ e.2.1 < q.2.1 := hlt
      omega
    clear g7 k7 hlt
    rintro ⟨z, u'⟩ w7 ⟨g7, k7, hz⟩ _
    simp only at hz
    have e6 : IntKind.wrap .i64 ((i : Int) + 1) = ((i + 1 : Nat) : Int) := by rw [w64_in (by unfold I64; omega)]; rfl
    rw [drK_eq]
    have g6 : Gro w w7.drew := Upd.drew g7
    have ms : (1000 - IntKind.wrap .i64 ((i : Int) + 1)).toNat < (1000 - (i : Int)).toNat := by rw [e6]; omega
    refine brD (fun h => ?_) fun h => ⟨⟨g6, i + 1, e6, by omega, hs', hz, fun hd' => pw_next (R := fun f e => e.2.1 ≤ f.2.1) (fun a b c h1 h2 => Int.le_trans h2 h1) he (hd hd') fun q hq => absurd hq (by have h : ¬ (i : Int) > 0 := h; omega)⟩, ms⟩
    have h : (i : Int) > 0 := h
    obtain ⟨q, hq, hw⟩ := prev (by omega)
    have hE6 := hE.gro g6
    refine k7.drew.i1 1 rfl (hE6.ix hw hq fun a' ha' => hE6.f1 ha' hw hq ?_)
    refine brD (fun hlt => ⟨⟨g6, i + 1, e6, by omega, hs', hz, fun hd' => by cases hd'⟩, ms⟩) fun hlt => ⟨⟨g6, i + 1, e6, by omega, hs', hz, fun hd' => pw_next (R := fun f e => e.2.1 ≤ f.2.1) (fun a b c h1 h2 => Int.le_trans h2 h1) he (hd hd') fun q' _ hq' => ?_⟩, ms⟩
    rw [hq] at hq'; cases hq'
    have hlt : ¬ e.2.1 > q.2.1 := hlt
    omega
  · have hi' : i = es.length := by have c : ¬ (i : Int) < (s.2.1 : Int) := c; omega
    subst hi'
    rw [List.take_length] at hs hu hd
    refine slope_Of.cl (hE.gro g) fun w5 g5 => ?_
    have sg := slopeV_sign (drift := drift) hs
    generalize slopeV drift es = v at *
    refine alK_by fun p w6 e6 k6 u6 => ?_
    refine k6.sta [.int .i64 v.1, .int .i64 v.2] rfl rfl fun w7 k7 u7 => ?_
    have g7 : Gro w w7 := Upd.new (Upd.gro (g.trans g5) u6) u7 (fun h => absurd (g.trans g5).size (by omega))
    refine brNot (fun h1 => brNot (fun h2 => holds g7 rfl) fun h2 => k7.i0 rfl (holds g7 (decide_eq_true (sg.2 (hd h2))))) fun h1 => k7.i0 rfl (brD (fun _ => ?_) fun h => absurd (sg.1 (hu h1)) (by have h : ¬ v.1 ≥ 0 := h; omega))
    exact brNot (fun h2 => holds g7 rfl) fun h2 => k7.i0 rfl (holds g7 (decide_eq_true (sg.2 (hd h2))))

/-! ### entries on a line -/
def ln (of gain l o : Int) (t : Int) : E3 := (l + t * of, o + t * gain, 1)
theorem line_sm {of gain l o x0 : Int} : ∀ xs : List Int, (sm (ln of gain l o x0) (xs.map (ln of gain l o))).2.2.1 * of = gain * (sm (ln of gain l o x0) (xs.map (ln of gain l o))).2.1 ∧
    (sm (ln of gain l o x0) (xs.map (ln of gain l o))).2.2.2.1 * of = gain * (sm (ln of gain l o x0) (xs.map (ln of gain l o))).2.2.2.2 :=
  snoc_ind ⟨by simp [sm], by simp [sm]⟩ fun xs t ih => by
    rw [List.map_append, List.map_cons, List.map_nil, sm_snoc]
    simp only [st5]
    generalize sm (ln of gain l o x0) (xs.map (ln of gain l o)) = s at *
    simp only [ln]
    have e1 : l + t * of - (l + x0 * of) = (t - x0) * of := by rw [Int.sub_mul]; omega
    have e2 : o + t * gain - (o + x0 * gain) = (t - x0) * gain := by rw [Int.sub_mul]; omega
    rw [e1, e2]
    obtain ⟨h1, h2⟩ := ih
    generalize t - x0 = q
    constructor <;> grind
theorem line_ND {of gain l o x0 : Int} (xs : List Int) : slopeN (ln of gain l o x0) (xs.map (ln of gain l o)) * of = gain * slopeD (ln of gain l o x0) (xs.map (ln of gain l o)) := by
  obtain ⟨h1, h2⟩ := line_sm (of := of) (gain := gain) (l := l) (o := o) (x0 := x0) xs
  unfold slopeN slopeD
  generalize sm (ln of gain l o x0) (xs.map (ln of gain l o)) = s at *
  grind
theorem line_no {A B of gain c d : Int} (ho : 1 ≤ of) (hB : 0 ≤ B) (e : A * of = gain * B) (h : gain * d ≤ c * of) : A * d ≤ c * B := by
  have h1 := Int.mul_le_mul_of_nonneg_right h hB
  have e1 : of * (A * d) = gain * d * B := by
    have : of * (A * d) = A * of * d := by grind
    rw [this, e]; grind
  have e2 : c * of * B = of * (c * B) := by grind
  rw [← e1, e2] at h1
  exact Int.le_of_mul_le_mul_left h1 (by omega)

theorem Row.ix {w : World} {s : Sl} {xs : List Int} (h : Row w s 1 (xs.map (Value.int .i64))) {z : Int} {i : Nat} {x : Int} (hz : z = i) (hi : xs[i]? = some x) {k : Int → Prop} (hk : k x) :
    ixK s.1 s.2.1 z fun a => ld1 (.i .i64) (a.add (z.toNat * 1)) w k := by
  subst hz
  have hm : (xs.map (Value.int .i64))[i]? = some (.int .i64 x) := by rw [List.getElem?_map, hi]; rfl
  have hl := h.len
  have hlt := (List.getElem?_eq_some_iff.1 hi).1
  rw [List.length_map] at hl
  obtain ⟨a, ha⟩ := h.addr (by rw [List.length_map]; omega)
  rw [ha, ixK_eq (by omega), Int.toNat_natCast, Nat.mul_one]
  exact ld1_cell (h.ld ha hm) (dec_i _ _) hk
theorem Row.ilen {w : World} {s : Sl} {xs : List Int} (h : Row w s 1 (xs.map (Value.int .i64))) : s.2.1 = xs.length := by
  have := h.len
  rw [List.length_map] at this; omega

theorem ln_good {of gain l o t : Int} (h1 : 1 ≤ of) (h2 : of ≤ 1000) (h3 : -1000 ≤ gain) (h4 : gain ≤ 1000) (h5 : 0 ≤ l) (h6 : l ≤ 1099511627776) (h7 : -1099511627776 ≤ o) (h8 : o ≤ 1099511627776) (h9 : 0 ≤ t) (h10 : t ≤ 4000) :
    (0 ≤ t * of ∧ t * of ≤ 4000000) ∧ (-4000000 ≤ t * gain ∧ t * gain ≤ 4000000) ∧ goodB (ln of gain l o t) = true := by
  have a := mul_bd h9 h10 (show 0 ≤ of by omega) h2
  have b := prod_bd h9 h10 h3 h4 (by decide)
  refine ⟨by omega, by omega, ?_⟩
  rw [goodB_iff]; simp only [ln]
  exact ⟨by omega, by omega, by omega, by omega, by decide, by decide⟩

theorem line_slope {drift of gain l o : Int} {xs : List Int} (hn : 2 ≤ xs.length) (hn8 : xs.length ≤ 8) (h1 : 1 ≤ of) (h2 : of ≤ 1000) (h3 : -1000 ≤ gain) (h4 : gain ≤ 1000) (h5 : 0 ≤ l) (h6 : l ≤ 1099511627776) (h7 : -1099511627776 ≤ o) (h8 : o ≤ 1099511627776)
    (hx : ∀ x ∈ xs, 0 ≤ x ∧ x ≤ 4000) (hp : xs.Pairwise (fun a b => a < b)) (hov : ¬ (if -gain > gain then -gain else gain) * (1000 - dr drift) > 2 * dr drift * of) :
    ∃ A B, slopeV drift (xs.map (ln of gain l o)) = (A, B) ∧ A * of = gain * B ∧ 0 < B ∧ B ≤ 1125899906842624 ∧ A < 1125899906842624 ∧ -1125899906842624 < A := by
  obtain ⟨x0, t, rfl⟩ : ∃ x0 t, xs = x0 :: t := by cases xs with | nil => simp at hn | cons a b => exact ⟨a, b, rfl⟩
  have hd0 : ((x0 :: t).map (ln of gain l o)).headD (0, 0, 0) = ln of gain l o x0 := rfl
  have hg : ∀ e ∈ (x0 :: t).map (ln of gain l o), goodB e = true := by
    intro e he
    obtain ⟨y, hy, rfl⟩ := List.mem_map.1 he
    exact (ln_good h1 h2 h3 h4 h5 h6 h7 h8 (hx y hy).1 (hx y hy).2).2.2
  have hi : ∀ e ∈ (x0 :: t).map (ln of gain l o), InR (ln of gain l o x0) e := by
    intro e he
    obtain ⟨y, hy, rfl⟩ := List.mem_map.1 he
    have hy0 : 0 ≤ y - x0 := by
      rcases List.mem_cons.1 hy with rfl | hy'
      · omega
      · have := (List.pairwise_cons.1 hp).1 y hy'; omega
    have a := ln_good (l := 0) (o := 0) h1 h2 h3 h4 (by omega) (by omega) (by omega) (by omega) hy0 (by have := hx y hy; have := hx x0 (by simp); omega)
    have e1 : l + y * of - (l + x0 * of) = (y - x0) * of := by rw [Int.sub_mul]; omega
    have e2 : o + y * gain - (o + x0 * gain) = (y - x0) * gain := by rw [Int.sub_mul]; omega
    simp only [InR, ln]
    rw [e1, e2]
    omega
  have hpw : ((x0 :: t).map (ln of gain l o)).Pairwise (fun f e => f.1 < e.1) := by
    rw [List.pairwise_map]
    refine hp.imp fun {a b} hab => ?_
    simp only [ln]
    have := Int.mul_lt_mul_of_pos_right hab (show 0 < of by omega)
    omega
  have hD := (slopeD_pos (ln of gain l o x0) _ hpw).2 (by rw [List.length_map]; exact hn)
  have hND := line_ND (of := of) (gain := gain) (l := l) (o := o) (x0 := x0) (x0 :: t)
  obtain ⟨_, _, _, _, b5, b6, b7, b8, _⟩ := slope_bd (e0 := ln of gain l o x0) (es := (x0 :: t).map (ln of gain l o)) (by rw [List.length_map]; exact hn8) hi
  have hv : slopeV drift ((x0 :: t).map (ln of gain l o)) = bound drift (slopeN (ln of gain l o x0) ((x0 :: t).map (ln of gain l o))) (slopeD (ln of gain l o x0) ((x0 :: t).map (ln of gain l o))) := by
    unfold slopeV
    rw [hd0, if_neg]
    intro h
    rw [List.length_map] at h
    rcases h with h | h | h | h | h
    · omega
    · omega
    · exact h hg
    · exact h hi
    · omega
  rw [hv]
  generalize slopeN (ln of gain l o x0) ((x0 :: t).map (ln of gain l o)) = A at *
  generalize slopeD (ln of gain l o x0) ((x0 :: t).map (ln of gain l o)) = B at *
  have hd := dr_bd drift
  have q1 : gain * (1000 - dr drift) ≤ 2 * dr drift * of := by
    split at hov
    · have := Int.mul_nonneg (show 0 ≤ -gain by omega) (show 0 ≤ 1000 - dr drift by omega)
      rw [Int.neg_mul] at this
      have := Int.mul_nonneg (show 0 ≤ 2 * dr drift by omega) (show 0 ≤ of by omega)
      omega
    · omega
  have q2 : -gain * (1000 - dr drift) ≤ 2 * dr drift * of := by
    split at hov
    · omega
    · have := Int.mul_nonneg (show 0 ≤ gain by omega) (show 0 ≤ 1000 - dr drift by omega)
      have := Int.mul_nonneg (show 0 ≤ 2 * dr drift by omega) (show 0 ≤ of by omega)
      rw [Int.neg_mul]; omega
  have r1 := line_no h1 (Int.le_of_lt hD) hND q1
  have r2 := line_no (A := -A) (B := B) (gain := -gain) h1 (Int.le_of_lt hD) (by rw [Int.neg_mul, Int.neg_mul, hND]) q2
  have hb : bound drift A B = (A, B) := by
    unfold bound
    rw [if_neg (fun h => by have := h.2; omega), if_neg (fun h => by have := h.2; omega)]
  have r3 := mul_bd (a := 2 * dr drift) (b := B) (m := 20) (n := 1125899906842624) (by omega) (by omega) (by omega) (by omega)
  refine ⟨A, B, hb, hND, hD, b7, ?_, ?_⟩
  · by_cases x : A < 1125899906842624
    · exact x
    · have := Int.mul_le_mul (show 1125899906842624 ≤ A by omega) (show 990 ≤ 1000 - dr drift by omega) (by omega) (by omega)
      omega
  · by_cases x : -1125899906842624 < A
    · exact x
    · have := Int.mul_le_mul (show 1125899906842624 ≤ -A by omega) (show 990 ≤ 1000 - dr drift by omega) (by omega) (by omega)
      omega

set_option maxHeartbeats 1000000 in
theorem law13_SlopeLine.cl {drift gain of l o : Int} (hgn : I64 gain) {s : Sl} {xs : List Int} {w : World} (hX : Row w s 1 (xs.map (Value.int .i64))) (h64 : ∀ x ∈ xs, I64 x) :
    clS Try.prog F.law13_SlopeLine [.int .i64 drift, .slice s.1 s.2.1 s.2.2, .int .i64 gain, .int .i64 of, .int .i64 l, .int .i64 o] w false [(false, [.b])] (Holds w) := by
  refine law13_SlopeLine.ok ?_
  unfold law13_SlopeLine.wp
  refine law13_alive.cl fun w1 g1 => brNot (fun h => by cases h) fun _ => ref13_Most.cl ?_
  have hl := Row.ilen hX
  have hd := dr_bd drift
  refine brD (fun _ => holds g1 rfl) fun n2 => brD (fun _ => holds g1 rfl) fun n8 => brD (fun _ => holds g1 rfl) fun o1 => brD (fun _ => holds g1 rfl) fun o2 => brD (fun _ => holds g1 rfl) fun q1 => brD (fun _ => holds g1 rfl) fun q2 => ?_
  rw [negS] at q1
  have wg : IntKind.wrap .i64 (0 - gain) = -gain := by rw [w64_in (by unfold I64; omega)]; omega
  rw [wg]
  refine ref13_Over.cl (by split <;> omega) (by omega) (by simp only; omega) ?_
  refine brD (fun _ => holds g1 rfl) fun hov => ?_
  have hov : ¬ (if -gain > gain then -gain else gain) * (1000 - dr drift) > 2 * dr drift * of := hov
  refine brD (fun _ => holds g1 rfl) fun l0 => brD (fun _ => holds g1 rfl) fun l1 => brD (fun _ => holds g1 rfl) fun f0 => brD (fun _ => holds g1 rfl) fun f1 => ?_
  rw [negS] at f0
  have n2 : ¬ (s.2.1 : Int) < 2 := n2
  have n8 : ¬ (s.2.1 : Int) > 8 := n8
  refine LoopT.by (fun z w' => Gro w w' ∧ ∃ i : Nat, z.2.1 = (i : Int) ∧ i ≤ xs.length ∧ (∀ x ∈ xs.take i, 0 ≤ x ∧ x ≤ 4000) ∧ (xs.take i).Pairwise (fun a b => a < b) ∧
      w'.ownsRow w.heap.size T.table_Entry 3 (.slice z.1.1 z.1.2.1 z.1.2.2) i (flat3 ((xs.take i).map (ln of gain l o))))
    (fun z => (1000 - z.2.1).toNat) ⟨g1, 0, rfl, by omega, by simp, by simp, (by have := own_nil w1 w.heap.size T.table_Entry 3; exact this)⟩ ?_
  rintro ⟨z, zi, u⟩ w4 ⟨g, i, hz, hi, hb, hp, ho⟩ _
  simp only at hz ho
  subst hz
  have hX4 := Row.gro hX g
  refine brD (fun c => ?_) (fun c => ?_)
  · have hi' : i < xs.length := by have c : (i : Int) < (s.2.1 : Int) := c; omega
    have he : xs[i]? = some xs[i] := List.getElem?_eq_getElem hi'
    generalize xs[i] = x at he
    refine Row.ix (z := (i : Int)) hX4 rfl he ?_
    have prev : 0 < i → ∃ q, xs[i - 1]? = some q ∧ IntKind.wrap .i64 ((i : Int) - 1) = ((i - 1 : Nat) : Int) := fun h => ⟨_, List.getElem?_eq_getElem (by omega), by rw [w64_in (by unfold I64; omega)]; omega⟩
    refine CutT.by (fun _ w' => w4 = w' ∧ 0 ≤ x ∧ x ≤ 4000 ∧ (∀ q, 0 < i → xs[i - 1]? = some q → q < x)) ?_ ?_
    · refine brD (fun _ => holds g rfl) fun x0 => brD (fun _ => holds g rfl) fun x1 => ?_
      have x0 : ¬ x < 0 := x0
      have x1 : ¬ x > 4000 := x1
      refine brD (fun h => ?_) fun h => ⟨rfl, by omega, by omega, fun q hq => absurd hq (by have h : ¬ (i : Int) > 0 := h; omega)⟩
      have h : (i : Int) > 0 := h
      obtain ⟨q, hq, hw⟩ := prev (by omega)
      refine Row.ix hX4 hw hq ?_
      refine brD (fun _ => holds g rfl) fun hlt => ⟨rfl, by omega, by omega, fun q' _ hq' => ?_⟩
      rw [hq] at hq'; cases hq'
      have hlt : ¬ x ≤ q := hlt
      omega
    rintro _ w5 ⟨rfl, x0, x1, hlt⟩ _
    have gd := ln_good (of := of) (gain := gain) (l := l) (o := o) (t := x) (by omega) (by omega) (by omega) (by omega) (by omega) (by omega) (by omega) (by omega) x0 x1
    simp only
    rw [w64_in (n := x * of) (by unfold I64; omega), w64_in (n := x * gain) (by unfold I64; omega), w64_in (n := l + x * of) (by unfold I64; omega), w64_in (n := o + x * gain) (by unfold I64; omega)]
    refine alK_by fun p w6 e6 k6 u6 => ?_
    refine slOf_snoc (e := T.table_Entry) (size := 3) (by kernel_rfl) (by kernel_rfl) (by decide) (g.trans u6) (own_gro ho u6) rfl k6.news (by simp [Value.oneCell']) (by omega) ?_
    intro s' w12 ho12 g12 _
    have e6 : IntKind.wrap .i64 ((i : Int) + 1) = ((i + 1 : Nat) : Int) := by rw [w64_in (by unfold I64; omega)]; rfl
    refine ⟨⟨g12, i + 1, e6, by omega, ?_, pw_next (R := fun a b : Int => a < b) (fun a b c h1 h2 => Int.lt_trans h1 h2) he hp hlt, ?_⟩, ?_⟩
    · intro y hy
      rw [take_snoc he] at hy
      rcases List.mem_append.1 hy with hy | hy
      · exact hb y hy
      · simp at hy; subst hy; exact ⟨x0, x1⟩
    · rw [take_snoc he, List.map_append, flat3_append]; exact ho12
    · show (1000 - IntKind.wrap .i64 ((i : Int) + 1)).toNat < (1000 - (i : Int)).toNat
      rw [e6]; omega
  · have hi' : i = xs.length := by have c : ¬ (i : Int) < (s.2.1 : Int) := c; omega
    subst hi'
    rw [List.take_length] at hb hp ho
    obtain ⟨A, B, hv, hAB, hB0, hB1, hA1, hA0⟩ := line_slope (drift := drift) (l := l) (o := o) (by omega) (by omega) (show 1 ≤ of by omega) (by omega) (show -1000 ≤ gain by omega) (by omega) (by omega) (by omega) (by omega) (by omega) hb hp hov
    have hr : Ents w4 z (xs.map (ln of gain l o)) := own_row ho
    refine slope_Of.cl hr fun w5 g5 => ?_
    rw [hv]
    refine alK_by fun p w6 e6 k6 u6 => ?_
    refine k6.sta [.int .i64 A, .int .i64 B] rfl rfl fun w7 k7 u7 => ?_
    rw [drK_eq]
    have f7 : Gro w4 w7.drew := Upd.drew (Upd.new (Upd.gro g5 u6) u7 (fun h => absurd g5.size (by omega)))
    have g7 := g.trans f7
    have hr7 := hr.gro f7
    have hzl := hr.len
    rw [List.length_map] at hzl
    have hzl' : z.2.1 = xs.length := hzl
    have wl : IntKind.wrap .i64 ((z.2.1 : Int) - 1) = ((xs.length - 1 : Nat) : Int) := by rw [w64_in (by unfold I64; omega)]; omega
    obtain ⟨y, hy⟩ : ∃ y, xs[xs.length - 1]? = some y := ⟨_, List.getElem?_eq_getElem (by omega)⟩
    obtain ⟨y0, hy0⟩ : ∃ y, xs[0]? = some y := ⟨_, List.getElem?_eq_getElem (by omega)⟩
    have hl1 : (xs.map (ln of gain l o))[xs.length - 1]? = some (ln of gain l o y) := by rw [List.getElem?_map, hy]; rfl
    have hl0 : (xs.map (ln of gain l o))[0]? = some (ln of gain l o y0) := by rw [List.getElem?_map, hy0]; rfl
    refine hr7.ix wl hl1 fun a ha => hr7.f0 ha wl hl1 (hr7.ix (i := 0) rfl hl0 fun a' ha' => hr7.f0 ha' (i := 0) rfl hl0 ?_)
    have gy := ln_good (of := of) (gain := gain) (l := l) (o := o) (t := y) (by omega) (by omega) (by omega) (by omega) (by omega) (by omega) (by omega) (by omega) (hb y (List.mem_of_getElem? hy)).1 (hb y (List.mem_of_getElem? hy)).2
    have gy0 := ln_good (of := of) (gain := gain) (l := l) (o := o) (t := y0) (by omega) (by omega) (by omega) (by omega) (by omega) (by omega) (by omega) (by omega) (hb y0 (List.mem_of_getElem? hy0)).1 (hb y0 (List.mem_of_getElem? hy0)).2
    have ws : IntKind.wrap .i64 ((ln of gain l o y).1 - (ln of gain l o y0).1) ≤ 4194304 := by
      simp only [ln]; rw [w64_in (n := l + y * of - (l + y0 * of)) (by unfold I64; omega)]; omega
    refine brD (fun h => absurd h (by omega)) fun _ => ?_
    have k7 : Blk w7.drew p [.int .i64 A, .int .i64 B] := k7
    refine k7.i1 1 rfl (brT (decide_eq_true hB0) ?_)
    refine k7.i0 rfl (brT (decide_eq_true (show A < 2251799813685248 by omega)) ?_)
    refine k7.i0 rfl (brT (decide_eq_true (show A > Int.negSucc 2251799813685247 by rw [negS]; omega)) ?_)
    refine k7.i1 1 rfl (brT (decide_eq_true (show B < 2251799813685248 by omega)) ?_)
    refine k7.i0 rfl (k7.i1 1 rfl (holds g7 ?_))
    rw [hAB]; exact beq_self_eq_true _
end Go.Proofs.Ytccnlakbplmhnaa
