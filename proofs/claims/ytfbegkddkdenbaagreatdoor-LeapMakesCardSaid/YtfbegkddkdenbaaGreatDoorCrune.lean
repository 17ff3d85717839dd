/- Ranges over strings: the bytes of ASCII are met one by one; whatever is none is met as a rune of 128 or more. Conditions: none. -/
import Derived.Test.YtfbegkddkdenbaaGreatDoorCtxt3
namespace Go.Proofs.YtfbegkddkdenbaaGreatDoor
open Go.Eng Go
set_option linter.unusedVariables false
set_option linter.unusedSimpArgs false

def Itr (w : World) (r : Nat) (l : List UInt8) (pos : Nat) : Prop := w.heap[r]? = some (.stringIter (ofL l) pos)
theorem Itr.lt {w : World} {r : Nat} {l : List UInt8} {pos : Nat} (h : Itr w r l pos) : r < w.heap.size := (Array.getElem?_eq_some_iff.1 h).1
theorem Itr.upd {S : Nat → Prop} {w w' : World} {r : Nat} {l : List UInt8} {pos : Nat} (h : Itr w r l pos) (u : Upd S w w') (hS : ¬ S r) : Itr w' r l pos := by
  unfold Itr at *; rw [u.block r (Array.getElem?_eq_some_iff.1 h).1 hS]; exact h
theorem Itr.gro {w w' : World} {r : Nat} {l : List UInt8} {pos : Nat} (h : Itr w r l pos) (u : Gro w w') : Itr w' r l pos := h.upd u fun x => x
theorem rgK_by {l : List UInt8} {w : World} {k : Nat → World → Prop} (h : ∀ r w', w.heap.size = r → Itr w' r l 0 → Gro w w' → k r w') : rgK (ofL l) w k := by
  refine h _ _ rfl ?_ ((Gro.refl w).alloc _)
  show (w.heap.push _)[w.heap.size]? = _
  rw [Array.getElem?_push, if_pos rfl]
theorem ofL_get! {l : List UInt8} {i : Nat} {c : UInt8} (h : l[i]? = some c) : (ofL l).get! i = c := by
  have := ofL_get l i
  rw [h] at this
  unfold ofL ByteArray.get!
  simp only
  have hi := (List.getElem?_eq_some_iff.1 h)
  simp [h]
theorem dec_low {l : List UInt8} {i : Nat} {c : UInt8} (h : l[i]? = some c) (hc : c.toNat < 128) : Utf8.decode (ofL l) i = (c.toNat, 1) := by
  unfold Utf8.decode
  simp only [Nat.add_zero, ofL_get! h]
  rw [if_pos hc]
theorem dec_high {l : List UInt8} {i : Nat} {c : UInt8} (h : l[i]? = some c) (hc : 128 ≤ c.toNat) : 128 ≤ (Utf8.decode (ofL l) i).1 := by
  unfold Utf8.decode
  simp only [Nat.add_zero, ofL_get! h]
  rw [if_neg (by omega)]
  have e : (128 : Nat) ≤ Utf8.runeError := by decide
  split
  · split
    · assumption
    · exact e
  split
  · split
    · rename_i hh; have := hh; simp only [Bool.and_eq_true, decide_eq_true_eq] at this; exact Nat.le_trans (by decide) this.1
    · exact e
  split
  · split
    · rename_i hh; have := hh; simp only [Bool.and_eq_true, decide_eq_true_eq] at this; exact Nat.le_trans (by decide) this.1
    · exact e
  · exact e
theorem nxK_by {w : World} {r : Nat} {l : List UInt8} {pos : Nat} {over : World → Prop} {more : Int → Int → World → Prop} (h : Itr w r l pos) (h0 : l.length ≤ pos → over w)
    (h1 : ∀ b w', l[pos]? = some b → b.toNat < 128 → Itr w' r l (pos + 1) → Upd (fun x => x = r) w w' → more pos (b.toNat : Int) w')
    (h2 : ∀ b (c : Int) w', l[pos]? = some b → 128 ≤ b.toNat → 128 ≤ c → Upd (fun x => x = r) w w' → more pos c w') : nxK r w over more := by
  unfold nxK
  have h' := h
  unfold Itr at h'
  rw [h']
  simp only [ofL_size]
  have up : ∀ o, Upd (fun x => x = r) w { w with heap := w.heap.setIfInBounds r o } := fun o => ⟨rfl, rfl, rfl, by simp, fun k hk hn => by
    show (w.heap.setIfInBounds r o)[k]? = _
    rw [Array.getElem?_setIfInBounds_ne (fun e => hn e.symm)]⟩
  by_cases hp : pos < l.length
  · rw [if_pos hp]
    have hb : l[pos]? = some l[pos] := List.getElem?_eq_getElem hp
    generalize l[pos] = b at hb
    by_cases hc : b.toNat < 128
    · rw [dec_low hb hc]
      refine h1 b _ hb hc ?_ (up _)
      show (w.heap.setIfInBounds r _)[r]? = _
      rw [Array.getElem?_setIfInBounds_self_of_lt h.lt]
    · exact h2 b _ _ hb (by omega) (by have := dec_high hb (by omega); omega) (up _)
  · rw [if_neg hp]; exact h0 (by omega)

/-! ### dates read, rune by rune -/
def clsD (j : Nat) (c : UInt8) : Prop := if j = 4 ∨ j = 7 then c = 45 else isDg c
instance (j : Nat) (c : UInt8) : Decidable (clsD j c) := by unfold clsD; exact inferInstance
def preD (l : List UInt8) (i : Nat) : Prop := ∀ j c, j < i → l[j]? = some c → clsD j c
theorem numL_dg {l : List UInt8} (h : numL l ≠ -1) : ∀ c ∈ l, isDg c := by
  unfold numL at h
  split at h
  · assumption
  · exact absurd rfl h
theorem prsD_pre {l : List UInt8} {d : D3} (h : prsD l = some d) : l.length = 10 ∧ preD l 10 ∧ prsT l = d ∧ GoodD d := by
  unfold prsD at h
  split at h
  case isFalse => cases h
  rename_i hc
  injection h with h
  subst h
  obtain ⟨hl, h4, h7, hg⟩ := hc
  refine ⟨hl, fun j c hj hjc => ?_, rfl, hg⟩
  obtain ⟨g1, g2, g3, g4, g5, g6⟩ := hg
  unfold prsT at g1 g3 g5
  dsimp only at g1 g3 g5
  have d1 := numL_dg (l := l.take 4) (by omega)
  have d2 := numL_dg (l := (l.take 7).drop 5) (by omega)
  have d3 := numL_dg (l := l.drop 8) (by omega)
  unfold clsD
  by_cases e4 : j = 4
  · subst e4; rw [h4] at hjc; injection hjc with e; rw [if_pos (.inl rfl), e]
  by_cases e7 : j = 7
  · subst e7; rw [h7] at hjc; injection hjc with e; rw [if_pos (.inr rfl), e]
  rw [if_neg (by omega)]
  rcases Nat.lt_or_ge j 4 with a | a
  · exact d1 c (List.mem_of_getElem? (i := j) (by rw [List.getElem?_take_of_lt a]; exact hjc))
  rcases Nat.lt_or_ge j 7 with b | b
  · exact d2 c (List.mem_of_getElem? (i := j - 5) (by rw [List.getElem?_drop, List.getElem?_take_of_lt (by omega), show 5 + (j - 5) = j by omega]; exact hjc))
  · exact d3 c (List.mem_of_getElem? (i := j - 8) (by rw [List.getElem?_drop, show 8 + (j - 8) = j by omega]; exact hjc))
theorem preD_mono {l : List UInt8} {i j : Nat} (h : preD l j) (hij : i ≤ j) : preD l i := fun q c hq => h q c (by omega)
/-- what the places of a date hold so far -/
def fldD (l : List UInt8) (i : Nat) : D3 := ((valD (l.take (min i 4)) : Int), (valD ((l.take (min i 7)).drop 5) : Int), (valD ((l.take i).drop 8) : Int))
def atD (i : Nat) : Nat := if i ≤ 4 then 0 else if i ≤ 7 then 1 else 2
def cntD (i : Nat) : Nat := if i ≤ 4 then i else if i ≤ 7 then i - 5 else i - 8
theorem fldD_dash {l : List UInt8} {i : Nat} (h : i = 4 ∨ i = 7) : fldD l (i + 1) = fldD l i := by
  unfold fldD
  rcases h with rfl | rfl
  · simp only [Nat.min_def]
    have e1 : (l.take (if 4 + 1 ≤ 7 then 4 + 1 else 7)).drop 5 = [] := by rw [List.drop_eq_nil_of_le]; simp; omega
    have e2 : (l.take (if 4 ≤ 7 then 4 else 7)).drop 5 = [] := by rw [List.drop_eq_nil_of_le]; simp; omega
    have e3 : (l.take (4 + 1)).drop 8 = [] := by rw [List.drop_eq_nil_of_le]; simp; omega
    have e4 : (l.take 4).drop 8 = [] := by rw [List.drop_eq_nil_of_le]; simp; omega
    rw [e1, e2, e3, e4]; rfl
  · simp only [Nat.min_def]
    have e3 : (l.take (7 + 1)).drop 8 = [] := by rw [List.drop_eq_nil_of_le]; simp; omega
    have e4 : (l.take 7).drop 8 = [] := by rw [List.drop_eq_nil_of_le]; simp; omega
    rw [e3, e4]; rfl
theorem snoc_take {l : List UInt8} {i k : Nat} {c : UInt8} (h : l[i]? = some c) (hk : k ≤ i) : (l.take (i + 1)).drop k = (l.take i).drop k ++ [c] := by
  have hi := (List.getElem?_eq_some_iff.1 h).1
  rw [List.take_add_one, h, List.drop_append_of_le_length (by rw [List.length_take]; omega)]; rfl
theorem fldD_len (l : List UInt8) (i : Nat) (h : i ≤ 10) : (l.take (min i 4)).length ≤ 4 ∧ ((l.take (min i 7)).drop 5).length ≤ 2 ∧ ((l.take i).drop 8).length ≤ 2 := by
  simp only [List.length_drop, List.length_take, Nat.min_def]
  refine ⟨?_, ?_, ?_⟩ <;> (repeat' split) <;> omega
theorem valD_small {l : List UInt8} {n : Nat} (h : ∀ c ∈ l, isDg c) (hl : l.length ≤ n) (hn : n ≤ 4) : valD l < 10000 := by
  have := valD_lt l h
  have h2 : 10 ^ l.length ≤ 10 ^ 4 := Nat.pow_le_pow_right (by decide) (by omega)
  omega
theorem pre_dg {l : List UInt8} {i a b : Nat} (h : preD l i) (hb : b ≤ i) (hn : ∀ j, a ≤ j → j < b → j ≠ 4 ∧ j ≠ 7) : ∀ c ∈ (l.take b).drop a, isDg c := by
  intro c hc
  obtain ⟨j, hj, he⟩ := List.getElem_of_mem hc
  have hj' : ((l.take b).drop a)[j]? = some c := by rw [← he]; exact List.getElem?_eq_getElem hj
  rw [List.length_drop, List.length_take] at hj
  rw [List.getElem?_drop, List.getElem?_take_of_lt (by omega)] at hj'
  have := h (a + j) c (by omega) hj'
  unfold clsD at this
  rwa [if_neg (by have := hn (a + j) (by omega) (by omega); omega)] at this
theorem fldD_dg {l : List UInt8} {i : Nat} (h : preD l i) (hi : i ≤ 10) : (∀ c ∈ l.take (min i 4), isDg c) ∧ (∀ c ∈ (l.take (min i 7)).drop 5, isDg c) ∧ (∀ c ∈ (l.take i).drop 8, isDg c) :=
  ⟨fun c hc => pre_dg (a := 0) (b := min i 4) h (Nat.min_le_left _ _) (fun j _ hj => by have := Nat.min_le_right i 4; omega) c (by simpa using hc),
   pre_dg h (Nat.min_le_left _ _) (fun j h1 h2 => by have := Nat.min_le_right i 7; omega), pre_dg h (Nat.le_refl _) (fun j h1 h2 => by omega)⟩
theorem fldD_ten {l : List UInt8} (h : preD l 10) (hl : l.length = 10) : fldD l 10 = prsT l := by
  obtain ⟨d1, d2, d3⟩ := fldD_dg h (Nat.le_refl _)
  unfold fldD prsT numL
  have e3 : (l.take 10).drop 8 = l.drop 8 := by rw [List.take_of_length_le (by omega)]
  rw [e3] at d3 ⊢
  rw [if_pos (by simpa using d1), if_pos (by simpa using d2), if_pos d3]
  rfl
/-- a digit more -/
theorem fldD_step {l : List UInt8} {i : Nat} {c : UInt8} (hc : l[i]? = some c) (hi : i < 10) (h4 : i ≠ 4) (h7 : i ≠ 7) :
    fldD l (i + 1) = (if i < 4 then (10 * (fldD l i).1 + ((c.toNat - 48 : Nat) : Int), (fldD l i).2.1, (fldD l i).2.2) else if i < 7 then ((fldD l i).1, 10 * (fldD l i).2.1 + ((c.toNat - 48 : Nat) : Int), (fldD l i).2.2) else ((fldD l i).1, (fldD l i).2.1, 10 * (fldD l i).2.2 + ((c.toNat - 48 : Nat) : Int))) := by
  have nil : ∀ a b : Nat, a ≤ b → (l.take a).drop b = [] := fun a b h => by rw [List.drop_eq_nil_of_le]; rw [List.length_take]; omega
  unfold fldD
  split
  · rename_i a
    have s := snoc_take hc (Nat.zero_le i)
    simp only [List.drop_zero] at s
    have n1 : (l.take (min (i + 1) 7)).drop 5 = [] := nil _ _ (by have := Nat.min_le_left (i + 1) 7; omega)
    have n2 : (l.take (min i 7)).drop 5 = [] := nil _ _ (by have := Nat.min_le_left i 7; omega)
    have n3 : (l.take (i + 1)).drop 8 = [] := nil _ _ (by omega)
    have n4 : (l.take i).drop 8 = [] := nil _ _ (by omega)
    rw [n1, n2, n3, n4, Nat.min_eq_left (by omega : i + 1 ≤ 4), Nat.min_eq_left (by omega : i ≤ 4), s, valD_snoc]
    simp only [Prod.mk.injEq, and_true]; omega
  split
  · rename_i a b
    have s := snoc_take hc (by omega : 5 ≤ i)
    have n3 : (l.take (i + 1)).drop 8 = [] := nil _ _ (by omega)
    have n4 : (l.take i).drop 8 = [] := nil _ _ (by omega)
    rw [n3, n4, Nat.min_eq_right (by omega : 4 ≤ i + 1), Nat.min_eq_right (by omega : 4 ≤ i), Nat.min_eq_left (by omega : i + 1 ≤ 7), Nat.min_eq_left (by omega : i ≤ 7), s, valD_snoc]
    simp only [Prod.mk.injEq, and_true, true_and]; omega
  · rename_i a b
    have s := snoc_take hc (by omega : 8 ≤ i)
    rw [Nat.min_eq_right (by omega : 4 ≤ i + 1), Nat.min_eq_right (by omega : 4 ≤ i), Nat.min_eq_right (by omega : 7 ≤ i + 1), Nat.min_eq_right (by omega : 7 ≤ i), s, valD_snoc]
    simp only [Prod.mk.injEq, and_true, true_and]; omega
theorem lim_eq {i : Nat} (hi : i ≤ 10) : IntKind.wrap .i64 (4 - IntKind.wrap .i64 (2 * (if (1 : Int) < (atD i : Int) then 1 else (atD i : Int)))) = if i ≤ 4 then 4 else 2 := by
  have : i = 0 ∨ i = 1 ∨ i = 2 ∨ i = 3 ∨ i = 4 ∨ i = 5 ∨ i = 6 ∨ i = 7 ∨ i = 8 ∨ i = 9 ∨ i = 10 := by omega
  rcases this with rfl | rfl | rfl | rfl | rfl | rfl | rfl | rfl | rfl | rfl | rfl <;> decide
theorem at_cnt {i : Nat} (hi : i ≤ 10) : ((atD i < 2 ∧ (cntD i : Int) = if i ≤ 4 then 4 else 2) ↔ (i = 4 ∨ i = 7)) ∧ (((cntD i : Int) < if i ≤ 4 then 4 else 2) ↔ (i ≠ 4 ∧ i ≠ 7 ∧ i < 10)) := by
  unfold atD cntD
  (repeat' split) <;> omega
theorem at_next {i : Nat} (hi : i < 10) : (i = 4 ∨ i = 7 → atD (i + 1) = atD i + 1 ∧ cntD (i + 1) = 0) ∧ (i ≠ 4 → i ≠ 7 → atD (i + 1) = atD i ∧ cntD (i + 1) = cntD i + 1) := by
  unfold atD cntD
  (repeat' split) <;> omega

set_option maxRecDepth 20000 in
set_option maxHeartbeats 2000000 in
theorem civil_Parse.cl {l : List UInt8} {w : World} {k : TR RDB → World → Prop} (h0 : prsD l = none → ∀ w', Gro w w' → k (tD (0, 0, 0), (false, ()), ()) w') (h1 : ∀ d, prsD l = some d → ∀ w', Gro w w' → k (tD d, (true, ()), ()) w') :
    clS Tryz.prog F.civil_Parse [.string (ofL l)] w true RDB k := by
  refine civil_Parse.ok ?_
  unfold civil_Parse.wp
  refine alK_by fun p1 w2 e1 k1 u1 => alK_by fun p3 w4 e3 k3 u3 => rgK_by fun r w6 er hI u6 => ?_
  have s2 := k1.lt
  have s4 := k3.lt
  have q1 := (k1.gro u3).gro u6
  have q3 := k3.gro u6
  have ord : p1 < p3 ∧ p3 < r := by omega
  have g6 := (u1.trans u3).trans u6
  have no : prsD l = none → ∀ {w'}, Gro w w' → Blk w' p1 [.int .i64 0, .int .i64 0, .int .i64 0] → stN [.int .i64 0, .int .i64 0, .int .i64 0] ⟨p1, 0, none⟩ 0 w' fun w3 => ldN K3 ⟨p1, 0, none⟩ 0 w3 fun x4 => k ((x4.1, x4.2.1, x4.2.2.1, ()), (false, ()), ()) w3 := fun hn w' g kb =>
    kb.sta _ rfl rfl fun w3 k3 u3 => k3.ld3 (h0 hn w3 (Upd.trans g u3 fun i hi h => by omega))
  have bad : ∀ {i : Nat} {c : UInt8}, l[i]? = some c → ¬ (i < 10 ∧ clsD i c) → prsD l = none := fun {i c} hc hn => by
    cases hp : prsD l with
    | none => rfl
    | some d =>
      obtain ⟨a, b, _⟩ := prsD_pre hp
      have := (List.getElem?_eq_some_iff.1 hc).1
      exact absurd ⟨by omega, b i c (by omega) hc⟩ hn
  refine LoopT.by (fun z W => ∃ i : Nat, i ≤ 10 ∧ i ≤ l.length ∧ preD l i ∧ z.1 = (atD i : Int) ∧ z.2.1 = (cntD i : Int) ∧ Itr W r l i ∧ Blk W p1 [.int .i64 0, .int .i64 0, .int .i64 0] ∧ Blk W p3 [.int .i64 (fldD l i).1, .int .i64 (fldD l i).2.1, .int .i64 (fldD l i).2.2] ∧ Gro w W)
    (fun z => (20 - (5 * z.1 + z.2.1)).toNat) ⟨0, by omega, by omega, fun j c h => by omega, rfl, rfl, hI, q1, by simpa [fldD, valD] using q3, g6⟩ ?_
  rintro ⟨za, zc, _⟩ W ⟨i, hi, hil, hpre, ea, ec, hIt, hB1, hB3, hG⟩ _
  dsimp only at ea ec
  subst ea ec
  have l3 := hB3.lt
  have lr := hIt.lt
  refine nxK_by hIt (fun hend => ?_) (fun b w7 hb hlow hI7 u7 => ?_) fun b c w7 hb hhigh hc7 u7 => ?_
  · have hlen : l.length = i := by omega
    rw [ixK_eq (by decide)]
    refine hB3.i0 rfl ?_
    rw [ixK_eq (by decide)]
    refine hB3.i1 1 rfl ?_
    rw [ixK_eq (by decide)]
    refine hB3.i1 2 rfl (alK_by fun p20 w21 e20 k20 u21 => k20.sta _ rfl rfl fun w22 k22 u22 => ?_)
    have g22 : Gro w w22 := Gro.fresh hG u21 u22 e20
    have v1 : Blk w22 p1 [.int .i64 0, .int .i64 0, .int .i64 0] := hB1.gro (Gro.fresh (Gro.refl _) u21 u22 e20)
    have l20 := k20.lt
    have short : i ≠ 10 → prsD l = none := fun hn => by
      cases hp : prsD l with
      | none => rfl
      | some d => have := (prsD_pre hp).1; omega
    refine brN (fun c => no (short fun e => c (by subst e; rfl)) g22 v1) fun c1 => brN (fun c => no (short fun e => c (by subst e; rfl)) g22 v1) fun c2 => ?_
    have c1 : (atD i : Int) = 2 := c1
    have c2 : (cntD i : Int) = 2 := c2
    have hi10 : i = 10 := by
      unfold atD at c1
      unfold cntD at c2
      split at c1
      · simp at c1
      split at c1
      · simp at c1
      rw [if_neg (by omega), if_neg (by omega)] at c2
      omega
    subst hi10
    have ef := fldD_ten hpre hlen
    rw [ef] at k22
    refine Blk.ld3 k22 (civil_Date_Good.cl (d := prsT l) fun w29 u29 => brNot (fun c => no ?_ (g22.trans u29) (v1.gro u29)) fun c => ?_)
    · have c : ¬ GoodD (prsT l) := of_decide_eq_false c
      unfold prsD; rw [if_neg (fun h => c h.2.2.2)]
    · have c : GoodD (prsT l) := of_decide_eq_true c
      have gt : ∀ j (hj : j < 10), l[j]? = some (l[j]'(by omega)) := fun j hj => List.getElem?_eq_getElem _
      have h4 := hpre 4 _ (by omega) (gt 4 (by omega))
      have h7 := hpre 7 _ (by omega) (gt 7 (by omega))
      unfold clsD at h4 h7
      rw [if_pos (.inl rfl)] at h4
      rw [if_pos (.inr rfl)] at h7
      refine (k22.gro u29).ld3 ((v1.gro u29).sta _ rfl rfl fun w33 k33 u33 => Blk.ld3 k33 ?_)
      exact h1 (prsT l) (by unfold prsD; rw [if_pos ⟨hlen, by rw [gt 4 (by omega), h4], by rw [gt 7 (by omega), h7], c⟩]) w33 (Upd.trans (g22.trans u29) u33 fun i hi h => by omega)
  · have G7 : Gro w w7 := Upd.trans hG u7 fun j hj h => by omega
    have B1 := hB1.upd u7 (by omega)
    have B3 := hB3.upd u7 (by omega)
    have ac := at_cnt hi
    have le := lim_eq hi
    refine CutT.by (fun z W' => w7 = W' ∧ z.1 = decide (b.toNat = 45 ∧ (i = 4 ∨ i = 7))) ?_ ?_
    · rw [show IntKind.wrap .i64 (4 - IntKind.wrap .i64 (2 * (if 1 < (((atD i : Int), (cntD i : Int), ()) : Int × Int × Unit).1 then 1 else (((atD i : Int), (cntD i : Int), ()) : Int × Int × Unit).1))) = _ from le]
      refine brE (fun c => brD (fun c2 => ⟨rfl, ?_⟩) fun c2 => ⟨rfl, ?_⟩) fun c => ⟨rfl, ?_⟩
      · have c2 : (atD i : Int) < 2 := c2
        refine bq ?_
        rw [beq_iff_eq]
        constructor
        · intro h; exact ⟨by omega, ac.1.1 ⟨by omega, h⟩⟩
        · intro h; exact (ac.1.2 h.2).2
      · have c2 : ¬ (atD i : Int) < 2 := c2
        symm; rw [decide_eq_false_iff_not]
        intro h; have := (ac.1.2 h.2).1; omega
      · symm; rw [decide_eq_false_iff_not]
        intro h; have c : (b.toNat : Int) ≠ 45 := c; omega
    rintro ⟨z, _⟩ _ ⟨rfl, hz⟩ _
    dsimp only at hz
    subst hz
    refine brD (fun c => ?_) fun cd => ?_
    · obtain ⟨c1, c2⟩ := c
      have nx := (at_next (show i < 10 by omega)).1 c2
      have eb : b = 45 := UInt8.toNat_inj.1 (by show b.toNat = 45; exact c1)
      have pr : preD l (i + 1) := fun j x hj hx => by
        rcases Nat.lt_or_ge j i with h | h
        · exact hpre j x h hx
        · have : j = i := by omega
          subst this
          rw [hb] at hx; injection hx with hx; subst hx
          unfold clsD; rw [if_pos c2]; exact eb
      have ew : IntKind.wrap .i64 ((atD i : Int) + 1) = (atD (i + 1) : Int) := by
        have : atD i ≤ 2 := by unfold atD; (repeat' split) <;> omega
        rw [w64_in (by unfold I64; omega), nx.1]; omega
      have hlt := (List.getElem?_eq_some_iff.1 hb).1
      refine ⟨⟨i + 1, by omega, by omega, pr, ew, by show (0 : Int) = _; rw [nx.2]; rfl, hI7, B1, by rw [fldD_dash c2]; exact B3, G7⟩, ?_⟩
      show (20 - (5 * IntKind.wrap .i64 ((atD i : Int) + 1) + 0)).toNat < (20 - (5 * (atD i : Int) + (cntD i : Int))).toNat
      rw [ew, nx.1]
      unfold atD cntD
      rcases c2 with rfl | rfl <;> decide
    · refine CutT.by (fun z W' => w7 = W' ∧ z.1 = decide (isDg b ∧ i ≠ 4 ∧ i ≠ 7 ∧ i < 10)) ?_ ?_
      · rw [show IntKind.wrap .i64 (4 - IntKind.wrap .i64 (2 * (if 1 < (((atD i : Int), (cntD i : Int), ()) : Int × Int × Unit).1 then 1 else (((atD i : Int), (cntD i : Int), ()) : Int × Int × Unit).1))) = _ from le]
        refine brD (fun c => brD (fun c2 => ⟨rfl, ?_⟩) fun c2 => ⟨rfl, ?_⟩) fun c => ⟨rfl, ?_⟩
        · have c : (b.toNat : Int) ≥ 48 := c
          have c2 : (b.toNat : Int) ≤ 57 := c2
          refine bq ?_
          rw [decide_eq_true_iff]
          exact ⟨fun h => ⟨⟨by omega, by omega⟩, ac.2.1 h⟩, fun h => ac.2.2 h.2⟩
        · have c2 : ¬ (b.toNat : Int) ≤ 57 := c2
          symm; rw [decide_eq_false_iff_not]; intro h; have := h.1.2; omega
        · have c : ¬ (b.toNat : Int) ≥ 48 := c
          symm; rw [decide_eq_false_iff_not]; intro h; have := h.1.1; omega
      rintro ⟨z, _⟩ _ ⟨rfl, hz⟩ _
      dsimp only at hz
      subst hz
      refine brD (fun c => ?_) fun c => no (bad hb ?_) G7 B1
      · obtain ⟨c0, c4, c7, c10⟩ := c
        have nx := (at_next c10).2 c4 c7
        have pr : preD l (i + 1) := fun j x hj hx => by
          rcases Nat.lt_or_ge j i with h | h
          · exact hpre j x h hx
          · have : j = i := by omega
            subst this
            rw [hb] at hx; injection hx with hx; subst hx
            unfold clsD; rw [if_neg (by omega)]; exact c0
        obtain ⟨dg1, dg2, dg3⟩ := fldD_dg hpre hi
        obtain ⟨ln1, ln2, ln3⟩ := fldD_len l i hi
        have v1 := valD_small dg1 ln1 (by omega)
        have v2 := valD_small dg2 ln2 (by omega)
        have v3 := valD_small dg3 ln3 (by omega)
        have st := fldD_step hb c10 c4 c7
        have hlt := (List.getElem?_eq_some_iff.1 hb).1
        have cn : cntD i ≤ 10 := by unfold cntD; (repeat' split) <;> omega
        have ew : IntKind.wrap .i64 ((cntD i : Int) + 1) = (cntD (i + 1) : Int) := by rw [w64_in (by unfold I64; omega), nx.2]; omega
        have cdig : IntKind.wrap .i64 (IntKind.wrap .i32 ((b.toNat : Int) - 48)) = ((b.toNat - 48 : Nat) : Int) := by
          unfold isDg at c0
          have : IntKind.wrap .i32 ((b.toNat : Int) - 48) = (b.toNat : Int) - 48 := by
            simp [IntKind.wrap, IntKind.bits, IntKind.signed]; omega
          rw [this, w64_in (by unfold I64; omega)]; omega
        have hb9 : b.toNat - 48 ≤ 9 := by unfold isDg at c0; omega
        have tot : ∀ {v : Nat}, v < 10000 → IntKind.wrap .i64 (IntKind.wrap .i64 (10 * (v : Int)) + ((b.toNat - 48 : Nat) : Int)) = 10 * (v : Int) + ((b.toNat - 48 : Nat) : Int) := fun h => by
          rw [w64_in (n := 10 * _) (by unfold I64; omega), w64_in (by unfold I64; omega)]
        have fin : ∀ {W'}, Upd (fun x => x = p3) w7 W' → Blk W' p3 [.int .i64 (fldD l (i + 1)).1, .int .i64 (fldD l (i + 1)).2.1, .int .i64 (fldD l (i + 1)).2.2] →
            ((∃ i' : Nat, i' ≤ 10 ∧ i' ≤ l.length ∧ preD l i' ∧ (atD i : Int) = (atD i' : Int) ∧ IntKind.wrap .i64 ((cntD i : Int) + 1) = (cntD i' : Int) ∧ Itr W' r l i' ∧ Blk W' p1 [.int .i64 0, .int .i64 0, .int .i64 0] ∧ Blk W' p3 [.int .i64 (fldD l i').1, .int .i64 (fldD l i').2.1, .int .i64 (fldD l i').2.2] ∧ Gro w W') ∧
              (20 - (5 * (atD i : Int) + IntKind.wrap .i64 ((cntD i : Int) + 1))).toNat < (20 - (5 * (atD i : Int) + (cntD i : Int))).toNat) := fun u kb =>
          ⟨⟨i + 1, by omega, by omega, pr, by rw [nx.1], ew, hI7.upd u (by omega), B1.upd u (by omega), kb, Upd.trans G7 u fun j hj h => by omega⟩, by
            rw [ew, nx.2]
            have : 5 * atD i + cntD i ≤ 12 := by unfold atD cntD; (repeat' split) <;> omega
            omega⟩
        show ixK (some ⟨p3, 0, none⟩) 3 (atD i : Int) _
        have a3 : atD i < 3 := by unfold atD; (repeat' split) <;> omega
        rw [ixK_eq (by omega)]
        rcases Nat.lt_or_ge i 4 with a | a
        · have e0 : atD i = 0 := by unfold atD; rw [if_pos (by omega)]
          rw [if_pos a] at st
          rw [e0] at fin ⊢
          refine B3.i0 rfl ?_
          rw [ixK_eq (by show (0 : Int) ≤ ((0 : Nat) : Int) ∧ ((0 : Nat) : Int) < ((3 : Nat) : Int); omega)]
          refine B3.s0 (by simp) fun w44 k44 u44 => fin u44 ?_
          rw [cdig] at k44
          rw [st]
          have := tot v1
          have e : IntKind.wrap .i64 (IntKind.wrap .i64 (10 * (fldD l i).1) + ((b.toNat - 48 : Nat) : Int)) = 10 * (fldD l i).1 + ((b.toNat - 48 : Nat) : Int) := this
          rw [e] at k44; exact k44
        rcases Nat.lt_or_ge i 7 with a2 | a2
        · have e0 : atD i = 1 := by unfold atD; rw [if_neg (by omega), if_pos (by omega)]
          rw [if_neg (by omega), if_pos a2] at st
          rw [e0] at fin ⊢
          refine B3.i1 1 rfl ?_
          rw [ixK_eq (by show (0 : Int) ≤ ((1 : Nat) : Int) ∧ ((1 : Nat) : Int) < ((3 : Nat) : Int); omega)]
          refine B3.s1 1 (by simp) fun w44 k44 u44 => fin u44 ?_
          rw [cdig] at k44
          rw [st]
          have e : IntKind.wrap .i64 (IntKind.wrap .i64 (10 * (fldD l i).2.1) + ((b.toNat - 48 : Nat) : Int)) = 10 * (fldD l i).2.1 + ((b.toNat - 48 : Nat) : Int) := tot v2
          rw [e] at k44; exact k44
        · have e0 : atD i = 2 := by unfold atD; rw [if_neg (by omega), if_neg (by omega)]
          rw [if_neg (by omega), if_neg (by omega)] at st
          rw [e0] at fin ⊢
          refine B3.i1 2 rfl ?_
          rw [ixK_eq (by show (0 : Int) ≤ ((2 : Nat) : Int) ∧ ((2 : Nat) : Int) < ((3 : Nat) : Int); omega)]
          refine B3.s1 2 (by simp) fun w44 k44 u44 => fin u44 ?_
          rw [cdig] at k44
          rw [st]
          have e : IntKind.wrap .i64 (IntKind.wrap .i64 (10 * (fldD l i).2.2) + ((b.toNat - 48 : Nat) : Int)) = 10 * (fldD l i).2.2 + ((b.toNat - 48 : Nat) : Int) := tot v3
          rw [e] at k44; exact k44
      · rintro ⟨h1, h2⟩
        unfold clsD at h2
        by_cases c47 : i = 4 ∨ i = 7
        · rw [if_pos c47] at h2
          exact cd ⟨by rw [h2]; rfl, c47⟩
        · rw [if_neg c47] at h2
          exact c ⟨h2, by omega, by omega, h1⟩
  · have G7 : Gro w w7 := Upd.trans hG u7 fun j hj h => by omega
    have B1 := hB1.upd u7 (by omega)
    have nn : prsD l = none := bad hb fun ⟨h1, h2⟩ => by
      unfold clsD at h2
      split at h2
      · rw [h2] at hhigh; exact absurd hhigh (by decide)
      · unfold isDg at h2; omega
    refine CutT.by (fun z W' => w7 = W' ∧ z.1 = false) (brE (fun cx => absurd (show c = 45 from cx) (by omega)) fun _ => ⟨rfl, rfl⟩) ?_
    rintro ⟨z, _⟩ _ ⟨rfl, hz⟩ _
    dsimp only at hz
    subst hz
    refine brF rfl (CutT.by (fun z W' => w7 = W' ∧ z.1 = false) (brD (fun _ => brD (fun c2 => absurd (show c ≤ 57 from c2) (by omega)) fun _ => ⟨rfl, rfl⟩) fun _ => ⟨rfl, rfl⟩) ?_)
    rintro ⟨z, _⟩ _ ⟨rfl, hz⟩ _
    dsimp only at hz
    subst hz
    exact brF rfl (no nn G7 B1)
end Go.Proofs.YtfbegkddkdenbaaGreatDoor
