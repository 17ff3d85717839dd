/- The calendar, by itself: days, months, years; texts of dates; their order. Conditions: none. -/
import Derived.Test.YtfbegkddkdenbaaGreatDoorEngX
namespace Go.Proofs.YtfbegkddkdenbaaGreatDoor
open Go.Eng Go
set_option linter.unusedVariables false
set_option linter.unusedSimpArgs false

theorem ilt_ge (a b : Int) : a < b ∨ b ≤ a := by omega

/-! ### days and dates -/
def lpY (y : Int) : Bool := decide (y % 4 = 0 ∧ (y % 100 ≠ 0 ∨ y % 400 = 0))
def mlen (y m : Int) : Int := if m = 2 then (if lpY y = true then 29 else 28) else if m = 4 ∨ m = 6 ∨ m = 9 ∨ m = 11 then 30 else 31
def yrs (y : Int) : Int := 365 * (y - 1) + (y - 1) / 4 - (y - 1) / 100 + (y - 1) / 400
def cumD (y : Int) : Nat → Int
  | 0 => 0
  | n + 1 => cumD y n + mlen y (n + 1)
abbrev D3 := Int × Int × Int
def GoodD (d : D3) : Prop := 1 ≤ d.1 ∧ d.1 ≤ 9999 ∧ 1 ≤ d.2.1 ∧ d.2.1 ≤ 12 ∧ 1 ≤ d.2.2 ∧ d.2.2 ≤ mlen d.1 d.2.1
instance (d : D3) : Decidable (GoodD d) := by unfold GoodD; exact inferInstance
def goodDb (d : D3) : Bool := decide (GoodD d)
def numD (d : D3) : Int := -719162 + yrs d.1 + cumD d.1 (d.2.1 - 1).toNat + d.2.2 - 1

theorem mlen_le (y m : Int) : 28 ≤ mlen y m ∧ mlen y m ≤ 31 := by unfold mlen; split <;> (try split) <;> omega
theorem yrs_succ (y : Int) : yrs (y + 1) = yrs y + 365 + (if lpY y = true then 1 else 0) := by
  unfold yrs lpY
  simp only [decide_eq_true_eq]
  split <;> omega
theorem yrs_mono {a b : Int} (h : a < b) : yrs a + 365 ≤ yrs b := by
  unfold yrs
  have h1 : (a - 1) / 400 ≤ (b - 1) / 400 := by omega
  have h2 : (a - 1) / 4 - (a - 1) / 100 ≤ (b - 1) / 4 - (b - 1) / 100 := by omega
  omega
theorem cum12 (y : Int) : cumD y 12 = 365 + (if lpY y = true then 1 else 0) := by
  simp only [cumD, mlen]
  cases lpY y <;> simp
theorem cum_mono (y : Int) (a b : Nat) (h : a ≤ b) : cumD y a ≤ cumD y b := by
  induction b with
  | zero => have : a = 0 := by omega
            subst this; exact Int.le_refl _
  | succ b ih =>
    rcases Nat.lt_or_ge b a with h1 | h1
    · have : a = b + 1 := by omega
      subst this; exact Int.le_refl _
    · have := ih h1
      have := (mlen_le y (b + 1)).1
      simp only [cumD]; omega
theorem cum_nonneg (y : Int) (a : Nat) : 0 ≤ cumD y a := cum_mono y 0 a (by omega)
/-- a day of a year lies within it -/
theorem day_in {d : D3} (h : GoodD d) : 1 ≤ cumD d.1 (d.2.1 - 1).toNat + d.2.2 ∧ cumD d.1 (d.2.1 - 1).toNat + d.2.2 ≤ cumD d.1 d.2.1.toNat ∧ cumD d.1 d.2.1.toNat ≤ cumD d.1 12 := by
  obtain ⟨h1, h2, h3, h4, h5, h6⟩ := h
  have e : d.2.1.toNat = (d.2.1 - 1).toNat + 1 := by omega
  have e2 : (((d.2.1 - 1).toNat : Int) + 1) = d.2.1 := by omega
  have := cum_nonneg d.1 (d.2.1 - 1).toNat
  refine ⟨by omega, ?_, cum_mono _ _ _ (by omega)⟩
  rw [e]; simp only [cumD]
  rw [e2]; omega
theorem numD_year {d : D3} (h : GoodD d) : -719162 + yrs d.1 ≤ numD d ∧ numD d < -719162 + yrs (d.1 + 1) := by
  have := day_in h
  have c := cum12 d.1
  rw [yrs_succ]
  unfold numD
  omega
theorem numD_range {d : D3} (h : GoodD d) : -719162 ≤ numD d ∧ numD d ≤ 2932896 := by
  have h0 := numD_year h
  obtain ⟨h1, h2, _⟩ := h
  have a1 : 0 ≤ yrs d.1 := by
    rcases ilt_ge 1 d.1 with c | c
    · have := yrs_mono c; have : yrs 1 = 0 := by decide
      omega
    · have : d.1 = 1 := by omega
      rw [this]; decide
  have a2 : yrs (d.1 + 1) ≤ yrs 10000 := by
    rcases ilt_ge (d.1 + 1) 10000 with c | c
    · have := yrs_mono c; omega
    · have : d.1 + 1 = 10000 := by omega
      rw [this]; exact Int.le_refl _
  have e : yrs 10000 = 3652059 := by decide
  omega
def keyD (d : D3) : Int := (d.1 * 13 + d.2.1) * 32 + d.2.2
theorem numD_lt {a b : D3} (ha : GoodD a) (hb : GoodD b) (h : keyD a < keyD b) : numD a < numD b := by
  have i1 := day_in ha
  have i2 := day_in hb
  have y1 := numD_year ha
  have y2 := numD_year hb
  obtain ⟨a1, a2, a3, a4, a5, a6⟩ := ha
  obtain ⟨b1, b2, b3, b4, b5, b6⟩ := hb
  have m1 := (mlen_le a.1 a.2.1).2
  have m2 := (mlen_le b.1 b.2.1).2
  unfold keyD at h
  rcases Int.lt_trichotomy a.1 b.1 with c | c | c
  · rcases ilt_ge (a.1 + 1) b.1 with c2 | c2
    · have := yrs_mono c2; omega
    · have : a.1 + 1 = b.1 := by omega
      rw [← this] at y2; omega
  · unfold numD
    rw [← c] at h i2 ⊢
    rcases Int.lt_trichotomy a.2.1 b.2.1 with e | e | e
    · have := cum_mono a.1 a.2.1.toNat (b.2.1 - 1).toNat (by omega)
      omega
    · rw [← e] at h ⊢; omega
    · omega
  · omega
theorem keyD_inj {a b : D3} (ha : GoodD a) (hb : GoodD b) (h : keyD a = keyD b) : a = b := by
  obtain ⟨a1, a2, a3, a4, a5, a6⟩ := ha
  obtain ⟨b1, b2, b3, b4, b5, b6⟩ := hb
  have m1 := (mlen_le a.1 a.2.1).2
  have m2 := (mlen_le b.1 b.2.1).2
  unfold keyD at h
  obtain ⟨x, y, z⟩ := a
  obtain ⟨x', y', z'⟩ := b
  dsimp only at *
  have : x = x' := by omega
  have : y = y' := by omega
  have : z = z' := by omega
  subst_vars; rfl
theorem numD_iff {a b : D3} (ha : GoodD a) (hb : GoodD b) : numD a < numD b ↔ keyD a < keyD b := by
  refine ⟨fun h => ?_, numD_lt ha hb⟩
  rcases Int.lt_trichotomy (keyD a) (keyD b) with c | c | c
  · exact c
  · have := keyD_inj ha hb c; subst this; omega
  · have := numD_lt hb ha c; omega
theorem numD_inj {a b : D3} (ha : GoodD a) (hb : GoodD b) (h : numD a = numD b) : a = b := by
  rcases Int.lt_trichotomy (keyD a) (keyD b) with c | c | c
  · have := numD_lt ha hb c; omega
  · exact keyD_inj ha hb c
  · have := numD_lt hb ha c; omega
/-- the date behind one -/
def nextD (d : D3) : D3 := if d.2.2 + 1 > mlen d.1 d.2.1 then (if d.2.1 + 1 > 12 then (d.1 + 1, 1, 1) else (d.1, d.2.1 + 1, 1)) else (d.1, d.2.1, d.2.2 + 1)
theorem numD_next {d : D3} (h : GoodD d) : numD (nextD d) = numD d + 1 ∧ (GoodD (nextD d) ∨ d.1 = 9999 ∧ nextD d = (10000, 1, 1)) := by
  have h' := h
  obtain ⟨h1, h2, h3, h4, h5, h6⟩ := h
  have m1 := (mlen_le d.1 d.2.1).1
  unfold nextD
  split
  · rename_i c
    have e : d.2.2 = mlen d.1 d.2.1 := by omega
    split
    · rename_i c2
      have e2 : d.2.1 = 12 := by omega
      have g1 := mlen_le (d.1 + 1) 1
      refine ⟨?_, ?_⟩
      · unfold numD
        rw [e, e2, yrs_succ]
        simp only [show ((1 : Int) - 1).toNat = 0 from rfl, show ((12 : Int) - 1).toNat = 11 from rfl]
        have := cum12 d.1
        have e3 : cumD d.1 12 = cumD d.1 11 + mlen d.1 12 := by show cumD d.1 11 + mlen d.1 ((11 : Nat) + 1 : Int) = _; rfl
        simp only [show cumD (d.1 + 1) 0 = 0 from rfl]
        omega
      · by_cases c3 : d.1 = 9999
        · right; exact ⟨c3, by rw [c3]; rfl⟩
        · left; exact ⟨by show (1 : Int) ≤ d.1 + 1; omega, by show d.1 + 1 ≤ (9999 : Int); omega, by show (1 : Int) ≤ 1; omega, by show (1 : Int) ≤ 12; omega, by show (1 : Int) ≤ 1; omega, by show (1 : Int) ≤ mlen (d.1 + 1) 1; omega⟩
    · rename_i c2
      have g1 := mlen_le d.1 (d.2.1 + 1)
      refine ⟨?_, .inl ⟨h1, h2, by show (1 : Int) ≤ d.2.1 + 1; omega, by show d.2.1 + 1 ≤ (12 : Int); omega, by show (1 : Int) ≤ 1; omega, by show (1 : Int) ≤ mlen d.1 (d.2.1 + 1); omega⟩⟩
      unfold numD
      have e2 : (d.2.1 + 1 - 1).toNat = (d.2.1 - 1).toNat + 1 := by omega
      have e3 : (((d.2.1 - 1).toNat : Int) + 1) = d.2.1 := by omega
      simp only [e2, cumD, e3]
      omega
  · rename_i c
    exact ⟨by unfold numD; show -719162 + yrs d.1 + cumD d.1 (d.2.1 - 1).toNat + (d.2.2 + 1) - 1 = _; omega, .inl ⟨h1, h2, h3, h4, by show (1 : Int) ≤ d.2.2 + 1; omega, by show d.2.2 + 1 ≤ mlen d.1 d.2.1; omega⟩⟩

/-! ### digits -/
def ofL (l : List UInt8) : ByteArray := ⟨l.toArray⟩
theorem ofL_size (l : List UInt8) : (ofL l).size = l.length := by simp [ofL, ByteArray.size]
theorem ofL_append (a b : List UInt8) : ofL a ++ ofL b = ofL (a ++ b) := by
  apply ByteArray.ext; simp [ofL]
theorem ofL_toList (l : List UInt8) : (ofL l).toList = l := by rw [ba_toList]; simp [ofL]
theorem toL_ofL (s : ByteArray) : ofL s.data.toList = s := by cases s; simp [ofL]
theorem ofL_inj {a b : List UInt8} (h : ofL a = ofL b) : a = b := by rw [← ofL_toList a, h, ofL_toList]
def dgc (n : Nat) : UInt8 := UInt8.ofNat (48 + n % 10)
/-- a number in so many digits -/
def dig (n : Nat) : Nat → List UInt8
  | 0 => []
  | k + 1 => dig (n / 10) k ++ [dgc n]
theorem dig_length (n : Nat) : ∀ k, (dig n k).length = k
  | 0 => rfl
  | k + 1 => by simp [dig, dig_length]
theorem dgc_val (n : Nat) : (dgc n).toNat = 48 + n % 10 := by
  unfold dgc; rw [UInt8.toNat_ofNat']; omega
def isDg (c : UInt8) : Prop := 48 ≤ c.toNat ∧ c.toNat ≤ 57
theorem dig_dg (n : Nat) : ∀ k, ∀ c ∈ dig n k, isDg c
  | 0, c, h => by cases h
  | k + 1, c, h => by
    simp only [dig, List.mem_append, List.mem_singleton] at h
    rcases h with h | rfl
    · exact dig_dg _ k c h
    · unfold isDg; rw [dgc_val]; omega
/-- the number of digits -/
def valD (l : List UInt8) : Nat := l.foldl (fun n c => 10 * n + (c.toNat - 48)) 0
theorem valD_snoc (l : List UInt8) (c : UInt8) : valD (l ++ [c]) = 10 * valD l + (c.toNat - 48) := by simp [valD]
theorem valD_dig : ∀ (k n : Nat), n < 10 ^ k → valD (dig n k) = n
  | 0, n, h => by simp at h; subst h; rfl
  | k + 1, n, h => by
    rw [dig, valD_snoc, valD_dig k (n / 10) (by rw [Nat.pow_succ] at h; omega), dgc_val]; omega
theorem dig_valD : ∀ (l : List UInt8), (∀ c ∈ l, isDg c) → dig (valD l) l.length = l := by
  intro l
  induction h : l.length generalizing l with
  | zero => intro _; rw [List.eq_nil_of_length_eq_zero h]; rfl
  | succ k ih =>
    intro hc
    obtain ⟨l', c, rfl⟩ : ∃ l' c, l = l' ++ [c] := by
      have : l ≠ [] := by intro e; subst e; simp at h
      exact ⟨l.dropLast, l.getLast this, (List.dropLast_concat_getLast this).symm⟩
    have hl : l'.length = k := by simpa using h
    have h1 : isDg c := hc c (by simp)
    unfold isDg at h1
    rw [valD_snoc, dig]
    have e1 : (10 * valD l' + (c.toNat - 48)) / 10 = valD l' := by omega
    rw [e1, ih l' hl fun c h => hc c (by simp [h])]
    have : dgc (10 * valD l' + (c.toNat - 48)) = c := by
      apply UInt8.toNat_inj.1; rw [dgc_val]; omega
    rw [this]
theorem valD_lt : ∀ (l : List UInt8), (∀ c ∈ l, isDg c) → valD l < 10 ^ l.length := by
  intro l
  induction h : l.length generalizing l with
  | zero => intro _; rw [List.eq_nil_of_length_eq_zero h]; simp [valD]
  | succ k ih =>
    intro hc
    obtain ⟨l', c, rfl⟩ : ∃ l' c, l = l' ++ [c] := by
      have : l ≠ [] := by intro e; subst e; simp at h
      exact ⟨l.dropLast, l.getLast this, (List.dropLast_concat_getLast this).symm⟩
    have hl : l'.length = k := by simpa using h
    have h1 : isDg c := hc c (by simp)
    unfold isDg at h1
    have := ih l' hl fun c h => hc c (by simp [h])
    rw [valD_snoc, Nat.pow_succ]; omega
/-! ### the order of texts -/
theorem less_append : ∀ (a b x y : List UInt8), a.length = b.length → Op.bytesLess (a ++ x) (b ++ y) = (Op.bytesLess a b || (a == b && Op.bytesLess x y))
  | [], [], x, y, _ => by simp [Op.bytesLess]
  | a :: as, b :: bs, x, y, h => by
    have ih := less_append as bs x y (by simpa using h)
    simp only [List.cons_append, Op.bytesLess, ih]
    by_cases h1 : a < b
    · simp [h1]
    · by_cases h2 : a = b
      · subst h2; simp [h1]
      · have : (a == b) = false := by simpa using h2
        simp [h1, this, h2]
theorem less_self (a : List UInt8) : Op.bytesLess a a = false := by
  induction a with
  | nil => rfl
  | cons x a ih => simp [Op.bytesLess, ih]
theorem dgc_lt (n m : Nat) : dgc n < dgc m ↔ n % 10 < m % 10 := by
  rw [UInt8.lt_iff_toNat_lt, dgc_val, dgc_val]; omega
theorem dgc_eq (n m : Nat) : dgc n = dgc m ↔ n % 10 = m % 10 := by
  rw [← UInt8.toNat_inj, dgc_val, dgc_val]; omega
theorem dig_eq : ∀ (k n m : Nat), n < 10 ^ k → m < 10 ^ k → (dig n k = dig m k ↔ n = m) := fun k n m hn hm =>
  ⟨fun h => by rw [← valD_dig k n hn, h, valD_dig k m hm], fun h => by rw [h]⟩
theorem dig_less : ∀ (k n m : Nat), n < 10 ^ k → m < 10 ^ k → Op.bytesLess (dig n k) (dig m k) = decide (n < m)
  | 0, n, m, hn, hm => by simp at hn hm; subst hn hm; rfl
  | k + 1, n, m, hn, hm => by
    rw [Nat.pow_succ] at hn hm
    have ih := dig_less k (n / 10) (m / 10) (by omega) (by omega)
    have he := dig_eq k (n / 10) (m / 10) (by omega) (by omega)
    rw [dig, dig, less_append _ _ _ _ (by rw [dig_length, dig_length]), ih]
    have h1 : Op.bytesLess [dgc n] [dgc m] = decide (n % 10 < m % 10) := by
      rw [Bool.eq_iff_iff]
      simp only [Op.bytesLess, Bool.or_eq_true, Bool.and_eq_true, Bool.false_eq_true, and_false, or_false, decide_eq_true_eq, dgc_lt]
    have h2 : (dig (n / 10) k == dig (m / 10) k) = decide (n / 10 = m / 10) := by
      rw [Bool.eq_iff_iff, beq_iff_eq, he, decide_eq_true_iff]
    rw [h1, h2, Bool.eq_iff_iff]
    simp only [Bool.or_eq_true, Bool.and_eq_true, decide_eq_true_eq]
    omega
/-- a piece of fixed length, then the rest -/
theorem less_dig {k n m : Nat} {x y : List UInt8} (hn : n < 10 ^ k) (hm : m < 10 ^ k) : Op.bytesLess (dig n k ++ x) (dig m k ++ y) = (decide (n < m) || (decide (n = m) && Op.bytesLess x y)) := by
  rw [less_append _ _ _ _ (by rw [dig_length, dig_length]), dig_less k n m hn hm]
  congr 2
  rw [Bool.eq_iff_iff, beq_iff_eq, dig_eq k n m hn hm, decide_eq_true_iff]
theorem less_cons (c : UInt8) (x y : List UInt8) : Op.bytesLess (c :: x) (c :: y) = Op.bytesLess x y := by simp [Op.bytesLess]
/-! ### texts of dates and seconds -/
def txtD (d : D3) : List UInt8 := dig d.1.toNat 4 ++ 45 :: (dig d.2.1.toNat 2 ++ 45 :: dig d.2.2.toNat 2)
theorem txtD_length (d : D3) : (txtD d).length = 10 := by simp [txtD, dig_length]
abbrev U6 := Int × Int × Int × Int × Int × Int
def dU (u : U6) : D3 := (u.1, u.2.1, u.2.2.1)
def GoodU (u : U6) : Prop := GoodD (dU u) ∧ 0 ≤ u.2.2.2.1 ∧ u.2.2.2.1 ≤ 23 ∧ 0 ≤ u.2.2.2.2.1 ∧ u.2.2.2.2.1 ≤ 59 ∧ 0 ≤ u.2.2.2.2.2 ∧ (u.2.2.2.2.2 ≤ 59 ∨ u.2.2.2.2.2 = 60 ∧ u.2.2.2.1 = 23 ∧ u.2.2.2.2.1 = 59)
instance (u : U6) : Decidable (GoodU u) := by unfold GoodU; exact inferInstance
def goodUb (u : U6) : Bool := decide (GoodU u)
def txtU (u : U6) : List UInt8 := txtD (dU u) ++ 84 :: (dig u.2.2.2.1.toNat 2 ++ 58 :: (dig u.2.2.2.2.1.toNat 2 ++ 58 :: (dig u.2.2.2.2.2.toNat 2 ++ [90])))
theorem txtU_length (u : U6) : (txtU u).length = 20 := by simp [txtU, txtD_length, dig_length]
def secU (u : U6) : Int := 3600 * u.2.2.2.1 + 60 * u.2.2.2.2.1 + u.2.2.2.2.2
theorem txtD_less {a b : D3} (ha : GoodD a) (hb : GoodD b) (x y : List UInt8) : Op.bytesLess (txtD a ++ x) (txtD b ++ y) = (decide (keyD a < keyD b) || (decide (a = b) && Op.bytesLess x y)) := by
  have hk := @keyD_inj a b ha hb
  obtain ⟨a1, a2, a3, a4, a5, a6⟩ := ha
  obtain ⟨b1, b2, b3, b4, b5, b6⟩ := hb
  have m1 := (mlen_le a.1 a.2.1).2
  have m2 := (mlen_le b.1 b.2.1).2
  unfold txtD
  simp only [List.append_assoc, List.cons_append]
  rw [less_dig (by omega) (by omega), less_cons, less_dig (by omega) (by omega), less_cons, less_dig (by omega) (by omega)]
  have he : a = b ↔ a.1.toNat = b.1.toNat ∧ a.2.1.toNat = b.2.1.toNat ∧ a.2.2.toNat = b.2.2.toNat :=
    ⟨fun h => by subst h; exact ⟨rfl, rfl, rfl⟩, fun h => hk (by unfold keyD; omega)⟩
  rw [Bool.eq_iff_iff]
  simp only [Bool.or_eq_true, Bool.and_eq_true, decide_eq_true_eq, he]
  unfold keyD
  generalize Op.bytesLess x y = t
  constructor
  · rintro (h | ⟨h1, h | ⟨h2, h | ⟨h3, ht⟩⟩⟩)
    · left; omega
    · left; omega
    · left; omega
    · right; exact ⟨⟨h1, h2, h3⟩, ht⟩
  · rintro (h | ⟨⟨h1, h2, h3⟩, ht⟩)
    · by_cases c1 : a.1.toNat = b.1.toNat
      · by_cases c2 : a.2.1.toNat = b.2.1.toNat
        · exact .inr ⟨c1, .inr ⟨c2, .inl (by omega)⟩⟩
        · exact .inr ⟨c1, .inl (by omega)⟩
      · exact .inl (by omega)
    · exact .inr ⟨h1, .inr ⟨h2, .inr ⟨h3, ht⟩⟩⟩
theorem secU_inj {a b : U6} (ha : GoodU a) (hb : GoodU b) (hd : dU a = dU b) (h : secU a = secU b) : a = b ∨ (a.2.2.2.2.2 = 60 ∨ b.2.2.2.2.2 = 60) := by
  obtain ⟨_, a1, a2, a3, a4, a5, a6⟩ := ha
  obtain ⟨_, b1, b2, b3, b4, b5, b6⟩ := hb
  obtain ⟨x1, x2, x3, x4, x5, x6⟩ := a
  obtain ⟨y1, y2, y3, y4, y5, y6⟩ := b
  unfold secU dU at *
  dsimp only at *
  simp only [Prod.mk.injEq] at hd ⊢
  omega
/-- the texts' order: that of the day, then of the second (60 is the last of all) -/
theorem txtU_less {a b : U6} (ha : GoodU a) (hb : GoodU b) : Op.bytesLess (txtU a) (txtU b) = decide (keyD (dU a) < keyD (dU b) ∨ dU a = dU b ∧ secU a < secU b) := by
  unfold txtU
  rw [txtD_less ha.1 hb.1, less_cons]
  have hk := @keyD_inj _ _ ha.1 hb.1
  obtain ⟨_, a1, a2, a3, a4, a5, a6⟩ := ha
  obtain ⟨_, b1, b2, b3, b4, b5, b6⟩ := hb
  rw [less_dig (by omega) (by omega), less_cons, less_dig (by omega) (by omega), less_cons, less_dig (by omega) (by omega), less_self]
  rw [Bool.eq_iff_iff]
  simp only [Bool.or_eq_true, Bool.and_eq_true, decide_eq_true_eq, Bool.false_eq_true, and_false, or_false]
  unfold secU
  constructor
  · rintro (h | ⟨h1, h | ⟨h2, h | ⟨h3, h⟩⟩⟩)
    · exact .inl h
    · exact .inr ⟨h1, by omega⟩
    · exact .inr ⟨h1, by omega⟩
    · exact .inr ⟨h1, by omega⟩
  · rintro (h | ⟨h1, h⟩)
    · exact .inl h
    · refine .inr ⟨h1, ?_⟩
      by_cases c1 : a.2.2.2.1.toNat = b.2.2.2.1.toNat
      · refine .inr ⟨c1, ?_⟩
        by_cases c2 : a.2.2.2.2.1.toNat = b.2.2.2.2.1.toNat
        · exact .inr ⟨c2, by omega⟩
        · left; omega
      · left; omega
end Go.Proofs.YtfbegkddkdenbaaGreatDoor
