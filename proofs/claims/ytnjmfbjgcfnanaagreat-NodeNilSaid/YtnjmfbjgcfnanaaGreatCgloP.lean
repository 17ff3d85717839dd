/- Plain law of layer 14: the map of entries, the other clock's time. Conditions: none. -/
import Derived.Test.YtnjmfbjgcfnanaaGreatCsloP
import Derived.Test.YtnjmfbjgcfnanaaGreatCtabP
namespace Go.Proofs.YtnjmfbjgcfnanaaGreat
open Go.Eng Go
set_option linter.unusedVariables false
set_option linter.unusedSimpArgs false

/-! ### division -/
theorem div_bd {P D X : Int} (hD : 0 < D) (h0 : -(X * D) ≤ P) (h1 : P ≤ X * D) : -X ≤ P / D ∧ P / D ≤ X := by
  refine ⟨Int.le_ediv_of_mul_le hD (by rw [Int.neg_mul]; exact h0), ?_⟩
  have h2 : P < (X + 1) * D := by rw [Int.add_mul, Int.one_mul]; omega
  have := Int.ediv_lt_of_lt_mul hD h2
  omega
theorem div_sub {A D k : Int} (hD : 0 < D) : (A - k * D) / D = A / D - k := by
  rw [Int.sub_eq_add_neg, ← Int.neg_mul, Int.add_mul_ediv_right _ _ (by omega)]; omega
theorem div_mono {A B D : Int} (hD : 0 < D) (h : A ≤ B) : A / D ≤ B / D := Int.ediv_le_ediv hD h
theorem div_cross {P D Q E : Int} (hD : 0 < D) (hE : 0 < E) (h : P * E ≤ Q * D) : P / D ≤ Q / E := by
  refine Int.le_ediv_of_mul_le hE ?_
  have h1 : P / D * D ≤ P := Int.ediv_mul_le P (by omega)
  have h2 : P / D * D * E ≤ P * E := Int.mul_le_mul_of_nonneg_right h1 (by omega)
  have h3 : P / D * E * D ≤ Q * D := by
    have e : P / D * E * D = P / D * D * E := by rw [Int.mul_assoc, Int.mul_comm E D, ← Int.mul_assoc]
    rw [e]; omega
  exact Int.le_of_mul_le_mul_right h3 hD
theorem div_add {A B D : Int} (hD : 0 < D) : (A + B) / D ≤ A / D + B / D + 1 ∧ A / D + B / D ≤ (A + B) / D := by
  have a1 := Int.emod_add_mul_ediv A D
  have b1 := Int.emod_add_mul_ediv B D
  have a2 := Int.emod_nonneg A (show D ≠ 0 by omega)
  have b2 := Int.emod_nonneg B (show D ≠ 0 by omega)
  have a3 := Int.emod_lt_of_pos A hD
  have b3 := Int.emod_lt_of_pos B hD
  constructor
  · have : A + B < (A / D + B / D + 2) * D := by
      have e : (A / D + B / D + 2) * D = D * (A / D) + D * (B / D) + 2 * D := by rw [Int.add_mul, Int.add_mul, Int.mul_comm D, Int.mul_comm D]
      omega
    have := Int.ediv_lt_of_lt_mul hD this
    omega
  · refine Int.le_ediv_of_mul_le hD ?_
    have e : (A / D + B / D) * D = D * (A / D) + D * (B / D) := by rw [Int.add_mul, Int.mul_comm D, Int.mul_comm D]
    omega

/-! ### the map -/
abbrev M5 := Int × Int × Int × Int × Int
def sL (es : List E3) : Int := es.foldl (fun s e => s + e.1) 0
def sO (es : List E3) : Int := es.foldl (fun s e => s + e.2.1) 0
theorem sL_snoc (es : List E3) (e : E3) : sL (es ++ [e]) = sL es + e.1 := by simp [sL]
theorem sO_snoc (es : List E3) (e : E3) : sO (es ++ [e]) = sO es + e.2.1 := by simp [sO]
def mapV (drift : Int) (es : List E3) : M5 := (sL es / (es.length : Int), sO es / (es.length : Int), (slopeV drift es).1, (slopeV drift es).2, maxH es)
def gn (m : M5) (t : Int) : Int := m.2.2.1 * (t - m.1) / m.2.2.2.1
def raw (m : M5) (t : Int) : Int := t + m.2.1 + gn m t
def okG (m : M5) (t : Int) : Bool := decide (0 ≤ t) && decide (t ≤ 1125899906842624) && decide (0 ≤ raw m t) && decide (raw m t ≤ 1125899906842624)
def gV (m : M5) (t : Int) : Int := if okG m t = true then raw m t else 0

structure MB (drift : Int) (m : M5) : Prop where
  l0 : 0 ≤ m.1
  l1 : m.1 ≤ 1125899906842624
  o0 : -1125899906842624 ≤ m.2.1
  o1 : m.2.1 ≤ 1125899906842624
  sv : SV drift (m.2.2.1, m.2.2.2.1)

theorem sum_bd (es : List E3) (h : ∀ e ∈ es, goodB e = true) : 0 ≤ sL es ∧ sL es ≤ es.length * 1125899906842624 ∧ -(es.length * 1125899906842624) ≤ sO es ∧ sO es ≤ es.length * 1125899906842624 := by
  have key : ∀ (n : Nat) (es : List E3), es.length = n → (∀ e ∈ es, goodB e = true) → 0 ≤ sL es ∧ sL es ≤ es.length * 1125899906842624 ∧ -(es.length * 1125899906842624) ≤ sO es ∧ sO es ≤ es.length * 1125899906842624 := by
    intro n
    induction n with
    | zero =>
      intro es hl _
      have : es = [] := List.eq_nil_of_length_eq_zero hl
      subst this
      simp [sL, sO]
    | succ n ih =>
      intro es hl h
      have hne : es ≠ [] := by intro e; subst e; cases hl
      obtain ⟨l, e, rfl⟩ : ∃ l e, es = l ++ [e] := ⟨es.dropLast, es.getLast hne, (List.dropLast_concat_getLast hne).symm⟩
      have := ih l (by simpa using hl) fun x hx => h x (by simp [hx])
      have ge := goodB_iff.1 (h e (by simp))
      rw [sL_snoc, sO_snoc, List.length_append, List.length_singleton]
      omega
  exact key _ es rfl h
theorem mapV_MB {drift : Int} {es : List E3} (hne : es ≠ []) (h : ∀ e ∈ es, goodB e = true) : MB drift (mapV drift es) := by
  have hn : (0 : Int) < es.length := by have := List.length_pos_iff.2 hne; omega
  obtain ⟨a, b, c, d⟩ := sum_bd es h
  have h1 := div_bd (P := sL es) (D := es.length) (X := 1125899906842624) hn (by omega) (by omega)
  have h2 := div_bd (P := sO es) (D := es.length) (X := 1125899906842624) hn (by omega) (by omega)
  exact ⟨Int.ediv_nonneg a (by omega), h1.2, h2.1, h2.2, slopeV_SV drift es⟩

theorem SV.small {drift : Int} {v : Int × Int} (h : SV drift v) : 99 * v.1 ≤ 2 * v.2 ∧ -(99 * v.1) ≤ 2 * v.2 := by
  have hd := dr_bd drift
  obtain ⟨d0, d1, n0, n1, up, dn⟩ := h
  have : dr drift = 0 ∨ dr drift = 1 ∨ dr drift = 2 ∨ dr drift = 3 ∨ dr drift = 4 ∨ dr drift = 5 ∨ dr drift = 6 ∨ dr drift = 7 ∨ dr drift = 8 ∨ dr drift = 9 ∨ dr drift = 10 := by omega
  rcases this with h | h | h | h | h | h | h | h | h | h | h <;> rw [h] at up dn <;> omega

/-- what a slope gains is less than the time -/
theorem gain_bd {drift x : Int} {v : Int × Int} (h : SV drift v) {X : Int} (h0 : -X ≤ x) (h1 : x ≤ X) : -X ≤ v.1 * x / v.2 ∧ v.1 * x / v.2 ≤ X := by
  have hs := h.small
  have hD := h.d0
  have hX : 0 ≤ X := by omega
  have b1 : v.1 ≤ v.2 := by omega
  have b2 : -v.2 ≤ v.1 := by omega
  refine div_bd (by omega) ?_ ?_
  · -- -(X D) ≤ N x
    have e : v.1 * x + X * v.2 = (v.1 + v.2) * (x + X) + (v.2 - v.1) * (X - x) - (v.1 * x + X * v.2) := by grind
    have p1 := Int.mul_nonneg (show 0 ≤ v.1 + v.2 by omega) (show 0 ≤ x + X by omega)
    have p2 := Int.mul_nonneg (show 0 ≤ v.2 - v.1 by omega) (show 0 ≤ X - x by omega)
    omega
  · have e : X * v.2 - v.1 * x = (v.2 - v.1) * (X + x) + (v.2 + v.1) * (X - x) - (X * v.2 - v.1 * x) := by grind
    have p1 := Int.mul_nonneg (show 0 ≤ v.2 - v.1 by omega) (show 0 ≤ X + x by omega)
    have p2 := Int.mul_nonneg (show 0 ≤ v.2 + v.1 by omega) (show 0 ≤ X - x by omega)
    omega
theorem gn_bd {drift : Int} {m : M5} (h : MB drift m) {t : Int} (h0 : 0 ≤ t) (h1 : t ≤ 1125899906842624) : -1125899906842624 ≤ gn m t ∧ gn m t ≤ 1125899906842624 := by
  have := h.l0
  have := h.l1
  exact gain_bd (X := 1125899906842624) h.sv (by show _ ≤ t - m.1; omega) (by show t - m.1 ≤ _; omega)

/-- time goes on -/
theorem raw_mono {drift : Int} {m : M5} (h : MB drift m) {s t : Int} (hst : s ≤ t) : raw m s ≤ raw m t := by
  have hD : 0 < m.2.2.2.1 := by have := h.sv.d0; show 0 < m.2.2.2.1; simp only at this; omega
  have hs := h.sv.small
  simp only at hs
  have e : m.2.2.1 * (t - m.1) = m.2.2.1 * (s - m.1) + m.2.2.1 * (t - s) := by rw [← Int.mul_add]; congr 1; omega
  have p := Int.mul_nonneg (show 0 ≤ m.2.2.1 + m.2.2.2.1 by omega) (show 0 ≤ t - s by omega)
  have k : m.2.2.1 * (s - m.1) - (t - s) * m.2.2.2.1 ≤ m.2.2.1 * (t - m.1) := by
    rw [e]
    have e2 : (m.2.2.1 + m.2.2.2.1) * (t - s) = m.2.2.1 * (t - s) + (t - s) * m.2.2.2.1 := by rw [Int.add_mul, Int.mul_comm m.2.2.2.1]
    omega
  have := div_mono hD k
  rw [div_sub hD] at this
  unfold raw gn
  omega
theorem raw_up {drift : Int} {m : M5} (h : MB drift m) {t b : Int} (hb : 0 ≤ b) : raw m (t + b) - raw m t ≤ b + 2 * dr drift * b / (1000 - dr drift) + 1 := by
  have hD : 0 < m.2.2.2.1 := by have := h.sv.d0; show 0 < m.2.2.2.1; simp only at this; omega
  have hd := dr_bd drift
  have e : m.2.2.1 * (t + b - m.1) = m.2.2.1 * (t - m.1) + m.2.2.1 * b := by rw [← Int.mul_add]; congr 1; omega
  have h1 := (div_add (A := m.2.2.1 * (t - m.1)) (B := m.2.2.1 * b) hD).1
  have h2 : m.2.2.1 * b / m.2.2.2.1 ≤ 2 * dr drift * b / (1000 - dr drift) := by
    refine div_cross hD (by omega) ?_
    have := Int.mul_le_mul_of_nonneg_right h.sv.up hb
    simp only at this
    have e1 : m.2.2.1 * b * (1000 - dr drift) = m.2.2.1 * (1000 - dr drift) * b := by rw [Int.mul_assoc, Int.mul_comm b, ← Int.mul_assoc]
    have e2 : 2 * dr drift * b * m.2.2.2.1 = 2 * dr drift * m.2.2.2.1 * b := by rw [Int.mul_assoc, Int.mul_comm b, ← Int.mul_assoc]
    omega
  unfold raw gn
  rw [e]
  omega
end Go.Proofs.YtnjmfbjgcfnanaaGreat
