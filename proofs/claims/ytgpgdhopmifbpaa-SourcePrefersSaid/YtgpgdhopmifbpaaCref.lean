/- Contracts of the reference's Times, Over and MulDiv. Conditions: arguments are integers of 64 bits; Over's divisor is from 1 to 2^63. -/
import Derived.Test.YtgpgdhopmifbpaaCmul
namespace Go.Proofs.Ytgpgdhopmifbpaa
open Go.Eng
set_option linter.unusedVariables false

/-- a digit of 32 bits -/
def D32 (x : Int) : Prop := 0 ≤ x ∧ x < 4294967296
theorem D32.U {x : Int} (h : D32 x) : U64 x := by unfold D32 at h; unfold U64; omega

theorem t_step {A B x c : Int} (hA : D32 A) (hB : D32 B) (hx : D32 x) (hc : D32 c) :
    IntKind.wrap .u64 (IntKind.wrap .u64 (x + IntKind.wrap .u64 (A * B)) + c) = x + A * B + c ∧ U64 (x + A * B + c) ∧ D32 ((x + A * B + c) % 4294967296) ∧ D32 ((x + A * B + c) / 4294967296) := by
  unfold D32 at *
  have := mul_bd hA.1 (show A ≤ 4294967295 by omega) hB.1 (show B ≤ 4294967295 by omega)
  refine ⟨?_, by unfold U64; omega, by omega, by omega⟩
  simp only [wu64]; omega

def L4 (d : Nat → Int) : List Value := [.int .u64 (d 0), .int .u64 (d 1), .int .u64 (d 2), .int .u64 (d 3)]
def up (d : Nat → Int) (k : Nat) (v : Int) : Nat → Int := fun n => if n = k then v else d n
def pr (a b : Int) (i : Nat) : Int := if i = 0 then a else b
theorem L4_get (d : Nat → Int) {k : Nat} (h : k < 4) : (L4 d)[k]? = some (.int .u64 (d k)) := by
  rcases k with _ | _ | _ | _ | k <;> first | rfl | omega
theorem L4_set (d : Nat → Int) {k : Nat} (v : Int) (h : k < 4) : splice (L4 d) (0 + k + 0) [.int .u64 v] = L4 (up d k v) := by
  rcases k with _ | _ | _ | _ | k <;> first | rfl | omega
theorem pr_get (a b : Int) {k : Nat} (h : k < 2) : [Value.int .u64 a, .int .u64 b][k]? = some (.int .u64 (pr a b k)) := by
  rcases k with _ | _ | k <;> first | rfl | omega
theorem up_same (d : Nat → Int) (k : Nat) (v : Int) : up d k v k = v := by simp [up]
theorem up_diff (d : Nat → Int) {k n : Nat} (v : Int) (h : n ≠ k) : up d k v n = d n := by simp [up, h]
theorem up_D {d : Nat → Int} (h : ∀ k, D32 (d k)) (k : Nat) {v : Int} (hv : D32 v) : ∀ n, D32 (up d k v n) := fun n => by
  unfold up; split
  · exact hv
  · exact h n

/-! ### Over -/
def dg (d0 d1 d2 d3 k : Nat) : Nat := if k = 0 then d0 else if k = 1 then d1 else if k = 2 then d2 else d3
theorem dg_get (d0 d1 d2 d3 : Nat) {k : Nat} (h : k < 4) : [Value.int .u64 (d0 : Int), .int .u64 (d1 : Int), .int .u64 (d2 : Int), .int .u64 (d3 : Int)][k]? = some (.int .u64 ((dg d0 d1 d2 d3 k : Nat) : Int)) := by
  rcases k with _ | _ | _ | _ | k <;> first | rfl | omega
theorem bit_of {d H n j : Nat} (hj : j < 32) (e : n = d + 4294967296 * H) : n / 2 ^ j % 2 = d / 2 ^ j % 2 := by
  have : 4294967296 = 2 ^ j * (2 * 2 ^ (31 - j)) := by
    rw [← Nat.pow_succ', ← Nat.pow_add, show j + (31 - j).succ = 32 by omega]
  rw [e, this, Nat.mul_assoc, Nat.add_mul_div_left _ _ (Nat.two_pow_pos j), Nat.mul_assoc, Nat.add_mul_mod_self_left]
theorem dg_bit {d0 d1 d2 d3 n s : Nat} (h0 : d0 < 4294967296) (h1 : d1 < 4294967296) (h2 : d2 < 4294967296) (h3 : d3 < 4294967296)
    (e : n = d0 + d1 * 4294967296 + d2 * 18446744073709551616 + d3 * 79228162514264337593543950336) (hs : s < 128) : dg d0 d1 d2 d3 (s / 32) / 2 ^ (s % 32) % 2 = n / 2 ^ s % 2 := by
  have e1 : n / 2 ^ s = n / 2 ^ (32 * (s / 32)) / 2 ^ (s % 32) := by
    rw [Nat.div_div_eq_div_mul, ← Nat.pow_add, Nat.div_add_mod]
  rw [e1]
  have hj : s % 32 < 32 := Nat.mod_lt _ (by decide)
  have hk : s / 32 < 4 := by omega
  generalize s / 32 = k at *
  generalize s % 32 = j at *
  symm
  rcases k with _ | _ | _ | _ | k
  · exact bit_of (H := d1 + d2 * 4294967296 + d3 * 18446744073709551616) hj (by rw [show 2 ^ (32 * 0) = 1 by decide]; simp only [dg, if_true]; omega)
  · exact bit_of (H := d2 + d3 * 4294967296) hj (by rw [show 2 ^ (32 * (0 + 1)) = 4294967296 by decide]; simp [dg]; omega)
  · exact bit_of (H := d3) hj (by rw [show 2 ^ (32 * (0 + 1 + 1)) = 18446744073709551616 by decide]; simp [dg]; omega)
  · exact bit_of (H := 0) hj (by rw [show 2 ^ (32 * (0 + 1 + 1 + 1)) = 79228162514264337593543950336 by decide]; simp [dg]; omega)
  · omega

theorem ov_step {M c β : Nat} (hc : 0 < c) (hβ : β < 2) : (if 2 * (M % c) + β ≥ c then (2 * M + β) / c = 2 * (M / c) + 1 ∧ (2 * M + β) % c = 2 * (M % c) + β - c else (2 * M + β) / c = 2 * (M / c) ∧ (2 * M + β) % c = 2 * (M % c) + β) := by
  have e := Nat.div_add_mod M c
  have e1 := Nat.mod_lt M hc
  split
  · rename_i h
    have := (Nat.div_mod_unique (a := 2 * M + β) (d := 2 * (M / c) + 1) (c := 2 * (M % c) + β - c) hc).2 ⟨by rw [Nat.mul_add, Nat.mul_left_comm]; omega, by omega⟩
    exact this
  · rename_i h
    have := (Nat.div_mod_unique (a := 2 * M + β) (d := 2 * (M / c)) (c := 2 * (M % c) + β) hc).2 ⟨by rw [Nat.mul_left_comm]; omega, by omega⟩
    exact this

end Go.Proofs.Ytgpgdhopmifbpaa
