/- The engine, part B: what a call leaves of memory, and small lemmas for reasoning over the shallow texts. Conditions: none. -/
import Derived.Test.YtgpgdhopmifbpaaGreatEngF
import Derived.Below
namespace Go.Eng
open Go
set_option linter.unusedVariables false
set_option linter.unusedSimpArgs false

/-- Behind a call: blocks may have come, and of those that were there only those of S may have turned. -/
structure Upd (S : Nat → Prop) (w w' : World) : Prop where
  os : w'.os = w.os
  tape : w'.tape = w.tape
  output : w'.output = w.output
  size : w.heap.size ≤ w'.heap.size
  block : ∀ k, k < w.heap.size → ¬ S k → w'.heap[k]? = w.heap[k]?
abbrev Gro (w w' : World) : Prop := Upd (fun _ => False) w w'

theorem Upd.refl (S : Nat → Prop) (w : World) : Upd S w w := ⟨rfl, rfl, rfl, Nat.le_refl _, fun _ _ _ => rfl⟩
theorem Upd.trans {S S' : Nat → Prop} {a b c : World} (h : Upd S a b) (k : Upd S' b c) (hS : ∀ i, i < a.heap.size → S' i → S i) : Upd S a c :=
  ⟨k.os.trans h.os, k.tape.trans h.tape, k.output.trans h.output, Nat.le_trans h.size k.size, fun i hi hn => (k.block i (Nat.lt_of_lt_of_le hi h.size) (fun x => hn (hS i hi x))).trans (h.block i hi hn)⟩
theorem Upd.mono {S S' : Nat → Prop} {a b : World} (h : Upd S a b) (hS : ∀ i, S i → S' i) : Upd S' a b := ⟨h.os, h.tape, h.output, h.size, fun i hi hn => h.block i hi fun x => hn (hS i x)⟩
theorem Upd.gro {S : Nat → Prop} {a b c : World} (h : Upd S a b) (k : Gro b c) : Upd S a c := h.trans k fun _ _ x => x.elim
theorem Upd.drew {S : Nat → Prop} {a b : World} (h : Upd S a b) : Upd S a b.drew := ⟨h.os, h.tape, h.output, h.size, h.block⟩
theorem Upd.alloc {S : Nat → Prop} {a b : World} (h : Upd S a b) (o : Obj) : Upd S a (b.alloc o) :=
  h.gro ⟨rfl, rfl, rfl, by show b.heap.size ≤ (b.heap.push o).size; rw [Array.size_push]; omega, fun k hk _ => by show (b.heap.push o)[k]? = _; rw [Array.getElem?_push, if_neg (by omega)]⟩
theorem Upd.setCell {S : Nat → Prop} {a b : World} (h : Upd S a b) (p : Addr) (v : Value) (hp : p.block < a.heap.size → S p.block) : Upd S a (b.setCell p v) :=
  ⟨h.os, h.tape, h.output, by simpa [World.setCell] using h.size, fun k hk hn => by
    rw [← h.block k hk hn]
    have : p.block ≠ k := fun e => hn (e ▸ hp (e ▸ hk))
    simp only [World.setCell]
    rw [Array.getElem?_modify, if_neg this]⟩
theorem Gro.below {a b : World} (h : Gro a b) : RowKit.Below a.heap.size a b := ⟨h.os, h.tape, h.output, h.size, fun k hk => h.block k hk fun x => x⟩
theorem Gro.refl (a : World) : Gro a a := Upd.refl _ a
theorem Gro.drew (a : World) : Gro a a.drew := (Upd.refl _ a).drew
theorem Gro.trans {a b c : World} (h : Gro a b) (k : Gro b c) : Gro a c := Upd.gro h k

theorem CutT.inl {α : Type} {A : (α → World → Prop) → Prop} {B : α → World → Prop} (h : A B) : CutT A B := ⟨B, h, fun _ _ h => h⟩
theorem CutT.by {α : Type} {A : (α → World → Prop) → Prop} {B : α → World → Prop} (J : α → World → Prop) (h : A J) (hB : ∀ x w, J x w → B x w) : CutT A B := ⟨J, h, hB⟩
theorem LoopT.by {α : Type} {B : (α → World → Prop) → α → World → Prop} {x0 : α} {w0 : World} (I : α → World → Prop) (m : α → Nat) (h0 : I x0 w0) (hr : ∀ x w, I x w → B (fun x' w' => I x' w' ∧ m x' < m x) x w) : LoopT B x0 w0 :=
  ⟨I, fun x _ => m x, h0, hr⟩

theorem nzK_eq {b : Int} {p : Prop} (h : b ≠ 0) : nzK b p = p := by simp [nzK, h]
theorem shK_eq {b : Int} {p : Prop} (h : 0 ≤ b) : shK b p = p := by unfold shK; rw [if_neg (by omega)]
theorem drK_eq (w : World) (k : World → Prop) : drK w k = k w.drew := rfl
theorem alK_eq (cs : List Value) (t : TypeId) (w : World) (k : Addr → World → Prop) : alK cs t w k = k ⟨w.heap.size, 0, none⟩ (w.alloc (.cells cs.toArray t)) := rfl

/-- an int -/
def I64 (n : Int) : Prop := -9223372036854775808 ≤ n ∧ n ≤ 9223372036854775807
def U64 (n : Int) : Prop := 0 ≤ n ∧ n ≤ 18446744073709551615
instance (n : Int) : Decidable (I64 n) := by unfold I64; exact inferInstance
instance (n : Int) : Decidable (U64 n) := by unfold U64; exact inferInstance
theorem w64 (n : Int) : IntKind.wrap .i64 n = (n + 9223372036854775808) % 18446744073709551616 - 9223372036854775808 := IntKind.wrap_i64 n
theorem w64_in {n : Int} (h : I64 n) : IntKind.wrap .i64 n = n := by unfold I64 at h; rw [w64]; omega
theorem w64_I (n : Int) : I64 (IntKind.wrap .i64 n) := by rw [w64]; unfold I64; omega
theorem wu64 (n : Int) : IntKind.wrap .u64 n = n % 18446744073709551616 := by simp [IntKind.wrap, IntKind.bits, IntKind.signed]
theorem wu64_in {n : Int} (h : U64 n) : IntKind.wrap .u64 n = n := by unfold U64 at h; rw [wu64]; omega
theorem wu64_U (n : Int) : U64 (IntKind.wrap .u64 n) := by rw [wu64]; unfold U64; omega
theorem negS (n : Nat) : Int.negSucc n = -((n : Int) + 1) := rfl

/-! ### bits of uint64 -/
theorem p64 : (2 : Nat) ^ 64 = 18446744073709551616 := by decide
theorem ofInt_u64 {x : Int} (h : U64 x) : (BitVec.ofInt 64 x).toNat = x.toNat := by
  unfold U64 at h
  rw [BitVec.toNat_ofInt, p64]
  omega
theorem and_mask {x : Int} (h : U64 x) (n : Nat) (hn : n ≤ 64) : bitsX .and .u64 x (2 ^ n - 1 : Nat) = x % (2 ^ n : Nat) := by
  have h1 := ofInt_u64 h
  have hp : 2 ^ n ≤ 2 ^ 64 := Nat.pow_le_pow_right (by decide) hn
  rw [p64] at hp
  have hpos : 0 < 2 ^ n := Nat.two_pow_pos n
  have hm : U64 (((2 ^ n - 1 : Nat)) : Int) := by unfold U64; omega
  have h2 := ofInt_u64 hm
  show IntKind.wrap .u64 ((BitVec.ofInt 64 x &&& BitVec.ofInt 64 _).toNat : Int) = _
  rw [BitVec.toNat_and, h1, h2, Int.toNat_natCast, Nat.and_two_pow_sub_one_eq_mod]
  unfold U64 at h
  have e : ((x.toNat % 2 ^ n : Nat) : Int) = x % (2 ^ n : Nat) := by rw [Int.natCast_emod, Int.toNat_of_nonneg h.1]
  rw [e]
  refine wu64_in ?_
  unfold U64
  have g1 := Int.emod_nonneg x (b := ((2 ^ n : Nat) : Int)) (by omega)
  have g2 := Int.emod_lt_of_pos x (b := ((2 ^ n : Nat) : Int)) (by omega)
  omega
theorem and_32 {x : Int} (h : U64 x) : bitsX .and .u64 x 4294967295 = x % 4294967296 := and_mask h 32 (by decide)
theorem and_1 {x : Int} (h : U64 x) : bitsX .and .u64 x 1 = x % 2 := and_mask h 1 (by decide)
theorem shr_eq {k : IntKind} {x : Int} (n : Nat) (hn : n ≤ k.bits) : shrX k x (n : Int) = x / (2 ^ n : Nat) := by
  unfold shrX
  rw [Int.toNat_natCast, Nat.min_eq_left hn, Int.fdiv_eq_ediv_of_nonneg _ (by exact_mod_cast Nat.zero_le _)]
  norm_cast
theorem shr_32 (x : Int) : shrX .u64 x 32 = x / 4294967296 := shr_eq (k := .u64) 32 (by decide)
theorem or_add {a b : Int} (n : Nat) (ha : U64 a) (hb : 0 ≤ b) (hd : a % (2 ^ n : Nat) = 0) (hlt : b < (2 ^ n : Nat)) (hs : U64 (a + b)) : bitsX .or .u64 a b = a + b := by
  have hbU : U64 b := by unfold U64 at *; omega
  show IntKind.wrap .u64 ((BitVec.ofInt 64 a ||| BitVec.ofInt 64 b).toNat : Int) = _
  rw [BitVec.toNat_or, ofInt_u64 ha, ofInt_u64 hbU]
  have e : a.toNat ||| b.toNat = a.toNat + b.toNat := by
    have h1 : a.toNat = (a.toNat / 2 ^ n) <<< n := by
      rw [Nat.shiftLeft_eq]
      have : a.toNat % 2 ^ n = 0 := by
        have : ((a.toNat % 2 ^ n : Nat) : Int) = 0 := by rw [Int.natCast_emod, Int.toNat_of_nonneg ha.1]; exact hd
        omega
      have := Nat.div_add_mod a.toNat (2 ^ n)
      rw [Nat.mul_comm] at this; omega
    rw [h1, ← Nat.shiftLeft_add_eq_or_of_lt (by omega)]
  rw [e]
  unfold U64 at *
  have : ((a.toNat + b.toNat : Nat) : Int) = a + b := by omega
  rw [this]
  exact wu64_in (by unfold U64; omega)
end Go.Eng
