/- The engine, part B: what a call leaves of memory, and small lemmas for reasoning over the shallow texts. Conditions: none. -/
import Derived.Test.YtfbegkddkdenbaaGreatDoorEngF
import Derived.Below
import Derived.Laws.AppendOwn
namespace Go.Eng
open Go
set_option linter.unusedVariables false
set_option linter.unusedSimpArgs false

/-- Behind a call: blocks may have come, and of those that were there only those of S may have turned. -/
structure Upd (S : Nat → Prop) (w w' : World) : Prop where
  os : w'.os = w.os
  tape : w'.tape = w.tape
  output : w'.output = w.output
  size : w.heap.size ≤ w'.heap.size
  block : ∀ k, k < w.heap.size → ¬ S k → w'.heap[k]? = w.heap[k]?
abbrev Gro (w w' : World) : Prop := Upd (fun _ => False) w w'

@[simp] theorem encs_len2 (cs : List CK) (x : Tvs cs) : (encs cs x).length = cs.length := encs_length cs x
theorem Upd.refl (S : Nat → Prop) (w : World) : Upd S w w := ⟨rfl, rfl, rfl, Nat.le_refl _, fun _ _ _ => rfl⟩
theorem Upd.trans {S S' : Nat → Prop} {a b c : World} (h : Upd S a b) (k : Upd S' b c) (hS : ∀ i, i < a.heap.size → S' i → S i) : Upd S a c :=
  ⟨k.os.trans h.os, k.tape.trans h.tape, k.output.trans h.output, Nat.le_trans h.size k.size, fun i hi hn => (k.block i (Nat.lt_of_lt_of_le hi h.size) (fun x => hn (hS i hi x))).trans (h.block i hi hn)⟩
theorem Upd.mono {S S' : Nat → Prop} {a b : World} (h : Upd S a b) (hS : ∀ i, S i → S' i) : Upd S' a b := ⟨h.os, h.tape, h.output, h.size, fun i hi hn => h.block i hi fun x => hn (hS i x)⟩
theorem Upd.gro {S : Nat → Prop} {a b c : World} (h : Upd S a b) (k : Gro b c) : Upd S a c := h.trans k fun _ _ x => x.elim
theorem Upd.drew {S : Nat → Prop} {a b : World} (h : Upd S a b) : Upd S a b.drew := ⟨h.os, h.tape, h.output, h.size, h.block⟩
theorem Upd.alloc {S : Nat → Prop} {a b : World} (h : Upd S a b) (o : Obj) : Upd S a (b.alloc o) :=
  h.gro ⟨rfl, rfl, rfl, by show b.heap.size ≤ (b.heap.push o).size; rw [Array.size_push]; omega, fun k hk _ => by show (b.heap.push o)[k]? = _; rw [Array.getElem?_push, if_neg (by omega)]⟩
theorem Upd.setCell {S : Nat → Prop} {a b : World} (h : Upd S a b) (p : Addr) (v : Value) (hp : p.block < a.heap.size → S p.block) : Upd S a (b.setCell p v) :=
  ⟨h.os, h.tape, h.output, by simpa [World.setCell] using h.size, fun k hk hn => by
    rw [← h.block k hk hn]
    have : p.block ≠ k := fun e => hn (e ▸ hp (e ▸ hk))
    simp only [World.setCell]
    rw [Array.getElem?_modify, if_neg this]⟩
theorem Gro.below {a b : World} (h : Gro a b) : RowKit.Below a.heap.size a b := ⟨h.os, h.tape, h.output, h.size, fun k hk => h.block k hk fun x => x⟩
theorem Gro.refl (a : World) : Gro a a := Upd.refl _ a
theorem Gro.drew (a : World) : Gro a a.drew := (Upd.refl _ a).drew
theorem Gro.trans {a b c : World} (h : Gro a b) (k : Gro b c) : Gro a c := Upd.gro h k

theorem CutT.inl {α : Type} {A : (α → World → Prop) → Prop} {B : α → World → Prop} (h : A B) : CutT A B := ⟨B, h, fun _ _ h => h⟩
theorem CutT.by {α : Type} {A : (α → World → Prop) → Prop} {B : α → World → Prop} (J : α → World → Prop) (h : A J) (hB : ∀ x w, J x w → B x w) : CutT A B := ⟨J, h, hB⟩
theorem LoopT.by {α : Type} {B : (α → World → Prop) → α → World → Prop} {x0 : α} {w0 : World} (I : α → World → Prop) (m : α → Nat) (h0 : I x0 w0) (hr : ∀ x w, I x w → B (fun x' w' => I x' w' ∧ m x' < m x) x w) : LoopT B x0 w0 :=
  ⟨I, fun x _ => m x, h0, hr⟩

theorem nzK_eq {b : Int} {p : Prop} (h : b ≠ 0) : nzK b p = p := by simp [nzK, h]
theorem shK_eq {b : Int} {p : Prop} (h : 0 ≤ b) : shK b p = p := by unfold shK; rw [if_neg (by omega)]
theorem drK_eq (w : World) (k : World → Prop) : drK w k = k w.drew := rfl
theorem alK_eq (cs : List Value) (t : TypeId) (w : World) (k : Addr → World → Prop) : alK cs t w k = k ⟨w.heap.size, 0, none⟩ (w.alloc (.cells cs.toArray t)) := rfl

/-- an int -/
def I64 (n : Int) : Prop := -9223372036854775808 ≤ n ∧ n ≤ 9223372036854775807
def U64 (n : Int) : Prop := 0 ≤ n ∧ n ≤ 18446744073709551615
instance (n : Int) : Decidable (I64 n) := by unfold I64; exact inferInstance
instance (n : Int) : Decidable (U64 n) := by unfold U64; exact inferInstance
theorem w64 (n : Int) : IntKind.wrap .i64 n = (n + 9223372036854775808) % 18446744073709551616 - 9223372036854775808 := IntKind.wrap_i64 n
theorem w64_in {n : Int} (h : I64 n) : IntKind.wrap .i64 n = n := by unfold I64 at h; rw [w64]; omega
theorem w64_I (n : Int) : I64 (IntKind.wrap .i64 n) := by rw [w64]; unfold I64; omega
theorem wu64 (n : Int) : IntKind.wrap .u64 n = n % 18446744073709551616 := by simp [IntKind.wrap, IntKind.bits, IntKind.signed]
theorem wu64_in {n : Int} (h : U64 n) : IntKind.wrap .u64 n = n := by unfold U64 at h; rw [wu64]; omega
theorem wu64_U (n : Int) : U64 (IntKind.wrap .u64 n) := by rw [wu64]; unfold U64; omega
theorem negS (n : Nat) : Int.negSucc n = -((n : Int) + 1) := rfl

/-! ### bits of uint64 -/
theorem p64 : (2 : Nat) ^ 64 = 18446744073709551616 := by decide
theorem ofInt_u64 {x : Int} (h : U64 x) : (BitVec.ofInt 64 x).toNat = x.toNat := by
  unfold U64 at h
  rw [BitVec.toNat_ofInt, p64]
  omega
theorem and_mask {x : Int} (h : U64 x) (n : Nat) (hn : n ≤ 64) : bitsX .and .u64 x (2 ^ n - 1 : Nat) = x % (2 ^ n : Nat) := by
  have h1 := ofInt_u64 h
  have hp : 2 ^ n ≤ 2 ^ 64 := Nat.pow_le_pow_right (by decide) hn
  rw [p64] at hp
  have hpos : 0 < 2 ^ n := Nat.two_pow_pos n
  have hm : U64 (((2 ^ n - 1 : Nat)) : Int) := by unfold U64; omega
  have h2 := ofInt_u64 hm
  show IntKind.wrap .u64 ((BitVec.ofInt 64 x &&& BitVec.ofInt 64 _).toNat : Int) = _
  rw [BitVec.toNat_and, h1, h2, Int.toNat_natCast, Nat.and_two_pow_sub_one_eq_mod]
  unfold U64 at h
  have e : ((x.toNat % 2 ^ n : Nat) : Int) = x % (2 ^ n : Nat) := by rw [Int.natCast_emod, Int.toNat_of_nonneg h.1]
  rw [e]
  refine wu64_in ?_
  unfold U64
  have g1 := Int.emod_nonneg x (b := ((2 ^ n : Nat) : Int)) (by omega)
  have g2 := Int.emod_lt_of_pos x (b := ((2 ^ n : Nat) : Int)) (by omega)
  omega
theorem and_32 {x : Int} (h : U64 x) : bitsX .and .u64 x 4294967295 = x % 4294967296 := and_mask h 32 (by decide)
theorem and_1 {x : Int} (h : U64 x) : bitsX .and .u64 x 1 = x % 2 := and_mask h 1 (by decide)
theorem shr_eq {k : IntKind} {x : Int} (n : Nat) (hn : n ≤ k.bits) : shrX k x (n : Int) = x / (2 ^ n : Nat) := by
  unfold shrX
  rw [Int.toNat_natCast, Nat.min_eq_left hn, Int.fdiv_eq_ediv_of_nonneg _ (by exact_mod_cast Nat.zero_le _)]
  norm_cast
theorem shr_32 (x : Int) : shrX .u64 x 32 = x / 4294967296 := shr_eq (k := .u64) 32 (by decide)
theorem or_add {a b : Int} (n : Nat) (ha : U64 a) (hb : 0 ≤ b) (hd : a % (2 ^ n : Nat) = 0) (hlt : b < (2 ^ n : Nat)) (hs : U64 (a + b)) : bitsX .or .u64 a b = a + b := by
  have hbU : U64 b := by unfold U64 at *; omega
  show IntKind.wrap .u64 ((BitVec.ofInt 64 a ||| BitVec.ofInt 64 b).toNat : Int) = _
  rw [BitVec.toNat_or, ofInt_u64 ha, ofInt_u64 hbU]
  have e : a.toNat ||| b.toNat = a.toNat + b.toNat := by
    have h1 : a.toNat = (a.toNat / 2 ^ n) <<< n := by
      rw [Nat.shiftLeft_eq]
      have : a.toNat % 2 ^ n = 0 := by
        have : ((a.toNat % 2 ^ n : Nat) : Int) = 0 := by rw [Int.natCast_emod, Int.toNat_of_nonneg ha.1]; exact hd
        omega
      have := Nat.div_add_mod a.toNat (2 ^ n)
      rw [Nat.mul_comm] at this; omega
    rw [h1, ← Nat.shiftLeft_add_eq_or_of_lt (by omega)]
  rw [e]
  unfold U64 at *
  have : ((a.toNat + b.toNat : Nat) : Int) = a + b := by omega
  rw [this]
  exact wu64_in (by unfold U64; omega)
end Go.Eng
/- The engine, part M: blocks of cells, read and written. Conditions: blocks are not frozen, addresses have no spot. -/
namespace Go.Eng
open Go
set_option linter.unusedVariables false
set_option linter.unusedSimpArgs false

/-- The block b holds these cells. -/
def Blk (w : World) (b : Nat) (cs : List Value) : Prop := ∃ t, w.heap[b]? = some (.cells cs.toArray t (0, 0))

theorem add_eq (b o n : Nat) : Addr.add ⟨b, o, none⟩ n = ⟨b, o + n, none⟩ := by
  unfold Addr.add; split
  · rename_i h; rw [h]; rfl
  · rfl
theorem Blk.lt {w : World} {b : Nat} {cs : List Value} (h : Blk w b cs) : b < w.heap.size := by
  obtain ⟨t, h⟩ := h
  exact (Array.getElem?_eq_some_iff.1 h).1
theorem Blk.new (w : World) (cs : List Value) (t : TypeId) : Blk (w.alloc (.cells cs.toArray t)) w.heap.size cs := ⟨t, by
  show (w.heap.push _)[w.heap.size]? = _
  rw [Array.getElem?_push, if_pos rfl]⟩
theorem Blk.upd {S : Nat → Prop} {w w' : World} {b : Nat} {cs : List Value} (h : Blk w b cs) (u : Upd S w w') (hS : ¬ S b) : Blk w' b cs := by
  obtain ⟨t, e⟩ := h
  exact ⟨t, by rw [u.block b (Blk.lt ⟨t, e⟩) hS, e]⟩
theorem Blk.gro {w w' : World} {b : Nat} {cs : List Value} (h : Blk w b cs) (u : Gro w w') : Blk w' b cs := h.upd u (fun x => x)
theorem Blk.alloc {w : World} {b : Nat} {cs : List Value} (h : Blk w b cs) (o : Obj) : Blk (w.alloc o) b cs := h.gro ((Gro.refl w).alloc o)
theorem Blk.drew {w : World} {b : Nat} {cs : List Value} (h : Blk w b cs) : Blk w.drew b cs := h
theorem Blk.cell {w : World} {b : Nat} {cs : List Value} (h : Blk w b cs) (i : Nat) : w.cell? ⟨b, i, none⟩ = cs[i]? := by
  obtain ⟨t, e⟩ := h
  simp [World.cell?, e]
theorem Blk.thaw {w : World} {b : Nat} {cs : List Value} (h : Blk w b cs) (i : Nat) : w.frozen? ⟨b, i, none⟩ = false := by
  obtain ⟨t, e⟩ := h
  simp [World.frozen?, e]
theorem Blk.set {w : World} {b : Nat} {cs : List Value} (h : Blk w b cs) (i : Nat) (v : Value) : Blk (w.setCell ⟨b, i, none⟩ v) b (cs.set i v) := by
  obtain ⟨t, e⟩ := h
  refine ⟨t, ?_⟩
  simp [World.setCell, Array.getElem?_modify, e]

theorem ld1_of {c : CK} {p : Addr} {w : World} {k : Tv c → Prop} {v : Value} {x : Tv c} (h : w.cell? p = some v) (hd : dec c v = some x) : ld1 c p w k = k x := by
  unfold ld1; rw [h, Option.bind_some, hd]
theorem dec_enc (c : CK) (x : Tv c) : dec c (enc c x) = some x ∨ True := .inr trivial
theorem dec_i (k : IntKind) (n : Int) : dec (.i k) (.int k n) = some n := by simp [dec, decI]
/-- a read -/
theorem Blk.ld {w : World} {b : Nat} {cs : List Value} (h : Blk w b cs) {c : CK} {i : Nat} {k : Tv c → Prop} {v : Value} {x : Tv c} (hi : cs[i]? = some v) (hd : dec c v = some x) : ld1 c ⟨b, i, none⟩ w k = k x :=
  ld1_of (by rw [h.cell, hi]) hd
theorem ldN_nil (p : Addr) (i : Nat) (w : World) (k : Unit → Prop) : ldN [] p i w k = k () := rfl
theorem Blk.ldc {w : World} {b : Nat} {vs : List Value} (h : Blk w b vs) {c : CK} {cs : List CK} {o i : Nat} {k : Tvs (c :: cs) → Prop} {v : Value} {x : Tv c} (hi : vs[o + i]? = some v) (hd : dec c v = some x) :
    ldN (c :: cs) ⟨b, o, none⟩ i w k = ldN cs ⟨b, o, none⟩ (i + 1) w fun xs => k (x, xs) := by
  rw [ldN, add_eq, h.cell, hi, Option.bind_some, hd]

/-- A list with some of its places turned. -/
def splice (cs : List Value) (n : Nat) : List Value → List Value
  | [] => cs
  | v :: vs => splice (cs.set n v) (n + 1) vs
@[simp] theorem splice_length (n : Nat) (cs : List Value) (vs : List Value) : (splice cs n vs).length = cs.length := by
  induction vs generalizing cs n with
  | nil => rfl
  | cons v vs ih => rw [splice, ih, List.length_set]
/-- a write -/
theorem Blk.st {b : Nat} {o : Nat} {k : World → Prop} : ∀ (vs : List Value) {w : World} {cs : List Value} (h : Blk w b cs) {i : Nat} (hi : o + i + vs.length ≤ cs.length) (hv : vs.all okc = true)
    (hk : ∀ w', Blk w' b (splice cs (o + i) vs) → Upd (fun x => x = b) w w' → k w'), stN vs ⟨b, o, none⟩ i w k
  | [], w, cs, h, i, hi, hv, hk => hk w h (Upd.refl _ _)
  | v :: vs, w, cs, h, i, hi, hv, hk => by
    simp only [List.length_cons] at hi
    simp only [List.all_cons, Bool.and_eq_true] at hv
    rw [stN, if_pos hv.1, add_eq, h.cell, List.getElem?_eq_getElem (by omega)]
    simp only
    rw [h.thaw, if_neg (by decide)]
    refine Blk.st vs (h.set (o + i) v) (by rw [List.length_set]; omega) hv.2 fun w' h1 h2 => hk w' h1 ?_
    exact ((Upd.refl (fun x => x = b) w).setCell _ _ (fun _ => rfl)).trans h2 (fun _ _ x => x)
theorem ixK_eq {a : Addr} {n : Nat} {ix : Int} {k : Addr → Prop} (h : 0 ≤ ix ∧ ix < n) : ixK (some a) n ix k = k a := by
  simp only [ixK]; rw [if_pos h]
theorem ncK_eq (a : Addr) (k : Addr → Prop) : ncK (some a) k = k a := rfl
theorem slK_eq {l h : Int} {n : Nat} {p : Prop} (e : 0 ≤ l ∧ l ≤ h ∧ h ≤ n) : slK l h n p = p := by unfold slK; rw [if_pos e]
theorem Upd.of_gro {S : Nat → Prop} {a b : World} (h : Gro a b) : Upd S a b := h.mono fun _ x => x.elim
theorem Upd.new {S : Nat → Prop} {a b c : World} (h : Upd S a b) {n : Nat} (u : Upd (fun x => x = n) b c) (hn : n < a.heap.size → S n) : Upd S a c :=
  h.trans u fun i hi e => by cases e; exact hn hi
theorem alK_by {cs : List Value} {t : TypeId} {w : World} {k : Addr → World → Prop} (h : ∀ b w', w.heap.size = b → Blk w' b cs → Gro w w' → k ⟨b, 0, none⟩ w') : alK cs t w k :=
  h _ _ rfl (Blk.new w cs t) ((Gro.refl w).alloc _)
/-- a law holds: it answers true, and what was there is as it was -/
def Holds (w : World) : TR [(false, [.b])] → World → Prop := fun r w' => r = ((true, ()), ()) ∧ Gro w w'
theorem holds {w w' : World} {b : Bool} (g : Gro w w') (h : b = true) : Holds w ((b, ()), ()) w' := ⟨by rw [h], g⟩
end Go.Eng
/- The engine, part S: rows of cells behind a slice, read, kept and appended to. Conditions: an appended row is one's own. -/
namespace Go.Eng
open Go
set_option linter.unusedVariables false
set_option linter.unusedSimpArgs false

abbrev Sl := Option Addr × Nat × Nat

theorem add_add (a : Addr) (m n : Nat) : (a.add m).add n = a.add (m + n) := by
  unfold Addr.add
  by_cases h : m = 0
  · subst h; simp
  · by_cases h2 : n = 0
    · subst h2; simp [h]
    · rw [if_neg h, if_neg h2, if_neg (by omega)]; simp; omega
theorem add_zero' (a : Addr) : a.add 0 = a := rfl

/-- The slice s holds these cells. -/
structure Row (w : World) (s : Sl) (size : Nat) (xs : List Value) : Prop where
  len : s.2.1 * size = xs.length
  at_ : xs ≠ [] → ∃ a, s.1 = some a ∧ ∀ k v, xs[k]? = some v → w.cell? (a.add k) = some v

theorem cell_lt {w : World} {p : Addr} {v : Value} (h : w.cell? p = some v) : p.block < w.heap.size := by
  unfold World.cell? at h
  split at h
  · rename_i e; exact (Array.getElem?_eq_some_iff.1 e).1
  · cases h
theorem cell_upd {S : Nat → Prop} {w w' : World} {p : Addr} {v : Value} (h : w.cell? p = some v) (u : Upd S w w') (hS : ¬ S p.block) : w'.cell? p = some v := by
  rw [← h]
  exact World.cell?_of_block (w := w) (u.block _ (cell_lt h) hS)
theorem cell_gro {w w' : World} {p : Addr} {v : Value} (h : w.cell? p = some v) (u : Gro w w') : w'.cell? p = some v := cell_upd h u fun x => x
theorem Row.gro {w w' : World} {s : Sl} {size : Nat} {xs : List Value} (h : Row w s size xs) (u : Gro w w') : Row w' s size xs :=
  ⟨h.len, fun hx => by obtain ⟨a, e, ha⟩ := h.at_ hx; exact ⟨a, e, fun k v hk => cell_gro (ha k v hk) u⟩⟩
theorem add_block (a : Addr) (k : Nat) : (a.add k).block = a.block := by unfold Addr.add; split <;> rfl
/-- kept by what turns blocks that were not there when the row was read -/
theorem Row.upd {w w' : World} {s : Sl} {size : Nat} {xs : List Value} {S : Nat → Prop} (h : Row w s size xs) (u : Upd S w w') (hS : ∀ a, s.1 = some a → ¬ S a.block) : Row w' s size xs :=
  ⟨h.len, fun hx => by obtain ⟨a, e, ha⟩ := h.at_ hx; exact ⟨a, e, fun k v hk => cell_upd (ha k v hk) u (by rw [add_block]; exact hS a e)⟩⟩

theorem Row.ld {w : World} {s : Sl} {size : Nat} {xs : List Value} (h : Row w s size xs) {a : Addr} (ha : s.1 = some a) {k : Nat} {v : Value} (hk : xs[k]? = some v) : w.cell? (a.add k) = some v := by
  obtain ⟨b, e, hb⟩ := h.at_ (by intro e; rw [e] at hk; cases hk)
  rw [ha] at e; cases e
  exact hb k v hk
theorem Row.addr {w : World} {s : Sl} {size : Nat} {xs : List Value} (h : Row w s size xs) (hx : 0 < xs.length) : ∃ a, s.1 = some a := by
  obtain ⟨b, e, _⟩ := h.at_ (by intro e; rw [e] at hx; cases hx)
  exact ⟨b, e⟩

theorem ld1_cell {w : World} {c : CK} {p : Addr} {k : Tv c → Prop} {v : Value} {x : Tv c} (h : w.cell? p = some v) (hd : dec c v = some x) (hk : k x) : ld1 c p w k := by rw [ld1_of h hd]; exact hk

/-! ### rows of three ints -/
abbrev E3 := Int × Int × Int
def flat3 : List E3 → List Value
  | [] => []
  | e :: es => .int .i64 e.1 :: .int .i64 e.2.1 :: .int .i64 e.2.2 :: flat3 es
theorem flat3_length (es : List E3) : (flat3 es).length = es.length * 3 := by
  induction es with
  | nil => rfl
  | cons e es ih => simp only [flat3, List.length_cons, ih]; omega
theorem flat3_append (a b : List E3) : flat3 (a ++ b) = flat3 a ++ flat3 b := by
  induction a with
  | nil => rfl
  | cons e es ih => simp [flat3, ih]
theorem flat3_get {es : List E3} {i : Nat} {e : E3} (h : es[i]? = some e) : (flat3 es)[i * 3]? = some (.int .i64 e.1) ∧ (flat3 es)[i * 3 + 1]? = some (.int .i64 e.2.1) ∧ (flat3 es)[i * 3 + 2]? = some (.int .i64 e.2.2) := by
  induction es generalizing i with
  | nil => cases h
  | cons x es ih =>
    cases i with
    | zero => simp at h; subst h; exact ⟨rfl, rfl, rfl⟩
    | succ i =>
      simp at h
      have := ih h
      rw [show (i + 1) * 3 = i * 3 + 3 by omega]
      simpa [flat3] using this
/-- The slice holds these entries. -/
def Ents (w : World) (s : Sl) (es : List E3) : Prop := Row w s 3 (flat3 es)
theorem Ents.len {w : World} {s : Sl} {es : List E3} (h : Ents w s es) : s.2.1 = es.length := by
  have h1 := Row.len h
  rw [flat3_length] at h1
  omega
theorem Ents.gro {w w' : World} {s : Sl} {es : List E3} (h : Ents w s es) (u : Gro w w') : Ents w' s es := Row.gro h u
theorem Ents.addr {w : World} {s : Sl} {es : List E3} (h : Ents w s es) {i : Nat} {e : E3} (hi : es[i]? = some e) : ∃ a, s.1 = some a := by
  refine Row.addr h ?_
  have := (List.getElem?_eq_some_iff.1 hi).1
  rw [flat3_length]; omega
theorem Ents.cell {w : World} {s : Sl} {es : List E3} (h : Ents w s es) {a : Addr} (ha : s.1 = some a) {i : Nat} {e : E3} (hi : es[i]? = some e) :
    w.cell? (a.add (i * 3)) = some (.int .i64 e.1) ∧ w.cell? (a.add (i * 3 + 1)) = some (.int .i64 e.2.1) ∧ w.cell? (a.add (i * 3 + 2)) = some (.int .i64 e.2.2) := by
  obtain ⟨g0, g1, g2⟩ := flat3_get hi
  exact ⟨Row.ld h ha g0, Row.ld h ha g1, Row.ld h ha g2⟩
/-- xs[i], an entry -/
theorem Ents.ix {w : World} {s : Sl} {es : List E3} (h : Ents w s es) {z : Int} {i : Nat} {e : E3} (hz : z = i) (hi : es[i]? = some e) {k : Addr → Prop} (hk : ∀ a, s.1 = some a → k a) : ixK s.1 s.2.1 z k := by
  subst hz
  obtain ⟨a, ha⟩ := h.addr hi
  have := (List.getElem?_eq_some_iff.1 hi).1
  have hl := h.len
  rw [ha, ixK_eq (by omega)]
  exact hk a ha
theorem Ents.ldN {w : World} {s : Sl} {es : List E3} (h : Ents w s es) {a : Addr} (ha : s.1 = some a) {i : Nat} {e : E3} (hi : es[i]? = some e) {k : Tvs [.i .i64, .i .i64, .i .i64] → Prop} (hk : k (e.1, e.2.1, e.2.2, ())) :
    ldN [.i .i64, .i .i64, .i .i64] (a.add (((i : Int)).toNat * 3)) 0 w k := by
  obtain ⟨g0, g1, g2⟩ := h.cell ha hi
  simp only [Eng.ldN, add_add, Int.toNat_natCast]
  rw [Nat.add_zero, g0, g1, g2]
  simp only [Option.bind_some, dec_i]
  exact hk

/-! ### append -/
theorem slOf_append {P : Program} {w0 w : World} {t ty e : TypeId} {i : TypeInfo} {z : Value} {size bytes n m c : Nat} {s : Sl} {p : Addr} {xs news : List Value} {k : (Option Addr × Nat × Nat) → World → Prop}
    (ht : P.underlying t = some (.slice e)) (hi : P.info? e = some i) (hz : i.zero = some z)
    (hsize : i.size = size) (hby : i.bytes = bytes) (hzs : z.cells.size = size) (hsz : 0 < size)
    (hg : Gro w0 w) (hown : w.ownsRow w0.heap.size e size (.slice s.1 s.2.1 s.2.2) n xs)
    (hl : news.length = m * size) (hnews : ∀ j u, news[j]? = some u → w.cell? (p.add j) = some u) (h1 : ∀ u ∈ news, u.oneCell' = true)
    (hb : n + m ≤ 1000000000) (hby2 : bytes ≤ 10000)
    (hk : ∀ (s' : Sl) w', w'.ownsRow w0.heap.size e size (.slice s'.1 s'.2.1 s'.2.2) (n + m) (xs ++ news) → Gro w0 w' → Upd (fun b => w0.heap.size ≤ b) w w' → k s' w') :
    slOf ((Builtin.append_ #[t, t] ty #[.slice s.1 s.2.1 s.2.2, .slice (some p) m c]).run P w) k := by
  obtain ⟨v', w', hr, hown', hgr, _⟩ := run_append_own w w0.heap.size t ty e i z size bytes ht hi hz hsize hby hzs hsz _ n xs hown p m c news hl hnews h1 (by unfold maxLen; omega)
    (by have := Nat.mul_le_mul hb hby2; omega) hg.size
  have hv : ∃ s' : Sl, v' = .slice s'.1 s'.2.1 s'.2.2 := by
    rcases hown'.2 with ⟨h0, _⟩ | ⟨g', cap', cur, hv, _⟩
    · exact ⟨(none, 0, 0), h0⟩
    · exact ⟨(_, _, _), hv⟩
  obtain ⟨s', rfl⟩ := hv
  have hu : Upd (fun b => w0.heap.size ≤ b) w w' := by
    refine ⟨hgr.os, hgr.tape, hgr.output, hgr.size, fun b hb hn => hgr.block b hb fun e => hn ?_⟩
    rcases hown.2 with ⟨h0, _⟩ | ⟨g', cap', cur, hv, hbg, _⟩
    · rw [h0] at e; cases e
    · rw [hv] at e
      simp only [Value.ownBlock, Option.some.injEq] at e
      show _ ≤ b
      rw [e]; exact hbg
  rw [hr]
  exact hk s' w' hown' (Upd.trans hg hu fun i hi h => absurd h (by omega)) hu
def infoOk (P : Program) (e : TypeId) (size : Nat) : Bool :=
  match P.info? e with
  | some i => i.size == size && decide (i.bytes ≤ 10000) && (match i.zero with | some z => z.cells.size == size | none => false)
  | none => false
/-- one more element, appended to a row of one's own -/
theorem slOf_snoc {P : Program} {w0 w : World} {t ty e : TypeId} {size n c : Nat} {s : Sl} {p : Addr} {xs news : List Value} {k : (Option Addr × Nat × Nat) → World → Prop}
    (ht : P.underlying t = some (.slice e)) (hi : infoOk P e size = true) (hsz : 0 < size)
    (hg : Gro w0 w) (hown : w.ownsRow w0.heap.size e size (.slice s.1 s.2.1 s.2.2) n xs)
    (hl : news.length = size) (hnews : ∀ j u, news[j]? = some u → w.cell? (p.add j) = some u) (h1 : ∀ u ∈ news, u.oneCell' = true)
    (hb : n + 1 ≤ 1000000000)
    (hk : ∀ (s' : Sl) w', w'.ownsRow w0.heap.size e size (.slice s'.1 s'.2.1 s'.2.2) (n + 1) (xs ++ news) → Gro w0 w' → Upd (fun b => w0.heap.size ≤ b) w w' → k s' w') :
    slOf ((Builtin.append_ #[t, t] ty #[.slice s.1 s.2.1 s.2.2, .slice (some p) 1 c]).run P w) k := by
  unfold infoOk at hi
  split at hi
  · rename_i i hi'
    simp only [Bool.and_eq_true, beq_iff_eq, decide_eq_true_eq] at hi
    obtain ⟨⟨i1, i2⟩, i3⟩ := hi
    split at i3
    · rename_i z hz
      exact slOf_append ht hi' hz i1 rfl (beq_iff_eq.1 i3) hsz hg hown (by rw [hl, Nat.one_mul]) hnews h1 hb i2 hk
    · cases i3
  · cases hi
theorem own_nil (w : World) (base : Nat) (e : TypeId) (size : Nat) : w.ownsRow base e size (.slice none 0 0) 0 [] := ⟨by simp, .inl ⟨rfl, rfl⟩⟩
theorem own_gro {w w' : World} {base size n : Nat} {e : TypeId} {v : Value} {xs : List Value} (h : w.ownsRow base e size v n xs) (u : Gro w w') : w'.ownsRow base e size v n xs := by
  refine ⟨h.1, ?_⟩
  rcases h.2 with ⟨h0, h1⟩ | ⟨g', cap', cur, hv, hbg, hg, rest⟩
  · exact .inl ⟨h0, h1⟩
  · exact .inr ⟨g', cap', cur, hv, hbg, by rw [u.block g' (Array.getElem?_eq_some_iff.1 hg).1 fun x => x]; exact hg, rest⟩
theorem Blk.news {w : World} {b : Nat} {cs : List Value} (h : Blk w b cs) : ∀ j u, cs[j]? = some u → w.cell? (Addr.add ⟨b, 0, none⟩ j) = some u := fun j u hj => by rw [add_eq, Nat.zero_add, h.cell, hj]
theorem own_row {w : World} {base size n : Nat} {e : TypeId} {s : Sl} {xs : List Value} (h : w.ownsRow base e size (.slice s.1 s.2.1 s.2.2) n xs) : Row w s size xs := by
  obtain ⟨s1, s2, s3⟩ := s
  rcases h.2 with ⟨h0, h1⟩ | ⟨g', cap', cur, hv, hbg, hg, hn, hm, hc, ht⟩
  · simp only [Value.slice.injEq] at h0
    obtain ⟨rfl, rfl, rfl⟩ := h0
    have := h.1
    subst h1
    exact ⟨by rw [this], fun hx => absurd (List.eq_nil_of_length_eq_zero (by rw [this]; simp)) hx⟩
  · simp only [Value.slice.injEq] at hv
    obtain ⟨rfl, rfl, rfl⟩ := hv
    refine ⟨h.1.symm, fun _ => ⟨_, rfl, fun k v hk => ?_⟩⟩
    rw [add_eq, Nat.zero_add]
    simp only [World.cell?, hg]
    have hk' : k < xs.length := (List.getElem?_eq_some_iff.1 hk).1
    rw [← ht, List.getElem?_take_of_lt (by rw [h.1] at hk'; exact hk')] at hk
    simpa using hk
end Go.Eng
/- The engine, part T: whole structs of ints, read and written. Conditions: none. -/
namespace Go.Eng
open Go
set_option linter.unusedVariables false
set_option linter.unusedSimpArgs false

theorem splice_over (pre : List Value) : ∀ (cs vs : List Value), cs.length = vs.length → splice (pre ++ cs) pre.length vs = pre ++ vs
  | [], [], _ => rfl
  | c :: cs, v :: vs, h => by
    have := splice_over (pre ++ [v]) cs vs (by simpa using h)
    rw [splice, List.set_append_right _ _ (Nat.le_refl _), Nat.sub_self, List.set_cons_zero]
    simpa using this
/-- a write of the whole block -/
theorem Blk.sta {b : Nat} {k : World → Prop} (vs : List Value) {w : World} {cs : List Value} (h : Blk w b cs) (hl : cs.length = vs.length) (hv : vs.all okc = true)
    (hk : ∀ w', Blk w' b vs → Upd (fun x => x = b) w w' → k w') : stN vs ⟨b, 0, none⟩ 0 w k :=
  h.st vs (by omega) hv fun w' h1 h2 => hk w' (by have := splice_over [] cs vs hl; simp only [List.nil_append, List.length_nil] at this; rw [← this]; exact h1) h2
theorem Blk.ld2 {w : World} {b : Nat} {x y : Int} (h : Blk w b [.int .i64 x, .int .i64 y]) {k : Tvs [.i .i64, .i .i64] → Prop} (hk : k (x, y, ())) : ldN [.i .i64, .i .i64] ⟨b, 0, none⟩ 0 w k := by
  rw [h.ldc (c := .i .i64) (o := 0) (i := 0) (v := .int .i64 x) (x := x) rfl (dec_i _ _), h.ldc (c := .i .i64) (o := 0) (i := 1) (v := .int .i64 y) (x := y) rfl (dec_i _ _), ldN_nil]; exact hk
theorem Blk.ld3 {w : World} {b : Nat} {x y z : Int} (h : Blk w b [.int .i64 x, .int .i64 y, .int .i64 z]) {k : Tvs [.i .i64, .i .i64, .i .i64] → Prop} (hk : k (x, y, z, ())) : ldN [.i .i64, .i .i64, .i .i64] ⟨b, 0, none⟩ 0 w k := by
  rw [h.ldc (c := .i .i64) (o := 0) (i := 0) (v := .int .i64 x) (x := x) rfl (dec_i _ _), h.ldc (c := .i .i64) (o := 0) (i := 1) (v := .int .i64 y) (x := y) rfl (dec_i _ _), h.ldc (c := .i .i64) (o := 0) (i := 2) (v := .int .i64 z) (x := z) rfl (dec_i _ _), ldN_nil]; exact hk
theorem Blk.ld5 {w : World} {b : Nat} {x y z u v : Int} (h : Blk w b [.int .i64 x, .int .i64 y, .int .i64 z, .int .i64 u, .int .i64 v]) {k : Tvs [.i .i64, .i .i64, .i .i64, .i .i64, .i .i64] → Prop} (hk : k (x, y, z, u, v, ())) : ldN [.i .i64, .i .i64, .i .i64, .i .i64, .i .i64] ⟨b, 0, none⟩ 0 w k := by
  rw [h.ldc (c := .i .i64) (o := 0) (i := 0) (v := .int .i64 x) (x := x) rfl (dec_i _ _), h.ldc (c := .i .i64) (o := 0) (i := 1) (v := .int .i64 y) (x := y) rfl (dec_i _ _), h.ldc (c := .i .i64) (o := 0) (i := 2) (v := .int .i64 z) (x := z) rfl (dec_i _ _),
    h.ldc (c := .i .i64) (o := 0) (i := 3) (v := .int .i64 u) (x := u) rfl (dec_i _ _), h.ldc (c := .i .i64) (o := 0) (i := 4) (v := .int .i64 v) (x := v) rfl (dec_i _ _), ldN_nil]; exact hk
/-- one int of a block -/
theorem Blk.i1 {w : World} {b : Nat} {cs : List Value} (h : Blk w b cs) (o : Nat) {x : Int} (e : cs[o]? = some (.int .i64 x)) {k : Int → Prop} (hk : k x) : ld1 (.i .i64) (Addr.add ⟨b, 0, none⟩ o) w k := by
  rw [add_eq, Nat.zero_add, h.ld (c := .i .i64) e (dec_i _ _)]; exact hk
theorem Blk.i0 {w : World} {b : Nat} {cs : List Value} (h : Blk w b cs) {x : Int} (e : cs[0]? = some (.int .i64 x)) {k : Int → Prop} (hk : k x) : ld1 (.i .i64) ⟨b, 0, none⟩ w k := by
  rw [h.ld (c := .i .i64) e (dec_i _ _)]; exact hk
/-- one int written -/
theorem Blk.s1 {w : World} {b : Nat} {cs : List Value} (h : Blk w b cs) (o : Nat) {x : Int} (ho : o < cs.length) {k : World → Prop}
    (hk : ∀ w', Blk w' b (cs.set o (.int .i64 x)) → Upd (fun x => x = b) w w' → k w') : stN [.int .i64 x] (Addr.add ⟨b, 0, none⟩ o) 0 w k := by
  rw [add_eq, Nat.zero_add]
  exact h.st _ (by simp; omega) rfl fun w' h1 h2 => hk w' h1 h2
theorem Blk.s0 {w : World} {b : Nat} {cs : List Value} (h : Blk w b cs) {x : Int} (ho : 0 < cs.length) {k : World → Prop}
    (hk : ∀ w', Blk w' b (cs.set 0 (.int .i64 x)) → Upd (fun x => x = b) w w' → k w') : stN [.int .i64 x] ⟨b, 0, none⟩ 0 w k := h.st _ (by simp; omega) rfl fun w' h1 h2 => hk w' h1 h2
/-- the fields of an entry behind a slice -/
theorem Ents.f0 {w : World} {s : Sl} {es : List E3} (h : Ents w s es) {a : Addr} (ha : s.1 = some a) {z : Int} {i : Nat} {e : E3} (hz : z = i) (hi : es[i]? = some e) {k : Int → Prop} (hk : k e.1) : ld1 (.i .i64) (a.add (z.toNat * 3)) w k := by
  subst hz; rw [Int.toNat_natCast]; exact ld1_cell (h.cell ha hi).1 (dec_i _ _) hk
theorem Ents.f1 {w : World} {s : Sl} {es : List E3} (h : Ents w s es) {a : Addr} (ha : s.1 = some a) {z : Int} {i : Nat} {e : E3} (hz : z = i) (hi : es[i]? = some e) {k : Int → Prop} (hk : k e.2.1) : ld1 (.i .i64) ((a.add (z.toNat * 3)).add 1) w k := by
  subst hz; rw [Int.toNat_natCast, add_add]; exact ld1_cell (h.cell ha hi).2.1 (dec_i _ _) hk
theorem Ents.f2 {w : World} {s : Sl} {es : List E3} (h : Ents w s es) {a : Addr} (ha : s.1 = some a) {z : Int} {i : Nat} {e : E3} (hz : z = i) (hi : es[i]? = some e) {k : Int → Prop} (hk : k e.2.2) : ld1 (.i .i64) ((a.add (z.toNat * 3)).add 2) w k := by
  subst hz; rw [Int.toNat_natCast, add_add]; exact ld1_cell (h.cell ha hi).2.2 (dec_i _ _) hk
theorem Ents.drew {w : World} {s : Sl} {es : List E3} (h : Ents w s es) : Ents w.drew s es := h.gro (Gro.drew w)
theorem brT {c : Bool} {A B : Prop} (h : c = true) (k : A) : brB c A B := by subst h; exact k
theorem brF {c : Bool} {A B : Prop} (h : c = false) (k : B) : brB c A B := by subst h; exact k
theorem brD {p : Prop} [Decidable p] {A B : Prop} (h1 : p → A) (h2 : ¬ p → B) : brB (decide p) A B := by
  by_cases h : p
  · rw [decide_eq_true h]; exact h1 h
  · rw [decide_eq_false h]; exact h2 h
theorem brE {x y : Int} {A B : Prop} (h1 : x = y → A) (h2 : x ≠ y → B) : brB (x == y) A B := by
  by_cases h : x = y
  · subst h; rw [beq_self_eq_true]; exact h1 rfl
  · rw [beq_eq_false_iff_ne.2 h]; exact h2 h
theorem brN {x y : Int} {A B : Prop} (h1 : x ≠ y → A) (h2 : x = y → B) : brB (x != y) A B := by
  by_cases h : x = y
  · subst h; rw [bne_self_eq_false]; exact h2 rfl
  · rw [bne_iff_ne.2 h]; exact h1 h
theorem brC {c : Bool} {A B : Prop} (h1 : c = true → A) (h2 : c = false → B) : brB c A B := by cases c; exact h2 rfl; exact h1 rfl
theorem brNot {c : Bool} {A B : Prop} (h1 : c = false → A) (h2 : c = true → B) : brB (!c) A B := by cases c; exact h1 rfl; exact h2 rfl
end Go.Eng
