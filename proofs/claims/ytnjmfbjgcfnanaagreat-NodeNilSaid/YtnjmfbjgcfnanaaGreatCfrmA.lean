/- The law of layer 3 in plain Lean: the sum over a byte, bit by bit, as the program takes it, is the document's. Conditions: none. -/
import Derived.Test.YtnjmfbjgcfnanaaGreatEngX
import Derived.Test.YtnjmfbjgcfnanaaGreatEngY
import Derived.Test.YtnjmfbjgcfnanaaGreatSh
namespace Go.Proofs.YtnjmfbjgcfnanaaGreat
open Go Go.Eng
set_option linter.unusedVariables false
set_option linter.unusedSimpArgs false

theorem bx_xor {k : IntKind} {n : Nat} (hk : k.bits = n) (hw : ∀ x : Nat, x < 2 ^ n → k.wrap (x : Int) = x) {a b : Nat} (ha : a < 2 ^ n) (hb : b < 2 ^ n) : bitsX .xor k (a : Int) (b : Int) = ((a ^^^ b : Nat) : Int) := by
  subst hk
  unfold bitsX
  simp only [BitVec.ofInt_natCast, BitVec.toNat_xor, BitVec.toNat_ofNat, Nat.mod_eq_of_lt ha, Nat.mod_eq_of_lt hb]
  exact hw _ (Nat.xor_lt_two_pow ha hb)
theorem bx_and {k : IntKind} {n : Nat} (hk : k.bits = n) (hw : ∀ x : Nat, x < 2 ^ n → k.wrap (x : Int) = x) {a b : Nat} (ha : a < 2 ^ n) (hb : b < 2 ^ n) : bitsX .and k (a : Int) (b : Int) = ((a &&& b : Nat) : Int) := by
  subst hk
  unfold bitsX
  simp only [BitVec.ofInt_natCast, BitVec.toNat_and, BitVec.toNat_ofNat, Nat.mod_eq_of_lt ha, Nat.mod_eq_of_lt hb]
  exact hw _ (Nat.and_lt_two_pow _ hb)
theorem bx_xor64 {a b : Nat} (ha : a < 65536) (hb : b < 65536) : bitsX .xor .i64 (a : Int) (b : Int) = ((a ^^^ b : Nat) : Int) := by
  unfold bitsX
  have h1 : a % 2 ^ IntKind.bits .i64 = a := Nat.mod_eq_of_lt (Nat.lt_trans ha (by decide))
  have h2 : b % 2 ^ IntKind.bits .i64 = b := Nat.mod_eq_of_lt (Nat.lt_trans hb (by decide))
  simp only [BitVec.ofInt_natCast, BitVec.toNat_xor, BitVec.toNat_ofNat, h1, h2]
  have : a ^^^ b < 65536 := Nat.xor_lt_two_pow (n := 16) ha hb
  exact w64_in (by unfold I64; omega)
theorem bx_and64 {a : Nat} (ha : a < 65536) : bitsX .and .i64 (a : Int) 1 = ((a % 2 : Nat) : Int) := by
  unfold bitsX
  have h1 : a % 2 ^ IntKind.bits .i64 = a := Nat.mod_eq_of_lt (Nat.lt_trans ha (by decide))
  have h2 : 1 % 2 ^ IntKind.bits .i64 = 1 := by decide
  rw [show (1 : Int) = ((1 : Nat) : Int) from rfl]
  simp only [BitVec.ofInt_natCast, BitVec.toNat_and, BitVec.toNat_ofNat, h1, h2, Nat.and_one_is_mod]
  exact w64_in (by unfold I64; omega)
theorem w16n (x : Nat) (h : x < 2 ^ 16) : IntKind.wrap .u16 (x : Int) = x := by rw [wu16]; omega
theorem xor16 {a b : Nat} (ha : a < 65536) (hb : b < 65536) : bitsX .xor .u16 (a : Int) (b : Int) = ((a ^^^ b : Nat) : Int) := bx_xor (n := 16) rfl w16n ha hb
theorem and16 {a : Nat} (ha : a < 65536) : (bitsX .and .u16 (a : Int) 32768 != 0) = decide (32768 ≤ a) := by
  have h := bx_and (k := .u16) (n := 16) rfl w16n (a := a) (b := 32768) ha (by decide)
  rw [show ((32768 : Int)) = ((32768 : Nat) : Int) from rfl, h]
  have e : a &&& 32768 = if 32768 ≤ a then 32768 else 0 := by
    have tb : a.testBit 15 = decide (32768 ≤ a) := by
      rw [Nat.testBit_eq_decide_div_mod_eq]
      congr 1
      apply propext
      constructor <;> intro h <;> omega
    apply Nat.eq_of_testBit_eq
    intro i
    rw [Nat.testBit_and, show (32768 : Nat) = 2 ^ 15 from rfl, Nat.testBit_two_pow]
    by_cases hi : 15 = i
    · subst hi
      rw [tb]
      by_cases hc : 32768 ≤ a
      · rw [if_pos (by simpa using hc)]; simp [hc]; rfl
      · rw [if_neg (by simpa using hc)]; simp [hc]
    · have hz : Nat.testBit 32768 i = false := by rw [show (32768 : Nat) = 2 ^ 15 from rfl, Nat.testBit_two_pow]; simp [hi]
      split <;> simp [hi, hz]
  rw [e]
  by_cases hc : 32768 ≤ a <;> simp [hc]
theorem shl16 {a : Nat} (ha : a < 65536) : shlX .u16 (a : Int) 1 = ((a * 2 % 65536 : Nat) : Int) := by
  unfold shlX
  rw [wu16]
  simp [IntKind.bits]
theorem xor_dbl (a y : Nat) : (a ^^^ y) * 2 % 65536 = (a * 2 % 65536) ^^^ (y * 2 % 65536) := by
  have h : ∀ n : Nat, n * 2 = n <<< 1 := fun n => by simp [Nat.shiftLeft_eq]
  rw [h, h, h, Nat.shiftLeft_xor_distrib, show (65536 : Nat) = 2 ^ 16 from rfl, Nat.xor_mod_two_pow]
theorem xor_top {a y : Nat} (ha : a < 65536) (hy : y < 65536) : 32768 ≤ (a ^^^ y) ↔ a / 32768 ≠ y / 32768 := by
  have key : ∀ n : Nat, n < 65536 → (n.testBit 15 = true ↔ 32768 ≤ n) := fun n hn => by
    rw [Nat.testBit_eq_decide_div_mod_eq]
    simp only [decide_eq_true_eq]
    omega
  have hx : a ^^^ y < 65536 := Nat.xor_lt_two_pow (n := 16) ha hy
  rw [← key _ hx, Nat.testBit_xor]
  have k1 := key a ha
  have k2 := key y hy
  cases h1 : a.testBit 15 <;> cases h2 : y.testBit 15 <;> simp [h1, h2] at k1 k2 ⊢ <;> omega
/-- a bit of the sum, the program's and the document's -/
def stN1 (s : Nat) : Nat := (s * 2 % 65536) ^^^ (if 32768 ≤ s then 4129 else 0)
def stR1 (s bit : Nat) : Nat := (s * 2 % 65536) ^^^ (if s / 32768 ≠ bit then 4129 else 0)
theorem stN1_lt {s : Nat} : stN1 s < 65536 := Nat.xor_lt_two_pow (n := 16) (by omega) (by split <;> omega)
theorem stR1_lt {s b : Nat} : stR1 s b < 65536 := Nat.xor_lt_two_pow (n := 16) (by omega) (by split <;> omega)
theorem st_one {b y : Nat} (hb : b < 65536) (hy : y < 65536) : stN1 (b ^^^ y) = stR1 b (y / 32768) ^^^ (y * 2 % 65536) := by
  unfold stN1 stR1
  rw [xor_dbl]
  have := xor_top hb hy
  by_cases h : 32768 ≤ (b ^^^ y)
  · rw [if_pos h, if_pos (this.1 h), Nat.xor_assoc, Nat.xor_assoc, Nat.xor_comm (y * 2 % 65536)]
  · rw [if_neg h, if_neg (fun c => h (this.2 c))]; simp
/-- all eight bits of a byte -/
def crcS (s x : Nat) : Nat := stN1 (stN1 (stN1 (stN1 (stN1 (stN1 (stN1 (stN1 (s ^^^ (x * 256)))))))))
def crcR (s x : Nat) : Nat := stR1 (stR1 (stR1 (stR1 (stR1 (stR1 (stR1 (stR1 s (x / 128 % 2)) (x / 64 % 2)) (x / 32 % 2)) (x / 16 % 2)) (x / 8 % 2)) (x / 4 % 2)) (x / 2 % 2)) (x % 2)
theorem crcS_lt {s x : Nat} : crcS s x < 65536 := stN1_lt
theorem crc_same {s x : Nat} (hs : s < 65536) (hx : x < 256) : crcS s x = crcR s x := by
  unfold crcS crcR
  rw [st_one hs (by omega), show x * 256 / 32768 = x / 128 % 2 by omega]
  rw [st_one stR1_lt (by omega), show x * 256 * 2 % 65536 / 32768 = x / 64 % 2 by omega]
  rw [st_one stR1_lt (by omega), show x * 256 * 2 % 65536 * 2 % 65536 / 32768 = x / 32 % 2 by omega]
  rw [st_one stR1_lt (by omega), show x * 256 * 2 % 65536 * 2 % 65536 * 2 % 65536 / 32768 = x / 16 % 2 by omega]
  rw [st_one stR1_lt (by omega), show x * 256 * 2 % 65536 * 2 % 65536 * 2 % 65536 * 2 % 65536 / 32768 = x / 8 % 2 by omega]
  rw [st_one stR1_lt (by omega), show x * 256 * 2 % 65536 * 2 % 65536 * 2 % 65536 * 2 % 65536 * 2 % 65536 / 32768 = x / 4 % 2 by omega]
  rw [st_one stR1_lt (by omega), show x * 256 * 2 % 65536 * 2 % 65536 * 2 % 65536 * 2 % 65536 * 2 % 65536 * 2 % 65536 / 32768 = x / 2 % 2 by omega]
  rw [st_one stR1_lt (by omega), show x * 256 * 2 % 65536 * 2 % 65536 * 2 % 65536 * 2 % 65536 * 2 % 65536 * 2 % 65536 * 2 % 65536 / 32768 = x % 2 by omega]
  rw [show x * 256 * 2 % 65536 * 2 % 65536 * 2 % 65536 * 2 % 65536 * 2 % 65536 * 2 % 65536 * 2 % 65536 * 2 % 65536 = 0 by omega]
  simp
def rIt : Nat → Nat → Nat → Nat
  | 0, s, _ => s
  | j + 1, s, x => stR1 (rIt j s x) (x / 2 ^ (7 - j) % 2)
theorem rIt_lt {s x : Nat} (h : s < 65536) : ∀ j, rIt j s x < 65536
  | 0 => h
  | _ + 1 => stR1_lt
theorem rIt_8 (s x : Nat) : rIt 8 s x = crcR s x := by simp [rIt, crcR]
/-- the sum over bytes -/
def crcL (s : Nat) (xs : List Nat) : Nat := xs.foldl crcS s
theorem crcL_lt : ∀ {s : Nat} (hs : s < 65536) (xs : List Nat), crcL s xs < 65536
  | s, hs, [] => hs
  | s, hs, x :: xs => crcL_lt (s := crcS s x) crcS_lt xs
theorem crcL_app (s : Nat) (xs ys : List Nat) : crcL s (xs ++ ys) = crcL (crcL s xs) ys := by unfold crcL; rw [List.foldl_append]
/-- a number in so many bytes, the highest first -/
def putB (n v : Nat) : List Nat := (List.range n).map fun i => v / 256 ^ (n - 1 - i) % 256
theorem putB_succ (n v : Nat) : putB (n + 1) v = putB n (v / 256) ++ [v % 256] := by
  unfold putB
  rw [List.range_succ, List.map_append]
  congr 1
  · apply List.map_congr_left
    intro i hi
    have := List.mem_range.1 hi
    rw [show n + 1 - 1 - i = (n - 1 - i) + 1 by omega, Nat.pow_succ, Nat.mul_comm, Nat.div_div_eq_div_mul]
  · simp
theorem putB_cons (n v : Nat) : putB (n + 1) v = (v / 256 ^ n % 256) :: putB n v := by
  unfold putB
  rw [List.range_succ_eq_map, List.map_cons, List.map_map]
  congr 1
  · apply List.map_congr_left
    intro i hi
    simp only [Function.comp]
    rw [show n + 1 - 1 - (i + 1) = n - 1 - i by omega]
theorem putB_len (n v : Nat) : (putB n v).length = n := by simp [putB]
theorem putB_lt {n v : Nat} : ∀ x ∈ putB n v, x < 256 := by
  intro x hx
  simp only [putB, List.mem_map] at hx
  obtain ⟨i, _, rfl⟩ := hx
  exact Nat.mod_lt _ (by decide)
/-- bytes, and their sum behind them -/
def sealB (xs : List Nat) : List Nat := xs ++ [crcL 65535 xs / 256, crcL 65535 xs % 256]
/-- a frame's bytes: its kind, its fields, the sum -/
def fldB (fs : List E3) : List Nat := fs.flatMap fun f => putB f.1.toNat (IntKind.wrap .u64 f.2.1).toNat
def frmB (kind : Nat) (fs : List E3) : List Nat := sealB (kind :: fldB fs)
end Go.Proofs.YtnjmfbjgcfnanaaGreat
/- Contracts for layers 3, 4 (crc, octet), the document's 03 and 04: sums and numbers as bytes. Conditions: fewer than a million bytes. -/
namespace Go.Proofs.YtnjmfbjgcfnanaaGreat
open Go Go.Eng
set_option linter.unusedVariables false
set_option linter.unusedSimpArgs false

abbrev u8s (xs : List Nat) : List Value := xs.map fun (x : Nat) => Value.int .u8 (x : Int)
abbrev RowB (w : World) (s : Sl) (xs : List Nat) : Prop := Row w s 1 (u8s xs)
abbrev OwnB (w : World) (base : Nat) (s : Sl) (xs : List Nat) : Prop := OwnR w base T.uint8 1 s xs.length (u8s xs)
def Byt (xs : List Nat) : Prop := ∀ x ∈ xs, x < 256
abbrev RU16 : List (Bool × List CK) := [(false, [.i .u16])]
abbrev RSL : List (Bool × List CK) := [(false, [.sl])]
theorem u8s_one (xs : List Nat) : ∀ u ∈ u8s xs, u.oneCell' = true := by
  intro u hu
  simp only [u8s, List.mem_map] at hu
  obtain ⟨x, _, rfl⟩ := hu; rfl
theorem u8s_get {xs : List Nat} {i x : Nat} (h : xs[i]? = some x) : (u8s xs)[i]? = some (.int .u8 (x : Int)) := by
  rw [List.getElem?_map, h]; rfl
theorem RowB.len' {w : World} {s : Sl} {xs : List Nat} (h : RowB w s xs) : s.2.1 = xs.length := by have := h.clen; simpa using this

def itN : Nat → Nat → Nat
  | 0, s => s
  | n + 1, s => stN1 (itN n s)
theorem itN_lt {s : Nat} (h : s < 65536) : ∀ n, itN n s < 65536
  | 0 => h
  | _ + 1 => stN1_lt
theorem shl8 {x : Nat} (h : x < 256) : shlX .u16 (IntKind.wrap .u16 (x : Int)) 8 = ((x * 256 : Nat) : Int) := by
  unfold shlX
  rw [wu16, wu16]
  simp only [IntKind.bits]
  show (((x : Int) % 65536) * 2 ^ 8) % 65536 = _
  omega
theorem crc_step.cl {s x : Nat} (hs : s < 65536) (hx : x < 256) {w : World} {k : TR RU16 → World → Prop} (h : k ((((crcS s x : Nat) : Int), ()), ()) w) : clS Tryz.prog F.crc_step [.int .u16 (s : Int), .int .u8 (x : Int)] w false RU16 k := by
  refine crc_step.ok ?_
  unfold crc_step.wp
  rw [shK_eq (by decide)]
  have h0 : s ^^^ (x * 256) < 65536 := Nat.xor_lt_two_pow (n := 16) hs (by omega)
  refine LoopT.by (fun z W => W = w ∧ ∃ i : Nat, i ≤ 8 ∧ z = (((itN i (s ^^^ (x * 256)) : Nat) : Int), ((i : Nat) : Int), ())) (fun z => (8 - z.2.1).toNat) ⟨rfl, 0, by omega, ?_⟩ ?_
  · rw [shl8 hx, xor16 hs (by omega)]; rfl
  · rintro z W ⟨rfl, i, hi, rfl⟩ _
    refine brD (fun c => ?_) fun c => ?_
    · have c : (i : Int) < 8 := c
      have hl := itN_lt h0 i
      rw [shK_eq (by decide)]
      simp only []
      rw [and16 hl, shl16 hl]
      have w1 : IntKind.wrap .i64 ((i : Int) + 1) = ((i + 1 : Nat) : Int) := by rw [w64_in (by unfold I64; omega)]; omega
      rw [w1]
      refine brD (fun d => ⟨⟨trivial, i + 1, by omega, ?_⟩, ?_⟩) fun d => ⟨⟨trivial, i + 1, by omega, ?_⟩, ?_⟩
      · have e := xor16 (a := itN i (s ^^^ (x * 256)) * 2 % 65536) (b := 4129) (by omega) (by decide)
        have e : bitsX .xor .u16 ((itN i (s ^^^ (x * 256)) * 2 % 65536 : Nat) : Int) 4129 = _ := e
        rw [e]
        show _ = (((stN1 (itN i (s ^^^ (x * 256))) : Nat) : Int), _)
        unfold stN1; rw [if_pos d]
      · show (8 - ((i + 1 : Nat) : Int)).toNat < (8 - (i : Int)).toNat; omega
      · show _ = (((stN1 (itN i (s ^^^ (x * 256))) : Nat) : Int), _)
        unfold stN1; rw [if_neg d, Nat.xor_zero]
      · show (8 - ((i + 1 : Nat) : Int)).toNat < (8 - (i : Int)).toNat; omega
    · have c : ¬ (i : Int) < 8 := c
      have : i = 8 := by omega
      subst this
      exact h
theorem crc_Goes.cl {s : Nat} {xs : List Nat} (hs : s < 65536) (hx : Byt xs) {b : Sl} {w : World} (hR : RowB w b xs) (hl : xs.length ≤ 1000000) {k : TR RU16 → World → Prop} (h : k ((((crcL s xs : Nat) : Int), ()), ()) w) : clS Tryz.prog F.crc_Goes [.int .u16 (s : Int), .slice b.1 b.2.1 b.2.2] w false RU16 k := by
  refine crc_Goes.ok ?_
  unfold crc_Goes.wp
  have hn := hR.len'
  refine LoopT.by (fun z W => W = w ∧ ∃ i : Nat, i ≤ xs.length ∧ z = (((crcL s (xs.take i) : Nat) : Int), ((i : Nat) : Int), ())) (fun z => ((xs.length : Int) - z.2.1).toNat) ⟨rfl, 0, by omega, rfl⟩ ?_
  rintro z W ⟨rfl, i, hi, rfl⟩ _
  refine brD (fun c => ?_) fun c => ?_
  · have c : (i : Int) < (b.2.1 : Int) := c
    have hi' : i < xs.length := by omega
    refine hR.ixc (z := (i : Int)) rfl (u8s_get (List.getElem?_eq_getElem hi')) (dec_i _ _) (crc_step.cl (crcL_lt hs _) (hx _ (List.getElem_mem hi')) ⟨⟨rfl, i + 1, by omega, ?_⟩, ?_⟩)
    · have e : xs.take (i + 1) = xs.take i ++ [xs[i]] := by simp
      show (_, IntKind.wrap .i64 ((i : Int) + 1), ()) = _
      rw [e, crcL_app, w64_in (by unfold I64; omega)]
      show _ = (((crcL (crcL s (xs.take i)) [xs[i]] : Nat) : Int), ((i : Int) + 1), ())
      rfl
    · show ((xs.length : Int) - IntKind.wrap .i64 ((i : Int) + 1)).toNat < ((xs.length : Int) - (i : Int)).toNat
      rw [w64_in (by unfold I64; omega)]; omega
  · have c : ¬ (i : Int) < (b.2.1 : Int) := c
    have : i = xs.length := by omega
    subst this
    rw [List.take_length] 
    exact h
theorem crc_Sum.cl {xs : List Nat} (hx : Byt xs) {b : Sl} {w : World} (hR : RowB w b xs) (hl : xs.length ≤ 1000000) {k : TR RU16 → World → Prop} (h : k ((((crcL 65535 xs : Nat) : Int), ()), ()) w) : clS Tryz.prog F.crc_Sum [.slice b.1 b.2.1 b.2.2] w false RU16 k := by
  refine crc_Sum.ok ?_
  unfold crc_Sum.wp
  exact crc_Goes.cl (s := 65535) (by decide) hx hR hl h
theorem hi_lo {n : Nat} (h : n < 65536) : IntKind.wrap .u8 (shrX .u16 (n : Int) 8) = ((n / 256 : Nat) : Int) ∧ IntKind.wrap .u8 (n : Int) = ((n % 256 : Nat) : Int) := by
  constructor
  · rw [show shrX .u16 (n : Int) 8 = (n : Int) / 256 from shr_eq (k := .u16) 8 (by decide), IntKind.wrap_u8]; omega
  · rw [IntKind.wrap_u8]; omega
theorem u8s_app (a b : List Nat) : u8s (a ++ b) = u8s a ++ u8s b := List.map_append
set_option maxRecDepth 20000 in
theorem crc_Seal.cl {xs : List Nat} (hx : Byt xs) {b : Sl} {w : World} (hR : RowB w b xs) (hl : xs.length ≤ 900000) {k : TR RSL → World → Prop} (h : ∀ s' w', OwnB w' w.heap.size s' (sealB xs) → Gro w w' → k (((s'.1, s'.2.1, s'.2.2), ()), ()) w') : clS Tryz.prog F.crc_Seal [.slice b.1 b.2.1 b.2.2] w false RSL k := by
  refine crc_Seal.ok ?_
  unfold crc_Seal.wp
  have hn := hR.len'
  refine crc_Sum.cl hx hR (by omega) ?_
  refine slOf_make (t := T.sl_uint8) (e := T.uint8) (size := 1) (bytes := 1) (z := .int .u8 0) (l := 0) (c := xs.length + 2) (by kernel_rfl) (by kernel_rfl) rfl (by decide) rfl (by rw [w64_in (by unfold I64; omega)]; omega) (by omega) (by omega) fun p w4 e4 k4 o4 g4 => ?_
  have hR4 : RowB w4 b xs := hR.gro g4
  refine ap_own (s := (some ⟨p, 0, none⟩, 0, xs.length + 2)) (x := b) (base := w.heap.size) (e := T.uint8) (size := 1) (n := 0) (xs := []) (news := u8s xs) (by kernel_rfl) (by kernel_rfl) (by decide) (OwnR.rebase (by simpa [zrow_one] using o4) (fun a ha => by cases ha; exact Nat.le_of_eq e4)) hR4 (u8s_one xs) (by omega) g4.size fun y w6 o6 u6 _ => ?_
  have g6 : Gro w w6 := Upd.trans g4 u6 fun j hj ⟨a, ha, hb⟩ => by cases ha; simp only [] at hb; omega
  rw [shK_eq (by decide)]
  have hc := crcL_lt (s := 65535) (by decide) xs
  have hh := hi_lo hc
  simp only []
  rw [hh.1, hh.2]
  refine alK_by fun q w8 e8 k8 g8 => ?_
  refine ap_own (s := y) (x := (some ⟨q, 0, none⟩, 2, 2)) (base := w.heap.size) (e := T.uint8) (size := 1) (n := 0 + b.2.1) (xs := [] ++ u8s xs) (news := u8s [crcL 65535 xs / 256, crcL 65535 xs % 256]) (by kernel_rfl) (by kernel_rfl) (by decide) (o6.gro g8) (k8.row rfl) (u8s_one _) (by show 0 + b.2.1 + 2 ≤ 1000000000; omega) (Nat.le_trans g6.size g8.size) fun y2 w10 o10 u10 _ => ?_
  refine h y2 w10 ?_ (Upd.trans (g6.trans g8) u10 fun j hj ⟨a, ha, hb⟩ => ?_)
  · have e : 0 + b.2.1 + 2 = (sealB xs).length := by rw [hn]; simp [sealB]
    have o10 : OwnR w10 w.heap.size T.uint8 1 y2 (0 + b.2.1 + 2) ([] ++ u8s xs ++ u8s [crcL 65535 xs / 256, crcL 65535 xs % 256]) := o10
    rw [e] at o10
    unfold OwnB sealB
    rw [u8s_app]
    exact o10
  · have := (o6.blk ha).1; omega
end Go.Proofs.YtnjmfbjgcfnanaaGreat
