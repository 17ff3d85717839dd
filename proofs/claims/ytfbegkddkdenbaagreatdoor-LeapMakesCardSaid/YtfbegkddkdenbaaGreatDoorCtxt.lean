/- Contracts of texts of dates and seconds: the program's (civil, utc) and the document's (ref20, ref22). Conditions: none. -/
import Derived.Test.YtfbegkddkdenbaaGreatDoorCleap2
import Derived.Laws.BytesString
import Derived.Laws.IdiomStrings
namespace Go.Proofs.YtfbegkddkdenbaaGreatDoor
open Go.Eng Go
set_option linter.unusedVariables false
set_option linter.unusedSimpArgs false

abbrev RS1 : List (Bool × List CK) := [(false, [.s])]
def bv (c : UInt8) : Value := .int .u8 (c.toNat : Int)
theorem bsK_by {P : Program} {w : World} {a : Addr} {n c : Nat} {l : List UInt8} (hn : l.length = n) (h : ∀ i c, l[i]? = some c → w.cell? (a.add i) = some (bv c)) {k : ByteArray → World → Prop} (hk : k (ofL l) w) :
    bsK P (.slice (some a) n c) w k := by
  have hl := run_loadCells_list (P := P) (w := w) a ((l.map (fun b => (b.toNat : Int))).map (Value.int .u8)) (fun j v hj => by
    rw [List.getElem?_map, List.getElem?_map] at hj
    cases hc : l[j]? with
    | none => rw [hc] at hj; cases hj
    | some c => rw [hc] at hj; simp at hj; rw [h j c hc, ← hj]; rfl)
  simp only [List.length_map] at hl
  subst hn
  unfold bsK
  rw [run_bytesToString w a l.length c _ hl, foldl_push_byteCells]
  have e : (⟨ByteArray.empty.data ++ l.toArray⟩ : ByteArray) = ofL l := by simp [ofL]
  rw [e]; exact hk
theorem bsK_blk {P : Program} {w : World} {b : Nat} {l : List UInt8} {n c : Nat} (hB : Blk w b (l.map bv)) (hn : l.length = n) {k : ByteArray → World → Prop} (hk : k (ofL l) w) : bsK P (.slice (some ⟨b, 0, none⟩) n c) w k :=
  bsK_by hn (fun i c hc => by rw [add_eq, Nat.zero_add, hB.cell, List.getElem?_map, hc]; rfl) hk
theorem saK_by {a b : ByteArray} {p : Prop} (h : a.size + b.size ≤ 1000000000000) (hp : p) : saK a b p := by
  exact ⟨by have : IntKind.i64.max = 9223372036854775807 := rfl; rw [this]; omega, hp⟩
/-- one list after another -/
theorem saK_ofL {a b : List UInt8} {p : Prop} (h : a.length + b.length ≤ 1000000000000) (hp : p) : saK (ofL a) (ofL b) p := saK_by (by rw [ofL_size, ofL_size]; exact h) hp
theorem wu8 (n : Int) : IntKind.wrap .u8 n = n % 256 := by simp [IntKind.wrap, IntKind.bits, IntKind.signed]
theorem dgc_cell {n : Nat} (hn : n ≤ 1000000000) : (Value.int .u8 (IntKind.wrap .u8 (IntKind.wrap .i64 (48 + Int.tmod (n : Int) 10)))) = bv (dgc n) := by
  unfold bv
  rw [tmod4 (by omega), w64_in (by unfold I64; omega), wu8, dgc_val]
  congr 1; omega

/-! ### digits -/
theorem ms4 (w : World) (k : Sl → World → Prop) : slOf ((Instr.makeSlice T.sl_uint8 (.int .i64 4) (.int .i64 4)).run Tryz.prog w) k = k (some ⟨w.heap.size, 0, none⟩, 4, 4) (w.alloc (.cells #[.int .u8 0, .int .u8 0, .int .u8 0, .int .u8 0] T.uint8)) := by kernel_rfl
theorem ms2 (w : World) (k : Sl → World → Prop) : slOf ((Instr.makeSlice T.sl_uint8 (.int .i64 2) (.int .i64 2)).run Tryz.prog w) k = k (some ⟨w.heap.size, 0, none⟩, 2, 2) (w.alloc (.cells #[.int .u8 0, .int .u8 0] T.uint8)) := by kernel_rfl

set_option maxRecDepth 20000 in
theorem civil_digits.core {n sz : Nat} (hn : n ≤ 1000000) (hz : sz ≤ 20) {w : World} {k : TR RS1 → World → Prop}
    (hms : ∀ k' : Sl → World → Prop, slOf ((Instr.makeSlice T.sl_uint8 (.int .i64 (sz : Int)) (.int .i64 (sz : Int))).run Tryz.prog w) k' = k' (some ⟨w.heap.size, 0, none⟩, sz, sz) (w.alloc (.cells (List.replicate sz (Value.int .u8 0)).toArray T.uint8)))
    (h : ∀ w', Gro w w' → k ((ofL (dig n sz), ()), ()) w') : clS Tryz.prog F.civil_digits [.int .i64 (n : Int), .int .i64 (sz : Int)] w false RS1 k := by
  refine civil_digits.ok ?_
  unfold civil_digits.wp
  rw [hms]
  have hB := Blk.new w (List.replicate sz (Value.int .u8 0)) T.uint8
  have hG : Gro w (w.alloc (.cells (List.replicate sz (Value.int .u8 0)).toArray T.uint8)) := (Gro.refl w).alloc _
  generalize hw : w.alloc (.cells (List.replicate sz (Value.int .u8 0)).toArray T.uint8) = w2 at hB hG
  rw [w64_in (n := (sz : Int) - 1) (by unfold I64; omega)]
  refine LoopT.by (fun z W => ∃ (i n' : Nat) (t : List UInt8), i ≤ sz ∧ z.1 = n' ∧ n' ≤ 1000000 ∧ z.2.1 = (i : Int) - 1 ∧ dig n sz = dig n' i ++ t ∧ Blk W w.heap.size (List.replicate i (Value.int .u8 0) ++ t.map bv) ∧ Gro w W)
    (fun z => (z.2.1 + 1).toNat) ⟨sz, n, [], Nat.le_refl _, rfl, hn, rfl, by simp, by simpa using hB, hG⟩ ?_
  rintro ⟨z1, z2, _⟩ W ⟨i, n', t, hi, e1, hn', e2, hd, hB, hG⟩ _
  dsimp only at e1 e2
  subst e1 e2
  have ht : t.length = sz - i := by have := congrArg List.length hd; rw [List.length_append, dig_length, dig_length] at this; omega
  refine brD (fun c => ?_) fun c => ?_
  · have c : (i : Int) - 1 ≥ 0 := c
    obtain ⟨j, rfl⟩ : ∃ j, i = j + 1 := ⟨i - 1, by omega⟩
    rw [nzK_eq (by decide)]
    show ixK (some ⟨w.heap.size, 0, none⟩) sz (((j + 1 : Nat) : Int) - 1) _
    rw [ixK_eq (by omega)]
    rw [dgc_cell (by omega)]
    have ej : (((j + 1 : Nat) : Int) - 1).toNat * 1 = j := by omega
    show stN _ (Addr.add ⟨w.heap.size, 0, none⟩ ((((j + 1 : Nat) : Int) - 1).toNat * 1)) 0 W _
    rw [ej]
    refine hB.sN j [bv (dgc n')] (by simp only [List.length_append, List.length_replicate, List.length_cons, List.length_nil]; omega) rfl fun w7 k7 u7 => ?_
    rw [nzK_eq (by decide), tdiv4 (by show (0 : Int) ≤ (n' : Int); omega)]
    have es : splice (List.replicate (j + 1) (Value.int .u8 0) ++ t.map bv) j [bv (dgc n')] = List.replicate j (Value.int .u8 0) ++ (dgc n' :: t).map bv := by
      simp only [splice]
      rw [List.set_append_left _ _ (by simp), show List.replicate (j + 1) (Value.int .u8 0) = List.replicate j (Value.int .u8 0) ++ [Value.int .u8 0] from List.replicate_succ', List.set_append_right _ _ (by simp)]
      simp
    rw [es] at k7
    have ed : IntKind.wrap .i64 ((n' : Int) / 10) = ((n' / 10 : Nat) : Int) := by rw [w64_in (by unfold I64; omega)]; omega
    have ei : IntKind.wrap .i64 (((j + 1 : Nat) : Int) - 1 - 1) = (j : Int) - 1 := by rw [w64_in (by unfold I64; omega)]; omega
    refine ⟨⟨j, n' / 10, dgc n' :: t, by omega, ed, by omega, ei, by rw [hd, dig]; simp, k7, Upd.trans hG u7 fun i hi h => by omega⟩, ?_⟩
    show (IntKind.wrap .i64 (((j + 1 : Nat) : Int) - 1 - 1) + 1).toNat < (((j + 1 : Nat) : Int) - 1 + 1).toNat
    rw [ei]; omega
  · have c : ¬ (i : Int) - 1 ≥ 0 := c
    have : i = 0 := by omega
    subst this
    have hd : dig n sz = t := hd
    subst hd
    exact bsK_blk (by simpa using hB) (dig_length _ _) (h W hG)
theorem civil_digits.c4 {x : Int} (h0 : 0 ≤ x) (h1 : x ≤ 1000000) {w : World} {k : TR RS1 → World → Prop} (h : ∀ w', Gro w w' → k ((ofL (dig x.toNat 4), ()), ()) w') : clS Tryz.prog F.civil_digits [.int .i64 x, .int .i64 4] w false RS1 k := by
  have := civil_digits.core (n := x.toNat) (sz := 4) (by omega) (by omega) (ms4 w) h
  rwa [show ((x.toNat : Nat) : Int) = x by omega] at this
theorem civil_digits.c2 {x : Int} (h0 : 0 ≤ x) (h1 : x ≤ 1000000) {w : World} {k : TR RS1 → World → Prop} (h : ∀ w', Gro w w' → k ((ofL (dig x.toNat 2), ()), ()) w') : clS Tryz.prog F.civil_digits [.int .i64 x, .int .i64 2] w false RS1 k := by
  have := civil_digits.core (n := x.toNat) (sz := 2) (by omega) (by omega) (ms2 w) h
  rwa [show ((x.toNat : Nat) : Int) = x by omega] at this

theorem ref20_two.cl {x : Int} {sz : Nat} (h0 : 0 ≤ x) (h1 : x ≤ 1000000) (hz : sz ≤ 20) {w : World} {k : TR RS1 → World → Prop} (h : ∀ w', Gro w w' → k ((ofL (dig x.toNat sz), ()), ()) w') :
    clS Tryz.prog F.ref20_two [.int .i64 x, .int .i64 (sz : Int)] w false RS1 k := by
  refine ref20_two.ok ?_
  unfold ref20_two.wp
  refine LoopT.by (fun z W => ∃ (i n' : Nat) (t : List UInt8), i ≤ sz ∧ z.1 = n' ∧ n' ≤ 1000000 ∧ z.2.2.1 = (i : Int) ∧ z.2.1 = ofL t ∧ dig x.toNat sz = dig n' (sz - i) ++ t ∧ Gro w W)
    (fun z => ((sz : Int) - z.2.2.1).toNat) ⟨0, x.toNat, [], by omega, by show x = _; omega, by omega, rfl, rfl, by simp, Gro.refl _⟩ ?_
  rintro ⟨z1, s, z2, _⟩ W ⟨i, n', t, hi, e1, hn', e2, e3, hd, hG⟩ _
  dsimp only at e1 e2 e3
  subst e1 e2 e3
  have ht : t.length = i := by have := congrArg List.length hd; rw [List.length_append, dig_length, dig_length] at this; omega
  refine brD (fun c => ?_) fun c => ?_
  · have c : (i : Int) < (sz : Int) := c
    rw [nzK_eq (by decide)]
    rw [show (Value.int .u8 (IntKind.wrap .u8 (IntKind.wrap .i64 (48 + Int.tmod (((n' : Int), ofL t, (i : Int), ()) : Int × ByteArray × Int × Unit).1 10)))) = bv (dgc n') from dgc_cell (by omega)]
    refine alK_by fun p4 w5 e4 k4 u5 => bsK_blk (l := [dgc n']) k4 rfl (saK_ofL (by simp; omega) ?_)
    rw [nzK_eq (by decide), tdiv4 (by show (0 : Int) ≤ (n' : Int); omega)]
    have ed : IntKind.wrap .i64 ((n' : Int) / 10) = ((n' / 10 : Nat) : Int) := by rw [w64_in (by unfold I64; omega)]; omega
    have ei : IntKind.wrap .i64 ((i : Int) + 1) = ((i + 1 : Nat) : Int) := by rw [w64_in (by unfold I64; omega)]; omega
    refine ⟨⟨i + 1, n' / 10, dgc n' :: t, by omega, ed, by omega, ei, by rw [show (dgc n' :: t) = [dgc n'] ++ t from rfl, ← ofL_append], ?_, hG.trans u5⟩, ?_⟩
    · rw [hd, show sz - i = (sz - (i + 1)) + 1 by omega, dig]; simp
    · show ((sz : Int) - IntKind.wrap .i64 ((i : Int) + 1)).toNat < ((sz : Int) - (i : Int)).toNat
      rw [ei]; omega
  · have c : ¬ (i : Int) < (sz : Int) := c
    have : i = sz := by omega
    subst this
    rw [Nat.sub_self] at hd
    have hd : dig x.toNat i = t := hd
    subst hd
    exact h W hG

/-! ### dates -/
def strD (d : D3) : ByteArray := if goodDb d = true then ofL (txtD d) else ofL []
theorem lits : (⟨#[45]⟩ : ByteArray) = ofL [45] ∧ (⟨#[84]⟩ : ByteArray) = ofL [84] ∧ (⟨#[58]⟩ : ByteArray) = ofL [58] ∧ (⟨#[90]⟩ : ByteArray) = ofL [90] ∧ (⟨#[]⟩ : ByteArray) = ofL [] := ⟨rfl, rfl, rfl, rfl, rfl⟩
theorem good_small {d : D3} (h : GoodD d) : 0 ≤ d.1 ∧ d.1 ≤ 1000000 ∧ 0 ≤ d.2.1 ∧ d.2.1 ≤ 1000000 ∧ 0 ≤ d.2.2 ∧ d.2.2 ≤ 1000000 := by
  obtain ⟨g1, g2, g3, g4, g5, g6⟩ := h
  have := (mlen_le d.1 d.2.1).2
  omega
set_option maxRecDepth 20000 in
theorem civil_Date_Text.cl {d : D3} {w : World} {k : TR RS1 → World → Prop} (h : ∀ w', Gro w w' → k ((strD d, ()), ()) w') : clS Tryz.prog F.civil_Date_Text [vD d] w false RS1 k := by
  refine civil_Date_Text.ok ?_
  unfold civil_Date_Text.wp
  unfold strD at h
  refine alK_by fun p1 w2 e1 k1 u1 => k1.ld3 (civil_Date_Good.cl fun w5 u5 => brNot (fun c => ?_) fun c => ?_)
  · have := h w5 (u1.trans u5)
    rw [if_neg (by have c : goodDb d = false := c; rw [c]; simp)] at this; exact this
  have c : goodDb d = true := c
  rw [if_pos c] at h
  obtain ⟨s1, s2, s3, s4, s5, s6⟩ := good_small (of_decide_eq_true c)
  rw [drK_eq]
  have k5 := (k1.gro u5).drew
  have g := (u1.trans u5).trans (Gro.drew w5)
  generalize w5.drew = w6 at k5 g
  have hh : ∀ {w'}, Gro w6 w' → ∀ i, i < 3 → w'.cell? (Addr.add ⟨p1, 0, none⟩ i) = some ((w6.cell? (Addr.add ⟨p1, 0, none⟩ i)).getD undef) := fun u i hi => k5.hold u (fun x => x) i (by simpa using hi)
  refine k5.i0 rfl (k5.i1 1 rfl (k5.i1 2 rfl (civil_digits.c4 s1 s2 fun w11 u11 => ⟨⟨hh u11 2 (by decide), hh u11 1 (by decide), hh u11 0 (by decide), trivial⟩, ?_⟩)))
  rw [lits.1]
  refine saK_ofL (by simp [dig_length]) (civil_digits.c2 s3 s4 fun w13 u13 => ⟨⟨hh (u11.trans u13) 2 (by decide), hh (u11.trans u13) 1 (by decide), hh (u11.trans u13) 0 (by decide), trivial⟩, ?_⟩)
  rw [ofL_append]
  refine saK_ofL (by simp [dig_length]) ?_
  rw [ofL_append]
  refine saK_ofL (by simp [dig_length]) (civil_digits.c2 s5 s6 fun w15 u15 => ⟨⟨hh ((u11.trans u13).trans u15) 1 (by decide), hh ((u11.trans u13).trans u15) 0 (by decide), trivial⟩, ?_⟩)
  rw [ofL_append]
  refine saK_ofL (by simp [dig_length]) ?_
  rw [ofL_append]
  have := h w15 (((g.trans u11).trans u13).trans u15)
  have e : (((dig d.1.toNat 4 ++ [45]) ++ dig d.2.1.toNat 2) ++ [45]) ++ dig d.2.2.toNat 2 = txtD d := by simp [txtD]
  rw [← e] at this; exact this
set_option maxRecDepth 20000 in
theorem ref20_Text.cl {d : D3} {w : World} {k : TR RS1 → World → Prop} (h : ∀ w', Gro w w' → k ((strD d, ()), ()) w') : clS Tryz.prog F.ref20_Text [vD d] w false RS1 k := by
  refine ref20_Text.ok ?_
  unfold ref20_Text.wp
  unfold strD at h
  refine alK_by fun p1 w2 e1 k1 u1 => k1.ld3 (ref20_Good.cl fun w5 u5 => brNot (fun c => ?_) fun c => ?_)
  · have := h w5 (u1.trans u5)
    rw [if_neg (by have c : goodDb d = false := c; rw [c]; simp)] at this; exact this
  have c : goodDb d = true := c
  rw [if_pos c] at h
  obtain ⟨s1, s2, s3, s4, s5, s6⟩ := good_small (of_decide_eq_true c)
  rw [drK_eq]
  have k5 := (k1.gro u5).drew
  have g := (u1.trans u5).trans (Gro.drew w5)
  generalize w5.drew = w6 at k5 g
  have hh : ∀ {w'}, Gro w6 w' → ∀ i, i < 3 → w'.cell? (Addr.add ⟨p1, 0, none⟩ i) = some ((w6.cell? (Addr.add ⟨p1, 0, none⟩ i)).getD undef) := fun u i hi => k5.hold u (fun x => x) i (by simpa using hi)
  refine k5.i0 rfl (k5.i1 1 rfl (k5.i1 2 rfl (ref20_two.cl (sz := 4) s1 s2 (by omega) fun w11 u11 => ⟨⟨hh u11 2 (by decide), hh u11 1 (by decide), hh u11 0 (by decide), trivial⟩, ?_⟩)))
  rw [lits.1]
  refine saK_ofL (by simp [dig_length]) (ref20_two.cl (sz := 2) s3 s4 (by omega) fun w13 u13 => ⟨⟨hh (u11.trans u13) 2 (by decide), hh (u11.trans u13) 1 (by decide), hh (u11.trans u13) 0 (by decide), trivial⟩, ?_⟩)
  rw [ofL_append]
  refine saK_ofL (by simp [dig_length]) ?_
  rw [ofL_append]
  refine saK_ofL (by simp [dig_length]) (ref20_two.cl (sz := 2) s5 s6 (by omega) fun w15 u15 => ⟨⟨hh ((u11.trans u13).trans u15) 1 (by decide), hh ((u11.trans u13).trans u15) 0 (by decide), trivial⟩, ?_⟩)
  rw [ofL_append]
  refine saK_ofL (by simp [dig_length]) ?_
  rw [ofL_append]
  have := h w15 (((g.trans u11).trans u13).trans u15)
  have e : (((dig d.1.toNat 4 ++ [45]) ++ dig d.2.1.toNat 2) ++ [45]) ++ dig d.2.2.toNat 2 = txtD d := by simp [txtD]
  rw [← e] at this; exact this

/-! ### seconds -/
abbrev KU6 : List CK := [.i .i64, .i .i64, .i .i64, .i .i64, .i .i64, .i .i64]
abbrev tU (u : U6) : Tvs KU6 := (u.1, u.2.1, u.2.2.1, u.2.2.2.1, u.2.2.2.2.1, u.2.2.2.2.2, ())
abbrev cU (u : U6) : List Value := [.int .i64 u.1, .int .i64 u.2.1, .int .i64 u.2.2.1, .int .i64 u.2.2.2.1, .int .i64 u.2.2.2.2.1, .int .i64 u.2.2.2.2.2]
abbrev vU (u : U6) : Value := .agg #[.int .i64 u.1, .int .i64 u.2.1, .int .i64 u.2.2.1, .int .i64 u.2.2.2.1, .int .i64 u.2.2.2.2.1, .int .i64 u.2.2.2.2.2]
theorem Blk.ldU {w : World} {b : Nat} {u : U6} (h : Blk w b (cU u)) {k : Tvs KU6 → Prop} (hk : k (tU u)) : ldN KU6 ⟨b, 0, none⟩ 0 w k := h.cA (cs := KU6) (tU u) rfl hk
theorem Blk.ldUd {w : World} {b : Nat} {u : U6} (h : Blk w b (cU u)) {k : Tvs K3 → Prop} (hk : k (tD (dU u))) : ldN K3 ⟨b, 0, none⟩ 0 w k := h.cN 0 (cs := K3) (tD (dU u)) rfl hk
def strU (u : U6) : ByteArray := if goodUb u = true then ofL (txtU u) else ofL []
end Go.Proofs.YtfbegkddkdenbaaGreatDoor
