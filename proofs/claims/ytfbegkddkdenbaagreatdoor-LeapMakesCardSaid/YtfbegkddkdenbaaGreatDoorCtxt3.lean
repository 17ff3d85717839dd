/- Contracts: the document's number and Parse of dates; the text of a day (Date). Conditions: none. -/
import Derived.Test.YtfbegkddkdenbaaGreatDoorCtxt2
namespace Go.Proofs.YtfbegkddkdenbaaGreatDoor
open Go.Eng Go
set_option linter.unusedVariables false
set_option linter.unusedSimpArgs false

/-! ### bytes of a list -/
theorem ofL_get (l : List UInt8) (i : Nat) : (ofL l)[i]? = l[i]? := by
  unfold ofL
  show (if h : i < (⟨l.toArray⟩ : ByteArray).size then some ((⟨l.toArray⟩ : ByteArray)[i]) else none) = _
  by_cases h : i < l.length
  · rw [dif_pos (by simpa [ByteArray.size] using h), List.getElem?_eq_getElem h]; rfl
  · rw [dif_neg (by simpa [ByteArray.size] using h), List.getElem?_eq_none (by omega)]
theorem siK_by {l : List UInt8} {ix : Int} {i : Nat} {c : UInt8} (hi : ix = i) (hc : l[i]? = some c) {k : Int → Prop} (hk : k (c.toNat : Int)) : siK (ofL l) ix k := by
  subst hi
  unfold siK
  rw [if_pos (by omega), Int.toNat_natCast, ofL_get, hc]; exact hk
theorem ofL_extract (l : List UInt8) (a b : Nat) : (ofL l).extract a b = ofL ((l.take b).drop a) := by
  apply ByteArray.ext
  show ((ofL l).extract a b).data = (ofL ((l.take b).drop a)).data
  rw [ByteArray.data_extract]
  simp [ofL]
  rw [List.drop_take]
instance (c : UInt8) : Decidable (isDg c) := by unfold isDg; exact inferInstance
def numL (l : List UInt8) : Int := if ∀ c ∈ l, isDg c then (valD l : Int) else -1
theorem numL_dig (n k : Nat) (h : n < 10 ^ k) : numL (dig n k) = n := by unfold numL; rw [if_pos (dig_dg n k), valD_dig k n h]
theorem wd {c : UInt8} (h : isDg c) : IntKind.wrap .i64 (IntKind.wrap .u8 ((c.toNat : Int) - 48)) = ((c.toNat - 48 : Nat) : Int) := by
  unfold isDg at h
  have e : IntKind.wrap .u8 ((c.toNat : Int) - 48) = (c.toNat : Int) - 48 := by rw [wu8]; omega
  rw [e, w64_in (by unfold I64; omega)]; omega
/-! ### dates read -/
def prsT (l : List UInt8) : D3 := (numL (l.take 4), numL ((l.take 7).drop 5), numL (l.drop 8))
def prsD (l : List UInt8) : Option D3 := if l.length = 10 ∧ l[4]? = some 45 ∧ l[7]? = some 45 ∧ GoodD (prsT l) then some (prsT l) else none
theorem prsD_good {l : List UInt8} {d : D3} (h : prsD l = some d) : GoodD d := by
  unfold prsD at h
  split at h
  · rename_i hc; injection h with h; subst h; exact hc.2.2.2
  · cases h
theorem prsT_txt {d : D3} (h : GoodD d) : prsT (txtD d) = d := by
  obtain ⟨g1, g2, g3, g4, g5, g6⟩ := h
  have m1 := (mlen_le d.1 d.2.1).2
  unfold prsT txtD
  have t1 : (dig d.1.toNat 4 ++ 45 :: (dig d.2.1.toNat 2 ++ 45 :: dig d.2.2.toNat 2)).take 4 = dig d.1.toNat 4 := by
    rw [List.take_append_of_le_length (by rw [dig_length]; omega), List.take_of_length_le (by rw [dig_length]; omega)]
  have t2 : ((dig d.1.toNat 4 ++ 45 :: (dig d.2.1.toNat 2 ++ 45 :: dig d.2.2.toNat 2)).take 7).drop 5 = dig d.2.1.toNat 2 := by
    simp only [dig, List.nil_append, List.cons_append, List.take_succ_cons, List.drop_succ_cons, List.take_zero, List.drop_zero]
  have t3 : (dig d.1.toNat 4 ++ 45 :: (dig d.2.1.toNat 2 ++ 45 :: dig d.2.2.toNat 2)).drop 8 = dig d.2.2.toNat 2 := by
    simp only [dig, List.nil_append, List.cons_append, List.drop_succ_cons, List.drop_zero]
  rw [t1, t2, t3, numL_dig _ _ (by omega), numL_dig _ _ (by omega), numL_dig _ _ (by omega)]
  obtain ⟨x, y, z⟩ := d
  dsimp only at *
  simp only [Prod.mk.injEq]
  omega
theorem prsD_txt {d : D3} (h : GoodD d) : prsD (txtD d) = some d := by
  have h4 : (txtD d)[4]? = some 45 := by simp [txtD, dig]
  have h7 : (txtD d)[7]? = some 45 := by simp [txtD, dig]
  unfold prsD
  rw [prsT_txt h]
  exact if_pos ⟨txtD_length d, h4, h7, h⟩
abbrev RDB : List (Bool × List CK) := [(true, K3), (false, [.b])]
/-! ### the text of a day -/
set_option maxRecDepth 20000 in
set_option maxHeartbeats 1000000 in
theorem ref21_Date.cl {n : Int} (h1 : -719162 ≤ n) (h2 : n ≤ 2932896) {w : World} {k : TR RS1 → World → Prop} (h : ∀ d : D3, GoodD d → numD d = n → ∀ w', Gro w w' → k ((ofL (txtD d), ()), ()) w') :
    clS Tryz.prog F.ref21_Date [.int .i64 n] w false RS1 k := by
  refine ref21_Date.ok ?_
  unfold ref21_Date.wp
  have hw : ∀ {p1 : Nat} {W W' : World}, w.heap.size = p1 → Gro w W → Upd (fun x => x = p1) W W' → Gro w W' := fun e g u => Upd.trans g u fun i hi h => by omega
  have y10 : yrs 10000 = 3652059 := by decide
  have num1 : ∀ y, numD (y, 1, 1) = -719162 + yrs y := fun y => by unfold numD; show -719162 + yrs y + cumD y ((1 : Int) - 1).toNat + 1 - 1 = _; simp [cumD]
  have small : ∀ {y : Int}, 1 ≤ y → -719162 + yrs y ≤ n → y ≤ 9999 := fun {y} a b => by
    rcases ilt_ge y 10000 with c | c
    · omega
    · rcases ilt_ge 10000 y with c2 | c2
      · have := yrs_mono c2; omega
      · have : y = 10000 := by omega
        subst this; omega
  refine alK_by fun p1 w2 e1 k1 u1 => k1.sta _ rfl rfl fun w3 k3 u3 => ?_
  have G3 := hw e1 u1 u3
  refine LoopT.by (fun z W => ∃ y : Int, 1 ≤ y ∧ (y - 1) % 400 = 0 ∧ z.1 = -719162 + yrs y ∧ z.1 ≤ n ∧ Blk W p1 [.int .i64 y, .int .i64 1, .int .i64 1] ∧ Gro w W) (fun z => (n - z.1).toNat) ⟨1, by decide, by decide, by decide, h1, k3, G3⟩ ?_
  rintro ⟨z, _⟩ W ⟨y, i1, i2, i3, i4, hB, hG⟩ _
  dsimp only at i3 i4
  subst i3
  have ys := small i1 i4
  have yr := yrs_rng i1 (by omega : y ≤ 20000)
  have ea : IntKind.wrap .i64 (-719162 + yrs y + 146097) = -719162 + yrs (y + 400) := by rw [w64_in (by unfold I64; omega)]; unfold yrs; omega
  rw [show IntKind.wrap .i64 (((-719162 + yrs y, ()) : Int × Unit).1 + 146097) = -719162 + yrs (y + 400) from ea]
  refine brD (fun c => ?_) fun c => ?_
  · have c : -719162 + yrs (y + 400) ≤ n := c
    have ey : IntKind.wrap .i64 (y + 400) = y + 400 := w64_in (by unfold I64; omega)
    refine hB.i0 rfl (hB.s0 (by simp) fun w8 k8 u8 => ?_)
    rw [ey] at k8
    refine ⟨⟨y + 400, by omega, by omega, rfl, c, k8, hw e1 hG u8⟩, ?_⟩
    have := yrs_mono (show y < y + 400 by omega)
    show (n - (-719162 + yrs (y + 400))).toNat < (n - (-719162 + yrs y)).toNat
    omega
  · refine LoopT.by (fun z W => ∃ y : Int, 1 ≤ y ∧ z.1 = -719162 + yrs y ∧ z.1 ≤ n ∧ Blk W p1 [.int .i64 y, .int .i64 1, .int .i64 1] ∧ Gro w W) (fun z => (n - z.1).toNat) ⟨y, i1, rfl, i4, hB, hG⟩ ?_
    rintro ⟨z, _⟩ W ⟨y, i1, i3, i4, hB, hG⟩ _
    dsimp only at i3 i4
    subst i3
    have ys := small i1 i4
    have yr := yrs_rng i1 (by omega : y ≤ 20000)
    have ysc := yrs_succ y
    have ea : IntKind.wrap .i64 (-719162 + yrs y + 366) = -719162 + yrs y + 366 := w64_in (by unfold I64; omega)
    have eb : IntKind.wrap .i64 (-719162 + yrs y + 365) = -719162 + yrs y + 365 := w64_in (by unfold I64; omega)
    rw [show IntKind.wrap .i64 (((-719162 + yrs y, ()) : Int × Unit).1 + 366) = -719162 + yrs y + 366 from ea]
    have ey : IntKind.wrap .i64 (y + 1) = y + 1 := w64_in (by unfold I64; omega)
    refine brD (fun c => ?_) fun c => ?_
    · have c : -719162 + yrs y + 366 ≤ n := c
      refine hB.i0 rfl (ref20_Long.cl (by omega) (brC (fun c2 => ?_) fun c2 => ?_))
      · have c2 : lpY y = true := c2
        rw [if_pos c2] at ysc
        refine hB.i0 rfl (hB.s0 (by simp) fun w8 k8 u8 => ?_)
        rw [ey] at k8
        have ex : IntKind.wrap .i64 (IntKind.wrap .i64 (-719162 + yrs y + 365) + 1) = -719162 + yrs (y + 1) := by rw [eb, w64_in (by unfold I64; omega)]; omega
        refine ⟨⟨y + 1, by omega, ex, by show IntKind.wrap .i64 (IntKind.wrap .i64 (-719162 + yrs y + 365) + 1) ≤ n; omega, k8, hw e1 hG u8⟩, ?_⟩
        show (n - IntKind.wrap .i64 (IntKind.wrap .i64 (-719162 + yrs y + 365) + 1)).toNat < (n - (-719162 + yrs y)).toNat
        rw [ex]; omega
      · have c2 : lpY y = false := c2
        rw [if_neg (by rw [c2]; simp)] at ysc
        refine hB.i0 rfl (hB.s0 (by simp) fun w8 k8 u8 => ?_)
        rw [ey] at k8
        refine ⟨⟨y + 1, by omega, by show IntKind.wrap .i64 (-719162 + yrs y + 365) = _; omega, by show IntKind.wrap .i64 (-719162 + yrs y + 365) ≤ n; omega, k8, hw e1 hG u8⟩, ?_⟩
        show (n - IntKind.wrap .i64 (-719162 + yrs y + 365)).toNat < (n - (-719162 + yrs y)).toNat
        rw [eb]; omega
    · refine LoopT.by (fun z W => ∃ d : D3, GoodD d ∧ numD d = z.1 ∧ z.1 ≤ n ∧ Blk W p1 [.int .i64 d.1, .int .i64 d.2.1, .int .i64 d.2.2] ∧ Gro w W) (fun z => (n - z.1).toNat)
        ⟨(y, 1, 1), ⟨i1, ys, by show (1 : Int) ≤ 1; omega, by show (1 : Int) ≤ 12; omega, by show (1 : Int) ≤ 1; omega, by show (1 : Int) ≤ mlen y 1; have := mlen_le y 1; omega⟩, num1 y, i4, hB, hG⟩ ?_
      rintro ⟨z, _⟩ W ⟨d, hg, i3, i4, hB, hG⟩ _
      dsimp only at i3 i4
      subst i3
      refine brD (fun c => ?_) fun c => ?_
      · have c : numD d < n := c
        have rg := numD_range hg
        have en : IntKind.wrap .i64 (numD d + 1) = numD d + 1 := w64_in (by unfold I64; omega)
        have nx := numD_next hg
        have hg2 : GoodD (nextD d) := by
          rcases nx.2 with h | ⟨_, h⟩
          · exact h
          · have := nx.1; rw [h, num1] at this; omega
        refine hB.ld3 (ref20_Next.cl hg fun w24 u24 => (hB.gro u24).sta _ rfl rfl fun w25 k25 u25 => ?_)
        refine ⟨⟨nextD d, hg2, by show _ = IntKind.wrap .i64 (numD d + 1); rw [en]; exact nx.1, by show IntKind.wrap .i64 (numD d + 1) ≤ n; omega, k25, hw e1 (hG.trans u24) u25⟩, ?_⟩
        show (n - IntKind.wrap .i64 (numD d + 1)).toNat < (n - numD d).toNat
        rw [en]; omega
      · have c : ¬ numD d < n := c
        refine hB.ld3 (ref20_Text.cl (d := d) fun w28 u28 => ?_)
        rw [strD_good hg]
        exact h d hg (by omega) w28 (hG.trans u28)
end Go.Proofs.YtfbegkddkdenbaaGreatDoor
