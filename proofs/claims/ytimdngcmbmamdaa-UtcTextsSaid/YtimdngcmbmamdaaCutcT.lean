/- Texts of seconds read: looks, num, Parse (utc), the document's (ref22); the law UtcTexts. Conditions: what an argument is. -/
import Derived.Test.YtimdngcmbmamdaaCrune
import Derived.Test.YtimdngcmbmamdaaCutcA
namespace Go.Proofs.Ytimdngcmbmamdaa
open Go.Eng Go
set_option linter.unusedVariables false
set_option linter.unusedSimpArgs false

def shpL : List UInt8 := [48, 48, 48, 48, 45, 48, 48, 45, 48, 48, 84, 48, 48, 58, 48, 48, 58, 48, 48, 90]
def clsU (j : Nat) (c : UInt8) : Prop := match shpL[j]? with | some x => if x = 48 then isDg c else c = x | none => False
instance (j : Nat) (c : UInt8) : Decidable (clsU j c) := by unfold clsU; split <;> exact inferInstance
def preU (l : List UInt8) (i : Nat) : Prop := ∀ j c, j < i → l[j]? = some c → clsU j c
def looksP (l : List UInt8) : Prop := l.length = 20 ∧ preU l 20
/-- what the twenty places hold -/
def prsUt (l : List UInt8) : U6 := ((prsT (l.take 10)).1, (prsT (l.take 10)).2.1, (prsT (l.take 10)).2.2, numL ((l.take 13).drop 11), numL ((l.take 16).drop 14), numL ((l.take 19).drop 17))
def prsU (l : List UInt8) : Option U6 := if (l.length = 20 ∧ l[10]? = some 84 ∧ l[13]? = some 58 ∧ l[16]? = some 58 ∧ l[19]? = some 90) ∧ prsD (l.take 10) ≠ none ∧ GoodU (prsUt l) then some (prsUt l) else none
theorem list20 : ∀ {l : List UInt8}, l.length = 20 → ∃ a b c d e f g h i j k m n o p q r s t u, l = [a, b, c, d, e, f, g, h, i, j, k, m, n, o, p, q, r, s, t, u]
  | [a, b, c, d, e, f, g, h, i, j, k, m, n, o, p, q, r, s, t, u], _ => ⟨a, b, c, d, e, f, g, h, i, j, k, m, n, o, p, q, r, s, t, u, rfl⟩
theorem dig_back2 {a b : UInt8} (ha : isDg a) (hb : isDg b) : dig (numL [a, b]).toNat 2 = [a, b] := by
  have h : ∀ c ∈ [a, b], isDg c := by intro c hc; simp at hc; rcases hc with rfl | rfl <;> assumption
  unfold numL; rw [if_pos h, Int.toNat_natCast]; exact dig_valD [a, b] h
theorem dig_back4 {a b c d : UInt8} (ha : isDg a) (hb : isDg b) (hc : isDg c) (hd : isDg d) : dig (numL [a, b, c, d]).toNat 4 = [a, b, c, d] := by
  have h : ∀ x ∈ [a, b, c, d], isDg x := by intro x hx; simp at hx; rcases hx with rfl | rfl | rfl | rfl <;> assumption
  unfold numL; rw [if_pos h, Int.toNat_natCast]; exact dig_valD [a, b, c, d] h
theorem clsU_at {l : List UInt8} (h : looksP l) {j : Nat} {c x : UInt8} (hc : l[j]? = some c) (hx : shpL[j]? = some x) : if x = 48 then isDg c else c = x := by
  have hj : j < 20 := by have := (List.getElem?_eq_some_iff.1 hc).1; have := h.1; omega
  have := h.2 j c hj hc
  unfold clsU at this
  rw [hx] at this; exact this
/-- what looks so is the text of what it holds -/
theorem txt_back {l : List UInt8} (h : looksP l) : txtU (prsUt l) = l := by
  obtain ⟨a, b, c, d, e, f, g, hh, i, j, k, m, n, o, p, q, r, s, t, u, rfl⟩ := list20 h.1
  have H := @clsU_at _ h
  have c0 := H (j := 0) rfl rfl
  have c1 := H (j := 1) rfl rfl
  have c2 := H (j := 2) rfl rfl
  have c3 := H (j := 3) rfl rfl
  have c4 := H (j := 4) rfl rfl
  have c5 := H (j := 5) rfl rfl
  have c6 := H (j := 6) rfl rfl
  have c7 := H (j := 7) rfl rfl
  have c8 := H (j := 8) rfl rfl
  have c9 := H (j := 9) rfl rfl
  have c10 := H (j := 10) rfl rfl
  have c11 := H (j := 11) rfl rfl
  have c12 := H (j := 12) rfl rfl
  have c13 := H (j := 13) rfl rfl
  have c14 := H (j := 14) rfl rfl
  have c15 := H (j := 15) rfl rfl
  have c16 := H (j := 16) rfl rfl
  have c17 := H (j := 17) rfl rfl
  have c18 := H (j := 18) rfl rfl
  have c19 := H (j := 19) rfl rfl
  rw [if_pos rfl] at c0 c1 c2 c3 c5 c6 c8 c9 c11 c12 c14 c15 c17 c18
  rw [if_neg (by decide)] at c4 c7 c10 c13 c16 c19
  subst c4 c7 c10 c13 c16 c19
  show dig (numL [a, b, c, d]).toNat 4 ++ 45 :: (dig (numL [f, g]).toNat 2 ++ 45 :: dig (numL [i, j]).toNat 2) ++ 84 :: (dig (numL [m, n]).toNat 2 ++ 58 :: (dig (numL [p, q]).toNat 2 ++ 58 :: (dig (numL [s, t]).toNat 2 ++ [90]))) = _
  rw [dig_back4 c0 c1 c2 c3, dig_back2 c5 c6, dig_back2 c8 c9, dig_back2 c11 c12, dig_back2 c14 c15, dig_back2 c17 c18]
  rfl
theorem num_dg2 {l : List UInt8} (h : 0 ≤ numL l) : ∀ c ∈ l, isDg c := numL_dg (by omega)
theorem prsU_looks {l : List UInt8} {u : U6} (h : prsU l = some u) : looksP l ∧ prsUt l = u ∧ GoodU u ∧ prsD (l.take 10) ≠ none := by
  unfold prsU at h
  split at h
  case isFalse => cases h
  rename_i hc
  injection h with h
  subst h
  obtain ⟨⟨hl, h10, h13, h16, h19⟩, hd, hg⟩ := hc
  refine ⟨⟨hl, ?_⟩, rfl, hg, hd⟩
  obtain ⟨a, b, c, d, e, f, g, hh, i, j, k, m, n, o, p, q, r, s, t, u, rfl⟩ := list20 hl
  cases hp : prsD ([a, b, c, d, e, f, g, hh, i, j, k, m, n, o, p, q, r, s, t, u].take 10) with
  | none => exact absurd hp hd
  | some d' =>
    obtain ⟨_, pre, _⟩ := prsD_pre hp
    have P : ∀ z x, z < 10 → [a, b, c, d, e, f, g, hh, i, j][z]? = some x → clsD z x := fun z x hz hx => pre z x hz hx
    obtain ⟨_, g1, g2, g3, g4, g5, g6⟩ := hg
    have n1 := num_dg2 (l := [m, n]) g1
    have n2 := num_dg2 (l := [p, q]) g3
    have n3 := num_dg2 (l := [s, t]) g5
    simp at h10 h13 h16 h19
    subst h10 h13 h16 h19
    have p0 := P 0 a (by decide) rfl
    have p1 := P 1 b (by decide) rfl
    have p2 := P 2 c (by decide) rfl
    have p3 := P 3 d (by decide) rfl
    have p4 := P 4 e (by decide) rfl
    have p5 := P 5 f (by decide) rfl
    have p6 := P 6 g (by decide) rfl
    have p7 := P 7 hh (by decide) rfl
    have p8 := P 8 i (by decide) rfl
    have p9 := P 9 j (by decide) rfl
    intro z x hz hx
    have hz' : z = 0 ∨ z = 1 ∨ z = 2 ∨ z = 3 ∨ z = 4 ∨ z = 5 ∨ z = 6 ∨ z = 7 ∨ z = 8 ∨ z = 9 ∨ z = 10 ∨ z = 11 ∨ z = 12 ∨ z = 13 ∨ z = 14 ∨ z = 15 ∨ z = 16 ∨ z = 17 ∨ z = 18 ∨ z = 19 := by omega
    rcases hz' with rfl | rfl | rfl | rfl | rfl | rfl | rfl | rfl | rfl | rfl | rfl | rfl | rfl | rfl | rfl | rfl | rfl | rfl | rfl | rfl <;> (simp at hx; subst hx)
    · exact p0
    · exact p1
    · exact p2
    · exact p3
    · exact p4
    · exact p5
    · exact p6
    · exact p7
    · exact p8
    · exact p9
    · rfl
    · exact n1 m (by simp)
    · exact n1 n (by simp)
    · rfl
    · exact n2 p (by simp)
    · exact n2 q (by simp)
    · rfl
    · exact n3 s (by simp)
    · exact n3 t (by simp)
    · rfl
theorem good_txt {u : U6} (h : GoodU u) : prsU (txtU u) = some u := by
  have hd := prsT_txt h.1
  obtain ⟨hg, a1, a2, a3, a4, a5, a6⟩ := h
  have t10 : (txtU u).take 10 = txtD (dU u) := by
    unfold txtU; rw [List.take_append_of_le_length (by rw [txtD_length]; omega), List.take_of_length_le (by rw [txtD_length]; omega)]
  have dr : ∀ n, 10 ≤ n → (txtU u).drop n = (84 :: (dig u.2.2.2.1.toNat 2 ++ 58 :: (dig u.2.2.2.2.1.toNat 2 ++ 58 :: (dig u.2.2.2.2.2.toNat 2 ++ [90])))).drop (n - 10) := fun n hn => by
    unfold txtU; rw [List.drop_append, txtD_length, List.drop_of_length_le (by rw [txtD_length]; omega), List.nil_append]
  have e1 : ((txtU u).take 13).drop 11 = dig u.2.2.2.1.toNat 2 := by rw [List.drop_take, dr 11 (by omega)]; simp [dig]
  have e2 : ((txtU u).take 16).drop 14 = dig u.2.2.2.2.1.toNat 2 := by rw [List.drop_take, dr 14 (by omega)]; simp [dig]
  have e3 : ((txtU u).take 19).drop 17 = dig u.2.2.2.2.2.toNat 2 := by rw [List.drop_take, dr 17 (by omega)]; simp [dig]
  have ge : ∀ n, 10 ≤ n → (txtU u)[n]? = (84 :: (dig u.2.2.2.1.toNat 2 ++ 58 :: (dig u.2.2.2.2.1.toNat 2 ++ 58 :: (dig u.2.2.2.2.2.toNat 2 ++ [90]))))[n - 10]? := fun n hn => by
    unfold txtU; rw [List.getElem?_append_right (by rw [txtD_length]; omega), txtD_length]
  have eu : prsUt (txtU u) = u := by
    unfold prsUt
    rw [t10, hd, e1, e2, e3, numL_dig _ _ (by omega), numL_dig _ _ (by omega), numL_dig _ _ (by omega)]
    obtain ⟨x1, x2, x3, x4, x5, x6⟩ := u
    unfold dU
    dsimp only at *
    simp only [Prod.mk.injEq, true_and]; omega
  unfold prsU
  rw [eu]
  refine if_pos ⟨⟨txtU_length u, by rw [ge 10 (by omega)]; simp [dig], by rw [ge 13 (by omega)]; simp [dig], by rw [ge 16 (by omega)]; simp [dig], by rw [ge 19 (by omega)]; simp [dig]⟩, ?_, ⟨hg, a1, a2, a3, a4, a5, a6⟩⟩
  rw [t10, prsD_txt hg]; simp

/-! ### looks -/
set_option maxRecDepth 20000 in
set_option maxHeartbeats 2000000 in
theorem utc_looks.cl {l : List UInt8} {w : World} {k : TR RB1 → World → Prop} (h0 : ¬ looksP l → ∀ w', Gro w w' → k ((false, ()), ()) w') (h1 : looksP l → ∀ w', Gro w w' → k ((true, ()), ()) w') :
    clS Try.prog F.utc_looks [.string (ofL l)] w false RB1 k := by
  refine utc_looks.ok ?_
  unfold utc_looks.wp
  refine rgK_by fun r w2 er hI u2 => ?_
  refine LoopT.by (fun z W => ∃ i : Nat, i ≤ 20 ∧ i ≤ l.length ∧ preU l i ∧ z.1 = (i : Int) ∧ Itr W r l i ∧ Gro w W) (fun z => (20 - z.1).toNat) ⟨0, by omega, by omega, fun j c h => by omega, rfl, hI, u2⟩ ?_
  rintro ⟨z, _⟩ W ⟨i, hi, hil, hpre, ez, hIt, hG⟩ _
  dsimp only at ez
  subst ez
  have fr : ∀ {W'}, Upd (fun x => x = r) W W' → Gro w W' := fun u => Upd.trans hG u fun j hj h => by omega
  have shl : (⟨#[48, 48, 48, 48, 45, 48, 48, 45, 48, 48, 84, 48, 48, 58, 48, 48, 58, 48, 48, 90]⟩ : ByteArray) = ofL shpL := rfl
  have bad : ∀ {c : UInt8}, l[i]? = some c → ¬ clsU i c → ¬ looksP l := fun {c} hc hn h => by
    have := (List.getElem?_eq_some_iff.1 hc).1
    exact hn (h.2 i c (by have := h.1; omega) hc)
  refine nxK_by hIt (fun hend => ?_) (fun b w7 hb hlow hI7 u7 => ?_) fun b c w7 hb hhigh hc7 u7 => ?_
  · by_cases e : i = 20
    · have := h1 ⟨by omega, by rw [← e]; exact hpre⟩ W hG
      rw [show ((((i : Int), ()) : Int × Unit).1 == 20) = true from by rw [e]; rfl]; exact this
    · have := h0 (fun h => e (by have := h.1; omega)) W hG
      rw [show ((((i : Int), ()) : Int × Unit).1 == 20) = false from beq_eq_false_iff_ne.2 (by show (i : Int) ≠ 20; omega)]; exact this
  · refine brD (fun c => h0 (fun h => by have c : (i : Int) ≥ 20 := c; have := (List.getElem?_eq_some_iff.1 hb).1; have := h.1; omega) w7 (fr u7)) fun c => ?_
    have c : ¬ (i : Int) ≥ 20 := c
    have hi20 : i < 20 := by omega
    have hs : shpL[i]? = some (shpL[i]'(by simp [shpL]; omega)) := List.getElem?_eq_getElem _
    generalize shpL[i]'(by simp [shpL]; omega) = x at hs
    have cl : clsU i b ↔ (if x = 48 then isDg b else b = x) := by unfold clsU; rw [hs]
    have e32 : ∀ {y : UInt8}, IntKind.wrap .i32 (y.toNat : Int) = (y.toNat : Int) := fun {y} => by
      have := y.toNat_lt
      simp [IntKind.wrap, IntKind.bits, IntKind.signed]; omega
    have hlt := (List.getElem?_eq_some_iff.1 hb).1
    have ei : IntKind.wrap .i64 ((i : Int) + 1) = ((i + 1 : Nat) : Int) := by rw [w64_in (by unfold I64; omega)]; omega
    have go : clsU i b → ((∃ i' : Nat, i' ≤ 20 ∧ i' ≤ l.length ∧ preU l i' ∧ IntKind.wrap .i64 ((i : Int) + 1) = (i' : Int) ∧ Itr w7 r l i' ∧ Gro w w7) ∧ (20 - IntKind.wrap .i64 ((i : Int) + 1)).toNat < (20 - (i : Int)).toNat) := fun hc =>
      ⟨⟨i + 1, by omega, by omega, fun j y hj hy => by
        rcases Nat.lt_or_ge j i with h | h
        · exact hpre j y h hy
        · have : j = i := by omega
          subst this
          rw [hb] at hy; injection hy with hy; subst hy; exact hc, ei, hI7, fr u7⟩, by rw [ei]; omega⟩
    rw [shl]
    refine siK_by rfl hs ?_
    rw [e32]
    refine brE (fun c1 => ?_) fun c1 => ?_
    · have ex : x = 48 := UInt8.toNat_inj.1 (by show x.toNat = 48; have c1 : (x.toNat : Int) = 48 := c1; omega)
      rw [if_pos ex] at cl
      refine brD (fun c2 => h0 (bad hb fun h => by have := (cl.1 h).1; have c2 : (b.toNat : Int) < 48 := c2; omega) w7 (fr u7)) fun c2 => ?_
      refine brD (fun c3 => h0 (bad hb fun h => by have := (cl.1 h).2; have c3 : (b.toNat : Int) > 57 := c3; omega) w7 (fr u7)) fun c3 => ?_
      have c2 : ¬ (b.toNat : Int) < 48 := c2
      have c3 : ¬ (b.toNat : Int) > 57 := c3
      exact brN (fun c4 => absurd c1 c4) fun _ => go (cl.2 ⟨by omega, by omega⟩)
    · have ex : ¬ x = 48 := fun e => c1 (by rw [e]; rfl)
      rw [if_neg ex] at cl
      refine brN (fun _ => brN (fun c4 => h0 (bad hb fun h => c4 (by rw [cl.1 h])) w7 (fr u7)) fun c4 => go (cl.2 (UInt8.toNat_inj.1 (by have c4 : (b.toNat : Int) = (x.toNat : Int) := c4; omega)))) fun c4 => absurd c4 c1
  · have nl : ¬ looksP l := fun h => by
      have hlt := (List.getElem?_eq_some_iff.1 hb).1
      have := h.2 i b (by have := h.1; omega) hb
      unfold clsU at this
      split at this
      · rename_i x hx
        split at this
        · unfold isDg at this; omega
        · subst this
          have hi20 : i < 20 := by have := h.1; omega
          have : ∀ j, j < 20 → ∀ y, shpL[j]? = some y → y.toNat < 128 := by decide
          have := this i hi20 b hx
          omega
      · exact this
    refine brD (fun _ => h0 nl w7 (fr u7)) fun c1 => ?_
    have c1 : ¬ (i : Int) ≥ 20 := c1
    have hs : shpL[i]? = some (shpL[i]'(by simp [shpL]; omega)) := List.getElem?_eq_getElem _
    generalize shpL[i]'(by simp [shpL]; omega) = x at hs
    have xl : x.toNat < 128 := by
      have : ∀ j, j < 20 → ∀ y, shpL[j]? = some y → y.toNat < 128 := by decide
      exact this i (by omega) x hs
    have e32 : IntKind.wrap .i32 (x.toNat : Int) = (x.toNat : Int) := by
      simp [IntKind.wrap, IntKind.bits, IntKind.signed]; omega
    rw [shl]
    refine siK_by rfl hs ?_
    rw [e32]
    refine brE (fun c2 => brD (fun _ => h0 nl w7 (fr u7)) fun _ => brD (fun _ => h0 nl w7 (fr u7)) fun c3 => absurd (show c > 57 by omega) c3) fun c2 => brN (fun _ => brN (fun _ => h0 nl w7 (fr u7)) fun c4 => ?_) fun c4 => absurd c4 c2
    have c4 : c = (x.toNat : Int) := c4
    omega

theorem utc_num.cl {a b : UInt8} {l : List UInt8} (ha : isDg a) (hb : isDg b) {w : World} {k : TR RI1 → World → Prop} (h : k ((numL [a, b], ()), ()) w.drew) : clS Try.prog F.utc_num [.string (ofL (a :: b :: l))] w false RI1 k := by
  refine utc_num.ok ?_
  unfold utc_num.wp
  rw [drK_eq]
  refine siK_by (i := 0) rfl rfl (siK_by (i := 1) rfl rfl ?_)
  have e : IntKind.wrap .i64 (IntKind.wrap .i64 (10 * IntKind.wrap .i64 (IntKind.wrap .u8 ((a.toNat : Int) - 48))) + IntKind.wrap .i64 (IntKind.wrap .u8 ((b.toNat : Int) - 48))) = numL [a, b] := by
    have hh : ∀ c ∈ [a, b], isDg c := by intro c hc; simp at hc; rcases hc with rfl | rfl <;> assumption
    rw [wd ha, wd hb]
    unfold numL; rw [if_pos hh]
    unfold isDg at ha hb
    have ev : valD [a, b] = 10 * (a.toNat - 48) + (b.toNat - 48) := by simp [valD]
    rw [w64_in (n := 10 * ((a.toNat - 48 : Nat) : Int)) (by unfold I64; omega), w64_in (by unfold I64; omega), ev]; omega
  rw [e]; exact h
theorem ref22_num.cl {a b : UInt8} {w : World} {k : TR RI1 → World → Prop} (h : ∀ w', Gro w w' → k ((numL [a, b], ()), ()) w') : clS Try.prog F.ref22_num [.string (ofL [a, b])] w false RI1 k := by
  refine ref22_num.ok ?_
  unfold ref22_num.wp
  have bad : ¬ (isDg a ∧ isDg b) → k ((Int.negSucc 0, ()), ()) w := fun hn => by
    have := h w (Gro.refl w)
    have e : numL [a, b] = -1 := by unfold numL; rw [if_neg (fun hh => hn ⟨hh a (by simp), hh b (by simp)⟩)]
    rw [e] at this; exact this
  refine siK_by (i := 0) rfl rfl (brD (fun c => bad fun h => by have := h.1.1; have c : (a.toNat : Int) < 48 := c; omega) fun c1 => ?_)
  refine siK_by (i := 0) rfl rfl (brD (fun c => bad fun h => by have := h.1.2; have c : (a.toNat : Int) > 57 := c; omega) fun c2 => ?_)
  refine siK_by (i := 1) rfl rfl (brD (fun c => bad fun h => by have := h.2.1; have c : (b.toNat : Int) < 48 := c; omega) fun c3 => ?_)
  refine siK_by (i := 1) rfl rfl (brD (fun c => bad fun h => by have := h.2.2; have c : (b.toNat : Int) > 57 := c; omega) fun c4 => ?_)
  have c1 : ¬ (a.toNat : Int) < 48 := c1
  have c2 : ¬ (a.toNat : Int) > 57 := c2
  have c3 : ¬ (b.toNat : Int) < 48 := c3
  have c4 : ¬ (b.toNat : Int) > 57 := c4
  have ha : isDg a := ⟨by omega, by omega⟩
  have hb : isDg b := ⟨by omega, by omega⟩
  rw [drK_eq]
  refine siK_by (i := 0) rfl rfl (siK_by (i := 1) rfl rfl ?_)
  have e : IntKind.wrap .i64 (IntKind.wrap .i64 (10 * IntKind.wrap .i64 (IntKind.wrap .u8 ((a.toNat : Int) - 48))) + IntKind.wrap .i64 (IntKind.wrap .u8 ((b.toNat : Int) - 48))) = numL [a, b] := by
    have hh : ∀ c ∈ [a, b], isDg c := by intro c hc; simp at hc; rcases hc with rfl | rfl <;> assumption
    rw [wd ha, wd hb]
    unfold numL; rw [if_pos hh]
    unfold isDg at ha hb
    have ev : valD [a, b] = 10 * (a.toNat - 48) + (b.toNat - 48) := by simp [valD]
    rw [w64_in (n := 10 * ((a.toNat - 48 : Nat) : Int)) (by unfold I64; omega), w64_in (by unfold I64; omega), ev]; omega
  rw [e]; exact h _ (Gro.drew w)
end Go.Proofs.Ytimdngcmbmamdaa
