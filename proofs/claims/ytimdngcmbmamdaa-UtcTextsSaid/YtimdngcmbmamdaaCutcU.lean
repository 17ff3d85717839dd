/- Contracts: Parse of seconds (utc, ref22); the law UtcTexts. Conditions: what an argument is. -/
import Derived.Test.YtimdngcmbmamdaaCutcT
namespace Go.Proofs.Ytimdngcmbmamdaa
open Go.Eng Go
set_option linter.unusedVariables false
set_option linter.unusedSimpArgs false

theorem prsD_take {l : List UInt8} {d : D3} (h : prsD l = some d) : prsT l = d := (prsD_pre h).2.2.1
theorem slash {l : List UInt8} (h : looksP l) : l[10]? = some 84 ∧ l[13]? = some 58 ∧ l[16]? = some 58 ∧ l[19]? = some 90 := by
  have gt : ∀ j (hj : j < 20), l[j]? = some (l[j]'(by have := h.1; omega)) := fun j hj => List.getElem?_eq_getElem _
  have c10 := clsU_at h (gt 10 (by omega)) (x := 84) rfl
  have c13 := clsU_at h (gt 13 (by omega)) (x := 58) rfl
  have c16 := clsU_at h (gt 16 (by omega)) (x := 58) rfl
  have c19 := clsU_at h (gt 19 (by omega)) (x := 90) rfl
  rw [if_neg (by decide)] at c10 c13 c16 c19
  exact ⟨by rw [gt 10 (by omega), c10], by rw [gt 13 (by omega), c13], by rw [gt 16 (by omega), c16], by rw [gt 19 (by omega), c19]⟩
theorem prsU_yes {l : List UInt8} (h : looksP l) (hd : prsD (l.take 10) ≠ none) (hg : GoodU (prsUt l)) : prsU l = some (prsUt l) := by
  unfold prsU
  exact if_pos ⟨⟨h.1, (slash h).1, (slash h).2.1, (slash h).2.2.1, (slash h).2.2.2⟩, hd, hg⟩
theorem prsU_no {l : List UInt8} (h : ¬ looksP l) : prsU l = none := by
  cases hp : prsU l with
  | none => rfl
  | some u => exact absurd (prsU_looks hp).1 h
theorem strU_good' {u : U6} (h : GoodU u) : strU u = ofL (txtU u) := by unfold strU; rw [if_pos (show goodUb u = true from decide_eq_true h)]
theorem cU_z {w : World} {b : Nat} {u : U6} (h : Blk w b (cU u)) {k : World → Prop} {v : U6} (hk : ∀ w', Blk w' b (cU v) → Upd (fun x => x = b) w w' → k w') : stN (cU v) ⟨b, 0, none⟩ 0 w k := h.sta _ rfl rfl hk
def prsR (l : List UInt8) : D3 × Bool := match prsD l with | some d => (d, true) | none => ((0, 0, 0), false)
theorem prsR_none {l : List UInt8} (h : prsD l = none) : prsR l = ((0, 0, 0), false) := by unfold prsR; rw [h]
theorem prsR_some {l : List UInt8} {d : D3} (h : prsD l = some d) : prsR l = (d, true) := by unfold prsR; rw [h]
theorem civil_Parse.r {l : List UInt8} {w : World} {k : TR RDB → World → Prop} (h : ∀ w', Gro w w' → k (tD (prsR l).1, ((prsR l).2, ()), ()) w') : clS Try.prog F.civil_Parse [.string (ofL l)] w true RDB k :=
  civil_Parse.cl (fun hn w' u => by have := h w' u; rw [prsR_none hn] at this; exact this) fun d hd w' u => by have := h w' u; rw [prsR_some hd] at this; exact this
theorem ref20_Parse.r {l : List UInt8} {w : World} {k : TR RDB → World → Prop} (h : ∀ w', Gro w w' → k (tD (prsR l).1, ((prsR l).2, ()), ()) w') : clS Try.prog F.ref20_Parse [.string (ofL l)] w true RDB k :=
  ref20_Parse.cl (fun hn w' u => by have := h w' u; rw [prsR_none hn] at this; exact this) fun d hd w' u => by have := h w' u; rw [prsR_some hd] at this; exact this
/-- the second that is read, a date that can't be as none -/
def rdU (l : List UInt8) : U6 := ((prsR (l.take 10)).1.1, (prsR (l.take 10)).1.2.1, (prsR (l.take 10)).1.2.2, numL ((l.take 13).drop 11), numL ((l.take 16).drop 14), numL ((l.take 19).drop 17))
theorem rdU_some {l : List UInt8} (h : prsD (l.take 10) ≠ none) : rdU l = prsUt l ∧ (prsR (l.take 10)).2 = true := by
  cases hp : prsD (l.take 10) with
  | none => exact absurd hp h
  | some d =>
    unfold rdU prsUt
    rw [prsR_some hp, prsD_take hp]
    exact ⟨rfl, rfl⟩
theorem rdU_none {l : List UInt8} (h : prsD (l.take 10) = none) : ¬ GoodU (rdU l) ∧ (prsR (l.take 10)).2 = false := by
  unfold rdU
  rw [prsR_none h]
  exact ⟨fun hg => by have := hg.1.1; revert this; show ¬ (1 : Int) ≤ 0; omega, rfl⟩
theorem prsU_none {l : List UInt8} (h : prsD (l.take 10) = none ∨ ¬ GoodU (rdU l)) : prsU l = none := by
  cases hp : prsU l with
  | none => rfl
  | some u =>
    obtain ⟨_, e, hg, hd⟩ := prsU_looks hp
    rcases h with h | h
    · exact absurd h hd
    · rw [(rdU_some hd).1, e] at h; exact absurd hg h
theorem prsU_read {l : List UInt8} (h : looksP l) (hg : GoodU (rdU l)) : prsU l = some (rdU l) := by
  have hd : prsD (l.take 10) ≠ none := fun e => (rdU_none e).1 hg
  rw [(rdU_some hd).1] at hg ⊢
  exact prsU_yes h hd hg
theorem pieces {l : List UInt8} (h : looksP l) : ∃ a b c d e f r1 r2 r3, isDg a ∧ isDg b ∧ isDg c ∧ isDg d ∧ isDg e ∧ isDg f ∧ l.drop 11 = a :: b :: r1 ∧ l.drop 14 = c :: d :: r2 ∧ l.drop 17 = e :: f :: r3 ∧
    (l.take 13).drop 11 = [a, b] ∧ (l.take 16).drop 14 = [c, d] ∧ (l.take 19).drop 17 = [e, f] := by
  have H := @clsU_at _ h
  obtain ⟨a, b, c, d, e, f, g, hh, i, j, k, m, n, o, p, q, r, s, t, u, rfl⟩ := list20 h.1
  have c11 := H (j := 11) rfl rfl
  have c12 := H (j := 12) rfl rfl
  have c14 := H (j := 14) rfl rfl
  have c15 := H (j := 15) rfl rfl
  have c17 := H (j := 17) rfl rfl
  have c18 := H (j := 18) rfl rfl
  rw [if_pos rfl] at c11 c12 c14 c15 c17 c18
  exact ⟨m, n, p, q, s, t, _, _, _, c11, c12, c14, c15, c17, c18, rfl, rfl, rfl, rfl, rfl, rfl⟩
theorem pieces2 {l : List UInt8} (h : l.length = 20) : ∃ a b c d e f, (l.take 13).drop 11 = [a, b] ∧ (l.take 16).drop 14 = [c, d] ∧ (l.take 19).drop 17 = [e, f] := by
  obtain ⟨a, b, c, d, e, f, g, hh, i, j, k, m, n, o, p, q, r, s, t, u, rfl⟩ := list20 h
  exact ⟨m, n, p, q, s, t, rfl, rfl, rfl⟩

set_option maxRecDepth 20000 in
set_option maxHeartbeats 2000000 in
theorem utc_Parse.cl {l : List UInt8} {w : World} {k : TR RUB → World → Prop} (h0 : prsU l = none → ∀ w', Gro w w' → k (tU z6, (false, ()), ()) w') (h1 : ∀ u, prsU l = some u → ∀ w', Gro w w' → k (tU u, (true, ()), ()) w') :
    clS Try.prog F.utc_Parse [.string (ofL l)] w true RUB k := by
  refine utc_Parse.ok ?_
  unfold utc_Parse.wp
  refine alK_by fun p1 w2 e1 k1 u1 => ?_
  have l1 := k1.lt
  have no : prsU l = none → ∀ {w'}, Gro w w' → Blk w' p1 (cU z6) → stN (cU z6) ⟨p1, 0, none⟩ 0 w' fun w3 => ldN KU6 ⟨p1, 0, none⟩ 0 w3 fun x6 => k ((x6.1, x6.2.1, x6.2.2.1, x6.2.2.2.1, x6.2.2.2.2.1, x6.2.2.2.2.2.1, ()), (false, ()), ()) w3 := fun hn w' g kb =>
    cU_z (u := z6) (v := z6) kb fun w3 k3 u3 => Blk.ldU (u := z6) k3 (h0 hn w3 (Upd.trans g u3 fun i hi h => by omega))
  refine utc_looks.cl (fun hn w4 u4 => brT rfl (no (prsU_no hn) (u1.trans u4) (k1.gro u4))) fun hl w4 u4 => brF rfl ?_
  have hlen := hl.1
  have g4 := u1.trans u4
  have q1 := k1.gro u4
  rw [ofL_size, hlen, slK_eq (by omega)]
  have ex0 : (ofL l).extract (Int.toNat 0) (Int.toNat 10) = ofL (l.take 10) := by rw [ofL_extract]; rfl
  rw [ex0]
  refine civil_Parse.r fun w8 u8 => ?_
  obtain ⟨d, hd⟩ : ∃ d, d = (prsR (l.take 10)).1 := ⟨_, rfl⟩
  rw [← hd]
  refine alK_by fun p9 w10 e9 k9 u10 => k9.sta _ rfl rfl fun w11 k11 u11 => ?_
  have g11 : Gro w4 w11 := Gro.fresh u8 u10 u11 e9
  obtain ⟨a1, a2, b1, b2, c1, c2, r1, r2, r3, da1, da2, db1, db2, dc1, dc2, x11, x14, x17, y11, y14, y17⟩ := pieces hl
  have hu : rdU l = (d.1, d.2.1, d.2.2, numL [a1, a2], numL [b1, b2], numL [c1, c2]) := by unfold rdU; rw [y11, y14, y17, ← hd]
  have v1 := q1.gro g11
  have lp9 := k11.lt
  have lp1 := q1.lt
  have ord : p1 < p9 := by have := u8.size; omega
  refine CutT.by (fun z W => ∃ b, z.1 = ⟨b, 0, none⟩ ∧ Gro w W ∧ Blk W p1 (cU z6) ∧ p1 < b ∧ Blk W b (cU (rdU l))) ?_ ?_
  · rw [drK_eq]
    have k11 := k11.drew
    have v1 := v1.drew
    have G := (g4.trans g11).trans (Gro.drew w11)
    generalize w11.drew = w15 at k11 v1 G
    refine k11.ld3 ?_
    rw [slK_eq (by omega), slK_eq (by omega), slK_eq (by omega)]
    have e11 : (ofL l).extract (Int.toNat 11) (Int.toNat ((20 : Nat) : Int)) = ofL (a1 :: a2 :: r1) := by rw [ofL_extract, Int.toNat_natCast, ← hlen, List.take_length]; exact congrArg ofL x11
    have e14 : (ofL l).extract (Int.toNat 14) (Int.toNat ((20 : Nat) : Int)) = ofL (b1 :: b2 :: r2) := by rw [ofL_extract, Int.toNat_natCast, ← hlen, List.take_length]; exact congrArg ofL x14
    have e17 : (ofL l).extract (Int.toNat 17) (Int.toNat ((20 : Nat) : Int)) = ofL (c1 :: c2 :: r3) := by rw [ofL_extract, Int.toNat_natCast, ← hlen, List.take_length]; exact congrArg ofL x17
    rw [e11, e14, e17]
    have hh : ∀ {w'}, Gro w15 w' → (w'.cell? (Addr.add ⟨p9, 0, none⟩ 0) = some ((w15.cell? (Addr.add ⟨p9, 0, none⟩ 0)).getD undef) ∧ w'.cell? (Addr.add ⟨p9, 0, none⟩ 1) = some ((w15.cell? (Addr.add ⟨p9, 0, none⟩ 1)).getD undef) ∧ w'.cell? (Addr.add ⟨p9, 0, none⟩ 2) = some ((w15.cell? (Addr.add ⟨p9, 0, none⟩ 2)).getD undef) ∧ True) :=
      fun u => ⟨k11.hold u (fun x => x) 0 (by simp), k11.hold u (fun x => x) 1 (by simp), k11.hold u (fun x => x) 2 (by simp), trivial⟩
    rw [hu]
    have l15 := v1.lt
    have fin : ∀ {b : Nat} {w0 w' w'' : World}, w0.heap.size = b → Gro w15 w0 → Gro w15 w' → Blk w'' b (cU (d.1, d.2.1, d.2.2, numL [a1, a2], numL [b1, b2], numL [c1, c2])) → Upd (fun x => x = b) w' w'' →
        ∃ b', (⟨b, 0, none⟩ : Addr) = ⟨b', 0, none⟩ ∧ Gro w w'' ∧ Blk w'' p1 (cU z6) ∧ p1 < b' ∧ Blk w'' b' (cU (d.1, d.2.1, d.2.2, numL [a1, a2], numL [b1, b2], numL [c1, c2])) := by
      intro b w0 w' w'' e g0 g kb u
      have s0 := g0.size
      have s1 := G.size
      exact ⟨b, rfl, Upd.trans (G.trans g) u fun i hi h => by omega, (v1.gro g).upd u (by omega), by omega, kb⟩
    have D := Gro.drew
    refine ⟨?_, ?_⟩
    · refine utc_num.cl da1 da2 ⟨hh (D _), ?_⟩
      refine ⟨?_, ?_⟩
      · refine utc_num.cl db1 db2 ⟨hh ((D _).trans (D _)), ?_⟩
        refine ⟨?_, ?_⟩
        · refine utc_num.cl dc1 dc2 ⟨hh (((D _).trans (D _)).trans (D _)), ?_⟩
          refine alK_by fun p w e k u => ⟨hh ((((D _).trans (D _)).trans (D _)).trans u), ?_⟩
          exact cU_z (u := z6) (v := (d.1, d.2.1, d.2.2, numL [a1, a2], numL [b1, b2], numL [c1, c2])) k fun w25 k25 u25 => ⟨trivial, fin e (((D _).trans (D _)).trans (D _)) ((((D _).trans (D _)).trans (D _)).trans u) k25 u25⟩
        · refine alK_by fun p w e k u => ⟨hh (((D _).trans (D _)).trans u), ?_⟩
          refine utc_num.cl dc1 dc2 ⟨hh ((((D _).trans (D _)).trans u).trans (D _)), ?_⟩
          exact cU_z (u := z6) (v := (d.1, d.2.1, d.2.2, numL [a1, a2], numL [b1, b2], numL [c1, c2])) k.drew fun w25 k25 u25 => ⟨trivial, fin e ((D _).trans (D _)) ((((D _).trans (D _)).trans u).trans (D _)) k25 u25⟩
      · refine alK_by fun p w e k u => ⟨hh ((D _).trans u), ?_⟩
        refine utc_num.cl db1 db2 ⟨hh (((D _).trans u).trans (D _)), ?_⟩
        refine utc_num.cl dc1 dc2 ⟨hh ((((D _).trans u).trans (D _)).trans (D _)), ?_⟩
        exact cU_z (u := z6) (v := (d.1, d.2.1, d.2.2, numL [a1, a2], numL [b1, b2], numL [c1, c2])) k.drew.drew fun w25 k25 u25 => ⟨trivial, fin e (D _) ((((D _).trans u).trans (D _)).trans (D _)) k25 u25⟩
    · refine alK_by fun p w e k u => ⟨hh u, ?_⟩
      refine utc_num.cl da1 da2 ⟨hh (u.trans (D _)), ?_⟩
      refine utc_num.cl db1 db2 ⟨hh ((u.trans (D _)).trans (D _)), ?_⟩
      refine utc_num.cl dc1 dc2 ⟨hh (((u.trans (D _)).trans (D _)).trans (D _)), ?_⟩
      exact cU_z (u := z6) (v := (d.1, d.2.1, d.2.2, numL [a1, a2], numL [b1, b2], numL [c1, c2])) k.drew.drew.drew fun w25 k25 u25 => ⟨trivial, fin e (Gro.refl _) (((u.trans (D _)).trans (D _)).trans (D _)) k25 u25⟩
  · rintro ⟨z, _⟩ W ⟨b, hz, G, kp, hpb, kb⟩ _
    dsimp only at hz
    subst hz
    refine Blk.ldU (u := rdU l) kb (utc_Utc_Good.cl (u := rdU l) fun w49 u49 => brNot (fun c => ?_) fun c => ?_)
    · have c : ¬ GoodU (rdU l) := of_decide_eq_false c
      exact no (prsU_none (.inr c)) (G.trans u49) (kp.gro u49)
    · have c : GoodU (rdU l) := of_decide_eq_true c
      refine Blk.ldU (u := rdU l) (kb.gro u49) (cU_z (u := z6) (v := rdU l) (kp.gro u49) fun w53 k53 u53 => Blk.ldU (u := rdU l) k53 ?_)
      exact h1 _ (prsU_read hl c) w53 (Upd.trans (G.trans u49) u53 fun i hi h => by omega)
set_option maxRecDepth 20000 in
set_option maxHeartbeats 2000000 in
theorem ref22_Parse.cl {l : List UInt8} {w : World} {k : TR RUB → World → Prop} (h0 : prsU l = none → ∀ w', Gro w w' → k (tU z6, (false, ()), ()) w') (h1 : ∀ u, prsU l = some u → ∀ w', Gro w w' → k (tU u, (true, ()), ()) w') :
    clS Try.prog F.ref22_Parse [.string (ofL l)] w true RUB k := by
  refine ref22_Parse.ok ?_
  unfold ref22_Parse.wp
  refine alK_by fun p1 w2 e1 k1 u1 => ?_
  have l1 := k1.lt
  have no : prsU l = none → ∀ {w'}, Gro w w' → Blk w' p1 (cU z6) → stN (cU z6) ⟨p1, 0, none⟩ 0 w' fun w3 => ldN KU6 ⟨p1, 0, none⟩ 0 w3 fun x6 => k ((x6.1, x6.2.1, x6.2.2.1, x6.2.2.2.1, x6.2.2.2.2.1, x6.2.2.2.2.2.1, ()), (false, ()), ()) w3 := fun hn w' g kb =>
    cU_z (u := z6) (v := z6) kb fun w3 k3 u3 => Blk.ldU (u := z6) k3 (h0 hn w3 (Upd.trans g u3 fun i hi h => by omega))
  rw [ofL_size]
  refine brN (fun c => no (prsU_no fun h => by have c : (l.length : Int) ≠ 20 := c; have := h.1; omega) u1 k1) fun cl => ?_
  have cl : (l.length : Int) = 20 := cl
  have hlen : l.length = 20 := by omega
  have gt : ∀ j (hj : j < 20), l[j]? = some (l[j]'(by omega)) := fun j hj => List.getElem?_eq_getElem _
  have ne : ∀ {x y : UInt8} {n : Nat}, y.toNat = n → (x.toNat : Int) ≠ n → ¬ some x = some y := fun {x y n} hy h e => by injection e with e; subst e; exact h (by rw [hy])
  have eq : ∀ {x y : UInt8} {n : Nat}, y.toNat = n → (x.toNat : Int) = n → x = y := fun {x y n} hy h => UInt8.toNat_inj.1 (by omega)
  have g10 := gt 10 (by omega)
  have g13 := gt 13 (by omega)
  have g16 := gt 16 (by omega)
  have g19 := gt 19 (by omega)
  generalize l[10]'(by omega) = z10 at g10
  generalize l[13]'(by omega) = z13 at g13
  generalize l[16]'(by omega) = z16 at g16
  generalize l[19]'(by omega) = z19 at g19
  refine siK_by (i := 10) rfl g10 (brN (fun c => no (prsU_no fun h => ne (y := 84) rfl c (g10 ▸ (slash h).1)) u1 k1) fun c10 => ?_)
  refine siK_by (i := 13) rfl g13 (brN (fun c => no (prsU_no fun h => ne (y := 58) rfl c (g13 ▸ (slash h).2.1)) u1 k1) fun c13 => ?_)
  refine siK_by (i := 16) rfl g16 (brN (fun c => no (prsU_no fun h => ne (y := 58) rfl c (g16 ▸ (slash h).2.2.1)) u1 k1) fun c16 => ?_)
  refine siK_by (i := 19) rfl g19 (brN (fun c => no (prsU_no fun h => ne (y := 90) rfl c (g19 ▸ (slash h).2.2.2)) u1 k1) fun c19 => ?_)
  have c10 := eq (y := 84) rfl c10
  have c13 := eq (y := 58) rfl c13
  have c16 := eq (y := 58) rfl c16
  have c19 := eq (y := 90) rfl c19
  subst c10 c13 c16 c19
  rw [hlen, slK_eq (by omega)]
  have ex0 : (ofL l).extract (Int.toNat 0) (Int.toNat 10) = ofL (l.take 10) := by rw [ofL_extract]; rfl
  rw [ex0]
  refine ref20_Parse.r fun w8 u8 => ?_
  obtain ⟨d, hd⟩ : ∃ d, d = (prsR (l.take 10)).1 := ⟨_, rfl⟩
  rw [← hd]
  refine alK_by fun p9 w10 e9 k9 u10 => k9.sta _ rfl rfl fun w11 k11 u11 => ?_
  have g11 : Gro w2 w11 := Gro.fresh u8 u10 u11 e9
  obtain ⟨a1, a2, b1, b2, c1, c2, y11, y14, y17⟩ := pieces2 hlen
  have hu : rdU l = (d.1, d.2.1, d.2.2, numL [a1, a2], numL [b1, b2], numL [c1, c2]) := by unfold rdU; rw [y11, y14, y17, ← hd]
  have v1 := k1.gro g11
  have lp9 := k11.lt
  refine CutT.by (fun z W => ∃ b, z.1 = ⟨b, 0, none⟩ ∧ Gro w W ∧ Blk W p1 (cU z6) ∧ p1 < b ∧ Blk W b (cU (rdU l))) ?_ ?_
  · rw [drK_eq]
    have k11 := k11.drew
    have v1 := v1.drew
    have G := (u1.trans g11).trans (Gro.drew w11)
    generalize w11.drew = w15 at k11 v1 G
    refine k11.ld3 ?_
    rw [slK_eq (by omega), slK_eq (by omega), slK_eq (by omega)]
    have e11 : (ofL l).extract (Int.toNat 11) (Int.toNat 13) = ofL [a1, a2] := by rw [ofL_extract]; exact congrArg ofL y11
    have e14 : (ofL l).extract (Int.toNat 14) (Int.toNat 16) = ofL [b1, b2] := by rw [ofL_extract]; exact congrArg ofL y14
    have e17 : (ofL l).extract (Int.toNat 17) (Int.toNat 19) = ofL [c1, c2] := by rw [ofL_extract]; exact congrArg ofL y17
    rw [e11, e14, e17]
    have hh : ∀ {w'}, Gro w15 w' → (w'.cell? (Addr.add ⟨p9, 0, none⟩ 0) = some ((w15.cell? (Addr.add ⟨p9, 0, none⟩ 0)).getD undef) ∧ w'.cell? (Addr.add ⟨p9, 0, none⟩ 1) = some ((w15.cell? (Addr.add ⟨p9, 0, none⟩ 1)).getD undef) ∧ w'.cell? (Addr.add ⟨p9, 0, none⟩ 2) = some ((w15.cell? (Addr.add ⟨p9, 0, none⟩ 2)).getD undef) ∧ True) :=
      fun u => ⟨k11.hold u (fun x => x) 0 (by simp), k11.hold u (fun x => x) 1 (by simp), k11.hold u (fun x => x) 2 (by simp), trivial⟩
    rw [hu]
    have l15 := v1.lt
    have fin : ∀ {b : Nat} {w0 w' w'' : World}, w0.heap.size = b → Gro w15 w0 → Gro w15 w' → Blk w'' b (cU (d.1, d.2.1, d.2.2, numL [a1, a2], numL [b1, b2], numL [c1, c2])) → Upd (fun x => x = b) w' w'' →
        ∃ b', (⟨b, 0, none⟩ : Addr) = ⟨b', 0, none⟩ ∧ Gro w w'' ∧ Blk w'' p1 (cU z6) ∧ p1 < b' ∧ Blk w'' b' (cU (d.1, d.2.1, d.2.2, numL [a1, a2], numL [b1, b2], numL [c1, c2])) := by
      intro b w0 w' w'' e g0 g kb u
      have s0 := g0.size
      have s1 := G.size
      exact ⟨b, rfl, Upd.trans (G.trans g) u fun i hi h => by omega, (v1.gro g).upd u (by omega), by omega, kb⟩
    refine ⟨?_, ?_⟩
    · refine ref22_num.cl fun wa ua => ⟨hh ua, ?_⟩
      refine ⟨?_, ?_⟩
      · refine ref22_num.cl fun wb ub => ⟨hh (ua.trans ub), ?_⟩
        refine ⟨?_, ?_⟩
        · refine ref22_num.cl fun wc uc => ⟨hh ((ua.trans ub).trans uc), ?_⟩
          refine alK_by fun p w e k u => ⟨hh (((ua.trans ub).trans uc).trans u), ?_⟩
          exact cU_z (u := z6) (v := (d.1, d.2.1, d.2.2, numL [a1, a2], numL [b1, b2], numL [c1, c2])) k fun w25 k25 u25 => ⟨trivial, fin e ((ua.trans ub).trans uc) (((ua.trans ub).trans uc).trans u) k25 u25⟩
        · refine alK_by fun p w e k u => ⟨hh ((ua.trans ub).trans u), ?_⟩
          refine ref22_num.cl fun wc uc => ⟨hh (((ua.trans ub).trans u).trans uc), ?_⟩
          exact cU_z (u := z6) (v := (d.1, d.2.1, d.2.2, numL [a1, a2], numL [b1, b2], numL [c1, c2])) (k.gro uc) fun w25 k25 u25 => ⟨trivial, fin e (ua.trans ub) (((ua.trans ub).trans u).trans uc) k25 u25⟩
      · refine alK_by fun p w e k u => ⟨hh (ua.trans u), ?_⟩
        refine ref22_num.cl fun wb ub => ⟨hh ((ua.trans u).trans ub), ?_⟩
        refine ref22_num.cl fun wc uc => ⟨hh (((ua.trans u).trans ub).trans uc), ?_⟩
        exact cU_z (u := z6) (v := (d.1, d.2.1, d.2.2, numL [a1, a2], numL [b1, b2], numL [c1, c2])) ((k.gro ub).gro uc) fun w25 k25 u25 => ⟨trivial, fin e ua (((ua.trans u).trans ub).trans uc) k25 u25⟩
    · refine alK_by fun p w e k u => ⟨hh u, ?_⟩
      refine ref22_num.cl fun wa ua => ⟨hh (u.trans ua), ?_⟩
      refine ref22_num.cl fun wb ub => ⟨hh ((u.trans ua).trans ub), ?_⟩
      refine ref22_num.cl fun wc uc => ⟨hh (((u.trans ua).trans ub).trans uc), ?_⟩
      exact cU_z (u := z6) (v := (d.1, d.2.1, d.2.2, numL [a1, a2], numL [b1, b2], numL [c1, c2])) (((k.gro ua).gro ub).gro uc) fun w25 k25 u25 => ⟨trivial, fin e (Gro.refl _) (((u.trans ua).trans ub).trans uc) k25 u25⟩
  · rintro ⟨z, _⟩ W ⟨b, hz, G, kp, hpb, kb⟩ _
    dsimp only at hz
    subst hz
    refine brNot (fun c => ?_) fun c0 => ?_
    · refine no (prsU_none (.inl ?_)) G kp
      cases hp : prsD (l.take 10) with
      | none => rfl
      | some d' => rw [prsR_some hp] at c; cases c
    refine Blk.ldU (u := rdU l) kb (ref22_Good.cl (u := rdU l) fun w49 u49 => brNot (fun c => ?_) fun c => ?_)
    · have c : ¬ GoodU (rdU l) := of_decide_eq_false c
      exact no (prsU_none (.inr c)) (G.trans u49) (kp.gro u49)
    · have c : GoodU (rdU l) := of_decide_eq_true c
      have hp : prsU l = some (rdU l) := by
        have hd : prsD (l.take 10) ≠ none := fun e => (rdU_none e).1 c
        have c' := c
        rw [(rdU_some hd).1] at c' ⊢
        unfold prsU
        exact if_pos ⟨⟨hlen, g10, g13, g16, g19⟩, hd, c'⟩
      refine Blk.ldU (u := rdU l) (kb.gro u49) (cU_z (u := z6) (v := rdU l) (kp.gro u49) fun w53 k53 u53 => Blk.ldU (u := rdU l) k53 ?_)
      exact h1 _ hp w53 (Upd.trans (G.trans u49) u53 fun i hi h => by omega)
def outU (l : List UInt8) : U6 × Bool := match prsU l with | some u => (u, true) | none => (z6, false)
theorem utc_Parse.r {l : List UInt8} {w : World} {k : TR RUB → World → Prop} (h : ∀ w', Gro w w' → k (tU (outU l).1, ((outU l).2, ()), ()) w') : clS Try.prog F.utc_Parse [.string (ofL l)] w true RUB k :=
  utc_Parse.cl (fun hn w' u => by have := h w' u; unfold outU at this; rw [hn] at this; exact this) fun d hd w' u => by have := h w' u; unfold outU at this; rw [hd] at this; exact this
theorem ref22_Parse.r {l : List UInt8} {w : World} {k : TR RUB → World → Prop} (h : ∀ w', Gro w w' → k (tU (outU l).1, ((outU l).2, ()), ()) w') : clS Try.prog F.ref22_Parse [.string (ofL l)] w true RUB k :=
  ref22_Parse.cl (fun hn w' u => by have := h w' u; unfold outU at this; rw [hn] at this; exact this) fun d hd w' u => by have := h w' u; unfold outU at this; rw [hd] at this; exact this
theorem beqB {a b : ByteArray} (h : a = b) : (a == b) = true := (ba_beq_iff a b).2 h
set_option maxRecDepth 20000 in
set_option maxHeartbeats 2000000 in
theorem law22_UtcTexts.cl {u : U6} {l : List UInt8} {w : World} : clS Try.prog F.law22_UtcTexts [vU u, .string (ofL l)] w false RB1 (Holds w) := by
  refine law22_UtcTexts.ok ?_
  unfold law22_UtcTexts.wp
  refine alK_by fun p1 w2 e1 k1 u1 => law22_alive.cl fun w4 u4 => brF rfl ?_
  have g4 := u1.trans u4
  have q1 := k1.gro u4
  refine brD (fun _ => holds g4 rfl) fun _ => Blk.ldU (u := u) q1 (law22_of.cl (u := u) fun w7 u7 => alK_by fun p8 w9 e8 k8 u9 => k8.sta _ rfl rfl fun w10 k10 u10 => ?_)
  have g10 : Gro w4 w10 := Gro.fresh u7 u9 u10 e8
  rw [drK_eq]
  have K8 := k10.drew
  have K1 := (q1.gro g10).drew
  have G := (g4.trans g10).trans (Gro.drew w10)
  generalize w10.drew = w11 at K8 K1 G
  have h1 : ∀ {w'}, Gro w11 w' → ∀ i, i < 6 → w'.cell? (Addr.add ⟨p1, 0, none⟩ i) = some ((w11.cell? (Addr.add ⟨p1, 0, none⟩ i)).getD undef) := fun u i hi => K1.hold u (fun x => x) i (by simpa using hi)
  have h8 : ∀ {w'}, Gro w11 w' → ∀ i, i < 6 → w'.cell? (Addr.add ⟨p8, 0, none⟩ i) = some ((w11.cell? (Addr.add ⟨p8, 0, none⟩ i)).getD undef) := fun u i hi => K8.hold u (fun x => x) i (by simpa using hi)
  refine Blk.ldU (u := u) K8 (Blk.ldU (u := u) K1 (utc_Utc_Good.cl (u := u) fun w15 u15 => ⟨⟨h1 u15 0 (by decide), h1 u15 1 (by decide), h1 u15 2 (by decide), h1 u15 3 (by decide), h1 u15 4 (by decide), h1 u15 5 (by decide), h8 u15 0 (by decide), h8 u15 1 (by decide), h8 u15 2 (by decide), h8 u15 3 (by decide), h8 u15 4 (by decide), h8 u15 5 (by decide), trivial⟩, ?_⟩))
  refine ref22_Good.cl (u := u) fun w17 u17 => ?_
  have v17 := u15.trans u17
  refine ⟨⟨h1 v17 0 (by decide), h1 v17 1 (by decide), h1 v17 2 (by decide), h1 v17 3 (by decide), h1 v17 4 (by decide), h1 v17 5 (by decide), h8 v17 0 (by decide), h8 v17 1 (by decide), h8 v17 2 (by decide), h8 v17 3 (by decide), h8 v17 4 (by decide), h8 v17 5 (by decide), trivial⟩, ?_⟩
  refine brF (by show (!(goodUb u == goodUb u)) = false; simp) ?_
  have K8' := K8.gro v17
  have K1' := K1.gro v17
  have h1' : ∀ {w'}, Gro w17 w' → ∀ i, i < 6 → w'.cell? (Addr.add ⟨p1, 0, none⟩ i) = some ((w17.cell? (Addr.add ⟨p1, 0, none⟩ i)).getD undef) := fun u i hi => K1'.hold u (fun x => x) i (by simpa using hi)
  have h8' : ∀ {w'}, Gro w17 w' → ∀ i, i < 6 → w'.cell? (Addr.add ⟨p8, 0, none⟩ i) = some ((w17.cell? (Addr.add ⟨p8, 0, none⟩ i)).getD undef) := fun u i hi => K8'.hold u (fun x => x) i (by simpa using hi)
  refine Blk.ldU (u := u) K8' (Blk.ldU (u := u) K1' (utc_Utc_Text.cl (u := u) fun w21 u21 => ?_))
  have f21 := v17.trans u21
  refine ⟨⟨h1' u21 0 (by decide), h1' u21 1 (by decide), h1' u21 2 (by decide), h1' u21 3 (by decide), h1' u21 4 (by decide), h1' u21 5 (by decide), h8' u21 0 (by decide), h8' u21 1 (by decide), h8' u21 2 (by decide), h8' u21 3 (by decide), h8' u21 4 (by decide), h8' u21 5 (by decide),
    h1 f21 0 (by decide), h1 f21 1 (by decide), h1 f21 2 (by decide), h1 f21 3 (by decide), h1 f21 4 (by decide), h1 f21 5 (by decide), h8 f21 0 (by decide), h8 f21 1 (by decide), h8 f21 2 (by decide), h8 f21 3 (by decide), h8 f21 4 (by decide), h8 f21 5 (by decide), trivial⟩, ?_⟩
  refine ref22_Text.cl (u := u) fun w23 u23 => ?_
  have v23 := u21.trans u23
  have f23 := f21.trans u23
  refine ⟨⟨h8' v23 0 (by decide), h8' v23 1 (by decide), h8' v23 2 (by decide), h8' v23 3 (by decide), h8' v23 4 (by decide), h8' v23 5 (by decide),
    h1 f23 0 (by decide), h1 f23 1 (by decide), h1 f23 2 (by decide), h1 f23 3 (by decide), h1 f23 4 (by decide), h1 f23 5 (by decide), h8 f23 0 (by decide), h8 f23 1 (by decide), h8 f23 2 (by decide), h8 f23 3 (by decide), h8 f23 4 (by decide), h8 f23 5 (by decide), trivial⟩, ?_⟩
  refine brF (by show (!(strU u == strU u)) = false; rw [beqB rfl]; rfl) ?_
  have G23 := G.trans f23
  have k23 := K8.gro f23
  refine CutT.by (fun _ W => Gro w W) ?_ ?_
  · refine Blk.ldU (u := u) k23 (utc_Utc_Good.cl (u := u) fun w29 u29 => brC (fun c => ?_) fun _ => G23.trans u29)
    have c : GoodU u := of_decide_eq_true c
    refine Blk.ldU (u := u) (k23.gro u29) (utc_Utc_Text.cl (u := u) fun w32 u32 => ?_)
    rw [strU_good' c]
    refine utc_Parse.cl (fun hn => by rw [good_txt c] at hn; cases hn) fun u' hu w34 u34 => ?_
    rw [good_txt c] at hu
    injection hu with hu
    subst hu
    refine alK_by fun p35 w36 e35 k35 u36 => k35.sta _ rfl rfl fun w37 k37 u37 => ?_
    have g37 : Gro w23 w37 := Gro.fresh ((u29.trans u32).trans u34) u36 u37 e35
    refine brF rfl (Blk.ldU (u := u) k37 (Blk.ldU (u := u) (k23.gro g37) (brF ?_ (G23.trans g37))))
    show (!_) = false
    rw [eq6_self u]; rfl
  · intro _ w26 g26 _
    refine utc_Parse.r fun w41 u41 => ?_
    obtain ⟨A, hA⟩ : ∃ A, A = outU l := ⟨_, rfl⟩
    rw [← hA]
    refine alK_by fun p42 w43 e42 k42 u43 => k42.sta _ rfl rfl fun w44 k44 u44 => ?_
    have g44 : Gro w26 w44 := Gro.fresh u41 u43 u44 e42
    refine ref22_Parse.r fun w46 u46 => ?_
    rw [← hA]
    refine alK_by fun p47 w48 e47 k47 u48 => k47.sta _ rfl rfl fun w49 k49 u49 => ?_
    have g49 : Gro w44 w49 := Gro.fresh u46 u48 u49 e47
    rw [drK_eq]
    have K42 := (k44.gro g49).drew
    have K47 := k49.drew
    have G2 := ((g26.trans g44).trans g49).trans (Gro.drew w49)
    generalize w49.drew = w50 at K42 K47 G2
    have ha : ∀ {w'}, Gro w50 w' → ∀ i, i < 6 → w'.cell? (Addr.add ⟨p42, 0, none⟩ i) = some ((w50.cell? (Addr.add ⟨p42, 0, none⟩ i)).getD undef) := fun u i hi => K42.hold u (fun x => x) i (by simpa using hi)
    have hb : ∀ {w'}, Gro w50 w' → ∀ i, i < 6 → w'.cell? (Addr.add ⟨p47, 0, none⟩ i) = some ((w50.cell? (Addr.add ⟨p47, 0, none⟩ i)).getD undef) := fun u i hi => K47.hold u (fun x => x) i (by simpa using hi)
    refine Blk.ldU (u := A.1) K42 (Blk.ldU (u := A.1) K47 (law22_plain.cl (u := A.1) fun w54 u54 => ⟨⟨hb u54 0 (by decide), hb u54 1 (by decide), hb u54 2 (by decide), hb u54 3 (by decide), hb u54 4 (by decide), hb u54 5 (by decide), ha u54 0 (by decide), ha u54 1 (by decide), ha u54 2 (by decide), ha u54 3 (by decide), ha u54 4 (by decide), ha u54 5 (by decide), trivial⟩, ?_⟩))
    refine brT (eq6_self A.1) ?_
    refine brT (by show (A.2 == A.2) = true; simp) ?_
    refine brNot (fun _ => holds (G2.trans u54) rfl) fun c => Blk.ldU (u := A.1) (K42.gro u54) (utc_Utc_Text.cl (u := A.1) fun w57 u57 => ?_)
    have v57 := u54.trans u57
    refine ⟨⟨hb v57 0 (by decide), hb v57 1 (by decide), hb v57 2 (by decide), hb v57 3 (by decide), hb v57 4 (by decide), hb v57 5 (by decide), ha v57 0 (by decide), ha v57 1 (by decide), ha v57 2 (by decide), ha v57 3 (by decide), ha v57 4 (by decide), ha v57 5 (by decide), trivial⟩, ?_⟩
    refine holds (G2.trans v57) ?_
    have c : A.2 = true := c
    show (strU A.1 == ofL l) = true
    cases hp : prsU l with
    | none => rw [hA] at c; unfold outU at c; rw [hp] at c; cases c
    | some v =>
      obtain ⟨hl, e, hg, _⟩ := prsU_looks hp
      have eA : A.1 = v := by rw [hA]; unfold outU; rw [hp]
      rw [eA, strU_good' hg, ← e, txt_back hl]
      exact beqB rfl
theorem law22_UtcTexts.fin {x : Tvs KU6} {s : ByteArray} {w : World} : clS Try.prog F.law22_UtcTexts [.agg (encs KU6 x).toArray, .string s] w false RB1 (Holds w) := by
  rw [← toL_ofL s]
  exact law22_UtcTexts.cl (u := uX x)
end Go.Proofs.Ytimdngcmbmamdaa
