/- The law UtcLeaps. Conditions: what an argument is. -/
import Derived.Test.YtimdngcmbmamdaaCutcB
namespace Go.Proofs.Ytimdngcmbmamdaa
open Go.Eng Go
set_option linter.unusedVariables false
set_option linter.unusedSimpArgs false

/-- the second that is k behind the next midnight -/
def AtK (m : Tb) (day k : Int) (u : U6) : Prop := GoodU u ∧ (k < 0 → numD (dU u) = day ∧ secU u = 86400 + stS m.ls day + k) ∧ (0 ≤ k → numD (dU u) = day + 1 ∧ secU u = k)
theorem AtK.less {m : Tb} {day k : Int} {u v : U6} (hu : AtK m day k u) (hv : AtK m day (k + 1) v) : Op.bytesLess (txtU u) (txtU v) = true ∧ Op.bytesLess (txtU v) (txtU u) = false ∧ txtU v ≠ txtU u := by
  have hl : keyD (dU u) < keyD (dU v) ∨ dU u = dU v ∧ secU u < secU v := by
    have kd := numD_iff hu.1.1 hv.1.1
    rcases ilt_ge (k + 1) 0 with c | c
    · have a := hu.2.1 (by omega)
      have b := hv.2.1 c
      exact .inr ⟨numD_inj hu.1.1 hv.1.1 (a.1.trans b.1.symm), by omega⟩
    · have b := hv.2.2 c
      rcases ilt_ge k 0 with c2 | c2
      · have a := hu.2.1 c2
        exact .inl (kd.1 (by omega))
      · have a := hu.2.2 c2
        exact .inr ⟨numD_inj hu.1.1 hv.1.1 (a.1.trans b.1.symm), by omega⟩
  have e1 : Op.bytesLess (txtU u) (txtU v) = true := by rw [txtU_less hu.1 hv.1]; exact decide_eq_true hl
  refine ⟨e1, ?_, fun e => ?_⟩
  · rw [txtU_less hv.1 hu.1, decide_eq_false_iff_not]
    rintro (h | ⟨h1, h2⟩)
    · rcases hl with hl | ⟨hl, _⟩
      · omega
      · rw [hl] at h; omega
    · rcases hl with hl | ⟨_, hl⟩
      · rw [h1] at hl; omega
      · omega
  · rw [e, less_self] at e1; cases e1
theorem uOf_min {d : D3} {s : Int} (h0 : 86396 ≤ s) (h1 : s ≤ 86400) : (uOf d s).2.2.2.1 = 23 ∧ (uOf d s).2.2.2.2.1 = 59 ∧ (uOf d s).2.2.2.2.2 = s - 86340 := by
  unfold uOf
  split
  · subst_vars; exact ⟨rfl, rfl, rfl⟩
  · dsimp only; omega
theorem uOf_zero {d : D3} {s : Int} (h0 : 0 ≤ s) (h1 : s ≤ 1) : (uOf d s).2.2.2.1 = 0 ∧ (uOf d s).2.2.2.2.2 = s := by
  unfold uOf
  rw [if_neg (by omega)]
  dsimp only; omega
set_option maxRecDepth 20000 in
set_option maxHeartbeats 2000000 in
theorem law22_UtcLeaps.cl {m : Tb} {s : Sl} {day : Int} {w : World} (hR : RowsP w s m.ls) (hI : ∀ l ∈ m.ls, I64 l.1 ∧ I64 l.2) (ht : I64 day) : clS Try.prog F.law22_UtcLeaps [vT m s, .int .i64 day] w false RB1 (Holds w) := by
  refine law22_UtcLeaps.ok ?_
  unfold law22_UtcLeaps.wp
  have hl := hR.len
  refine alK_by fun p1 w2 e1 k1 u1 => law22_alive.cl fun w6 u6 => brF rfl ?_
  have q1 := k1.gro u6
  have g6 := u1.trans u6
  refine q1.c1 3 (c := .sl) (x := s) rfl (brD (fun c => holds g6 rfl) fun c => ?_)
  have c : ¬ (s.2.1 : Int) > 64 := c
  refine Blk.ldT q1 (law22_made.cl (m := m) (hR.gro g6) (by omega) hI (fun hne w10 u10 => brT rfl (holds (g6.trans u10) rfl)) fun he b w10 hb hT u10 => brF rfl ?_)
  have hg := errT_good he
  have g10 := g6.trans u10
  have hr := hg.1
  unfold Rngd at hr
  have r1 := q1.gro u10
  refine r1.i0 rfl (brD (fun _ => holds g10 rfl) fun c1 => r1.i1 2 rfl ?_)
  have c1 : ¬ day < m.st := c1
  rw [w64_in (n := m.en - 1) (by unfold I64; omega)]
  refine brD (fun _ => holds g10 rfl) fun c2 => ?_
  have c2 : ¬ day ≥ m.en - 1 := c2
  refine Blk.ldT r1 ?_
  rw [w64_in (n := day + 1) (by unfold I64; omega)]
  refine ref22_Begin.cl (hR.gro g10) hg (by omega) fun w13 u13 => Blk.ldT (r1.gro u13) (ref21_Step.cl (m := m) (hR.gro (g10.trans u13)) (by omega) fun w16 u16 => ?_)
  have bs := beg_succ hg day
  have bs2 := beg_succ hg (day + 1)
  have br := beg_rng hg (day + 1)
  have sr := st_rng hg day
  have sr2 := st_rng hg (day + 1)
  refine LoopT.by (fun z W => -3 ≤ z.2.1 ∧ z.2.1 ≤ 2 ∧ (z.2.1 = -3 ∧ z.1 = ofL [] ∨ ∃ u, AtK m day (z.2.1 - 1) u ∧ z.1 = ofL (txtU u)) ∧ Gro w10 W) (fun z => (2 - z.2.1).toNat) ⟨by show (-3 : Int) ≤ Int.negSucc 2; omega, by show Int.negSucc 2 ≤ (2 : Int); omega, .inl ⟨rfl, rfl⟩, u13.trans u16⟩ ?_
  rintro ⟨was, k, _⟩ W ⟨i1, i2, i3, hG⟩ _
  dsimp only at i1 i2 i3
  refine brD (fun c3 => ?_) fun c3 => holds (g10.trans hG) rfl
  have c3 : k ≤ 1 := c3
  have ek : IntKind.wrap .i64 (begT m (day + 1) + k) = begT m (day + 1) + k := w64_in (by unfold I64; omega)
  rw [show IntKind.wrap .i64 ((((begT m (day + 1), ()), ()) : TR RI1).1.1 + ((was, k, ()) : ByteArray × Int × Unit).2.1) = begT m (day + 1) + k from ek]
  have ek1 : IntKind.wrap .i64 (k + 1) = k + 1 := w64_in (by unfold I64; omega)
  have hT' := hT.gro hG
  obtain ⟨x, hx, hat⟩ : ∃ x, IsOf m (begT m (day + 1) + k) x ∧ ∀ d, GoodD d → numD d = x → AtK m day k (uOf d (begT m (day + 1) + k - begT m x)) ∧
      (k < 0 → begT m (day + 1) + k - begT m x = 86400 + stS m.ls day + k) ∧ (0 ≤ k → begT m (day + 1) + k - begT m x = k) := by
    rcases ilt_ge k 0 with ck | ck
    · refine ⟨day, ⟨⟨by omega, by omega⟩, by omega, by omega⟩, fun d hd hn => ?_⟩
      obtain ⟨a1, a2, a3⟩ := uOf_good hd (s := begT m (day + 1) + k - begT m day) (by omega) (by omega)
      refine ⟨⟨a1, fun _ => ⟨by rw [a2]; exact hn, by rw [a3]; omega⟩, fun h => by omega⟩, fun _ => by omega, fun h => by omega⟩
    · refine ⟨day + 1, ⟨⟨by omega, by omega⟩, by omega, by omega⟩, fun d hd hn => ?_⟩
      obtain ⟨a1, a2, a3⟩ := uOf_good hd (s := begT m (day + 1) + k - begT m (day + 1)) (by omega) (by omega)
      refine ⟨⟨a1, fun h => by omega, fun _ => ⟨by rw [a2]; exact hn, by rw [a3]; omega⟩⟩, fun h => by omega, fun _ => by omega⟩
  refine utc_Of.cl hT' hg (by unfold I64; omega) (fun hno => absurd hx (hno _)) fun x' hx' d hd hn w21 u21 => ?_
  have : x' = x := hx'.uniq hg hx
  subst this
  obtain ⟨hat, hs1, hs2⟩ := hat d hd hn
  have um := fun (h : k < 0) => uOf_min (d := d) (s := begT m (day + 1) + k - begT m x') (by have := hs1 h; omega) (by have := hs1 h; omega)
  have uz := fun (h : 0 ≤ k) => uOf_zero (d := d) (s := begT m (day + 1) + k - begT m x') (by have := hs2 h; omega) (by have := hs2 h; omega)
  generalize hu : uOf d (begT m (day + 1) + k - begT m x') = u at hat um uz ⊢
  refine alK_by fun p22 w23 e22 k22 u23 => k22.sta _ rfl rfl fun w24 k24 u24 => Blk.ldU (u := u) k24 (utc_Utc_Text.cl (u := u) fun w27 u27 => brF rfl ?_)
  have g24 : Gro w10 w24 := Gro.fresh (hG.trans u21) u23 u24 e22
  have g27 := g24.trans u27
  rw [strU_good hat.1]
  refine brF ?_ (brF ?_ ?_)
  · show (Op.bytesLess (ofL (txtU u)).toList was.toList || ((ofL (txtU u)).toList == was.toList)) = false
    rcases i3 with ⟨_, rfl⟩ | ⟨v, hv, rfl⟩
    · rw [ofL_toList, ofL_toList]
      have : ∀ l : List UInt8, l.length = 20 → (Op.bytesLess l [] || (l == [])) = false := fun l hl => by
        cases l with
        | nil => cases hl
        | cons a l => rfl
      exact this _ (txtU_length u)
    · have hv' : AtK m day (k - 1) v := hv
      obtain ⟨_, l2, l3⟩ := AtK.less hv' (by rw [show k - 1 + 1 = k by omega]; exact hat)
      rw [ofL_toList, ofL_toList, l2, Bool.false_or, beq_eq_false_iff_ne]; exact l3
  · show (((ofL (txtU u)).size : Int) != 20) = false
    rw [ofL_size, txtU_length]; rfl
  · have nxt : (-3 ≤ IntKind.wrap .i64 (k + 1) ∧ IntKind.wrap .i64 (k + 1) ≤ 2 ∧ (IntKind.wrap .i64 (k + 1) = -3 ∧ ofL (txtU u) = ofL [] ∨ ∃ v, AtK m day (IntKind.wrap .i64 (k + 1) - 1) v ∧ ofL (txtU u) = ofL (txtU v)) ∧ Gro w10 w27) ∧ (2 - IntKind.wrap .i64 (k + 1)).toNat < (2 - k).toNat := by
      rw [ek1]
      exact ⟨⟨by omega, by omega, .inr ⟨u, by rw [show k + 1 - 1 = k by omega]; exact hat, rfl⟩, g27⟩, by omega⟩
    have K := k24.gro u27
    refine CutT.by (fun z W => w27 = W ∧ z.1 = if k ≥ 0 then k else 60 + k + stS m.ls day) (brD (fun c4 => ⟨rfl, (if_pos c4).symm⟩) fun c4 => ⟨rfl, ?_⟩) ?_
    · have c4 : ¬ k ≥ 0 := c4
      rw [if_neg c4]
      show IntKind.wrap .i64 (IntKind.wrap .i64 (60 + k) + stS m.ls day) = _
      rw [w64_in (n := 60 + k) (by unfold I64; omega), w64_in (by unfold I64; omega)]
    · rintro ⟨z, _⟩ W ⟨rfl, hz⟩ _
      dsimp only at hz
      subst hz
      by_cases c4 : k ≥ 0
      · obtain ⟨z1, z2⟩ := uz c4
        have z3 := hs2 c4
        refine K.i1 5 rfl (brF ?_ (K.i1 3 rfl (brF ?_ (brF ?_ nxt))))
        · show (u.2.2.2.2.2 != if k ≥ 0 then k else _) = false
          rw [if_pos c4, z2, z3]; simp
        · show (u.2.2.2.1 == 23) = false
          rw [z1]; rfl
        · show (!((decide (k < 0)) == false)) = false
          rw [decide_eq_false (by omega)]; rfl
      · obtain ⟨z1, z2, z3⟩ := um (by omega)
        have z4 := hs1 (by omega)
        refine K.i1 5 rfl (brF ?_ (K.i1 3 rfl (brT ?_ (K.i1 4 rfl (brF ?_ nxt)))))
        · show (u.2.2.2.2.2 != if k ≥ 0 then k else _) = false
          rw [if_neg c4, z3, z4]
          have : 86400 + stS m.ls day + k - 86340 = 60 + k + stS m.ls day := by omega
          rw [this]; simp
        · show (u.2.2.2.1 == 23) = true
          rw [z1]; rfl
        · show (!((decide (k < 0)) == (u.2.2.2.2.1 == 59))) = false
          rw [decide_eq_true (by omega), z2]; rfl
theorem law22_UtcLeaps.fin {cs : List Value} {day : Int} {w : World} (h : Okc w shT cs) (ht : I64 day) : clS Try.prog F.law22_UtcLeaps [.agg cs.toArray, .int .i64 day] w false RB1 (Holds w) := by
  obtain ⟨m, s, rfl, hR, hI, _⟩ := tab_open h
  exact law22_UtcLeaps.cl hR hI ht
end Go.Proofs.Ytimdngcmbmamdaa
