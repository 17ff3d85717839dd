/- Contracts: seconds of TAI and of the world's time: the program's (utc) and the document's (ref22). Conditions: a table that is one. -/
import Derived.Test.YtimdngcmbmamdaaCtxt3
import Derived.Test.YtimdngcmbmamdaaCfix
namespace Go.Proofs.Ytimdngcmbmamdaa
open Go.Eng Go
set_option linter.unusedVariables false
set_option linter.unusedSimpArgs false

def begT (m : Tb) (x : Int) : Int := 86400 * x + ahS m.ah m.ls x
theorem beg_succ {m : Tb} (h : GoodT m) (x : Int) : begT m (x + 1) = begT m x + 86400 + stS m.ls x := by
  unfold begT; rw [ahS_succ h.2.2.2]; omega
theorem beg_rng {m : Tb} (h : GoodT m) (x : Int) : 86400 * x - 64 ≤ begT m x ∧ begT m x ≤ 86400 * x + 163 := by
  have h1 := ahS_rng h.2.1 x m.ah
  have h2 := h.1
  have h3 := h.2.2.1
  unfold Rngd at h2
  unfold begT; omega
theorem st_rng {m : Tb} (h : GoodT m) (x : Int) : -1 ≤ stS m.ls x ∧ stS m.ls x ≤ 1 := stS_rng h.2.1 x
theorem beg_mono {m : Tb} (h : GoodT m) {x y : Int} (hxy : x < y) : begT m x + 86399 ≤ begT m y := by
  obtain ⟨n, rfl⟩ : ∃ n : Nat, y = x + 1 + n := ⟨(y - x - 1).toNat, by omega⟩
  clear hxy
  induction n with
  | zero => have := beg_succ h x; have := st_rng h x; simp only [Int.natCast_zero, Int.add_zero] at *; omega
  | succ n ih =>
    have h1 := beg_succ h (x + 1 + n)
    have h2 := st_rng h (x + 1 + n)
    have e : x + 1 + ((n + 1 : Nat) : Int) = x + 1 + (n : Int) + 1 := by omega
    rw [e]; omega
def IsOf (m : Tb) (tai x : Int) : Prop := inR m x ∧ begT m x ≤ tai ∧ tai < begT m (x + 1)
instance (m : Tb) (tai x : Int) : Decidable (IsOf m tai x) := by unfold IsOf; exact inferInstance
theorem IsOf.uniq {m : Tb} (h : GoodT m) {tai x y : Int} (hx : IsOf m tai x) (hy : IsOf m tai y) : x = y := by
  obtain ⟨_, x1, x2⟩ := hx
  obtain ⟨_, y1, y2⟩ := hy
  rcases Int.lt_trichotomy x y with c | c | c
  · rcases ilt_ge (x + 1) y with c2 | c2
    · have := beg_mono h c2; omega
    · have : x + 1 = y := by omega
      rw [this] at x2; omega
  · exact c
  · rcases ilt_ge (y + 1) x with c2 | c2
    · have := beg_mono h c2; omega
    · have : y + 1 = x := by omega
      rw [this] at y2; omega
def uOf (d : D3) (s : Int) : U6 := if s = 86400 then (d.1, d.2.1, d.2.2, 23, 59, 60) else (d.1, d.2.1, d.2.2, s / 3600, s % 3600 / 60, s % 60)
theorem uOf_good {d : D3} (h : GoodD d) {s : Int} (h0 : 0 ≤ s) (h1 : s ≤ 86400) : GoodU (uOf d s) ∧ dU (uOf d s) = d ∧ secU (uOf d s) = s := by
  unfold uOf
  split
  · rename_i c
    refine ⟨⟨h, ?_⟩, rfl, ?_⟩
    · simp
    · unfold secU; simp; omega
  · rename_i c
    refine ⟨⟨h, ?_⟩, rfl, ?_⟩
    · dsimp only; omega
    · unfold secU; dsimp only; omega
theorem uOf_sec {u : U6} (h : GoodU u) : uOf (dU u) (secU u) = u := by
  obtain ⟨_, a1, a2, a3, a4, a5, a6⟩ := h
  obtain ⟨x1, x2, x3, x4, x5, x6⟩ := u
  unfold uOf secU dU
  dsimp only at *
  split
  · simp only [Prod.mk.injEq, true_and]; omega
  · simp only [Prod.mk.injEq, true_and]; omega
theorem secU_rng {u : U6} (h : GoodU u) : 0 ≤ secU u ∧ secU u ≤ 86400 := by
  obtain ⟨_, a1, a2, a3, a4, a5, a6⟩ := h
  unfold secU; omega

abbrev RU1 : List (Bool × List CK) := [(true, KU6)]
abbrev RUE : List (Bool × List CK) := [(true, KU6), (false, [.i .i64])]
abbrev RUB : List (Bool × List CK) := [(true, KU6), (false, [.b])]
abbrev RII : List (Bool × List CK) := [(false, [.i .i64]), (false, [.i .i64])]
abbrev RIB : List (Bool × List CK) := [(false, [.i .i64]), (false, [.b])]
theorem utc_begin.cl {w : World} {b : Nat} {m : Tb} (hT : TbW w b m) (hg : GoodT m) {x : Int} {k : TR RIB → World → Prop}
    (h0 : ¬ inR m x → ∀ n w', Gro w w' → k ((n, ()), (false, ()), ()) w') (h1 : inR m x → ∀ w', Gro w w' → k ((begT m x, ()), (true, ()), ()) w') :
    clS Try.prog F.utc_begin [.pointer (some ⟨b, 0, none⟩), .int .i64 x] w true RIB k := by
  refine utc_begin.ok ?_
  unfold utc_begin.wp
  refine leap_Table_Ahead.cl hT hg (fun c w2 u2 => h0 c _ w2 u2) fun c w2 u2 => ?_
  have := h1 c w2 u2
  have br := beg_rng hg x
  have hr := hg.1
  unfold Rngd at hr
  obtain ⟨c1, c2⟩ := c
  unfold begT at br this
  rw [show IntKind.wrap .i64 (IntKind.wrap .i64 (86400 * x) + (((ahS m.ah m.ls x, ()), (true, ()), ()) : TR RIB).1.1) = 86400 * x + ahS m.ah m.ls x from by
    show IntKind.wrap .i64 (IntKind.wrap .i64 (86400 * x) + ahS m.ah m.ls x) = _
    rw [w64_in (n := 86400 * x) (by unfold I64; omega), w64_in (by unfold I64; omega)]]
  exact this
theorem ref22_Begin.cl {w : World} {m : Tb} {s : Sl} (hR : RowsP w s m.ls) (hg : GoodT m) {x : Int} (hx : -10000000 ≤ x ∧ x ≤ 10000000) {k : TR RI1 → World → Prop} (h : ∀ w', Gro w w' → k ((begT m x, ()), ()) w') :
    clS Try.prog F.ref22_Begin [vT m s, .int .i64 x] w false RI1 k := by
  refine ref22_Begin.ok ?_
  unfold ref22_Begin.wp
  refine alK_by fun p1 w2 e1 k1 u1 => k1.cA (cs := [.i .i64, .i .i64, .i .i64, .sl]) (m.st, m.ah, m.en, s, ()) rfl (ref21_Ahead.cl (m := m) (s := s) (hR.gro u1) hg fun w5 u5 => ?_)
  have := h w5 (u1.trans u5)
  have br := beg_rng hg x
  unfold begT at br this
  rw [show IntKind.wrap .i64 (IntKind.wrap .i64 (86400 * x) + (((ahS m.ah m.ls x, ()), ()) : TR RI1).1.1) = 86400 * x + ahS m.ah m.ls x from by
    show IntKind.wrap .i64 (IntKind.wrap .i64 (86400 * x) + ahS m.ah m.ls x) = _
    rw [w64_in (n := 86400 * x) (by unfold I64; omega), w64_in (by unfold I64; omega)]]
  exact this
theorem utc_at.cl {x s : Int} (hx : -719162 ≤ x ∧ x ≤ 2932896) (hs : 0 ≤ s ∧ s ≤ 86400) {w : World} {k : TR RU1 → World → Prop} (h : ∀ d, GoodD d → numD d = x → ∀ w', Gro w w' → k (tU (uOf d s), ()) w') :
    clS Try.prog F.utc_at [.int .i64 x, .int .i64 s] w false RU1 k := by
  refine utc_at.ok ?_
  unfold utc_at.wp
  refine alK_by fun p1 w2 e1 k1 u1 => civil_Of.cl (by unfold I64; omega) (fun c => by omega) fun _ _ d hd hn w4 u4 => ?_
  have l1 := k1.lt
  have h := h d hd hn
  refine alK_by fun p5 w6 e5 k5 u6 => k5.sta _ rfl rfl fun w7 k7 u7 => ?_
  have g7 : Gro w2 w7 := Gro.fresh u4 u6 u7 e5
  have q1 := k1.gro g7
  have fin : ∀ {w9}, Upd (fun x => x = p1) w7 w9 → Gro w w9 := fun u => Upd.trans (u1.trans g7) u fun i hi h => by omega
  unfold uOf at h
  refine brD (fun c => ?_) fun c => ?_
  · have c : s ≥ 86400 := c
    have : s = 86400 := by omega
    subst this
    rw [if_pos rfl] at h
    refine k7.ld3 (q1.sta _ rfl rfl fun w9 k9 u9 => k9.cA (cs := KU6) (d.1, d.2.1, d.2.2, 23, 59, 60, ()) rfl (h w9 (fin u9)))
  · have c : ¬ s ≥ 86400 := c
    rw [if_neg (by omega)] at h
    refine k7.ld3 ?_
    rw [nzK_eq (by decide), nzK_eq (by decide), nzK_eq (by decide), nzK_eq (by decide), tdiv4 hs.1, tdiv4 hs.1, tmod4 hs.1, w64_in (n := s / 3600) (by unfold I64; omega), w64_in (n := s / 60) (by unfold I64; omega), tmod4 (by omega),
      show s / 60 % 60 = s % 3600 / 60 by omega]
    refine q1.sta _ rfl rfl fun w9 k9 u9 => k9.cA (cs := KU6) (d.1, d.2.1, d.2.2, s / 3600, s % 3600 / 60, s % 60, ()) rfl (h w9 (fin u9))
theorem aiK_by {l : List Int} {n i : Nat} {ix v : Int} (hi : ix = i) (hn : i < n) (hv : l[i]? = some v) {k : Int → Prop} (hk : k v) : aiK l n ix k := by
  subst hi
  unfold aiK
  rw [if_pos (by omega), Int.toNat_natCast, hv]; exact hk
abbrev z6 : U6 := (0, 0, 0, 0, 0, 0)
theorem cU_st {w : World} {b : Nat} {u : U6} (h : Blk w b (cU u)) {k : World → Prop} {v : U6} (hk : ∀ w', Blk w' b (cU v) → Upd (fun x => x = b) w w' → k w') : stN (cU v) ⟨b, 0, none⟩ 0 w k := h.sta _ rfl rfl hk
theorem utc_Of.nil {tai : Int} {w : World} {k : TR RUE → World → Prop} (h : ∀ w', Gro w w' → k (tU z6, (2, ()), ()) w') : clS Try.prog F.utc_Of [.pointer none, .int .i64 tai] w true RUE k := by
  refine utc_Of.ok ?_
  unfold utc_Of.wp
  refine alK_by fun p1 w2 e1 k1 u1 => brT rfl (k1.sta _ rfl rfl fun w3 k3 u3 => k3.cA (cs := KU6) (tU z6) rfl (h w3 (Gro.fresh (Gro.refl _) u1 u3 e1)))
set_option maxRecDepth 20000 in
set_option maxHeartbeats 1000000 in
theorem utc_Of.cl {w : World} {b : Nat} {m : Tb} (hT : TbW w b m) (hg : GoodT m) {tai : Int} (ht : I64 tai) {k : TR RUE → World → Prop}
    (h0 : (∀ x, ¬ IsOf m tai x) → ∀ w', Gro w w' → k (tU z6, (11, ()), ()) w')
    (h1 : ∀ x, IsOf m tai x → ∀ d, GoodD d → numD d = x → ∀ w', Gro w w' → k (tU (uOf d (tai - begT m x)), (0, ()), ()) w') :
    clS Try.prog F.utc_Of [.pointer (some ⟨b, 0, none⟩), .int .i64 tai] w true RUE k := by
  refine utc_Of.ok ?_
  unfold utc_Of.wp
  refine alK_by fun p1 w2 e1 k1 u1 => brF rfl (fix_Floor.cl ht (by decide) fun w6 u6 => ?_)
  have l1 := k1.lt
  have k6 := k1.gro u6
  have g6 := u1.trans u6
  have hT6 := hT.gro g6
  have ef : floorV tai 86400 = tai / 86400 := rfl
  rw [ef]
  have ht' := ht
  unfold I64 at ht'
  have hr := hg.1
  unfold Rngd at hr
  generalize hd : tai / 86400 = d
  have ea : IntKind.wrap .i64 (d - 1) = d - 1 := w64_in (by unfold I64; omega)
  have eb : IntKind.wrap .i64 (d + 1) = d + 1 := w64_in (by unfold I64; omega)
  rw [show (((d, ()), (floorR tai 86400, ()), (!decide ((86400 : Int) < 1), ()), ()) : TR [(false, [CK.i .i64]), (false, [CK.i .i64]), (false, [CK.b])]).1.1 = d from rfl, ea, eb]
  have fin : ∀ {w' w''}, Gro w2 w' → Upd (fun x => x = p1) w' w'' → Gro w w'' := fun g u => Upd.trans (u1.trans g) u fun i hi h => by omega
  refine LoopT.by (fun z W => ∃ i : Nat, z.1 = i ∧ i ≤ 3 ∧ (∀ j : Nat, j < i → ¬ IsOf m tai (d - 1 + j)) ∧ Gro w2 W) (fun z => (3 - z.1).toNat) ⟨0, rfl, by omega, fun j h => by omega, u6⟩ ?_
  rintro ⟨z, _⟩ W ⟨i, hz, hi, hno, hG⟩ _
  dsimp only at hz
  subst hz
  refine brD (fun c => ?_) fun c => ?_
  · have c : (i : Int) < 3 := c
    have hv : [d - 1, d, d + 1][i]? = some (d - 1 + i) := by
      have : i = 0 ∨ i = 1 ∨ i = 2 := by omega
      rcases this with rfl | rfl | rfl
      · simp
      · show some d = _; congr 1; omega
      · show some (d + 1) = _; congr 1; omega
    have hTW := hT.gro (u1.trans hG)
    have next : ¬ IsOf m tai (d - 1 + i) → ∀ {W'}, Gro W W' → ((∃ i' : Nat, IntKind.wrap .i64 ((i : Int) + 1) = i' ∧ i' ≤ 3 ∧ (∀ j : Nat, j < i' → ¬ IsOf m tai (d - 1 + j)) ∧ Gro w2 W') ∧ (3 - IntKind.wrap .i64 ((i : Int) + 1)).toNat < (3 - (i : Int)).toNat) := by
      intro hn W' g
      have ei : IntKind.wrap .i64 ((i : Int) + 1) = ((i + 1 : Nat) : Int) := by rw [w64_in (by unfold I64; omega)]; omega
      refine ⟨⟨i + 1, ei, by omega, fun j hj => ?_, hG.trans g⟩, by rw [ei]; omega⟩
      rcases Nat.lt_or_ge j i with h | h
      · exact hno j h
      · have : j = i := by omega
        subst this; exact hn
    refine aiK_by rfl (by omega) hv (utc_begin.cl hTW hg (fun hn n w12 u12 => ?_) fun hin w12 u12 => ?_)
    · exact brF rfl (next (fun x => hn x.1) u12)
    · have br := beg_rng hg (d - 1 + i)
      have bs := beg_succ hg (d - 1 + i)
      have sr := st_rng hg (d - 1 + i)
      obtain ⟨hi1, hi2⟩ := hin
      have es : IntKind.wrap .i64 (tai - begT m (d - 1 + i)) = tai - begT m (d - 1 + i) := w64_in (by unfold I64; omega)
      refine brT rfl ?_
      rw [show IntKind.wrap .i64 (tai - (((begT m (d - 1 + i), ()), (true, ()), ()) : TR RIB).1.1) = tai - begT m (d - 1 + i) from es]
      refine brD (fun c2 => leap_Table_Step.cl (hTW.gro u12) hg fun w14 u14 => ?_) fun c2 => next (fun x => c2 (by have := x.2.1; omega)) u12
      have eg : IntKind.wrap .i64 (86400 + stS m.ls (d - 1 + i)) = 86400 + stS m.ls (d - 1 + i) := w64_in (by unfold I64; omega)
      rw [show IntKind.wrap .i64 (86400 + (((stS m.ls (d - 1 + i), ()), ()) : TR RI1).1.1) = 86400 + stS m.ls (d - 1 + i) from eg]
      refine brD (fun c3 => ?_) fun c3 => next (fun x => c3 (by have := x.2.2; omega)) (u12.trans u14)
      have hIs : IsOf m tai (d - 1 + i) := ⟨⟨hi1, hi2⟩, by omega, by omega⟩
      refine utc_at.cl (by omega) (by omega) fun dd hd2 hn w16 u16 => (k1.gro (((hG.trans u12).trans u14).trans u16)).sta _ rfl rfl fun w17 k17 u17 => ?_
      refine k17.cA (cs := KU6) (tU (uOf dd (tai - begT m (d - 1 + i)))) rfl ?_
      exact h1 _ hIs dd hd2 hn w17 (fin (((hG.trans u12).trans u14).trans u16) u17)
  · have c : ¬ (i : Int) < 3 := c
    have : i = 3 := by omega
    subst this
    refine (k1.gro hG).sta _ rfl rfl fun w19 k19 u19 => k19.cA (cs := KU6) (tU z6) rfl (h0 (fun x hx => ?_) w19 (fin hG u19))
    have h00 := hno 0 (by omega)
    have h01 := hno 1 (by omega)
    have h02 := hno 2 (by omega)
    have br := beg_rng hg x
    have br2 := beg_rng hg (x + 1)
    have hx' := hx
    obtain ⟨_, x1, x2⟩ := hx
    have : x = d - 1 + ((0 : Nat) : Int) ∨ x = d - 1 + ((1 : Nat) : Int) ∨ x = d - 1 + ((2 : Nat) : Int) := by omega
    rcases this with e | e | e
    · exact h00 (e ▸ hx')
    · exact h01 (e ▸ hx')
    · exact h02 (e ▸ hx')
def taiS (m : Tb) (u : U6) : Int × Int := if ¬ GoodU u then (0, 1) else if ¬ inR m (numD (dU u)) then (0, 11) else if secU u ≥ 86400 + stS m.ls (numD (dU u)) then (0, 7) else (begT m (numD (dU u)) + secU u, 0)
theorem utc_Tai.nil {u : U6} {w : World} {k : TR RII → World → Prop} (h : ∀ w', Gro w w' → k ((0, ()), (2, ()), ()) w') : clS Try.prog F.utc_Tai [.pointer none, vU u] w true RII k := by
  refine utc_Tai.ok ?_
  unfold utc_Tai.wp
  exact alK_by fun p1 w2 e1 k1 u1 => brT rfl (h w2 u1)
set_option maxRecDepth 20000 in
set_option maxHeartbeats 1000000 in
theorem utc_Tai.cl {w : World} {b : Nat} {m : Tb} (hT : TbW w b m) (hg : GoodT m) {u : U6} {k : TR RII → World → Prop} (h : ∀ w', Gro w w' → k (((taiS m u).1, ()), ((taiS m u).2, ()), ()) w') :
    clS Try.prog F.utc_Tai [.pointer (some ⟨b, 0, none⟩), vU u] w true RII k := by
  refine utc_Tai.ok ?_
  unfold utc_Tai.wp
  have out : ∀ {a : Int × Int}, taiS m u = a → ∀ w', Gro w w' → k ((a.1, ()), (a.2, ()), ()) w' := fun e => by subst e; exact h
  clear h
  refine alK_by fun p1 w2 e1 k1 u1 => brF rfl (Blk.ldU (u := u) k1 (utc_Utc_Good.cl fun w5 u5 => brNot (fun c => ?_) fun c => ?_))
  · have c : goodUb u = false := c
    exact out (a := (0, 1)) (by unfold taiS; rw [if_pos (of_decide_eq_false c)]) w5 (u1.trans u5)
  have c : GoodU u := of_decide_eq_true c
  have hcd : goodDb (dU u) = true := decide_eq_true c.1
  have k5 := k1.gro u5
  refine Blk.ldUd (u := u) k5 (civil_Date_Number.cl (d := dU u) (fun x => by rw [hcd] at x; cases x) fun _ w8 u8 => ?_)
  have g8 := (u1.trans u5).trans u8
  refine utc_begin.cl (hT.gro g8) hg (fun hn n w10 u10 => brT rfl ?_) fun hin w10 u10 => brF rfl ?_
  · exact out (a := (0, 11)) (by unfold taiS; rw [if_neg (fun x => x c), if_pos hn]) w10 (g8.trans u10)
  have k10 := (k5.gro u8).gro u10
  have g10 := g8.trans u10
  refine k10.i1 3 rfl (k10.i1 4 rfl (k10.i1 5 rfl (leap_Table_Step.cl (hT.gro g10) hg fun w15 u15 => ?_)))
  have sr := st_rng hg (numD (dU u))
  have br := beg_rng hg (numD (dU u))
  have nr := numD_range c.1
  have secr := secU_rng c
  have cc := c
  obtain ⟨_, a1, a2, a3, a4, a5, a6⟩ := c
  have es : IntKind.wrap .i64 (IntKind.wrap .i64 (IntKind.wrap .i64 (3600 * u.2.2.2.1) + IntKind.wrap .i64 (60 * u.2.2.2.2.1)) + u.2.2.2.2.2) = secU u := by
    rw [w64_in (n := 3600 * u.2.2.2.1) (by unfold I64; omega), w64_in (n := 60 * u.2.2.2.2.1) (by unfold I64; omega), w64_in (n := 3600 * u.2.2.2.1 + 60 * u.2.2.2.2.1) (by unfold I64; omega), w64_in (by unfold I64; omega)]; rfl
  rw [es]
  have eg : IntKind.wrap .i64 (86400 + stS m.ls (numD (dU u))) = 86400 + stS m.ls (numD (dU u)) := w64_in (by unfold I64; omega)
  have ef : IntKind.wrap .i64 (begT m (numD (dU u)) + secU u) = begT m (numD (dU u)) + secU u := w64_in (by unfold I64; omega)
  rw [show IntKind.wrap .i64 (86400 + (((stS m.ls (numD (dU u)), ()), ()) : TR RI1).1.1) = 86400 + stS m.ls (numD (dU u)) from eg,
    show IntKind.wrap .i64 ((((begT m (numD (dU u)), ()), (true, ()), ()) : TR RIB).1.1 + secU u) = begT m (numD (dU u)) + secU u from ef]
  refine brD (fun c2 => ?_) fun c2 => ?_
  · exact out (a := (0, 7)) (by unfold taiS; rw [if_neg (fun x => x cc), if_neg (fun x => x hin), if_pos c2]) w15 (g10.trans u15)
  · exact out (a := (begT m (numD (dU u)) + secU u, 0)) (by unfold taiS; rw [if_neg (fun x => x cc), if_neg (fun x => x hin), if_neg c2]) w15 (g10.trans u15)
end Go.Proofs.Ytimdngcmbmamdaa
