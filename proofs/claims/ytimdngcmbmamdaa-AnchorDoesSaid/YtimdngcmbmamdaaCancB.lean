/- Contracts of books of anchors in every case (anchor, ref23); the law AnchorBack. Conditions: what an argument is. -/
import Derived.Test.YtimdngcmbmamdaaCutcA
import Derived.Test.YtimdngcmbmamdaaCanc3
import Derived.Test.YtimdngcmbmamdaaCmul
namespace Go.Proofs.Ytimdngcmbmamdaa
open Go.Eng Go
set_option linter.unusedVariables false
set_option linter.unusedSimpArgs false

abbrev RM : List (Bool × List CK) := [(true, [.i .i64, .i .i64]), (false, [.i .i64])]
abbrev RIII : List (Bool × List CK) := [(false, [.i .i64]), (false, [.i .i64]), (false, [.i .i64])]
/-- a time asked: second, ticks, error -/
def taiV (has : Bool) (a : A6) (root boot t : Int) : Int × Int × Int :=
  if has = false then (0, 0, 7) else if a.2.2.1 ≠ root ∨ a.2.2.2.1 ≠ boot then (0, 0, 9) else if t < 0 ∨ t > 1125899906842624 then (0, 0, 8) else (a.2.2.2.2.2 + (t - a.2.2.2.2.1) / 1000, (t - a.2.2.2.2.1) % 1000, 0)
def timV (has : Bool) (a : A6) (root boot tai : Int) : Int × Int :=
  if (taiV has a root boot 0).2.2 ≠ 0 then (0, (taiV has a root boot 0).2.2) else if tai < -1125899906842624 ∨ tai > 1125899906842624 then (0, 8) else
    if a.2.2.2.2.1 + 1000 * (tai - a.2.2.2.2.2) < 0 ∨ a.2.2.2.2.1 + 1000 * (tai - a.2.2.2.2.2) > 1125899906842624 then (0, 8) else (a.2.2.2.2.1 + 1000 * (tai - a.2.2.2.2.2), 0)
/-- an anchor's numbers lie in their ranges -/
theorem okF_rng {a : A6} (hg : okF (flA a) = true) : 0 ≤ a.2.2.2.2.1 ∧ a.2.2.2.2.1 ≤ 1125899906842624 ∧ 0 ≤ a.2.2.2.2.2 ∧ a.2.2.2.2.2 ≤ 1125899906842624 := by
  unfold okF at hg
  rw [List.all_eq_true] at hg
  have g4 := inF_iff.1 (hg (8, a.2.2.2.2.1, 1125899906842624) (by simp [flA]))
  have g5 := inF_iff.1 (hg (8, a.2.2.2.2.2, 1125899906842624) (by simp [flA]))
  exact ⟨g4.1, g4.2, g5.1, g5.2⟩
theorem anchor_Book_Tai.nil {root boot t : Int} {w : World} {k : TR RM → World → Prop} (hk : ∀ w', Gro w w' → k ((0, 0, ()), (2, ()), ()) w') :
    clS Try.prog F.anchor_Book_Tai [.pointer none, .agg #[.int .i64 root, .int .u16 boot], .int .i64 t] w true RM k := by
  refine anchor_Book_Tai.ok ?_
  unfold anchor_Book_Tai.wp
  refine alK_by fun p1 w2 e1 k1 u1 => alK_by fun p3 w4 e3 k3 u3 => brT rfl (k3.sta _ rfl rfl fun w5 k5 u5 => k5.ld2 (hk w5 (Gro.fresh u1 u3 u5 e3)))
set_option maxRecDepth 20000 in
set_option maxHeartbeats 1000000 in
theorem anchor_Book_Tai.v {b : Nat} {has : Bool} {a : A6} {root boot t : Int} {w : World} (hB : Blk w b (bk has a)) (hg : has = true → okF (flA a) = true) {k : TR RM → World → Prop}
    (hk : ∀ w', Gro w w' → k (((taiV has a root boot t).1, (taiV has a root boot t).2.1, ()), ((taiV has a root boot t).2.2, ()), ()) w') :
    clS Try.prog F.anchor_Book_Tai [.pointer (some ⟨b, 0, none⟩), .agg #[.int .i64 root, .int .u16 boot], .int .i64 t] w true RM k := by
  have out : ∀ {x : Int × Int × Int}, taiV has a root boot t = x → ∀ {w'}, Gro w w' → k ((x.1, x.2.1, ()), (x.2.2, ()), ()) w' := fun e w' g => by subst e; exact hk w' g
  by_cases hcase : has = true ∧ a.2.2.1 = root ∧ a.2.2.2.1 = boot ∧ 0 ≤ t ∧ t ≤ 1125899906842624
  · obtain ⟨h1, h2, h3, h4, h5⟩ := hcase
    subst h1 h2 h3
    refine anchor_Book_Tai.cl hB h4 h5 (hg rfl) fun w' g => out (x := (_, _, 0)) ?_ g
    unfold taiV
    rw [if_neg (by simp), if_neg (by simp), if_neg (by omega)]
  refine anchor_Book_Tai.ok ?_
  unfold anchor_Book_Tai.wp
  have lb := hB.lt
  refine alK_by fun p1 w2 e1 k1 u1 => alK_by fun p3 w4 e3 k3 u3 => brF rfl ?_
  have g4 := u1.trans u3
  have B4 := hB.gro g4
  have q1 := k1.gro u3
  have fin : ∀ {x : Int × Int × Int}, taiV has a root boot t = (0, 0, x.2.2) → ∀ {w'}, Gro w4 w' → stN [.int .i64 0, .int .i64 0] ⟨p3, 0, none⟩ 0 w' fun w5 => ldN [.i .i64, .i .i64] ⟨p3, 0, none⟩ 0 w5 fun x6 => k ((x6.1, x6.2.1, ()), (x.2.2, ()), ()) w5 := fun {x} e w' g =>
    (k3.gro g).sta _ rfl rfl fun w5 k5 u5 => k5.ld2 (out (x := (0, 0, x.2.2)) e (Upd.trans (g4.trans g) u5 fun i hi h => by have := u1.size; omega))
  rw [ncK_eq]
  refine B4.c0 rfl (brNot (fun c => ?_) fun ch => ?_)
  · exact fin (x := (0, 0, 7)) (by unfold taiV; rw [if_pos (show has = false from c)]) (Gro.refl _)
  have ch : has = true := ch
  have nh : ¬ has = false := by rw [ch]; simp
  refine CutT.by (fun z w' => Gro w4 w' ∧ z.1 = decide (a.2.2.1 ≠ root ∨ a.2.2.2.1 ≠ boot)) ?_ ?_
  · rw [drK_eq, ncK_eq]
    refine B4.drew.c2 1 2 (x := a.2.2.1) rfl (q1.drew.c0 (x := root) rfl (brN (fun c => ⟨Gro.drew _, (decide_eq_true (.inl c)).symm⟩) fun c1 => ?_))
    have c1 : a.2.2.1 = root := c1
    rw [ncK_eq]
    refine B4.drew.c2 1 3 (c := .i .u16) (x := a.2.2.2.1) rfl (q1.drew.c1 1 (c := .i .u16) (x := boot) rfl ⟨Gro.drew _, bq ?_⟩)
    rw [bne_iff_ne]
    exact ⟨fun h => .inr h, fun h => h.resolve_left fun x => x c1⟩
  · rintro ⟨z, _⟩ w13 ⟨g13, hz⟩ _
    dsimp only at hz
    subst hz
    refine brD (fun c => fin (x := (0, 0, 9)) (by unfold taiV; rw [if_neg nh, if_pos c]) g13) fun c2 => ?_
    refine brD (fun c => fin (x := (0, 0, 8)) (by unfold taiV; rw [if_neg nh, if_neg c2, if_pos (.inl c)]) g13) fun c3 => ?_
    refine brD (fun c => fin (x := (0, 0, 8)) (by unfold taiV; rw [if_neg nh, if_neg c2, if_pos (.inr c)]) g13) fun c4 => ?_
    have c3 : ¬ t < 0 := c3
    have c4 : ¬ t > 1125899906842624 := c4
    refine absurd ⟨ch, ?_, ?_, by omega, by omega⟩ hcase
    · exact Decidable.not_not.1 fun h => c2 (.inl h)
    · exact Decidable.not_not.1 fun h => c2 (.inr h)
theorem anchor_Book_Time.nil {root boot t : Int} {w : World} {k : TR RII → World → Prop} (hk : ∀ w', Gro w w' → k ((0, ()), (2, ()), ()) w') :
    clS Try.prog F.anchor_Book_Time [.pointer none, .agg #[.int .i64 root, .int .u16 boot], .int .i64 t] w true RII k := by
  refine anchor_Book_Time.ok ?_
  unfold anchor_Book_Time.wp
  refine alK_by fun p1 w2 e1 k1 u1 => k1.cA (cs := [.i .i64, .i .u16]) (root, boot, ()) rfl (anchor_Book_Tai.nil fun w5 u5 => alK_by fun p6 w7 e6 k6 u7 => k6.sta _ rfl rfl fun w8 k8 u8 => brT rfl (hk w8 (u1.trans (Gro.fresh u5 u7 u8 e6))))
set_option maxRecDepth 20000 in
set_option maxHeartbeats 1000000 in
theorem anchor_Book_Time.v {b : Nat} {has : Bool} {a : A6} {root boot tai : Int} {w : World} (hB : Blk w b (bk has a)) (hg : has = true → okF (flA a) = true) {k : TR RII → World → Prop}
    (hk : ∀ w', Gro w w' → k (((timV has a root boot tai).1, ()), ((timV has a root boot tai).2, ()), ()) w') :
    clS Try.prog F.anchor_Book_Time [.pointer (some ⟨b, 0, none⟩), .agg #[.int .i64 root, .int .u16 boot], .int .i64 tai] w true RII k := by
  refine anchor_Book_Time.ok ?_
  unfold anchor_Book_Time.wp
  have out : ∀ {x : Int × Int}, timV has a root boot tai = x → ∀ {w'}, Gro w w' → k ((x.1, ()), (x.2, ()), ()) w' := fun e w' g => by subst e; exact hk w' g
  clear hk
  refine alK_by fun p1 w2 e1 k1 u1 => k1.cA (cs := [.i .i64, .i .u16]) (root, boot, ()) rfl (anchor_Book_Tai.v (hB.gro u1) hg fun w5 u5 => alK_by fun p6 w7 e6 k6 u7 => k6.sta _ rfl rfl fun w8 k8 u8 => ?_)
  have g8 := u1.trans (Gro.fresh u5 u7 u8 e6)
  have B8 := hB.gro g8
  refine brN (fun c => out (x := (0, _)) (by unfold timV; rw [if_pos c]) g8) fun c1 => ?_
  have c1 : (taiV has a root boot 0).2.2 = 0 := c1
  have c1' : ¬ (taiV has a root boot 0).2.2 ≠ 0 := fun h => h c1
  refine brD (fun c => out (x := (0, 8)) (by have c : tai < Int.negSucc 1125899906842623 := c; unfold timV; rw [if_neg c1', if_pos (.inl (by omega))]) g8) fun c2 => ?_
  refine brD (fun c => out (x := (0, 8)) (by unfold timV; rw [if_neg c1', if_pos (.inr c)]) g8) fun c3 => ?_
  have c2 : ¬ tai < Int.negSucc 1125899906842623 := c2
  have c3 : ¬ tai > 1125899906842624 := c3
  have hh : has = true := by
    cases has
    · unfold taiV at c1; rw [if_pos rfl] at c1; cases c1
    · rfl
  obtain ⟨r1, r2, r3, r4⟩ := okF_rng (hg hh)
  rw [ncK_eq]
  refine B8.c2 1 5 (x := a.2.2.2.2.2) rfl ?_
  rw [w64_in (n := tai - a.2.2.2.2.2) (by unfold I64; omega)]
  have hm : mdB (tai - a.2.2.2.2.2) 1000 1 = true := by
    unfold mdB
    rw [Int.ediv_one]
    simp only [Bool.and_eq_true, Bool.not_eq_true', decide_eq_true_eq, decide_eq_false_iff_not]
    unfold I64; omega
  have hv : mdV (tai - a.2.2.2.2.2) 1000 1 = (tai - a.2.2.2.2.2) * 1000 := by unfold mdV; rw [if_pos hm, Int.ediv_one]
  refine fix_MulDiv.cl (by unfold I64; omega) (by decide) (by decide) fun w12 u12 => ?_
  rw [hm, hv, ncK_eq]
  refine (B8.gro u12).c2 1 4 (x := a.2.2.2.2.1) rfl (fix_Sat.cl (a := (tai - a.2.2.2.2.2) * 1000) (b := a.2.2.2.2.1) (by unfold I64; omega) (by unfold I64; omega) ?_)
  have hs : sat ((tai - a.2.2.2.2.2) * 1000) a.2.2.2.2.1 = a.2.2.2.2.1 + 1000 * (tai - a.2.2.2.2.2) := by
    unfold sat; (repeat' split) <;> omega
  rw [hs]
  have g12 := g8.trans u12
  have n2 : ¬ (tai < -1125899906842624 ∨ tai > 1125899906842624) := by omega
  refine brF rfl (brD (fun c => out (x := (0, 8)) (by unfold timV; rw [if_neg c1', if_neg n2, if_pos (.inl c)]) g12) fun c4 => brD (fun c => out (x := (0, 8)) (by unfold timV; rw [if_neg c1', if_neg n2, if_pos (.inr c)]) g12) fun c5 => ?_)
  exact out (x := (_, 0)) (by unfold timV; rw [if_neg c1', if_neg n2, if_neg (fun h => h.elim c4 c5)]) g12

/-! ### tables, there or not -/
def TbO (w : World) (tp : Option Addr) (t : Option Tb) : Prop := (tp = none ∧ t = none) ∨ ∃ b m, tp = some ⟨b, 0, none⟩ ∧ t = some m ∧ TbW w b m ∧ GoodT m
theorem TbO.gro {w w' : World} {tp : Option Addr} {t : Option Tb} (h : TbO w tp t) (u : Gro w w') : TbO w' tp t := by
  rcases h with h | ⟨b, m, h1, h2, h3, h4⟩
  · exact .inl h
  · exact .inr ⟨b, m, h1, h2, h3.gro u, h4⟩
def OfR (t : Option Tb) (tai : Int) (u : U6) (e : Int) : Prop := match t with
  | none => u = z6 ∧ e = 2
  | some m => ((∀ x, ¬ IsOf m tai x) ∧ u = z6 ∧ e = 11) ∨ ∃ x d, IsOf m tai x ∧ GoodD d ∧ numD d = x ∧ u = uOf d (tai - begT m x) ∧ e = 0
theorem OfR.uniq {t : Option Tb} (hg : ∀ m, t = some m → GoodT m) {tai : Int} {u v : U6} {e f : Int} (h : OfR t tai u e) (k : OfR t tai v f) : u = v ∧ e = f := by
  cases t with
  | none => exact ⟨h.1.trans k.1.symm, h.2.trans k.2.symm⟩
  | some m =>
    rcases h with ⟨h0, h1, h2⟩ | ⟨x, d, h1, h2, h3, h4, h5⟩ <;> rcases k with ⟨k0, k1, k2⟩ | ⟨y, d', k1, k2, k3, k4, k5⟩
    · exact ⟨h1.trans k1.symm, h2.trans k2.symm⟩
    · exact absurd k1 (h0 y)
    · exact absurd h1 (k0 x)
    · have : x = y := h1.uniq (hg m rfl) k1
      subst this
      have : d = d' := numD_inj h2 k2 (h3.trans k3.symm)
      subst this
      exact ⟨h4.trans k4.symm, h5.trans k5.symm⟩
theorem OfR.err {t : Option Tb} {tai : Int} {u : U6} {e : Int} (h : OfR t tai u e) (he : e ≠ 0) : u = z6 := by
  cases t with
  | none => exact h.1
  | some m =>
    rcases h with ⟨_, h, _⟩ | ⟨_, _, _, _, _, _, h⟩
    · exact h
    · exact absurd h he
theorem utc_Of.o {w : World} {tp : Option Addr} {t : Option Tb} (hT : TbO w tp t) {tai : Int} (ht : I64 tai) {k : TR RUE → World → Prop} (h : ∀ u e w', OfR t tai u e → Gro w w' → k (tU u, (e, ()), ()) w') :
    clS Try.prog F.utc_Of [.pointer tp, .int .i64 tai] w true RUE k := by
  rcases hT with ⟨rfl, rfl⟩ | ⟨b, m, rfl, rfl, hT, hg⟩
  · exact utc_Of.nil fun w' u => h z6 2 w' ⟨rfl, rfl⟩ u
  · exact utc_Of.cl hT hg ht (fun hno w' u => h z6 11 w' (.inl ⟨hno, rfl, rfl⟩) u) fun x hx d hd hn w' u => h _ 0 w' (.inr ⟨x, d, hx, hd, hn, rfl, rfl⟩) u
abbrev RUII : List (Bool × List CK) := [(true, KU6), (false, [.i .i64]), (false, [.i .i64])]
/-- the world's time of a book's second: second, ticks, error -/
def UtcR (t : Option Tb) (v : Int × Int × Int) (u : U6) (n e : Int) : Prop := if v.2.2 ≠ 0 then u = z6 ∧ n = 0 ∧ e = v.2.2 else OfR t v.1 u e ∧ n = if e ≠ 0 then 0 else v.2.1
theorem UtcR.mk0 {t : Option Tb} {v : Int × Int × Int} (h : v.2.2 ≠ 0) : UtcR t v z6 0 v.2.2 := by unfold UtcR; rw [if_pos h]; exact ⟨rfl, rfl, rfl⟩
theorem UtcR.mk1 {t : Option Tb} {v : Int × Int × Int} (h : v.2.2 = 0) {u : U6} {e : Int} (hu : OfR t v.1 u e) : UtcR t v u (if e ≠ 0 then 0 else v.2.1) e := by unfold UtcR; rw [if_neg (fun x => x h)]; exact ⟨hu, rfl⟩
set_option maxRecDepth 20000 in
set_option maxHeartbeats 1000000 in
theorem anchor_Book_Utc.v {b : Nat} {has : Bool} {a : A6} {root boot t : Int} {tp : Option Addr} {tt : Option Tb} {w : World} (hB : Blk w b (bk has a)) (hg : has = true → okF (flA a) = true) (hT : TbO w tp tt) {k : TR RUII → World → Prop}
    (hk : ∀ u n e w', UtcR tt (taiV has a root boot t) u n e → Gro w w' → k (tU u, (n, ()), (e, ()), ()) w') :
    clS Try.prog F.anchor_Book_Utc [.pointer (some ⟨b, 0, none⟩), .pointer tp, .agg #[.int .i64 root, .int .u16 boot], .int .i64 t] w true RUII k := by
  refine anchor_Book_Utc.ok ?_
  unfold anchor_Book_Utc.wp
  refine alK_by fun p1 w2 e1 k1 u1 => alK_by fun p3 w4 e3 k3 u3 => ?_
  have g4 := u1.trans u3
  have l3 := k3.lt
  have s1 := u1.size
  refine (k1.gro u3).cA (cs := [.i .i64, .i .u16]) (root, boot, ()) rfl (anchor_Book_Tai.v (hB.gro g4) hg fun w7 u7 => alK_by fun p8 w9 e8 k8 u9 => k8.sta _ rfl rfl fun w10 k10 u10 => ?_)
  obtain ⟨v, hv⟩ : ∃ v, v = taiV has a root boot t := ⟨_, rfl⟩
  have tr : v.2.2 = 0 → I64 v.1 := by
    intro h
    rw [hv] at h ⊢
    unfold taiV at h ⊢
    split at h
    · cases h
    split at h
    · cases h
    split at h
    · cases h
    rename_i h1 h2 h3
    rw [if_neg h1, if_neg h2, if_neg h3]
    obtain ⟨r1, r2, r3, r4⟩ := okF_rng (hg (by cases has; exact absurd rfl h1; rfl))
    show I64 (a.2.2.2.2.2 + (t - a.2.2.2.2.1) / 1000)
    unfold I64; omega
  rw [← hv] at hk k10 ⊢
  have g10 : Gro w4 w10 := Gro.fresh u7 u9 u10 e8
  have q3 := k3.gro g10
  have fin : ∀ {w' w''}, Gro w4 w' → Upd (fun x => x = p3) w' w'' → Gro w w'' := fun g u => Upd.trans (g4.trans g) u fun i hi h => by omega
  refine brN (fun c => ?_) fun c => ?_
  · have c : v.2.2 ≠ 0 := c
    exact q3.sta _ rfl rfl fun w11 k11 u11 => Blk.ldU (u := z6) k11 (hk z6 0 v.2.2 w11 (UtcR.mk0 c) (fin g10 u11))
  · have c : v.2.2 = 0 := c
    have tr := tr c
    refine k10.i0 rfl (utc_Of.o (hT.gro (g4.trans g10)) tr fun u e w15 hu u15 => alK_by fun p16 w17 e16 k16 u17 => k16.sta _ rfl rfl fun w18 k18 u18 => ?_)
    have g18 : Gro w4 w18 := g10.trans (Gro.fresh u15 u17 u18 e16)
    have l16 := k18.lt
    refine brN (fun c2 => ?_) fun c2 => ?_
    · have c2 : e ≠ 0 := c2
      have hR := UtcR.mk1 (v := v) c hu
      rw [if_pos c2] at hR
      have := hk u 0 e
      have hz := hu.err c2
      subst hz
      exact (k3.gro g18).sta _ rfl rfl fun w19 k19 u19 => Blk.ldU (u := z6) k19 (this w19 hR (fin g18 u19))
    · have c2 : e = 0 := c2
      have hR := UtcR.mk1 (v := v) c hu
      rw [if_neg (fun h => h c2)] at hR
      have := hk u v.2.1 e
      rw [drK_eq]
      have K16 := k18.drew
      have K8 := (k10.gro (Gro.fresh u15 u17 u18 e16)).drew
      have K3 := (k3.gro g18).drew
      have gd := g18.trans (Gro.drew w18)
      generalize w18.drew = w21 at K16 K8 K3 gd
      have n38 : ¬ (p8 = p3) := by have := u7.size; omega
      refine Blk.ldU (u := u) K16 (K8.i1 1 rfl (cU_st (u := z6) (v := u) K3 fun w24 k24 u24 => ⟨⟨K8.hold u24 n38 1 (by simp), trivial⟩, Blk.ldU (u := u) k24 ?_⟩))
      subst c2
      exact this w24 hR (fin gd u24)
/-! ### the table of a law -/
set_option maxRecDepth 20000 in
set_option maxHeartbeats 1000000 in
theorem law23_made.cl {w : World} {m : Tb} {s : Sl} (hR : RowsP w s m.ls) (hn : m.ls.length ≤ 100000) (hI : ∀ l ∈ m.ls, I64 l.1 ∧ I64 l.2) {k : TR [(false, [.p])] → World → Prop} (h : ∀ tp t w', TbO w' tp t → Gro w w' → k ((tp, ()), ()) w') :
    clS Try.prog F.law23_made [vT m s] w false [(false, [.p])] k := by
  refine law23_made.ok ?_
  unfold law23_made.wp
  have hl := hR.len
  refine alK_by fun p1 w2 e1 k1 u1 => k1.c1 3 (c := .sl) (x := s) rfl ?_
  have l1 := k1.lt
  refine LoopT.by (fun z W => ∃ i : Nat, z.2.1 = i ∧ i ≤ m.ls.length ∧ OwnP W w2.heap.size z.1 (m.ls.take i) ∧ Gro w2 W) (fun z => ((m.ls.length : Int) - z.2.1).toNat) ⟨0, rfl, by omega, OwnR.nil _ _ _ _, Gro.refl _⟩ ?_
  rintro ⟨sl, z2, _⟩ W ⟨i, e2, hi, hO, hG⟩ _
  dsimp only at e2 hO
  subst e2
  refine brD (fun c => ?_) fun c => ?_
  · have c : (i : Int) < s.2.1 := c
    have hi' : i < m.ls.length := by omega
    have hx : m.ls[i]? = some m.ls[i] := List.getElem?_eq_getElem hi'
    have tk : m.ls.take (i + 1) = m.ls.take i ++ [m.ls[i]] := by rw [List.take_add_one, hx]; rfl
    generalize m.ls[i] = x at *
    have hRW := hR.gro (u1.trans hG)
    refine hRW.ix rfl hx fun a ha => hRW.ldN ha hx (alK_by fun p9 w10 e9 k9 u10 => k9.sta _ rfl rfl fun w11 k11 u11 => k11.ld2 (alK_by fun p13 w14 e13 k13 u14 => ?_))
    have g14 : Gro W w14 := (Gro.fresh (Gro.refl _) u10 u11 e9).trans u14
    have hO14 := hO.gro g14
    have hsz := g14.size
    have hG2 := hG.size
    refine ap_own (s := sl) (x := (some ⟨p13, 0, none⟩, 1, 1)) (e := T.leap_Leap) (size := 2) (base := w2.heap.size) (n := (m.ls.take i).length) (xs := ((m.ls.take i).map t2).flatMap (encs K2)) (news := encs K2 (t2 x)) (by kernel_rfl) (by kernel_rfl) (by decide) hO14
      ⟨rfl, fun _ => ⟨_, rfl, k13.news⟩⟩ ?_ (by show (m.ls.take i).length + 1 ≤ _; rw [List.length_take]; omega) (by omega) fun s' w16 o16 u16 hb => ?_
    · intro u hu
      simp only [t2, encs, enc, List.mem_cons, List.not_mem_nil, or_false] at hu
      rcases hu with rfl | rfl <;> rfl
    · have ei := wsucc hi' (show m.ls.length ≤ 1000000000 by omega)
      refine ⟨⟨i + 1, ei, by omega, ?_, ?_⟩, ?_⟩
      · show OwnP w16 w2.heap.size s' (m.ls.take (i + 1))
        rw [tk]
        unfold OwnP
        rw [List.length_append, List.map_append, List.flatMap_append]
        simpa using o16
      · exact Upd.trans (hG.trans g14) u16 fun j hj ⟨a, ha, hb⟩ => by have := (hO14.blk ha).1; omega
      · show ((m.ls.length : Int) - IntKind.wrap .i64 ((i : Int) + 1)).toNat < ((m.ls.length : Int) - (i : Int)).toNat
        rw [ei]; omega
  · have c : ¬ (i : Int) < s.2.1 := c
    have : i = m.ls.length := by omega
    subst this
    rw [List.take_length] at hO
    have kW := k1.gro hG
    refine kW.i0 rfl (kW.i1 1 rfl (kW.i1 2 rfl (leap_Make.cl (m := m) (s := sl) hO.row (by omega) hI (fun hne w21 u21 => ?_) fun he b w21 hb hT u21 => ?_)))
    · exact h none none w21 (.inl ⟨rfl, rfl⟩) ((u1.trans hG).trans u21)
    · exact h _ (some m) w21 (.inr ⟨b, m, rfl, rfl, hT, errT_good he⟩) ((u1.trans hG).trans u21)
theorem TbO.good {w : World} {tp : Option Addr} {t : Option Tb} (h : TbO w tp t) : ∀ m, t = some m → GoodT m := by
  intro m hm
  rcases h with ⟨_, h⟩ | ⟨b, m', _, h2, _, h4⟩
  · rw [h] at hm; cases hm
  · rw [h2] at hm; cases hm; exact h4
def wk (x : P14) : P14 := (6, x.2)
set_option maxRecDepth 20000 in
set_option maxHeartbeats 2000000 in
theorem law23_AnchorBack.cl {m : Tb} {s : Sl} {x : P14} {t : Int} (hx : UP x) {w : World} (hR : RowsP w s m.ls) (hI : ∀ l ∈ m.ls, I64 l.1 ∧ I64 l.2) : clS Try.prog F.law23_AnchorBack [vT m s, vP x, .int .i64 t] w false RB1 (Holds w) := by
  refine law23_AnchorBack.ok ?_
  unfold law23_AnchorBack.wp
  have hl := hR.len
  refine alK_by fun p1 w2 e1 k1 u1 => alK_by fun p3 w4 e3 k3 u3 => law23_alive.cl fun w6 u6 => brF rfl ?_
  change Blk w4 p3 (encs K14 x) at k3
  have s1 := u1.size
  have g6 := (u1.trans u3).trans u6
  refine (k3.gro u6).sN0 _ (by simp [encs]) rfl fun w7 k7 u7 => ?_
  have k7 : Blk w7 p3 (encs K14 (wk x)) := k7
  have g7 : Gro w w7 := Upd.trans g6 u7 fun i hi h => by omega
  have l3 := k3.lt
  have l1 := k1.lt
  have q1 : Blk w7 p1 (cT m s) := ((k1.gro u3).gro u6).upd u7 (by omega)
  have hy : UP (wk x) := hx
  have y6 : (wk x).1 = 6 := rfl
  generalize wk x = y at k7 hy y6
  refine q1.c1 3 (c := .sl) (x := s) rfl (brD (fun _ => holds g7 rfl) fun c => ?_)
  have c : ¬ (s.2.1 : Int) > 64 := c
  refine k7.cA (cs := K14) y rfl (ref05_Good.cl6 hy y6 fun w11 u11 => brNot (fun _ => holds (g7.trans u11) rfl) fun cg => ?_)
  have cg : okF (flA (ofP y)) = true := cg
  have g11 := g7.trans u11
  refine brD (fun _ => holds g11 rfl) fun c1 => brD (fun _ => holds g11 rfl) fun c2 => ?_
  have c1 : ¬ t < 0 := c1
  have c2 : ¬ t > 1125899906842624 := c2
  refine alK_by fun p12 w13 e12 k12 u13 => ?_
  change Blk w13 p12 (bk false (0, 0, 0, 0, 0, 0)) at k12
  have y13 := (k7.gro u11).gro u13
  have l12 := k12.lt
  refine y13.cA (cs := K14) y rfl (law23_of.cl (x := y) fun w16 u16 => ?_)
  obtain ⟨A, hA⟩ : ∃ A, A = ofP y := ⟨_, rfl⟩
  rw [← hA] at cg ⊢
  have hUA : UA A := by rw [hA]; exact ⟨hy.2, hy.1⟩
  refine anchor_Book_Hear.cl (a := A) hUA (k12.gro u16) (fun _ _ w18 B18 u18 => brF rfl ?_) fun hn => absurd ⟨cg, fun h => by cases h⟩ hn
  have sz11 := u11.size
  have g18 : Gro w w18 := Upd.trans ((g11.trans u13).trans u16) u18 fun i hi h => by have := g11.size; omega
  have y18 : Blk w18 p3 (encs K14 y) := (y13.gro u16).upd u18 (by have := u6.size; have := u7.size; have := u11.size; omega)
  have q18 : Blk w18 p1 (cT m s) := (((q1.gro u11).gro u13).gro u16).upd u18 (by have := u3.size; have := u6.size; have := u7.size; have := u11.size; omega)
  have hroot : y.2.2.2.1 = A.2.2.1 := by rw [hA]; rfl
  have hboot : y.2.2.2.2.1 = A.2.2.2.1 := by rw [hA]; rfl
  obtain ⟨r1, r2, r3, r4⟩ := okF_rng cg
  have hv : taiV true A A.2.2.1 A.2.2.2.1 t = (A.2.2.2.2.2 + (t - A.2.2.2.2.1) / 1000, (t - A.2.2.2.2.1) % 1000, 0) := by
    unfold taiV; rw [if_neg (by simp), if_neg (by simp), if_neg (by omega)]
  have hv0 : (taiV true A A.2.2.1 A.2.2.2.1 0).2.2 = 0 := by
    unfold taiV; rw [if_neg (by simp), if_neg (by simp), if_neg (by omega)]
  obtain ⟨V, hV⟩ : ∃ V, V = taiV true A A.2.2.1 A.2.2.2.1 t := ⟨_, rfl⟩
  refine y18.c1 3 (c := .i .i64) (x := y.2.2.2.1) rfl (y18.c1 4 (c := .i .u16) (x := y.2.2.2.2.1) rfl ?_)
  rw [hroot, hboot]
  refine alK_by fun p21 w22 e21 k21 u22 => k21.sta _ rfl rfl fun w23 k23 u23 => k23.cA (cs := [.i .i64, .i .u16]) (A.2.2.1, A.2.2.2.1, ()) rfl ?_
  have g23 : Gro w18 w23 := Gro.fresh (Gro.refl _) u22 u23 e21
  refine anchor_Book_Tai.v (a := A) (root := A.2.2.1) (boot := A.2.2.2.1) (B18.gro g23) (fun _ => cg) fun w26 u26 => ?_
  rw [← hV]
  refine alK_by fun p27 w28 e27 k27 u28 => k27.sta _ rfl rfl fun w29 k29 u29 => ?_
  have g29 : Gro w18 w29 := g23.trans (Gro.fresh u26 u28 u29 e27)
  have V1 : V.1 = A.2.2.2.2.2 + (t - A.2.2.2.2.1) / 1000 := by rw [hV, hv]
  have V2 : V.2.1 = (t - A.2.2.2.2.1) % 1000 := by rw [hV, hv]
  have V3 : V.2.2 = 0 := by rw [hV, hv]
  have k23' := k23.gro (Gro.fresh u26 u28 u29 e27)
  refine brN (fun h => absurd V3 h) fun _ => k29.i1 1 rfl (brD (fun h => absurd (show V.2.1 < 0 from h) (by omega)) fun _ => k29.i1 1 rfl (brD (fun h => absurd (show V.2.1 > 999 from h) (by omega)) fun _ => ?_))
  refine k23'.cA (cs := [.i .i64, .i .u16]) (A.2.2.1, A.2.2.2.1, ()) rfl (k29.i0 rfl (anchor_Book_Time.v (a := A) (root := A.2.2.1) (boot := A.2.2.2.1) (B18.gro g29) (fun _ => cg) fun w35 u35 => ?_))
  have hTm : (timV true A A.2.2.1 A.2.2.2.1 V.1).2 = 8 ∨ (timV true A A.2.2.1 A.2.2.2.1 V.1).2 = 0 ∧ (timV true A A.2.2.1 A.2.2.2.1 V.1).1 + V.2.1 = t := by
    unfold timV
    rw [if_neg (fun h => h hv0)]
    split
    · exact .inl rfl
    split
    · exact .inl rfl
    · right; refine ⟨rfl, ?_⟩
      show A.2.2.2.2.1 + 1000 * (V.1 - A.2.2.2.2.2) + V.2.1 = t
      omega
  have hTr : (timV true A A.2.2.1 A.2.2.2.1 V.1).2 = 0 → I64 ((timV true A A.2.2.1 A.2.2.2.1 V.1).1 + V.2.1) := by
    intro h
    rcases hTm with h2 | ⟨_, h2⟩
    · rw [h2] at h; cases h
    · rw [h2]; unfold I64; omega
  generalize timV true A A.2.2.1 A.2.2.2.1 V.1 = TM at hTm hTr ⊢
  have g35 := g29.trans u35
  refine CutT.by (fun _ W => Gro w35 W) ?_ ?_
  · refine brE (fun h => ?_) fun h => ?_
    · have h : TM.2 = 0 := h
      refine (k29.gro u35).i1 1 rfl (brF ?_ (brF (by show (TM.2 != 0) = false; rw [h]; rfl) (Gro.refl _)))
      show (IntKind.wrap .i64 (TM.1 + V.2.1) != t) = false
      rw [w64_in (hTr h)]
      rcases hTm with h2 | ⟨_, h2⟩
      · rw [h2] at h; cases h
      · rw [h2]; simp
    · have h : TM.2 ≠ 0 := h
      rcases hTm with h2 | ⟨h2, _⟩
      · refine brT (by show (TM.2 != 0) = true; rw [h2]; rfl) (brF (by show (TM.2 != 8) = false; rw [h2]; rfl) (Gro.refl _))
      · exact absurd h2 h
  intro _ w38 h38 _
  have g38 := g35.trans h38
  have y38 := y18.gro g38
  refine y38.c1 3 (c := .i .i64) (x := y.2.2.2.1) rfl (y38.c1 4 (c := .i .u16) (x := y.2.2.2.2.1) rfl ?_)
  rw [hroot, hboot]
  refine anchor_Book_Tai.v (a := A) (root := A.2.2.1) (boot := IntKind.wrap .u16 (A.2.2.2.1 + 1)) (B18.gro g38) (fun _ => cg) fun w43 u43 => ?_
  have h9 : (taiV true A A.2.2.1 (IntKind.wrap .u16 (A.2.2.2.1 + 1)) t).2.2 = 9 := by
    have := hUA.2
    unfold U16 at this
    unfold taiV; rw [if_neg (by simp), if_pos (.inr (by rw [wu16]; omega))]
  generalize taiV true A A.2.2.1 (IntKind.wrap .u16 (A.2.2.2.1 + 1)) t = V9 at h9 ⊢
  refine alK_by fun p44 w45 e44 k44 u45 => k44.sta _ rfl rfl fun w46 k46 u46 => ?_
  have g46 : Gro w18 w46 := g38.trans (Gro.fresh u43 u45 u46 e44)
  refine Blk.ldT (q18.gro g46) (law23_made.cl (m := m) (s := s) (hR.gro (g18.trans g46)) (by omega) hI fun tp tt w49 hT u49 => ?_)
  have g49 := g46.trans u49
  have f46 : Gro w38 w46 := Gro.fresh u43 u45 u46 e44
  have f49 : Gro w29 w49 := ((u35.trans h38).trans f46).trans u49
  have K21 := k23'.gro f49
  have K27 := k29.gro f49
  refine K21.cA (cs := [.i .i64, .i .u16]) (A.2.2.1, A.2.2.2.1, ()) rfl ?_
  refine anchor_Book_Utc.v (a := A) (root := A.2.2.1) (boot := A.2.2.2.1) (B18.gro g49) (fun _ => cg) hT fun u n e w52 hU u52 => ?_
  rw [← hV] at hU
  unfold UtcR at hU
  rw [if_neg (fun h => h V3)] at hU
  obtain ⟨hU, hn⟩ := hU
  refine alK_by fun p53 w54 e53 k53 u54 => k53.sta _ rfl rfl fun w55 k55 u55 => ?_
  have g55 : Gro w49 w55 := Gro.fresh u52 u54 u55 e53
  refine (K27.gro g55).i0 rfl (utc_Of.o (hT.gro g55) (by rw [V1]; unfold I64; omega) fun u' e' w58 hU' u58 => ?_)
  obtain ⟨eu, ee⟩ := hU.uniq hT.good hU'
  subst eu ee
  refine alK_by fun p59 w60 e59 k59 u60 => k59.sta _ rfl rfl fun w61 k61 u61 => ?_
  have g61 : Gro w55 w61 := Gro.fresh u58 u60 u61 e59
  have G61 := ((g18.trans g49).trans g55).trans g61
  refine brT (by show (V9.2.2 == 9) = true; rw [h9]; rfl) ?_
  refine brT (by show (e == e) = true; simp) ?_
  refine Blk.ldU (u := u) (k55.gro g61) (Blk.ldU (u := u) k61 ?_)
  refine brT (eq6_self u) ?_
  refine brN (fun _ => holds G61 rfl) fun he => ((K27.gro g55).gro g61).i1 1 rfl (holds G61 ?_)
  have he : e = 0 := he
  rw [if_neg (fun h => h he)] at hn
  show (n == V.2.1) = true
  rw [hn]; simp
theorem law23_AnchorBack.fin {cs : List Value} {x : P14} {t : Int} (hx : UP x) {w : World} (h : Okc w shT cs) : clS Try.prog F.law23_AnchorBack [.agg cs.toArray, .agg (encs K14 x).toArray, .int .i64 t] w false RB1 (Holds w) := by
  obtain ⟨m, s, rfl, hR, hI, _⟩ := tab_open h
  exact law23_AnchorBack.cl (x := x) hx hR hI
end Go.Proofs.Ytimdngcmbmamdaa
