/- Law of layer 14: GlobeNear. Conditions: none. -/
import Derived.Test.YthgkdjfcdbjpdaaCglo3
namespace Go.Proofs.Ythgkdjfcdbjpdaa
open Go.Eng Go
set_option linter.unusedVariables false
set_option linter.unusedSimpArgs false

theorem dr_cases (drift : Int) : dr drift = 0 ∨ dr drift = 1 ∨ dr drift = 2 ∨ dr drift = 3 ∨ dr drift = 4 ∨ dr drift = 5 ∨ dr drift = 6 ∨ dr drift = 7 ∨ dr drift = 8 ∨ dr drift = 9 ∨ dr drift = 10 := by
  have := dr_bd drift; omega
/-- what the greatest slope gains -/
def gG (drift x : Int) : Int := 2 * dr drift * x / (1000 - dr drift)
theorem gG_spec (drift : Int) {x : Int} (h0 : 0 ≤ x) : 0 ≤ gG drift x ∧ (1000 - dr drift) * gG drift x ≤ 2 * dr drift * x ∧ 2 * dr drift * x < (1000 - dr drift) * gG drift x + (1000 - dr drift) ∧ 99 * gG drift x ≤ 2 * x := by
  have hd := dr_bd drift
  have hp : 0 ≤ 2 * dr drift * x := Int.mul_nonneg (by omega) h0
  have h1 := Int.emod_add_mul_ediv (2 * dr drift * x) (1000 - dr drift)
  have h2 := Int.emod_nonneg (2 * dr drift * x) (show 1000 - dr drift ≠ 0 by omega)
  have h3 := Int.emod_lt_of_pos (2 * dr drift * x) (show 0 < 1000 - dr drift by omega)
  have h4 : 0 ≤ gG drift x := Int.ediv_nonneg hp (by omega)
  unfold gG at *
  generalize 2 * dr drift * x / (1000 - dr drift) = q at *
  generalize 2 * dr drift * x % (1000 - dr drift) = r at *
  refine ⟨h4, by omega, by omega, ?_⟩
  have hc := dr_cases drift; generalize dr drift = d at *; rcases hc with rfl | rfl | rfl | rfl | rfl | rfl | rfl | rfl | rfl | rfl | rfl <;> omega
theorem gG_md {drift x : Int} (h0 : 0 ≤ x) (h1 : x ≤ 1125899906842624) : mdV (2 * dr drift) x (1000 - dr drift) = gG drift x := by
  have hd := dr_bd drift
  obtain ⟨a, _, _, b⟩ := gG_spec drift h0
  unfold gG at a b ⊢
  unfold mdV
  rw [if_pos]
  unfold mdB
  rw [decide_eq_false (by omega), Bool.not_false, Bool.true_and, decide_eq_true_eq]
  unfold I64; omega

/-- an entry that was right but for 'off', seen from a later point of a clock that gained within the slope -/
def Nr (drift off l o : Int) (e : E3) : Prop :=
  e.1 ≤ l ∧ (1000 - dr drift) * (o - e.2.1) ≤ (1000 - dr drift) * off + 2 * dr drift * (l - e.1) ∧ -((1000 - dr drift) * off) - 2 * dr drift * (l - e.1) ≤ (1000 - dr drift) * (o - e.2.1)
theorem Nr.step {drift off l o k g : Int} {e : E3} (h : Nr drift off l o e) (hk : 0 ≤ k) (h1 : g ≤ gG drift k) (h2 : -gG drift k ≤ g) : Nr drift off (l + k) (o + g) e := by
  obtain ⟨a, b, c⟩ := h
  obtain ⟨g0, g1, g2, g3⟩ := gG_spec drift hk
  generalize gG drift k = q at *
  unfold Nr
  have hc := dr_cases drift; generalize dr drift = d at *; rcases hc with rfl | rfl | rfl | rfl | rfl | rfl | rfl | rfl | rfl | rfl | rfl <;> omega
theorem Nr.new {drift off l o r : Int} (h0 : -off ≤ r) (h1 : r ≤ off) : Nr drift off l o (l, o + r, 1) := by
  unfold Nr
  have hc := dr_cases drift; generalize dr drift = d at *; rcases hc with rfl | rfl | rfl | rfl | rfl | rfl | rfl | rfl | rfl | rfl | rfl <;> simp only <;> omega
theorem Nr_sum {drift off l o f : Int} : ∀ (n : Nat) (es : List E3), es.length = n → (∀ e ∈ es, Nr drift off l o e ∧ f ≤ e.1) →
    (n : Int) * f ≤ sL es ∧ sL es ≤ n * l ∧ (1000 - dr drift) * (n * o - sO es) ≤ n * ((1000 - dr drift) * off) + 2 * dr drift * (n * l - sL es) ∧ -(n * ((1000 - dr drift) * off)) - 2 * dr drift * (n * l - sL es) ≤ (1000 - dr drift) * (n * o - sO es)
  | 0, es, hl, _ => by
    have : es = [] := List.eq_nil_of_length_eq_zero hl
    subst this
    simp [sL, sO]
  | n + 1, es, hl, h => by
    have hne : es ≠ [] := by intro e; subst e; cases hl
    obtain ⟨x, e, rfl⟩ : ∃ x e, es = x ++ [e] := ⟨es.dropLast, es.getLast hne, (List.dropLast_concat_getLast hne).symm⟩
    obtain ⟨a, b, c, d⟩ := Nr_sum n x (by simpa using hl) fun y hy => h y (by simp [hy])
    obtain ⟨⟨p, q, r⟩, s⟩ := h e (by simp)
    rw [sL_snoc, sO_snoc]
    have e1 : ((n + 1 : Nat) : Int) * f = n * f + f := by push_cast; rw [Int.add_mul]; omega
    have e2 : ((n + 1 : Nat) : Int) * l = n * l + l := by push_cast; rw [Int.add_mul]; omega
    have e3 : ((n + 1 : Nat) : Int) * o = n * o + o := by push_cast; rw [Int.add_mul]; omega
    have e4 : ((n + 1 : Nat) : Int) * ((1000 - dr drift) * off) = n * ((1000 - dr drift) * off) + (1000 - dr drift) * off := by push_cast; rw [Int.add_mul]; omega
    rw [e1, e2, e3, e4]
    generalize (n : Int) * f = nf at *
    generalize (n : Int) * l = nl at *
    generalize (n : Int) * o = no at *
    generalize (n : Int) * ((1000 - dr drift) * off) = nd at *
    refine ⟨by omega, by omega, ?_, ?_⟩
    · have hc := dr_cases drift; generalize dr drift = d at *; rcases hc with rfl | rfl | rfl | rfl | rfl | rfl | rfl | rfl | rfl | rfl | rfl <;> omega
    · have hc := dr_cases drift; generalize dr drift = d at *; rcases hc with rfl | rfl | rfl | rfl | rfl | rfl | rfl | rfl | rfl | rfl | rfl <;> omega

/-- the map is near -/
theorem near {drift off l o f : Int} {es : List E3} (hd : drift = drift) (hne : es ≠ []) (hg : ∀ e ∈ es, goodB e = true) (hN : ∀ e ∈ es, Nr drift off l o e ∧ f ≤ e.1) (ho : 0 ≤ off) (hfl : f ≤ l) :
    raw (mapV drift es) l - (l + o) ≤ off + 2 * gG drift (l - f) ∧ -(off + 2 * gG drift (l - f) + 2) ≤ raw (mapV drift es) l - (l + o) := by
  obtain ⟨a, b, c, d⟩ := Nr_sum es.length es rfl hN
  have hn : (0 : Int) < es.length := by have := List.length_pos_iff.2 hne; omega
  have hm := mapV_MB (drift := drift) hne hg
  obtain ⟨g0, g1, g2, _⟩ := gG_spec drift (show 0 ≤ l - f by omega)
  have hdr := dr_bd drift
  -- the point
  have L1 := Int.emod_add_mul_ediv (sL es) (es.length : Int)
  have L2 := Int.emod_nonneg (sL es) (show (es.length : Int) ≠ 0 by omega)
  have L3 := Int.emod_lt_of_pos (sL es) hn
  have O1 := Int.emod_add_mul_ediv (sO es) (es.length : Int)
  have O2 := Int.emod_nonneg (sO es) (show (es.length : Int) ≠ 0 by omega)
  have O3 := Int.emod_lt_of_pos (sO es) hn
  have lf : f ≤ sL es / (es.length : Int) := Int.le_ediv_of_mul_le hn (by rw [Int.mul_comm]; exact a)
  have ll : sL es / (es.length : Int) ≤ l := by
    have : sL es < (l + 1) * (es.length : Int) := by rw [Int.add_mul, Int.mul_comm l]; omega
    have := Int.ediv_lt_of_lt_mul hn this
    omega
  -- offsets
  have hX : 2 * dr drift * ((es.length : Int) * l - sL es) ≤ (es.length : Int) * (2 * dr drift * (l - f)) := by
    have h1 : (es.length : Int) * l - sL es ≤ (es.length : Int) * (l - f) := by rw [Int.mul_sub]; omega
    have h2 := Int.mul_le_mul_of_nonneg_left h1 (show 0 ≤ 2 * dr drift by omega)
    have e : 2 * dr drift * ((es.length : Int) * (l - f)) = (es.length : Int) * (2 * dr drift * (l - f)) := by rw [← Int.mul_assoc, Int.mul_comm (2 * dr drift), Int.mul_assoc]
    omega
  have hden : 0 < 1000 - dr drift := by omega
  have e9 : (1000 - dr drift) * (off + gG drift (l - f) + 1) = (1000 - dr drift) * off + (1000 - dr drift) * gG drift (l - f) + (1000 - dr drift) := by rw [Int.mul_add, Int.mul_add, Int.mul_one]
  have e8 : (es.length : Int) * ((1000 - dr drift) * off + 2 * dr drift * (l - f)) = (es.length : Int) * ((1000 - dr drift) * off) + (es.length : Int) * (2 * dr drift * (l - f)) := Int.mul_add ..
  have up : o - sO es / (es.length : Int) ≤ off + gG drift (l - f) + 1 := by
    have h2 := Int.mul_le_mul_of_nonneg_left (show (es.length : Int) * o - (es.length : Int) * (sO es / (es.length : Int)) - (es.length : Int) ≤ (es.length : Int) * o - sO es by omega) (show 0 ≤ 1000 - dr drift by omega)
    have e1 : (es.length : Int) * ((1000 - dr drift) * (o - sO es / (es.length : Int) - 1)) = (1000 - dr drift) * ((es.length : Int) * o - (es.length : Int) * (sO es / (es.length : Int)) - (es.length : Int)) := by
      rw [Int.mul_left_comm]
      congr 1
      rw [Int.mul_sub, Int.mul_sub, Int.mul_one]
    have h3 : (es.length : Int) * ((1000 - dr drift) * (o - sO es / (es.length : Int) - 1)) ≤ (es.length : Int) * ((1000 - dr drift) * off + 2 * dr drift * (l - f)) := by omega
    have h4 := Int.le_of_mul_le_mul_left h3 hn
    have h5 : (1000 - dr drift) * (o - sO es / (es.length : Int) - 1) < (1000 - dr drift) * (off + gG drift (l - f) + 1) := by omega
    have := Int.lt_of_mul_lt_mul_left h5 (by omega)
    omega
  have dn : sO es / (es.length : Int) - o ≤ off + gG drift (l - f) := by
    have h2 := Int.mul_le_mul_of_nonneg_left (show (es.length : Int) * o - sO es ≤ (es.length : Int) * o - (es.length : Int) * (sO es / (es.length : Int)) by omega) (show 0 ≤ 1000 - dr drift by omega)
    have e1 : (es.length : Int) * ((1000 - dr drift) * (sO es / (es.length : Int) - o)) = -((1000 - dr drift) * ((es.length : Int) * o - (es.length : Int) * (sO es / (es.length : Int)))) := by
      rw [Int.mul_left_comm, ← Int.mul_neg]
      congr 1
      rw [Int.mul_sub]; omega
    have h3 : (es.length : Int) * ((1000 - dr drift) * (sO es / (es.length : Int) - o)) ≤ (es.length : Int) * ((1000 - dr drift) * off + 2 * dr drift * (l - f)) := by omega
    have h4 := Int.le_of_mul_le_mul_left h3 hn
    have h5 : (1000 - dr drift) * (sO es / (es.length : Int) - o) < (1000 - dr drift) * (off + gG drift (l - f) + 1) := by omega
    have := Int.lt_of_mul_lt_mul_left h5 (by omega)
    omega
  -- the slope
  have hsv := hm.sv
  have hD : 0 < (slopeV drift es).2 := by have := hsv.d0; have : 1 ≤ (slopeV drift es).2 := this; omega
  have sup : (slopeV drift es).1 * (1000 - dr drift) ≤ 2 * dr drift * (slopeV drift es).2 := hsv.up
  have sdn : -(slopeV drift es).1 * (1000 - dr drift) ≤ 2 * dr drift * (slopeV drift es).2 := hsv.dn
  have er : raw (mapV drift es) l = l + sO es / (es.length : Int) + (slopeV drift es).1 * (l - sL es / (es.length : Int)) / (slopeV drift es).2 := rfl
  rw [er]
  generalize (slopeV drift es).1 = A at sup sdn ⊢
  generalize (slopeV drift es).2 = D at hD sup sdn ⊢
  obtain ⟨y, hy⟩ : ∃ y, l - sL es / (es.length : Int) = y := ⟨_, rfl⟩
  rw [hy]
  have y0 : 0 ≤ y := by omega
  have yX : y ≤ l - f := by omega
  have hyX := Int.mul_le_mul_of_nonneg_left yX (show 0 ≤ 2 * dr drift by omega)
  have m1 := Int.mul_le_mul_of_nonneg_right sup y0
  have m2 := Int.mul_le_mul_of_nonneg_right sdn y0
  have c1 : A * (1000 - dr drift) * y = A * y * (1000 - dr drift) := by rw [Int.mul_assoc, Int.mul_comm (1000 - dr drift) y, ← Int.mul_assoc]
  have c2 : 2 * dr drift * D * y = 2 * dr drift * y * D := by rw [Int.mul_assoc, Int.mul_comm D y, ← Int.mul_assoc]
  have c3 : -A * (1000 - dr drift) * y = -(A * y * (1000 - dr drift)) := by rw [Int.neg_mul, Int.neg_mul, c1]
  have gu : A * y / D ≤ gG drift (l - f) := by
    have h1 := div_cross (P := A * y) (D := D) (Q := 2 * dr drift * y) (E := 1000 - dr drift) hD hden (by omega)
    have h2 := div_mono hden hyX
    unfold gG; omega
  have gl : -(gG drift (l - f)) - 1 ≤ A * y / D := by
    have h1 := div_cross (P := -(2 * dr drift * y)) (D := 1000 - dr drift) (Q := A * y) (E := D) hden hD (by rw [Int.neg_mul]; omega)
    have h2 := div_mono hden hyX
    have h3 := Int.emod_add_mul_ediv (2 * dr drift * y) (1000 - dr drift)
    have h4 := Int.emod_lt_of_pos (2 * dr drift * y) hden
    have h5 : -(2 * dr drift * y / (1000 - dr drift)) - 1 ≤ -(2 * dr drift * y) / (1000 - dr drift) := by
      refine Int.le_ediv_of_mul_le hden ?_
      have e : (-(2 * dr drift * y / (1000 - dr drift)) - 1) * (1000 - dr drift) = -((1000 - dr drift) * (2 * dr drift * y / (1000 - dr drift))) - (1000 - dr drift) := by
        rw [Int.sub_mul, Int.neg_mul, Int.one_mul, Int.mul_comm (2 * dr drift * y / (1000 - dr drift))]
      omega
    unfold gG; omega
  omega

set_option maxRecDepth 20000 in
set_option maxHeartbeats 4000000 in
theorem law14_GlobeNear.cl {drift start ahead off : Int} {ss sg sr : Sl} {xs gs rs : List Int} {w : World} (hS : Row w ss 1 (xs.map (Value.int .i64))) (hG : Row w sg 1 (gs.map (Value.int .i64))) (hR : Row w sr 1 (rs.map (Value.int .i64))) :
    clS Try.prog F.law14_GlobeNear [.int .i64 drift, .slice ss.1 ss.2.1 ss.2.2, .slice sg.1 sg.2.1 sg.2.2, .slice sr.1 sr.2.1 sr.2.2, .int .i64 start, .int .i64 ahead, .int .i64 off] w false [(false, [.b])] (Holds w) := by
  refine law14_GlobeNear.ok ?_
  unfold law14_GlobeNear.wp
  have lS := hS.ilen
  have lG := hG.ilen
  have lR := hR.ilen
  refine law14_alive.cl fun w2 u2 => brF rfl ?_
  refine brD (fun _ => holds u2 rfl) fun c1 => brD (fun _ => holds u2 rfl) fun c2 => brD (fun _ => holds u2 rfl) fun c3 => brD (fun _ => holds u2 rfl) fun c4 => brD (fun _ => holds u2 rfl) fun c5 => brD (fun _ => holds u2 rfl) fun c6 => ?_
  refine brD (fun _ => holds u2 rfl) fun c7 => brD (fun _ => holds u2 rfl) fun c8 => brD (fun _ => holds u2 rfl) fun c9 => brD (fun _ => holds u2 rfl) fun c10 => brD (fun _ => holds u2 rfl) fun c11 => brD (fun _ => holds u2 rfl) fun c12 => ?_
  have hdr := dr_bd drift
  refine ref13_Most.cl (alK_by fun p5 w6 e5 k5 u6 => ?_)
  refine LoopT.by (fun z w' => Gro w2 w' ∧ ∃ (i : Nat) (st : Sl) (es : List E3), z.2.2.2.1 = (i : Int) ∧ i ≤ xs.length ∧ Tab w' w2.heap.size p5 st es ∧ es.length = min i (xs.length - 1) ∧ (∀ e ∈ es, goodB e = true) ∧
      start ≤ z.1 ∧ z.1 ≤ start + i * 100000 ∧ ahead - i * 2021 ≤ z.2.1 ∧ z.2.1 ≤ ahead + i * 2021 ∧ (0 < i → start ≤ z.2.2.1 ∧ z.2.2.1 ≤ z.1 ∧ z.1 - z.2.2.1 ≤ i * 100000) ∧ ∀ e ∈ es, Nr drift off z.1 z.2.1 e ∧ z.2.2.1 ≤ e.1)
    (fun z => (1000 - z.2.2.2.1).toNat) ⟨u6, 0, _, [], rfl, by omega, Tab.new k5, by simp, (fun e h => by cases h), by simp, by simp, by simp, by simp, (fun h => by omega), fun e h => by cases h⟩ ?_
  rintro ⟨l, o, f, zi, _⟩ w9 ⟨g, i, st, es, hz, hi, hT, hlen, hgood, l0, l1, o0, o1, hf, hN⟩ _
  obtain rfl : zi = (i : Int) := hz
  dsimp only at l0 l1 o0 o1 hf hN ⊢
  have gw := u2.trans g
  refine brD (fun c => ?_) fun c => ?_
  · have hi' : i < xs.length := by have c : (i : Int) < (ss.2.1 : Int) := c; omega
    have hx : xs[i]? = some xs[i] := List.getElem?_eq_getElem hi'
    have hg : gs[i]? = some gs[i] := List.getElem?_eq_getElem (by omega)
    have hr : rs[i]? = some rs[i] := List.getElem?_eq_getElem (by omega)
    generalize xs[i] = k at hx
    generalize gs[i]'(by omega) = y at hg
    generalize rs[i]'(by omega) = r at hr
    refine Row.ix (hS.gro gw) rfl hx (brD (fun _ => holds gw rfl) fun d1 => brD (fun _ => holds gw rfl) fun d2 => ?_)
    rw [w64_in (n := 0 - off) (by unfold I64; omega)]
    refine Row.ix (hR.gro gw) rfl hr (brD (fun _ => holds gw rfl) fun d3 => Row.ix (hR.gro gw) rfl hr (brD (fun _ => holds gw rfl) fun d4 => ?_))
    have d1 : ¬ k < 1 := d1
    have d2 : ¬ k > 100000 := d2
    have d3 : ¬ r < 0 - off := d3
    have d4 : ¬ r > off := d4
    refine ref13_Gain.cl (dr_I (drift := drift)).1.2 (dr_I (drift := drift)).2.2 (by unfold I64; omega) fun w17 u17 => ?_
    have g17 := gw.trans u17
    obtain ⟨q0, _, _, q3⟩ := gG_spec drift (show 0 ≤ k by omega)
    dsimp only
    rw [gG_md (show 0 ≤ k by omega) (by omega), w64_in (n := 0 - gG drift k) (by unfold I64; omega)]
    refine Row.ix (hG.gro g17) rfl hg (brD (fun _ => holds g17 rfl) fun d5 => Row.ix (hG.gro g17) rfl hg (brD (fun _ => holds g17 rfl) fun d6 => Row.ix (hG.gro g17) rfl hg ?_))
    have d5 : ¬ y < 0 - gG drift k := d5
    have d6 : ¬ y > gG drift k := d6
    rw [w64_in (n := l + k) (by unfold I64; omega), w64_in (n := o + y) (by unfold I64; omega)]
    have e1 : IntKind.wrap .i64 ((i : Int) + 1) = ((i + 1 : Nat) : Int) := len_succ (by omega)
    have mes : (1000 - IntKind.wrap .i64 ((i : Int) + 1)).toNat < (1000 - (i : Int)).toNat := by rw [e1]; omega
    refine CutT.by (fun z w' => w' = w17 ∧ z.1 = if i = 0 then l + k else f) ?_ ?_
    · refine brE (fun c => ⟨rfl, ?_⟩) fun c => ⟨rfl, ?_⟩
      · have c : (i : Int) = 0 := c
        rw [if_pos (by omega)]
      · have c : (i : Int) ≠ 0 := c
        rw [if_neg (by omega)]
    rintro ⟨f', _⟩ w26 ⟨rfl, hf'⟩ _
    dsimp only at hf' ⊢
    have hT' := hT.gro u17
    have g26 := g.trans u17
    have hN' : ∀ e ∈ es, Nr drift off (l + k) (o + y) e ∧ f' ≤ e.1 := fun e he => by
      have h0 : i ≠ 0 := by intro h; subst h; have : es = [] := List.eq_nil_of_length_eq_zero (by omega); subst this; cases he
      rw [hf', if_neg h0]
      exact ⟨(hN e he).1.step (by omega) (by omega) (by omega), (hN e he).2⟩
    have hff : start ≤ f' ∧ f' ≤ l + k ∧ l + k - f' ≤ ((i + 1 : Nat) : Int) * 100000 := by
      rw [hf']
      split
      · omega
      · have := hf (by omega); omega
    rw [lS, len_pred (n := xs.length) (by omega) (by omega)]
    refine brD (fun c => ?_) fun c => ?_
    · have c : (i : Int) < ((xs.length - 1 : Nat) : Int) := c
      refine Row.ix (hR.gro g17) rfl hr ?_
      rw [w64_in (n := o + y + r) (by unfold I64; omega)]
      have hnew : Nr drift off (l + k) (o + y) (l + k, o + y + r, 1) := Nr.new (by omega) (by omega)
      have gnew : goodB (l + k, o + y + r, 1) = true := goodB_iff.2 ⟨by show 0 ≤ l + k; omega, by show l + k ≤ _; omega, by show _ ≤ o + y + r; omega, by show o + y + r ≤ _; omega, by show (1 : Int) ≤ 1; omega, by show (1 : Int) ≤ 63; omega⟩
      have hold : tooOld es (l + k, o + y + r, 1) = false := by
        rcases h0 : es.getLast? with _ | e
        · unfold tooOld; rw [h0]
        · rw [tooOld_some h0]
          have := (hN e (List.mem_of_getLast? h0)).1.1
          exact decide_eq_false (by show ¬ l + k ≤ e.1; omega)
      have a0 : addN es (l + k, o + y + r, 1) = 0 := by unfold addN; rw [if_neg (by rw [gnew]; simp), if_neg (by rw [hold]; simp)]
      have aL : addL es (l + k, o + y + r, 1) = es ++ [(l + k, o + y + r, 1)] := by
        rw [(addN_0 a0).2.2, show es.length + 1 - 8 = 0 by omega]; rfl
      refine table_Table_Add.own (e := (l + k, o + y + r, 1)) g26 hT' (by omega) fun st' w30 T30 g30 _ _ => ?_
      rw [a0]
      rw [aL] at T30
      refine brN (fun h => absurd rfl h) fun _ => ⟨⟨g30, i + 1, st', _, e1, by omega, T30, ?_, ?_, by show start ≤ l + k; omega, by show l + k ≤ _; omega, by show _ ≤ o + y; omega, by show o + y ≤ _; omega, fun _ => hff, ?_⟩, mes⟩
      · rw [List.length_append, List.length_singleton]; omega
      · intro e he
        rcases List.mem_append.1 he with he | he
        · exact hgood e he
        · rw [List.mem_singleton.1 he]; exact gnew
      · intro e he
        rcases List.mem_append.1 he with he | he
        · exact hN' e he
        · rw [List.mem_singleton.1 he]; exact ⟨hnew, hff.2.1⟩
    · have c : ¬ (i : Int) < ((xs.length - 1 : Nat) : Int) := c
      exact ⟨⟨g26, i + 1, st, es, e1, by omega, hT', by omega, hgood, (by show start ≤ l + k; omega), (by show l + k ≤ _; omega), (by show _ ≤ o + y; omega), (by show o + y ≤ _; omega), fun _ => hff, hN'⟩, mes⟩
  · have hi' : i = xs.length := by have c : ¬ (i : Int) < (ss.2.1 : Int) := c; omega
    have hne : es ≠ [] := by intro h; subst h; simp at hlen; omega
    have hff := hf (by omega)
    refine globe_Of.cl hT.tv (by omega) hgood (fun h => absurd h hne) fun _ w32 u32 => ?_
    have hm := mapV_MB (drift := drift) hne hgood
    have hnear := near (drift := drift) (off := off) (l := l) (o := o) (f := f) rfl hne hgood hN (by omega) hff.2.1
    obtain ⟨q0, _, _, q3⟩ := gG_spec drift (show 0 ≤ l - f by omega)
    generalize mapV drift es = m at hm hnear
    refine alK_by fun p33 w34 e33 k33 u34 => k33.sta (m5 m) rfl rfl fun w35 k35 u35 => ?_
    have g35 := gw.trans (Gro.fresh u32 u34 u35 e33)
    refine k35.ld5 (globe_Map_Global.cl (m := m) hm fun w38 u38 => brF rfl ?_)
    rw [w64_in (n := l + o) (by unfold I64; omega), w64_in (n := l - f) (by unfold I64; omega)]
    refine brNot (fun no => holds (g35.trans u38) ?_) fun ok => ?_
    · have no : okG m l = false := no
      refine decide_eq_true ?_
      have : ¬ (0 ≤ raw m l ∧ raw m l ≤ 1125899906842624) := fun h => by
        have := okG_iff.2 ⟨by omega, by omega, h.1, h.2⟩
        rw [no] at this; cases this
      omega
    · have ok : okG m l = true := ok
      have e2 : gV m l = raw m l := by unfold gV; rw [if_pos ok]
      obtain ⟨_, _, r0, r1⟩ := okG_iff.1 ok
      refine ref13_Gain.cl (dr_I (drift := drift)).1.2 (dr_I (drift := drift)).2.2 (by unfold I64; omega) fun w40 u40 => ?_
      dsimp only
      rw [gG_md (show 0 ≤ l - f by omega) (by omega), e2]
      generalize gG drift (l - f) = G at *
      rw [w64_in (n := raw m l - (l + o)) (by unfold I64; omega), w64_in (n := 2 * G) (by unfold I64; omega), w64_in (n := off + 2 * G) (by unfold I64; omega), w64_in (n := off + 2 * G + 4) (by unfold I64; omega), w64_in (n := 0 - (off + 2 * G + 4)) (by unfold I64; omega)]
      exact brT (decide_eq_true (by omega)) (holds ((g35.trans u38).trans u40) (decide_eq_true (by omega)))
end Go.Proofs.Ythgkdjfcdbjpdaa
