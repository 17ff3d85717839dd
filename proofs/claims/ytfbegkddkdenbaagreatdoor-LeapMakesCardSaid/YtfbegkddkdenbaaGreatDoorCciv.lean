/- Contracts of days and dates: the program's (civil) and the document's (ref20). Conditions: none. -/
import Derived.Test.YtfbegkddkdenbaaGreatDoorCcal
import Derived.Test.YtfbegkddkdenbaaGreatDoorSh
namespace Go.Proofs.YtfbegkddkdenbaaGreatDoor
open Go.Eng Go
set_option linter.unusedVariables false
set_option linter.unusedSimpArgs false

abbrev RI1 : List (Bool × List CK) := [(false, [.i .i64])]
abbrev RB1 : List (Bool × List CK) := [(false, [.b])]
abbrev K3 : List CK := [.i .i64, .i .i64, .i .i64]
abbrev tD (d : D3) : Tvs K3 := (d.1, d.2.1, d.2.2, ())
abbrev vD (d : D3) : Value := .agg #[.int .i64 d.1, .int .i64 d.2.1, .int .i64 d.2.2]
def I64D (d : D3) : Prop := I64 d.1 ∧ I64 d.2.1 ∧ I64 d.2.2

theorem tmod4 {x n : Int} (hx : 0 ≤ x) : Int.tmod x n = x % n := Int.tmod_eq_emod_of_nonneg hx
theorem tdiv4 {x n : Int} (hx : 0 ≤ x) : Int.tdiv x n = x / n := Int.tdiv_eq_ediv_of_nonneg hx
theorem bq {b : Bool} {p : Prop} [Decidable p] (h : b = true ↔ p) : b = decide p := by
  rw [Bool.eq_iff_iff, decide_eq_true_iff]; exact h

theorem civil_leap.cl {y : Int} (hy : 0 ≤ y) {w : World} {k : TR RB1 → World → Prop} (h : k ((lpY y, ()), ()) w) : clS Tryz.prog F.civil_leap [.int .i64 y] w false RB1 k := by
  refine civil_leap.ok ?_
  unfold civil_leap.wp
  simp only [tmod4 hy]
  rw [nzK_eq (by decide)]
  unfold lpY at h
  refine brE (fun c1 => ?_) fun c1 => ?_
  · rw [nzK_eq (by decide)]
    refine brN (fun c2 => ?_) fun c2 => ?_
    · rw [decide_eq_true (by omega)] at h; exact h
    · rw [nzK_eq (by decide)]
      have e : ((y % 400) == 0) = decide (y % 4 = 0 ∧ (y % 100 ≠ 0 ∨ y % 400 = 0)) := bq (by rw [beq_iff_eq]; omega)
      rw [e]; exact h
  · rw [decide_eq_false (by omega)] at h; exact h
theorem ref20_Long.cl {y : Int} (hy : 0 ≤ y) {w : World} {k : TR RB1 → World → Prop} (h : k ((lpY y, ()), ()) w) : clS Tryz.prog F.ref20_Long [.int .i64 y] w false RB1 k := by
  refine ref20_Long.ok ?_
  unfold ref20_Long.wp
  simp only [tmod4 hy]
  rw [nzK_eq (by decide)]
  unfold lpY at h
  refine brE (fun c1 => ?_) fun c1 => ?_
  · rw [decide_eq_true (by omega)] at h; exact h
  · rw [nzK_eq (by decide)]
    refine brE (fun c2 => ?_) fun c2 => ?_
    · rw [nzK_eq (by decide)]
      have e : ((y % 100) != 0) = decide (y % 4 = 0 ∧ (y % 100 ≠ 0 ∨ y % 400 = 0)) := bq (by rw [bne_iff_ne]; omega)
      rw [e]; exact h
    · rw [decide_eq_false (by omega)] at h; exact h
theorem civil_month.cl {y m : Int} (hy : 0 ≤ y) (h1 : 1 ≤ m) (h2 : m ≤ 12) {w : World} {k : TR RI1 → World → Prop} (h : k ((mlen y m, ()), ()) w) : clS Tryz.prog F.civil_month [.int .i64 y, .int .i64 m] w false RI1 k := by
  refine civil_month.ok ?_
  unfold civil_month.wp
  have key : (m ≠ 2 ∨ lpY y = false) → ∀ {A : Int → Prop}, A (mlen y m) → aiK [0, 31, 28, 31, 30, 31, 30, 31, 31, 30, 31, 30, 31] 13 m A := by
    intro hm A hA
    have hc : m = 1 ∨ m = 2 ∨ m = 3 ∨ m = 4 ∨ m = 5 ∨ m = 6 ∨ m = 7 ∨ m = 8 ∨ m = 9 ∨ m = 10 ∨ m = 11 ∨ m = 12 := by omega
    unfold mlen at hA
    rcases hc with rfl | rfl | rfl | rfl | rfl | rfl | rfl | rfl | rfl | rfl | rfl | rfl
    all_goals first
      | exact hA
      | (rcases hm with hm | hm
         · exact absurd rfl hm
         · rw [hm] at hA; exact hA)
  refine brE (fun c => ?_) fun c => key (.inl c) h
  refine civil_leap.cl hy (brC (fun c2 => ?_) fun c2 => key (.inr c2) h)
  have e : mlen y m = 29 := by unfold mlen; rw [if_pos c, if_pos c2]
  rw [e] at h; exact h
theorem ref20_Days.cl {y m : Int} (hy : 0 ≤ y) {w : World} {k : TR RI1 → World → Prop} (h : k ((mlen y m, ()), ()) w) : clS Tryz.prog F.ref20_Days [.int .i64 y, .int .i64 m] w false RI1 k := by
  refine ref20_Days.ok ?_
  unfold ref20_Days.wp
  unfold mlen at h
  refine CutT.by (fun z w' => w' = w ∧ z.1 = decide (m = 4 ∨ m = 6 ∨ m = 9 ∨ m = 11)) ?_ ?_
  · refine brE (fun c => ⟨rfl, ?_⟩) fun c1 => brE (fun c => ⟨rfl, ?_⟩) fun c2 => brE (fun c => ⟨rfl, ?_⟩) fun c3 => ⟨rfl, ?_⟩
    · exact bq (by simp; omega)
    · exact bq (by simp; omega)
    · exact bq (by simp; omega)
    · exact bq (by simp; omega)
  · rintro ⟨z, _⟩ _ ⟨rfl, hz⟩ _
    dsimp only at hz
    subst hz
    refine brD (fun c => ?_) fun c => brE (fun c2 => ?_) fun c2 => ?_
    · rw [if_neg (by omega), if_pos c] at h; exact h
    · rw [if_pos c2] at h
      exact ref20_Long.cl hy (brC (fun c3 => by rw [if_pos c3] at h; exact h) fun c3 => by have c3 : lpY y = false := c3; rw [if_neg (by rw [c3]; simp)] at h; exact h)
    · rw [if_neg c2, if_neg c] at h; exact h

theorem goodDb_of {d : D3} {b : Bool} (h : b = true ↔ GoodD d) : b = goodDb d := bq h
theorem civil_Date_Good.cl {d : D3} {w : World} {k : TR RB1 → World → Prop} (h : ∀ w', Gro w w' → k ((goodDb d, ()), ()) w') : clS Tryz.prog F.civil_Date_Good [vD d] w false RB1 k := by
  refine civil_Date_Good.ok ?_
  unfold civil_Date_Good.wp
  refine alK_by fun p1 w2 e1 k1 u1 => ?_
  rw [drK_eq]
  have k1 := k1.drew
  have g := u1.trans (Gro.drew _)
  generalize w2.drew = w3 at k1 g
  have no : ¬ GoodD d → ∀ {w'}, Gro w w' → k ((false, ()), ()) w' := fun hn w' g' => by
    have := h w' g'
    rw [show goodDb d = false from decide_eq_false hn] at this; exact this
  refine k1.i0 rfl (brD (fun c1 => ?_) fun c => no (fun hg => c hg.1) g)
  refine k1.i0 rfl (brD (fun c2 => ?_) fun c => no (fun hg => c hg.2.1) g)
  refine k1.i1 1 rfl (brD (fun c3 => ?_) fun c => no (fun hg => c hg.2.2.1) g)
  refine k1.i1 1 rfl (brD (fun c4 => ?_) fun c => no (fun hg => c hg.2.2.2.1) g)
  refine k1.i1 2 rfl (brD (fun c5 => ?_) fun c => no (fun hg => c hg.2.2.2.2.1) g)
  refine k1.i1 2 rfl (k1.i0 rfl (k1.i1 1 rfl ?_))
  have c1 : d.1 ≥ 1 := c1
  have c2 : d.1 ≤ 9999 := c2
  have c3 : d.2.1 ≥ 1 := c3
  have c4 : d.2.1 ≤ 12 := c4
  have c5 : d.2.2 ≥ 1 := c5
  refine civil_month.cl (by omega) c3 c4 ⟨⟨k1.hold (Gro.refl _) (fun x => x) 2 (by simp), k1.hold (Gro.refl _) (fun x => x) 2 (by simp), k1.hold (Gro.refl _) (fun x => x) 1 (by simp), k1.hold (Gro.refl _) (fun x => x) 1 (by simp), k1.hold (Gro.refl _) (fun x => x) 0 (by simp), k1.hold (Gro.refl _) (fun x => x) 0 (by simp), trivial⟩, ?_⟩
  have e : decide (d.2.2 ≤ mlen d.1 d.2.1) = goodDb d := goodDb_of (by rw [decide_eq_true_iff]; unfold GoodD; omega)
  have := h w3 g
  rw [← e] at this; exact this
theorem ref20_Good.cl {d : D3} {w : World} {k : TR RB1 → World → Prop} (h : ∀ w', Gro w w' → k ((goodDb d, ()), ()) w') : clS Tryz.prog F.ref20_Good [vD d] w false RB1 k := by
  refine ref20_Good.ok ?_
  unfold ref20_Good.wp
  refine alK_by fun p1 w2 e1 k1 u1 => ?_
  rw [drK_eq]
  have k1 := k1.drew
  have g := u1.trans (Gro.drew _)
  generalize w2.drew = w3 at k1 g
  have no : ¬ GoodD d → ∀ {w'}, Gro w w' → k ((false, ()), ()) w' := fun hn w' g' => by
    have := h w' g'
    rw [show goodDb d = false from decide_eq_false hn] at this; exact this
  refine k1.i0 rfl (brD (fun c1 => ?_) fun c => no (fun hg => c hg.1) g)
  refine k1.i0 rfl (brD (fun c2 => ?_) fun c => no (fun hg => c hg.2.1) g)
  refine k1.i1 1 rfl (brD (fun c3 => ?_) fun c => no (fun hg => c hg.2.2.1) g)
  refine k1.i1 1 rfl (brD (fun c4 => ?_) fun c => no (fun hg => c hg.2.2.2.1) g)
  refine k1.i1 2 rfl (brD (fun c5 => ?_) fun c => no (fun hg => c hg.2.2.2.2.1) g)
  refine k1.i1 2 rfl (k1.i0 rfl (k1.i1 1 rfl ?_))
  have c1 : d.1 ≥ 1 := c1
  have c2 : d.1 ≤ 9999 := c2
  have c3 : d.2.1 ≥ 1 := c3
  have c4 : d.2.1 ≤ 12 := c4
  have c5 : d.2.2 ≥ 1 := c5
  refine ref20_Days.cl (by omega) ⟨⟨k1.hold (Gro.refl _) (fun x => x) 2 (by simp), k1.hold (Gro.refl _) (fun x => x) 2 (by simp), k1.hold (Gro.refl _) (fun x => x) 1 (by simp), k1.hold (Gro.refl _) (fun x => x) 1 (by simp), k1.hold (Gro.refl _) (fun x => x) 0 (by simp), k1.hold (Gro.refl _) (fun x => x) 0 (by simp), trivial⟩, ?_⟩
  have e : decide (d.2.2 ≤ mlen d.1 d.2.1) = goodDb d := goodDb_of (by rw [decide_eq_true_iff]; unfold GoodD; omega)
  have := h w3 g
  rw [← e] at this; exact this

theorem yrs_rng {y : Int} (h1 : 1 ≤ y) (h2 : y ≤ 20000) : 0 ≤ yrs y ∧ yrs y ≤ 8000000 := by unfold yrs; omega
theorem civil_years.cl {y : Int} (h1 : 1 ≤ y) (h2 : y ≤ 20000) {w : World} {k : TR RI1 → World → Prop} (h : k ((yrs y, ()), ()) w) : clS Tryz.prog F.civil_years [.int .i64 y] w false RI1 k := by
  refine civil_years.ok ?_
  unfold civil_years.wp
  rw [nzK_eq (by decide), nzK_eq (by decide), nzK_eq (by decide)]
  have e0 : IntKind.wrap .i64 (y - 1) = y - 1 := w64_in (by unfold I64; omega)
  simp only [e0, tdiv4 (show 0 ≤ y - 1 by omega)]
  rw [w64_in (n := 365 * (y - 1)) (by unfold I64; omega), w64_in (n := (y - 1) / 4) (by unfold I64; omega), w64_in (n := (y - 1) / 100) (by unfold I64; omega), w64_in (n := (y - 1) / 400) (by unfold I64; omega),
    w64_in (n := 365 * (y - 1) + (y - 1) / 4) (by unfold I64; omega), w64_in (n := 365 * (y - 1) + (y - 1) / 4 - (y - 1) / 100) (by unfold I64; omega), w64_in (n := 365 * (y - 1) + (y - 1) / 4 - (y - 1) / 100 + (y - 1) / 400) (by unfold I64; omega)]
  exact h

theorem cum_rng (y : Int) : ∀ n : Nat, 0 ≤ cumD y n ∧ cumD y n ≤ 31 * n
  | 0 => by simp [cumD]
  | n + 1 => by
    have := cum_rng y n
    have := mlen_le y (n + 1)
    simp only [cumD]; omega
set_option maxRecDepth 20000 in
theorem civil_Date_Number.cl {d : D3} {w : World} {k : TR [(false, [.i .i64]), (false, [.b])] → World → Prop} (h0 : goodDb d = false → ∀ w', Gro w w' → k ((0, ()), (false, ()), ()) w')
    (h1 : goodDb d = true → ∀ w', Gro w w' → k ((numD d, ()), (true, ()), ()) w') : clS Tryz.prog F.civil_Date_Number [vD d] w true [(false, [.i .i64]), (false, [.b])] k := by
  refine civil_Date_Number.ok ?_
  unfold civil_Date_Number.wp
  refine alK_by fun p1 w2 e1 k1 u1 => k1.ld3 (civil_Date_Good.cl fun w5 u5 => brNot (fun c => h0 c w5 (u1.trans u5)) fun c => ?_)
  have hg : GoodD d := of_decide_eq_true c
  have h1 := h1 c
  obtain ⟨g1, g2, g3, g4, g5, g6⟩ := hg
  have m1 := (mlen_le d.1 d.2.1).2
  rw [drK_eq]
  have k5 := (k1.gro u5).drew
  have g := (u1.trans u5).trans (Gro.drew _)
  generalize w5.drew = w6 at k5 g
  have yr := yrs_rng g1 (by omega : d.1 ≤ 20000)
  refine k5.i0 rfl (k5.i1 2 rfl (civil_years.cl g1 (by omega) ⟨⟨k5.hold (Gro.refl _) (fun x => x) 2 (by simp), trivial⟩, ?_⟩))
  have ea : IntKind.wrap .i64 (Int.negSucc 719161 + yrs d.1) = -719162 + yrs d.1 := by rw [w64_in (by unfold I64; omega)]; omega
  have eb : IntKind.wrap .i64 (-719162 + yrs d.1 + d.2.2) = -719162 + yrs d.1 + d.2.2 := w64_in (by unfold I64; omega)
  have ec : IntKind.wrap .i64 (-719162 + yrs d.1 + d.2.2 - 1) = -719162 + yrs d.1 + d.2.2 - 1 := w64_in (by unfold I64; omega)
  rw [ea, eb, ec]
  refine LoopT.by (fun z W => ∃ i : Nat, (i : Int) < d.2.1 ∧ z.1 = -719162 + yrs d.1 + d.2.2 - 1 + cumD d.1 i ∧ z.2.1 = (i : Int) + 1 ∧ Blk W p1 [.int .i64 d.1, .int .i64 d.2.1, .int .i64 d.2.2] ∧ Gro w W)
    (fun z => (20 - z.2.1).toNat) ⟨0, by omega, by simp [cumD], rfl, k5, g⟩ ?_
  rintro ⟨z1, z2, _⟩ W ⟨i, hi, e1, e2, hB, hG⟩ _
  dsimp only at e1 e2
  subst e1 e2
  have cr := cum_rng d.1 i
  refine hB.i1 1 rfl (brD (fun c => ?_) fun c => ?_)
  · have c : (i : Int) + 1 < d.2.1 := c
    have ml := mlen_le d.1 (i + 1)
    refine hB.i0 rfl (civil_month.cl (by omega) (by show (1 : Int) ≤ (i : Int) + 1; omega) (by show (i : Int) + 1 ≤ 12; omega) ⟨⟨i + 1, by omega, ?_, ?_, hB, hG⟩, ?_⟩)
    · show IntKind.wrap .i64 (-719162 + yrs d.1 + d.2.2 - 1 + cumD d.1 i + mlen d.1 ((i : Int) + 1)) = _
      rw [w64_in (by unfold I64; omega)]; simp only [cumD]; omega
    · show IntKind.wrap .i64 ((i : Int) + 1 + 1) = _
      rw [w64_in (by unfold I64; omega)]; omega
    · show (20 - IntKind.wrap .i64 ((i : Int) + 1 + 1)).toNat < (20 - ((i : Int) + 1)).toNat
      rw [w64_in (by unfold I64; omega)]; omega
  · have c : ¬ (i : Int) + 1 < d.2.1 := c
    have e : (d.2.1 - 1).toNat = i := by omega
    have := h1 W hG
    unfold numD at this
    rw [e] at this
    rw [show -719162 + yrs d.1 + d.2.2 - 1 + cumD d.1 i = -719162 + yrs d.1 + cumD d.1 i + d.2.2 - 1 by omega]
    exact this

set_option maxRecDepth 20000 in
/-- the date of a number -/
theorem civil_Of.cl {n : Int} (hn : I64 n) {w : World} {k : TR [(true, K3), (false, [.b])] → World → Prop} (h0 : n < -719162 ∨ 2932896 < n → ∀ w', Gro w w' → k (tD (0, 0, 0), (false, ()), ()) w')
    (h1 : -719162 ≤ n → n ≤ 2932896 → ∀ d : D3, GoodD d → numD d = n → ∀ w', Gro w w' → k (tD d, (true, ()), ()) w') : clS Tryz.prog F.civil_Of [.int .i64 n] w true [(true, K3), (false, [.b])] k := by
  refine civil_Of.ok ?_
  unfold civil_Of.wp
  have fin : ∀ {p1 : Nat} {W W' : World}, w.heap.size = p1 → Gro w W → Upd (fun x => x = p1) W W' → Gro w W' := fun e g u => Upd.trans g u fun i hi h => by omega
  refine alK_by fun p1 w2 e1 k1 u1 => brD (fun c => ?_) fun c1 => brD (fun c => ?_) fun c2 => ?_
  · exact k1.sta _ rfl rfl fun w3 k3 u3 => k3.ld3 (h0 (.inl (by have c : n < -719162 := c; exact c)) w3 (fin e1 u1 u3))
  · exact k1.sta _ rfl rfl fun w3 k3 u3 => k3.ld3 (h0 (.inr c) w3 (fin e1 u1 u3))
  have c1 : ¬ n < -719162 := c1
  have c2 : ¬ n > 2932896 := c2
  have h1 := h1 (by omega) (by omega)
  have ea : IntKind.wrap .i64 (n - Int.negSucc 719161) = n + 719162 := by rw [w64_in (by unfold I64; omega)]; omega
  rw [nzK_eq (by decide), ea, tdiv4 (by omega), w64_in (n := (n + 719162) / 366) (by unfold I64; omega), w64_in (n := (n + 719162) / 366 + 1) (by unfold I64; omega)]
  refine LoopT.by (fun z W => 1 ≤ z.1 ∧ z.1 ≤ 9999 ∧ yrs z.1 ≤ n + 719162 ∧ Blk W p1 [.int .i64 0, .int .i64 0, .int .i64 0] ∧ Gro w W)
    (fun z => (20000 - z.1).toNat) ⟨by show 1 ≤ (n + 719162) / 366 + 1; omega, by show (n + 719162) / 366 + 1 ≤ 9999; omega, by show yrs ((n + 719162) / 366 + 1) ≤ _; unfold yrs; omega, k1, u1⟩ ?_
  rintro ⟨y, _⟩ W ⟨i1, i2, i3, hB, hG⟩ _
  dsimp only at i1 i2 i3
  rw [show IntKind.wrap .i64 ((y, ()).1 + 1) = y + 1 from w64_in (by show I64 (y + 1); unfold I64; omega)]
  refine civil_years.cl (by omega) (by omega) (brD (fun c => ?_) fun c => ?_)
  · have c : yrs (y + 1) ≤ n + 719162 := c
    have lt : y + 1 ≤ 9999 := by
      rcases ilt_ge (y + 1) 10000 with h | h
      · omega
      · have : y + 1 = 10000 := by omega
        rw [this] at c
        have : yrs 10000 = 3652059 := by decide
        omega
    exact ⟨⟨by show (1 : Int) ≤ y + 1; omega, lt, c, hB, hG⟩, by show (20000 - (y + 1)).toNat < (20000 - y).toNat; omega⟩
  · have c : ¬ yrs (y + 1) ≤ n + 719162 := c
    rw [yrs_succ] at c
    refine civil_years.cl i1 (by show y ≤ 20000; omega) ?_
    have eb : IntKind.wrap .i64 (n + 719162 - yrs y) = n + 719162 - yrs y := w64_in (by have := yrs_rng i1 (by omega : y ≤ 20000); unfold I64; omega)
    rw [show IntKind.wrap .i64 (n + 719162 - yrs (y, ()).1) = n + 719162 - yrs y from eb]
    have y12 := cum12 y
    refine LoopT.by (fun z W => ∃ i : Nat, i < 12 ∧ z.2.1 = (i : Int) + 1 ∧ z.1 = n + 719162 - yrs y - cumD y i ∧ 0 ≤ z.1 ∧ Blk W p1 [.int .i64 0, .int .i64 0, .int .i64 0] ∧ Gro w W)
      (fun z => (20 - z.2.1).toNat) ⟨0, by omega, rfl, by simp [cumD], by show 0 ≤ n + 719162 - yrs y; omega, hB, hG⟩ ?_
    rintro ⟨r, m, _⟩ W2 ⟨i, hi, e2, e3, e4, hB2, hG2⟩ _
    dsimp only at e2 e3 e4
    subst e2
    have ml := mlen_le y (i + 1)
    have cr := cum_rng y i
    refine civil_month.cl (by show 0 ≤ y; omega) (by show (1 : Int) ≤ (i : Int) + 1; omega) (by show (i : Int) + 1 ≤ 12; omega) (brD (fun c2 => ?_) fun c2 => ?_)
    · have c2 : r ≥ mlen y ((i : Int) + 1) := c2
      have i11 : i < 11 := by
        rcases Nat.lt_or_ge i 11 with h | h
        · exact h
        · have : i = 11 := by omega
          subst this
          have : cumD y 12 = cumD y 11 + mlen y ((11 : Nat) + 1 : Int) := rfl
          omega
      have ew : IntKind.wrap .i64 (r - mlen y ((i : Int) + 1)) = r - mlen y ((i : Int) + 1) := w64_in (by have := yrs_rng i1 (by omega : y ≤ 20000); unfold I64; omega)
      refine civil_month.cl (by show 0 ≤ y; omega) (by show (1 : Int) ≤ (i : Int) + 1; omega) (by show (i : Int) + 1 ≤ 12; omega) ⟨⟨i + 1, by omega, ?_, ?_, ?_, hB2, hG2⟩, ?_⟩
      · show IntKind.wrap .i64 ((i : Int) + 1 + 1) = _
        rw [w64_in (by unfold I64; omega)]; omega
      · show IntKind.wrap .i64 (r - mlen y ((i : Int) + 1)) = _
        rw [ew]; simp only [cumD]; omega
      · show 0 ≤ IntKind.wrap .i64 (r - mlen y ((i : Int) + 1))
        rw [ew]; omega
      · show (20 - IntKind.wrap .i64 ((i : Int) + 1 + 1)).toNat < (20 - ((i : Int) + 1)).toNat
        rw [w64_in (by unfold I64; omega)]; omega
    · have c2 : ¬ r ≥ mlen y ((i : Int) + 1) := c2
      have ew : IntKind.wrap .i64 (r + 1) = r + 1 := w64_in (by unfold I64; omega)
      refine hB2.sta _ rfl rfl fun w3 k3 u3 => k3.ld3 ?_
      have ei : ((i : Int) + 1 - 1).toNat = i := by omega
      have := h1 (y, (i : Int) + 1, r + 1) ⟨i1, i2, by show (1 : Int) ≤ (i : Int) + 1; omega, by show (i : Int) + 1 ≤ 12; omega, by show (1 : Int) ≤ r + 1; omega, by show r + 1 ≤ mlen y ((i : Int) + 1); omega⟩
        (by show -719162 + yrs y + cumD y ((i : Int) + 1 - 1).toNat + (r + 1) - 1 = n; rw [ei]; omega) w3 (fin e1 hG2 u3)
      rw [show (IntKind.wrap .i64 ((r, (i : Int) + 1, ()).1 + 1)) = r + 1 from ew]
      exact this
end Go.Proofs.YtfbegkddkdenbaaGreatDoor
