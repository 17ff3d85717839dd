/- Contracts of tables of leaps (leap) and of the document's (ref21): made, asked. Conditions: none. -/
import Derived.Test.YtfbegkddkdenbaaGreatDoorCciv
namespace Go.Proofs.YtfbegkddkdenbaaGreatDoor
open Go.Eng Go
set_option linter.unusedVariables false
set_option linter.unusedSimpArgs false

abbrev K2 : List CK := [.i .i64, .i .i64]
abbrev P2 := Int × Int
abbrev L2 := List P2
def t2 (l : P2) : Tvs K2 := (l.1, l.2, ())
def RowsP (w : World) (s : Sl) (ls : L2) : Prop := RowsT w s K2 (ls.map t2)
theorem RowsP.len {w : World} {s : Sl} {ls : L2} (h : RowsP w s ls) : s.2.1 = ls.length := by
  have := RowsT.len h (by decide); rwa [List.length_map] at this
theorem RowsP.gro {w w' : World} {s : Sl} {ls : L2} (h : RowsP w s ls) (u : Gro w w') : RowsP w' s ls := RowsT.gro h u
theorem t2_get {ls : L2} {i : Nat} {l : P2} (h : ls[i]? = some l) : (ls.map t2)[i]? = some (t2 l) := by rw [List.getElem?_map, h]; rfl
theorem RowsP.ix {w : World} {s : Sl} {ls : L2} (h : RowsP w s ls) {z : Int} {i : Nat} {l : P2} (hz : z = i) (hi : ls[i]? = some l) {k : Addr → Prop} (hk : ∀ a, s.1 = some a → k a) : ixK s.1 s.2.1 z k :=
  RowsT.ix h (by decide) hz (t2_get hi) hk
theorem RowsP.ldN {w : World} {s : Sl} {ls : L2} (h : RowsP w s ls) {a : Addr} (ha : s.1 = some a) {i : Nat} {l : P2} (hi : ls[i]? = some l) {k : Tvs K2 → Prop} (hk : k (l.1, l.2, ())) : Eng.ldN K2 (a.add (((i : Int)).toNat * 2)) 0 w k :=
  RowsT.ldN h ha (t2_get hi) hk
theorem RowsP.addr {w : World} {s : Sl} {ls : L2} (h : RowsP w s ls) {i : Nat} {l : P2} (hi : ls[i]? = some l) : ∃ a, s.1 = some a := RowsT.addr h (by decide) (t2_get hi)
theorem RowsP.f0 {w : World} {s : Sl} {ls : L2} (h : RowsP w s ls) {a : Addr} (ha : s.1 = some a) {i : Nat} {l : P2} (hi : ls[i]? = some l) {z : Int} (hz : z = i) {k : Int → Prop} (hk : k l.1) : ld1 (.i .i64) (a.add (z.toNat * 2)) w k := by
  subst hz
  have := flat_get (t2_get hi) 0 (.int .i64 l.1) rfl
  refine ld1_cell (Row.ld h ha this) (dec_i _ _) hk
theorem RowsP.f1 {w : World} {s : Sl} {ls : L2} (h : RowsP w s ls) {a : Addr} (ha : s.1 = some a) {i : Nat} {l : P2} (hi : ls[i]? = some l) {z : Int} (hz : z = i) {k : Int → Prop} (hk : k l.2) : ld1 (.i .i64) ((a.add (z.toNat * 2)).add 1) w k := by
  subst hz
  rw [add_add]
  have := flat_get (t2_get hi) 1 (.int .i64 l.2) rfl
  refine ld1_cell (Row.ld h ha this) (dec_i _ _) hk
structure Tb where
  st : Int
  ah : Int
  en : Int
  ls : L2
def ahS (a : Int) : L2 → Int → Int
  | [], _ => a
  | l :: ls, day => ahS (if l.1 < day then a + l.2 else a) ls day
def stS : L2 → Int → Int
  | [], _ => 0
  | l :: ls, day => if l.1 = day then l.2 else stS ls day
/-- the leaps' days rise, beyond lo and ahead of en -/
def Asc (en : Int) : Int → L2 → Prop
  | _, [] => True
  | lo, l :: ls => lo < l.1 ∧ l.1 < en ∧ Asc en l.1 ls
instance decAsc (en : Int) : (lo : Int) → (ls : L2) → Decidable (Asc en lo ls)
  | _, [] => .isTrue trivial
  | lo, l :: ls => by unfold Asc; have := decAsc en l.1 ls; exact inferInstance
def Stp (l : P2) : Prop := l.2 = 1 ∨ l.2 = -1
instance (l : P2) : Decidable (Stp l) := by unfold Stp; exact inferInstance
def Rngd (m : Tb) : Prop := -719162 ≤ m.st ∧ m.st ≤ 2932896 ∧ -719162 ≤ m.en ∧ m.en ≤ 2932896 ∧ m.st < m.en ∧ 0 ≤ m.ah ∧ m.ah ≤ 99
instance (m : Tb) : Decidable (Rngd m) := by unfold Rngd; exact inferInstance
/-- the error's number -/
def errT (m : Tb) : Int := if ¬ Rngd m then 1 else if ¬ (∀ l ∈ m.ls, Stp l) then 1 else if 64 < m.ls.length then 6 else if ¬ Asc m.en (m.st - 1) m.ls then 12 else 0
def GoodT (m : Tb) : Prop := Rngd m ∧ (∀ l ∈ m.ls, Stp l) ∧ m.ls.length ≤ 64 ∧ Asc m.en (m.st - 1) m.ls
theorem errT_good {m : Tb} (h : errT m = 0) : GoodT m := by
  unfold errT at h
  split at h
  · cases h
  split at h
  · cases h
  split at h
  · cases h
  split at h
  · cases h
  rename_i h1 h2 h3 h4
  exact ⟨Decidable.not_not.1 h1, Decidable.not_not.1 h2, by omega, Decidable.not_not.1 h4⟩
theorem good_errT {m : Tb} (h : GoodT m) : errT m = 0 := by
  unfold errT
  rw [if_neg (fun x => x h.1), if_neg (fun x => x h.2.1), if_neg (by have := h.2.2.1; omega), if_neg (fun x => x h.2.2.2)]
theorem ahS_add (ls : L2) (day : Int) : ∀ a c, ahS (a + c) ls day = ahS a ls day + c := by
  induction ls with
  | nil => intro a c; rfl
  | cons l ls ih =>
    intro a c
    simp only [ahS]
    split
    · rw [show a + c + l.2 = (a + l.2) + c by omega, ih]
    · rw [ih]
theorem ahS_rng {ls : L2} (h : ∀ l ∈ ls, Stp l) (day : Int) : ∀ a, a - ls.length ≤ ahS a ls day ∧ ahS a ls day ≤ a + ls.length := by
  induction ls with
  | nil => intro a; simp [ahS]
  | cons l ls ih =>
    intro a
    have hs : Stp l := h l (by simp)
    unfold Stp at hs
    have ih := ih fun l hl => h l (by simp [hl])
    simp only [ahS, List.length_cons]
    split
    · have := ih (a + l.2); omega
    · have := ih a; omega
theorem Asc.mem {en lo : Int} {ls : L2} (h : Asc en lo ls) : ∀ l ∈ ls, lo < l.1 ∧ l.1 < en := by
  induction ls generalizing lo with
  | nil => intro l hl; cases hl
  | cons x ls ih =>
    intro l hl
    obtain ⟨h1, h2, h3⟩ := h
    rcases List.mem_cons.1 hl with rfl | hl
    · exact ⟨h1, h2⟩
    · have := ih h3 l hl; omega
theorem ahS_after {en lo : Int} {ls : L2} (h : Asc en lo ls) {day : Int} (hd : day ≤ lo + 1) : ∀ a, ahS a ls day = a := by
  induction ls generalizing lo with
  | nil => intro a; rfl
  | cons x ls ih =>
    intro a
    obtain ⟨h1, h2, h3⟩ := h
    simp only [ahS]
    rw [if_neg (by omega), ih h3 (by omega)]
theorem stS_after {en lo : Int} {ls : L2} (h : Asc en lo ls) {day : Int} (hd : day ≤ lo) : stS ls day = 0 := by
  induction ls generalizing lo with
  | nil => rfl
  | cons x ls ih =>
    obtain ⟨h1, h2, h3⟩ := h
    simp only [stS]
    rw [if_neg (by omega), ih h3 (by omega)]
/-- from one day to the next -/
theorem ahS_succ {en lo : Int} {ls : L2} (h : Asc en lo ls) (day : Int) : ∀ a, ahS a ls (day + 1) = ahS a ls day + stS ls day := by
  induction ls generalizing lo with
  | nil => intro a; simp [ahS, stS]
  | cons x ls ih =>
    intro a
    obtain ⟨h1, h2, h3⟩ := h
    simp only [ahS, stS]
    by_cases c : x.1 = day
    · rw [if_pos c, if_pos (by omega), if_neg (by omega), ahS_add, ahS_after h3 (by omega), ahS_after h3 (by omega)]
    · rw [if_neg c]
      by_cases c2 : x.1 < day
      · rw [if_pos (by omega), if_pos c2, ih h3]
      · rw [if_neg (by omega), if_neg c2, ih h3]
theorem stS_rng {ls : L2} (h : ∀ l ∈ ls, Stp l) (day : Int) : -1 ≤ stS ls day ∧ stS ls day ≤ 1 := by
  induction ls with
  | nil => simp [stS]
  | cons l ls ih =>
    have hs : Stp l := h l (by simp)
    unfold Stp at hs
    have ih := ih fun l hl => h l (by simp [hl])
    simp only [stS]
    split <;> omega

/-! ### in memory -/
abbrev cT (m : Tb) (s : Sl) : List Value := [.int .i64 m.st, .int .i64 m.ah, .int .i64 m.en, .slice s.1 s.2.1 s.2.2]
def TbW (w : World) (b : Nat) (m : Tb) : Prop := ∃ s : Sl, Blk w b (cT m s) ∧ RowsP w s m.ls
theorem TbW.gro {w w' : World} {b : Nat} {m : Tb} (h : TbW w b m) (u : Gro w w') : TbW w' b m := by
  obtain ⟨s, h1, h2⟩ := h; exact ⟨s, h1.gro u, h2.gro u⟩
theorem TbW.drew {w : World} {b : Nat} {m : Tb} (h : TbW w b m) : TbW w.drew b m := h.gro (Gro.drew w)
theorem TbW.lt {w : World} {b : Nat} {m : Tb} (h : TbW w b m) : b < w.heap.size := by obtain ⟨s, h1, _⟩ := h; exact h1.lt
def inR (m : Tb) (day : Int) : Prop := m.st ≤ day ∧ day < m.en
instance (m : Tb) (day : Int) : Decidable (inR m day) := by unfold inR; exact inferInstance

theorem leap_day.cl {n : Int} {w : World} {k : TR RB1 → World → Prop} (h : k ((decide (-719162 ≤ n ∧ n ≤ 2932896), ()), ()) w) : clS Tryz.prog F.leap_day [.int .i64 n] w false RB1 k := by
  refine leap_day.ok ?_
  unfold leap_day.wp
  refine brD (fun c => ?_) fun c => ?_
  · have c : n ≥ Int.negSucc 719161 := c
    rw [show decide (n ≤ 2932896) = decide (-719162 ≤ n ∧ n ≤ 2932896) from bq (by rw [decide_eq_true_iff]; omega)]; exact h
  · have c : ¬ n ≥ Int.negSucc 719161 := c
    rw [decide_eq_false (by omega)] at h; exact h
theorem leap_Make_1.cl {l : P2} {w : World} {k : TR RB1 → World → Prop} (h : ∀ w', Gro w w' → k ((decide (¬ Stp l), ()), ()) w') : clS Tryz.prog F.leap_Make_1 [.agg #[.int .i64 l.1, .int .i64 l.2]] w false RB1 k := by
  refine leap_Make_1.ok ?_
  unfold leap_Make_1.wp
  refine alK_by fun p1 w2 e1 k1 u1 => k1.i1 1 rfl (brN (fun c => k1.i1 1 rfl ?_) fun c => ?_)
  · have c : l.2 ≠ 1 := c
    have := h w2 u1
    rw [show (l.2 != Int.negSucc 0) = decide (¬ Stp l) from bq (by unfold Stp; rw [bne_iff_ne]; omega)]; exact this
  · have c : l.2 = 1 := c
    have := h w2 u1
    rw [decide_eq_false (fun x => x (.inl c))] at this; exact this
theorem slices_IndexFunc.cl {s : Sl} {ls : L2} {w : World} (hR : RowsP w s ls) (hn : ls.length ≤ 1000000000) {k : TR RI1 → World → Prop}
    (h0 : (∀ l ∈ ls, Stp l) → ∀ w', Gro w w' → k ((-1, ()), ()) w') (h1 : ¬ (∀ l ∈ ls, Stp l) → ∀ (i : Nat) w', Gro w w' → k ((i, ()), ()) w') :
    clS Tryz.prog F.slices_IndexFunc_leap_Leap_leap_Leap [.slice s.1 s.2.1 s.2.2, .func (.func F.leap_Make_1) #[] #[]] w false RI1 k := by
  refine slices_IndexFunc_leap_Leap_leap_Leap_of_leap_Make_1.ok ?_
  unfold slices_IndexFunc_leap_Leap_leap_Leap_of_leap_Make_1.wp
  have hl := hR.len
  refine LoopT.by (fun z W => ∃ i : Nat, z.1 = i ∧ i ≤ ls.length ∧ (∀ l ∈ ls.take i, Stp l) ∧ Gro w W) (fun z => ((ls.length : Int) - z.1).toNat) ⟨0, rfl, by omega, by simp, Gro.refl _⟩ ?_
  rintro ⟨z, _⟩ W ⟨i, hz, hi, hs, hG⟩ _
  dsimp only at hz
  subst hz
  refine brD (fun c => ?_) fun c => ?_
  · have c : (i : Int) < s.2.1 := c
    have hi1 : i < ls.length := by omega
    have hx : ls[i]? = some ls[i] := List.getElem?_eq_getElem hi1
    refine (hR.gro hG).ix rfl hx fun a ha => (hR.gro hG).ldN ha hx (leap_Make_1.cl fun w7 u7 => brD (fun c2 => ?_) fun c2 => ?_)
    · exact h1 (fun h => c2 (h _ (List.getElem_mem hi1))) i w7 (hG.trans u7)
    · have e : IntKind.wrap .i64 ((i : Int) + 1) = ((i + 1 : Nat) : Int) := by rw [w64_in (by unfold I64; omega)]; omega
      refine ⟨⟨i + 1, e, by omega, ?_, hG.trans u7⟩, ?_⟩
      · intro l hl2
        rw [List.take_add_one, hx] at hl2
        rcases List.mem_append.1 hl2 with h | h
        · exact hs l h
        · simp at h; rw [h]; exact Decidable.not_not.1 c2
      · show ((ls.length : Int) - IntKind.wrap .i64 ((i : Int) + 1)).toNat < ((ls.length : Int) - (i : Int)).toNat
        rw [e]; omega
  · have c : ¬ (i : Int) < s.2.1 := c
    have : i = ls.length := by omega
    subst this
    rw [List.take_length] at hs
    exact h0 hs W hG
theorem slices_ContainsFunc.cl {s : Sl} {ls : L2} {w : World} (hR : RowsP w s ls) (hn : ls.length ≤ 1000000000) {k : TR RB1 → World → Prop}
    (h : ∀ w', Gro w w' → k ((decide (¬ ∀ l ∈ ls, Stp l), ()), ()) w') :
    clS Tryz.prog F.slices_ContainsFunc_leap_Leap_leap_Leap [.slice s.1 s.2.1 s.2.2, .func (.func F.leap_Make_1) #[] #[]] w false RB1 k := by
  refine slices_ContainsFunc_leap_Leap_leap_Leap_of_leap_Make_1.ok ?_
  unfold slices_ContainsFunc_leap_Leap_leap_Leap_of_leap_Make_1.wp
  refine slices_IndexFunc.cl hR hn (fun c w' u => ?_) fun c i w' u => ?_
  · have := h w' u
    rw [decide_eq_false (fun x => x c)] at this; exact this
  · have := h w' u
    rw [decide_eq_true c] at this
    rw [show decide (((((i : Int), ()), ()) : TR RI1).1.1 ≥ 0) = true from decide_eq_true (Int.natCast_nonneg i)]; exact this

set_option maxRecDepth 20000 in
theorem slices_Clone.cl {s : Sl} {ls : L2} {w : World} (hR : RowsP w s ls) (hn : ls.length ≤ 1000000) (hI : ∀ l ∈ ls, I64 l.1 ∧ I64 l.2) {k : TR [(false, [.sl])] → World → Prop}
    (h : ∀ (s' : Sl) w', RowsP w' s' ls → Gro w w' → k ((s', ()), ()) w') :
    clS Tryz.prog F.slices_Clone_leap_Leap_leap_Leap [.slice s.1 s.2.1 s.2.2] w false [(false, [.sl])] k := by
  refine slices_Clone_leap_Leap_leap_Leap.ok ?_
  unfold slices_Clone_leap_Leap_leap_Leap.wp
  have hl := hR.len
  refine brC (fun c => ?_) fun c => ?_
  · have e : ls = [] := by
      cases ls with
      | nil => rfl
      | cons l ls =>
        obtain ⟨a, ha⟩ := hR.addr (i := 0) rfl
        rw [ha] at c; cases c
    subst e
    exact h (none, 0, 0) w ⟨rfl, fun x => absurd rfl x⟩ (Gro.refl _)
  · refine alK_own 2 0 (by simp) (by omega) fun b w2 e2 o2 u2 => ?_
    refine ap_own (s := (some ⟨b, 0, none⟩, 0, 0)) (x := s) (e := T.leap_Leap) (size := 2) (base := b) (by kernel_rfl) (by kernel_rfl) (by decide) o2 (Row.gro hR u2) ?_ (by show 0 + s.2.1 ≤ _; omega) (by have := (o2.blk rfl).2.1; show b ≤ _; exact Nat.le_of_lt this) fun s' w4 o4 u4 hb => ?_
    · intro u hu
      obtain ⟨l, _, hu⟩ := List.mem_flatMap.1 hu
      simp only [encs, enc, List.mem_cons, List.not_mem_nil, or_false] at hu
      rcases hu with rfl | rfl <;> rfl
    · refine h s' w4 ?_ (Upd.trans u2 u4 fun i hi ⟨a, ha, hb⟩ => ?_)
      · have := o4.row; rw [List.nil_append] at this; exact this
      · simp only [Option.some.injEq] at ha
        subst ha
        have hb : b = i := hb
        omega

set_option maxRecDepth 20000 in
set_option maxHeartbeats 1000000 in
theorem leap_Make.cl {m : Tb} {s : Sl} {w : World} (hR : RowsP w s m.ls) (hn : m.ls.length ≤ 1000000) (hI : ∀ l ∈ m.ls, I64 l.1 ∧ I64 l.2) {k : TR [(false, [.p]), (false, [.i .i64])] → World → Prop}
    (h0 : errT m ≠ 0 → ∀ w', Gro w w' → k ((none, ()), (errT m, ()), ()) w')
    (h1 : errT m = 0 → ∀ b w', w.heap.size ≤ b → TbW w' b m → Gro w w' → k ((some ⟨b, 0, none⟩, ()), (0, ()), ()) w') :
    clS Tryz.prog F.leap_Make [.int .i64 m.st, .int .i64 m.ah, .int .i64 m.en, .slice s.1 s.2.1 s.2.2] w true [(false, [.p]), (false, [.i .i64])] k := by
  refine leap_Make.ok ?_
  unfold leap_Make.wp
  have hl := hR.len
  have out1 : ¬ Rngd m → ∀ {w'}, Gro w w' → k ((none, ()), (1, ()), ()) w' := fun hn w' g => by
    have e : errT m = 1 := by unfold errT; rw [if_pos hn]
    have := h0 (by rw [e]; decide) w' g
    rw [e] at this; exact this
  refine leap_day.cl (brNot (fun c => out1 (fun h => absurd (show -719162 ≤ m.st ∧ m.st ≤ 2932896 from ⟨h.1, h.2.1⟩) (of_decide_eq_false c)) (Gro.refl _)) fun c1 => ?_)
  refine leap_day.cl (brNot (fun c => out1 (fun h => absurd (show -719162 ≤ m.en ∧ m.en ≤ 2932896 from ⟨h.2.2.1, h.2.2.2.1⟩) (of_decide_eq_false c)) (Gro.refl _)) fun c2 => ?_)
  have c1 : -719162 ≤ m.st ∧ m.st ≤ 2932896 := of_decide_eq_true c1
  have c2 : -719162 ≤ m.en ∧ m.en ≤ 2932896 := of_decide_eq_true c2
  refine brD (fun c => out1 (fun h => by have := h.2.2.2.2.1; have c : m.st ≥ m.en := c; omega) (Gro.refl _)) fun c3 => ?_
  refine brD (fun c => out1 (fun h => by have := h.2.2.2.2.2.1; have c : m.ah < 0 := c; omega) (Gro.refl _)) fun c4 => ?_
  refine brD (fun c => out1 (fun h => by have := h.2.2.2.2.2.2; have c : m.ah > 99 := c; omega) (Gro.refl _)) fun c5 => ?_
  have c3 : ¬ m.st ≥ m.en := c3
  have c4 : ¬ m.ah < 0 := c4
  have c5 : ¬ m.ah > 99 := c5
  have hr : Rngd m := ⟨c1.1, c1.2, c2.1, c2.2, by omega, by omega, by omega⟩
  refine slices_ContainsFunc.cl hR (by omega) fun w6 u6 => brD (fun c => ?_) fun c6 => ?_
  · have e : errT m = 1 := by unfold errT; rw [if_neg (fun x => x hr), if_pos c]
    have := h0 (by rw [e]; decide) w6 u6
    rw [e] at this; exact this
  have c6 : ∀ l ∈ m.ls, Stp l := Decidable.not_not.1 c6
  refine brD (fun c => ?_) fun c7 => ?_
  · have c : (s.2.1 : Int) > 64 := c
    have e : errT m = 6 := by unfold errT; rw [if_neg (fun x => x hr), if_neg (fun x => x c6), if_pos (by omega)]
    have := h0 (by rw [e]; decide) w6 u6
    rw [e] at this; exact this
  have c7 : ¬ (s.2.1 : Int) > 64 := c7
  rw [w64_in (n := m.st - 1) (by unfold I64; omega)]
  have out12 : ¬ Asc m.en (m.st - 1) m.ls → ∀ {w'}, Gro w w' → k ((none, ()), (12, ()), ()) w' := fun hn w' g => by
    have e : errT m = 12 := by unfold errT; rw [if_neg (fun x => x hr), if_neg (fun x => x c6), if_neg (by omega), if_pos hn]
    have := h0 (by rw [e]; decide) w' g
    rw [e] at this; exact this
  refine LoopT.by (fun z W => ∃ i : Nat, z.2.1 = i ∧ i ≤ m.ls.length ∧ (Asc m.en z.1 (m.ls.drop i) ↔ Asc m.en (m.st - 1) m.ls) ∧ Gro w W) (fun z => ((m.ls.length : Int) - z.2.1).toNat) ⟨0, rfl, by omega, Iff.rfl, u6⟩ ?_
  rintro ⟨lo, z, _⟩ W ⟨i, hz, hi, hA, hG⟩ _
  dsimp only at hz hA
  subst hz
  refine brD (fun c => ?_) fun c => ?_
  · have c : (i : Int) < s.2.1 := c
    have hi1 : i < m.ls.length := by omega
    have hx : m.ls[i]? = some m.ls[i] := List.getElem?_eq_getElem hi1
    have hd : m.ls.drop i = m.ls[i] :: m.ls.drop (i + 1) := List.drop_eq_getElem_cons hi1
    rw [hd] at hA
    generalize m.ls[i] = x at *
    refine (hR.gro hG).ix rfl hx fun a ha => (hR.gro hG).ldN ha hx ?_
    refine alK_by fun p12 w13 e12 k12 u13 => k12.sta _ rfl rfl fun w14 k14 u14 => ?_
    have g14 : Gro w w14 := Gro.fresh hG u13 u14 e12
    refine k14.i0 rfl (brD (fun c2 => out12 (fun h => by have := (hA.2 h).1; have c2 : x.1 ≤ lo := c2; omega) g14) fun c2 => ?_)
    refine k14.i0 rfl (brD (fun c3 => out12 (fun h => by have := (hA.2 h).2.1; have c3 : x.1 ≥ m.en := c3; omega) g14) fun c3 => k14.i0 rfl ?_)
    have c2 : ¬ x.1 ≤ lo := c2
    have c3 : ¬ x.1 ≥ m.en := c3
    have e : IntKind.wrap .i64 ((i : Int) + 1) = ((i + 1 : Nat) : Int) := by rw [w64_in (by unfold I64; omega)]; omega
    refine ⟨⟨i + 1, e, by omega, ?_, g14⟩, ?_⟩
    · rw [← hA]
      exact ⟨fun h => ⟨by omega, by omega, h⟩, fun h => h.2.2⟩
    · show ((m.ls.length : Int) - IntKind.wrap .i64 ((i : Int) + 1)).toNat < ((m.ls.length : Int) - (i : Int)).toNat
      rw [e]; omega
  · have c : ¬ (i : Int) < s.2.1 := c
    have : i = m.ls.length := by omega
    subst this
    rw [List.drop_length] at hA
    have hA : Asc m.en (m.st - 1) m.ls := hA.1 trivial
    refine slices_Clone.cl (hR.gro hG) hn hI fun s' w19 r19 u19 => alK_by fun p20 w21 e20 k20 u20 => ?_
    have g := hG.trans u19
    exact h1 (good_errT ⟨hr, c6, by omega, hA⟩) p20 w21 (by have := g.size; omega) ⟨s', k20, r19.gro u20⟩ (g.trans u20)
end Go.Proofs.YtfbegkddkdenbaaGreatDoor
