/- Plain law of tables of leaps as texts: pieces of a text, lines read one by one, a table's lines. Conditions: none. -/
import Derived.Test.YtfbegkddkdenbaaGreatDoorCleap2
import Derived.Test.YtfbegkddkdenbaaGreatDoorCtxt3
namespace Go.Proofs.YtfbegkddkdenbaaGreatDoor
open Go.Eng Go
set_option linter.unusedVariables false
set_option linter.unusedSimpArgs false

abbrev Bs := List UInt8
/-! ### pieces -/
def pcs (a : UInt8) : Bs → List Bs
  | [] => [[]]
  | c :: l => if c = a then [] :: pcs a l else match pcs a l with | p :: ps => (c :: p) :: ps | [] => [[c]]
theorem pcs_ne (a : UInt8) : ∀ l : Bs, pcs a l ≠ []
  | [] => by simp [pcs]
  | c :: l => by unfold pcs; split <;> (try split) <;> simp
theorem pcs_cut {a : UInt8} : ∀ {x : Bs} (y : Bs), a ∉ x → pcs a (x ++ a :: y) = x :: pcs a y
  | [], y, _ => by simp [pcs]
  | c :: x, y, h => by
    have h1 : a ≠ c ∧ a ∉ x := by simpa using h
    show pcs a (c :: (x ++ a :: y)) = _
    rw [pcs, if_neg fun e => h1.1 e.symm, pcs_cut y h1.2]
theorem pcs_one {a : UInt8} : ∀ {x : Bs}, a ∉ x → pcs a x = [x]
  | [], _ => rfl
  | c :: x, h => by
    have h1 : a ≠ c ∧ a ∉ x := by simpa using h
    rw [pcs, if_neg fun e => h1.1 e.symm, pcs_one h1.2]
def flatL (ls : List Bs) : Bs := ls.flatMap (· ++ [10])
theorem flatL_cons (l : Bs) (ls : List Bs) : flatL (l :: ls) = l ++ 10 :: flatL ls := by simp [flatL]
theorem flatL_append (a b : List Bs) : flatL (a ++ b) = flatL a ++ flatL b := by simp [flatL]
theorem pcs_flat : ∀ {ls : List Bs}, (∀ l ∈ ls, (10 : UInt8) ∉ l) → pcs 10 (flatL ls) = ls ++ [[]]
  | [], _ => rfl
  | l :: ls, h => by
    rw [flatL_cons, pcs_cut _ (h l (by simp)), pcs_flat fun x hx => h x (by simp [hx])]; rfl
/-! ### days and small numbers -/
theorem day_ex : ∀ n : Nat, n ≤ 3652058 → ∃ d : D3, GoodD d ∧ numD d = -719162 + n
  | 0, _ => ⟨(1, 1, 1), by decide, by decide⟩
  | n + 1, h => by
    obtain ⟨d, hg, hd⟩ := day_ex n (by omega)
    obtain ⟨e, hc⟩ := numD_next hg
    rcases hc with hc | ⟨_, hc⟩
    · exact ⟨nextD d, hc, by rw [e, hd]; omega⟩
    · rw [hc] at e
      have : numD (10000, 1, 1) = 2932897 := by decide
      omega
theorem day_exi {n : Int} (h1 : -719162 ≤ n) (h2 : n ≤ 2932896) : ∃ d : D3, GoodD d ∧ numD d = n := by
  obtain ⟨d, h, e⟩ := day_ex (n + 719162).toNat (by omega)
  exact ⟨d, h, by omega⟩
open Classical in
noncomputable def dOf (n : Int) : D3 := if h : ∃ d : D3, GoodD d ∧ numD d = n then Classical.choose h else (0, 0, 0)
theorem dOf_eq {d : D3} {n : Int} (h : GoodD d) (e : numD d = n) : dOf n = d := by
  have hx : ∃ d : D3, GoodD d ∧ numD d = n := ⟨d, h, e⟩
  unfold dOf
  rw [dif_pos hx]
  have := Classical.choose_spec hx
  exact numD_inj this.1 h (this.2.trans e.symm)
noncomputable def datL (n : Int) : Bs := txtD (dOf n)
theorem datL_eq {d : D3} {n : Int} (h : GoodD d) (e : numD d = n) : txtD d = datL n := by unfold datL; rw [dOf_eq h e]
def dayW (l : Bs) : Option Int := match prsD l with | some d => some (numD d) | none => none
theorem dayW_dat {n : Int} (h1 : -719162 ≤ n) (h2 : n ≤ 2932896) : dayW (datL n) = some n := by
  obtain ⟨d, hg, e⟩ := day_exi h1 h2
  unfold dayW
  rw [← datL_eq hg e, prsD_txt hg]
  simp [e]
theorem dayW_rng {l : Bs} {n : Int} (h : dayW l = some n) : -719162 ≤ n ∧ n ≤ 2932896 := by
  unfold dayW at h
  split at h
  · rename_i d hd
    injection h with h
    have := numD_range (prsD_good hd)
    omega
  · cases h
theorem txtD_chr (d : D3) : ∀ c ∈ txtD d, c = 45 ∨ isDg c := by
  intro c hc
  unfold txtD at hc
  simp only [List.mem_append, List.mem_cons] at hc
  rcases hc with h | h | h | h | h
  · exact .inr (dig_dg _ _ _ h)
  · exact .inl h
  · exact .inr (dig_dg _ _ _ h)
  · exact .inl h
  · exact .inr (dig_dg _ _ _ h)
theorem datL_no {n : Int} {a : UInt8} (h : a.toNat < 45) : a ∉ datL n := by
  intro hm
  rcases txtD_chr _ _ hm with h1 | h1
  · subst h1; exact absurd h (by decide)
  · unfold isDg at h1; omega
theorem datL_len (n : Int) : (datL n).length = 10 := txtD_length _
def decS (n : Nat) : Bs := if n < 10 then [dgc n] else [dgc (n / 10), dgc n]
def plainL (l : Bs) : Prop := (l.length = 1 ∨ l.length = 2 ∧ l[0]? ≠ some 48) ∧ ∀ c ∈ l, isDg c
instance (l : Bs) : Decidable (plainL l) := by unfold plainL; exact inferInstance
theorem dgc_dg (n : Nat) : isDg (dgc n) := by unfold isDg; rw [dgc_val]; omega
theorem dgc_sub {a : UInt8} (h : isDg a) : dgc (a.toNat - 48) = a := by
  apply UInt8.toNat_inj.1; rw [dgc_val]; unfold isDg at h; omega
theorem decS_plain {n : Nat} (h : n < 100) : plainL (decS n) := by
  unfold decS plainL
  split
  · exact ⟨.inl rfl, by intro c hc; simp at hc; subst hc; exact dgc_dg _⟩
  · rename_i h1
    refine ⟨.inr ⟨rfl, ?_⟩, by intro c hc; simp at hc; rcases hc with rfl | rfl <;> exact dgc_dg _⟩
    intro e
    simp at e
    have := dgc_val (n / 10)
    rw [e] at this
    have h48 : (48 : UInt8).toNat = 48 := rfl
    omega
theorem valD_one (a : UInt8) : valD [a] = a.toNat - 48 := by simp [valD]
theorem valD_two (a b : UInt8) : valD [a, b] = 10 * (a.toNat - 48) + (b.toNat - 48) := by simp [valD]
theorem decS_val {n : Nat} (h : n < 100) : valD (decS n) = n := by
  unfold decS
  split
  · rw [valD_one, dgc_val]; omega
  · rw [valD_two, dgc_val, dgc_val]; omega
theorem plain_dec {l : Bs} (h : plainL l) : valD l < 100 ∧ l = decS (valD l) := by
  obtain ⟨h1, h2⟩ := h
  rcases h1 with h1 | ⟨h1, h3⟩
  · match l, h1 with
    | [a], _ =>
      have ha := h2 a (by simp)
      have hs := dgc_sub ha
      unfold isDg at ha
      rw [valD_one]
      refine ⟨by omega, ?_⟩
      unfold decS
      rw [if_pos (by omega), hs]
  · match l, h1 with
    | [a, b], _ =>
      have ha := h2 a (by simp)
      have hb := h2 b (by simp)
      have hs := dgc_sub ha
      have hs2 := dgc_sub hb
      have hne : a.toNat ≠ 48 := fun e => h3 (by simp; exact UInt8.toNat_inj.1 e)
      unfold isDg at ha hb
      rw [valD_two]
      refine ⟨by omega, ?_⟩
      unfold decS
      rw [if_neg (by omega), show (10 * (a.toNat - 48) + (b.toNat - 48)) / 10 = a.toNat - 48 by omega, hs,
        show dgc (10 * (a.toNat - 48) + (b.toNat - 48)) = b from UInt8.toNat_inj.1 (by rw [dgc_val]; omega)]
theorem decS_no {n : Nat} {a : UInt8} (h : a.toNat < 45) : a ∉ decS n := by
  intro hm
  have : isDg a := by
    unfold decS at hm
    split at hm
    · simp at hm; rw [hm]; exact dgc_dg _
    · simp at hm; rcases hm with e | e <;> (rw [e]; exact dgc_dg _)
  unfold isDg at this; omega
theorem decS_len (n : Nat) : (decS n).length ≤ 2 := by unfold decS; split <;> simp
/-! ### a reader -/
def startL : Bs := [115, 116, 97, 114, 116]
def leapL : Bs := [108, 101, 97, 112]
def endL : Bs := [101, 110, 100]
def p1L : Bs := [43, 49]
def m1L : Bs := [45, 49]
def late (ls : L2) (d : Int) : Prop := ∃ x, ls[ls.length - 1]? = some x ∧ d ≤ x.1
instance (ls : L2) (d : Int) : Decidable (late ls d) :=
  match h : ls[ls.length - 1]? with
  | some x => if c : d ≤ x.1 then .isTrue ⟨x, h, c⟩ else .isFalse fun ⟨y, h1, h2⟩ => by rw [h] at h1; injection h1 with h1; subst h1; exact c h2
  | none => .isFalse fun ⟨y, h1, _⟩ => by rw [h] at h1; cases h1
structure RS where
  q : Nat
  t : Tb
abbrev t0 : Tb := ⟨0, 0, 0, []⟩
abbrev r0 : RS := ⟨0, t0⟩
def stW0 (r : RS) (w : List Bs) : RS ⊕ Int := match w with
  | [a, b, c] => if a = startL ∧ plainL c then (match dayW b with | some d => .inl ⟨1, ⟨d, valD c, r.t.en, r.t.ls⟩⟩ | none => .inr 3) else .inr 3
  | _ => .inr 3
def stW1 (r : RS) (w : List Bs) : RS ⊕ Int := match w with
  | [_, b, c] => if c = p1L ∨ c = m1L then (match dayW b with
      | some d => if r.t.ls.length = 64 then .inr 6 else if d < r.t.st ∨ late r.t.ls d then .inr 12 else .inl ⟨1, ⟨r.t.st, r.t.ah, r.t.en, r.t.ls ++ [(d, if c = p1L then 1 else -1)]⟩⟩
      | none => .inr 3) else .inr 3
  | _ => .inr 3
def stW2 (r : RS) (w : List Bs) : RS ⊕ Int := match w with
  | [a, b] => if a = endL then (match dayW b with
      | some d => if d ≤ r.t.st ∨ late r.t.ls d then .inr 12 else .inl ⟨2, ⟨r.t.st, r.t.ah, d, r.t.ls⟩⟩
      | none => .inr 3) else .inr 3
  | _ => .inr 3
def stepW (r : RS) (w : List Bs) : RS ⊕ Int :=
  if r.q = 0 then stW0 r w else if r.q = 1 then (if w.head? = some leapL then stW1 r w else stW2 r w) else .inr 3
def stepL (r : RS) (l : Bs) : RS ⊕ Int := if l = [] ∨ l.head? = some 35 then .inl r else stepW r (pcs 32 l)
def goL : List Bs → Int → RS → Option Tb × Int × Int
  | [], i, r => if r.q < 2 then (none, i, 3) else (some r.t, 0, 0)
  | l :: ls, i, r => match stepL r l with | .inr e => (none, i + 1, e) | .inl r' => goL ls (i + 1) r'
def prsL (s : Bs) : Option Tb × Int × Int := if 16384 < s.length then (none, 0, 5) else goL (pcs 10 s) 0 r0
def runL : List Bs → RS → Option RS
  | [], r => some r
  | l :: ls, r => match stepL r l with | .inl r' => runL ls r' | .inr _ => none
theorem runL_append : ∀ (a b : List Bs) (r : RS), runL (a ++ b) r = (runL a r).bind (runL b)
  | [], b, r => rfl
  | l :: a, b, r => by
    show runL (l :: (a ++ b)) r = _
    unfold runL
    cases stepL r l with
    | inl r' => exact runL_append a b r'
    | inr e => rfl
theorem goL_pre : ∀ {a : List Bs} (b : List Bs) {i : Int} {r r' : RS}, runL a r = some r' → goL (a ++ b) i r = goL b (i + a.length) r'
  | [], b, i, r, r', h => by injection h with h; subst h; simp
  | l :: a, b, i, r, r', h => by
    unfold runL at h
    show goL (l :: (a ++ b)) i r = _
    rw [goL]
    cases hs : stepL r l with
    | inr e => rw [hs] at h; cases h
    | inl r1 =>
      rw [hs] at h
      simp only at h ⊢
      rw [goL_pre b h]
      simp only [List.length_cons]
      rw [show i + 1 + (a.length : Int) = i + ((a.length + 1 : Nat) : Int) by omega]
theorem goL_run {ls : List Bs} {i : Int} {r r' : RS} (h : runL ls r = some r') (hq : 2 ≤ r'.q) : goL ls i r = (some r'.t, 0, 0) := by
  have := goL_pre [] (i := i) h
  rw [List.append_nil] at this
  rw [this, goL, if_neg (by omega)]
theorem goL_some : ∀ {ls : List Bs} {i : Int} {r : RS} {t : Tb} {x : Int × Int}, goL ls i r = (some t, x) → x = (0, 0) ∧ ∃ r', runL ls r = some r' ∧ r'.t = t ∧ 2 ≤ r'.q
  | [], i, r, t, x, h => by
    unfold goL at h
    split at h
    · cases h
    · injection h with h1 h2
      injection h1 with h1
      exact ⟨h2.symm, r, rfl, h1, by omega⟩
  | l :: ls, i, r, t, x, h => by
    unfold goL at h
    unfold runL
    cases hs : stepL r l with
    | inr e => rw [hs] at h; cases h
    | inl r1 => rw [hs] at h; exact goL_some h
theorem goL_none : ∀ {ls : List Bs} {i : Int} {r : RS} {x : Int × Int}, goL ls i r = (none, x) → x.2 ≠ 0 ∨ True
  | _, _, _, _, _ => .inr trivial
theorem stepL_err {r : RS} {l : Bs} {e : Int} (h : stepL r l = .inr e) : e = 3 ∨ e = 6 ∨ e = 12 := by
  unfold stepL at h
  split at h
  · cases h
  unfold stepW stW0 stW1 stW2 at h
  (repeat' split at h) <;> first | (injection h with h; omega) | cases h
theorem goL_err : ∀ {ls : List Bs} {i : Int} {r : RS}, (goL ls i r).1 = none → (goL ls i r).2.2 ≠ 0
  | [], i, r, h => by
    unfold goL at h ⊢
    split at h
    · rename_i c; rw [if_pos c]; show (3 : Int) ≠ 0; decide
    · cases h
  | l :: ls, i, r, h => by
    unfold goL at h ⊢
    cases hs : stepL r l with
    | inr e => have := stepL_err hs; show e ≠ 0; omega
    | inl r1 => rw [hs] at h; exact goL_err h
/-! ### what was read is a table -/
theorem late_not {en lo : Int} {ls : L2} (h : Asc en lo ls) {d : Int} (hl : ¬ late ls d) : ∀ l ∈ ls, l.1 < d := by
  intro l hm
  obtain ⟨j, hj, e⟩ := List.getElem_of_mem hm
  have hj' : ls[j]? = some l := by rw [← e]; exact List.getElem?_eq_getElem hj
  have hx : ls[ls.length - 1]? = some (ls[ls.length - 1]'(by omega)) := List.getElem?_eq_getElem _
  generalize ls[ls.length - 1]'(by omega) = x at hx
  have hd : ¬ d ≤ x.1 := fun c => hl ⟨x, hx, c⟩
  rcases Nat.lt_or_ge j (ls.length - 1) with c | c
  · have := asc_get h c hj' hx; omega
  · have : j = ls.length - 1 := by omega
    subst this
    rw [hx] at hj'; injection hj' with hj'; subst hj'; omega
theorem asc_en {en lo : Int} {ls : L2} (h : Asc en lo ls) {en' : Int} (hl : ∀ l ∈ ls, l.1 < en') : Asc en' lo ls := by
  induction ls generalizing lo with
  | nil => trivial
  | cons x ls ih => exact ⟨h.1, hl x (by simp), ih h.2.2 fun l hm => hl l (by simp [hm])⟩
theorem asc_snoc {en lo : Int} {ls : L2} (h : Asc en lo ls) {x : P2} (hlo : lo < x.1) (hen : x.1 < en) (hl : ∀ l ∈ ls, l.1 < x.1) : Asc en lo (ls ++ [x]) := by
  induction ls generalizing lo with
  | nil => exact ⟨hlo, hen, trivial⟩
  | cons y ls ih => exact ⟨h.1, h.2.1, ih h.2.2 (hl y (by simp)) fun l hm => hl l (by simp [hm])⟩
structure RI (r : RS) : Prop where
  q : r.q ≤ 2
  q0 : r.q = 0 → r.t = t0
  rg : 1 ≤ r.q → -719162 ≤ r.t.st ∧ r.t.st ≤ 2932896 ∧ 0 ≤ r.t.ah ∧ r.t.ah ≤ 99
  st : ∀ l ∈ r.t.ls, Stp l
  n : r.t.ls.length ≤ 64
  asc : Asc 2932897 (r.t.st - 1) r.t.ls
  g : r.q = 2 → GoodT r.t
theorem RI.zero : RI r0 := ⟨by decide, fun _ => rfl, fun h => absurd h (by decide), (fun l h => by cases h), by decide, trivial, fun h => absurd (show (0 : Nat) = 2 from h) (by decide)⟩
theorem stepL_inv {r r' : RS} {l : Bs} (hi : RI r) (h : stepL r l = .inl r') : RI r' := by
  unfold stepL at h
  split at h
  · injection h with h; subst h; exact hi
  unfold stepW at h
  split at h
  · rename_i hq
    have h0 := hi.q0 hq
    unfold stW0 at h
    split at h
    case h_2 => cases h
    rename_i a b c hw
    split at h
    case isFalse => cases h
    rename_i hc
    split at h
    case h_2 => cases h
    rename_i d hd
    injection h with h
    subst h
    have dr := dayW_rng hd
    have pv := (plain_dec hc.2).1
    rw [h0]
    exact ⟨by show 1 ≤ 2; decide, fun h => absurd (show (1 : Nat) = 0 from h) (by decide), fun _ => ⟨dr.1, dr.2, by show (0 : Int) ≤ (valD c : Int); omega, by show (valD c : Int) ≤ 99; omega⟩, (fun l h => by cases h), by show 0 ≤ 64; decide, trivial, fun h => absurd (show (1 : Nat) = 2 from h) (by decide)⟩
  split at h
  · rename_i hq0 hq
    have rg := hi.rg (by omega)
    split at h
    · unfold stW1 at h
      split at h
      case h_2 => cases h
      rename_i a b c hw
      split at h
      case isFalse => cases h
      rename_i hc
      split at h
      case h_2 => cases h
      rename_i d hd
      split at h
      · cases h
      rename_i hn
      split at h
      · cases h
      rename_i ho
      injection h with h
      subst h
      have dr := dayW_rng hd
      have hl := late_not hi.asc fun c => ho (.inr c)
      have hn2 := hi.n
      refine ⟨by show 1 ≤ 2; decide, fun h => absurd (show (1 : Nat) = 0 from h) (by decide), fun _ => rg, ?_, ?_, asc_snoc hi.asc (by show r.t.st - 1 < d; omega) (by show d < _; omega) hl, fun h => absurd (show (1 : Nat) = 2 from h) (by decide)⟩
      · intro l hm
        rcases List.mem_append.1 hm with hm | hm
        · exact hi.st l hm
        · rw [List.mem_singleton.1 hm]
          unfold Stp
          split
          · exact .inl rfl
          · exact .inr rfl
      · show (r.t.ls ++ [_]).length ≤ 64
        rw [List.length_append, List.length_singleton]; omega
    · unfold stW2 at h
      split at h
      case h_2 => cases h
      rename_i a b hw
      split at h
      case isFalse => cases h
      split at h
      case h_2 => cases h
      rename_i d hd
      split at h
      · cases h
      rename_i ho
      injection h with h
      subst h
      have dr := dayW_rng hd
      have hl := late_not hi.asc fun c => ho (.inr c)
      exact ⟨by show 2 ≤ 2; decide, fun h => absurd (show (2 : Nat) = 0 from h) (by decide), fun _ => rg, hi.st, hi.n, hi.asc, fun _ => ⟨⟨rg.1, rg.2.1, dr.1, dr.2, by show r.t.st < d; omega, rg.2.2.1, rg.2.2.2⟩, hi.st, hi.n, asc_en hi.asc hl⟩⟩
  · cases h
theorem runL_inv : ∀ {ls : List Bs} {r r' : RS}, RI r → runL ls r = some r' → RI r'
  | [], r, r', hi, h => by injection h with h; subst h; exact hi
  | l :: ls, r, r', hi, h => by
    unfold runL at h
    cases hs : stepL r l with
    | inr e => rw [hs] at h; cases h
    | inl r1 => rw [hs] at h; exact runL_inv (stepL_inv hi hs) h
theorem prsL_some {s : Bs} {t : Tb} {x : Int × Int} (h : prsL s = (some t, x)) : x = (0, 0) ∧ GoodT t := by
  unfold prsL at h
  split at h
  · cases h
  obtain ⟨hx, r', hr, ht, hq⟩ := goL_some h
  have hi := runL_inv RI.zero hr
  subst ht
  exact ⟨hx, hi.g (by have := hi.q; omega)⟩
theorem prsL_err {s : Bs} (h : (prsL s).1 = none) : (prsL s).2.2 ≠ 0 := by
  unfold prsL at h ⊢
  split
  · decide
  · rename_i c
    rw [if_neg c] at h; exact goL_err h
/-! ### a table's lines -/
noncomputable def lnS (m : Tb) : Bs := startL ++ 32 :: (datL m.st ++ 32 :: decS m.ah.toNat)
def sgn (s : Int) : Bs := if s < 0 then m1L else p1L
noncomputable def lnL (l : P2) : Bs := leapL ++ 32 :: (datL l.1 ++ 32 :: sgn l.2)
noncomputable def lnE (m : Tb) : Bs := endL ++ 32 :: datL m.en
noncomputable def lnsT (m : Tb) : List Bs := lnS m :: (m.ls.map lnL ++ [lnE m])
noncomputable def txtT (m : Tb) : Bs := flatL (lnsT m)
theorem sgn_no {s : Int} {a : UInt8} (h : a.toNat < 43) : a ∉ sgn s := by
  intro hm
  unfold sgn m1L p1L at hm
  split at hm <;> (simp at hm; rcases hm with e | e <;> (rw [e] at h; exact absurd h (by decide)))
theorem lnS_pcs (m : Tb) : pcs 32 (lnS m) = [startL, datL m.st, decS m.ah.toNat] := by
  unfold lnS
  rw [pcs_cut _ (by decide), pcs_cut _ (datL_no (by decide)), pcs_one (decS_no (by decide))]
theorem lnL_pcs (l : P2) : pcs 32 (lnL l) = [leapL, datL l.1, sgn l.2] := by
  unfold lnL
  rw [pcs_cut _ (by decide), pcs_cut _ (datL_no (by decide)), pcs_one (sgn_no (by decide))]
theorem lnE_pcs (m : Tb) : pcs 32 (lnE m) = [endL, datL m.en] := by
  unfold lnE
  rw [pcs_cut _ (by decide), pcs_one (datL_no (by decide))]
theorem lnsT_no {m : Tb} : ∀ l ∈ lnsT m, (10 : UInt8) ∉ l := by
  intro l hl
  unfold lnsT at hl
  simp only [List.mem_cons, List.mem_append, List.mem_map, List.not_mem_nil, or_false] at hl
  have d10 : ∀ n, (10 : UInt8) ∉ datL n := fun n => datL_no (by decide)
  rcases hl with rfl | ⟨x, _, rfl⟩ | rfl
  · unfold lnS startL
    simp only [List.mem_append, List.mem_cons, not_or]
    refine ⟨by decide, by decide, d10 _, by decide, decS_no (by decide)⟩
  · unfold lnL leapL
    simp only [List.mem_append, List.mem_cons, not_or]
    refine ⟨by decide, by decide, d10 _, by decide, sgn_no (by decide)⟩
  · unfold lnE endL
    simp only [List.mem_append, List.mem_cons, not_or]
    exact ⟨by decide, by decide, d10 _⟩
theorem txtT_pcs (m : Tb) : pcs 10 (txtT m) = lnsT m ++ [[]] := pcs_flat lnsT_no
theorem step_S {m : Tb} (hg : Rngd m) : stepL r0 (lnS m) = .inl ⟨1, ⟨m.st, m.ah, 0, []⟩⟩ := by
  unfold Rngd at hg
  unfold stepL
  rw [if_neg (by simp [lnS, startL]), lnS_pcs]
  unfold stepW
  rw [if_pos rfl]
  unfold stW0
  show (if startL = startL ∧ plainL (decS m.ah.toNat) then (match dayW (datL m.st) with | some d => _ | none => _) else _) = _
  rw [if_pos ⟨rfl, decS_plain (by omega)⟩, dayW_dat hg.1 hg.2.1, decS_val (by omega)]
  simp only [Sum.inl.injEq, RS.mk.injEq, Tb.mk.injEq, true_and, and_true]
  omega
theorem sgn_cases {l : P2} (h : Stp l) : (sgn l.2 = p1L ∨ sgn l.2 = m1L) ∧ (if sgn l.2 = p1L then (1 : Int) else -1) = l.2 := by
  unfold Stp at h
  unfold sgn
  rcases h with h | h <;> rw [h] <;> decide
theorem step_L {r : RS} (hq : r.q = 1) {l : P2} (hs : Stp l) (h1 : -719162 ≤ l.1) (h2 : l.1 ≤ 2932896) :
    stepL r (lnL l) = if r.t.ls.length = 64 then .inr 6 else if l.1 < r.t.st ∨ late r.t.ls l.1 then .inr 12 else .inl ⟨1, ⟨r.t.st, r.t.ah, r.t.en, r.t.ls ++ [l]⟩⟩ := by
  obtain ⟨s1, s2⟩ := sgn_cases hs
  unfold stepL
  rw [if_neg (by simp [lnL, leapL]), lnL_pcs]
  unfold stepW
  rw [if_neg (by omega), if_pos hq, if_pos (show ([leapL, datL l.1, sgn l.2] : List Bs).head? = some leapL from rfl)]
  unfold stW1
  simp only
  rw [if_pos s1, dayW_dat h1 h2, s2]
theorem step_E {r : RS} (hq : r.q = 1) {m : Tb} (h1 : -719162 ≤ m.en) (h2 : m.en ≤ 2932896) :
    stepL r (lnE m) = if m.en ≤ r.t.st ∨ late r.t.ls m.en then .inr 12 else .inl ⟨2, ⟨r.t.st, r.t.ah, m.en, r.t.ls⟩⟩ := by
  unfold stepL
  rw [if_neg (by simp [lnE, endL]), lnE_pcs]
  unfold stepW
  rw [if_neg (by omega), if_pos hq, if_neg (by simp [endL, leapL])]
  unfold stW2
  show (if endL = endL then (match dayW (datL m.en) with | some d => _ | none => _) else _) = _
  rw [if_pos rfl, dayW_dat h1 h2]
theorem asc_late {en lo : Int} {pre : L2} {x : P2} {ls : L2} (h : Asc en lo (pre ++ x :: ls)) : lo < x.1 ∧ x.1 < en ∧ ¬ late pre x.1 := by
  have hm := h.mem x (by simp)
  refine ⟨hm.1, hm.2, fun ⟨y, hy, hd⟩ => ?_⟩
  have hy1 := (List.getElem?_eq_some_iff.1 hy).1
  have e1 : (pre ++ x :: ls)[pre.length - 1]? = some y := by rw [List.getElem?_append_left (by omega)]; exact hy
  have e2 : (pre ++ x :: ls)[pre.length]? = some x := by simp
  have := asc_get h (show pre.length - 1 < pre.length by omega) e1 e2
  omega
theorem run_L {st ah e : Int} : ∀ {ls pre : L2}, (∀ l ∈ ls, Stp l) → (pre ++ ls).length ≤ 64 → -719162 ≤ st → ∀ {en}, en ≤ 2932896 → Asc en (st - 1) (pre ++ ls) →
    runL (ls.map lnL) ⟨1, ⟨st, ah, e, pre⟩⟩ = some ⟨1, ⟨st, ah, e, pre ++ ls⟩⟩
  | [], pre, _, _, _, en, _, _ => by simp [runL]
  | x :: ls, pre, hs, hn, h0, en, hen, ha => by
    obtain ⟨a1, a2, a3⟩ := asc_late ha
    rw [List.length_append, List.length_cons] at hn
    rw [List.map_cons, runL, step_L rfl (hs x (by simp)) (by omega) (by omega), if_neg (by show ¬ pre.length = 64; omega), if_neg (by show ¬ (x.1 < st ∨ late pre x.1); intro c; rcases c with c | c; omega; exact a3 c)]
    simp only
    have := run_L (st := st) (ah := ah) (e := e) (ls := ls) (pre := pre ++ [x]) (fun l hl => hs l (by simp [hl])) (by simp; omega) h0 hen (by simpa using ha)
    simpa using this
theorem run_SL {m : Tb} (hg : GoodT m) : runL (lnS m :: m.ls.map lnL) r0 = some ⟨1, ⟨m.st, m.ah, 0, m.ls⟩⟩ := by
  have hr := hg.1
  rw [runL, step_S hr]
  simp only
  unfold Rngd at hr
  have := run_L (st := m.st) (ah := m.ah) (e := 0) (ls := m.ls) (pre := []) hg.2.1 (by simpa using hg.2.2.1) hr.1 hr.2.2.2.1 (by simpa using hg.2.2.2)
  simpa using this
theorem ascLate_en {m : Tb} (hg : GoodT m) : ¬ (m.en ≤ m.st ∨ late m.ls m.en) := by
  have hr := hg.1
  unfold Rngd at hr
  rintro (c | ⟨y, hy, hd⟩)
  · omega
  · have := hg.2.2.2.mem y (List.mem_of_getElem? hy); omega
theorem run_T {m : Tb} (hg : GoodT m) : runL (lnsT m) r0 = some ⟨2, m⟩ := by
  have hr := hg.1
  unfold Rngd at hr
  have e : lnsT m = (lnS m :: m.ls.map lnL) ++ [lnE m] := by simp [lnsT]
  rw [e, runL_append, run_SL hg]
  show runL [lnE m] _ = _
  rw [runL, step_E rfl hr.2.2.1 hr.2.2.2.1, if_neg (ascLate_en hg)]
  rfl
theorem run_nil (r : RS) (ls : List Bs) : runL ([] :: ls) r = runL ls r := by rw [runL]; rfl
theorem lnsT_len (m : Tb) : (lnsT m).length = m.ls.length + 2 := by simp [lnsT]
theorem lnS_len (m : Tb) : (lnS m).length ≤ 19 := by unfold lnS startL; simp only [List.length_append, List.length_cons, List.length_nil, datL_len]; have := decS_len m.ah.toNat; omega
theorem lnL_len (l : P2) : (lnL l).length ≤ 19 := by
  unfold lnL leapL; simp only [List.length_append, List.length_cons, List.length_nil, datL_len]
  have : (sgn l.2).length = 2 := by unfold sgn; split <;> rfl
  omega
theorem lnE_len (m : Tb) : (lnE m).length ≤ 19 := by unfold lnE endL; simp [datL_len]
theorem lnsT_each {m : Tb} : ∀ l ∈ lnsT m, l.length ≤ 19 := by
  intro l hl
  unfold lnsT at hl
  simp only [List.mem_cons, List.mem_append, List.mem_map, List.not_mem_nil, or_false] at hl
  rcases hl with rfl | ⟨x, _, rfl⟩ | rfl
  · exact lnS_len m
  · exact lnL_len x
  · exact lnE_len m
theorem flatL_len {ls : List Bs} {k : Nat} (h : ∀ l ∈ ls, l.length ≤ k) : (flatL ls).length ≤ (k + 1) * ls.length := by
  induction ls with
  | nil => simp [flatL]
  | cons l ls ih =>
    rw [flatL_cons]
    have h1 := h l (by simp)
    have h2 := ih fun x hx => h x (by simp [hx])
    simp only [List.length_append, List.length_cons]
    rw [Nat.mul_add]; omega
/-- what a table tells is read as it was -/
theorem prs_back {m : Tb} (hg : GoodT m) : prsL (txtT m) = (some m, 0, 0) := by
  have h1 : (txtT m).length ≤ 20 * (lnsT m).length := flatL_len lnsT_each
  rw [lnsT_len] at h1
  have h2 := hg.2.2.1
  unfold prsL
  rw [if_neg (by omega), txtT_pcs]
  have : runL (lnsT m ++ [[]]) r0 = some ⟨2, m⟩ := by rw [runL_append, run_T hg]; show runL [[]] _ = _; rw [run_nil]; rfl
  exact goL_run this (Nat.le_refl _)
end Go.Proofs.YtfbegkddkdenbaaGreatDoor
