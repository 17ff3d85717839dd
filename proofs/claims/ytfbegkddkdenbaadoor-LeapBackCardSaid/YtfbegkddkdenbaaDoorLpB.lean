/- Plain law of tables of leaps as texts: comments between lines, a text without its last line, a line twice. Conditions: none. -/
import Derived.Test.YtfbegkddkdenbaaDoorLpA
namespace Go.Proofs.YtfbegkddkdenbaaDoor
open Go.Eng Go
set_option linter.unusedVariables false
set_option linter.unusedSimpArgs false

def cmtL : Bs := [35, 32, 97, 32, 119, 111, 114, 100]
def mixL (k : Int) : List Bs → Int → List Bs
  | [], _ => []
  | l :: ls, i => (if i = k then [[], cmtL, l] else [l]) ++ mixL k ls (i + 1)
theorem mixL_no {k : Int} : ∀ {ls : List Bs} {i : Int}, (∀ l ∈ ls, (10 : UInt8) ∉ l) → ∀ l ∈ mixL k ls i, (10 : UInt8) ∉ l
  | [], i, _, l, hl => by cases hl
  | x :: ls, i, h, l, hl => by
    unfold mixL at hl
    rcases List.mem_append.1 hl with hl | hl
    · have hx := h x (by simp)
      split at hl
      · simp at hl
        rcases hl with rfl | rfl | rfl
        · simp
        · decide
        · exact hx
      · simp at hl; rw [hl]; exact hx
    · exact mixL_no (fun y hy => h y (by simp [hy])) l hl
theorem mixL_len {k : Int} : ∀ {ls : List Bs} {i : Int}, (∀ l ∈ ls, l.length ≤ 19) → ∀ l ∈ mixL k ls i, l.length ≤ 19
  | [], i, _, l, hl => by cases hl
  | x :: ls, i, h, l, hl => by
    unfold mixL at hl
    rcases List.mem_append.1 hl with hl | hl
    · have hx := h x (by simp)
      split at hl
      · simp at hl
        rcases hl with rfl | rfl | rfl
        · simp
        · decide
        · exact hx
      · simp at hl; rw [hl]; exact hx
    · exact mixL_len (fun y hy => h y (by simp [hy])) l hl
theorem mixL_past {k : Int} : ∀ {ls : List Bs} {i : Int}, k < i → mixL k ls i = ls
  | [], _, _ => rfl
  | x :: ls, i, h => by unfold mixL; rw [if_neg (by omega), mixL_past (by omega)]; rfl
theorem mixL_num {k : Int} : ∀ {ls : List Bs} {i : Int}, (mixL k ls i).length ≤ ls.length + 2
  | [], _ => by simp [mixL]
  | x :: ls, i => by
    unfold mixL
    split
    · rename_i h
      rw [mixL_past (by omega)]; simp
    · have := mixL_num (k := k) (ls := ls) (i := i + 1)
      simp; omega
theorem run_cmt (r : RS) (ls : List Bs) : runL (cmtL :: ls) r = runL ls r := by rw [runL]; rfl
theorem run_mix {k : Int} : ∀ {ls : List Bs} {i : Int} {r : RS}, runL (mixL k ls i) r = runL ls r
  | [], _, _ => rfl
  | x :: ls, i, r => by
    have key : ∀ r, runL (x :: mixL k ls (i + 1)) r = runL (x :: ls) r := fun r => by
      unfold runL
      cases stepL r x with
      | inr e => rfl
      | inl r1 => exact run_mix
    unfold mixL
    split
    · show runL ([] :: cmtL :: (x :: mixL k ls (i + 1))) r = _
      rw [run_nil, run_cmt, key]
    · exact key r
theorem prs_mix {m : Tb} (hg : GoodT m) (k : Int) : prsL (flatL (mixL k (lnsT m ++ [[]]) 0)) = (some m, 0, 0) := by
  have hn : ∀ l ∈ lnsT m ++ [[]], (10 : UInt8) ∉ l := by
    intro l hl
    rcases List.mem_append.1 hl with hl | hl
    · exact lnsT_no l hl
    · rw [List.mem_singleton.1 hl]; simp
  have hz : ∀ l ∈ lnsT m ++ [[]], l.length ≤ 19 := by
    intro l hl
    rcases List.mem_append.1 hl with hl | hl
    · exact lnsT_each l hl
    · rw [List.mem_singleton.1 hl]; simp
  have h1 : (flatL (mixL k (lnsT m ++ [[]]) 0)).length ≤ 20 * (mixL k (lnsT m ++ [[]]) 0).length := flatL_len (mixL_len hz)
  have h2 := mixL_num (k := k) (ls := lnsT m ++ [[]]) (i := 0)
  rw [List.length_append, lnsT_len, List.length_singleton] at h2
  have h3 := hg.2.2.1
  unfold prsL
  rw [if_neg (by omega), pcs_flat (mixL_no hn)]
  have : runL (mixL k (lnsT m ++ [[]]) 0 ++ [[]]) r0 = some ⟨2, m⟩ := by
    rw [runL_append, run_mix, runL_append, run_T hg]
    show (runL [[]] _).bind _ = _
    rw [run_nil]
    show runL [[]] _ = _
    rw [run_nil]; rfl
  exact goL_run this (Nat.le_refl _)
theorem goL_at {a b : List Bs} {l : Bs} {i : Int} {r r' : RS} {e : Int} (h : runL a r = some r') (he : stepL r' l = .inr e) : goL (a ++ l :: b) i r = (none, i + a.length + 1, e) := by
  rw [goL_pre _ h, goL, he]
/-- without its last line -/
theorem prs_cut {m : Tb} (hg : GoodT m) {n : Nat} (hn : n + 1 = (lnsT m).length) : prsL (flatL ((lnsT m).take n)) = (none, (n : Int) + 1, 3) := by
  have e : (lnsT m).take n = lnS m :: m.ls.map lnL := by
    have : lnsT m = (lnS m :: m.ls.map lnL) ++ [lnE m] := by simp [lnsT]
    rw [lnsT_len] at hn
    rw [this, List.take_append_of_le_length (by simp; omega), List.take_of_length_le (by simp; omega)]
  have hno : ∀ l ∈ (lnsT m).take n, (10 : UInt8) ∉ l := fun l hl => lnsT_no l (List.mem_of_mem_take hl)
  have h1 : (flatL ((lnsT m).take n)).length ≤ 20 * ((lnsT m).take n).length := flatL_len fun l hl => lnsT_each l (List.mem_of_mem_take hl)
  rw [List.length_take] at h1
  rw [lnsT_len] at hn h1
  have h3 := hg.2.2.1
  have hm : min n (m.ls.length + 2) = n := by omega
  rw [hm] at h1
  unfold prsL
  rw [if_neg (by omega), pcs_flat hno, goL_pre _ (by rw [e]; exact run_SL hg), List.length_take, lnsT_len, hm]
  show goL [[]] _ _ = _
  rw [goL, show stepL (⟨1, ⟨m.st, m.ah, 0, m.ls⟩⟩ : RS) [] = .inl ⟨1, ⟨m.st, m.ah, 0, m.ls⟩⟩ from rfl]
  simp only
  rw [goL, if_pos (show (1 : Nat) < 2 by decide)]
  simp
/-- a line twice -/
theorem run_twice {m : Tb} (hg : GoodT m) {k : Nat} {l : Bs} (hl : (lnsT m)[k]? = some l) : ∃ r e, (e = 3 ∨ e = 6 ∨ e = 12) ∧ runL ((lnsT m).take (k + 1)) r0 = some r ∧ stepL r l = .inr e := by
  have hk : k < (lnsT m).length := (List.getElem?_eq_some_iff.1 hl).1
  rw [lnsT_len] at hk
  have hr := hg.1
  have hr' := hg.1
  unfold Rngd at hr
  have eT : lnsT m = (lnS m :: m.ls.map lnL) ++ [lnE m] := by simp [lnsT]
  by_cases k0 : k = 0
  · subst k0
    have : l = lnS m := by simp [lnsT] at hl; exact hl.symm
    subst this
    refine ⟨_, 3, .inl rfl, by show runL [lnS m] r0 = _; rw [runL, step_S hr']; rfl, ?_⟩
    unfold stepL
    rw [if_neg (by simp [lnS, startL]), lnS_pcs]
    unfold stepW
    rw [if_neg (show ¬ (1 : Nat) = 0 by decide), if_pos rfl, if_neg (by simp [startL, leapL])]
    rfl
  by_cases kn : k = m.ls.length + 1
  · subst kn
    have : l = lnE m := by
      rw [eT, List.getElem?_append_right (by simp)] at hl
      simp at hl; exact hl.symm
    subst this
    refine ⟨⟨2, m⟩, 3, .inl rfl, ?_, ?_⟩
    · rw [List.take_of_length_le (by rw [lnsT_len]; omega), run_T hg]
    · unfold stepL
      rw [if_neg (by simp [lnE, endL])]
      rfl
  · obtain ⟨j, rfl⟩ : ∃ j, k = j + 1 := ⟨k - 1, by omega⟩
    have hj : j < m.ls.length := by omega
    have hx : m.ls[j]? = some m.ls[j] := List.getElem?_eq_getElem hj
    generalize m.ls[j] = x at hx
    have : l = lnL x := by
      rw [eT, List.getElem?_append_left (by simp; omega)] at hl
      simp [hx] at hl; exact hl.symm
    subst this
    have hxm : x ∈ m.ls := List.mem_of_getElem? hx
    have hxr := hg.2.2.2.mem x hxm
    have tk : (lnsT m).take (j + 1 + 1) = lnS m :: (m.ls.take (j + 1)).map lnL := by
      rw [eT, List.take_append_of_le_length (by simp; omega), List.take_succ_cons, List.map_take]
    have asc_take : ∀ {en lo : Int} {ls : L2} (n : Nat), Asc en lo ls → Asc en lo (ls.take n) := by
      intro en lo ls
      induction ls generalizing lo with
      | nil => intro n h; simp [Asc]
      | cons y ls ih =>
        intro n h
        cases n with
        | zero => trivial
        | succ n => exact ⟨h.1, h.2.1, ih n h.2.2⟩
    have gt : GoodT ⟨m.st, m.ah, m.en, m.ls.take (j + 1)⟩ := ⟨hr', fun l hl => hg.2.1 l (List.mem_of_mem_take hl), by show (m.ls.take (j + 1)).length ≤ 64; have := hg.2.2.1; rw [List.length_take]; omega, asc_take _ hg.2.2.2⟩
    have hrun := run_SL gt
    have elS : lnS ⟨m.st, m.ah, m.en, m.ls.take (j + 1)⟩ = lnS m := rfl
    rw [elS] at hrun
    have hlt : late (m.ls.take (j + 1)) x.1 := ⟨x, by rw [List.length_take, show min (j + 1) m.ls.length - 1 = j by omega, List.getElem?_take_of_lt (by omega)]; exact hx, Int.le_refl _⟩
    have hs := step_L (r := ⟨1, ⟨m.st, m.ah, 0, m.ls.take (j + 1)⟩⟩) rfl (hg.2.1 x hxm) (by omega) (by omega)
    by_cases c64 : (m.ls.take (j + 1)).length = 64
    · refine ⟨_, 6, .inr (.inl rfl), by rw [tk]; exact hrun, ?_⟩
      rw [hs, if_pos c64]
    · refine ⟨_, 12, .inr (.inr rfl), by rw [tk]; exact hrun, ?_⟩
      rw [hs, if_neg c64, if_pos (.inr hlt)]
theorem prs_twice {m : Tb} (hg : GoodT m) {k : Nat} {l : Bs} (hl : (lnsT m)[k]? = some l) : ∃ e, (e = 3 ∨ e = 6 ∨ e = 12) ∧ prsL (flatL ((lnsT m).take (k + 1) ++ l :: (lnsT m).drop (k + 1))) = (none, (k : Int) + 2, e) := by
  obtain ⟨r, e, he, hr, hs⟩ := run_twice hg hl
  have hk : k < (lnsT m).length := (List.getElem?_eq_some_iff.1 hl).1
  have hmem : ∀ x ∈ (lnsT m).take (k + 1) ++ l :: (lnsT m).drop (k + 1), x ∈ lnsT m := by
    intro x hx
    rcases List.mem_append.1 hx with hx | hx
    · exact List.mem_of_mem_take hx
    · rcases List.mem_cons.1 hx with rfl | hx
      · exact List.mem_of_getElem? hl
      · exact List.mem_of_mem_drop hx
  have h1 : (flatL ((lnsT m).take (k + 1) ++ l :: (lnsT m).drop (k + 1))).length ≤ 20 * ((lnsT m).take (k + 1) ++ l :: (lnsT m).drop (k + 1)).length := flatL_len fun x hx => lnsT_each x (hmem x hx)
  rw [List.length_append, List.length_cons, List.length_take, List.length_drop] at h1
  have h3 := hg.2.2.1
  have hln := lnsT_len m
  refine ⟨e, he, ?_⟩
  unfold prsL
  rw [if_neg (by omega), pcs_flat fun x hx => lnsT_no x (hmem x hx), List.append_assoc, List.cons_append, goL_at hr hs, List.length_take, Nat.min_eq_left (by omega)]
  simp only [Prod.mk.injEq, true_and, and_true]
  omega
end Go.Proofs.YtfbegkddkdenbaaDoor
