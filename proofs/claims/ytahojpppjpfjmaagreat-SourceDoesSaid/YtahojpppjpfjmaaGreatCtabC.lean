/- Contracts of layer 12, part C: a table of one's own, and what Add leaves. Conditions: none. -/
import Derived.Test.YtahojpppjpfjmaaGreatCtabB
namespace Go.Proofs.YtahojpppjpfjmaaGreat
open Go.Eng Go
set_option linter.unusedVariables false
set_option linter.unusedSimpArgs false

/-- Add, where the table is private to what came behind w0. -/
theorem table_Table_Add.own {w0 w : World} {bt : Nat} {s : Sl} {es : List E3} {e : E3} (g : Gro w0 w) (hT : Tab w w0.heap.size bt s es) (hbt : w0.heap.size ≤ bt) {k : TR [(false, [.i .i64])] → World → Prop}
    (hk : ∀ s' w', Tab w' w0.heap.size bt s' (addL es e) → Gro w0 w' → Upd (fun z => z = bt ∨ ∃ a, s.1 = some a ∧ a.block = z) w w' →
      (∀ a, s'.1 = some a → (∃ a0, s.1 = some a0 ∧ a.block = a0.block) ∨ w.heap.size ≤ a.block) → k ((addN es e, ()), ()) w') :
    clS Tryz.prog F.table_Table_Add [.pointer (some ⟨bt, 0, none⟩), .agg #[.int .i64 e.1, .int .i64 e.2.1, .int .i64 e.2.2]] w false [(false, [.i .i64])] k :=
  table_Table_Add.cl hT g.size fun s' w' h1 h2 h3 => hk s' w' h1 (Upd.trans g h2 fun i hi h => by
    rcases h with h | ⟨a, ha, h⟩
    · omega
    · have := (hT.2.1.blk ha).1; omega) h2 h3
theorem Tab.new {w : World} {base bt : Nat} (k : Blk w bt [.slice none 0 0]) : Tab w base bt (none, 0, 0) [] := ⟨k, OwnR.nil _ _ _ _, by simp, fun a h => by cases h⟩
theorem Tab.len {w : World} {base bt : Nat} {s : Sl} {es : List E3} (h : Tab w base bt s es) : es.length ≤ 1000000000 := by have := h.2.2.1; omega

theorem addN_ne {es : List E3} {e : E3} (h : addN es e ≠ 0) : addL es e = es := by
  unfold addN at h
  unfold addL
  split at h
  · rename_i h1; rw [if_pos (.inl h1)]
  · split at h
    · rename_i h1; rw [if_pos (.inr h1)]
    · exact absurd rfl h
theorem addN_0 {es : List E3} {e : E3} (h : addN es e = 0) : goodB e = true ∧ tooOld es e = false ∧ addL es e = (es ++ [e]).drop (es.length + 1 - 8) := by
  unfold addN at h
  split at h
  · cases h
  · rename_i h1
    split at h
    · cases h
    · rename_i h2
      have h1' : goodB e = true := by cases hh : goodB e; exact absurd hh h1; rfl
      have h2' : tooOld es e = false := by cases hh : tooOld es e; rfl; exact absurd hh h2
      refine ⟨h1', h2', ?_⟩
      unfold addL
      rw [if_neg (by rw [h1', h2']; simp)]
def asc (es : List E3) : Prop := ∀ i a b, es[i]? = some a → es[i + 1]? = some b → a.1 < b.1
theorem asc_drop {es : List E3} (h : asc es) (n : Nat) : asc (es.drop n) := fun i a b ha hb => by
  rw [List.getElem?_drop] at ha hb
  exact h (n + i) a b ha hb
theorem asc_add {es : List E3} {e : E3} (h : asc es) : asc (addL es e) := by
  unfold addL
  split
  · exact h
  · rename_i hc
    refine asc_drop (fun i a b ha hb => ?_) _
    by_cases h1 : i + 1 < es.length
    · rw [List.getElem?_append_left (by omega)] at ha
      rw [List.getElem?_append_left h1] at hb
      exact h i a b ha hb
    · have h2 : i + 1 < (es ++ [e]).length := (List.getElem?_eq_some_iff.1 hb).1
      rw [List.length_append, List.length_singleton] at h2
      have hi : i + 1 = es.length := by omega
      rw [List.getElem?_append_left (by omega)] at ha
      rw [List.getElem?_append_right (by omega), hi, Nat.sub_self] at hb
      obtain rfl : e = b := by simpa using hb
      have hl : es.getLast? = some a := by rw [List.getLast?_eq_getElem?, ← ha]; congr 1; omega
      have ho : tooOld es e = false := by
        cases ht : tooOld es e
        · rfl
        · exact absurd (.inr ht) hc
      rw [tooOld_some hl] at ho
      have := of_decide_eq_false ho
      omega
theorem add_last {es : List E3} {e : E3} (h : addN es e = 0) : (addL es e).getLast? = some e := by
  have hc : ¬ (goodB e = false ∨ tooOld es e = true) := by
    unfold addN at h
    split at h
    · cases h
    · rename_i h1
      split at h
      · cases h
      · rename_i h2
        rintro (h | h)
        · exact h1 h
        · exact h2 h
  unfold addL
  rw [if_neg hc, List.getLast?_drop, List.length_append, List.length_singleton, if_neg (by omega), List.getLast?_concat]
end Go.Proofs.YtahojpppjpfjmaaGreat
