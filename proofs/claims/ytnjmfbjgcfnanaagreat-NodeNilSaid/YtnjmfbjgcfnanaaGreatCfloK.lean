/- The law FloodKnows. Conditions: none. -/
import Derived.Test.YtnjmfbjgcfnanaaGreatCfloS
namespace Go.Proofs.YtnjmfbjgcfnanaaGreat
open Go.Eng Go
set_option linter.unusedVariables false
set_option linter.unusedSimpArgs false

theorem FW.hold0 {O S : Nat → Prop} {w w' : World} {bf be : Nat} {f : Fl} {e : El} {l : MkL} {es : List E3} (h : FW w O bf be f e l es) (u : Upd S w w') (hS : ¬ S bf) : w'.cell? ⟨bf, 0, none⟩ = some ((w.cell? ⟨bf, 0, none⟩).getD undef) := by
  obtain ⟨r, s, h1, _⟩ := h.ex
  exact h1.hold u hS 0 (by simp [flC])
theorem esF_len {c : Int} {es : List E3} {s : S6} {loc : Int} (h8 : es.length ≤ 8) : (c = 2 → (esF c es s loc).length = 1) ∧ ((esF c es s loc).length = 1 ∨ (c ≠ 2 → (esF c es s loc).length = min 8 (es.length + 1))) := by
  have key : ∀ es : List E3, es.length ≤ 8 → (adF es (entF s loc)).length = 1 ∨ (adF es (entF s loc)).length = min 8 (es.length + 1) := fun es h8 => by
    unfold adF
    by_cases c : addN es (entF s loc) = 0
    · rw [if_pos c, (addN_0 c).2.2, List.length_drop, List.length_append, List.length_singleton]; right; omega
    · rw [if_neg c]; left; rfl
  unfold esF
  refine ⟨fun h => ?_, ?_⟩
  · rw [if_pos h]
    rcases key [] (by simp) with h | h
    · exact h
    · rw [h]; rfl
  · by_cases h : c = 2
    · exact .inr fun h' => absurd h h'
    · rw [if_neg h]
      exact (key es h8).imp id fun h _ => h
theorem tm9 {f : Fl} {e : El} {es : List E3} : ((tmF f e es 0).2.2 == 9) = !(synF f e es.length) := by
  unfold tmF
  cases c : synF f e es.length
  · rfl
  · have i0 : inT 0 = true := by decide
    rw [if_neg (by simp), if_neg (by rw [i0]; simp)]
    split
    · rfl
    · split <;> rfl
theorem hrN_code {e : El} {l : MkL} {root : Int} {m : Tvs MK} : hrN e l root m = 0 ∨ hrN e l root m = 1 ∨ hrN e l root m = 2 := by
  unfold hrN
  split
  · exact .inl rfl
  · split
    · exact .inl rfl
    · split
      · exact .inr (.inr rfl)
      · split
        · exact .inr (.inr rfl)
        · exact .inr (.inl rfl)
theorem hrF_code {e : El} {l : MkL} {s : S6} {loc : Int} : hrF e l s loc = 0 ∨ hrF e l s loc = 1 ∨ hrF e l s loc = 2 := by
  unfold hrF; split
  · exact hrN_code
  · exact .inl rfl

end Go.Proofs.YtnjmfbjgcfnanaaGreat
