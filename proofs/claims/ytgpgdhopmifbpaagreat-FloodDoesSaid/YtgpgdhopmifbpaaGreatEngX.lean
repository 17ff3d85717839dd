/- The engine, part X: cells of any kind, read and written by their place in a block. Conditions: none. -/
import Derived.Test.YtgpgdhopmifbpaaGreatEngV
import Derived.Test.YtgpgdhopmifbpaaGreatEngW
namespace Go.Eng
open Go
set_option linter.unusedVariables false
set_option linter.unusedSimpArgs false

theorem Blk.c0 {w : World} {b : Nat} {cs : List Value} (h : Blk w b cs) {c : CK} {x : Tv c} (e : cs[0]? = some (enc c x)) {k : Tv c → Prop} (hk : k x) : ld1 c ⟨b, 0, none⟩ w k := by
  rw [h.ld (c := c) e (dec_enc' c x)]; exact hk
theorem Blk.c1 {w : World} {b : Nat} {cs : List Value} (h : Blk w b cs) (o : Nat) {c : CK} {x : Tv c} (e : cs[o]? = some (enc c x)) {k : Tv c → Prop} (hk : k x) : ld1 c (Addr.add ⟨b, 0, none⟩ o) w k := by
  rw [add_eq, Nat.zero_add, h.ld (c := c) e (dec_enc' c x)]; exact hk
theorem Blk.c2 {w : World} {b : Nat} {cs : List Value} (h : Blk w b cs) (o p : Nat) {c : CK} {x : Tv c} (e : cs[o + p]? = some (enc c x)) {k : Tv c → Prop} (hk : k x) : ld1 c (Addr.add (Addr.add ⟨b, 0, none⟩ o) p) w k := by
  rw [add_add]; exact h.c1 (o + p) e hk
/-- some cells of a block -/
theorem Blk.cN {w : World} {b : Nat} {vs : List Value} (h : Blk w b vs) (o : Nat) {cs : List CK} (x : Tvs cs) (e : (vs.drop o).take cs.length = encs cs x) {k : Tvs cs → Prop} (hk : k x) : ldN cs (Addr.add ⟨b, 0, none⟩ o) 0 w k := by
  refine ldN_of cs x _ 0 k (fun j v hj => ?_) dec_enc' hk
  rw [add_add, add_eq, Nat.zero_add, Nat.zero_add, h.cell]
  rw [← e, List.getElem?_take] at hj
  split at hj
  · rwa [List.getElem?_drop] at hj
  · cases hj
theorem Blk.cA {w : World} {b : Nat} {vs : List Value} (h : Blk w b vs) {cs : List CK} (x : Tvs cs) (e : vs = encs cs x) {k : Tvs cs → Prop} (hk : k x) : ldN cs ⟨b, 0, none⟩ 0 w k :=
  h.cN 0 x (by rw [List.drop_zero, e, ← encs_length cs x, List.take_length]) hk
/-- some cells of a block written -/
theorem Blk.sN {b : Nat} {k : World → Prop} (o : Nat) (vs : List Value) {w : World} {cs : List Value} (h : Blk w b cs) (hi : o + vs.length ≤ cs.length) (hv : vs.all okc = true)
    (hk : ∀ w', Blk w' b (splice cs o vs) → Upd (fun x => x = b) w w' → k w') : stN vs (Addr.add ⟨b, 0, none⟩ o) 0 w k := by
  rw [add_eq, Nat.zero_add]
  exact h.st vs (by omega) hv hk
theorem Blk.sN0 {b : Nat} {k : World → Prop} (vs : List Value) {w : World} {cs : List Value} (h : Blk w b cs) (hi : vs.length ≤ cs.length) (hv : vs.all okc = true)
    (hk : ∀ w', Blk w' b (splice cs 0 vs) → Upd (fun x => x = b) w w' → k w') : stN vs ⟨b, 0, none⟩ 0 w k :=
  h.st vs (by omega) hv hk
end Go.Eng
