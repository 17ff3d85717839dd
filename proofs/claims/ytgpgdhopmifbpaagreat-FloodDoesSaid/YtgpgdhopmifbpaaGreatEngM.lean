/- The engine, part M: blocks of cells, read and written. Conditions: blocks are not frozen, addresses have no spot. -/
import Derived.Test.YtgpgdhopmifbpaaGreatEngB
namespace Go.Eng
open Go
set_option linter.unusedVariables false
set_option linter.unusedSimpArgs false

/-- The block b holds these cells. -/
def Blk (w : World) (b : Nat) (cs : List Value) : Prop := ∃ t, w.heap[b]? = some (.cells cs.toArray t (0, 0))

theorem add_eq (b o n : Nat) : Addr.add ⟨b, o, none⟩ n = ⟨b, o + n, none⟩ := by
  unfold Addr.add; split
  · rename_i h; rw [h]; rfl
  · rfl
theorem Blk.lt {w : World} {b : Nat} {cs : List Value} (h : Blk w b cs) : b < w.heap.size := by
  obtain ⟨t, h⟩ := h
  exact (Array.getElem?_eq_some_iff.1 h).1
theorem Blk.new (w : World) (cs : List Value) (t : TypeId) : Blk (w.alloc (.cells cs.toArray t)) w.heap.size cs := ⟨t, by
  show (w.heap.push _)[w.heap.size]? = _
  rw [Array.getElem?_push, if_pos rfl]⟩
theorem Blk.upd {S : Nat → Prop} {w w' : World} {b : Nat} {cs : List Value} (h : Blk w b cs) (u : Upd S w w') (hS : ¬ S b) : Blk w' b cs := by
  obtain ⟨t, e⟩ := h
  exact ⟨t, by rw [u.block b (Blk.lt ⟨t, e⟩) hS, e]⟩
theorem Blk.gro {w w' : World} {b : Nat} {cs : List Value} (h : Blk w b cs) (u : Gro w w') : Blk w' b cs := h.upd u (fun x => x)
theorem Blk.alloc {w : World} {b : Nat} {cs : List Value} (h : Blk w b cs) (o : Obj) : Blk (w.alloc o) b cs := h.gro ((Gro.refl w).alloc o)
theorem Blk.drew {w : World} {b : Nat} {cs : List Value} (h : Blk w b cs) : Blk w.drew b cs := h
theorem Blk.cell {w : World} {b : Nat} {cs : List Value} (h : Blk w b cs) (i : Nat) : w.cell? ⟨b, i, none⟩ = cs[i]? := by
  obtain ⟨t, e⟩ := h
  simp [World.cell?, e]
theorem Blk.thaw {w : World} {b : Nat} {cs : List Value} (h : Blk w b cs) (i : Nat) : w.frozen? ⟨b, i, none⟩ = false := by
  obtain ⟨t, e⟩ := h
  simp [World.frozen?, e]
theorem Blk.set {w : World} {b : Nat} {cs : List Value} (h : Blk w b cs) (i : Nat) (v : Value) : Blk (w.setCell ⟨b, i, none⟩ v) b (cs.set i v) := by
  obtain ⟨t, e⟩ := h
  refine ⟨t, ?_⟩
  simp [World.setCell, Array.getElem?_modify, e]

theorem ld1_of {c : CK} {p : Addr} {w : World} {k : Tv c → Prop} {v : Value} {x : Tv c} (h : w.cell? p = some v) (hd : dec c v = some x) : ld1 c p w k = k x := by
  unfold ld1; rw [h, Option.bind_some, hd]
theorem dec_enc (c : CK) (x : Tv c) : dec c (enc c x) = some x ∨ True := .inr trivial
theorem dec_i (k : IntKind) (n : Int) : dec (.i k) (.int k n) = some n := by simp [dec, decI]
/-- a read -/
theorem Blk.ld {w : World} {b : Nat} {cs : List Value} (h : Blk w b cs) {c : CK} {i : Nat} {k : Tv c → Prop} {v : Value} {x : Tv c} (hi : cs[i]? = some v) (hd : dec c v = some x) : ld1 c ⟨b, i, none⟩ w k = k x :=
  ld1_of (by rw [h.cell, hi]) hd
theorem ldN_nil (p : Addr) (i : Nat) (w : World) (k : Unit → Prop) : ldN [] p i w k = k () := rfl
theorem Blk.ldc {w : World} {b : Nat} {vs : List Value} (h : Blk w b vs) {c : CK} {cs : List CK} {o i : Nat} {k : Tvs (c :: cs) → Prop} {v : Value} {x : Tv c} (hi : vs[o + i]? = some v) (hd : dec c v = some x) :
    ldN (c :: cs) ⟨b, o, none⟩ i w k = ldN cs ⟨b, o, none⟩ (i + 1) w fun xs => k (x, xs) := by
  rw [ldN, add_eq, h.cell, hi, Option.bind_some, hd]

/-- A list with some of its places turned. -/
def splice (cs : List Value) (n : Nat) : List Value → List Value
  | [] => cs
  | v :: vs => splice (cs.set n v) (n + 1) vs
theorem splice_length (n : Nat) (cs : List Value) (vs : List Value) : (splice cs n vs).length = cs.length := by
  induction vs generalizing cs n with
  | nil => rfl
  | cons v vs ih => rw [splice, ih, List.length_set]
/-- a write -/
theorem Blk.st {b : Nat} {o : Nat} {k : World → Prop} : ∀ (vs : List Value) {w : World} {cs : List Value} (h : Blk w b cs) {i : Nat} (hi : o + i + vs.length ≤ cs.length) (hv : vs.all okc = true)
    (hk : ∀ w', Blk w' b (splice cs (o + i) vs) → Upd (fun x => x = b) w w' → k w'), stN vs ⟨b, o, none⟩ i w k
  | [], w, cs, h, i, hi, hv, hk => hk w h (Upd.refl _ _)
  | v :: vs, w, cs, h, i, hi, hv, hk => by
    simp only [List.length_cons] at hi
    simp only [List.all_cons, Bool.and_eq_true] at hv
    rw [stN, if_pos hv.1, add_eq, h.cell, List.getElem?_eq_getElem (by omega)]
    simp only
    rw [h.thaw, if_neg (by decide)]
    refine Blk.st vs (h.set (o + i) v) (by rw [List.length_set]; omega) hv.2 fun w' h1 h2 => hk w' h1 ?_
    exact ((Upd.refl (fun x => x = b) w).setCell _ _ (fun _ => rfl)).trans h2 (fun _ _ x => x)
theorem ixK_eq {a : Addr} {n : Nat} {ix : Int} {k : Addr → Prop} (h : 0 ≤ ix ∧ ix < n) : ixK (some a) n ix k = k a := by
  simp only [ixK]; rw [if_pos h]
theorem ncK_eq (a : Addr) (k : Addr → Prop) : ncK (some a) k = k a := rfl
theorem slK_eq {l h : Int} {n : Nat} {p : Prop} (e : 0 ≤ l ∧ l ≤ h ∧ h ≤ n) : slK l h n p = p := by unfold slK; rw [if_pos e]
theorem Upd.of_gro {S : Nat → Prop} {a b : World} (h : Gro a b) : Upd S a b := h.mono fun _ x => x.elim
theorem Upd.new {S : Nat → Prop} {a b c : World} (h : Upd S a b) {n : Nat} (u : Upd (fun x => x = n) b c) (hn : n < a.heap.size → S n) : Upd S a c :=
  h.trans u fun i hi e => by cases e; exact hn hi
theorem alK_by {cs : List Value} {t : TypeId} {w : World} {k : Addr → World → Prop} (h : ∀ b w', w.heap.size = b → Blk w' b cs → Gro w w' → k ⟨b, 0, none⟩ w') : alK cs t w k :=
  h _ _ rfl (Blk.new w cs t) ((Gro.refl w).alloc _)
/-- a law holds: it answers true, and what was there is as it was -/
def Holds (w : World) : TR [(false, [.b])] → World → Prop := fun r w' => r = ((true, ()), ()) ∧ Gro w w'
theorem holds {w w' : World} {b : Bool} (g : Gro w w') (h : b = true) : Holds w ((b, ()), ()) w' := ⟨by rw [h], g⟩
end Go.Eng
