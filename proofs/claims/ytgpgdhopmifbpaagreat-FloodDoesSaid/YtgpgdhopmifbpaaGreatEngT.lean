/- The engine, part T: whole structs of ints, read and written. Conditions: none. -/
import Derived.Test.YtgpgdhopmifbpaaGreatEngS
namespace Go.Eng
open Go
set_option linter.unusedVariables false
set_option linter.unusedSimpArgs false

theorem splice_over (pre : List Value) : ∀ (cs vs : List Value), cs.length = vs.length → splice (pre ++ cs) pre.length vs = pre ++ vs
  | [], [], _ => rfl
  | c :: cs, v :: vs, h => by
    have := splice_over (pre ++ [v]) cs vs (by simpa using h)
    rw [splice, List.set_append_right _ _ (Nat.le_refl _), Nat.sub_self, List.set_cons_zero]
    simpa using this
/-- a write of the whole block -/
theorem Blk.sta {b : Nat} {k : World → Prop} (vs : List Value) {w : World} {cs : List Value} (h : Blk w b cs) (hl : cs.length = vs.length) (hv : vs.all okc = true)
    (hk : ∀ w', Blk w' b vs → Upd (fun x => x = b) w w' → k w') : stN vs ⟨b, 0, none⟩ 0 w k :=
  h.st vs (by omega) hv fun w' h1 h2 => hk w' (by have := splice_over [] cs vs hl; simp only [List.nil_append, List.length_nil] at this; rw [← this]; exact h1) h2
theorem Blk.ld2 {w : World} {b : Nat} {x y : Int} (h : Blk w b [.int .i64 x, .int .i64 y]) {k : Tvs [.i .i64, .i .i64] → Prop} (hk : k (x, y, ())) : ldN [.i .i64, .i .i64] ⟨b, 0, none⟩ 0 w k := by
  rw [h.ldc (c := .i .i64) (o := 0) (i := 0) (v := .int .i64 x) (x := x) rfl (dec_i _ _), h.ldc (c := .i .i64) (o := 0) (i := 1) (v := .int .i64 y) (x := y) rfl (dec_i _ _), ldN_nil]; exact hk
theorem Blk.ld3 {w : World} {b : Nat} {x y z : Int} (h : Blk w b [.int .i64 x, .int .i64 y, .int .i64 z]) {k : Tvs [.i .i64, .i .i64, .i .i64] → Prop} (hk : k (x, y, z, ())) : ldN [.i .i64, .i .i64, .i .i64] ⟨b, 0, none⟩ 0 w k := by
  rw [h.ldc (c := .i .i64) (o := 0) (i := 0) (v := .int .i64 x) (x := x) rfl (dec_i _ _), h.ldc (c := .i .i64) (o := 0) (i := 1) (v := .int .i64 y) (x := y) rfl (dec_i _ _), h.ldc (c := .i .i64) (o := 0) (i := 2) (v := .int .i64 z) (x := z) rfl (dec_i _ _), ldN_nil]; exact hk
theorem Blk.ld5 {w : World} {b : Nat} {x y z u v : Int} (h : Blk w b [.int .i64 x, .int .i64 y, .int .i64 z, .int .i64 u, .int .i64 v]) {k : Tvs [.i .i64, .i .i64, .i .i64, .i .i64, .i .i64] → Prop} (hk : k (x, y, z, u, v, ())) : ldN [.i .i64, .i .i64, .i .i64, .i .i64, .i .i64] ⟨b, 0, none⟩ 0 w k := by
  rw [h.ldc (c := .i .i64) (o := 0) (i := 0) (v := .int .i64 x) (x := x) rfl (dec_i _ _), h.ldc (c := .i .i64) (o := 0) (i := 1) (v := .int .i64 y) (x := y) rfl (dec_i _ _), h.ldc (c := .i .i64) (o := 0) (i := 2) (v := .int .i64 z) (x := z) rfl (dec_i _ _),
    h.ldc (c := .i .i64) (o := 0) (i := 3) (v := .int .i64 u) (x := u) rfl (dec_i _ _), h.ldc (c := .i .i64) (o := 0) (i := 4) (v := .int .i64 v) (x := v) rfl (dec_i _ _), ldN_nil]; exact hk
/-- one int of a block -/
theorem Blk.i1 {w : World} {b : Nat} {cs : List Value} (h : Blk w b cs) (o : Nat) {x : Int} (e : cs[o]? = some (.int .i64 x)) {k : Int → Prop} (hk : k x) : ld1 (.i .i64) (Addr.add ⟨b, 0, none⟩ o) w k := by
  rw [add_eq, Nat.zero_add, h.ld (c := .i .i64) e (dec_i _ _)]; exact hk
theorem Blk.i0 {w : World} {b : Nat} {cs : List Value} (h : Blk w b cs) {x : Int} (e : cs[0]? = some (.int .i64 x)) {k : Int → Prop} (hk : k x) : ld1 (.i .i64) ⟨b, 0, none⟩ w k := by
  rw [h.ld (c := .i .i64) e (dec_i _ _)]; exact hk
/-- one int written -/
theorem Blk.s1 {w : World} {b : Nat} {cs : List Value} (h : Blk w b cs) (o : Nat) {x : Int} (ho : o < cs.length) {k : World → Prop}
    (hk : ∀ w', Blk w' b (cs.set o (.int .i64 x)) → Upd (fun x => x = b) w w' → k w') : stN [.int .i64 x] (Addr.add ⟨b, 0, none⟩ o) 0 w k := by
  rw [add_eq, Nat.zero_add]
  exact h.st _ (by simp; omega) rfl fun w' h1 h2 => hk w' h1 h2
theorem Blk.s0 {w : World} {b : Nat} {cs : List Value} (h : Blk w b cs) {x : Int} (ho : 0 < cs.length) {k : World → Prop}
    (hk : ∀ w', Blk w' b (cs.set 0 (.int .i64 x)) → Upd (fun x => x = b) w w' → k w') : stN [.int .i64 x] ⟨b, 0, none⟩ 0 w k := h.st _ (by simp; omega) rfl fun w' h1 h2 => hk w' h1 h2
/-- the fields of an entry behind a slice -/
theorem Ents.f0 {w : World} {s : Sl} {es : List E3} (h : Ents w s es) {a : Addr} (ha : s.1 = some a) {z : Int} {i : Nat} {e : E3} (hz : z = i) (hi : es[i]? = some e) {k : Int → Prop} (hk : k e.1) : ld1 (.i .i64) (a.add (z.toNat * 3)) w k := by
  subst hz; rw [Int.toNat_natCast]; exact ld1_cell (h.cell ha hi).1 (dec_i _ _) hk
theorem Ents.f1 {w : World} {s : Sl} {es : List E3} (h : Ents w s es) {a : Addr} (ha : s.1 = some a) {z : Int} {i : Nat} {e : E3} (hz : z = i) (hi : es[i]? = some e) {k : Int → Prop} (hk : k e.2.1) : ld1 (.i .i64) ((a.add (z.toNat * 3)).add 1) w k := by
  subst hz; rw [Int.toNat_natCast, add_add]; exact ld1_cell (h.cell ha hi).2.1 (dec_i _ _) hk
theorem Ents.f2 {w : World} {s : Sl} {es : List E3} (h : Ents w s es) {a : Addr} (ha : s.1 = some a) {z : Int} {i : Nat} {e : E3} (hz : z = i) (hi : es[i]? = some e) {k : Int → Prop} (hk : k e.2.2) : ld1 (.i .i64) ((a.add (z.toNat * 3)).add 2) w k := by
  subst hz; rw [Int.toNat_natCast, add_add]; exact ld1_cell (h.cell ha hi).2.2 (dec_i _ _) hk
theorem Ents.drew {w : World} {s : Sl} {es : List E3} (h : Ents w s es) : Ents w.drew s es := h.gro (Gro.drew w)
theorem brT {c : Bool} {A B : Prop} (h : c = true) (k : A) : brB c A B := by subst h; exact k
theorem brF {c : Bool} {A B : Prop} (h : c = false) (k : B) : brB c A B := by subst h; exact k
theorem brD {p : Prop} [Decidable p] {A B : Prop} (h1 : p → A) (h2 : ¬ p → B) : brB (decide p) A B := by
  by_cases h : p
  · rw [decide_eq_true h]; exact h1 h
  · rw [decide_eq_false h]; exact h2 h
theorem brE {x y : Int} {A B : Prop} (h1 : x = y → A) (h2 : x ≠ y → B) : brB (x == y) A B := by
  by_cases h : x = y
  · subst h; rw [beq_self_eq_true]; exact h1 rfl
  · rw [beq_eq_false_iff_ne.2 h]; exact h2 h
theorem brN {x y : Int} {A B : Prop} (h1 : x ≠ y → A) (h2 : x = y → B) : brB (x != y) A B := by
  by_cases h : x = y
  · subst h; rw [bne_self_eq_false]; exact h2 rfl
  · rw [bne_iff_ne.2 h]; exact h1 h
theorem brC {c : Bool} {A B : Prop} (h1 : c = true → A) (h2 : c = false → B) : brB c A B := by cases c; exact h2 rfl; exact h1 rfl
theorem brNot {c : Bool} {A B : Prop} (h1 : c = false → A) (h2 : c = true → B) : brB (!c) A B := by cases c; exact h1 rfl; exact h2 rfl
end Go.Eng
