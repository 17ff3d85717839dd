/- The engine, part S: rows of cells behind a slice, read, kept and appended to. Conditions: an appended row is one's own. -/
import Derived.Test.YtgpgdhopmifbpaaGreatEngM
import Derived.Laws.AppendOwn
namespace Go.Eng
open Go
set_option linter.unusedVariables false
set_option linter.unusedSimpArgs false

abbrev Sl := Option Addr × Nat × Nat

theorem add_add (a : Addr) (m n : Nat) : (a.add m).add n = a.add (m + n) := by
  unfold Addr.add
  by_cases h : m = 0
  · subst h; simp
  · by_cases h2 : n = 0
    · subst h2; simp [h]
    · rw [if_neg h, if_neg h2, if_neg (by omega)]; simp; omega
theorem add_zero' (a : Addr) : a.add 0 = a := rfl

/-- The slice s holds these cells. -/
structure Row (w : World) (s : Sl) (size : Nat) (xs : List Value) : Prop where
  len : s.2.1 * size = xs.length
  at_ : xs ≠ [] → ∃ a, s.1 = some a ∧ ∀ k v, xs[k]? = some v → w.cell? (a.add k) = some v

theorem cell_lt {w : World} {p : Addr} {v : Value} (h : w.cell? p = some v) : p.block < w.heap.size := by
  unfold World.cell? at h
  split at h
  · rename_i e; exact (Array.getElem?_eq_some_iff.1 e).1
  · cases h
theorem cell_upd {S : Nat → Prop} {w w' : World} {p : Addr} {v : Value} (h : w.cell? p = some v) (u : Upd S w w') (hS : ¬ S p.block) : w'.cell? p = some v := by
  rw [← h]
  exact World.cell?_of_block (w := w) (u.block _ (cell_lt h) hS)
theorem cell_gro {w w' : World} {p : Addr} {v : Value} (h : w.cell? p = some v) (u : Gro w w') : w'.cell? p = some v := cell_upd h u fun x => x
theorem Row.gro {w w' : World} {s : Sl} {size : Nat} {xs : List Value} (h : Row w s size xs) (u : Gro w w') : Row w' s size xs :=
  ⟨h.len, fun hx => by obtain ⟨a, e, ha⟩ := h.at_ hx; exact ⟨a, e, fun k v hk => cell_gro (ha k v hk) u⟩⟩
theorem add_block (a : Addr) (k : Nat) : (a.add k).block = a.block := by unfold Addr.add; split <;> rfl
/-- kept by what turns blocks that were not there when the row was read -/
theorem Row.upd {w w' : World} {s : Sl} {size : Nat} {xs : List Value} {S : Nat → Prop} (h : Row w s size xs) (u : Upd S w w') (hS : ∀ a, s.1 = some a → ¬ S a.block) : Row w' s size xs :=
  ⟨h.len, fun hx => by obtain ⟨a, e, ha⟩ := h.at_ hx; exact ⟨a, e, fun k v hk => cell_upd (ha k v hk) u (by rw [add_block]; exact hS a e)⟩⟩

theorem Row.ld {w : World} {s : Sl} {size : Nat} {xs : List Value} (h : Row w s size xs) {a : Addr} (ha : s.1 = some a) {k : Nat} {v : Value} (hk : xs[k]? = some v) : w.cell? (a.add k) = some v := by
  obtain ⟨b, e, hb⟩ := h.at_ (by intro e; rw [e] at hk; cases hk)
  rw [ha] at e; cases e
  exact hb k v hk
theorem Row.addr {w : World} {s : Sl} {size : Nat} {xs : List Value} (h : Row w s size xs) (hx : 0 < xs.length) : ∃ a, s.1 = some a := by
  obtain ⟨b, e, _⟩ := h.at_ (by intro e; rw [e] at hx; cases hx)
  exact ⟨b, e⟩

theorem ld1_cell {w : World} {c : CK} {p : Addr} {k : Tv c → Prop} {v : Value} {x : Tv c} (h : w.cell? p = some v) (hd : dec c v = some x) (hk : k x) : ld1 c p w k := by rw [ld1_of h hd]; exact hk

/-! ### rows of three ints -/
abbrev E3 := Int × Int × Int
def flat3 : List E3 → List Value
  | [] => []
  | e :: es => .int .i64 e.1 :: .int .i64 e.2.1 :: .int .i64 e.2.2 :: flat3 es
theorem flat3_length (es : List E3) : (flat3 es).length = es.length * 3 := by
  induction es with
  | nil => rfl
  | cons e es ih => simp only [flat3, List.length_cons, ih]; omega
theorem flat3_append (a b : List E3) : flat3 (a ++ b) = flat3 a ++ flat3 b := by
  induction a with
  | nil => rfl
  | cons e es ih => simp [flat3, ih]
theorem flat3_get {es : List E3} {i : Nat} {e : E3} (h : es[i]? = some e) : (flat3 es)[i * 3]? = some (.int .i64 e.1) ∧ (flat3 es)[i * 3 + 1]? = some (.int .i64 e.2.1) ∧ (flat3 es)[i * 3 + 2]? = some (.int .i64 e.2.2) := by
  induction es generalizing i with
  | nil => cases h
  | cons x es ih =>
    cases i with
    | zero => simp at h; subst h; exact ⟨rfl, rfl, rfl⟩
    | succ i =>
      simp at h
      have := ih h
      rw [show (i + 1) * 3 = i * 3 + 3 by omega]
      simpa [flat3] using this
/-- The slice holds these entries. -/
def Ents (w : World) (s : Sl) (es : List E3) : Prop := Row w s 3 (flat3 es)
theorem Ents.len {w : World} {s : Sl} {es : List E3} (h : Ents w s es) : s.2.1 = es.length := by
  have h1 := Row.len h
  rw [flat3_length] at h1
  omega
theorem Ents.gro {w w' : World} {s : Sl} {es : List E3} (h : Ents w s es) (u : Gro w w') : Ents w' s es := Row.gro h u
theorem Ents.addr {w : World} {s : Sl} {es : List E3} (h : Ents w s es) {i : Nat} {e : E3} (hi : es[i]? = some e) : ∃ a, s.1 = some a := by
  refine Row.addr h ?_
  have := (List.getElem?_eq_some_iff.1 hi).1
  rw [flat3_length]; omega
theorem Ents.cell {w : World} {s : Sl} {es : List E3} (h : Ents w s es) {a : Addr} (ha : s.1 = some a) {i : Nat} {e : E3} (hi : es[i]? = some e) :
    w.cell? (a.add (i * 3)) = some (.int .i64 e.1) ∧ w.cell? (a.add (i * 3 + 1)) = some (.int .i64 e.2.1) ∧ w.cell? (a.add (i * 3 + 2)) = some (.int .i64 e.2.2) := by
  obtain ⟨g0, g1, g2⟩ := flat3_get hi
  exact ⟨Row.ld h ha g0, Row.ld h ha g1, Row.ld h ha g2⟩
/-- xs[i], an entry -/
theorem Ents.ix {w : World} {s : Sl} {es : List E3} (h : Ents w s es) {z : Int} {i : Nat} {e : E3} (hz : z = i) (hi : es[i]? = some e) {k : Addr → Prop} (hk : ∀ a, s.1 = some a → k a) : ixK s.1 s.2.1 z k := by
  subst hz
  obtain ⟨a, ha⟩ := h.addr hi
  have := (List.getElem?_eq_some_iff.1 hi).1
  have hl := h.len
  rw [ha, ixK_eq (by omega)]
  exact hk a ha
theorem Ents.ldN {w : World} {s : Sl} {es : List E3} (h : Ents w s es) {a : Addr} (ha : s.1 = some a) {i : Nat} {e : E3} (hi : es[i]? = some e) {k : Tvs [.i .i64, .i .i64, .i .i64] → Prop} (hk : k (e.1, e.2.1, e.2.2, ())) :
    ldN [.i .i64, .i .i64, .i .i64] (a.add (((i : Int)).toNat * 3)) 0 w k := by
  obtain ⟨g0, g1, g2⟩ := h.cell ha hi
  simp only [Eng.ldN, add_add, Int.toNat_natCast]
  rw [Nat.add_zero, g0, g1, g2]
  simp only [Option.bind_some, dec_i]
  exact hk

/-! ### append -/
theorem slOf_append {P : Program} {w0 w : World} {t ty e : TypeId} {i : TypeInfo} {z : Value} {size bytes n m c : Nat} {s : Sl} {p : Addr} {xs news : List Value} {k : (Option Addr × Nat × Nat) → World → Prop}
    (ht : P.underlying t = some (.slice e)) (hi : P.info? e = some i) (hz : i.zero = some z)
    (hsize : i.size = size) (hby : i.bytes = bytes) (hzs : z.cells.size = size) (hsz : 0 < size)
    (hg : Gro w0 w) (hown : w.ownsRow w0.heap.size e size (.slice s.1 s.2.1 s.2.2) n xs)
    (hl : news.length = m * size) (hnews : ∀ j u, news[j]? = some u → w.cell? (p.add j) = some u) (h1 : ∀ u ∈ news, u.oneCell' = true)
    (hb : n + m ≤ 1000000000) (hby2 : bytes ≤ 10000)
    (hk : ∀ (s' : Sl) w', w'.ownsRow w0.heap.size e size (.slice s'.1 s'.2.1 s'.2.2) (n + m) (xs ++ news) → Gro w0 w' → Upd (fun b => w0.heap.size ≤ b) w w' → k s' w') :
    slOf ((Builtin.append_ #[t, t] ty #[.slice s.1 s.2.1 s.2.2, .slice (some p) m c]).run P w) k := by
  obtain ⟨v', w', hr, hown', hgr, _⟩ := run_append_own w w0.heap.size t ty e i z size bytes ht hi hz hsize hby hzs hsz _ n xs hown p m c news hl hnews h1 (by unfold maxLen; omega)
    (by have := Nat.mul_le_mul hb hby2; omega) hg.size
  have hv : ∃ s' : Sl, v' = .slice s'.1 s'.2.1 s'.2.2 := by
    rcases hown'.2 with ⟨h0, _⟩ | ⟨g', cap', cur, hv, _⟩
    · exact ⟨(none, 0, 0), h0⟩
    · exact ⟨(_, _, _), hv⟩
  obtain ⟨s', rfl⟩ := hv
  have hu : Upd (fun b => w0.heap.size ≤ b) w w' := by
    refine ⟨hgr.os, hgr.tape, hgr.output, hgr.size, fun b hb hn => hgr.block b hb fun e => hn ?_⟩
    rcases hown.2 with ⟨h0, _⟩ | ⟨g', cap', cur, hv, hbg, _⟩
    · rw [h0] at e; cases e
    · rw [hv] at e
      simp only [Value.ownBlock, Option.some.injEq] at e
      show _ ≤ b
      rw [e]; exact hbg
  rw [hr]
  exact hk s' w' hown' (Upd.trans hg hu fun i hi h => absurd h (by omega)) hu
def infoOk (P : Program) (e : TypeId) (size : Nat) : Bool :=
  match P.info? e with
  | some i => i.size == size && decide (i.bytes ≤ 10000) && (match i.zero with | some z => z.cells.size == size | none => false)
  | none => false
/-- one more element, appended to a row of one's own -/
theorem slOf_snoc {P : Program} {w0 w : World} {t ty e : TypeId} {size n c : Nat} {s : Sl} {p : Addr} {xs news : List Value} {k : (Option Addr × Nat × Nat) → World → Prop}
    (ht : P.underlying t = some (.slice e)) (hi : infoOk P e size = true) (hsz : 0 < size)
    (hg : Gro w0 w) (hown : w.ownsRow w0.heap.size e size (.slice s.1 s.2.1 s.2.2) n xs)
    (hl : news.length = size) (hnews : ∀ j u, news[j]? = some u → w.cell? (p.add j) = some u) (h1 : ∀ u ∈ news, u.oneCell' = true)
    (hb : n + 1 ≤ 1000000000)
    (hk : ∀ (s' : Sl) w', w'.ownsRow w0.heap.size e size (.slice s'.1 s'.2.1 s'.2.2) (n + 1) (xs ++ news) → Gro w0 w' → Upd (fun b => w0.heap.size ≤ b) w w' → k s' w') :
    slOf ((Builtin.append_ #[t, t] ty #[.slice s.1 s.2.1 s.2.2, .slice (some p) 1 c]).run P w) k := by
  unfold infoOk at hi
  split at hi
  · rename_i i hi'
    simp only [Bool.and_eq_true, beq_iff_eq, decide_eq_true_eq] at hi
    obtain ⟨⟨i1, i2⟩, i3⟩ := hi
    split at i3
    · rename_i z hz
      exact slOf_append ht hi' hz i1 rfl (beq_iff_eq.1 i3) hsz hg hown (by rw [hl, Nat.one_mul]) hnews h1 hb i2 hk
    · cases i3
  · cases hi
theorem own_nil (w : World) (base : Nat) (e : TypeId) (size : Nat) : w.ownsRow base e size (.slice none 0 0) 0 [] := ⟨by simp, .inl ⟨rfl, rfl⟩⟩
theorem own_gro {w w' : World} {base size n : Nat} {e : TypeId} {v : Value} {xs : List Value} (h : w.ownsRow base e size v n xs) (u : Gro w w') : w'.ownsRow base e size v n xs := by
  refine ⟨h.1, ?_⟩
  rcases h.2 with ⟨h0, h1⟩ | ⟨g', cap', cur, hv, hbg, hg, rest⟩
  · exact .inl ⟨h0, h1⟩
  · exact .inr ⟨g', cap', cur, hv, hbg, by rw [u.block g' (Array.getElem?_eq_some_iff.1 hg).1 fun x => x]; exact hg, rest⟩
theorem Blk.news {w : World} {b : Nat} {cs : List Value} (h : Blk w b cs) : ∀ j u, cs[j]? = some u → w.cell? (Addr.add ⟨b, 0, none⟩ j) = some u := fun j u hj => by rw [add_eq, Nat.zero_add, h.cell, hj]
theorem own_row {w : World} {base size n : Nat} {e : TypeId} {s : Sl} {xs : List Value} (h : w.ownsRow base e size (.slice s.1 s.2.1 s.2.2) n xs) : Row w s size xs := by
  obtain ⟨s1, s2, s3⟩ := s
  rcases h.2 with ⟨h0, h1⟩ | ⟨g', cap', cur, hv, hbg, hg, hn, hm, hc, ht⟩
  · simp only [Value.slice.injEq] at h0
    obtain ⟨rfl, rfl, rfl⟩ := h0
    have := h.1
    subst h1
    exact ⟨by rw [this], fun hx => absurd (List.eq_nil_of_length_eq_zero (by rw [this]; simp)) hx⟩
  · simp only [Value.slice.injEq] at hv
    obtain ⟨rfl, rfl, rfl⟩ := hv
    refine ⟨h.1.symm, fun _ => ⟨_, rfl, fun k v hk => ?_⟩⟩
    rw [add_eq, Nat.zero_add]
    simp only [World.cell?, hg]
    have hk' : k < xs.length := (List.getElem?_eq_some_iff.1 hk).1
    rw [← ht, List.getElem?_take_of_lt (by rw [h.1] at hk'; exact hk')] at hk
    simpa using hk
end Go.Eng
