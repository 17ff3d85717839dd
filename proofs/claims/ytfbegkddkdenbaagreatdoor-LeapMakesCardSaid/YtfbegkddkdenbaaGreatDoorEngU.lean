/- The engine, part U: rows of one's own with their blocks named; what a range over a function leaves; the contract of an iterator. Conditions: none. -/
import Derived.Test.YtfbegkddkdenbaaGreatDoorEngB
namespace Go.Eng
open Go Go.RowKit
set_option linter.unusedVariables false
set_option linter.unusedSimpArgs false

/-! ### a row of one's own -/
/-- The slice s is a row of one's own that holds these cells: its block lies at or beyond base. -/
def OwnR (w : World) (base : Nat) (e : TypeId) (size : Nat) (s : Sl) (n : Nat) (xs : List Value) : Prop := w.ownsRow base e size (.slice s.1 s.2.1 s.2.2) n xs
theorem OwnR.nil (w : World) (base : Nat) (e : TypeId) (size : Nat) : OwnR w base e size (none, 0, 0) 0 [] := own_nil w base e size
theorem OwnR.row {w : World} {base size n : Nat} {e : TypeId} {s : Sl} {xs : List Value} (h : OwnR w base e size s n xs) : Row w s size xs := own_row h
theorem OwnR.ents {w : World} {base n : Nat} {e : TypeId} {s : Sl} {es : List E3} (h : OwnR w base e 3 s n (flat3 es)) : Ents w s es := own_row h
theorem OwnR.len {w : World} {base size n : Nat} {e : TypeId} {s : Sl} {xs : List Value} (h : OwnR w base e size s n xs) : s.2.1 = n := by
  rcases h.2 with ⟨h0, h1⟩ | ⟨g, cap, cur, hv, _⟩
  · simp only [Value.slice.injEq] at h0; omega
  · simp only [Value.slice.injEq] at hv; exact hv.2.1
theorem OwnR.blk {w : World} {base size n : Nat} {e : TypeId} {s : Sl} {xs : List Value} (h : OwnR w base e size s n xs) {a : Addr} (ha : s.1 = some a) : base ≤ a.block ∧ a.block < w.heap.size ∧ a = ⟨a.block, 0, Option.none⟩ := by
  rcases h.2 with ⟨h0, h1⟩ | ⟨g, cap, cur, hv, hb, hg, _⟩
  · simp only [Value.slice.injEq] at h0; rw [h0.1] at ha; cases ha
  · simp only [Value.slice.injEq] at hv; rw [hv.1] at ha; cases ha
    exact ⟨hb, (Array.getElem?_eq_some_iff.1 hg).1, rfl⟩
theorem OwnR.cells {w : World} {base size n : Nat} {e : TypeId} {s : Sl} {xs : List Value} (h : OwnR w base e size s n xs) {a : Addr} (ha : s.1 = some a) : ∃ cs, Blk w a.block cs := by
  rcases h.2 with ⟨h0, h1⟩ | ⟨g, cap, cur, hv, hb, hg, _⟩
  · simp only [Value.slice.injEq] at h0; rw [h0.1] at ha; cases ha
  · simp only [Value.slice.injEq] at hv; rw [hv.1] at ha; cases ha
    exact ⟨cur.toList, e, by rw [hg, Array.toArray_toList]⟩
theorem OwnR.rebase {w : World} {base base' size n : Nat} {e : TypeId} {s : Sl} {xs : List Value} (h : OwnR w base e size s n xs) (hb : ∀ a, s.1 = some a → base' ≤ a.block) : OwnR w base' e size s n xs := by
  refine ⟨h.1, ?_⟩
  rcases h.2 with ⟨h0, h1⟩ | ⟨g, cap, cur, hv, hbg, rest⟩
  · exact .inl ⟨h0, h1⟩
  · simp only [Value.slice.injEq] at hv
    exact .inr ⟨g, cap, cur, by simp [hv], hb _ hv.1, rest⟩
theorem OwnR.kept {w w' : World} {base size n : Nat} {e : TypeId} {s : Sl} {xs : List Value} (h : OwnR w base e size s n xs) (hk : ∀ a o, s.1 = some a → w.heap[a.block]? = some o → o.isCells = true → w'.heap[a.block]? = some o) : OwnR w' base e size s n xs := by
  refine ⟨h.1, ?_⟩
  rcases h.2 with ⟨h0, h1⟩ | ⟨g, cap, cur, hv, hbg, hg, rest⟩
  · exact .inl ⟨h0, h1⟩
  · have h1 := hv
    simp only [Value.slice.injEq] at h1
    exact .inr ⟨g, cap, cur, hv, hbg, hk _ _ h1.1 hg rfl, rest⟩
theorem OwnR.upd {w w' : World} {S : Nat → Prop} {base size n : Nat} {e : TypeId} {s : Sl} {xs : List Value} (h : OwnR w base e size s n xs) (u : Upd S w w') (hS : ∀ a, s.1 = some a → ¬ S a.block) : OwnR w' base e size s n xs :=
  h.kept fun a o ha ho _ => by rw [u.block _ (Array.getElem?_eq_some_iff.1 ho).1 (hS a ha)]; exact ho
theorem OwnR.gro {w w' : World} {base size n : Nat} {e : TypeId} {s : Sl} {xs : List Value} (h : OwnR w base e size s n xs) (u : Gro w w') : OwnR w' base e size s n xs := h.upd u fun _ _ x => x

theorem run_append_empty {P : Program} {w : World} {t ty e : TypeId} {i : TypeInfo} (ht : P.underlying t = some (.slice e)) (hi : P.info? e = some i) (b : Option Addr) (n c c' : Nat) (h : n ≤ c) :
    (Builtin.append_ #[t, t] ty #[.slice b n c, .slice none 0 c']).run P w = .ok (.slice b n c) w := by
  cases b <;> simp [Builtin.append_, run_underlying ht, sizeOf, typeInfo, hi, Builtin.lenOf, Builtin.firstCells, loadCells, loadCellsFrom, storeCells, h]

/-- appending to a row of one's own, the blocks named -/
theorem ap_own {P : Program} {w : World} {t ty e : TypeId} {base size n : Nat} {s x : Sl} {xs news : List Value} {k : Sl → World → Prop}
    (ht : P.underlying t = some (.slice e)) (hi : infoOk P e size = true) (hsz : 0 < size) (hown : OwnR w base e size s n xs) (hrow : Row w x size news) (h1 : ∀ u ∈ news, u.oneCell' = true)
    (hb : n + x.2.1 ≤ 1000000000) (hbase : base ≤ w.heap.size)
    (hk : ∀ s' w', OwnR w' base e size s' (n + x.2.1) (xs ++ news) → Upd (fun b => ∃ a, s.1 = some a ∧ a.block = b) w w' →
      (∀ a, s'.1 = some a → (∃ a0, s.1 = some a0 ∧ a.block = a0.block) ∨ w.heap.size ≤ a.block) → k s' w') :
    slOf ((Builtin.append_ #[t, t] ty #[.slice s.1 s.2.1 s.2.2, .slice x.1 x.2.1 x.2.2]).run P w) k := by
  unfold infoOk at hi
  split at hi
  case h_2 => cases hi
  rename_i i hi'
  simp only [Bool.and_eq_true, beq_iff_eq, decide_eq_true_eq] at hi
  obtain ⟨⟨i1, i2⟩, i3⟩ := hi
  split at i3
  case h_2 => cases i3
  rename_i z hz
  have i3 := beq_iff_eq.1 i3
  obtain ⟨x1, x2, x3⟩ := x
  cases x1 with
  | none =>
    have hn : news = [] := by
      by_cases h : news = []
      · exact h
      · obtain ⟨a, ha, _⟩ := hrow.at_ h; cases ha
    subst hn
    have hx2 : x2 = 0 := by
      have := hrow.len
      simp only [List.length_nil] at this
      rcases Nat.mul_eq_zero.1 this with h | h
      · exact h
      · omega
    subst hx2
    have hcap : s.2.1 ≤ s.2.2 := by
      rcases hown.2 with ⟨h0, _⟩ | ⟨g, cap, cur, hv, _, _, hc, _⟩
      · simp only [Value.slice.injEq] at h0; omega
      · simp only [Value.slice.injEq] at hv; rw [hv.2.1, hv.2.2]; exact hc
    rw [run_append_empty ht hi' _ _ _ _ hcap]
    exact hk s w (by simpa using hown) (Upd.refl _ _) fun a ha => .inl ⟨a, ha, rfl⟩
  | some p =>
    have hl : news.length = x2 * size := hrow.len.symm
    have hnews : ∀ j u, news[j]? = some u → w.cell? (p.add j) = some u := fun j u hj => hrow.ld rfl hj
    have h63 : n + x2 ≤ maxLen := by unfold maxLen; show n + x2 ≤ _; have : n + x2 ≤ 1000000000 := hb; omega
    have hbb : n + x2 ≤ 1000000000 := hb
    have hbytes : (n + x2) * i.bytes ≤ 140737488355328 := by have := Nat.mul_le_mul hbb i2; omega
    have typed : ∀ (v' : Value) (w' : World) (b0 : Nat), w'.ownsRow b0 e size v' (n + x2) (xs ++ news) → ∃ s' : Sl, v' = .slice s'.1 s'.2.1 s'.2.2 := by
      intro v' w' b0 h
      rcases h.2 with ⟨h0, _⟩ | ⟨g', cap', cur, hv, _⟩
      · exact ⟨(none, 0, 0), h0⟩
      · exact ⟨(_, _, _), hv⟩
    rcases hown.2 with ⟨h0, hn0⟩ | ⟨g, cap, cur, hv, hbg, hg, hnc, hcm, hcs, htake⟩
    · have hown2 : w.ownsRow w.heap.size e size (.slice s.1 s.2.1 s.2.2) n xs := ⟨hown.1, .inl ⟨h0, hn0⟩⟩
      obtain ⟨v', w', hr, hown', hgr, _⟩ := run_append_own (P := P) w w.heap.size t ty e i z size i.bytes ht hi' hz i1 rfl i3 hsz _ n xs hown2 p x2 x3 news hl hnews h1 h63 hbytes (Nat.le_refl _)
      obtain ⟨s', rfl⟩ := typed _ _ _ hown'
      have hO : OwnR w' w.heap.size e size s' (n + x2) (xs ++ news) := hown'
      rw [hr]
      refine hk s' w' (hO.rebase fun a ha => Nat.le_trans hbase (hO.blk ha).1) ⟨hgr.os, hgr.tape, hgr.output, hgr.size, fun b hb hn => hgr.block b hb fun e => ?_⟩ fun a ha => .inr (hO.blk ha).1
      rw [h0] at e; cases e
    · obtain ⟨v', w', hr, hown', hgr, _⟩ := run_append_own (P := P) w base t ty e i z size i.bytes ht hi' hz i1 rfl i3 hsz _ n xs hown p x2 x3 news hl hnews h1 h63 hbytes hbase
      obtain ⟨s', rfl⟩ := typed _ _ _ hown'
      have hs := hv
      simp only [Value.slice.injEq] at hs
      have hblk : ∀ a, s'.1 = some a → (∃ a0, s.1 = some a0 ∧ a.block = a0.block) ∨ w.heap.size ≤ a.block := by
        intro a ha
        by_cases hroom : n + x2 ≤ cap
        · have hfit : n * i.size + news.length ≤ cur.size := by rw [hl, hcs, i1, ← Nat.add_mul]; exact Nat.mul_le_mul_right _ hroom
          have hr2 := run_append_room (P := P) w t ty e i ht hi' g n cap cur hg p x2 x3 news (by rw [i1]; exact hl) hnews h1 hroom hfit
          rw [← hv, hr] at hr2
          simp only [Result.ok.injEq, Value.slice.injEq] at hr2
          rw [hr2.1.1] at ha; cases ha
          exact .inl ⟨_, hs.1, rfl⟩
        · have holds : ∀ j u, xs[j]? = some u → w.cell? ((⟨g, 0, none⟩ : Addr).add j) = some u := fun j u hj => hown.row.ld hs.1 hj
          have hr2 := run_append_grow (P := P) w t ty e i z ht hi' hz ⟨g, 0, none⟩ n cap xs (by rw [i1]; exact hown.1) holds p x2 x3 news (by rw [i1]; exact hl) hnews (by omega) (by unfold maxLen at h63; omega) (growslice_fits (by omega) hbytes)
          rw [← hv, hr] at hr2
          simp only [Result.ok.injEq, Value.slice.injEq] at hr2
          rw [hr2.1.1] at ha; cases ha
          exact .inr (Nat.le_refl _)
      rw [hr]
      refine hk s' w' hown' ⟨hgr.os, hgr.tape, hgr.output, hgr.size, fun b hb hn => hgr.block b hb fun e => hn ?_⟩ hblk
      rw [hv] at e
      simp only [Value.ownBlock, Option.some.injEq] at e
      exact ⟨_, hs.1, e.symm⟩

theorem OwnR.cap {w : World} {base size n : Nat} {e : TypeId} {s : Sl} {xs : List Value} (h : OwnR w base e size s n xs) : s.2.1 ≤ s.2.2 := by
  rcases h.2 with ⟨h0, _⟩ | ⟨g, cap, cur, hv, _, _, hc, _⟩
  · simp only [Value.slice.injEq] at h0; omega
  · simp only [Value.slice.injEq] at hv; rw [hv.2.1, hv.2.2]; exact hc
/-- a new row -/
theorem alK_own {cs : List Value} {t : TypeId} {w : World} {k : Addr → World → Prop} (size n : Nat) (hl : cs.length = n * size) (hm : n ≤ 1000000000)
    (h : ∀ b w', w.heap.size = b → OwnR w' b t size (some ⟨b, 0, none⟩, n, n) n cs → Gro w w' → k ⟨b, 0, none⟩ w') : alK cs t w k := by
  refine h _ _ rfl ⟨hl, .inr ⟨w.heap.size, n, cs.toArray, rfl, Nat.le_refl _, ?_, Nat.le_refl _, by unfold maxLen; omega, by simpa using hl, ?_⟩⟩ ((Gro.refl w).alloc _)
  · show (w.heap.push _)[w.heap.size]? = _
    rw [Array.getElem?_push, if_pos rfl]
  · rw [← hl]; simp
theorem flat3_drop (l : Nat) : ∀ es : List E3, flat3 (es.drop l) = (flat3 es).drop (l * 3) := by
  induction l with
  | zero => intro es; simp
  | succ l ih =>
    intro es
    cases es with
    | nil => simp [flat3]
    | cons e es => rw [List.drop_succ_cons, ih, show (l + 1) * 3 = l * 3 + 3 by omega]; simp [flat3]
/-- xs[l:] -/
theorem Ents.from {w : World} {s : Sl} {es : List E3} (h : Ents w s es) (hc : s.2.1 ≤ s.2.2) {l : Nat} (hl : l ≤ es.length) : Ents w (slA s.1 s.2.2 l 3, s.2.1 - l, s.2.2 - l) (es.drop l) := by
  have hn := h.len
  refine ⟨by rw [flat3_length, List.length_drop]; show (s.2.1 - l) * 3 = _; rw [hn], fun hx => ?_⟩
  have hlt : l < es.length := by
    rcases Nat.lt_or_ge l es.length with h | h
    · exact h
    · rw [List.drop_of_length_le h] at hx; exact absurd rfl hx
  obtain ⟨a, ha, hk⟩ := h.at_ (by intro e; have := congrArg List.length e; rw [flat3_length, List.length_nil] at this; omega)
  refine ⟨a.add (l * 3), ?_, fun k v hv => ?_⟩
  · show slA s.1 s.2.2 l 3 = _
    unfold slA
    rw [if_neg (by omega), ha]; rfl
  · rw [flat3_drop, List.getElem?_drop] at hv
    rw [add_add]; exact hk _ _ hv
theorem flat3_one (es : List E3) : ∀ u ∈ flat3 es, u.oneCell' = true := by
  induction es with
  | nil => intro u h; cases h
  | cons e es ih =>
    intro u h
    simp only [flat3, List.mem_cons] at h
    rcases h with rfl | rfl | rfl | h
    · rfl
    · rfl
    · rfl
    · exact ih u h

theorem setCell_heap {w : World} {b : Nat} {cs : Array Value} {t : TypeId} {z : Nat × Nat} (h : w.heap[b]? = some (.cells cs t z)) (i : Nat) (v : Value) : (w.setCell ⟨b, i, none⟩ v).heap[b]? = some (.cells (cs.setIfInBounds i v) t z) := by
  simp [World.setCell, Array.getElem?_modify, h]
theorem flat3_set : ∀ (es : List E3) (i : Nat) (z : E3), flat3 (es.set i z) = (((flat3 es).set (i * 3) (.int .i64 z.1)).set (i * 3 + 1) (.int .i64 z.2.1)).set (i * 3 + 2) (.int .i64 z.2.2)
  | [], i, z => by simp [flat3]
  | e :: es, 0, z => by simp [flat3]
  | e :: es, i + 1, z => by
    rw [List.set_cons_succ, show (i + 1) * 3 = i * 3 + 3 by omega]
    simp only [flat3]
    rw [flat3_set es i z]
    simp
/-- an element of a row of one's own, written -/
theorem OwnR.st3 {w : World} {base n : Nat} {e : TypeId} {s : Sl} {es : List E3} (h : OwnR w base e 3 s n (flat3 es)) {a : Addr} (ha : s.1 = some a) {i : Nat} (hi : i < n) {z : E3} {k : World → Prop}
    (hk : ∀ w', OwnR w' base e 3 s n (flat3 (es.set i z)) → Upd (fun b => b = a.block) w w' → k w') : stN [.int .i64 z.1, .int .i64 z.2.1, .int .i64 z.2.2] (a.add (i * 3)) 0 w k := by
  rcases h.2 with ⟨h0, _⟩ | ⟨g, cap, cur, hv, hbg, hg, hnc, hcm, hcs, ht⟩
  · simp only [Value.slice.injEq] at h0; rw [h0.1] at ha; cases ha
  have hs := hv
  simp only [Value.slice.injEq] at hs
  rw [hs.1] at ha; cases ha
  have hB : ∀ {w' : World} {cs : Array Value}, w'.heap[g]? = some (.cells cs e (0, 0)) → Blk w' g cs.toList := fun h => ⟨e, by rw [h, Array.toArray_toList]⟩
  have hsz : i * 3 + 3 ≤ cur.size := by rw [hcs]; have := Nat.mul_le_mul_right 3 (show i + 1 ≤ cap by omega); omega
  have a0 : ((⟨g, 0, none⟩ : Addr).add (i * 3)) = ⟨g, i * 3, none⟩ := by rw [add_eq, Nat.zero_add]
  rw [a0]
  have pos : ∀ n : Int, okc (Value.int .i64 n) = true := fun _ => rfl
  rw [stN, if_pos (pos _), add_eq, (hB hg).cell, List.getElem?_eq_getElem (by rw [Array.length_toList]; omega)]
  simp only
  rw [(hB hg).thaw, if_neg (by decide)]
  have h1 := setCell_heap hg (i * 3 + 0) (.int .i64 z.1)
  obtain ⟨w1, e1⟩ : ∃ w1, w1 = w.setCell ⟨g, i * 3 + 0, none⟩ (.int .i64 z.1) := ⟨_, rfl⟩
  rw [← e1] at h1 ⊢
  rw [stN, if_pos (pos _), add_eq, (hB h1).cell, List.getElem?_eq_getElem (by rw [Array.length_toList, Array.size_setIfInBounds]; omega)]
  simp only
  rw [(hB h1).thaw, if_neg (by decide)]
  have h2 := setCell_heap h1 (i * 3 + (0 + 1)) (.int .i64 z.2.1)
  obtain ⟨w2, e2⟩ : ∃ w2, w2 = w1.setCell ⟨g, i * 3 + (0 + 1), none⟩ (.int .i64 z.2.1) := ⟨_, rfl⟩
  rw [← e2] at h2 ⊢
  rw [stN, if_pos (pos _), add_eq, (hB h2).cell, List.getElem?_eq_getElem (by rw [Array.length_toList, Array.size_setIfInBounds, Array.size_setIfInBounds]; omega)]
  simp only
  rw [(hB h2).thaw, if_neg (by decide)]
  have h3 := setCell_heap h2 (i * 3 + (0 + 1 + 1)) (.int .i64 z.2.2)
  obtain ⟨w3, e3⟩ : ∃ w3, w3 = w2.setCell ⟨g, i * 3 + (0 + 1 + 1), none⟩ (.int .i64 z.2.2) := ⟨_, rfl⟩
  rw [← e3] at h3 ⊢
  show k w3
  refine hk w3 ⟨by have := h.1; rw [flat3_length] at this ⊢; rw [List.length_set]; exact this, .inr ⟨g, cap, _, hv, hbg, h3, hnc, hcm, by simp [hcs], ?_⟩⟩ ?_
  · rw [flat3_set, ← ht]
    simp [List.take_set]
  · rw [e3, e2, e1]
    have q1 := (Upd.refl (fun b => b = g) w).setCell ⟨g, i * 3 + 0, Option.none⟩ (.int .i64 z.1) fun _ => rfl
    have q2 := q1.setCell ⟨g, i * 3 + (0 + 1), Option.none⟩ (.int .i64 z.2.1) fun _ => rfl
    exact q2.setCell ⟨g, i * 3 + (0 + 1 + 1), Option.none⟩ (.int .i64 z.2.2) fun _ => rfl

/-! ### turns -/
theorem Turn.gro {B : Nat} {w w' : World} (h : Gro w w') : Turn B w w' := ⟨h.os, h.tape, h.output, h.size, fun k o hk _ => by rw [h.block k (Array.getElem?_eq_some_iff.1 hk).1 fun x => x]; exact hk⟩
theorem Blk.turn {B : Nat} {w w' : World} {b : Nat} {cs : List Value} (h : Blk w b cs) (t : Turn B w w') : Blk w' b cs := by
  obtain ⟨ty, e⟩ := h
  exact ⟨ty, t.block _ _ e (.inr rfl)⟩
theorem cell_turn {B : Nat} {w w' : World} {p : Addr} {v : Value} (h : w.cell? p = some v) (t : Turn B w w') : w'.cell? p = some v := by
  unfold World.cell? at h ⊢
  split at h
  · rename_i cs ty fz e
    rw [t.block _ _ e (.inr rfl)]
    exact h
  · cases h
theorem Row.turn {B : Nat} {w w' : World} {s : Sl} {size : Nat} {xs : List Value} (h : Row w s size xs) (t : Turn B w w') : Row w' s size xs :=
  ⟨h.len, fun hx => by obtain ⟨a, e, ha⟩ := h.at_ hx; exact ⟨a, e, fun k v hk => cell_turn (ha k v hk) t⟩⟩
theorem Ents.turn {B : Nat} {w w' : World} {s : Sl} {es : List E3} (h : Ents w s es) (t : Turn B w w') : Ents w' s es := Row.turn h t
theorem OwnR.turn {B : Nat} {w w' : World} {base size n : Nat} {e : TypeId} {s : Sl} {xs : List Value} (h : OwnR w base e size s n xs) (t : Turn B w w') : OwnR w' base e size s n xs :=
  h.kept fun a o _ ho hc => t.block _ _ ho (.inr hc)
theorem Upd.turn {B : Nat} {S : Nat → Prop} {w0 w w' : World} (h : Upd S w0 w) (t : Turn B w w') (hB : w0.heap.size ≤ B) : Upd S w0 w' :=
  ⟨t.os.trans h.os, t.tape.trans h.tape, t.output.trans h.output, Nat.le_trans h.size t.size, fun k hk hn => by
    have h1 := h.block k hk hn
    have h2 : w0.heap[k]? = some w0.heap[k] := Array.getElem?_eq_getElem hk
    rw [h2] at h1 ⊢
    exact t.block k _ h1 (.inl (by omega))⟩
theorem Rnd.of {B : Nat} {M S : Nat → Prop} {w w' : World} (u : Upd S w w') (h : ∀ k, S k → k < w.heap.size → (k < B → M k) ∧ (B ≤ k → ∃ cs, Blk w k cs)) : Rnd B M w w' :=
  ⟨u.os, u.tape, u.output, u.size, fun k o hk hM ho => by
    have hlt := (Array.getElem?_eq_some_iff.1 ho).1
    rw [u.block k hlt fun hS => hM ((h k hS hlt).1 hk)]; exact ho,
   fun k o hk ho hc => by
    have hlt := (Array.getElem?_eq_some_iff.1 ho).1
    rw [u.block k hlt fun hS => ?_]; exact ho
    obtain ⟨cs, ty, e⟩ := (h k hS hlt).2 hk
    rw [e] at ho
    injection ho with ho
    subst ho
    cases hc⟩
theorem Rnd.low1 {B b : Nat} {M : Nat → Prop} {w w' : World} (u : Upd (fun z => z = b) w w') (hb : b < B) (hM : M b) : Rnd B M w w' :=
  Rnd.of u fun k hk _ => by subst hk; exact ⟨fun _ => hM, fun h => by omega⟩
theorem Rnd.gro {B : Nat} {M : Nat → Prop} {w w' : World} (u : Gro w w') : Rnd B M w w' := Rnd.of u fun k hk _ => hk.elim
theorem Mark.upd {S : Nat → Prop} {w w' : World} {D : Nat} (h : Mark w D) (u : Upd S w w') (hS : ¬ S D) : Mark w' D := by
  unfold Mark at *
  rw [u.block D (Array.getElem?_eq_some_iff.1 h).1 hS]; exact h
theorem Mark.gro {w w' : World} {D : Nat} (h : Mark w D) (u : Gro w w') : Mark w' D := h.upd u fun x => x
theorem Mark.lt {w : World} {D : Nat} (h : Mark w D) : D < w.heap.size := (Array.getElem?_eq_some_iff.1 h).1
/-- a mark is come to -/
theorem tkK_by {D : Nat} {w : World} {k : World → Prop} (h : Mark w D) (hk : ∀ w', (∀ B, B ≤ D → Turn B w w') → k w') : tkK D w k := by
  refine ⟨h, hk _ fun B hB => ⟨rfl, rfl, rfl, by simp [World.putObj], fun j o hj ho => ?_⟩⟩
  have : j ≠ D := by
    intro e; subst e
    unfold Mark at h
    rw [h] at hj
    injection hj with hj
    subst hj
    rcases ho with ho | ho
    · omega
    · cases ho
  rw [World.putObj_heap_other this]; exact hj

/-! ### an iterator's contract -/
theorem its_by {P : Program} {gf : FuncId} {lb : Array Value} {rs : List (Bool × List CK)} {V : TR rs → Prop} {xs : List (TR rs)} {M : Nat → Prop} {w : World} (hc : callable P gf = true)
    (h : ∀ (l : Nat) (J Jx : List (TR rs) → World → Prop) (W : World), Gro w W →
      (∀ pre W1 W2, J pre W1 → Gro W1 W2 → J pre W2) → (∀ pre W1 W2, Jx pre W1 → Gro W1 W2 → Jx pre W2) →
      (∀ (pre : List (TR rs)) (x : TR rs) (W1 : World) (k : Bool → World → Prop), V x → J pre W1 → pre.length < xs.length → (∀ W2, J (pre ++ [x]) W2 → KpM w.heap.size M W1 W2 → k true W2) → (∀ W2, Jx (pre ++ [x]) W2 → k false W2) →
        yiS P l (encL rs x) W1 k) →
      J [] W → clS P gf (.func (.yield l) #[] #[] :: lb.toList) W true [] fun _ W' => J xs W' ∨ ∃ pre, pre <+: xs ∧ Jx pre W') :
    ItS P (.func (.func gf) #[] lb) rs V xs M w := by
  refine ⟨rfl, hc, fun l J Jx W hW hJ hJx hY h0 => ?_⟩
  have up : ∀ {A B : World}, Gro A B → A.grownBy B none := fun g => ⟨g.os, g.tape, g.output, g.size, fun k hk _ => g.block k hk fun x => x⟩
  have hcl := h l (fun pre W => ∃ zs : List { x : TR rs // V x }, zs.map (·.1) = pre ∧ J zs W) (fun pre W => ∃ zs : List { x : TR rs // V x }, zs.map (·.1) = pre ∧ Jx zs W) W
    ⟨hW.os, hW.tape, hW.output, hW.size, fun k hk _ => hW.block k hk⟩
    (fun pre W1 W2 ⟨zs, e, hz⟩ g => ⟨zs, e, hJ zs W1 W2 none hz (up g) fun r h => by cases h⟩)
    (fun pre W1 W2 ⟨zs, e, hz⟩ g => ⟨zs, e, hJx zs W1 W2 none hz (up g) fun r h => by cases h⟩)
    (fun pre x W1 k hV ⟨zs, e, hz⟩ hl hk1 hk2 => by
      subst e
      obtain ⟨fn, tm, as, bo, hy, hR⟩ := hY zs ⟨x, hV⟩ W1 hz (by simpa using hl)
      refine ⟨fn, tm, as, bo, hy, roundW (RoundIn.mono hR ?_)⟩
      rintro e W2 (⟨rfl, h1, h2⟩ | ⟨rfl, h1⟩)
      · exact ⟨true, rfl, hk1 W2 ⟨zs ++ [⟨x, hV⟩], by simp, h1⟩ h2⟩
      · exact ⟨false, rfl, hk2 W2 ⟨zs ++ [⟨x, hV⟩], by simp, h1⟩⟩)
    ⟨[], rfl, h0⟩
  have e : (#[Value.func (.yield l) #[] #[]] ++ lb) = (Value.func (.yield l) #[] #[] :: lb.toList).toArray := by apply Array.ext'; simp
  rw [e]
  refine callsW.2 (Calls.mono hcl ?_)
  rintro e W' ⟨r, rfl, (⟨zs, hz, hj⟩ | ⟨pre, hp, zs, hz, hj⟩)⟩
  · exact ⟨⟨_, rfl⟩, .inl ⟨zs, hz, hj⟩⟩
  · exact ⟨⟨_, rfl⟩, .inr ⟨zs, by show zs.map (·.1) <+: xs; rw [hz]; exact hp, hj⟩⟩
theorem KpM.blk {B : Nat} {M : Nat → Prop} {w w' : World} {b : Nat} {cs : List Value} (h : Blk w b cs) (u : KpM B M w w') (hb : b < B) (hM : ¬ M b) : Blk w' b cs := by
  obtain ⟨t, e⟩ := h
  exact ⟨t, u b _ hb hM e⟩
theorem KpM.cell {B : Nat} {M : Nat → Prop} {w w' : World} {p : Addr} {v : Value} (h : w.cell? p = some v) (u : KpM B M w w') (hb : p.block < B) (hM : ¬ M p.block) : w'.cell? p = some v := by
  unfold World.cell? at h ⊢
  split at h
  · rename_i e; rw [u _ _ hb hM e]; exact h
  · cases h
theorem KpM.row {B : Nat} {M : Nat → Prop} {w w' : World} {s : Sl} {size : Nat} {xs : List Value} (h : Row w s size xs) (u : KpM B M w w') (hb : xs ≠ [] → ∀ a, s.1 = some a → a.block < B ∧ ¬ M a.block) : Row w' s size xs :=
  ⟨h.len, fun hx => by
    obtain ⟨a, e, ha⟩ := h.at_ hx
    exact ⟨a, e, fun k v hk => KpM.cell (ha k v hk) u (by rw [add_block]; exact (hb hx a e).1) (by rw [add_block]; exact (hb hx a e).2)⟩⟩
/-! ### a slice of ints -/
theorem Row.ix {w : World} {s : Sl} {xs : List Int} (h : Row w s 1 (xs.map (Value.int .i64))) {z : Int} {i : Nat} {x : Int} (hz : z = i) (hi : xs[i]? = some x) {k : Int → Prop} (hk : k x) :
    ixK s.1 s.2.1 z fun a => ld1 (.i .i64) (a.add (z.toNat * 1)) w k := by
  subst hz
  have hm : (xs.map (Value.int .i64))[i]? = some (.int .i64 x) := by rw [List.getElem?_map, hi]; rfl
  have hl := h.len
  have hlt := (List.getElem?_eq_some_iff.1 hi).1
  rw [List.length_map] at hl
  obtain ⟨a, ha⟩ := h.addr (by rw [List.length_map]; omega)
  rw [ha, ixK_eq (by omega), Int.toNat_natCast, Nat.mul_one]
  exact ld1_cell (h.ld ha hm) (dec_i _ _) hk
theorem Row.ilen {w : World} {s : Sl} {xs : List Int} (h : Row w s 1 (xs.map (Value.int .i64))) : s.2.1 = xs.length := by
  have := h.len
  rw [List.length_map] at this; omega


/-! ### one cell -/
theorem Blk.sl0 {w : World} {b : Nat} {s : Sl} (h : Blk w b [.slice s.1 s.2.1 s.2.2]) {k : Sl → Prop} (hk : k s) : ld1 .sl ⟨b, 0, none⟩ w k := by
  rw [h.ld (c := .sl) (i := 0) (v := .slice s.1 s.2.1 s.2.2) (x := s) rfl rfl]; exact hk
theorem Blk.p0 {w : World} {b : Nat} {q : Option Addr} (h : Blk w b [.pointer q]) {k : Option Addr → Prop} (hk : k q) : ld1 .p ⟨b, 0, none⟩ w k := by
  rw [h.ld (c := .p) (i := 0) (v := .pointer q) (x := q) rfl rfl]; exact hk
theorem Blk.b0 {w : World} {b : Nat} {q : Bool} (h : Blk w b [.bool q]) {k : Bool → Prop} (hk : k q) : ld1 .b ⟨b, 0, none⟩ w k := by
  rw [h.ld (c := .b) (i := 0) (v := .bool q) (x := q) rfl rfl]; exact hk
/-- what a region that draws has read is still there -/
theorem Blk.hold {S : Nat → Prop} {w w' : World} {b : Nat} {cs : List Value} (h : Blk w b cs) (u : Upd S w w') (hS : ¬ S b) (i : Nat) (hi : i < cs.length) :
    w'.cell? (Addr.add ⟨b, 0, none⟩ i) = some ((w.cell? (Addr.add ⟨b, 0, none⟩ i)).getD undef) := by
  rw [add_eq, Nat.zero_add, (h.upd u hS).cell, h.cell, List.getElem?_eq_getElem hi]; rfl
theorem Blk.hold2 {S : Nat → Prop} {w w' : World} {b : Nat} {cs : List Value} (h : Blk w b cs) (u : Upd S w w') (hS : ¬ S b) (o i : Nat) (hi : o + i < cs.length) :
    w'.cell? (Addr.add (Addr.add ⟨b, 0, none⟩ o) i) = some ((w.cell? (Addr.add (Addr.add ⟨b, 0, none⟩ o) i)).getD undef) := by
  rw [add_add]; exact h.hold u hS (o + i) hi
theorem Blk.ldp {w : World} {b : Nat} {cs : List Value} (h : Blk w b cs) (o : Nat) {x y : Int} (e0 : cs[o]? = some (.int .i64 x)) (e1 : cs[o + 1]? = some (.int .i64 y)) {k : Tvs [.i .i64, .i .i64] → Prop} (hk : k (x, y, ())) :
    ldN [.i .i64, .i .i64] (Addr.add ⟨b, 0, none⟩ o) 0 w k := by
  rw [add_eq, Nat.zero_add, h.ldc (c := .i .i64) (o := o) (i := 0) (v := .int .i64 x) (x := x) e0 (dec_i _ _), h.ldc (c := .i .i64) (o := o) (i := 1) (v := .int .i64 y) (x := y) e1 (dec_i _ _), ldN_nil]; exact hk
theorem Blk.ia {w : World} {b : Nat} {cs : List Value} (h : Blk w b cs) (o i : Nat) {x : Int} (e : cs[o + i]? = some (.int .i64 x)) {k : Int → Prop} (hk : k x) : ld1 (.i .i64) (Addr.add (Addr.add ⟨b, 0, none⟩ o) i) w k := by
  rw [add_add]; exact h.i1 (o + i) e hk
/-- an assignment to the loop's variable -/
theorem asg_gro {B : Nat} {w w' : World} {A : Prop} (g : Gro w w') (h : A) : Turn B w w' ∧ (∀ (k : Nat) (o : Obj), w.heap[k]? = some o → w'.heap[k]? = some o) ∧ A :=
  ⟨Turn.gro g, fun k o hk => by rw [g.block k (Array.getElem?_eq_some_iff.1 hk).1 fun x => x]; exact hk, h⟩
theorem Gro.fresh {w0 w w1 w2 : World} {b : Nat} (g : Gro w0 w) (u : Gro w w1) (u2 : Upd (fun z => z = b) w1 w2) (hb : w.heap.size = b) : Gro w0 w2 :=
  Upd.new (Upd.gro g u) u2 fun h => absurd g.size (by omega)
end Go.Eng
