/- The engine, part V: maps whose keys are ints. Conditions: the keys' type is int. -/
import Derived.Test.YtfbegkddkdenbaaGreatDoorEngU
import Derived.MapKept
import Derived.Test.YtfbegkddkdenbaaGreatDoorEngR
namespace Go.Eng
open Go
set_option linter.unusedVariables false
set_option linter.unusedSimpArgs false

/-- The map r holds these pairs. -/
def MapT (w : World) (r : Nat) (ag : Bool) (cs : List CK) (l : List (Int × Tvs cs)) : Prop :=
  ∃ (es : List MapEntry) (c : Nat), w.heap[r]? = some (.map es.toArray c) ∧ es.map (fun e => (e.key, e.val)) = l.map (fun p => (Value.int .i64 p.1, enc1 ag cs p.2))
def mget {α : Type} : List (Int × α) → Int → Option α
  | [], _ => none
  | p :: l, k => if p.1 = k then some p.2 else mget l k
def mset {α : Type} : List (Int × α) → Int → α → List (Int × α)
  | [], k, v => [(k, v)]
  | p :: l, k, v => if p.1 = k then (k, v) :: l else p :: mset l k v
theorem mget_mset {α : Type} (l : List (Int × α)) (k j : Int) (v : α) : mget (mset l k v) j = if j = k then some v else mget l j := by
  induction l with
  | nil =>
    simp only [mset, mget]
    by_cases h : k = j
    · subst h; simp
    · rw [if_neg h, if_neg (fun e => h e.symm)]
  | cons p l ih =>
    simp only [mset]
    by_cases h : p.1 = k
    · rw [if_pos h]
      simp only [mget]
      by_cases hj : k = j
      · subst hj; simp
      · rw [if_neg hj, if_neg (fun e => hj e.symm), if_neg (by rw [h]; exact hj)]
    · rw [if_neg h]
      simp only [mget]
      rw [ih]
      by_cases hj : p.1 = j
      · subst hj
        rw [if_pos rfl, if_neg h, if_pos rfl]
      · rw [if_neg hj, if_neg hj]

theorem MapT.lt {w : World} {r : Nat} {ag : Bool} {cs : List CK} {l : List (Int × Tvs cs)} (h : MapT w r ag cs l) : r < w.heap.size := by
  obtain ⟨es, c, h, _⟩ := h
  exact (Array.getElem?_eq_some_iff.1 h).1
theorem MapT.upd {S : Nat → Prop} {w w' : World} {r : Nat} {ag : Bool} {cs : List CK} {l : List (Int × Tvs cs)} (h : MapT w r ag cs l) (u : Upd S w w') (hS : ¬ S r) : MapT w' r ag cs l := by
  have hl := h.lt
  obtain ⟨es, c, h1, h2⟩ := h
  exact ⟨es, c, by rw [u.block r hl hS]; exact h1, h2⟩
theorem MapT.gro {w w' : World} {r : Nat} {ag : Bool} {cs : List CK} {l : List (Int × Tvs cs)} (h : MapT w r ag cs l) (u : Gro w w') : MapT w' r ag cs l := h.upd u fun x => x
theorem MapT.drew {w : World} {r : Nat} {ag : Bool} {cs : List CK} {l : List (Int × Tvs cs)} (h : MapT w r ag cs l) : MapT w.drew r ag cs l := h
/-! ### the model's search -/
def fidx (ag : Bool) (cs : List CK) : List (Int × Tvs cs) → Int → Nat → Option (Nat × Value)
  | [], _, _ => none
  | p :: l, k, i => if p.1 = k then some (i, enc1 ag cs p.2) else fidx ag cs l k (i + 1)
theorem findNow_eq {ag : Bool} {cs : List CK} {kd : IntKind} : ∀ (l : List (Int × Tvs cs)) (es : List MapEntry) (k : Int) (i : Nat), es.map (fun e => (e.key, e.val)) = l.map (fun p => (Value.int .i64 p.1, enc1 ag cs p.2)) →
    Instr.findNow (.int kd) (.int .i64 k) es i = some (fidx ag cs l k i)
  | [], es, k, i, h => by
    have : es = [] := by cases es; rfl; simp at h
    subst this; rfl
  | p :: l, [], k, i, h => by simp at h
  | p :: l, e :: es, k, i, h => by
    simp only [List.map_cons, List.cons.injEq, Prod.mk.injEq] at h
    obtain ⟨⟨h1, h2⟩, h3⟩ := h
    unfold Instr.findNow fidx
    rw [h1]
    simp only [Instr.sameNow, if_true]
    by_cases hk : p.1 = k
    · subst hk
      simp [h2]
    · rw [if_neg hk]
      have : (k == p.1) = false := beq_eq_false_iff_ne.2 fun e => hk e.symm
      rw [this]
      exact findNow_eq l es k (i + 1) h3
theorem fidx_get {ag : Bool} {cs : List CK} : ∀ (l : List (Int × Tvs cs)) (k : Int) (i : Nat), (fidx ag cs l k i).map (·.2) = (mget l k).map (enc1 ag cs)
  | [], k, i => rfl
  | p :: l, k, i => by
    unfold fidx mget
    by_cases h : p.1 = k
    · rw [if_pos h, if_pos h]; rfl
    · rw [if_neg h, if_neg h]; exact fidx_get l k (i + 1)
theorem fidx_none {ag : Bool} {cs : List CK} : ∀ (l : List (Int × Tvs cs)) (k : Int) (i : Nat) (v : Tvs cs), fidx ag cs l k i = none → mset l k v = l ++ [(k, v)]
  | [], k, i, v, _ => rfl
  | p :: l, k, i, v, h => by
    unfold fidx at h
    by_cases hk : p.1 = k
    · rw [if_pos hk] at h; cases h
    · rw [if_neg hk] at h
      simp only [mset]
      rw [if_neg hk, fidx_none l k (i + 1) v h]; rfl
theorem fidx_some {ag : Bool} {cs : List CK} : ∀ (l : List (Int × Tvs cs)) (k : Int) (i j : Nat) (u : Value) (v : Tvs cs), fidx ag cs l k i = some (j, u) → ∃ m x, j = i + m ∧ l[m]? = some (k, x) ∧ mset l k v = l.set m (k, v)
  | [], k, i, j, u, v, h => by cases h
  | p :: l, k, i, j, u, v, h => by
    unfold fidx at h
    by_cases hk : p.1 = k
    · rw [if_pos hk] at h
      injection h with h
      injection h with h1 h2
      exact ⟨0, p.2, by omega, by simp [← hk], by simp [mset, hk]⟩
    · rw [if_neg hk] at h
      obtain ⟨m, x, h1, h2, h3⟩ := fidx_some l k (i + 1) j u v h
      exact ⟨m + 1, x, by omega, by simpa using h2, by simp [mset, hk, h3]⟩

/-! ### the operations -/
theorem maK_by {P : Program} {t : TypeId} {w : World} {k : Nat → World → Prop} (ag : Bool) (cs : List CK) (h : ∀ r w', w.heap.size = r → MapT w' r ag cs [] → Gro w w' → k r w') : maK P t w k := by
  unfold maK
  rw [show (Instr.makeMap t none).run P w = .ok (.map (some w.heap.size)) (w.alloc (.map #[] 0)) from rfl]
  refine h _ _ rfl ⟨[], 0, ?_, rfl⟩ ((Gro.refl w).alloc _)
  show (w.heap.push _)[w.heap.size]? = _
  rw [Array.getElem?_push, if_pos rfl]
theorem run_find {P : Program} {w : World} {kt : TypeId} {ag : Bool} {cs : List CK} {l : List (Int × Tvs cs)} (hk : P.underlying kt = some (.int .i64)) {es : List MapEntry} (he : es.map (fun e => (e.key, e.val)) = l.map (fun p => (Value.int .i64 p.1, enc1 ag cs p.2))) (k : Int) :
    (Instr.findKey kt (.int .i64 k) es).run P w = .ok (fidx ag cs l k 0) w := by
  simp [Instr.findKey, underlying, program, bind, Sem.bind, Sem.run, hk, findNow_eq l es k 0 he, pure]
theorem run_checkInt {P : Program} {w : World} {kt : TypeId} {e : Bool} {n : Nat} (hk : P.underlying kt = some (.int .i64)) (k : Int) : (Instr.checkKey e (n + 1) kt (.int .i64 k)).run P w = .ok () w := by
  simp [Instr.checkKey, underlying, program, bind, Sem.bind, Sem.run, hk, pure]
theorem lk_run {P : Program} {w : World} {r : Nat} {t kt et : TypeId} {ag : Bool} {cs : List CK} {l : List (Int × Tvs cs)} (hm : MapT w r ag cs l) (ht : P.underlying t = some (.map kt et)) (hk : P.underlying kt = some (.int .i64)) {z : Tvs cs} (hz : ∀ w, (zeroValue et).run P w = .ok (enc1 ag cs z) w) (k : Int) (ok : Bool) :
    (Instr.lookup t (.map (some r)) (.int .i64 k) ok).run P w = .ok (if ok = true then .tuple #[enc1 ag cs ((mget l k).getD z), .bool (mget l k).isSome] else enc1 ag cs ((mget l k).getD z)) w := by
  obtain ⟨es, c, hb, he⟩ := hm
  have hf := run_find (P := P) (w := w) hk he k
  have hg := fidx_get (ag := ag) l k 0
  have hc : ∀ e, (Instr.checkKey e 10000 kt (.int .i64 k)).run P w = .ok () w := fun e => run_checkInt hk k
  have h1 : (getObj r).run P w = .ok (.map es.toArray c) w := by simp [getObj, Sem.run, hb]
  cases h0 : fidx ag cs l k 0 with
  | none =>
    rw [h0] at hf hg
    have hm0 : mget l k = none := by cases h : mget l k; rfl; rw [h] at hg; cases hg
    rw [hm0]
    cases ok <;> simp [Instr.lookup, Sem.run_bind, und_run ht, h1, hc, hf, hz, Result.andThen, pure, Sem.run]
  | some x =>
    obtain ⟨j, u⟩ := x
    rw [h0] at hf hg
    obtain ⟨y, hy, hu⟩ : ∃ y, mget l k = some y ∧ u = enc1 ag cs y := by
      cases h : mget l k with
      | none => rw [h] at hg; cases hg
      | some y => rw [h] at hg; injection hg with hg; exact ⟨y, rfl, hg⟩
    rw [hy]
    cases ok <;> simp [Instr.lookup, Sem.run_bind, und_run ht, h1, hc, hf, hz, hu, Result.andThen, pure, Sem.run]
theorem lkO_by {P : Program} {w : World} {r : Nat} {t kt et : TypeId} {ag : Bool} {cs : List CK} {l : List (Int × Tvs cs)} (hm : MapT w r ag cs l) (ht : P.underlying t = some (.map kt et)) (hk : P.underlying kt = some (.int .i64)) {z : Tvs cs} (hz : ∀ w, (zeroValue et).run P w = .ok (enc1 ag cs z) w) {k : Int}
    {K : Tvs cs → Bool → Prop} (h : K ((mget l k).getD z) (mget l k).isSome) : lkO P t (.map (some r)) (.int .i64 k) w ag cs K :=
  ⟨_, _, lk_run hm ht hk hz k true, h⟩
theorem lkP_by {P : Program} {w : World} {r : Nat} {t kt et : TypeId} {ag : Bool} {cs : List CK} {l : List (Int × Tvs cs)} (hm : MapT w r ag cs l) (ht : P.underlying t = some (.map kt et)) (hk : P.underlying kt = some (.int .i64)) {z : Tvs cs} (hz : ∀ w, (zeroValue et).run P w = .ok (enc1 ag cs z) w) {k : Int}
    {K : Tvs cs → Prop} (h : K ((mget l k).getD z)) : lkP P t (.map (some r)) (.int .i64 k) w ag cs K :=
  ⟨_, lk_run hm ht hk hz k false, h⟩
theorem muK_by {P : Program} {w : World} {r : Nat} {t kt et : TypeId} {ag : Bool} {cs : List CK} {l : List (Int × Tvs cs)} (hm : MapT w r ag cs l) (ht : P.underlying t = some (.map kt et)) (hk : P.underlying kt = some (.int .i64)) {k : Int} {v : Tvs cs}
    {K : World → Prop} (h : ∀ w', MapT w' r ag cs (mset l k v) → Upd (fun b => b = r) w w' → K w') : muK P t (.map (some r)) (.int .i64 k) (enc1 ag cs v) w K := by
  have hlt := hm.lt
  obtain ⟨es, c, hb, he⟩ := hm
  have hf := run_find (P := P) (w := w) hk he k
  have hc : (Instr.checkKey false 10000 kt (.int .i64 k)).run P w = .ok () w := run_checkInt hk k
  have h1 : (getObj r).run P w = .ok (.map es.toArray c) w := by simp [getObj, Sem.run, hb]
  have hs : ∀ o : Obj, (setObj r o).run P w = .ok () (w.putObj r o) := fun o => by simp [setObj, Sem.run, hb, World.putObj]
  have hu : ∀ o : Obj, Upd (fun b => b = r) w (w.putObj r o) := fun o => ⟨rfl, rfl, rfl, by simp [World.putObj], fun j hj hn => World.putObj_heap_other hn⟩
  have hgot : ∀ o : Obj, (w.putObj r o).heap[r]? = some o := fun o => World.putObj_heap_same hlt
  have key : ∃ o, (Instr.mapUpdate t (.map (some r)) (.int .i64 k) (enc1 ag cs v)).run P w = .ok () (w.putObj r o) ∧ MapT (w.putObj r o) r ag cs (mset l k v) := by
    unfold Instr.mapUpdate
    cases h0 : fidx ag cs l k 0 with
    | none =>
      rw [h0] at hf
      refine ⟨.map (es ++ [({ key := .int .i64 k, val := enc1 ag cs v, born := c } : MapEntry)]).toArray (c + 1), ?_, es ++ [({ key := .int .i64 k, val := enc1 ag cs v, born := c } : MapEntry)], c + 1, hgot _, ?_⟩
      · refine (run_bind _ _ w (und_run ht w)).trans ?_
        simp only
        refine (run_bind _ _ w h1).trans ?_
        simp only
        refine (run_bind _ _ w hc).trans ?_
        refine (run_bind _ _ w hf).trans ?_
        simp only [List.push_toArray]
        exact hs _
      · rw [fidx_none l k 0 v h0, List.map_append, List.map_append, he]; rfl
    | some x =>
      obtain ⟨j, u⟩ := x
      rw [h0] at hf
      obtain ⟨m, x, hj, hm, hset⟩ := fidx_some l k 0 j u v h0
      rw [Nat.zero_add] at hj
      subst hj
      have hem : (es.map fun e => (e.key, e.val))[j]? = some (Value.int .i64 k, enc1 ag cs x) := by rw [he, List.getElem?_map, hm]; rfl
      rw [List.getElem?_map] at hem
      obtain ⟨e0, he0, hkv⟩ := Option.map_eq_some_iff.1 hem
      injection hkv with hk0 hv0
      refine ⟨.map (es.modify j fun (e : MapEntry) => ({ e with key := .int .i64 k, val := enc1 ag cs v } : MapEntry)).toArray c, ?_, _, c, hgot _, ?_⟩
      · refine (run_bind _ _ w (und_run ht w)).trans ?_
        simp only
        refine (run_bind _ _ w h1).trans ?_
        simp only
        refine (run_bind _ _ w hc).trans ?_
        refine (run_bind _ _ w hf).trans ?_
        simp only [List.getElem?_toArray, he0, Option.map_some, Option.getD_some, hk0]
        have hstay : (Instr.keyThatStays (.int .i64 k) (.int .i64 k)).run P w = .ok (.int .i64 k) w := by
          simp [Instr.keyThatStays, Instr.sameBits, pure, Sem.run]
        refine (run_bind _ _ w hstay).trans ?_
        rw [List.modify_toArray]
        exact hs _
      · rw [hset]
        apply List.ext_getElem?
        intro i
        rw [List.getElem?_map, List.getElem?_map, List.getElem?_modify, List.getElem?_set]
        have hi := congrArg (·[i]?) he
        simp only [List.getElem?_map] at hi
        by_cases hij : j = i
        · subst hij
          rw [if_pos rfl, if_pos (List.getElem?_eq_some_iff.1 hm).1, he0]
          simp
        · rw [if_neg hij, ← hi]
          simp [hij]
  obtain ⟨o, hr, hM⟩ := key
  unfold muK
  rw [hr]
  exact h _ hM (hu o)
end Go.Eng
/- The engine, part X: cells of any kind, read and written by their place in a block. Conditions: none. -/
namespace Go.Eng
open Go
set_option linter.unusedVariables false
set_option linter.unusedSimpArgs false

theorem Blk.c0 {w : World} {b : Nat} {cs : List Value} (h : Blk w b cs) {c : CK} {x : Tv c} (e : cs[0]? = some (enc c x)) {k : Tv c → Prop} (hk : k x) : ld1 c ⟨b, 0, none⟩ w k := by
  rw [h.ld (c := c) e (dec_enc' c x)]; exact hk
theorem Blk.c1 {w : World} {b : Nat} {cs : List Value} (h : Blk w b cs) (o : Nat) {c : CK} {x : Tv c} (e : cs[o]? = some (enc c x)) {k : Tv c → Prop} (hk : k x) : ld1 c (Addr.add ⟨b, 0, none⟩ o) w k := by
  rw [add_eq, Nat.zero_add, h.ld (c := c) e (dec_enc' c x)]; exact hk
theorem Blk.c2 {w : World} {b : Nat} {cs : List Value} (h : Blk w b cs) (o p : Nat) {c : CK} {x : Tv c} (e : cs[o + p]? = some (enc c x)) {k : Tv c → Prop} (hk : k x) : ld1 c (Addr.add (Addr.add ⟨b, 0, none⟩ o) p) w k := by
  rw [add_add]; exact h.c1 (o + p) e hk
/-- some cells of a block -/
theorem Blk.cN {w : World} {b : Nat} {vs : List Value} (h : Blk w b vs) (o : Nat) {cs : List CK} (x : Tvs cs) (e : (vs.drop o).take cs.length = encs cs x) {k : Tvs cs → Prop} (hk : k x) : ldN cs (Addr.add ⟨b, 0, none⟩ o) 0 w k := by
  refine ldN_of cs x _ 0 k (fun j v hj => ?_) dec_enc' hk
  rw [add_add, add_eq, Nat.zero_add, Nat.zero_add, h.cell]
  rw [← e, List.getElem?_take] at hj
  split at hj
  · rwa [List.getElem?_drop] at hj
  · cases hj
theorem Blk.cA {w : World} {b : Nat} {vs : List Value} (h : Blk w b vs) {cs : List CK} (x : Tvs cs) (e : vs = encs cs x) {k : Tvs cs → Prop} (hk : k x) : ldN cs ⟨b, 0, none⟩ 0 w k :=
  h.cN 0 x (by rw [List.drop_zero, e, ← encs_length cs x, List.take_length]) hk
/-- some cells of a block written -/
theorem Blk.sN {b : Nat} {k : World → Prop} (o : Nat) (vs : List Value) {w : World} {cs : List Value} (h : Blk w b cs) (hi : o + vs.length ≤ cs.length) (hv : vs.all okc = true)
    (hk : ∀ w', Blk w' b (splice cs o vs) → Upd (fun x => x = b) w w' → k w') : stN vs (Addr.add ⟨b, 0, none⟩ o) 0 w k := by
  rw [add_eq, Nat.zero_add]
  exact h.st vs (by omega) hv hk
theorem Blk.sN0 {b : Nat} {k : World → Prop} (vs : List Value) {w : World} {cs : List Value} (h : Blk w b cs) (hi : vs.length ≤ cs.length) (hv : vs.all okc = true)
    (hk : ∀ w', Blk w' b (splice cs 0 vs) → Upd (fun x => x = b) w w' → k w') : stN vs ⟨b, 0, none⟩ 0 w k :=
  h.st vs (by omega) hv hk
end Go.Eng
