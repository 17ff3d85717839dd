/- Rows of strings, a map of two strings; the reader of leaps (leap.reader): date, plain, fail, first, leap, last, read. Conditions: none. -/
import Derived.Test.YtfbegkddkdenbaaGreatDoorLcS
import Derived.Test.YtfbegkddkdenbaaGreatDoorEngD
import Derived.Test.YtfbegkddkdenbaaGreatDoorCrune
namespace Go.Proofs.YtfbegkddkdenbaaGreatDoor
open Go.Eng Go
set_option linter.unusedVariables false
set_option linter.unusedSimpArgs false

theorem brS {a b : Bs} {A B : Prop} (h1 : a = b → A) (h2 : a ≠ b → B) : brB (ofL a == ofL b) A B := by
  by_cases h : a = b
  · subst h; rw [(ba_beq_iff _ _).2 rfl]; exact h1 rfl
  · rw [show (ofL a == ofL b) = false from Bool.eq_false_iff.2 fun e => h (ofL_inj ((ba_beq_iff _ _).1 e))]; exact h2 h
theorem beqS (a b : Bs) : (ofL a == ofL b) = decide (a = b) := bq ⟨fun e => ofL_inj ((ba_beq_iff _ _).1 e), fun e => by rw [e]; exact (ba_beq_iff _ _).2 rfl⟩
/-! ### a map of strings -/
def MapS (w : World) (r : Nat) (l : List (Bs × Int)) : Prop := ∃ es c, w.heap[r]? = some (.map es c) ∧ es.toList.map (fun e => (e.key, e.val)) = l.map fun p => (Value.string (ofL p.1), Value.int .i64 p.2)
theorem MapS.lt {w : World} {r : Nat} {l : List (Bs × Int)} (h : MapS w r l) : r < w.heap.size := by obtain ⟨_, _, h, _⟩ := h; exact (Array.getElem?_eq_some_iff.1 h).1
theorem MapS.upd {S : Nat → Prop} {w w' : World} {r : Nat} {l : List (Bs × Int)} (h : MapS w r l) (u : Upd S w w') (hS : ¬ S r) : MapS w' r l := by
  obtain ⟨es, c, h1, h2⟩ := h
  exact ⟨es, c, by rw [u.block r (Array.getElem?_eq_some_iff.1 h1).1 hS]; exact h1, h2⟩
def sidx : List (Bs × Int) → Bs → Nat → Option (Nat × Value)
  | [], _, _ => none
  | p :: l, k, i => if k = p.1 then some (i, .int .i64 p.2) else sidx l k (i + 1)
def sget : List (Bs × Int) → Bs → Int
  | [], _ => 0
  | p :: l, k => if k = p.1 then p.2 else sget l k
theorem findS : ∀ (es : List MapEntry) (l : List (Bs × Int)) (k : Bs) (i : Nat), es.map (fun e => (e.key, e.val)) = l.map (fun p => (Value.string (ofL p.1), Value.int .i64 p.2)) → Instr.findNow .string (.string (ofL k)) es i = some (sidx l k i)
  | [], [], k, i, _ => rfl
  | [], p :: l, k, i, h => by simp at h
  | e :: es, [], k, i, h => by simp at h
  | e :: es, p :: l, k, i, h => by
    simp only [List.map_cons, List.cons.injEq, Prod.mk.injEq] at h
    obtain ⟨⟨h1, h2⟩, h3⟩ := h
    unfold Instr.findNow sidx
    rw [h1]
    simp only [Instr.sameNow, beqS]
    by_cases hk : k = p.1
    · rw [decide_eq_true hk, if_pos hk, h2]
    · rw [decide_eq_false hk, if_neg hk]
      exact findS es l k (i + 1) h3
theorem sidx_get : ∀ (l : List (Bs × Int)) (k : Bs) (i : Nat), (match sidx l k i with | some (_, v) => v | none => Value.int .i64 0) = .int .i64 (sget l k)
  | [], k, i => rfl
  | p :: l, k, i => by
    unfold sidx sget
    by_cases h : k = p.1
    · rw [if_pos h, if_pos h]
    · rw [if_neg h, if_neg h]; exact sidx_get l k (i + 1)
theorem mkS_by {P : Program} {t : TypeId} {w : World} {k : Nat → World → Prop} (h : ∀ r w', w.heap.size = r → MapS w' r [] → Gro w w' → k r w') : maK P t w k := by
  unfold maK
  rw [show (Instr.makeMap t none).run P w = .ok (.map (some w.heap.size)) (w.alloc (.map #[] 0)) from rfl]
  refine h _ _ rfl ⟨#[], 0, ?_, rfl⟩ ((Gro.refl w).alloc _)
  show (w.heap.push _)[w.heap.size]? = _
  rw [Array.getElem?_push, if_pos rfl]
theorem run_findS {P : Program} {w : World} {kt : TypeId} {l : List (Bs × Int)} (hk : P.underlying kt = some .string) {es : List MapEntry} (he : es.map (fun e => (e.key, e.val)) = l.map (fun p => (Value.string (ofL p.1), Value.int .i64 p.2))) (k : Bs) :
    (Instr.findKey kt (.string (ofL k)) es).run P w = .ok (sidx l k 0) w := by
  simp [Instr.findKey, underlying, program, bind, Sem.bind, Sem.run, hk, findS es l k 0 he, pure]
theorem run_checkS {P : Program} {w : World} {kt : TypeId} {e : Bool} {n : Nat} (hk : P.underlying kt = some .string) (k : ByteArray) : (Instr.checkKey e (n + 1) kt (.string k)).run P w = .ok () w := by
  simp [Instr.checkKey, underlying, program, bind, Sem.bind, Sem.run, hk, pure]
theorem lkS_by {P : Program} {w : World} {r : Nat} {t kt et : TypeId} {l : List (Bs × Int)} (hm : MapS w r l) (ht : P.underlying t = some (.map kt et)) (hk : P.underlying kt = some .string) (hz : ∀ w, (zeroValue et).run P w = .ok (.int .i64 0) w) {k : Bs}
    {K : Tvs [.i .i64] → Prop} (h : K (sget l k, ())) : lkP P t (.map (some r)) (.string (ofL k)) w false [.i .i64] K := by
  refine ⟨(sget l k, ()), ?_, h⟩
  obtain ⟨es, c, hb, he⟩ := hm
  have hf := run_findS (P := P) (w := w) hk he k
  have hg := sidx_get l k 0
  have hc : ∀ e, (Instr.checkKey e 10000 kt (.string (ofL k))).run P w = .ok () w := fun e => run_checkS hk _
  have h1 : (getObj r).run P w = .ok (.map es c) w := by simp [getObj, Sem.run, hb]
  show _ = Result.ok (Value.int .i64 (sget l k)) w
  rw [← hg]
  cases h0 : sidx l k 0 with
  | none =>
    rw [h0] at hf
    simp [Instr.lookup, Sem.run_bind, und_run ht, h1, hc, hf, hz, Result.andThen, pure, Sem.run]
  | some x =>
    obtain ⟨j, u⟩ := x
    rw [h0] at hf
    simp [Instr.lookup, Sem.run_bind, und_run ht, h1, hc, hf, Result.andThen, pure, Sem.run]
theorem sidx_new : ∀ {l : List (Bs × Int)} {k : Bs} {i : Nat}, (∀ p ∈ l, p.1 ≠ k) → sidx l k i = none
  | [], _, _, _ => rfl
  | p :: l, k, i, h => by unfold sidx; rw [if_neg fun e => h p (by simp) e.symm]; exact sidx_new fun q hq => h q (by simp [hq])
theorem muS_by {P : Program} {w : World} {r : Nat} {t kt et : TypeId} {l : List (Bs × Int)} (hm : MapS w r l) (ht : P.underlying t = some (.map kt et)) (hk : P.underlying kt = some .string) {k : Bs} {v : Int} (hn : ∀ p ∈ l, p.1 ≠ k)
    {K : World → Prop} (h : ∀ w', MapS w' r (l ++ [(k, v)]) → Upd (fun b => b = r) w w' → K w') : muK P t (.map (some r)) (.string (ofL k)) (.int .i64 v) w K := by
  have hlt := hm.lt
  obtain ⟨es, c, hb, he⟩ := hm
  have hf := run_findS (P := P) (w := w) hk he k
  rw [sidx_new hn] at hf
  have hc : (Instr.checkKey false 10000 kt (.string (ofL k))).run P w = .ok () w := run_checkS hk _
  have h1 : (getObj r).run P w = .ok (.map es c) w := by simp [getObj, Sem.run, hb]
  have hs : ∀ o : Obj, (setObj r o).run P w = .ok () (w.putObj r o) := fun o => by simp [setObj, Sem.run, hb, World.putObj]
  have hu : ∀ o : Obj, Upd (fun b => b = r) w (w.putObj r o) := fun o => ⟨rfl, rfl, rfl, by simp [World.putObj], fun j hj hn => World.putObj_heap_other hn⟩
  have hgot : ∀ o : Obj, (w.putObj r o).heap[r]? = some o := fun o => World.putObj_heap_same hlt
  unfold muK
  have key : (Instr.mapUpdate t (.map (some r)) (.string (ofL k)) (.int .i64 v)).run P w = .ok () (w.putObj r (.map (es.push { key := .string (ofL k), val := .int .i64 v, born := c }) (c + 1))) := by
    unfold Instr.mapUpdate
    refine (run_bind _ _ w (und_run ht w)).trans ?_
    simp only
    refine (run_bind _ _ w h1).trans ?_
    simp only
    refine (run_bind _ _ w hc).trans ?_
    refine (run_bind _ _ w hf).trans ?_
    simp only
    exact hs _
  rw [key]
  refine h _ ⟨_, _, hgot _, ?_⟩ (hu _)
  rw [Array.toList_push, List.map_append, List.map_append, he]; rfl
/-! ### a reader -/
theorem okL_one (ls : L2) : ∀ u ∈ (ls.map t2).flatMap (encs K2), u.oneCell' = true := by
  intro u hu
  obtain ⟨x, _, hu⟩ := List.mem_flatMap.1 hu
  simp only [encs, enc, List.mem_cons, List.not_mem_nil, or_false] at hu
  rcases hu with rfl | rfl <;> rfl
/-- leaps in a row of one's own, of type e -/
abbrev OwnE (e : TypeId) (w : World) (base : Nat) (s : Sl) (ls : L2) : Prop := OwnR w base e 2 s ls.length ((ls.map t2).flatMap (encs K2))
theorem OwnE.rows {e : TypeId} {w : World} {base : Nat} {s : Sl} {ls : L2} (h : OwnE e w base s ls) : RowsP w s ls := OwnR.row h
abbrev cR (i : Int) (r : RS) (s : Sl) : List Value := [.int .i64 i, .int .i64 r.q, .int .i64 r.t.st, .int .i64 r.t.ah, .int .i64 r.t.en, .slice s.1 s.2.1 s.2.2]
def RdW (w : World) (b base : Nat) (i : Int) (r : RS) : Prop := ∃ s : Sl, Blk w b (cR i r s) ∧ OwnE T.leap_Leap w base s r.t.ls
theorem RdW.lt {w : World} {b base : Nat} {i : Int} {r : RS} (h : RdW w b base i r) : b < w.heap.size := by obtain ⟨s, h, _⟩ := h; exact h.lt
theorem RdW.gro {w w' : World} {b base : Nat} {i : Int} {r : RS} (h : RdW w b base i r) (u : Gro w w') : RdW w' b base i r := by obtain ⟨s, h1, h2⟩ := h; exact ⟨s, h1.gro u, OwnR.gro h2 u⟩
/-- what reading may write -/
abbrev Fr (b base : Nat) (w w' : World) : Prop := Upd (fun x => x = b ∨ base ≤ x) w w'
theorem Fr.gro {b base : Nat} {w w' : World} (h : Gro w w') : Fr b base w w' := Upd.of_gro h
theorem Fr.trans' {b base : Nat} {u v w : World} (h : Fr b base u v) (k : Fr b base v w) : Fr b base u w := Upd.trans h k fun _ _ x => x
theorem Fr.blk {b base : Nat} {w w' : World} (h : Upd (fun x => x = b) w w') : Fr b base w w' := h.mono fun _ x => .inl x
abbrev flt (e i : Int) : Value := .iface T.leap_fault (.agg #[.int .i64 e, .int .i64 i])
theorem leap_reader_fail.cl {w : World} {b : Nat} {i e : Int} {cs : List Value} (hB : Blk w b (.int .i64 i :: cs)) {R : TR [] → World → Prop} {Z : Value → World → Prop} (h : Z (flt e i) w) :
    clE Tryz.prog F.leap_reader_fail [.pointer (some ⟨b, 0, none⟩), .int .i64 e] w true [] R Z := by
  refine leap_reader_fail.ok ?_
  unfold leap_reader_fail.wp
  rw [ncK_eq]
  exact hB.i0 rfl h
set_option maxRecDepth 20000 in
theorem leap_reader_date.cl {w : World} {b : Nat} {i : Int} {cs : List Value} (hB : Blk w b (.int .i64 i :: cs)) {l : Bs} {R : TR RI1 → World → Prop} {Z : Value → World → Prop}
    (h0 : dayW l = none → ∀ w', Gro w w' → Z (flt 3 i) w') (h1 : ∀ n, dayW l = some n → ∀ w', Gro w w' → R ((n, ()), ()) w') :
    clE Tryz.prog F.leap_reader_date [.pointer (some ⟨b, 0, none⟩), .string (ofL l)] w false RI1 R Z := by
  refine leap_reader_date.ok ?_
  unfold leap_reader_date.wp
  have lb := hB.lt
  refine civil_Parse.cl (fun hn w2 u2 => ?_) fun d hd w2 u2 => ?_
  · refine alK_by fun p3 w4 e3 k3 u4 => k3.sta _ rfl rfl fun w5 k5 u5 => ?_
    have g5 : Gro w w5 := (u2.trans (Gro.fresh (Gro.refl _) u4 u5 e3))
    refine CutT.by (fun _ _ => False) ?_ (fun _ _ h => h.elim)
    refine brT rfl (leap_reader_fail.cl (hB.gro g5) (h0 ?_ w5 g5))
    unfold dayW; rw [hn]
  · refine alK_by fun p3 w4 e3 k3 u4 => k3.sta _ rfl rfl fun w5 k5 u5 => ?_
    have g5 : Gro w w5 := (u2.trans (Gro.fresh (Gro.refl _) u4 u5 e3))
    refine CutT.by (fun _ W => W = w5) (brF rfl rfl) ?_
    rintro _ _ rfl _
    have hg := prsD_good hd
    refine Blk.ld3 k5 (civil_Date_Number.cl (d := d) (fun c => absurd (show goodDb d = true from decide_eq_true hg) (by rw [c]; simp)) fun _ w15 u15 => ?_)
    exact h1 _ (by unfold dayW; rw [hd]) w15 (g5.trans u15)
theorem not_plain {l : Bs} {i : Nat} {c : UInt8} (hc : l[i]? = some c) (hn : ¬ isDg c) : ¬ plainL l := fun h => hn (h.2 c (List.mem_of_getElem? hc))
def posI (l : Bs) (r : Nat) (W : World) : Nat := match W.heap[r]? with | some (.stringIter _ pos) => l.length - pos | _ => 0
theorem posI_eq {l : Bs} {r i : Nat} {W : World} (h : Itr W r l i) : posI l r W = l.length - i := by unfold Itr at h; unfold posI; rw [h]
theorem leap_plain.cl {l : Bs} {w : World} {k : TR RB1 → World → Prop} (h : ∀ w', Gro w w' → k ((decide (plainL l), ()), ()) w') : clS Tryz.prog F.leap_plain [.string (ofL l)] w false RB1 k := by
  refine leap_plain.ok ?_
  unfold leap_plain.wp
  refine rgK_by fun r w2 er hI u2 => ?_
  have s2 := hI.lt
  have no : ¬ plainL l → ∀ {w'}, Gro w w' → k ((false, ()), ()) w' := fun hn w' g => by
    have := h w' g; rw [decide_eq_false hn] at this; exact this
  refine ⟨fun _ W => ∃ i, i ≤ l.length ∧ Itr W r l i ∧ Gro w W ∧ ∀ c ∈ l.take i, isDg c, fun _ W => posI l r W, ⟨0, by omega, hI, u2, by simp⟩, ?_⟩
  rintro _ W ⟨i, hi, hIt, hG, hd⟩ _
  have hsz := hIt.lt
  refine nxK_by hIt (fun hend => ?_) (fun b w7 hb hlow hI7 u7 => ?_) fun b c w7 hb hhigh hc7 u7 => ?_
  · have hl : i = l.length := by omega
    subst hl
    rw [List.take_length] at hd
    rw [ofL_size]
    have key : ∀ {w'}, Gro w w' → ∀ {b : Bool}, (b = true ↔ plainL l) → k ((b, ()), ()) w' := fun {w'} g {b} hb => by
      have := h w' g; rw [← show b = decide (plainL l) from bq hb] at this; exact this
    refine brE (fun c => key hG ?_) fun c => brE (fun c2 => ?_) fun c2 => key hG ?_
    · have c : (l.length : Int) = 1 := c
      exact ⟨fun _ => ⟨.inl (by omega), hd⟩, fun _ => rfl⟩
    · have c2 : (l.length : Int) = 2 := c2
      have h0 : l[0]? = some (l[0]'(by omega)) := List.getElem?_eq_getElem _
      generalize l[0]'(by omega) = x at h0
      refine siK_by (i := 0) rfl h0 (key hG ?_)
      rw [bne_iff_ne]
      unfold plainL
      rw [h0]
      refine ⟨fun hne => ⟨.inr ⟨by omega, fun e => hne ?_⟩, hd⟩, fun hp e => ?_⟩
      · injection e with e; subst e; rfl
      · rcases hp.1 with hp | hp
        · omega
        · refine hp.2 ?_
          congr 1
          exact UInt8.toNat_inj.1 (by show x.toNat = 48; omega)
    · have c : (l.length : Int) ≠ 1 := c
      have c2 : (l.length : Int) ≠ 2 := c2
      refine ⟨(fun h => by cases h), fun hp => ?_⟩
      rcases hp.1 with hp | hp <;> omega
  · have G7 : Gro w w7 := Upd.trans hG u7 fun j hj h => by have := hI.lt; omega
    refine brD (fun c => no (not_plain hb fun hh => ?_) G7) fun c => brD (fun c2 => no (not_plain hb fun hh => ?_) G7) fun c2 => ?_
    · have c : (b.toNat : Int) < 48 := c
      unfold isDg at hh; omega
    · have c2 : (b.toNat : Int) > 57 := c2
      unfold isDg at hh; omega
    · have c : ¬ (b.toNat : Int) < 48 := c
      have c2 : ¬ (b.toNat : Int) > 57 := c2
      have hlt := (List.getElem?_eq_some_iff.1 hb).1
      refine ⟨⟨i + 1, by omega, hI7, G7, fun x hx => ?_⟩, ?_⟩
      · rw [List.take_add_one, hb] at hx
        rcases List.mem_append.1 hx with hx | hx
        · exact hd x hx
        · simp at hx; subst hx; unfold isDg; omega
      · show posI l r w7 < posI l r W
        rw [posI_eq hI7, posI_eq hIt]; omega
  · have G7 : Gro w w7 := Upd.trans hG u7 fun j hj h => by have := hI.lt; omega
    have hno : ¬ isDg b := by unfold isDg; omega
    exact brD (fun cx => absurd (show c < 48 from cx) (by omega)) fun _ => brD (fun _ => no (not_plain hb hno) G7) fun cx => absurd (show c > 57 by omega) cx
end Go.Proofs.YtfbegkddkdenbaaGreatDoor
