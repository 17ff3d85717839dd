/- Laws of layer 12: the table is alive; its entries rise. Conditions: none. -/
import Derived.Test.YtccnlakbplmhnaaCtabB
namespace Go.Proofs.Ytccnlakbplmhnaa
open Go.Eng Go
set_option linter.unusedVariables false
set_option linter.unusedSimpArgs false

/-- Add, where the table is private to what came behind w0. -/
theorem table_Table_Add.own {w0 w : World} {bt : Nat} {s : Sl} {es : List E3} {e : E3} (g : Gro w0 w) (hT : Tab w w0.heap.size bt s es) (hbt : w0.heap.size ≤ bt) {k : TR [(false, [.i .i64])] → World → Prop}
    (hk : ∀ s' w', Tab w' w0.heap.size bt s' (addL es e) → Gro w0 w' → Upd (fun z => z = bt ∨ ∃ a, s.1 = some a ∧ a.block = z) w w' →
      (∀ a, s'.1 = some a → (∃ a0, s.1 = some a0 ∧ a.block = a0.block) ∨ w.heap.size ≤ a.block) → k ((addN es e, ()), ()) w') :
    clS Try.prog F.table_Table_Add [.pointer (some ⟨bt, 0, none⟩), .agg #[.int .i64 e.1, .int .i64 e.2.1, .int .i64 e.2.2]] w false [(false, [.i .i64])] k :=
  table_Table_Add.cl hT g.size fun s' w' h1 h2 h3 => hk s' w' h1 (Upd.trans g h2 fun i hi h => by
    rcases h with h | ⟨a, ha, h⟩
    · omega
    · have := (hT.2.1.blk ha).1; omega) h2 h3
theorem Tab.new {w : World} {base bt : Nat} (k : Blk w bt [.slice none 0 0]) : Tab w base bt (none, 0, 0) [] := ⟨k, OwnR.nil _ _ _ _, by simp, fun a h => by cases h⟩
theorem Tab.len {w : World} {base bt : Nat} {s : Sl} {es : List E3} (h : Tab w base bt s es) : es.length ≤ 1000000000 := by have := h.2.2.1; omega

theorem law12_alive.cl {w : World} {k : TR [(false, [.b])] → World → Prop} (hk : ∀ w', Gro w w' → k ((true, ()), ()) w') : clS Try.prog F.law12_alive [] w false [(false, [.b])] k := by
  refine law12_alive.ok ?_
  unfold law12_alive.wp
  refine alK_by fun p1 w2 e1 k1 u1 => ?_
  refine table_Table_Add.own (e := (5, 7, 2)) u1 (Tab.new k1) (by omega) fun s4 w4 T4 g4 _ _ => ?_
  refine table_Table_Add.own (e := (5, 7, 2)) g4 T4 (by omega) fun s6 w6 T6 g6 _ _ => ?_
  have hL : addL (addL [] (5, 7, 2)) (5, 7, 2) = [(5, 7, 2)] := by decide
  rw [hL] at T6
  refine table_Table_Last.cl T6.tv T6.len (fun h => by cases h) fun l hl w8 u8 => ?_
  obtain rfl : (5, 7, 2) = l := by simpa using hl
  refine alK_by fun p9 w10 e9 k9 u9 => k9.sta _ rfl rfl fun w11 k11 u11 => brT rfl (brT rfl ?_)
  have g11 : Gro w w11 := Gro.fresh (g6.trans u8) u9 u11 e9
  have T11 := T6.gro (Gro.fresh u8 u9 u11 e9)
  refine table_Table_Len.cl T11.tv (brT rfl (brT rfl (k11.i1 1 rfl (brT rfl (table_Table_Hops.cl T11.tv T11.len fun w16 u16 => ?_)))))
  exact hk w16 (g11.trans u16)

def asc (es : List E3) : Prop := ∀ i a b, es[i]? = some a → es[i + 1]? = some b → a.1 < b.1
theorem asc_drop {es : List E3} (h : asc es) (n : Nat) : asc (es.drop n) := fun i a b ha hb => by
  rw [List.getElem?_drop] at ha hb
  exact h (n + i) a b ha hb
theorem asc_add {es : List E3} {e : E3} (h : asc es) : asc (addL es e) := by
  unfold addL
  split
  · exact h
  · rename_i hc
    refine asc_drop (fun i a b ha hb => ?_) _
    by_cases h1 : i + 1 < es.length
    · rw [List.getElem?_append_left (by omega)] at ha
      rw [List.getElem?_append_left h1] at hb
      exact h i a b ha hb
    · have h2 : i + 1 < (es ++ [e]).length := (List.getElem?_eq_some_iff.1 hb).1
      rw [List.length_append, List.length_singleton] at h2
      have hi : i + 1 = es.length := by omega
      rw [List.getElem?_append_left (by omega)] at ha
      rw [List.getElem?_append_right (by omega), hi, Nat.sub_self] at hb
      obtain rfl : e = b := by simpa using hb
      have hl : es.getLast? = some a := by rw [List.getLast?_eq_getElem?, ← ha]; congr 1; omega
      have ho : tooOld es e = false := by
        cases ht : tooOld es e
        · rfl
        · exact absurd (.inr ht) hc
      rw [tooOld_some hl] at ho
      have := of_decide_eq_false ho
      omega
theorem add_last {es : List E3} {e : E3} (h : addN es e = 0) : (addL es e).getLast? = some e := by
  have hc : ¬ (goodB e = false ∨ tooOld es e = true) := by
    unfold addN at h
    split at h
    · cases h
    · rename_i h1
      split at h
      · cases h
      · rename_i h2
        rintro (h | h)
        · exact h1 h
        · exact h2 h
  unfold addL
  rw [if_neg hc, List.getLast?_drop, List.length_append, List.length_singleton, if_neg (by omega), List.getLast?_concat]

theorem law12_TableRises.cl {w : World} {s : Sl} {es : List E3} (hE : Ents w s es) : clS Try.prog F.law12_TableRises [.slice s.1 s.2.1 s.2.2] w false [(false, [.b])] (Holds w) := by
  refine law12_TableRises.ok ?_
  unfold law12_TableRises.wp
  refine law12_alive.cl fun w2 u2 => brF rfl ?_
  have hl := hE.len
  refine brD (fun c => holds u2 rfl) fun c1 => ?_
  have c1 : ¬ (s.2.1 : Int) > 100 := c1
  refine alK_by fun p3 w4 e3 k3 u4 => ?_
  have g4 := u2.trans u4
  refine LoopT.by (fun z w' => Gro w2 w' ∧ ∃ i : Nat, z = ((i : Int), ()) ∧ i ≤ es.length ∧ ∃ s' es', Tab w' w2.heap.size p3 s' es' ∧ asc es')
    (fun z => (1000 - z.1).toNat) ⟨u4, 0, rfl, by omega, _, _, Tab.new k3, fun i a b h => by cases h⟩ ?_
  rintro z w7 ⟨g, i, rfl, hi, s', es', hT, hA⟩ _
  refine brD (fun c => ?_) fun c => holds (u2.trans g) rfl
  have hi' : i < es.length := by have c : (i : Int) < (s.2.1 : Int) := c; omega
  have he : es[i]? = some es[i] := List.getElem?_eq_getElem hi'
  generalize es[i] = e at he
  have hE7 := hE.gro (u2.trans g)
  refine hE7.ix rfl he fun a ha => hE7.ldN ha he ?_
  refine alK_by fun p10 w11 e10 k10 u11 => k10.sta _ rfl rfl fun w12 k12 u12 => k12.ld3 ?_
  have f12 : Gro w7 w12 := Gro.fresh (Gro.refl _) u11 u12 e10
  refine table_Table_Add.own (g.trans f12) (hT.gro f12) (by omega) fun s15 w15 T15 g15 U15 _ => ?_
  have l10 := k10.lt
  have np : ¬ (p10 = p3 ∨ ∃ a, s'.1 = some a ∧ a.block = p10) := by
    rintro (h | ⟨a, ha, h⟩)
    · have := hT.1.lt; omega
    · have := (hT.2.1.blk ha).2.1; omega
  have k15 := k12.upd U15 np
  refine table_Table_List.cl T15.tv T15.len fun l w17 u17 ho => ?_
  have hL := ho.ents
  have hll := hL.len
  have k17 := (k15.gro u17).drew
  have h8 := T15.2.2.1
  have g17 : Gro w2 w17.drew := Upd.drew (g15.trans u17)
  have gw := u2.trans g17
  have hA' : asc (addL es' e) := asc_add hA
  refine CutT.by (fun _ w' => w' = w17.drew) ?_ ?_
  · rw [drK_eq]
    refine brD (fun c => absurd (show (l.2.1 : Int) > 8 from c) (by omega)) fun _ => brE (fun c => ?_) fun _ => rfl
    have hlast := add_last c
    have hne : 0 < (addL es' e).length := by
      rcases h : addL es' e with _ | ⟨x, xs⟩
      · rw [h] at hlast; cases hlast
      · simp
    refine brE (fun c => absurd (show (l.2.1 : Int) = 0 from c) (by omega)) fun _ => ?_
    rw [hll, len_pred hne (by omega)]
    have hg := last_get hlast
    refine (hll ▸ hL.drew.ix) rfl hg fun a ha => hL.drew.ldN ha hg (k17.ld3 (brF (by simp) rfl))
  · rintro _ _ rfl _
    refine LoopT.by (fun z w' => Gro w17.drew w' ∧ ∃ j : Nat, z = (((j + 1 : Nat) : Int), ())) (fun z => (1000 - z.1).toNat) ⟨Gro.refl _, 0, rfl⟩ ?_
    rintro z w27 ⟨g27, j, rfl⟩ _
    refine brD (fun c => ?_) fun c => ?_
    · have c : ((j + 1 : Nat) : Int) < (l.2.1 : Int) := c
      have hj : j + 1 < (addL es' e).length := by omega
      have hx : (addL es' e)[j]? = some (addL es' e)[j] := List.getElem?_eq_getElem (by omega)
      have hy : (addL es' e)[j + 1]? = some (addL es' e)[j + 1] := List.getElem?_eq_getElem hj
      generalize (addL es' e)[j] = x at hx
      generalize (addL es' e)[j + 1] = y at hy
      have hlt := hA' j x y hx hy
      rw [drK_eq]
      have hL2 := (hL.drew.gro g27).drew
      have ej : IntKind.wrap .i64 (((j + 1 : Nat) : Int) - 1) = (j : Int) := by rw [w64_in (by unfold I64; omega)]; omega
      show ixK l.1 l.2.1 (IntKind.wrap .i64 (((j + 1 : Nat) : Int) - 1)) _
      rw [ej]
      refine hL2.ix rfl hx fun a ha => hL2.f0 ha rfl hx (hL2.ix rfl hy fun a ha => hL2.f0 ha rfl hy (brD (fun c => absurd (show x.1 ≥ y.1 from c) (by omega)) fun _ => ⟨⟨g27.trans (Gro.drew _), j + 1, ?_⟩, ?_⟩))
      · show (IntKind.wrap .i64 (((j + 1 : Nat) : Int) + 1), ()) = _
        rw [len_succ (by omega)]
      · show (1000 - IntKind.wrap .i64 (((j + 1 : Nat) : Int) + 1)).toNat < (1000 - ((j + 1 : Nat) : Int)).toNat
        rw [len_succ (by omega)]; omega
    · refine ⟨⟨g17.trans g27, i + 1, ?_, by omega, s15, addL es' e, (T15.gro u17).gro ((Gro.drew _).trans g27), hA'⟩, ?_⟩
      · show (IntKind.wrap .i64 ((i : Int) + 1), ()) = _
        rw [len_succ (by omega)]
      · show (1000 - IntKind.wrap .i64 ((i : Int) + 1)).toNat < (1000 - (i : Int)).toNat
        rw [len_succ (by omega)]; omega
end Go.Proofs.Ytccnlakbplmhnaa
