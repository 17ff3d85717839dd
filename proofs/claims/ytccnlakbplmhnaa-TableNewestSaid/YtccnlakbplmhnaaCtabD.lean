/- Law of layer 12: what a table has hangs on the newest entries alone. Conditions: none. -/
import Derived.Test.YtccnlakbplmhnaaCtabC
namespace Go.Proofs.Ytccnlakbplmhnaa
open Go.Eng Go
set_option linter.unusedVariables false
set_option linter.unusedSimpArgs false

/-- two tables apart from each other -/
structure Two (w : World) (base pa pb : Nat) (sA sB : Sl) (esA esB : List E3) : Prop where
  A : Tab w base pa sA esA
  B : Tab w base pb sB esB
  ab : pa ≠ pb
  Ab : ∀ a, sA.1 = some a → a.block ≠ pb
  Ba : ∀ b, sB.1 = some b → b.block ≠ pa
  AB : ∀ a b, sA.1 = some a → sB.1 = some b → a.block ≠ b.block
theorem Two.symm {w : World} {base pa pb : Nat} {sA sB : Sl} {esA esB : List E3} (h : Two w base pa pb sA sB esA esB) : Two w base pb pa sB sA esB esA :=
  ⟨h.B, h.A, h.ab.symm, h.Ba, h.Ab, fun a b ha hb => (h.AB b a hb ha).symm⟩
theorem Two.gro {w w' : World} {base pa pb : Nat} {sA sB : Sl} {esA esB : List E3} (h : Two w base pa pb sA sB esA esB) (u : Gro w w') : Two w' base pa pb sA sB esA esB :=
  ⟨h.A.gro u, h.B.gro u, h.ab, h.Ab, h.Ba, h.AB⟩
theorem Two.add {w0 w : World} {pa pb : Nat} {sA sB : Sl} {esA esB : List E3} {e : E3} (g : Gro w0 w) (h : Two w w0.heap.size pa pb sA sB esA esB) (hp : w0.heap.size ≤ pa) {k : TR [(false, [.i .i64])] → World → Prop}
    (hk : ∀ s' w', Two w' w0.heap.size pa pb s' sB (addL esA e) esB → Gro w0 w' → Upd (fun z => z = pa ∨ ∃ a, sA.1 = some a ∧ a.block = z) w w' → k ((addN esA e, ()), ()) w') :
    clS Try.prog F.table_Table_Add [.pointer (some ⟨pa, 0, none⟩), .agg #[.int .i64 e.1, .int .i64 e.2.1, .int .i64 e.2.2]] w false [(false, [.i .i64])] k := by
  refine table_Table_Add.own g h.A hp fun s' w' T g' u f => hk s' w' ⟨T, h.B.upd u ?_ ?_, h.ab, ?_, h.Ba, ?_⟩ g' u
  · rintro (e | ⟨a, ha, e⟩)
    · exact h.ab e.symm
    · exact h.Ab a ha e
  · rintro b hb (e | ⟨a, ha, e⟩)
    · exact h.Ba b hb e
    · exact h.AB a b ha hb e
  · intro a ha
    rcases f a ha with ⟨a0, h0, h1⟩ | h1
    · rw [h1]; exact h.Ab a0 h0
    · have := h.B.1.lt; omega
  · intro a b ha hb
    rcases f a ha with ⟨a0, h0, h1⟩ | h1
    · rw [h1]; exact h.AB a0 b h0 hb
    · have := (h.B.2.1.blk hb).2.1; omega

theorem addN_ne {es : List E3} {e : E3} (h : addN es e ≠ 0) : addL es e = es := by
  unfold addN at h
  unfold addL
  split at h
  · rename_i h1; rw [if_pos (.inl h1)]
  · split at h
    · rename_i h1; rw [if_pos (.inr h1)]
    · exact absurd rfl h
theorem addN_0 {es : List E3} {e : E3} (h : addN es e = 0) : goodB e = true ∧ tooOld es e = false ∧ addL es e = (es ++ [e]).drop (es.length + 1 - 8) := by
  unfold addN at h
  split at h
  · cases h
  · rename_i h1
    split at h
    · cases h
    · rename_i h2
      have h1' : goodB e = true := by cases hh : goodB e; exact absurd hh h1; rfl
      have h2' : tooOld es e = false := by cases hh : tooOld es e; rfl; exact absurd hh h2
      refine ⟨h1', h2', ?_⟩
      unfold addL
      rw [if_neg (by rw [h1', h2']; simp)]
theorem addN_suf {t es : List E3} {e : E3} (h : addN (t ++ es) e = 0) : addN es e = 0 := by
  obtain ⟨h1, h2, _⟩ := addN_0 h
  have h3 : tooOld es e = false := by
    rcases h0 : es.getLast? with _ | l
    · unfold tooOld; rw [h0]
    · rw [tooOld_some h0, ← tooOld_some (es := t ++ es) (by rw [List.getLast?_append, h0]; rfl)]; exact h2
  unfold addN
  rw [if_neg (by rw [h1]; simp), if_neg (by rw [h3]; simp)]
theorem suf_step {t es : List E3} {e : E3} (h : addN (t ++ es) e = 0) : ∃ t', addL (t ++ es) e = t' ++ addL es e := by
  obtain ⟨_, _, h1⟩ := addN_0 h
  obtain ⟨_, _, h2⟩ := addN_0 (addN_suf h)
  rw [h1, h2]
  refine ⟨(t ++ (es ++ [e]).take (es.length + 1 - 8)).drop ((t ++ es).length + 1 - 8), ?_⟩
  rw [List.append_assoc, ← List.drop_append_of_le_length, List.append_assoc, List.take_append_drop]
  rw [List.length_append, List.length_append, List.length_take, List.length_append, List.length_singleton]
  omega

theorem law12_TableNewest.cl {w : World} {s s2 : Sl} {es es2 : List E3} (hE : Ents w s es) (hE2 : Ents w s2 es2) :
    clS Try.prog F.law12_TableNewest [.slice s.1 s.2.1 s.2.2, .slice s2.1 s2.2.1 s2.2.2] w false [(false, [.b])] (Holds w) := by
  refine law12_TableNewest.ok ?_
  unfold law12_TableNewest.wp
  refine law12_alive.cl fun w2 u2 => brF rfl ?_
  have hl := hE.len
  have hl2 := hE2.len
  refine brD (fun c => holds u2 rfl) fun c1 => brD (fun c => holds u2 rfl) fun c2 => ?_
  have c1 : ¬ (s.2.1 : Int) > 100 := c1
  have c2 : ¬ (s2.2.1 : Int) > 100 := c2
  refine alK_by fun p3 w4 e3 k3 u4 => alK_by fun p5 w6 e5 k5 u6 => ?_
  have l3 := k3.lt
  have hp3 : w2.heap.size ≤ p3 := by omega
  have hp5 : w2.heap.size ≤ p5 := by have := u4.size; omega
  refine LoopT.by (fun z w' => Gro w2 w' ∧ ∃ i : Nat, z = ((i : Int), ()) ∧ i ≤ es.length ∧ ∃ sA esA, Two w' w2.heap.size p3 p5 sA (none, 0, 0) esA [])
    (fun z => (1000 - z.1).toNat) ⟨u4.trans u6, 0, rfl, by omega, _, _, Tab.new (k3.gro u6), Tab.new k5, by omega, (fun a h => by cases h), (fun a h => by cases h), fun a b h => by cases h⟩ ?_
  rintro z w9 ⟨g, i, rfl, hi, sA, esA, hT⟩ _
  refine brD (fun c => ?_) fun c => ?_
  · have hi' : i < es.length := by have c : (i : Int) < (s.2.1 : Int) := c; omega
    have he : es[i]? = some es[i] := List.getElem?_eq_getElem hi'
    generalize es[i] = e at he
    have hE7 := hE.gro (u2.trans g)
    refine hE7.ix rfl he fun a ha => hE7.ldN ha he ?_
    refine alK_by fun p10 w11 e10 k10 u11 => k10.sta _ rfl rfl fun w12 k12 u12 => k12.ld3 ?_
    have f12 : Gro w9 w12 := Gro.fresh (Gro.refl _) u11 u12 e10
    refine Two.add (g.trans f12) (hT.gro f12) hp3 fun s' w17 T17 g17 _ => ⟨⟨g17, i + 1, ?_, by omega, _, _, T17⟩, ?_⟩
    · show (IntKind.wrap .i64 ((i : Int) + 1), ()) = _
      rw [len_succ (by omega)]
    · show (1000 - IntKind.wrap .i64 ((i : Int) + 1)).toNat < (1000 - (i : Int)).toNat
      rw [len_succ (by omega)]; omega
  clear c hi
  refine LoopT.by (fun z w' => Gro w2 w' ∧ ∃ n i : Nat, z = ((n : Int), (i : Int), ()) ∧ n ≤ i ∧ i ≤ es2.length ∧ ∃ sA esA sB esB t, esA = t ++ esB ∧ esB.length = min n 8 ∧ Two w' w2.heap.size p3 p5 sA sB esA esB)
    (fun z => (1000 - z.2.1).toNat) ⟨g, 0, 0, rfl, by omega, by omega, _, esA, _, [], esA, by simp, rfl, hT⟩ ?_
  clear hT g
  rintro z w20 ⟨g, n, i, rfl, hni, hi, sA, esA, sB, esB, t, rfl, hlen, hT⟩ _
  refine brD (fun c => ?_) fun c => ?_
  · have hi' : i < es2.length := by have c : (i : Int) < (s2.2.1 : Int) := c; omega
    have he : es2[i]? = some es2[i] := List.getElem?_eq_getElem hi'
    generalize es2[i] = e at he
    have hE7 := hE2.gro (u2.trans g)
    refine hE7.ix (z := (i : Int)) rfl he fun a ha => hE7.ldN ha he ?_
    refine alK_by fun p10 w11 e10 k10 u11 => k10.sta _ rfl rfl fun w12 k12 u12 => k12.ld3 ?_
    have f12 : Gro w20 w12 := Gro.fresh (Gro.refl _) u11 u12 e10
    refine Two.add (g.trans f12) (hT.gro f12) hp3 fun s' w28 T28 g28 U28 => ?_
    have mes : (1000 - IntKind.wrap .i64 ((i : Int) + 1)).toNat < (1000 - (i : Int)).toNat := by rw [len_succ (by omega)]; omega
    refine brE (fun c => ?_) fun c => ?_
    · have c : addN (t ++ esB) e = 0 := c
      have k28 := k12.upd U28 (by
        rintro (h | ⟨a, ha, h⟩)
        · have := hT.A.1.lt; omega
        · have := (hT.A.2.1.blk ha).2.1; omega)
      obtain ⟨t', ht'⟩ := suf_step c
      refine k28.ld3 (Two.add g28 T28.symm hp5 fun s'' w31 T31 g31 _ => brF ?_ ⟨⟨g31, n + 1, i + 1, ?_, by omega, by omega, _, _, _, _, t', ht', ?_, T31.symm⟩, mes⟩)
      · show (addN esB e != 0) = false
        rw [addN_suf c]; rfl
      · show (IntKind.wrap .i64 ((n : Int) + 1), IntKind.wrap .i64 ((i : Int) + 1), ()) = _
        rw [len_succ (by omega), len_succ (by omega)]
      · rw [(addN_0 (addN_suf c)).2.2, List.length_drop, List.length_append, List.length_singleton]; omega
    · have c : addN (t ++ esB) e ≠ 0 := c
      rw [addN_ne c] at T28
      refine ⟨⟨g28, n, i + 1, ?_, by omega, by omega, _, _, _, _, t, rfl, hlen, T28⟩, mes⟩
      show ((n : Int), IntKind.wrap .i64 ((i : Int) + 1), ()) = _
      rw [len_succ (by omega)]
  refine brD (fun c => holds (u2.trans g) rfl) fun c8 => ?_
  have c8 : ¬ (n : Int) < 8 := c8
  have h8 := hT.A.2.2.1
  rw [List.length_append] at h8
  obtain rfl : t = [] := List.eq_nil_of_length_eq_zero (by omega)
  have hl8 : esB.length = 8 := by omega
  rw [List.nil_append] at hT
  refine table_Table_List.cl hT.A.tv hT.A.len fun x w33 u33 ox => table_Table_List.cl (hT.B.gro u33).tv hT.B.len fun y w35 u35 oy => ?_
  have hx := (ox.gro u35).ents
  have hy := oy.ents
  have lx := hx.len
  have ly := hy.len
  have u7 := u33.trans u35
  refine brN (fun h => absurd (show (x.2.1 : Int) = 8 by omega) h) fun _ => brN (fun h => absurd (show (y.2.1 : Int) = 8 by omega) h) fun _ => ?_
  refine table_Table_Hops.cl (hT.A.gro u7).tv hT.A.len fun w37 u37 => table_Table_Hops.cl ((hT.B.gro u7).gro u37).tv hT.B.len fun w39 u39 => brN (fun h => absurd rfl h) fun _ => ?_
  have u9 := u37.trans u39
  have gw := (u2.trans g).trans (u7.trans u9)
  refine LoopT.by (fun z w' => Gro w39 w' ∧ ∃ i : Nat, z = ((i : Int), ())) (fun z => (1000 - z.1).toNat) ⟨Gro.refl _, 0, rfl⟩ ?_
  rintro z w42 ⟨g42, i, rfl⟩ _
  refine brD (fun c => ?_) fun c => holds (gw.trans g42) rfl
  have hi' : i < esB.length := by have c : (i : Int) < (x.2.1 : Int) := c; omega
  have he : esB[i]? = some esB[i] := List.getElem?_eq_getElem hi'
  generalize esB[i] = e at he
  rw [drK_eq]
  have hx2 := ((hx.gro u9).gro g42).drew
  have hy2 := ((hy.gro u9).gro g42).drew
  refine hx2.ix rfl he fun a ha => hx2.ldN ha he (hy2.ix rfl he fun b hb => hy2.ldN hb he (brF (by simp) ⟨⟨g42.trans (Gro.drew _), i + 1, ?_⟩, ?_⟩))
  · show (IntKind.wrap .i64 ((i : Int) + 1), ()) = _
    rw [len_succ (by omega)]
  · show (1000 - IntKind.wrap .i64 ((i : Int) + 1)).toNat < (1000 - (i : Int)).toNat
    rw [len_succ (by omega)]; omega
end Go.Proofs.Ytccnlakbplmhnaa
