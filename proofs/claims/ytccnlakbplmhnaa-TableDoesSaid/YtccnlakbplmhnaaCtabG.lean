/- Law of layer 12: in every sequence of calls the table does what the document says. Conditions: none. -/
import Derived.Test.YtccnlakbplmhnaaCtabF
namespace Go.Proofs.Ytccnlakbplmhnaa
open Go.Eng Go
set_option linter.unusedVariables false
set_option linter.unusedSimpArgs false

theorem TV.none (w : World) : TV w none (Option.none, 0, 0) [] := .inl ⟨rfl, rfl, rfl⟩
theorem table_Table_Add.nil {w : World} {e : E3} {k : TR [(false, [.i .i64])] → World → Prop} (hk : ∀ w', Gro w w' → k ((2, ()), ()) w') :
    clS Try.prog F.table_Table_Add [.pointer none, .agg #[.int .i64 e.1, .int .i64 e.2.1, .int .i64 e.2.2]] w false [(false, [.i .i64])] k := by
  refine table_Table_Add.ok ?_
  unfold table_Table_Add.wp
  refine alK_by fun p1 w2 e1 k1 u1 => CutT.by (fun _ _ => False) ?_ fun _ _ h => h.elim
  refine table_Table_Last.cl (TV.none w2) (by simp) (fun _ w7 u7 => ?_) fun l h => by cases h
  exact alK_by fun p8 w9 e8 k8 u8 => k8.sta _ rfl rfl fun w10 k10 u10 => brT rfl (hk w10 (u1.trans (Gro.fresh u7 u8 u10 e8)))

theorem table_Table_Last.both {w : World} {t : Option Addr} {s : Sl} {es : List E3} (hT : TV w t s es) (hn : es.length ≤ 1000000000) {k : TR [(true, [.i .i64, .i .i64, .i .i64]), (false, [.b])] → World → Prop}
    (hk : ∀ (r : E3) b w', Gro w w' → (es = [] ∧ r = (0, 0, 0) ∧ b = false ∨ es.getLast? = some r ∧ b = true) → k ((r.1, r.2.1, r.2.2, ()), (b, ()), ()) w') :
    clS Try.prog F.table_Table_Last [.pointer t] w true [(true, [.i .i64, .i .i64, .i .i64]), (false, [.b])] k :=
  table_Table_Last.cl hT hn (fun h w' g => hk (0, 0, 0) false w' g (.inl ⟨h, rfl, rfl⟩)) fun l h w' g => hk l true w' g (.inr ⟨h, rfl⟩)

/-- the table and the document's list -/
structure Dt (w : World) (base bt : Nat) (st sm : Sl) (es : List E3) : Prop where
  T : Tab w base bt st es
  M : Ents w sm es
  lt : ∀ b, sm.1 = some b → b.block < w.heap.size ∧ b.block ≠ bt
  ne : ∀ a b, st.1 = some a → sm.1 = some b → a.block ≠ b.block
theorem Dt.upd {S : Nat → Prop} {w w' : World} {base bt : Nat} {st sm : Sl} {es : List E3} (h : Dt w base bt st sm es) (u : Upd S w w') (hb : ¬ S bt) (hs : ∀ a, st.1 = some a → ¬ S a.block) (hm : ∀ a, sm.1 = some a → ¬ S a.block) : Dt w' base bt st sm es :=
  ⟨h.T.upd u hb hs, h.M.upd u hm, fun b hb => ⟨Nat.lt_of_lt_of_le (h.lt b hb).1 u.size, (h.lt b hb).2⟩, h.ne⟩
theorem Dt.gro {w w' : World} {base bt : Nat} {st sm : Sl} {es : List E3} (h : Dt w base bt st sm es) (u : Gro w w') : Dt w' base bt st sm es := h.upd u (fun x => x) (fun _ _ x => x) fun _ _ x => x

set_option maxRecDepth 20000 in
set_option maxHeartbeats 4000000 in
theorem law12_TableDoes.cl {w : World} {s sc : Sl} {es : List E3} {cs : List Int} {stop : Int} (hE : Ents w s es) (hC : Row w sc 1 (cs.map (Value.int .i64))) :
    clS Try.prog F.law12_TableDoes [.slice s.1 s.2.1 s.2.2, .slice sc.1 sc.2.1 sc.2.2, .int .i64 stop] w false [(false, [.b])] (Holds w) := by
  refine law12_TableDoes.ok ?_
  unfold law12_TableDoes.wp
  refine law12_alive.cl fun w2 u2 => brF rfl ?_
  have hl := hE.len
  refine brD (fun c => holds u2 rfl) fun c1 => brD (fun c => holds u2 rfl) fun c2 => ?_
  have c1 : ¬ (s.2.1 : Int) > 100 := c1
  have c2 : ¬ (sc.2.1 : Int) > 100 := c2
  refine alK_by fun p3 w4 e3 k3 u4 => table_Table_Clear.nil ?_
  refine table_Table_Last.cl (TV.none w4) (by simp) (fun _ w8 u8 => ?_) fun l h => by cases h
  refine alK_by fun p9 w10 e9 k9 u10 => k9.sta _ rfl rfl fun w11 k11 u11 => ?_
  refine table_Table_Add.nil (e := (0, 0, 1)) fun w13 u13 => brN (fun h => absurd rfl h) fun _ => ?_
  refine table_Table_Len.cl (TV.none w13) (brN (fun h => absurd rfl h) fun _ => brF rfl ?_)
  refine table_Table_Hops.cl (TV.none w13) (by simp) fun w17 u17 => brN (fun h => absurd rfl h) fun _ => ?_
  refine table_Table_List.cl (TV.none w17) (by simp) fun x w19 u19 ox => brN (fun h => absurd (show (x.2.1 : Int) = 0 from by rw [ox.len]; rfl) h) fun _ => ?_
  refine law12_same.cl (TV.none w19) (sl := (none, 0, 0)) ⟨rfl, fun h => absurd rfl h⟩ (by simp) fun w21 u21 => brF rfl ?_
  have f21 : Gro w4 w21 := (((Gro.fresh u8 u10 u11 e9).trans u13).trans (u17.trans u19)).trans u21
  have l3 := k3.lt
  have hp3 : w2.heap.size ≤ p3 := by omega
  refine LoopT.by (fun z w' => Gro w2 w' ∧ ∃ i : Nat, z.2.1 = (i : Int) ∧ i ≤ es.length ∧ ∃ st es', Dt w' w2.heap.size p3 st z.1 es')
    (fun z => (1000 - z.2.1).toNat) ⟨u4.trans f21, 0, rfl, by omega, (none, 0, 0), [], Tab.new (k3.gro f21), ⟨rfl, fun h => absurd rfl h⟩, (fun b h => by cases h), fun a b h => by cases h⟩ ?_
  rintro ⟨sm, zi, _⟩ w24 ⟨g, i, hz, hi, st, es', hD⟩ _
  obtain rfl : zi = (i : Int) := hz
  dsimp only
  refine brD (fun c => ?_) fun c => ?_
  rotate_left
  · refine law12_same.cl hD.T.tv hD.M (by have := hD.T.2.2.1; omega) fun w85 u85 => brT rfl (brD (fun _ => holds (u2.trans (g.trans u85)) rfl) fun cs => ?_)
    refine law12_first.cl (hD.T.gro u85).tv (by have := hD.T.2.2.1; omega) (by omega) fun w87 u87 => holds (u2.trans ((g.trans u85).trans u87)) ?_
    have : sm.2.1 = es'.length := hD.M.len
    rw [this]
    simp
  have hi' : i < es.length := by have c : (i : Int) < (s.2.1 : Int) := c; omega
  have he : es[i]? = some es[i] := List.getElem?_eq_getElem hi'
  generalize es[i] = e at he
  have hE7 := hE.gro (u2.trans g)
  refine hE7.ix rfl he fun a ha => hE7.ldN ha he ?_
  refine alK_by fun p27 w28 e27 k27 u28 => k27.sta _ rfl rfl fun w29 k29 u29 => ?_
  have f29 : Gro w24 w29 := Gro.fresh (Gro.refl _) u28 u29 e27
  have g29 := g.trans f29
  have n27 : w24.heap.size ≤ p27 := by omega
  have l29 := k29.lt
  have n3 : p3 < w24.heap.size := hD.T.1.lt
  refine LoopT.by (fun z w' => Gro w2 w' ∧ w24.heap.size ≤ w'.heap.size ∧ (∃ j : Nat, z.2.1 = (j : Int)) ∧ Blk w' p27 [.int .i64 e.1, .int .i64 e.2.1, .int .i64 e.2.2] ∧ ∃ st es', Dt w' w2.heap.size p3 st z.1 es' ∧ (∀ a, st.1 = some a → a.block ≠ p27))
    (fun z => (1000 - z.2.1).toNat) ⟨g29, f29.size, ⟨0, rfl⟩, k29, st, es', hD.gro f29, fun a ha => by have := (hD.T.2.1.blk ha).2.1; omega⟩ ?_
  clear hD st es' k29 l29 g29 f29 hE7
  rintro ⟨sm, zj, _⟩ w32 ⟨g, hsz, ⟨j, hj⟩, k27, st, es', hD, n27'⟩ _
  obtain rfl : zj = (j : Int) := hj
  dsimp only
  refine brD (fun c => ?_) fun c => ?_
  · have hCl : sc.2.1 * 1 = (cs.map (Value.int .i64)).length := hC.len
    rw [List.length_map, Nat.mul_one] at hCl
    have hj' : j < cs.length := by have c : (j : Int) < (sc.2.1 : Int) := c; omega
    have hx : (cs.map (Value.int .i64))[j]? = some (.int .i64 cs[j]) := by rw [List.getElem?_map, List.getElem?_eq_getElem hj']; rfl
    generalize cs[j] = x at hx
    have hC2 := hC.gro (u2.trans g)
    obtain ⟨a, ha⟩ := hC2.addr (by rw [List.length_map]; omega)
    rw [ha, ixK_eq (by omega)]
    have mes : (1000 - IntKind.wrap .i64 ((j : Int) + 1)).toNat < (1000 - (j : Int)).toNat := by rw [len_succ (by omega)]; omega
    have ej : IntKind.wrap .i64 ((j : Int) + 1) = ((j + 1 : Nat) : Int) := len_succ (by omega)
    refine ld1_cell (v := .int .i64 x) (x := x) (by rw [Int.toNat_natCast, Nat.mul_one]; exact hC2.ld ha hx) (dec_i _ _) (brE (fun _ => ?_) fun _ => ?_)
    · refine table_Table_Clear.cl hD.T fun w36 T36 u36 => ⟨⟨Upd.trans g u36 fun i hi h => by omega, Nat.le_trans hsz u36.size, ⟨j + 1, ej⟩, k27.upd u36 (by omega), (none, 0, 0), [], ⟨T36, ⟨rfl, fun h => absurd rfl h⟩, (fun b h => by cases h), fun a b h => by cases h⟩, fun a h => by cases h⟩, mes⟩
    · exact ⟨⟨g, hsz, ⟨j + 1, ej⟩, k27, st, es', hD, n27'⟩, mes⟩
  clear c
  have h8 := hD.T.2.2.1
  have l27 := k27.lt
  have b27 := hD.T.1.lt
  refine k27.ld3 (ref12_Add.cl hD.M h8 fun sm' w39 u39 hM' hfr => ?_)
  rw [drK_eq]
  have D39 := hD.gro u39
  have k40 := (k27.gro u39).drew
  have g40 : Gro w2 w39.drew := Upd.drew (g.trans u39)
  refine k40.ld3 (table_Table_Add.own g40 (D39.T.gro (Gro.drew w39)) hp3 fun st' w43 T43 g43 U43 hft => ?_)
  have np : ¬ (p27 = p3 ∨ ∃ a, st.1 = some a ∧ a.block = p27) := by
    rintro (h | ⟨a, ha, h⟩)
    · omega
    · exact n27' a ha h
  have k43 := k40.upd U43 np
  refine ⟨⟨k40.hold U43 np 0 (by simp), k40.hold U43 np 1 (by simp), k40.hold U43 np 2 (by simp), trivial⟩, brN (fun h => absurd rfl h) fun _ => k43.ld3 (k43.ld3 (table_Entry_Good.cl fun w47 u47 => ?_))⟩
  have hh : ∀ {w' : World}, Gro w43 w' → ∀ i, i < 3 → w'.cell? (Addr.add ⟨p27, 0, none⟩ i) = some ((w43.cell? (Addr.add ⟨p27, 0, none⟩ i)).getD undef) := fun u i hi => k43.hold u (fun x => x) i (by simpa using hi)
  have hh0 : ∀ {w' : World}, Gro w43 w' → ∀ i, i < 3 → w'.cell? (Addr.add ⟨p27, 0, none⟩ i) = some ((w39.drew.cell? (Addr.add ⟨p27, 0, none⟩ i)).getD undef) := fun u i hi => k40.hold (U43.gro u) np i (by simpa using hi)
  refine ⟨⟨hh u47 0 (by omega), hh u47 1 (by omega), hh u47 2 (by omega), hh u47 0 (by omega), hh u47 1 (by omega), hh u47 2 (by omega), hh0 u47 0 (by omega), hh0 u47 1 (by omega), hh0 u47 2 (by omega), trivial⟩, ref12_Good.cl fun w49 u49 => ?_⟩
  have u9 := u47.trans u49
  refine ⟨⟨hh u9 0 (by omega), hh u9 1 (by omega), hh u9 2 (by omega), hh0 u9 0 (by omega), hh0 u9 1 (by omega), hh0 u9 2 (by omega), trivial⟩, brF (by simp) ?_⟩
  have D43 : Dt w43 w2.heap.size p3 st' sm' (addL es' e) := by
    have hmlt : ∀ b, sm'.1 = some b → b.block < w39.heap.size ∧ b.block ≠ p3 ∧ ∀ a, st.1 = some a → a.block ≠ b.block := by
      intro b hb
      rcases hfr with h | h
      · subst h
        exact ⟨(D39.lt b hb).1, (D39.lt b hb).2, fun a ha => D39.ne a b ha hb⟩
      · have := h b hb
        exact ⟨this.2, by omega, fun a ha => by have := (hD.T.2.1.blk ha).2.1; omega⟩
    refine ⟨T43, (hM'.drew).upd U43 ?_, fun b hb => ⟨by have h1 := (hmlt b hb).1; have h2 := U43.size; exact Nat.lt_of_lt_of_le h1 h2, (hmlt b hb).2.1⟩, fun a b ha hb => ?_⟩
    · rintro b hb (h | ⟨a, ha, h⟩)
      · exact (hmlt b hb).2.1 h
      · exact (hmlt b hb).2.2 a ha h
    · rcases hft a ha with ⟨a0, h0, h1⟩ | h1
      · rw [h1]; exact (hmlt b hb).2.2 a0 h0
      · have := (hmlt b hb).1
        have h1 : w39.heap.size ≤ a.block := h1
        omega
  have D49 := D43.gro u9
  have g49 := g43.trans u9
  have hml := D49.M.len
  refine table_Table_List.cl D49.T.tv D49.T.len fun x w51 u51 ox => ?_
  have hxl := ox.len
  refine brN (fun h => absurd (show (x.2.1 : Int) = (sm'.2.1 : Int) by rw [hxl, hml]) h) fun _ => ?_
  have D51 := D49.gro u51
  refine table_Table_Len.cl D51.T.tv (brN (fun h => absurd (show ((addL es' e).length : Int) = (sm'.2.1 : Int) by rw [hml]) h) fun _ => ?_)
  refine table_Table_Hops.cl D51.T.tv D51.T.len fun w55 u55 => ref12_Hops.cl (D51.gro u55).M D51.T.len fun w57 u57 => brN (fun h => absurd rfl h) fun _ => ?_
  have D57 := (D51.gro u55).gro u57
  refine law12_same.cl D57.T.tv D57.M (by have := D57.T.2.2.1; omega) fun w59 u59 => brF rfl ?_
  have D59 := D57.gro u59
  have f59 : Gro w51 w59 := (u55.trans u57).trans u59
  have f49 : Gro w49 w59 := u51.trans f59
  have x59 := ox.gro f59
  refine table_Table_Last.both D59.T.tv D59.T.len fun r b w61 u61 hr => alK_by fun p62 w63 e62 k62 u63 => k62.sta _ rfl rfl fun w64 k64 u64 => ?_
  have f64 : Gro w59 w64.drew := Upd.drew (Gro.fresh u61 u63 u64 e62)
  have k64 := k64.drew
  have D64 := D59.gro f64
  refine CutT.by (fun _ w' => w' = w64.drew) ?_ ?_
  · rw [drK_eq]
    rcases hr with ⟨h0, rfl, rfl⟩ | ⟨hl', rfl⟩
    · refine brF ?_ (brF rfl (brT rfl (k64.ld3 (brF rfl rfl))))
      rw [hml, h0]; rfl
    · have hne : 0 < (addL es' e).length := by
        rcases h : addL es' e with _ | ⟨y, ys⟩
        · rw [h] at hl'; cases hl'
        · simp
      refine brF ?_ (brT rfl (k64.ld3 ?_))
      · rw [hml]
        show (!(true == decide (((addL es' e).length : Int) > 0))) = false
        rw [decide_eq_true (by omega)]; rfl
      rw [show IntKind.wrap .i64 ((sm'.2.1 : Int) - 1) = (((addL es' e).length - 1 : Nat) : Int) by rw [hml]; exact len_pred hne (by have := D59.T.2.2.1; omega)]
      have hg := last_get hl'
      exact D64.M.ix rfl hg fun a ha => D64.M.ldN ha hg (brF (by simp) (brF rfl rfl))
  · rintro _ _ rfl _
    have hlen8 := D59.T.2.2.1
    have ox64 := x59.gro f64
    have xb : ∀ a, x.1 = some a → w49.heap.size ≤ a.block := fun a ha => (ox.blk ha).1
    refine LoopT.by (fun z w' => Upd (fun c => ∃ a, x.1 = some a ∧ a.block = c) w64.drew w' ∧ ∃ k : Nat, z = ((k : Int), ()) ∧ ∃ ls : List E3, OwnR w' w49.heap.size T.table_Entry 3 x (addL es' e).length (flat3 ls) ∧ ls.length = (addL es' e).length ∧ ∀ j, k ≤ j → ls[j]? = (addL es' e)[j]?)
      (fun z => (1000 - z.1).toNat) ⟨Upd.refl _ _, 0, rfl, addL es' e, ox64, rfl, fun _ _ => rfl⟩ ?_
    rintro z w76 ⟨U, kk, rfl, ls, hO, hls, heq⟩ _
    have D76 : Dt w76 w2.heap.size p3 st' sm' (addL es' e) := D64.upd U
      (by rintro ⟨a, ha, h⟩; have := xb a ha; have := D49.T.1.lt; omega)
      (by rintro a0 h0 ⟨a, ha, h⟩; have := xb a ha; have := (D49.T.2.1.blk h0).2.1; omega)
      (by rintro a0 h0 ⟨a, ha, h⟩; have := xb a ha; have := (D49.lt a0 h0).1; omega)
    have g76 : Gro w2 w76 := Upd.trans (((g49.trans u51).trans f59).trans f64) U (by rintro i hi ⟨a, ha, h⟩; have := xb a ha; have := g49.size; omega)
    refine brD (fun c => ?_) fun c => ?_
    · have c : (kk : Int) < (x.2.1 : Int) := c
      have hk' : kk < (addL es' e).length := by omega
      have he1 : (addL es' e)[kk]? = some (addL es' e)[kk] := List.getElem?_eq_getElem hk'
      generalize (addL es' e)[kk] = y at he1
      have he2 := (heq kk (Nat.le_refl _)).trans he1
      rw [drK_eq]
      have hO2 := hO.gro (Gro.drew w76)
      have hX := hO2.ents
      refine hX.ix rfl he2 fun a ha => hX.ldN ha he2 (D76.M.drew.ix rfl he1 fun a' ha' => D76.M.drew.ldN ha' he1 (brF (by simp) (hX.ix rfl he2 fun a ha => ?_)))
      show stN [.int .i64 0, .int .i64 0, .int .i64 0] (a.add ((kk : Int).toNat * 3)) 0 w76.drew _
      rw [Int.toNat_natCast]
      refine hO2.st3 ha (i := kk) (z := (0, 0, 0)) hk' fun w83 hO3 u83 => ⟨⟨(U.gro (Gro.drew w76)).trans u83 fun j _ h => ⟨a, ha, h.symm⟩, kk + 1, ?_, ls.set kk (0, 0, 0), hO3, by rw [List.length_set]; exact hls, fun j hj => ?_⟩, ?_⟩
      · show (IntKind.wrap .i64 ((kk : Int) + 1), ()) = _
        rw [len_succ (by omega)]
      · rw [List.getElem?_set_ne (by omega)]; exact heq j (by omega)
      · show (1000 - IntKind.wrap .i64 ((kk : Int) + 1)).toNat < (1000 - (kk : Int)).toNat
        rw [len_succ (by omega)]; omega
    · refine ⟨⟨g76, i + 1, ?_, by omega, st', addL es' e, D76⟩, ?_⟩
      · show IntKind.wrap .i64 ((i : Int) + 1) = _
        rw [len_succ (by omega)]
      · show (1000 - IntKind.wrap .i64 ((i : Int) + 1)).toNat < (1000 - (i : Int)).toNat
        rw [len_succ (by omega)]; omega
end Go.Proofs.Ytccnlakbplmhnaa
