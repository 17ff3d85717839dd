/- A Builder written and read; the text of a table of leaps: the program's and the document's. Conditions: a table's own. -/
import Derived.Test.YtfbegkddkdenbaaGreatDoorLcS
import Derived.Test.YtfbegkddkdenbaaGreatDoorCrune
namespace Go.Proofs.YtfbegkddkdenbaaGreatDoor
open Go.Eng Go Go.Shelf
set_option linter.unusedVariables false
set_option linter.unusedSimpArgs false

theorem bld_T : shr.t 72 = T.strings_Builder := by kernel_rfl
theorem bld_5 : shr.t 5 = T.uint8 := by kernel_rfl
/-- the block b is a builder that holds these bytes; its row lies at b or beyond -/
def BuW (w : World) (b : Nat) (l : Bs) : Prop := Lib.IsBuilderF T.strings_Builder T.uint8 b b (Lib.byteCells l) w
/-- what writing a builder leaves: blocks below it, and whatever is no row of bytes -/
structure BuF (b : Nat) (w w' : World) : Prop where
  low : Upd (fun x => b ≤ x) w w'
  oth : Lib.OthersKept T.uint8 (some b) w w'
theorem BuF.refl (b : Nat) (w : World) : BuF b w w := ⟨Upd.refl _ _, Lib.OthersKept.refl _ _ _⟩
theorem BuF.trans {b : Nat} {u v w : World} (h : BuF b u v) (k : BuF b v w) : BuF b u w := ⟨Upd.trans h.low k.low fun _ _ x => x, h.oth.trans k.oth⟩
theorem BuF.gro {b : Nat} {w w' : World} (h : Gro w w') : BuF b w w' := ⟨Upd.of_gro h, fun k o ho _ _ => by rw [h.block k (Array.getElem?_eq_some_iff.1 ho).1 fun x => x]; exact ho⟩
theorem BuF.mark {b D : Nat} {w w' : World} (h : BuF b w w') (hD : b < D) (m : Eng.Mark w D) : Eng.Mark w' D := h.oth D _ m (fun e => by injection e with e; omega) fun c fz e => by cases e
theorem strCells_ofL (l : Bs) : Lib.strCells (ofL l) = Lib.byteCells l := by
  unfold Lib.strCells Lib.byteCells
  simp [ofL]
theorem BuW.keep {w w' : World} {b : Nat} {l : Bs} (h : BuW w b l) (hk : ∀ (k : Nat) (c : Array Value) (t : TypeId) (fz : Nat × Nat), w.heap[k]? = some (.cells c t fz) → w'.heap[k]? = some (.cells c t fz)) : BuW w' b l := by
  have key : ∀ p, Lib.BuilderAtF T.strings_Builder T.uint8 b b p (Lib.byteCells l) w → Lib.BuilderAtF T.strings_Builder T.uint8 b b p (Lib.byteCells l) w' := by
    rintro p ⟨h1, v, h2, ⟨h3, h4⟩, h5⟩
    refine ⟨h1, v, hk _ _ _ _ h2, ⟨h3, ?_⟩, h5⟩
    rcases h4 with h4 | ⟨g, cap, cur, fz, a1, a2, a3, a4⟩
    · exact .inl h4
    · exact .inr ⟨g, cap, cur, fz, a1, a2, hk _ _ _ _ a3, a4⟩
  exact h.elim (fun h => .inl (key _ h)) fun h => .inr (key _ h)
theorem BuW.turn {B : Nat} {w w' : World} {b : Nat} {l : Bs} (h : BuW w b l) (t : Turn B w w') : BuW w' b l := h.keep fun k c ty fz ho => t.block k _ ho (.inr rfl)
theorem alK_bu {w : World} {k : Addr → World → Prop} (h : ∀ b w', w.heap.size = b → BuW w' b [] → Gro w w' → k ⟨b, 0, none⟩ w') : alK [.pointer none, .slice none 0 0] T.strings_Builder w k := by
  refine h _ _ rfl (.inl ⟨Nat.le_refl _, .slice none 0 0, ?_, World.ownsRowF_nil _ _ _ _, by simp [Value.ownBlock]⟩) ((Gro.refl w).alloc _)
  show (w.heap.push _)[w.heap.size]? = _
  rw [Array.getElem?_push, if_pos rfl]
theorem BuW.gro {w w' : World} {b : Nat} {l : Bs} (h : BuW w b l) (u : Gro w w') : BuW w' b l := h.keep fun k c ty fz ho => by rw [u.block k (Array.getElem?_eq_some_iff.1 ho).1 fun x => x]; exact ho
theorem BuW.lt {w : World} {b : Nat} {l : Bs} (h : BuW w b l) : b < w.heap.size := h.elim (fun h => h.lt) fun h => h.lt
theorem strings_Builder_copyCheck.cl {w : World} {b : Nat} {l : Bs} (h : BuW w b l) {k : TR [] → World → Prop}
    (hk : ∀ w', Lib.BuilderAtF T.strings_Builder T.uint8 b b (.pointer (some ⟨b, 0, none⟩)) (Lib.byteCells l) w' → w.heap.size = w'.heap.size → BuF b w w' → k () w') :
    clS Tryz.prog F.strings_Builder_copyCheck [.pointer (some ⟨b, 0, none⟩)] w true [] k := by
  rcases h with h | h
  · refine Calls.mono (P := Tryz.prog) (f := F.strings_Builder_copyCheck) (cc_fresh b w h.cell0 h.shape h.frozen0) ?_
    rintro e w' ⟨rfl, rfl⟩
    have hs : w.heap.size = (w.setCell ⟨b, 0, none⟩ (.pointer (some ⟨b, 0, none⟩))).heap.size := by simp [World.setCell]
    refine ⟨(), rfl, hk _ (h.used _) hs ⟨((Upd.refl (fun x => b ≤ x) w).setCell _ _ fun _ => Nat.le_refl b), (Lib.OthersKept.refl _ _ w).setCell ⟨b, 0, none⟩ rfl _⟩⟩
  · refine Calls.mono (P := Tryz.prog) (f := F.strings_Builder_copyCheck) (cc_used b w h.cell0) ?_
    rintro e w' ⟨rfl, rfl⟩
    exact ⟨(), rfl, hk _ h rfl (BuF.refl b _)⟩
theorem infoU8 : ∃ i, Tryz.prog.info? T.uint8 = some i ∧ i.zero = some (.int .u8 0) ∧ i.size = 1 ∧ i.bytes = 1 := by
  obtain ⟨i, h1, h2⟩ := Option.map_eq_some_iff.1 shX.infoByte
  rw [bld_5] at h1
  simp only [Prod.mk.injEq] at h2
  exact ⟨i, h1, h2.1, h2.2.1, h2.2.2⟩
set_option maxRecDepth 20000 in
theorem strings_Builder_WriteString.cl {w : World} {b : Nat} {l x : Bs} (h : BuW w b l) (hlen : l.length + x.length ≤ 1000000) {k : TR [(false, [.i .i64]), (false, [.any])] → World → Prop}
    (hk : ∀ w', BuW w' b (l ++ x) → BuF b w w' → k ((x.length, ()), (.nilIface, ()), ()) w') :
    clS Tryz.prog F.strings_Builder_WriteString [.pointer (some ⟨b, 0, none⟩), .string (ofL x)] w true [(false, [.i .i64]), (false, [.any])] k := by
  refine strings_Builder_WriteString.ok ?_
  unfold strings_Builder_WriteString.wp
  have hb := h.lt
  refine strings_Builder_copyCheck.cl h fun w2 hB sz f2 => ?_
  obtain ⟨hb0, v, hv, hown, hne⟩ := hB
  obtain ⟨s, rfl⟩ : ∃ s : Sl, v = .slice s.1 s.2.1 s.2.2 := by
    rcases hown.2 with ⟨h0, _⟩ | ⟨g', cap', cur, fz, hv, _⟩
    · exact ⟨(none, 0, 0), h0⟩
    · exact ⟨(_, _, _), hv⟩
  have kb : Blk w2 b [.pointer (some ⟨b, 0, none⟩), .slice s.1 s.2.1 s.2.2] := ⟨_, hv⟩
  rw [ncK_eq]
  refine kb.c1 1 (c := .sl) (x := s) rfl ?_
  obtain ⟨i, hi, hz, hs, hby⟩ := infoU8
  have hcl : (Lib.byteCells l).length = l.length := by simp [Lib.byteCells]
  obtain ⟨v', w6, hr, hown', hgr, _⟩ := Lib.run_append_own_stringF (P := Tryz.prog) (w := w2) b T.sl_uint8 T.string T.sl_uint8 T.uint8 i (by kernel_rfl) (by kernel_rfl) hi hz hs hby _ _ _ hown (ofL x)
    (by rw [hcl, ofL_size]; unfold maxLen; omega) (by rw [hcl, ofL_size]; omega) (by omega)
  obtain ⟨s', rfl⟩ : ∃ s' : Sl, v' = .slice s'.1 s'.2.1 s'.2.2 := by
    rcases hown'.2 with ⟨h0, _⟩ | ⟨g', cap', cur, fz, hv, _⟩
    · exact ⟨(none, 0, 0), h0⟩
    · exact ⟨(_, _, _), hv⟩
  have hsl : ∀ K : Sl → World → Prop, slOf (.ok (.slice s'.1 s'.2.1 s'.2.2) w6) K = K s' w6 := fun K => rfl
  rw [hr, hsl]
  rw [ncK_eq]
  have hb2 : b < w2.heap.size := by omega
  have hv6 : w6.heap[b]? = some (.cells #[.pointer (some ⟨b, 0, none⟩), .slice s.1 s.2.1 s.2.2] T.strings_Builder (0, 0)) := by
    rw [hgr.block b hb2 fun e => hne e.symm]; exact hv
  have f6 : BuF b w2 w6 := by
    refine ⟨⟨hgr.os, hgr.tape, hgr.output, hgr.size, fun j hj hn => hgr.block j hj fun e => hn ?_⟩, ?_⟩
    · exact (hown.lt j e.symm).1
    · refine (Lib.OthersKept.refl T.uint8 (some b) w2).grown hgr fun g hg => ?_
      rcases hown.2 with ⟨h0, _⟩ | ⟨g', cap', cur, fz, hv, _, hgg, _⟩
      · rw [h0] at hg; cases hg
      · rw [hv] at hg
        simp only [Value.ownBlock, Option.some.injEq] at hg
        subst hg
        exact ⟨_, _, hgg⟩
  rw [add_eq, Nat.zero_add]
  have kb6 : Blk w6 b [.pointer (some ⟨b, 0, none⟩), .slice s.1 s.2.1 s.2.2] := ⟨_, hv6⟩
  rw [show stN [Value.slice s'.1 s'.2.1 s'.2.2] ⟨b, 1, none⟩ 0 w6 = fun K => K (w6.setCell ⟨b, 1, none⟩ (.slice s'.1 s'.2.1 s'.2.2)) from ?_]
  · have hput : Lib.BuilderAtF T.strings_Builder T.uint8 b b (.pointer (some ⟨b, 0, none⟩)) (Lib.byteCells l ++ Lib.strCells (ofL x)) (w6.setCell ⟨b, 1, none⟩ (.slice s'.1 s'.2.1 s'.2.2)) :=
      Lib.BuilderAtF.put (Nat.le_refl b) hv6 (by simpa [Lib.strCells_length] using hown') (by rw [← bld_T, ← bld_5]; exact shX.neB5)
    have e : Lib.byteCells l ++ Lib.strCells (ofL x) = Lib.byteCells (l ++ x) := by rw [strCells_ofL]; simp [Lib.byteCells]
    rw [e] at hput
    have := hk _ (.inr hput) (f2.trans (f6.trans ⟨((Upd.refl (fun x => b ≤ x) w6).setCell _ _ fun _ => Nat.le_refl b), (Lib.OthersKept.refl _ _ w6).setCell ⟨b, 1, none⟩ rfl _⟩))
    rw [ofL_size]; exact this
  · funext K
    rw [stN, if_pos (show okc (Value.slice s'.1 s'.2.1 s'.2.2) = true from rfl)]
    show (match w6.cell? ⟨b, 1, none⟩ with | some _ => _ | none => False) = _
    rw [kb6.cell]
    show (if w6.frozen? ⟨b, 1, none⟩ = true then False else stN [] _ _ _ K) = _
    rw [kb6.thaw, if_neg (by decide)]
    rfl
theorem strings_Builder_String.cl {w : World} {b : Nat} {l : Bs} (h : BuW w b l) {k : TR [(false, [.s])] → World → Prop} (hk : ∀ w', BuF b w w' → k ((ofL l, ()), ()) w') :
    clS Tryz.prog F.strings_Builder_String [.pointer (some ⟨b, 0, none⟩)] w false [(false, [.s])] k := by
  have hb := h.lt
  have c := Any.Builder_String_any_k ly169 shX b b l w (by rw [bld_T, bld_5]; exact h) (by omega)
  refine Calls.mono (P := Tryz.prog) (f := F.strings_Builder_String) c ?_
  rintro e w' ⟨rfl, _, h2, h3⟩
  refine ⟨((ofL l, ()), ()), rfl, hk w' ⟨⟨h2.os, h2.tape, h2.output, h2.size, fun j hj hn => h2.block j (by omega)⟩, ?_⟩⟩
  rw [bld_5] at h3; exact h3

/-! ### texts -/
theorem leap_text.cl {n : Int} (h1 : -719162 ≤ n) (h2 : n ≤ 2932896) {w : World} {k : TR [(false, [.s])] → World → Prop} (h : ∀ w', Gro w w' → k ((ofL (datL n), ()), ()) w') : clS Tryz.prog F.leap_text [.int .i64 n] w false [(false, [.s])] k := by
  refine leap_text.ok ?_
  unfold leap_text.wp
  refine civil_Of.cl (by unfold I64; omega) (fun c => absurd c (by omega)) fun _ _ d hg hd w2 u2 => ?_
  refine alK_by fun p3 w4 e3 k3 u4 => k3.sta _ rfl rfl fun w5 k5 u5 => Blk.ld3 k5 (civil_Date_Text.cl (d := d) fun w8 u8 => ?_)
  have g5 : Gro w w5 := u2.trans (Gro.fresh (Gro.refl _) u4 u5 e3)
  have := h w8 (g5.trans u8)
  rw [← datL_eq hg hd, ← strD_good hg] at this; exact this
theorem ref21_Date.r {n : Int} (h1 : -719162 ≤ n) (h2 : n ≤ 2932896) {w : World} {k : TR [(false, [.s])] → World → Prop} (h : ∀ w', Gro w w' → k ((ofL (datL n), ()), ()) w') : clS Tryz.prog F.ref21_Date [.int .i64 n] w false [(false, [.s])] k :=
  ref21_Date.cl h1 h2 fun d hg hd w' u => by rw [datL_eq hg hd]; exact h w' u
theorem lit_st : (⟨#[115, 116, 97, 114, 116, 32]⟩ : ByteArray) = ofL (startL ++ [32]) := rfl
theorem lit_lp : (⟨#[108, 101, 97, 112, 32]⟩ : ByteArray) = ofL (leapL ++ [32]) := rfl
theorem lit_en : (⟨#[101, 110, 100, 32]⟩ : ByteArray) = ofL (endL ++ [32]) := rfl
theorem lit_sp : (⟨#[32]⟩ : ByteArray) = ofL [32] := rfl
theorem lit_lf : (⟨#[10]⟩ : ByteArray) = ofL [10] := rfl
theorem lit_pl : (⟨#[43, 49]⟩ : ByteArray) = ofL p1L := rfl
theorem lit_mi : (⟨#[45, 49]⟩ : ByteArray) = ofL m1L := rfl
theorem lit_spl : (⟨#[32, 43, 49, 10]⟩ : ByteArray) = ofL (32 :: (p1L ++ [10])) := rfl
theorem lit_smi : (⟨#[32, 45, 49, 10]⟩ : ByteArray) = ofL (32 :: (m1L ++ [10])) := rfl
theorem txt_split (m : Tb) (i : Nat) (hi : i ≤ m.ls.length) : txtT m = flatL (lnS m :: (m.ls.take i).map lnL) ++ flatL ((m.ls.drop i).map lnL ++ [lnE m]) := by
  rw [← flatL_append]
  unfold txtT lnsT
  congr 1
  have : m.ls.map lnL = (m.ls.take i).map lnL ++ (m.ls.drop i).map lnL := by rw [← List.map_append, List.take_append_drop]
  rw [this]; simp only [List.cons_append, List.append_assoc]
theorem flat_snoc (a : List Bs) (l : Bs) : flatL (a ++ [l]) = flatL a ++ (l ++ [10]) := by simp [flatL]
theorem head_len {m : Tb} {i : Nat} (hg : GoodT m) (hi : i ≤ m.ls.length) : (flatL (lnS m :: (m.ls.take i).map lnL)).length ≤ 2000 := by
  have h : ∀ l ∈ lnS m :: (m.ls.take i).map lnL, l.length ≤ 19 := fun l hl => by
    rcases List.mem_cons.1 hl with rfl | hl
    · exact lnS_len m
    · obtain ⟨x, _, rfl⟩ := List.mem_map.1 hl; exact lnL_len x
  have := flatL_len h
  simp only [List.length_cons, List.length_map, List.length_take] at this
  have := hg.2.2.1
  omega
theorem good_rng {m : Tb} (hg : GoodT m) {l : P2} (hl : l ∈ m.ls) : -719162 ≤ l.1 ∧ l.1 ≤ 2932896 := by
  have := hg.2.2.2.mem l hl
  have := hg.1
  unfold Rngd at this
  omega
set_option maxRecDepth 20000 in
set_option maxHeartbeats 1000000 in
theorem ref21_Text.cl {w : World} {m : Tb} {s : Sl} (hR : RowsP w s m.ls) (hg : GoodT m) {k : TR [(false, [.s])] → World → Prop} (h : ∀ w', Gro w w' → k ((ofL (txtT m), ()), ()) w') :
    clS Tryz.prog F.ref21_Text [vT m s] w false [(false, [.s])] k := by
  refine ref21_Text.ok ?_
  unfold ref21_Text.wp
  have hl := hR.len
  have hr := hg.1
  unfold Rngd at hr
  have n64 := hg.2.2.1
  rw [lit_st, lit_sp, lit_lf, lit_lp, lit_en, lit_spl, lit_smi]
  refine alK_by fun p1 w2 e1 k1 u1 => ?_
  rw [drK_eq]
  have k3 := k1.drew
  have g3 := u1.trans (Gro.drew w2)
  generalize w2.drew = w3 at k3 g3
  obtain ⟨a, ea⟩ : ∃ a : Nat, m.ah = a := ⟨m.ah.toNat, by omega⟩
  refine k3.i0 rfl (k3.i1 1 rfl (ref21_Date.r hr.1 hr.2.1 fun w7 u7 => ⟨⟨k3.hold u7 (fun x => x) 1 (by simp), k3.hold u7 (fun x => x) 0 (by simp), trivial⟩, ?_⟩))
  refine saK_ofL (by simp [datL_len, startL]) ?_
  rw [ofL_append]
  refine saK_ofL (by simp [datL_len, startL]) ?_
  rw [ofL_append, ea]
  refine strconv_Itoa.cl (n := a) (by omega) ⟨⟨k3.hold u7 (fun x => x) 0 (by simp), trivial⟩, ?_⟩
  have la := decS_len a
  refine saK_ofL (by simp [datL_len, startL]; omega) ?_
  rw [ofL_append]
  refine saK_ofL (by simp [datL_len, startL]; omega) ?_
  rw [ofL_append]
  have g7 := g3.trans u7
  have k7 := k3.gro u7
  refine k7.c1 3 (c := .sl) (x := s) rfl ?_
  have e0 : (((startL ++ [32] ++ datL m.st) ++ [32]) ++ decS a) ++ [10] = flatL (lnS m :: (m.ls.take 0).map lnL) := by
    simp [flatL, lnS, ea]
  rw [e0]
  refine LoopT.by (fun z W => ∃ i : Nat, z.2.1 = i ∧ i ≤ m.ls.length ∧ z.1 = ofL (flatL (lnS m :: (m.ls.take i).map lnL)) ∧ Gro w W ∧ Blk W p1 [.int .i64 m.st, .int .i64 m.ah, .int .i64 m.en, .slice s.1 s.2.1 s.2.2]) (fun z => ((m.ls.length : Int) - z.2.1).toNat) ⟨0, rfl, by omega, rfl, g7, k7⟩ ?_
  rintro ⟨zt, zi, _⟩ W ⟨i, ez, hi, et, hG, hB⟩ _
  dsimp only at ez et
  subst ez et
  have hln := head_len hg hi
  have hmx : ∀ {n : Nat}, n ≤ 100 → (flatL (lnS m :: (m.ls.take i).map lnL)).length + n ≤ 1000000000000 := fun h => by omega
  refine brD (fun c => ?_) fun c => ?_
  · have c : (i : Int) < s.2.1 := c
    have hi' : i < m.ls.length := by omega
    have hx : m.ls[i]? = some m.ls[i] := List.getElem?_eq_getElem hi'
    have hst := hg.2.1 _ (List.getElem_mem hi')
    have hrg := good_rng hg (List.getElem_mem hi')
    have tk : m.ls.take (i + 1) = m.ls.take i ++ [m.ls[i]] := by rw [List.take_add_one, hx]; rfl
    generalize m.ls[i] = x at hx hst hrg tk
    have RW := hR.gro hG
    refine RW.ix rfl hx fun a0 ha => RW.ldN ha hx (alK_by fun p16 w17 e16 k16 u17 => k16.sta _ rfl rfl fun w18 k18 u18 => ?_)
    have g18 : Gro W w18 := Gro.fresh (Gro.refl _) u17 u18 e16
    refine CutT.by (fun z W' => w18 = W' ∧ z.1 = ofL (32 :: (sgn x.2 ++ [10]))) ?_ ?_
    · unfold Stp at hst
      unfold sgn
      refine k18.i1 1 rfl (brE (fun c2 => ⟨rfl, ?_⟩) fun c2 => ⟨rfl, ?_⟩)
      · have c2 : x.2 = -1 := c2
        rw [if_pos (by omega)]
      · have c2 : ¬ x.2 = -1 := c2
        rw [if_neg (by omega)]
    rintro ⟨zs, _⟩ _ ⟨rfl, hzs⟩ _
    dsimp only at hzs
    subst hzs
    have lsg : (sgn x.2).length = 2 := by unfold sgn; split <;> rfl
    refine saK_ofL (hmx (by simp [leapL])) (k18.i0 rfl (ref21_Date.r hrg.1 hrg.2 fun w25 u25 => ?_))
    rw [ofL_append]
    refine saK_ofL (by simp only [leapL, datL_len, List.length_append, List.length_cons, List.length_nil]; omega) ?_
    rw [ofL_append]
    refine saK_ofL (by simp only [leapL, datL_len, lsg, List.length_append, List.length_cons, List.length_nil]; omega) ?_
    rw [ofL_append]
    have ei : IntKind.wrap .i64 ((i : Int) + 1) = ((i + 1 : Nat) : Int) := by rw [w64_in (by unfold I64; omega)]; omega
    refine ⟨⟨i + 1, ei, by omega, ?_, (hG.trans g18).trans u25, (hB.gro g18).gro u25⟩, ?_⟩
    · show ofL _ = _
      rw [tk, List.map_append, List.map_singleton, show ∀ A : List Bs, lnS m :: (A ++ [lnL x]) = (lnS m :: A) ++ [lnL x] from fun _ => rfl, flat_snoc]
      simp [lnL]
    · show ((m.ls.length : Int) - IntKind.wrap .i64 ((i : Int) + 1)).toNat < ((m.ls.length : Int) - (i : Int)).toNat
      rw [ei]; omega
  · have c : ¬ (i : Int) < s.2.1 := c
    have : i = m.ls.length := by omega
    subst this
    refine saK_ofL (hmx (by simp [endL])) (hB.i1 2 rfl (ref21_Date.r hr.2.2.1 hr.2.2.2.1 fun w28 u28 => ?_))
    rw [ofL_append]
    refine saK_ofL (by simp only [endL, datL_len, List.length_append, List.length_cons, List.length_nil]; omega) ?_
    rw [ofL_append]
    refine saK_ofL (by simp only [endL, datL_len, List.length_append, List.length_cons, List.length_nil]; omega) ?_
    rw [ofL_append]
    have := h w28 (hG.trans u28)
    have e : ((flatL (lnS m :: (m.ls.take m.ls.length).map lnL) ++ (endL ++ [32])) ++ datL m.en) ++ [10] = txtT m := by
      rw [txt_split m m.ls.length (Nat.le_refl _), List.drop_length]
      simp [flatL, lnE]
    rw [← e] at this; exact this

/-- all leaps, with the cell that the closure keeps -/
theorem leap_Table_All.tg {w : World} {b : Nat} {m : Tb} {s : Sl} (hB : Blk w b (cT m s)) {k : TR [(false, [.any])] → World → Prop}
    (hk : ∀ pb w', w.heap.size = pb → Gro w w' → w'.heap[pb]? = some (.cells #[.slice s.1 s.2.1 s.2.2] T.sl_leap_Leap (0, 0)) → w'.heap.size = pb + 1 → k ((.func (.func F.slices_Values_leap_Leap_leap_Leap_1) #[] #[.pointer (some ⟨pb, 0, none⟩)], ()), ()) w') :
    clS Tryz.prog F.leap_Table_All [.pointer (some ⟨b, 0, none⟩)] w false [(false, [.any])] k := by
  refine leap_Table_All.ok ?_
  unfold leap_Table_All.wp
  refine brF rfl ?_
  rw [ncK_eq]
  refine hB.c1 3 (c := .sl) (x := s) rfl ?_
  refine slices_Values_leap_Leap_leap_Leap.ok ?_
  unfold slices_Values_leap_Leap_leap_Leap.wp
  refine hk _ _ rfl ((Gro.refl w).alloc _) ?_ (by show (w.heap.push _).size = _; rw [Array.size_push])
  show (w.heap.push _)[w.heap.size]? = _
  rw [Array.getElem?_push, if_pos rfl]
theorem leap_Table_Text.nil {w : World} {k : TR [(false, [.s])] → World → Prop} (h : k ((ofL [], ()), ()) w) : clS Tryz.prog F.leap_Table_Text [.pointer none] w false [(false, [.s])] k := by
  refine leap_Table_Text.ok ?_
  unfold leap_Table_Text.wp
  exact brT rfl h
set_option maxRecDepth 20000 in
set_option maxHeartbeats 2000000 in
theorem leap_Table_Text.cl {w : World} {b : Nat} {m : Tb} (hT : TbW w b m) (hg : GoodT m) {k : TR [(false, [.s])] → World → Prop} (h : ∀ w', Gro w w' → k ((ofL (txtT m), ()), ()) w') :
    clS Tryz.prog F.leap_Table_Text [.pointer (some ⟨b, 0, none⟩)] w false [(false, [.s])] k := by
  refine leap_Table_Text.ok ?_
  unfold leap_Table_Text.wp
  have hr := hg.1
  unfold Rngd at hr
  have n64 := hg.2.2.1
  have hb := hT.lt
  rw [lit_st, lit_sp, lit_lf, lit_lp, lit_en, lit_pl, lit_mi]
  refine brF rfl (alK_bu fun p1 w2 e1 kb u1 => ?_)
  rw [drK_eq]
  have kb3 := kb.gro (Gro.drew w2)
  have g3 := u1.trans (Gro.drew w2)
  have s2 : p1 < w2.drew.heap.size := kb3.lt
  generalize w2.drew = w3 at kb3 g3 s2
  obtain ⟨s', hB0, hR0⟩ := hT
  have hB := hB0.gro g3
  have hR := hR0.gro g3
  obtain ⟨a, ea⟩ : ∃ a : Nat, m.ah = a := ⟨m.ah.toNat, by omega⟩
  have low : ∀ {W W' : World}, Gro w W → BuF p1 W W' → Gro w W' := fun g u => Upd.trans g u.low fun j hj h => by omega
  rw [ncK_eq]
  refine hB.i0 rfl ?_
  rw [ncK_eq]
  refine hB.i1 1 rfl (leap_text.cl hr.1 hr.2.1 fun w9 u9 => ⟨⟨hB.hold u9 (fun x => x) 1 (by simp), hB.hold u9 (fun x => x) 0 (by simp), trivial⟩, ?_⟩)
  have la := decS_len a
  refine saK_ofL (by simp only [startL, datL_len, List.length_append, List.length_cons, List.length_nil]; omega) ?_
  rw [ofL_append]
  refine saK_ofL (by simp only [startL, datL_len, List.length_append, List.length_cons, List.length_nil]; omega) ?_
  rw [ofL_append, ea]
  refine strconv_Itoa.cl (n := a) (by omega) ⟨⟨hB.hold u9 (fun x => x) 1 (by simp), hB.hold u9 (fun x => x) 0 (by simp), trivial⟩, ?_⟩
  refine saK_ofL (by simp only [startL, datL_len, List.length_append, List.length_cons, List.length_nil]; omega) ?_
  rw [ofL_append]
  refine saK_ofL (by simp only [startL, datL_len, List.length_append, List.length_cons, List.length_nil]; omega) ?_
  rw [ofL_append]
  have e0 : (((startL ++ [32] ++ datL m.st) ++ [32]) ++ decS a) ++ [10] = flatL (lnS m :: (m.ls.take 0).map lnL) := by
    simp [flatL, lnS, ea]
  rw [e0]
  have h0 := head_len hg (Nat.zero_le _)
  refine strings_Builder_WriteString.cl (l := []) (x := flatL (lnS m :: (m.ls.take 0).map lnL)) (kb3.gro u9) (by simp only [List.length_nil]; omega) fun w13 kb13 f13 => ?_
  rw [List.nil_append] at kb13
  have g9 := g3.trans u9
  have g13 := low g9 f13
  have f39 : BuF p1 w3 w13 := (BuF.gro u9).trans f13
  refine ⟨⟨hB.hold f39.low (by omega) 1 (by simp), hB.hold f39.low (by omega) 0 (by simp), trivial⟩, ?_⟩
  have hB13 := hB0.gro g13
  have hR13 := hR0.gro g13
  refine leap_Table_All.tg hB13 fun pb w15 eb u15 hpb sz15 => ?_
  have g15 := g13.trans u15
  have hR15 := hR13.gro u15
  have s13 := f39.low.size
  have hall : ∀ l ∈ m.ls, Stp l := hg.2.1
  have hrow : m.ls ≠ [] → ∀ a, s'.1 = some a → a.block < w.heap.size := fun hx a ha => hR0.blk hx ha
  refine ⟨fun x => un2 x ∈ m.ls, m.ls.map tup2, fun z => p1 ≤ z ∧ z ≠ pb,
    fun pre W => Gro w W ∧ BuW W p1 (flatL (lnS m :: (pre.map un2).map lnL)) ∧ W.heap[pb]? = some (.cells #[.slice s'.1 s'.2.1 s'.2.2] T.sl_leap_Leap (0, 0)) ∧ ∀ l ∈ pre.map un2, l ∈ m.ls, fun _ _ _ => False,
    slices_Values_1.itsV (fun l hl => hl) ⟨_, hpb⟩ hR15 (by omega) (fun hh => hh.2 rfl) (fun hx a ha hh => by have := hrow hx a ha; omega),
    fun W tu => ⟨g15.turn tu g15.size, ?_, tu.block pb _ hpb (.inr rfl), fun l h => by cases h⟩, ?_, ?_, fun s hs => by cases hs⟩
  · exact (kb13.gro u15).turn tu
  · intro x W hx hs
    refine alK_by fun p24 w25 e24 k24 u25 => k24.sta _ rfl rfl fun w26 k26 u26 => asg_gro (Gro.fresh (Gro.refl W) u25 u26 e24) ?_
    rintro W2 tu pre ⟨hg2, hbu, hpb2, hpre⟩ hlen
    rw [List.length_map] at hlen
    have k2 := k26.turn tu
    have hst : Stp (un2 x) := hall _ hx
    have hrg := good_rng hg hx
    refine CutT.by (fun z W' => W2 = W' ∧ z.1 = ofL (sgn (un2 x).2)) ?_ ?_
    · refine k2.i1 1 rfl (brD (fun c2 => ⟨rfl, ?_⟩) fun c2 => ⟨rfl, ?_⟩)
      · have c2 : (un2 x).2 < 0 := c2
        unfold sgn; rw [if_pos c2]
      · have c2 : ¬ (un2 x).2 < 0 := c2
        unfold sgn; rw [if_neg c2]
    rintro ⟨zs, _⟩ _ ⟨rfl, hzs⟩ _
    dsimp only at hzs
    subst hzs
    have lsg : (sgn (un2 x).2).length = 2 := by unfold sgn; split <;> rfl
    refine k2.i0 rfl (leap_text.cl (n := (un2 x).1) hrg.1 hrg.2 fun w33 u33 => ?_)
    refine saK_ofL (by simp only [leapL, datL_len, List.length_append, List.length_cons, List.length_nil]; omega) ?_
    rw [ofL_append]
    refine saK_ofL (by simp only [leapL, datL_len, List.length_append, List.length_cons, List.length_nil]; omega) ?_
    rw [ofL_append]
    refine saK_ofL (by simp only [leapL, datL_len, lsg, List.length_append, List.length_cons, List.length_nil]; omega) ?_
    rw [ofL_append]
    refine saK_ofL (by simp only [leapL, datL_len, lsg, List.length_append, List.length_cons, List.length_nil]; omega) ?_
    rw [ofL_append]
    have hlb : (flatL (lnS m :: (pre.map un2).map lnL)).length ≤ 2000 := by
      have h : ∀ l ∈ lnS m :: (pre.map un2).map lnL, l.length ≤ 19 := fun l hl => by
        rcases List.mem_cons.1 hl with rfl | hl
        · exact lnS_len m
        · obtain ⟨x, _, rfl⟩ := List.mem_map.1 hl; exact lnL_len x
      have := flatL_len h
      simp only [List.length_cons, List.length_map] at this
      omega
    have ex : (((leapL ++ [32] ++ datL (un2 x).1) ++ [32]) ++ sgn (un2 x).2) ++ [10] = lnL (un2 x) ++ [10] := by simp [lnL]
    rw [ex]
    refine strings_Builder_WriteString.cl (hbu.gro u33) (by have := lnL_len (un2 x); simp only [List.length_append, List.length_cons, List.length_nil]; omega) fun w35 kb35 f35 => ?_
    have f : BuF p1 W2 w35 := (BuF.gro u33).trans f35
    have hpb35 : w35.heap[pb]? = some (.cells #[.slice s'.1 s'.2.1 s'.2.2] T.sl_leap_Leap (0, 0)) := f.oth pb _ hpb2 (fun e => by injection e with e; omega) fun c fz e => by injection e with _ e; exact absurd e (by decide)
    refine ⟨⟨f.low.os, f.low.tape, f.low.output, f.low.size, fun j o hj hM ho => ?_, fun j o hj ho hc => ?_⟩, fun W4 t4 => ⟨(low hg2 f).turn t4 g15.size, ?_, t4.block pb _ hpb35 (.inr rfl), ?_⟩⟩
    · by_cases c : j = pb
      · subst c; rw [hpb2] at ho; injection ho with ho; subst ho; exact hpb35
      · have hj1 : j < p1 := by
          rcases Nat.lt_or_ge j p1 with h | h
          · exact h
          · exact absurd ⟨h, c⟩ hM
        rw [f.low.block j (Array.getElem?_eq_some_iff.1 ho).1 (by omega)]; exact ho
    · refine f.oth j o ho (fun e => by injection e with e; omega) fun c fz e => ?_
      subst e; cases hc
    · have e : (pre ++ [x]).map un2 = pre.map un2 ++ [un2 x] := by simp
      rw [e, List.map_append, List.map_singleton, show ∀ A : List Bs, lnS m :: (A ++ [lnL (un2 x)]) = (lnS m :: A) ++ [lnL (un2 x)] from fun _ => rfl, flat_snoc]
      exact kb35.turn t4
    · intro l hl
      rw [List.map_append] at hl
      rcases List.mem_append.1 hl with hl | hl
      · exact hpre l hl
      · rw [List.mem_singleton.1 hl]; exact hx
  · rintro D W hD ⟨hgW, hbu, _, _⟩ hm
    rw [un2_map] at hbu
    have hB2 := hB0.gro hgW
    rw [ncK_eq]
    refine hB2.i1 2 rfl (leap_text.cl hr.2.2.1 hr.2.2.2.1 fun w39 u39 => ?_)
    refine saK_ofL (by simp only [endL, datL_len, List.length_append, List.length_cons, List.length_nil]; omega) ?_
    rw [ofL_append]
    refine saK_ofL (by simp only [endL, datL_len, List.length_append, List.length_cons, List.length_nil]; omega) ?_
    rw [ofL_append]
    have hle := head_len (i := m.ls.length) hg (Nat.le_refl _)
    rw [List.take_length] at hle
    refine strings_Builder_WriteString.cl (hbu.gro u39) (by simp only [endL, datL_len, List.length_append, List.length_cons, List.length_nil]; omega) fun w41 kb41 f41 => strings_Builder_String.cl kb41 fun w43 f43 => ?_
    have f : BuF p1 W w43 := ((BuF.gro u39).trans f41).trans f43
    refine tkK_by (f.mark (by omega) hm) fun w44 ht => ?_
    have := h w44 ((low hgW f).turn (ht w.heap.size (Nat.le_trans g15.size hD)) (Nat.le_refl _))
    have e : flatL (lnS m :: m.ls.map lnL) ++ (((endL ++ [32]) ++ datL m.en) ++ [10]) = txtT m := by
      rw [txt_split m m.ls.length (Nat.le_refl _), List.drop_length, List.take_length]
      simp [flatL, lnE]
    rw [← e] at this; exact this
end Go.Proofs.YtfbegkddkdenbaaGreatDoor
