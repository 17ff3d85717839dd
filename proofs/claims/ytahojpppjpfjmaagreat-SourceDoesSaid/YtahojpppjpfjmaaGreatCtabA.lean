/- Contracts of layer 12, part A: a table read: Len, Last, All, Hops, List. Conditions: none. -/
import Derived.Test.YtahojpppjpfjmaaGreatCslope
import Derived.Test.YtahojpppjpfjmaaGreatEngU
namespace Go.Proofs.YtahojpppjpfjmaaGreat
open Go.Eng Go
set_option linter.unusedVariables false
set_option linter.unusedSimpArgs false

abbrev RS3 : List (Bool × List CK) := [(true, [.i .i64, .i .i64, .i .i64])]
def tup3 (e : E3) : TR RS3 := ((e.1, e.2.1, e.2.2, ()), ())
def un3 (x : TR RS3) : E3 := (x.1.1, x.1.2.1, x.1.2.2.1)
theorem un3_tup3 (e : E3) : un3 (tup3 e) = e := rfl
theorem un3_map (es : List E3) : (es.map tup3).map un3 = es := by rw [List.map_map]; exact (List.map_congr_left fun e _ => un3_tup3 e).trans (List.map_id es)

/-- a cell that holds a slice -/
def Slot (w : World) (a : Addr) (s : Sl) : Prop := w.cell? a = some (.slice s.1 s.2.1 s.2.2)
theorem Slot.gro {w w' : World} {a : Addr} {s : Sl} (h : Slot w a s) (u : Gro w w') : Slot w' a s := cell_gro h u
theorem Slot.drew {w : World} {a : Addr} {s : Sl} (h : Slot w a s) : Slot w.drew a s := cell_gro h (Gro.drew w)
theorem Slot.lt {w : World} {a : Addr} {s : Sl} (h : Slot w a s) : a.block < w.heap.size := cell_lt h
theorem Slot.sl0 {w : World} {a : Addr} {s : Sl} (h : Slot w a s) {k : Sl → Prop} (hk : k s) : ld1 .sl a w k := ld1_cell (x := s) h rfl hk
theorem Blk.slotG {w : World} {b : Nat} {s : Sl} (pre post : List Value) (h : Blk w b (pre ++ .slice s.1 s.2.1 s.2.2 :: post)) : Slot w ⟨b, pre.length, none⟩ s := by
  unfold Slot; rw [h.cell, List.getElem?_append_right (Nat.le_refl _), Nat.sub_self]; rfl
/-- a table with these entries, or none at all -/
def TV (w : World) (t : Option Addr) (s : Sl) (es : List E3) : Prop :=
  (t = none ∧ s = (none, 0, 0) ∧ es = []) ∨ ∃ bt : Addr, t = some bt ∧ Slot w bt s ∧ Ents w s es
theorem TV.gro {w w' : World} {t : Option Addr} {s : Sl} {es : List E3} (h : TV w t s es) (u : Gro w w') : TV w' t s es := by
  rcases h with h | ⟨bt, h1, h2, h3⟩
  · exact .inl h
  · exact .inr ⟨bt, h1, h2.gro u, h3.gro u⟩
theorem TV.len {w : World} {t : Option Addr} {s : Sl} {es : List E3} (h : TV w t s es) : s.2.1 = es.length := by
  rcases h with ⟨rfl, rfl, rfl⟩ | ⟨bt, h1, h2, h3⟩
  · rfl
  · exact h3.len
/-- its blocks are there -/
theorem TV.lt {w : World} {t : Option Addr} {s : Sl} {es : List E3} (h : TV w t s es) : (∀ a, t = some a → a.block < w.heap.size) ∧ (es ≠ [] → ∀ a, s.1 = some a → a.block < w.heap.size) := by
  rcases h with ⟨rfl, rfl, rfl⟩ | ⟨bt, rfl, h2, h3⟩
  · exact ⟨(fun a h => by cases h), fun h => absurd rfl h⟩
  · refine ⟨(fun a h => by cases h; exact h2.lt), fun hn a ha => ?_⟩
    have hp : 0 < es.length := List.length_pos_iff.2 hn
    have := (h3.cell ha (List.getElem?_eq_getElem hp)).1
    have := cell_lt this
    rwa [add_block] at this
/-- kept by what leaves its blocks alone -/
theorem TV.keep {B : Nat} {M : Nat → Prop} {w w' : World} {t : Option Addr} {s : Sl} {es : List E3} (h : TV w t s es) (u : KpM B M w w') (ht : ∀ a, t = some a → a.block < B ∧ ¬ M a.block) (hs : es ≠ [] → ∀ a, s.1 = some a → a.block < B ∧ ¬ M a.block) : TV w' t s es := by
  rcases h with ⟨rfl, rfl, rfl⟩ | ⟨bt, rfl, h2, h3⟩
  · exact .inl ⟨rfl, rfl, rfl⟩
  · refine .inr ⟨bt, rfl, KpM.cell h2 u (ht _ rfl).1 (ht _ rfl).2, KpM.row h3 u fun hx => hs ?_⟩
    intro e; subst e; exact hx rfl

theorem table_Table_Len.cl {w : World} {t : Option Addr} {s : Sl} {es : List E3} (hT : TV w t s es) {k : TR [(false, [.i .i64])] → World → Prop} (hk : k (((es.length : Int), ()), ()) w) :
    clS Tryz.prog F.table_Table_Len [.pointer t] w false [(false, [.i .i64])] k := by
  refine table_Table_Len.ok ?_
  unfold table_Table_Len.wp
  rcases hT with ⟨rfl, rfl, rfl⟩ | ⟨bt, rfl, hb, hE⟩
  · exact hk
  · refine brF rfl ?_
    rw [ncK_eq]
    refine hb.sl0 ?_
    rw [hE.len]; exact hk

theorem last_get {es : List E3} {l : E3} (h : es.getLast? = some l) : es[es.length - 1]? = some l := by rw [← List.getLast?_eq_getElem?]; exact h
theorem len_pred {n : Nat} (h0 : 0 < n) (h1 : n ≤ 1000000000) : IntKind.wrap .i64 ((n : Int) - 1) = ((n - 1 : Nat) : Int) := by
  rw [w64_in (by unfold I64; omega)]; omega
theorem len_succ {n : Nat} (h1 : n ≤ 1000000000) : IntKind.wrap .i64 ((n : Int) + 1) = ((n + 1 : Nat) : Int) := by
  rw [w64_in (by unfold I64; omega)]; rfl

theorem table_Table_Last.cl {w : World} {t : Option Addr} {s : Sl} {es : List E3} (hT : TV w t s es) (hn : es.length ≤ 1000000000) {k : TR [(true, [.i .i64, .i .i64, .i .i64]), (false, [.b])] → World → Prop}
    (h0 : es = [] → ∀ w', Gro w w' → k ((0, 0, 0, ()), (false, ()), ()) w') (h1 : ∀ l, es.getLast? = some l → ∀ w', Gro w w' → k ((l.1, l.2.1, l.2.2, ()), (true, ()), ()) w') :
    clS Tryz.prog F.table_Table_Last [.pointer t] w true [(true, [.i .i64, .i .i64, .i .i64]), (false, [.b])] k := by
  refine table_Table_Last.ok ?_
  unfold table_Table_Last.wp
  refine alK_by fun p1 w2 e1 k1 u1 => table_Table_Len.cl (hT.gro u1) ?_
  refine brE (fun c => ?_) fun c => ?_
  · refine k1.sta _ rfl rfl fun w5 k5 u5 => k5.ld3 (h0 ?_ w5 (Gro.fresh (Gro.refl w) u1 u5 e1))
    have c : (es.length : Int) = 0 := c
    exact List.eq_nil_of_length_eq_zero (by omega)
  · have c : (es.length : Int) ≠ 0 := c
    rcases hT with ⟨rfl, rfl, rfl⟩ | ⟨bt, rfl, hb, hE⟩
    · exact absurd rfl c
    rw [drK_eq, ncK_eq]
    have hb2 := (hb.gro u1).drew
    have hE2 := (hE.gro u1).drew
    refine hb2.sl0 ?_
    rw [ncK_eq]
    refine hb2.sl0 ?_
    have hp : es.length - 1 < es.length := by omega
    obtain ⟨l, hl⟩ : ∃ l, es.getLast? = some l := ⟨_, List.getLast?_eq_getElem? ▸ List.getElem?_eq_getElem hp⟩
    have hg := last_get hl
    rw [hE.len, len_pred (by omega) hn]
    refine (hE.len ▸ hE2.ix) rfl hg fun a ha => ?_
    refine hE2.ldN ha hg ?_
    refine (k1.drew).sta _ rfl rfl fun w5 k5 u5 => ⟨trivial, k5.ld3 (h1 l hl w5 (Gro.fresh (Gro.refl w) (u1.trans (Gro.drew _)) u5 e1))⟩

theorem table_Table_All.cl {w : World} {t : Option Addr} {k : TR [(false, [.any])] → World → Prop}
    (hk : ∀ pb w', w.heap.size = pb → Gro w w' → Blk w' pb [.pointer t] → k ((.func (.func F.table_Table_All_1) #[] #[.pointer (some ⟨pb, 0, none⟩)], ()), ()) w') :
    clS Tryz.prog F.table_Table_All [.pointer t] w false [(false, [.any])] k := by
  refine table_Table_All.ok ?_
  unfold table_Table_All.wp
  exact alK_by fun pb w' e k1 u1 => hk pb w' e u1 k1

theorem table_Table_All_1.itsV {w : World} {pb : Nat} {t : Option Addr} {s : Sl} {es : List E3} {M : Nat → Prop} {V : TR RS3 → Prop} (hV : ∀ e ∈ es, V (tup3 e)) (hp : Blk w pb [.pointer t]) (hT : TV w t s es) (hn : es.length ≤ 1000000000)
    (hMp : ¬ M pb) (hMt : ∀ a, t = some a → ¬ M a.block) (hMs : es ≠ [] → ∀ a, s.1 = some a → ¬ M a.block) :
    ItS Tryz.prog (.func (.func F.table_Table_All_1) #[] #[.pointer (some ⟨pb, 0, none⟩)]) RS3 V (es.map tup3) M w := by
  refine its_by (by kernel_rfl) fun l J Jx W g hJ hJx hY h0 => ?_
  refine table_Table_All_1.ok ?_
  unfold table_Table_All_1.wp
  refine (hp.gro g).p0 ?_
  refine table_Table_Len.cl (hT.gro g) ?_
  refine LoopT.by (fun z W' => ∃ i : Nat, z = ((i : Int), ()) ∧ i ≤ es.length ∧ J ((es.map tup3).take i) W' ∧ Blk W' pb [.pointer t] ∧ TV W' t s es)
    (fun z => (1000000000 - z.1).toNat) ⟨0, rfl, by omega, by simpa using h0, hp.gro g, hT.gro g⟩ ?_
  rintro z W6 ⟨i, rfl, hi, hj, hpb, hTV⟩ _
  refine brD (fun c => ?_) fun c => ?_
  · have hi' : i < es.length := by have c : (i : Int) < (es.length : Int) := c; omega
    have he : es[i]? = some es[i] := List.getElem?_eq_getElem hi'
    generalize es[i] = e at he
    refine hpb.p0 ?_
    rcases hTV with ⟨rfl, rfl, rfl⟩ | ⟨bt, rfl, hb, hE⟩
    · cases he
    rw [ncK_eq]
    refine hb.sl0 (hE.ix rfl he fun a ha => hE.ldN ha he ?_)
    show yiS Tryz.prog l (encL RS3 (tup3 e)) W6 _
    have ht : (es.map tup3).take i ++ [tup3 e] = (es.map tup3).take (i + 1) := by
      rw [List.take_add_one, List.getElem?_map, he]; rfl
    refine hY _ (tup3 e) W6 _ (hV e (List.mem_of_getElem? he)) hj (by rw [List.length_take, List.length_map]; omega) (fun W2 hj2 kp => ?_) fun W2 hj2 => ?_
    · rw [ht] at hj2
      refine ⟨⟨i + 1, ?_, by omega, hj2, KpM.blk hpb kp hp.lt hMp, ?_⟩, ?_⟩
      · show (IntKind.wrap .i64 ((i : Int) + 1), ()) = _
        rw [len_succ (by omega)]
      · exact TV.keep (.inr ⟨bt, rfl, hb, hE⟩) kp (fun a ha => ⟨hT.lt.1 a ha, hMt a ha⟩) fun hne a ha => ⟨hT.lt.2 hne a ha, hMs hne a ha⟩
      · show (1000000000 - IntKind.wrap .i64 ((i : Int) + 1)).toNat < (1000000000 - (i : Int)).toNat
        rw [len_succ (by omega)]; omega
    · refine .inr ⟨_, List.take_prefix (i + 1) (es.map tup3), ?_⟩
      rw [ht] at hj2; exact hj2
  · have hi' : i = es.length := by have c : ¬ (i : Int) < (es.length : Int) := c; omega
    subst hi'
    rw [← List.length_map (f := tup3), List.take_length] at hj
    exact .inl hj

theorem table_Table_All_1.its {w : World} {pb : Nat} {t : Option Addr} {s : Sl} {es : List E3} {M : Nat → Prop} (hp : Blk w pb [.pointer t]) (hT : TV w t s es) (hn : es.length ≤ 1000000000)
    (hMp : ¬ M pb) (hMt : ∀ a, t = some a → ¬ M a.block) (hMs : es ≠ [] → ∀ a, s.1 = some a → ¬ M a.block) :
    ItS Tryz.prog (.func (.func F.table_Table_All_1) #[] #[.pointer (some ⟨pb, 0, none⟩)]) RS3 (fun _ => True) (es.map tup3) M w := table_Table_All_1.itsV (fun _ _ => trivial) hp hT hn hMp hMt hMs

/-! ### Hops -/
def mxH (m : Int) (e : E3) : Int := if e.2.2 > m then e.2.2 else m
def maxH (es : List E3) : Int := es.foldl mxH 0
theorem maxH_snoc (es : List E3) (e : E3) : maxH (es ++ [e]) = mxH (maxH es) e := by simp [maxH]

theorem table_Table_Hops.cl {w : World} {t : Option Addr} {s : Sl} {es : List E3} (hT : TV w t s es) (hn : es.length ≤ 1000000000) {k : TR [(false, [.i .i64])] → World → Prop}
    (hk : ∀ w', Gro w w' → k ((maxH es, ()), ()) w') : clS Tryz.prog F.table_Table_Hops [.pointer t] w false [(false, [.i .i64])] k := by
  refine table_Table_Hops.ok ?_
  unfold table_Table_Hops.wp
  refine alK_by fun p1 w2 e1 k1 u1 => k1.sta _ rfl rfl fun w3 k3 u3 => ?_
  have g3 : Gro w w3 := Gro.fresh (Gro.refl w) u1 u3 e1
  refine table_Table_All.cl fun pb w5 e5 u5 k5 => ?_
  have g5 := g3.trans u5
  have s3 := k3.lt
  have k3 := k3.gro u5
  have l5 := k5.lt
  have hne : ∀ b, b < w.heap.size → b ≠ p1 := fun b h => by omega
  refine ⟨fun _ => True, es.map tup3, fun z => z = p1, fun pre W => Gro w W ∧ Blk W p1 [.int .i64 (maxH (pre.map un3))], fun _ _ _ => False,
    table_Table_All_1.its k5 (hT.gro g5) hn (by omega) (fun a ha => hne _ (hT.lt.1 a ha)) (fun h a ha => hne _ (hT.lt.2 h a ha)), fun W tu => ⟨g5.turn tu g5.size, k3.turn tu⟩, ?_, ?_, fun s hs => by cases hs⟩
  · intro x W _ hs
    refine alK_by fun p14 w15 e15 k15 u15 => k15.sta _ rfl rfl fun w16 k16 u16 => asg_gro (Gro.fresh (Gro.refl W) u15 u16 e15) ?_
    intro W2 tu pre hi hl
    have hb := hi.2
    have k2 := k16.turn tu
    refine hb.i0 rfl (k2.i1 2 rfl (hb.s0 (by simp) fun w19 k19 u19 => ⟨Rnd.low1 u19 (by have := u5.size; omega) rfl, fun W4 t4 => ⟨?_, ?_⟩⟩))
    · exact (Upd.trans hi.1 u19 fun i h e => absurd e (hne i h)).turn t4 g5.size
    · rw [List.map_append, List.map_cons, List.map_nil, maxH_snoc]
      exact k19.turn t4
  · rintro D W hD ⟨hg, hb⟩ hm
    rw [un3_map] at hb
    refine hb.i0 rfl (tkK_by hm fun w' ht => hk w' (hg.turn (ht w.heap.size ?_) (Nat.le_refl _)))
    exact Nat.le_trans g5.size hD

/-! ### List -/
set_option maxRecDepth 20000 in
theorem slices_AppendSeq.cl {w : World} {gv : Value} {es : List E3} (hn : es.length ≤ 1000000000) (hits : ∀ M W, Gro w W → (∀ z, M z → w.heap.size ≤ z) → ItS Tryz.prog gv RS3 (fun _ => True) (es.map tup3) M W)
    {k : TR [(false, [.sl])] → World → Prop} (hk : ∀ (s : Sl) w', Gro w w' → OwnR w' w.heap.size T.table_Entry 3 s es.length (flat3 es) → k ((s, ()), ()) w') :
    clS Tryz.prog F.slices_AppendSeq_table_Entry_table_Entry [.slice none 0 0, gv] w false [(false, [.sl])] k := by
  refine slices_AppendSeq_table_Entry_table_Entry.ok (s := (none, 0, 0)) ?_
  unfold slices_AppendSeq_table_Entry_table_Entry.wp
  refine alK_by fun p1 w2 e1 k1 u1 => ?_
  have l1 := k1.lt
  have hne : ∀ b, b < w.heap.size → b ≠ p1 := fun b h => by omega
  refine ⟨fun _ => True, es.map tup3, fun z => z = p1, fun pre W => Gro w W ∧ ∃ s : Sl, Blk W p1 [.slice s.1 s.2.1 s.2.2] ∧ OwnR W w2.heap.size T.table_Entry 3 s pre.length (flat3 (pre.map un3)), fun _ _ _ => False,
    hits _ _ u1 (fun z hz => by omega), fun W tu => ⟨u1.turn tu u1.size, (none, 0, 0), k1.turn tu, OwnR.nil _ _ _ _⟩, ?_, ?_, fun s hs => by cases hs⟩
  · intro x W _ hs
    refine alK_by fun p14 w15 e15 k15 u15 => k15.sta _ rfl rfl fun w16 k16 u16 => asg_gro (Gro.fresh (Gro.refl W) u15 u16 e15) ?_
    rintro W2 tu pre ⟨hg, s, hb, ho⟩ hl
    rw [List.length_map] at hl
    have k2 := k16.turn tu
    refine hb.sl0 (k2.ld3 (alK_by fun p16 w17 e17 k17 u17 => ?_))
    have hg17 := hg.trans u17
    refine ap_own (x := (some ⟨p16, 0, none⟩, 1, 1)) (e := T.table_Entry) (size := 3) (news := flat3 [un3 x]) (by kernel_rfl) (by kernel_rfl) (by decide) (ho.gro u17) ?_ ?_ ?_ ?_ ?_
    · exact ⟨rfl, fun _ => ⟨_, rfl, k17.news⟩⟩
    · simp [flat3, Value.oneCell']
    · show pre.length + 1 ≤ _; omega
    · exact Nat.le_trans (Nat.le_trans hs (Nat.le_trans u15.size (Nat.le_trans u16.size tu.size))) u17.size
    · intro s' w19 ho' u19 hbl
      have own1 : ∀ a, s.1 = some a → w2.heap.size ≤ a.block := fun a ha => (ho.blk ha).1
      have hb19 : Blk w19 p1 [.slice s.1 s.2.1 s.2.2] := (hb.gro u17).upd u19 (by rintro ⟨a, ha, e⟩; have := own1 a ha; omega)
      refine hb19.sta _ rfl rfl fun w20 k20 u20 => ?_
      have U : Upd (fun z => z = p1 ∨ ∃ a, s.1 = some a ∧ a.block = z) W2 w20 :=
        ((Upd.of_gro u17).trans u19 fun _ _ h => .inr h).trans u20 fun _ _ h => .inl h
      refine ⟨Rnd.of U ?_, fun W4 t4 => ⟨?_, s', k20.turn t4, ?_⟩⟩
      · rintro z (rfl | ⟨a, ha, rfl⟩) hz
        · exact ⟨fun _ => rfl, fun h => by omega⟩
        · exact ⟨fun h => by have := own1 a ha; omega, fun _ => ho.cells ha⟩
      · refine (Upd.trans hg U fun i hi h => ?_).turn t4 u1.size
        rcases h with h | ⟨a, ha, h⟩
        · omega
        · have := own1 a ha; have := u1.size; omega
      · rw [List.map_append, flat3_append, List.length_append]
        refine (ho'.upd u20 fun a ha e => ?_).turn t4
        rcases hbl a ha with ⟨a0, h0, e0⟩ | h
        · have := own1 a0 h0; omega
        · have := hb.lt; have := u17.size; omega
  · rintro D W hD ⟨hg, s, hb, ho⟩ hm
    rw [un3_map, List.length_map] at ho
    refine hb.sl0 (tkK_by hm fun w' ht => hk s w' (hg.turn (ht w.heap.size ?_) (Nat.le_refl _)) ?_)
    · exact Nat.le_trans u1.size hD
    · exact (ho.turn (ht _ hD)).rebase fun a ha => Nat.le_trans u1.size (ho.blk ha).1
theorem slices_Collect.cl {w : World} {gv : Value} {es : List E3} (hn : es.length ≤ 1000000000) (hits : ∀ M W, Gro w W → (∀ z, M z → w.heap.size ≤ z) → ItS Tryz.prog gv RS3 (fun _ => True) (es.map tup3) M W)
    {k : TR [(false, [.sl])] → World → Prop} (hk : ∀ (s : Sl) w', Gro w w' → OwnR w' w.heap.size T.table_Entry 3 s es.length (flat3 es) → k ((s, ()), ()) w') :
    clS Tryz.prog F.slices_Collect_table_Entry [gv] w false [(false, [.sl])] k := by
  refine slices_Collect_table_Entry.ok ?_
  unfold slices_Collect_table_Entry.wp
  exact slices_AppendSeq.cl hn hits hk

theorem table_Table_List.cl {w : World} {t : Option Addr} {s : Sl} {es : List E3} (hT : TV w t s es) (hn : es.length ≤ 1000000000)
    {k : TR [(false, [.sl])] → World → Prop} (hk : ∀ (s : Sl) w', Gro w w' → OwnR w' w.heap.size T.table_Entry 3 s es.length (flat3 es) → k ((s, ()), ()) w') :
    clS Tryz.prog F.table_Table_List [.pointer t] w false [(false, [.sl])] k := by
  refine table_Table_List.ok ?_
  unfold table_Table_List.wp
  refine table_Table_All.cl fun pb w5 e5 u5 k5 => ?_
  refine slices_Collect.cl hn (fun M W g hM => ?_) fun s' w' g ho => hk s' w' (u5.trans g) (ho.rebase fun a ha => Nat.le_trans u5.size (ho.blk ha).1)
  have hlt : ∀ b, b < w5.heap.size → ¬ M b := fun b hb h => by have := hM b h; omega
  have hT5 := hT.gro u5
  exact table_Table_All_1.its (k5.gro g) (hT5.gro g) hn (hlt _ k5.lt) (fun a ha => hlt _ (hT5.lt.1 a ha)) fun hne a ha => hlt _ (hT5.lt.2 hne a ha)
end Go.Proofs.YtahojpppjpfjmaaGreat
