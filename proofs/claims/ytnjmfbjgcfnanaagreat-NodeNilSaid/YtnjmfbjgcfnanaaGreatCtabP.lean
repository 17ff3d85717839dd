/- Contracts of layer 12, part A: a table read: Len, Last, All, Hops, List. Conditions: none. -/
import Derived.Test.YtnjmfbjgcfnanaaGreatCsloP
import Derived.Test.YtnjmfbjgcfnanaaGreatEngU
namespace Go.Proofs.YtnjmfbjgcfnanaaGreat
open Go.Eng Go
set_option linter.unusedVariables false
set_option linter.unusedSimpArgs false

abbrev RS3 : List (Bool × List CK) := [(true, [.i .i64, .i .i64, .i .i64])]
def tup3 (e : E3) : TR RS3 := ((e.1, e.2.1, e.2.2, ()), ())
def un3 (x : TR RS3) : E3 := (x.1.1, x.1.2.1, x.1.2.2.1)
theorem un3_tup3 (e : E3) : un3 (tup3 e) = e := rfl
theorem un3_map (es : List E3) : (es.map tup3).map un3 = es := by rw [List.map_map]; exact (List.map_congr_left fun e _ => un3_tup3 e).trans (List.map_id es)

/-- a cell that holds a slice -/
def Slot (w : World) (a : Addr) (s : Sl) : Prop := w.cell? a = some (.slice s.1 s.2.1 s.2.2)
theorem Slot.gro {w w' : World} {a : Addr} {s : Sl} (h : Slot w a s) (u : Gro w w') : Slot w' a s := cell_gro h u
theorem Slot.drew {w : World} {a : Addr} {s : Sl} (h : Slot w a s) : Slot w.drew a s := cell_gro h (Gro.drew w)
theorem Slot.lt {w : World} {a : Addr} {s : Sl} (h : Slot w a s) : a.block < w.heap.size := cell_lt h
theorem Slot.sl0 {w : World} {a : Addr} {s : Sl} (h : Slot w a s) {k : Sl → Prop} (hk : k s) : ld1 .sl a w k := ld1_cell (x := s) h rfl hk
theorem Blk.slotG {w : World} {b : Nat} {s : Sl} (pre post : List Value) (h : Blk w b (pre ++ .slice s.1 s.2.1 s.2.2 :: post)) : Slot w ⟨b, pre.length, none⟩ s := by
  unfold Slot; rw [h.cell, List.getElem?_append_right (Nat.le_refl _), Nat.sub_self]; rfl
/-- a table with these entries, or none at all -/
def TV (w : World) (t : Option Addr) (s : Sl) (es : List E3) : Prop :=
  (t = none ∧ s = (none, 0, 0) ∧ es = []) ∨ ∃ bt : Addr, t = some bt ∧ Slot w bt s ∧ Ents w s es
theorem TV.gro {w w' : World} {t : Option Addr} {s : Sl} {es : List E3} (h : TV w t s es) (u : Gro w w') : TV w' t s es := by
  rcases h with h | ⟨bt, h1, h2, h3⟩
  · exact .inl h
  · exact .inr ⟨bt, h1, h2.gro u, h3.gro u⟩
theorem TV.len {w : World} {t : Option Addr} {s : Sl} {es : List E3} (h : TV w t s es) : s.2.1 = es.length := by
  rcases h with ⟨rfl, rfl, rfl⟩ | ⟨bt, h1, h2, h3⟩
  · rfl
  · exact h3.len
/-- its blocks are there -/
theorem TV.lt {w : World} {t : Option Addr} {s : Sl} {es : List E3} (h : TV w t s es) : (∀ a, t = some a → a.block < w.heap.size) ∧ (es ≠ [] → ∀ a, s.1 = some a → a.block < w.heap.size) := by
  rcases h with ⟨rfl, rfl, rfl⟩ | ⟨bt, rfl, h2, h3⟩
  · exact ⟨(fun a h => by cases h), fun h => absurd rfl h⟩
  · refine ⟨(fun a h => by cases h; exact h2.lt), fun hn a ha => ?_⟩
    have hp : 0 < es.length := List.length_pos_iff.2 hn
    have := (h3.cell ha (List.getElem?_eq_getElem hp)).1
    have := cell_lt this
    rwa [add_block] at this
/-- kept by what leaves its blocks alone -/
theorem TV.keep {B : Nat} {M : Nat → Prop} {w w' : World} {t : Option Addr} {s : Sl} {es : List E3} (h : TV w t s es) (u : KpM B M w w') (ht : ∀ a, t = some a → a.block < B ∧ ¬ M a.block) (hs : es ≠ [] → ∀ a, s.1 = some a → a.block < B ∧ ¬ M a.block) : TV w' t s es := by
  rcases h with ⟨rfl, rfl, rfl⟩ | ⟨bt, rfl, h2, h3⟩
  · exact .inl ⟨rfl, rfl, rfl⟩
  · refine .inr ⟨bt, rfl, KpM.cell h2 u (ht _ rfl).1 (ht _ rfl).2, KpM.row h3 u fun hx => hs ?_⟩
    intro e; subst e; exact hx rfl

theorem table_Table_Len.cl {w : World} {t : Option Addr} {s : Sl} {es : List E3} (hT : TV w t s es) {k : TR [(false, [.i .i64])] → World → Prop} (hk : k (((es.length : Int), ()), ()) w) :
    clS Tryz.prog F.table_Table_Len [.pointer t] w false [(false, [.i .i64])] k := by
  refine table_Table_Len.ok ?_
  unfold table_Table_Len.wp
  rcases hT with ⟨rfl, rfl, rfl⟩ | ⟨bt, rfl, hb, hE⟩
  · exact hk
  · refine brF rfl ?_
    rw [ncK_eq]
    refine hb.sl0 ?_
    rw [hE.len]; exact hk

theorem last_get {es : List E3} {l : E3} (h : es.getLast? = some l) : es[es.length - 1]? = some l := by rw [← List.getLast?_eq_getElem?]; exact h
theorem len_pred {n : Nat} (h0 : 0 < n) (h1 : n ≤ 1000000000) : IntKind.wrap .i64 ((n : Int) - 1) = ((n - 1 : Nat) : Int) := by
  rw [w64_in (by unfold I64; omega)]; omega
theorem len_succ {n : Nat} (h1 : n ≤ 1000000000) : IntKind.wrap .i64 ((n : Int) + 1) = ((n + 1 : Nat) : Int) := by
  rw [w64_in (by unfold I64; omega)]; rfl

theorem table_Table_Last.cl {w : World} {t : Option Addr} {s : Sl} {es : List E3} (hT : TV w t s es) (hn : es.length ≤ 1000000000) {k : TR [(true, [.i .i64, .i .i64, .i .i64]), (false, [.b])] → World → Prop}
    (h0 : es = [] → ∀ w', Gro w w' → k ((0, 0, 0, ()), (false, ()), ()) w') (h1 : ∀ l, es.getLast? = some l → ∀ w', Gro w w' → k ((l.1, l.2.1, l.2.2, ()), (true, ()), ()) w') :
    clS Tryz.prog F.table_Table_Last [.pointer t] w true [(true, [.i .i64, .i .i64, .i .i64]), (false, [.b])] k := by
  refine table_Table_Last.ok ?_
  unfold table_Table_Last.wp
  refine alK_by fun p1 w2 e1 k1 u1 => table_Table_Len.cl (hT.gro u1) ?_
  refine brE (fun c => ?_) fun c => ?_
  · refine k1.sta _ rfl rfl fun w5 k5 u5 => k5.ld3 (h0 ?_ w5 (Gro.fresh (Gro.refl w) u1 u5 e1))
    have c : (es.length : Int) = 0 := c
    exact List.eq_nil_of_length_eq_zero (by omega)
  · have c : (es.length : Int) ≠ 0 := c
    rcases hT with ⟨rfl, rfl, rfl⟩ | ⟨bt, rfl, hb, hE⟩
    · exact absurd rfl c
    rw [drK_eq, ncK_eq]
    have hb2 := (hb.gro u1).drew
    have hE2 := (hE.gro u1).drew
    refine hb2.sl0 ?_
    rw [ncK_eq]
    refine hb2.sl0 ?_
    have hp : es.length - 1 < es.length := by omega
    obtain ⟨l, hl⟩ : ∃ l, es.getLast? = some l := ⟨_, List.getLast?_eq_getElem? ▸ List.getElem?_eq_getElem hp⟩
    have hg := last_get hl
    rw [hE.len, len_pred (by omega) hn]
    refine (hE.len ▸ hE2.ix) rfl hg fun a ha => ?_
    refine hE2.ldN ha hg ?_
    refine (k1.drew).sta _ rfl rfl fun w5 k5 u5 => ⟨trivial, k5.ld3 (h1 l hl w5 (Gro.fresh (Gro.refl w) (u1.trans (Gro.drew _)) u5 e1))⟩

theorem table_Table_All.cl {w : World} {t : Option Addr} {k : TR [(false, [.any])] → World → Prop}
    (hk : ∀ pb w', w.heap.size = pb → Gro w w' → Blk w' pb [.pointer t] → k ((.func (.func F.table_Table_All_1) #[] #[.pointer (some ⟨pb, 0, none⟩)], ()), ()) w') :
    clS Tryz.prog F.table_Table_All [.pointer t] w false [(false, [.any])] k := by
  refine table_Table_All.ok ?_
  unfold table_Table_All.wp
  exact alK_by fun pb w' e k1 u1 => hk pb w' e u1 k1

theorem table_Table_All_1.itsV {w : World} {pb : Nat} {t : Option Addr} {s : Sl} {es : List E3} {M : Nat → Prop} {V : TR RS3 → Prop} (hV : ∀ e ∈ es, V (tup3 e)) (hp : Blk w pb [.pointer t]) (hT : TV w t s es) (hn : es.length ≤ 1000000000)
    (hMp : ¬ M pb) (hMt : ∀ a, t = some a → ¬ M a.block) (hMs : es ≠ [] → ∀ a, s.1 = some a → ¬ M a.block) :
    ItS Tryz.prog (.func (.func F.table_Table_All_1) #[] #[.pointer (some ⟨pb, 0, none⟩)]) RS3 V (es.map tup3) M w := by
  refine its_by (by kernel_rfl) fun l J Jx W g hJ hJx hY h0 => ?_
  refine table_Table_All_1.ok ?_
  unfold table_Table_All_1.wp
  refine (hp.gro g).p0 ?_
  refine table_Table_Len.cl (hT.gro g) ?_
  refine LoopT.by (fun z W' => ∃ i : Nat, z = ((i : Int), ()) ∧ i ≤ es.length ∧ J ((es.map tup3).take i) W' ∧ Blk W' pb [.pointer t] ∧ TV W' t s es)
    (fun z => (1000000000 - z.1).toNat) ⟨0, rfl, by omega, by simpa using h0, hp.gro g, hT.gro g⟩ ?_
  rintro z W6 ⟨i, rfl, hi, hj, hpb, hTV⟩ _
  refine brD (fun c => ?_) fun c => ?_
  · have hi' : i < es.length := by have c : (i : Int) < (es.length : Int) := c; omega
    have he : es[i]? = some es[i] := List.getElem?_eq_getElem hi'
    generalize es[i] = e at he
    refine hpb.p0 ?_
    rcases hTV with ⟨rfl, rfl, rfl⟩ | ⟨bt, rfl, hb, hE⟩
    · cases he
    rw [ncK_eq]
    refine hb.sl0 (hE.ix rfl he fun a ha => hE.ldN ha he ?_)
    show yiS Tryz.prog l (encL RS3 (tup3 e)) W6 _
    have ht : (es.map tup3).take i ++ [tup3 e] = (es.map tup3).take (i + 1) := by
      rw [List.take_add_one, List.getElem?_map, he]; rfl
    refine hY _ (tup3 e) W6 _ (hV e (List.mem_of_getElem? he)) hj (by rw [List.length_take, List.length_map]; omega) (fun W2 hj2 kp => ?_) fun W2 hj2 => ?_
    · rw [ht] at hj2
      refine ⟨⟨i + 1, ?_, by omega, hj2, KpM.blk hpb kp hp.lt hMp, ?_⟩, ?_⟩
      · show (IntKind.wrap .i64 ((i : Int) + 1), ()) = _
        rw [len_succ (by omega)]
      · exact TV.keep (.inr ⟨bt, rfl, hb, hE⟩) kp (fun a ha => ⟨hT.lt.1 a ha, hMt a ha⟩) fun hne a ha => ⟨hT.lt.2 hne a ha, hMs hne a ha⟩
      · show (1000000000 - IntKind.wrap .i64 ((i : Int) + 1)).toNat < (1000000000 - (i : Int)).toNat
        rw [len_succ (by omega)]; omega
    · refine .inr ⟨_, List.take_prefix (i + 1) (es.map tup3), ?_⟩
      rw [ht] at hj2; exact hj2
  · have hi' : i = es.length := by have c : ¬ (i : Int) < (es.length : Int) := c; omega
    subst hi'
    rw [← List.length_map (f := tup3), List.take_length] at hj
    exact .inl hj

theorem table_Table_All_1.its {w : World} {pb : Nat} {t : Option Addr} {s : Sl} {es : List E3} {M : Nat → Prop} (hp : Blk w pb [.pointer t]) (hT : TV w t s es) (hn : es.length ≤ 1000000000)
    (hMp : ¬ M pb) (hMt : ∀ a, t = some a → ¬ M a.block) (hMs : es ≠ [] → ∀ a, s.1 = some a → ¬ M a.block) :
    ItS Tryz.prog (.func (.func F.table_Table_All_1) #[] #[.pointer (some ⟨pb, 0, none⟩)]) RS3 (fun _ => True) (es.map tup3) M w := table_Table_All_1.itsV (fun _ _ => trivial) hp hT hn hMp hMt hMs

/-! ### Hops -/
def mxH (m : Int) (e : E3) : Int := if e.2.2 > m then e.2.2 else m
def maxH (es : List E3) : Int := es.foldl mxH 0
theorem maxH_snoc (es : List E3) (e : E3) : maxH (es ++ [e]) = mxH (maxH es) e := by simp [maxH]

theorem table_Table_Hops.cl {w : World} {t : Option Addr} {s : Sl} {es : List E3} (hT : TV w t s es) (hn : es.length ≤ 1000000000) {k : TR [(false, [.i .i64])] → World → Prop}
    (hk : ∀ w', Gro w w' → k ((maxH es, ()), ()) w') : clS Tryz.prog F.table_Table_Hops [.pointer t] w false [(false, [.i .i64])] k := by
  refine table_Table_Hops.ok ?_
  unfold table_Table_Hops.wp
  refine alK_by fun p1 w2 e1 k1 u1 => k1.sta _ rfl rfl fun w3 k3 u3 => ?_
  have g3 : Gro w w3 := Gro.fresh (Gro.refl w) u1 u3 e1
  refine table_Table_All.cl fun pb w5 e5 u5 k5 => ?_
  have g5 := g3.trans u5
  have s3 := k3.lt
  have k3 := k3.gro u5
  have l5 := k5.lt
  have hne : ∀ b, b < w.heap.size → b ≠ p1 := fun b h => by omega
  refine ⟨fun _ => True, es.map tup3, fun z => z = p1, fun pre W => Gro w W ∧ Blk W p1 [.int .i64 (maxH (pre.map un3))], fun _ _ _ => False,
    table_Table_All_1.its k5 (hT.gro g5) hn (by omega) (fun a ha => hne _ (hT.lt.1 a ha)) (fun h a ha => hne _ (hT.lt.2 h a ha)), fun W tu => ⟨g5.turn tu g5.size, k3.turn tu⟩, ?_, ?_, fun s hs => by cases hs⟩
  · intro x W _ hs
    refine alK_by fun p14 w15 e15 k15 u15 => k15.sta _ rfl rfl fun w16 k16 u16 => asg_gro (Gro.fresh (Gro.refl W) u15 u16 e15) ?_
    intro W2 tu pre hi hl
    have hb := hi.2
    have k2 := k16.turn tu
    refine hb.i0 rfl (k2.i1 2 rfl (hb.s0 (by simp) fun w19 k19 u19 => ⟨Rnd.low1 u19 (by have := u5.size; omega) rfl, fun W4 t4 => ⟨?_, ?_⟩⟩))
    · exact (Upd.trans hi.1 u19 fun i h e => absurd e (hne i h)).turn t4 g5.size
    · rw [List.map_append, List.map_cons, List.map_nil, maxH_snoc]
      exact k19.turn t4
  · rintro D W hD ⟨hg, hb⟩ hm
    rw [un3_map] at hb
    refine hb.i0 rfl (tkK_by hm fun w' ht => hk w' (hg.turn (ht w.heap.size ?_) (Nat.le_refl _)))
    exact Nat.le_trans g5.size hD

/-! ### List -/
set_option maxRecDepth 20000 in
theorem slices_AppendSeq.cl {w : World} {gv : Value} {es : List E3} (hn : es.length ≤ 1000000000) (hits : ∀ M W, Gro w W → (∀ z, M z → w.heap.size ≤ z) → ItS Tryz.prog gv RS3 (fun _ => True) (es.map tup3) M W)
    {k : TR [(false, [.sl])] → World → Prop} (hk : ∀ (s : Sl) w', Gro w w' → OwnR w' w.heap.size T.table_Entry 3 s es.length (flat3 es) → k ((s, ()), ()) w') :
    clS Tryz.prog F.slices_AppendSeq_table_Entry_table_Entry [.slice none 0 0, gv] w false [(false, [.sl])] k := by
  refine slices_AppendSeq_table_Entry_table_Entry.ok (s := (none, 0, 0)) ?_
  unfold slices_AppendSeq_table_Entry_table_Entry.wp
  refine alK_by fun p1 w2 e1 k1 u1 => ?_
  have l1 := k1.lt
  have hne : ∀ b, b < w.heap.size → b ≠ p1 := fun b h => by omega
  refine ⟨fun _ => True, es.map tup3, fun z => z = p1, fun pre W => Gro w W ∧ ∃ s : Sl, Blk W p1 [.slice s.1 s.2.1 s.2.2] ∧ OwnR W w2.heap.size T.table_Entry 3 s pre.length (flat3 (pre.map un3)), fun _ _ _ => False,
    hits _ _ u1 (fun z hz => by omega), fun W tu => ⟨u1.turn tu u1.size, (none, 0, 0), k1.turn tu, OwnR.nil _ _ _ _⟩, ?_, ?_, fun s hs => by cases hs⟩
  · intro x W _ hs
    refine alK_by fun p14 w15 e15 k15 u15 => k15.sta _ rfl rfl fun w16 k16 u16 => asg_gro (Gro.fresh (Gro.refl W) u15 u16 e15) ?_
    rintro W2 tu pre ⟨hg, s, hb, ho⟩ hl
    rw [List.length_map] at hl
    have k2 := k16.turn tu
    refine hb.sl0 (k2.ld3 (alK_by fun p16 w17 e17 k17 u17 => ?_))
    have hg17 := hg.trans u17
    refine ap_own (x := (some ⟨p16, 0, none⟩, 1, 1)) (e := T.table_Entry) (size := 3) (news := flat3 [un3 x]) (by kernel_rfl) (by kernel_rfl) (by decide) (ho.gro u17) ?_ ?_ ?_ ?_ ?_
    · exact ⟨rfl, fun _ => ⟨_, rfl, k17.news⟩⟩
    · simp [flat3, Value.oneCell']
    · show pre.length + 1 ≤ _; omega
    · exact Nat.le_trans (Nat.le_trans hs (Nat.le_trans u15.size (Nat.le_trans u16.size tu.size))) u17.size
    · intro s' w19 ho' u19 hbl
      have own1 : ∀ a, s.1 = some a → w2.heap.size ≤ a.block := fun a ha => (ho.blk ha).1
      have hb19 : Blk w19 p1 [.slice s.1 s.2.1 s.2.2] := (hb.gro u17).upd u19 (by rintro ⟨a, ha, e⟩; have := own1 a ha; omega)
      refine hb19.sta _ rfl rfl fun w20 k20 u20 => ?_
      have U : Upd (fun z => z = p1 ∨ ∃ a, s.1 = some a ∧ a.block = z) W2 w20 :=
        ((Upd.of_gro u17).trans u19 fun _ _ h => .inr h).trans u20 fun _ _ h => .inl h
      refine ⟨Rnd.of U ?_, fun W4 t4 => ⟨?_, s', k20.turn t4, ?_⟩⟩
      · rintro z (rfl | ⟨a, ha, rfl⟩) hz
        · exact ⟨fun _ => rfl, fun h => by omega⟩
        · exact ⟨fun h => by have := own1 a ha; omega, fun _ => ho.cells ha⟩
      · refine (Upd.trans hg U fun i hi h => ?_).turn t4 u1.size
        rcases h with h | ⟨a, ha, h⟩
        · omega
        · have := own1 a ha; have := u1.size; omega
      · rw [List.map_append, flat3_append, List.length_append]
        refine (ho'.upd u20 fun a ha e => ?_).turn t4
        rcases hbl a ha with ⟨a0, h0, e0⟩ | h
        · have := own1 a0 h0; omega
        · have := hb.lt; have := u17.size; omega
  · rintro D W hD ⟨hg, s, hb, ho⟩ hm
    rw [un3_map, List.length_map] at ho
    refine hb.sl0 (tkK_by hm fun w' ht => hk s w' (hg.turn (ht w.heap.size ?_) (Nat.le_refl _)) ?_)
    · exact Nat.le_trans u1.size hD
    · exact (ho.turn (ht _ hD)).rebase fun a ha => Nat.le_trans u1.size (ho.blk ha).1
theorem slices_Collect.cl {w : World} {gv : Value} {es : List E3} (hn : es.length ≤ 1000000000) (hits : ∀ M W, Gro w W → (∀ z, M z → w.heap.size ≤ z) → ItS Tryz.prog gv RS3 (fun _ => True) (es.map tup3) M W)
    {k : TR [(false, [.sl])] → World → Prop} (hk : ∀ (s : Sl) w', Gro w w' → OwnR w' w.heap.size T.table_Entry 3 s es.length (flat3 es) → k ((s, ()), ()) w') :
    clS Tryz.prog F.slices_Collect_table_Entry [gv] w false [(false, [.sl])] k := by
  refine slices_Collect_table_Entry.ok ?_
  unfold slices_Collect_table_Entry.wp
  exact slices_AppendSeq.cl hn hits hk

theorem table_Table_List.cl {w : World} {t : Option Addr} {s : Sl} {es : List E3} (hT : TV w t s es) (hn : es.length ≤ 1000000000)
    {k : TR [(false, [.sl])] → World → Prop} (hk : ∀ (s : Sl) w', Gro w w' → OwnR w' w.heap.size T.table_Entry 3 s es.length (flat3 es) → k ((s, ()), ()) w') :
    clS Tryz.prog F.table_Table_List [.pointer t] w false [(false, [.sl])] k := by
  refine table_Table_List.ok ?_
  unfold table_Table_List.wp
  refine table_Table_All.cl fun pb w5 e5 u5 k5 => ?_
  refine slices_Collect.cl hn (fun M W g hM => ?_) fun s' w' g ho => hk s' w' (u5.trans g) (ho.rebase fun a ha => Nat.le_trans u5.size (ho.blk ha).1)
  have hlt : ∀ b, b < w5.heap.size → ¬ M b := fun b hb h => by have := hM b h; omega
  have hT5 := hT.gro u5
  exact table_Table_All_1.its (k5.gro g) (hT5.gro g) hn (hlt _ k5.lt) (fun a ha => hlt _ (hT5.lt.1 a ha)) fun hne a ha => hlt _ (hT5.lt.2 hne a ha)
end Go.Proofs.YtnjmfbjgcfnanaaGreat
/- Contracts of layer 12, part B: a table written: Clear, Add; the document's Add and Hops. Conditions: none. -/
namespace Go.Proofs.YtnjmfbjgcfnanaaGreat
open Go.Eng Go
set_option linter.unusedVariables false
set_option linter.unusedSimpArgs false

/-! ### the plain law -/
def tooOld (es : List E3) (e : E3) : Bool := match es.getLast? with | some l => decide (e.1 ≤ l.1) | none => false
def addL (es : List E3) (e : E3) : List E3 := if goodB e = false ∨ tooOld es e = true then es else (es ++ [e]).drop (es.length + 1 - 8)
def addN (es : List E3) (e : E3) : Int := if goodB e = false then 1 else if tooOld es e = true then 12 else 0
theorem addL_len {es : List E3} {e : E3} (h : es.length ≤ 8) : (addL es e).length ≤ 8 := by
  unfold addL; split
  · exact h
  · rw [List.length_drop, List.length_append, List.length_singleton]; omega

/-- A table of one's own within a block: its row lies at or beyond base. -/
def TabG (w : World) (base bt : Nat) (pre post : List Value) (s : Sl) (es : List E3) : Prop := Blk w bt (pre ++ .slice s.1 s.2.1 s.2.2 :: post) ∧ OwnR w base T.table_Entry 3 s es.length (flat3 es) ∧ es.length ≤ 8 ∧ ∀ a, s.1 = some a → a.block ≠ bt
theorem TabG.tv {w : World} {base bt : Nat} {pre post : List Value} {s : Sl} {es : List E3} (h : TabG w base bt pre post s es) : TV w (some ⟨bt, pre.length, none⟩) s es := .inr ⟨_, rfl, Blk.slotG pre post h.1, h.2.1.ents⟩
theorem TabG.upd {S : Nat → Prop} {w w' : World} {base bt : Nat} {pre post : List Value} {s : Sl} {es : List E3} (h : TabG w base bt pre post s es) (u : Upd S w w') (hb : ¬ S bt) (hs : ∀ a, s.1 = some a → ¬ S a.block) : TabG w' base bt pre post s es :=
  ⟨h.1.upd u hb, h.2.1.upd u hs, h.2.2⟩
theorem TabG.gro {w w' : World} {base bt : Nat} {pre post : List Value} {s : Sl} {es : List E3} (h : TabG w base bt pre post s es) (u : Gro w w') : TabG w' base bt pre post s es := h.upd u (fun x => x) fun _ _ x => x
/-- A table of one's own: its row lies at or beyond base. -/
def Tab (w : World) (base bt : Nat) (s : Sl) (es : List E3) : Prop := Blk w bt [.slice s.1 s.2.1 s.2.2] ∧ OwnR w base T.table_Entry 3 s es.length (flat3 es) ∧ es.length ≤ 8 ∧ ∀ a, s.1 = some a → a.block ≠ bt
theorem Tab.g {w : World} {base bt : Nat} {s : Sl} {es : List E3} (h : Tab w base bt s es) : TabG w base bt [] [] s es := h
theorem Tab.tv {w : World} {base bt : Nat} {s : Sl} {es : List E3} (h : Tab w base bt s es) : TV w (some ⟨bt, 0, none⟩) s es := h.g.tv
theorem Tab.upd {S : Nat → Prop} {w w' : World} {base bt : Nat} {s : Sl} {es : List E3} (h : Tab w base bt s es) (u : Upd S w w') (hb : ¬ S bt) (hs : ∀ a, s.1 = some a → ¬ S a.block) : Tab w' base bt s es :=
  ⟨h.1.upd u hb, h.2.1.upd u hs, h.2.2⟩
theorem Tab.gro {w w' : World} {base bt : Nat} {s : Sl} {es : List E3} (h : Tab w base bt s es) (u : Gro w w') : Tab w' base bt s es := h.upd u (fun x => x) fun _ _ x => x
/-- a slice written within a block -/
theorem Blk.stG {b : Nat} {k : World → Prop} (pre post : List Value) {c v : Value} {w : World} (h : Blk w b (pre ++ c :: post)) (hv : okc v = true)
    (hk : ∀ w', Blk w' b (pre ++ v :: post) → Upd (fun x => x = b) w w' → k w') : stN [v] ⟨b, pre.length, none⟩ 0 w k := by
  refine h.st [v] (by rw [List.length_append, List.length_cons]; simp) (by simp [hv]) fun w' k' u => hk w' ?_ u
  have e : splice (pre ++ c :: post) (pre.length + 0) [v] = pre ++ v :: post := by
    simp [splice]
  rwa [e] at k'
theorem Blk.holdG {S : Nat → Prop} {w w' : World} {b : Nat} {c : Value} (pre post : List Value) (h : Blk w b (pre ++ c :: post)) (u : Upd S w w') (hS : ¬ S b) : w'.cell? ⟨b, pre.length, none⟩ = some ((w.cell? ⟨b, pre.length, none⟩).getD undef) := by
  have := h.hold u hS pre.length (by rw [List.length_append, List.length_cons]; omega)
  rwa [add_eq, Nat.zero_add] at this

set_option maxRecDepth 20000 in
theorem slices_Clone.cl {w : World} {x : Sl} {es : List E3} (hr : Ents w x es) (hn : es.length ≤ 1000) (hx : x.1 ≠ none) {k : TR [(false, [.sl])] → World → Prop}
    (hk : ∀ s' w', Gro w w' → OwnR w' w.heap.size T.table_Entry 3 s' es.length (flat3 es) → k ((s', ()), ()) w') :
    clS Tryz.prog F.slices_Clone_table_Entry_table_Entry [.slice x.1 x.2.1 x.2.2] w false [(false, [.sl])] k := by
  refine slices_Clone_table_Entry_table_Entry.ok ?_
  unfold slices_Clone_table_Entry_table_Entry.wp
  refine brF (by cases h : x.1; exact absurd h hx; rfl) ?_
  refine alK_own 3 0 rfl (by omega) fun p1 w2 e1 own0 u1 => ?_
  refine ap_own (s := (some ⟨p1, 0, none⟩, 0, 0)) (x := x) (e := T.table_Entry) (size := 3) (news := flat3 es) (by kernel_rfl) (by kernel_rfl) (by decide) own0 (hr.gro u1) (flat3_one es) ?_ ?_ ?_
  · rw [hr.len]; omega
  · exact Nat.le_of_lt (own0.blk rfl).2.1
  · intro s' w4 ho u4 _
    rw [hr.len, Nat.zero_add, List.nil_append] at ho
    refine hk s' w4 (Upd.trans u1 u4 fun i hi h => ?_) (ho.rebase fun a ha => by have := (ho.blk ha).1; omega)
    obtain ⟨a, ha, h⟩ := h
    cases ha
    have : p1 = i := h
    omega
theorem brOr {x y : Bool} {A B : Prop} (h1 : x = true → A) (h2 : x = false → B) : brB x A B := brC h1 h2
theorem tooOld_some {es : List E3} {e l : E3} (h : es.getLast? = some l) : tooOld es e = decide (e.1 ≤ l.1) := by unfold tooOld; rw [h]

set_option maxRecDepth 20000 in
set_option maxHeartbeats 800000 in
theorem table_Table_Add.clG {w : World} {base bt : Nat} (pre post : List Value) {s : Sl} {es : List E3} {e : E3} (hT : TabG w base bt pre post s es) (hbase : base ≤ w.heap.size) {k : TR [(false, [.i .i64])] → World → Prop}
    (hk : ∀ s' w', TabG w' base bt pre post s' (addL es e) → Upd (fun z => z = bt ∨ ∃ a, s.1 = some a ∧ a.block = z) w w' →
      (∀ a, s'.1 = some a → (∃ a0, s.1 = some a0 ∧ a.block = a0.block) ∨ w.heap.size ≤ a.block) → k ((addN es e, ()), ()) w') :
    clS Tryz.prog F.table_Table_Add [.pointer (some ⟨bt, pre.length, none⟩), .agg #[.int .i64 e.1, .int .i64 e.2.1, .int .i64 e.2.2]] w false [(false, [.i .i64])] k := by
  refine table_Table_Add.ok ?_
  unfold table_Table_Add.wp
  have same : ∀ w', Gro w w' → addL es e = es → k ((addN es e, ()), ()) w' := fun w' g h => hk s w' (by rw [h]; exact hT.gro g) (Upd.of_gro g) fun a ha => .inl ⟨a, ha, rfl⟩
  refine alK_by fun p1 w2 e1 k1 u1 => ?_
  have l1 := k1.lt
  refine CutT.by (fun _ w' => Gro w w' ∧ Blk w' p1 [.int .i64 e.1, .int .i64 e.2.1, .int .i64 e.2.2] ∧ goodB e = true ∧ tooOld es e = false) ?_ ?_
  · have hb : ∀ {w10 : World}, Gro w w10 → Blk w10 p1 [.int .i64 e.1, .int .i64 e.2.1, .int .i64 e.2.2] → ∀ {A : World → Prop},
        (goodB e = true → ∀ w', Gro w w' → Gro w10 w' → Blk w' p1 [.int .i64 e.1, .int .i64 e.2.1, .int .i64 e.2.2] → A w') →
        ldN [.i .i64, .i .i64, .i .i64] ⟨p1, 0, none⟩ 0 w10 fun x11 => clS Tryz.prog F.table_Entry_Good [.agg #[.int .i64 x11.1, .int .i64 x11.2.1, .int .i64 x11.2.2.1]] w10 false [(false, [.b])] fun r12 w13 =>
          brB (!r12.1.1) (k ((1, ()), ()) w13) (A w13) := by
      intro w10 g k1' A hA
      refine k1'.ld3 (table_Entry_Good.cl fun w13 u13 => brNot (fun c => ?_) fun c => hA c w13 (g.trans u13) u13 (k1'.gro u13))
      have c : goodB e = false := c
      have := same w13 (g.trans u13) (by unfold addL; rw [if_pos (.inl c)])
      unfold addN at this
      rw [if_pos c] at this; exact this
    refine table_Table_Last.cl (hT.gro u1).tv (by have := hT.2.2.1; omega) (fun hnil w7 u7 => ?_) fun l hl w7 u7 => ?_
    · refine alK_by fun p8 w9 e8 k8 u8 => k8.sta _ rfl rfl fun w10 k10 u10 => brF rfl ?_
      have g10 : Gro w2 w10 := Gro.fresh u7 u8 u10 e8
      refine hb (u1.trans g10) (k1.gro g10) (A := fun w13 => brB false _ _) fun hg w' g' _ k' => ⟨g', k', hg, ?_⟩
      unfold tooOld; rw [hnil]; rfl
    · refine alK_by fun p8 w9 e8 k8 u8 => k8.sta _ rfl rfl fun w10 k10 u10 => brF rfl ?_
      have g10 : Gro w2 w10 := Gro.fresh u7 u8 u10 e8
      refine hb (u1.trans g10) (k1.gro g10) (A := fun w13 => brB true _ _) fun hg w' g' u' k' => ?_
      refine k'.i0 rfl ((k10.gro u').i0 rfl (brD (fun c => ?_) fun c => ⟨g', k', hg, ?_⟩))
      · have c : e.1 ≤ l.1 := c
        have ho : tooOld es e = true := by rw [tooOld_some hl, decide_eq_true c]
        have := same w' g' (by unfold addL; rw [if_pos (.inr ho)])
        unfold addN at this
        rw [if_neg (by rw [hg]; simp), if_pos ho] at this; exact this
      · have c : ¬ e.1 ≤ l.1 := c
        rw [tooOld_some hl, decide_eq_false c]
  · rintro _ w5 ⟨g5, k5, hg, ho⟩ _
    have hn : addN es e = 0 := by unfold addN; rw [if_neg (by rw [hg]; simp), if_neg (by rw [ho]; simp)]
    have hL : addL es e = (es ++ [e]).drop (es.length + 1 - 8) := by unfold addL; rw [if_neg (by rw [hg, ho]; simp)]
    obtain ⟨hb, hO, h8, hd⟩ := hT.gro (Upd.drew g5)
    rw [drK_eq, ncK_eq]
    refine (Blk.slotG pre post hb).sl0 ?_
    refine (k5.drew).ld3 (alK_by fun p20 w21 e20 k20 u20 => ⟨?_, ?_⟩)
    · exact ⟨k5.drew.hold u20 (fun x => x) 0 (by simp), k5.drew.hold u20 (fun x => x) 1 (by simp), k5.drew.hold u20 (fun x => x) 2 (by simp), Blk.holdG pre post hb u20 (fun x => x), trivial⟩
    · have own1 : ∀ a, s.1 = some a → a.block < p1 := fun a ha => by have := (hT.2.1.blk ha).2.1; omega
      have lb : bt < p1 := by have := hT.1.lt; omega
      have l5 := k5.lt
      refine ap_own (x := (some ⟨p20, 0, none⟩, 1, 1)) (e := T.table_Entry) (size := 3) (news := flat3 [e]) (by kernel_rfl) (by kernel_rfl) (by decide) (hO.gro u20) ⟨rfl, fun _ => ⟨_, rfl, k20.news⟩⟩ (flat3_one _) ?_ ?_ ?_
      · show es.length + 1 ≤ _; omega
      · exact Nat.le_trans hbase (Nat.le_trans g5.size u20.size)
      intro s' w23 ho' u23 hbl
      have k23 := (k5.drew.gro u20)
      have np1 : ¬ ∃ a, s.1 = some a ∧ a.block = p1 := by rintro ⟨a, ha, h⟩; have := own1 a ha; omega
      have nbt : ¬ ∃ a, s.1 = some a ∧ a.block = bt := by rintro ⟨a, ha, h⟩; exact hd a ha h
      have u16 : Upd (fun z => ∃ a, s.1 = some a ∧ a.block = z) w5.drew w23 := (Upd.of_gro u20).trans u23 fun _ _ h => h
      refine ⟨⟨k5.drew.hold u16 np1 0 (by simp), k5.drew.hold u16 np1 1 (by simp), k5.drew.hold u16 np1 2 (by simp), trivial⟩, ?_⟩
      rw [ncK_eq]
      refine Blk.stG pre post (hb.upd u16 nbt) (v := .slice s'.1 s'.2.1 s'.2.2) rfl fun w25 k25 u25 => ⟨trivial, ?_⟩
      rw [ncK_eq]
      have hbl' : ∀ a, s'.1 = some a → (∃ a0, s.1 = some a0 ∧ a.block = a0.block) ∨ w.heap.size ≤ a.block := fun a ha => (hbl a ha).imp id fun h => by have := (Upd.drew g5).size; have := u20.size; omega
      have nbt' : ∀ a, s'.1 = some a → a.block ≠ bt := fun a ha h => by
        rcases hbl' a ha with ⟨a0, h0, h1⟩ | h1
        · exact hd a0 h0 (by omega)
        · have := hT.1.lt; omega
      have hO' : OwnR w25 base T.table_Entry 3 s' (es ++ [e]).length (flat3 (es ++ [e])) := by
        rw [flat3_append, List.length_append]
        exact ho'.upd u25 fun a ha h => nbt' a ha h
      have U : Upd (fun z => z = bt ∨ ∃ a, s.1 = some a ∧ a.block = z) w w25 :=
        ((Upd.of_gro (Upd.drew g5)).trans u16 fun _ _ h => .inr h).trans u25 fun _ _ h => .inl h
      refine (Blk.slotG pre post k25).sl0 ?_
      have hlen : s'.2.1 = es.length + 1 := by rw [hO'.len, List.length_append]; rfl
      refine brD (fun c => ?_) fun c => ?_
      · have c : (s'.2.1 : Int) > 8 := c
        rw [ncK_eq]
        refine (Blk.slotG pre post k25).sl0 ?_
        rw [slK_eq ⟨by decide, by omega, by have := hO'.cap; omega⟩]
        have hne : s'.1 ≠ none := by
          obtain ⟨a, ha⟩ := hO'.ents.addr (i := 0) (e := (es ++ [e])[0]'(by rw [List.length_append]; show 0 < _ + 1; omega)) (List.getElem?_eq_getElem _)
          rw [ha]; simp
        refine slices_Clone.cl (x := (slA s'.1 s'.2.2 1 3, s'.2.1 - 1, s'.2.2 - 1)) (hO'.ents.from hO'.cap (l := 1) (by rw [List.length_append]; show 1 ≤ _ + 1; omega)) (by rw [List.length_drop, List.length_append]; show _ + 1 - 1 ≤ _; omega) ?_ fun s2 w31 u31 ho2 => ?_
        · show slA s'.1 s'.2.2 1 3 ≠ none
          unfold slA
          split
          · exact hne
          · cases h : s'.1
            · exact absurd h hne
            · simp
        · rw [ncK_eq]
          have n2 : ∀ a, s2.1 = some a → w.heap.size ≤ a.block := fun a ha => by have := (ho2.blk ha).1; have := U.size; omega
          refine Blk.stG pre post (k25.gro u31) (v := .slice s2.1 s2.2.1 s2.2.2) rfl fun w33 k33 u33 => ?_
          rw [← hn]
          have h7 : (es ++ [e]).drop 1 = addL es e := by rw [hL, show es.length + 1 - 8 = 1 by omega]
          rw [h7] at ho2
          refine hk s2 w33 ⟨k33, (ho2.upd u33 fun a ha h => ?_).rebase fun a ha => Nat.le_trans hbase (n2 a ha), addL_len hT.2.2.1, fun a ha h => ?_⟩ ((U.gro u31).trans u33 fun _ _ h => .inl h) fun a ha => .inr (n2 a ha)
          · have := n2 a ha; have := hT.1.lt; omega
          · have := n2 a ha; have := hT.1.lt; omega
      · have c : ¬ (s'.2.1 : Int) > 8 := c
        rw [← hn]
        have h7 : es ++ [e] = addL es e := by rw [hL, show es.length + 1 - 8 = 0 by omega]; rfl
        rw [h7] at hO'
        exact hk s' w25 ⟨k25, hO', addL_len hT.2.2.1, nbt'⟩ U hbl'
theorem table_Table_Add.cl {w : World} {base bt : Nat} {s : Sl} {es : List E3} {e : E3} (hT : Tab w base bt s es) (hbase : base ≤ w.heap.size) {k : TR [(false, [.i .i64])] → World → Prop}
    (hk : ∀ s' w', Tab w' base bt s' (addL es e) → Upd (fun z => z = bt ∨ ∃ a, s.1 = some a ∧ a.block = z) w w' →
      (∀ a, s'.1 = some a → (∃ a0, s.1 = some a0 ∧ a.block = a0.block) ∨ w.heap.size ≤ a.block) → k ((addN es e, ()), ()) w') :
    clS Tryz.prog F.table_Table_Add [.pointer (some ⟨bt, 0, none⟩), .agg #[.int .i64 e.1, .int .i64 e.2.1, .int .i64 e.2.2]] w false [(false, [.i .i64])] k :=
  table_Table_Add.clG [] [] hT.g hbase fun s' w' h => hk s' w' h
theorem table_Table_Clear.clG {w : World} {base bt : Nat} (pre post : List Value) {s : Sl} {es : List E3} (hT : TabG w base bt pre post s es) {k : TR [] → World → Prop} (hk : ∀ w', TabG w' base bt pre post (none, 0, 0) [] → Upd (fun z => z = bt) w w' → k () w') :
    clS Tryz.prog F.table_Table_Clear [.pointer (some ⟨bt, pre.length, none⟩)] w true [] k := by
  refine table_Table_Clear.ok ?_
  unfold table_Table_Clear.wp
  refine brT rfl ?_
  rw [ncK_eq]
  exact Blk.stG pre post hT.1 rfl fun w2 k2 u2 => hk w2 ⟨k2, OwnR.nil _ _ _ _, by simp, fun a h => by cases h⟩ u2
end Go.Proofs.YtnjmfbjgcfnanaaGreat
/- Contracts of layer 12, part C: a table of one's own, and what Add leaves. Conditions: none. -/
namespace Go.Proofs.YtnjmfbjgcfnanaaGreat
open Go.Eng Go
set_option linter.unusedVariables false
set_option linter.unusedSimpArgs false

/-- Add, where the table is private to what came behind w0. -/
theorem table_Table_Add.own {w0 w : World} {bt : Nat} {s : Sl} {es : List E3} {e : E3} (g : Gro w0 w) (hT : Tab w w0.heap.size bt s es) (hbt : w0.heap.size ≤ bt) {k : TR [(false, [.i .i64])] → World → Prop}
    (hk : ∀ s' w', Tab w' w0.heap.size bt s' (addL es e) → Gro w0 w' → Upd (fun z => z = bt ∨ ∃ a, s.1 = some a ∧ a.block = z) w w' →
      (∀ a, s'.1 = some a → (∃ a0, s.1 = some a0 ∧ a.block = a0.block) ∨ w.heap.size ≤ a.block) → k ((addN es e, ()), ()) w') :
    clS Tryz.prog F.table_Table_Add [.pointer (some ⟨bt, 0, none⟩), .agg #[.int .i64 e.1, .int .i64 e.2.1, .int .i64 e.2.2]] w false [(false, [.i .i64])] k :=
  table_Table_Add.cl hT g.size fun s' w' h1 h2 h3 => hk s' w' h1 (Upd.trans g h2 fun i hi h => by
    rcases h with h | ⟨a, ha, h⟩
    · omega
    · have := (hT.2.1.blk ha).1; omega) h2 h3
theorem Tab.new {w : World} {base bt : Nat} (k : Blk w bt [.slice none 0 0]) : Tab w base bt (none, 0, 0) [] := ⟨k, OwnR.nil _ _ _ _, by simp, fun a h => by cases h⟩
theorem Tab.len {w : World} {base bt : Nat} {s : Sl} {es : List E3} (h : Tab w base bt s es) : es.length ≤ 1000000000 := by have := h.2.2.1; omega

theorem addN_ne {es : List E3} {e : E3} (h : addN es e ≠ 0) : addL es e = es := by
  unfold addN at h
  unfold addL
  split at h
  · rename_i h1; rw [if_pos (.inl h1)]
  · split at h
    · rename_i h1; rw [if_pos (.inr h1)]
    · exact absurd rfl h
theorem addN_0 {es : List E3} {e : E3} (h : addN es e = 0) : goodB e = true ∧ tooOld es e = false ∧ addL es e = (es ++ [e]).drop (es.length + 1 - 8) := by
  unfold addN at h
  split at h
  · cases h
  · rename_i h1
    split at h
    · cases h
    · rename_i h2
      have h1' : goodB e = true := by cases hh : goodB e; exact absurd hh h1; rfl
      have h2' : tooOld es e = false := by cases hh : tooOld es e; rfl; exact absurd hh h2
      refine ⟨h1', h2', ?_⟩
      unfold addL
      rw [if_neg (by rw [h1', h2']; simp)]
def asc (es : List E3) : Prop := ∀ i a b, es[i]? = some a → es[i + 1]? = some b → a.1 < b.1
theorem asc_drop {es : List E3} (h : asc es) (n : Nat) : asc (es.drop n) := fun i a b ha hb => by
  rw [List.getElem?_drop] at ha hb
  exact h (n + i) a b ha hb
theorem asc_add {es : List E3} {e : E3} (h : asc es) : asc (addL es e) := by
  unfold addL
  split
  · exact h
  · rename_i hc
    refine asc_drop (fun i a b ha hb => ?_) _
    by_cases h1 : i + 1 < es.length
    · rw [List.getElem?_append_left (by omega)] at ha
      rw [List.getElem?_append_left h1] at hb
      exact h i a b ha hb
    · have h2 : i + 1 < (es ++ [e]).length := (List.getElem?_eq_some_iff.1 hb).1
      rw [List.length_append, List.length_singleton] at h2
      have hi : i + 1 = es.length := by omega
      rw [List.getElem?_append_left (by omega)] at ha
      rw [List.getElem?_append_right (by omega), hi, Nat.sub_self] at hb
      obtain rfl : e = b := by simpa using hb
      have hl : es.getLast? = some a := by rw [List.getLast?_eq_getElem?, ← ha]; congr 1; omega
      have ho : tooOld es e = false := by
        cases ht : tooOld es e
        · rfl
        · exact absurd (.inr ht) hc
      rw [tooOld_some hl] at ho
      have := of_decide_eq_false ho
      omega
theorem add_last {es : List E3} {e : E3} (h : addN es e = 0) : (addL es e).getLast? = some e := by
  have hc : ¬ (goodB e = false ∨ tooOld es e = true) := by
    unfold addN at h
    split at h
    · cases h
    · rename_i h1
      split at h
      · cases h
      · rename_i h2
        rintro (h | h)
        · exact h1 h
        · exact h2 h
  unfold addL
  rw [if_neg hc, List.getLast?_drop, List.length_append, List.length_singleton, if_neg (by omega), List.getLast?_concat]
end Go.Proofs.YtnjmfbjgcfnanaaGreat
