/- Contracts of tables of leaps, asked: Ahead, Step (leap), and the document's (ref21). Conditions: none. -/
import Derived.Test.YtfbegkddkdenbaaGreatDoorCleap
namespace Go.Proofs.YtfbegkddkdenbaaGreatDoor
open Go.Eng Go Go.RowKit
set_option linter.unusedVariables false
set_option linter.unusedSimpArgs false

abbrev RS2 : List (Bool × List CK) := [(true, K2)]
def tup2 (l : P2) : TR RS2 := (t2 l, ())
theorem wsucc {i n : Nat} (hi : i < n) (hn : n ≤ 1000000000) : IntKind.wrap .i64 ((i : Int) + 1) = ((i + 1 : Nat) : Int) := by
  rw [w64_in (by unfold I64; omega)]; omega
theorem TbW.keep {B : Nat} {M : Nat → Prop} {w w' : World} {s : Sl} {ls : L2} (h : RowsP w s ls) (u : KpM B M w w') (hb : ls ≠ [] → ∀ a, s.1 = some a → a.block < B ∧ ¬ M a.block) : RowsP w' s ls :=
  KpM.row h u fun hx => hb fun e => hx (by subst e; rfl)
theorem RowsP.blk {w : World} {s : Sl} {ls : L2} (h : RowsP w s ls) (hx : ls ≠ []) {a : Addr} (ha : s.1 = some a) : a.block < w.heap.size := by
  cases ls with
  | nil => exact absurd rfl hx
  | cons l ls =>
    have := flat_get (xs := (l :: ls).map t2) (i := 0) (x := t2 l) rfl 0 (.int .i64 l.1) rfl
    have := cell_lt (Row.ld h ha this)
    rwa [add_block] at this

set_option maxRecDepth 20000 in
theorem slices_Values_1.itsV {w : World} {pb : Nat} {s : Sl} {ls : L2} {M : Nat → Prop} {V : TR RS2 → Prop} (hV : ∀ l ∈ ls, V (tup2 l)) (hp : Blk w pb [.slice s.1 s.2.1 s.2.2]) (hR : RowsP w s ls) (hn : ls.length ≤ 1000000000)
    (hMp : ¬ M pb) (hMs : ls ≠ [] → ∀ a, s.1 = some a → ¬ M a.block) :
    ItS Tryz.prog (.func (.func F.slices_Values_leap_Leap_leap_Leap_1) #[] #[.pointer (some ⟨pb, 0, none⟩)]) RS2 V (ls.map tup2) M w := by
  refine its_by (by kernel_rfl) fun l J Jx W g hJ hJx hY h0 => ?_
  refine slices_Values_leap_Leap_leap_Leap_1.ok ?_
  unfold slices_Values_leap_Leap_leap_Leap_1.wp
  have hl := hR.len
  refine (hp.gro g).sl0 ?_
  refine LoopT.by (fun z W' => ∃ i : Nat, z.1 = i ∧ i ≤ ls.length ∧ J ((ls.map tup2).take i) W' ∧ Blk W' pb [.slice s.1 s.2.1 s.2.2] ∧ RowsP W' s ls)
    (fun z => ((ls.length : Int) - z.1).toNat) ⟨0, rfl, by omega, by simpa using h0, hp.gro g, hR.gro g⟩ ?_
  rintro ⟨z, _⟩ W4 ⟨i, hz, hi, hj, hpb, hRW⟩ _
  dsimp only at hz
  subst hz
  refine brD (fun c => ?_) fun c => ?_
  · have c : (i : Int) < s.2.1 := c
    have hi' : i < ls.length := by omega
    have he : ls[i]? = some ls[i] := List.getElem?_eq_getElem hi'
    generalize ls[i] = e at he
    refine hRW.ix rfl he fun a ha => hRW.ldN ha he ?_
    refine alK_by fun p7 w8 e7 k7 u7 => k7.sta _ rfl rfl fun w9 k9 u9 => k9.ld2 ?_
    have g9 : Gro W4 w9 := Gro.fresh (Gro.refl _) u7 u9 e7
    show yiS Tryz.prog l (encL RS2 (tup2 e)) w9 _
    have ht : (ls.map tup2).take i ++ [tup2 e] = (ls.map tup2).take (i + 1) := by
      rw [List.take_add_one, List.getElem?_map, he]; rfl
    refine hY _ (tup2 e) w9 _ (hV e (List.mem_of_getElem? he)) (hJ _ _ _ hj g9) (by rw [List.length_take, List.length_map]; omega) (fun W2 hj2 kp => ?_) fun W2 hj2 => ?_
    · rw [ht] at hj2
      refine ⟨⟨i + 1, wsucc hi' hn, by omega, hj2, KpM.blk (hpb.gro g9) kp hp.lt hMp, ?_⟩, ?_⟩
      · exact TbW.keep (hRW.gro g9) kp fun hx a ha => ⟨hR.blk hx ha, hMs hx a ha⟩
      · show ((ls.length : Int) - IntKind.wrap .i64 ((i : Int) + 1)).toNat < ((ls.length : Int) - (i : Int)).toNat
        rw [wsucc hi' hn]; omega
    · refine .inr ⟨_, List.take_prefix (i + 1) (ls.map tup2), ?_⟩
      rw [ht] at hj2; exact hj2
  · have c : ¬ (i : Int) < s.2.1 := c
    have hi' : i = ls.length := by omega
    subst hi'
    rw [← List.length_map (f := tup2), List.take_length] at hj
    exact .inl hj
theorem leap_Table_All.cl {w : World} {b : Nat} {m : Tb} {s : Sl} (hB : Blk w b (cT m s)) {k : TR [(false, [.any])] → World → Prop}
    (hk : ∀ pb w', w.heap.size = pb → Gro w w' → Blk w' pb [.slice s.1 s.2.1 s.2.2] → k ((.func (.func F.slices_Values_leap_Leap_leap_Leap_1) #[] #[.pointer (some ⟨pb, 0, none⟩)], ()), ()) w') :
    clS Tryz.prog F.leap_Table_All [.pointer (some ⟨b, 0, none⟩)] w false [(false, [.any])] k := by
  refine leap_Table_All.ok ?_
  unfold leap_Table_All.wp
  refine brF rfl ?_
  rw [ncK_eq]
  refine hB.c1 3 (c := .sl) (x := s) rfl ?_
  refine slices_Values_leap_Leap_leap_Leap.ok ?_
  unfold slices_Values_leap_Leap_leap_Leap.wp
  exact alK_by fun pb w' e k1 u1 => hk pb w' e u1 k1

def un2 (x : TR RS2) : P2 := (x.1.1, x.1.2.1)
theorem un2_tup2 (l : P2) : un2 (tup2 l) = l := rfl
theorem un2_map (ls : L2) : (ls.map tup2).map un2 = ls := by rw [List.map_map]; simp [Function.comp_def, un2_tup2]
theorem ahS_snoc (ls : L2) (l : P2) (day : Int) : ∀ a, ahS a (ls ++ [l]) day = if l.1 < day then ahS a ls day + l.2 else ahS a ls day := by
  induction ls with
  | nil => intro a; rfl
  | cons x ls ih => intro a; simp only [List.cons_append, ahS]; exact ih _

set_option maxRecDepth 20000 in
set_option maxHeartbeats 1000000 in
theorem leap_Table_Ahead.cl {w : World} {b : Nat} {m : Tb} (hT : TbW w b m) (hg : GoodT m) {day : Int} {k : TR [(false, [.i .i64]), (false, [.b])] → World → Prop}
    (h0 : ¬ inR m day → ∀ w', Gro w w' → k ((0, ()), (false, ()), ()) w') (h1 : inR m day → ∀ w', Gro w w' → k ((ahS m.ah m.ls day, ()), (true, ()), ()) w') :
    clS Tryz.prog F.leap_Table_Ahead [.pointer (some ⟨b, 0, none⟩), .int .i64 day] w true [(false, [.i .i64]), (false, [.b])] k := by
  refine leap_Table_Ahead.ok ?_
  unfold leap_Table_Ahead.wp
  refine alK_by fun p1 w2 e1 k1 u1 => ?_
  rw [drK_eq]
  have k1 := k1.drew
  have g3 := u1.trans (Gro.drew w2)
  generalize w2.drew = w3 at k1 g3
  have T3 := hT.gro g3
  obtain ⟨s, hB, hR⟩ := T3
  refine brF rfl (k1.i0 rfl ?_)
  rw [ncK_eq]
  refine hB.i0 rfl (brD (fun c => h0 (fun h => by have := h.1; have c : day < m.st := c; omega) w3 g3) fun c1 => k1.i0 rfl ?_)
  rw [ncK_eq]
  refine hB.i1 2 rfl (brD (fun c => h0 (fun h => by have := h.2; have c : day ≥ m.en := c; omega) w3 g3) fun c2 => ?_)
  have c1 : ¬ day < m.st := c1
  have c2 : ¬ day ≥ m.en := c2
  have h1 := h1 ⟨by omega, by omega⟩
  rw [ncK_eq]
  refine hB.i1 1 rfl (alK_by fun p12 w13 e12 k12 u13 => k12.sta _ rfl rfl fun w14 k14 u14 => ?_)
  have g14 : Gro w3 w14 := Gro.fresh (Gro.refl _) u13 u14 e12
  refine leap_Table_All.cl (hB.gro g14) fun pb w16 e16 u16 k16 => ?_
  have g16 : Gro w w16 := (g3.trans g14).trans u16
  have l1 := k1.lt
  have l14 := k14.lt
  have l16 := k16.lt
  have hst := hg.2.1
  have hln := hg.2.2.1
  have R16 := hR.gro (g14.trans u16)
  have K1 := k1.gro (g14.trans u16)
  have K12 := k14.gro u16
  have hs16 := g16.size
  have e3 := g3.size
  refine ⟨fun x => Stp (un2 x), m.ls.map tup2, fun z => z = p12,
    fun pre W => Gro w W ∧ Blk W p1 [.int .i64 day] ∧ Blk W p12 [.int .i64 (ahS m.ah (pre.map un2) day)] ∧ ∀ l ∈ pre.map un2, Stp l, fun _ _ _ => False,
    slices_Values_1.itsV (fun l hl => hst l hl) k16 R16 (by omega) (by omega) (fun hx a ha h => by have := hR.blk hx ha; omega),
    fun W tu => ⟨g16.turn tu g16.size, K1.turn tu, K12.turn tu, fun l h => by cases h⟩, ?_, ?_, fun s hs => by cases hs⟩
  · intro x W hx hs
    refine alK_by fun p25 w26 e26 k26 u26 => k26.sta _ rfl rfl fun w27 k27 u27 => asg_gro (Gro.fresh (Gro.refl W) u26 u27 e26) ?_
    rintro W2 tu pre ⟨hg2, h1', h12, hpre⟩ hlen
    rw [List.length_map] at hlen
    have k2 := k27.turn tu
    have bnd : p12 < p25 := by omega
    have hall : ∀ l ∈ pre.map un2 ++ [un2 x], Stp l := fun l h => by
      rcases List.mem_append.1 h with h | h
      · exact hpre l h
      · rw [List.mem_singleton.1 h]; exact hx
    have em : (pre ++ [x]).map un2 = pre.map un2 ++ [un2 x] := by simp
    have sn := ahS_snoc (pre.map un2) (un2 x) day m.ah
    refine k2.i0 rfl (h1'.i0 rfl (brD (fun c => ?_) fun c => ?_))
    · have c : (un2 x).1 < day := c
      rw [if_pos c] at sn
      have rg := ahS_rng hall day m.ah
      rw [List.length_append, List.length_map, List.length_singleton, sn] at rg
      have hm := hg.1
      unfold Rngd at hm
      refine h12.i0 rfl (k2.i1 1 rfl (h12.s0 (by simp) fun w32 k32 u32 => ?_))
      have ew : IntKind.wrap .i64 (ahS m.ah (pre.map un2) day + x.1.2.1) = ahS m.ah (pre.map un2) day + (un2 x).2 := w64_in (by show I64 (_ + (un2 x).2); unfold I64; omega)
      rw [ew] at k32
      refine ⟨Rnd.low1 u32 (by omega) rfl, fun W4 t4 => ⟨(Upd.trans hg2 u32 fun i hi h => by omega).turn t4 g16.size, (h1'.upd u32 (by omega)).turn t4, ?_, by rw [em]; exact hall⟩⟩
      rw [em, sn]; exact k32.turn t4
    · have c : ¬ (un2 x).1 < day := c
      rw [if_neg c] at sn
      refine ⟨Rnd.gro (Gro.refl _), fun W4 t4 => ⟨hg2.turn t4 g16.size, h1'.turn t4, ?_, by rw [em]; exact hall⟩⟩
      rw [em, sn]; exact h12.turn t4
  · rintro D W hD ⟨hgW, h1', h12, _⟩ hm
    rw [un2_map] at h12
    refine h12.i0 rfl (tkK_by hm fun w34 ht => ?_)
    exact h1 w34 (hgW.turn (ht w.heap.size (Nat.le_trans g16.size hD)) (Nat.le_refl _))

/-! ### Step -/
theorem leap_Table_Step_1.cl {w : World} {b p1 p3 : Nat} {m : Tb} {s : Sl} {day : Int} {i : Nat} {l : P2} (h1 : Blk w p1 [.pointer (some ⟨b, 0, none⟩)]) (h3 : Blk w p3 [.int .i64 day]) (hB : Blk w b (cT m s)) (hR : RowsP w s m.ls)
    (hi : m.ls[i]? = some l) {k : TR RB1 → World → Prop} (h : k ((decide (l.1 ≥ day), ()), ()) w.drew) :
    clS Tryz.prog F.leap_Table_Step_1 [.int .i64 i, .pointer (some ⟨p1, 0, none⟩), .pointer (some ⟨p3, 0, none⟩)] w false RB1 k := by
  refine leap_Table_Step_1.ok ?_
  unfold leap_Table_Step_1.wp
  rw [drK_eq]
  refine h1.drew.p0 ?_
  rw [ncK_eq]
  refine hB.drew.c1 3 (c := .sl) (x := s) rfl ((hR.gro (Gro.drew w)).ix rfl hi fun a ha => (hR.gro (Gro.drew w)).f0 ha hi rfl (h3.drew.i0 rfl h))

theorem asc_get {en : Int} : ∀ {lo : Int} {ls : L2}, Asc en lo ls → ∀ {i j : Nat} {x y : P2}, i < j → ls[i]? = some x → ls[j]? = some y → x.1 < y.1
  | lo, [], h, i, j, x, y, hij, hx, hy => by cases hx
  | lo, l :: ls, h, i, j, x, y, hij, hx, hy => by
    obtain ⟨h1, h2, h3⟩ := h
    cases j with
    | zero => omega
    | succ j =>
      cases i with
      | zero =>
        simp at hx hy
        subst hx
        exact (h3.mem y (List.mem_of_getElem? hy)).1
      | succ i => simp at hx hy; exact asc_get h3 (by omega) hx hy

set_option maxRecDepth 20000 in
theorem sort_Search.cl {w : World} {b p1 p3 : Nat} {m : Tb} {s : Sl} {day : Int} (h1 : Blk w p1 [.pointer (some ⟨b, 0, none⟩)]) (h3 : Blk w p3 [.int .i64 day]) (hB : Blk w b (cT m s)) (hR : RowsP w s m.ls)
    {lo : Int} (hA : Asc m.en lo m.ls) (hn : m.ls.length ≤ 1000000000) {k : TR RI1 → World → Prop}
    (h : ∀ (i : Nat) w', i ≤ m.ls.length → (∀ j l, m.ls[j]? = some l → j < i → l.1 < day) → (∀ j l, m.ls[j]? = some l → i ≤ j → day ≤ l.1) → Gro w w' → k ((i, ()), ()) w') :
    clS Tryz.prog F.sort_Search [.int .i64 (s.2.1 : Int), .func (.func F.leap_Table_Step_1) #[] #[.pointer (some ⟨p1, 0, none⟩), .pointer (some ⟨p3, 0, none⟩)]] w false RI1 k := by
  refine sort_Search_of_leap_Table_Step_1.ok ?_
  unfold sort_Search_of_leap_Table_Step_1.wp
  have hl := hR.len
  refine LoopT.by (fun z W => ∃ i j : Nat, z.1 = i ∧ z.2.1 = j ∧ i ≤ j ∧ j ≤ m.ls.length ∧ (∀ q l, m.ls[q]? = some l → q < i → l.1 < day) ∧ (∀ q l, m.ls[q]? = some l → j ≤ q → day ≤ l.1) ∧ Gro w W)
    (fun z => (z.2.1 - z.1).toNat) ⟨0, s.2.1, rfl, rfl, by omega, by omega, fun q l _ h => by omega, fun q l hq h => by have := (List.getElem?_eq_some_iff.1 hq).1; omega, Gro.refl _⟩ ?_
  rintro ⟨z1, z2, _⟩ W ⟨i, j, e1, e2, hij, hj, hlo, hhi, hG⟩ _
  dsimp only at e1 e2
  subst e1 e2
  refine brD (fun c => ?_) fun c => ?_
  · have c : (i : Int) < (j : Int) := c
    rw [shK_eq (by decide)]
    have em : IntKind.wrap .i64 (shrX .u64 (IntKind.wrap .u64 (IntKind.wrap .i64 ((i : Int) + (j : Int)))) 1) = (((i + j) / 2 : Nat) : Int) := by
      rw [w64_in (n := (i : Int) + j) (by unfold I64; omega), wu64_in (by unfold U64; omega)]
      have : shrX .u64 ((i : Int) + j) 1 = ((i : Int) + j) / 2 := shr_eq (k := .u64) 1 (by decide)
      rw [this, w64_in (by unfold I64; omega)]; omega
    show clS Tryz.prog F.leap_Table_Step_1 [.int .i64 (IntKind.wrap .i64 (shrX .u64 (IntKind.wrap .u64 (IntKind.wrap .i64 ((i : Int) + (j : Int)))) 1)), _, _] W _ _ _
    rw [em]
    have hq1 : (i + j) / 2 < m.ls.length := by omega
    have hx : m.ls[(i + j) / 2]? = some m.ls[(i + j) / 2] := List.getElem?_eq_getElem hq1
    generalize m.ls[(i + j) / 2] = x at hx
    refine leap_Table_Step_1.cl (h1.gro hG) (h3.gro hG) (hB.gro hG) (hR.gro hG) hx (brNot (fun c2 => ?_) fun c2 => ?_)
    · have c2 : ¬ x.1 ≥ day := of_decide_eq_false c2
      refine ⟨⟨(i + j) / 2 + 1, j, ?_, rfl, by omega, hj, fun q l hq h => ?_, hhi, hG.trans (Gro.drew _)⟩, ?_⟩
      · show IntKind.wrap .i64 ((((i + j) / 2 : Nat) : Int) + 1) = _
        rw [w64_in (by unfold I64; omega)]; omega
      · rcases Nat.lt_or_ge q ((i + j) / 2) with h2 | h2
        · have := asc_get hA h2 hq hx; omega
        · have : q = (i + j) / 2 := by omega
          subst this
          rw [hx] at hq; cases hq; omega
      · show ((j : Int) - IntKind.wrap .i64 ((((i + j) / 2 : Nat) : Int) + 1)).toNat < ((j : Int) - (i : Int)).toNat
        rw [w64_in (by unfold I64; omega)]; omega
    · have c2 : x.1 ≥ day := of_decide_eq_true c2
      refine ⟨⟨i, (i + j) / 2, rfl, rfl, by omega, by omega, hlo, fun q l hq h => ?_, hG.trans (Gro.drew _)⟩, ?_⟩
      · rcases Nat.lt_or_ge ((i + j) / 2) q with h2 | h2
        · have := asc_get hA h2 hx hq; omega
        · have : q = (i + j) / 2 := by omega
          subst this
          rw [hx] at hq; cases hq; omega
      · show ((((i + j) / 2 : Nat) : Int) - (i : Int)).toNat < ((j : Int) - (i : Int)).toNat
        omega
  · have c : ¬ (i : Int) < (j : Int) := c
    have : i = j := by omega
    subst this
    exact h i W hj hlo hhi hG

theorem stS_at {en : Int} : ∀ {lo : Int} {ls : L2}, Asc en lo ls → ∀ {i : Nat} {x : P2}, ls[i]? = some x → stS ls x.1 = x.2
  | lo, [], _, i, x, hx => by cases hx
  | lo, l :: ls, h, i, x, hx => by
    obtain ⟨h1, h2, h3⟩ := h
    cases i with
    | zero => simp at hx; subst hx; simp [stS]
    | succ i =>
      simp at hx
      have := (h3.mem x (List.mem_of_getElem? hx)).1
      simp only [stS]
      rw [if_neg (by omega), stS_at h3 hx]
theorem stS_none : ∀ {ls : L2} {day : Int}, (∀ l ∈ ls, l.1 ≠ day) → stS ls day = 0
  | [], _, _ => rfl
  | l :: ls, day, h => by
    simp only [stS]
    rw [if_neg (h l (by simp)), stS_none fun x hx => h x (by simp [hx])]

set_option maxRecDepth 20000 in
set_option maxHeartbeats 1000000 in
theorem leap_Table_Step.cl {w : World} {b : Nat} {m : Tb} (hT : TbW w b m) (hg : GoodT m) {day : Int} {k : TR RI1 → World → Prop} (h : ∀ w', Gro w w' → k ((stS m.ls day, ()), ()) w') :
    clS Tryz.prog F.leap_Table_Step [.pointer (some ⟨b, 0, none⟩), .int .i64 day] w false RI1 k := by
  refine leap_Table_Step.ok ?_
  unfold leap_Table_Step.wp
  refine alK_by fun p1 w2 e1 k1 u1 => alK_by fun p3 w4 e3 k3 u3 => ?_
  have g4 := u1.trans u3
  obtain ⟨s, hB, hR⟩ := hT.gro g4
  have k1 := k1.gro u3
  have hl := hR.len
  refine k1.p0 (brF rfl (k1.p0 ?_))
  rw [ncK_eq]
  refine hB.c1 3 (c := .sl) (x := s) rfl (sort_Search.cl k1 k3 hB hR hg.2.2.2 (by have := hg.2.2.1; omega) fun i w10 hi hlo hhi u10 => ?_)
  have hA := hg.2.2.2
  have K1 := (k1.gro u10).drew
  have K3 := (k3.gro u10).drew
  have hB2 := (hB.gro u10).drew
  have hR2 := (hR.gro u10).gro (Gro.drew w10)
  have G := (g4.trans u10).trans (Gro.drew w10)
  refine CutT.by (fun z w' => Gro w w' ∧ Blk w' p1 [.pointer (some ⟨b, 0, none⟩)] ∧ Blk w' b (cT m s) ∧ RowsP w' s m.ls ∧ z.1 = decide (∃ l, m.ls[i]? = some l ∧ l.1 = day)) ?_ ?_
  · rw [drK_eq]
    generalize w10.drew = w14 at K1 K3 hB2 hR2 G
    refine K1.p0 ?_
    rw [ncK_eq]
    refine hB2.c1 3 (c := .sl) (x := s) rfl (brD (fun c => ?_) fun c => ?_)
    · have c : (i : Int) < (s.2.1 : Int) := c
      have hx : m.ls[i]? = some m.ls[i] := List.getElem?_eq_getElem (by omega)
      generalize m.ls[i] = x at hx
      refine K1.p0 ?_
      rw [ncK_eq]
      refine hB2.c1 3 (c := .sl) (x := s) rfl (hR2.ix rfl hx fun a ha => hR2.f0 ha hx rfl (K3.i0 rfl ⟨G, K1, hB2, hR2, ?_⟩))
      refine bq ?_
      rw [beq_iff_eq]
      exact ⟨fun h => ⟨x, hx, h⟩, fun ⟨l, h1, h2⟩ => by rw [hx] at h1; cases h1; exact h2⟩
    · have c : ¬ (i : Int) < (s.2.1 : Int) := c
      refine ⟨G, K1, hB2, hR2, ?_⟩
      symm
      rw [decide_eq_false_iff_not]
      rintro ⟨l, h1, _⟩
      have := (List.getElem?_eq_some_iff.1 h1).1
      omega
  · rintro ⟨z, _⟩ w13 ⟨G, K1, hB2, hR2, hz⟩ _
    dsimp only at hz
    subst hz
    refine brD (fun c => ?_) fun c => ?_
    · obtain ⟨l, hx, hd⟩ := c
      have e := stS_at hA hx
      rw [hd] at e
      refine K1.p0 ?_
      rw [ncK_eq]
      refine hB2.c1 3 (c := .sl) (x := s) rfl (hR2.ix rfl hx fun a ha => hR2.f1 ha hx rfl ?_)
      have := h w13 G
      rw [e] at this; exact this
    · have e : stS m.ls day = 0 := stS_none fun l hl hd => by
        obtain ⟨j, hj, hjl⟩ := List.getElem_of_mem hl
        have hj' : m.ls[j]? = some l := by rw [← hjl]; exact List.getElem?_eq_getElem hj
        rcases Nat.lt_trichotomy j i with h1 | h1 | h1
        · have := hlo j l hj' h1; omega
        · subst h1; exact c ⟨l, hj', hd⟩
        · have hi' : m.ls[i]? = some m.ls[i] := List.getElem?_eq_getElem (by omega)
          have h2 := asc_get hA h1 hi' hj'
          have h3 := hhi i _ hi' (Nat.le_refl _)
          omega
      have := h w13 G
      rw [e] at this; exact this

/-! ### the document's -/
abbrev vT (m : Tb) (s : Sl) : Value := .agg #[.int .i64 m.st, .int .i64 m.ah, .int .i64 m.en, .slice s.1 s.2.1 s.2.2]
theorem ref21_Ahead.cl {w : World} {m : Tb} {s : Sl} (hR : RowsP w s m.ls) (hg : GoodT m) {day : Int} {k : TR RI1 → World → Prop} (h : ∀ w', Gro w w' → k ((ahS m.ah m.ls day, ()), ()) w') :
    clS Tryz.prog F.ref21_Ahead [vT m s, .int .i64 day] w false RI1 k := by
  refine ref21_Ahead.ok ?_
  unfold ref21_Ahead.wp
  have hl := hR.len
  have hst := hg.2.1
  have hln := hg.2.2.1
  have hm := hg.1
  unfold Rngd at hm
  refine alK_by fun p1 w2 e1 k1 u1 => k1.i1 1 rfl (k1.c1 3 (c := .sl) (x := s) rfl ?_)
  refine LoopT.by (fun z W => ∃ i : Nat, z.1 = ahS m.ah (m.ls.take i) day ∧ z.2.1 = i ∧ i ≤ m.ls.length ∧ Gro w W) (fun z => ((m.ls.length : Int) - z.2.1).toNat) ⟨0, rfl, rfl, by omega, u1⟩ ?_
  rintro ⟨z1, z2, _⟩ W ⟨i, e1, e2, hi, hG⟩ _
  dsimp only at e1 e2
  subst e1 e2
  refine brD (fun c => ?_) fun c => ?_
  · have c : (i : Int) < s.2.1 := c
    have hi' : i < m.ls.length := by omega
    have hx : m.ls[i]? = some m.ls[i] := List.getElem?_eq_getElem hi'
    have hxs := hst _ (List.getElem_mem hi')
    generalize m.ls[i] = x at hx hxs
    have sn := ahS_snoc (m.ls.take i) x day m.ah
    have tk : m.ls.take (i + 1) = m.ls.take i ++ [x] := by rw [List.take_add_one, hx]; rfl
    rw [← tk] at sn
    refine (hR.gro hG).ix rfl hx fun a ha => (hR.gro hG).ldN ha hx (alK_by fun p10 w11 e10 k10 u11 => k10.sta _ rfl rfl fun w12 k12 u12 => k12.i0 rfl ?_)
    have g12 : Gro w w12 := Gro.fresh hG u11 u12 e10
    have dec : ((m.ls.length : Int) - IntKind.wrap .i64 ((i : Int) + 1)).toNat < ((m.ls.length : Int) - (i : Int)).toNat := by rw [wsucc hi' (by omega)]; omega
    refine brD (fun c2 => k12.i1 1 rfl ?_) fun c2 => ?_
    · have c2 : x.1 < day := c2
      rw [if_pos c2] at sn
      have rg := ahS_rng (ls := m.ls.take (i + 1)) (fun l hl => hst l (List.mem_of_mem_take hl)) day m.ah
      rw [List.length_take, Nat.min_eq_left (by omega), sn] at rg
      refine ⟨⟨i + 1, ?_, wsucc hi' (by omega), by omega, g12⟩, dec⟩
      rw [sn]
      exact w64_in (n := ahS m.ah (m.ls.take i) day + x.2) (by unfold I64; omega)
    · have c2 : ¬ x.1 < day := c2
      rw [if_neg c2] at sn
      exact ⟨⟨i + 1, sn.symm, wsucc hi' (by omega), by omega, g12⟩, dec⟩
  · have c : ¬ (i : Int) < s.2.1 := c
    have : i = m.ls.length := by omega
    subst this
    have := h W hG
    rw [List.take_length]; exact this
theorem ref21_Step.cl {w : World} {m : Tb} {s : Sl} (hR : RowsP w s m.ls) (hn : m.ls.length ≤ 1000000000) {day : Int} {k : TR RI1 → World → Prop} (h : ∀ w', Gro w w' → k ((stS m.ls day, ()), ()) w') :
    clS Tryz.prog F.ref21_Step [vT m s, .int .i64 day] w false RI1 k := by
  refine ref21_Step.ok ?_
  unfold ref21_Step.wp
  have hl := hR.len
  refine alK_by fun p1 w2 e1 k1 u1 => k1.c1 3 (c := .sl) (x := s) rfl ?_
  refine LoopT.by (fun z W => ∃ i : Nat, z.1 = i ∧ stS m.ls day = stS (m.ls.drop i) day ∧ i ≤ m.ls.length ∧ Gro w W) (fun z => ((m.ls.length : Int) - z.1).toNat) ⟨0, rfl, rfl, by omega, u1⟩ ?_
  rintro ⟨z1, _⟩ W ⟨i, e1, hs, hi, hG⟩ _
  dsimp only at e1
  subst e1
  refine brD (fun c => ?_) fun c => ?_
  · have c : (i : Int) < s.2.1 := c
    have hi' : i < m.ls.length := by omega
    have hx : m.ls[i]? = some m.ls[i] := List.getElem?_eq_getElem hi'
    rw [List.drop_eq_getElem_cons hi'] at hs
    generalize m.ls[i] = x at hx hs
    refine (hR.gro hG).ix rfl hx fun a ha => (hR.gro hG).ldN ha hx (alK_by fun p10 w11 e10 k10 u11 => k10.sta _ rfl rfl fun w12 k12 u12 => k12.i0 rfl ?_)
    have g12 : Gro w w12 := Gro.fresh hG u11 u12 e10
    simp only [stS] at hs
    refine brE (fun c2 => k12.i1 1 rfl ?_) fun c2 => ?_
    · have c2 : x.1 = day := c2
      rw [if_pos c2] at hs
      have := h w12 g12
      rw [hs] at this; exact this
    · have c2 : ¬ x.1 = day := c2
      rw [if_neg c2] at hs
      refine ⟨⟨i + 1, wsucc hi' (by omega), hs, by omega, g12⟩, ?_⟩
      show ((m.ls.length : Int) - IntKind.wrap .i64 ((i : Int) + 1)).toNat < ((m.ls.length : Int) - (i : Int)).toNat
      rw [wsucc hi' (by omega)]; omega
  · have c : ¬ (i : Int) < s.2.1 := c
    have : i = m.ls.length := by omega
    subst this
    rw [List.drop_length] at hs
    have := h W hG
    rw [hs] at this; exact this
end Go.Proofs.YtfbegkddkdenbaaGreatDoor
