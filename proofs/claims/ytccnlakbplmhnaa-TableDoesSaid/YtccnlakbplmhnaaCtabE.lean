/- Contracts of layer 12, part E: the document's Add and Hops; same and first. Conditions: none. -/
import Derived.Test.YtccnlakbplmhnaaCtabC
namespace Go.Proofs.Ytccnlakbplmhnaa
open Go.Eng Go
set_option linter.unusedVariables false
set_option linter.unusedSimpArgs false

theorem ref12_Hops.cl {w : World} {s : Sl} {es : List E3} (hE : Ents w s es) (hn : es.length ≤ 1000000000) {k : TR [(false, [.i .i64])] → World → Prop} (hk : ∀ w', Gro w w' → k ((maxH es, ()), ()) w') :
    clS Try.prog F.ref12_Hops [.slice s.1 s.2.1 s.2.2] w false [(false, [.i .i64])] k := by
  refine ref12_Hops.ok ?_
  unfold ref12_Hops.wp
  have hl := hE.len
  refine LoopT.by (fun z w' => Gro w w' ∧ ∃ i : Nat, z = (maxH (es.take i), (i : Int), ()) ∧ i ≤ es.length) (fun z => (1000000000 - z.2.1).toNat) ⟨Gro.refl _, 0, rfl, by omega⟩ ?_
  rintro z w3 ⟨g, i, rfl, hi⟩ _
  refine brD (fun c => ?_) fun c => ?_
  · have hi' : i < es.length := by have c : (i : Int) < (s.2.1 : Int) := c; omega
    have he : es[i]? = some es[i] := List.getElem?_eq_getElem hi'
    generalize es[i] = e at he
    have hE3 := hE.gro g
    refine hE3.ix (z := (i : Int)) rfl he fun a ha => hE3.ldN ha he ?_
    refine alK_by fun p6 w7 e6 k6 u7 => k6.sta _ rfl rfl fun w8 k8 u8 => k8.i1 2 rfl ⟨⟨Gro.fresh g u7 u8 e6, i + 1, ?_, by omega⟩, ?_⟩
    · show ((if e.2.2 > maxH (es.take i) then e.2.2 else maxH (es.take i)), IntKind.wrap .i64 ((i : Int) + 1), ()) = _
      rw [len_succ (by omega), List.take_add_one, he]
      show _ = (maxH (es.take i ++ [e]), _)
      rw [maxH_snoc]; rfl
    · show (1000000000 - IntKind.wrap .i64 ((i : Int) + 1)).toNat < (1000000000 - (i : Int)).toNat
      rw [len_succ (by omega)]; omega
  · have hi' : i = es.length := by have c : ¬ (i : Int) < (s.2.1 : Int) := c; omega
    subst hi'
    have := hk w3 g
    rw [List.take_length]
    exact this

theorem law12_same.cl {w : World} {t : Option Addr} {s sl : Sl} {es : List E3} (hT : TV w t s es) (hE : Ents w sl es) (hn : es.length ≤ 1000000) {k : TR [(false, [.b])] → World → Prop}
    (hk : ∀ w', Gro w w' → k ((true, ()), ()) w') : clS Try.prog F.law12_same [.pointer t, .slice sl.1 sl.2.1 sl.2.2] w false [(false, [.b])] k := by
  refine law12_same.ok ?_
  unfold law12_same.wp
  refine alK_by fun p1 w2 e1 k1 u1 => alK_by fun p3 w4 e3 k3 u3 => alK_by fun p5 w6 e5 k5 u5 => k5.sta _ rfl rfl fun w7 k7 u7 => ?_
  have l1 := k1.lt
  have l3 := k3.lt
  have l5 := k5.lt
  have hl := hE.len
  have n13 : p1 < p3 ∧ p3 < p5 ∧ w.heap.size ≤ p1 := by have := u3.size; omega
  have g7 : Gro w w7 := Gro.fresh (u1.trans u3) u5 u7 e5
  refine table_Table_All.cl fun pb w9 e9 u9 k9 => ?_
  have g9 := g7.trans u9
  have k1' := (((k1.gro u3).gro u5).upd u7 (by omega)).gro u9
  have k3' := ((k3.gro u5).upd u7 (by omega)).gro u9
  have k5' := k7.gro u9
  have l5' := k7.lt
  have hne : ∀ b, b < w.heap.size → ¬ (b = p3 ∨ b = p5) := fun b h => by omega
  refine ⟨fun _ => True, es.map tup3, fun z => z = p3 ∨ z = p5, fun pre W => Gro w W ∧ Blk W p1 [.slice sl.1 sl.2.1 sl.2.2] ∧ (∃ b, Blk W p3 [.bool b]) ∧ Blk W p5 [.int .i64 ((pre.length : Nat) : Int)] ∧ pre.map un3 <+: es,
    fun _ pre W => Gro w W ∧ ¬ (pre.map un3 <+: es),
    table_Table_All_1.its k9 (hT.gro g9) (by omega) (by omega) (fun a ha => hne _ (hT.lt.1 a ha)) (fun h a ha => hne _ (hT.lt.2 h a ha)),
    fun W tu => ⟨g9.turn tu g9.size, k1'.turn tu, ⟨_, k3'.turn tu⟩, k5'.turn tu, List.nil_prefix⟩, ?_, ?_, ?_⟩
  · intro x W _ hs
    refine alK_by fun p18 w19 e18 k18 u18 => k18.sta _ rfl rfl fun w20 k20 u20 => asg_gro (Gro.fresh (Gro.refl W) u18 u20 e18) ?_
    rintro W2 tu pre ⟨hg, h1, ⟨b, h3⟩, h5, hpre⟩ hlen
    have k2 := k20.turn tu
    rw [List.length_map] at hlen
    have hEW := (hE.gro hg).drew
    have hpl : (pre.map un3).length = pre.length := List.length_map ..
    have bad : ¬ ((pre ++ [x]).map un3 <+: es) → ∀ w24, Upd (fun z => z = p3) W2.drew w24 →
        Rnd w9.heap.size (fun z => z = p3 ∨ z = p5) W2 w24 ∧ ∀ W4, Turn w9.heap.size w24 W4 → Gro w W4 ∧ ¬ ((pre ++ [x]).map un3 <+: es) := fun hb w24 u => by
      have u' : Upd (fun z => z = p3) W2 w24 := (Upd.of_gro (Gro.drew W2)).trans u fun _ _ h => h
      exact ⟨Rnd.of u' fun z hz _ => ⟨fun _ => .inl hz, fun h => by have := u9.size; omega⟩, fun W4 t4 => ⟨(Upd.trans hg u' fun i hi h => by omega).turn t4 g9.size, hb⟩⟩
    rw [drK_eq]
    refine h5.drew.i0 rfl (h1.drew.sl0 (brD (fun c => ?_) fun c => ?_))
    · have c : ((pre.length : Nat) : Int) ≥ (sl.2.1 : Int) := c
      omega
    · have hi : pre.length < es.length := hlen
      have he : es[pre.length]? = some es[pre.length] := List.getElem?_eq_getElem hi
      generalize es[pre.length] = e at he
      have key : (pre ++ [x]).map un3 <+: es ↔ un3 x = e := by
        rw [List.map_append]
        obtain ⟨r, hr⟩ := hpre
        subst hr
        rw [← hpl, List.getElem?_append_right (Nat.le_refl _), Nat.sub_self] at he
        rw [List.prefix_append_right_inj]
        cases r with
        | nil => cases he
        | cons y r =>
          obtain rfl : y = e := by simpa using he
          simp
      refine k2.drew.ld3 (h1.drew.sl0 (h5.drew.i0 rfl (hEW.ix rfl he fun a ha => hEW.ldN ha he ?_)))
      refine brNot (fun hb => ?_) fun hb => ?_
      · refine h3.drew.sta _ rfl rfl fun w30 k30 u30 => bad ?_ w30 u30
        rw [key]
        rintro rfl
        simp [un3] at hb
      · have hx : un3 x = e := by
          simp only [Bool.and_eq_true, beq_iff_eq] at hb
          obtain ⟨h1, h2, h3, _⟩ := hb
          exact Prod.ext h1 (Prod.ext h2 h3)
        refine h5.drew.i0 rfl (h5.drew.s0 (by simp) fun w32 k32 u32 => ?_)
        have u' : Upd (fun z => z = p5) W2 w32 := (Upd.of_gro (Gro.drew W2)).trans u32 fun _ _ h => h
        refine ⟨Rnd.of u' fun z hz _ => ⟨fun _ => .inr hz, fun h => by have := u9.size; omega⟩, fun W4 t4 => ⟨(Upd.trans hg u' fun i hi h => by omega).turn t4 g9.size, (h1.upd u' (by omega)).turn t4, ⟨b, (h3.upd u' (by omega)).turn t4⟩, ?_, key.2 hx⟩⟩
        rw [len_succ (by omega)] at k32
        rw [List.length_append]
        exact k32.turn t4
  · rintro D W hD ⟨hg, h1, ⟨b, h3⟩, h5, _⟩ hm
    rw [List.length_map] at h5
    refine h5.i0 rfl (h1.sl0 (h3.sta _ rfl rfl fun w35 k35 u35 => ?_))
    have hm' := hm.upd u35 (by have := u9.size; omega)
    refine tkK_by hm' fun w' ht => (k35.turn (ht _ (Nat.le_refl _))).b0 ?_
    have e1 : (((es.length : Nat) : Int) == (sl.2.1 : Int)) = true := by rw [hl]; simp
    rw [e1]
    exact hk w' ((Upd.trans hg u35 fun i hi h => by omega).turn (ht w.heap.size (Nat.le_trans g9.size hD)) (Nat.le_refl _))
  · intro s' hs' D pre W hD hp hi hm
    simp only [List.mem_singleton] at hs'
    subst hs'
    refine absurd ?_ hi.2
    have := hp.map un3
    rwa [un3_map] at this

theorem law12_first.cl {w : World} {t : Option Addr} {s : Sl} {es : List E3} {most : Int} (hT : TV w t s es) (hn : es.length ≤ 1000000) (hm : 1 ≤ most) {k : TR [(false, [.i .i64])] → World → Prop}
    (hk : ∀ w', Gro w w' → k (((if (es.length : Int) < most then (es.length : Int) else most), ()), ()) w') : clS Try.prog F.law12_first [.pointer t, .int .i64 most] w false [(false, [.i .i64])] k := by
  refine law12_first.ok ?_
  unfold law12_first.wp
  refine alK_by fun p1 w2 e1 k1 u1 => alK_by fun p3 w4 e3 k3 u3 => k3.sta _ rfl rfl fun w5 k5 u5 => ?_
  have l1 := k1.lt
  have l3 := k3.lt
  have n13 : p1 < p3 ∧ w.heap.size ≤ p1 := by omega
  have g5 : Gro w w5 := Gro.fresh u1 u3 u5 e3
  refine table_Table_All.cl fun pb w7 e7 u7 k7 => ?_
  have g7 := g5.trans u7
  have k1' := ((k1.gro u3).upd u5 (by omega)).gro u7
  have k3' := k5.gro u7
  have l3' := k5.lt
  have hne : ∀ b, b < w.heap.size → b ≠ p3 := fun b h => by omega
  refine ⟨fun _ => True, es.map tup3, fun z => z = p3, fun pre W => Gro w W ∧ Blk W p1 [.int .i64 most] ∧ Blk W p3 [.int .i64 ((pre.length : Nat) : Int)] ∧ ((pre.length : Nat) : Int) < most,
    fun _ pre W => Gro w W ∧ Blk W p3 [.int .i64 most] ∧ ((pre.length : Nat) : Int) = most,
    table_Table_All_1.its k7 (hT.gro g7) (by omega) (by omega) (fun a ha => hne _ (hT.lt.1 a ha)) (fun h a ha => hne _ (hT.lt.2 h a ha)),
    fun W tu => ⟨g7.turn tu g7.size, k1'.turn tu, k3'.turn tu, by show (0 : Int) < most; omega⟩, ?_, ?_, ?_⟩
  · intro x W _ hs
    refine asg_gro (Gro.refl W) ?_
    rintro W2 tu pre ⟨hg, h1, h3, hlt⟩ hlen
    rw [List.length_map] at hlen
    refine h3.i0 rfl (h3.s0 (by simp) fun w17 k17 u17 => ?_)
    rw [len_succ (by omega)] at k17
    have R : Rnd w7.heap.size (fun z => z = p3) W2 w17 := Rnd.low1 u17 (by have := u7.size; omega) rfl
    have hg' : ∀ W4, Turn w7.heap.size w17 W4 → Gro w W4 := fun W4 t4 => (Upd.trans hg u17 fun i hi h => by omega).turn t4 g7.size
    have hpl : (pre ++ [x]).length = pre.length + 1 := by simp
    refine k17.i0 rfl ((h1.upd u17 (by omega)).i0 rfl (brD (fun c => ?_) fun c => ?_))
    · have c : ((pre.length + 1 : Nat) : Int) ≥ most := c
      have e : ((pre.length + 1 : Nat) : Int) = most := by omega
      refine ⟨R, fun W4 t4 => ⟨hg' W4 t4, ?_, by rw [hpl]; exact e⟩⟩
      have k4 := k17.turn t4
      change Blk W4 p3 [.int .i64 ((pre.length + 1 : Nat) : Int)] at k4
      rw [e] at k4; exact k4
    · have c : ¬ ((pre.length + 1 : Nat) : Int) ≥ most := c
      exact ⟨R, fun W4 t4 => ⟨hg' W4 t4, (h1.upd u17 (by omega)).turn t4, by rw [hpl]; exact k17.turn t4, by rw [hpl]; omega⟩⟩
  · rintro D W hD ⟨hg, h1, h3, hlt⟩ hmk
    rw [List.length_map] at h3 hlt
    refine h3.i0 rfl (tkK_by hmk fun w' ht => ?_)
    have := hk w' (hg.turn (ht w.heap.size (Nat.le_trans g7.size hD)) (Nat.le_refl _))
    rw [if_pos hlt] at this
    exact this
  · intro s' hs' D pre W hD hp hi hmk
    simp only [List.mem_singleton] at hs'
    subst hs'
    obtain ⟨hg, h3, he⟩ := hi
    refine h3.i0 rfl (tkK_by hmk fun w' ht => ?_)
    have := hk w' (hg.turn (ht w.heap.size (Nat.le_trans g7.size hD)) (Nat.le_refl _))
    have hle := hp.length_le
    rw [List.length_map] at hle
    rw [if_neg (by omega)] at this
    exact this
end Go.Proofs.Ytccnlakbplmhnaa
