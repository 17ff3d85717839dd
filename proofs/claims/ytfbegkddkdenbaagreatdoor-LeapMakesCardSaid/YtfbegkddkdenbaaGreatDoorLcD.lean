/- Parse of a table of leaps (leap.Parse): what its text tells, or which error at which line; a line's panic is taken up. Conditions: none. -/
import Derived.Test.YtfbegkddkdenbaaGreatDoorLcC
namespace Go.Proofs.YtfbegkddkdenbaaGreatDoor
open Go.Eng Go
set_option linter.unusedVariables false
set_option linter.unusedSimpArgs false

theorem pcs_len (a : UInt8) : ∀ l : Bs, (pcs a l).length ≤ l.length + 1
  | [] => by simp [pcs]
  | c :: l => by
    have ih := pcs_len a l
    unfold pcs
    split
    · simp; omega
    · cases h : pcs a l with
      | nil => simp
      | cons p ps => rw [h] at ih; simp at ih ⊢; omega
theorem pcs_each (a : UInt8) : ∀ (l : Bs), ∀ x ∈ pcs a l, x.length ≤ l.length
  | [], x, hx => by simp [pcs] at hx; subst hx; simp
  | c :: l, x, hx => by
    have ih := pcs_each a l
    unfold pcs at hx
    split at hx
    · rcases List.mem_cons.1 hx with rfl | hx
      · simp
      · have := ih x hx; simp; omega
    · cases h : pcs a l with
      | nil => rw [h] at hx; simp at hx; subst hx; simp
      | cons p ps =>
        rw [h] at hx ih
        simp only [List.mem_cons] at hx
        rcases hx with rfl | hx
        · have := ih p (by simp); simp; omega
        · have := ih x (by simp [hx]); simp; omega
theorem leap_Parse_1.rec {w : World} {p1 p3 p5 : Nat} {v1 : Option Addr} {z3 z5 : Int} (k1 : Blk w p1 [.pointer v1]) (k3 : Blk w p3 [.int .i64 z3]) (k5 : Blk w p5 [.int .i64 z5]) (o : p1 < p3 ∧ p3 < p5) {e i : Int} {K : FrameMode → World → Prop}
    (h : ∀ w', Blk w' p1 [.pointer none] → Blk w' p3 [.int .i64 i] → Blk w' p5 [.int .i64 e] → Upd (fun x => x = p1 ∨ x = p3 ∨ x = p5) w w' → K (.panicking [{ v := flt e i, recovered := true }]) w') :
    dfK Tryz.prog F.leap_Parse_1 [.pointer (some ⟨p1, 0, none⟩), .pointer (some ⟨p3, 0, none⟩), .pointer (some ⟨p5, 0, none⟩)] (.panicking [{ v := flt e i, recovered := false }]) w K := by
  refine ⟨by simp, by kernel_rfl, CallsDIn.mono (leap_Parse_1.okP (k := K (.panicking [{ v := flt e i, recovered := true }])) ?_) fun e u w ⟨h1, h2, h3⟩ => ⟨h1, by subst h2; exact h3⟩⟩
  unfold leap_Parse_1.wpP
  have l1 := k1.lt
  have l3 := k3.lt
  have l5 := k5.lt
  refine alK_by fun q w2 eq kq u2 => kq.sta _ rfl rfl fun w3 kq u3 => ?_
  have G3 : Gro w w3 := Gro.fresh (Gro.refl _) u2 u3 eq
  rw [drK_eq]
  have G4 := G3.trans (Gro.drew w3)
  have kq := kq.drew
  generalize w3.drew = w4 at G4 kq
  refine kq.i1 1 rfl (kq.i0 rfl ?_)
  refine (k1.gro G4).sN0 [.pointer none] (by simp) rfl fun w7 k7 u7 => ⟨⟨kq.hold u7 (by omega) 0 (by simp), kq.hold u7 (by omega) 1 (by simp), trivial⟩, ?_⟩
  have q7 := kq.upd u7 (by omega)
  refine ((k3.gro G4).upd u7 (by omega)).s0 (by simp) fun w8 k8 u8 => ⟨⟨kq.hold (Upd.trans (S := fun x => x = p1 ∨ x = p3) (u7.mono fun _ x => .inl x) (u8.mono fun _ x => .inr x) fun _ _ x => x) (by omega) 0 (by simp), trivial⟩, ?_⟩
  refine (((k5.gro G4).upd u7 (by omega)).upd u8 (by omega)).s0 (by simp) fun w9 k9 u9 => ⟨trivial, rfl, ?_⟩
  refine h w9 ((k7.upd u8 (by omega)).upd u9 (by omega)) (k8.upd u9 (by omega)) k9 ?_
  exact Upd.trans (Upd.trans (Upd.trans (Upd.of_gro G4) (u7.mono fun _ x => .inl x) fun _ _ x => x) (u8.mono fun _ x => .inr (.inl x)) fun _ _ x => x) (u9.mono fun _ x => .inr (.inr x)) fun _ _ x => x
theorem leap_Parse_1.quiet {w : World} {a b c : Addr} {K : FrameMode → World → Prop} (h : K .returning w) :
    dfK Tryz.prog F.leap_Parse_1 [.pointer (some a), .pointer (some b), .pointer (some c)] .returning w K := by
  refine ⟨by simp, by kernel_rfl, CallsDIn.mono (leap_Parse_1.okN (k := K .returning) ?_) fun e u w ⟨h1, h2, h3⟩ => ⟨h1, by subst h2; exact h3⟩⟩
  unfold leap_Parse_1.wpN
  exact ⟨rfl, h⟩

abbrev RPE : List (Bool × List CK) := [(false, [.p]), (false, [.i .i64]), (false, [.i .i64])]
set_option maxRecDepth 20000 in
set_option maxHeartbeats 1000000 in
theorem leap_Parse.cl {l : Bs} {w : World} {k : TR RPE → World → Prop}
    (h0 : ∀ at_ e, prsL l = (none, at_, e) → ∀ w', Gro w w' → k ((none, ()), (at_, ()), (e, ()), ()) w')
    (h1 : ∀ m, prsL l = (some m, 0, 0) → ∀ b w', w.heap.size ≤ b → TbW w' b m → Gro w w' → k ((some ⟨b, 0, none⟩, ()), (0, ()), (0, ()), ()) w') :
    clS Tryz.prog F.leap_Parse [.string (ofL l)] w true RPE k := by
  refine leap_Parse.ok ?_
  unfold leap_Parse.wp
  refine alK_by fun p1 w2 e1 k1 u1 => alK_by fun p3 w4 e3 k3 u3 => alK_by fun p5 w6 e5 k5 u5 => ?_
  have q1 := k1.lt
  have q3 := k3.lt
  have k1 := (k1.gro u3).gro u5
  have k3 := k3.gro u5
  have g6 := (u1.trans u3).trans u5
  have s2 := u1.size
  have l3 := k3.lt
  have l5 := k5.lt
  have o : p1 < p3 ∧ p3 < p5 := by omega
  have hp1 : w.heap.size = p1 := e1
  rw [ofL_size]
  have low : ∀ {W W' : World}, Gro w W → Upd (fun x => p1 ≤ x) W W' → Gro w W' := fun g u => Upd.trans g u fun j hj h => by omega
  refine brD (fun c => ?_) fun c => ?_
  · have c : (l.length : Int) > 16384 := c
    have hp : prsL l = (none, 0, 5) := by unfold prsL; rw [if_pos (by omega)]
    refine k1.sN0 [.pointer none] (by simp) rfl fun w7 k7 u7 => (k3.upd u7 (by omega)).s0 (by simp) fun w8 k8 u8 => ((k5.upd u7 (by omega)).upd u8 (by omega)).s0 (by simp) fun w9 k9 u9 => ?_
    show ld1 .p ⟨p1, 0, none⟩ w9 _
    refine Blk.p0 ((k7.upd u8 (by omega)).upd u9 (by omega)) (Blk.i0 (k8.upd u9 (by omega)) rfl (k9.i0 rfl ?_))
    refine h0 0 5 hp w9 (low g6 (Upd.trans (Upd.trans (u7.mono fun j h => ?_) (u8.mono fun j h => ?_) fun _ _ x => x) (u9.mono fun j h => ?_) fun _ _ x => x)) <;> omega
  have c : ¬ (l.length : Int) > 16384 := c
  have hp : prsL l = goL (pcs 10 l) 0 r0 := by unfold prsL; rw [if_neg (by omega)]
  refine alK_by fun b w14 eb kb ub => strings_Split.cl (by omega) fun s w16 R16 hs u16 => ?_
  have lb := kb.lt
  have kb := kb.gro u16
  have g16 := (g6.trans ub).trans u16
  have hpl := pcs_len 10 l
  have hpe := pcs_each 10 l
  have hlen := R16.len'
  have sz : w14.heap.size < w16.heap.size := by
    obtain ⟨y, ys, hy⟩ := pcs_head (l := l) (a := 10)
    have := R16.cell hs (z := 0) (i := 0) (l := y) rfl (by rw [hy]; rfl)
    have := cell_lt this
    rw [add_block] at this; exact this
  have hsb : ∀ a, s.1 = some a → a.block ≠ b ∧ a.block < w16.heap.size := fun a ha => by
    rw [hs] at ha; injection ha with ha; subst ha
    exact ⟨by show w14.heap.size ≠ b; omega, sz⟩
  have ob : p5 < b := by omega
  -- what is reading's, in the end
  have back : ∀ {W : World} {e i : Int} {K : FrameMode → World → Prop}, Fr b w16.heap.size w16 W → (∀ w', Gro w w' → k ((none, ()), (i, ()), (e, ()), ()) w') →
      dfK Tryz.prog F.leap_Parse_1 [.pointer (some ⟨p1, 0, none⟩), .pointer (some ⟨p3, 0, none⟩), .pointer (some ⟨p5, 0, none⟩)] (.panicking [{ v := flt e i, recovered := false }]) W fun u w' =>
        enK (settle u) (ld1 .p ⟨p1, 0, none⟩ w' fun x28 => ld1 (.i .i64) ⟨p3, 0, none⟩ w' fun x29 => ld1 (.i .i64) ⟨p5, 0, none⟩ w' fun x30 => k ((x28, ()), (x29, ()), (x30, ()), ()) w') fun ch => paK ch (fun _ _ => False) w' := by
    intro W e i K fr hk
    have f1 := (k1.gro (ub.trans u16)).upd fr (by omega)
    have f3 := (k3.gro (ub.trans u16)).upd fr (by omega)
    have f5 := (k5.gro (ub.trans u16)).upd fr (by omega)
    refine leap_Parse_1.rec f1 f3 f5 o fun w' q1 q3 q5 u => ?_
    show ld1 .p ⟨p1, 0, none⟩ w' _
    refine q1.p0 (q3.i0 rfl (q5.i0 rfl (hk w' ?_)))
    exact low g16 (Upd.trans (fr.mono fun j h => by omega) (u.mono fun j h => by omega) fun _ _ x => x)
  refine LoopT.by (fun z W => ∃ (i : Nat) (r : RS), z.1 = i ∧ i ≤ (pcs 10 l).length ∧ RI r ∧ RdW W b w16.heap.size i r ∧ Fr b w16.heap.size w16 W ∧ goL (pcs 10 l) 0 r0 = goL ((pcs 10 l).drop i) i r)
    (fun z => (((pcs 10 l).length : Int) - z.1).toNat) ⟨0, r0, rfl, by omega, RI.zero, ⟨(none, 0, 0), kb, OwnR.nil _ _ _ _⟩, Fr.gro (Gro.refl _), rfl⟩ ?_
  rintro ⟨z, _⟩ W ⟨i, r, ez, hi, hI, hd, fr, hgo⟩ _
  dsimp only at ez
  subst ez
  have szW := fr.size
  refine brD (fun c2 => ?_) fun c2 => ?_
  · have c2 : (i : Int) < s.2.1 := c2
    have hi' : i < (pcs 10 l).length := by omega
    have hx : (pcs 10 l)[i]? = some (pcs 10 l)[i] := List.getElem?_eq_getElem hi'
    have hdr : (pcs 10 l).drop i = (pcs 10 l)[i] :: (pcs 10 l).drop (i + 1) := List.drop_eq_getElem_cons hi'
    have hxl := hpe _ (List.getElem_mem hi')
    generalize (pcs 10 l)[i] = x at hx hdr hxl
    rw [hdr, goL] at hgo
    have RW : RowS W s (pcs 10 l) := R16.upd fr fun a ha hh => by have := hsb a ha; omega
    refine RW.get rfl hx (leap_reader_read.cl hd hI (by omega) (by omega) (by omega) szW (by omega) ?_)
    cases hst : stepL r x with
    | inr e =>
      rw [hst] at hgo
      intro w' u
      exact back (K := fun _ _ => True) (Fr.trans' fr u) fun w'' g => h0 _ _ (by rw [hp, hgo]) w'' g
    | inl r' =>
      rw [hst] at hgo
      intro w' hd' u
      have ei : IntKind.wrap .i64 ((i : Int) + 1) = ((i + 1 : Nat) : Int) := by rw [w64_in (by unfold I64; omega)]; omega
      refine ⟨⟨i + 1, r', ei, by omega, stepL_inv hI hst, hd', Fr.trans' fr u, hgo⟩, ?_⟩
      show (((pcs 10 l).length : Int) - IntKind.wrap .i64 ((i : Int) + 1)).toNat < (((pcs 10 l).length : Int) - (i : Int)).toNat
      rw [ei]; omega
  · have c2 : ¬ (i : Int) < s.2.1 := c2
    have : i = (pcs 10 l).length := by omega
    subst this
    rw [List.drop_length, goL] at hgo
    obtain ⟨sl, hB, hO⟩ := hd
    refine CutT.by (fun _ W' => W = W' ∧ ¬ r.q < 2) ?_ ?_
    · refine hB.i1 1 rfl (brD (fun c3 => ?_) fun c3 => ⟨rfl, fun h => c3 (by show (r.q : Int) < 2; omega)⟩)
      have c3 : (r.q : Int) < 2 := c3
      rw [if_pos (by omega)] at hgo
      exact leap_reader_fail.cl hB (back (K := fun _ _ => True) fr fun w'' g => h0 _ _ (by rw [hp, hgo]) w'' g)
    rintro _ _ ⟨rfl, hq⟩ _
    rw [if_neg hq] at hgo
    rw [drK_eq]
    have B4 := hB.drew
    have O4 := OwnR.gro hO (Gro.drew W)
    have fr4 := Fr.trans' fr (Fr.gro (Gro.drew W))
    generalize W.drew = w44 at B4 O4 fr4
    refine B4.i1 2 rfl (B4.i1 3 rfl (B4.i1 4 rfl (B4.c1 5 (c := .sl) (x := sl) rfl (alK_by fun p49 w50 e50 k50 u50 => ?_))))
    have f1 := ((k1.gro (ub.trans u16)).upd fr4 (by omega)).gro u50
    have f3 := ((k3.gro (ub.trans u16)).upd fr4 (by omega)).gro u50
    have f5 := ((k5.gro (ub.trans u16)).upd fr4 (by omega)).gro u50
    have l44 := B4.lt
    have s44 := fr4.size
    refine ⟨⟨B4.hold u50 (fun x => x) 5 (by simp), B4.hold u50 (fun x => x) 4 (by simp), B4.hold u50 (fun x => x) 3 (by simp), B4.hold u50 (fun x => x) 2 (by simp), trivial⟩, ?_⟩
    refine f1.sN0 [.pointer (some ⟨p49, 0, none⟩)] (by simp) rfl fun w51 k51 u51 => ⟨trivial, (f3.upd u51 (by omega)).s0 (by simp) fun w52 k52 u52 => ⟨trivial, ((f5.upd u51 (by omega)).upd u52 (by omega)).s0 (by simp) fun w53 k53 u53 => ⟨trivial, ?_⟩⟩⟩
    refine leap_Parse_1.quiet ?_
    show ld1 .p ⟨p1, 0, none⟩ w53 _
    refine Blk.p0 ((k51.upd u52 (by omega)).upd u53 (by omega)) (Blk.i0 (k52.upd u53 (by omega)) rfl (k53.i0 rfl ?_))
    have O50 := OwnR.gro O4 u50
    have O53 : OwnE T.leap_Leap w53 w16.heap.size sl r.t.ls := OwnR.upd (OwnR.upd (OwnR.upd O50 u51 fun a ha hh => by have := (OwnR.blk O50 ha).1; omega) u52 fun a ha hh => by have := (OwnR.blk O50 ha).1; omega) u53 fun a ha hh => by have := (OwnR.blk O50 ha).1; omega
    refine h1 r.t (by rw [hp, hgo]) p49 w53 (by have := g16.size; omega) ⟨sl, ((k50.upd u51 (by omega)).upd u52 (by omega)).upd u53 (by omega), OwnE.rows O53⟩ ?_
    refine low g16 (Upd.trans (Upd.trans (Upd.trans (Upd.trans (fr4.mono fun j h => ?_) (Upd.of_gro u50) fun _ _ x => x) (u51.mono fun j h => ?_) fun _ _ x => x) (u52.mono fun j h => ?_) fun _ _ x => x) (u53.mono fun j h => ?_) fun _ _ x => x) <;> omega
end Go.Proofs.YtfbegkddkdenbaaGreatDoor
