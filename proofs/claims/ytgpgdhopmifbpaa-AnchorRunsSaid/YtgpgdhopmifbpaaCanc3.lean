/- The law AnchorRuns. Conditions: none. -/
import Derived.Test.YtgpgdhopmifbpaaCanc2
namespace Go.Proofs.Ytgpgdhopmifbpaa
open Go.Eng Go
set_option linter.unusedVariables false
set_option linter.unusedSimpArgs false

set_option maxRecDepth 20000 in
theorem law23_alive.cl {w : World} {k : TR [(false, [.b])] → World → Prop} (hk : ∀ w', Gro w w' → k ((true, ()), ()) w') : clS Try.prog F.law23_alive [] w false [(false, [.b])] k := by
  refine law23_alive.ok ?_
  unfold law23_alive.wp
  refine alK_by fun p1 w2 e1 k1 u1 => ?_
  have l1 := k1.lt
  refine anchor_Book_Make.cl (b := p1) (has := false) (old := (0, 0, 0, 0, 0, 0)) (me := 3) (tai := 100) (t0 := 5000) (t1 := 0) (t2 := 0) (t3 := 0) (t4 := 0) (by unfold U16; omega) k1 (by decide) fun w4 k4 u4 => ?_
  have hn : IntKind.wrap .u16 ((0 : Int) + 1) = 1 := by decide
  refine alK_by fun p5 w6 e5 k5 u6 => k5.sta _ rfl rfl fun w7 k7 u7 => ?_
  have s4 := u4.size
  have q7 := (k4.gro u6).upd u7 (by omega)
  have f7 : Gro w4 w7 := Gro.fresh (Gro.refl _) u6 u7 e5
  refine anchor_Book_Tai.cl (a := (3, IntKind.wrap .u16 (0 + 1), 0, 0, 5000, 100)) q7 (by decide) (by decide) (by decide) fun w9 u9 => ?_
  refine alK_by fun p10 w11 e10 k10 u11 => k10.sta _ rfl rfl fun w12 k12 u12 => ?_
  have f12 : Gro w7 w12 := Gro.fresh u9 u11 u12 e10
  refine anchor_Book_Tai.cl (a := (3, IntKind.wrap .u16 (0 + 1), 0, 0, 5000, 100)) (q7.gro f12) (by decide) (by decide) (by decide) fun w14 u14 => ?_
  refine alK_by fun p15 w16 e15 k15 u16 => k15.sta _ rfl rfl fun w17 k17 u17 => ?_
  have f17 : Gro w12 w17 := Gro.fresh u14 u16 u17 e15
  have r5 := (k7.gro f12).gro f17
  refine brT rfl (r5.c1 1 rfl (brT (by decide) (r5.c0 rfl (brT (by decide) (brT rfl ((k12.gro f17).ld2 (brT (by decide) (brT rfl (k17.ld2 ?_)))))))))
  have := hk w17 (Upd.trans u1 (((u4.gro f7).gro f12).gro f17) fun i hi h => by omega)
  exact this

theorem nwr_self (a : Int) : nwr a a = false := by
  unfold nwr; rw [Int.sub_self]; decide
theorem nwr_back {s o : Int} (hs : U16 s) (ho : U16 o) : nwr (IntKind.wrap .u16 (s - Int.tmod o 30000)) s = false := by
  unfold U16 at *
  have h : Int.tmod o 30000 = o % 30000 := Int.tmod_eq_emod_of_nonneg ho.1
  have h1 := Int.emod_nonneg o (show (30000 : Int) ≠ 0 by decide)
  have h2 := Int.emod_lt_of_pos o (show (0 : Int) < 30000 by decide)
  rw [h]
  unfold nwr
  refine decide_eq_false ?_
  rw [wi16, wu16, wu16]
  omega

set_option maxRecDepth 20000 in
set_option maxHeartbeats 2000000 in
theorem law23_AnchorRuns.cl {x y : P14} {t n : Int} (hx : UP x) (hy : UP y) (ht : I64 t) (hn : I64 n) {w : World} :
    clS Try.prog F.law23_AnchorRuns [vP x, vP y, .int .i64 t, .int .i64 n] w false [(false, [.b])] (Holds w) := by
  refine law23_AnchorRuns.ok ?_
  unfold law23_AnchorRuns.wp
  refine alK_by fun p1 w2 e1 k1 u1 => alK_by fun p3 w4 e3 k3 u3 => ?_
  change Blk w2 p1 (encs K14 x) at k1
  change Blk w4 p3 (encs K14 y) at k3
  have l1 := k1.lt
  have l3 := k3.lt
  have g4 := u1.trans u3
  refine law23_alive.cl fun w6 u6 => brF rfl ?_
  have n13 : p1 ≠ p3 ∧ w.heap.size ≤ p1 ∧ w.heap.size ≤ p3 := by have := u1.size; omega
  refine ((k1.gro u3).gro u6).sN0 [.int .i64 6] (by simp [encs]) rfl fun w7 k7 u7 => ?_
  change Blk w7 p1 (encs K14 (6, x.2)) at k7
  refine ((k3.gro u6).upd u7 (by omega)).sN0 [.int .i64 6] (by simp [encs]) rfl fun w8 k8 u8 => ?_
  change Blk w8 p3 (encs K14 (6, y.2)) at k8
  have q1 := k7.upd u8 (by omega)
  have g8 : Gro w w8 := Upd.trans (Upd.trans (g4.trans u6) u7 fun i hi h => by omega) u8 fun i hi h => by omega
  have s8 : w4.heap.size ≤ w8.heap.size := Nat.le_trans u6.size (Nat.le_trans u7.size u8.size)
  obtain ⟨x', ex⟩ : ∃ x' : P14, x' = (6, x.2) := ⟨_, rfl⟩
  have hx' : UP x' := by rw [ex]; exact hx
  have h6 : x'.1 = 6 := by rw [ex]
  have es : ofP x' = ofP x := by rw [ex]; rfl
  rw [← ex] at q1
  clear ex
  refine q1.cA x' rfl (ref05_Good.cl6 (x := x') hx' h6 fun w11 u11 => brNot (fun _ => holds (g8.trans u11) rfl) fun hg => ?_)
  have hg : okF (flA (ofP x')) = true := hg
  have g11 := g8.trans u11
  refine brD (fun _ => holds g11 rfl) fun c1 => brD (fun _ => holds g11 rfl) fun c2 => brD (fun _ => holds g11 rfl) fun c3 => brD (fun _ => holds g11 rfl) fun c4 => ?_
  have hUA : UA (ofP x') := ⟨hx'.2, hx'.1⟩
  refine alK_by fun p12 w13 e12 k12 u13 => ?_
  have n12 : p1 ≠ p12 ∧ p3 ≠ p12 ∧ w.heap.size ≤ p12 := by have := u11.size; have := g11.size; omega
  have l12 := k12.lt
  have q13 := (q1.gro u11).gro u13
  refine q13.c1 3 rfl (q13.c1 4 rfl (alK_by fun p16 w17 e16 k16 u17 => k16.sta _ rfl rfl fun w18 k18 u18 => ?_))
  have f18 : Gro w13 w18 := Gro.fresh (Gro.refl _) u17 u18 e16
  have n16 : p12 < p16 ∧ p1 < p16 ∧ p3 < p16 := by have := u11.size; have := u13.size; omega
  have q18 := q13.gro f18
  have B18 := k12.gro f18
  have l18 := k18.lt
  refine q18.cA x' rfl (law23_of.cl (x := x') fun w21 u21 => ?_)
  refine anchor_Book_Hear.cl (b := p12) (has := false) (old := (0, 0, 0, 0, 0, 0)) (a := ofP x') hUA (B18.gro u21) (fun _ _ w23 B23 u23 => ?_) fun hno => absurd ⟨hg, fun h => by cases h⟩ hno
  have g21 := (g11.trans u13).trans (f18.trans u21)
  have g23 : Gro w w23 := Upd.trans g21 u23 fun i hi h => by omega
  have q23 := (q18.gro u21).upd u23 (by omega)
  have k23 := (k18.gro u21).upd u23 (by omega)
  have s23 : w18.heap.size ≤ w23.heap.size := Nat.le_trans u21.size u23.size
  refine brF rfl (q23.cA x' rfl (law23_of.cl (x := x') fun w26 u26 => ?_))
  refine anchor_Book_Hear.cl (b := p12) (has := true) (old := ofP x') (a := ofP x') hUA (B23.gro u26) (fun _ h => absurd (h rfl) (by rw [nwr_self]; simp)) fun _ w28 B28 u28 => brF rfl ?_
  have f28 := u26.trans u28
  have ew : ∀ z : P14, (z.2.2.2.1, z.2.2.2.2.1) = (((ofP z).2.2.1, (ofP z).2.2.2.1) : Int × Int) := fun _ => rfl
  refine (k23.gro f28).cA (cs := [.i .i64, .i .u16]) ((ofP x').2.2.1, (ofP x').2.2.2.1, ()) rfl ?_
  have b1 : -1125899906842624 ≤ 0 := by decide
  refine anchor_Book_Tai.cl (a := ofP x') B28 (by omega) (by omega) hg fun w31 u31 => ?_
  refine alK_by fun p32 w33 e32 k32 u33 => k32.sta _ rfl rfl fun w34 k34 u34 => ?_
  have f34 : Gro w28 w34 := Gro.fresh u31 u33 u34 e32
  have l34 := k34.lt
  have n32 : p16 < p32 := by have := f28.size; have := u31.size; omega
  have q34 := (q23.gro f28).gro f34
  have y8 : Blk w34 p3 (encs K14 (6, y.2)) := ((((((((k8.gro u11).gro u13).gro f18).gro u21).upd u23 (by omega)).gro f28).gro f34))
  refine q34.c1 5 rfl (y8.c1 5 rfl ?_)
  rw [nzK_eq (by decide)]
  refine y8.sN 5 _ (by simp [encs]) rfl fun w37 k37 u37 => ?_
  obtain ⟨s', es'⟩ : ∃ s', s' = IntKind.wrap .u16 (x'.2.2.2.2.2.1 - Int.tmod y.2.2.2.2.2.1 30000) := ⟨_, rfl⟩
  change Blk w37 p3 (encs K14 (6, y.2.1, y.2.2.1, y.2.2.2.1, y.2.2.2.2.1, IntKind.wrap .u16 (x'.2.2.2.2.2.1 - Int.tmod y.2.2.2.2.2.1 30000), y.2.2.2.2.2.2)) at k37
  rw [← es'] at k37
  have hs' : U16 s' := by rw [es', wu16]; unfold U16; omega
  obtain ⟨y', ey⟩ : ∃ y' : P14, y' = (6, y.2.1, y.2.2.1, y.2.2.2.1, y.2.2.2.2.1, s', y.2.2.2.2.2.2) := ⟨_, rfl⟩
  rw [← ey] at k37
  have hUy : UA (ofP y') := by rw [ey]; exact ⟨hs', hy.1⟩
  have hold : nwr (ofP y').2.1 (ofP x').2.1 = false := by
    rw [ey]
    show nwr s' x'.2.2.2.2.2.1 = false
    rw [es']
    exact nwr_back hx'.2 hy.2
  refine k37.cA y' rfl (law23_of.cl (x := y') fun w40 u40 => ?_)
  have B40 := ((B28.gro f34).upd u37 (by omega)).gro u40
  refine anchor_Book_Hear.cl (b := p12) (has := true) (old := ofP x') (a := ofP y') hUy B40 (fun _ h => absurd (h rfl) (by rw [hold]; simp)) fun _ w42 B42 u42 => brF rfl ?_
  have k42 := ((((k23.gro f28).gro f34).upd u37 (by omega)).gro u40).gro u42
  have m42 := ((k34.upd u37 (by omega)).gro u40).gro u42
  have g34 := (g23.trans f28).trans f34
  have g37 : Gro w w37 := Upd.trans g34 u37 fun i hi h => by omega
  have g42 := g37.trans (u40.trans u42)
  refine k42.cA (cs := [.i .i64, .i .u16]) ((ofP x').2.2.1, (ofP x').2.2.2.1, ()) rfl ?_
  rw [w64_in (n := 1000 * n) (by unfold I64; omega), w64_in (n := t + 1000 * n) (by unfold I64; omega)]
  refine anchor_Book_Tai.cl (a := ofP x') B42 (by omega) (by omega) hg fun w45 u45 => ?_
  refine alK_by fun p46 w47 e46 k46 u47 => k46.sta _ rfl rfl fun w48 k48 u48 => brT rfl (brT rfl ?_)
  have f48 : Gro w42 w48 := Gro.fresh u45 u47 u48 e46
  have m48 := m42.gro f48
  unfold okF at hg
  rw [List.all_eq_true] at hg
  have i4 := inF_iff.1 (hg (8, (ofP x').2.2.2.2.1, 1125899906842624) (by simp [flA]))
  have i5 := inF_iff.1 (hg (8, (ofP x').2.2.2.2.2, 1125899906842624) (by simp [flA]))
  dsimp only at i4 i5
  refine k48.i0 rfl (m48.i0 rfl (brT ?_ (k48.i1 1 rfl (m48.i1 1 rfl (holds (g42.trans f48) ?_)))))
  · show ((ofP x').2.2.2.2.2 + (t + 1000 * n - (ofP x').2.2.2.2.1) / 1000 == IntKind.wrap .i64 ((ofP x').2.2.2.2.2 + (t - (ofP x').2.2.2.2.1) / 1000 + n)) = true
    rw [w64_in (by unfold I64; omega), beq_iff_eq]
    omega
  · show ((t + 1000 * n - (ofP x').2.2.2.2.1) % 1000 == (t - (ofP x').2.2.2.2.1) % 1000) = true
    rw [beq_iff_eq]
    omega
end Go.Proofs.Ytgpgdhopmifbpaa
