/- The law AnchorRuns. Conditions: none. -/
import Derived.Test.YtimdngcmbmamdaaCanc2
namespace Go.Proofs.Ytimdngcmbmamdaa
open Go.Eng Go
set_option linter.unusedVariables false
set_option linter.unusedSimpArgs false

set_option maxRecDepth 20000 in
theorem law23_alive.cl {w : World} {k : TR [(false, [.b])] → World → Prop} (hk : ∀ w', Gro w w' → k ((true, ()), ()) w') : clS Try.prog F.law23_alive [] w false [(false, [.b])] k := by
  refine law23_alive.ok ?_
  unfold law23_alive.wp
  refine alK_by fun p1 w2 e1 k1 u1 => ?_
  have l1 := k1.lt
  refine anchor_Book_Make.cl (b := p1) (has := false) (old := (0, 0, 0, 0, 0, 0)) (me := 3) (tai := 100) (t0 := 5000) (t1 := 0) (t2 := 0) (t3 := 0) (t4 := 0) (by unfold U16; omega) k1 (by decide) fun w4 k4 u4 => ?_
  have hn : IntKind.wrap .u16 ((0 : Int) + 1) = 1 := by decide
  refine alK_by fun p5 w6 e5 k5 u6 => k5.sta _ rfl rfl fun w7 k7 u7 => ?_
  have s4 := u4.size
  have q7 := (k4.gro u6).upd u7 (by omega)
  have f7 : Gro w4 w7 := Gro.fresh (Gro.refl _) u6 u7 e5
  refine anchor_Book_Tai.cl (a := (3, IntKind.wrap .u16 (0 + 1), 0, 0, 5000, 100)) q7 (by decide) (by decide) (by decide) fun w9 u9 => ?_
  refine alK_by fun p10 w11 e10 k10 u11 => k10.sta _ rfl rfl fun w12 k12 u12 => ?_
  have f12 : Gro w7 w12 := Gro.fresh u9 u11 u12 e10
  refine anchor_Book_Tai.cl (a := (3, IntKind.wrap .u16 (0 + 1), 0, 0, 5000, 100)) (q7.gro f12) (by decide) (by decide) (by decide) fun w14 u14 => ?_
  refine alK_by fun p15 w16 e15 k15 u16 => k15.sta _ rfl rfl fun w17 k17 u17 => ?_
  have f17 : Gro w12 w17 := Gro.fresh u14 u16 u17 e15
  have r5 := (k7.gro f12).gro f17
  refine brT rfl (r5.c1 1 rfl (brT (by decide) (r5.c0 rfl (brT (by decide) (brT rfl ((k12.gro f17).ld2 (brT (by decide) (brT rfl (k17.ld2 ?_)))))))))
  have := hk w17 (Upd.trans u1 (((u4.gro f7).gro f12).gro f17) fun i hi h => by omega)
  exact this

theorem nwr_self (a : Int) : nwr a a = false := by
  unfold nwr; rw [Int.sub_self]; decide
theorem nwr_back {s o : Int} (hs : U16 s) (ho : U16 o) : nwr (IntKind.wrap .u16 (s - Int.tmod o 30000)) s = false := by
  unfold U16 at *
  have h : Int.tmod o 30000 = o % 30000 := Int.tmod_eq_emod_of_nonneg ho.1
  have h1 := Int.emod_nonneg o (show (30000 : Int) ≠ 0 by decide)
  have h2 := Int.emod_lt_of_pos o (show (0 : Int) < 30000 by decide)
  rw [h]
  unfold nwr
  refine decide_eq_false ?_
  rw [wi16, wu16, wu16]
  omega

end Go.Proofs.Ytimdngcmbmamdaa
