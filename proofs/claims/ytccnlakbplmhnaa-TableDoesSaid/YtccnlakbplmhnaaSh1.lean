import Derived.Test.YtccnlakbplmhnaaNm
namespace Go.Proofs.Ytccnlakbplmhnaa
open Go.Eng
set_option linter.unusedVariables false
/-! ### law01_FixScales -/
set_option maxRecDepth 100000 in
def law01_FixScales.wp (a : Int) (c : Int) (w : World) (R : TR [(false, [.b])] → World → Prop) : Prop :=
clS Try.prog F.law01_alive [] w false [(false, [.b])] fun r1 w2 =>
brB (!r1.1.1) (
R ((false, ()), ()) w2) (
brB (decide (c < 1)) (
clS Try.prog F.fix_MulDiv [.int .i64 a, .int .i64 c, .int .i64 c] w2 true [(false, [(.i .i64)]), (false, [.b])] fun r3 w4 =>
R ((!r3.2.1.1, ()), ()) w4) (
clS Try.prog F.fix_MulDiv [.int .i64 a, .int .i64 c, .int .i64 c] w2 true [(false, [(.i .i64)]), (false, [.b])] fun r5 w6 =>
brB (!r5.2.1.1) (
R ((false, ()), ()) w6) (
brB (r5.1.1 != a) (
R ((false, ()), ()) w6) (
clS Try.prog F.fix_MulDiv [.int .i64 a, .int .i64 (IntKind.wrap .i64 (0 - c)), .int .i64 c] w6 true [(false, [(.i .i64)]), (false, [.b])] fun r7 w8 =>
brB (a == (Int.negSucc 9223372036854775807)) (
brB (!r7.2.1.1) (
R (((r7.1.1 == 0), ()), ()) w8) (
R ((false, ()), ()) w8)) (
brB r7.2.1.1 (
R (((r7.1.1 == (IntKind.wrap .i64 (0 - a))), ()), ()) w8) (
R ((false, ()), ()) w8))))))
set_option maxRecDepth 100000 in
theorem law01_FixScales.eq (a : Int) (c : Int) (w : World) (R : Value → World → Prop) : wpF Try.prog Try.f13 .n [.int .i64 a, .int .i64 c] w R = law01_FixScales.wp a c w (fun r w => R (encR false [(false, [.b])] r) w) := by kernel_rfl
theorem law01_FixScales.ok {a : Int} {c : Int} {w : World} {R : TR [(false, [.b])] → World → Prop} (h : law01_FixScales.wp a c w R) : clS Try.prog F.law01_FixScales [.int .i64 a, .int .i64 c] w false [(false, [.b])] R :=
  ok_of Try_follows Try.func13 (fun R => law01_FixScales.wp a c w R) (law01_FixScales.eq a c w) rfl h
/-! ### law01_FixClamps -/
set_option maxRecDepth 100000 in
def law01_FixClamps.wp (x : Int) (low : Int) (high : Int) (w : World) (R : TR [(false, [.b])] → World → Prop) : Prop :=
clS Try.prog F.law01_alive [] w false [(false, [.b])] fun r1 w2 =>
brB (!r1.1.1) (
R ((false, ()), ()) w2) (
clS Try.prog F.fix_Clamp [.int .i64 x, .int .i64 low, .int .i64 high] w2 false [(false, [(.i .i64)])] fun r3 w4 =>
brB (decide (high < low)) (
R (((r3.1.1 == low), ()), ()) w4) (
brB (decide (r3.1.1 ≥ low)) (
brB (decide (r3.1.1 ≤ high)) (
brB (r3.1.1 == x) (
R ((true, ()), ()) w4) (
brB (decide (x < low)) (
brB (r3.1.1 == low) (
R ((true, ()), ()) w4) (
brB (decide (x > high)) (
R (((r3.1.1 == high), ()), ()) w4) (
R ((false, ()), ()) w4))) (
brB (decide (x > high)) (
R (((r3.1.1 == high), ()), ()) w4) (
R ((false, ()), ()) w4)))) (
R ((false, ()), ()) w4)) (
R ((false, ()), ()) w4)))
set_option maxRecDepth 100000 in
theorem law01_FixClamps.eq (x : Int) (low : Int) (high : Int) (w : World) (R : Value → World → Prop) : wpF Try.prog Try.f14 .n [.int .i64 x, .int .i64 low, .int .i64 high] w R = law01_FixClamps.wp x low high w (fun r w => R (encR false [(false, [.b])] r) w) := by kernel_rfl
theorem law01_FixClamps.ok {x : Int} {low : Int} {high : Int} {w : World} {R : TR [(false, [.b])] → World → Prop} (h : law01_FixClamps.wp x low high w R) : clS Try.prog F.law01_FixClamps [.int .i64 x, .int .i64 low, .int .i64 high] w false [(false, [.b])] R :=
  ok_of Try_follows Try.func14 (fun R => law01_FixClamps.wp x low high w R) (law01_FixClamps.eq x low high w) rfl h
/-! ### law01_FixOrder -/
set_option maxRecDepth 100000 in
def law01_FixOrder.wp (a : Int) (b : Int) (c : Int) (w : World) (R : TR [(false, [.b])] → World → Prop) : Prop :=
clS Try.prog F.law01_alive [] w false [(false, [.b])] fun r1 w2 =>
brB (!r1.1.1) (
R ((false, ()), ()) w2) (
brB (decide (a > b)) (
R ((true, ()), ()) w2) (
clS Try.prog F.fix_Sat [.int .i64 a, .int .i64 c] w2 false [(false, [(.i .i64)])] fun r3 w4 =>
clS Try.prog F.fix_Sat [.int .i64 b, .int .i64 c] w4 false [(false, [(.i .i64)])] fun r5 w6 =>
R ((decide (r3.1.1 ≤ r5.1.1), ()), ()) w6))
set_option maxRecDepth 100000 in
theorem law01_FixOrder.eq (a : Int) (b : Int) (c : Int) (w : World) (R : Value → World → Prop) : wpF Try.prog Try.f15 .n [.int .i64 a, .int .i64 b, .int .i64 c] w R = law01_FixOrder.wp a b c w (fun r w => R (encR false [(false, [.b])] r) w) := by kernel_rfl
theorem law01_FixOrder.ok {a : Int} {b : Int} {c : Int} {w : World} {R : TR [(false, [.b])] → World → Prop} (h : law01_FixOrder.wp a b c w R) : clS Try.prog F.law01_FixOrder [.int .i64 a, .int .i64 b, .int .i64 c] w false [(false, [.b])] R :=
  ok_of Try_follows Try.func15 (fun R => law01_FixOrder.wp a b c w R) (law01_FixOrder.eq a b c w) rfl h
/-! ### law01_FixSums -/
set_option maxRecDepth 100000 in
def law01_FixSums.wp (a : Int) (b : Int) (w : World) (R : TR [(false, [.b])] → World → Prop) : Prop :=
clS Try.prog F.law01_alive [] w false [(false, [.b])] fun r1 w2 =>
brB (!r1.1.1) (
R ((false, ()), ()) w2) (
clS Try.prog F.fix_Add [.int .i64 a, .int .i64 b] w2 true [(false, [(.i .i64)]), (false, [.b])] fun r3 w4 =>
clS Try.prog F.ref01_Add [.int .i64 a, .int .i64 b] w4 true [(false, [(.i .i64)]), (false, [.b])] fun r5 w6 =>
brB (r3.1.1 != r5.1.1) (
R ((false, ()), ()) w6) (
brB (!(r3.2.1.1 == r5.2.1.1)) (
R ((false, ()), ()) w6) (
CutT (fun (J7 : Unit → World → Prop) =>
brB r3.2.1.1 (
clS Try.prog F.fix_Sat [.int .i64 a, .int .i64 b] w6 false [(false, [(.i .i64)])] fun r10 w11 =>
brB (r10.1.1 != r5.1.1) (
R ((false, ()), ()) w11) (
brB (!r3.2.1.1) (
brB (decide (b > 0)) (
clS Try.prog F.fix_Sat [.int .i64 a, .int .i64 b] w11 false [(false, [(.i .i64)])] fun r12 w13 =>
brB (r12.1.1 != 9223372036854775807) (
R ((false, ()), ()) w13) (
brB (!r3.2.1.1) (
brB (decide (b < 0)) (
clS Try.prog F.fix_Sat [.int .i64 a, .int .i64 b] w13 false [(false, [(.i .i64)])] fun r14 w15 =>
brB (r14.1.1 != (Int.negSucc 9223372036854775807)) (
R ((false, ()), ()) w15) (
J7 (()) w15)) (
J7 (()) w13)) (
J7 (()) w13))) (
brB (!r3.2.1.1) (
brB (decide (b < 0)) (
clS Try.prog F.fix_Sat [.int .i64 a, .int .i64 b] w11 false [(false, [(.i .i64)])] fun r16 w17 =>
brB (r16.1.1 != (Int.negSucc 9223372036854775807)) (
R ((false, ()), ()) w17) (
J7 (()) w17)) (
J7 (()) w11)) (
J7 (()) w11))) (
brB (!r3.2.1.1) (
brB (decide (b < 0)) (
clS Try.prog F.fix_Sat [.int .i64 a, .int .i64 b] w11 false [(false, [(.i .i64)])] fun r18 w19 =>
brB (r18.1.1 != (Int.negSucc 9223372036854775807)) (
R ((false, ()), ()) w19) (
J7 (()) w19)) (
J7 (()) w11)) (
J7 (()) w11)))) (
brB (!r3.2.1.1) (
brB (decide (b > 0)) (
clS Try.prog F.fix_Sat [.int .i64 a, .int .i64 b] w6 false [(false, [(.i .i64)])] fun r20 w21 =>
brB (r20.1.1 != 9223372036854775807) (
R ((false, ()), ()) w21) (
brB (!r3.2.1.1) (
brB (decide (b < 0)) (
clS Try.prog F.fix_Sat [.int .i64 a, .int .i64 b] w21 false [(false, [(.i .i64)])] fun r22 w23 =>
brB (r22.1.1 != (Int.negSucc 9223372036854775807)) (
R ((false, ()), ()) w23) (
J7 (()) w23)) (
J7 (()) w21)) (
J7 (()) w21))) (
brB (!r3.2.1.1) (
brB (decide (b < 0)) (
clS Try.prog F.fix_Sat [.int .i64 a, .int .i64 b] w6 false [(false, [(.i .i64)])] fun r24 w25 =>
brB (r24.1.1 != (Int.negSucc 9223372036854775807)) (
R ((false, ()), ()) w25) (
J7 (()) w25)) (
J7 (()) w6)) (
J7 (()) w6))) (
brB (!r3.2.1.1) (
brB (decide (b < 0)) (
clS Try.prog F.fix_Sat [.int .i64 a, .int .i64 b] w6 false [(false, [(.i .i64)])] fun r26 w27 =>
brB (r26.1.1 != (Int.negSucc 9223372036854775807)) (
R ((false, ()), ()) w27) (
J7 (()) w27)) (
J7 (()) w6)) (
J7 (()) w6)))) (fun (z8 : Unit) w9 => ∀ _ : Nat → Value,
clS Try.prog F.fix_Sub [.int .i64 a, .int .i64 b] w9 true [(false, [(.i .i64)]), (false, [.b])] fun r28 w29 =>
brB (b == (Int.negSucc 9223372036854775807)) (
brB (r28.2.1.1 == (decide (a < 0))) (
brB r28.2.1.1 (
brB (!r28.2.1.1) (
R ((true, ()), ()) w29) (
R (((r28.1.1 == (IntKind.wrap .i64 (a - b))), ()), ()) w29)) (
brB (r28.1.1 == 0) (
brB (!r28.2.1.1) (
R ((true, ()), ()) w29) (
R (((r28.1.1 == (IntKind.wrap .i64 (a - b))), ()), ()) w29)) (
R ((false, ()), ()) w29))) (
R ((false, ()), ()) w29)) (
clS Try.prog F.ref01_Add [.int .i64 a, .int .i64 (IntKind.wrap .i64 (0 - b))] w29 true [(false, [(.i .i64)]), (false, [.b])] fun r30 w31 =>
brB (r28.1.1 == r30.1.1) (
R (((r28.2.1.1 == r30.2.1.1), ()), ()) w31) (
R ((false, ()), ()) w31))))))
set_option maxRecDepth 100000 in
theorem law01_FixSums.eq (a : Int) (b : Int) (w : World) (R : Value → World → Prop) : wpF Try.prog Try.f16 (.s .n (.s .n (.s .n (.s .n (.s .n (.ct [] .n .n)))))) [.int .i64 a, .int .i64 b] w R = law01_FixSums.wp a b w (fun r w => R (encR false [(false, [.b])] r) w) := by kernel_rfl
theorem law01_FixSums.ok {a : Int} {b : Int} {w : World} {R : TR [(false, [.b])] → World → Prop} (h : law01_FixSums.wp a b w R) : clS Try.prog F.law01_FixSums [.int .i64 a, .int .i64 b] w false [(false, [.b])] R :=
  ok_of Try_follows Try.func16 (fun R => law01_FixSums.wp a b w R) (law01_FixSums.eq a b w) rfl h
/-! ### law01_FixBack -/
set_option maxRecDepth 100000 in
def law01_FixBack.wp (a : Int) (b : Int) (w : World) (R : TR [(false, [.b])] → World → Prop) : Prop :=
clS Try.prog F.law01_alive [] w false [(false, [.b])] fun r1 w2 =>
brB (!r1.1.1) (
R ((false, ()), ()) w2) (
clS Try.prog F.fix_Add [.int .i64 a, .int .i64 b] w2 true [(false, [(.i .i64)]), (false, [.b])] fun r3 w4 =>
brB (!r3.2.1.1) (
R (((r3.1.1 == 0), ()), ()) w4) (
clS Try.prog F.fix_Sub [.int .i64 r3.1.1, .int .i64 b] w4 true [(false, [(.i .i64)]), (false, [.b])] fun r5 w6 =>
brB r5.2.1.1 (
brB (r5.1.1 == a) (
clS Try.prog F.fix_Sat [.int .i64 a, .int .i64 b] w6 false [(false, [(.i .i64)])] fun r7 w8 =>
R (((r7.1.1 == r3.1.1), ()), ()) w8) (
R ((false, ()), ()) w6)) (
R ((false, ()), ()) w6)))
set_option maxRecDepth 100000 in
theorem law01_FixBack.eq (a : Int) (b : Int) (w : World) (R : Value → World → Prop) : wpF Try.prog Try.f17 .n [.int .i64 a, .int .i64 b] w R = law01_FixBack.wp a b w (fun r w => R (encR false [(false, [.b])] r) w) := by kernel_rfl
theorem law01_FixBack.ok {a : Int} {b : Int} {w : World} {R : TR [(false, [.b])] → World → Prop} (h : law01_FixBack.wp a b w R) : clS Try.prog F.law01_FixBack [.int .i64 a, .int .i64 b] w false [(false, [.b])] R :=
  ok_of Try_follows Try.func17 (fun R => law01_FixBack.wp a b w R) (law01_FixBack.eq a b w) rfl h
/-! ### law13_SlopeGains -/
set_option maxRecDepth 100000 in
def law13_SlopeGains.wp (s0 : Int) (s1 : Int) (ticks : Int) (drift : Int) (rounds : Int) (w : World) (R : TR [(false, [.b])] → World → Prop) : Prop :=
alK [.int .i64 s0, .int .i64 s1] T.slope_Slope w fun p1 w2 =>
clS Try.prog F.law13_alive [] w2 false [(false, [.b])] fun r3 w4 =>
brB (!r3.1.1) (
R ((false, ()), ()) w4) (
drK w4 fun w5 =>
ldN [(.i .i64), (.i .i64)] p1 0 w5 fun x6 =>
ld1 (.i .i64) p1 w5 fun x7 =>
ld1 (.i .i64) (p1.add 1) w5 fun x8 =>
clS Try.prog F.slope_Slope_Gain [.agg #[.int .i64 x6.1, .int .i64 x6.2.1], .int .i64 ticks] w5 false [(false, [(.i .i64)])] fun r9 w10 =>
Hold [(6, (p1.add 1), (w5.cell? (p1.add 1)).getD undef), (4, p1, (w5.cell? p1).getD undef), (0, (p1.add 0), (w5.cell? (p1.add 0)).getD undef), (0, (p1.add 1), (w5.cell? (p1.add 1)).getD undef)] w10 ∧ (
clS Try.prog F.ref13_Gain [.int .i64 x7, .int .i64 x8, .int .i64 ticks] w10 false [(false, [(.i .i64)])] fun r11 w12 =>
Hold [(0, (p1.add 0), (w5.cell? (p1.add 0)).getD undef), (0, (p1.add 1), (w5.cell? (p1.add 1)).getD undef)] w12 ∧ (
brB (r9.1.1 != r11.1.1) (
R ((false, ()), ()) w12) (
clS Try.prog F.ref13_Most [.int .i64 drift] w12 true [(false, [(.i .i64)]), (false, [(.i .i64)])] fun r13 w14 =>
brB (decide (rounds < 0)) (
R ((true, ()), ()) w14) (
brB (decide (rounds > 1099511627776)) (
R ((true, ()), ()) w14) (
clS Try.prog F.slope_Most [.int .i64 drift] w14 false [(true, [(.i .i64), (.i .i64)])] fun r15 w16 =>
clS Try.prog F.slope_Slope_Gain [.agg #[.int .i64 r15.1.1, .int .i64 r15.1.2.1], .int .i64 (IntKind.wrap .i64 (rounds * r13.2.1.1))] w16 false [(false, [(.i .i64)])] fun r17 w18 =>
R (((r17.1.1 == (IntKind.wrap .i64 (rounds * r13.1.1))), ()), ()) w18))))))
set_option maxRecDepth 100000 in
theorem law13_SlopeGains.eq (s0 : Int) (s1 : Int) (ticks : Int) (drift : Int) (rounds : Int) (w : World) (R : Value → World → Prop) : wpF Try.prog Try.f18 (.s .n (.s .n (.s (.s (.pl (.tk 0 (.tk 1 (.tk 3 (.tk 4 (.tk 5 (.tk 6 (.tk 7 (.ef 2 [] (.ef 8 [4, 6] (.tk 9 .z))))))))))) .n) .n))) [.agg #[.int .i64 s0, .int .i64 s1], .int .i64 ticks, .int .i64 drift, .int .i64 rounds] w R = law13_SlopeGains.wp s0 s1 ticks drift rounds w (fun r w => R (encR false [(false, [.b])] r) w) := by kernel_rfl
theorem law13_SlopeGains.ok {s0 : Int} {s1 : Int} {ticks : Int} {drift : Int} {rounds : Int} {w : World} {R : TR [(false, [.b])] → World → Prop} (h : law13_SlopeGains.wp s0 s1 ticks drift rounds w R) : clS Try.prog F.law13_SlopeGains [.agg #[.int .i64 s0, .int .i64 s1], .int .i64 ticks, .int .i64 drift, .int .i64 rounds] w false [(false, [.b])] R :=
  ok_of Try_follows Try.func18 (fun R => law13_SlopeGains.wp s0 s1 ticks drift rounds w R) (law13_SlopeGains.eq s0 s1 ticks drift rounds w) rfl h
/-! ### law12_alive -/
set_option maxRecDepth 100000 in
def law12_alive.wp  (w : World) (R : TR [(false, [.b])] → World → Prop) : Prop :=
alK [.slice none 0 0] T.table_Table w fun p1 w2 =>
clS Try.prog F.table_Table_Add [.pointer (some p1), .agg #[.int .i64 5, .int .i64 7, .int .i64 2]] w2 false [(false, [(.i .i64)])] fun r3 w4 =>
clS Try.prog F.table_Table_Add [.pointer (some p1), .agg #[.int .i64 5, .int .i64 7, .int .i64 2]] w4 false [(false, [(.i .i64)])] fun r5 w6 =>
clS Try.prog F.table_Table_Last [.pointer (some p1)] w6 true [(true, [(.i .i64), (.i .i64), (.i .i64)]), (false, [.b])] fun r7 w8 =>
alK [.int .i64 0, .int .i64 0, .int .i64 0] T.table_Entry w8 fun p9 w10 =>
stN [.int .i64 r7.1.1, .int .i64 r7.1.2.1, .int .i64 r7.1.2.2.1] p9 0 w10 fun w11 =>
brB (r3.1.1 == 0) (
brB (r5.1.1 == 12) (
clS Try.prog F.table_Table_Len [.pointer (some p1)] w11 false [(false, [(.i .i64)])] fun r12 w13 =>
brB (r12.1.1 == 1) (
brB r7.2.1.1 (
ld1 (.i .i64) (p9.add 1) w13 fun x14 =>
brB (x14 == 7) (
clS Try.prog F.table_Table_Hops [.pointer (some p1)] w13 false [(false, [(.i .i64)])] fun r15 w16 =>
R (((r15.1.1 == 2), ()), ()) w16) (
R ((false, ()), ()) w13)) (
R ((false, ()), ()) w13)) (
R ((false, ()), ()) w13)) (
R ((false, ()), ()) w11)) (
R ((false, ()), ()) w11)
set_option maxRecDepth 100000 in
theorem law12_alive.eq  (w : World) (R : Value → World → Prop) : wpF Try.prog Try.f19 .n [] w R = law12_alive.wp  w (fun r w => R (encR false [(false, [.b])] r) w) := by kernel_rfl
theorem law12_alive.ok  {w : World} {R : TR [(false, [.b])] → World → Prop} (h : law12_alive.wp  w R) : clS Try.prog F.law12_alive [] w false [(false, [.b])] R :=
  ok_of Try_follows Try.func19 (fun R => law12_alive.wp  w R) (law12_alive.eq  w) rfl h
/-! ### table_Table_Add -/
set_option maxRecDepth 100000 in
def table_Table_Add.wp (t : Option Addr) (e0 : Int) (e1 : Int) (e2 : Int) (w : World) (R : TR [(false, [(.i .i64)])] → World → Prop) : Prop :=
alK [.int .i64 e0, .int .i64 e1, .int .i64 e2] T.table_Entry w fun p1 w2 =>
CutT (fun (J3 : Unit → World → Prop) =>
clS Try.prog F.table_Table_Last [.pointer t] w2 true [(true, [(.i .i64), (.i .i64), (.i .i64)]), (false, [.b])] fun r6 w7 =>
alK [.int .i64 0, .int .i64 0, .int .i64 0] T.table_Entry w7 fun p8 w9 =>
stN [.int .i64 r6.1.1, .int .i64 r6.1.2.1, .int .i64 r6.1.2.2.1] p8 0 w9 fun w10 =>
brB (Option.isNone t) (
R ((2, ()), ()) w10) (
ldN [(.i .i64), (.i .i64), (.i .i64)] p1 0 w10 fun x11 =>
clS Try.prog F.table_Entry_Good [.agg #[.int .i64 x11.1, .int .i64 x11.2.1, .int .i64 x11.2.2.1]] w10 false [(false, [.b])] fun r12 w13 =>
brB (!r12.1.1) (
R ((1, ()), ()) w13) (
brB r6.2.1.1 (
ld1 (.i .i64) p1 w13 fun x14 =>
ld1 (.i .i64) p8 w13 fun x15 =>
brB (decide (x14 ≤ x15)) (
R ((12, ()), ()) w13) (
J3 (()) w13)) (
J3 (()) w13)))) (fun (z4 : Unit) w5 => ∀ _ : Nat → Value,
drK w5 fun w16 =>
ncK t fun a17 =>
ld1 .sl a17 w16 fun x18 =>
ldN [(.i .i64), (.i .i64), (.i .i64)] p1 0 w16 fun x19 =>
alK [.int .i64 x19.1, .int .i64 x19.2.1, .int .i64 x19.2.2.1] T.table_Entry w16 fun p20 w21 =>
Hold [(5, (p1.add 0), (w16.cell? (p1.add 0)).getD undef), (5, (p1.add 1), (w16.cell? (p1.add 1)).getD undef), (5, (p1.add 2), (w16.cell? (p1.add 2)).getD undef), (4, a17, (w16.cell? a17).getD undef)] w21 ∧ (
slOf ((Builtin.append_ #[T.sl_table_Entry, T.sl_table_Entry] T.sl_table_Entry #[.slice x18.1 x18.2.1 x18.2.2, .slice (some p20) 1 1]).run Try.prog w21) fun y22 w23 =>
Hold [(5, (p1.add 0), (w16.cell? (p1.add 0)).getD undef), (5, (p1.add 1), (w16.cell? (p1.add 1)).getD undef), (5, (p1.add 2), (w16.cell? (p1.add 2)).getD undef)] w23 ∧ (
ncK t fun a24 =>
stN [.slice y22.1 y22.2.1 y22.2.2] a24 0 w23 fun w25 =>
Hold [] w25 ∧ (
ncK t fun a26 =>
ld1 .sl a26 w25 fun x27 =>
brB (decide ((x27.2.1 : Int) > 8)) (
ncK t fun a28 =>
ld1 .sl a28 w25 fun x29 =>
slK 1 (x29.2.1 : Int) x29.2.2 (
clS Try.prog F.slices_Clone_table_Entry_table_Entry [.slice (slA x29.1 x29.2.2 (Int.toNat 1) 3) ((Int.toNat (x29.2.1 : Int)) - (Int.toNat 1)) (x29.2.2 - Int.toNat 1)] w25 false [(false, [.sl])] fun r30 w31 =>
ncK t fun a32 =>
stN [.slice r30.1.1.1 r30.1.1.2.1 r30.1.1.2.2] a32 0 w31 fun w33 =>
R ((0, ()), ()) w33)) (
R ((0, ()), ()) w25)))))
set_option maxRecDepth 100000 in
theorem table_Table_Add.eq (t : Option Addr) (e0 : Int) (e1 : Int) (e2 : Int) (w : World) (R : Value → World → Prop) : wpF Try.prog Try.f20 (.s .n (.ct [] .n (.s (.pl (.tk 0 (.tk 1 (.tk 2 (.tk 3 (.tk 4 (.tk 5 (.ef 6 [] (.ef 7 [4] (.tk 8 (.tk 9 (.ef 10 [5] .z)))))))))))) .n))) [.pointer t, .agg #[.int .i64 e0, .int .i64 e1, .int .i64 e2]] w R = table_Table_Add.wp t e0 e1 e2 w (fun r w => R (encR false [(false, [(.i .i64)])] r) w) := by kernel_rfl
theorem table_Table_Add.ok {t : Option Addr} {e0 : Int} {e1 : Int} {e2 : Int} {w : World} {R : TR [(false, [(.i .i64)])] → World → Prop} (h : table_Table_Add.wp t e0 e1 e2 w R) : clS Try.prog F.table_Table_Add [.pointer t, .agg #[.int .i64 e0, .int .i64 e1, .int .i64 e2]] w false [(false, [(.i .i64)])] R :=
  ok_of Try_follows Try.func20 (fun R => table_Table_Add.wp t e0 e1 e2 w R) (table_Table_Add.eq t e0 e1 e2 w) rfl h
/-! ### table_Table_List -/
set_option maxRecDepth 100000 in
def table_Table_List.wp (t : Option Addr) (w : World) (R : TR [(false, [.sl])] → World → Prop) : Prop :=
clS Try.prog F.table_Table_All [.pointer t] w false [(false, [.any])] fun r1 w2 =>
clS Try.prog F.slices_Collect_table_Entry [r1.1.1] w2 false [(false, [.sl])] fun r3 w4 =>
R (((r3.1.1.1, r3.1.1.2.1, r3.1.1.2.2), ()), ()) w4
set_option maxRecDepth 100000 in
theorem table_Table_List.eq (t : Option Addr) (w : World) (R : Value → World → Prop) : wpF Try.prog Try.f21 .n [.pointer t] w R = table_Table_List.wp t w (fun r w => R (encR false [(false, [.sl])] r) w) := by kernel_rfl
theorem table_Table_List.ok {t : Option Addr} {w : World} {R : TR [(false, [.sl])] → World → Prop} (h : table_Table_List.wp t w R) : clS Try.prog F.table_Table_List [.pointer t] w false [(false, [.sl])] R :=
  ok_of Try_follows Try.func21 (fun R => table_Table_List.wp t w R) (table_Table_List.eq t w) rfl h
/-! ### table_Table_Hops -/
set_option maxRecDepth 100000 in
def table_Table_Hops.wp (t : Option Addr) (w : World) (R : TR [(false, [(.i .i64)])] → World → Prop) : Prop :=
alK [.int .i64 0] T.int w fun p1 w2 =>
stN [.int .i64 0] p1 0 w2 fun w3 =>
clS Try.prog F.table_Table_All [.pointer t] w3 false [(false, [.any])] fun r4 w5 =>
RfT Try.prog r4.1.1 [(true, [(.i .i64), (.i .i64), (.i .i64)])] w5 (fun x6 k7 w8 =>
alK [.int .i64 0, .int .i64 0, .int .i64 0] T.table_Entry w8 fun p14 w15 =>
stN [.int .i64 x6.1.1, .int .i64 x6.1.2.1, .int .i64 x6.1.2.2.1] p14 0 w15 fun w16 =>
k7 w16 fun go9 lv10 w11 =>
ld1 (.i .i64) p1 w11 fun x17 =>
ld1 (.i .i64) (p14.add 2) w11 fun x18 =>
stN [.int .i64 (if x18 > x17 then x18 else x17)] p1 0 w11 fun w19 =>
go9 w19) (fun D12 w13 =>
ld1 (.i .i64) p1 w13 fun x20 =>
tkK D12 w13 fun w21 =>
R ((x20, ()), ()) w21) []
set_option maxRecDepth 100000 in
theorem table_Table_Hops.eq (t : Option Addr) (w : World) (R : Value → World → Prop) : wpF Try.prog Try.f22 (.s .n (.s .n (.s (.s .n (.rf [(true, [(.i .i64), (.i .i64), (.i .i64)])] .n .n)) .n))) [.pointer t] w R = table_Table_Hops.wp t w (fun r w => R (encR false [(false, [(.i .i64)])] r) w) := by kernel_rfl
theorem table_Table_Hops.ok {t : Option Addr} {w : World} {R : TR [(false, [(.i .i64)])] → World → Prop} (h : table_Table_Hops.wp t w R) : clS Try.prog F.table_Table_Hops [.pointer t] w false [(false, [(.i .i64)])] R :=
  ok_of Try_follows Try.func22 (fun R => table_Table_Hops.wp t w R) (table_Table_Hops.eq t w) rfl h
/-! ### table_Table_Clear -/
set_option maxRecDepth 100000 in
def table_Table_Clear.wp (t : Option Addr) (w : World) (R : TR [] → World → Prop) : Prop :=
brB (!(Option.isNone t)) (
ncK t fun a1 =>
stN [.slice none 0 0] a1 0 w fun w2 =>
R (()) w2) (
R (()) w)
set_option maxRecDepth 100000 in
theorem table_Table_Clear.eq (t : Option Addr) (w : World) (R : Value → World → Prop) : wpF Try.prog Try.f23 .n [.pointer t] w R = table_Table_Clear.wp t w (fun r w => R (encR true [] r) w) := by kernel_rfl
theorem table_Table_Clear.ok {t : Option Addr} {w : World} {R : TR [] → World → Prop} (h : table_Table_Clear.wp t w R) : clS Try.prog F.table_Table_Clear [.pointer t] w true [] R :=
  ok_of Try_follows Try.func23 (fun R => table_Table_Clear.wp t w R) (table_Table_Clear.eq t w) rfl h
/-! ### table_Table_Last -/
set_option maxRecDepth 100000 in
def table_Table_Last.wp (t : Option Addr) (w : World) (R : TR [(true, [(.i .i64), (.i .i64), (.i .i64)]), (false, [.b])] → World → Prop) : Prop :=
alK [.int .i64 0, .int .i64 0, .int .i64 0] T.table_Entry w fun p1 w2 =>
clS Try.prog F.table_Table_Len [.pointer t] w2 false [(false, [(.i .i64)])] fun r3 w4 =>
brB (r3.1.1 == 0) (
stN [.int .i64 0, .int .i64 0, .int .i64 0] p1 0 w4 fun w5 =>
ldN [(.i .i64), (.i .i64), (.i .i64)] p1 0 w5 fun x6 =>
R ((x6.1, x6.2.1, x6.2.2.1, ()), (false, ()), ()) w5) (
drK w4 fun w7 =>
ncK t fun a8 =>
ld1 .sl a8 w7 fun x9 =>
ncK t fun a10 =>
ld1 .sl a10 w7 fun x11 =>
ixK x9.1 x9.2.1 (IntKind.wrap .i64 ((x11.2.1 : Int) - 1)) fun a12 =>
ldN [(.i .i64), (.i .i64), (.i .i64)] (a12.add ((IntKind.wrap .i64 ((x11.2.1 : Int) - 1)).toNat * 3)) 0 w7 fun x13 =>
stN [.int .i64 x13.1, .int .i64 x13.2.1, .int .i64 x13.2.2.1] p1 0 w7 fun w14 =>
Hold [] w14 ∧ (
ldN [(.i .i64), (.i .i64), (.i .i64)] p1 0 w14 fun x15 =>
R ((x15.1, x15.2.1, x15.2.2.1, ()), (true, ()), ()) w14))
set_option maxRecDepth 100000 in
theorem table_Table_Last.eq (t : Option Addr) (w : World) (R : Value → World → Prop) : wpF Try.prog Try.f24 (.s .n (.s .n (.s (.pl (.tk 0 (.tk 1 (.tk 2 (.tk 3 (.tk 4 (.tk 5 (.tk 6 (.tk 7 (.tk 8 (.tk 9 (.tk 10 (.tk 11 (.ef 12 [3, 7, 11] (.tk 13 .z))))))))))))))) .n))) [.pointer t] w R = table_Table_Last.wp t w (fun r w => R (encR true [(true, [(.i .i64), (.i .i64), (.i .i64)]), (false, [.b])] r) w) := by kernel_rfl
theorem table_Table_Last.ok {t : Option Addr} {w : World} {R : TR [(true, [(.i .i64), (.i .i64), (.i .i64)]), (false, [.b])] → World → Prop} (h : table_Table_Last.wp t w R) : clS Try.prog F.table_Table_Last [.pointer t] w true [(true, [(.i .i64), (.i .i64), (.i .i64)]), (false, [.b])] R :=
  ok_of Try_follows Try.func24 (fun R => table_Table_Last.wp t w R) (table_Table_Last.eq t w) rfl h
/-! ### table_Table_Len -/
set_option maxRecDepth 100000 in
def table_Table_Len.wp (t : Option Addr) (w : World) (R : TR [(false, [(.i .i64)])] → World → Prop) : Prop :=
brB (Option.isNone t) (
R ((0, ()), ()) w) (
ncK t fun a1 =>
ld1 .sl a1 w fun x2 =>
R (((x2.2.1 : Int), ()), ()) w)
set_option maxRecDepth 100000 in
theorem table_Table_Len.eq (t : Option Addr) (w : World) (R : Value → World → Prop) : wpF Try.prog Try.f25 .n [.pointer t] w R = table_Table_Len.wp t w (fun r w => R (encR false [(false, [(.i .i64)])] r) w) := by kernel_rfl
theorem table_Table_Len.ok {t : Option Addr} {w : World} {R : TR [(false, [(.i .i64)])] → World → Prop} (h : table_Table_Len.wp t w R) : clS Try.prog F.table_Table_Len [.pointer t] w false [(false, [(.i .i64)])] R :=
  ok_of Try_follows Try.func25 (fun R => table_Table_Len.wp t w R) (table_Table_Len.eq t w) rfl h
/-! ### law12_same -/
set_option maxRecDepth 100000 in
def law12_same.wp (t : Option Addr) (list : Option Addr × Nat × Nat) (w : World) (R : TR [(false, [.b])] → World → Prop) : Prop :=
alK [.slice list.1 list.2.1 list.2.2] T.sl_angelusref12_Entry w fun p1 w2 =>
alK [.bool false] T.bool w2 fun p3 w4 =>
alK [.int .i64 0] T.int w4 fun p5 w6 =>
stN [.int .i64 0] p5 0 w6 fun w7 =>
clS Try.prog F.table_Table_All [.pointer t] w7 false [(false, [.any])] fun r8 w9 =>
RfT Try.prog r8.1.1 [(true, [(.i .i64), (.i .i64), (.i .i64)])] w9 (fun x10 k11 w12 =>
alK [.int .i64 0, .int .i64 0, .int .i64 0] T.table_Entry w12 fun p18 w19 =>
stN [.int .i64 x10.1.1, .int .i64 x10.1.2.1, .int .i64 x10.1.2.2.1] p18 0 w19 fun w20 =>
k11 w20 fun go13 lv14 w15 =>
drK w15 fun w21 =>
ld1 (.i .i64) p5 w21 fun x22 =>
ld1 .sl p1 w21 fun x23 =>
brB (decide (x22 ≥ (x23.2.1 : Int))) (
stN [.bool false] p3 0 w21 fun w24 =>
lv14 0 w24) (
ldN [(.i .i64), (.i .i64), (.i .i64)] p18 0 w21 fun x25 =>
ld1 .sl p1 w21 fun x26 =>
ld1 (.i .i64) p5 w21 fun x27 =>
ixK x26.1 x26.2.1 x27 fun a28 =>
ldN [(.i .i64), (.i .i64), (.i .i64)] (a28.add (x27.toNat * 3)) 0 w21 fun x29 =>
brB (!((x25.1 == x29.1) && ((x25.2.1 == x29.2.1) && ((x25.2.2.1 == x29.2.2.1) && true)))) (
stN [.bool false] p3 0 w21 fun w30 =>
lv14 0 w30) (
ld1 (.i .i64) p5 w21 fun x31 =>
stN [.int .i64 (IntKind.wrap .i64 (x31 + 1))] p5 0 w21 fun w32 =>
go13 w32))) (fun D16 w17 =>
ld1 (.i .i64) p5 w17 fun x33 =>
ld1 .sl p1 w17 fun x34 =>
stN [.bool (x33 == (x34.2.1 : Int))] p3 0 w17 fun w35 =>
tkK D16 w35 fun w36 =>
ld1 .b p3 w36 fun x37 =>
R ((x37, ()), ()) w36) [(0, fun D16 w17 =>
tkK D16 w17 fun w38 =>
ld1 .b p3 w38 fun x39 =>
R ((x39, ()), ()) w38)]
set_option maxRecDepth 100000 in
theorem law12_same.eq (t : Option Addr) (list : Option Addr × Nat × Nat) (w : World) (R : Value → World → Prop) : wpF Try.prog Try.f26 (.s .n (.s .n (.s (.s .n (.rf [(true, [(.i .i64), (.i .i64), (.i .i64)])] .n (.s (.s (.pl (.tk 0 (.tk 1 (.tk 2 (.tk 3 (.tk 4 (.tk 5 (.tk 6 (.tk 7 (.tk 8 (.tk 9 (.tk 10 (.tk 11 .z))))))))))))) .n) .n))) .n))) [.pointer t, .slice list.1 list.2.1 list.2.2] w R = law12_same.wp t list w (fun r w => R (encR false [(false, [.b])] r) w) := by kernel_rfl
theorem law12_same.ok {t : Option Addr} {list : Option Addr × Nat × Nat} {w : World} {R : TR [(false, [.b])] → World → Prop} (h : law12_same.wp t list w R) : clS Try.prog F.law12_same [.pointer t, .slice list.1 list.2.1 list.2.2] w false [(false, [.b])] R :=
  ok_of Try_follows Try.func26 (fun R => law12_same.wp t list w R) (law12_same.eq t list w) rfl h
/-! ### ref12_Add -/
set_option maxRecDepth 100000 in
def ref12_Add.wp (list : Option Addr × Nat × Nat) (e0 : Int) (e1 : Int) (e2 : Int) (w : World) (R : TR [(false, [.sl]), (false, [(.i .i64)])] → World → Prop) : Prop :=
alK [.int .i64 e0, .int .i64 e1, .int .i64 e2] T.ref12_Entry w fun p1 w2 =>
ldN [(.i .i64), (.i .i64), (.i .i64)] p1 0 w2 fun x3 =>
clS Try.prog F.ref12_Good [.agg #[.int .i64 x3.1, .int .i64 x3.2.1, .int .i64 x3.2.2.1]] w2 false [(false, [.b])] fun r4 w5 =>
brB (!r4.1.1) (
R (((list.1, list.2.1, list.2.2), ()), (1, ()), ()) w5) (
CutT (fun (J6 : Unit → World → Prop) =>
drK w5 fun w9 =>
brB (decide ((list.2.1 : Int) > 0)) (
ld1 (.i .i64) p1 w9 fun x10 =>
ixK list.1 list.2.1 (IntKind.wrap .i64 ((list.2.1 : Int) - 1)) fun a11 =>
ld1 (.i .i64) (a11.add ((IntKind.wrap .i64 ((list.2.1 : Int) - 1)).toNat * 3)) w9 fun x12 =>
brB (decide (x10 ≤ x12)) (
R (((list.1, list.2.1, list.2.2), ()), (12, ()), ()) w9) (
J6 (()) w9)) (
J6 (()) w9)) (fun (z7 : Unit) w8 => ∀ _ : Nat → Value,
CutT (fun (J13 : ((Option Addr × Nat × Nat) × Unit) → World → Prop) =>
drK w8 fun w16 =>
ldN [(.i .i64), (.i .i64), (.i .i64)] p1 0 w16 fun x17 =>
(
alK [] T.ref12_Entry w16 fun p18 w19 =>
Hold [(3, (p1.add 0), (w16.cell? (p1.add 0)).getD undef), (3, (p1.add 1), (w16.cell? (p1.add 1)).getD undef), (3, (p1.add 2), (w16.cell? (p1.add 2)).getD undef)] w19 ∧ (
(
slOf ((Builtin.append_ #[T.sl_angelusref12_Entry, T.sl_angelusref12_Entry] T.sl_angelusref12_Entry #[.slice (some p18) 0 0, .slice list.1 list.2.1 list.2.2]).run Try.prog w19) fun y20 w21 =>
Hold [(3, (p1.add 0), (w16.cell? (p1.add 0)).getD undef), (3, (p1.add 1), (w16.cell? (p1.add 1)).getD undef), (3, (p1.add 2), (w16.cell? (p1.add 2)).getD undef)] w21 ∧ (
alK [.int .i64 x17.1, .int .i64 x17.2.1, .int .i64 x17.2.2.1] T.ref12_Entry w21 fun p22 w23 =>
Hold [(3, (p1.add 0), (w16.cell? (p1.add 0)).getD undef), (3, (p1.add 1), (w16.cell? (p1.add 1)).getD undef), (3, (p1.add 2), (w16.cell? (p1.add 2)).getD undef)] w23 ∧ (
slOf ((Builtin.append_ #[T.sl_angelusref12_Entry, T.sl_angelusref12_Entry] T.sl_angelusref12_Entry #[.slice y20.1 y20.2.1 y20.2.2, .slice (some p22) 1 1]).run Try.prog w23) fun y24 w25 =>
Hold [(3, (p1.add 0), (w16.cell? (p1.add 0)).getD undef), (3, (p1.add 1), (w16.cell? (p1.add 1)).getD undef), (3, (p1.add 2), (w16.cell? (p1.add 2)).getD undef)] w25 ∧ (
J13 ((y24.1, y24.2.1, y24.2.2), ()) w25)))) ∧ (
alK [.int .i64 x17.1, .int .i64 x17.2.1, .int .i64 x17.2.2.1] T.ref12_Entry w19 fun p26 w27 =>
Hold [(3, (p1.add 0), (w16.cell? (p1.add 0)).getD undef), (3, (p1.add 1), (w16.cell? (p1.add 1)).getD undef), (3, (p1.add 2), (w16.cell? (p1.add 2)).getD undef)] w27 ∧ (
slOf ((Builtin.append_ #[T.sl_angelusref12_Entry, T.sl_angelusref12_Entry] T.sl_angelusref12_Entry #[.slice (some p18) 0 0, .slice list.1 list.2.1 list.2.2]).run Try.prog w27) fun y28 w29 =>
Hold [(3, (p1.add 0), (w16.cell? (p1.add 0)).getD undef), (3, (p1.add 1), (w16.cell? (p1.add 1)).getD undef), (3, (p1.add 2), (w16.cell? (p1.add 2)).getD undef)] w29 ∧ (
slOf ((Builtin.append_ #[T.sl_angelusref12_Entry, T.sl_angelusref12_Entry] T.sl_angelusref12_Entry #[.slice y28.1 y28.2.1 y28.2.2, .slice (some p26) 1 1]).run Try.prog w29) fun y30 w31 =>
Hold [(3, (p1.add 0), (w16.cell? (p1.add 0)).getD undef), (3, (p1.add 1), (w16.cell? (p1.add 1)).getD undef), (3, (p1.add 2), (w16.cell? (p1.add 2)).getD undef)] w31 ∧ (
J13 ((y30.1, y30.2.1, y30.2.2), ()) w31)))))) ∧ (
alK [.int .i64 x17.1, .int .i64 x17.2.1, .int .i64 x17.2.2.1] T.ref12_Entry w16 fun p32 w33 =>
Hold [(3, (p1.add 0), (w16.cell? (p1.add 0)).getD undef), (3, (p1.add 1), (w16.cell? (p1.add 1)).getD undef), (3, (p1.add 2), (w16.cell? (p1.add 2)).getD undef)] w33 ∧ (
alK [] T.ref12_Entry w33 fun p34 w35 =>
Hold [(3, (p1.add 0), (w16.cell? (p1.add 0)).getD undef), (3, (p1.add 1), (w16.cell? (p1.add 1)).getD undef), (3, (p1.add 2), (w16.cell? (p1.add 2)).getD undef)] w35 ∧ (
slOf ((Builtin.append_ #[T.sl_angelusref12_Entry, T.sl_angelusref12_Entry] T.sl_angelusref12_Entry #[.slice (some p34) 0 0, .slice list.1 list.2.1 list.2.2]).run Try.prog w35) fun y36 w37 =>
Hold [(3, (p1.add 0), (w16.cell? (p1.add 0)).getD undef), (3, (p1.add 1), (w16.cell? (p1.add 1)).getD undef), (3, (p1.add 2), (w16.cell? (p1.add 2)).getD undef)] w37 ∧ (
slOf ((Builtin.append_ #[T.sl_angelusref12_Entry, T.sl_angelusref12_Entry] T.sl_angelusref12_Entry #[.slice y36.1 y36.2.1 y36.2.2, .slice (some p32) 1 1]).run Try.prog w37) fun y38 w39 =>
Hold [(3, (p1.add 0), (w16.cell? (p1.add 0)).getD undef), (3, (p1.add 1), (w16.cell? (p1.add 1)).getD undef), (3, (p1.add 2), (w16.cell? (p1.add 2)).getD undef)] w39 ∧ (
J13 ((y38.1, y38.2.1, y38.2.2), ()) w39)))))) (fun (z14 : (Option Addr × Nat × Nat) × Unit) w15 => ∀ _ : Nat → Value,
brB (decide ((z14.1.2.1 : Int) > 8)) (
slK (IntKind.wrap .i64 ((z14.1.2.1 : Int) - 8)) (z14.1.2.1 : Int) z14.1.2.2 (
R (((slA z14.1.1 z14.1.2.2 (Int.toNat (IntKind.wrap .i64 ((z14.1.2.1 : Int) - 8))) 3, (Int.toNat (z14.1.2.1 : Int)) - (Int.toNat (IntKind.wrap .i64 ((z14.1.2.1 : Int) - 8))), z14.1.2.2 - Int.toNat (IntKind.wrap .i64 ((z14.1.2.1 : Int) - 8))), ()), (0, ()), ()) w15)) (
R (((z14.1.1, z14.1.2.1, z14.1.2.2), ()), (0, ()), ()) w15))))
set_option maxRecDepth 100000 in
theorem ref12_Add.eq (list : Option Addr × Nat × Nat) (e0 : Int) (e1 : Int) (e2 : Int) (w : World) (R : Value → World → Prop) : wpF Try.prog Try.f27 (.s .n (.s .n (.s .n (.ct [] (.s (.pl (.tk 0 (.tk 1 (.tk 2 (.tk 3 (.tk 4 (.tk 5 (.tk 6 (.tk 7 (.tk 8 (.tk 9 (.tk 10 (.tk 11 (.tk 12 .z)))))))))))))) .n) (.ct [(7, .sl)] (.pl (.tk 1 (.tk 3 (.two 0 4 (.two 2 4 (.ef 4 [] (.ef 5 [] (.tk 6 .z))) (.ef 2 [] (.ef 5 [] (.tk 6 .z)))) (.ef 0 [] (.ef 2 [] (.ef 5 [] (.tk 6 .z)))))))) .n))))) [.slice list.1 list.2.1 list.2.2, .agg #[.int .i64 e0, .int .i64 e1, .int .i64 e2]] w R = ref12_Add.wp list e0 e1 e2 w (fun r w => R (encR true [(false, [.sl]), (false, [(.i .i64)])] r) w) := by kernel_rfl
theorem ref12_Add.ok {list : Option Addr × Nat × Nat} {e0 : Int} {e1 : Int} {e2 : Int} {w : World} {R : TR [(false, [.sl]), (false, [(.i .i64)])] → World → Prop} (h : ref12_Add.wp list e0 e1 e2 w R) : clS Try.prog F.ref12_Add [.slice list.1 list.2.1 list.2.2, .agg #[.int .i64 e0, .int .i64 e1, .int .i64 e2]] w true [(false, [.sl]), (false, [(.i .i64)])] R :=
  ok_of Try_follows Try.func27 (fun R => ref12_Add.wp list e0 e1 e2 w R) (ref12_Add.eq list e0 e1 e2 w) rfl h
/-! ### table_Entry_Good -/
set_option maxRecDepth 100000 in
def table_Entry_Good.wp (e0 : Int) (e1 : Int) (e2 : Int) (w : World) (R : TR [(false, [.b])] → World → Prop) : Prop :=
alK [.int .i64 e0, .int .i64 e1, .int .i64 e2] T.table_Entry w fun p1 w2 =>
ld1 (.i .i64) p1 w2 fun x3 =>
brB (decide (x3 ≥ 0)) (
ld1 (.i .i64) p1 w2 fun x4 =>
brB (decide (x4 ≤ 1125899906842624)) (
ld1 (.i .i64) (p1.add 1) w2 fun x5 =>
brB (decide (x5 ≥ (Int.negSucc 1125899906842623))) (
ld1 (.i .i64) (p1.add 1) w2 fun x6 =>
brB (decide (x6 ≤ 1125899906842624)) (
ld1 (.i .i64) (p1.add 2) w2 fun x7 =>
brB (decide (x7 ≥ 1)) (
ld1 (.i .i64) (p1.add 2) w2 fun x8 =>
R ((decide (x8 ≤ 63), ()), ()) w2) (
R ((false, ()), ()) w2)) (
R ((false, ()), ()) w2)) (
R ((false, ()), ()) w2)) (
R ((false, ()), ()) w2)) (
R ((false, ()), ()) w2)
set_option maxRecDepth 100000 in
theorem table_Entry_Good.eq (e0 : Int) (e1 : Int) (e2 : Int) (w : World) (R : Value → World → Prop) : wpF Try.prog Try.f28 .n [.agg #[.int .i64 e0, .int .i64 e1, .int .i64 e2]] w R = table_Entry_Good.wp e0 e1 e2 w (fun r w => R (encR false [(false, [.b])] r) w) := by kernel_rfl
theorem table_Entry_Good.ok {e0 : Int} {e1 : Int} {e2 : Int} {w : World} {R : TR [(false, [.b])] → World → Prop} (h : table_Entry_Good.wp e0 e1 e2 w R) : clS Try.prog F.table_Entry_Good [.agg #[.int .i64 e0, .int .i64 e1, .int .i64 e2]] w false [(false, [.b])] R :=
  ok_of Try_follows Try.func28 (fun R => table_Entry_Good.wp e0 e1 e2 w R) (table_Entry_Good.eq e0 e1 e2 w) rfl h
/-! ### ref12_Good -/
set_option maxRecDepth 100000 in
def ref12_Good.wp (e0 : Int) (e1 : Int) (e2 : Int) (w : World) (R : TR [(false, [.b])] → World → Prop) : Prop :=
alK [.int .i64 e0, .int .i64 e1, .int .i64 e2] T.ref12_Entry w fun p1 w2 =>
ld1 (.i .i64) p1 w2 fun x3 =>
brB (decide (x3 ≥ 0)) (
ld1 (.i .i64) p1 w2 fun x4 =>
brB (decide (x4 ≤ 1125899906842624)) (
ld1 (.i .i64) (p1.add 1) w2 fun x5 =>
brB (decide (x5 ≥ (Int.negSucc 1125899906842623))) (
ld1 (.i .i64) (p1.add 1) w2 fun x6 =>
brB (decide (x6 ≤ 1125899906842624)) (
ld1 (.i .i64) (p1.add 2) w2 fun x7 =>
brB (decide (x7 ≥ 1)) (
ld1 (.i .i64) (p1.add 2) w2 fun x8 =>
R ((decide (x8 ≤ 63), ()), ()) w2) (
R ((false, ()), ()) w2)) (
R ((false, ()), ()) w2)) (
R ((false, ()), ()) w2)) (
R ((false, ()), ()) w2)) (
R ((false, ()), ()) w2)
set_option maxRecDepth 100000 in
theorem ref12_Good.eq (e0 : Int) (e1 : Int) (e2 : Int) (w : World) (R : Value → World → Prop) : wpF Try.prog Try.f29 .n [.agg #[.int .i64 e0, .int .i64 e1, .int .i64 e2]] w R = ref12_Good.wp e0 e1 e2 w (fun r w => R (encR false [(false, [.b])] r) w) := by kernel_rfl
theorem ref12_Good.ok {e0 : Int} {e1 : Int} {e2 : Int} {w : World} {R : TR [(false, [.b])] → World → Prop} (h : ref12_Good.wp e0 e1 e2 w R) : clS Try.prog F.ref12_Good [.agg #[.int .i64 e0, .int .i64 e1, .int .i64 e2]] w false [(false, [.b])] R :=
  ok_of Try_follows Try.func29 (fun R => ref12_Good.wp e0 e1 e2 w R) (ref12_Good.eq e0 e1 e2 w) rfl h
/-! ### ref12_Hops -/
set_option maxRecDepth 100000 in
def ref12_Hops.wp (list : Option Addr × Nat × Nat) (w : World) (R : TR [(false, [(.i .i64)])] → World → Prop) : Prop :=
LoopT (fun (self1 : ((Int) × (Int) × Unit) → World → Prop) (z2 : (Int) × (Int) × Unit) w3 => ∀ _ : Nat → Value,
brB (decide (z2.2.1 < (list.2.1 : Int))) (
ixK list.1 list.2.1 z2.2.1 fun a4 =>
ldN [(.i .i64), (.i .i64), (.i .i64)] (a4.add (z2.2.1.toNat * 3)) 0 w3 fun x5 =>
alK [.int .i64 0, .int .i64 0, .int .i64 0] T.ref12_Entry w3 fun p6 w7 =>
stN [.int .i64 x5.1, .int .i64 x5.2.1, .int .i64 x5.2.2.1] p6 0 w7 fun w8 =>
ld1 (.i .i64) (p6.add 2) w8 fun x9 =>
self1 ((if x9 > z2.1 then x9 else z2.1), IntKind.wrap .i64 (z2.2.1 + 1), ()) w8) (
R ((z2.1, ()), ()) w3)) (0, 0, ()) w
set_option maxRecDepth 100000 in
theorem ref12_Hops.eq (list : Option Addr × Nat × Nat) (w : World) (R : Value → World → Prop) : wpF Try.prog Try.f30 (.s .n (.s .n (.s (.s .n (.lp [(3, (.i .i64)), (8, (.i .i64))] .n)) .n))) [.slice list.1 list.2.1 list.2.2] w R = ref12_Hops.wp list w (fun r w => R (encR false [(false, [(.i .i64)])] r) w) := by kernel_rfl
theorem ref12_Hops.ok {list : Option Addr × Nat × Nat} {w : World} {R : TR [(false, [(.i .i64)])] → World → Prop} (h : ref12_Hops.wp list w R) : clS Try.prog F.ref12_Hops [.slice list.1 list.2.1 list.2.2] w false [(false, [(.i .i64)])] R :=
  ok_of Try_follows Try.func30 (fun R => ref12_Hops.wp list w R) (ref12_Hops.eq list w) rfl h
/-! ### law12_first -/
set_option maxRecDepth 100000 in
def law12_first.wp (t : Option Addr) (most : Int) (w : World) (R : TR [(false, [(.i .i64)])] → World → Prop) : Prop :=
alK [.int .i64 most] T.int w fun p1 w2 =>
alK [.int .i64 0] T.int w2 fun p3 w4 =>
stN [.int .i64 0] p3 0 w4 fun w5 =>
clS Try.prog F.table_Table_All [.pointer t] w5 false [(false, [.any])] fun r6 w7 =>
RfT Try.prog r6.1.1 [(true, [(.i .i64), (.i .i64), (.i .i64)])] w7 (fun x8 k9 w10 =>
k9 w10 fun go11 lv12 w13 =>
ld1 (.i .i64) p3 w13 fun x16 =>
stN [.int .i64 (IntKind.wrap .i64 (x16 + 1))] p3 0 w13 fun w17 =>
ld1 (.i .i64) p3 w17 fun x18 =>
ld1 (.i .i64) p1 w17 fun x19 =>
brB (decide (x18 ≥ x19)) (
lv12 1 w17) (
go11 w17)) (fun D14 w15 =>
ld1 (.i .i64) p3 w15 fun x20 =>
tkK D14 w15 fun w21 =>
R ((x20, ()), ()) w21) [(1, fun D14 w15 =>
ld1 (.i .i64) p3 w15 fun x22 =>
tkK D14 w15 fun w23 =>
R ((x22, ()), ()) w23)]
set_option maxRecDepth 100000 in
theorem law12_first.eq (t : Option Addr) (most : Int) (w : World) (R : Value → World → Prop) : wpF Try.prog Try.f31 (.s .n (.s .n (.s (.s .n (.rf [(true, [(.i .i64), (.i .i64), (.i .i64)])] .n .n)) .n))) [.pointer t, .int .i64 most] w R = law12_first.wp t most w (fun r w => R (encR false [(false, [(.i .i64)])] r) w) := by kernel_rfl
theorem law12_first.ok {t : Option Addr} {most : Int} {w : World} {R : TR [(false, [(.i .i64)])] → World → Prop} (h : law12_first.wp t most w R) : clS Try.prog F.law12_first [.pointer t, .int .i64 most] w false [(false, [(.i .i64)])] R :=
  ok_of Try_follows Try.func31 (fun R => law12_first.wp t most w R) (law12_first.eq t most w) rfl h
end Go.Proofs.Ytccnlakbplmhnaa
