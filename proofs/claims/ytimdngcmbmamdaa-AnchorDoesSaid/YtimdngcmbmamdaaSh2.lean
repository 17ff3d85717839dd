import Derived.Test.YtimdngcmbmamdaaNm
namespace Go.Proofs.Ytimdngcmbmamdaa
open Go.Eng
set_option linter.unusedVariables false
/-! ### utc_Tai -/
set_option maxRecDepth 100000 in
def utc_Tai.wp (t : Option Addr) (u0 : Int) (u1 : Int) (u2 : Int) (u3 : Int) (u4 : Int) (u5 : Int) (w : World) (R : TR [(false, [(.i .i64)]), (false, [(.i .i64)])] → World → Prop) : Prop :=
alK [.int .i64 u0, .int .i64 u1, .int .i64 u2, .int .i64 u3, .int .i64 u4, .int .i64 u5] T.utc_Utc w fun p1 w2 =>
brB (Option.isNone t) (
R ((0, ()), (2, ()), ()) w2) (
ldN [(.i .i64), (.i .i64), (.i .i64), (.i .i64), (.i .i64), (.i .i64)] p1 0 w2 fun x3 =>
clS Try.prog F.utc_Utc_Good [.agg #[.int .i64 x3.1, .int .i64 x3.2.1, .int .i64 x3.2.2.1, .int .i64 x3.2.2.2.1, .int .i64 x3.2.2.2.2.1, .int .i64 x3.2.2.2.2.2.1]] w2 false [(false, [.b])] fun r4 w5 =>
brB (!r4.1.1) (
R ((0, ()), (1, ()), ()) w5) (
ldN [(.i .i64), (.i .i64), (.i .i64)] p1 0 w5 fun x6 =>
clS Try.prog F.civil_Date_Number [.agg #[.int .i64 x6.1, .int .i64 x6.2.1, .int .i64 x6.2.2.1]] w5 true [(false, [(.i .i64)]), (false, [.b])] fun r7 w8 =>
clS Try.prog F.utc_begin [.pointer t, .int .i64 r7.1.1] w8 true [(false, [(.i .i64)]), (false, [.b])] fun r9 w10 =>
brB (!r9.2.1.1) (
R ((0, ()), (11, ()), ()) w10) (
ld1 (.i .i64) (p1.add 3) w10 fun x11 =>
ld1 (.i .i64) (p1.add 4) w10 fun x12 =>
ld1 (.i .i64) (p1.add 5) w10 fun x13 =>
clS Try.prog F.leap_Table_Step [.pointer t, .int .i64 r7.1.1] w10 false [(false, [(.i .i64)])] fun r14 w15 =>
brB (decide ((IntKind.wrap .i64 ((IntKind.wrap .i64 ((IntKind.wrap .i64 (3600 * x11)) + (IntKind.wrap .i64 (60 * x12)))) + x13)) ≥ (IntKind.wrap .i64 (86400 + r14.1.1)))) (
R ((0, ()), (7, ()), ()) w15) (
R ((IntKind.wrap .i64 (r9.1.1 + (IntKind.wrap .i64 ((IntKind.wrap .i64 ((IntKind.wrap .i64 (3600 * x11)) + (IntKind.wrap .i64 (60 * x12)))) + x13))), ()), (0, ()), ()) w15))))
set_option maxRecDepth 100000 in
theorem utc_Tai.eq (t : Option Addr) (u0 : Int) (u1 : Int) (u2 : Int) (u3 : Int) (u4 : Int) (u5 : Int) (w : World) (R : Value → World → Prop) : wpF Try.prog Try.f14 .n [.pointer t, .agg #[.int .i64 u0, .int .i64 u1, .int .i64 u2, .int .i64 u3, .int .i64 u4, .int .i64 u5]] w R = utc_Tai.wp t u0 u1 u2 u3 u4 u5 w (fun r w => R (encR true [(false, [(.i .i64)]), (false, [(.i .i64)])] r) w) := by kernel_rfl
set_option maxRecDepth 100000 in
theorem utc_Tai.ok {t : Option Addr} {u0 : Int} {u1 : Int} {u2 : Int} {u3 : Int} {u4 : Int} {u5 : Int} {w : World} {R : TR [(false, [(.i .i64)]), (false, [(.i .i64)])] → World → Prop} (h : utc_Tai.wp t u0 u1 u2 u3 u4 u5 w R) : clS Try.prog F.utc_Tai [.pointer t, .agg #[.int .i64 u0, .int .i64 u1, .int .i64 u2, .int .i64 u3, .int .i64 u4, .int .i64 u5]] w true [(false, [(.i .i64)]), (false, [(.i .i64)])] R :=
  ok_of Try_follows Try.func14 (fun R => utc_Tai.wp t u0 u1 u2 u3 u4 u5 w R) (utc_Tai.eq t u0 u1 u2 u3 u4 u5 w) rfl h
/-! ### law22_of -/
set_option maxRecDepth 100000 in
def law22_of.wp (u0 : Int) (u1 : Int) (u2 : Int) (u3 : Int) (u4 : Int) (u5 : Int) (w : World) (R : TR [(true, [(.i .i64), (.i .i64), (.i .i64), (.i .i64), (.i .i64), (.i .i64)])] → World → Prop) : Prop :=
alK [.int .i64 u0, .int .i64 u1, .int .i64 u2, .int .i64 u3, .int .i64 u4, .int .i64 u5] T.ref22_Utc w fun p1 w2 =>
alK [.int .i64 0, .int .i64 0, .int .i64 0, .int .i64 0, .int .i64 0, .int .i64 0] T.utc_Utc w2 fun p3 w4 =>
ldN [(.i .i64), (.i .i64), (.i .i64)] p1 0 w4 fun x5 =>
ld1 (.i .i64) (p1.add 3) w4 fun x6 =>
ld1 (.i .i64) (p1.add 4) w4 fun x7 =>
ld1 (.i .i64) (p1.add 5) w4 fun x8 =>
stN [.int .i64 x5.1, .int .i64 x5.2.1, .int .i64 x5.2.2.1, .int .i64 x6, .int .i64 x7, .int .i64 x8] p3 0 w4 fun w9 =>
ldN [(.i .i64), (.i .i64), (.i .i64), (.i .i64), (.i .i64), (.i .i64)] p3 0 w9 fun x10 =>
R ((x10.1, x10.2.1, x10.2.2.1, x10.2.2.2.1, x10.2.2.2.2.1, x10.2.2.2.2.2.1, ()), ()) w9
set_option maxRecDepth 100000 in
theorem law22_of.eq (u0 : Int) (u1 : Int) (u2 : Int) (u3 : Int) (u4 : Int) (u5 : Int) (w : World) (R : Value → World → Prop) : wpF Try.prog Try.f15 .n [.agg #[.int .i64 u0, .int .i64 u1, .int .i64 u2, .int .i64 u3, .int .i64 u4, .int .i64 u5]] w R = law22_of.wp u0 u1 u2 u3 u4 u5 w (fun r w => R (encR false [(true, [(.i .i64), (.i .i64), (.i .i64), (.i .i64), (.i .i64), (.i .i64)])] r) w) := by kernel_rfl
set_option maxRecDepth 100000 in
theorem law22_of.ok {u0 : Int} {u1 : Int} {u2 : Int} {u3 : Int} {u4 : Int} {u5 : Int} {w : World} {R : TR [(true, [(.i .i64), (.i .i64), (.i .i64), (.i .i64), (.i .i64), (.i .i64)])] → World → Prop} (h : law22_of.wp u0 u1 u2 u3 u4 u5 w R) : clS Try.prog F.law22_of [.agg #[.int .i64 u0, .int .i64 u1, .int .i64 u2, .int .i64 u3, .int .i64 u4, .int .i64 u5]] w false [(true, [(.i .i64), (.i .i64), (.i .i64), (.i .i64), (.i .i64), (.i .i64)])] R :=
  ok_of Try_follows Try.func15 (fun R => law22_of.wp u0 u1 u2 u3 u4 u5 w R) (law22_of.eq u0 u1 u2 u3 u4 u5 w) rfl h
/-! ### ref22_Of -/
set_option maxRecDepth 100000 in
def ref22_Of.wp (t0 : Int) (t1 : Int) (t2 : Int) (t3 : Option Addr × Nat × Nat) (tai : Int) (w : World) (R : TR [(true, [(.i .i64), (.i .i64), (.i .i64), (.i .i64), (.i .i64), (.i .i64)]), (false, [.b])] → World → Prop) : Prop :=
alK [.int .i64 t0, .int .i64 t1, .int .i64 t2, .slice t3.1 t3.2.1 t3.2.2] T.ref21_Table w fun p1 w2 =>
alK [.int .i64 0, .int .i64 0, .int .i64 0, .int .i64 0, .int .i64 0, .int .i64 0] T.ref22_Utc w2 fun p3 w4 =>
ld1 (.i .i64) p1 w4 fun x5 =>
ld1 (.i .i64) (p1.add 2) w4 fun x6 =>
drK w4 fun w7 =>
ldN [(.i .i64), (.i .i64), (.i .i64), .sl] p1 0 w7 fun x8 =>
clS Try.prog F.ref22_Begin [.agg #[.int .i64 x8.1, .int .i64 x8.2.1, .int .i64 x8.2.2.1, .slice x8.2.2.2.1.1 x8.2.2.2.1.2.1 x8.2.2.2.1.2.2], .int .i64 x5] w7 false [(false, [(.i .i64)])] fun r9 w10 =>
Hold [(1, (p1.add 0), (w7.cell? (p1.add 0)).getD undef), (1, (p1.add 1), (w7.cell? (p1.add 1)).getD undef), (1, (p1.add 2), (w7.cell? (p1.add 2)).getD undef), (1, (p1.add 3), (w7.cell? (p1.add 3)).getD undef)] w10 ∧ (
brB (decide (tai < r9.1.1)) (
stN [.int .i64 0, .int .i64 0, .int .i64 0, .int .i64 0, .int .i64 0, .int .i64 0] p3 0 w10 fun w11 =>
ldN [(.i .i64), (.i .i64), (.i .i64), (.i .i64), (.i .i64), (.i .i64)] p3 0 w11 fun x12 =>
R ((x12.1, x12.2.1, x12.2.2.1, x12.2.2.2.1, x12.2.2.2.2.1, x12.2.2.2.2.2.1, ()), (false, ()), ()) w11) (
ldN [(.i .i64), (.i .i64), (.i .i64), .sl] p1 0 w10 fun x13 =>
ldN [(.i .i64), (.i .i64), (.i .i64), .sl] p1 0 w10 fun x14 =>
clS Try.prog F.ref22_Begin [.agg #[.int .i64 x13.1, .int .i64 x13.2.1, .int .i64 x13.2.2.1, .slice x13.2.2.2.1.1 x13.2.2.2.1.2.1 x13.2.2.2.1.2.2], .int .i64 (IntKind.wrap .i64 (x6 - 1))] w10 false [(false, [(.i .i64)])] fun r15 w16 =>
Hold [(11, (p1.add 0), (w10.cell? (p1.add 0)).getD undef), (11, (p1.add 1), (w10.cell? (p1.add 1)).getD undef), (11, (p1.add 2), (w10.cell? (p1.add 2)).getD undef), (11, (p1.add 3), (w10.cell? (p1.add 3)).getD undef), (7, (p1.add 0), (w10.cell? (p1.add 0)).getD undef), (7, (p1.add 1), (w10.cell? (p1.add 1)).getD undef), (7, (p1.add 2), (w10.cell? (p1.add 2)).getD undef), (7, (p1.add 3), (w10.cell? (p1.add 3)).getD undef), (1, (p1.add 0), (w7.cell? (p1.add 0)).getD undef), (1, (p1.add 1), (w7.cell? (p1.add 1)).getD undef), (1, (p1.add 2), (w7.cell? (p1.add 2)).getD undef), (1, (p1.add 3), (w7.cell? (p1.add 3)).getD undef)] w16 ∧ (
clS Try.prog F.ref21_Step [.agg #[.int .i64 x14.1, .int .i64 x14.2.1, .int .i64 x14.2.2.1, .slice x14.2.2.2.1.1 x14.2.2.2.1.2.1 x14.2.2.2.1.2.2], .int .i64 (IntKind.wrap .i64 (x6 - 1))] w16 false [(false, [(.i .i64)])] fun r17 w18 =>
Hold [(7, (p1.add 0), (w10.cell? (p1.add 0)).getD undef), (7, (p1.add 1), (w10.cell? (p1.add 1)).getD undef), (7, (p1.add 2), (w10.cell? (p1.add 2)).getD undef), (7, (p1.add 3), (w10.cell? (p1.add 3)).getD undef), (1, (p1.add 0), (w7.cell? (p1.add 0)).getD undef), (1, (p1.add 1), (w7.cell? (p1.add 1)).getD undef), (1, (p1.add 2), (w7.cell? (p1.add 2)).getD undef), (1, (p1.add 3), (w7.cell? (p1.add 3)).getD undef)] w18 ∧ (
brB (decide (tai ≥ (IntKind.wrap .i64 ((IntKind.wrap .i64 (r15.1.1 + 86400)) + r17.1.1)))) (
stN [.int .i64 0, .int .i64 0, .int .i64 0, .int .i64 0, .int .i64 0, .int .i64 0] p3 0 w18 fun w19 =>
ldN [(.i .i64), (.i .i64), (.i .i64), (.i .i64), (.i .i64), (.i .i64)] p3 0 w19 fun x20 =>
R ((x20.1, x20.2.1, x20.2.2.1, x20.2.2.2.1, x20.2.2.2.2.1, x20.2.2.2.2.2.1, ()), (false, ()), ()) w19) (
LoopT (fun (self21 : ((Int) × (Int) × Unit) → World → Prop) (z22 : (Int) × (Int) × Unit) w23 => ∀ _ : Nat → Value,
brB (decide (z22.1 < z22.2.1)) (
nzK 2 (
ldN [(.i .i64), (.i .i64), (.i .i64), .sl] p1 0 w23 fun x24 =>
clS Try.prog F.ref22_Begin [.agg #[.int .i64 x24.1, .int .i64 x24.2.1, .int .i64 x24.2.2.1, .slice x24.2.2.2.1.1 x24.2.2.2.1.2.1 x24.2.2.2.1.2.2], .int .i64 (IntKind.wrap .i64 (z22.1 + (IntKind.wrap .i64 (Int.tdiv (IntKind.wrap .i64 ((IntKind.wrap .i64 (z22.2.1 - z22.1)) + 1)) 2))))] w23 false [(false, [(.i .i64)])] fun r25 w26 =>
brB (decide (r25.1.1 ≤ tai)) (
self21 (IntKind.wrap .i64 (z22.1 + (IntKind.wrap .i64 (Int.tdiv (IntKind.wrap .i64 ((IntKind.wrap .i64 (z22.2.1 - z22.1)) + 1)) 2))), z22.2.1, ()) w26) (
self21 (z22.1, IntKind.wrap .i64 ((IntKind.wrap .i64 (z22.1 + (IntKind.wrap .i64 (Int.tdiv (IntKind.wrap .i64 ((IntKind.wrap .i64 (z22.2.1 - z22.1)) + 1)) 2)))) - 1), ()) w26))) (
ldN [(.i .i64), (.i .i64), (.i .i64), .sl] p1 0 w23 fun x27 =>
clS Try.prog F.ref22_Begin [.agg #[.int .i64 x27.1, .int .i64 x27.2.1, .int .i64 x27.2.2.1, .slice x27.2.2.2.1.1 x27.2.2.2.1.2.1 x27.2.2.2.1.2.2], .int .i64 z22.1] w23 false [(false, [(.i .i64)])] fun r28 w29 =>
clS Try.prog F.ref22_date [.int .i64 z22.1] w29 false [(true, [(.i .i64), (.i .i64), (.i .i64)])] fun r30 w31 =>
alK [.int .i64 0, .int .i64 0, .int .i64 0] T.ref20_Date w31 fun p32 w33 =>
stN [.int .i64 r30.1.1, .int .i64 r30.1.2.1, .int .i64 r30.1.2.2.1] p32 0 w33 fun w34 =>
brB ((IntKind.wrap .i64 (tai - r28.1.1)) == 86400) (
ldN [(.i .i64), (.i .i64), (.i .i64)] p32 0 w34 fun x35 =>
stN [.int .i64 x35.1, .int .i64 x35.2.1, .int .i64 x35.2.2.1, .int .i64 23, .int .i64 59, .int .i64 60] p3 0 w34 fun w36 =>
ldN [(.i .i64), (.i .i64), (.i .i64), (.i .i64), (.i .i64), (.i .i64)] p3 0 w36 fun x37 =>
R ((x37.1, x37.2.1, x37.2.2.1, x37.2.2.2.1, x37.2.2.2.2.1, x37.2.2.2.2.2.1, ()), (true, ()), ()) w36) (
ldN [(.i .i64), (.i .i64), (.i .i64)] p32 0 w34 fun x38 =>
nzK 3600 (
nzK 3600 (
nzK 60 (
nzK 60 (
stN [.int .i64 x38.1, .int .i64 x38.2.1, .int .i64 x38.2.2.1, .int .i64 (IntKind.wrap .i64 (Int.tdiv (IntKind.wrap .i64 (tai - r28.1.1)) 3600)), .int .i64 (IntKind.wrap .i64 (Int.tdiv (Int.tmod (IntKind.wrap .i64 (tai - r28.1.1)) 3600) 60)), .int .i64 (Int.tmod (IntKind.wrap .i64 (tai - r28.1.1)) 60)] p3 0 w34 fun w39 =>
ldN [(.i .i64), (.i .i64), (.i .i64), (.i .i64), (.i .i64), (.i .i64)] p3 0 w39 fun x40 =>
R ((x40.1, x40.2.1, x40.2.2.1, x40.2.2.2.1, x40.2.2.2.2.1, x40.2.2.2.2.2.1, ()), (true, ()), ()) w39))))))) (x5, IntKind.wrap .i64 (x6 - 1), ()) w18)))))
set_option maxRecDepth 100000 in
theorem ref22_Of.eq (t0 : Int) (t1 : Int) (t2 : Int) (t3 : Option Addr × Nat × Nat) (tai : Int) (w : World) (R : Value → World → Prop) : wpF Try.prog Try.f16 (.s .n (.s .n (.s .n (.s (.s (.pl (.tk 0 (.tk 1 (.tk 2 (.ef 3 [] (.tk 4 (.tk 5 (.tk 6 (.tk 7 (.tk 8 (.tk 11 (.tk 12 (.ef 9 [] (.tk 10 (.ef 13 [11] (.tk 14 (.tk 15 (.tk 16 .z)))))))))))))))))) .n) (.s (.lp [(6, (.i .i64)), (7, (.i .i64))] .n) .n))))) [.agg #[.int .i64 t0, .int .i64 t1, .int .i64 t2, .slice t3.1 t3.2.1 t3.2.2], .int .i64 tai] w R = ref22_Of.wp t0 t1 t2 t3 tai w (fun r w => R (encR true [(true, [(.i .i64), (.i .i64), (.i .i64), (.i .i64), (.i .i64), (.i .i64)]), (false, [.b])] r) w) := by kernel_rfl
set_option maxRecDepth 100000 in
theorem ref22_Of.ok {t0 : Int} {t1 : Int} {t2 : Int} {t3 : Option Addr × Nat × Nat} {tai : Int} {w : World} {R : TR [(true, [(.i .i64), (.i .i64), (.i .i64), (.i .i64), (.i .i64), (.i .i64)]), (false, [.b])] → World → Prop} (h : ref22_Of.wp t0 t1 t2 t3 tai w R) : clS Try.prog F.ref22_Of [.agg #[.int .i64 t0, .int .i64 t1, .int .i64 t2, .slice t3.1 t3.2.1 t3.2.2], .int .i64 tai] w true [(true, [(.i .i64), (.i .i64), (.i .i64), (.i .i64), (.i .i64), (.i .i64)]), (false, [.b])] R :=
  ok_of Try_follows Try.func16 (fun R => ref22_Of.wp t0 t1 t2 t3 tai w R) (ref22_Of.eq t0 t1 t2 t3 tai w) rfl h
/-! ### law22_plain -/
set_option maxRecDepth 100000 in
def law22_plain.wp (u0 : Int) (u1 : Int) (u2 : Int) (u3 : Int) (u4 : Int) (u5 : Int) (w : World) (R : TR [(true, [(.i .i64), (.i .i64), (.i .i64), (.i .i64), (.i .i64), (.i .i64)])] → World → Prop) : Prop :=
alK [.int .i64 u0, .int .i64 u1, .int .i64 u2, .int .i64 u3, .int .i64 u4, .int .i64 u5] T.utc_Utc w fun p1 w2 =>
alK [.int .i64 0, .int .i64 0, .int .i64 0, .int .i64 0, .int .i64 0, .int .i64 0] T.ref22_Utc w2 fun p3 w4 =>
ldN [(.i .i64), (.i .i64), (.i .i64)] p1 0 w4 fun x5 =>
ld1 (.i .i64) (p1.add 3) w4 fun x6 =>
ld1 (.i .i64) (p1.add 4) w4 fun x7 =>
ld1 (.i .i64) (p1.add 5) w4 fun x8 =>
stN [.int .i64 x5.1, .int .i64 x5.2.1, .int .i64 x5.2.2.1, .int .i64 x6, .int .i64 x7, .int .i64 x8] p3 0 w4 fun w9 =>
ldN [(.i .i64), (.i .i64), (.i .i64), (.i .i64), (.i .i64), (.i .i64)] p3 0 w9 fun x10 =>
R ((x10.1, x10.2.1, x10.2.2.1, x10.2.2.2.1, x10.2.2.2.2.1, x10.2.2.2.2.2.1, ()), ()) w9
set_option maxRecDepth 100000 in
theorem law22_plain.eq (u0 : Int) (u1 : Int) (u2 : Int) (u3 : Int) (u4 : Int) (u5 : Int) (w : World) (R : Value → World → Prop) : wpF Try.prog Try.f17 .n [.agg #[.int .i64 u0, .int .i64 u1, .int .i64 u2, .int .i64 u3, .int .i64 u4, .int .i64 u5]] w R = law22_plain.wp u0 u1 u2 u3 u4 u5 w (fun r w => R (encR false [(true, [(.i .i64), (.i .i64), (.i .i64), (.i .i64), (.i .i64), (.i .i64)])] r) w) := by kernel_rfl
set_option maxRecDepth 100000 in
theorem law22_plain.ok {u0 : Int} {u1 : Int} {u2 : Int} {u3 : Int} {u4 : Int} {u5 : Int} {w : World} {R : TR [(true, [(.i .i64), (.i .i64), (.i .i64), (.i .i64), (.i .i64), (.i .i64)])] → World → Prop} (h : law22_plain.wp u0 u1 u2 u3 u4 u5 w R) : clS Try.prog F.law22_plain [.agg #[.int .i64 u0, .int .i64 u1, .int .i64 u2, .int .i64 u3, .int .i64 u4, .int .i64 u5]] w false [(true, [(.i .i64), (.i .i64), (.i .i64), (.i .i64), (.i .i64), (.i .i64)])] R :=
  ok_of Try_follows Try.func17 (fun R => law22_plain.wp u0 u1 u2 u3 u4 u5 w R) (law22_plain.eq u0 u1 u2 u3 u4 u5 w) rfl h
/-! ### ref22_Tai -/
set_option maxRecDepth 100000 in
def ref22_Tai.wp (t0 : Int) (t1 : Int) (t2 : Int) (t3 : Option Addr × Nat × Nat) (u0 : Int) (u1 : Int) (u2 : Int) (u3 : Int) (u4 : Int) (u5 : Int) (w : World) (R : TR [(false, [(.i .i64)]), (false, [(.i .i64)])] → World → Prop) : Prop :=
alK [.int .i64 t0, .int .i64 t1, .int .i64 t2, .slice t3.1 t3.2.1 t3.2.2] T.ref21_Table w fun p1 w2 =>
alK [.int .i64 u0, .int .i64 u1, .int .i64 u2, .int .i64 u3, .int .i64 u4, .int .i64 u5] T.ref22_Utc w2 fun p3 w4 =>
ldN [(.i .i64), (.i .i64), (.i .i64), (.i .i64), (.i .i64), (.i .i64)] p3 0 w4 fun x5 =>
clS Try.prog F.ref22_Good [.agg #[.int .i64 x5.1, .int .i64 x5.2.1, .int .i64 x5.2.2.1, .int .i64 x5.2.2.2.1, .int .i64 x5.2.2.2.2.1, .int .i64 x5.2.2.2.2.2.1]] w4 false [(false, [.b])] fun r6 w7 =>
brB (!r6.1.1) (
R ((0, ()), (1, ()), ()) w7) (
ldN [(.i .i64), (.i .i64), (.i .i64)] p3 0 w7 fun x8 =>
clS Try.prog F.ref20_Number [.agg #[.int .i64 x8.1, .int .i64 x8.2.1, .int .i64 x8.2.2.1]] w7 false [(false, [(.i .i64)])] fun r9 w10 =>
ld1 (.i .i64) p1 w10 fun x11 =>
brB (decide (r9.1.1 < x11)) (
R ((0, ()), (11, ()), ()) w10) (
ld1 (.i .i64) (p1.add 2) w10 fun x12 =>
brB (decide (r9.1.1 ≥ x12)) (
R ((0, ()), (11, ()), ()) w10) (
ld1 (.i .i64) (p3.add 3) w10 fun x13 =>
ld1 (.i .i64) (p3.add 4) w10 fun x14 =>
ld1 (.i .i64) (p3.add 5) w10 fun x15 =>
ldN [(.i .i64), (.i .i64), (.i .i64), .sl] p1 0 w10 fun x16 =>
clS Try.prog F.ref21_Step [.agg #[.int .i64 x16.1, .int .i64 x16.2.1, .int .i64 x16.2.2.1, .slice x16.2.2.2.1.1 x16.2.2.2.1.2.1 x16.2.2.2.1.2.2], .int .i64 r9.1.1] w10 false [(false, [(.i .i64)])] fun r17 w18 =>
brB (decide ((IntKind.wrap .i64 ((IntKind.wrap .i64 ((IntKind.wrap .i64 (3600 * x13)) + (IntKind.wrap .i64 (60 * x14)))) + x15)) ≥ (IntKind.wrap .i64 (86400 + r17.1.1)))) (
R ((0, ()), (7, ()), ()) w18) (
ldN [(.i .i64), (.i .i64), (.i .i64), .sl] p1 0 w18 fun x19 =>
clS Try.prog F.ref22_Begin [.agg #[.int .i64 x19.1, .int .i64 x19.2.1, .int .i64 x19.2.2.1, .slice x19.2.2.2.1.1 x19.2.2.2.1.2.1 x19.2.2.2.1.2.2], .int .i64 r9.1.1] w18 false [(false, [(.i .i64)])] fun r20 w21 =>
R ((IntKind.wrap .i64 (r20.1.1 + (IntKind.wrap .i64 ((IntKind.wrap .i64 ((IntKind.wrap .i64 (3600 * x13)) + (IntKind.wrap .i64 (60 * x14)))) + x15))), ()), (0, ()), ()) w21))))
set_option maxRecDepth 100000 in
theorem ref22_Tai.eq (t0 : Int) (t1 : Int) (t2 : Int) (t3 : Option Addr × Nat × Nat) (u0 : Int) (u1 : Int) (u2 : Int) (u3 : Int) (u4 : Int) (u5 : Int) (w : World) (R : Value → World → Prop) : wpF Try.prog Try.f18 .n [.agg #[.int .i64 t0, .int .i64 t1, .int .i64 t2, .slice t3.1 t3.2.1 t3.2.2], .agg #[.int .i64 u0, .int .i64 u1, .int .i64 u2, .int .i64 u3, .int .i64 u4, .int .i64 u5]] w R = ref22_Tai.wp t0 t1 t2 t3 u0 u1 u2 u3 u4 u5 w (fun r w => R (encR true [(false, [(.i .i64)]), (false, [(.i .i64)])] r) w) := by kernel_rfl
set_option maxRecDepth 100000 in
theorem ref22_Tai.ok {t0 : Int} {t1 : Int} {t2 : Int} {t3 : Option Addr × Nat × Nat} {u0 : Int} {u1 : Int} {u2 : Int} {u3 : Int} {u4 : Int} {u5 : Int} {w : World} {R : TR [(false, [(.i .i64)]), (false, [(.i .i64)])] → World → Prop} (h : ref22_Tai.wp t0 t1 t2 t3 u0 u1 u2 u3 u4 u5 w R) : clS Try.prog F.ref22_Tai [.agg #[.int .i64 t0, .int .i64 t1, .int .i64 t2, .slice t3.1 t3.2.1 t3.2.2], .agg #[.int .i64 u0, .int .i64 u1, .int .i64 u2, .int .i64 u3, .int .i64 u4, .int .i64 u5]] w true [(false, [(.i .i64)]), (false, [(.i .i64)])] R :=
  ok_of Try_follows Try.func18 (fun R => ref22_Tai.wp t0 t1 t2 t3 u0 u1 u2 u3 u4 u5 w R) (ref22_Tai.eq t0 t1 t2 t3 u0 u1 u2 u3 u4 u5 w) rfl h
/-! ### ref22_Begin -/
set_option maxRecDepth 100000 in
def ref22_Begin.wp (t0 : Int) (t1 : Int) (t2 : Int) (t3 : Option Addr × Nat × Nat) (day : Int) (w : World) (R : TR [(false, [(.i .i64)])] → World → Prop) : Prop :=
alK [.int .i64 t0, .int .i64 t1, .int .i64 t2, .slice t3.1 t3.2.1 t3.2.2] T.ref21_Table w fun p1 w2 =>
ldN [(.i .i64), (.i .i64), (.i .i64), .sl] p1 0 w2 fun x3 =>
clS Try.prog F.ref21_Ahead [.agg #[.int .i64 x3.1, .int .i64 x3.2.1, .int .i64 x3.2.2.1, .slice x3.2.2.2.1.1 x3.2.2.2.1.2.1 x3.2.2.2.1.2.2], .int .i64 day] w2 false [(false, [(.i .i64)])] fun r4 w5 =>
R ((IntKind.wrap .i64 ((IntKind.wrap .i64 (86400 * day)) + r4.1.1), ()), ()) w5
set_option maxRecDepth 100000 in
theorem ref22_Begin.eq (t0 : Int) (t1 : Int) (t2 : Int) (t3 : Option Addr × Nat × Nat) (day : Int) (w : World) (R : Value → World → Prop) : wpF Try.prog Try.f19 .n [.agg #[.int .i64 t0, .int .i64 t1, .int .i64 t2, .slice t3.1 t3.2.1 t3.2.2], .int .i64 day] w R = ref22_Begin.wp t0 t1 t2 t3 day w (fun r w => R (encR false [(false, [(.i .i64)])] r) w) := by kernel_rfl
set_option maxRecDepth 100000 in
theorem ref22_Begin.ok {t0 : Int} {t1 : Int} {t2 : Int} {t3 : Option Addr × Nat × Nat} {day : Int} {w : World} {R : TR [(false, [(.i .i64)])] → World → Prop} (h : ref22_Begin.wp t0 t1 t2 t3 day w R) : clS Try.prog F.ref22_Begin [.agg #[.int .i64 t0, .int .i64 t1, .int .i64 t2, .slice t3.1 t3.2.1 t3.2.2], .int .i64 day] w false [(false, [(.i .i64)])] R :=
  ok_of Try_follows Try.func19 (fun R => ref22_Begin.wp t0 t1 t2 t3 day w R) (ref22_Begin.eq t0 t1 t2 t3 day w) rfl h
/-! ### ref21_Step -/
set_option maxRecDepth 100000 in
def ref21_Step.wp (t0 : Int) (t1 : Int) (t2 : Int) (t3 : Option Addr × Nat × Nat) (day : Int) (w : World) (R : TR [(false, [(.i .i64)])] → World → Prop) : Prop :=
alK [.int .i64 t0, .int .i64 t1, .int .i64 t2, .slice t3.1 t3.2.1 t3.2.2] T.ref21_Table w fun p1 w2 =>
ld1 .sl (p1.add 3) w2 fun x3 =>
LoopT (fun (self4 : ((Int) × Unit) → World → Prop) (z5 : (Int) × Unit) w6 => ∀ _ : Nat → Value,
brB (decide (z5.1 < (x3.2.1 : Int))) (
ixK x3.1 x3.2.1 z5.1 fun a7 =>
ldN [(.i .i64), (.i .i64)] (a7.add (z5.1.toNat * 2)) 0 w6 fun x8 =>
alK [.int .i64 0, .int .i64 0] T.ref21_Leap w6 fun p9 w10 =>
stN [.int .i64 x8.1, .int .i64 x8.2.1] p9 0 w10 fun w11 =>
ld1 (.i .i64) p9 w11 fun x12 =>
brB (x12 == day) (
ld1 (.i .i64) (p9.add 1) w11 fun x13 =>
R ((x13, ()), ()) w11) (
self4 (IntKind.wrap .i64 (z5.1 + 1), ()) w11)) (
R ((0, ()), ()) w6)) (0, ()) w2
set_option maxRecDepth 100000 in
theorem ref21_Step.eq (t0 : Int) (t1 : Int) (t2 : Int) (t3 : Option Addr × Nat × Nat) (day : Int) (w : World) (R : Value → World → Prop) : wpF Try.prog Try.f20 (.s .n (.s (.s .n (.lp [(10, (.i .i64))] .n)) .n)) [.agg #[.int .i64 t0, .int .i64 t1, .int .i64 t2, .slice t3.1 t3.2.1 t3.2.2], .int .i64 day] w R = ref21_Step.wp t0 t1 t2 t3 day w (fun r w => R (encR false [(false, [(.i .i64)])] r) w) := by kernel_rfl
set_option maxRecDepth 100000 in
theorem ref21_Step.ok {t0 : Int} {t1 : Int} {t2 : Int} {t3 : Option Addr × Nat × Nat} {day : Int} {w : World} {R : TR [(false, [(.i .i64)])] → World → Prop} (h : ref21_Step.wp t0 t1 t2 t3 day w R) : clS Try.prog F.ref21_Step [.agg #[.int .i64 t0, .int .i64 t1, .int .i64 t2, .slice t3.1 t3.2.1 t3.2.2], .int .i64 day] w false [(false, [(.i .i64)])] R :=
  ok_of Try_follows Try.func20 (fun R => ref21_Step.wp t0 t1 t2 t3 day w R) (ref21_Step.eq t0 t1 t2 t3 day w) rfl h
/-! ### utc_Utc_Text -/
set_option maxRecDepth 100000 in
def utc_Utc_Text.wp (u0 : Int) (u1 : Int) (u2 : Int) (u3 : Int) (u4 : Int) (u5 : Int) (w : World) (R : TR [(false, [.s])] → World → Prop) : Prop :=
alK [.int .i64 u0, .int .i64 u1, .int .i64 u2, .int .i64 u3, .int .i64 u4, .int .i64 u5] T.utc_Utc w fun p1 w2 =>
ldN [(.i .i64), (.i .i64), (.i .i64), (.i .i64), (.i .i64), (.i .i64)] p1 0 w2 fun x3 =>
clS Try.prog F.utc_Utc_Good [.agg #[.int .i64 x3.1, .int .i64 x3.2.1, .int .i64 x3.2.2.1, .int .i64 x3.2.2.2.1, .int .i64 x3.2.2.2.2.1, .int .i64 x3.2.2.2.2.2.1]] w2 false [(false, [.b])] fun r4 w5 =>
brB (!r4.1.1) (
R ((⟨#[]⟩, ()), ()) w5) (
drK w5 fun w6 =>
ldN [(.i .i64), (.i .i64), (.i .i64)] p1 0 w6 fun x7 =>
ld1 (.i .i64) (p1.add 3) w6 fun x8 =>
ld1 (.i .i64) (p1.add 4) w6 fun x9 =>
ld1 (.i .i64) (p1.add 5) w6 fun x10 =>
clS Try.prog F.civil_Date_Text [.agg #[.int .i64 x7.1, .int .i64 x7.2.1, .int .i64 x7.2.2.1]] w6 false [(false, [.s])] fun r11 w12 =>
Hold [(15, (p1.add 5), (w6.cell? (p1.add 5)).getD undef), (10, (p1.add 4), (w6.cell? (p1.add 4)).getD undef), (5, (p1.add 3), (w6.cell? (p1.add 3)).getD undef), (1, (p1.add 0), (w6.cell? (p1.add 0)).getD undef), (1, (p1.add 1), (w6.cell? (p1.add 1)).getD undef), (1, (p1.add 2), (w6.cell? (p1.add 2)).getD undef)] w12 ∧ (
saK r11.1.1 ⟨#[84]⟩ (
clS Try.prog F.utc_two [.int .i64 x8] w12 false [(false, [.s])] fun r13 w14 =>
Hold [(15, (p1.add 5), (w6.cell? (p1.add 5)).getD undef), (10, (p1.add 4), (w6.cell? (p1.add 4)).getD undef), (5, (p1.add 3), (w6.cell? (p1.add 3)).getD undef), (1, (p1.add 0), (w6.cell? (p1.add 0)).getD undef), (1, (p1.add 1), (w6.cell? (p1.add 1)).getD undef), (1, (p1.add 2), (w6.cell? (p1.add 2)).getD undef)] w14 ∧ (
saK (r11.1.1 ++ ⟨#[84]⟩) r13.1.1 (
saK ((r11.1.1 ++ ⟨#[84]⟩) ++ r13.1.1) ⟨#[58]⟩ (
clS Try.prog F.utc_two [.int .i64 x9] w14 false [(false, [.s])] fun r15 w16 =>
Hold [(15, (p1.add 5), (w6.cell? (p1.add 5)).getD undef), (10, (p1.add 4), (w6.cell? (p1.add 4)).getD undef), (5, (p1.add 3), (w6.cell? (p1.add 3)).getD undef), (1, (p1.add 0), (w6.cell? (p1.add 0)).getD undef), (1, (p1.add 1), (w6.cell? (p1.add 1)).getD undef), (1, (p1.add 2), (w6.cell? (p1.add 2)).getD undef)] w16 ∧ (
saK (((r11.1.1 ++ ⟨#[84]⟩) ++ r13.1.1) ++ ⟨#[58]⟩) r15.1.1 (
saK ((((r11.1.1 ++ ⟨#[84]⟩) ++ r13.1.1) ++ ⟨#[58]⟩) ++ r15.1.1) ⟨#[58]⟩ (
clS Try.prog F.utc_two [.int .i64 x10] w16 false [(false, [.s])] fun r17 w18 =>
Hold [(10, (p1.add 4), (w6.cell? (p1.add 4)).getD undef), (5, (p1.add 3), (w6.cell? (p1.add 3)).getD undef), (1, (p1.add 0), (w6.cell? (p1.add 0)).getD undef), (1, (p1.add 1), (w6.cell? (p1.add 1)).getD undef), (1, (p1.add 2), (w6.cell? (p1.add 2)).getD undef)] w18 ∧ (
saK (((((r11.1.1 ++ ⟨#[84]⟩) ++ r13.1.1) ++ ⟨#[58]⟩) ++ r15.1.1) ++ ⟨#[58]⟩) r17.1.1 (
saK ((((((r11.1.1 ++ ⟨#[84]⟩) ++ r13.1.1) ++ ⟨#[58]⟩) ++ r15.1.1) ++ ⟨#[58]⟩) ++ r17.1.1) ⟨#[90]⟩ (
R ((((((((r11.1.1 ++ ⟨#[84]⟩) ++ r13.1.1) ++ ⟨#[58]⟩) ++ r15.1.1) ++ ⟨#[58]⟩) ++ r17.1.1) ++ ⟨#[90]⟩, ()), ()) w18))))))))))))
set_option maxRecDepth 100000 in
theorem utc_Utc_Text.eq (u0 : Int) (u1 : Int) (u2 : Int) (u3 : Int) (u4 : Int) (u5 : Int) (w : World) (R : Value → World → Prop) : wpF Try.prog Try.f21 (.s .n (.s .n (.s (.pl (.tk 0 (.tk 1 (.tk 4 (.tk 5 (.tk 9 (.tk 10 (.tk 14 (.tk 15 (.ef 2 [] (.tk 3 (.ef 6 [] (.tk 7 (.tk 8 (.ef 11 [] (.tk 12 (.tk 13 (.ef 16 [15] (.tk 17 (.tk 18 (.tk 19 .z))))))))))))))))))))) .n))) [.agg #[.int .i64 u0, .int .i64 u1, .int .i64 u2, .int .i64 u3, .int .i64 u4, .int .i64 u5]] w R = utc_Utc_Text.wp u0 u1 u2 u3 u4 u5 w (fun r w => R (encR false [(false, [.s])] r) w) := by kernel_rfl
set_option maxRecDepth 100000 in
theorem utc_Utc_Text.ok {u0 : Int} {u1 : Int} {u2 : Int} {u3 : Int} {u4 : Int} {u5 : Int} {w : World} {R : TR [(false, [.s])] → World → Prop} (h : utc_Utc_Text.wp u0 u1 u2 u3 u4 u5 w R) : clS Try.prog F.utc_Utc_Text [.agg #[.int .i64 u0, .int .i64 u1, .int .i64 u2, .int .i64 u3, .int .i64 u4, .int .i64 u5]] w false [(false, [.s])] R :=
  ok_of Try_follows Try.func21 (fun R => utc_Utc_Text.wp u0 u1 u2 u3 u4 u5 w R) (utc_Utc_Text.eq u0 u1 u2 u3 u4 u5 w) rfl h
/-! ### civil_Of -/
set_option maxRecDepth 100000 in
def civil_Of.wp (number : Int) (w : World) (R : TR [(true, [(.i .i64), (.i .i64), (.i .i64)]), (false, [.b])] → World → Prop) : Prop :=
alK [.int .i64 0, .int .i64 0, .int .i64 0] T.civil_Date w fun p1 w2 =>
brB (decide (number < (Int.negSucc 719161))) (
stN [.int .i64 0, .int .i64 0, .int .i64 0] p1 0 w2 fun w3 =>
ldN [(.i .i64), (.i .i64), (.i .i64)] p1 0 w3 fun x4 =>
R ((x4.1, x4.2.1, x4.2.2.1, ()), (false, ()), ()) w3) (
brB (decide (number > 2932896)) (
stN [.int .i64 0, .int .i64 0, .int .i64 0] p1 0 w2 fun w5 =>
ldN [(.i .i64), (.i .i64), (.i .i64)] p1 0 w5 fun x6 =>
R ((x6.1, x6.2.1, x6.2.2.1, ()), (false, ()), ()) w5) (
nzK 366 (
LoopT (fun (self7 : ((Int) × Unit) → World → Prop) (z8 : (Int) × Unit) w9 => ∀ _ : Nat → Value,
clS Try.prog F.civil_years [.int .i64 (IntKind.wrap .i64 (z8.1 + 1))] w9 false [(false, [(.i .i64)])] fun r10 w11 =>
brB (decide (r10.1.1 ≤ (IntKind.wrap .i64 (number - (Int.negSucc 719161))))) (
self7 (IntKind.wrap .i64 (z8.1 + 1), ()) w11) (
clS Try.prog F.civil_years [.int .i64 z8.1] w11 false [(false, [(.i .i64)])] fun r12 w13 =>
LoopT (fun (self14 : ((Int) × (Int) × Unit) → World → Prop) (z15 : (Int) × (Int) × Unit) w16 => ∀ _ : Nat → Value,
clS Try.prog F.civil_month [.int .i64 z8.1, .int .i64 z15.2.1] w16 false [(false, [(.i .i64)])] fun r17 w18 =>
brB (decide (z15.1 ≥ r17.1.1)) (
clS Try.prog F.civil_month [.int .i64 z8.1, .int .i64 z15.2.1] w18 false [(false, [(.i .i64)])] fun r19 w20 =>
self14 (IntKind.wrap .i64 (z15.1 - r19.1.1), IntKind.wrap .i64 (z15.2.1 + 1), ()) w20) (
stN [.int .i64 z8.1, .int .i64 z15.2.1, .int .i64 (IntKind.wrap .i64 (z15.1 + 1))] p1 0 w18 fun w21 =>
ldN [(.i .i64), (.i .i64), (.i .i64)] p1 0 w21 fun x22 =>
R ((x22.1, x22.2.1, x22.2.2.1, ()), (true, ()), ()) w21)) (IntKind.wrap .i64 ((IntKind.wrap .i64 (number - (Int.negSucc 719161))) - r12.1.1), 1, ()) w13)) (IntKind.wrap .i64 ((IntKind.wrap .i64 (Int.tdiv (IntKind.wrap .i64 (number - (Int.negSucc 719161))) 366)) + 1), ()) w2)))
set_option maxRecDepth 100000 in
theorem civil_Of.eq (number : Int) (w : World) (R : Value → World → Prop) : wpF Try.prog Try.f22 (.s .n (.s .n (.s .n (.s .n (.s (.lp [(5, (.i .i64))] .n) (.s .n (.s .n (.s (.lp [(4, (.i .i64)), (6, (.i .i64))] .n) .n)))))))) [.int .i64 number] w R = civil_Of.wp number w (fun r w => R (encR true [(true, [(.i .i64), (.i .i64), (.i .i64)]), (false, [.b])] r) w) := by kernel_rfl
set_option maxRecDepth 100000 in
theorem civil_Of.ok {number : Int} {w : World} {R : TR [(true, [(.i .i64), (.i .i64), (.i .i64)]), (false, [.b])] → World → Prop} (h : civil_Of.wp number w R) : clS Try.prog F.civil_Of [.int .i64 number] w true [(true, [(.i .i64), (.i .i64), (.i .i64)]), (false, [.b])] R :=
  ok_of Try_follows Try.func22 (fun R => civil_Of.wp number w R) (civil_Of.eq number w) rfl h
/-! ### utc_Utc_Good -/
set_option maxRecDepth 100000 in
def utc_Utc_Good.wp (u0 : Int) (u1 : Int) (u2 : Int) (u3 : Int) (u4 : Int) (u5 : Int) (w : World) (R : TR [(false, [.b])] → World → Prop) : Prop :=
alK [.int .i64 u0, .int .i64 u1, .int .i64 u2, .int .i64 u3, .int .i64 u4, .int .i64 u5] T.utc_Utc w fun p1 w2 =>
ldN [(.i .i64), (.i .i64), (.i .i64)] p1 0 w2 fun x3 =>
clS Try.prog F.civil_Date_Good [.agg #[.int .i64 x3.1, .int .i64 x3.2.1, .int .i64 x3.2.2.1]] w2 false [(false, [.b])] fun r4 w5 =>
brB r4.1.1 (
ld1 (.i .i64) (p1.add 3) w5 fun x6 =>
brB (decide (x6 ≥ 0)) (
ld1 (.i .i64) (p1.add 3) w5 fun x7 =>
brB (decide (x7 ≤ 23)) (
ld1 (.i .i64) (p1.add 4) w5 fun x8 =>
brB (decide (x8 ≥ 0)) (
ld1 (.i .i64) (p1.add 4) w5 fun x9 =>
brB (decide (x9 ≤ 59)) (
ld1 (.i .i64) (p1.add 5) w5 fun x10 =>
brB (decide (x10 ≥ 0)) (
ld1 (.i .i64) (p1.add 5) w5 fun x11 =>
brB (decide (x11 ≤ 59)) (
R ((true, ()), ()) w5) (
ld1 (.i .i64) (p1.add 5) w5 fun x12 =>
brB (x12 == 60) (
ld1 (.i .i64) (p1.add 3) w5 fun x13 =>
brB (x13 == 23) (
ld1 (.i .i64) (p1.add 4) w5 fun x14 =>
R (((x14 == 59), ()), ()) w5) (
R ((false, ()), ()) w5)) (
R ((false, ()), ()) w5))) (
R ((false, ()), ()) w5)) (
R ((false, ()), ()) w5)) (
R ((false, ()), ()) w5)) (
R ((false, ()), ()) w5)) (
R ((false, ()), ()) w5)) (
R ((false, ()), ()) w5)
set_option maxRecDepth 100000 in
theorem utc_Utc_Good.eq (u0 : Int) (u1 : Int) (u2 : Int) (u3 : Int) (u4 : Int) (u5 : Int) (w : World) (R : Value → World → Prop) : wpF Try.prog Try.f23 .n [.agg #[.int .i64 u0, .int .i64 u1, .int .i64 u2, .int .i64 u3, .int .i64 u4, .int .i64 u5]] w R = utc_Utc_Good.wp u0 u1 u2 u3 u4 u5 w (fun r w => R (encR false [(false, [.b])] r) w) := by kernel_rfl
set_option maxRecDepth 100000 in
theorem utc_Utc_Good.ok {u0 : Int} {u1 : Int} {u2 : Int} {u3 : Int} {u4 : Int} {u5 : Int} {w : World} {R : TR [(false, [.b])] → World → Prop} (h : utc_Utc_Good.wp u0 u1 u2 u3 u4 u5 w R) : clS Try.prog F.utc_Utc_Good [.agg #[.int .i64 u0, .int .i64 u1, .int .i64 u2, .int .i64 u3, .int .i64 u4, .int .i64 u5]] w false [(false, [.b])] R :=
  ok_of Try_follows Try.func23 (fun R => utc_Utc_Good.wp u0 u1 u2 u3 u4 u5 w R) (utc_Utc_Good.eq u0 u1 u2 u3 u4 u5 w) rfl h
/-! ### ref22_Good -/
set_option maxRecDepth 100000 in
def ref22_Good.wp (u0 : Int) (u1 : Int) (u2 : Int) (u3 : Int) (u4 : Int) (u5 : Int) (w : World) (R : TR [(false, [.b])] → World → Prop) : Prop :=
alK [.int .i64 u0, .int .i64 u1, .int .i64 u2, .int .i64 u3, .int .i64 u4, .int .i64 u5] T.ref22_Utc w fun p1 w2 =>
ldN [(.i .i64), (.i .i64), (.i .i64)] p1 0 w2 fun x3 =>
clS Try.prog F.ref20_Good [.agg #[.int .i64 x3.1, .int .i64 x3.2.1, .int .i64 x3.2.2.1]] w2 false [(false, [.b])] fun r4 w5 =>
brB (!r4.1.1) (
R ((false, ()), ()) w5) (
ld1 (.i .i64) (p1.add 3) w5 fun x6 =>
brB (decide (x6 < 0)) (
R ((false, ()), ()) w5) (
ld1 (.i .i64) (p1.add 3) w5 fun x7 =>
brB (decide (x7 > 23)) (
R ((false, ()), ()) w5) (
ld1 (.i .i64) (p1.add 4) w5 fun x8 =>
brB (decide (x8 < 0)) (
R ((false, ()), ()) w5) (
ld1 (.i .i64) (p1.add 4) w5 fun x9 =>
brB (decide (x9 > 59)) (
R ((false, ()), ()) w5) (
ld1 (.i .i64) (p1.add 5) w5 fun x10 =>
brB (decide (x10 < 0)) (
R ((false, ()), ()) w5) (
ld1 (.i .i64) (p1.add 5) w5 fun x11 =>
brB (decide (x11 > 60)) (
R ((false, ()), ()) w5) (
ld1 (.i .i64) (p1.add 5) w5 fun x12 =>
brB (decide (x12 < 60)) (
R ((true, ()), ()) w5) (
ld1 (.i .i64) (p1.add 3) w5 fun x13 =>
brB (x13 == 23) (
ld1 (.i .i64) (p1.add 4) w5 fun x14 =>
R (((x14 == 59), ()), ()) w5) (
R ((false, ()), ()) w5)))))))))
set_option maxRecDepth 100000 in
theorem ref22_Good.eq (u0 : Int) (u1 : Int) (u2 : Int) (u3 : Int) (u4 : Int) (u5 : Int) (w : World) (R : Value → World → Prop) : wpF Try.prog Try.f24 .n [.agg #[.int .i64 u0, .int .i64 u1, .int .i64 u2, .int .i64 u3, .int .i64 u4, .int .i64 u5]] w R = ref22_Good.wp u0 u1 u2 u3 u4 u5 w (fun r w => R (encR false [(false, [.b])] r) w) := by kernel_rfl
set_option maxRecDepth 100000 in
theorem ref22_Good.ok {u0 : Int} {u1 : Int} {u2 : Int} {u3 : Int} {u4 : Int} {u5 : Int} {w : World} {R : TR [(false, [.b])] → World → Prop} (h : ref22_Good.wp u0 u1 u2 u3 u4 u5 w R) : clS Try.prog F.ref22_Good [.agg #[.int .i64 u0, .int .i64 u1, .int .i64 u2, .int .i64 u3, .int .i64 u4, .int .i64 u5]] w false [(false, [.b])] R :=
  ok_of Try_follows Try.func24 (fun R => ref22_Good.wp u0 u1 u2 u3 u4 u5 w R) (ref22_Good.eq u0 u1 u2 u3 u4 u5 w) rfl h
/-! ### ref22_Text -/
set_option maxRecDepth 100000 in
def ref22_Text.wp (u0 : Int) (u1 : Int) (u2 : Int) (u3 : Int) (u4 : Int) (u5 : Int) (w : World) (R : TR [(false, [.s])] → World → Prop) : Prop :=
alK [.int .i64 u0, .int .i64 u1, .int .i64 u2, .int .i64 u3, .int .i64 u4, .int .i64 u5] T.ref22_Utc w fun p1 w2 =>
ldN [(.i .i64), (.i .i64), (.i .i64), (.i .i64), (.i .i64), (.i .i64)] p1 0 w2 fun x3 =>
clS Try.prog F.ref22_Good [.agg #[.int .i64 x3.1, .int .i64 x3.2.1, .int .i64 x3.2.2.1, .int .i64 x3.2.2.2.1, .int .i64 x3.2.2.2.2.1, .int .i64 x3.2.2.2.2.2.1]] w2 false [(false, [.b])] fun r4 w5 =>
brB (!r4.1.1) (
R ((⟨#[]⟩, ()), ()) w5) (
drK w5 fun w6 =>
ldN [(.i .i64), (.i .i64), (.i .i64)] p1 0 w6 fun x7 =>
ld1 (.i .i64) (p1.add 3) w6 fun x8 =>
ld1 (.i .i64) (p1.add 4) w6 fun x9 =>
ld1 (.i .i64) (p1.add 5) w6 fun x10 =>
clS Try.prog F.ref20_Text [.agg #[.int .i64 x7.1, .int .i64 x7.2.1, .int .i64 x7.2.2.1]] w6 false [(false, [.s])] fun r11 w12 =>
Hold [(15, (p1.add 5), (w6.cell? (p1.add 5)).getD undef), (10, (p1.add 4), (w6.cell? (p1.add 4)).getD undef), (5, (p1.add 3), (w6.cell? (p1.add 3)).getD undef), (1, (p1.add 0), (w6.cell? (p1.add 0)).getD undef), (1, (p1.add 1), (w6.cell? (p1.add 1)).getD undef), (1, (p1.add 2), (w6.cell? (p1.add 2)).getD undef)] w12 ∧ (
saK r11.1.1 ⟨#[84]⟩ (
clS Try.prog F.ref22_two [.int .i64 x8] w12 false [(false, [.s])] fun r13 w14 =>
Hold [(15, (p1.add 5), (w6.cell? (p1.add 5)).getD undef), (10, (p1.add 4), (w6.cell? (p1.add 4)).getD undef), (5, (p1.add 3), (w6.cell? (p1.add 3)).getD undef), (1, (p1.add 0), (w6.cell? (p1.add 0)).getD undef), (1, (p1.add 1), (w6.cell? (p1.add 1)).getD undef), (1, (p1.add 2), (w6.cell? (p1.add 2)).getD undef)] w14 ∧ (
saK (r11.1.1 ++ ⟨#[84]⟩) r13.1.1 (
saK ((r11.1.1 ++ ⟨#[84]⟩) ++ r13.1.1) ⟨#[58]⟩ (
clS Try.prog F.ref22_two [.int .i64 x9] w14 false [(false, [.s])] fun r15 w16 =>
Hold [(15, (p1.add 5), (w6.cell? (p1.add 5)).getD undef), (10, (p1.add 4), (w6.cell? (p1.add 4)).getD undef), (5, (p1.add 3), (w6.cell? (p1.add 3)).getD undef), (1, (p1.add 0), (w6.cell? (p1.add 0)).getD undef), (1, (p1.add 1), (w6.cell? (p1.add 1)).getD undef), (1, (p1.add 2), (w6.cell? (p1.add 2)).getD undef)] w16 ∧ (
saK (((r11.1.1 ++ ⟨#[84]⟩) ++ r13.1.1) ++ ⟨#[58]⟩) r15.1.1 (
saK ((((r11.1.1 ++ ⟨#[84]⟩) ++ r13.1.1) ++ ⟨#[58]⟩) ++ r15.1.1) ⟨#[58]⟩ (
clS Try.prog F.ref22_two [.int .i64 x10] w16 false [(false, [.s])] fun r17 w18 =>
Hold [(10, (p1.add 4), (w6.cell? (p1.add 4)).getD undef), (5, (p1.add 3), (w6.cell? (p1.add 3)).getD undef), (1, (p1.add 0), (w6.cell? (p1.add 0)).getD undef), (1, (p1.add 1), (w6.cell? (p1.add 1)).getD undef), (1, (p1.add 2), (w6.cell? (p1.add 2)).getD undef)] w18 ∧ (
saK (((((r11.1.1 ++ ⟨#[84]⟩) ++ r13.1.1) ++ ⟨#[58]⟩) ++ r15.1.1) ++ ⟨#[58]⟩) r17.1.1 (
saK ((((((r11.1.1 ++ ⟨#[84]⟩) ++ r13.1.1) ++ ⟨#[58]⟩) ++ r15.1.1) ++ ⟨#[58]⟩) ++ r17.1.1) ⟨#[90]⟩ (
R ((((((((r11.1.1 ++ ⟨#[84]⟩) ++ r13.1.1) ++ ⟨#[58]⟩) ++ r15.1.1) ++ ⟨#[58]⟩) ++ r17.1.1) ++ ⟨#[90]⟩, ()), ()) w18))))))))))))
set_option maxRecDepth 100000 in
theorem ref22_Text.eq (u0 : Int) (u1 : Int) (u2 : Int) (u3 : Int) (u4 : Int) (u5 : Int) (w : World) (R : Value → World → Prop) : wpF Try.prog Try.f25 (.s .n (.s .n (.s (.pl (.tk 0 (.tk 1 (.tk 4 (.tk 5 (.tk 9 (.tk 10 (.tk 14 (.tk 15 (.ef 2 [] (.tk 3 (.ef 6 [] (.tk 7 (.tk 8 (.ef 11 [] (.tk 12 (.tk 13 (.ef 16 [15] (.tk 17 (.tk 18 (.tk 19 .z))))))))))))))))))))) .n))) [.agg #[.int .i64 u0, .int .i64 u1, .int .i64 u2, .int .i64 u3, .int .i64 u4, .int .i64 u5]] w R = ref22_Text.wp u0 u1 u2 u3 u4 u5 w (fun r w => R (encR false [(false, [.s])] r) w) := by kernel_rfl
set_option maxRecDepth 100000 in
theorem ref22_Text.ok {u0 : Int} {u1 : Int} {u2 : Int} {u3 : Int} {u4 : Int} {u5 : Int} {w : World} {R : TR [(false, [.s])] → World → Prop} (h : ref22_Text.wp u0 u1 u2 u3 u4 u5 w R) : clS Try.prog F.ref22_Text [.agg #[.int .i64 u0, .int .i64 u1, .int .i64 u2, .int .i64 u3, .int .i64 u4, .int .i64 u5]] w false [(false, [.s])] R :=
  ok_of Try_follows Try.func25 (fun R => ref22_Text.wp u0 u1 u2 u3 u4 u5 w R) (ref22_Text.eq u0 u1 u2 u3 u4 u5 w) rfl h
end Go.Proofs.Ytimdngcmbmamdaa
