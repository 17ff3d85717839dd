import Derived.Test.YtimdngcmbmamdaaNm
namespace Go.Proofs.Ytimdngcmbmamdaa
open Go.Eng
set_option linter.unusedVariables false
/-! ### law22_UtcTells -/
set_option maxRecDepth 100000 in
def law22_UtcTells.wp (m0 : Int) (m1 : Int) (m2 : Int) (m3 : Option Addr × Nat × Nat) (tai : Int) (u0 : Int) (u1 : Int) (u2 : Int) (u3 : Int) (u4 : Int) (u5 : Int) (w : World) (R : TR [(false, [.b])] → World → Prop) : Prop :=
alK [.int .i64 m0, .int .i64 m1, .int .i64 m2, .slice m3.1 m3.2.1 m3.2.2] T.ref21_Table w fun p1 w2 =>
alK [.int .i64 u0, .int .i64 u1, .int .i64 u2, .int .i64 u3, .int .i64 u4, .int .i64 u5] T.ref22_Utc w2 fun p3 w4 =>
clS Try.prog F.law22_alive [] w4 false [(false, [.b])] fun r5 w6 =>
brB (!r5.1.1) (
R ((false, ()), ()) w6) (
ld1 .sl (p1.add 3) w6 fun x7 =>
brB (decide ((x7.2.1 : Int) > 64)) (
R ((true, ()), ()) w6) (
ldN [(.i .i64), (.i .i64), (.i .i64), .sl] p1 0 w6 fun x8 =>
clS Try.prog F.law22_made [.agg #[.int .i64 x8.1, .int .i64 x8.2.1, .int .i64 x8.2.2.1, .slice x8.2.2.2.1.1 x8.2.2.2.1.2.1 x8.2.2.2.1.2.2]] w6 true [(false, [.p]), (false, [.b])] fun r9 w10 =>
brB (!r9.2.1.1) (
clS Try.prog F.utc_Of [.pointer r9.1.1, .int .i64 tai] w10 true [(true, [(.i .i64), (.i .i64), (.i .i64), (.i .i64), (.i .i64), (.i .i64)]), (false, [(.i .i64)])] fun r11 w12 =>
alK [.int .i64 0, .int .i64 0, .int .i64 0, .int .i64 0, .int .i64 0, .int .i64 0] T.utc_Utc w12 fun p13 w14 =>
stN [.int .i64 r11.1.1, .int .i64 r11.1.2.1, .int .i64 r11.1.2.2.1, .int .i64 r11.1.2.2.2.1, .int .i64 r11.1.2.2.2.2.1, .int .i64 r11.1.2.2.2.2.2.1] p13 0 w14 fun w15 =>
ldN [(.i .i64), (.i .i64), (.i .i64), (.i .i64), (.i .i64), (.i .i64)] p3 0 w15 fun x16 =>
clS Try.prog F.law22_of [.agg #[.int .i64 x16.1, .int .i64 x16.2.1, .int .i64 x16.2.2.1, .int .i64 x16.2.2.2.1, .int .i64 x16.2.2.2.2.1, .int .i64 x16.2.2.2.2.2.1]] w15 false [(true, [(.i .i64), (.i .i64), (.i .i64), (.i .i64), (.i .i64), (.i .i64)])] fun r17 w18 =>
clS Try.prog F.utc_Tai [.pointer r9.1.1, .agg #[.int .i64 r17.1.1, .int .i64 r17.1.2.1, .int .i64 r17.1.2.2.1, .int .i64 r17.1.2.2.2.1, .int .i64 r17.1.2.2.2.2.1, .int .i64 r17.1.2.2.2.2.2.1]] w18 true [(false, [(.i .i64)]), (false, [(.i .i64)])] fun r19 w20 =>
brB (Option.isNone r9.1.1) (
brB (r11.2.1.1 == 2) (
ldN [(.i .i64), (.i .i64), (.i .i64), (.i .i64), (.i .i64), (.i .i64)] p13 0 w20 fun x21 =>
brB (((x21.1 == 0) && ((x21.2.1 == 0) && ((x21.2.2.1 == 0) && true))) && ((x21.2.2.2.1 == 0) && ((x21.2.2.2.2.1 == 0) && ((x21.2.2.2.2.2.1 == 0) && true)))) (
brB (r19.1.1 == 0) (
R (((r19.2.1.1 == 2), ()), ()) w20) (
R ((false, ()), ()) w20)) (
R ((false, ()), ()) w20)) (
R ((false, ()), ()) w20)) (
R ((false, ()), ()) w20)) (
clS Try.prog F.utc_Of [.pointer r9.1.1, .int .i64 tai] w10 true [(true, [(.i .i64), (.i .i64), (.i .i64), (.i .i64), (.i .i64), (.i .i64)]), (false, [(.i .i64)])] fun r22 w23 =>
alK [.int .i64 0, .int .i64 0, .int .i64 0, .int .i64 0, .int .i64 0, .int .i64 0] T.utc_Utc w23 fun p24 w25 =>
stN [.int .i64 r22.1.1, .int .i64 r22.1.2.1, .int .i64 r22.1.2.2.1, .int .i64 r22.1.2.2.2.1, .int .i64 r22.1.2.2.2.2.1, .int .i64 r22.1.2.2.2.2.2.1] p24 0 w25 fun w26 =>
ldN [(.i .i64), (.i .i64), (.i .i64), .sl] p1 0 w26 fun x27 =>
clS Try.prog F.ref22_Of [.agg #[.int .i64 x27.1, .int .i64 x27.2.1, .int .i64 x27.2.2.1, .slice x27.2.2.2.1.1 x27.2.2.2.1.2.1 x27.2.2.2.1.2.2], .int .i64 tai] w26 true [(true, [(.i .i64), (.i .i64), (.i .i64), (.i .i64), (.i .i64), (.i .i64)]), (false, [.b])] fun r28 w29 =>
alK [.int .i64 0, .int .i64 0, .int .i64 0, .int .i64 0, .int .i64 0, .int .i64 0] T.ref22_Utc w29 fun p30 w31 =>
stN [.int .i64 r28.1.1, .int .i64 r28.1.2.1, .int .i64 r28.1.2.2.1, .int .i64 r28.1.2.2.2.1, .int .i64 r28.1.2.2.2.2.1, .int .i64 r28.1.2.2.2.2.2.1] p30 0 w31 fun w32 =>
CutT (fun (J33 : Unit → World → Prop) =>
drK w32 fun w36 =>
ldN [(.i .i64), (.i .i64), (.i .i64), (.i .i64), (.i .i64), (.i .i64)] p24 0 w36 fun x37 =>
ldN [(.i .i64), (.i .i64), (.i .i64), (.i .i64), (.i .i64), (.i .i64)] p30 0 w36 fun x38 =>
clS Try.prog F.law22_plain [.agg #[.int .i64 x37.1, .int .i64 x37.2.1, .int .i64 x37.2.2.1, .int .i64 x37.2.2.2.1, .int .i64 x37.2.2.2.2.1, .int .i64 x37.2.2.2.2.2.1]] w36 false [(true, [(.i .i64), (.i .i64), (.i .i64), (.i .i64), (.i .i64), (.i .i64)])] fun r39 w40 =>
Hold [(2, (p30.add 0), (w36.cell? (p30.add 0)).getD undef), (2, (p30.add 1), (w36.cell? (p30.add 1)).getD undef), (2, (p30.add 2), (w36.cell? (p30.add 2)).getD undef), (2, (p30.add 3), (w36.cell? (p30.add 3)).getD undef), (2, (p30.add 4), (w36.cell? (p30.add 4)).getD undef), (2, (p30.add 5), (w36.cell? (p30.add 5)).getD undef)] w40 ∧ (
brB (!(((r39.1.1 == x38.1) && ((r39.1.2.1 == x38.2.1) && ((r39.1.2.2.1 == x38.2.2.1) && true))) && ((r39.1.2.2.2.1 == x38.2.2.2.1) && ((r39.1.2.2.2.2.1 == x38.2.2.2.2.1) && ((r39.1.2.2.2.2.2.1 == x38.2.2.2.2.2.1) && true))))) (
R ((false, ()), ()) w40) (
brB (!(r28.2.1.1 == (r22.2.1.1 == 0))) (
R ((false, ()), ()) w40) (
brB (!r28.2.1.1) (
brB (r22.2.1.1 != 11) (
R ((false, ()), ()) w40) (
J33 (()) w40)) (
J33 (()) w40))))) (fun (z34 : Unit) w35 => ∀ _ : Nat → Value,
ldN [(.i .i64), (.i .i64), (.i .i64), (.i .i64), (.i .i64), (.i .i64)] p3 0 w35 fun x41 =>
clS Try.prog F.law22_of [.agg #[.int .i64 x41.1, .int .i64 x41.2.1, .int .i64 x41.2.2.1, .int .i64 x41.2.2.2.1, .int .i64 x41.2.2.2.2.1, .int .i64 x41.2.2.2.2.2.1]] w35 false [(true, [(.i .i64), (.i .i64), (.i .i64), (.i .i64), (.i .i64), (.i .i64)])] fun r42 w43 =>
clS Try.prog F.utc_Tai [.pointer r9.1.1, .agg #[.int .i64 r42.1.1, .int .i64 r42.1.2.1, .int .i64 r42.1.2.2.1, .int .i64 r42.1.2.2.2.1, .int .i64 r42.1.2.2.2.2.1, .int .i64 r42.1.2.2.2.2.2.1]] w43 true [(false, [(.i .i64)]), (false, [(.i .i64)])] fun r44 w45 =>
ldN [(.i .i64), (.i .i64), (.i .i64), .sl] p1 0 w45 fun x46 =>
ldN [(.i .i64), (.i .i64), (.i .i64), (.i .i64), (.i .i64), (.i .i64)] p3 0 w45 fun x47 =>
clS Try.prog F.ref22_Tai [.agg #[.int .i64 x46.1, .int .i64 x46.2.1, .int .i64 x46.2.2.1, .slice x46.2.2.2.1.1 x46.2.2.2.1.2.1 x46.2.2.2.1.2.2], .agg #[.int .i64 x47.1, .int .i64 x47.2.1, .int .i64 x47.2.2.1, .int .i64 x47.2.2.2.1, .int .i64 x47.2.2.2.2.1, .int .i64 x47.2.2.2.2.2.1]] w45 true [(false, [(.i .i64)]), (false, [(.i .i64)])] fun r48 w49 =>
brB (r44.1.1 == r48.1.1) (
R (((r44.2.1.1 == r48.2.1.1), ()), ()) w49) (
R ((false, ()), ()) w49)))))
set_option maxRecDepth 100000 in
theorem law22_UtcTells.eq (m0 : Int) (m1 : Int) (m2 : Int) (m3 : Option Addr × Nat × Nat) (tai : Int) (u0 : Int) (u1 : Int) (u2 : Int) (u3 : Int) (u4 : Int) (u5 : Int) (w : World) (R : Value → World → Prop) : wpF Try.prog Try.f3 (.s .n (.s .n (.s .n (.s .n (.s .n (.s .n (.s .n (.ct [] (.s (.pl (.tk 0 (.tk 2 (.ef 1 [0] (.tk 3 (.tk 4 (.tk 5 (.tk 6 (.tk 7 (.tk 8 (.tk 9 (.tk 10 (.tk 11 (.tk 12 (.tk 13 (.tk 14 (.tk 15 (.tk 16 (.tk 17 .z))))))))))))))))))) .n) .n)))))))) [.agg #[.int .i64 m0, .int .i64 m1, .int .i64 m2, .slice m3.1 m3.2.1 m3.2.2], .int .i64 tai, .agg #[.int .i64 u0, .int .i64 u1, .int .i64 u2, .int .i64 u3, .int .i64 u4, .int .i64 u5]] w R = law22_UtcTells.wp m0 m1 m2 m3 tai u0 u1 u2 u3 u4 u5 w (fun r w => R (encR false [(false, [.b])] r) w) := by kernel_rfl
set_option maxRecDepth 100000 in
theorem law22_UtcTells.ok {m0 : Int} {m1 : Int} {m2 : Int} {m3 : Option Addr × Nat × Nat} {tai : Int} {u0 : Int} {u1 : Int} {u2 : Int} {u3 : Int} {u4 : Int} {u5 : Int} {w : World} {R : TR [(false, [.b])] → World → Prop} (h : law22_UtcTells.wp m0 m1 m2 m3 tai u0 u1 u2 u3 u4 u5 w R) : clS Try.prog F.law22_UtcTells [.agg #[.int .i64 m0, .int .i64 m1, .int .i64 m2, .slice m3.1 m3.2.1 m3.2.2], .int .i64 tai, .agg #[.int .i64 u0, .int .i64 u1, .int .i64 u2, .int .i64 u3, .int .i64 u4, .int .i64 u5]] w false [(false, [.b])] R :=
  ok_of Try_follows Try.func3 (fun R => law22_UtcTells.wp m0 m1 m2 m3 tai u0 u1 u2 u3 u4 u5 w R) (law22_UtcTells.eq m0 m1 m2 m3 tai u0 u1 u2 u3 u4 u5 w) rfl h
/-! ### law22_UtcBack -/
set_option maxRecDepth 100000 in
def law22_UtcBack.wp (m0 : Int) (m1 : Int) (m2 : Int) (m3 : Option Addr × Nat × Nat) (tai : Int) (u0 : Int) (u1 : Int) (u2 : Int) (u3 : Int) (u4 : Int) (u5 : Int) (w : World) (R : TR [(false, [.b])] → World → Prop) : Prop :=
alK [.int .i64 m0, .int .i64 m1, .int .i64 m2, .slice m3.1 m3.2.1 m3.2.2] T.ref21_Table w fun p1 w2 =>
alK [.int .i64 u0, .int .i64 u1, .int .i64 u2, .int .i64 u3, .int .i64 u4, .int .i64 u5] T.ref22_Utc w2 fun p3 w4 =>
clS Try.prog F.law22_alive [] w4 false [(false, [.b])] fun r5 w6 =>
brB (!r5.1.1) (
R ((false, ()), ()) w6) (
ld1 .sl (p1.add 3) w6 fun x7 =>
brB (decide ((x7.2.1 : Int) > 64)) (
R ((true, ()), ()) w6) (
ldN [(.i .i64), (.i .i64), (.i .i64), .sl] p1 0 w6 fun x8 =>
clS Try.prog F.law22_made [.agg #[.int .i64 x8.1, .int .i64 x8.2.1, .int .i64 x8.2.2.1, .slice x8.2.2.2.1.1 x8.2.2.2.1.2.1 x8.2.2.2.1.2.2]] w6 true [(false, [.p]), (false, [.b])] fun r9 w10 =>
brB (!r9.2.1.1) (
R (((Option.isNone r9.1.1), ()), ()) w10) (
CutT (fun (J11 : Unit → World → Prop) =>
clS Try.prog F.utc_Of [.pointer r9.1.1, .int .i64 tai] w10 true [(true, [(.i .i64), (.i .i64), (.i .i64), (.i .i64), (.i .i64), (.i .i64)]), (false, [(.i .i64)])] fun r14 w15 =>
alK [.int .i64 0, .int .i64 0, .int .i64 0, .int .i64 0, .int .i64 0, .int .i64 0] T.utc_Utc w15 fun p16 w17 =>
stN [.int .i64 r14.1.1, .int .i64 r14.1.2.1, .int .i64 r14.1.2.2.1, .int .i64 r14.1.2.2.2.1, .int .i64 r14.1.2.2.2.2.1, .int .i64 r14.1.2.2.2.2.2.1] p16 0 w17 fun w18 =>
brB (r14.2.1.1 == 0) (
ldN [(.i .i64), (.i .i64), (.i .i64), (.i .i64), (.i .i64), (.i .i64)] p16 0 w18 fun x19 =>
clS Try.prog F.utc_Tai [.pointer r9.1.1, .agg #[.int .i64 x19.1, .int .i64 x19.2.1, .int .i64 x19.2.2.1, .int .i64 x19.2.2.2.1, .int .i64 x19.2.2.2.2.1, .int .i64 x19.2.2.2.2.2.1]] w18 true [(false, [(.i .i64)]), (false, [(.i .i64)])] fun r20 w21 =>
brB (r20.2.1.1 != 0) (
R ((false, ()), ()) w21) (
brB (r20.1.1 != tai) (
R ((false, ()), ()) w21) (
J11 (()) w21))) (
J11 (()) w18)) (fun (z12 : Unit) w13 => ∀ _ : Nat → Value,
ldN [(.i .i64), (.i .i64), (.i .i64), (.i .i64), (.i .i64), (.i .i64)] p3 0 w13 fun x22 =>
clS Try.prog F.law22_of [.agg #[.int .i64 x22.1, .int .i64 x22.2.1, .int .i64 x22.2.2.1, .int .i64 x22.2.2.2.1, .int .i64 x22.2.2.2.2.1, .int .i64 x22.2.2.2.2.2.1]] w13 false [(true, [(.i .i64), (.i .i64), (.i .i64), (.i .i64), (.i .i64), (.i .i64)])] fun r23 w24 =>
clS Try.prog F.utc_Tai [.pointer r9.1.1, .agg #[.int .i64 r23.1.1, .int .i64 r23.1.2.1, .int .i64 r23.1.2.2.1, .int .i64 r23.1.2.2.2.1, .int .i64 r23.1.2.2.2.2.1, .int .i64 r23.1.2.2.2.2.2.1]] w24 true [(false, [(.i .i64)]), (false, [(.i .i64)])] fun r25 w26 =>
brB (r25.2.1.1 != 0) (
R (((r25.1.1 == 0), ()), ()) w26) (
clS Try.prog F.utc_Of [.pointer r9.1.1, .int .i64 r25.1.1] w26 true [(true, [(.i .i64), (.i .i64), (.i .i64), (.i .i64), (.i .i64), (.i .i64)]), (false, [(.i .i64)])] fun r27 w28 =>
alK [.int .i64 0, .int .i64 0, .int .i64 0, .int .i64 0, .int .i64 0, .int .i64 0] T.utc_Utc w28 fun p29 w30 =>
stN [.int .i64 r27.1.1, .int .i64 r27.1.2.1, .int .i64 r27.1.2.2.1, .int .i64 r27.1.2.2.2.1, .int .i64 r27.1.2.2.2.2.1, .int .i64 r27.1.2.2.2.2.2.1] p29 0 w30 fun w31 =>
drK w31 fun w32 =>
brB (r27.2.1.1 == 0) (
ldN [(.i .i64), (.i .i64), (.i .i64), (.i .i64), (.i .i64), (.i .i64)] p29 0 w32 fun x33 =>
ldN [(.i .i64), (.i .i64), (.i .i64), (.i .i64), (.i .i64), (.i .i64)] p3 0 w32 fun x34 =>
clS Try.prog F.law22_plain [.agg #[.int .i64 x33.1, .int .i64 x33.2.1, .int .i64 x33.2.2.1, .int .i64 x33.2.2.2.1, .int .i64 x33.2.2.2.2.1, .int .i64 x33.2.2.2.2.2.1]] w32 false [(true, [(.i .i64), (.i .i64), (.i .i64), (.i .i64), (.i .i64), (.i .i64)])] fun r35 w36 =>
Hold [(5, (p3.add 0), (w32.cell? (p3.add 0)).getD undef), (5, (p3.add 1), (w32.cell? (p3.add 1)).getD undef), (5, (p3.add 2), (w32.cell? (p3.add 2)).getD undef), (5, (p3.add 3), (w32.cell? (p3.add 3)).getD undef), (5, (p3.add 4), (w32.cell? (p3.add 4)).getD undef), (5, (p3.add 5), (w32.cell? (p3.add 5)).getD undef)] w36 ∧ (
R (((((r35.1.1 == x34.1) && ((r35.1.2.1 == x34.2.1) && ((r35.1.2.2.1 == x34.2.2.1) && true))) && ((r35.1.2.2.2.1 == x34.2.2.2.1) && ((r35.1.2.2.2.2.1 == x34.2.2.2.2.1) && ((r35.1.2.2.2.2.2.1 == x34.2.2.2.2.2.1) && true)))), ()), ()) w36)) (
R ((false, ()), ()) w32))))))
set_option maxRecDepth 100000 in
theorem law22_UtcBack.eq (m0 : Int) (m1 : Int) (m2 : Int) (m3 : Option Addr × Nat × Nat) (tai : Int) (u0 : Int) (u1 : Int) (u2 : Int) (u3 : Int) (u4 : Int) (u5 : Int) (w : World) (R : Value → World → Prop) : wpF Try.prog Try.f4 (.s .n (.s .n (.s .n (.s .n (.s .n (.ct [] .n (.s .n (.s .n (.s .n (.s (.pl (.tk 0 (.tk 1 (.tk 2 (.tk 3 (.tk 5 (.ef 4 [3] (.tk 6 (.tk 7 (.tk 8 .z)))))))))) .n)))))))))) [.agg #[.int .i64 m0, .int .i64 m1, .int .i64 m2, .slice m3.1 m3.2.1 m3.2.2], .int .i64 tai, .agg #[.int .i64 u0, .int .i64 u1, .int .i64 u2, .int .i64 u3, .int .i64 u4, .int .i64 u5]] w R = law22_UtcBack.wp m0 m1 m2 m3 tai u0 u1 u2 u3 u4 u5 w (fun r w => R (encR false [(false, [.b])] r) w) := by kernel_rfl
set_option maxRecDepth 100000 in
theorem law22_UtcBack.ok {m0 : Int} {m1 : Int} {m2 : Int} {m3 : Option Addr × Nat × Nat} {tai : Int} {u0 : Int} {u1 : Int} {u2 : Int} {u3 : Int} {u4 : Int} {u5 : Int} {w : World} {R : TR [(false, [.b])] → World → Prop} (h : law22_UtcBack.wp m0 m1 m2 m3 tai u0 u1 u2 u3 u4 u5 w R) : clS Try.prog F.law22_UtcBack [.agg #[.int .i64 m0, .int .i64 m1, .int .i64 m2, .slice m3.1 m3.2.1 m3.2.2], .int .i64 tai, .agg #[.int .i64 u0, .int .i64 u1, .int .i64 u2, .int .i64 u3, .int .i64 u4, .int .i64 u5]] w false [(false, [.b])] R :=
  ok_of Try_follows Try.func4 (fun R => law22_UtcBack.wp m0 m1 m2 m3 tai u0 u1 u2 u3 u4 u5 w R) (law22_UtcBack.eq m0 m1 m2 m3 tai u0 u1 u2 u3 u4 u5 w) rfl h
/-! ### law22_UtcLeaps -/
set_option maxRecDepth 100000 in
def law22_UtcLeaps.wp (m0 : Int) (m1 : Int) (m2 : Int) (m3 : Option Addr × Nat × Nat) (day : Int) (w : World) (R : TR [(false, [.b])] → World → Prop) : Prop :=
alK [.int .i64 m0, .int .i64 m1, .int .i64 m2, .slice m3.1 m3.2.1 m3.2.2] T.ref21_Table w fun p1 w2 =>
clS Try.prog F.law22_alive [] w2 false [(false, [.b])] fun r3 w4 =>
brB (!r3.1.1) (
R ((false, ()), ()) w4) (
ld1 .sl (p1.add 3) w4 fun x5 =>
brB (decide ((x5.2.1 : Int) > 64)) (
R ((true, ()), ()) w4) (
ldN [(.i .i64), (.i .i64), (.i .i64), .sl] p1 0 w4 fun x6 =>
clS Try.prog F.law22_made [.agg #[.int .i64 x6.1, .int .i64 x6.2.1, .int .i64 x6.2.2.1, .slice x6.2.2.2.1.1 x6.2.2.2.1.2.1 x6.2.2.2.1.2.2]] w4 true [(false, [.p]), (false, [.b])] fun r7 w8 =>
brB (!r7.2.1.1) (
R ((true, ()), ()) w8) (
ld1 (.i .i64) p1 w8 fun x9 =>
brB (decide (day < x9)) (
R ((true, ()), ()) w8) (
ld1 (.i .i64) (p1.add 2) w8 fun x10 =>
brB (decide (day ≥ (IntKind.wrap .i64 (x10 - 1)))) (
R ((true, ()), ()) w8) (
ldN [(.i .i64), (.i .i64), (.i .i64), .sl] p1 0 w8 fun x11 =>
clS Try.prog F.ref22_Begin [.agg #[.int .i64 x11.1, .int .i64 x11.2.1, .int .i64 x11.2.2.1, .slice x11.2.2.2.1.1 x11.2.2.2.1.2.1 x11.2.2.2.1.2.2], .int .i64 (IntKind.wrap .i64 (day + 1))] w8 false [(false, [(.i .i64)])] fun r12 w13 =>
ldN [(.i .i64), (.i .i64), (.i .i64), .sl] p1 0 w13 fun x14 =>
clS Try.prog F.ref21_Step [.agg #[.int .i64 x14.1, .int .i64 x14.2.1, .int .i64 x14.2.2.1, .slice x14.2.2.2.1.1 x14.2.2.2.1.2.1 x14.2.2.2.1.2.2], .int .i64 day] w13 false [(false, [(.i .i64)])] fun r15 w16 =>
LoopT (fun (self17 : ((ByteArray) × (Int) × Unit) → World → Prop) (z18 : (ByteArray) × (Int) × Unit) w19 => ∀ _ : Nat → Value,
brB (decide (z18.2.1 ≤ 1)) (
clS Try.prog F.utc_Of [.pointer r7.1.1, .int .i64 (IntKind.wrap .i64 (r12.1.1 + z18.2.1))] w19 true [(true, [(.i .i64), (.i .i64), (.i .i64), (.i .i64), (.i .i64), (.i .i64)]), (false, [(.i .i64)])] fun r20 w21 =>
alK [.int .i64 0, .int .i64 0, .int .i64 0, .int .i64 0, .int .i64 0, .int .i64 0] T.utc_Utc w21 fun p22 w23 =>
stN [.int .i64 r20.1.1, .int .i64 r20.1.2.1, .int .i64 r20.1.2.2.1, .int .i64 r20.1.2.2.2.1, .int .i64 r20.1.2.2.2.2.1, .int .i64 r20.1.2.2.2.2.2.1] p22 0 w23 fun w24 =>
ldN [(.i .i64), (.i .i64), (.i .i64), (.i .i64), (.i .i64), (.i .i64)] p22 0 w24 fun x25 =>
clS Try.prog F.utc_Utc_Text [.agg #[.int .i64 x25.1, .int .i64 x25.2.1, .int .i64 x25.2.2.1, .int .i64 x25.2.2.2.1, .int .i64 x25.2.2.2.2.1, .int .i64 x25.2.2.2.2.2.1]] w24 false [(false, [.s])] fun r26 w27 =>
brB (r20.2.1.1 != 0) (
R ((false, ()), ()) w27) (
brB (Op.bytesLess r26.1.1.toList z18.1.toList || (r26.1.1.toList == z18.1.toList)) (
R ((false, ()), ()) w27) (
brB ((r26.1.1.size : Int) != 20) (
R ((false, ()), ()) w27) (
CutT (fun (J28 : ((Int) × Unit) → World → Prop) =>
brB (decide (z18.2.1 ≥ 0)) (
J28 (z18.2.1, ()) w27) (
J28 (IntKind.wrap .i64 ((IntKind.wrap .i64 (60 + z18.2.1)) + r15.1.1), ()) w27)) (fun (z29 : (Int) × Unit) w30 => ∀ _ : Nat → Value,
ld1 (.i .i64) (p22.add 5) w30 fun x31 =>
brB (x31 != z29.1) (
R ((false, ()), ()) w30) (
ld1 (.i .i64) (p22.add 3) w30 fun x32 =>
brB (x32 == 23) (
ld1 (.i .i64) (p22.add 4) w30 fun x33 =>
brB (!((decide (z18.2.1 < 0)) == (x33 == 59))) (
R ((false, ()), ()) w30) (
self17 (r26.1.1, IntKind.wrap .i64 (z18.2.1 + 1), ()) w30)) (
brB (!((decide (z18.2.1 < 0)) == false)) (
R ((false, ()), ()) w30) (
self17 (r26.1.1, IntKind.wrap .i64 (z18.2.1 + 1), ()) w30)))))))) (
R ((true, ()), ()) w19)) (⟨#[]⟩, (Int.negSucc 2), ()) w16)))))
set_option maxRecDepth 100000 in
theorem law22_UtcLeaps.eq (m0 : Int) (m1 : Int) (m2 : Int) (m3 : Option Addr × Nat × Nat) (day : Int) (w : World) (R : Value → World → Prop) : wpF Try.prog Try.f5 (.s .n (.s .n (.s .n (.s .n (.s .n (.s .n (.s .n (.s .n (.s (.s .n (.lp [(9, .s), (10, (.i .i64))] (.s .n (.s (.s .n (.s .n (.s .n (.s .n (.s .n (.ct [(14, (.i .i64))] .n .n)))))) .n)))) .n))))))))) [.agg #[.int .i64 m0, .int .i64 m1, .int .i64 m2, .slice m3.1 m3.2.1 m3.2.2], .int .i64 day] w R = law22_UtcLeaps.wp m0 m1 m2 m3 day w (fun r w => R (encR false [(false, [.b])] r) w) := by kernel_rfl
set_option maxRecDepth 100000 in
theorem law22_UtcLeaps.ok {m0 : Int} {m1 : Int} {m2 : Int} {m3 : Option Addr × Nat × Nat} {day : Int} {w : World} {R : TR [(false, [.b])] → World → Prop} (h : law22_UtcLeaps.wp m0 m1 m2 m3 day w R) : clS Try.prog F.law22_UtcLeaps [.agg #[.int .i64 m0, .int .i64 m1, .int .i64 m2, .slice m3.1 m3.2.1 m3.2.2], .int .i64 day] w false [(false, [.b])] R :=
  ok_of Try_follows Try.func5 (fun R => law22_UtcLeaps.wp m0 m1 m2 m3 day w R) (law22_UtcLeaps.eq m0 m1 m2 m3 day w) rfl h
/-! ### law22_UtcOrder -/
set_option maxRecDepth 100000 in
def law22_UtcOrder.wp (m0 : Int) (m1 : Int) (m2 : Int) (m3 : Option Addr × Nat × Nat) (a : Int) (b : Int) (w : World) (R : TR [(false, [.b])] → World → Prop) : Prop :=
alK [.int .i64 m0, .int .i64 m1, .int .i64 m2, .slice m3.1 m3.2.1 m3.2.2] T.ref21_Table w fun p1 w2 =>
clS Try.prog F.law22_alive [] w2 false [(false, [.b])] fun r3 w4 =>
brB (!r3.1.1) (
R ((false, ()), ()) w4) (
ld1 .sl (p1.add 3) w4 fun x5 =>
brB (decide ((x5.2.1 : Int) > 64)) (
R ((true, ()), ()) w4) (
ldN [(.i .i64), (.i .i64), (.i .i64), .sl] p1 0 w4 fun x6 =>
clS Try.prog F.law22_made [.agg #[.int .i64 x6.1, .int .i64 x6.2.1, .int .i64 x6.2.2.1, .slice x6.2.2.2.1.1 x6.2.2.2.1.2.1 x6.2.2.2.1.2.2]] w4 true [(false, [.p]), (false, [.b])] fun r7 w8 =>
brB (!r7.2.1.1) (
R (((Option.isNone r7.1.1), ()), ()) w8) (
clS Try.prog F.utc_Of [.pointer r7.1.1, .int .i64 a] w8 true [(true, [(.i .i64), (.i .i64), (.i .i64), (.i .i64), (.i .i64), (.i .i64)]), (false, [(.i .i64)])] fun r9 w10 =>
alK [.int .i64 0, .int .i64 0, .int .i64 0, .int .i64 0, .int .i64 0, .int .i64 0] T.utc_Utc w10 fun p11 w12 =>
stN [.int .i64 r9.1.1, .int .i64 r9.1.2.1, .int .i64 r9.1.2.2.1, .int .i64 r9.1.2.2.2.1, .int .i64 r9.1.2.2.2.2.1, .int .i64 r9.1.2.2.2.2.2.1] p11 0 w12 fun w13 =>
clS Try.prog F.utc_Of [.pointer r7.1.1, .int .i64 b] w13 true [(true, [(.i .i64), (.i .i64), (.i .i64), (.i .i64), (.i .i64), (.i .i64)]), (false, [(.i .i64)])] fun r14 w15 =>
alK [.int .i64 0, .int .i64 0, .int .i64 0, .int .i64 0, .int .i64 0, .int .i64 0] T.utc_Utc w15 fun p16 w17 =>
stN [.int .i64 r14.1.1, .int .i64 r14.1.2.1, .int .i64 r14.1.2.2.1, .int .i64 r14.1.2.2.2.1, .int .i64 r14.1.2.2.2.2.1, .int .i64 r14.1.2.2.2.2.2.1] p16 0 w17 fun w18 =>
CutT (fun (J19 : ((Bool) × Unit) → World → Prop) =>
brB (r9.2.1.1 != 0) (
J19 (true, ()) w18) (
J19 ((r14.2.1.1 != 0), ()) w18)) (fun (z20 : (Bool) × Unit) w21 => ∀ _ : Nat → Value,
brB z20.1 (
brB (r9.2.1.1 == 0) (
R ((true, ()), ()) w21) (
R (((r9.2.1.1 == 11), ()), ()) w21)) (
drK w21 fun w22 =>
ldN [(.i .i64), (.i .i64), (.i .i64), (.i .i64), (.i .i64), (.i .i64)] p11 0 w22 fun x23 =>
ldN [(.i .i64), (.i .i64), (.i .i64), (.i .i64), (.i .i64), (.i .i64)] p16 0 w22 fun x24 =>
clS Try.prog F.utc_Utc_Text [.agg #[.int .i64 x23.1, .int .i64 x23.2.1, .int .i64 x23.2.2.1, .int .i64 x23.2.2.2.1, .int .i64 x23.2.2.2.2.1, .int .i64 x23.2.2.2.2.2.1]] w22 false [(false, [.s])] fun r25 w26 =>
Hold [(2, (p16.add 0), (w22.cell? (p16.add 0)).getD undef), (2, (p16.add 1), (w22.cell? (p16.add 1)).getD undef), (2, (p16.add 2), (w22.cell? (p16.add 2)).getD undef), (2, (p16.add 3), (w22.cell? (p16.add 3)).getD undef), (2, (p16.add 4), (w22.cell? (p16.add 4)).getD undef), (2, (p16.add 5), (w22.cell? (p16.add 5)).getD undef), (0, (p11.add 0), (w22.cell? (p11.add 0)).getD undef), (0, (p11.add 1), (w22.cell? (p11.add 1)).getD undef), (0, (p11.add 2), (w22.cell? (p11.add 2)).getD undef), (0, (p11.add 3), (w22.cell? (p11.add 3)).getD undef), (0, (p11.add 4), (w22.cell? (p11.add 4)).getD undef), (0, (p11.add 5), (w22.cell? (p11.add 5)).getD undef)] w26 ∧ (
clS Try.prog F.utc_Utc_Text [.agg #[.int .i64 x24.1, .int .i64 x24.2.1, .int .i64 x24.2.2.1, .int .i64 x24.2.2.2.1, .int .i64 x24.2.2.2.2.1, .int .i64 x24.2.2.2.2.2.1]] w26 false [(false, [.s])] fun r27 w28 =>
Hold [(0, (p11.add 0), (w22.cell? (p11.add 0)).getD undef), (0, (p11.add 1), (w22.cell? (p11.add 1)).getD undef), (0, (p11.add 2), (w22.cell? (p11.add 2)).getD undef), (0, (p11.add 3), (w22.cell? (p11.add 3)).getD undef), (0, (p11.add 4), (w22.cell? (p11.add 4)).getD undef), (0, (p11.add 5), (w22.cell? (p11.add 5)).getD undef)] w28 ∧ (
brB ((Op.bytesLess r25.1.1.toList r27.1.1.toList) == (decide (a < b))) (
ldN [(.i .i64), (.i .i64), (.i .i64), (.i .i64), (.i .i64), (.i .i64)] p11 0 w28 fun x29 =>
ldN [(.i .i64), (.i .i64), (.i .i64), (.i .i64), (.i .i64), (.i .i64)] p16 0 w28 fun x30 =>
R ((((((x29.1 == x30.1) && ((x29.2.1 == x30.2.1) && ((x29.2.2.1 == x30.2.2.1) && true))) && ((x29.2.2.2.1 == x30.2.2.2.1) && ((x29.2.2.2.2.1 == x30.2.2.2.2.1) && ((x29.2.2.2.2.2.1 == x30.2.2.2.2.2.1) && true)))) == (a == b)), ()), ()) w28) (
R ((false, ()), ()) w28))))))))
set_option maxRecDepth 100000 in
theorem law22_UtcOrder.eq (m0 : Int) (m1 : Int) (m2 : Int) (m3 : Option Addr × Nat × Nat) (a : Int) (b : Int) (w : World) (R : Value → World → Prop) : wpF Try.prog Try.f6 (.s .n (.s .n (.s .n (.s .n (.s .n (.s .n (.s .n (.s (.ct [(45, .b)] .n .n) (.s (.pl (.tk 0 (.tk 2 (.tk 5 (.tk 6 (.tk 7 (.ef 1 [] (.ef 3 [2] (.tk 4 (.tk 8 (.tk 9 (.tk 10 (.tk 11 (.tk 12 (.tk 13 (.tk 14 (.tk 15 (.tk 16 (.tk 17 (.tk 18 .z)))))))))))))))))))) .n))))))))) [.agg #[.int .i64 m0, .int .i64 m1, .int .i64 m2, .slice m3.1 m3.2.1 m3.2.2], .int .i64 a, .int .i64 b] w R = law22_UtcOrder.wp m0 m1 m2 m3 a b w (fun r w => R (encR false [(false, [.b])] r) w) := by kernel_rfl
set_option maxRecDepth 100000 in
theorem law22_UtcOrder.ok {m0 : Int} {m1 : Int} {m2 : Int} {m3 : Option Addr × Nat × Nat} {a : Int} {b : Int} {w : World} {R : TR [(false, [.b])] → World → Prop} (h : law22_UtcOrder.wp m0 m1 m2 m3 a b w R) : clS Try.prog F.law22_UtcOrder [.agg #[.int .i64 m0, .int .i64 m1, .int .i64 m2, .slice m3.1 m3.2.1 m3.2.2], .int .i64 a, .int .i64 b] w false [(false, [.b])] R :=
  ok_of Try_follows Try.func6 (fun R => law22_UtcOrder.wp m0 m1 m2 m3 a b w R) (law22_UtcOrder.eq m0 m1 m2 m3 a b w) rfl h
/-! ### law22_UtcDays -/
set_option maxRecDepth 100000 in
def law22_UtcDays.wp (m0 : Int) (m1 : Int) (m2 : Int) (m3 : Option Addr × Nat × Nat) (day : Int) (w : World) (R : TR [(false, [.b])] → World → Prop) : Prop :=
alK [.int .i64 m0, .int .i64 m1, .int .i64 m2, .slice m3.1 m3.2.1 m3.2.2] T.ref21_Table w fun p1 w2 =>
clS Try.prog F.law22_alive [] w2 false [(false, [.b])] fun r3 w4 =>
brB (!r3.1.1) (
R ((false, ()), ()) w4) (
ld1 .sl (p1.add 3) w4 fun x5 =>
brB (decide ((x5.2.1 : Int) > 64)) (
R ((true, ()), ()) w4) (
ldN [(.i .i64), (.i .i64), (.i .i64), .sl] p1 0 w4 fun x6 =>
clS Try.prog F.law22_made [.agg #[.int .i64 x6.1, .int .i64 x6.2.1, .int .i64 x6.2.2.1, .slice x6.2.2.2.1.1 x6.2.2.2.1.2.1 x6.2.2.2.1.2.2]] w4 true [(false, [.p]), (false, [.b])] fun r7 w8 =>
brB (!r7.2.1.1) (
R ((true, ()), ()) w8) (
ld1 (.i .i64) p1 w8 fun x9 =>
brB (decide (day < x9)) (
R ((true, ()), ()) w8) (
ld1 (.i .i64) (p1.add 2) w8 fun x10 =>
brB (decide (day ≥ (IntKind.wrap .i64 (x10 - 1)))) (
R ((true, ()), ()) w8) (
clS Try.prog F.civil_Of [.int .i64 day] w8 true [(true, [(.i .i64), (.i .i64), (.i .i64)]), (false, [.b])] fun r11 w12 =>
alK [.int .i64 0, .int .i64 0, .int .i64 0] T.civil_Date w12 fun p13 w14 =>
stN [.int .i64 r11.1.1, .int .i64 r11.1.2.1, .int .i64 r11.1.2.2.1] p13 0 w14 fun w15 =>
clS Try.prog F.civil_Of [.int .i64 (IntKind.wrap .i64 (day + 1))] w15 true [(true, [(.i .i64), (.i .i64), (.i .i64)]), (false, [.b])] fun r16 w17 =>
alK [.int .i64 0, .int .i64 0, .int .i64 0] T.civil_Date w17 fun p18 w19 =>
stN [.int .i64 r16.1.1, .int .i64 r16.1.2.1, .int .i64 r16.1.2.2.1] p18 0 w19 fun w20 =>
ldN [(.i .i64), (.i .i64), (.i .i64)] p13 0 w20 fun x21 =>
clS Try.prog F.utc_Tai [.pointer r7.1.1, .agg #[.int .i64 x21.1, .int .i64 x21.2.1, .int .i64 x21.2.2.1, .int .i64 0, .int .i64 0, .int .i64 0]] w20 true [(false, [(.i .i64)]), (false, [(.i .i64)])] fun r22 w23 =>
ldN [(.i .i64), (.i .i64), (.i .i64)] p18 0 w23 fun x24 =>
clS Try.prog F.utc_Tai [.pointer r7.1.1, .agg #[.int .i64 x24.1, .int .i64 x24.2.1, .int .i64 x24.2.2.1, .int .i64 0, .int .i64 0, .int .i64 0]] w23 true [(false, [(.i .i64)]), (false, [(.i .i64)])] fun r25 w26 =>
brB r11.2.1.1 (
brB r16.2.1.1 (
brB (r22.2.1.1 == 0) (
brB (r25.2.1.1 == 0) (
ldN [(.i .i64), (.i .i64), (.i .i64), .sl] p1 0 w26 fun x27 =>
clS Try.prog F.ref21_Step [.agg #[.int .i64 x27.1, .int .i64 x27.2.1, .int .i64 x27.2.2.1, .slice x27.2.2.2.1.1 x27.2.2.2.1.2.1 x27.2.2.2.1.2.2], .int .i64 day] w26 false [(false, [(.i .i64)])] fun r28 w29 =>
R ((((IntKind.wrap .i64 (r25.1.1 - r22.1.1)) == (IntKind.wrap .i64 (86400 + r28.1.1))), ()), ()) w29) (
R ((false, ()), ()) w26)) (
R ((false, ()), ()) w26)) (
R ((false, ()), ()) w26)) (
R ((false, ()), ()) w26))))))
set_option maxRecDepth 100000 in
theorem law22_UtcDays.eq (m0 : Int) (m1 : Int) (m2 : Int) (m3 : Option Addr × Nat × Nat) (day : Int) (w : World) (R : Value → World → Prop) : wpF Try.prog Try.f7 .n [.agg #[.int .i64 m0, .int .i64 m1, .int .i64 m2, .slice m3.1 m3.2.1 m3.2.2], .int .i64 day] w R = law22_UtcDays.wp m0 m1 m2 m3 day w (fun r w => R (encR false [(false, [.b])] r) w) := by kernel_rfl
set_option maxRecDepth 100000 in
theorem law22_UtcDays.ok {m0 : Int} {m1 : Int} {m2 : Int} {m3 : Option Addr × Nat × Nat} {day : Int} {w : World} {R : TR [(false, [.b])] → World → Prop} (h : law22_UtcDays.wp m0 m1 m2 m3 day w R) : clS Try.prog F.law22_UtcDays [.agg #[.int .i64 m0, .int .i64 m1, .int .i64 m2, .slice m3.1 m3.2.1 m3.2.2], .int .i64 day] w false [(false, [.b])] R :=
  ok_of Try_follows Try.func7 (fun R => law22_UtcDays.wp m0 m1 m2 m3 day w R) (law22_UtcDays.eq m0 m1 m2 m3 day w) rfl h
/-! ### law22_UtcTexts -/
set_option maxRecDepth 100000 in
def law22_UtcTexts.wp (u0 : Int) (u1 : Int) (u2 : Int) (u3 : Int) (u4 : Int) (u5 : Int) (s : ByteArray) (w : World) (R : TR [(false, [.b])] → World → Prop) : Prop :=
alK [.int .i64 u0, .int .i64 u1, .int .i64 u2, .int .i64 u3, .int .i64 u4, .int .i64 u5] T.ref22_Utc w fun p1 w2 =>
clS Try.prog F.law22_alive [] w2 false [(false, [.b])] fun r3 w4 =>
brB (!r3.1.1) (
R ((false, ()), ()) w4) (
brB (decide ((s.size : Int) > 1000)) (
R ((true, ()), ()) w4) (
ldN [(.i .i64), (.i .i64), (.i .i64), (.i .i64), (.i .i64), (.i .i64)] p1 0 w4 fun x5 =>
clS Try.prog F.law22_of [.agg #[.int .i64 x5.1, .int .i64 x5.2.1, .int .i64 x5.2.2.1, .int .i64 x5.2.2.2.1, .int .i64 x5.2.2.2.2.1, .int .i64 x5.2.2.2.2.2.1]] w4 false [(true, [(.i .i64), (.i .i64), (.i .i64), (.i .i64), (.i .i64), (.i .i64)])] fun r6 w7 =>
alK [.int .i64 0, .int .i64 0, .int .i64 0, .int .i64 0, .int .i64 0, .int .i64 0] T.utc_Utc w7 fun p8 w9 =>
stN [.int .i64 r6.1.1, .int .i64 r6.1.2.1, .int .i64 r6.1.2.2.1, .int .i64 r6.1.2.2.2.1, .int .i64 r6.1.2.2.2.2.1, .int .i64 r6.1.2.2.2.2.2.1] p8 0 w9 fun w10 =>
drK w10 fun w11 =>
ldN [(.i .i64), (.i .i64), (.i .i64), (.i .i64), (.i .i64), (.i .i64)] p8 0 w11 fun x12 =>
ldN [(.i .i64), (.i .i64), (.i .i64), (.i .i64), (.i .i64), (.i .i64)] p1 0 w11 fun x13 =>
clS Try.prog F.utc_Utc_Good [.agg #[.int .i64 x12.1, .int .i64 x12.2.1, .int .i64 x12.2.2.1, .int .i64 x12.2.2.2.1, .int .i64 x12.2.2.2.2.1, .int .i64 x12.2.2.2.2.2.1]] w11 false [(false, [.b])] fun r14 w15 =>
Hold [(2, (p1.add 0), (w11.cell? (p1.add 0)).getD undef), (2, (p1.add 1), (w11.cell? (p1.add 1)).getD undef), (2, (p1.add 2), (w11.cell? (p1.add 2)).getD undef), (2, (p1.add 3), (w11.cell? (p1.add 3)).getD undef), (2, (p1.add 4), (w11.cell? (p1.add 4)).getD undef), (2, (p1.add 5), (w11.cell? (p1.add 5)).getD undef), (0, (p8.add 0), (w11.cell? (p8.add 0)).getD undef), (0, (p8.add 1), (w11.cell? (p8.add 1)).getD undef), (0, (p8.add 2), (w11.cell? (p8.add 2)).getD undef), (0, (p8.add 3), (w11.cell? (p8.add 3)).getD undef), (0, (p8.add 4), (w11.cell? (p8.add 4)).getD undef), (0, (p8.add 5), (w11.cell? (p8.add 5)).getD undef)] w15 ∧ (
clS Try.prog F.ref22_Good [.agg #[.int .i64 x13.1, .int .i64 x13.2.1, .int .i64 x13.2.2.1, .int .i64 x13.2.2.2.1, .int .i64 x13.2.2.2.2.1, .int .i64 x13.2.2.2.2.2.1]] w15 false [(false, [.b])] fun r16 w17 =>
Hold [(2, (p1.add 0), (w11.cell? (p1.add 0)).getD undef), (2, (p1.add 1), (w11.cell? (p1.add 1)).getD undef), (2, (p1.add 2), (w11.cell? (p1.add 2)).getD undef), (2, (p1.add 3), (w11.cell? (p1.add 3)).getD undef), (2, (p1.add 4), (w11.cell? (p1.add 4)).getD undef), (2, (p1.add 5), (w11.cell? (p1.add 5)).getD undef), (0, (p8.add 0), (w11.cell? (p8.add 0)).getD undef), (0, (p8.add 1), (w11.cell? (p8.add 1)).getD undef), (0, (p8.add 2), (w11.cell? (p8.add 2)).getD undef), (0, (p8.add 3), (w11.cell? (p8.add 3)).getD undef), (0, (p8.add 4), (w11.cell? (p8.add 4)).getD undef), (0, (p8.add 5), (w11.cell? (p8.add 5)).getD undef)] w17 ∧ (
brB (!(r14.1.1 == r16.1.1)) (
R ((false, ()), ()) w17) (
ldN [(.i .i64), (.i .i64), (.i .i64), (.i .i64), (.i .i64), (.i .i64)] p8 0 w17 fun x18 =>
ldN [(.i .i64), (.i .i64), (.i .i64), (.i .i64), (.i .i64), (.i .i64)] p1 0 w17 fun x19 =>
clS Try.prog F.utc_Utc_Text [.agg #[.int .i64 x18.1, .int .i64 x18.2.1, .int .i64 x18.2.2.1, .int .i64 x18.2.2.2.1, .int .i64 x18.2.2.2.2.1, .int .i64 x18.2.2.2.2.2.1]] w17 false [(false, [.s])] fun r20 w21 =>
Hold [(8, (p1.add 0), (w17.cell? (p1.add 0)).getD undef), (8, (p1.add 1), (w17.cell? (p1.add 1)).getD undef), (8, (p1.add 2), (w17.cell? (p1.add 2)).getD undef), (8, (p1.add 3), (w17.cell? (p1.add 3)).getD undef), (8, (p1.add 4), (w17.cell? (p1.add 4)).getD undef), (8, (p1.add 5), (w17.cell? (p1.add 5)).getD undef), (6, (p8.add 0), (w17.cell? (p8.add 0)).getD undef), (6, (p8.add 1), (w17.cell? (p8.add 1)).getD undef), (6, (p8.add 2), (w17.cell? (p8.add 2)).getD undef), (6, (p8.add 3), (w17.cell? (p8.add 3)).getD undef), (6, (p8.add 4), (w17.cell? (p8.add 4)).getD undef), (6, (p8.add 5), (w17.cell? (p8.add 5)).getD undef), (2, (p1.add 0), (w11.cell? (p1.add 0)).getD undef), (2, (p1.add 1), (w11.cell? (p1.add 1)).getD undef), (2, (p1.add 2), (w11.cell? (p1.add 2)).getD undef), (2, (p1.add 3), (w11.cell? (p1.add 3)).getD undef), (2, (p1.add 4), (w11.cell? (p1.add 4)).getD undef), (2, (p1.add 5), (w11.cell? (p1.add 5)).getD undef), (0, (p8.add 0), (w11.cell? (p8.add 0)).getD undef), (0, (p8.add 1), (w11.cell? (p8.add 1)).getD undef), (0, (p8.add 2), (w11.cell? (p8.add 2)).getD undef), (0, (p8.add 3), (w11.cell? (p8.add 3)).getD undef), (0, (p8.add 4), (w11.cell? (p8.add 4)).getD undef), (0, (p8.add 5), (w11.cell? (p8.add 5)).getD undef)] w21 ∧ (
clS Try.prog F.ref22_Text [.agg #[.int .i64 x19.1, .int .i64 x19.2.1, .int .i64 x19.2.2.1, .int .i64 x19.2.2.2.1, .int .i64 x19.2.2.2.2.1, .int .i64 x19.2.2.2.2.2.1]] w21 false [(false, [.s])] fun r22 w23 =>
Hold [(6, (p8.add 0), (w17.cell? (p8.add 0)).getD undef), (6, (p8.add 1), (w17.cell? (p8.add 1)).getD undef), (6, (p8.add 2), (w17.cell? (p8.add 2)).getD undef), (6, (p8.add 3), (w17.cell? (p8.add 3)).getD undef), (6, (p8.add 4), (w17.cell? (p8.add 4)).getD undef), (6, (p8.add 5), (w17.cell? (p8.add 5)).getD undef), (2, (p1.add 0), (w11.cell? (p1.add 0)).getD undef), (2, (p1.add 1), (w11.cell? (p1.add 1)).getD undef), (2, (p1.add 2), (w11.cell? (p1.add 2)).getD undef), (2, (p1.add 3), (w11.cell? (p1.add 3)).getD undef), (2, (p1.add 4), (w11.cell? (p1.add 4)).getD undef), (2, (p1.add 5), (w11.cell? (p1.add 5)).getD undef), (0, (p8.add 0), (w11.cell? (p8.add 0)).getD undef), (0, (p8.add 1), (w11.cell? (p8.add 1)).getD undef), (0, (p8.add 2), (w11.cell? (p8.add 2)).getD undef), (0, (p8.add 3), (w11.cell? (p8.add 3)).getD undef), (0, (p8.add 4), (w11.cell? (p8.add 4)).getD undef), (0, (p8.add 5), (w11.cell? (p8.add 5)).getD undef)] w23 ∧ (
brB (!(r20.1.1 == r22.1.1)) (
R ((false, ()), ()) w23) (
CutT (fun (J24 : Unit → World → Prop) =>
ldN [(.i .i64), (.i .i64), (.i .i64), (.i .i64), (.i .i64), (.i .i64)] p8 0 w23 fun x27 =>
clS Try.prog F.utc_Utc_Good [.agg #[.int .i64 x27.1, .int .i64 x27.2.1, .int .i64 x27.2.2.1, .int .i64 x27.2.2.2.1, .int .i64 x27.2.2.2.2.1, .int .i64 x27.2.2.2.2.2.1]] w23 false [(false, [.b])] fun r28 w29 =>
brB r28.1.1 (
ldN [(.i .i64), (.i .i64), (.i .i64), (.i .i64), (.i .i64), (.i .i64)] p8 0 w29 fun x30 =>
clS Try.prog F.utc_Utc_Text [.agg #[.int .i64 x30.1, .int .i64 x30.2.1, .int .i64 x30.2.2.1, .int .i64 x30.2.2.2.1, .int .i64 x30.2.2.2.2.1, .int .i64 x30.2.2.2.2.2.1]] w29 false [(false, [.s])] fun r31 w32 =>
clS Try.prog F.utc_Parse [.string r31.1.1] w32 true [(true, [(.i .i64), (.i .i64), (.i .i64), (.i .i64), (.i .i64), (.i .i64)]), (false, [.b])] fun r33 w34 =>
alK [.int .i64 0, .int .i64 0, .int .i64 0, .int .i64 0, .int .i64 0, .int .i64 0] T.utc_Utc w34 fun p35 w36 =>
stN [.int .i64 r33.1.1, .int .i64 r33.1.2.1, .int .i64 r33.1.2.2.1, .int .i64 r33.1.2.2.2.1, .int .i64 r33.1.2.2.2.2.1, .int .i64 r33.1.2.2.2.2.2.1] p35 0 w36 fun w37 =>
brB (!r33.2.1.1) (
R ((false, ()), ()) w37) (
ldN [(.i .i64), (.i .i64), (.i .i64), (.i .i64), (.i .i64), (.i .i64)] p35 0 w37 fun x38 =>
ldN [(.i .i64), (.i .i64), (.i .i64), (.i .i64), (.i .i64), (.i .i64)] p8 0 w37 fun x39 =>
brB (!(((x38.1 == x39.1) && ((x38.2.1 == x39.2.1) && ((x38.2.2.1 == x39.2.2.1) && true))) && ((x38.2.2.2.1 == x39.2.2.2.1) && ((x38.2.2.2.2.1 == x39.2.2.2.2.1) && ((x38.2.2.2.2.2.1 == x39.2.2.2.2.2.1) && true))))) (
R ((false, ()), ()) w37) (
J24 (()) w37))) (
J24 (()) w29)) (fun (z25 : Unit) w26 => ∀ _ : Nat → Value,
clS Try.prog F.utc_Parse [.string s] w26 true [(true, [(.i .i64), (.i .i64), (.i .i64), (.i .i64), (.i .i64), (.i .i64)]), (false, [.b])] fun r40 w41 =>
alK [.int .i64 0, .int .i64 0, .int .i64 0, .int .i64 0, .int .i64 0, .int .i64 0] T.utc_Utc w41 fun p42 w43 =>
stN [.int .i64 r40.1.1, .int .i64 r40.1.2.1, .int .i64 r40.1.2.2.1, .int .i64 r40.1.2.2.2.1, .int .i64 r40.1.2.2.2.2.1, .int .i64 r40.1.2.2.2.2.2.1] p42 0 w43 fun w44 =>
clS Try.prog F.ref22_Parse [.string s] w44 true [(true, [(.i .i64), (.i .i64), (.i .i64), (.i .i64), (.i .i64), (.i .i64)]), (false, [.b])] fun r45 w46 =>
alK [.int .i64 0, .int .i64 0, .int .i64 0, .int .i64 0, .int .i64 0, .int .i64 0] T.ref22_Utc w46 fun p47 w48 =>
stN [.int .i64 r45.1.1, .int .i64 r45.1.2.1, .int .i64 r45.1.2.2.1, .int .i64 r45.1.2.2.2.1, .int .i64 r45.1.2.2.2.2.1, .int .i64 r45.1.2.2.2.2.2.1] p47 0 w48 fun w49 =>
drK w49 fun w50 =>
ldN [(.i .i64), (.i .i64), (.i .i64), (.i .i64), (.i .i64), (.i .i64)] p42 0 w50 fun x51 =>
ldN [(.i .i64), (.i .i64), (.i .i64), (.i .i64), (.i .i64), (.i .i64)] p47 0 w50 fun x52 =>
clS Try.prog F.law22_plain [.agg #[.int .i64 x51.1, .int .i64 x51.2.1, .int .i64 x51.2.2.1, .int .i64 x51.2.2.2.1, .int .i64 x51.2.2.2.2.1, .int .i64 x51.2.2.2.2.2.1]] w50 false [(true, [(.i .i64), (.i .i64), (.i .i64), (.i .i64), (.i .i64), (.i .i64)])] fun r53 w54 =>
Hold [(2, (p47.add 0), (w50.cell? (p47.add 0)).getD undef), (2, (p47.add 1), (w50.cell? (p47.add 1)).getD undef), (2, (p47.add 2), (w50.cell? (p47.add 2)).getD undef), (2, (p47.add 3), (w50.cell? (p47.add 3)).getD undef), (2, (p47.add 4), (w50.cell? (p47.add 4)).getD undef), (2, (p47.add 5), (w50.cell? (p47.add 5)).getD undef), (0, (p42.add 0), (w50.cell? (p42.add 0)).getD undef), (0, (p42.add 1), (w50.cell? (p42.add 1)).getD undef), (0, (p42.add 2), (w50.cell? (p42.add 2)).getD undef), (0, (p42.add 3), (w50.cell? (p42.add 3)).getD undef), (0, (p42.add 4), (w50.cell? (p42.add 4)).getD undef), (0, (p42.add 5), (w50.cell? (p42.add 5)).getD undef)] w54 ∧ (
brB (((r53.1.1 == x52.1) && ((r53.1.2.1 == x52.2.1) && ((r53.1.2.2.1 == x52.2.2.1) && true))) && ((r53.1.2.2.2.1 == x52.2.2.2.1) && ((r53.1.2.2.2.2.1 == x52.2.2.2.2.1) && ((r53.1.2.2.2.2.2.1 == x52.2.2.2.2.2.1) && true)))) (
brB (r40.2.1.1 == r45.2.1.1) (
brB (!r40.2.1.1) (
R ((true, ()), ()) w54) (
ldN [(.i .i64), (.i .i64), (.i .i64), (.i .i64), (.i .i64), (.i .i64)] p42 0 w54 fun x55 =>
clS Try.prog F.utc_Utc_Text [.agg #[.int .i64 x55.1, .int .i64 x55.2.1, .int .i64 x55.2.2.1, .int .i64 x55.2.2.2.1, .int .i64 x55.2.2.2.2.1, .int .i64 x55.2.2.2.2.2.1]] w54 false [(false, [.s])] fun r56 w57 =>
Hold [(2, (p47.add 0), (w50.cell? (p47.add 0)).getD undef), (2, (p47.add 1), (w50.cell? (p47.add 1)).getD undef), (2, (p47.add 2), (w50.cell? (p47.add 2)).getD undef), (2, (p47.add 3), (w50.cell? (p47.add 3)).getD undef), (2, (p47.add 4), (w50.cell? (p47.add 4)).getD undef), (2, (p47.add 5), (w50.cell? (p47.add 5)).getD undef), (0, (p42.add 0), (w50.cell? (p42.add 0)).getD undef), (0, (p42.add 1), (w50.cell? (p42.add 1)).getD undef), (0, (p42.add 2), (w50.cell? (p42.add 2)).getD undef), (0, (p42.add 3), (w50.cell? (p42.add 3)).getD undef), (0, (p42.add 4), (w50.cell? (p42.add 4)).getD undef), (0, (p42.add 5), (w50.cell? (p42.add 5)).getD undef)] w57 ∧ (
R (((r56.1.1 == s), ()), ()) w57))) (
R ((false, ()), ()) w54)) (
R ((false, ()), ()) w54)))))))))))
set_option maxRecDepth 100000 in
theorem law22_UtcTexts.eq (u0 : Int) (u1 : Int) (u2 : Int) (u3 : Int) (u4 : Int) (u5 : Int) (s : ByteArray) (w : World) (R : Value → World → Prop) : wpF Try.prog Try.f8 (.s .n (.s .n (.s .n (.s .n (.s (.s (.pl (.tk 0 (.tk 2 (.ef 1 [] (.ef 3 [] (.tk 4 (.tk 5 (.tk 6 (.tk 8 (.ef 7 [] (.ef 9 [8] (.tk 10 (.tk 11 .z))))))))))))) .n) (.ct [] .n (.s .n (.s .n (.s (.pl (.tk 0 (.tk 2 (.ef 1 [] (.tk 3 (.tk 4 (.tk 5 (.tk 6 (.tk 7 (.tk 8 (.tk 9 (.tk 10 (.tk 11 (.tk 12 (.tk 13 (.tk 15 (.ef 14 [13] (.tk 16 (.tk 17 (.tk 18 (.tk 19 .z))))))))))))))))))))) .n))))))))) [.agg #[.int .i64 u0, .int .i64 u1, .int .i64 u2, .int .i64 u3, .int .i64 u4, .int .i64 u5], .string s] w R = law22_UtcTexts.wp u0 u1 u2 u3 u4 u5 s w (fun r w => R (encR false [(false, [.b])] r) w) := by kernel_rfl
set_option maxRecDepth 100000 in
theorem law22_UtcTexts.ok {u0 : Int} {u1 : Int} {u2 : Int} {u3 : Int} {u4 : Int} {u5 : Int} {s : ByteArray} {w : World} {R : TR [(false, [.b])] → World → Prop} (h : law22_UtcTexts.wp u0 u1 u2 u3 u4 u5 s w R) : clS Try.prog F.law22_UtcTexts [.agg #[.int .i64 u0, .int .i64 u1, .int .i64 u2, .int .i64 u3, .int .i64 u4, .int .i64 u5], .string s] w false [(false, [.b])] R :=
  ok_of Try_follows Try.func8 (fun R => law22_UtcTexts.wp u0 u1 u2 u3 u4 u5 s w R) (law22_UtcTexts.eq u0 u1 u2 u3 u4 u5 s w) rfl h
end Go.Proofs.Ytimdngcmbmamdaa
