import Derived.Test.YtimdngcmbmamdaaNm
namespace Go.Proofs.Ytimdngcmbmamdaa
open Go.Eng
set_option linter.unusedVariables false
/-! ### law23_AnchorBack -/
set_option maxRecDepth 100000 in
def law23_AnchorBack.wp (m0 : Int) (m1 : Int) (m2 : Int) (m3 : Option Addr × Nat × Nat) (w_0 : Int) (w_1 : Int) (w_2 : Int) (w_3 : Int) (w_4 : Int) (w_5 : Int) (w_6 : Int) (w_7 : Int) (w_8 : Int) (w_9 : Int) (w_10 : Int) (w_11 : Int) (w_12 : Int) (w_13 : Int) (time : Int) (w : World) (R : TR [(false, [.b])] → World → Prop) : Prop :=
alK [.int .i64 m0, .int .i64 m1, .int .i64 m2, .slice m3.1 m3.2.1 m3.2.2] T.ref21_Table w fun p1 w2 =>
alK [.int .i64 w_0, .int .i64 w_1, .int .i64 w_2, .int .i64 w_3, .int .u16 w_4, .int .u16 w_5, .int .i64 w_6, .int .i64 w_7, .int .i64 w_8, .int .i64 w_9, .int .i64 w_10, .int .i64 w_11, .int .i64 w_12, .int .i64 w_13] T.ref05_Plain w2 fun p3 w4 =>
clS Try.prog F.law23_alive [] w4 false [(false, [.b])] fun r5 w6 =>
brB (!r5.1.1) (
R ((false, ()), ()) w6) (
stN [.int .i64 6] p3 0 w6 fun w7 =>
ld1 .sl (p1.add 3) w7 fun x8 =>
brB (decide ((x8.2.1 : Int) > 64)) (
R ((true, ()), ()) w7) (
ldN [(.i .i64), (.i .i64), (.i .i64), (.i .i64), (.i .u16), (.i .u16), (.i .i64), (.i .i64), (.i .i64), (.i .i64), (.i .i64), (.i .i64), (.i .i64), (.i .i64)] p3 0 w7 fun x9 =>
clS Try.prog F.ref05_Good [.agg #[.int .i64 x9.1, .int .i64 x9.2.1, .int .i64 x9.2.2.1, .int .i64 x9.2.2.2.1, .int .u16 x9.2.2.2.2.1, .int .u16 x9.2.2.2.2.2.1, .int .i64 x9.2.2.2.2.2.2.1, .int .i64 x9.2.2.2.2.2.2.2.1, .int .i64 x9.2.2.2.2.2.2.2.2.1, .int .i64 x9.2.2.2.2.2.2.2.2.2.1, .int .i64 x9.2.2.2.2.2.2.2.2.2.2.1, .int .i64 x9.2.2.2.2.2.2.2.2.2.2.2.1, .int .i64 x9.2.2.2.2.2.2.2.2.2.2.2.2.1, .int .i64 x9.2.2.2.2.2.2.2.2.2.2.2.2.2.1]] w7 false [(false, [.b])] fun r10 w11 =>
brB (!r10.1.1) (
R ((true, ()), ()) w11) (
brB (decide (time < 0)) (
R ((true, ()), ()) w11) (
brB (decide (time > 1125899906842624)) (
R ((true, ()), ()) w11) (
alK [.bool false, .int .i64 0, .int .u16 0, .int .i64 0, .int .u16 0, .int .i64 0, .int .i64 0] T.anchor_Book w11 fun p12 w13 =>
ldN [(.i .i64), (.i .i64), (.i .i64), (.i .i64), (.i .u16), (.i .u16), (.i .i64), (.i .i64), (.i .i64), (.i .i64), (.i .i64), (.i .i64), (.i .i64), (.i .i64)] p3 0 w13 fun x14 =>
clS Try.prog F.law23_of [.agg #[.int .i64 x14.1, .int .i64 x14.2.1, .int .i64 x14.2.2.1, .int .i64 x14.2.2.2.1, .int .u16 x14.2.2.2.2.1, .int .u16 x14.2.2.2.2.2.1, .int .i64 x14.2.2.2.2.2.2.1, .int .i64 x14.2.2.2.2.2.2.2.1, .int .i64 x14.2.2.2.2.2.2.2.2.1, .int .i64 x14.2.2.2.2.2.2.2.2.2.1, .int .i64 x14.2.2.2.2.2.2.2.2.2.2.1, .int .i64 x14.2.2.2.2.2.2.2.2.2.2.2.1, .int .i64 x14.2.2.2.2.2.2.2.2.2.2.2.2.1, .int .i64 x14.2.2.2.2.2.2.2.2.2.2.2.2.2.1]] w13 false [(true, [(.i .i64), (.i .u16), (.i .i64), (.i .u16), (.i .i64), (.i .i64)])] fun r15 w16 =>
clS Try.prog F.anchor_Book_Hear [.pointer (some p12), .agg #[.int .i64 r15.1.1, .int .u16 r15.1.2.1, .int .i64 r15.1.2.2.1, .int .u16 r15.1.2.2.2.1, .int .i64 r15.1.2.2.2.2.1, .int .i64 r15.1.2.2.2.2.2.1]] w16 false [(false, [.b])] fun r17 w18 =>
brB (!r17.1.1) (
R ((false, ()), ()) w18) (
ld1 (.i .i64) (p3.add 3) w18 fun x19 =>
ld1 (.i .u16) (p3.add 4) w18 fun x20 =>
alK [.int .i64 0, .int .u16 0] T.source_Whose w18 fun p21 w22 =>
stN [.int .i64 x19, .int .u16 x20] p21 0 w22 fun w23 =>
ldN [(.i .i64), (.i .u16)] p21 0 w23 fun x24 =>
clS Try.prog F.anchor_Book_Tai [.pointer (some p12), .agg #[.int .i64 x24.1, .int .u16 x24.2.1], .int .i64 time] w23 true [(true, [(.i .i64), (.i .i64)]), (false, [(.i .i64)])] fun r25 w26 =>
alK [.int .i64 0, .int .i64 0] T.anchor_Moment w26 fun p27 w28 =>
stN [.int .i64 r25.1.1, .int .i64 r25.1.2.1] p27 0 w28 fun w29 =>
brB (r25.2.1.1 != 0) (
R ((false, ()), ()) w29) (
ld1 (.i .i64) (p27.add 1) w29 fun x30 =>
brB (decide (x30 < 0)) (
R ((false, ()), ()) w29) (
ld1 (.i .i64) (p27.add 1) w29 fun x31 =>
brB (decide (x31 > 999)) (
R ((false, ()), ()) w29) (
ldN [(.i .i64), (.i .u16)] p21 0 w29 fun x32 =>
ld1 (.i .i64) p27 w29 fun x33 =>
clS Try.prog F.anchor_Book_Time [.pointer (some p12), .agg #[.int .i64 x32.1, .int .u16 x32.2.1], .int .i64 x33] w29 true [(false, [(.i .i64)]), (false, [(.i .i64)])] fun r34 w35 =>
CutT (fun (J36 : Unit → World → Prop) =>
brB (r34.2.1.1 == 0) (
ld1 (.i .i64) (p27.add 1) w35 fun x39 =>
brB ((IntKind.wrap .i64 (r34.1.1 + x39)) != time) (
R ((false, ()), ()) w35) (
brB (r34.2.1.1 != 0) (
brB (r34.2.1.1 != 8) (
R ((false, ()), ()) w35) (
J36 (()) w35)) (
J36 (()) w35))) (
brB (r34.2.1.1 != 0) (
brB (r34.2.1.1 != 8) (
R ((false, ()), ()) w35) (
J36 (()) w35)) (
J36 (()) w35))) (fun (z37 : Unit) w38 => ∀ _ : Nat → Value,
ld1 (.i .i64) (p3.add 3) w38 fun x40 =>
ld1 (.i .u16) (p3.add 4) w38 fun x41 =>
clS Try.prog F.anchor_Book_Tai [.pointer (some p12), .agg #[.int .i64 x40, .int .u16 (IntKind.wrap .u16 (x41 + 1))], .int .i64 time] w38 true [(true, [(.i .i64), (.i .i64)]), (false, [(.i .i64)])] fun r42 w43 =>
alK [.int .i64 0, .int .i64 0] T.anchor_Moment w43 fun p44 w45 =>
stN [.int .i64 r42.1.1, .int .i64 r42.1.2.1] p44 0 w45 fun w46 =>
ldN [(.i .i64), (.i .i64), (.i .i64), .sl] p1 0 w46 fun x47 =>
clS Try.prog F.law23_made [.agg #[.int .i64 x47.1, .int .i64 x47.2.1, .int .i64 x47.2.2.1, .slice x47.2.2.2.1.1 x47.2.2.2.1.2.1 x47.2.2.2.1.2.2]] w46 false [(false, [.p])] fun r48 w49 =>
ldN [(.i .i64), (.i .u16)] p21 0 w49 fun x50 =>
clS Try.prog F.anchor_Book_Utc [.pointer (some p12), .pointer r48.1.1, .agg #[.int .i64 x50.1, .int .u16 x50.2.1], .int .i64 time] w49 true [(true, [(.i .i64), (.i .i64), (.i .i64), (.i .i64), (.i .i64), (.i .i64)]), (false, [(.i .i64)]), (false, [(.i .i64)])] fun r51 w52 =>
alK [.int .i64 0, .int .i64 0, .int .i64 0, .int .i64 0, .int .i64 0, .int .i64 0] T.utc_Utc w52 fun p53 w54 =>
stN [.int .i64 r51.1.1, .int .i64 r51.1.2.1, .int .i64 r51.1.2.2.1, .int .i64 r51.1.2.2.2.1, .int .i64 r51.1.2.2.2.2.1, .int .i64 r51.1.2.2.2.2.2.1] p53 0 w54 fun w55 =>
ld1 (.i .i64) p27 w55 fun x56 =>
clS Try.prog F.utc_Of [.pointer r48.1.1, .int .i64 x56] w55 true [(true, [(.i .i64), (.i .i64), (.i .i64), (.i .i64), (.i .i64), (.i .i64)]), (false, [(.i .i64)])] fun r57 w58 =>
alK [.int .i64 0, .int .i64 0, .int .i64 0, .int .i64 0, .int .i64 0, .int .i64 0] T.utc_Utc w58 fun p59 w60 =>
stN [.int .i64 r57.1.1, .int .i64 r57.1.2.1, .int .i64 r57.1.2.2.1, .int .i64 r57.1.2.2.2.1, .int .i64 r57.1.2.2.2.2.1, .int .i64 r57.1.2.2.2.2.2.1] p59 0 w60 fun w61 =>
brB (r42.2.1.1 == 9) (
brB (r51.2.2.1.1 == r57.2.1.1) (
ldN [(.i .i64), (.i .i64), (.i .i64), (.i .i64), (.i .i64), (.i .i64)] p53 0 w61 fun x62 =>
ldN [(.i .i64), (.i .i64), (.i .i64), (.i .i64), (.i .i64), (.i .i64)] p59 0 w61 fun x63 =>
brB (((x62.1 == x63.1) && ((x62.2.1 == x63.2.1) && ((x62.2.2.1 == x63.2.2.1) && true))) && ((x62.2.2.2.1 == x63.2.2.2.1) && ((x62.2.2.2.2.1 == x63.2.2.2.2.1) && ((x62.2.2.2.2.2.1 == x63.2.2.2.2.2.1) && true)))) (
brB (r51.2.2.1.1 != 0) (
R ((true, ()), ()) w61) (
ld1 (.i .i64) (p27.add 1) w61 fun x64 =>
R (((r51.2.1.1 == x64), ()), ()) w61)) (
R ((false, ()), ()) w61)) (
R ((false, ()), ()) w61)) (
R ((false, ()), ()) w61)))))))))))
set_option maxRecDepth 100000 in
theorem law23_AnchorBack.eq (m0 : Int) (m1 : Int) (m2 : Int) (m3 : Option Addr × Nat × Nat) (w_0 : Int) (w_1 : Int) (w_2 : Int) (w_3 : Int) (w_4 : Int) (w_5 : Int) (w_6 : Int) (w_7 : Int) (w_8 : Int) (w_9 : Int) (w_10 : Int) (w_11 : Int) (w_12 : Int) (w_13 : Int) (time : Int) (w : World) (R : Value → World → Prop) : wpF Try.prog Try.f9 (.s .n (.s .n (.s .n (.s .n (.s .n (.s .n (.s .n (.s .n (.s .n (.s .n (.ct [] .n .n))))))))))) [.agg #[.int .i64 m0, .int .i64 m1, .int .i64 m2, .slice m3.1 m3.2.1 m3.2.2], .agg #[.int .i64 w_0, .int .i64 w_1, .int .i64 w_2, .int .i64 w_3, .int .u16 w_4, .int .u16 w_5, .int .i64 w_6, .int .i64 w_7, .int .i64 w_8, .int .i64 w_9, .int .i64 w_10, .int .i64 w_11, .int .i64 w_12, .int .i64 w_13], .int .i64 time] w R = law23_AnchorBack.wp m0 m1 m2 m3 w_0 w_1 w_2 w_3 w_4 w_5 w_6 w_7 w_8 w_9 w_10 w_11 w_12 w_13 time w (fun r w => R (encR false [(false, [.b])] r) w) := by kernel_rfl
set_option maxRecDepth 100000 in
theorem law23_AnchorBack.ok {m0 : Int} {m1 : Int} {m2 : Int} {m3 : Option Addr × Nat × Nat} {w_0 : Int} {w_1 : Int} {w_2 : Int} {w_3 : Int} {w_4 : Int} {w_5 : Int} {w_6 : Int} {w_7 : Int} {w_8 : Int} {w_9 : Int} {w_10 : Int} {w_11 : Int} {w_12 : Int} {w_13 : Int} {time : Int} {w : World} {R : TR [(false, [.b])] → World → Prop} (h : law23_AnchorBack.wp m0 m1 m2 m3 w_0 w_1 w_2 w_3 w_4 w_5 w_6 w_7 w_8 w_9 w_10 w_11 w_12 w_13 time w R) : clS Try.prog F.law23_AnchorBack [.agg #[.int .i64 m0, .int .i64 m1, .int .i64 m2, .slice m3.1 m3.2.1 m3.2.2], .agg #[.int .i64 w_0, .int .i64 w_1, .int .i64 w_2, .int .i64 w_3, .int .u16 w_4, .int .u16 w_5, .int .i64 w_6, .int .i64 w_7, .int .i64 w_8, .int .i64 w_9, .int .i64 w_10, .int .i64 w_11, .int .i64 w_12, .int .i64 w_13], .int .i64 time] w false [(false, [.b])] R :=
  ok_of Try_follows Try.func9 (fun R => law23_AnchorBack.wp m0 m1 m2 m3 w_0 w_1 w_2 w_3 w_4 w_5 w_6 w_7 w_8 w_9 w_10 w_11 w_12 w_13 time w R) (law23_AnchorBack.eq m0 m1 m2 m3 w_0 w_1 w_2 w_3 w_4 w_5 w_6 w_7 w_8 w_9 w_10 w_11 w_12 w_13 time w) rfl h
/-! ### law23_AnchorDoes -/
set_option maxRecDepth 100000 in
def law23_AnchorDoes.wp (m0 : Int) (m1 : Int) (m2 : Int) (m3 : Option Addr × Nat × Nat) (script : Option Addr × Nat × Nat) (w : World) (R : TR [(false, [.b])] → World → Prop) : Prop :=
alK [.int .i64 m0, .int .i64 m1, .int .i64 m2, .slice m3.1 m3.2.1 m3.2.2] T.ref21_Table w fun p1 w2 =>
clS Try.prog F.law23_alive [] w2 false [(false, [.b])] fun r3 w4 =>
brB (!r3.1.1) (
R ((false, ()), ()) w4) (
brB (decide ((script.2.1 : Int) > 100)) (
R ((true, ()), ()) w4) (
ld1 .sl (p1.add 3) w4 fun x5 =>
brB (decide ((x5.2.1 : Int) > 64)) (
R ((true, ()), ()) w4) (
ldN [(.i .i64), (.i .i64), (.i .i64), .sl] p1 0 w4 fun x6 =>
clS Try.prog F.law23_made [.agg #[.int .i64 x6.1, .int .i64 x6.2.1, .int .i64 x6.2.2.1, .slice x6.2.2.2.1.1 x6.2.2.2.1.2.1 x6.2.2.2.1.2.2]] w4 false [(false, [.p])] fun r7 w8 =>
alK [.bool false, .int .i64 0, .int .u16 0, .int .i64 0, .int .u16 0, .int .i64 0, .int .i64 0] T.anchor_Book w8 fun p9 w10 =>
clS Try.prog F.anchor_Book_Drop [.pointer none] w10 true [] fun r11 w12 =>
clS Try.prog F.anchor_Book_Has [.pointer none] w12 true [(true, [(.i .i64), (.i .u16), (.i .i64), (.i .u16), (.i .i64), (.i .i64)]), (false, [.b])] fun r13 w14 =>
alK [.int .i64 0, .int .u16 0, .int .i64 0, .int .u16 0, .int .i64 0, .int .i64 0] T.frame_Anchor w14 fun p15 w16 =>
stN [.int .i64 r13.1.1, .int .u16 r13.1.2.1, .int .i64 r13.1.2.2.1, .int .u16 r13.1.2.2.2.1, .int .i64 r13.1.2.2.2.2.1, .int .i64 r13.1.2.2.2.2.2.1] p15 0 w16 fun w17 =>
clS Try.prog F.anchor_Book_Tai [.pointer none, .agg #[.int .i64 0, .int .u16 0], .int .i64 1] w17 true [(true, [(.i .i64), (.i .i64)]), (false, [(.i .i64)])] fun r18 w19 =>
alK [.int .i64 0, .int .i64 0] T.anchor_Moment w19 fun p20 w21 =>
stN [.int .i64 r18.1.1, .int .i64 r18.1.2.1] p20 0 w21 fun w22 =>
clS Try.prog F.anchor_Book_Make [.pointer none, .int .i64 1, .agg #[.int .i64 0, .int .i64 0, .int .i64 0, .int .u16 0, .int .i64 0], .int .i64 1] w22 true [(true, [(.i .i64), (.i .u16), (.i .i64), (.i .u16), (.i .i64), (.i .i64)]), (false, [(.i .i64)])] fun r23 w24 =>
alK [.int .i64 0, .int .u16 0, .int .i64 0, .int .u16 0, .int .i64 0, .int .i64 0] T.frame_Anchor w24 fun p25 w26 =>
stN [.int .i64 r23.1.1, .int .u16 r23.1.2.1, .int .i64 r23.1.2.2.1, .int .u16 r23.1.2.2.2.1, .int .i64 r23.1.2.2.2.2.1, .int .i64 r23.1.2.2.2.2.2.1] p25 0 w26 fun w27 =>
clS Try.prog F.anchor_Book_Time [.pointer none, .agg #[.int .i64 0, .int .u16 0], .int .i64 1] w27 true [(false, [(.i .i64)]), (false, [(.i .i64)])] fun r28 w29 =>
brB r13.2.1.1 (
R ((false, ()), ()) w29) (
brB (r18.2.1.1 != 2) (
R ((false, ()), ()) w29) (
brB (r23.2.1.1 != 2) (
R ((false, ()), ()) w29) (
brB (r28.2.1.1 != 2) (
R ((false, ()), ()) w29) (
clS Try.prog F.anchor_Book_Hear [.pointer none, .agg #[.int .i64 0, .int .u16 0, .int .i64 0, .int .u16 0, .int .i64 0, .int .i64 0]] w29 false [(false, [.b])] fun r30 w31 =>
brB r30.1.1 (
R ((false, ()), ()) w31) (
alK [.int .i64 0, .int .i64 0, .int .i64 0, .int .i64 0, .int .u16 0, .int .u16 0, .int .i64 0, .int .i64 0, .int .i64 0, .int .i64 0, .int .i64 0, .int .i64 0, .int .i64 0, .int .i64 0] T.ref23_Book w31 fun p32 w33 =>
LoopT (fun (self34 : ((Int) × Unit) → World → Prop) (z35 : (Int) × Unit) w36 => ∀ _ : Nat → Value,
brB (decide (z35.1 < (script.2.1 : Int))) (
ixK script.1 script.2.1 z35.1 fun a37 =>
ldN [(.i .i64), (.i .i64), (.i .i64), (.i .i64), (.i .i64), (.i .u16), (.i .u16), (.i .i64), (.i .i64), (.i .i64), (.i .i64), (.i .i64), (.i .i64), (.i .i64), (.i .i64), (.i .i64), (.i .u16), (.i .i64)] (a37.add (z35.1.toNat * 18)) 0 w36 fun x38 =>
alK [.int .i64 0, .int .i64 0, .int .i64 0, .int .i64 0, .int .i64 0, .int .u16 0, .int .u16 0, .int .i64 0, .int .i64 0, .int .i64 0, .int .i64 0, .int .i64 0, .int .i64 0, .int .i64 0, .int .i64 0, .int .i64 0, .int .u16 0, .int .i64 0] T.law23_Call w36 fun p39 w40 =>
stN [.int .i64 x38.1, .int .i64 x38.2.1, .int .i64 x38.2.2.1, .int .i64 x38.2.2.2.1, .int .i64 x38.2.2.2.2.1, .int .u16 x38.2.2.2.2.2.1, .int .u16 x38.2.2.2.2.2.2.1, .int .i64 x38.2.2.2.2.2.2.2.1, .int .i64 x38.2.2.2.2.2.2.2.2.1, .int .i64 x38.2.2.2.2.2.2.2.2.2.1, .int .i64 x38.2.2.2.2.2.2.2.2.2.2.1, .int .i64 x38.2.2.2.2.2.2.2.2.2.2.2.1, .int .i64 x38.2.2.2.2.2.2.2.2.2.2.2.2.1, .int .i64 x38.2.2.2.2.2.2.2.2.2.2.2.2.2.1, .int .i64 x38.2.2.2.2.2.2.2.2.2.2.2.2.2.2.1, .int .i64 x38.2.2.2.2.2.2.2.2.2.2.2.2.2.2.2.1, .int .u16 x38.2.2.2.2.2.2.2.2.2.2.2.2.2.2.2.2.1, .int .i64 x38.2.2.2.2.2.2.2.2.2.2.2.2.2.2.2.2.2.1] p39 0 w40 fun w41 =>
ldN [(.i .i64), (.i .i64), (.i .i64), (.i .i64), (.i .u16), (.i .u16), (.i .i64), (.i .i64), (.i .i64), (.i .i64), (.i .i64), (.i .i64), (.i .i64), (.i .i64)] (p39.add 1) 0 w41 fun x42 =>
alK [.int .i64 0, .int .i64 0, .int .i64 0, .int .i64 0, .int .u16 0, .int .u16 0, .int .i64 0, .int .i64 0, .int .i64 0, .int .i64 0, .int .i64 0, .int .i64 0, .int .i64 0, .int .i64 0] T.ref05_Plain w41 fun p43 w44 =>
stN [.int .i64 x42.1, .int .i64 x42.2.1, .int .i64 x42.2.2.1, .int .i64 x42.2.2.2.1, .int .u16 x42.2.2.2.2.1, .int .u16 x42.2.2.2.2.2.1, .int .i64 x42.2.2.2.2.2.2.1, .int .i64 x42.2.2.2.2.2.2.2.1, .int .i64 x42.2.2.2.2.2.2.2.2.1, .int .i64 x42.2.2.2.2.2.2.2.2.2.1, .int .i64 x42.2.2.2.2.2.2.2.2.2.2.1, .int .i64 x42.2.2.2.2.2.2.2.2.2.2.2.1, .int .i64 x42.2.2.2.2.2.2.2.2.2.2.2.2.1, .int .i64 x42.2.2.2.2.2.2.2.2.2.2.2.2.2.1] p43 0 w44 fun w45 =>
CutT (fun (J46 : Unit → World → Prop) =>
ld1 (.i .i64) p39 w45 fun x49 =>
CutT (fun (J50 : ((Bool) × Unit) → World → Prop) =>
brB (x49 == 0) (
J50 ((x49 == 0), ()) w45) (
J50 ((x49 == 1), ()) w45)) (fun (z51 : (Bool) × Unit) w52 => ∀ _ : Nat → Value,
brB z51.1 (
stN [.int .i64 6] p43 0 w52 fun w53 =>
drK w53 fun w54 =>
ldN [(.i .i64), (.i .i64), (.i .i64), (.i .i64), (.i .u16), (.i .u16), (.i .i64), (.i .i64), (.i .i64), (.i .i64), (.i .i64), (.i .i64), (.i .i64), (.i .i64)] p43 0 w54 fun x55 =>
ldN [(.i .i64), (.i .i64), (.i .i64), (.i .i64), (.i .u16), (.i .u16), (.i .i64), (.i .i64), (.i .i64), (.i .i64), (.i .i64), (.i .i64), (.i .i64), (.i .i64)] p43 0 w54 fun x56 =>
clS Try.prog F.law23_of [.agg #[.int .i64 x55.1, .int .i64 x55.2.1, .int .i64 x55.2.2.1, .int .i64 x55.2.2.2.1, .int .u16 x55.2.2.2.2.1, .int .u16 x55.2.2.2.2.2.1, .int .i64 x55.2.2.2.2.2.2.1, .int .i64 x55.2.2.2.2.2.2.2.1, .int .i64 x55.2.2.2.2.2.2.2.2.1, .int .i64 x55.2.2.2.2.2.2.2.2.2.1, .int .i64 x55.2.2.2.2.2.2.2.2.2.2.1, .int .i64 x55.2.2.2.2.2.2.2.2.2.2.2.1, .int .i64 x55.2.2.2.2.2.2.2.2.2.2.2.2.1, .int .i64 x55.2.2.2.2.2.2.2.2.2.2.2.2.2.1]] w54 false [(true, [(.i .i64), (.i .u16), (.i .i64), (.i .u16), (.i .i64), (.i .i64)])] fun r57 w58 =>
Hold [(4, (p43.add 0), (w54.cell? (p43.add 0)).getD undef), (4, (p43.add 1), (w54.cell? (p43.add 1)).getD undef), (4, (p43.add 2), (w54.cell? (p43.add 2)).getD undef), (4, (p43.add 3), (w54.cell? (p43.add 3)).getD undef), (4, (p43.add 4), (w54.cell? (p43.add 4)).getD undef), (4, (p43.add 5), (w54.cell? (p43.add 5)).getD undef), (4, (p43.add 6), (w54.cell? (p43.add 6)).getD undef), (4, (p43.add 7), (w54.cell? (p43.add 7)).getD undef), (4, (p43.add 8), (w54.cell? (p43.add 8)).getD undef), (4, (p43.add 9), (w54.cell? (p43.add 9)).getD undef), (4, (p43.add 10), (w54.cell? (p43.add 10)).getD undef), (4, (p43.add 11), (w54.cell? (p43.add 11)).getD undef), (4, (p43.add 12), (w54.cell? (p43.add 12)).getD undef), (4, (p43.add 13), (w54.cell? (p43.add 13)).getD undef), (0, (p43.add 0), (w54.cell? (p43.add 0)).getD undef), (0, (p43.add 1), (w54.cell? (p43.add 1)).getD undef), (0, (p43.add 2), (w54.cell? (p43.add 2)).getD undef), (0, (p43.add 3), (w54.cell? (p43.add 3)).getD undef), (0, (p43.add 4), (w54.cell? (p43.add 4)).getD undef), (0, (p43.add 5), (w54.cell? (p43.add 5)).getD undef), (0, (p43.add 6), (w54.cell? (p43.add 6)).getD undef), (0, (p43.add 7), (w54.cell? (p43.add 7)).getD undef), (0, (p43.add 8), (w54.cell? (p43.add 8)).getD undef), (0, (p43.add 9), (w54.cell? (p43.add 9)).getD undef), (0, (p43.add 10), (w54.cell? (p43.add 10)).getD undef), (0, (p43.add 11), (w54.cell? (p43.add 11)).getD undef), (0, (p43.add 12), (w54.cell? (p43.add 12)).getD undef), (0, (p43.add 13), (w54.cell? (p43.add 13)).getD undef)] w58 ∧ (
clS Try.prog F.anchor_Book_Hear [.pointer (some p9), .agg #[.int .i64 r57.1.1, .int .u16 r57.1.2.1, .int .i64 r57.1.2.2.1, .int .u16 r57.1.2.2.2.1, .int .i64 r57.1.2.2.2.2.1, .int .i64 r57.1.2.2.2.2.2.1]] w58 false [(false, [.b])] fun r59 w60 =>
Hold [(4, (p43.add 0), (w54.cell? (p43.add 0)).getD undef), (4, (p43.add 1), (w54.cell? (p43.add 1)).getD undef), (4, (p43.add 2), (w54.cell? (p43.add 2)).getD undef), (4, (p43.add 3), (w54.cell? (p43.add 3)).getD undef), (4, (p43.add 4), (w54.cell? (p43.add 4)).getD undef), (4, (p43.add 5), (w54.cell? (p43.add 5)).getD undef), (4, (p43.add 6), (w54.cell? (p43.add 6)).getD undef), (4, (p43.add 7), (w54.cell? (p43.add 7)).getD undef), (4, (p43.add 8), (w54.cell? (p43.add 8)).getD undef), (4, (p43.add 9), (w54.cell? (p43.add 9)).getD undef), (4, (p43.add 10), (w54.cell? (p43.add 10)).getD undef), (4, (p43.add 11), (w54.cell? (p43.add 11)).getD undef), (4, (p43.add 12), (w54.cell? (p43.add 12)).getD undef), (4, (p43.add 13), (w54.cell? (p43.add 13)).getD undef), (0, (p43.add 0), (w54.cell? (p43.add 0)).getD undef), (0, (p43.add 1), (w54.cell? (p43.add 1)).getD undef), (0, (p43.add 2), (w54.cell? (p43.add 2)).getD undef), (0, (p43.add 3), (w54.cell? (p43.add 3)).getD undef), (0, (p43.add 4), (w54.cell? (p43.add 4)).getD undef), (0, (p43.add 5), (w54.cell? (p43.add 5)).getD undef), (0, (p43.add 6), (w54.cell? (p43.add 6)).getD undef), (0, (p43.add 7), (w54.cell? (p43.add 7)).getD undef), (0, (p43.add 8), (w54.cell? (p43.add 8)).getD undef), (0, (p43.add 9), (w54.cell? (p43.add 9)).getD undef), (0, (p43.add 10), (w54.cell? (p43.add 10)).getD undef), (0, (p43.add 11), (w54.cell? (p43.add 11)).getD undef), (0, (p43.add 12), (w54.cell? (p43.add 12)).getD undef), (0, (p43.add 13), (w54.cell? (p43.add 13)).getD undef)] w60 ∧ (
clS Try.prog F.ref23_Book_Hear [.pointer (some p32), .agg #[.int .i64 x56.1, .int .i64 x56.2.1, .int .i64 x56.2.2.1, .int .i64 x56.2.2.2.1, .int .u16 x56.2.2.2.2.1, .int .u16 x56.2.2.2.2.2.1, .int .i64 x56.2.2.2.2.2.2.1, .int .i64 x56.2.2.2.2.2.2.2.1, .int .i64 x56.2.2.2.2.2.2.2.2.1, .int .i64 x56.2.2.2.2.2.2.2.2.2.1, .int .i64 x56.2.2.2.2.2.2.2.2.2.2.1, .int .i64 x56.2.2.2.2.2.2.2.2.2.2.2.1, .int .i64 x56.2.2.2.2.2.2.2.2.2.2.2.2.1, .int .i64 x56.2.2.2.2.2.2.2.2.2.2.2.2.2.1]] w60 false [(false, [.b])] fun r61 w62 =>
Hold [(0, (p43.add 0), (w54.cell? (p43.add 0)).getD undef), (0, (p43.add 1), (w54.cell? (p43.add 1)).getD undef), (0, (p43.add 2), (w54.cell? (p43.add 2)).getD undef), (0, (p43.add 3), (w54.cell? (p43.add 3)).getD undef), (0, (p43.add 4), (w54.cell? (p43.add 4)).getD undef), (0, (p43.add 5), (w54.cell? (p43.add 5)).getD undef), (0, (p43.add 6), (w54.cell? (p43.add 6)).getD undef), (0, (p43.add 7), (w54.cell? (p43.add 7)).getD undef), (0, (p43.add 8), (w54.cell? (p43.add 8)).getD undef), (0, (p43.add 9), (w54.cell? (p43.add 9)).getD undef), (0, (p43.add 10), (w54.cell? (p43.add 10)).getD undef), (0, (p43.add 11), (w54.cell? (p43.add 11)).getD undef), (0, (p43.add 12), (w54.cell? (p43.add 12)).getD undef), (0, (p43.add 13), (w54.cell? (p43.add 13)).getD undef)] w62 ∧ (
brB (!(r59.1.1 == r61.1.1)) (
R ((false, ()), ()) w62) (
J46 (()) w62))))) (
brB (x49 == 2) (
ld1 (.i .i64) (p43.add 1) w52 fun x63 =>
ld1 (.i .i64) (p43.add 12) w52 fun x64 =>
ld1 (.i .i64) (p43.add 3) w52 fun x65 =>
ld1 (.i .u16) (p43.add 4) w52 fun x66 =>
ld1 (.i .i64) (p43.add 13) w52 fun x67 =>
clS Try.prog F.anchor_Book_Make [.pointer (some p9), .int .i64 x63, .agg #[.int .i64 x64, .int .i64 0, .int .i64 x65, .int .u16 x66, .int .i64 0], .int .i64 x67] w52 true [(true, [(.i .i64), (.i .u16), (.i .i64), (.i .u16), (.i .i64), (.i .i64)]), (false, [(.i .i64)])] fun r68 w69 =>
alK [.int .i64 0, .int .u16 0, .int .i64 0, .int .u16 0, .int .i64 0, .int .i64 0] T.frame_Anchor w69 fun p70 w71 =>
stN [.int .i64 r68.1.1, .int .u16 r68.1.2.1, .int .i64 r68.1.2.2.1, .int .u16 r68.1.2.2.2.1, .int .i64 r68.1.2.2.2.2.1, .int .i64 r68.1.2.2.2.2.2.1] p70 0 w71 fun w72 =>
ld1 (.i .i64) (p43.add 1) w72 fun x73 =>
ld1 (.i .i64) (p43.add 3) w72 fun x74 =>
ld1 (.i .u16) (p43.add 4) w72 fun x75 =>
ld1 (.i .i64) (p43.add 12) w72 fun x76 =>
ld1 (.i .i64) (p43.add 13) w72 fun x77 =>
clS Try.prog F.ref23_Book_Make [.pointer (some p32), .int .i64 x73, .int .i64 x74, .int .u16 x75, .int .i64 x76, .int .i64 x77] w72 false [(true, [(.i .i64), (.i .i64), (.i .i64), (.i .i64), (.i .u16), (.i .u16), (.i .i64), (.i .i64), (.i .i64), (.i .i64), (.i .i64), (.i .i64), (.i .i64), (.i .i64)])] fun r78 w79 =>
alK [.int .i64 0, .int .i64 0, .int .i64 0, .int .i64 0, .int .u16 0, .int .u16 0, .int .i64 0, .int .i64 0, .int .i64 0, .int .i64 0, .int .i64 0, .int .i64 0, .int .i64 0, .int .i64 0] T.ref05_Plain w79 fun p80 w81 =>
stN [.int .i64 r78.1.1, .int .i64 r78.1.2.1, .int .i64 r78.1.2.2.1, .int .i64 r78.1.2.2.2.1, .int .u16 r78.1.2.2.2.2.1, .int .u16 r78.1.2.2.2.2.2.1, .int .i64 r78.1.2.2.2.2.2.2.1, .int .i64 r78.1.2.2.2.2.2.2.2.1, .int .i64 r78.1.2.2.2.2.2.2.2.2.1, .int .i64 r78.1.2.2.2.2.2.2.2.2.2.1, .int .i64 r78.1.2.2.2.2.2.2.2.2.2.2.1, .int .i64 r78.1.2.2.2.2.2.2.2.2.2.2.2.1, .int .i64 r78.1.2.2.2.2.2.2.2.2.2.2.2.2.1, .int .i64 r78.1.2.2.2.2.2.2.2.2.2.2.2.2.2.1] p80 0 w81 fun w82 =>
drK w82 fun w83 =>
ldN [(.i .i64), (.i .u16), (.i .i64), (.i .u16), (.i .i64), (.i .i64)] p70 0 w83 fun x84 =>
ldN [(.i .i64), (.i .i64), (.i .i64), (.i .i64), (.i .u16), (.i .u16), (.i .i64), (.i .i64), (.i .i64), (.i .i64), (.i .i64), (.i .i64), (.i .i64), (.i .i64)] p80 0 w83 fun x85 =>
clS Try.prog F.law23_of [.agg #[.int .i64 x85.1, .int .i64 x85.2.1, .int .i64 x85.2.2.1, .int .i64 x85.2.2.2.1, .int .u16 x85.2.2.2.2.1, .int .u16 x85.2.2.2.2.2.1, .int .i64 x85.2.2.2.2.2.2.1, .int .i64 x85.2.2.2.2.2.2.2.1, .int .i64 x85.2.2.2.2.2.2.2.2.1, .int .i64 x85.2.2.2.2.2.2.2.2.2.1, .int .i64 x85.2.2.2.2.2.2.2.2.2.2.1, .int .i64 x85.2.2.2.2.2.2.2.2.2.2.2.1, .int .i64 x85.2.2.2.2.2.2.2.2.2.2.2.2.1, .int .i64 x85.2.2.2.2.2.2.2.2.2.2.2.2.2.1]] w83 false [(true, [(.i .i64), (.i .u16), (.i .i64), (.i .u16), (.i .i64), (.i .i64)])] fun r86 w87 =>
Hold [(0, (p70.add 0), (w83.cell? (p70.add 0)).getD undef), (0, (p70.add 1), (w83.cell? (p70.add 1)).getD undef), (0, (p70.add 2), (w83.cell? (p70.add 2)).getD undef), (0, (p70.add 3), (w83.cell? (p70.add 3)).getD undef), (0, (p70.add 4), (w83.cell? (p70.add 4)).getD undef), (0, (p70.add 5), (w83.cell? (p70.add 5)).getD undef)] w87 ∧ (
brB (!((x84.1 == r86.1.1) && ((x84.2.1 == r86.1.2.1) && ((x84.2.2.1 == r86.1.2.2.1) && ((x84.2.2.2.1 == r86.1.2.2.2.1) && ((x84.2.2.2.2.1 == r86.1.2.2.2.2.1) && ((x84.2.2.2.2.2.1 == r86.1.2.2.2.2.2.1) && true))))))) (
R ((false, ()), ()) w87) (
ld1 (.i .i64) p80 w87 fun x88 =>
brB (!((r68.2.1.1 == 0) == (x88 == 6))) (
R ((false, ()), ()) w87) (
brB (r68.2.1.1 != 0) (
brB (r68.2.1.1 != 1) (
R ((false, ()), ()) w87) (
J46 (()) w87)) (
J46 (()) w87))))) (
brB (x49 == 3) (
clS Try.prog F.anchor_Book_Drop [.pointer (some p9)] w52 true [] fun r89 w90 =>
stN [.int .i64 0, .int .i64 0, .int .i64 0, .int .i64 0, .int .u16 0, .int .u16 0, .int .i64 0, .int .i64 0, .int .i64 0, .int .i64 0, .int .i64 0, .int .i64 0, .int .i64 0, .int .i64 0] p32 0 w90 fun w91 =>
J46 (()) w91) (
J46 (()) w52))))) (fun (z47 : Unit) w48 => ∀ _ : Nat → Value,
clS Try.prog F.anchor_Book_Has [.pointer (some p9)] w48 true [(true, [(.i .i64), (.i .u16), (.i .i64), (.i .u16), (.i .i64), (.i .i64)]), (false, [.b])] fun r92 w93 =>
alK [.int .i64 0, .int .u16 0, .int .i64 0, .int .u16 0, .int .i64 0, .int .i64 0] T.frame_Anchor w93 fun p94 w95 =>
stN [.int .i64 r92.1.1, .int .u16 r92.1.2.1, .int .i64 r92.1.2.2.1, .int .u16 r92.1.2.2.2.1, .int .i64 r92.1.2.2.2.2.1, .int .i64 r92.1.2.2.2.2.2.1] p94 0 w95 fun w96 =>
drK w96 fun w97 =>
ldN [(.i .i64), (.i .u16), (.i .i64), (.i .u16), (.i .i64), (.i .i64)] p94 0 w97 fun x98 =>
ldN [(.i .i64), (.i .i64), (.i .i64), (.i .i64), (.i .u16), (.i .u16), (.i .i64), (.i .i64), (.i .i64), (.i .i64), (.i .i64), (.i .i64), (.i .i64), (.i .i64)] p32 0 w97 fun x99 =>
clS Try.prog F.law23_of [.agg #[.int .i64 x99.1, .int .i64 x99.2.1, .int .i64 x99.2.2.1, .int .i64 x99.2.2.2.1, .int .u16 x99.2.2.2.2.1, .int .u16 x99.2.2.2.2.2.1, .int .i64 x99.2.2.2.2.2.2.1, .int .i64 x99.2.2.2.2.2.2.2.1, .int .i64 x99.2.2.2.2.2.2.2.2.1, .int .i64 x99.2.2.2.2.2.2.2.2.2.1, .int .i64 x99.2.2.2.2.2.2.2.2.2.2.1, .int .i64 x99.2.2.2.2.2.2.2.2.2.2.2.1, .int .i64 x99.2.2.2.2.2.2.2.2.2.2.2.2.1, .int .i64 x99.2.2.2.2.2.2.2.2.2.2.2.2.2.1]] w97 false [(true, [(.i .i64), (.i .u16), (.i .i64), (.i .u16), (.i .i64), (.i .i64)])] fun r100 w101 =>
Hold [(4, (p32.add 0), (w97.cell? (p32.add 0)).getD undef), (4, (p32.add 1), (w97.cell? (p32.add 1)).getD undef), (4, (p32.add 2), (w97.cell? (p32.add 2)).getD undef), (4, (p32.add 3), (w97.cell? (p32.add 3)).getD undef), (4, (p32.add 4), (w97.cell? (p32.add 4)).getD undef), (4, (p32.add 5), (w97.cell? (p32.add 5)).getD undef), (4, (p32.add 6), (w97.cell? (p32.add 6)).getD undef), (4, (p32.add 7), (w97.cell? (p32.add 7)).getD undef), (4, (p32.add 8), (w97.cell? (p32.add 8)).getD undef), (4, (p32.add 9), (w97.cell? (p32.add 9)).getD undef), (4, (p32.add 10), (w97.cell? (p32.add 10)).getD undef), (4, (p32.add 11), (w97.cell? (p32.add 11)).getD undef), (4, (p32.add 12), (w97.cell? (p32.add 12)).getD undef), (4, (p32.add 13), (w97.cell? (p32.add 13)).getD undef), (0, (p94.add 0), (w97.cell? (p94.add 0)).getD undef), (0, (p94.add 1), (w97.cell? (p94.add 1)).getD undef), (0, (p94.add 2), (w97.cell? (p94.add 2)).getD undef), (0, (p94.add 3), (w97.cell? (p94.add 3)).getD undef), (0, (p94.add 4), (w97.cell? (p94.add 4)).getD undef), (0, (p94.add 5), (w97.cell? (p94.add 5)).getD undef)] w101 ∧ (
brB (!((x98.1 == r100.1.1) && ((x98.2.1 == r100.1.2.1) && ((x98.2.2.1 == r100.1.2.2.1) && ((x98.2.2.2.1 == r100.1.2.2.2.1) && ((x98.2.2.2.2.1 == r100.1.2.2.2.2.1) && ((x98.2.2.2.2.2.1 == r100.1.2.2.2.2.2.1) && true))))))) (
R ((false, ()), ()) w101) (
ld1 (.i .i64) p32 w101 fun x102 =>
brB (!(r92.2.1.1 == (x102 == 6))) (
R ((false, ()), ()) w101) (
ldN [(.i .i64), (.i .i64), (.i .i64), (.i .i64), (.i .i64), (.i .u16), (.i .u16), (.i .i64), (.i .i64), (.i .i64), (.i .i64), (.i .i64), (.i .i64), (.i .i64), (.i .i64), (.i .i64), (.i .u16), (.i .i64)] p39 0 w101 fun x103 =>
clS Try.prog F.law23_asked [.pointer (some p9), .pointer (some p32), .pointer r7.1.1, .agg #[.int .i64 x103.1, .int .i64 x103.2.1, .int .i64 x103.2.2.1, .int .i64 x103.2.2.2.1, .int .i64 x103.2.2.2.2.1, .int .u16 x103.2.2.2.2.2.1, .int .u16 x103.2.2.2.2.2.2.1, .int .i64 x103.2.2.2.2.2.2.2.1, .int .i64 x103.2.2.2.2.2.2.2.2.1, .int .i64 x103.2.2.2.2.2.2.2.2.2.1, .int .i64 x103.2.2.2.2.2.2.2.2.2.2.1, .int .i64 x103.2.2.2.2.2.2.2.2.2.2.2.1, .int .i64 x103.2.2.2.2.2.2.2.2.2.2.2.2.1, .int .i64 x103.2.2.2.2.2.2.2.2.2.2.2.2.2.1, .int .i64 x103.2.2.2.2.2.2.2.2.2.2.2.2.2.2.1, .int .i64 x103.2.2.2.2.2.2.2.2.2.2.2.2.2.2.2.1, .int .u16 x103.2.2.2.2.2.2.2.2.2.2.2.2.2.2.2.2.1, .int .i64 x103.2.2.2.2.2.2.2.2.2.2.2.2.2.2.2.2.2.1]] w101 false [(false, [.b])] fun r104 w105 =>
Hold [(13, p32, (w101.cell? p32).getD undef), (4, (p32.add 0), (w97.cell? (p32.add 0)).getD undef), (4, (p32.add 1), (w97.cell? (p32.add 1)).getD undef), (4, (p32.add 2), (w97.cell? (p32.add 2)).getD undef), (4, (p32.add 3), (w97.cell? (p32.add 3)).getD undef), (4, (p32.add 4), (w97.cell? (p32.add 4)).getD undef), (4, (p32.add 5), (w97.cell? (p32.add 5)).getD undef), (4, (p32.add 6), (w97.cell? (p32.add 6)).getD undef), (4, (p32.add 7), (w97.cell? (p32.add 7)).getD undef), (4, (p32.add 8), (w97.cell? (p32.add 8)).getD undef), (4, (p32.add 9), (w97.cell? (p32.add 9)).getD undef), (4, (p32.add 10), (w97.cell? (p32.add 10)).getD undef), (4, (p32.add 11), (w97.cell? (p32.add 11)).getD undef), (4, (p32.add 12), (w97.cell? (p32.add 12)).getD undef), (4, (p32.add 13), (w97.cell? (p32.add 13)).getD undef), (0, (p94.add 0), (w97.cell? (p94.add 0)).getD undef), (0, (p94.add 1), (w97.cell? (p94.add 1)).getD undef), (0, (p94.add 2), (w97.cell? (p94.add 2)).getD undef), (0, (p94.add 3), (w97.cell? (p94.add 3)).getD undef), (0, (p94.add 4), (w97.cell? (p94.add 4)).getD undef), (0, (p94.add 5), (w97.cell? (p94.add 5)).getD undef)] w105 ∧ (
brB (!r104.1.1) (
R ((false, ()), ()) w105) (
self34 (IntKind.wrap .i64 (z35.1 + 1), ()) w105))))))) (
R ((true, ()), ()) w36)) (0, ()) w33))))))))
set_option maxRecDepth 100000 in
theorem law23_AnchorDoes.eq (m0 : Int) (m1 : Int) (m2 : Int) (m3 : Option Addr × Nat × Nat) (script : Option Addr × Nat × Nat) (w : World) (R : Value → World → Prop) : wpF Try.prog Try.f10 (.s .n (.s .n (.s .n (.s .n (.s .n (.s .n (.s .n (.s .n (.s .n (.s .n (.s .n (.s .n (.s .n (.s (.s .n (.lp [(85, (.i .i64))] (.s .n (.s .n (.s (.s .n (.s .n (.ct [] (.s .n (.ct [(93, .b)] .n (.s (.s .n (.s (.pl (.tk 0 (.tk 3 (.tk 4 (.ef 1 [] (.ef 2 [] (.ef 5 [4] (.tk 6 .z)))))))) .n)) (.s .n (.s (.s .n (.s .n (.s (.pl (.tk 0 (.tk 1 (.ef 2 [1] (.tk 3 (.tk 4 (.tk 5 (.tk 6 (.tk 7 (.tk 8 (.tk 9 (.tk 10 (.tk 11 (.tk 12 (.tk 13 (.tk 14 (.tk 15 (.tk 16 (.tk 17 (.tk 18 (.tk 19 .z))))))))))))))))))))) .n))) .n))))) (.s .n (.s (.pl (.tk 0 (.tk 1 (.tk 2 (.tk 3 (.tk 4 (.ef 5 [] (.tk 6 (.tk 7 (.tk 8 (.tk 9 (.tk 10 (.tk 11 (.tk 12 (.tk 13 (.tk 14 (.tk 15 (.tk 16 (.tk 17 (.tk 18 (.tk 19 (.tk 20 (.ef 21 [20] (.tk 22 (.tk 23 .z))))))))))))))))))))))))) .n))))) .n))))) .n)))))))))))))) [.agg #[.int .i64 m0, .int .i64 m1, .int .i64 m2, .slice m3.1 m3.2.1 m3.2.2], .slice script.1 script.2.1 script.2.2] w R = law23_AnchorDoes.wp m0 m1 m2 m3 script w (fun r w => R (encR false [(false, [.b])] r) w) := by kernel_rfl
set_option maxRecDepth 100000 in
theorem law23_AnchorDoes.ok {m0 : Int} {m1 : Int} {m2 : Int} {m3 : Option Addr × Nat × Nat} {script : Option Addr × Nat × Nat} {w : World} {R : TR [(false, [.b])] → World → Prop} (h : law23_AnchorDoes.wp m0 m1 m2 m3 script w R) : clS Try.prog F.law23_AnchorDoes [.agg #[.int .i64 m0, .int .i64 m1, .int .i64 m2, .slice m3.1 m3.2.1 m3.2.2], .slice script.1 script.2.1 script.2.2] w false [(false, [.b])] R :=
  ok_of Try_follows Try.func10 (fun R => law23_AnchorDoes.wp m0 m1 m2 m3 script w R) (law23_AnchorDoes.eq m0 m1 m2 m3 script w) rfl h
/-! ### law22_alive -/
set_option maxRecDepth 100000 in
def law22_alive.wp  (w : World) (R : TR [(false, [.b])] → World → Prop) : Prop :=
alK [.int .i64 17166, .int .i64 1] T.leap_Leap w fun p1 w2 =>
clS Try.prog F.leap_Make [.int .i64 17000, .int .i64 36, .int .i64 18000, .slice (some p1) 1 1] w2 true [(false, [.p]), (false, [(.i .i64)])] fun r3 w4 =>
clS Try.prog F.utc_Of [.pointer r3.1.1, .int .i64 1483228836] w4 true [(true, [(.i .i64), (.i .i64), (.i .i64), (.i .i64), (.i .i64), (.i .i64)]), (false, [(.i .i64)])] fun r5 w6 =>
alK [.int .i64 0, .int .i64 0, .int .i64 0, .int .i64 0, .int .i64 0, .int .i64 0] T.utc_Utc w6 fun p7 w8 =>
stN [.int .i64 r5.1.1, .int .i64 r5.1.2.1, .int .i64 r5.1.2.2.1, .int .i64 r5.1.2.2.2.1, .int .i64 r5.1.2.2.2.2.1, .int .i64 r5.1.2.2.2.2.2.1] p7 0 w8 fun w9 =>
ldN [(.i .i64), (.i .i64), (.i .i64), (.i .i64), (.i .i64), (.i .i64)] p7 0 w9 fun x10 =>
clS Try.prog F.utc_Tai [.pointer r3.1.1, .agg #[.int .i64 x10.1, .int .i64 x10.2.1, .int .i64 x10.2.2.1, .int .i64 x10.2.2.2.1, .int .i64 x10.2.2.2.2.1, .int .i64 x10.2.2.2.2.2.1]] w9 true [(false, [(.i .i64)]), (false, [(.i .i64)])] fun r11 w12 =>
brB (r5.2.1.1 == 0) (
ldN [(.i .i64), (.i .i64), (.i .i64), (.i .i64), (.i .i64), (.i .i64)] p7 0 w12 fun x13 =>
clS Try.prog F.utc_Utc_Text [.agg #[.int .i64 x13.1, .int .i64 x13.2.1, .int .i64 x13.2.2.1, .int .i64 x13.2.2.2.1, .int .i64 x13.2.2.2.2.1, .int .i64 x13.2.2.2.2.2.1]] w12 false [(false, [.s])] fun r14 w15 =>
brB (r14.1.1 == ⟨#[50, 48, 49, 54, 45, 49, 50, 45, 51, 49, 84, 50, 51, 58, 53, 57, 58, 54, 48, 90]⟩) (
brB (r11.2.1.1 == 0) (
R (((r11.1.1 == 1483228836), ()), ()) w15) (
R ((false, ()), ()) w15)) (
R ((false, ()), ()) w15)) (
R ((false, ()), ()) w12)
set_option maxRecDepth 100000 in
theorem law22_alive.eq  (w : World) (R : Value → World → Prop) : wpF Try.prog Try.f11 .n [] w R = law22_alive.wp  w (fun r w => R (encR false [(false, [.b])] r) w) := by kernel_rfl
set_option maxRecDepth 100000 in
theorem law22_alive.ok  {w : World} {R : TR [(false, [.b])] → World → Prop} (h : law22_alive.wp  w R) : clS Try.prog F.law22_alive [] w false [(false, [.b])] R :=
  ok_of Try_follows Try.func11 (fun R => law22_alive.wp  w R) (law22_alive.eq  w) rfl h
/-! ### law22_made -/
set_option maxRecDepth 100000 in
def law22_made.wp (m0 : Int) (m1 : Int) (m2 : Int) (m3 : Option Addr × Nat × Nat) (w : World) (R : TR [(false, [.p]), (false, [.b])] → World → Prop) : Prop :=
alK [.int .i64 m0, .int .i64 m1, .int .i64 m2, .slice m3.1 m3.2.1 m3.2.2] T.ref21_Table w fun p1 w2 =>
ld1 .sl (p1.add 3) w2 fun x3 =>
LoopT (fun (self4 : ((Option Addr × Nat × Nat) × (Int) × Unit) → World → Prop) (z5 : (Option Addr × Nat × Nat) × (Int) × Unit) w6 => ∀ _ : Nat → Value,
brB (decide (z5.2.1 < (x3.2.1 : Int))) (
ixK x3.1 x3.2.1 z5.2.1 fun a7 =>
ldN [(.i .i64), (.i .i64)] (a7.add (z5.2.1.toNat * 2)) 0 w6 fun x8 =>
alK [.int .i64 0, .int .i64 0] T.ref21_Leap w6 fun p9 w10 =>
stN [.int .i64 x8.1, .int .i64 x8.2.1] p9 0 w10 fun w11 =>
ldN [(.i .i64), (.i .i64)] p9 0 w11 fun x12 =>
alK [.int .i64 x12.1, .int .i64 x12.2.1] T.leap_Leap w11 fun p13 w14 =>
slOf ((Builtin.append_ #[T.sl_leap_Leap, T.sl_leap_Leap] T.sl_leap_Leap #[.slice z5.1.1 z5.1.2.1 z5.1.2.2, .slice (some p13) 1 1]).run Try.prog w14) fun y15 w16 =>
self4 ((y15.1, y15.2.1, y15.2.2), IntKind.wrap .i64 (z5.2.1 + 1), ()) w16) (
ld1 (.i .i64) p1 w6 fun x17 =>
ld1 (.i .i64) (p1.add 1) w6 fun x18 =>
ld1 (.i .i64) (p1.add 2) w6 fun x19 =>
clS Try.prog F.leap_Make [.int .i64 x17, .int .i64 x18, .int .i64 x19, .slice z5.1.1 z5.1.2.1 z5.1.2.2] w6 true [(false, [.p]), (false, [(.i .i64)])] fun r20 w21 =>
R ((r20.1.1, ()), ((r20.2.1.1 == 0), ()), ()) w21)) ((none, 0, 0), 0, ()) w2
set_option maxRecDepth 100000 in
theorem law22_made.eq (m0 : Int) (m1 : Int) (m2 : Int) (m3 : Option Addr × Nat × Nat) (w : World) (R : Value → World → Prop) : wpF Try.prog Try.f12 (.s .n (.s .n (.s (.s .n (.lp [(4, .sl), (12, (.i .i64))] .n)) .n))) [.agg #[.int .i64 m0, .int .i64 m1, .int .i64 m2, .slice m3.1 m3.2.1 m3.2.2]] w R = law22_made.wp m0 m1 m2 m3 w (fun r w => R (encR true [(false, [.p]), (false, [.b])] r) w) := by kernel_rfl
set_option maxRecDepth 100000 in
theorem law22_made.ok {m0 : Int} {m1 : Int} {m2 : Int} {m3 : Option Addr × Nat × Nat} {w : World} {R : TR [(false, [.p]), (false, [.b])] → World → Prop} (h : law22_made.wp m0 m1 m2 m3 w R) : clS Try.prog F.law22_made [.agg #[.int .i64 m0, .int .i64 m1, .int .i64 m2, .slice m3.1 m3.2.1 m3.2.2]] w true [(false, [.p]), (false, [.b])] R :=
  ok_of Try_follows Try.func12 (fun R => law22_made.wp m0 m1 m2 m3 w R) (law22_made.eq m0 m1 m2 m3 w) rfl h
/-! ### utc_Of -/
set_option maxRecDepth 100000 in
def utc_Of.wp (t : Option Addr) (tai : Int) (w : World) (R : TR [(true, [(.i .i64), (.i .i64), (.i .i64), (.i .i64), (.i .i64), (.i .i64)]), (false, [(.i .i64)])] → World → Prop) : Prop :=
alK [.int .i64 0, .int .i64 0, .int .i64 0, .int .i64 0, .int .i64 0, .int .i64 0] T.utc_Utc w fun p1 w2 =>
brB (Option.isNone t) (
stN [.int .i64 0, .int .i64 0, .int .i64 0, .int .i64 0, .int .i64 0, .int .i64 0] p1 0 w2 fun w3 =>
ldN [(.i .i64), (.i .i64), (.i .i64), (.i .i64), (.i .i64), (.i .i64)] p1 0 w3 fun x4 =>
R ((x4.1, x4.2.1, x4.2.2.1, x4.2.2.2.1, x4.2.2.2.2.1, x4.2.2.2.2.2.1, ()), (2, ()), ()) w3) (
clS Try.prog F.fix_Floor [.int .i64 tai, .int .i64 86400] w2 true [(false, [(.i .i64)]), (false, [(.i .i64)]), (false, [.b])] fun r5 w6 =>
LoopT (fun (self7 : ((Int) × Unit) → World → Prop) (z8 : (Int) × Unit) w9 => ∀ _ : Nat → Value,
brB (decide (z8.1 < 3)) (
aiK [IntKind.wrap .i64 (r5.1.1 - 1), r5.1.1, IntKind.wrap .i64 (r5.1.1 + 1)] 3 z8.1 fun c10 =>
clS Try.prog F.utc_begin [.pointer t, .int .i64 c10] w9 true [(false, [(.i .i64)]), (false, [.b])] fun r11 w12 =>
brB r11.2.1.1 (
brB (decide ((IntKind.wrap .i64 (tai - r11.1.1)) ≥ 0)) (
clS Try.prog F.leap_Table_Step [.pointer t, .int .i64 c10] w12 false [(false, [(.i .i64)])] fun r13 w14 =>
brB (decide ((IntKind.wrap .i64 (tai - r11.1.1)) < (IntKind.wrap .i64 (86400 + r13.1.1)))) (
clS Try.prog F.utc_at [.int .i64 c10, .int .i64 (IntKind.wrap .i64 (tai - r11.1.1))] w14 false [(true, [(.i .i64), (.i .i64), (.i .i64), (.i .i64), (.i .i64), (.i .i64)])] fun r15 w16 =>
stN [.int .i64 r15.1.1, .int .i64 r15.1.2.1, .int .i64 r15.1.2.2.1, .int .i64 r15.1.2.2.2.1, .int .i64 r15.1.2.2.2.2.1, .int .i64 r15.1.2.2.2.2.2.1] p1 0 w16 fun w17 =>
ldN [(.i .i64), (.i .i64), (.i .i64), (.i .i64), (.i .i64), (.i .i64)] p1 0 w17 fun x18 =>
R ((x18.1, x18.2.1, x18.2.2.1, x18.2.2.2.1, x18.2.2.2.2.1, x18.2.2.2.2.2.1, ()), (0, ()), ()) w17) (
self7 (IntKind.wrap .i64 (z8.1 + 1), ()) w14)) (
self7 (IntKind.wrap .i64 (z8.1 + 1), ()) w12)) (
self7 (IntKind.wrap .i64 (z8.1 + 1), ()) w12)) (
stN [.int .i64 0, .int .i64 0, .int .i64 0, .int .i64 0, .int .i64 0, .int .i64 0] p1 0 w9 fun w19 =>
ldN [(.i .i64), (.i .i64), (.i .i64), (.i .i64), (.i .i64), (.i .i64)] p1 0 w19 fun x20 =>
R ((x20.1, x20.2.1, x20.2.2.1, x20.2.2.2.1, x20.2.2.2.2.1, x20.2.2.2.2.2.1, ()), (11, ()), ()) w19)) (0, ()) w6)
set_option maxRecDepth 100000 in
theorem utc_Of.eq (t : Option Addr) (tai : Int) (w : World) (R : Value → World → Prop) : wpF Try.prog Try.f13 (.s .n (.s .n (.s .n (.s (.s .n (.lp [(29, (.i .i64))] .n)) .n)))) [.pointer t, .int .i64 tai] w R = utc_Of.wp t tai w (fun r w => R (encR true [(true, [(.i .i64), (.i .i64), (.i .i64), (.i .i64), (.i .i64), (.i .i64)]), (false, [(.i .i64)])] r) w) := by kernel_rfl
set_option maxRecDepth 100000 in
theorem utc_Of.ok {t : Option Addr} {tai : Int} {w : World} {R : TR [(true, [(.i .i64), (.i .i64), (.i .i64), (.i .i64), (.i .i64), (.i .i64)]), (false, [(.i .i64)])] → World → Prop} (h : utc_Of.wp t tai w R) : clS Try.prog F.utc_Of [.pointer t, .int .i64 tai] w true [(true, [(.i .i64), (.i .i64), (.i .i64), (.i .i64), (.i .i64), (.i .i64)]), (false, [(.i .i64)])] R :=
  ok_of Try_follows Try.func13 (fun R => utc_Of.wp t tai w R) (utc_Of.eq t tai w) rfl h
end Go.Proofs.Ytimdngcmbmamdaa
