import Derived.Test.YtgpgdhopmifbpaaNm
namespace Go.Proofs.Ytgpgdhopmifbpaa
open Go.Eng
set_option linter.unusedVariables false
/-! ### law23_AnchorRuns -/
set_option maxRecDepth 100000 in
def law23_AnchorRuns.wp (w_0 : Int) (w_1 : Int) (w_2 : Int) (w_3 : Int) (w_4 : Int) (w_5 : Int) (w_6 : Int) (w_7 : Int) (w_8 : Int) (w_9 : Int) (w_10 : Int) (w_11 : Int) (w_12 : Int) (w_13 : Int) (old0 : Int) (old1 : Int) (old2 : Int) (old3 : Int) (old4 : Int) (old5 : Int) (old6 : Int) (old7 : Int) (old8 : Int) (old9 : Int) (old10 : Int) (old11 : Int) (old12 : Int) (old13 : Int) (time : Int) (seconds : Int) (w : World) (R : TR [(false, [.b])] → World → Prop) : Prop :=
alK [.int .i64 w_0, .int .i64 w_1, .int .i64 w_2, .int .i64 w_3, .int .u16 w_4, .int .u16 w_5, .int .i64 w_6, .int .i64 w_7, .int .i64 w_8, .int .i64 w_9, .int .i64 w_10, .int .i64 w_11, .int .i64 w_12, .int .i64 w_13] T.ref05_Plain w fun p1 w2 =>
alK [.int .i64 old0, .int .i64 old1, .int .i64 old2, .int .i64 old3, .int .u16 old4, .int .u16 old5, .int .i64 old6, .int .i64 old7, .int .i64 old8, .int .i64 old9, .int .i64 old10, .int .i64 old11, .int .i64 old12, .int .i64 old13] T.ref05_Plain w2 fun p3 w4 =>
clS Try.prog F.law23_alive [] w4 false [(false, [.b])] fun r5 w6 =>
brB (!r5.1.1) (
R ((false, ()), ()) w6) (
stN [.int .i64 6] p1 0 w6 fun w7 =>
stN [.int .i64 6] p3 0 w7 fun w8 =>
ldN [(.i .i64), (.i .i64), (.i .i64), (.i .i64), (.i .u16), (.i .u16), (.i .i64), (.i .i64), (.i .i64), (.i .i64), (.i .i64), (.i .i64), (.i .i64), (.i .i64)] p1 0 w8 fun x9 =>
clS Try.prog F.ref05_Good [.agg #[.int .i64 x9.1, .int .i64 x9.2.1, .int .i64 x9.2.2.1, .int .i64 x9.2.2.2.1, .int .u16 x9.2.2.2.2.1, .int .u16 x9.2.2.2.2.2.1, .int .i64 x9.2.2.2.2.2.2.1, .int .i64 x9.2.2.2.2.2.2.2.1, .int .i64 x9.2.2.2.2.2.2.2.2.1, .int .i64 x9.2.2.2.2.2.2.2.2.2.1, .int .i64 x9.2.2.2.2.2.2.2.2.2.2.1, .int .i64 x9.2.2.2.2.2.2.2.2.2.2.2.1, .int .i64 x9.2.2.2.2.2.2.2.2.2.2.2.2.1, .int .i64 x9.2.2.2.2.2.2.2.2.2.2.2.2.2.1]] w8 false [(false, [.b])] fun r10 w11 =>
brB (!r10.1.1) (
R ((true, ()), ()) w11) (
brB (decide (time < 0)) (
R ((true, ()), ()) w11) (
brB (decide (time > 1099511627776)) (
R ((true, ()), ()) w11) (
brB (decide (seconds < 0)) (
R ((true, ()), ()) w11) (
brB (decide (seconds > 1073741824)) (
R ((true, ()), ()) w11) (
alK [.bool false, .int .i64 0, .int .u16 0, .int .i64 0, .int .u16 0, .int .i64 0, .int .i64 0] T.anchor_Book w11 fun p12 w13 =>
ld1 (.i .i64) (p1.add 3) w13 fun x14 =>
ld1 (.i .u16) (p1.add 4) w13 fun x15 =>
alK [.int .i64 0, .int .u16 0] T.source_Whose w13 fun p16 w17 =>
stN [.int .i64 x14, .int .u16 x15] p16 0 w17 fun w18 =>
ldN [(.i .i64), (.i .i64), (.i .i64), (.i .i64), (.i .u16), (.i .u16), (.i .i64), (.i .i64), (.i .i64), (.i .i64), (.i .i64), (.i .i64), (.i .i64), (.i .i64)] p1 0 w18 fun x19 =>
clS Try.prog F.law23_of [.agg #[.int .i64 x19.1, .int .i64 x19.2.1, .int .i64 x19.2.2.1, .int .i64 x19.2.2.2.1, .int .u16 x19.2.2.2.2.1, .int .u16 x19.2.2.2.2.2.1, .int .i64 x19.2.2.2.2.2.2.1, .int .i64 x19.2.2.2.2.2.2.2.1, .int .i64 x19.2.2.2.2.2.2.2.2.1, .int .i64 x19.2.2.2.2.2.2.2.2.2.1, .int .i64 x19.2.2.2.2.2.2.2.2.2.2.1, .int .i64 x19.2.2.2.2.2.2.2.2.2.2.2.1, .int .i64 x19.2.2.2.2.2.2.2.2.2.2.2.2.1, .int .i64 x19.2.2.2.2.2.2.2.2.2.2.2.2.2.1]] w18 false [(true, [(.i .i64), (.i .u16), (.i .i64), (.i .u16), (.i .i64), (.i .i64)])] fun r20 w21 =>
clS Try.prog F.anchor_Book_Hear [.pointer (some p12), .agg #[.int .i64 r20.1.1, .int .u16 r20.1.2.1, .int .i64 r20.1.2.2.1, .int .u16 r20.1.2.2.2.1, .int .i64 r20.1.2.2.2.2.1, .int .i64 r20.1.2.2.2.2.2.1]] w21 false [(false, [.b])] fun r22 w23 =>
brB (!r22.1.1) (
R ((false, ()), ()) w23) (
ldN [(.i .i64), (.i .i64), (.i .i64), (.i .i64), (.i .u16), (.i .u16), (.i .i64), (.i .i64), (.i .i64), (.i .i64), (.i .i64), (.i .i64), (.i .i64), (.i .i64)] p1 0 w23 fun x24 =>
clS Try.prog F.law23_of [.agg #[.int .i64 x24.1, .int .i64 x24.2.1, .int .i64 x24.2.2.1, .int .i64 x24.2.2.2.1, .int .u16 x24.2.2.2.2.1, .int .u16 x24.2.2.2.2.2.1, .int .i64 x24.2.2.2.2.2.2.1, .int .i64 x24.2.2.2.2.2.2.2.1, .int .i64 x24.2.2.2.2.2.2.2.2.1, .int .i64 x24.2.2.2.2.2.2.2.2.2.1, .int .i64 x24.2.2.2.2.2.2.2.2.2.2.1, .int .i64 x24.2.2.2.2.2.2.2.2.2.2.2.1, .int .i64 x24.2.2.2.2.2.2.2.2.2.2.2.2.1, .int .i64 x24.2.2.2.2.2.2.2.2.2.2.2.2.2.1]] w23 false [(true, [(.i .i64), (.i .u16), (.i .i64), (.i .u16), (.i .i64), (.i .i64)])] fun r25 w26 =>
clS Try.prog F.anchor_Book_Hear [.pointer (some p12), .agg #[.int .i64 r25.1.1, .int .u16 r25.1.2.1, .int .i64 r25.1.2.2.1, .int .u16 r25.1.2.2.2.1, .int .i64 r25.1.2.2.2.2.1, .int .i64 r25.1.2.2.2.2.2.1]] w26 false [(false, [.b])] fun r27 w28 =>
brB r27.1.1 (
R ((false, ()), ()) w28) (
ldN [(.i .i64), (.i .u16)] p16 0 w28 fun x29 =>
clS Try.prog F.anchor_Book_Tai [.pointer (some p12), .agg #[.int .i64 x29.1, .int .u16 x29.2.1], .int .i64 time] w28 true [(true, [(.i .i64), (.i .i64)]), (false, [(.i .i64)])] fun r30 w31 =>
alK [.int .i64 0, .int .i64 0] T.anchor_Moment w31 fun p32 w33 =>
stN [.int .i64 r30.1.1, .int .i64 r30.1.2.1] p32 0 w33 fun w34 =>
ld1 (.i .u16) (p1.add 5) w34 fun x35 =>
ld1 (.i .u16) (p3.add 5) w34 fun x36 =>
nzK 30000 (
stN [.int .u16 (IntKind.wrap .u16 (x35 - (Int.tmod x36 30000)))] (p3.add 5) 0 w34 fun w37 =>
ldN [(.i .i64), (.i .i64), (.i .i64), (.i .i64), (.i .u16), (.i .u16), (.i .i64), (.i .i64), (.i .i64), (.i .i64), (.i .i64), (.i .i64), (.i .i64), (.i .i64)] p3 0 w37 fun x38 =>
clS Try.prog F.law23_of [.agg #[.int .i64 x38.1, .int .i64 x38.2.1, .int .i64 x38.2.2.1, .int .i64 x38.2.2.2.1, .int .u16 x38.2.2.2.2.1, .int .u16 x38.2.2.2.2.2.1, .int .i64 x38.2.2.2.2.2.2.1, .int .i64 x38.2.2.2.2.2.2.2.1, .int .i64 x38.2.2.2.2.2.2.2.2.1, .int .i64 x38.2.2.2.2.2.2.2.2.2.1, .int .i64 x38.2.2.2.2.2.2.2.2.2.2.1, .int .i64 x38.2.2.2.2.2.2.2.2.2.2.2.1, .int .i64 x38.2.2.2.2.2.2.2.2.2.2.2.2.1, .int .i64 x38.2.2.2.2.2.2.2.2.2.2.2.2.2.1]] w37 false [(true, [(.i .i64), (.i .u16), (.i .i64), (.i .u16), (.i .i64), (.i .i64)])] fun r39 w40 =>
clS Try.prog F.anchor_Book_Hear [.pointer (some p12), .agg #[.int .i64 r39.1.1, .int .u16 r39.1.2.1, .int .i64 r39.1.2.2.1, .int .u16 r39.1.2.2.2.1, .int .i64 r39.1.2.2.2.2.1, .int .i64 r39.1.2.2.2.2.2.1]] w40 false [(false, [.b])] fun r41 w42 =>
brB r41.1.1 (
R ((false, ()), ()) w42) (
ldN [(.i .i64), (.i .u16)] p16 0 w42 fun x43 =>
clS Try.prog F.anchor_Book_Tai [.pointer (some p12), .agg #[.int .i64 x43.1, .int .u16 x43.2.1], .int .i64 (IntKind.wrap .i64 (time + (IntKind.wrap .i64 (1000 * seconds))))] w42 true [(true, [(.i .i64), (.i .i64)]), (false, [(.i .i64)])] fun r44 w45 =>
alK [.int .i64 0, .int .i64 0] T.anchor_Moment w45 fun p46 w47 =>
stN [.int .i64 r44.1.1, .int .i64 r44.1.2.1] p46 0 w47 fun w48 =>
brB (r30.2.1.1 == 0) (
brB (r44.2.1.1 == 0) (
ld1 (.i .i64) p46 w48 fun x49 =>
ld1 (.i .i64) p32 w48 fun x50 =>
brB (x49 == (IntKind.wrap .i64 (x50 + seconds))) (
ld1 (.i .i64) (p46.add 1) w48 fun x51 =>
ld1 (.i .i64) (p32.add 1) w48 fun x52 =>
R (((x51 == x52), ()), ()) w48) (
R ((false, ()), ()) w48)) (
R ((false, ()), ()) w48)) (
R ((false, ()), ()) w48)))))))))))
set_option maxRecDepth 100000 in
theorem law23_AnchorRuns.eq (w_0 : Int) (w_1 : Int) (w_2 : Int) (w_3 : Int) (w_4 : Int) (w_5 : Int) (w_6 : Int) (w_7 : Int) (w_8 : Int) (w_9 : Int) (w_10 : Int) (w_11 : Int) (w_12 : Int) (w_13 : Int) (old0 : Int) (old1 : Int) (old2 : Int) (old3 : Int) (old4 : Int) (old5 : Int) (old6 : Int) (old7 : Int) (old8 : Int) (old9 : Int) (old10 : Int) (old11 : Int) (old12 : Int) (old13 : Int) (time : Int) (seconds : Int) (w : World) (R : Value → World → Prop) : wpF Try.prog Try.f3 .n [.agg #[.int .i64 w_0, .int .i64 w_1, .int .i64 w_2, .int .i64 w_3, .int .u16 w_4, .int .u16 w_5, .int .i64 w_6, .int .i64 w_7, .int .i64 w_8, .int .i64 w_9, .int .i64 w_10, .int .i64 w_11, .int .i64 w_12, .int .i64 w_13], .agg #[.int .i64 old0, .int .i64 old1, .int .i64 old2, .int .i64 old3, .int .u16 old4, .int .u16 old5, .int .i64 old6, .int .i64 old7, .int .i64 old8, .int .i64 old9, .int .i64 old10, .int .i64 old11, .int .i64 old12, .int .i64 old13], .int .i64 time, .int .i64 seconds] w R = law23_AnchorRuns.wp w_0 w_1 w_2 w_3 w_4 w_5 w_6 w_7 w_8 w_9 w_10 w_11 w_12 w_13 old0 old1 old2 old3 old4 old5 old6 old7 old8 old9 old10 old11 old12 old13 time seconds w (fun r w => R (encR false [(false, [.b])] r) w) := by kernel_rfl
theorem law23_AnchorRuns.ok {w_0 : Int} {w_1 : Int} {w_2 : Int} {w_3 : Int} {w_4 : Int} {w_5 : Int} {w_6 : Int} {w_7 : Int} {w_8 : Int} {w_9 : Int} {w_10 : Int} {w_11 : Int} {w_12 : Int} {w_13 : Int} {old0 : Int} {old1 : Int} {old2 : Int} {old3 : Int} {old4 : Int} {old5 : Int} {old6 : Int} {old7 : Int} {old8 : Int} {old9 : Int} {old10 : Int} {old11 : Int} {old12 : Int} {old13 : Int} {time : Int} {seconds : Int} {w : World} {R : TR [(false, [.b])] → World → Prop} (h : law23_AnchorRuns.wp w_0 w_1 w_2 w_3 w_4 w_5 w_6 w_7 w_8 w_9 w_10 w_11 w_12 w_13 old0 old1 old2 old3 old4 old5 old6 old7 old8 old9 old10 old11 old12 old13 time seconds w R) : clS Try.prog F.law23_AnchorRuns [.agg #[.int .i64 w_0, .int .i64 w_1, .int .i64 w_2, .int .i64 w_3, .int .u16 w_4, .int .u16 w_5, .int .i64 w_6, .int .i64 w_7, .int .i64 w_8, .int .i64 w_9, .int .i64 w_10, .int .i64 w_11, .int .i64 w_12, .int .i64 w_13], .agg #[.int .i64 old0, .int .i64 old1, .int .i64 old2, .int .i64 old3, .int .u16 old4, .int .u16 old5, .int .i64 old6, .int .i64 old7, .int .i64 old8, .int .i64 old9, .int .i64 old10, .int .i64 old11, .int .i64 old12, .int .i64 old13], .int .i64 time, .int .i64 seconds] w false [(false, [.b])] R :=
  ok_of Try_follows Try.func3 (fun R => law23_AnchorRuns.wp w_0 w_1 w_2 w_3 w_4 w_5 w_6 w_7 w_8 w_9 w_10 w_11 w_12 w_13 old0 old1 old2 old3 old4 old5 old6 old7 old8 old9 old10 old11 old12 old13 time seconds w R) (law23_AnchorRuns.eq w_0 w_1 w_2 w_3 w_4 w_5 w_6 w_7 w_8 w_9 w_10 w_11 w_12 w_13 old0 old1 old2 old3 old4 old5 old6 old7 old8 old9 old10 old11 old12 old13 time seconds w) rfl h
/-! ### law19_SourceExact -/
set_option maxRecDepth 100000 in
def law19_SourceExact.wp (me : Int) (e0 : Int) (e1 : Int) (e2 : Int) (w_0 : Int) (w_1 : Int) (local_ : Int) (w : World) (R : TR [(false, [.b])] → World → Prop) : Prop :=
alK [.int .i64 e0, .int .i64 e1, .int .i64 e2] T.table_Entry w fun p1 w2 =>
alK [.int .i64 w_0, .int .u16 w_1] T.source_Whose w2 fun p3 w4 =>
clS Try.prog F.law19_alive [] w4 false [(false, [.b])] fun r5 w6 =>
brB (!r5.1.1) (
R ((false, ()), ()) w6) (
clS Try.prog F.law19_rules [.agg #[.int .i64 1000, .int .i64 0, .int .i64 8, .int .i64 10]] w6 false [(true, [(.i .i64), (.i .i64), (.i .i64), (.i .i64)])] fun r7 w8 =>
clS Try.prog F.flood_New [.int .i64 me, .agg #[.int .i64 r7.1.1, .int .i64 r7.1.2.1, .int .i64 r7.1.2.2.1, .int .i64 r7.1.2.2.2.1]] w8 true [(false, [.p]), (false, [(.i .i64)])] fun r9 w10 =>
clS Try.prog F.source_New [.int .i64 1000] w10 true [(false, [.p]), (false, [(.i .i64)])] fun r11 w12 =>
CutT (fun (J13 : ((Bool) × Unit) → World → Prop) =>
brB (r9.2.1.1 != 0) (
J13 (true, ()) w12) (
ldN [(.i .i64), (.i .i64), (.i .i64)] p1 0 w12 fun x16 =>
ldN [(.i .i64), (.i .u16)] p3 0 w12 fun x17 =>
clS Try.prog F.source_Source_Put [.pointer r11.1.1, .agg #[.int .i64 x16.1, .int .i64 x16.2.1, .int .i64 x16.2.2.1], .agg #[.int .i64 x17.1, .int .u16 x17.2.1]] w12 false [(false, [(.i .i64)])] fun r18 w19 =>
J13 ((r18.1.1 != 0), ()) w19)) (fun (z14 : (Bool) × Unit) w15 => ∀ _ : Nat → Value,
brB z14.1 (
brB (r9.2.1.1 != 0) (
R ((true, ()), ()) w15) (
clS Try.prog F.source_Source_Fresh [.pointer r11.1.1] w15 false [(false, [.b])] fun r20 w21 =>
R ((!r20.1.1, ()), ()) w21)) (
clS Try.prog F.source_Source_Time [.pointer r11.1.1, .pointer r9.1.1, .int .i64 local_] w15 true [(true, [(.i .i64), (.i .i64), (.i .i64), (.i .u16), (.i .i64)]), (false, [(.i .i64)])] fun r22 w23 =>
alK [.int .i64 0, .int .i64 0, .int .i64 0, .int .u16 0, .int .i64 0] T.source_Answer w23 fun p24 w25 =>
stN [.int .i64 r22.1.1, .int .i64 r22.1.2.1, .int .i64 r22.1.2.2.1, .int .u16 r22.1.2.2.2.1, .int .i64 r22.1.2.2.2.2.1] p24 0 w25 fun w26 =>
CutT (fun (J27 : ((Bool) × Unit) → World → Prop) =>
brB (decide (local_ < 0)) (
J27 (true, ()) w26) (
brB (decide (local_ > 1125899906842624)) (
J27 (true, ()) w26) (
ld1 (.i .i64) (p1.add 1) w26 fun x30 =>
brB (decide ((IntKind.wrap .i64 (local_ + x30)) < 0)) (
J27 (true, ()) w26) (
ld1 (.i .i64) (p1.add 1) w26 fun x31 =>
J27 (decide ((IntKind.wrap .i64 (local_ + x31)) > 1125899906842624), ()) w26)))) (fun (z28 : (Bool) × Unit) w29 => ∀ _ : Nat → Value,
brB z28.1 (
brB (r22.2.1.1 == 8) (
ldN [(.i .i64), (.i .i64), (.i .i64), (.i .u16), (.i .i64)] p24 0 w29 fun x32 =>
R ((((x32.1 == 0) && ((x32.2.1 == 0) && (((x32.2.2.1 == 0) && ((x32.2.2.2.1 == 0) && true)) && ((x32.2.2.2.2.1 == 0) && true)))), ()), ()) w29) (
R ((false, ()), ()) w29)) (
brB (r22.2.1.1 == 0) (
ldN [(.i .i64), (.i .i64), (.i .i64), (.i .u16), (.i .i64)] p24 0 w29 fun x33 =>
ld1 (.i .i64) (p1.add 1) w29 fun x34 =>
ld1 (.i .i64) (p1.add 2) w29 fun x35 =>
ldN [(.i .i64), (.i .u16)] p3 0 w29 fun x36 =>
R ((((x33.1 == (IntKind.wrap .i64 (local_ + x34))) && ((x33.2.1 == x35) && (((x33.2.2.1 == x36.1) && ((x33.2.2.2.1 == x36.2.1) && true)) && ((x33.2.2.2.2.1 == 3) && true)))), ()), ()) w29) (
R ((false, ()), ()) w29))))))
set_option maxRecDepth 100000 in
theorem law19_SourceExact.eq (me : Int) (e0 : Int) (e1 : Int) (e2 : Int) (w_0 : Int) (w_1 : Int) (local_ : Int) (w : World) (R : Value → World → Prop) : wpF Try.prog Try.f4 (.s .n (.s .n (.s .n (.s .n (.s (.ct [(36, .b)] .n .n) (.s .n (.s (.ct [(70, .b)] .n .n) .n))))))) [.int .i64 me, .agg #[.int .i64 e0, .int .i64 e1, .int .i64 e2], .agg #[.int .i64 w_0, .int .u16 w_1], .int .i64 local_] w R = law19_SourceExact.wp me e0 e1 e2 w_0 w_1 local_ w (fun r w => R (encR false [(false, [.b])] r) w) := by kernel_rfl
theorem law19_SourceExact.ok {me : Int} {e0 : Int} {e1 : Int} {e2 : Int} {w_0 : Int} {w_1 : Int} {local_ : Int} {w : World} {R : TR [(false, [.b])] → World → Prop} (h : law19_SourceExact.wp me e0 e1 e2 w_0 w_1 local_ w R) : clS Try.prog F.law19_SourceExact [.int .i64 me, .agg #[.int .i64 e0, .int .i64 e1, .int .i64 e2], .agg #[.int .i64 w_0, .int .u16 w_1], .int .i64 local_] w false [(false, [.b])] R :=
  ok_of Try_follows Try.func4 (fun R => law19_SourceExact.wp me e0 e1 e2 w_0 w_1 local_ w R) (law19_SourceExact.eq me e0 e1 e2 w_0 w_1 local_ w) rfl h
/-! ### law19_SourceAges -/
set_option maxRecDepth 100000 in
def law19_SourceAges.wp (limit : Int) (e0 : Int) (e1 : Int) (e2 : Int) (w_0 : Int) (w_1 : Int) (w : World) (R : TR [(false, [.b])] → World → Prop) : Prop :=
alK [.int .i64 e0, .int .i64 e1, .int .i64 e2] T.table_Entry w fun p1 w2 =>
alK [.int .i64 w_0, .int .u16 w_1] T.source_Whose w2 fun p3 w4 =>
clS Try.prog F.law19_alive [] w4 false [(false, [.b])] fun r5 w6 =>
brB (!r5.1.1) (
R ((false, ()), ()) w6) (
clS Try.prog F.source_New [.int .i64 limit] w6 true [(false, [.p]), (false, [(.i .i64)])] fun r7 w8 =>
CutT (fun (J9 : ((Bool) × Unit) → World → Prop) =>
brB (r7.2.1.1 != 0) (
J9 (true, ()) w8) (
ldN [(.i .i64), (.i .i64), (.i .i64)] p1 0 w8 fun x12 =>
ldN [(.i .i64), (.i .u16)] p3 0 w8 fun x13 =>
clS Try.prog F.source_Source_Put [.pointer r7.1.1, .agg #[.int .i64 x12.1, .int .i64 x12.2.1, .int .i64 x12.2.2.1], .agg #[.int .i64 x13.1, .int .u16 x13.2.1]] w8 false [(false, [(.i .i64)])] fun r14 w15 =>
J9 ((r14.1.1 != 0), ()) w15)) (fun (z10 : (Bool) × Unit) w11 => ∀ _ : Nat → Value,
brB z10.1 (
brB (r7.2.1.1 != 0) (
R ((true, ()), ()) w11) (
clS Try.prog F.source_Source_Fresh [.pointer r7.1.1] w11 false [(false, [.b])] fun r16 w17 =>
R ((!r16.1.1, ()), ()) w17)) (
LoopT (fun (self18 : ((Int) × Unit) → World → Prop) (z19 : (Int) × Unit) w20 => ∀ _ : Nat → Value,
brB (decide (z19.1 < limit)) (
clS Try.prog F.source_Source_Fresh [.pointer r7.1.1] w20 false [(false, [.b])] fun r21 w22 =>
brB (!r21.1.1) (
R ((false, ()), ()) w22) (
clS Try.prog F.source_Source_Beat [.pointer r7.1.1] w22 true [] fun r23 w24 =>
self18 (IntKind.wrap .i64 (z19.1 + 1), ()) w24)) (
clS Try.prog F.source_Source_Fresh [.pointer r7.1.1] w20 false [(false, [.b])] fun r25 w26 =>
R ((!r25.1.1, ()), ()) w26)) (0, ()) w11)))
set_option maxRecDepth 100000 in
theorem law19_SourceAges.eq (limit : Int) (e0 : Int) (e1 : Int) (e2 : Int) (w_0 : Int) (w_1 : Int) (w : World) (R : Value → World → Prop) : wpF Try.prog Try.f5 (.s .n (.s .n (.s .n (.s (.ct [(25, .b)] .n .n) (.s (.s .n (.lp [(9, (.i .i64))] .n)) .n))))) [.int .i64 limit, .agg #[.int .i64 e0, .int .i64 e1, .int .i64 e2], .agg #[.int .i64 w_0, .int .u16 w_1]] w R = law19_SourceAges.wp limit e0 e1 e2 w_0 w_1 w (fun r w => R (encR false [(false, [.b])] r) w) := by kernel_rfl
theorem law19_SourceAges.ok {limit : Int} {e0 : Int} {e1 : Int} {e2 : Int} {w_0 : Int} {w_1 : Int} {w : World} {R : TR [(false, [.b])] → World → Prop} (h : law19_SourceAges.wp limit e0 e1 e2 w_0 w_1 w R) : clS Try.prog F.law19_SourceAges [.int .i64 limit, .agg #[.int .i64 e0, .int .i64 e1, .int .i64 e2], .agg #[.int .i64 w_0, .int .u16 w_1]] w false [(false, [.b])] R :=
  ok_of Try_follows Try.func5 (fun R => law19_SourceAges.wp limit e0 e1 e2 w_0 w_1 w R) (law19_SourceAges.eq limit e0 e1 e2 w_0 w_1 w) rfl h
/-! ### law16_FloodSays -/
set_option maxRecDepth 100000 in
def law16_FloodSays.wp (me : Int) (r0 : Int) (r1 : Int) (r2 : Int) (r3 : Int) (script : Option Addr × Nat × Nat) (w : World) (R : TR [(false, [.b])] → World → Prop) : Prop :=
alK [.int .i64 r0, .int .i64 r1, .int .i64 r2, .int .i64 r3] T.law16_Rule w fun p1 w2 =>
clS Try.prog F.law16_alive [] w2 false [(false, [.b])] fun r3 w4 =>
brB (!r3.1.1) (
R ((false, ()), ()) w4) (
brB (decide ((script.2.1 : Int) > 200)) (
R ((true, ()), ()) w4) (
ldN [(.i .i64), (.i .i64), (.i .i64), (.i .i64)] p1 0 w4 fun x5 =>
clS Try.prog F.law16_rules [.agg #[.int .i64 x5.1, .int .i64 x5.2.1, .int .i64 x5.2.2.1, .int .i64 x5.2.2.2.1]] w4 false [(true, [(.i .i64), (.i .i64), (.i .i64), (.i .i64)])] fun r6 w7 =>
clS Try.prog F.flood_New [.int .i64 me, .agg #[.int .i64 r6.1.1, .int .i64 r6.1.2.1, .int .i64 r6.1.2.2.1, .int .i64 r6.1.2.2.2.1]] w7 true [(false, [.p]), (false, [(.i .i64)])] fun r8 w9 =>
brB (r8.2.1.1 != 0) (
R (((Option.isNone r8.1.1), ()), ()) w9) (
alK [.int .i64 0, .int .i64 0, .int .i64 0, .int .i64 0, .int .u16 0, .int .u16 0, .int .i64 0, .int .i64 0, .int .i64 0, .int .i64 0, .int .i64 0, .int .i64 0, .int .i64 0, .int .i64 0] T.ref05_Plain w9 fun p10 w11 =>
LoopT (fun (self12 : ((Int) × (Int) × Unit) → World → Prop) (z13 : (Int) × (Int) × Unit) w14 => ∀ _ : Nat → Value,
brB (decide (z13.2.1 < (script.2.1 : Int))) (
ixK script.1 script.2.1 z13.2.1 fun a15 =>
ldN [(.i .i64), (.i .i64), (.i .i64), (.i .i64), (.i .i64), (.i .i64), (.i .u16), (.i .u16), (.i .i64), (.i .i64), (.i .i64), (.i .i64), (.i .i64), (.i .i64), (.i .i64), (.i .i64)] (a15.add (z13.2.1.toNat * 16)) 0 w14 fun x16 =>
alK [.int .i64 0, .int .i64 0, .int .i64 0, .int .i64 0, .int .i64 0, .int .i64 0, .int .u16 0, .int .u16 0, .int .i64 0, .int .i64 0, .int .i64 0, .int .i64 0, .int .i64 0, .int .i64 0, .int .i64 0, .int .i64 0] T.law16_Call w14 fun p17 w18 =>
stN [.int .i64 x16.1, .int .i64 x16.2.1, .int .i64 x16.2.2.1, .int .i64 x16.2.2.2.1, .int .i64 x16.2.2.2.2.1, .int .i64 x16.2.2.2.2.2.1, .int .u16 x16.2.2.2.2.2.2.1, .int .u16 x16.2.2.2.2.2.2.2.1, .int .i64 x16.2.2.2.2.2.2.2.2.1, .int .i64 x16.2.2.2.2.2.2.2.2.2.1, .int .i64 x16.2.2.2.2.2.2.2.2.2.2.1, .int .i64 x16.2.2.2.2.2.2.2.2.2.2.2.1, .int .i64 x16.2.2.2.2.2.2.2.2.2.2.2.2.1, .int .i64 x16.2.2.2.2.2.2.2.2.2.2.2.2.2.1, .int .i64 x16.2.2.2.2.2.2.2.2.2.2.2.2.2.2.1, .int .i64 x16.2.2.2.2.2.2.2.2.2.2.2.2.2.2.2.1] p17 0 w18 fun w19 =>
CutT (fun (J20 : ((Int) × Unit) → World → Prop) =>
ld1 (.i .i64) p17 w19 fun x23 =>
brB (decide (x23 ≤ 2)) (
drK w19 fun w24 =>
ldN [(.i .i64), (.i .i64), (.i .i64), (.i .i64), (.i .u16), (.i .u16), (.i .i64), (.i .i64), (.i .i64), (.i .i64), (.i .i64), (.i .i64), (.i .i64), (.i .i64)] (p17.add 2) 0 w24 fun x25 =>
ld1 (.i .i64) (p17.add 1) w24 fun x26 =>
clS Try.prog F.law16_sync [.agg #[.int .i64 x25.1, .int .i64 x25.2.1, .int .i64 x25.2.2.1, .int .i64 x25.2.2.2.1, .int .u16 x25.2.2.2.2.1, .int .u16 x25.2.2.2.2.2.1, .int .i64 x25.2.2.2.2.2.2.1, .int .i64 x25.2.2.2.2.2.2.2.1, .int .i64 x25.2.2.2.2.2.2.2.2.1, .int .i64 x25.2.2.2.2.2.2.2.2.2.1, .int .i64 x25.2.2.2.2.2.2.2.2.2.2.1, .int .i64 x25.2.2.2.2.2.2.2.2.2.2.2.1, .int .i64 x25.2.2.2.2.2.2.2.2.2.2.2.2.1, .int .i64 x25.2.2.2.2.2.2.2.2.2.2.2.2.2.1]] w24 false [(true, [(.i .i64), (.i .i64), (.i .u16), (.i .u16), (.i .i64), (.i .i64)])] fun r27 w28 =>
Hold [(5, (p17.add 1), (w24.cell? (p17.add 1)).getD undef), (2, ((p17.add 2).add 0), (w24.cell? ((p17.add 2).add 0)).getD undef), (2, ((p17.add 2).add 1), (w24.cell? ((p17.add 2).add 1)).getD undef), (2, ((p17.add 2).add 2), (w24.cell? ((p17.add 2).add 2)).getD undef), (2, ((p17.add 2).add 3), (w24.cell? ((p17.add 2).add 3)).getD undef), (2, ((p17.add 2).add 4), (w24.cell? ((p17.add 2).add 4)).getD undef), (2, ((p17.add 2).add 5), (w24.cell? ((p17.add 2).add 5)).getD undef), (2, ((p17.add 2).add 6), (w24.cell? ((p17.add 2).add 6)).getD undef), (2, ((p17.add 2).add 7), (w24.cell? ((p17.add 2).add 7)).getD undef), (2, ((p17.add 2).add 8), (w24.cell? ((p17.add 2).add 8)).getD undef), (2, ((p17.add 2).add 9), (w24.cell? ((p17.add 2).add 9)).getD undef), (2, ((p17.add 2).add 10), (w24.cell? ((p17.add 2).add 10)).getD undef), (2, ((p17.add 2).add 11), (w24.cell? ((p17.add 2).add 11)).getD undef), (2, ((p17.add 2).add 12), (w24.cell? ((p17.add 2).add 12)).getD undef), (2, ((p17.add 2).add 13), (w24.cell? ((p17.add 2).add 13)).getD undef)] w28 ∧ (
clS Try.prog F.flood_Flood_Hear [.pointer r8.1.1, .agg #[.int .i64 r27.1.1, .int .i64 r27.1.2.1, .int .u16 r27.1.2.2.1, .int .u16 r27.1.2.2.2.1, .int .i64 r27.1.2.2.2.2.1, .int .i64 r27.1.2.2.2.2.2.1], .int .i64 x26] w28 false [(false, [(.i .i64)])] fun r29 w30 =>
Hold [(2, ((p17.add 2).add 0), (w24.cell? ((p17.add 2).add 0)).getD undef), (2, ((p17.add 2).add 1), (w24.cell? ((p17.add 2).add 1)).getD undef), (2, ((p17.add 2).add 2), (w24.cell? ((p17.add 2).add 2)).getD undef), (2, ((p17.add 2).add 3), (w24.cell? ((p17.add 2).add 3)).getD undef), (2, ((p17.add 2).add 4), (w24.cell? ((p17.add 2).add 4)).getD undef), (2, ((p17.add 2).add 5), (w24.cell? ((p17.add 2).add 5)).getD undef), (2, ((p17.add 2).add 6), (w24.cell? ((p17.add 2).add 6)).getD undef), (2, ((p17.add 2).add 7), (w24.cell? ((p17.add 2).add 7)).getD undef), (2, ((p17.add 2).add 8), (w24.cell? ((p17.add 2).add 8)).getD undef), (2, ((p17.add 2).add 9), (w24.cell? ((p17.add 2).add 9)).getD undef), (2, ((p17.add 2).add 10), (w24.cell? ((p17.add 2).add 10)).getD undef), (2, ((p17.add 2).add 11), (w24.cell? ((p17.add 2).add 11)).getD undef), (2, ((p17.add 2).add 12), (w24.cell? ((p17.add 2).add 12)).getD undef), (2, ((p17.add 2).add 13), (w24.cell? ((p17.add 2).add 13)).getD undef)] w30 ∧ (
brB (r29.1.1 != 0) (
ldN [(.i .i64), (.i .i64), (.i .i64), (.i .i64), (.i .u16), (.i .u16), (.i .i64), (.i .i64), (.i .i64), (.i .i64), (.i .i64), (.i .i64), (.i .i64), (.i .i64)] (p17.add 2) 0 w30 fun x31 =>
stN [.int .i64 x31.1, .int .i64 x31.2.1, .int .i64 x31.2.2.1, .int .i64 x31.2.2.2.1, .int .u16 x31.2.2.2.2.1, .int .u16 x31.2.2.2.2.2.1, .int .i64 x31.2.2.2.2.2.2.1, .int .i64 x31.2.2.2.2.2.2.2.1, .int .i64 x31.2.2.2.2.2.2.2.2.1, .int .i64 x31.2.2.2.2.2.2.2.2.2.1, .int .i64 x31.2.2.2.2.2.2.2.2.2.2.1, .int .i64 x31.2.2.2.2.2.2.2.2.2.2.2.1, .int .i64 x31.2.2.2.2.2.2.2.2.2.2.2.2.1, .int .i64 x31.2.2.2.2.2.2.2.2.2.2.2.2.2.1] p10 0 w30 fun w32 =>
ld1 (.i .i64) (p17.add 1) w32 fun x33 =>
J20 (x33, ()) w32) (
J20 (z13.1, ()) w30)))) (
J20 (z13.1, ()) w19)) (fun (z21 : (Int) × Unit) w22 => ∀ _ : Nat → Value,
CutT (fun (J34 : ((Bool) × Unit) → World → Prop) =>
ld1 (.i .i64) p17 w22 fun x37 =>
brB (x37 == 3) (
J34 (true, ()) w22) (
ld1 (.i .i64) p17 w22 fun x38 =>
J34 ((x38 == 4), ()) w22)) (fun (z35 : (Bool) × Unit) w36 => ∀ _ : Nat → Value,
brB z35.1 (
ncK r8.1.1 fun a39 =>
ld1 .p a39 w36 fun x40 =>
clS Try.prog F.elect_Elect_Root [.pointer x40] w36 false [(false, [(.i .i64)])] fun r41 w42 =>
ld1 (.i .i64) (p17.add 1) w42 fun x43 =>
clS Try.prog F.flood_Flood_Beat [.pointer r8.1.1, .int .i64 x43] w42 true [(true, [(.i .i64), (.i .i64), (.i .u16), (.i .u16), (.i .i64), (.i .i64)]), (false, [.b])] fun r44 w45 =>
alK [.int .i64 0, .int .i64 0, .int .u16 0, .int .u16 0, .int .i64 0, .int .i64 0] T.frame_Sync w45 fun p46 w47 =>
stN [.int .i64 r44.1.1, .int .i64 r44.1.2.1, .int .u16 r44.1.2.2.1, .int .u16 r44.1.2.2.2.1, .int .i64 r44.1.2.2.2.2.1, .int .i64 r44.1.2.2.2.2.2.1] p46 0 w47 fun w48 =>
CutT (fun (J49 : Unit → World → Prop) =>
brB r44.2.1.1 (
ld1 (.i .i64) (p46.add 1) w48 fun x52 =>
brB (x52 != me) (
ld1 (.i .i64) (p46.add 1) w48 fun x53 =>
brB (x53 != r41.1.1) (
R ((false, ()), ()) w48) (
ld1 (.i .i64) (p46.add 1) w48 fun x54 =>
ld1 (.i .i64) (p10.add 3) w48 fun x55 =>
brB (x54 != x55) (
R ((false, ()), ()) w48) (
ld1 (.i .u16) (p46.add 2) w48 fun x56 =>
ld1 (.i .u16) (p10.add 4) w48 fun x57 =>
brB (x56 != x57) (
R ((false, ()), ()) w48) (
ld1 (.i .u16) (p46.add 3) w48 fun x58 =>
ld1 (.i .u16) (p10.add 5) w48 fun x59 =>
brB (x58 != x59) (
R ((false, ()), ()) w48) (
ld1 (.i .i64) (p46.add 4) w48 fun x60 =>
ld1 (.i .i64) (p10.add 6) w48 fun x61 =>
brB (x60 != (IntKind.wrap .i64 (x61 + 1))) (
R ((false, ()), ()) w48) (
ld1 (.i .i64) (p46.add 5) w48 fun x62 =>
ld1 (.i .i64) (p10.add 7) w48 fun x63 =>
ld1 (.i .i64) (p17.add 1) w48 fun x64 =>
brB (x62 != (IntKind.wrap .i64 ((IntKind.wrap .i64 (x63 + x64)) - z21.1))) (
R ((false, ()), ()) w48) (
ld1 (.i .i64) p46 w48 fun x65 =>
brB (x65 != me) (
R ((false, ()), ()) w48) (
J49 (()) w48)))))))) (
J49 (()) w48)) (
J49 (()) w48)) (fun (z50 : Unit) w51 => ∀ _ : Nat → Value,
brB r44.2.1.1 (
ld1 (.i .i64) (p46.add 1) w51 fun x66 =>
brB (x66 == me) (
ld1 (.i .i64) (p46.add 4) w51 fun x67 =>
brB (x67 != 0) (
R ((false, ()), ()) w51) (
ld1 (.i .i64) (p46.add 5) w51 fun x68 =>
ld1 (.i .i64) (p17.add 1) w51 fun x69 =>
brB (x68 != x69) (
R ((false, ()), ()) w51) (
ncK r8.1.1 fun a70 =>
ld1 .p a70 w51 fun x71 =>
clS Try.prog F.elect_Elect_Mine [.pointer x71] w51 false [(false, [.b])] fun r72 w73 =>
brB (!r72.1.1) (
R ((false, ()), ()) w73) (
self12 (z21.1, IntKind.wrap .i64 (z13.2.1 + 1), ()) w73)))) (
self12 (z21.1, IntKind.wrap .i64 (z13.2.1 + 1), ()) w51)) (
self12 (z21.1, IntKind.wrap .i64 (z13.2.1 + 1), ()) w51))) (
self12 (z21.1, IntKind.wrap .i64 (z13.2.1 + 1), ()) w36)))) (
R ((true, ()), ()) w14)) (0, 0, ()) w11)))
set_option maxRecDepth 100000 in
theorem law16_FloodSays.eq (me : Int) (r0 : Int) (r1 : Int) (r2 : Int) (r3 : Int) (script : Option Addr × Nat × Nat) (w : World) (R : Value → World → Prop) : wpF Try.prog Try.f6 (.s .n (.s .n (.s .n (.s .n (.s .n (.s .n (.s .n (.s (.s .n (.lp [(10, (.i .i64)), (34, (.i .i64))] (.s .n (.s .n (.s (.s .n (.ct [(10, (.i .i64))] (.s .n (.s (.s (.pl (.tk 0 (.tk 1 (.tk 2 (.tk 4 (.tk 5 (.ef 3 [] (.ef 6 [5] (.tk 7 .z))))))))) .n) .n)) (.ct [(60, .b)] .n (.s (.s .n (.s .n (.ct [] .n .n))) .n)))) .n))))) .n)))))))) [.int .i64 me, .agg #[.int .i64 r0, .int .i64 r1, .int .i64 r2, .int .i64 r3], .slice script.1 script.2.1 script.2.2] w R = law16_FloodSays.wp me r0 r1 r2 r3 script w (fun r w => R (encR false [(false, [.b])] r) w) := by kernel_rfl
theorem law16_FloodSays.ok {me : Int} {r0 : Int} {r1 : Int} {r2 : Int} {r3 : Int} {script : Option Addr × Nat × Nat} {w : World} {R : TR [(false, [.b])] → World → Prop} (h : law16_FloodSays.wp me r0 r1 r2 r3 script w R) : clS Try.prog F.law16_FloodSays [.int .i64 me, .agg #[.int .i64 r0, .int .i64 r1, .int .i64 r2, .int .i64 r3], .slice script.1 script.2.1 script.2.2] w false [(false, [.b])] R :=
  ok_of Try_follows Try.func6 (fun R => law16_FloodSays.wp me r0 r1 r2 r3 script w R) (law16_FloodSays.eq me r0 r1 r2 r3 script w) rfl h
/-! ### law16_FloodChain -/
set_option maxRecDepth 100000 in
def law16_FloodChain.wp (word0 : Int) (word1 : Int) (word2 : Int) (word3 : Int) (word4 : Int) (word5 : Int) (word6 : Int) (word7 : Int) (word8 : Int) (word9 : Int) (word10 : Int) (word11 : Int) (word12 : Int) (word13 : Int) (locals : Option Addr × Nat × Nat) (holds : Option Addr × Nat × Nat) (w : World) (R : TR [(false, [.b])] → World → Prop) : Prop :=
alK [.int .i64 word0, .int .i64 word1, .int .i64 word2, .int .i64 word3, .int .u16 word4, .int .u16 word5, .int .i64 word6, .int .i64 word7, .int .i64 word8, .int .i64 word9, .int .i64 word10, .int .i64 word11, .int .i64 word12, .int .i64 word13] T.ref05_Plain w fun p1 w2 =>
clS Try.prog F.law16_alive [] w2 false [(false, [.b])] fun r3 w4 =>
brB (!r3.1.1) (
R ((false, ()), ()) w4) (
brB (decide ((locals.2.1 : Int) > 60)) (
R ((true, ()), ()) w4) (
brB (decide ((holds.2.1 : Int) < (locals.2.1 : Int))) (
R ((true, ()), ()) w4) (
ld1 (.i .i64) (p1.add 6) w4 fun x5 =>
brB (x5 != 0) (
R ((true, ()), ()) w4) (
ld1 (.i .i64) (p1.add 3) w4 fun x6 =>
brB (x6 != 0) (
R ((true, ()), ()) w4) (
ld1 (.i .i64) (p1.add 7) w4 fun x7 =>
brB (decide (x7 < 0)) (
R ((true, ()), ()) w4) (
ld1 (.i .i64) (p1.add 7) w4 fun x8 =>
brB (decide (x8 > 1099511627776)) (
R ((true, ()), ()) w4) (
ldN [(.i .i64), (.i .i64), (.i .i64), (.i .i64), (.i .u16), (.i .u16), (.i .i64), (.i .i64), (.i .i64), (.i .i64), (.i .i64), (.i .i64), (.i .i64), (.i .i64)] p1 0 w4 fun x9 =>
clS Try.prog F.law16_sync [.agg #[.int .i64 x9.1, .int .i64 x9.2.1, .int .i64 x9.2.2.1, .int .i64 x9.2.2.2.1, .int .u16 x9.2.2.2.2.1, .int .u16 x9.2.2.2.2.2.1, .int .i64 x9.2.2.2.2.2.2.1, .int .i64 x9.2.2.2.2.2.2.2.1, .int .i64 x9.2.2.2.2.2.2.2.2.1, .int .i64 x9.2.2.2.2.2.2.2.2.2.1, .int .i64 x9.2.2.2.2.2.2.2.2.2.2.1, .int .i64 x9.2.2.2.2.2.2.2.2.2.2.2.1, .int .i64 x9.2.2.2.2.2.2.2.2.2.2.2.2.1, .int .i64 x9.2.2.2.2.2.2.2.2.2.2.2.2.2.1]] w4 false [(true, [(.i .i64), (.i .i64), (.i .u16), (.i .u16), (.i .i64), (.i .i64)])] fun r10 w11 =>
alK [.int .i64 0, .int .i64 0, .int .u16 0, .int .u16 0, .int .i64 0, .int .i64 0] T.frame_Sync w11 fun p12 w13 =>
stN [.int .i64 r10.1.1, .int .i64 r10.1.2.1, .int .u16 r10.1.2.2.1, .int .u16 r10.1.2.2.2.1, .int .i64 r10.1.2.2.2.2.1, .int .i64 r10.1.2.2.2.2.2.1] p12 0 w13 fun w14 =>
ld1 (.i .i64) (p1.add 7) w14 fun x15 =>
LoopT (fun (self16 : ((Int) × (Int) × Unit) → World → Prop) (z17 : (Int) × (Int) × Unit) w18 => ∀ _ : Nat → Value,
brB (decide (z17.2.1 < (locals.2.1 : Int))) (
ixK locals.1 locals.2.1 z17.2.1 fun a19 =>
ld1 (.i .i64) (a19.add (z17.2.1.toNat * 1)) w18 fun x20 =>
brB (decide (x20 < 0)) (
R ((true, ()), ()) w18) (
brB (decide (x20 > 1099511627776)) (
R ((true, ()), ()) w18) (
ixK holds.1 holds.2.1 z17.2.1 fun a21 =>
ld1 (.i .i64) (a21.add (z17.2.1.toNat * 1)) w18 fun x22 =>
brB (decide (x22 < 0)) (
R ((true, ()), ()) w18) (
ixK holds.1 holds.2.1 z17.2.1 fun a23 =>
ld1 (.i .i64) (a23.add (z17.2.1.toNat * 1)) w18 fun x24 =>
brB (decide (x24 > 1073741824)) (
R ((true, ()), ()) w18) (
clS Try.prog F.law16_rules [.agg #[.int .i64 1000, .int .i64 0, .int .i64 1, .int .i64 10]] w18 false [(true, [(.i .i64), (.i .i64), (.i .i64), (.i .i64)])] fun r25 w26 =>
clS Try.prog F.flood_New [.int .i64 (IntKind.wrap .i64 (z17.2.1 + 1)), .agg #[.int .i64 r25.1.1, .int .i64 r25.1.2.1, .int .i64 r25.1.2.2.1, .int .i64 r25.1.2.2.2.1]] w26 true [(false, [.p]), (false, [(.i .i64)])] fun r27 w28 =>
brB (r27.2.1.1 != 0) (
R ((false, ()), ()) w28) (
ldN [(.i .i64), (.i .i64), (.i .u16), (.i .u16), (.i .i64), (.i .i64)] p12 0 w28 fun x29 =>
clS Try.prog F.flood_Flood_Hear [.pointer r27.1.1, .agg #[.int .i64 x29.1, .int .i64 x29.2.1, .int .u16 x29.2.2.1, .int .u16 x29.2.2.2.1, .int .i64 x29.2.2.2.2.1, .int .i64 x29.2.2.2.2.2.1], .int .i64 x20] w28 false [(false, [(.i .i64)])] fun r30 w31 =>
brB (r30.1.1 != 2) (
R ((false, ()), ()) w31) (
ixK holds.1 holds.2.1 z17.2.1 fun a32 =>
ld1 (.i .i64) (a32.add (z17.2.1.toNat * 1)) w31 fun x33 =>
clS Try.prog F.flood_Flood_Beat [.pointer r27.1.1, .int .i64 (IntKind.wrap .i64 (x20 + x33))] w31 true [(true, [(.i .i64), (.i .i64), (.i .u16), (.i .u16), (.i .i64), (.i .i64)]), (false, [.b])] fun r34 w35 =>
alK [.int .i64 0, .int .i64 0, .int .u16 0, .int .u16 0, .int .i64 0, .int .i64 0] T.frame_Sync w35 fun p36 w37 =>
stN [.int .i64 r34.1.1, .int .i64 r34.1.2.1, .int .u16 r34.1.2.2.1, .int .u16 r34.1.2.2.2.1, .int .i64 r34.1.2.2.2.2.1, .int .i64 r34.1.2.2.2.2.2.1] p36 0 w37 fun w38 =>
ixK holds.1 holds.2.1 z17.2.1 fun a39 =>
ld1 (.i .i64) (a39.add (z17.2.1.toNat * 1)) w38 fun x40 =>
ixK holds.1 holds.2.1 z17.2.1 fun a41 =>
ld1 (.i .i64) (a41.add (z17.2.1.toNat * 1)) w38 fun x42 =>
clS Try.prog F.flood_Flood_Time [.pointer r27.1.1, .int .i64 (IntKind.wrap .i64 (x20 + x42))] w38 true [(false, [(.i .i64)]), (false, [(.i .i64)]), (false, [(.i .i64)])] fun r43 w44 =>
brB (!r34.2.1.1) (
R ((false, ()), ()) w44) (
ld1 (.i .i64) (p36.add 5) w44 fun x45 =>
brB (x45 != (IntKind.wrap .i64 (z17.1 + x40))) (
R ((false, ()), ()) w44) (
ld1 (.i .i64) (p36.add 4) w44 fun x46 =>
brB (x46 != (IntKind.wrap .i64 (z17.2.1 + 1))) (
R ((false, ()), ()) w44) (
ld1 (.i .u16) (p36.add 3) w44 fun x47 =>
ld1 (.i .u16) (p1.add 5) w44 fun x48 =>
brB (x47 != x48) (
R ((false, ()), ()) w44) (
ld1 (.i .u16) (p36.add 2) w44 fun x49 =>
ld1 (.i .u16) (p1.add 4) w44 fun x50 =>
brB (x49 != x50) (
R ((false, ()), ()) w44) (
ld1 (.i .i64) (p36.add 1) w44 fun x51 =>
brB (x51 != 0) (
R ((false, ()), ()) w44) (
ld1 (.i .i64) p36 w44 fun x52 =>
brB (x52 != (IntKind.wrap .i64 (z17.2.1 + 1))) (
R ((false, ()), ()) w44) (
brB (r43.1.1 != (IntKind.wrap .i64 (z17.1 + x40))) (
R ((false, ()), ()) w44) (
brB (r43.2.1.1 != (IntKind.wrap .i64 (z17.2.1 + 1))) (
R ((false, ()), ()) w44) (
brB (r43.2.2.1.1 != 0) (
R ((false, ()), ()) w44) (
ldN [(.i .i64), (.i .i64), (.i .u16), (.i .u16), (.i .i64), (.i .i64)] p36 0 w44 fun x53 =>
stN [.int .i64 x53.1, .int .i64 x53.2.1, .int .u16 x53.2.2.1, .int .u16 x53.2.2.2.1, .int .i64 x53.2.2.2.2.1, .int .i64 x53.2.2.2.2.2.1] p12 0 w44 fun w54 =>
self16 (IntKind.wrap .i64 (z17.1 + x40), IntKind.wrap .i64 (z17.2.1 + 1), ()) w54))))))))))))))))) (
R ((true, ()), ()) w18)) (x15, 0, ()) w14)))))))
set_option maxRecDepth 100000 in
theorem law16_FloodChain.eq (word0 : Int) (word1 : Int) (word2 : Int) (word3 : Int) (word4 : Int) (word5 : Int) (word6 : Int) (word7 : Int) (word8 : Int) (word9 : Int) (word10 : Int) (word11 : Int) (word12 : Int) (word13 : Int) (locals : Option Addr × Nat × Nat) (holds : Option Addr × Nat × Nat) (w : World) (R : Value → World → Prop) : wpF Try.prog Try.f7 (.s .n (.s .n (.s .n (.s .n (.s .n (.s (.s .n (.lp [(8, (.i .i64)), (56, (.i .i64))] .n)) .n)))))) [.agg #[.int .i64 word0, .int .i64 word1, .int .i64 word2, .int .i64 word3, .int .u16 word4, .int .u16 word5, .int .i64 word6, .int .i64 word7, .int .i64 word8, .int .i64 word9, .int .i64 word10, .int .i64 word11, .int .i64 word12, .int .i64 word13], .slice locals.1 locals.2.1 locals.2.2, .slice holds.1 holds.2.1 holds.2.2] w R = law16_FloodChain.wp word0 word1 word2 word3 word4 word5 word6 word7 word8 word9 word10 word11 word12 word13 locals holds w (fun r w => R (encR false [(false, [.b])] r) w) := by kernel_rfl
theorem law16_FloodChain.ok {word0 : Int} {word1 : Int} {word2 : Int} {word3 : Int} {word4 : Int} {word5 : Int} {word6 : Int} {word7 : Int} {word8 : Int} {word9 : Int} {word10 : Int} {word11 : Int} {word12 : Int} {word13 : Int} {locals : Option Addr × Nat × Nat} {holds : Option Addr × Nat × Nat} {w : World} {R : TR [(false, [.b])] → World → Prop} (h : law16_FloodChain.wp word0 word1 word2 word3 word4 word5 word6 word7 word8 word9 word10 word11 word12 word13 locals holds w R) : clS Try.prog F.law16_FloodChain [.agg #[.int .i64 word0, .int .i64 word1, .int .i64 word2, .int .i64 word3, .int .u16 word4, .int .u16 word5, .int .i64 word6, .int .i64 word7, .int .i64 word8, .int .i64 word9, .int .i64 word10, .int .i64 word11, .int .i64 word12, .int .i64 word13], .slice locals.1 locals.2.1 locals.2.2, .slice holds.1 holds.2.1 holds.2.2] w false [(false, [.b])] R :=
  ok_of Try_follows Try.func7 (fun R => law16_FloodChain.wp word0 word1 word2 word3 word4 word5 word6 word7 word8 word9 word10 word11 word12 word13 locals holds w R) (law16_FloodChain.eq word0 word1 word2 word3 word4 word5 word6 word7 word8 word9 word10 word11 word12 word13 locals holds w) rfl h
end Go.Proofs.Ytgpgdhopmifbpaa
