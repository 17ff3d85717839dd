import Derived.Test.YtahojpppjpfjmaaGreatNm
namespace Go.Proofs.YtahojpppjpfjmaaGreat
open Go.Eng
set_option linter.unusedVariables false
/-! ### law19_SourceDoes -/
set_option maxRecDepth 100000 in
def law19_SourceDoes.wp (me : Int) (r0 : Int) (r1 : Int) (r2 : Int) (r3 : Int) (limit : Int) (script : Option Addr × Nat × Nat) (w : World) (R : TR [(false, [.b])] → World → Prop) : Prop :=
alK [.int .i64 r0, .int .i64 r1, .int .i64 r2, .int .i64 r3] T.law19_Rule w fun p1 w2 =>
clS Tryz.prog F.law19_alive [] w2 false [(false, [.b])] fun r3 w4 =>
brB (!r3.1.1) (
R ((false, ()), ()) w4) (
brB (decide ((script.2.1 : Int) > 200)) (
R ((true, ()), ()) w4) (
ld1 (.i .i64) p1 w4 fun x5 =>
ld1 (.i .i64) (p1.add 1) w4 fun x6 =>
ld1 (.i .i64) (p1.add 2) w4 fun x7 =>
ld1 (.i .i64) (p1.add 3) w4 fun x8 =>
clS Tryz.prog F.ref16_Good [.int .i64 me, .int .i64 x5, .int .i64 x6, .int .i64 x7, .int .i64 x8] w4 false [(false, [.b])] fun r9 w10 =>
brB (!r9.1.1) (
R ((true, ()), ()) w10) (
clS Tryz.prog F.source_New [.int .i64 limit] w10 true [(false, [.p]), (false, [(.i .i64)])] fun r11 w12 =>
ldN [(.i .i64), (.i .i64), (.i .i64), (.i .i64)] p1 0 w12 fun x13 =>
clS Tryz.prog F.law19_rules [.agg #[.int .i64 x13.1, .int .i64 x13.2.1, .int .i64 x13.2.2.1, .int .i64 x13.2.2.2.1]] w12 false [(true, [(.i .i64), (.i .i64), (.i .i64), (.i .i64)])] fun r14 w15 =>
clS Tryz.prog F.flood_New [.int .i64 me, .agg #[.int .i64 r14.1.1, .int .i64 r14.1.2.1, .int .i64 r14.1.2.2.1, .int .i64 r14.1.2.2.2.1]] w15 true [(false, [.p]), (false, [(.i .i64)])] fun r16 w17 =>
clS Tryz.prog F.source_Source_Drop [.pointer none] w17 true [] fun r18 w19 =>
clS Tryz.prog F.source_Source_Beat [.pointer none] w19 true [] fun r20 w21 =>
clS Tryz.prog F.source_Source_Time [.pointer none, .pointer r16.1.1, .int .i64 1] w21 true [(true, [(.i .i64), (.i .i64), (.i .i64), (.i .u16), (.i .i64)]), (false, [(.i .i64)])] fun r22 w23 =>
alK [.int .i64 0, .int .i64 0, .int .i64 0, .int .u16 0, .int .i64 0] T.source_Answer w23 fun p24 w25 =>
stN [.int .i64 r22.1.1, .int .i64 r22.1.2.1, .int .i64 r22.1.2.2.1, .int .u16 r22.1.2.2.2.1, .int .i64 r22.1.2.2.2.2.1] p24 0 w25 fun w26 =>
brB (r22.2.1.1 != 2) (
R ((false, ()), ()) w26) (
clS Tryz.prog F.source_Source_Fresh [.pointer none] w26 false [(false, [.b])] fun r27 w28 =>
brB r27.1.1 (
R ((false, ()), ()) w28) (
clS Tryz.prog F.source_Source_Put [.pointer none, .agg #[.int .i64 0, .int .i64 0, .int .i64 1], .agg #[.int .i64 0, .int .u16 0]] w28 false [(false, [(.i .i64)])] fun r29 w30 =>
brB (r29.1.1 != 2) (
R ((false, ()), ()) w30) (
brB (r16.2.1.1 != 0) (
R ((false, ()), ()) w30) (
CutT (fun (J31 : ((Bool) × Unit) → World → Prop) =>
brB (decide (limit < 1)) (
J31 (true, ()) w30) (
J31 (decide (limit > 1000), ()) w30)) (fun (z32 : (Bool) × Unit) w33 => ∀ _ : Nat → Value,
brB z32.1 (
brB (Option.isNone r11.1.1) (
R (((r11.2.1.1 == 1), ()), ()) w33) (
R ((false, ()), ()) w33)) (
clS Tryz.prog F.source_Source_Time [.pointer r11.1.1, .pointer none, .int .i64 1] w33 true [(true, [(.i .i64), (.i .i64), (.i .i64), (.i .u16), (.i .i64)]), (false, [(.i .i64)])] fun r34 w35 =>
brB (r34.2.1.1 != 2) (
R ((false, ()), ()) w35) (
brB (r11.2.1.1 != 0) (
R ((false, ()), ()) w35) (
alK [.int .i64 limit, .int .i64 0, .int .i64 0, .int .i64 0, .int .i64 0, .int .u16 0, .int .i64 0, .bool false] T.ref19_Source w35 fun p36 w37 =>
ld1 (.i .i64) p1 w37 fun x38 =>
ld1 (.i .i64) (p1.add 1) w37 fun x39 =>
ld1 (.i .i64) (p1.add 2) w37 fun x40 =>
ld1 (.i .i64) (p1.add 3) w37 fun x41 =>
clS Tryz.prog F.ref16_New [.int .i64 me, .int .i64 x38, .int .i64 x39, .int .i64 x40, .int .i64 x41, .int .u16 0] w37 false [(false, [.p])] fun r42 w43 =>
LoopT (fun (self44 : ((Int) × Unit) → World → Prop) (z45 : (Int) × Unit) w46 => ∀ _ : Nat → Value,
brB (decide (z45.1 < (script.2.1 : Int))) (
ixK script.1 script.2.1 z45.1 fun a47 =>
ldN [(.i .i64), (.i .i64), (.i .i64), (.i .i64), (.i .i64), (.i .i64), (.i .u16), (.i .u16), (.i .i64), (.i .i64), (.i .i64), (.i .i64), (.i .i64), (.i .i64), (.i .i64), (.i .i64), (.i .i64), (.i .i64), (.i .i64)] (a47.add (z45.1.toNat * 19)) 0 w46 fun x48 =>
alK [.int .i64 0, .int .i64 0, .int .i64 0, .int .i64 0, .int .i64 0, .int .i64 0, .int .u16 0, .int .u16 0, .int .i64 0, .int .i64 0, .int .i64 0, .int .i64 0, .int .i64 0, .int .i64 0, .int .i64 0, .int .i64 0, .int .i64 0, .int .i64 0, .int .i64 0] T.law19_Call w46 fun p49 w50 =>
stN [.int .i64 x48.1, .int .i64 x48.2.1, .int .i64 x48.2.2.1, .int .i64 x48.2.2.2.1, .int .i64 x48.2.2.2.2.1, .int .i64 x48.2.2.2.2.2.1, .int .u16 x48.2.2.2.2.2.2.1, .int .u16 x48.2.2.2.2.2.2.2.1, .int .i64 x48.2.2.2.2.2.2.2.2.1, .int .i64 x48.2.2.2.2.2.2.2.2.2.1, .int .i64 x48.2.2.2.2.2.2.2.2.2.2.1, .int .i64 x48.2.2.2.2.2.2.2.2.2.2.2.1, .int .i64 x48.2.2.2.2.2.2.2.2.2.2.2.2.1, .int .i64 x48.2.2.2.2.2.2.2.2.2.2.2.2.2.1, .int .i64 x48.2.2.2.2.2.2.2.2.2.2.2.2.2.2.1, .int .i64 x48.2.2.2.2.2.2.2.2.2.2.2.2.2.2.2.1, .int .i64 x48.2.2.2.2.2.2.2.2.2.2.2.2.2.2.2.2.1, .int .i64 x48.2.2.2.2.2.2.2.2.2.2.2.2.2.2.2.2.2.1, .int .i64 x48.2.2.2.2.2.2.2.2.2.2.2.2.2.2.2.2.2.2.1] p49 0 w50 fun w51 =>
CutT (fun (J52 : Unit → World → Prop) =>
ld1 (.i .i64) p49 w51 fun x55 =>
CutT (fun (J56 : ((Bool) × Unit) → World → Prop) =>
brB (x55 == 0) (
J56 ((x55 == 0), ()) w51) (
J56 ((x55 == 1), ()) w51)) (fun (z57 : (Bool) × Unit) w58 => ∀ _ : Nat → Value,
brB z57.1 (
ldN [(.i .i64), (.i .i64), (.i .i64), (.i .i64), (.i .u16), (.i .u16), (.i .i64), (.i .i64), (.i .i64), (.i .i64), (.i .i64), (.i .i64), (.i .i64), (.i .i64)] (p49.add 2) 0 w58 fun x59 =>
alK [.int .i64 0, .int .i64 0, .int .i64 0, .int .i64 0, .int .u16 0, .int .u16 0, .int .i64 0, .int .i64 0, .int .i64 0, .int .i64 0, .int .i64 0, .int .i64 0, .int .i64 0, .int .i64 0] T.ref05_Plain w58 fun p60 w61 =>
stN [.int .i64 x59.1, .int .i64 x59.2.1, .int .i64 x59.2.2.1, .int .i64 x59.2.2.2.1, .int .u16 x59.2.2.2.2.1, .int .u16 x59.2.2.2.2.2.1, .int .i64 x59.2.2.2.2.2.2.1, .int .i64 x59.2.2.2.2.2.2.2.1, .int .i64 x59.2.2.2.2.2.2.2.2.1, .int .i64 x59.2.2.2.2.2.2.2.2.2.1, .int .i64 x59.2.2.2.2.2.2.2.2.2.2.1, .int .i64 x59.2.2.2.2.2.2.2.2.2.2.2.1, .int .i64 x59.2.2.2.2.2.2.2.2.2.2.2.2.1, .int .i64 x59.2.2.2.2.2.2.2.2.2.2.2.2.2.1] p60 0 w61 fun w62 =>
ld1 (.i .i64) (p60.add 1) w62 fun x63 =>
ld1 (.i .i64) (p60.add 3) w62 fun x64 =>
ld1 (.i .u16) (p60.add 4) w62 fun x65 =>
ld1 (.i .u16) (p60.add 5) w62 fun x66 =>
ld1 (.i .i64) (p60.add 6) w62 fun x67 =>
ld1 (.i .i64) (p60.add 7) w62 fun x68 =>
ld1 (.i .i64) (p49.add 1) w62 fun x69 =>
clS Tryz.prog F.flood_Flood_Hear [.pointer r16.1.1, .agg #[.int .i64 x63, .int .i64 x64, .int .u16 x65, .int .u16 x66, .int .i64 x67, .int .i64 x68], .int .i64 x69] w62 false [(false, [(.i .i64)])] fun r70 w71 =>
ldN [(.i .i64), (.i .i64), (.i .i64), (.i .i64), (.i .u16), (.i .u16), (.i .i64), (.i .i64), (.i .i64), (.i .i64), (.i .i64), (.i .i64), (.i .i64), (.i .i64)] p60 0 w71 fun x72 =>
ld1 (.i .i64) (p49.add 1) w71 fun x73 =>
clS Tryz.prog F.ref16_Flood_Hear [.pointer r42.1.1, .agg #[.int .i64 x72.1, .int .i64 x72.2.1, .int .i64 x72.2.2.1, .int .i64 x72.2.2.2.1, .int .u16 x72.2.2.2.2.1, .int .u16 x72.2.2.2.2.2.1, .int .i64 x72.2.2.2.2.2.2.1, .int .i64 x72.2.2.2.2.2.2.2.1, .int .i64 x72.2.2.2.2.2.2.2.2.1, .int .i64 x72.2.2.2.2.2.2.2.2.2.1, .int .i64 x72.2.2.2.2.2.2.2.2.2.2.1, .int .i64 x72.2.2.2.2.2.2.2.2.2.2.2.1, .int .i64 x72.2.2.2.2.2.2.2.2.2.2.2.2.1, .int .i64 x72.2.2.2.2.2.2.2.2.2.2.2.2.2.1], .int .i64 x73] w71 false [(false, [(.i .i64)])] fun r74 w75 =>
J52 (()) w75) (
brB (x55 == 2) (
ld1 (.i .i64) (p49.add 1) w58 fun x76 =>
clS Tryz.prog F.flood_Flood_Beat [.pointer r16.1.1, .int .i64 x76] w58 true [(true, [(.i .i64), (.i .i64), (.i .u16), (.i .u16), (.i .i64), (.i .i64)]), (false, [.b])] fun r77 w78 =>
ld1 (.i .i64) (p49.add 1) w78 fun x79 =>
clS Tryz.prog F.ref16_Flood_Beat [.pointer r42.1.1, .int .i64 x79] w78 false [(true, [(.i .i64), (.i .i64), (.i .i64), (.i .i64), (.i .u16), (.i .u16), (.i .i64), (.i .i64), (.i .i64), (.i .i64), (.i .i64), (.i .i64), (.i .i64), (.i .i64)])] fun r80 w81 =>
clS Tryz.prog F.source_Source_Beat [.pointer r11.1.1] w81 true [] fun r82 w83 =>
clS Tryz.prog F.ref19_Source_Beat [.pointer (some p36)] w83 true [] fun r84 w85 =>
J52 (()) w85) (
brB (x55 == 3) (
drK w58 fun w86 =>
ldN [(.i .i64), (.i .i64), (.i .i64)] (p49.add 16) 0 w86 fun x87 =>
ld1 (.i .i64) ((p49.add 2).add 3) w86 fun x88 =>
ld1 (.i .u16) ((p49.add 2).add 4) w86 fun x89 =>
ldN [(.i .i64), (.i .i64), (.i .i64)] (p49.add 16) 0 w86 fun x90 =>
ld1 (.i .i64) ((p49.add 2).add 3) w86 fun x91 =>
ld1 (.i .u16) ((p49.add 2).add 4) w86 fun x92 =>
clS Tryz.prog F.source_Source_Put [.pointer r11.1.1, .agg #[.int .i64 x87.1, .int .i64 x87.2.1, .int .i64 x87.2.2.1], .agg #[.int .i64 x88, .int .u16 x89]] w86 false [(false, [(.i .i64)])] fun r93 w94 =>
Hold [(19, ((p49.add 2).add 4), (w86.cell? ((p49.add 2).add 4)).getD undef), (16, ((p49.add 2).add 3), (w86.cell? ((p49.add 2).add 3)).getD undef), (13, ((p49.add 16).add 0), (w86.cell? ((p49.add 16).add 0)).getD undef), (13, ((p49.add 16).add 1), (w86.cell? ((p49.add 16).add 1)).getD undef), (13, ((p49.add 16).add 2), (w86.cell? ((p49.add 16).add 2)).getD undef), (8, ((p49.add 2).add 4), (w86.cell? ((p49.add 2).add 4)).getD undef), (5, ((p49.add 2).add 3), (w86.cell? ((p49.add 2).add 3)).getD undef), (2, ((p49.add 16).add 0), (w86.cell? ((p49.add 16).add 0)).getD undef), (2, ((p49.add 16).add 1), (w86.cell? ((p49.add 16).add 1)).getD undef), (2, ((p49.add 16).add 2), (w86.cell? ((p49.add 16).add 2)).getD undef)] w94 ∧ (
clS Tryz.prog F.ref19_Source_Put [.pointer (some p36), .agg #[.int .i64 x90.1, .int .i64 x90.2.1, .int .i64 x90.2.2.1], .int .i64 x91, .int .u16 x92] w94 false [(false, [(.i .i64)])] fun r95 w96 =>
Hold [(8, ((p49.add 2).add 4), (w86.cell? ((p49.add 2).add 4)).getD undef), (5, ((p49.add 2).add 3), (w86.cell? ((p49.add 2).add 3)).getD undef), (2, ((p49.add 16).add 0), (w86.cell? ((p49.add 16).add 0)).getD undef), (2, ((p49.add 16).add 1), (w86.cell? ((p49.add 16).add 1)).getD undef), (2, ((p49.add 16).add 2), (w86.cell? ((p49.add 16).add 2)).getD undef)] w96 ∧ (
brB (r93.1.1 != r95.1.1) (
R ((false, ()), ()) w96) (
J52 (()) w96)))) (
brB (x55 == 4) (
clS Tryz.prog F.source_Source_Drop [.pointer r11.1.1] w58 true [] fun r97 w98 =>
stN [.bool false] (p36.add 7) 0 w98 fun w99 =>
J52 (()) w99) (
J52 (()) w58)))))) (fun (z53 : Unit) w54 => ∀ _ : Nat → Value,
ld1 (.i .i64) (p49.add 1) w54 fun x100 =>
clS Tryz.prog F.source_Source_Time [.pointer r11.1.1, .pointer r16.1.1, .int .i64 x100] w54 true [(true, [(.i .i64), (.i .i64), (.i .i64), (.i .u16), (.i .i64)]), (false, [(.i .i64)])] fun r101 w102 =>
alK [.int .i64 0, .int .i64 0, .int .i64 0, .int .u16 0, .int .i64 0] T.source_Answer w102 fun p103 w104 =>
stN [.int .i64 r101.1.1, .int .i64 r101.1.2.1, .int .i64 r101.1.2.2.1, .int .u16 r101.1.2.2.2.1, .int .i64 r101.1.2.2.2.2.1] p103 0 w104 fun w105 =>
ld1 (.i .i64) (p49.add 1) w105 fun x106 =>
clS Tryz.prog F.ref19_Source_Time [.pointer (some p36), .pointer r42.1.1, .int .i64 x106] w105 true [(true, [(.i .i64), (.i .i64), (.i .i64), (.i .u16), (.i .i64)]), (false, [(.i .i64)])] fun r107 w108 =>
alK [.int .i64 0, .int .i64 0, .int .i64 0, .int .u16 0, .int .i64 0] T.ref19_Answer w108 fun p109 w110 =>
stN [.int .i64 r107.1.1, .int .i64 r107.1.2.1, .int .i64 r107.1.2.2.1, .int .u16 r107.1.2.2.2.1, .int .i64 r107.1.2.2.2.2.1] p109 0 w110 fun w111 =>
drK w111 fun w112 =>
ldN [(.i .i64), (.i .i64), (.i .i64), (.i .u16), (.i .i64)] p103 0 w112 fun x113 =>
ldN [(.i .i64), (.i .i64), (.i .i64), (.i .u16), (.i .i64)] p109 0 w112 fun x114 =>
clS Tryz.prog F.law19_same [.agg #[.int .i64 x113.1, .int .i64 x113.2.1, .int .i64 x113.2.2.1, .int .u16 x113.2.2.2.1, .int .i64 x113.2.2.2.2.1], .agg #[.int .i64 x114.1, .int .i64 x114.2.1, .int .i64 x114.2.2.1, .int .u16 x114.2.2.2.1, .int .i64 x114.2.2.2.2.1]] w112 false [(false, [.b])] fun r115 w116 =>
Hold [(1, (p109.add 0), (w112.cell? (p109.add 0)).getD undef), (1, (p109.add 1), (w112.cell? (p109.add 1)).getD undef), (1, (p109.add 2), (w112.cell? (p109.add 2)).getD undef), (1, (p109.add 3), (w112.cell? (p109.add 3)).getD undef), (1, (p109.add 4), (w112.cell? (p109.add 4)).getD undef), (0, (p103.add 0), (w112.cell? (p103.add 0)).getD undef), (0, (p103.add 1), (w112.cell? (p103.add 1)).getD undef), (0, (p103.add 2), (w112.cell? (p103.add 2)).getD undef), (0, (p103.add 3), (w112.cell? (p103.add 3)).getD undef), (0, (p103.add 4), (w112.cell? (p103.add 4)).getD undef)] w116 ∧ (
brB (!r115.1.1) (
R ((false, ()), ()) w116) (
brB (r101.2.1.1 != r107.2.1.1) (
R ((false, ()), ()) w116) (
ld1 .b (p36.add 7) w116 fun x117 =>
clS Tryz.prog F.source_Source_Fresh [.pointer r11.1.1] w116 false [(false, [.b])] fun r118 w119 =>
Hold [(15, (p36.add 7), (w116.cell? (p36.add 7)).getD undef), (1, (p109.add 0), (w112.cell? (p109.add 0)).getD undef), (1, (p109.add 1), (w112.cell? (p109.add 1)).getD undef), (1, (p109.add 2), (w112.cell? (p109.add 2)).getD undef), (1, (p109.add 3), (w112.cell? (p109.add 3)).getD undef), (1, (p109.add 4), (w112.cell? (p109.add 4)).getD undef), (0, (p103.add 0), (w112.cell? (p103.add 0)).getD undef), (0, (p103.add 1), (w112.cell? (p103.add 1)).getD undef), (0, (p103.add 2), (w112.cell? (p103.add 2)).getD undef), (0, (p103.add 3), (w112.cell? (p103.add 3)).getD undef), (0, (p103.add 4), (w112.cell? (p103.add 4)).getD undef)] w119 ∧ (
brB (!(r118.1.1 == x117)) (
R ((false, ()), ()) w119) (
self44 (IntKind.wrap .i64 (z45.1 + 1), ()) w119))))))) (
R ((true, ()), ()) w46)) (0, ()) w43)))))))))))
set_option maxRecDepth 100000 in
theorem law19_SourceDoes.eq (me : Int) (r0 : Int) (r1 : Int) (r2 : Int) (r3 : Int) (limit : Int) (script : Option Addr × Nat × Nat) (w : World) (R : Value → World → Prop) : wpF Tryz.prog Tryz.f3 (.s .n (.s .n (.s .n (.s .n (.s .n (.s .n (.s .n (.s .n (.s .n (.s .n (.s (.ct [(87, .b)] .n .n) (.s .n (.s .n (.s .n (.s .n (.s (.s .n (.lp [(120, (.i .i64))] (.s .n (.s .n (.s (.s .n (.ct [] (.s .n (.ct [(126, .b)] .n (.s .n (.s .n (.s .n (.s .n (.s (.s (.pl (.tk 0 (.tk 1 (.tk 2 (.tk 3 (.tk 4 (.tk 5 (.tk 6 (.tk 7 (.tk 8 (.tk 9 (.tk 11 (.tk 12 (.tk 13 (.tk 14 (.tk 15 (.tk 16 (.tk 17 (.tk 18 (.tk 19 (.ef 10 [] (.ef 20 [13, 16, 19] (.tk 21 .z))))))))))))))))))))))) .n) .n))))))) (.s .n (.s .n (.s (.pl (.tk 0 (.tk 1 (.ef 2 [] (.tk 3 (.tk 4 (.tk 5 (.tk 6 (.tk 7 (.tk 8 (.tk 9 (.tk 10 (.tk 12 (.tk 13 (.tk 14 (.tk 15 (.ef 11 [] (.tk 16 (.tk 17 .z))))))))))))))))))) .n))))) .n))))) .n)))))))))))))))) [.int .i64 me, .agg #[.int .i64 r0, .int .i64 r1, .int .i64 r2, .int .i64 r3], .int .i64 limit, .slice script.1 script.2.1 script.2.2] w R = law19_SourceDoes.wp me r0 r1 r2 r3 limit script w (fun r w => R (encR false [(false, [.b])] r) w) := by kernel_rfl
theorem law19_SourceDoes.ok {me : Int} {r0 : Int} {r1 : Int} {r2 : Int} {r3 : Int} {limit : Int} {script : Option Addr × Nat × Nat} {w : World} {R : TR [(false, [.b])] → World → Prop} (h : law19_SourceDoes.wp me r0 r1 r2 r3 limit script w R) : clS Tryz.prog F.law19_SourceDoes [.int .i64 me, .agg #[.int .i64 r0, .int .i64 r1, .int .i64 r2, .int .i64 r3], .int .i64 limit, .slice script.1 script.2.1 script.2.2] w false [(false, [.b])] R :=
  ok_of Tryz_follows Tryz.func3 (fun R => law19_SourceDoes.wp me r0 r1 r2 r3 limit script w R) (law19_SourceDoes.eq me r0 r1 r2 r3 limit script w) rfl h
/-! ### law19_alive -/
set_option maxRecDepth 100000 in
def law19_alive.wp  (w : World) (R : TR [(false, [.b])] → World → Prop) : Prop :=
clS Tryz.prog F.source_New [.int .i64 2] w true [(false, [.p]), (false, [(.i .i64)])] fun r1 w2 =>
clS Tryz.prog F.flood_New [.int .i64 5, .agg #[.int .i64 9, .int .i64 0, .int .i64 1, .int .i64 0]] w2 true [(false, [.p]), (false, [(.i .i64)])] fun r3 w4 =>
clS Tryz.prog F.source_Source_Put [.pointer r1.1.1, .agg #[.int .i64 100, .int .i64 50, .int .i64 2], .agg #[.int .i64 3, .int .u16 7]] w4 false [(false, [(.i .i64)])] fun r5 w6 =>
clS Tryz.prog F.source_Source_Time [.pointer r1.1.1, .pointer r3.1.1, .int .i64 110] w6 true [(true, [(.i .i64), (.i .i64), (.i .i64), (.i .u16), (.i .i64)]), (false, [(.i .i64)])] fun r7 w8 =>
alK [.int .i64 0, .int .i64 0, .int .i64 0, .int .u16 0, .int .i64 0] T.source_Answer w8 fun p9 w10 =>
stN [.int .i64 r7.1.1, .int .i64 r7.1.2.1, .int .i64 r7.1.2.2.1, .int .u16 r7.1.2.2.2.1, .int .i64 r7.1.2.2.2.2.1] p9 0 w10 fun w11 =>
brB (r1.2.1.1 == 0) (
brB (r3.2.1.1 == 0) (
brB (r5.1.1 == 0) (
brB (r7.2.1.1 == 0) (
ld1 (.i .i64) p9 w11 fun x12 =>
brB (x12 == 160) (
ld1 (.i .i64) (p9.add 1) w11 fun x13 =>
brB (x13 == 2) (
ld1 (.i .i64) (p9.add 2) w11 fun x14 =>
brB (x14 == 3) (
ld1 (.i .i64) (p9.add 4) w11 fun x15 =>
R (((x15 == 3), ()), ()) w11) (
R ((false, ()), ()) w11)) (
R ((false, ()), ()) w11)) (
R ((false, ()), ()) w11)) (
R ((false, ()), ()) w11)) (
R ((false, ()), ()) w11)) (
R ((false, ()), ()) w11)) (
R ((false, ()), ()) w11)
set_option maxRecDepth 100000 in
theorem law19_alive.eq  (w : World) (R : Value → World → Prop) : wpF Tryz.prog Tryz.f4 .n [] w R = law19_alive.wp  w (fun r w => R (encR false [(false, [.b])] r) w) := by kernel_rfl
theorem law19_alive.ok  {w : World} {R : TR [(false, [.b])] → World → Prop} (h : law19_alive.wp  w R) : clS Tryz.prog F.law19_alive [] w false [(false, [.b])] R :=
  ok_of Tryz_follows Tryz.func4 (fun R => law19_alive.wp  w R) (law19_alive.eq  w) rfl h
/-! ### ref16_Good -/
set_option maxRecDepth 100000 in
def ref16_Good.wp (me : Int) (timeout : Int) (ignore : Int) (need : Int) (drift : Int) (w : World) (R : TR [(false, [.b])] → World → Prop) : Prop :=
clS Tryz.prog F.ref15_Good [.int .i64 me, .int .i64 timeout, .int .i64 ignore] w false [(false, [.b])] fun r1 w2 =>
brB r1.1.1 (
brB (decide (need ≥ 1)) (
brB (decide (need ≤ 8)) (
brB (decide (drift ≥ 0)) (
R ((decide (drift ≤ 10), ()), ()) w2) (
R ((false, ()), ()) w2)) (
R ((false, ()), ()) w2)) (
R ((false, ()), ()) w2)) (
R ((false, ()), ()) w2)
set_option maxRecDepth 100000 in
theorem ref16_Good.eq (me : Int) (timeout : Int) (ignore : Int) (need : Int) (drift : Int) (w : World) (R : Value → World → Prop) : wpF Tryz.prog Tryz.f5 .n [.int .i64 me, .int .i64 timeout, .int .i64 ignore, .int .i64 need, .int .i64 drift] w R = ref16_Good.wp me timeout ignore need drift w (fun r w => R (encR false [(false, [.b])] r) w) := by kernel_rfl
theorem ref16_Good.ok {me : Int} {timeout : Int} {ignore : Int} {need : Int} {drift : Int} {w : World} {R : TR [(false, [.b])] → World → Prop} (h : ref16_Good.wp me timeout ignore need drift w R) : clS Tryz.prog F.ref16_Good [.int .i64 me, .int .i64 timeout, .int .i64 ignore, .int .i64 need, .int .i64 drift] w false [(false, [.b])] R :=
  ok_of Tryz_follows Tryz.func5 (fun R => ref16_Good.wp me timeout ignore need drift w R) (ref16_Good.eq me timeout ignore need drift w) rfl h
/-! ### source_New -/
set_option maxRecDepth 100000 in
def source_New.wp (limit : Int) (w : World) (R : TR [(false, [.p]), (false, [(.i .i64)])] → World → Prop) : Prop :=
brB (decide (limit < 1)) (
R ((none, ()), (1, ()), ()) w) (
brB (decide (limit > 1000)) (
R ((none, ()), (1, ()), ()) w) (
alK [.int .i64 limit, .int .i64 0, .int .i64 0, .int .i64 0, .int .i64 0, .int .u16 0, .int .i64 0, .bool false] T.source_Source w fun p1 w2 =>
R ((some p1, ()), (0, ()), ()) w2))
set_option maxRecDepth 100000 in
theorem source_New.eq (limit : Int) (w : World) (R : Value → World → Prop) : wpF Tryz.prog Tryz.f6 .n [.int .i64 limit] w R = source_New.wp limit w (fun r w => R (encR true [(false, [.p]), (false, [(.i .i64)])] r) w) := by kernel_rfl
theorem source_New.ok {limit : Int} {w : World} {R : TR [(false, [.p]), (false, [(.i .i64)])] → World → Prop} (h : source_New.wp limit w R) : clS Tryz.prog F.source_New [.int .i64 limit] w true [(false, [.p]), (false, [(.i .i64)])] R :=
  ok_of Tryz_follows Tryz.func6 (fun R => source_New.wp limit w R) (source_New.eq limit w) rfl h
/-! ### flood_New -/
set_option maxRecDepth 100000 in
def flood_New.wp (me : Int) (r0 : Int) (r1 : Int) (r2 : Int) (r3 : Int) (w : World) (R : TR [(false, [.p]), (false, [(.i .i64)])] → World → Prop) : Prop :=
alK [.int .i64 r0, .int .i64 r1, .int .i64 r2, .int .i64 r3] T.flood_Rules w fun p1 w2 =>
ldN [(.i .i64), (.i .i64), (.i .i64), (.i .i64)] p1 0 w2 fun x3 =>
clS Tryz.prog F.flood_Rules_Good [.agg #[.int .i64 x3.1, .int .i64 x3.2.1, .int .i64 x3.2.2.1, .int .i64 x3.2.2.2.1]] w2 false [(false, [.b])] fun r4 w5 =>
brB (!r4.1.1) (
R ((none, ()), (1, ()), ()) w5) (
ldN [(.i .i64), (.i .i64)] p1 0 w5 fun x6 =>
clS Tryz.prog F.elect_New [.int .i64 me, .agg #[.int .i64 x6.1, .int .i64 x6.2.1]] w5 true [(false, [.p]), (false, [(.i .i64)])] fun r7 w8 =>
brB (r7.2.1.1 != 0) (
R ((none, ()), (r7.2.1.1, ()), ()) w8) (
ldN [(.i .i64), (.i .i64), (.i .i64), (.i .i64)] p1 0 w8 fun x9 =>
alK [.pointer r7.1.1, .int .i64 me, .int .i64 x9.1, .int .i64 x9.2.1, .int .i64 x9.2.2.1, .int .i64 x9.2.2.2.1, .slice none 0 0, .int .i64 0, .int .i64 0, .int .i64 0] T.flood_Flood w8 fun p10 w11 =>
R ((some p10, ()), (0, ()), ()) w11))
set_option maxRecDepth 100000 in
theorem flood_New.eq (me : Int) (r0 : Int) (r1 : Int) (r2 : Int) (r3 : Int) (w : World) (R : Value → World → Prop) : wpF Tryz.prog Tryz.f7 .n [.int .i64 me, .agg #[.int .i64 r0, .int .i64 r1, .int .i64 r2, .int .i64 r3]] w R = flood_New.wp me r0 r1 r2 r3 w (fun r w => R (encR true [(false, [.p]), (false, [(.i .i64)])] r) w) := by kernel_rfl
theorem flood_New.ok {me : Int} {r0 : Int} {r1 : Int} {r2 : Int} {r3 : Int} {w : World} {R : TR [(false, [.p]), (false, [(.i .i64)])] → World → Prop} (h : flood_New.wp me r0 r1 r2 r3 w R) : clS Tryz.prog F.flood_New [.int .i64 me, .agg #[.int .i64 r0, .int .i64 r1, .int .i64 r2, .int .i64 r3]] w true [(false, [.p]), (false, [(.i .i64)])] R :=
  ok_of Tryz_follows Tryz.func7 (fun R => flood_New.wp me r0 r1 r2 r3 w R) (flood_New.eq me r0 r1 r2 r3 w) rfl h
/-! ### law19_rules -/
set_option maxRecDepth 100000 in
def law19_rules.wp (r0 : Int) (r1 : Int) (r2 : Int) (r3 : Int) (w : World) (R : TR [(true, [(.i .i64), (.i .i64), (.i .i64), (.i .i64)])] → World → Prop) : Prop :=
alK [.int .i64 r0, .int .i64 r1, .int .i64 r2, .int .i64 r3] T.law19_Rule w fun p1 w2 =>
alK [.int .i64 0, .int .i64 0, .int .i64 0, .int .i64 0] T.flood_Rules w2 fun p3 w4 =>
ld1 (.i .i64) p1 w4 fun x5 =>
ld1 (.i .i64) (p1.add 1) w4 fun x6 =>
ld1 (.i .i64) (p1.add 2) w4 fun x7 =>
ld1 (.i .i64) (p1.add 3) w4 fun x8 =>
stN [.int .i64 x5, .int .i64 x6, .int .i64 x7, .int .i64 x8] p3 0 w4 fun w9 =>
ldN [(.i .i64), (.i .i64), (.i .i64), (.i .i64)] p3 0 w9 fun x10 =>
R ((x10.1, x10.2.1, x10.2.2.1, x10.2.2.2.1, ()), ()) w9
set_option maxRecDepth 100000 in
theorem law19_rules.eq (r0 : Int) (r1 : Int) (r2 : Int) (r3 : Int) (w : World) (R : Value → World → Prop) : wpF Tryz.prog Tryz.f8 .n [.agg #[.int .i64 r0, .int .i64 r1, .int .i64 r2, .int .i64 r3]] w R = law19_rules.wp r0 r1 r2 r3 w (fun r w => R (encR false [(true, [(.i .i64), (.i .i64), (.i .i64), (.i .i64)])] r) w) := by kernel_rfl
theorem law19_rules.ok {r0 : Int} {r1 : Int} {r2 : Int} {r3 : Int} {w : World} {R : TR [(true, [(.i .i64), (.i .i64), (.i .i64), (.i .i64)])] → World → Prop} (h : law19_rules.wp r0 r1 r2 r3 w R) : clS Tryz.prog F.law19_rules [.agg #[.int .i64 r0, .int .i64 r1, .int .i64 r2, .int .i64 r3]] w false [(true, [(.i .i64), (.i .i64), (.i .i64), (.i .i64)])] R :=
  ok_of Tryz_follows Tryz.func8 (fun R => law19_rules.wp r0 r1 r2 r3 w R) (law19_rules.eq r0 r1 r2 r3 w) rfl h
/-! ### source_Source_Drop -/
set_option maxRecDepth 100000 in
def source_Source_Drop.wp (s : Option Addr) (w : World) (R : TR [] → World → Prop) : Prop :=
brB (!(Option.isNone s)) (
ncK s fun a1 =>
ld1 (.i .i64) a1 w fun x2 =>
ncK s fun a3 =>
stN [.int .i64 x2, .int .i64 0, .int .i64 0, .int .i64 0, .int .i64 0, .int .u16 0, .int .i64 0, .bool false] a3 0 w fun w4 =>
R (()) w4) (
R (()) w)
set_option maxRecDepth 100000 in
theorem source_Source_Drop.eq (s : Option Addr) (w : World) (R : Value → World → Prop) : wpF Tryz.prog Tryz.f9 .n [.pointer s] w R = source_Source_Drop.wp s w (fun r w => R (encR true [] r) w) := by kernel_rfl
theorem source_Source_Drop.ok {s : Option Addr} {w : World} {R : TR [] → World → Prop} (h : source_Source_Drop.wp s w R) : clS Tryz.prog F.source_Source_Drop [.pointer s] w true [] R :=
  ok_of Tryz_follows Tryz.func9 (fun R => source_Source_Drop.wp s w R) (source_Source_Drop.eq s w) rfl h
/-! ### source_Source_Beat -/
set_option maxRecDepth 100000 in
def source_Source_Beat.wp (s : Option Addr) (w : World) (R : TR [] → World → Prop) : Prop :=
brB (Option.isNone s) (
R (()) w) (
ncK s fun a1 =>
ld1 .b (a1.add 7) w fun x2 =>
brB (!x2) (
R (()) w) (
ncK s fun a3 =>
ld1 (.i .i64) (a3.add 6) w fun x4 =>
ncK s fun a5 =>
stN [.int .i64 (IntKind.wrap .i64 (x4 + 1))] (a5.add 6) 0 w fun w6 =>
drK w6 fun w7 =>
ncK s fun a8 =>
ld1 (.i .i64) (a8.add 6) w7 fun x9 =>
ncK s fun a10 =>
ld1 (.i .i64) a10 w7 fun x11 =>
brB (decide (x9 ≥ x11)) (
clS Tryz.prog F.source_Source_Drop [.pointer s] w7 true [] fun r12 w13 =>
R (()) w13) (
R (()) w7)))
set_option maxRecDepth 100000 in
theorem source_Source_Beat.eq (s : Option Addr) (w : World) (R : Value → World → Prop) : wpF Tryz.prog Tryz.f10 (.s .n (.s .n (.s (.pl (.tk 0 (.tk 1 (.tk 2 (.tk 3 (.tk 4 (.tk 5 (.tk 6 (.tk 7 (.tk 8 .z)))))))))) .n))) [.pointer s] w R = source_Source_Beat.wp s w (fun r w => R (encR true [] r) w) := by kernel_rfl
theorem source_Source_Beat.ok {s : Option Addr} {w : World} {R : TR [] → World → Prop} (h : source_Source_Beat.wp s w R) : clS Tryz.prog F.source_Source_Beat [.pointer s] w true [] R :=
  ok_of Tryz_follows Tryz.func10 (fun R => source_Source_Beat.wp s w R) (source_Source_Beat.eq s w) rfl h
/-! ### source_Source_Time -/
set_option maxRecDepth 100000 in
def source_Source_Time.wp (s : Option Addr) (f : Option Addr) (local_ : Int) (w : World) (R : TR [(true, [(.i .i64), (.i .i64), (.i .i64), (.i .u16), (.i .i64)]), (false, [(.i .i64)])] → World → Prop) : Prop :=
alK [.int .i64 0, .int .i64 0, .int .i64 0, .int .u16 0, .int .i64 0] T.source_Answer w fun p1 w2 =>
CutT (fun (J3 : ((Bool) × Unit) → World → Prop) =>
brB (Option.isNone s) (
J3 (true, ()) w2) (
J3 ((Option.isNone f), ()) w2)) (fun (z4 : (Bool) × Unit) w5 => ∀ _ : Nat → Value,
brB z4.1 (
stN [.int .i64 0, .int .i64 0, .int .i64 0, .int .u16 0, .int .i64 0] p1 0 w5 fun w6 =>
ldN [(.i .i64), (.i .i64), (.i .i64), (.i .u16), (.i .i64)] p1 0 w6 fun x7 =>
R ((x7.1, x7.2.1, x7.2.2.1, x7.2.2.2.1, x7.2.2.2.2.1, ()), (2, ()), ()) w6) (
clS Tryz.prog F.flood_Flood_Synced [.pointer f] w5 false [(false, [.b])] fun r8 w9 =>
brB r8.1.1 (
clS Tryz.prog F.source_flooded [.pointer f, .int .i64 local_] w9 true [(true, [(.i .i64), (.i .i64), (.i .i64), (.i .u16), (.i .i64)]), (false, [(.i .i64)])] fun r10 w11 =>
stN [.int .i64 r10.1.1, .int .i64 r10.1.2.1, .int .i64 r10.1.2.2.1, .int .u16 r10.1.2.2.2.1, .int .i64 r10.1.2.2.2.2.1] p1 0 w11 fun w12 =>
ldN [(.i .i64), (.i .i64), (.i .i64), (.i .u16), (.i .i64)] p1 0 w12 fun x13 =>
R ((x13.1, x13.2.1, x13.2.2.1, x13.2.2.2.1, x13.2.2.2.2.1, ()), (r10.2.1.1, ()), ()) w12) (
ncK s fun a14 =>
ld1 .b (a14.add 7) w9 fun x15 =>
brB (!x15) (
stN [.int .i64 0, .int .i64 0, .int .i64 0, .int .u16 0, .int .i64 0] p1 0 w9 fun w16 =>
ldN [(.i .i64), (.i .i64), (.i .i64), (.i .u16), (.i .i64)] p1 0 w16 fun x17 =>
R ((x17.1, x17.2.1, x17.2.2.1, x17.2.2.2.1, x17.2.2.2.2.1, ()), (9, ()), ()) w16) (
brB (decide (local_ < 0)) (
stN [.int .i64 0, .int .i64 0, .int .i64 0, .int .u16 0, .int .i64 0] p1 0 w9 fun w18 =>
ldN [(.i .i64), (.i .i64), (.i .i64), (.i .u16), (.i .i64)] p1 0 w18 fun x19 =>
R ((x19.1, x19.2.1, x19.2.2.1, x19.2.2.2.1, x19.2.2.2.2.1, ()), (8, ()), ()) w18) (
brB (decide (local_ > 1125899906842624)) (
stN [.int .i64 0, .int .i64 0, .int .i64 0, .int .u16 0, .int .i64 0] p1 0 w9 fun w20 =>
ldN [(.i .i64), (.i .i64), (.i .i64), (.i .u16), (.i .i64)] p1 0 w20 fun x21 =>
R ((x21.1, x21.2.1, x21.2.2.1, x21.2.2.2.1, x21.2.2.2.2.1, ()), (8, ()), ()) w20) (
ncK s fun a22 =>
ld1 (.i .i64) ((a22.add 1).add 1) w9 fun x23 =>
brB (decide ((IntKind.wrap .i64 (local_ + x23)) < 0)) (
stN [.int .i64 0, .int .i64 0, .int .i64 0, .int .u16 0, .int .i64 0] p1 0 w9 fun w24 =>
ldN [(.i .i64), (.i .i64), (.i .i64), (.i .u16), (.i .i64)] p1 0 w24 fun x25 =>
R ((x25.1, x25.2.1, x25.2.2.1, x25.2.2.2.1, x25.2.2.2.2.1, ()), (8, ()), ()) w24) (
brB (decide ((IntKind.wrap .i64 (local_ + x23)) > 1125899906842624)) (
stN [.int .i64 0, .int .i64 0, .int .i64 0, .int .u16 0, .int .i64 0] p1 0 w9 fun w26 =>
ldN [(.i .i64), (.i .i64), (.i .i64), (.i .u16), (.i .i64)] p1 0 w26 fun x27 =>
R ((x27.1, x27.2.1, x27.2.2.1, x27.2.2.2.1, x27.2.2.2.2.1, ()), (8, ()), ()) w26) (
drK w9 fun w28 =>
ncK s fun a29 =>
ld1 (.i .i64) ((a29.add 1).add 2) w28 fun x30 =>
ncK s fun a31 =>
ldN [(.i .i64), (.i .u16)] (a31.add 4) 0 w28 fun x32 =>
stN [.int .i64 (IntKind.wrap .i64 (local_ + x23)), .int .i64 x30, .int .i64 x32.1, .int .u16 x32.2.1, .int .i64 3] p1 0 w28 fun w33 =>
Hold [] w33 ∧ (
ldN [(.i .i64), (.i .i64), (.i .i64), (.i .u16), (.i .i64)] p1 0 w33 fun x34 =>
R ((x34.1, x34.2.1, x34.2.2.1, x34.2.2.2.1, x34.2.2.2.2.1, ()), (0, ()), ()) w33)))))))))
set_option maxRecDepth 100000 in
theorem source_Source_Time.eq (s : Option Addr) (f : Option Addr) (local_ : Int) (w : World) (R : Value → World → Prop) : wpF Tryz.prog Tryz.f11 (.s .n (.s (.ct [(9, .b)] .n .n) (.s .n (.s .n (.s (.pl (.tk 0 (.tk 1 (.tk 2 (.tk 3 (.tk 4 (.tk 5 (.tk 6 (.tk 7 (.tk 8 (.tk 9 (.tk 10 (.ef 11 [5, 9] (.tk 12 .z)))))))))))))) .n))))) [.pointer s, .pointer f, .int .i64 local_] w R = source_Source_Time.wp s f local_ w (fun r w => R (encR true [(true, [(.i .i64), (.i .i64), (.i .i64), (.i .u16), (.i .i64)]), (false, [(.i .i64)])] r) w) := by kernel_rfl
theorem source_Source_Time.ok {s : Option Addr} {f : Option Addr} {local_ : Int} {w : World} {R : TR [(true, [(.i .i64), (.i .i64), (.i .i64), (.i .u16), (.i .i64)]), (false, [(.i .i64)])] → World → Prop} (h : source_Source_Time.wp s f local_ w R) : clS Tryz.prog F.source_Source_Time [.pointer s, .pointer f, .int .i64 local_] w true [(true, [(.i .i64), (.i .i64), (.i .i64), (.i .u16), (.i .i64)]), (false, [(.i .i64)])] R :=
  ok_of Tryz_follows Tryz.func11 (fun R => source_Source_Time.wp s f local_ w R) (source_Source_Time.eq s f local_ w) rfl h
/-! ### source_Source_Fresh -/
set_option maxRecDepth 100000 in
def source_Source_Fresh.wp (s : Option Addr) (w : World) (R : TR [(false, [.b])] → World → Prop) : Prop :=
brB (!(Option.isNone s)) (
ncK s fun a1 =>
ld1 .b (a1.add 7) w fun x2 =>
R ((x2, ()), ()) w) (
R ((false, ()), ()) w)
set_option maxRecDepth 100000 in
theorem source_Source_Fresh.eq (s : Option Addr) (w : World) (R : Value → World → Prop) : wpF Tryz.prog Tryz.f12 .n [.pointer s] w R = source_Source_Fresh.wp s w (fun r w => R (encR false [(false, [.b])] r) w) := by kernel_rfl
theorem source_Source_Fresh.ok {s : Option Addr} {w : World} {R : TR [(false, [.b])] → World → Prop} (h : source_Source_Fresh.wp s w R) : clS Tryz.prog F.source_Source_Fresh [.pointer s] w false [(false, [.b])] R :=
  ok_of Tryz_follows Tryz.func12 (fun R => source_Source_Fresh.wp s w R) (source_Source_Fresh.eq s w) rfl h
/-! ### source_Source_Put -/
set_option maxRecDepth 100000 in
def source_Source_Put.wp (s : Option Addr) (e0 : Int) (e1 : Int) (e2 : Int) (w_0 : Int) (w_1 : Int) (w : World) (R : TR [(false, [(.i .i64)])] → World → Prop) : Prop :=
alK [.int .i64 e0, .int .i64 e1, .int .i64 e2] T.table_Entry w fun p1 w2 =>
alK [.int .i64 w_0, .int .u16 w_1] T.source_Whose w2 fun p3 w4 =>
brB (Option.isNone s) (
R ((2, ()), ()) w4) (
ldN [(.i .i64), (.i .i64), (.i .i64)] p1 0 w4 fun x5 =>
clS Tryz.prog F.table_Entry_Good [.agg #[.int .i64 x5.1, .int .i64 x5.2.1, .int .i64 x5.2.2.1]] w4 false [(false, [.b])] fun r6 w7 =>
brB (!r6.1.1) (
R ((1, ()), ()) w7) (
ld1 (.i .i64) p3 w7 fun x8 =>
brB (decide (x8 < 0)) (
R ((1, ()), ()) w7) (
ld1 (.i .i64) p3 w7 fun x9 =>
brB (decide (x9 ≥ 64)) (
R ((1, ()), ()) w7) (
drK w7 fun w10 =>
ldN [(.i .i64), (.i .i64), (.i .i64)] p1 0 w10 fun x11 =>
ldN [(.i .i64), (.i .u16)] p3 0 w10 fun x12 =>
ncK s fun a13 =>
stN [.int .i64 x11.1, .int .i64 x11.2.1, .int .i64 x11.2.2.1] (a13.add 1) 0 w10 fun w14 =>
Hold [(5, (p3.add 0), (w10.cell? (p3.add 0)).getD undef), (5, (p3.add 1), (w10.cell? (p3.add 1)).getD undef)] w14 ∧ (
ncK s fun a15 =>
stN [.int .i64 x12.1, .int .u16 x12.2.1] (a15.add 4) 0 w14 fun w16 =>
Hold [] w16 ∧ (
ncK s fun a17 =>
stN [.int .i64 0] (a17.add 6) 0 w16 fun w18 =>
Hold [] w18 ∧ (
ncK s fun a19 =>
stN [.bool true] (a19.add 7) 0 w18 fun w20 =>
Hold [] w20 ∧ (
R ((0, ()), ()) w20))))))))
set_option maxRecDepth 100000 in
theorem source_Source_Put.eq (s : Option Addr) (e0 : Int) (e1 : Int) (e2 : Int) (w_0 : Int) (w_1 : Int) (w : World) (R : Value → World → Prop) : wpF Tryz.prog Tryz.f13 (.s .n (.s .n (.s (.pl (.tk 0 (.tk 1 (.tk 2 (.tk 3 (.tk 4 (.tk 5 (.tk 6 (.tk 7 (.ef 8 [4] (.tk 9 (.tk 10 (.ef 11 [5] (.tk 12 (.tk 13 (.ef 14 [] (.tk 15 (.tk 16 (.ef 17 [] .z))))))))))))))))))) .n))) [.pointer s, .agg #[.int .i64 e0, .int .i64 e1, .int .i64 e2], .agg #[.int .i64 w_0, .int .u16 w_1]] w R = source_Source_Put.wp s e0 e1 e2 w_0 w_1 w (fun r w => R (encR false [(false, [(.i .i64)])] r) w) := by kernel_rfl
theorem source_Source_Put.ok {s : Option Addr} {e0 : Int} {e1 : Int} {e2 : Int} {w_0 : Int} {w_1 : Int} {w : World} {R : TR [(false, [(.i .i64)])] → World → Prop} (h : source_Source_Put.wp s e0 e1 e2 w_0 w_1 w R) : clS Tryz.prog F.source_Source_Put [.pointer s, .agg #[.int .i64 e0, .int .i64 e1, .int .i64 e2], .agg #[.int .i64 w_0, .int .u16 w_1]] w false [(false, [(.i .i64)])] R :=
  ok_of Tryz_follows Tryz.func13 (fun R => source_Source_Put.wp s e0 e1 e2 w_0 w_1 w R) (source_Source_Put.eq s e0 e1 e2 w_0 w_1 w) rfl h
/-! ### ref16_New -/
set_option maxRecDepth 100000 in
def ref16_New.wp (me : Int) (timeout : Int) (ignore : Int) (need : Int) (drift : Int) (boot : Int) (w : World) (R : TR [(false, [.p])] → World → Prop) : Prop :=
clS Tryz.prog F.ref15_New [.int .i64 me, .int .i64 timeout, .int .i64 ignore, .int .u16 boot] w false [(false, [.p])] fun r1 w2 =>
alK [.pointer r1.1.1, .int .i64 need, .int .i64 drift, .slice none 0 0, .int .i64 0, .int .i64 0, .int .i64 0] T.ref16_Flood w2 fun p3 w4 =>
R ((some p3, ()), ()) w4
set_option maxRecDepth 100000 in
theorem ref16_New.eq (me : Int) (timeout : Int) (ignore : Int) (need : Int) (drift : Int) (boot : Int) (w : World) (R : Value → World → Prop) : wpF Tryz.prog Tryz.f14 .n [.int .i64 me, .int .i64 timeout, .int .i64 ignore, .int .i64 need, .int .i64 drift, .int .u16 boot] w R = ref16_New.wp me timeout ignore need drift boot w (fun r w => R (encR false [(false, [.p])] r) w) := by kernel_rfl
theorem ref16_New.ok {me : Int} {timeout : Int} {ignore : Int} {need : Int} {drift : Int} {boot : Int} {w : World} {R : TR [(false, [.p])] → World → Prop} (h : ref16_New.wp me timeout ignore need drift boot w R) : clS Tryz.prog F.ref16_New [.int .i64 me, .int .i64 timeout, .int .i64 ignore, .int .i64 need, .int .i64 drift, .int .u16 boot] w false [(false, [.p])] R :=
  ok_of Tryz_follows Tryz.func14 (fun R => ref16_New.wp me timeout ignore need drift boot w R) (ref16_New.eq me timeout ignore need drift boot w) rfl h
/-! ### flood_Flood_Hear -/
set_option maxRecDepth 100000 in
def flood_Flood_Hear.wp (f : Option Addr) (s0 : Int) (s1 : Int) (s2 : Int) (s3 : Int) (s4 : Int) (s5 : Int) (local_ : Int) (w : World) (R : TR [(false, [(.i .i64)])] → World → Prop) : Prop :=
alK [.int .i64 s0, .int .i64 s1, .int .u16 s2, .int .u16 s3, .int .i64 s4, .int .i64 s5] T.frame_Sync w fun p1 w2 =>
brB (Option.isNone f) (
R ((0, ()), ()) w2) (
ld1 (.i .i64) (p1.add 4) w2 fun x3 =>
brB (decide (x3 < 0)) (
R ((0, ()), ()) w2) (
ld1 (.i .i64) (p1.add 4) w2 fun x4 =>
brB (decide (x4 ≥ 63)) (
R ((0, ()), ()) w2) (
brB (decide (local_ < 0)) (
R ((0, ()), ()) w2) (
brB (decide (local_ > 1125899906842624)) (
R ((0, ()), ()) w2) (
ld1 (.i .i64) (p1.add 5) w2 fun x5 =>
brB (decide (x5 < 0)) (
R ((0, ()), ()) w2) (
ld1 (.i .i64) (p1.add 5) w2 fun x6 =>
brB (decide (x6 > 1125899906842624)) (
R ((0, ()), ()) w2) (
drK w2 fun w7 =>
ncK f fun a8 =>
ld1 .p a8 w7 fun x9 =>
ld1 (.i .i64) (p1.add 1) w7 fun x10 =>
ld1 (.i .u16) (p1.add 2) w7 fun x11 =>
ld1 (.i .u16) (p1.add 3) w7 fun x12 =>
clS Tryz.prog F.elect_Elect_Hear [.pointer x9, .int .i64 x10, .agg #[.int .u16 x11, .int .u16 x12]] w7 false [(false, [(.i .i64)])] fun r13 w14 =>
Hold [(9, (p1.add 3), (w7.cell? (p1.add 3)).getD undef), (7, (p1.add 2), (w7.cell? (p1.add 2)).getD undef)] w14 ∧ (
brB (r13.1.1 == 0) (
R ((r13.1.1, ()), ()) w14) (
CutT (fun (J15 : Unit → World → Prop) =>
brB (r13.1.1 == 2) (
clS Tryz.prog F.flood_Flood_forget [.pointer f] w14 true [] fun r18 w19 =>
J15 (()) w19) (
J15 (()) w14)) (fun (z16 : Unit) w17 => ∀ _ : Nat → Value,
ld1 (.i .i64) (p1.add 5) w17 fun x20 =>
ld1 (.i .i64) (p1.add 4) w17 fun x21 =>
alK [.int .i64 0, .int .i64 0, .int .i64 0] T.table_Entry w17 fun p22 w23 =>
stN [.int .i64 local_, .int .i64 (IntKind.wrap .i64 (x20 - local_)), .int .i64 (IntKind.wrap .i64 (x21 + 1))] p22 0 w23 fun w24 =>
CutT (fun (J25 : Unit → World → Prop) =>
drK w24 fun w28 =>
ncK f fun a29 =>
ldN [(.i .i64), (.i .i64), (.i .i64)] p22 0 w28 fun x30 =>
clS Tryz.prog F.table_Table_Add [.pointer (some (a29.add 6)), .agg #[.int .i64 x30.1, .int .i64 x30.2.1, .int .i64 x30.2.2.1]] w28 false [(false, [(.i .i64)])] fun r31 w32 =>
Hold [] w32 ∧ (
brB (r31.1.1 != 0) (
ncK f fun a33 =>
clS Tryz.prog F.table_Table_Clear [.pointer (some (a33.add 6))] w32 true [] fun r34 w35 =>
drK w35 fun w36 =>
ncK f fun a37 =>
ldN [(.i .i64), (.i .i64), (.i .i64)] p22 0 w36 fun x38 =>
clS Tryz.prog F.table_Table_Add [.pointer (some (a37.add 6)), .agg #[.int .i64 x38.1, .int .i64 x38.2.1, .int .i64 x38.2.2.1]] w36 false [(false, [(.i .i64)])] fun r39 w40 =>
Hold [] w40 ∧ (
J25 (()) w40)) (
J25 (()) w32))) (fun (z26 : Unit) w27 => ∀ _ : Nat → Value,
ld1 (.i .i64) (p1.add 5) w27 fun x41 =>
ld1 (.i .i64) (p1.add 4) w27 fun x42 =>
ncK f fun a43 =>
stN [.int .i64 local_, .int .i64 x41, .int .i64 (IntKind.wrap .i64 (x42 + 1))] (a43.add 7) 0 w27 fun w44 =>
R ((r13.1.1, ()), ()) w44)))))))))))
set_option maxRecDepth 100000 in
theorem flood_Flood_Hear.eq (f : Option Addr) (s0 : Int) (s1 : Int) (s2 : Int) (s3 : Int) (s4 : Int) (s5 : Int) (local_ : Int) (w : World) (R : Value → World → Prop) : wpF Tryz.prog Tryz.f15 (.s .n (.s .n (.s (.pl (.tk 0 (.tk 1 (.tk 2 (.tk 3 (.tk 4 (.tk 5 (.tk 6 (.tk 7 (.tk 8 (.tk 9 (.tk 10 (.ef 11 [3, 5] (.tk 12 .z)))))))))))))) (.s .n (.ct [] .n (.s .n (.ct [] (.s (.pl (.tk 0 (.tk 1 (.tk 2 (.tk 3 (.ef 4 [3] (.tk 5 .z))))))) (.s (.s .n (.pl (.tk 0 (.tk 1 (.tk 2 (.tk 3 (.ef 4 [3] .z))))))) .n)) .n))))))) [.pointer f, .agg #[.int .i64 s0, .int .i64 s1, .int .u16 s2, .int .u16 s3, .int .i64 s4, .int .i64 s5], .int .i64 local_] w R = flood_Flood_Hear.wp f s0 s1 s2 s3 s4 s5 local_ w (fun r w => R (encR false [(false, [(.i .i64)])] r) w) := by kernel_rfl
theorem flood_Flood_Hear.ok {f : Option Addr} {s0 : Int} {s1 : Int} {s2 : Int} {s3 : Int} {s4 : Int} {s5 : Int} {local_ : Int} {w : World} {R : TR [(false, [(.i .i64)])] → World → Prop} (h : flood_Flood_Hear.wp f s0 s1 s2 s3 s4 s5 local_ w R) : clS Tryz.prog F.flood_Flood_Hear [.pointer f, .agg #[.int .i64 s0, .int .i64 s1, .int .u16 s2, .int .u16 s3, .int .i64 s4, .int .i64 s5], .int .i64 local_] w false [(false, [(.i .i64)])] R :=
  ok_of Tryz_follows Tryz.func15 (fun R => flood_Flood_Hear.wp f s0 s1 s2 s3 s4 s5 local_ w R) (flood_Flood_Hear.eq f s0 s1 s2 s3 s4 s5 local_ w) rfl h
end Go.Proofs.YtahojpppjpfjmaaGreat
