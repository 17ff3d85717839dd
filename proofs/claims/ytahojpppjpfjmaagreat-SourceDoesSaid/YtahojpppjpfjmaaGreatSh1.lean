import Derived.Test.YtahojpppjpfjmaaGreatNm
namespace Go.Proofs.YtahojpppjpfjmaaGreat
open Go.Eng
set_option linter.unusedVariables false
/-! ### ref16_Flood_Hear -/
set_option maxRecDepth 100000 in
def ref16_Flood_Hear.wp (f : Option Addr) (p0 : Int) (p1 : Int) (p2 : Int) (p3 : Int) (p4 : Int) (p5 : Int) (p6 : Int) (p7 : Int) (p8 : Int) (p9 : Int) (p10 : Int) (p11 : Int) (p12 : Int) (p13 : Int) (local_ : Int) (w : World) (R : TR [(false, [(.i .i64)])] → World → Prop) : Prop :=
alK [.int .i64 p0, .int .i64 p1, .int .i64 p2, .int .i64 p3, .int .u16 p4, .int .u16 p5, .int .i64 p6, .int .i64 p7, .int .i64 p8, .int .i64 p9, .int .i64 p10, .int .i64 p11, .int .i64 p12, .int .i64 p13] T.ref05_Plain w fun p1 w2 =>
ld1 (.i .i64) (p1.add 6) w2 fun x3 =>
brB (decide (x3 < 0)) (
R ((0, ()), ()) w2) (
ld1 (.i .i64) (p1.add 6) w2 fun x4 =>
brB (decide (x4 > 62)) (
R ((0, ()), ()) w2) (
clS Tryz.prog F.ref16_time [.int .i64 local_] w2 false [(false, [.b])] fun r5 w6 =>
brB (!r5.1.1) (
R ((0, ()), ()) w6) (
ld1 (.i .i64) (p1.add 7) w6 fun x7 =>
clS Tryz.prog F.ref16_time [.int .i64 x7] w6 false [(false, [.b])] fun r8 w9 =>
brB (!r8.1.1) (
R ((0, ()), ()) w9) (
drK w9 fun w10 =>
ncK f fun a11 =>
ld1 .p a11 w10 fun x12 =>
ld1 (.i .i64) (p1.add 3) w10 fun x13 =>
ld1 (.i .u16) (p1.add 4) w10 fun x14 =>
ld1 (.i .u16) (p1.add 5) w10 fun x15 =>
clS Tryz.prog F.ref15_Elect_Hear [.pointer x12, .int .i64 x13, .int .u16 x14, .int .u16 x15] w10 false [(false, [(.i .i64)])] fun r16 w17 =>
Hold [] w17 ∧ (
brB (r16.1.1 == 0) (
R ((0, ()), ()) w17) (
CutT (fun (J18 : Unit → World → Prop) =>
brB (r16.1.1 == 2) (
clS Tryz.prog F.ref16_Flood_forget [.pointer f] w17 true [] fun r21 w22 =>
J18 (()) w22) (
J18 (()) w17)) (fun (z19 : Unit) w20 => ∀ _ : Nat → Value,
ld1 (.i .i64) (p1.add 7) w20 fun x23 =>
ld1 (.i .i64) (p1.add 6) w20 fun x24 =>
alK [.int .i64 0, .int .i64 0, .int .i64 0] T.ref12_Entry w20 fun p25 w26 =>
stN [.int .i64 local_, .int .i64 (IntKind.wrap .i64 (x23 - local_)), .int .i64 (IntKind.wrap .i64 (x24 + 1))] p25 0 w26 fun w27 =>
drK w27 fun w28 =>
ncK f fun a29 =>
ld1 .sl (a29.add 3) w28 fun x30 =>
ldN [(.i .i64), (.i .i64), (.i .i64)] p25 0 w28 fun x31 =>
clS Tryz.prog F.ref12_Add [.slice x30.1 x30.2.1 x30.2.2, .agg #[.int .i64 x31.1, .int .i64 x31.2.1, .int .i64 x31.2.2.1]] w28 true [(false, [.sl]), (false, [(.i .i64)])] fun r32 w33 =>
Hold [] w33 ∧ (
CutT (fun (J34 : ((Option Addr × Nat × Nat) × Unit) → World → Prop) =>
brB (r32.2.1.1 != 0) (
ldN [(.i .i64), (.i .i64), (.i .i64)] p25 0 w33 fun x37 =>
clS Tryz.prog F.ref12_Add [.slice none 0 0, .agg #[.int .i64 x37.1, .int .i64 x37.2.1, .int .i64 x37.2.2.1]] w33 true [(false, [.sl]), (false, [(.i .i64)])] fun r38 w39 =>
J34 ((r38.1.1.1, r38.1.1.2.1, r38.1.1.2.2), ()) w39) (
J34 ((r32.1.1.1, r32.1.1.2.1, r32.1.1.2.2), ()) w33)) (fun (z35 : (Option Addr × Nat × Nat) × Unit) w36 => ∀ _ : Nat → Value,
ncK f fun a40 =>
stN [.slice z35.1.1 z35.1.2.1 z35.1.2.2] (a40.add 3) 0 w36 fun w41 =>
ncK f fun a42 =>
stN [.int .i64 local_] (a42.add 4) 0 w41 fun w43 =>
ld1 (.i .i64) (p1.add 7) w43 fun x44 =>
ncK f fun a45 =>
stN [.int .i64 x44] (a45.add 5) 0 w43 fun w46 =>
ld1 (.i .i64) (p1.add 6) w46 fun x47 =>
ncK f fun a48 =>
stN [.int .i64 (IntKind.wrap .i64 (x47 + 1))] (a48.add 6) 0 w46 fun w49 =>
R ((r16.1.1, ()), ()) w49)))))))))
set_option maxRecDepth 100000 in
theorem ref16_Flood_Hear.eq (f : Option Addr) (p0 : Int) (p1 : Int) (p2 : Int) (p3 : Int) (p4 : Int) (p5 : Int) (p6 : Int) (p7 : Int) (p8 : Int) (p9 : Int) (p10 : Int) (p11 : Int) (p12 : Int) (p13 : Int) (local_ : Int) (w : World) (R : Value → World → Prop) : wpF Tryz.prog Tryz.f16 (.s .n (.s .n (.s (.pl (.tk 0 (.tk 1 (.tk 2 (.tk 3 (.tk 4 (.tk 5 (.tk 6 (.tk 7 (.tk 8 (.tk 9 (.ef 10 [3, 5, 7, 9] (.tk 11 .z))))))))))))) (.s .n (.ct [] .n (.s .n (.s (.pl (.tk 0 (.tk 1 (.tk 2 (.tk 3 (.tk 4 (.ef 5 [3, 4] (.tk 6 (.tk 7 (.tk 8 (.tk 9 (.tk 10 .z)))))))))))) (.ct [(9, .sl)] .n .n)))))))) [.pointer f, .agg #[.int .i64 p0, .int .i64 p1, .int .i64 p2, .int .i64 p3, .int .u16 p4, .int .u16 p5, .int .i64 p6, .int .i64 p7, .int .i64 p8, .int .i64 p9, .int .i64 p10, .int .i64 p11, .int .i64 p12, .int .i64 p13], .int .i64 local_] w R = ref16_Flood_Hear.wp f p0 p1 p2 p3 p4 p5 p6 p7 p8 p9 p10 p11 p12 p13 local_ w (fun r w => R (encR false [(false, [(.i .i64)])] r) w) := by kernel_rfl
theorem ref16_Flood_Hear.ok {f : Option Addr} {p0 : Int} {p1 : Int} {p2 : Int} {p3 : Int} {p4 : Int} {p5 : Int} {p6 : Int} {p7 : Int} {p8 : Int} {p9 : Int} {p10 : Int} {p11 : Int} {p12 : Int} {p13 : Int} {local_ : Int} {w : World} {R : TR [(false, [(.i .i64)])] → World → Prop} (h : ref16_Flood_Hear.wp f p0 p1 p2 p3 p4 p5 p6 p7 p8 p9 p10 p11 p12 p13 local_ w R) : clS Tryz.prog F.ref16_Flood_Hear [.pointer f, .agg #[.int .i64 p0, .int .i64 p1, .int .i64 p2, .int .i64 p3, .int .u16 p4, .int .u16 p5, .int .i64 p6, .int .i64 p7, .int .i64 p8, .int .i64 p9, .int .i64 p10, .int .i64 p11, .int .i64 p12, .int .i64 p13], .int .i64 local_] w false [(false, [(.i .i64)])] R :=
  ok_of Tryz_follows Tryz.func16 (fun R => ref16_Flood_Hear.wp f p0 p1 p2 p3 p4 p5 p6 p7 p8 p9 p10 p11 p12 p13 local_ w R) (ref16_Flood_Hear.eq f p0 p1 p2 p3 p4 p5 p6 p7 p8 p9 p10 p11 p12 p13 local_ w) rfl h
/-! ### flood_Flood_Beat -/
set_option maxRecDepth 100000 in
def flood_Flood_Beat.wp (f : Option Addr) (local_ : Int) (w : World) (R : TR [(true, [(.i .i64), (.i .i64), (.i .u16), (.i .u16), (.i .i64), (.i .i64)]), (false, [.b])] → World → Prop) : Prop :=
alK [.int .i64 0, .int .i64 0, .int .u16 0, .int .u16 0, .int .i64 0, .int .i64 0] T.frame_Sync w fun p1 w2 =>
brB (Option.isNone f) (
stN [.int .i64 0, .int .i64 0, .int .u16 0, .int .u16 0, .int .i64 0, .int .i64 0] p1 0 w2 fun w3 =>
ldN [(.i .i64), (.i .i64), (.i .u16), (.i .u16), (.i .i64), (.i .i64)] p1 0 w3 fun x4 =>
R ((x4.1, x4.2.1, x4.2.2.1, x4.2.2.2.1, x4.2.2.2.2.1, x4.2.2.2.2.2.1, ()), (false, ()), ()) w3) (
CutT (fun (J5 : Unit → World → Prop) =>
ncK f fun a8 =>
ld1 .p a8 w2 fun x9 =>
clS Tryz.prog F.elect_Elect_Beat [.pointer x9] w2 false [(false, [.b])] fun r10 w11 =>
brB r10.1.1 (
clS Tryz.prog F.flood_Flood_forget [.pointer f] w11 true [] fun r12 w13 =>
J5 (()) w13) (
J5 (()) w11)) (fun (z6 : Unit) w7 => ∀ _ : Nat → Value,
brB (decide (local_ < 0)) (
stN [.int .i64 0, .int .i64 0, .int .u16 0, .int .u16 0, .int .i64 0, .int .i64 0] p1 0 w7 fun w14 =>
ldN [(.i .i64), (.i .i64), (.i .u16), (.i .u16), (.i .i64), (.i .i64)] p1 0 w14 fun x15 =>
R ((x15.1, x15.2.1, x15.2.2.1, x15.2.2.2.1, x15.2.2.2.2.1, x15.2.2.2.2.2.1, ()), (false, ()), ()) w14) (
brB (decide (local_ > 1125899906842624)) (
stN [.int .i64 0, .int .i64 0, .int .u16 0, .int .u16 0, .int .i64 0, .int .i64 0] p1 0 w7 fun w16 =>
ldN [(.i .i64), (.i .i64), (.i .u16), (.i .u16), (.i .i64), (.i .i64)] p1 0 w16 fun x17 =>
R ((x17.1, x17.2.1, x17.2.2.1, x17.2.2.2.1, x17.2.2.2.2.1, x17.2.2.2.2.2.1, ()), (false, ()), ()) w16) (
clS Tryz.prog F.flood_Flood_word [.pointer f, .int .i64 local_] w7 true [(true, [(.i .i64), (.i .i64), (.i .u16), (.i .u16), (.i .i64), (.i .i64)]), (false, [.b])] fun r18 w19 =>
alK [.int .i64 0, .int .i64 0, .int .u16 0, .int .u16 0, .int .i64 0, .int .i64 0] T.frame_Sync w19 fun p20 w21 =>
stN [.int .i64 r18.1.1, .int .i64 r18.1.2.1, .int .u16 r18.1.2.2.1, .int .u16 r18.1.2.2.2.1, .int .i64 r18.1.2.2.2.2.1, .int .i64 r18.1.2.2.2.2.2.1] p20 0 w21 fun w22 =>
brB (!r18.2.1.1) (
stN [.int .i64 0, .int .i64 0, .int .u16 0, .int .u16 0, .int .i64 0, .int .i64 0] p1 0 w22 fun w23 =>
ldN [(.i .i64), (.i .i64), (.i .u16), (.i .u16), (.i .i64), (.i .i64)] p1 0 w23 fun x24 =>
R ((x24.1, x24.2.1, x24.2.2.1, x24.2.2.2.1, x24.2.2.2.2.1, x24.2.2.2.2.2.1, ()), (false, ()), ()) w23) (
ldN [(.i .i64), (.i .i64), (.i .u16), (.i .u16), (.i .i64), (.i .i64)] p20 0 w22 fun x25 =>
stN [.int .i64 x25.1, .int .i64 x25.2.1, .int .u16 x25.2.2.1, .int .u16 x25.2.2.2.1, .int .i64 x25.2.2.2.2.1, .int .i64 x25.2.2.2.2.2.1] p1 0 w22 fun w26 =>
ldN [(.i .i64), (.i .i64), (.i .u16), (.i .u16), (.i .i64), (.i .i64)] p1 0 w26 fun x27 =>
R ((x27.1, x27.2.1, x27.2.2.1, x27.2.2.2.1, x27.2.2.2.2.1, x27.2.2.2.2.2.1, ()), (true, ()), ()) w26)))))
set_option maxRecDepth 100000 in
theorem flood_Flood_Beat.eq (f : Option Addr) (local_ : Int) (w : World) (R : Value → World → Prop) : wpF Tryz.prog Tryz.f17 (.s .n (.s .n (.ct [] .n .n))) [.pointer f, .int .i64 local_] w R = flood_Flood_Beat.wp f local_ w (fun r w => R (encR true [(true, [(.i .i64), (.i .i64), (.i .u16), (.i .u16), (.i .i64), (.i .i64)]), (false, [.b])] r) w) := by kernel_rfl
theorem flood_Flood_Beat.ok {f : Option Addr} {local_ : Int} {w : World} {R : TR [(true, [(.i .i64), (.i .i64), (.i .u16), (.i .u16), (.i .i64), (.i .i64)]), (false, [.b])] → World → Prop} (h : flood_Flood_Beat.wp f local_ w R) : clS Tryz.prog F.flood_Flood_Beat [.pointer f, .int .i64 local_] w true [(true, [(.i .i64), (.i .i64), (.i .u16), (.i .u16), (.i .i64), (.i .i64)]), (false, [.b])] R :=
  ok_of Tryz_follows Tryz.func17 (fun R => flood_Flood_Beat.wp f local_ w R) (flood_Flood_Beat.eq f local_ w) rfl h
/-! ### ref16_Flood_Beat -/
set_option maxRecDepth 100000 in
def ref16_Flood_Beat.wp (f : Option Addr) (local_ : Int) (w : World) (R : TR [(true, [(.i .i64), (.i .i64), (.i .i64), (.i .i64), (.i .u16), (.i .u16), (.i .i64), (.i .i64), (.i .i64), (.i .i64), (.i .i64), (.i .i64), (.i .i64), (.i .i64)])] → World → Prop) : Prop :=
alK [.int .i64 0, .int .i64 0, .int .i64 0, .int .i64 0, .int .u16 0, .int .u16 0, .int .i64 0, .int .i64 0, .int .i64 0, .int .i64 0, .int .i64 0, .int .i64 0, .int .i64 0, .int .i64 0] T.ref05_Plain w fun p1 w2 =>
CutT (fun (J3 : Unit → World → Prop) =>
ncK f fun a6 =>
ld1 .p a6 w2 fun x7 =>
clS Tryz.prog F.ref15_Elect_Beat [.pointer x7] w2 false [(false, [.b])] fun r8 w9 =>
brB r8.1.1 (
clS Tryz.prog F.ref16_Flood_forget [.pointer f] w9 true [] fun r10 w11 =>
J3 (()) w11) (
J3 (()) w9)) (fun (z4 : Unit) w5 => ∀ _ : Nat → Value,
clS Tryz.prog F.ref16_time [.int .i64 local_] w5 false [(false, [.b])] fun r12 w13 =>
brB (!r12.1.1) (
stN [.int .i64 0, .int .i64 0, .int .i64 0, .int .i64 0, .int .u16 0, .int .u16 0, .int .i64 0, .int .i64 0, .int .i64 0, .int .i64 0, .int .i64 0, .int .i64 0, .int .i64 0, .int .i64 0] p1 0 w13 fun w14 =>
ldN [(.i .i64), (.i .i64), (.i .i64), (.i .i64), (.i .u16), (.i .u16), (.i .i64), (.i .i64), (.i .i64), (.i .i64), (.i .i64), (.i .i64), (.i .i64), (.i .i64)] p1 0 w14 fun x15 =>
R ((x15.1, x15.2.1, x15.2.2.1, x15.2.2.2.1, x15.2.2.2.2.1, x15.2.2.2.2.2.1, x15.2.2.2.2.2.2.1, x15.2.2.2.2.2.2.2.1, x15.2.2.2.2.2.2.2.2.1, x15.2.2.2.2.2.2.2.2.2.1, x15.2.2.2.2.2.2.2.2.2.2.1, x15.2.2.2.2.2.2.2.2.2.2.2.1, x15.2.2.2.2.2.2.2.2.2.2.2.2.1, x15.2.2.2.2.2.2.2.2.2.2.2.2.2.1, ()), ()) w14) (
clS Tryz.prog F.ref16_Flood_Mine [.pointer f] w13 false [(false, [.b])] fun r16 w17 =>
brB r16.1.1 (
drK w17 fun w18 =>
ncK f fun a19 =>
ld1 .p a19 w18 fun x20 =>
ncK f fun a21 =>
ld1 .p a21 w18 fun x22 =>
ncK x22 fun a23 =>
ld1 (.i .u16) (a23.add 4) w18 fun x24 =>
clS Tryz.prog F.ref02_Next [.int .u16 x24] w18 false [(false, [(.i .u16)])] fun r25 w26 =>
Hold [(7, a21, (w18.cell? a21).getD undef), (3, a19, (w18.cell? a19).getD undef)] w26 ∧ (
ncK x20 fun a27 =>
stN [.int .u16 r25.1.1] (a27.add 4) 0 w26 fun w28 =>
Hold [] w28 ∧ (
drK w28 fun w29 =>
ncK f fun a30 =>
ld1 .p a30 w29 fun x31 =>
ncK x31 fun a32 =>
ld1 (.i .i64) a32 w29 fun x33 =>
ncK f fun a34 =>
ld1 .p a34 w29 fun x35 =>
ncK x35 fun a36 =>
ld1 (.i .i64) a36 w29 fun x37 =>
ncK f fun a38 =>
ld1 .p a38 w29 fun x39 =>
ncK x39 fun a40 =>
ld1 (.i .u16) (a40.add 3) w29 fun x41 =>
ncK f fun a42 =>
ld1 .p a42 w29 fun x43 =>
ncK x43 fun a44 =>
ld1 (.i .u16) (a44.add 4) w29 fun x45 =>
stN [.int .i64 1, .int .i64 x33, .int .i64 0, .int .i64 x37, .int .u16 x41, .int .u16 x45, .int .i64 0, .int .i64 local_, .int .i64 0, .int .i64 0, .int .i64 0, .int .i64 0, .int .i64 0, .int .i64 0] p1 0 w29 fun w46 =>
Hold [] w46 ∧ (
ldN [(.i .i64), (.i .i64), (.i .i64), (.i .i64), (.i .u16), (.i .u16), (.i .i64), (.i .i64), (.i .i64), (.i .i64), (.i .i64), (.i .i64), (.i .i64), (.i .i64)] p1 0 w46 fun x47 =>
R ((x47.1, x47.2.1, x47.2.2.1, x47.2.2.2.1, x47.2.2.2.2.1, x47.2.2.2.2.2.1, x47.2.2.2.2.2.2.1, x47.2.2.2.2.2.2.2.1, x47.2.2.2.2.2.2.2.2.1, x47.2.2.2.2.2.2.2.2.2.1, x47.2.2.2.2.2.2.2.2.2.2.1, x47.2.2.2.2.2.2.2.2.2.2.2.1, x47.2.2.2.2.2.2.2.2.2.2.2.2.1, x47.2.2.2.2.2.2.2.2.2.2.2.2.2.1, ()), ()) w46)))) (
clS Tryz.prog F.ref16_Flood_Synced [.pointer f] w17 false [(false, [.b])] fun r48 w49 =>
brB (!r48.1.1) (
stN [.int .i64 0, .int .i64 0, .int .i64 0, .int .i64 0, .int .u16 0, .int .u16 0, .int .i64 0, .int .i64 0, .int .i64 0, .int .i64 0, .int .i64 0, .int .i64 0, .int .i64 0, .int .i64 0] p1 0 w49 fun w50 =>
ldN [(.i .i64), (.i .i64), (.i .i64), (.i .i64), (.i .u16), (.i .u16), (.i .i64), (.i .i64), (.i .i64), (.i .i64), (.i .i64), (.i .i64), (.i .i64), (.i .i64)] p1 0 w50 fun x51 =>
R ((x51.1, x51.2.1, x51.2.2.1, x51.2.2.2.1, x51.2.2.2.2.1, x51.2.2.2.2.2.1, x51.2.2.2.2.2.2.1, x51.2.2.2.2.2.2.2.1, x51.2.2.2.2.2.2.2.2.1, x51.2.2.2.2.2.2.2.2.2.1, x51.2.2.2.2.2.2.2.2.2.2.1, x51.2.2.2.2.2.2.2.2.2.2.2.1, x51.2.2.2.2.2.2.2.2.2.2.2.2.1, x51.2.2.2.2.2.2.2.2.2.2.2.2.2.1, ()), ()) w50) (
ncK f fun a52 =>
ld1 .p a52 w49 fun x53 =>
clS Tryz.prog F.ref15_Elect_Mark [.pointer x53] w49 true [(false, [(.i .u16)]), (false, [(.i .u16)]), (false, [.b])] fun r54 w55 =>
drK w55 fun w56 =>
ncK f fun a57 =>
ld1 .p a57 w56 fun x58 =>
ncK x58 fun a59 =>
ld1 (.i .i64) a59 w56 fun x60 =>
ncK f fun a61 =>
ld1 .p a61 w56 fun x62 =>
ncK x62 fun a63 =>
ld1 (.i .i64) (a63.add 5) w56 fun x64 =>
ncK f fun a65 =>
ld1 (.i .i64) (a65.add 6) w56 fun x66 =>
ncK f fun a67 =>
ld1 (.i .i64) (a67.add 5) w56 fun x68 =>
ncK f fun a69 =>
ld1 (.i .i64) (a69.add 4) w56 fun x70 =>
alK [.int .i64 0, .int .i64 0, .int .i64 0, .int .i64 0, .int .u16 0, .int .u16 0, .int .i64 0, .int .i64 0, .int .i64 0, .int .i64 0, .int .i64 0, .int .i64 0, .int .i64 0, .int .i64 0] T.ref05_Plain w56 fun p71 w72 =>
Hold [(29, (a69.add 4), (w56.cell? (a69.add 4)).getD undef), (23, (a67.add 5), (w56.cell? (a67.add 5)).getD undef), (19, (a65.add 6), (w56.cell? (a65.add 6)).getD undef), (13, (a63.add 5), (w56.cell? (a63.add 5)).getD undef), (10, a61, (w56.cell? a61).getD undef), (6, a59, (w56.cell? a59).getD undef), (3, a57, (w56.cell? a57).getD undef)] w72 ∧ (
stN [.int .i64 1, .int .i64 x60, .int .i64 0, .int .i64 x64, .int .u16 r54.1.1, .int .u16 r54.2.1.1, .int .i64 x66, .int .i64 (IntKind.wrap .i64 ((IntKind.wrap .i64 (x68 + local_)) - x70)), .int .i64 0, .int .i64 0, .int .i64 0, .int .i64 0, .int .i64 0, .int .i64 0] p71 0 w72 fun w73 =>
Hold [] w73 ∧ (
ldN [(.i .i64), (.i .i64), (.i .i64), (.i .i64), (.i .u16), (.i .u16), (.i .i64), (.i .i64), (.i .i64), (.i .i64), (.i .i64), (.i .i64), (.i .i64), (.i .i64)] p71 0 w73 fun x74 =>
clS Tryz.prog F.ref05_Good [.agg #[.int .i64 x74.1, .int .i64 x74.2.1, .int .i64 x74.2.2.1, .int .i64 x74.2.2.2.1, .int .u16 x74.2.2.2.2.1, .int .u16 x74.2.2.2.2.2.1, .int .i64 x74.2.2.2.2.2.2.1, .int .i64 x74.2.2.2.2.2.2.2.1, .int .i64 x74.2.2.2.2.2.2.2.2.1, .int .i64 x74.2.2.2.2.2.2.2.2.2.1, .int .i64 x74.2.2.2.2.2.2.2.2.2.2.1, .int .i64 x74.2.2.2.2.2.2.2.2.2.2.2.1, .int .i64 x74.2.2.2.2.2.2.2.2.2.2.2.2.1, .int .i64 x74.2.2.2.2.2.2.2.2.2.2.2.2.2.1]] w73 false [(false, [.b])] fun r75 w76 =>
brB (!r75.1.1) (
stN [.int .i64 0, .int .i64 0, .int .i64 0, .int .i64 0, .int .u16 0, .int .u16 0, .int .i64 0, .int .i64 0, .int .i64 0, .int .i64 0, .int .i64 0, .int .i64 0, .int .i64 0, .int .i64 0] p1 0 w76 fun w77 =>
ldN [(.i .i64), (.i .i64), (.i .i64), (.i .i64), (.i .u16), (.i .u16), (.i .i64), (.i .i64), (.i .i64), (.i .i64), (.i .i64), (.i .i64), (.i .i64), (.i .i64)] p1 0 w77 fun x78 =>
R ((x78.1, x78.2.1, x78.2.2.1, x78.2.2.2.1, x78.2.2.2.2.1, x78.2.2.2.2.2.1, x78.2.2.2.2.2.2.1, x78.2.2.2.2.2.2.2.1, x78.2.2.2.2.2.2.2.2.1, x78.2.2.2.2.2.2.2.2.2.1, x78.2.2.2.2.2.2.2.2.2.2.1, x78.2.2.2.2.2.2.2.2.2.2.2.1, x78.2.2.2.2.2.2.2.2.2.2.2.2.1, x78.2.2.2.2.2.2.2.2.2.2.2.2.2.1, ()), ()) w77) (
ldN [(.i .i64), (.i .i64), (.i .i64), (.i .i64), (.i .u16), (.i .u16), (.i .i64), (.i .i64), (.i .i64), (.i .i64), (.i .i64), (.i .i64), (.i .i64), (.i .i64)] p71 0 w76 fun x79 =>
stN [.int .i64 x79.1, .int .i64 x79.2.1, .int .i64 x79.2.2.1, .int .i64 x79.2.2.2.1, .int .u16 x79.2.2.2.2.1, .int .u16 x79.2.2.2.2.2.1, .int .i64 x79.2.2.2.2.2.2.1, .int .i64 x79.2.2.2.2.2.2.2.1, .int .i64 x79.2.2.2.2.2.2.2.2.1, .int .i64 x79.2.2.2.2.2.2.2.2.2.1, .int .i64 x79.2.2.2.2.2.2.2.2.2.2.1, .int .i64 x79.2.2.2.2.2.2.2.2.2.2.2.1, .int .i64 x79.2.2.2.2.2.2.2.2.2.2.2.2.1, .int .i64 x79.2.2.2.2.2.2.2.2.2.2.2.2.2.1] p1 0 w76 fun w80 =>
ldN [(.i .i64), (.i .i64), (.i .i64), (.i .i64), (.i .u16), (.i .u16), (.i .i64), (.i .i64), (.i .i64), (.i .i64), (.i .i64), (.i .i64), (.i .i64), (.i .i64)] p1 0 w80 fun x81 =>
R ((x81.1, x81.2.1, x81.2.2.1, x81.2.2.2.1, x81.2.2.2.2.1, x81.2.2.2.2.2.1, x81.2.2.2.2.2.2.1, x81.2.2.2.2.2.2.2.1, x81.2.2.2.2.2.2.2.2.1, x81.2.2.2.2.2.2.2.2.2.1, x81.2.2.2.2.2.2.2.2.2.2.1, x81.2.2.2.2.2.2.2.2.2.2.2.1, x81.2.2.2.2.2.2.2.2.2.2.2.2.1, x81.2.2.2.2.2.2.2.2.2.2.2.2.2.1, ()), ()) w80)))))))
set_option maxRecDepth 100000 in
theorem ref16_Flood_Beat.eq (f : Option Addr) (local_ : Int) (w : World) (R : Value → World → Prop) : wpF Tryz.prog Tryz.f18 (.s .n (.ct [] .n (.s .n (.s (.s .n (.s (.s (.pl (.tk 0 (.tk 1 (.tk 2 (.tk 3 (.tk 4 (.tk 5 (.tk 6 (.tk 7 (.tk 8 (.tk 9 (.tk 10 (.ef 11 [10] (.tk 12 (.tk 13 (.ef 14 [3, 7] .z)))))))))))))))) (.s (.pl (.tk 0 (.tk 1 (.tk 2 (.tk 3 (.tk 4 (.tk 5 (.tk 6 (.tk 7 (.tk 8 (.tk 9 (.tk 10 (.tk 11 (.tk 12 (.tk 13 (.tk 14 (.tk 15 (.tk 16 (.tk 17 (.tk 18 (.tk 19 (.tk 20 (.tk 21 (.tk 22 (.tk 23 (.tk 24 (.tk 25 (.tk 26 (.tk 27 (.tk 28 (.tk 29 (.ef 30 [3, 6, 10, 13, 17, 20, 24, 27] .z)))))))))))))))))))))))))))))))) .n)) .n)) (.s .n (.s .n (.s (.pl (.tk 0 (.tk 1 (.tk 2 (.tk 3 (.tk 4 (.tk 5 (.tk 6 (.tk 7 (.tk 8 (.tk 9 (.tk 10 (.tk 11 (.tk 12 (.tk 13 (.tk 14 (.tk 15 (.tk 16 (.tk 17 (.tk 18 (.tk 19 (.tk 20 (.tk 21 (.tk 22 (.tk 23 (.tk 24 (.tk 25 (.tk 26 (.tk 27 (.tk 28 (.tk 29 (.tk 30 (.tk 31 (.ef 32 [] (.ef 33 [3, 6, 10, 13, 19, 23, 29] .z))))))))))))))))))))))))))))))))))) .n))))))) [.pointer f, .int .i64 local_] w R = ref16_Flood_Beat.wp f local_ w (fun r w => R (encR false [(true, [(.i .i64), (.i .i64), (.i .i64), (.i .i64), (.i .u16), (.i .u16), (.i .i64), (.i .i64), (.i .i64), (.i .i64), (.i .i64), (.i .i64), (.i .i64), (.i .i64)])] r) w) := by kernel_rfl
theorem ref16_Flood_Beat.ok {f : Option Addr} {local_ : Int} {w : World} {R : TR [(true, [(.i .i64), (.i .i64), (.i .i64), (.i .i64), (.i .u16), (.i .u16), (.i .i64), (.i .i64), (.i .i64), (.i .i64), (.i .i64), (.i .i64), (.i .i64), (.i .i64)])] → World → Prop} (h : ref16_Flood_Beat.wp f local_ w R) : clS Tryz.prog F.ref16_Flood_Beat [.pointer f, .int .i64 local_] w false [(true, [(.i .i64), (.i .i64), (.i .i64), (.i .i64), (.i .u16), (.i .u16), (.i .i64), (.i .i64), (.i .i64), (.i .i64), (.i .i64), (.i .i64), (.i .i64), (.i .i64)])] R :=
  ok_of Tryz_follows Tryz.func18 (fun R => ref16_Flood_Beat.wp f local_ w R) (ref16_Flood_Beat.eq f local_ w) rfl h
/-! ### ref19_Source_Beat -/
set_option maxRecDepth 100000 in
def ref19_Source_Beat.wp (s : Option Addr) (w : World) (R : TR [] → World → Prop) : Prop :=
ncK s fun a1 =>
ld1 .b (a1.add 7) w fun x2 =>
brB (!x2) (
R (()) w) (
ncK s fun a3 =>
ld1 (.i .i64) (a3.add 6) w fun x4 =>
ncK s fun a5 =>
stN [.int .i64 (IntKind.wrap .i64 (x4 + 1))] (a5.add 6) 0 w fun w6 =>
drK w6 fun w7 =>
ncK s fun a8 =>
ld1 (.i .i64) (a8.add 6) w7 fun x9 =>
ncK s fun a10 =>
ld1 (.i .i64) a10 w7 fun x11 =>
brB (decide (x9 ≥ x11)) (
ncK s fun a12 =>
stN [.bool false] (a12.add 7) 0 w7 fun w13 =>
R (()) w13) (
R (()) w7))
set_option maxRecDepth 100000 in
theorem ref19_Source_Beat.eq (s : Option Addr) (w : World) (R : Value → World → Prop) : wpF Tryz.prog Tryz.f19 (.s .n (.s .n (.s (.pl (.tk 0 (.tk 1 (.tk 2 (.tk 3 (.tk 4 (.tk 5 (.tk 6 (.tk 7 (.tk 8 .z)))))))))) .n))) [.pointer s] w R = ref19_Source_Beat.wp s w (fun r w => R (encR true [] r) w) := by kernel_rfl
theorem ref19_Source_Beat.ok {s : Option Addr} {w : World} {R : TR [] → World → Prop} (h : ref19_Source_Beat.wp s w R) : clS Tryz.prog F.ref19_Source_Beat [.pointer s] w true [] R :=
  ok_of Tryz_follows Tryz.func19 (fun R => ref19_Source_Beat.wp s w R) (ref19_Source_Beat.eq s w) rfl h
/-! ### ref19_Source_Put -/
set_option maxRecDepth 100000 in
def ref19_Source_Put.wp (s : Option Addr) (e0 : Int) (e1 : Int) (e2 : Int) (root : Int) (boot : Int) (w : World) (R : TR [(false, [(.i .i64)])] → World → Prop) : Prop :=
alK [.int .i64 e0, .int .i64 e1, .int .i64 e2] T.ref12_Entry w fun p1 w2 =>
ldN [(.i .i64), (.i .i64), (.i .i64)] p1 0 w2 fun x3 =>
clS Tryz.prog F.ref12_Good [.agg #[.int .i64 x3.1, .int .i64 x3.2.1, .int .i64 x3.2.2.1]] w2 false [(false, [.b])] fun r4 w5 =>
brB (!r4.1.1) (
R ((1, ()), ()) w5) (
brB (decide (root < 0)) (
R ((1, ()), ()) w5) (
brB (decide (root > 63)) (
R ((1, ()), ()) w5) (
ldN [(.i .i64), (.i .i64), (.i .i64)] p1 0 w5 fun x6 =>
ncK s fun a7 =>
stN [.int .i64 x6.1, .int .i64 x6.2.1, .int .i64 x6.2.2.1] (a7.add 1) 0 w5 fun w8 =>
ncK s fun a9 =>
stN [.int .i64 root] (a9.add 4) 0 w8 fun w10 =>
ncK s fun a11 =>
stN [.int .u16 boot] (a11.add 5) 0 w10 fun w12 =>
ncK s fun a13 =>
stN [.int .i64 0] (a13.add 6) 0 w12 fun w14 =>
ncK s fun a15 =>
stN [.bool true] (a15.add 7) 0 w14 fun w16 =>
R ((0, ()), ()) w16)))
set_option maxRecDepth 100000 in
theorem ref19_Source_Put.eq (s : Option Addr) (e0 : Int) (e1 : Int) (e2 : Int) (root : Int) (boot : Int) (w : World) (R : Value → World → Prop) : wpF Tryz.prog Tryz.f20 .n [.pointer s, .agg #[.int .i64 e0, .int .i64 e1, .int .i64 e2], .int .i64 root, .int .u16 boot] w R = ref19_Source_Put.wp s e0 e1 e2 root boot w (fun r w => R (encR false [(false, [(.i .i64)])] r) w) := by kernel_rfl
theorem ref19_Source_Put.ok {s : Option Addr} {e0 : Int} {e1 : Int} {e2 : Int} {root : Int} {boot : Int} {w : World} {R : TR [(false, [(.i .i64)])] → World → Prop} (h : ref19_Source_Put.wp s e0 e1 e2 root boot w R) : clS Tryz.prog F.ref19_Source_Put [.pointer s, .agg #[.int .i64 e0, .int .i64 e1, .int .i64 e2], .int .i64 root, .int .u16 boot] w false [(false, [(.i .i64)])] R :=
  ok_of Tryz_follows Tryz.func20 (fun R => ref19_Source_Put.wp s e0 e1 e2 root boot w R) (ref19_Source_Put.eq s e0 e1 e2 root boot w) rfl h
/-! ### ref19_Source_Time -/
set_option maxRecDepth 100000 in
def ref19_Source_Time.wp (s : Option Addr) (f : Option Addr) (local_ : Int) (w : World) (R : TR [(true, [(.i .i64), (.i .i64), (.i .i64), (.i .u16), (.i .i64)]), (false, [(.i .i64)])] → World → Prop) : Prop :=
alK [.int .i64 0, .int .i64 0, .int .i64 0, .int .u16 0, .int .i64 0] T.ref19_Answer w fun p1 w2 =>
clS Tryz.prog F.ref16_Flood_Synced [.pointer f] w2 false [(false, [.b])] fun r3 w4 =>
brB r3.1.1 (
clS Tryz.prog F.ref16_Flood_Time [.pointer f, .int .i64 local_] w4 true [(false, [(.i .i64)]), (false, [(.i .i64)]), (false, [(.i .i64)])] fun r5 w6 =>
brB (r5.2.2.1.1 != 0) (
stN [.int .i64 0, .int .i64 0, .int .i64 0, .int .u16 0, .int .i64 0] p1 0 w6 fun w7 =>
ldN [(.i .i64), (.i .i64), (.i .i64), (.i .u16), (.i .i64)] p1 0 w7 fun x8 =>
R ((x8.1, x8.2.1, x8.2.2.1, x8.2.2.2.1, x8.2.2.2.2.1, ()), (r5.2.2.1.1, ()), ()) w7) (
ncK f fun a9 =>
ld1 .p a9 w6 fun x10 =>
clS Tryz.prog F.ref15_Elect_Mark [.pointer x10] w6 true [(false, [(.i .u16)]), (false, [(.i .u16)]), (false, [.b])] fun r11 w12 =>
clS Tryz.prog F.ref16_Flood_Mine [.pointer f] w12 false [(false, [.b])] fun r13 w14 =>
brB r13.1.1 (
ncK f fun a15 =>
ld1 .p a15 w14 fun x16 =>
ncK x16 fun a17 =>
ld1 (.i .i64) (a17.add 5) w14 fun x18 =>
stN [.int .i64 r5.1.1, .int .i64 r5.2.1.1, .int .i64 x18, .int .u16 r11.1.1, .int .i64 1] p1 0 w14 fun w19 =>
ldN [(.i .i64), (.i .i64), (.i .i64), (.i .u16), (.i .i64)] p1 0 w19 fun x20 =>
R ((x20.1, x20.2.1, x20.2.2.1, x20.2.2.2.1, x20.2.2.2.2.1, ()), (0, ()), ()) w19) (
ncK f fun a21 =>
ld1 .p a21 w14 fun x22 =>
ncK x22 fun a23 =>
ld1 (.i .i64) (a23.add 5) w14 fun x24 =>
stN [.int .i64 r5.1.1, .int .i64 r5.2.1.1, .int .i64 x24, .int .u16 r11.1.1, .int .i64 2] p1 0 w14 fun w25 =>
ldN [(.i .i64), (.i .i64), (.i .i64), (.i .u16), (.i .i64)] p1 0 w25 fun x26 =>
R ((x26.1, x26.2.1, x26.2.2.1, x26.2.2.2.1, x26.2.2.2.2.1, ()), (0, ()), ()) w25))) (
ncK s fun a27 =>
ld1 .b (a27.add 7) w4 fun x28 =>
brB (!x28) (
stN [.int .i64 0, .int .i64 0, .int .i64 0, .int .u16 0, .int .i64 0] p1 0 w4 fun w29 =>
ldN [(.i .i64), (.i .i64), (.i .i64), (.i .u16), (.i .i64)] p1 0 w29 fun x30 =>
R ((x30.1, x30.2.1, x30.2.2.1, x30.2.2.2.1, x30.2.2.2.2.1, ()), (9, ()), ()) w29) (
brB (decide (local_ < 0)) (
stN [.int .i64 0, .int .i64 0, .int .i64 0, .int .u16 0, .int .i64 0] p1 0 w4 fun w31 =>
ldN [(.i .i64), (.i .i64), (.i .i64), (.i .u16), (.i .i64)] p1 0 w31 fun x32 =>
R ((x32.1, x32.2.1, x32.2.2.1, x32.2.2.2.1, x32.2.2.2.2.1, ()), (8, ()), ()) w31) (
brB (decide (local_ > 1125899906842624)) (
stN [.int .i64 0, .int .i64 0, .int .i64 0, .int .u16 0, .int .i64 0] p1 0 w4 fun w33 =>
ldN [(.i .i64), (.i .i64), (.i .i64), (.i .u16), (.i .i64)] p1 0 w33 fun x34 =>
R ((x34.1, x34.2.1, x34.2.2.1, x34.2.2.2.1, x34.2.2.2.2.1, ()), (8, ()), ()) w33) (
ncK s fun a35 =>
ld1 (.i .i64) ((a35.add 1).add 1) w4 fun x36 =>
brB (decide ((IntKind.wrap .i64 (local_ + x36)) < 0)) (
stN [.int .i64 0, .int .i64 0, .int .i64 0, .int .u16 0, .int .i64 0] p1 0 w4 fun w37 =>
ldN [(.i .i64), (.i .i64), (.i .i64), (.i .u16), (.i .i64)] p1 0 w37 fun x38 =>
R ((x38.1, x38.2.1, x38.2.2.1, x38.2.2.2.1, x38.2.2.2.2.1, ()), (8, ()), ()) w37) (
ncK s fun a39 =>
ld1 (.i .i64) ((a39.add 1).add 1) w4 fun x40 =>
brB (decide ((IntKind.wrap .i64 (local_ + x40)) > 1125899906842624)) (
stN [.int .i64 0, .int .i64 0, .int .i64 0, .int .u16 0, .int .i64 0] p1 0 w4 fun w41 =>
ldN [(.i .i64), (.i .i64), (.i .i64), (.i .u16), (.i .i64)] p1 0 w41 fun x42 =>
R ((x42.1, x42.2.1, x42.2.2.1, x42.2.2.2.1, x42.2.2.2.2.1, ()), (8, ()), ()) w41) (
drK w4 fun w43 =>
ncK s fun a44 =>
ld1 (.i .i64) ((a44.add 1).add 1) w43 fun x45 =>
ncK s fun a46 =>
ld1 (.i .i64) ((a46.add 1).add 2) w43 fun x47 =>
ncK s fun a48 =>
ld1 (.i .i64) (a48.add 4) w43 fun x49 =>
ncK s fun a50 =>
ld1 (.i .u16) (a50.add 5) w43 fun x51 =>
stN [.int .i64 (IntKind.wrap .i64 (local_ + x45)), .int .i64 x47, .int .i64 x49, .int .u16 x51, .int .i64 3] p1 0 w43 fun w52 =>
Hold [] w52 ∧ (
ldN [(.i .i64), (.i .i64), (.i .i64), (.i .u16), (.i .i64)] p1 0 w52 fun x53 =>
R ((x53.1, x53.2.1, x53.2.2.1, x53.2.2.2.1, x53.2.2.2.2.1, ()), (0, ()), ()) w52)))))))
set_option maxRecDepth 100000 in
theorem ref19_Source_Time.eq (s : Option Addr) (f : Option Addr) (local_ : Int) (w : World) (R : Value → World → Prop) : wpF Tryz.prog Tryz.f21 (.s .n (.s .n (.s .n (.s .n (.s (.pl (.tk 0 (.tk 1 (.tk 2 (.tk 3 (.tk 4 (.tk 5 (.tk 6 (.tk 7 (.tk 8 (.tk 9 (.tk 10 (.tk 11 (.tk 12 (.tk 13 (.tk 14 (.tk 15 (.tk 16 (.tk 17 (.tk 18 (.tk 19 (.tk 20 (.ef 21 [5, 11, 15, 19] (.tk 22 .z)))))))))))))))))))))))) .n))))) [.pointer s, .pointer f, .int .i64 local_] w R = ref19_Source_Time.wp s f local_ w (fun r w => R (encR true [(true, [(.i .i64), (.i .i64), (.i .i64), (.i .u16), (.i .i64)]), (false, [(.i .i64)])] r) w) := by kernel_rfl
theorem ref19_Source_Time.ok {s : Option Addr} {f : Option Addr} {local_ : Int} {w : World} {R : TR [(true, [(.i .i64), (.i .i64), (.i .i64), (.i .u16), (.i .i64)]), (false, [(.i .i64)])] → World → Prop} (h : ref19_Source_Time.wp s f local_ w R) : clS Tryz.prog F.ref19_Source_Time [.pointer s, .pointer f, .int .i64 local_] w true [(true, [(.i .i64), (.i .i64), (.i .i64), (.i .u16), (.i .i64)]), (false, [(.i .i64)])] R :=
  ok_of Tryz_follows Tryz.func21 (fun R => ref19_Source_Time.wp s f local_ w R) (ref19_Source_Time.eq s f local_ w) rfl h
/-! ### law19_same -/
set_option maxRecDepth 100000 in
def law19_same.wp (a0 : Int) (a1 : Int) (a2 : Int) (a3 : Int) (a4 : Int) (b0 : Int) (b1 : Int) (b2 : Int) (b3 : Int) (b4 : Int) (w : World) (R : TR [(false, [.b])] → World → Prop) : Prop :=
alK [.int .i64 a0, .int .i64 a1, .int .i64 a2, .int .u16 a3, .int .i64 a4] T.source_Answer w fun p1 w2 =>
alK [.int .i64 b0, .int .i64 b1, .int .i64 b2, .int .u16 b3, .int .i64 b4] T.ref19_Answer w2 fun p3 w4 =>
ld1 (.i .i64) p1 w4 fun x5 =>
ld1 (.i .i64) p3 w4 fun x6 =>
brB (x5 == x6) (
ld1 (.i .i64) (p1.add 1) w4 fun x7 =>
ld1 (.i .i64) (p3.add 1) w4 fun x8 =>
brB (x7 == x8) (
ld1 (.i .i64) (p1.add 2) w4 fun x9 =>
ld1 (.i .i64) (p3.add 2) w4 fun x10 =>
brB (x9 == x10) (
ld1 (.i .u16) ((p1.add 2).add 1) w4 fun x11 =>
ld1 (.i .u16) (p3.add 3) w4 fun x12 =>
brB (x11 == x12) (
ld1 (.i .i64) (p1.add 4) w4 fun x13 =>
ld1 (.i .i64) (p3.add 4) w4 fun x14 =>
R (((x13 == x14), ()), ()) w4) (
R ((false, ()), ()) w4)) (
R ((false, ()), ()) w4)) (
R ((false, ()), ()) w4)) (
R ((false, ()), ()) w4)
set_option maxRecDepth 100000 in
theorem law19_same.eq (a0 : Int) (a1 : Int) (a2 : Int) (a3 : Int) (a4 : Int) (b0 : Int) (b1 : Int) (b2 : Int) (b3 : Int) (b4 : Int) (w : World) (R : Value → World → Prop) : wpF Tryz.prog Tryz.f22 .n [.agg #[.int .i64 a0, .int .i64 a1, .int .i64 a2, .int .u16 a3, .int .i64 a4], .agg #[.int .i64 b0, .int .i64 b1, .int .i64 b2, .int .u16 b3, .int .i64 b4]] w R = law19_same.wp a0 a1 a2 a3 a4 b0 b1 b2 b3 b4 w (fun r w => R (encR false [(false, [.b])] r) w) := by kernel_rfl
theorem law19_same.ok {a0 : Int} {a1 : Int} {a2 : Int} {a3 : Int} {a4 : Int} {b0 : Int} {b1 : Int} {b2 : Int} {b3 : Int} {b4 : Int} {w : World} {R : TR [(false, [.b])] → World → Prop} (h : law19_same.wp a0 a1 a2 a3 a4 b0 b1 b2 b3 b4 w R) : clS Tryz.prog F.law19_same [.agg #[.int .i64 a0, .int .i64 a1, .int .i64 a2, .int .u16 a3, .int .i64 a4], .agg #[.int .i64 b0, .int .i64 b1, .int .i64 b2, .int .u16 b3, .int .i64 b4]] w false [(false, [.b])] R :=
  ok_of Tryz_follows Tryz.func22 (fun R => law19_same.wp a0 a1 a2 a3 a4 b0 b1 b2 b3 b4 w R) (law19_same.eq a0 a1 a2 a3 a4 b0 b1 b2 b3 b4 w) rfl h
/-! ### ref15_Good -/
set_option maxRecDepth 100000 in
def ref15_Good.wp (me : Int) (timeout : Int) (ignore : Int) (w : World) (R : TR [(false, [.b])] → World → Prop) : Prop :=
brB (decide (me ≥ 0)) (
brB (decide (me < 64)) (
brB (decide (timeout ≥ 1)) (
brB (decide (timeout ≤ 1000)) (
brB (decide (ignore ≥ 0)) (
R ((decide (ignore ≤ 1000), ()), ()) w) (
R ((false, ()), ()) w)) (
R ((false, ()), ()) w)) (
R ((false, ()), ()) w)) (
R ((false, ()), ()) w)) (
R ((false, ()), ()) w)
set_option maxRecDepth 100000 in
theorem ref15_Good.eq (me : Int) (timeout : Int) (ignore : Int) (w : World) (R : Value → World → Prop) : wpF Tryz.prog Tryz.f23 .n [.int .i64 me, .int .i64 timeout, .int .i64 ignore] w R = ref15_Good.wp me timeout ignore w (fun r w => R (encR false [(false, [.b])] r) w) := by kernel_rfl
theorem ref15_Good.ok {me : Int} {timeout : Int} {ignore : Int} {w : World} {R : TR [(false, [.b])] → World → Prop} (h : ref15_Good.wp me timeout ignore w R) : clS Tryz.prog F.ref15_Good [.int .i64 me, .int .i64 timeout, .int .i64 ignore] w false [(false, [.b])] R :=
  ok_of Tryz_follows Tryz.func23 (fun R => ref15_Good.wp me timeout ignore w R) (ref15_Good.eq me timeout ignore w) rfl h
/-! ### flood_Rules_Good -/
set_option maxRecDepth 100000 in
def flood_Rules_Good.wp (r0 : Int) (r1 : Int) (r2 : Int) (r3 : Int) (w : World) (R : TR [(false, [.b])] → World → Prop) : Prop :=
alK [.int .i64 r0, .int .i64 r1, .int .i64 r2, .int .i64 r3] T.flood_Rules w fun p1 w2 =>
ldN [(.i .i64), (.i .i64)] p1 0 w2 fun x3 =>
clS Tryz.prog F.elect_Rules_Good [.agg #[.int .i64 x3.1, .int .i64 x3.2.1]] w2 false [(false, [.b])] fun r4 w5 =>
brB r4.1.1 (
ld1 (.i .i64) (p1.add 2) w5 fun x6 =>
brB (decide (x6 ≥ 1)) (
ld1 (.i .i64) (p1.add 2) w5 fun x7 =>
brB (decide (x7 ≤ 8)) (
ld1 (.i .i64) (p1.add 3) w5 fun x8 =>
brB (decide (x8 ≥ 0)) (
ld1 (.i .i64) (p1.add 3) w5 fun x9 =>
R ((decide (x9 ≤ 10), ()), ()) w5) (
R ((false, ()), ()) w5)) (
R ((false, ()), ()) w5)) (
R ((false, ()), ()) w5)) (
R ((false, ()), ()) w5)
set_option maxRecDepth 100000 in
theorem flood_Rules_Good.eq (r0 : Int) (r1 : Int) (r2 : Int) (r3 : Int) (w : World) (R : Value → World → Prop) : wpF Tryz.prog Tryz.f24 .n [.agg #[.int .i64 r0, .int .i64 r1, .int .i64 r2, .int .i64 r3]] w R = flood_Rules_Good.wp r0 r1 r2 r3 w (fun r w => R (encR false [(false, [.b])] r) w) := by kernel_rfl
theorem flood_Rules_Good.ok {r0 : Int} {r1 : Int} {r2 : Int} {r3 : Int} {w : World} {R : TR [(false, [.b])] → World → Prop} (h : flood_Rules_Good.wp r0 r1 r2 r3 w R) : clS Tryz.prog F.flood_Rules_Good [.agg #[.int .i64 r0, .int .i64 r1, .int .i64 r2, .int .i64 r3]] w false [(false, [.b])] R :=
  ok_of Tryz_follows Tryz.func24 (fun R => flood_Rules_Good.wp r0 r1 r2 r3 w R) (flood_Rules_Good.eq r0 r1 r2 r3 w) rfl h
/-! ### elect_New -/
set_option maxRecDepth 100000 in
def elect_New.wp (me : Int) (r0 : Int) (r1 : Int) (w : World) (R : TR [(false, [.p]), (false, [(.i .i64)])] → World → Prop) : Prop :=
alK [.int .i64 r0, .int .i64 r1] T.elect_Rules w fun p1 w2 =>
brB (decide (me < 0)) (
R ((none, ()), (1, ()), ()) w2) (
brB (decide (me ≥ 64)) (
R ((none, ()), (1, ()), ()) w2) (
ldN [(.i .i64), (.i .i64)] p1 0 w2 fun x3 =>
clS Tryz.prog F.elect_Rules_Good [.agg #[.int .i64 x3.1, .int .i64 x3.2.1]] w2 false [(false, [.b])] fun r4 w5 =>
brB (!r4.1.1) (
R ((none, ()), (1, ()), ()) w5) (
ldN [(.i .i64), (.i .i64)] p1 0 w5 fun x6 =>
alK [.int .i64 me, .int .i64 x6.1, .int .i64 x6.2.1, .int .u16 0, .int .u16 0, .int .i64 0, .int .i64 0, .int .i64 0, .map none] T.elect_Elect w5 fun p7 w8 =>
clS Tryz.prog F.elect_Elect_Boot [.pointer (some p7), .int .u16 0] w8 true [] fun r9 w10 =>
R ((some p7, ()), (0, ()), ()) w10)))
set_option maxRecDepth 100000 in
theorem elect_New.eq (me : Int) (r0 : Int) (r1 : Int) (w : World) (R : Value → World → Prop) : wpF Tryz.prog Tryz.f25 .n [.int .i64 me, .agg #[.int .i64 r0, .int .i64 r1]] w R = elect_New.wp me r0 r1 w (fun r w => R (encR true [(false, [.p]), (false, [(.i .i64)])] r) w) := by kernel_rfl
theorem elect_New.ok {me : Int} {r0 : Int} {r1 : Int} {w : World} {R : TR [(false, [.p]), (false, [(.i .i64)])] → World → Prop} (h : elect_New.wp me r0 r1 w R) : clS Tryz.prog F.elect_New [.int .i64 me, .agg #[.int .i64 r0, .int .i64 r1]] w true [(false, [.p]), (false, [(.i .i64)])] R :=
  ok_of Tryz_follows Tryz.func25 (fun R => elect_New.wp me r0 r1 w R) (elect_New.eq me r0 r1 w) rfl h
/-! ### flood_Flood_Synced -/
set_option maxRecDepth 100000 in
def flood_Flood_Synced.wp (f : Option Addr) (w : World) (R : TR [(false, [.b])] → World → Prop) : Prop :=
drK w fun w1 =>
brB (!(Option.isNone f)) (
ncK f fun a2 =>
ld1 .p a2 w1 fun x3 =>
clS Tryz.prog F.elect_Elect_Mine [.pointer x3] w1 false [(false, [.b])] fun r4 w5 =>
Hold [(6, a2, (w1.cell? a2).getD undef)] w5 ∧ (
brB r4.1.1 (
R ((true, ()), ()) w5) (
ncK f fun a6 =>
ncK f fun a7 =>
ld1 (.i .i64) ((a7.add 2).add 2) w5 fun x8 =>
clS Tryz.prog F.table_Table_Len [.pointer (some (a6.add 6))] w5 false [(false, [(.i .i64)])] fun r9 w10 =>
Hold [(17, ((a7.add 2).add 2), (w5.cell? ((a7.add 2).add 2)).getD undef), (6, a2, (w1.cell? a2).getD undef)] w10 ∧ (
R ((decide (r9.1.1 ≥ x8), ()), ()) w10)))) (
R ((false, ()), ()) w1)
set_option maxRecDepth 100000 in
theorem flood_Flood_Synced.eq (f : Option Addr) (w : World) (R : Value → World → Prop) : wpF Tryz.prog Tryz.f26 (.s .n (.s (.pl (.tk 0 (.tk 1 (.tk 2 (.tk 3 (.tk 4 (.tk 5 (.tk 6 (.ef 7 [] (.tk 8 (.tk 9 (.tk 10 (.tk 11 (.tk 13 (.tk 14 (.tk 15 (.tk 16 (.tk 17 (.ef 12 [] (.tk 18 (.tk 19 (.tk 20 (.tk 21 .z))))))))))))))))))))))) .n)) [.pointer f] w R = flood_Flood_Synced.wp f w (fun r w => R (encR false [(false, [.b])] r) w) := by kernel_rfl
theorem flood_Flood_Synced.ok {f : Option Addr} {w : World} {R : TR [(false, [.b])] → World → Prop} (h : flood_Flood_Synced.wp f w R) : clS Tryz.prog F.flood_Flood_Synced [.pointer f] w false [(false, [.b])] R :=
  ok_of Tryz_follows Tryz.func26 (fun R => flood_Flood_Synced.wp f w R) (flood_Flood_Synced.eq f w) rfl h
end Go.Proofs.YtahojpppjpfjmaaGreat
