import Derived.Test.YtgpgdhopmifbpaaGreatNm
namespace Go.Proofs.YtgpgdhopmifbpaaGreat
open Go.Eng
set_option linter.unusedVariables false
/-! ### ref16_Flood_Beat -/
set_option maxRecDepth 100000 in
def ref16_Flood_Beat.wp (f : Option Addr) (local_ : Int) (w : World) (R : TR [(true, [(.i .i64), (.i .i64), (.i .i64), (.i .i64), (.i .u16), (.i .u16), (.i .i64), (.i .i64), (.i .i64), (.i .i64), (.i .i64), (.i .i64), (.i .i64), (.i .i64)])] → World → Prop) : Prop :=
alK [.int .i64 0, .int .i64 0, .int .i64 0, .int .i64 0, .int .u16 0, .int .u16 0, .int .i64 0, .int .i64 0, .int .i64 0, .int .i64 0, .int .i64 0, .int .i64 0, .int .i64 0, .int .i64 0] T.ref05_Plain w fun p1 w2 =>
CutT (fun (J3 : Unit → World → Prop) =>
ncK f fun a6 =>
ld1 .p a6 w2 fun x7 =>
clS Tryz.prog F.ref15_Elect_Beat [.pointer x7] w2 false [(false, [.b])] fun r8 w9 =>
brB r8.1.1 (
clS Tryz.prog F.ref16_Flood_forget [.pointer f] w9 true [] fun r10 w11 =>
J3 (()) w11) (
J3 (()) w9)) (fun (z4 : Unit) w5 => ∀ _ : Nat → Value,
clS Tryz.prog F.ref16_time [.int .i64 local_] w5 false [(false, [.b])] fun r12 w13 =>
brB (!r12.1.1) (
stN [.int .i64 0, .int .i64 0, .int .i64 0, .int .i64 0, .int .u16 0, .int .u16 0, .int .i64 0, .int .i64 0, .int .i64 0, .int .i64 0, .int .i64 0, .int .i64 0, .int .i64 0, .int .i64 0] p1 0 w13 fun w14 =>
ldN [(.i .i64), (.i .i64), (.i .i64), (.i .i64), (.i .u16), (.i .u16), (.i .i64), (.i .i64), (.i .i64), (.i .i64), (.i .i64), (.i .i64), (.i .i64), (.i .i64)] p1 0 w14 fun x15 =>
R ((x15.1, x15.2.1, x15.2.2.1, x15.2.2.2.1, x15.2.2.2.2.1, x15.2.2.2.2.2.1, x15.2.2.2.2.2.2.1, x15.2.2.2.2.2.2.2.1, x15.2.2.2.2.2.2.2.2.1, x15.2.2.2.2.2.2.2.2.2.1, x15.2.2.2.2.2.2.2.2.2.2.1, x15.2.2.2.2.2.2.2.2.2.2.2.1, x15.2.2.2.2.2.2.2.2.2.2.2.2.1, x15.2.2.2.2.2.2.2.2.2.2.2.2.2.1, ()), ()) w14) (
clS Tryz.prog F.ref16_Flood_Mine [.pointer f] w13 false [(false, [.b])] fun r16 w17 =>
brB r16.1.1 (
drK w17 fun w18 =>
ncK f fun a19 =>
ld1 .p a19 w18 fun x20 =>
ncK f fun a21 =>
ld1 .p a21 w18 fun x22 =>
ncK x22 fun a23 =>
ld1 (.i .u16) (a23.add 4) w18 fun x24 =>
clS Tryz.prog F.ref02_Next [.int .u16 x24] w18 false [(false, [(.i .u16)])] fun r25 w26 =>
Hold [(7, a21, (w18.cell? a21).getD undef), (3, a19, (w18.cell? a19).getD undef)] w26 ∧ (
ncK x20 fun a27 =>
stN [.int .u16 r25.1.1] (a27.add 4) 0 w26 fun w28 =>
Hold [] w28 ∧ (
drK w28 fun w29 =>
ncK f fun a30 =>
ld1 .p a30 w29 fun x31 =>
ncK x31 fun a32 =>
ld1 (.i .i64) a32 w29 fun x33 =>
ncK f fun a34 =>
ld1 .p a34 w29 fun x35 =>
ncK x35 fun a36 =>
ld1 (.i .i64) a36 w29 fun x37 =>
ncK f fun a38 =>
ld1 .p a38 w29 fun x39 =>
ncK x39 fun a40 =>
ld1 (.i .u16) (a40.add 3) w29 fun x41 =>
ncK f fun a42 =>
ld1 .p a42 w29 fun x43 =>
ncK x43 fun a44 =>
ld1 (.i .u16) (a44.add 4) w29 fun x45 =>
stN [.int .i64 1, .int .i64 x33, .int .i64 0, .int .i64 x37, .int .u16 x41, .int .u16 x45, .int .i64 0, .int .i64 local_, .int .i64 0, .int .i64 0, .int .i64 0, .int .i64 0, .int .i64 0, .int .i64 0] p1 0 w29 fun w46 =>
Hold [] w46 ∧ (
ldN [(.i .i64), (.i .i64), (.i .i64), (.i .i64), (.i .u16), (.i .u16), (.i .i64), (.i .i64), (.i .i64), (.i .i64), (.i .i64), (.i .i64), (.i .i64), (.i .i64)] p1 0 w46 fun x47 =>
R ((x47.1, x47.2.1, x47.2.2.1, x47.2.2.2.1, x47.2.2.2.2.1, x47.2.2.2.2.2.1, x47.2.2.2.2.2.2.1, x47.2.2.2.2.2.2.2.1, x47.2.2.2.2.2.2.2.2.1, x47.2.2.2.2.2.2.2.2.2.1, x47.2.2.2.2.2.2.2.2.2.2.1, x47.2.2.2.2.2.2.2.2.2.2.2.1, x47.2.2.2.2.2.2.2.2.2.2.2.2.1, x47.2.2.2.2.2.2.2.2.2.2.2.2.2.1, ()), ()) w46)))) (
clS Tryz.prog F.ref16_Flood_Synced [.pointer f] w17 false [(false, [.b])] fun r48 w49 =>
brB (!r48.1.1) (
stN [.int .i64 0, .int .i64 0, .int .i64 0, .int .i64 0, .int .u16 0, .int .u16 0, .int .i64 0, .int .i64 0, .int .i64 0, .int .i64 0, .int .i64 0, .int .i64 0, .int .i64 0, .int .i64 0] p1 0 w49 fun w50 =>
ldN [(.i .i64), (.i .i64), (.i .i64), (.i .i64), (.i .u16), (.i .u16), (.i .i64), (.i .i64), (.i .i64), (.i .i64), (.i .i64), (.i .i64), (.i .i64), (.i .i64)] p1 0 w50 fun x51 =>
R ((x51.1, x51.2.1, x51.2.2.1, x51.2.2.2.1, x51.2.2.2.2.1, x51.2.2.2.2.2.1, x51.2.2.2.2.2.2.1, x51.2.2.2.2.2.2.2.1, x51.2.2.2.2.2.2.2.2.1, x51.2.2.2.2.2.2.2.2.2.1, x51.2.2.2.2.2.2.2.2.2.2.1, x51.2.2.2.2.2.2.2.2.2.2.2.1, x51.2.2.2.2.2.2.2.2.2.2.2.2.1, x51.2.2.2.2.2.2.2.2.2.2.2.2.2.1, ()), ()) w50) (
ncK f fun a52 =>
ld1 .p a52 w49 fun x53 =>
clS Tryz.prog F.ref15_Elect_Mark [.pointer x53] w49 true [(false, [(.i .u16)]), (false, [(.i .u16)]), (false, [.b])] fun r54 w55 =>
drK w55 fun w56 =>
ncK f fun a57 =>
ld1 .p a57 w56 fun x58 =>
ncK x58 fun a59 =>
ld1 (.i .i64) a59 w56 fun x60 =>
ncK f fun a61 =>
ld1 .p a61 w56 fun x62 =>
ncK x62 fun a63 =>
ld1 (.i .i64) (a63.add 5) w56 fun x64 =>
ncK f fun a65 =>
ld1 (.i .i64) (a65.add 6) w56 fun x66 =>
ncK f fun a67 =>
ld1 (.i .i64) (a67.add 5) w56 fun x68 =>
ncK f fun a69 =>
ld1 (.i .i64) (a69.add 4) w56 fun x70 =>
alK [.int .i64 0, .int .i64 0, .int .i64 0, .int .i64 0, .int .u16 0, .int .u16 0, .int .i64 0, .int .i64 0, .int .i64 0, .int .i64 0, .int .i64 0, .int .i64 0, .int .i64 0, .int .i64 0] T.ref05_Plain w56 fun p71 w72 =>
Hold [(29, (a69.add 4), (w56.cell? (a69.add 4)).getD undef), (23, (a67.add 5), (w56.cell? (a67.add 5)).getD undef), (19, (a65.add 6), (w56.cell? (a65.add 6)).getD undef), (13, (a63.add 5), (w56.cell? (a63.add 5)).getD undef), (10, a61, (w56.cell? a61).getD undef), (6, a59, (w56.cell? a59).getD undef), (3, a57, (w56.cell? a57).getD undef)] w72 ∧ (
stN [.int .i64 1, .int .i64 x60, .int .i64 0, .int .i64 x64, .int .u16 r54.1.1, .int .u16 r54.2.1.1, .int .i64 x66, .int .i64 (IntKind.wrap .i64 ((IntKind.wrap .i64 (x68 + local_)) - x70)), .int .i64 0, .int .i64 0, .int .i64 0, .int .i64 0, .int .i64 0, .int .i64 0] p71 0 w72 fun w73 =>
Hold [] w73 ∧ (
ldN [(.i .i64), (.i .i64), (.i .i64), (.i .i64), (.i .u16), (.i .u16), (.i .i64), (.i .i64), (.i .i64), (.i .i64), (.i .i64), (.i .i64), (.i .i64), (.i .i64)] p71 0 w73 fun x74 =>
clS Tryz.prog F.ref05_Good [.agg #[.int .i64 x74.1, .int .i64 x74.2.1, .int .i64 x74.2.2.1, .int .i64 x74.2.2.2.1, .int .u16 x74.2.2.2.2.1, .int .u16 x74.2.2.2.2.2.1, .int .i64 x74.2.2.2.2.2.2.1, .int .i64 x74.2.2.2.2.2.2.2.1, .int .i64 x74.2.2.2.2.2.2.2.2.1, .int .i64 x74.2.2.2.2.2.2.2.2.2.1, .int .i64 x74.2.2.2.2.2.2.2.2.2.2.1, .int .i64 x74.2.2.2.2.2.2.2.2.2.2.2.1, .int .i64 x74.2.2.2.2.2.2.2.2.2.2.2.2.1, .int .i64 x74.2.2.2.2.2.2.2.2.2.2.2.2.2.1]] w73 false [(false, [.b])] fun r75 w76 =>
brB (!r75.1.1) (
stN [.int .i64 0, .int .i64 0, .int .i64 0, .int .i64 0, .int .u16 0, .int .u16 0, .int .i64 0, .int .i64 0, .int .i64 0, .int .i64 0, .int .i64 0, .int .i64 0, .int .i64 0, .int .i64 0] p1 0 w76 fun w77 =>
ldN [(.i .i64), (.i .i64), (.i .i64), (.i .i64), (.i .u16), (.i .u16), (.i .i64), (.i .i64), (.i .i64), (.i .i64), (.i .i64), (.i .i64), (.i .i64), (.i .i64)] p1 0 w77 fun x78 =>
R ((x78.1, x78.2.1, x78.2.2.1, x78.2.2.2.1, x78.2.2.2.2.1, x78.2.2.2.2.2.1, x78.2.2.2.2.2.2.1, x78.2.2.2.2.2.2.2.1, x78.2.2.2.2.2.2.2.2.1, x78.2.2.2.2.2.2.2.2.2.1, x78.2.2.2.2.2.2.2.2.2.2.1, x78.2.2.2.2.2.2.2.2.2.2.2.1, x78.2.2.2.2.2.2.2.2.2.2.2.2.1, x78.2.2.2.2.2.2.2.2.2.2.2.2.2.1, ()), ()) w77) (
ldN [(.i .i64), (.i .i64), (.i .i64), (.i .i64), (.i .u16), (.i .u16), (.i .i64), (.i .i64), (.i .i64), (.i .i64), (.i .i64), (.i .i64), (.i .i64), (.i .i64)] p71 0 w76 fun x79 =>
stN [.int .i64 x79.1, .int .i64 x79.2.1, .int .i64 x79.2.2.1, .int .i64 x79.2.2.2.1, .int .u16 x79.2.2.2.2.1, .int .u16 x79.2.2.2.2.2.1, .int .i64 x79.2.2.2.2.2.2.1, .int .i64 x79.2.2.2.2.2.2.2.1, .int .i64 x79.2.2.2.2.2.2.2.2.1, .int .i64 x79.2.2.2.2.2.2.2.2.2.1, .int .i64 x79.2.2.2.2.2.2.2.2.2.2.1, .int .i64 x79.2.2.2.2.2.2.2.2.2.2.2.1, .int .i64 x79.2.2.2.2.2.2.2.2.2.2.2.2.1, .int .i64 x79.2.2.2.2.2.2.2.2.2.2.2.2.2.1] p1 0 w76 fun w80 =>
ldN [(.i .i64), (.i .i64), (.i .i64), (.i .i64), (.i .u16), (.i .u16), (.i .i64), (.i .i64), (.i .i64), (.i .i64), (.i .i64), (.i .i64), (.i .i64), (.i .i64)] p1 0 w80 fun x81 =>
R ((x81.1, x81.2.1, x81.2.2.1, x81.2.2.2.1, x81.2.2.2.2.1, x81.2.2.2.2.2.1, x81.2.2.2.2.2.2.1, x81.2.2.2.2.2.2.2.1, x81.2.2.2.2.2.2.2.2.1, x81.2.2.2.2.2.2.2.2.2.1, x81.2.2.2.2.2.2.2.2.2.2.1, x81.2.2.2.2.2.2.2.2.2.2.2.1, x81.2.2.2.2.2.2.2.2.2.2.2.2.1, x81.2.2.2.2.2.2.2.2.2.2.2.2.2.1, ()), ()) w80)))))))
set_option maxRecDepth 100000 in
theorem ref16_Flood_Beat.eq (f : Option Addr) (local_ : Int) (w : World) (R : Value → World → Prop) : wpF Tryz.prog Tryz.f19 (.s .n (.ct [] .n (.s .n (.s (.s .n (.s (.s (.pl (.tk 0 (.tk 1 (.tk 2 (.tk 3 (.tk 4 (.tk 5 (.tk 6 (.tk 7 (.tk 8 (.tk 9 (.tk 10 (.ef 11 [10] (.tk 12 (.tk 13 (.ef 14 [3, 7] .z)))))))))))))))) (.s (.pl (.tk 0 (.tk 1 (.tk 2 (.tk 3 (.tk 4 (.tk 5 (.tk 6 (.tk 7 (.tk 8 (.tk 9 (.tk 10 (.tk 11 (.tk 12 (.tk 13 (.tk 14 (.tk 15 (.tk 16 (.tk 17 (.tk 18 (.tk 19 (.tk 20 (.tk 21 (.tk 22 (.tk 23 (.tk 24 (.tk 25 (.tk 26 (.tk 27 (.tk 28 (.tk 29 (.ef 30 [3, 6, 10, 13, 17, 20, 24, 27] .z)))))))))))))))))))))))))))))))) .n)) .n)) (.s .n (.s .n (.s (.pl (.tk 0 (.tk 1 (.tk 2 (.tk 3 (.tk 4 (.tk 5 (.tk 6 (.tk 7 (.tk 8 (.tk 9 (.tk 10 (.tk 11 (.tk 12 (.tk 13 (.tk 14 (.tk 15 (.tk 16 (.tk 17 (.tk 18 (.tk 19 (.tk 20 (.tk 21 (.tk 22 (.tk 23 (.tk 24 (.tk 25 (.tk 26 (.tk 27 (.tk 28 (.tk 29 (.tk 30 (.tk 31 (.ef 32 [] (.ef 33 [3, 6, 10, 13, 19, 23, 29] .z))))))))))))))))))))))))))))))))))) .n))))))) [.pointer f, .int .i64 local_] w R = ref16_Flood_Beat.wp f local_ w (fun r w => R (encR false [(true, [(.i .i64), (.i .i64), (.i .i64), (.i .i64), (.i .u16), (.i .u16), (.i .i64), (.i .i64), (.i .i64), (.i .i64), (.i .i64), (.i .i64), (.i .i64), (.i .i64)])] r) w) := by kernel_rfl
theorem ref16_Flood_Beat.ok {f : Option Addr} {local_ : Int} {w : World} {R : TR [(true, [(.i .i64), (.i .i64), (.i .i64), (.i .i64), (.i .u16), (.i .u16), (.i .i64), (.i .i64), (.i .i64), (.i .i64), (.i .i64), (.i .i64), (.i .i64), (.i .i64)])] → World → Prop} (h : ref16_Flood_Beat.wp f local_ w R) : clS Tryz.prog F.ref16_Flood_Beat [.pointer f, .int .i64 local_] w false [(true, [(.i .i64), (.i .i64), (.i .i64), (.i .i64), (.i .u16), (.i .u16), (.i .i64), (.i .i64), (.i .i64), (.i .i64), (.i .i64), (.i .i64), (.i .i64), (.i .i64)])] R :=
  ok_of Tryz_follows Tryz.func19 (fun R => ref16_Flood_Beat.wp f local_ w R) (ref16_Flood_Beat.eq f local_ w) rfl h
/-! ### ref16_Flood_Time -/
set_option maxRecDepth 100000 in
def ref16_Flood_Time.wp (f : Option Addr) (local_ : Int) (w : World) (R : TR [(false, [(.i .i64)]), (false, [(.i .i64)]), (false, [(.i .i64)])] → World → Prop) : Prop :=
clS Tryz.prog F.ref16_Flood_Synced [.pointer f] w false [(false, [.b])] fun r1 w2 =>
brB (!r1.1.1) (
R ((0, ()), (0, ()), (9, ()), ()) w2) (
clS Tryz.prog F.ref16_time [.int .i64 local_] w2 false [(false, [.b])] fun r3 w4 =>
brB (!r3.1.1) (
R ((0, ()), (0, ()), (8, ()), ()) w4) (
clS Tryz.prog F.ref16_Flood_Mine [.pointer f] w4 false [(false, [.b])] fun r5 w6 =>
brB r5.1.1 (
R ((local_, ()), (0, ()), (0, ()), ()) w6) (
CutT (fun (J7 : ((Addr) × Unit) → World → Prop) =>
drK w6 fun w10 =>
ncK f fun a11 =>
ld1 (.i .i64) (a11.add 2) w10 fun x12 =>
ncK f fun a13 =>
ld1 .sl (a13.add 3) w10 fun x14 =>
(
clS Tryz.prog F.ref14_Of [.int .i64 x12, .slice x14.1 x14.2.1 x14.2.2] w10 true [(true, [(.i .i64), (.i .i64), (.i .i64), (.i .i64), (.i .i64)]), (false, [.b])] fun r15 w16 =>
Hold [(7, (a13.add 3), (w10.cell? (a13.add 3)).getD undef), (3, (a11.add 2), (w10.cell? (a11.add 2)).getD undef)] w16 ∧ (
alK [.int .i64 0, .int .i64 0, .int .i64 0, .int .i64 0, .int .i64 0] T.ref14_Map w16 fun p17 w18 =>
Hold [(7, (a13.add 3), (w10.cell? (a13.add 3)).getD undef), (3, (a11.add 2), (w10.cell? (a11.add 2)).getD undef)] w18 ∧ (
stN [.int .i64 r15.1.1, .int .i64 r15.1.2.1, .int .i64 r15.1.2.2.1, .int .i64 r15.1.2.2.2.1, .int .i64 r15.1.2.2.2.2.1] p17 0 w18 fun w19 =>
Hold [] w19 ∧ (
J7 (p17, ()) w19)))) ∧ (
alK [.int .i64 0, .int .i64 0, .int .i64 0, .int .i64 0, .int .i64 0] T.ref14_Map w10 fun p20 w21 =>
Hold [(7, (a13.add 3), (w10.cell? (a13.add 3)).getD undef), (3, (a11.add 2), (w10.cell? (a11.add 2)).getD undef)] w21 ∧ (
clS Tryz.prog F.ref14_Of [.int .i64 x12, .slice x14.1 x14.2.1 x14.2.2] w21 true [(true, [(.i .i64), (.i .i64), (.i .i64), (.i .i64), (.i .i64)]), (false, [.b])] fun r22 w23 =>
Hold [] w23 ∧ (
stN [.int .i64 r22.1.1, .int .i64 r22.1.2.1, .int .i64 r22.1.2.2.1, .int .i64 r22.1.2.2.2.1, .int .i64 r22.1.2.2.2.2.1] p20 0 w23 fun w24 =>
Hold [] w24 ∧ (
J7 (p20, ()) w24))))) (fun (z8 : (Addr) × Unit) w9 => ∀ _ : Nat → Value,
ldN [(.i .i64), (.i .i64), (.i .i64), (.i .i64), (.i .i64)] z8.1 0 w9 fun x25 =>
clS Tryz.prog F.ref14_Global [.agg #[.int .i64 x25.1, .int .i64 x25.2.1, .int .i64 x25.2.2.1, .int .i64 x25.2.2.2.1, .int .i64 x25.2.2.2.2.1], .int .i64 local_] w9 true [(false, [(.i .i64)]), (false, [.b])] fun r26 w27 =>
brB (!r26.2.1.1) (
R ((0, ()), (0, ()), (8, ()), ()) w27) (
drK w27 fun w28 =>
ld1 (.i .i64) (z8.1.add 4) w28 fun x29 =>
R ((r26.1.1, ()), (x29, ()), (0, ()), ()) w28)))))
set_option maxRecDepth 100000 in
theorem ref16_Flood_Time.eq (f : Option Addr) (local_ : Int) (w : World) (R : Value → World → Prop) : wpF Tryz.prog Tryz.f20 (.s .n (.s .n (.s .n (.s .n (.ct [(7, .a)] (.pl (.tk 0 (.tk 1 (.tk 2 (.tk 3 (.tk 4 (.tk 5 (.tk 6 (.tk 7 (.two 8 12 (.tk 9 (.tk 10 (.tk 11 (.ef 12 [] (.ef 13 [3, 7] (.tk 14 .z)))))) (.ef 8 [3, 7] (.tk 9 (.tk 10 (.tk 11 (.ef 13 [] (.tk 14 .z)))))))))))))))) (.s .n (.s .n (.s (.pl (.tk 0 (.tk 1 (.tk 2 (.tk 3 (.tk 4 (.tk 5 .z))))))) .n)))))))) [.pointer f, .int .i64 local_] w R = ref16_Flood_Time.wp f local_ w (fun r w => R (encR true [(false, [(.i .i64)]), (false, [(.i .i64)]), (false, [(.i .i64)])] r) w) := by kernel_rfl
theorem ref16_Flood_Time.ok {f : Option Addr} {local_ : Int} {w : World} {R : TR [(false, [(.i .i64)]), (false, [(.i .i64)]), (false, [(.i .i64)])] → World → Prop} (h : ref16_Flood_Time.wp f local_ w R) : clS Tryz.prog F.ref16_Flood_Time [.pointer f, .int .i64 local_] w true [(false, [(.i .i64)]), (false, [(.i .i64)]), (false, [(.i .i64)])] R :=
  ok_of Tryz_follows Tryz.func20 (fun R => ref16_Flood_Time.wp f local_ w R) (ref16_Flood_Time.eq f local_ w) rfl h
/-! ### elect_Elect_Mark -/
set_option maxRecDepth 100000 in
def elect_Elect_Mark.wp (e : Option Addr) (w : World) (R : TR [(true, [(.i .u16), (.i .u16)]), (false, [.b])] → World → Prop) : Prop :=
alK [.int .u16 0, .int .u16 0] T.elect_Mark w fun p1 w2 =>
CutT (fun (J3 : ((Bool) × Unit) → World → Prop) =>
brB (Option.isNone e) (
J3 (true, ()) w2) (
ncK e fun a6 =>
ld1 (.i .i64) (a6.add 5) w2 fun x7 =>
J3 (decide (x7 < 0), ()) w2)) (fun (z4 : (Bool) × Unit) w5 => ∀ _ : Nat → Value,
brB z4.1 (
stN [.int .u16 0, .int .u16 0] p1 0 w5 fun w8 =>
ldN [(.i .u16), (.i .u16)] p1 0 w8 fun x9 =>
R ((x9.1, x9.2.1, ()), (false, ()), ()) w8) (
clS Tryz.prog F.elect_Elect_Mine [.pointer e] w5 false [(false, [.b])] fun r10 w11 =>
brB r10.1.1 (
drK w11 fun w12 =>
ncK e fun a13 =>
ld1 (.i .u16) (a13.add 3) w12 fun x14 =>
ncK e fun a15 =>
ld1 (.i .u16) (a15.add 4) w12 fun x16 =>
ncK e fun a17 =>
ld1 (.i .u16) (a17.add 4) w12 fun x18 =>
stN [.int .u16 x14, .int .u16 x16] p1 0 w12 fun w19 =>
Hold [(12, (a17.add 4), (w12.cell? (a17.add 4)).getD undef)] w19 ∧ (
ldN [(.i .u16), (.i .u16)] p1 0 w19 fun x20 =>
R ((x20.1, x20.2.1, ()), (decide (x18 > 0), ()), ()) w19)) (
drK w11 fun w21 =>
ncK e fun a22 =>
ld1 .m (a22.add 8) w21 fun x23 =>
ncK e fun a24 =>
ld1 (.i .i64) (a24.add 5) w21 fun x25 =>
lkP Tryz.prog T.map_int_elect_Mark (.map x23) (.int .i64 x25) w21 true [(.i .u16), (.i .u16)] fun x26 =>
Hold [] w21 ∧ (
stN [.int .u16 x26.1, .int .u16 x26.2.1] p1 0 w21 fun w27 =>
Hold [] w27 ∧ (
ldN [(.i .u16), (.i .u16)] p1 0 w27 fun x28 =>
R ((x28.1, x28.2.1, ()), (true, ()), ()) w27)))))
set_option maxRecDepth 100000 in
theorem elect_Elect_Mark.eq (e : Option Addr) (w : World) (R : Value → World → Prop) : wpF Tryz.prog Tryz.f21 (.s .n (.s (.ct [(4, .b)] .n (.s .n (.s .n (.s (.s (.pl (.tk 0 (.tk 1 (.tk 2 (.tk 3 (.tk 4 (.tk 5 (.tk 6 (.tk 7 (.tk 8 (.tk 9 (.tk 10 (.tk 11 (.tk 12 (.tk 13 (.ef 14 [3, 7] (.tk 15 .z))))))))))))))))) .n) .n)))) (.s (.pl (.tk 0 (.tk 1 (.tk 2 (.tk 3 (.tk 4 (.tk 5 (.tk 6 (.tk 7 (.ef 8 [3, 7] (.ef 9 [] (.tk 10 .z)))))))))))) .n))) [.pointer e] w R = elect_Elect_Mark.wp e w (fun r w => R (encR true [(true, [(.i .u16), (.i .u16)]), (false, [.b])] r) w) := by kernel_rfl
theorem elect_Elect_Mark.ok {e : Option Addr} {w : World} {R : TR [(true, [(.i .u16), (.i .u16)]), (false, [.b])] → World → Prop} (h : elect_Elect_Mark.wp e w R) : clS Tryz.prog F.elect_Elect_Mark [.pointer e] w true [(true, [(.i .u16), (.i .u16)]), (false, [.b])] R :=
  ok_of Tryz_follows Tryz.func21 (fun R => elect_Elect_Mark.wp e w R) (elect_Elect_Mark.eq e w) rfl h
/-! ### ref15_Elect_Mark -/
set_option maxRecDepth 100000 in
def ref15_Elect_Mark.wp (e : Option Addr) (w : World) (R : TR [(false, [(.i .u16)]), (false, [(.i .u16)]), (false, [.b])] → World → Prop) : Prop :=
ncK e fun a1 =>
ld1 (.i .i64) (a1.add 5) w fun x2 =>
brB (decide (x2 < 0)) (
R ((0, ()), (0, ()), (false, ()), ()) w) (
drK w fun w3 =>
ncK e fun a4 =>
ld1 (.i .i64) (a4.add 5) w3 fun x5 =>
ncK e fun a6 =>
ld1 (.i .i64) a6 w3 fun x7 =>
brB (x5 == x7) (
drK w3 fun w8 =>
ncK e fun a9 =>
ld1 (.i .u16) (a9.add 3) w8 fun x10 =>
ncK e fun a11 =>
ld1 (.i .u16) (a11.add 4) w8 fun x12 =>
ncK e fun a13 =>
ld1 (.i .u16) (a13.add 4) w8 fun x14 =>
R ((x10, ()), (x12, ()), (decide (x14 > 0), ()), ()) w8) (
drK w3 fun w15 =>
ncK e fun a16 =>
ld1 (.i .i64) (a16.add 5) w15 fun x17 =>
ncK e fun a18 =>
ixK (some (a18.add 72)) 64 x17 fun a19 =>
ld1 (.i .u16) (a19.add (x17.toNat * 1)) w15 fun x20 =>
ncK e fun a21 =>
ld1 (.i .i64) (a21.add 5) w15 fun x22 =>
ncK e fun a23 =>
ixK (some (a23.add 136)) 64 x22 fun a24 =>
ld1 (.i .u16) (a24.add (x22.toNat * 1)) w15 fun x25 =>
R ((x20, ()), (x25, ()), (true, ()), ()) w15))
set_option maxRecDepth 100000 in
theorem ref15_Elect_Mark.eq (e : Option Addr) (w : World) (R : Value → World → Prop) : wpF Tryz.prog Tryz.f22 (.s .n (.s .n (.s (.s (.pl (.tk 0 (.tk 1 (.tk 2 (.tk 3 (.tk 4 (.tk 5 (.tk 6 (.tk 7 (.tk 8 .z)))))))))) (.s (.s (.pl (.tk 0 (.tk 1 (.tk 2 (.tk 3 (.tk 4 (.tk 5 (.tk 6 (.tk 7 (.tk 8 (.tk 9 (.tk 10 (.tk 11 (.tk 12 (.tk 13 (.tk 14 (.tk 15 .z))))))))))))))))) .n) .n)) (.s (.pl (.tk 0 (.tk 1 (.tk 2 (.tk 3 (.tk 4 (.tk 5 (.tk 6 (.tk 7 (.tk 8 (.tk 9 (.tk 10 (.tk 11 (.tk 12 (.tk 13 (.tk 14 (.tk 15 (.tk 16 (.tk 17 (.tk 18 (.tk 19 (.tk 20 .z)))))))))))))))))))))) .n)))) [.pointer e] w R = ref15_Elect_Mark.wp e w (fun r w => R (encR true [(false, [(.i .u16)]), (false, [(.i .u16)]), (false, [.b])] r) w) := by kernel_rfl
theorem ref15_Elect_Mark.ok {e : Option Addr} {w : World} {R : TR [(false, [(.i .u16)]), (false, [(.i .u16)]), (false, [.b])] → World → Prop} (h : ref15_Elect_Mark.wp e w R) : clS Tryz.prog F.ref15_Elect_Mark [.pointer e] w true [(false, [(.i .u16)]), (false, [(.i .u16)]), (false, [.b])] R :=
  ok_of Tryz_follows Tryz.func22 (fun R => ref15_Elect_Mark.wp e w R) (ref15_Elect_Mark.eq e w) rfl h
/-! ### elect_Elect_Root -/
set_option maxRecDepth 100000 in
def elect_Elect_Root.wp (e : Option Addr) (w : World) (R : TR [(false, [(.i .i64)])] → World → Prop) : Prop :=
brB (Option.isNone e) (
R (((Int.negSucc 0), ()), ()) w) (
ncK e fun a1 =>
ld1 (.i .i64) (a1.add 5) w fun x2 =>
R ((x2, ()), ()) w)
set_option maxRecDepth 100000 in
theorem elect_Elect_Root.eq (e : Option Addr) (w : World) (R : Value → World → Prop) : wpF Tryz.prog Tryz.f23 .n [.pointer e] w R = elect_Elect_Root.wp e w (fun r w => R (encR false [(false, [(.i .i64)])] r) w) := by kernel_rfl
theorem elect_Elect_Root.ok {e : Option Addr} {w : World} {R : TR [(false, [(.i .i64)])] → World → Prop} (h : elect_Elect_Root.wp e w R) : clS Tryz.prog F.elect_Elect_Root [.pointer e] w false [(false, [(.i .i64)])] R :=
  ok_of Tryz_follows Tryz.func23 (fun R => elect_Elect_Root.wp e w R) (elect_Elect_Root.eq e w) rfl h
/-! ### elect_Elect_Mine -/
set_option maxRecDepth 100000 in
def elect_Elect_Mine.wp (e : Option Addr) (w : World) (R : TR [(false, [.b])] → World → Prop) : Prop :=
drK w fun w1 =>
brB (!(Option.isNone e)) (
ncK e fun a2 =>
ld1 (.i .i64) (a2.add 5) w1 fun x3 =>
ncK e fun a4 =>
ld1 (.i .i64) a4 w1 fun x5 =>
R (((x3 == x5), ()), ()) w1) (
R ((false, ()), ()) w1)
set_option maxRecDepth 100000 in
theorem elect_Elect_Mine.eq (e : Option Addr) (w : World) (R : Value → World → Prop) : wpF Tryz.prog Tryz.f24 (.s .n (.s (.pl (.tk 0 (.tk 1 (.tk 2 (.tk 3 (.tk 4 (.tk 5 (.tk 6 (.tk 7 (.tk 8 (.tk 9 (.tk 10 (.tk 11 (.tk 12 (.tk 13 .z))))))))))))))) .n)) [.pointer e] w R = elect_Elect_Mine.wp e w (fun r w => R (encR false [(false, [.b])] r) w) := by kernel_rfl
theorem elect_Elect_Mine.ok {e : Option Addr} {w : World} {R : TR [(false, [.b])] → World → Prop} (h : elect_Elect_Mine.wp e w R) : clS Tryz.prog F.elect_Elect_Mine [.pointer e] w false [(false, [.b])] R :=
  ok_of Tryz_follows Tryz.func24 (fun R => elect_Elect_Mine.wp e w R) (elect_Elect_Mine.eq e w) rfl h
/-! ### ref16_Flood_Mine -/
set_option maxRecDepth 100000 in
def ref16_Flood_Mine.wp (f : Option Addr) (w : World) (R : TR [(false, [.b])] → World → Prop) : Prop :=
drK w fun w1 =>
ncK f fun a2 =>
ld1 .p a2 w1 fun x3 =>
ncK x3 fun a4 =>
ld1 (.i .i64) (a4.add 5) w1 fun x5 =>
ncK f fun a6 =>
ld1 .p a6 w1 fun x7 =>
ncK x7 fun a8 =>
ld1 (.i .i64) a8 w1 fun x9 =>
R (((x5 == x9), ()), ()) w1
set_option maxRecDepth 100000 in
theorem ref16_Flood_Mine.eq (f : Option Addr) (w : World) (R : Value → World → Prop) : wpF Tryz.prog Tryz.f25 (.s .n (.s (.pl (.tk 0 (.tk 1 (.tk 2 (.tk 3 (.tk 4 (.tk 5 (.tk 6 (.tk 7 (.tk 8 (.tk 9 (.tk 10 (.tk 11 (.tk 12 (.tk 13 (.tk 14 (.tk 15 .z))))))))))))))))) .n)) [.pointer f] w R = ref16_Flood_Mine.wp f w (fun r w => R (encR false [(false, [.b])] r) w) := by kernel_rfl
theorem ref16_Flood_Mine.ok {f : Option Addr} {w : World} {R : TR [(false, [.b])] → World → Prop} (h : ref16_Flood_Mine.wp f w R) : clS Tryz.prog F.ref16_Flood_Mine [.pointer f] w false [(false, [.b])] R :=
  ok_of Tryz_follows Tryz.func25 (fun R => ref16_Flood_Mine.wp f w R) (ref16_Flood_Mine.eq f w) rfl h
/-! ### ref16_Flood_Synced -/
set_option maxRecDepth 100000 in
def ref16_Flood_Synced.wp (f : Option Addr) (w : World) (R : TR [(false, [.b])] → World → Prop) : Prop :=
drK w fun w1 =>
clS Tryz.prog F.ref16_Flood_Mine [.pointer f] w1 false [(false, [.b])] fun r2 w3 =>
Hold [] w3 ∧ (
brB r2.1.1 (
R ((true, ()), ()) w3) (
ncK f fun a4 =>
ld1 .sl (a4.add 3) w3 fun x5 =>
ncK f fun a6 =>
ld1 (.i .i64) (a6.add 1) w3 fun x7 =>
R ((decide ((x5.2.1 : Int) ≥ x7), ()), ()) w3))
set_option maxRecDepth 100000 in
theorem ref16_Flood_Synced.eq (f : Option Addr) (w : World) (R : Value → World → Prop) : wpF Tryz.prog Tryz.f26 (.s .n (.s (.pl (.tk 0 (.ef 1 [] (.tk 2 (.tk 3 (.tk 4 (.tk 5 (.tk 6 (.tk 7 (.tk 8 (.tk 9 (.tk 10 (.tk 11 (.tk 12 (.tk 13 (.tk 14 .z)))))))))))))))) .n)) [.pointer f] w R = ref16_Flood_Synced.wp f w (fun r w => R (encR false [(false, [.b])] r) w) := by kernel_rfl
theorem ref16_Flood_Synced.ok {f : Option Addr} {w : World} {R : TR [(false, [.b])] → World → Prop} (h : ref16_Flood_Synced.wp f w R) : clS Tryz.prog F.ref16_Flood_Synced [.pointer f] w false [(false, [.b])] R :=
  ok_of Tryz_follows Tryz.func26 (fun R => ref16_Flood_Synced.wp f w R) (ref16_Flood_Synced.eq f w) rfl h
/-! ### law19_alive -/
set_option maxRecDepth 100000 in
def law19_alive.wp  (w : World) (R : TR [(false, [.b])] → World → Prop) : Prop :=
clS Tryz.prog F.source_New [.int .i64 2] w true [(false, [.p]), (false, [(.i .i64)])] fun r1 w2 =>
clS Tryz.prog F.flood_New [.int .i64 5, .agg #[.int .i64 9, .int .i64 0, .int .i64 1, .int .i64 0]] w2 true [(false, [.p]), (false, [(.i .i64)])] fun r3 w4 =>
clS Tryz.prog F.source_Source_Put [.pointer r1.1.1, .agg #[.int .i64 100, .int .i64 50, .int .i64 2], .agg #[.int .i64 3, .int .u16 7]] w4 false [(false, [(.i .i64)])] fun r5 w6 =>
clS Tryz.prog F.source_Source_Time [.pointer r1.1.1, .pointer r3.1.1, .int .i64 110] w6 true [(true, [(.i .i64), (.i .i64), (.i .i64), (.i .u16), (.i .i64)]), (false, [(.i .i64)])] fun r7 w8 =>
alK [.int .i64 0, .int .i64 0, .int .i64 0, .int .u16 0, .int .i64 0] T.source_Answer w8 fun p9 w10 =>
stN [.int .i64 r7.1.1, .int .i64 r7.1.2.1, .int .i64 r7.1.2.2.1, .int .u16 r7.1.2.2.2.1, .int .i64 r7.1.2.2.2.2.1] p9 0 w10 fun w11 =>
brB (r1.2.1.1 == 0) (
brB (r3.2.1.1 == 0) (
brB (r5.1.1 == 0) (
brB (r7.2.1.1 == 0) (
ld1 (.i .i64) p9 w11 fun x12 =>
brB (x12 == 160) (
ld1 (.i .i64) (p9.add 1) w11 fun x13 =>
brB (x13 == 2) (
ld1 (.i .i64) (p9.add 2) w11 fun x14 =>
brB (x14 == 3) (
ld1 (.i .i64) (p9.add 4) w11 fun x15 =>
R (((x15 == 3), ()), ()) w11) (
R ((false, ()), ()) w11)) (
R ((false, ()), ()) w11)) (
R ((false, ()), ()) w11)) (
R ((false, ()), ()) w11)) (
R ((false, ()), ()) w11)) (
R ((false, ()), ()) w11)) (
R ((false, ()), ()) w11)
set_option maxRecDepth 100000 in
theorem law19_alive.eq  (w : World) (R : Value → World → Prop) : wpF Tryz.prog Tryz.f27 .n [] w R = law19_alive.wp  w (fun r w => R (encR false [(false, [.b])] r) w) := by kernel_rfl
theorem law19_alive.ok  {w : World} {R : TR [(false, [.b])] → World → Prop} (h : law19_alive.wp  w R) : clS Tryz.prog F.law19_alive [] w false [(false, [.b])] R :=
  ok_of Tryz_follows Tryz.func27 (fun R => law19_alive.wp  w R) (law19_alive.eq  w) rfl h
/-! ### source_New -/
set_option maxRecDepth 100000 in
def source_New.wp (limit : Int) (w : World) (R : TR [(false, [.p]), (false, [(.i .i64)])] → World → Prop) : Prop :=
brB (decide (limit < 1)) (
R ((none, ()), (1, ()), ()) w) (
brB (decide (limit > 1000)) (
R ((none, ()), (1, ()), ()) w) (
alK [.int .i64 limit, .int .i64 0, .int .i64 0, .int .i64 0, .int .i64 0, .int .u16 0, .int .i64 0, .bool false] T.source_Source w fun p1 w2 =>
R ((some p1, ()), (0, ()), ()) w2))
set_option maxRecDepth 100000 in
theorem source_New.eq (limit : Int) (w : World) (R : Value → World → Prop) : wpF Tryz.prog Tryz.f28 .n [.int .i64 limit] w R = source_New.wp limit w (fun r w => R (encR true [(false, [.p]), (false, [(.i .i64)])] r) w) := by kernel_rfl
theorem source_New.ok {limit : Int} {w : World} {R : TR [(false, [.p]), (false, [(.i .i64)])] → World → Prop} (h : source_New.wp limit w R) : clS Tryz.prog F.source_New [.int .i64 limit] w true [(false, [.p]), (false, [(.i .i64)])] R :=
  ok_of Tryz_follows Tryz.func28 (fun R => source_New.wp limit w R) (source_New.eq limit w) rfl h
/-! ### law19_rules -/
set_option maxRecDepth 100000 in
def law19_rules.wp (r0 : Int) (r1 : Int) (r2 : Int) (r3 : Int) (w : World) (R : TR [(true, [(.i .i64), (.i .i64), (.i .i64), (.i .i64)])] → World → Prop) : Prop :=
alK [.int .i64 r0, .int .i64 r1, .int .i64 r2, .int .i64 r3] T.law19_Rule w fun p1 w2 =>
alK [.int .i64 0, .int .i64 0, .int .i64 0, .int .i64 0] T.flood_Rules w2 fun p3 w4 =>
ld1 (.i .i64) p1 w4 fun x5 =>
ld1 (.i .i64) (p1.add 1) w4 fun x6 =>
ld1 (.i .i64) (p1.add 2) w4 fun x7 =>
ld1 (.i .i64) (p1.add 3) w4 fun x8 =>
stN [.int .i64 x5, .int .i64 x6, .int .i64 x7, .int .i64 x8] p3 0 w4 fun w9 =>
ldN [(.i .i64), (.i .i64), (.i .i64), (.i .i64)] p3 0 w9 fun x10 =>
R ((x10.1, x10.2.1, x10.2.2.1, x10.2.2.2.1, ()), ()) w9
set_option maxRecDepth 100000 in
theorem law19_rules.eq (r0 : Int) (r1 : Int) (r2 : Int) (r3 : Int) (w : World) (R : Value → World → Prop) : wpF Tryz.prog Tryz.f29 .n [.agg #[.int .i64 r0, .int .i64 r1, .int .i64 r2, .int .i64 r3]] w R = law19_rules.wp r0 r1 r2 r3 w (fun r w => R (encR false [(true, [(.i .i64), (.i .i64), (.i .i64), (.i .i64)])] r) w) := by kernel_rfl
theorem law19_rules.ok {r0 : Int} {r1 : Int} {r2 : Int} {r3 : Int} {w : World} {R : TR [(true, [(.i .i64), (.i .i64), (.i .i64), (.i .i64)])] → World → Prop} (h : law19_rules.wp r0 r1 r2 r3 w R) : clS Tryz.prog F.law19_rules [.agg #[.int .i64 r0, .int .i64 r1, .int .i64 r2, .int .i64 r3]] w false [(true, [(.i .i64), (.i .i64), (.i .i64), (.i .i64)])] R :=
  ok_of Tryz_follows Tryz.func29 (fun R => law19_rules.wp r0 r1 r2 r3 w R) (law19_rules.eq r0 r1 r2 r3 w) rfl h
/-! ### source_Source_Drop -/
set_option maxRecDepth 100000 in
def source_Source_Drop.wp (s : Option Addr) (w : World) (R : TR [] → World → Prop) : Prop :=
brB (!(Option.isNone s)) (
ncK s fun a1 =>
ld1 (.i .i64) a1 w fun x2 =>
ncK s fun a3 =>
stN [.int .i64 x2, .int .i64 0, .int .i64 0, .int .i64 0, .int .i64 0, .int .u16 0, .int .i64 0, .bool false] a3 0 w fun w4 =>
R (()) w4) (
R (()) w)
set_option maxRecDepth 100000 in
theorem source_Source_Drop.eq (s : Option Addr) (w : World) (R : Value → World → Prop) : wpF Tryz.prog Tryz.f30 .n [.pointer s] w R = source_Source_Drop.wp s w (fun r w => R (encR true [] r) w) := by kernel_rfl
theorem source_Source_Drop.ok {s : Option Addr} {w : World} {R : TR [] → World → Prop} (h : source_Source_Drop.wp s w R) : clS Tryz.prog F.source_Source_Drop [.pointer s] w true [] R :=
  ok_of Tryz_follows Tryz.func30 (fun R => source_Source_Drop.wp s w R) (source_Source_Drop.eq s w) rfl h
/-! ### source_Source_Beat -/
set_option maxRecDepth 100000 in
def source_Source_Beat.wp (s : Option Addr) (w : World) (R : TR [] → World → Prop) : Prop :=
brB (Option.isNone s) (
R (()) w) (
ncK s fun a1 =>
ld1 .b (a1.add 7) w fun x2 =>
brB (!x2) (
R (()) w) (
ncK s fun a3 =>
ld1 (.i .i64) (a3.add 6) w fun x4 =>
ncK s fun a5 =>
stN [.int .i64 (IntKind.wrap .i64 (x4 + 1))] (a5.add 6) 0 w fun w6 =>
drK w6 fun w7 =>
ncK s fun a8 =>
ld1 (.i .i64) (a8.add 6) w7 fun x9 =>
ncK s fun a10 =>
ld1 (.i .i64) a10 w7 fun x11 =>
brB (decide (x9 ≥ x11)) (
clS Tryz.prog F.source_Source_Drop [.pointer s] w7 true [] fun r12 w13 =>
R (()) w13) (
R (()) w7)))
set_option maxRecDepth 100000 in
theorem source_Source_Beat.eq (s : Option Addr) (w : World) (R : Value → World → Prop) : wpF Tryz.prog Tryz.f31 (.s .n (.s .n (.s (.pl (.tk 0 (.tk 1 (.tk 2 (.tk 3 (.tk 4 (.tk 5 (.tk 6 (.tk 7 (.tk 8 .z)))))))))) .n))) [.pointer s] w R = source_Source_Beat.wp s w (fun r w => R (encR true [] r) w) := by kernel_rfl
theorem source_Source_Beat.ok {s : Option Addr} {w : World} {R : TR [] → World → Prop} (h : source_Source_Beat.wp s w R) : clS Tryz.prog F.source_Source_Beat [.pointer s] w true [] R :=
  ok_of Tryz_follows Tryz.func31 (fun R => source_Source_Beat.wp s w R) (source_Source_Beat.eq s w) rfl h
/-! ### source_Source_Time -/
set_option maxRecDepth 100000 in
def source_Source_Time.wp (s : Option Addr) (f : Option Addr) (local_ : Int) (w : World) (R : TR [(true, [(.i .i64), (.i .i64), (.i .i64), (.i .u16), (.i .i64)]), (false, [(.i .i64)])] → World → Prop) : Prop :=
alK [.int .i64 0, .int .i64 0, .int .i64 0, .int .u16 0, .int .i64 0] T.source_Answer w fun p1 w2 =>
CutT (fun (J3 : ((Bool) × Unit) → World → Prop) =>
brB (Option.isNone s) (
J3 (true, ()) w2) (
J3 ((Option.isNone f), ()) w2)) (fun (z4 : (Bool) × Unit) w5 => ∀ _ : Nat → Value,
brB z4.1 (
stN [.int .i64 0, .int .i64 0, .int .i64 0, .int .u16 0, .int .i64 0] p1 0 w5 fun w6 =>
ldN [(.i .i64), (.i .i64), (.i .i64), (.i .u16), (.i .i64)] p1 0 w6 fun x7 =>
R ((x7.1, x7.2.1, x7.2.2.1, x7.2.2.2.1, x7.2.2.2.2.1, ()), (2, ()), ()) w6) (
clS Tryz.prog F.flood_Flood_Synced [.pointer f] w5 false [(false, [.b])] fun r8 w9 =>
brB r8.1.1 (
clS Tryz.prog F.source_flooded [.pointer f, .int .i64 local_] w9 true [(true, [(.i .i64), (.i .i64), (.i .i64), (.i .u16), (.i .i64)]), (false, [(.i .i64)])] fun r10 w11 =>
stN [.int .i64 r10.1.1, .int .i64 r10.1.2.1, .int .i64 r10.1.2.2.1, .int .u16 r10.1.2.2.2.1, .int .i64 r10.1.2.2.2.2.1] p1 0 w11 fun w12 =>
ldN [(.i .i64), (.i .i64), (.i .i64), (.i .u16), (.i .i64)] p1 0 w12 fun x13 =>
R ((x13.1, x13.2.1, x13.2.2.1, x13.2.2.2.1, x13.2.2.2.2.1, ()), (r10.2.1.1, ()), ()) w12) (
ncK s fun a14 =>
ld1 .b (a14.add 7) w9 fun x15 =>
brB (!x15) (
stN [.int .i64 0, .int .i64 0, .int .i64 0, .int .u16 0, .int .i64 0] p1 0 w9 fun w16 =>
ldN [(.i .i64), (.i .i64), (.i .i64), (.i .u16), (.i .i64)] p1 0 w16 fun x17 =>
R ((x17.1, x17.2.1, x17.2.2.1, x17.2.2.2.1, x17.2.2.2.2.1, ()), (9, ()), ()) w16) (
brB (decide (local_ < 0)) (
stN [.int .i64 0, .int .i64 0, .int .i64 0, .int .u16 0, .int .i64 0] p1 0 w9 fun w18 =>
ldN [(.i .i64), (.i .i64), (.i .i64), (.i .u16), (.i .i64)] p1 0 w18 fun x19 =>
R ((x19.1, x19.2.1, x19.2.2.1, x19.2.2.2.1, x19.2.2.2.2.1, ()), (8, ()), ()) w18) (
brB (decide (local_ > 1125899906842624)) (
stN [.int .i64 0, .int .i64 0, .int .i64 0, .int .u16 0, .int .i64 0] p1 0 w9 fun w20 =>
ldN [(.i .i64), (.i .i64), (.i .i64), (.i .u16), (.i .i64)] p1 0 w20 fun x21 =>
R ((x21.1, x21.2.1, x21.2.2.1, x21.2.2.2.1, x21.2.2.2.2.1, ()), (8, ()), ()) w20) (
ncK s fun a22 =>
ld1 (.i .i64) ((a22.add 1).add 1) w9 fun x23 =>
brB (decide ((IntKind.wrap .i64 (local_ + x23)) < 0)) (
stN [.int .i64 0, .int .i64 0, .int .i64 0, .int .u16 0, .int .i64 0] p1 0 w9 fun w24 =>
ldN [(.i .i64), (.i .i64), (.i .i64), (.i .u16), (.i .i64)] p1 0 w24 fun x25 =>
R ((x25.1, x25.2.1, x25.2.2.1, x25.2.2.2.1, x25.2.2.2.2.1, ()), (8, ()), ()) w24) (
brB (decide ((IntKind.wrap .i64 (local_ + x23)) > 1125899906842624)) (
stN [.int .i64 0, .int .i64 0, .int .i64 0, .int .u16 0, .int .i64 0] p1 0 w9 fun w26 =>
ldN [(.i .i64), (.i .i64), (.i .i64), (.i .u16), (.i .i64)] p1 0 w26 fun x27 =>
R ((x27.1, x27.2.1, x27.2.2.1, x27.2.2.2.1, x27.2.2.2.2.1, ()), (8, ()), ()) w26) (
drK w9 fun w28 =>
ncK s fun a29 =>
ld1 (.i .i64) ((a29.add 1).add 2) w28 fun x30 =>
ncK s fun a31 =>
ldN [(.i .i64), (.i .u16)] (a31.add 4) 0 w28 fun x32 =>
stN [.int .i64 (IntKind.wrap .i64 (local_ + x23)), .int .i64 x30, .int .i64 x32.1, .int .u16 x32.2.1, .int .i64 3] p1 0 w28 fun w33 =>
Hold [] w33 ∧ (
ldN [(.i .i64), (.i .i64), (.i .i64), (.i .u16), (.i .i64)] p1 0 w33 fun x34 =>
R ((x34.1, x34.2.1, x34.2.2.1, x34.2.2.2.1, x34.2.2.2.2.1, ()), (0, ()), ()) w33)))))))))
set_option maxRecDepth 100000 in
theorem source_Source_Time.eq (s : Option Addr) (f : Option Addr) (local_ : Int) (w : World) (R : Value → World → Prop) : wpF Tryz.prog Tryz.f32 (.s .n (.s (.ct [(9, .b)] .n .n) (.s .n (.s .n (.s (.pl (.tk 0 (.tk 1 (.tk 2 (.tk 3 (.tk 4 (.tk 5 (.tk 6 (.tk 7 (.tk 8 (.tk 9 (.tk 10 (.ef 11 [5, 9] (.tk 12 .z)))))))))))))) .n))))) [.pointer s, .pointer f, .int .i64 local_] w R = source_Source_Time.wp s f local_ w (fun r w => R (encR true [(true, [(.i .i64), (.i .i64), (.i .i64), (.i .u16), (.i .i64)]), (false, [(.i .i64)])] r) w) := by kernel_rfl
theorem source_Source_Time.ok {s : Option Addr} {f : Option Addr} {local_ : Int} {w : World} {R : TR [(true, [(.i .i64), (.i .i64), (.i .i64), (.i .u16), (.i .i64)]), (false, [(.i .i64)])] → World → Prop} (h : source_Source_Time.wp s f local_ w R) : clS Tryz.prog F.source_Source_Time [.pointer s, .pointer f, .int .i64 local_] w true [(true, [(.i .i64), (.i .i64), (.i .i64), (.i .u16), (.i .i64)]), (false, [(.i .i64)])] R :=
  ok_of Tryz_follows Tryz.func32 (fun R => source_Source_Time.wp s f local_ w R) (source_Source_Time.eq s f local_ w) rfl h
/-! ### source_Source_Fresh -/
set_option maxRecDepth 100000 in
def source_Source_Fresh.wp (s : Option Addr) (w : World) (R : TR [(false, [.b])] → World → Prop) : Prop :=
brB (!(Option.isNone s)) (
ncK s fun a1 =>
ld1 .b (a1.add 7) w fun x2 =>
R ((x2, ()), ()) w) (
R ((false, ()), ()) w)
set_option maxRecDepth 100000 in
theorem source_Source_Fresh.eq (s : Option Addr) (w : World) (R : Value → World → Prop) : wpF Tryz.prog Tryz.f33 .n [.pointer s] w R = source_Source_Fresh.wp s w (fun r w => R (encR false [(false, [.b])] r) w) := by kernel_rfl
theorem source_Source_Fresh.ok {s : Option Addr} {w : World} {R : TR [(false, [.b])] → World → Prop} (h : source_Source_Fresh.wp s w R) : clS Tryz.prog F.source_Source_Fresh [.pointer s] w false [(false, [.b])] R :=
  ok_of Tryz_follows Tryz.func33 (fun R => source_Source_Fresh.wp s w R) (source_Source_Fresh.eq s w) rfl h
/-! ### source_Source_Put -/
set_option maxRecDepth 100000 in
def source_Source_Put.wp (s : Option Addr) (e0 : Int) (e1 : Int) (e2 : Int) (w_0 : Int) (w_1 : Int) (w : World) (R : TR [(false, [(.i .i64)])] → World → Prop) : Prop :=
alK [.int .i64 e0, .int .i64 e1, .int .i64 e2] T.table_Entry w fun p1 w2 =>
alK [.int .i64 w_0, .int .u16 w_1] T.source_Whose w2 fun p3 w4 =>
brB (Option.isNone s) (
R ((2, ()), ()) w4) (
ldN [(.i .i64), (.i .i64), (.i .i64)] p1 0 w4 fun x5 =>
clS Tryz.prog F.table_Entry_Good [.agg #[.int .i64 x5.1, .int .i64 x5.2.1, .int .i64 x5.2.2.1]] w4 false [(false, [.b])] fun r6 w7 =>
brB (!r6.1.1) (
R ((1, ()), ()) w7) (
ld1 (.i .i64) p3 w7 fun x8 =>
brB (decide (x8 < 0)) (
R ((1, ()), ()) w7) (
ld1 (.i .i64) p3 w7 fun x9 =>
brB (decide (x9 ≥ 64)) (
R ((1, ()), ()) w7) (
drK w7 fun w10 =>
ldN [(.i .i64), (.i .i64), (.i .i64)] p1 0 w10 fun x11 =>
ldN [(.i .i64), (.i .u16)] p3 0 w10 fun x12 =>
ncK s fun a13 =>
stN [.int .i64 x11.1, .int .i64 x11.2.1, .int .i64 x11.2.2.1] (a13.add 1) 0 w10 fun w14 =>
Hold [(5, (p3.add 0), (w10.cell? (p3.add 0)).getD undef), (5, (p3.add 1), (w10.cell? (p3.add 1)).getD undef)] w14 ∧ (
ncK s fun a15 =>
stN [.int .i64 x12.1, .int .u16 x12.2.1] (a15.add 4) 0 w14 fun w16 =>
Hold [] w16 ∧ (
ncK s fun a17 =>
stN [.int .i64 0] (a17.add 6) 0 w16 fun w18 =>
Hold [] w18 ∧ (
ncK s fun a19 =>
stN [.bool true] (a19.add 7) 0 w18 fun w20 =>
Hold [] w20 ∧ (
R ((0, ()), ()) w20))))))))
set_option maxRecDepth 100000 in
theorem source_Source_Put.eq (s : Option Addr) (e0 : Int) (e1 : Int) (e2 : Int) (w_0 : Int) (w_1 : Int) (w : World) (R : Value → World → Prop) : wpF Tryz.prog Tryz.f34 (.s .n (.s .n (.s (.pl (.tk 0 (.tk 1 (.tk 2 (.tk 3 (.tk 4 (.tk 5 (.tk 6 (.tk 7 (.ef 8 [4] (.tk 9 (.tk 10 (.ef 11 [5] (.tk 12 (.tk 13 (.ef 14 [] (.tk 15 (.tk 16 (.ef 17 [] .z))))))))))))))))))) .n))) [.pointer s, .agg #[.int .i64 e0, .int .i64 e1, .int .i64 e2], .agg #[.int .i64 w_0, .int .u16 w_1]] w R = source_Source_Put.wp s e0 e1 e2 w_0 w_1 w (fun r w => R (encR false [(false, [(.i .i64)])] r) w) := by kernel_rfl
theorem source_Source_Put.ok {s : Option Addr} {e0 : Int} {e1 : Int} {e2 : Int} {w_0 : Int} {w_1 : Int} {w : World} {R : TR [(false, [(.i .i64)])] → World → Prop} (h : source_Source_Put.wp s e0 e1 e2 w_0 w_1 w R) : clS Tryz.prog F.source_Source_Put [.pointer s, .agg #[.int .i64 e0, .int .i64 e1, .int .i64 e2], .agg #[.int .i64 w_0, .int .u16 w_1]] w false [(false, [(.i .i64)])] R :=
  ok_of Tryz_follows Tryz.func34 (fun R => source_Source_Put.wp s e0 e1 e2 w_0 w_1 w R) (source_Source_Put.eq s e0 e1 e2 w_0 w_1 w) rfl h
/-! ### ref19_Source_Beat -/
set_option maxRecDepth 100000 in
def ref19_Source_Beat.wp (s : Option Addr) (w : World) (R : TR [] → World → Prop) : Prop :=
ncK s fun a1 =>
ld1 .b (a1.add 7) w fun x2 =>
brB (!x2) (
R (()) w) (
ncK s fun a3 =>
ld1 (.i .i64) (a3.add 6) w fun x4 =>
ncK s fun a5 =>
stN [.int .i64 (IntKind.wrap .i64 (x4 + 1))] (a5.add 6) 0 w fun w6 =>
drK w6 fun w7 =>
ncK s fun a8 =>
ld1 (.i .i64) (a8.add 6) w7 fun x9 =>
ncK s fun a10 =>
ld1 (.i .i64) a10 w7 fun x11 =>
brB (decide (x9 ≥ x11)) (
ncK s fun a12 =>
stN [.bool false] (a12.add 7) 0 w7 fun w13 =>
R (()) w13) (
R (()) w7))
set_option maxRecDepth 100000 in
theorem ref19_Source_Beat.eq (s : Option Addr) (w : World) (R : Value → World → Prop) : wpF Tryz.prog Tryz.f35 (.s .n (.s .n (.s (.pl (.tk 0 (.tk 1 (.tk 2 (.tk 3 (.tk 4 (.tk 5 (.tk 6 (.tk 7 (.tk 8 .z)))))))))) .n))) [.pointer s] w R = ref19_Source_Beat.wp s w (fun r w => R (encR true [] r) w) := by kernel_rfl
theorem ref19_Source_Beat.ok {s : Option Addr} {w : World} {R : TR [] → World → Prop} (h : ref19_Source_Beat.wp s w R) : clS Tryz.prog F.ref19_Source_Beat [.pointer s] w true [] R :=
  ok_of Tryz_follows Tryz.func35 (fun R => ref19_Source_Beat.wp s w R) (ref19_Source_Beat.eq s w) rfl h
end Go.Proofs.YtgpgdhopmifbpaaGreat
