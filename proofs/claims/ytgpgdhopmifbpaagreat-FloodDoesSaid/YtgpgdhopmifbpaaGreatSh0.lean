import Derived.Test.YtgpgdhopmifbpaaGreatNm
namespace Go.Proofs.YtgpgdhopmifbpaaGreat
open Go.Eng
set_option linter.unusedVariables false
/-! ### law16_FloodDoes -/
set_option maxRecDepth 100000 in
def law16_FloodDoes.wp (me : Int) (r0 : Int) (r1 : Int) (r2 : Int) (r3 : Int) (script : Option Addr × Nat × Nat) (w : World) (R : TR [(false, [.b])] → World → Prop) : Prop :=
alK [.int .i64 r0, .int .i64 r1, .int .i64 r2, .int .i64 r3] T.law16_Rule w fun p1 w2 =>
clS Tryz.prog F.law16_alive [] w2 false [(false, [.b])] fun r3 w4 =>
brB (!r3.1.1) (
R ((false, ()), ()) w4) (
brB (decide ((script.2.1 : Int) > 200)) (
R ((true, ()), ()) w4) (
ldN [(.i .i64), (.i .i64), (.i .i64), (.i .i64)] p1 0 w4 fun x5 =>
clS Tryz.prog F.law16_rules [.agg #[.int .i64 x5.1, .int .i64 x5.2.1, .int .i64 x5.2.2.1, .int .i64 x5.2.2.2.1]] w4 false [(true, [(.i .i64), (.i .i64), (.i .i64), (.i .i64)])] fun r6 w7 =>
clS Tryz.prog F.flood_New [.int .i64 me, .agg #[.int .i64 r6.1.1, .int .i64 r6.1.2.1, .int .i64 r6.1.2.2.1, .int .i64 r6.1.2.2.2.1]] w7 true [(false, [.p]), (false, [(.i .i64)])] fun r8 w9 =>
clS Tryz.prog F.flood_Flood_Boot [.pointer none, .int .u16 1] w9 true [] fun r10 w11 =>
clS Tryz.prog F.flood_Flood_Beat [.pointer none, .int .i64 1] w11 true [(true, [(.i .i64), (.i .i64), (.i .u16), (.i .u16), (.i .i64), (.i .i64)]), (false, [.b])] fun r12 w13 =>
alK [.int .i64 0, .int .i64 0, .int .u16 0, .int .u16 0, .int .i64 0, .int .i64 0] T.frame_Sync w13 fun p14 w15 =>
stN [.int .i64 r12.1.1, .int .i64 r12.1.2.1, .int .u16 r12.1.2.2.1, .int .u16 r12.1.2.2.2.1, .int .i64 r12.1.2.2.2.2.1, .int .i64 r12.1.2.2.2.2.2.1] p14 0 w15 fun w16 =>
clS Tryz.prog F.flood_Flood_Time [.pointer none, .int .i64 1] w16 true [(false, [(.i .i64)]), (false, [(.i .i64)]), (false, [(.i .i64)])] fun r17 w18 =>
clS Tryz.prog F.flood_Flood_Hear [.pointer none, .agg #[.int .i64 0, .int .i64 0, .int .u16 0, .int .u16 1, .int .i64 0, .int .i64 0], .int .i64 1] w18 false [(false, [(.i .i64)])] fun r19 w20 =>
brB (r19.1.1 != 0) (
R ((false, ()), ()) w20) (
brB r12.2.1.1 (
R ((false, ()), ()) w20) (
brB (r17.2.2.1.1 != 2) (
R ((false, ()), ()) w20) (
clS Tryz.prog F.flood_Flood_Synced [.pointer none] w20 false [(false, [.b])] fun r21 w22 =>
brB r21.1.1 (
R ((false, ()), ()) w22) (
clS Tryz.prog F.flood_Flood_Entries [.pointer none] w22 false [(false, [(.i .i64)])] fun r23 w24 =>
brB (r23.1.1 != 0) (
R ((false, ()), ()) w24) (
ld1 (.i .i64) p1 w24 fun x25 =>
ld1 (.i .i64) (p1.add 1) w24 fun x26 =>
ld1 (.i .i64) (p1.add 2) w24 fun x27 =>
ld1 (.i .i64) (p1.add 3) w24 fun x28 =>
clS Tryz.prog F.ref16_Good [.int .i64 me, .int .i64 x25, .int .i64 x26, .int .i64 x27, .int .i64 x28] w24 false [(false, [.b])] fun r29 w30 =>
brB (!r29.1.1) (
brB (Option.isNone r8.1.1) (
R (((r8.2.1.1 == 1), ()), ()) w30) (
R ((false, ()), ()) w30)) (
ldN [(.i .i64), (.i .i64), (.i .i64), (.i .i64)] p1 0 w30 fun x31 =>
clS Tryz.prog F.law16_rules [.agg #[.int .i64 x31.1, .int .i64 x31.2.1, .int .i64 x31.2.2.1, .int .i64 x31.2.2.2.1]] w30 false [(true, [(.i .i64), (.i .i64), (.i .i64), (.i .i64)])] fun r32 w33 =>
clS Tryz.prog F.flood_Rules_Good [.agg #[.int .i64 r32.1.1, .int .i64 r32.1.2.1, .int .i64 r32.1.2.2.1, .int .i64 r32.1.2.2.2.1]] w33 false [(false, [.b])] fun r34 w35 =>
brB (!r34.1.1) (
R ((false, ()), ()) w35) (
ld1 (.i .i64) p1 w35 fun x36 =>
ld1 (.i .i64) (p1.add 1) w35 fun x37 =>
ld1 (.i .i64) (p1.add 2) w35 fun x38 =>
ld1 (.i .i64) (p1.add 3) w35 fun x39 =>
clS Tryz.prog F.ref16_New [.int .i64 me, .int .i64 x36, .int .i64 x37, .int .i64 x38, .int .i64 x39, .int .u16 0] w35 false [(false, [.p])] fun r40 w41 =>
LoopT (fun (self42 : ((Option Addr) × (Int) × Unit) → World → Prop) (z43 : (Option Addr) × (Int) × Unit) w44 => ∀ _ : Nat → Value,
brB (decide (z43.2.1 < (script.2.1 : Int))) (
ixK script.1 script.2.1 z43.2.1 fun a45 =>
ldN [(.i .i64), (.i .i64), (.i .i64), (.i .i64), (.i .i64), (.i .i64), (.i .u16), (.i .u16), (.i .i64), (.i .i64), (.i .i64), (.i .i64), (.i .i64), (.i .i64), (.i .i64), (.i .i64)] (a45.add (z43.2.1.toNat * 16)) 0 w44 fun x46 =>
alK [.int .i64 0, .int .i64 0, .int .i64 0, .int .i64 0, .int .i64 0, .int .i64 0, .int .u16 0, .int .u16 0, .int .i64 0, .int .i64 0, .int .i64 0, .int .i64 0, .int .i64 0, .int .i64 0, .int .i64 0, .int .i64 0] T.law16_Call w44 fun p47 w48 =>
stN [.int .i64 x46.1, .int .i64 x46.2.1, .int .i64 x46.2.2.1, .int .i64 x46.2.2.2.1, .int .i64 x46.2.2.2.2.1, .int .i64 x46.2.2.2.2.2.1, .int .u16 x46.2.2.2.2.2.2.1, .int .u16 x46.2.2.2.2.2.2.2.1, .int .i64 x46.2.2.2.2.2.2.2.2.1, .int .i64 x46.2.2.2.2.2.2.2.2.2.1, .int .i64 x46.2.2.2.2.2.2.2.2.2.2.1, .int .i64 x46.2.2.2.2.2.2.2.2.2.2.2.1, .int .i64 x46.2.2.2.2.2.2.2.2.2.2.2.2.1, .int .i64 x46.2.2.2.2.2.2.2.2.2.2.2.2.2.1, .int .i64 x46.2.2.2.2.2.2.2.2.2.2.2.2.2.2.1, .int .i64 x46.2.2.2.2.2.2.2.2.2.2.2.2.2.2.2.1] p47 0 w48 fun w49 =>
CutT (fun (J50 : ((Option Addr) × Unit) → World → Prop) =>
ld1 (.i .i64) p47 w49 fun x53 =>
CutT (fun (J54 : ((Bool) × Unit) → World → Prop) =>
brB (x53 == 0) (
J54 ((x53 == 0), ()) w49) (
brB (x53 == 1) (
J54 ((x53 == 1), ()) w49) (
J54 ((x53 == 2), ()) w49))) (fun (z55 : (Bool) × Unit) w56 => ∀ _ : Nat → Value,
brB z55.1 (
drK w56 fun w57 =>
ldN [(.i .i64), (.i .i64), (.i .i64), (.i .i64), (.i .u16), (.i .u16), (.i .i64), (.i .i64), (.i .i64), (.i .i64), (.i .i64), (.i .i64), (.i .i64), (.i .i64)] (p47.add 2) 0 w57 fun x58 =>
ld1 (.i .i64) (p47.add 1) w57 fun x59 =>
ldN [(.i .i64), (.i .i64), (.i .i64), (.i .i64), (.i .u16), (.i .u16), (.i .i64), (.i .i64), (.i .i64), (.i .i64), (.i .i64), (.i .i64), (.i .i64), (.i .i64)] (p47.add 2) 0 w57 fun x60 =>
ld1 (.i .i64) (p47.add 1) w57 fun x61 =>
clS Tryz.prog F.law16_sync [.agg #[.int .i64 x58.1, .int .i64 x58.2.1, .int .i64 x58.2.2.1, .int .i64 x58.2.2.2.1, .int .u16 x58.2.2.2.2.1, .int .u16 x58.2.2.2.2.2.1, .int .i64 x58.2.2.2.2.2.2.1, .int .i64 x58.2.2.2.2.2.2.2.1, .int .i64 x58.2.2.2.2.2.2.2.2.1, .int .i64 x58.2.2.2.2.2.2.2.2.2.1, .int .i64 x58.2.2.2.2.2.2.2.2.2.2.1, .int .i64 x58.2.2.2.2.2.2.2.2.2.2.2.1, .int .i64 x58.2.2.2.2.2.2.2.2.2.2.2.2.1, .int .i64 x58.2.2.2.2.2.2.2.2.2.2.2.2.2.1]] w57 false [(true, [(.i .i64), (.i .i64), (.i .u16), (.i .u16), (.i .i64), (.i .i64)])] fun r62 w63 =>
Hold [(11, (p47.add 1), (w57.cell? (p47.add 1)).getD undef), (9, ((p47.add 2).add 0), (w57.cell? ((p47.add 2).add 0)).getD undef), (9, ((p47.add 2).add 1), (w57.cell? ((p47.add 2).add 1)).getD undef), (9, ((p47.add 2).add 2), (w57.cell? ((p47.add 2).add 2)).getD undef), (9, ((p47.add 2).add 3), (w57.cell? ((p47.add 2).add 3)).getD undef), (9, ((p47.add 2).add 4), (w57.cell? ((p47.add 2).add 4)).getD undef), (9, ((p47.add 2).add 5), (w57.cell? ((p47.add 2).add 5)).getD undef), (9, ((p47.add 2).add 6), (w57.cell? ((p47.add 2).add 6)).getD undef), (9, ((p47.add 2).add 7), (w57.cell? ((p47.add 2).add 7)).getD undef), (9, ((p47.add 2).add 8), (w57.cell? ((p47.add 2).add 8)).getD undef), (9, ((p47.add 2).add 9), (w57.cell? ((p47.add 2).add 9)).getD undef), (9, ((p47.add 2).add 10), (w57.cell? ((p47.add 2).add 10)).getD undef), (9, ((p47.add 2).add 11), (w57.cell? ((p47.add 2).add 11)).getD undef), (9, ((p47.add 2).add 12), (w57.cell? ((p47.add 2).add 12)).getD undef), (9, ((p47.add 2).add 13), (w57.cell? ((p47.add 2).add 13)).getD undef), (5, (p47.add 1), (w57.cell? (p47.add 1)).getD undef), (2, ((p47.add 2).add 0), (w57.cell? ((p47.add 2).add 0)).getD undef), (2, ((p47.add 2).add 1), (w57.cell? ((p47.add 2).add 1)).getD undef), (2, ((p47.add 2).add 2), (w57.cell? ((p47.add 2).add 2)).getD undef), (2, ((p47.add 2).add 3), (w57.cell? ((p47.add 2).add 3)).getD undef), (2, ((p47.add 2).add 4), (w57.cell? ((p47.add 2).add 4)).getD undef), (2, ((p47.add 2).add 5), (w57.cell? ((p47.add 2).add 5)).getD undef), (2, ((p47.add 2).add 6), (w57.cell? ((p47.add 2).add 6)).getD undef), (2, ((p47.add 2).add 7), (w57.cell? ((p47.add 2).add 7)).getD undef), (2, ((p47.add 2).add 8), (w57.cell? ((p47.add 2).add 8)).getD undef), (2, ((p47.add 2).add 9), (w57.cell? ((p47.add 2).add 9)).getD undef), (2, ((p47.add 2).add 10), (w57.cell? ((p47.add 2).add 10)).getD undef), (2, ((p47.add 2).add 11), (w57.cell? ((p47.add 2).add 11)).getD undef), (2, ((p47.add 2).add 12), (w57.cell? ((p47.add 2).add 12)).getD undef), (2, ((p47.add 2).add 13), (w57.cell? ((p47.add 2).add 13)).getD undef)] w63 ∧ (
clS Tryz.prog F.flood_Flood_Hear [.pointer r8.1.1, .agg #[.int .i64 r62.1.1, .int .i64 r62.1.2.1, .int .u16 r62.1.2.2.1, .int .u16 r62.1.2.2.2.1, .int .i64 r62.1.2.2.2.2.1, .int .i64 r62.1.2.2.2.2.2.1], .int .i64 x59] w63 false [(false, [(.i .i64)])] fun r64 w65 =>
Hold [(11, (p47.add 1), (w57.cell? (p47.add 1)).getD undef), (9, ((p47.add 2).add 0), (w57.cell? ((p47.add 2).add 0)).getD undef), (9, ((p47.add 2).add 1), (w57.cell? ((p47.add 2).add 1)).getD undef), (9, ((p47.add 2).add 2), (w57.cell? ((p47.add 2).add 2)).getD undef), (9, ((p47.add 2).add 3), (w57.cell? ((p47.add 2).add 3)).getD undef), (9, ((p47.add 2).add 4), (w57.cell? ((p47.add 2).add 4)).getD undef), (9, ((p47.add 2).add 5), (w57.cell? ((p47.add 2).add 5)).getD undef), (9, ((p47.add 2).add 6), (w57.cell? ((p47.add 2).add 6)).getD undef), (9, ((p47.add 2).add 7), (w57.cell? ((p47.add 2).add 7)).getD undef), (9, ((p47.add 2).add 8), (w57.cell? ((p47.add 2).add 8)).getD undef), (9, ((p47.add 2).add 9), (w57.cell? ((p47.add 2).add 9)).getD undef), (9, ((p47.add 2).add 10), (w57.cell? ((p47.add 2).add 10)).getD undef), (9, ((p47.add 2).add 11), (w57.cell? ((p47.add 2).add 11)).getD undef), (9, ((p47.add 2).add 12), (w57.cell? ((p47.add 2).add 12)).getD undef), (9, ((p47.add 2).add 13), (w57.cell? ((p47.add 2).add 13)).getD undef), (5, (p47.add 1), (w57.cell? (p47.add 1)).getD undef), (2, ((p47.add 2).add 0), (w57.cell? ((p47.add 2).add 0)).getD undef), (2, ((p47.add 2).add 1), (w57.cell? ((p47.add 2).add 1)).getD undef), (2, ((p47.add 2).add 2), (w57.cell? ((p47.add 2).add 2)).getD undef), (2, ((p47.add 2).add 3), (w57.cell? ((p47.add 2).add 3)).getD undef), (2, ((p47.add 2).add 4), (w57.cell? ((p47.add 2).add 4)).getD undef), (2, ((p47.add 2).add 5), (w57.cell? ((p47.add 2).add 5)).getD undef), (2, ((p47.add 2).add 6), (w57.cell? ((p47.add 2).add 6)).getD undef), (2, ((p47.add 2).add 7), (w57.cell? ((p47.add 2).add 7)).getD undef), (2, ((p47.add 2).add 8), (w57.cell? ((p47.add 2).add 8)).getD undef), (2, ((p47.add 2).add 9), (w57.cell? ((p47.add 2).add 9)).getD undef), (2, ((p47.add 2).add 10), (w57.cell? ((p47.add 2).add 10)).getD undef), (2, ((p47.add 2).add 11), (w57.cell? ((p47.add 2).add 11)).getD undef), (2, ((p47.add 2).add 12), (w57.cell? ((p47.add 2).add 12)).getD undef), (2, ((p47.add 2).add 13), (w57.cell? ((p47.add 2).add 13)).getD undef)] w65 ∧ (
clS Tryz.prog F.ref16_Flood_Hear [.pointer z43.1, .agg #[.int .i64 x60.1, .int .i64 x60.2.1, .int .i64 x60.2.2.1, .int .i64 x60.2.2.2.1, .int .u16 x60.2.2.2.2.1, .int .u16 x60.2.2.2.2.2.1, .int .i64 x60.2.2.2.2.2.2.1, .int .i64 x60.2.2.2.2.2.2.2.1, .int .i64 x60.2.2.2.2.2.2.2.2.1, .int .i64 x60.2.2.2.2.2.2.2.2.2.1, .int .i64 x60.2.2.2.2.2.2.2.2.2.2.1, .int .i64 x60.2.2.2.2.2.2.2.2.2.2.2.1, .int .i64 x60.2.2.2.2.2.2.2.2.2.2.2.2.1, .int .i64 x60.2.2.2.2.2.2.2.2.2.2.2.2.2.1], .int .i64 x61] w65 false [(false, [(.i .i64)])] fun r66 w67 =>
Hold [(5, (p47.add 1), (w57.cell? (p47.add 1)).getD undef), (2, ((p47.add 2).add 0), (w57.cell? ((p47.add 2).add 0)).getD undef), (2, ((p47.add 2).add 1), (w57.cell? ((p47.add 2).add 1)).getD undef), (2, ((p47.add 2).add 2), (w57.cell? ((p47.add 2).add 2)).getD undef), (2, ((p47.add 2).add 3), (w57.cell? ((p47.add 2).add 3)).getD undef), (2, ((p47.add 2).add 4), (w57.cell? ((p47.add 2).add 4)).getD undef), (2, ((p47.add 2).add 5), (w57.cell? ((p47.add 2).add 5)).getD undef), (2, ((p47.add 2).add 6), (w57.cell? ((p47.add 2).add 6)).getD undef), (2, ((p47.add 2).add 7), (w57.cell? ((p47.add 2).add 7)).getD undef), (2, ((p47.add 2).add 8), (w57.cell? ((p47.add 2).add 8)).getD undef), (2, ((p47.add 2).add 9), (w57.cell? ((p47.add 2).add 9)).getD undef), (2, ((p47.add 2).add 10), (w57.cell? ((p47.add 2).add 10)).getD undef), (2, ((p47.add 2).add 11), (w57.cell? ((p47.add 2).add 11)).getD undef), (2, ((p47.add 2).add 12), (w57.cell? ((p47.add 2).add 12)).getD undef), (2, ((p47.add 2).add 13), (w57.cell? ((p47.add 2).add 13)).getD undef)] w67 ∧ (
brB (r64.1.1 != r66.1.1) (
R ((false, ()), ()) w67) (
J50 (z43.1, ()) w67))))) (
CutT (fun (J68 : ((Bool) × Unit) → World → Prop) =>
brB (x53 == 3) (
J68 ((x53 == 3), ()) w56) (
J68 ((x53 == 4), ()) w56)) (fun (z69 : (Bool) × Unit) w70 => ∀ _ : Nat → Value,
brB z69.1 (
ld1 (.i .i64) (p47.add 1) w70 fun x71 =>
clS Tryz.prog F.flood_Flood_Beat [.pointer r8.1.1, .int .i64 x71] w70 true [(true, [(.i .i64), (.i .i64), (.i .u16), (.i .u16), (.i .i64), (.i .i64)]), (false, [.b])] fun r72 w73 =>
alK [.int .i64 0, .int .i64 0, .int .u16 0, .int .u16 0, .int .i64 0, .int .i64 0] T.frame_Sync w73 fun p74 w75 =>
stN [.int .i64 r72.1.1, .int .i64 r72.1.2.1, .int .u16 r72.1.2.2.1, .int .u16 r72.1.2.2.2.1, .int .i64 r72.1.2.2.2.2.1, .int .i64 r72.1.2.2.2.2.2.1] p74 0 w75 fun w76 =>
ld1 (.i .i64) (p47.add 1) w76 fun x77 =>
clS Tryz.prog F.ref16_Flood_Beat [.pointer z43.1, .int .i64 x77] w76 false [(true, [(.i .i64), (.i .i64), (.i .i64), (.i .i64), (.i .u16), (.i .u16), (.i .i64), (.i .i64), (.i .i64), (.i .i64), (.i .i64), (.i .i64), (.i .i64), (.i .i64)])] fun r78 w79 =>
alK [.int .i64 0, .int .i64 0, .int .i64 0, .int .i64 0, .int .u16 0, .int .u16 0, .int .i64 0, .int .i64 0, .int .i64 0, .int .i64 0, .int .i64 0, .int .i64 0, .int .i64 0, .int .i64 0] T.ref05_Plain w79 fun p80 w81 =>
stN [.int .i64 r78.1.1, .int .i64 r78.1.2.1, .int .i64 r78.1.2.2.1, .int .i64 r78.1.2.2.2.1, .int .u16 r78.1.2.2.2.2.1, .int .u16 r78.1.2.2.2.2.2.1, .int .i64 r78.1.2.2.2.2.2.2.1, .int .i64 r78.1.2.2.2.2.2.2.2.1, .int .i64 r78.1.2.2.2.2.2.2.2.2.1, .int .i64 r78.1.2.2.2.2.2.2.2.2.2.1, .int .i64 r78.1.2.2.2.2.2.2.2.2.2.2.1, .int .i64 r78.1.2.2.2.2.2.2.2.2.2.2.2.1, .int .i64 r78.1.2.2.2.2.2.2.2.2.2.2.2.2.1, .int .i64 r78.1.2.2.2.2.2.2.2.2.2.2.2.2.2.1] p80 0 w81 fun w82 =>
drK w82 fun w83 =>
ld1 (.i .i64) p80 w83 fun x84 =>
brB (!(r72.2.1.1 == (x84 == 1))) (
R ((false, ()), ()) w83) (
ldN [(.i .i64), (.i .i64), (.i .u16), (.i .u16), (.i .i64), (.i .i64)] p74 0 w83 fun x85 =>
ldN [(.i .i64), (.i .i64), (.i .i64), (.i .i64), (.i .u16), (.i .u16), (.i .i64), (.i .i64), (.i .i64), (.i .i64), (.i .i64), (.i .i64), (.i .i64), (.i .i64)] p80 0 w83 fun x86 =>
clS Tryz.prog F.law16_sync [.agg #[.int .i64 x86.1, .int .i64 x86.2.1, .int .i64 x86.2.2.1, .int .i64 x86.2.2.2.1, .int .u16 x86.2.2.2.2.1, .int .u16 x86.2.2.2.2.2.1, .int .i64 x86.2.2.2.2.2.2.1, .int .i64 x86.2.2.2.2.2.2.2.1, .int .i64 x86.2.2.2.2.2.2.2.2.1, .int .i64 x86.2.2.2.2.2.2.2.2.2.1, .int .i64 x86.2.2.2.2.2.2.2.2.2.2.1, .int .i64 x86.2.2.2.2.2.2.2.2.2.2.2.1, .int .i64 x86.2.2.2.2.2.2.2.2.2.2.2.2.1, .int .i64 x86.2.2.2.2.2.2.2.2.2.2.2.2.2.1]] w83 false [(true, [(.i .i64), (.i .i64), (.i .u16), (.i .u16), (.i .i64), (.i .i64)])] fun r87 w88 =>
Hold [(6, (p74.add 0), (w83.cell? (p74.add 0)).getD undef), (6, (p74.add 1), (w83.cell? (p74.add 1)).getD undef), (6, (p74.add 2), (w83.cell? (p74.add 2)).getD undef), (6, (p74.add 3), (w83.cell? (p74.add 3)).getD undef), (6, (p74.add 4), (w83.cell? (p74.add 4)).getD undef), (6, (p74.add 5), (w83.cell? (p74.add 5)).getD undef), (2, p80, (w83.cell? p80).getD undef)] w88 ∧ (
brB (!((x85.1 == r87.1.1) && ((x85.2.1 == r87.1.2.1) && ((x85.2.2.1 == r87.1.2.2.1) && ((x85.2.2.2.1 == r87.1.2.2.2.1) && ((x85.2.2.2.2.1 == r87.1.2.2.2.2.1) && ((x85.2.2.2.2.2.1 == r87.1.2.2.2.2.2.1) && true))))))) (
R ((false, ()), ()) w88) (
J50 (z43.1, ()) w88)))) (
brB (x53 == 5) (
ld1 (.i .i64) (p47.add 1) w70 fun x89 =>
clS Tryz.prog F.flood_Flood_Time [.pointer r8.1.1, .int .i64 x89] w70 true [(false, [(.i .i64)]), (false, [(.i .i64)]), (false, [(.i .i64)])] fun r90 w91 =>
ld1 (.i .i64) (p47.add 1) w91 fun x92 =>
clS Tryz.prog F.ref16_Flood_Time [.pointer z43.1, .int .i64 x92] w91 true [(false, [(.i .i64)]), (false, [(.i .i64)]), (false, [(.i .i64)])] fun r93 w94 =>
brB (r90.1.1 != r93.1.1) (
R ((false, ()), ()) w94) (
brB (r90.2.1.1 != r93.2.1.1) (
R ((false, ()), ()) w94) (
brB (r90.2.2.1.1 != r93.2.2.1.1) (
R ((false, ()), ()) w94) (
J50 (z43.1, ()) w94)))) (
brB (x53 == 6) (
ld1 (.i .u16) ((p47.add 2).add 4) w70 fun x95 =>
clS Tryz.prog F.flood_Flood_Boot [.pointer r8.1.1, .int .u16 x95] w70 true [] fun r96 w97 =>
ld1 (.i .i64) p1 w97 fun x98 =>
ld1 (.i .i64) (p1.add 1) w97 fun x99 =>
ld1 (.i .i64) (p1.add 2) w97 fun x100 =>
ld1 (.i .i64) (p1.add 3) w97 fun x101 =>
ld1 (.i .u16) ((p47.add 2).add 4) w97 fun x102 =>
clS Tryz.prog F.ref16_New [.int .i64 me, .int .i64 x98, .int .i64 x99, .int .i64 x100, .int .i64 x101, .int .u16 x102] w97 false [(false, [.p])] fun r103 w104 =>
J50 (r103.1.1, ()) w104) (
J50 (z43.1, ()) w70))))))) (fun (z51 : (Option Addr) × Unit) w52 => ∀ _ : Nat → Value,
ncK r8.1.1 fun a105 =>
ld1 .p a105 w52 fun x106 =>
clS Tryz.prog F.elect_Elect_Mark [.pointer x106] w52 true [(true, [(.i .u16), (.i .u16)]), (false, [.b])] fun r107 w108 =>
alK [.int .u16 0, .int .u16 0] T.elect_Mark w108 fun p109 w110 =>
stN [.int .u16 r107.1.1, .int .u16 r107.1.2.1] p109 0 w110 fun w111 =>
ncK z51.1 fun a112 =>
ld1 .p a112 w111 fun x113 =>
clS Tryz.prog F.ref15_Elect_Mark [.pointer x113] w111 true [(false, [(.i .u16)]), (false, [(.i .u16)]), (false, [.b])] fun r114 w115 =>
drK w115 fun w116 =>
ncK r8.1.1 fun a117 =>
ld1 .p a117 w116 fun x118 =>
ncK z51.1 fun a119 =>
ld1 .p a119 w116 fun x120 =>
ncK x120 fun a121 =>
ld1 (.i .i64) (a121.add 5) w116 fun x122 =>
clS Tryz.prog F.elect_Elect_Root [.pointer x118] w116 false [(false, [(.i .i64)])] fun r123 w124 =>
Hold [(11, (a121.add 5), (w116.cell? (a121.add 5)).getD undef), (8, a119, (w116.cell? a119).getD undef), (3, a117, (w116.cell? a117).getD undef)] w124 ∧ (
brB (r123.1.1 != x122) (
R ((false, ()), ()) w124) (
ncK r8.1.1 fun a125 =>
ld1 .p a125 w124 fun x126 =>
clS Tryz.prog F.elect_Elect_Mine [.pointer x126] w124 false [(false, [.b])] fun r127 w128 =>
Hold [(17, a125, (w124.cell? a125).getD undef), (11, (a121.add 5), (w116.cell? (a121.add 5)).getD undef), (8, a119, (w116.cell? a119).getD undef), (3, a117, (w116.cell? a117).getD undef)] w128 ∧ (
clS Tryz.prog F.ref16_Flood_Mine [.pointer z51.1] w128 false [(false, [.b])] fun r129 w130 =>
Hold [(17, a125, (w124.cell? a125).getD undef), (11, (a121.add 5), (w116.cell? (a121.add 5)).getD undef), (8, a119, (w116.cell? a119).getD undef), (3, a117, (w116.cell? a117).getD undef)] w130 ∧ (
brB (!(r127.1.1 == r129.1.1)) (
R ((false, ()), ()) w130) (
ld1 (.i .u16) p109 w130 fun x131 =>
brB (x131 != r114.1.1) (
R ((false, ()), ()) w130) (
ld1 (.i .u16) (p109.add 1) w130 fun x132 =>
brB (x132 != r114.2.1.1) (
R ((false, ()), ()) w130) (
brB (!(r107.2.1.1 == r114.2.2.1.1)) (
R ((false, ()), ()) w130) (
clS Tryz.prog F.flood_Flood_Synced [.pointer r8.1.1] w130 false [(false, [.b])] fun r133 w134 =>
Hold [(31, (p109.add 1), (w130.cell? (p109.add 1)).getD undef), (25, p109, (w130.cell? p109).getD undef), (17, a125, (w124.cell? a125).getD undef), (11, (a121.add 5), (w116.cell? (a121.add 5)).getD undef), (8, a119, (w116.cell? a119).getD undef), (3, a117, (w116.cell? a117).getD undef)] w134 ∧ (
clS Tryz.prog F.ref16_Flood_Synced [.pointer z51.1] w134 false [(false, [.b])] fun r135 w136 =>
Hold [(31, (p109.add 1), (w130.cell? (p109.add 1)).getD undef), (25, p109, (w130.cell? p109).getD undef), (17, a125, (w124.cell? a125).getD undef), (11, (a121.add 5), (w116.cell? (a121.add 5)).getD undef), (8, a119, (w116.cell? a119).getD undef), (3, a117, (w116.cell? a117).getD undef)] w136 ∧ (
brB (!(r133.1.1 == r135.1.1)) (
R ((false, ()), ()) w136) (
ncK z51.1 fun a137 =>
ld1 .sl (a137.add 3) w136 fun x138 =>
clS Tryz.prog F.flood_Flood_Entries [.pointer r8.1.1] w136 false [(false, [(.i .i64)])] fun r139 w140 =>
Hold [(53, (a137.add 3), (w136.cell? (a137.add 3)).getD undef), (31, (p109.add 1), (w130.cell? (p109.add 1)).getD undef), (25, p109, (w130.cell? p109).getD undef), (17, a125, (w124.cell? a125).getD undef), (11, (a121.add 5), (w116.cell? (a121.add 5)).getD undef), (8, a119, (w116.cell? a119).getD undef), (3, a117, (w116.cell? a117).getD undef)] w140 ∧ (
brB (r139.1.1 != (x138.2.1 : Int)) (
R ((false, ()), ()) w140) (
self42 (z51.1, IntKind.wrap .i64 (z43.2.1 + 1), ()) w140))))))))))))))) (
R (((r8.2.1.1 == 0), ()), ()) w44)) (r40.1.1, 0, ()) w41)))))))))
set_option maxRecDepth 100000 in
theorem law16_FloodDoes.eq (me : Int) (r0 : Int) (r1 : Int) (r2 : Int) (r3 : Int) (script : Option Addr × Nat × Nat) (w : World) (R : Value → World → Prop) : wpF Tryz.prog Tryz.f3 (.s .n (.s .n (.s .n (.s .n (.s .n (.s .n (.s .n (.s .n (.s .n (.s .n (.s .n (.s .n (.s .n (.s (.s .n (.lp [(16, .p), (112, (.i .i64))] (.s .n (.s .n (.s (.s .n (.ct [(16, .p)] (.s .n (.ct [(118, .b)] .n (.s (.s (.pl (.tk 0 (.tk 1 (.tk 2 (.tk 4 (.tk 5 (.tk 7 (.tk 8 (.tk 9 (.tk 10 (.tk 11 (.ef 3 [] (.ef 6 [] (.ef 12 [9, 11] (.tk 13 .z))))))))))))))) .n) (.ct [(136, .b)] .n (.s (.s .n (.s .n (.s (.pl (.tk 0 (.tk 1 (.tk 2 (.tk 3 (.tk 4 (.tk 5 (.tk 6 (.tk 7 (.ef 8 [7] (.tk 9 (.tk 10 .z)))))))))))) .n))) .n))))) (.s .n (.s .n (.s (.pl (.tk 0 (.tk 1 (.tk 2 (.tk 3 (.tk 5 (.tk 6 (.tk 7 (.tk 8 (.tk 9 (.tk 10 (.tk 11 (.ef 4 [] (.tk 12 (.tk 13 (.tk 14 (.tk 15 (.tk 16 (.tk 17 (.tk 19 (.ef 18 [] (.ef 20 [] (.tk 21 (.tk 22 (.tk 23 (.tk 24 (.tk 25 (.tk 26 (.tk 27 (.tk 28 (.tk 29 (.tk 30 (.tk 31 (.tk 32 (.tk 33 (.tk 34 (.tk 35 (.tk 36 (.tk 37 (.tk 38 (.tk 39 (.tk 40 (.tk 41 (.tk 43 (.ef 42 [] (.ef 44 [] (.tk 45 (.tk 46 (.tk 47 (.tk 48 (.tk 50 (.tk 51 (.tk 52 (.tk 53 (.tk 54 (.ef 49 [] (.tk 55 (.tk 56 .z)))))))))))))))))))))))))))))))))))))))))))))))))))))))))) .n))))) .n))))) .n)))))))))))))) [.int .i64 me, .agg #[.int .i64 r0, .int .i64 r1, .int .i64 r2, .int .i64 r3], .slice script.1 script.2.1 script.2.2] w R = law16_FloodDoes.wp me r0 r1 r2 r3 script w (fun r w => R (encR false [(false, [.b])] r) w) := by kernel_rfl
theorem law16_FloodDoes.ok {me : Int} {r0 : Int} {r1 : Int} {r2 : Int} {r3 : Int} {script : Option Addr × Nat × Nat} {w : World} {R : TR [(false, [.b])] → World → Prop} (h : law16_FloodDoes.wp me r0 r1 r2 r3 script w R) : clS Tryz.prog F.law16_FloodDoes [.int .i64 me, .agg #[.int .i64 r0, .int .i64 r1, .int .i64 r2, .int .i64 r3], .slice script.1 script.2.1 script.2.2] w false [(false, [.b])] R :=
  ok_of Tryz_follows Tryz.func3 (fun R => law16_FloodDoes.wp me r0 r1 r2 r3 script w R) (law16_FloodDoes.eq me r0 r1 r2 r3 script w) rfl h
/-! ### law19_SourceDoes -/
set_option maxRecDepth 100000 in
def law19_SourceDoes.wp (me : Int) (r0 : Int) (r1 : Int) (r2 : Int) (r3 : Int) (limit : Int) (script : Option Addr × Nat × Nat) (w : World) (R : TR [(false, [.b])] → World → Prop) : Prop :=
alK [.int .i64 r0, .int .i64 r1, .int .i64 r2, .int .i64 r3] T.law19_Rule w fun p1 w2 =>
clS Tryz.prog F.law19_alive [] w2 false [(false, [.b])] fun r3 w4 =>
brB (!r3.1.1) (
R ((false, ()), ()) w4) (
brB (decide ((script.2.1 : Int) > 200)) (
R ((true, ()), ()) w4) (
ld1 (.i .i64) p1 w4 fun x5 =>
ld1 (.i .i64) (p1.add 1) w4 fun x6 =>
ld1 (.i .i64) (p1.add 2) w4 fun x7 =>
ld1 (.i .i64) (p1.add 3) w4 fun x8 =>
clS Tryz.prog F.ref16_Good [.int .i64 me, .int .i64 x5, .int .i64 x6, .int .i64 x7, .int .i64 x8] w4 false [(false, [.b])] fun r9 w10 =>
brB (!r9.1.1) (
R ((true, ()), ()) w10) (
clS Tryz.prog F.source_New [.int .i64 limit] w10 true [(false, [.p]), (false, [(.i .i64)])] fun r11 w12 =>
ldN [(.i .i64), (.i .i64), (.i .i64), (.i .i64)] p1 0 w12 fun x13 =>
clS Tryz.prog F.law19_rules [.agg #[.int .i64 x13.1, .int .i64 x13.2.1, .int .i64 x13.2.2.1, .int .i64 x13.2.2.2.1]] w12 false [(true, [(.i .i64), (.i .i64), (.i .i64), (.i .i64)])] fun r14 w15 =>
clS Tryz.prog F.flood_New [.int .i64 me, .agg #[.int .i64 r14.1.1, .int .i64 r14.1.2.1, .int .i64 r14.1.2.2.1, .int .i64 r14.1.2.2.2.1]] w15 true [(false, [.p]), (false, [(.i .i64)])] fun r16 w17 =>
clS Tryz.prog F.source_Source_Drop [.pointer none] w17 true [] fun r18 w19 =>
clS Tryz.prog F.source_Source_Beat [.pointer none] w19 true [] fun r20 w21 =>
clS Tryz.prog F.source_Source_Time [.pointer none, .pointer r16.1.1, .int .i64 1] w21 true [(true, [(.i .i64), (.i .i64), (.i .i64), (.i .u16), (.i .i64)]), (false, [(.i .i64)])] fun r22 w23 =>
alK [.int .i64 0, .int .i64 0, .int .i64 0, .int .u16 0, .int .i64 0] T.source_Answer w23 fun p24 w25 =>
stN [.int .i64 r22.1.1, .int .i64 r22.1.2.1, .int .i64 r22.1.2.2.1, .int .u16 r22.1.2.2.2.1, .int .i64 r22.1.2.2.2.2.1] p24 0 w25 fun w26 =>
brB (r22.2.1.1 != 2) (
R ((false, ()), ()) w26) (
clS Tryz.prog F.source_Source_Fresh [.pointer none] w26 false [(false, [.b])] fun r27 w28 =>
brB r27.1.1 (
R ((false, ()), ()) w28) (
clS Tryz.prog F.source_Source_Put [.pointer none, .agg #[.int .i64 0, .int .i64 0, .int .i64 1], .agg #[.int .i64 0, .int .u16 0]] w28 false [(false, [(.i .i64)])] fun r29 w30 =>
brB (r29.1.1 != 2) (
R ((false, ()), ()) w30) (
brB (r16.2.1.1 != 0) (
R ((false, ()), ()) w30) (
CutT (fun (J31 : ((Bool) × Unit) → World → Prop) =>
brB (decide (limit < 1)) (
J31 (true, ()) w30) (
J31 (decide (limit > 1000), ()) w30)) (fun (z32 : (Bool) × Unit) w33 => ∀ _ : Nat → Value,
brB z32.1 (
brB (Option.isNone r11.1.1) (
R (((r11.2.1.1 == 1), ()), ()) w33) (
R ((false, ()), ()) w33)) (
clS Tryz.prog F.source_Source_Time [.pointer r11.1.1, .pointer none, .int .i64 1] w33 true [(true, [(.i .i64), (.i .i64), (.i .i64), (.i .u16), (.i .i64)]), (false, [(.i .i64)])] fun r34 w35 =>
brB (r34.2.1.1 != 2) (
R ((false, ()), ()) w35) (
brB (r11.2.1.1 != 0) (
R ((false, ()), ()) w35) (
alK [.int .i64 limit, .int .i64 0, .int .i64 0, .int .i64 0, .int .i64 0, .int .u16 0, .int .i64 0, .bool false] T.ref19_Source w35 fun p36 w37 =>
ld1 (.i .i64) p1 w37 fun x38 =>
ld1 (.i .i64) (p1.add 1) w37 fun x39 =>
ld1 (.i .i64) (p1.add 2) w37 fun x40 =>
ld1 (.i .i64) (p1.add 3) w37 fun x41 =>
clS Tryz.prog F.ref16_New [.int .i64 me, .int .i64 x38, .int .i64 x39, .int .i64 x40, .int .i64 x41, .int .u16 0] w37 false [(false, [.p])] fun r42 w43 =>
LoopT (fun (self44 : ((Int) × Unit) → World → Prop) (z45 : (Int) × Unit) w46 => ∀ _ : Nat → Value,
brB (decide (z45.1 < (script.2.1 : Int))) (
ixK script.1 script.2.1 z45.1 fun a47 =>
ldN [(.i .i64), (.i .i64), (.i .i64), (.i .i64), (.i .i64), (.i .i64), (.i .u16), (.i .u16), (.i .i64), (.i .i64), (.i .i64), (.i .i64), (.i .i64), (.i .i64), (.i .i64), (.i .i64), (.i .i64), (.i .i64), (.i .i64)] (a47.add (z45.1.toNat * 19)) 0 w46 fun x48 =>
alK [.int .i64 0, .int .i64 0, .int .i64 0, .int .i64 0, .int .i64 0, .int .i64 0, .int .u16 0, .int .u16 0, .int .i64 0, .int .i64 0, .int .i64 0, .int .i64 0, .int .i64 0, .int .i64 0, .int .i64 0, .int .i64 0, .int .i64 0, .int .i64 0, .int .i64 0] T.law19_Call w46 fun p49 w50 =>
stN [.int .i64 x48.1, .int .i64 x48.2.1, .int .i64 x48.2.2.1, .int .i64 x48.2.2.2.1, .int .i64 x48.2.2.2.2.1, .int .i64 x48.2.2.2.2.2.1, .int .u16 x48.2.2.2.2.2.2.1, .int .u16 x48.2.2.2.2.2.2.2.1, .int .i64 x48.2.2.2.2.2.2.2.2.1, .int .i64 x48.2.2.2.2.2.2.2.2.2.1, .int .i64 x48.2.2.2.2.2.2.2.2.2.2.1, .int .i64 x48.2.2.2.2.2.2.2.2.2.2.2.1, .int .i64 x48.2.2.2.2.2.2.2.2.2.2.2.2.1, .int .i64 x48.2.2.2.2.2.2.2.2.2.2.2.2.2.1, .int .i64 x48.2.2.2.2.2.2.2.2.2.2.2.2.2.2.1, .int .i64 x48.2.2.2.2.2.2.2.2.2.2.2.2.2.2.2.1, .int .i64 x48.2.2.2.2.2.2.2.2.2.2.2.2.2.2.2.2.1, .int .i64 x48.2.2.2.2.2.2.2.2.2.2.2.2.2.2.2.2.2.1, .int .i64 x48.2.2.2.2.2.2.2.2.2.2.2.2.2.2.2.2.2.2.1] p49 0 w50 fun w51 =>
CutT (fun (J52 : Unit → World → Prop) =>
ld1 (.i .i64) p49 w51 fun x55 =>
CutT (fun (J56 : ((Bool) × Unit) → World → Prop) =>
brB (x55 == 0) (
J56 ((x55 == 0), ()) w51) (
J56 ((x55 == 1), ()) w51)) (fun (z57 : (Bool) × Unit) w58 => ∀ _ : Nat → Value,
brB z57.1 (
ldN [(.i .i64), (.i .i64), (.i .i64), (.i .i64), (.i .u16), (.i .u16), (.i .i64), (.i .i64), (.i .i64), (.i .i64), (.i .i64), (.i .i64), (.i .i64), (.i .i64)] (p49.add 2) 0 w58 fun x59 =>
alK [.int .i64 0, .int .i64 0, .int .i64 0, .int .i64 0, .int .u16 0, .int .u16 0, .int .i64 0, .int .i64 0, .int .i64 0, .int .i64 0, .int .i64 0, .int .i64 0, .int .i64 0, .int .i64 0] T.ref05_Plain w58 fun p60 w61 =>
stN [.int .i64 x59.1, .int .i64 x59.2.1, .int .i64 x59.2.2.1, .int .i64 x59.2.2.2.1, .int .u16 x59.2.2.2.2.1, .int .u16 x59.2.2.2.2.2.1, .int .i64 x59.2.2.2.2.2.2.1, .int .i64 x59.2.2.2.2.2.2.2.1, .int .i64 x59.2.2.2.2.2.2.2.2.1, .int .i64 x59.2.2.2.2.2.2.2.2.2.1, .int .i64 x59.2.2.2.2.2.2.2.2.2.2.1, .int .i64 x59.2.2.2.2.2.2.2.2.2.2.2.1, .int .i64 x59.2.2.2.2.2.2.2.2.2.2.2.2.1, .int .i64 x59.2.2.2.2.2.2.2.2.2.2.2.2.2.1] p60 0 w61 fun w62 =>
ld1 (.i .i64) (p60.add 1) w62 fun x63 =>
ld1 (.i .i64) (p60.add 3) w62 fun x64 =>
ld1 (.i .u16) (p60.add 4) w62 fun x65 =>
ld1 (.i .u16) (p60.add 5) w62 fun x66 =>
ld1 (.i .i64) (p60.add 6) w62 fun x67 =>
ld1 (.i .i64) (p60.add 7) w62 fun x68 =>
ld1 (.i .i64) (p49.add 1) w62 fun x69 =>
clS Tryz.prog F.flood_Flood_Hear [.pointer r16.1.1, .agg #[.int .i64 x63, .int .i64 x64, .int .u16 x65, .int .u16 x66, .int .i64 x67, .int .i64 x68], .int .i64 x69] w62 false [(false, [(.i .i64)])] fun r70 w71 =>
ldN [(.i .i64), (.i .i64), (.i .i64), (.i .i64), (.i .u16), (.i .u16), (.i .i64), (.i .i64), (.i .i64), (.i .i64), (.i .i64), (.i .i64), (.i .i64), (.i .i64)] p60 0 w71 fun x72 =>
ld1 (.i .i64) (p49.add 1) w71 fun x73 =>
clS Tryz.prog F.ref16_Flood_Hear [.pointer r42.1.1, .agg #[.int .i64 x72.1, .int .i64 x72.2.1, .int .i64 x72.2.2.1, .int .i64 x72.2.2.2.1, .int .u16 x72.2.2.2.2.1, .int .u16 x72.2.2.2.2.2.1, .int .i64 x72.2.2.2.2.2.2.1, .int .i64 x72.2.2.2.2.2.2.2.1, .int .i64 x72.2.2.2.2.2.2.2.2.1, .int .i64 x72.2.2.2.2.2.2.2.2.2.1, .int .i64 x72.2.2.2.2.2.2.2.2.2.2.1, .int .i64 x72.2.2.2.2.2.2.2.2.2.2.2.1, .int .i64 x72.2.2.2.2.2.2.2.2.2.2.2.2.1, .int .i64 x72.2.2.2.2.2.2.2.2.2.2.2.2.2.1], .int .i64 x73] w71 false [(false, [(.i .i64)])] fun r74 w75 =>
J52 (()) w75) (
brB (x55 == 2) (
ld1 (.i .i64) (p49.add 1) w58 fun x76 =>
clS Tryz.prog F.flood_Flood_Beat [.pointer r16.1.1, .int .i64 x76] w58 true [(true, [(.i .i64), (.i .i64), (.i .u16), (.i .u16), (.i .i64), (.i .i64)]), (false, [.b])] fun r77 w78 =>
ld1 (.i .i64) (p49.add 1) w78 fun x79 =>
clS Tryz.prog F.ref16_Flood_Beat [.pointer r42.1.1, .int .i64 x79] w78 false [(true, [(.i .i64), (.i .i64), (.i .i64), (.i .i64), (.i .u16), (.i .u16), (.i .i64), (.i .i64), (.i .i64), (.i .i64), (.i .i64), (.i .i64), (.i .i64), (.i .i64)])] fun r80 w81 =>
clS Tryz.prog F.source_Source_Beat [.pointer r11.1.1] w81 true [] fun r82 w83 =>
clS Tryz.prog F.ref19_Source_Beat [.pointer (some p36)] w83 true [] fun r84 w85 =>
J52 (()) w85) (
brB (x55 == 3) (
drK w58 fun w86 =>
ldN [(.i .i64), (.i .i64), (.i .i64)] (p49.add 16) 0 w86 fun x87 =>
ld1 (.i .i64) ((p49.add 2).add 3) w86 fun x88 =>
ld1 (.i .u16) ((p49.add 2).add 4) w86 fun x89 =>
ldN [(.i .i64), (.i .i64), (.i .i64)] (p49.add 16) 0 w86 fun x90 =>
ld1 (.i .i64) ((p49.add 2).add 3) w86 fun x91 =>
ld1 (.i .u16) ((p49.add 2).add 4) w86 fun x92 =>
clS Tryz.prog F.source_Source_Put [.pointer r11.1.1, .agg #[.int .i64 x87.1, .int .i64 x87.2.1, .int .i64 x87.2.2.1], .agg #[.int .i64 x88, .int .u16 x89]] w86 false [(false, [(.i .i64)])] fun r93 w94 =>
Hold [(19, ((p49.add 2).add 4), (w86.cell? ((p49.add 2).add 4)).getD undef), (16, ((p49.add 2).add 3), (w86.cell? ((p49.add 2).add 3)).getD undef), (13, ((p49.add 16).add 0), (w86.cell? ((p49.add 16).add 0)).getD undef), (13, ((p49.add 16).add 1), (w86.cell? ((p49.add 16).add 1)).getD undef), (13, ((p49.add 16).add 2), (w86.cell? ((p49.add 16).add 2)).getD undef), (8, ((p49.add 2).add 4), (w86.cell? ((p49.add 2).add 4)).getD undef), (5, ((p49.add 2).add 3), (w86.cell? ((p49.add 2).add 3)).getD undef), (2, ((p49.add 16).add 0), (w86.cell? ((p49.add 16).add 0)).getD undef), (2, ((p49.add 16).add 1), (w86.cell? ((p49.add 16).add 1)).getD undef), (2, ((p49.add 16).add 2), (w86.cell? ((p49.add 16).add 2)).getD undef)] w94 ∧ (
clS Tryz.prog F.ref19_Source_Put [.pointer (some p36), .agg #[.int .i64 x90.1, .int .i64 x90.2.1, .int .i64 x90.2.2.1], .int .i64 x91, .int .u16 x92] w94 false [(false, [(.i .i64)])] fun r95 w96 =>
Hold [(8, ((p49.add 2).add 4), (w86.cell? ((p49.add 2).add 4)).getD undef), (5, ((p49.add 2).add 3), (w86.cell? ((p49.add 2).add 3)).getD undef), (2, ((p49.add 16).add 0), (w86.cell? ((p49.add 16).add 0)).getD undef), (2, ((p49.add 16).add 1), (w86.cell? ((p49.add 16).add 1)).getD undef), (2, ((p49.add 16).add 2), (w86.cell? ((p49.add 16).add 2)).getD undef)] w96 ∧ (
brB (r93.1.1 != r95.1.1) (
R ((false, ()), ()) w96) (
J52 (()) w96)))) (
brB (x55 == 4) (
clS Tryz.prog F.source_Source_Drop [.pointer r11.1.1] w58 true [] fun r97 w98 =>
stN [.bool false] (p36.add 7) 0 w98 fun w99 =>
J52 (()) w99) (
J52 (()) w58)))))) (fun (z53 : Unit) w54 => ∀ _ : Nat → Value,
ld1 (.i .i64) (p49.add 1) w54 fun x100 =>
clS Tryz.prog F.source_Source_Time [.pointer r11.1.1, .pointer r16.1.1, .int .i64 x100] w54 true [(true, [(.i .i64), (.i .i64), (.i .i64), (.i .u16), (.i .i64)]), (false, [(.i .i64)])] fun r101 w102 =>
alK [.int .i64 0, .int .i64 0, .int .i64 0, .int .u16 0, .int .i64 0] T.source_Answer w102 fun p103 w104 =>
stN [.int .i64 r101.1.1, .int .i64 r101.1.2.1, .int .i64 r101.1.2.2.1, .int .u16 r101.1.2.2.2.1, .int .i64 r101.1.2.2.2.2.1] p103 0 w104 fun w105 =>
ld1 (.i .i64) (p49.add 1) w105 fun x106 =>
clS Tryz.prog F.ref19_Source_Time [.pointer (some p36), .pointer r42.1.1, .int .i64 x106] w105 true [(true, [(.i .i64), (.i .i64), (.i .i64), (.i .u16), (.i .i64)]), (false, [(.i .i64)])] fun r107 w108 =>
alK [.int .i64 0, .int .i64 0, .int .i64 0, .int .u16 0, .int .i64 0] T.ref19_Answer w108 fun p109 w110 =>
stN [.int .i64 r107.1.1, .int .i64 r107.1.2.1, .int .i64 r107.1.2.2.1, .int .u16 r107.1.2.2.2.1, .int .i64 r107.1.2.2.2.2.1] p109 0 w110 fun w111 =>
drK w111 fun w112 =>
ldN [(.i .i64), (.i .i64), (.i .i64), (.i .u16), (.i .i64)] p103 0 w112 fun x113 =>
ldN [(.i .i64), (.i .i64), (.i .i64), (.i .u16), (.i .i64)] p109 0 w112 fun x114 =>
clS Tryz.prog F.law19_same [.agg #[.int .i64 x113.1, .int .i64 x113.2.1, .int .i64 x113.2.2.1, .int .u16 x113.2.2.2.1, .int .i64 x113.2.2.2.2.1], .agg #[.int .i64 x114.1, .int .i64 x114.2.1, .int .i64 x114.2.2.1, .int .u16 x114.2.2.2.1, .int .i64 x114.2.2.2.2.1]] w112 false [(false, [.b])] fun r115 w116 =>
Hold [(1, (p109.add 0), (w112.cell? (p109.add 0)).getD undef), (1, (p109.add 1), (w112.cell? (p109.add 1)).getD undef), (1, (p109.add 2), (w112.cell? (p109.add 2)).getD undef), (1, (p109.add 3), (w112.cell? (p109.add 3)).getD undef), (1, (p109.add 4), (w112.cell? (p109.add 4)).getD undef), (0, (p103.add 0), (w112.cell? (p103.add 0)).getD undef), (0, (p103.add 1), (w112.cell? (p103.add 1)).getD undef), (0, (p103.add 2), (w112.cell? (p103.add 2)).getD undef), (0, (p103.add 3), (w112.cell? (p103.add 3)).getD undef), (0, (p103.add 4), (w112.cell? (p103.add 4)).getD undef)] w116 ∧ (
brB (!r115.1.1) (
R ((false, ()), ()) w116) (
brB (r101.2.1.1 != r107.2.1.1) (
R ((false, ()), ()) w116) (
ld1 .b (p36.add 7) w116 fun x117 =>
clS Tryz.prog F.source_Source_Fresh [.pointer r11.1.1] w116 false [(false, [.b])] fun r118 w119 =>
Hold [(15, (p36.add 7), (w116.cell? (p36.add 7)).getD undef), (1, (p109.add 0), (w112.cell? (p109.add 0)).getD undef), (1, (p109.add 1), (w112.cell? (p109.add 1)).getD undef), (1, (p109.add 2), (w112.cell? (p109.add 2)).getD undef), (1, (p109.add 3), (w112.cell? (p109.add 3)).getD undef), (1, (p109.add 4), (w112.cell? (p109.add 4)).getD undef), (0, (p103.add 0), (w112.cell? (p103.add 0)).getD undef), (0, (p103.add 1), (w112.cell? (p103.add 1)).getD undef), (0, (p103.add 2), (w112.cell? (p103.add 2)).getD undef), (0, (p103.add 3), (w112.cell? (p103.add 3)).getD undef), (0, (p103.add 4), (w112.cell? (p103.add 4)).getD undef)] w119 ∧ (
brB (!(r118.1.1 == x117)) (
R ((false, ()), ()) w119) (
self44 (IntKind.wrap .i64 (z45.1 + 1), ()) w119))))))) (
R ((true, ()), ()) w46)) (0, ()) w43)))))))))))
set_option maxRecDepth 100000 in
theorem law19_SourceDoes.eq (me : Int) (r0 : Int) (r1 : Int) (r2 : Int) (r3 : Int) (limit : Int) (script : Option Addr × Nat × Nat) (w : World) (R : Value → World → Prop) : wpF Tryz.prog Tryz.f4 (.s .n (.s .n (.s .n (.s .n (.s .n (.s .n (.s .n (.s .n (.s .n (.s .n (.s (.ct [(87, .b)] .n .n) (.s .n (.s .n (.s .n (.s .n (.s (.s .n (.lp [(120, (.i .i64))] (.s .n (.s .n (.s (.s .n (.ct [] (.s .n (.ct [(126, .b)] .n (.s .n (.s .n (.s .n (.s .n (.s (.s (.pl (.tk 0 (.tk 1 (.tk 2 (.tk 3 (.tk 4 (.tk 5 (.tk 6 (.tk 7 (.tk 8 (.tk 9 (.tk 11 (.tk 12 (.tk 13 (.tk 14 (.tk 15 (.tk 16 (.tk 17 (.tk 18 (.tk 19 (.ef 10 [] (.ef 20 [13, 16, 19] (.tk 21 .z))))))))))))))))))))))) .n) .n))))))) (.s .n (.s .n (.s (.pl (.tk 0 (.tk 1 (.ef 2 [] (.tk 3 (.tk 4 (.tk 5 (.tk 6 (.tk 7 (.tk 8 (.tk 9 (.tk 10 (.tk 12 (.tk 13 (.tk 14 (.tk 15 (.ef 11 [] (.tk 16 (.tk 17 .z))))))))))))))))))) .n))))) .n))))) .n)))))))))))))))) [.int .i64 me, .agg #[.int .i64 r0, .int .i64 r1, .int .i64 r2, .int .i64 r3], .int .i64 limit, .slice script.1 script.2.1 script.2.2] w R = law19_SourceDoes.wp me r0 r1 r2 r3 limit script w (fun r w => R (encR false [(false, [.b])] r) w) := by kernel_rfl
theorem law19_SourceDoes.ok {me : Int} {r0 : Int} {r1 : Int} {r2 : Int} {r3 : Int} {limit : Int} {script : Option Addr × Nat × Nat} {w : World} {R : TR [(false, [.b])] → World → Prop} (h : law19_SourceDoes.wp me r0 r1 r2 r3 limit script w R) : clS Tryz.prog F.law19_SourceDoes [.int .i64 me, .agg #[.int .i64 r0, .int .i64 r1, .int .i64 r2, .int .i64 r3], .int .i64 limit, .slice script.1 script.2.1 script.2.2] w false [(false, [.b])] R :=
  ok_of Tryz_follows Tryz.func4 (fun R => law19_SourceDoes.wp me r0 r1 r2 r3 limit script w R) (law19_SourceDoes.eq me r0 r1 r2 r3 limit script w) rfl h
/-! ### law16_alive -/
set_option maxRecDepth 100000 in
def law16_alive.wp  (w : World) (R : TR [(false, [.b])] → World → Prop) : Prop :=
clS Tryz.prog F.law16_rules [.agg #[.int .i64 3, .int .i64 0, .int .i64 1, .int .i64 10]] w false [(true, [(.i .i64), (.i .i64), (.i .i64), (.i .i64)])] fun r1 w2 =>
clS Tryz.prog F.flood_New [.int .i64 5, .agg #[.int .i64 r1.1.1, .int .i64 r1.1.2.1, .int .i64 r1.1.2.2.1, .int .i64 r1.1.2.2.2.1]] w2 true [(false, [.p]), (false, [(.i .i64)])] fun r3 w4 =>
clS Tryz.prog F.flood_Flood_Hear [.pointer r3.1.1, .agg #[.int .i64 3, .int .i64 3, .int .u16 0, .int .u16 1, .int .i64 0, .int .i64 500], .int .i64 100] w4 false [(false, [(.i .i64)])] fun r5 w6 =>
clS Tryz.prog F.flood_Flood_Time [.pointer r3.1.1, .int .i64 150] w6 true [(false, [(.i .i64)]), (false, [(.i .i64)]), (false, [(.i .i64)])] fun r7 w8 =>
clS Tryz.prog F.flood_Flood_Beat [.pointer r3.1.1, .int .i64 160] w8 true [(true, [(.i .i64), (.i .i64), (.i .u16), (.i .u16), (.i .i64), (.i .i64)]), (false, [.b])] fun r9 w10 =>
alK [.int .i64 0, .int .i64 0, .int .u16 0, .int .u16 0, .int .i64 0, .int .i64 0] T.frame_Sync w10 fun p11 w12 =>
stN [.int .i64 r9.1.1, .int .i64 r9.1.2.1, .int .u16 r9.1.2.2.1, .int .u16 r9.1.2.2.2.1, .int .i64 r9.1.2.2.2.2.1, .int .i64 r9.1.2.2.2.2.2.1] p11 0 w12 fun w13 =>
brB (r3.2.1.1 == 0) (
brB (r5.1.1 == 2) (
brB (r7.1.1 == 550) (
brB (r7.2.1.1 == 1) (
brB (r7.2.2.1.1 == 0) (
brB r9.2.1.1 (
ld1 (.i .i64) (p11.add 5) w13 fun x14 =>
brB (x14 == 560) (
ld1 (.i .i64) (p11.add 4) w13 fun x15 =>
brB (x15 == 1) (
ld1 (.i .i64) (p11.add 1) w13 fun x16 =>
R (((x16 == 3), ()), ()) w13) (
R ((false, ()), ()) w13)) (
R ((false, ()), ()) w13)) (
R ((false, ()), ()) w13)) (
R ((false, ()), ()) w13)) (
R ((false, ()), ()) w13)) (
R ((false, ()), ()) w13)) (
R ((false, ()), ()) w13)) (
R ((false, ()), ()) w13)
set_option maxRecDepth 100000 in
theorem law16_alive.eq  (w : World) (R : Value → World → Prop) : wpF Tryz.prog Tryz.f5 .n [] w R = law16_alive.wp  w (fun r w => R (encR false [(false, [.b])] r) w) := by kernel_rfl
theorem law16_alive.ok  {w : World} {R : TR [(false, [.b])] → World → Prop} (h : law16_alive.wp  w R) : clS Tryz.prog F.law16_alive [] w false [(false, [.b])] R :=
  ok_of Tryz_follows Tryz.func5 (fun R => law16_alive.wp  w R) (law16_alive.eq  w) rfl h
end Go.Proofs.YtgpgdhopmifbpaaGreat
