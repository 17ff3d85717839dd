import Derived.Test.YtgpgdhopmifbpaaNm
namespace Go.Proofs.Ytgpgdhopmifbpaa
open Go.Eng
set_option linter.unusedVariables false
/-! ### law16_FloodCounts -/
set_option maxRecDepth 100000 in
def law16_FloodCounts.wp (me : Int) (boot : Int) (locals : Option Addr × Nat × Nat) (w : World) (R : TR [(false, [.b])] → World → Prop) : Prop :=
clS Try.prog F.law16_alive [] w false [(false, [.b])] fun r1 w2 =>
brB (!r1.1.1) (
R ((false, ()), ()) w2) (
brB (decide ((locals.2.1 : Int) > 100)) (
R ((true, ()), ()) w2) (
clS Try.prog F.law16_rules [.agg #[.int .i64 1, .int .i64 0, .int .i64 1, .int .i64 0]] w2 false [(true, [(.i .i64), (.i .i64), (.i .i64), (.i .i64)])] fun r3 w4 =>
clS Try.prog F.flood_New [.int .i64 me, .agg #[.int .i64 r3.1.1, .int .i64 r3.1.2.1, .int .i64 r3.1.2.2.1, .int .i64 r3.1.2.2.2.1]] w4 true [(false, [.p]), (false, [(.i .i64)])] fun r5 w6 =>
brB (r5.2.1.1 != 0) (
brB (Option.isNone r5.1.1) (
brB (decide (me < 0)) (
R ((true, ()), ()) w6) (
R ((decide (me > 63), ()), ()) w6)) (
R ((false, ()), ()) w6)) (
clS Try.prog F.flood_Flood_Boot [.pointer r5.1.1, .int .u16 boot] w6 true [] fun r7 w8 =>
LoopT (fun (self9 : ((Int) × (Int) × Unit) → World → Prop) (z10 : (Int) × (Int) × Unit) w11 => ∀ _ : Nat → Value,
brB (decide (z10.2.1 < (locals.2.1 : Int))) (
ixK locals.1 locals.2.1 z10.2.1 fun a12 =>
ld1 (.i .i64) (a12.add (z10.2.1.toNat * 1)) w11 fun x13 =>
clS Try.prog F.flood_Flood_Beat [.pointer r5.1.1, .int .i64 x13] w11 true [(true, [(.i .i64), (.i .i64), (.i .u16), (.i .u16), (.i .i64), (.i .i64)]), (false, [.b])] fun r14 w15 =>
alK [.int .i64 0, .int .i64 0, .int .u16 0, .int .u16 0, .int .i64 0, .int .i64 0] T.frame_Sync w15 fun p16 w17 =>
stN [.int .i64 r14.1.1, .int .i64 r14.1.2.1, .int .u16 r14.1.2.2.1, .int .u16 r14.1.2.2.2.1, .int .i64 r14.1.2.2.2.2.1, .int .i64 r14.1.2.2.2.2.2.1] p16 0 w17 fun w18 =>
ncK r5.1.1 fun a19 =>
ld1 .p a19 w18 fun x20 =>
clS Try.prog F.elect_Elect_Mine [.pointer x20] w18 false [(false, [.b])] fun r21 w22 =>
brB (!r21.1.1) (
R ((false, ()), ()) w22) (
clS Try.prog F.flood_Flood_Synced [.pointer r5.1.1] w22 false [(false, [.b])] fun r23 w24 =>
brB (!r23.1.1) (
R ((false, ()), ()) w24) (
brB (decide (x13 < 0)) (
brB r14.2.1.1 (
R ((false, ()), ()) w24) (
self9 (z10.1, IntKind.wrap .i64 (z10.2.1 + 1), ()) w24)) (
brB (decide (x13 > 1125899906842624)) (
brB r14.2.1.1 (
R ((false, ()), ()) w24) (
self9 (z10.1, IntKind.wrap .i64 (z10.2.1 + 1), ()) w24)) (
brB (!r14.2.1.1) (
R ((false, ()), ()) w24) (
ld1 (.i .u16) (p16.add 3) w24 fun x25 =>
brB (x25 != (IntKind.wrap .u16 (z10.1 + 1))) (
R ((false, ()), ()) w24) (
ld1 (.i .u16) (p16.add 2) w24 fun x26 =>
brB (x26 != boot) (
R ((false, ()), ()) w24) (
ld1 (.i .i64) (p16.add 4) w24 fun x27 =>
brB (x27 != 0) (
R ((false, ()), ()) w24) (
ld1 (.i .i64) (p16.add 5) w24 fun x28 =>
brB (x28 != x13) (
R ((false, ()), ()) w24) (
ld1 (.i .i64) (p16.add 1) w24 fun x29 =>
brB (x29 != me) (
R ((false, ()), ()) w24) (
ld1 (.i .i64) p16 w24 fun x30 =>
brB (x30 != me) (
R ((false, ()), ()) w24) (
self9 (IntKind.wrap .u16 (z10.1 + 1), IntKind.wrap .i64 (z10.2.1 + 1), ()) w24)))))))))))) (
R ((true, ()), ()) w11)) (0, 0, ()) w8)))
set_option maxRecDepth 100000 in
theorem law16_FloodCounts.eq (me : Int) (boot : Int) (locals : Option Addr × Nat × Nat) (w : World) (R : Value → World → Prop) : wpF Try.prog Try.f8 (.s .n (.s .n (.s .n (.s .n (.s .n (.s .n (.s .n (.s (.s .n (.lp [(9, (.i .u16)), (43, (.i .i64))] .n)) .n)))))))) [.int .i64 me, .int .u16 boot, .slice locals.1 locals.2.1 locals.2.2] w R = law16_FloodCounts.wp me boot locals w (fun r w => R (encR false [(false, [.b])] r) w) := by kernel_rfl
theorem law16_FloodCounts.ok {me : Int} {boot : Int} {locals : Option Addr × Nat × Nat} {w : World} {R : TR [(false, [.b])] → World → Prop} (h : law16_FloodCounts.wp me boot locals w R) : clS Try.prog F.law16_FloodCounts [.int .i64 me, .int .u16 boot, .slice locals.1 locals.2.1 locals.2.2] w false [(false, [.b])] R :=
  ok_of Try_follows Try.func8 (fun R => law16_FloodCounts.wp me boot locals w R) (law16_FloodCounts.eq me boot locals w) rfl h
/-! ### law16_FloodKnows -/
set_option maxRecDepth 100000 in
def law16_FloodKnows.wp (me : Int) (r0 : Int) (r1 : Int) (r2 : Int) (r3 : Int) (script : Option Addr × Nat × Nat) (w : World) (R : TR [(false, [.b])] → World → Prop) : Prop :=
alK [.int .i64 r0, .int .i64 r1, .int .i64 r2, .int .i64 r3] T.law16_Rule w fun p1 w2 =>
clS Try.prog F.law16_alive [] w2 false [(false, [.b])] fun r3 w4 =>
brB (!r3.1.1) (
R ((false, ()), ()) w4) (
brB (decide ((script.2.1 : Int) > 200)) (
R ((true, ()), ()) w4) (
ldN [(.i .i64), (.i .i64), (.i .i64), (.i .i64)] p1 0 w4 fun x5 =>
clS Try.prog F.law16_rules [.agg #[.int .i64 x5.1, .int .i64 x5.2.1, .int .i64 x5.2.2.1, .int .i64 x5.2.2.2.1]] w4 false [(true, [(.i .i64), (.i .i64), (.i .i64), (.i .i64)])] fun r6 w7 =>
clS Try.prog F.flood_New [.int .i64 me, .agg #[.int .i64 r6.1.1, .int .i64 r6.1.2.1, .int .i64 r6.1.2.2.1, .int .i64 r6.1.2.2.2.1]] w7 true [(false, [.p]), (false, [(.i .i64)])] fun r8 w9 =>
brB (r8.2.1.1 != 0) (
R (((Option.isNone r8.1.1), ()), ()) w9) (
LoopT (fun (self10 : ((Int) × Unit) → World → Prop) (z11 : (Int) × Unit) w12 => ∀ _ : Nat → Value,
brB (decide (z11.1 < (script.2.1 : Int))) (
ixK script.1 script.2.1 z11.1 fun a13 =>
ldN [(.i .i64), (.i .i64), (.i .i64), (.i .i64), (.i .i64), (.i .i64), (.i .u16), (.i .u16), (.i .i64), (.i .i64), (.i .i64), (.i .i64), (.i .i64), (.i .i64), (.i .i64), (.i .i64)] (a13.add (z11.1.toNat * 16)) 0 w12 fun x14 =>
alK [.int .i64 0, .int .i64 0, .int .i64 0, .int .i64 0, .int .i64 0, .int .i64 0, .int .u16 0, .int .u16 0, .int .i64 0, .int .i64 0, .int .i64 0, .int .i64 0, .int .i64 0, .int .i64 0, .int .i64 0, .int .i64 0] T.law16_Call w12 fun p15 w16 =>
stN [.int .i64 x14.1, .int .i64 x14.2.1, .int .i64 x14.2.2.1, .int .i64 x14.2.2.2.1, .int .i64 x14.2.2.2.2.1, .int .i64 x14.2.2.2.2.2.1, .int .u16 x14.2.2.2.2.2.2.1, .int .u16 x14.2.2.2.2.2.2.2.1, .int .i64 x14.2.2.2.2.2.2.2.2.1, .int .i64 x14.2.2.2.2.2.2.2.2.2.1, .int .i64 x14.2.2.2.2.2.2.2.2.2.2.1, .int .i64 x14.2.2.2.2.2.2.2.2.2.2.2.1, .int .i64 x14.2.2.2.2.2.2.2.2.2.2.2.2.1, .int .i64 x14.2.2.2.2.2.2.2.2.2.2.2.2.2.1, .int .i64 x14.2.2.2.2.2.2.2.2.2.2.2.2.2.2.1, .int .i64 x14.2.2.2.2.2.2.2.2.2.2.2.2.2.2.2.1] p15 0 w16 fun w17 =>
clS Try.prog F.flood_Flood_Entries [.pointer r8.1.1] w17 false [(false, [(.i .i64)])] fun r18 w19 =>
CutT (fun (J20 : Unit → World → Prop) =>
ld1 (.i .i64) p15 w19 fun x23 =>
CutT (fun (J24 : ((Bool) × Unit) → World → Prop) =>
brB (x23 == 0) (
J24 ((x23 == 0), ()) w19) (
brB (x23 == 1) (
J24 ((x23 == 1), ()) w19) (
J24 ((x23 == 2), ()) w19))) (fun (z25 : (Bool) × Unit) w26 => ∀ _ : Nat → Value,
brB z25.1 (
drK w26 fun w27 =>
ldN [(.i .i64), (.i .i64), (.i .i64), (.i .i64), (.i .u16), (.i .u16), (.i .i64), (.i .i64), (.i .i64), (.i .i64), (.i .i64), (.i .i64), (.i .i64), (.i .i64)] (p15.add 2) 0 w27 fun x28 =>
ld1 (.i .i64) (p15.add 1) w27 fun x29 =>
clS Try.prog F.law16_sync [.agg #[.int .i64 x28.1, .int .i64 x28.2.1, .int .i64 x28.2.2.1, .int .i64 x28.2.2.2.1, .int .u16 x28.2.2.2.2.1, .int .u16 x28.2.2.2.2.2.1, .int .i64 x28.2.2.2.2.2.2.1, .int .i64 x28.2.2.2.2.2.2.2.1, .int .i64 x28.2.2.2.2.2.2.2.2.1, .int .i64 x28.2.2.2.2.2.2.2.2.2.1, .int .i64 x28.2.2.2.2.2.2.2.2.2.2.1, .int .i64 x28.2.2.2.2.2.2.2.2.2.2.2.1, .int .i64 x28.2.2.2.2.2.2.2.2.2.2.2.2.1, .int .i64 x28.2.2.2.2.2.2.2.2.2.2.2.2.2.1]] w27 false [(true, [(.i .i64), (.i .i64), (.i .u16), (.i .u16), (.i .i64), (.i .i64)])] fun r30 w31 =>
Hold [(5, (p15.add 1), (w27.cell? (p15.add 1)).getD undef), (2, ((p15.add 2).add 0), (w27.cell? ((p15.add 2).add 0)).getD undef), (2, ((p15.add 2).add 1), (w27.cell? ((p15.add 2).add 1)).getD undef), (2, ((p15.add 2).add 2), (w27.cell? ((p15.add 2).add 2)).getD undef), (2, ((p15.add 2).add 3), (w27.cell? ((p15.add 2).add 3)).getD undef), (2, ((p15.add 2).add 4), (w27.cell? ((p15.add 2).add 4)).getD undef), (2, ((p15.add 2).add 5), (w27.cell? ((p15.add 2).add 5)).getD undef), (2, ((p15.add 2).add 6), (w27.cell? ((p15.add 2).add 6)).getD undef), (2, ((p15.add 2).add 7), (w27.cell? ((p15.add 2).add 7)).getD undef), (2, ((p15.add 2).add 8), (w27.cell? ((p15.add 2).add 8)).getD undef), (2, ((p15.add 2).add 9), (w27.cell? ((p15.add 2).add 9)).getD undef), (2, ((p15.add 2).add 10), (w27.cell? ((p15.add 2).add 10)).getD undef), (2, ((p15.add 2).add 11), (w27.cell? ((p15.add 2).add 11)).getD undef), (2, ((p15.add 2).add 12), (w27.cell? ((p15.add 2).add 12)).getD undef), (2, ((p15.add 2).add 13), (w27.cell? ((p15.add 2).add 13)).getD undef)] w31 ∧ (
clS Try.prog F.flood_Flood_Hear [.pointer r8.1.1, .agg #[.int .i64 r30.1.1, .int .i64 r30.1.2.1, .int .u16 r30.1.2.2.1, .int .u16 r30.1.2.2.2.1, .int .i64 r30.1.2.2.2.2.1, .int .i64 r30.1.2.2.2.2.2.1], .int .i64 x29] w31 false [(false, [(.i .i64)])] fun r32 w33 =>
Hold [(2, ((p15.add 2).add 0), (w27.cell? ((p15.add 2).add 0)).getD undef), (2, ((p15.add 2).add 1), (w27.cell? ((p15.add 2).add 1)).getD undef), (2, ((p15.add 2).add 2), (w27.cell? ((p15.add 2).add 2)).getD undef), (2, ((p15.add 2).add 3), (w27.cell? ((p15.add 2).add 3)).getD undef), (2, ((p15.add 2).add 4), (w27.cell? ((p15.add 2).add 4)).getD undef), (2, ((p15.add 2).add 5), (w27.cell? ((p15.add 2).add 5)).getD undef), (2, ((p15.add 2).add 6), (w27.cell? ((p15.add 2).add 6)).getD undef), (2, ((p15.add 2).add 7), (w27.cell? ((p15.add 2).add 7)).getD undef), (2, ((p15.add 2).add 8), (w27.cell? ((p15.add 2).add 8)).getD undef), (2, ((p15.add 2).add 9), (w27.cell? ((p15.add 2).add 9)).getD undef), (2, ((p15.add 2).add 10), (w27.cell? ((p15.add 2).add 10)).getD undef), (2, ((p15.add 2).add 11), (w27.cell? ((p15.add 2).add 11)).getD undef), (2, ((p15.add 2).add 12), (w27.cell? ((p15.add 2).add 12)).getD undef), (2, ((p15.add 2).add 13), (w27.cell? ((p15.add 2).add 13)).getD undef)] w33 ∧ (
clS Try.prog F.flood_Flood_Entries [.pointer r8.1.1] w33 false [(false, [(.i .i64)])] fun r34 w35 =>
brB (r32.1.1 == 0) (
brB (r34.1.1 != r18.1.1) (
R ((false, ()), ()) w35) (
brB (r32.1.1 == 2) (
brB (r34.1.1 != 1) (
R ((false, ()), ()) w35) (
brB (r32.1.1 == 1) (
brB (r34.1.1 != (if 8 < (IntKind.wrap .i64 (r18.1.1 + 1)) then 8 else (IntKind.wrap .i64 (r18.1.1 + 1)))) (
brB (r34.1.1 != 1) (
R ((false, ()), ()) w35) (
J20 (()) w35)) (
J20 (()) w35)) (
J20 (()) w35))) (
brB (r32.1.1 == 1) (
brB (r34.1.1 != (if 8 < (IntKind.wrap .i64 (r18.1.1 + 1)) then 8 else (IntKind.wrap .i64 (r18.1.1 + 1)))) (
brB (r34.1.1 != 1) (
R ((false, ()), ()) w35) (
J20 (()) w35)) (
J20 (()) w35)) (
J20 (()) w35)))) (
brB (r32.1.1 == 2) (
brB (r34.1.1 != 1) (
R ((false, ()), ()) w35) (
brB (r32.1.1 == 1) (
brB (r34.1.1 != (if 8 < (IntKind.wrap .i64 (r18.1.1 + 1)) then 8 else (IntKind.wrap .i64 (r18.1.1 + 1)))) (
brB (r34.1.1 != 1) (
R ((false, ()), ()) w35) (
J20 (()) w35)) (
J20 (()) w35)) (
J20 (()) w35))) (
brB (r32.1.1 == 1) (
brB (r34.1.1 != (if 8 < (IntKind.wrap .i64 (r18.1.1 + 1)) then 8 else (IntKind.wrap .i64 (r18.1.1 + 1)))) (
brB (r34.1.1 != 1) (
R ((false, ()), ()) w35) (
J20 (()) w35)) (
J20 (()) w35)) (
J20 (()) w35)))))) (
CutT (fun (J36 : ((Bool) × Unit) → World → Prop) =>
brB (x23 == 3) (
J36 ((x23 == 3), ()) w26) (
J36 ((x23 == 4), ()) w26)) (fun (z37 : (Bool) × Unit) w38 => ∀ _ : Nat → Value,
brB z37.1 (
ld1 (.i .i64) (p15.add 1) w38 fun x39 =>
clS Try.prog F.flood_Flood_Beat [.pointer r8.1.1, .int .i64 x39] w38 true [(true, [(.i .i64), (.i .i64), (.i .u16), (.i .u16), (.i .i64), (.i .i64)]), (false, [.b])] fun r40 w41 =>
J20 (()) w41) (
brB (x23 == 6) (
ld1 (.i .u16) ((p15.add 2).add 4) w38 fun x42 =>
clS Try.prog F.flood_Flood_Boot [.pointer r8.1.1, .int .u16 x42] w38 true [] fun r43 w44 =>
clS Try.prog F.flood_Flood_Entries [.pointer r8.1.1] w44 false [(false, [(.i .i64)])] fun r45 w46 =>
brB (r45.1.1 != 0) (
R ((false, ()), ()) w46) (
clS Try.prog F.flood_Flood_Synced [.pointer r8.1.1] w46 false [(false, [.b])] fun r47 w48 =>
brB r47.1.1 (
R ((false, ()), ()) w48) (
J20 (()) w48))) (
J20 (()) w38)))))) (fun (z21 : Unit) w22 => ∀ _ : Nat → Value,
clS Try.prog F.flood_Flood_Time [.pointer r8.1.1, .int .i64 0] w22 true [(false, [(.i .i64)]), (false, [(.i .i64)]), (false, [(.i .i64)])] fun r49 w50 =>
drK w50 fun w51 =>
ncK r8.1.1 fun a52 =>
ld1 .p a52 w51 fun x53 =>
clS Try.prog F.flood_Flood_Synced [.pointer r8.1.1] w51 false [(false, [.b])] fun r54 w55 =>
Hold [(5, a52, (w51.cell? a52).getD undef)] w55 ∧ (
clS Try.prog F.elect_Elect_Mine [.pointer x53] w55 false [(false, [.b])] fun r56 w57 =>
Hold [(5, a52, (w51.cell? a52).getD undef)] w57 ∧ (
brB r56.1.1 (
brB (!(r54.1.1 == true)) (
R ((false, ()), ()) w57) (
clS Try.prog F.flood_Flood_Synced [.pointer r8.1.1] w57 false [(false, [.b])] fun r58 w59 =>
Hold [(5, a52, (w51.cell? a52).getD undef)] w59 ∧ (
brB ((r49.2.2.1.1 == 9) == r58.1.1) (
R ((false, ()), ()) w59) (
ncK r8.1.1 fun a60 =>
ld1 .p a60 w59 fun x61 =>
clS Try.prog F.elect_Elect_Mine [.pointer x61] w59 false [(false, [.b])] fun r62 w63 =>
Hold [(26, a60, (w59.cell? a60).getD undef), (5, a52, (w51.cell? a52).getD undef)] w63 ∧ (
brB r62.1.1 (
clS Try.prog F.flood_Flood_Entries [.pointer r8.1.1] w63 false [(false, [(.i .i64)])] fun r64 w65 =>
Hold [(26, a60, (w59.cell? a60).getD undef), (5, a52, (w51.cell? a52).getD undef)] w65 ∧ (
brB (r64.1.1 != 0) (
R ((false, ()), ()) w65) (
self10 (IntKind.wrap .i64 (z11.1 + 1), ()) w65))) (
self10 (IntKind.wrap .i64 (z11.1 + 1), ()) w63)))))) (
ld1 (.i .i64) (p1.add 2) w57 fun x66 =>
clS Try.prog F.flood_Flood_Entries [.pointer r8.1.1] w57 false [(false, [(.i .i64)])] fun r67 w68 =>
Hold [(11, (p1.add 2), (w57.cell? (p1.add 2)).getD undef), (5, a52, (w51.cell? a52).getD undef)] w68 ∧ (
brB (!(r54.1.1 == (decide (r67.1.1 ≥ x66)))) (
R ((false, ()), ()) w68) (
clS Try.prog F.flood_Flood_Synced [.pointer r8.1.1] w68 false [(false, [.b])] fun r69 w70 =>
Hold [(11, (p1.add 2), (w57.cell? (p1.add 2)).getD undef), (5, a52, (w51.cell? a52).getD undef)] w70 ∧ (
brB ((r49.2.2.1.1 == 9) == r69.1.1) (
R ((false, ()), ()) w70) (
ncK r8.1.1 fun a71 =>
ld1 .p a71 w70 fun x72 =>
clS Try.prog F.elect_Elect_Mine [.pointer x72] w70 false [(false, [.b])] fun r73 w74 =>
Hold [(26, a71, (w70.cell? a71).getD undef), (11, (p1.add 2), (w57.cell? (p1.add 2)).getD undef), (5, a52, (w51.cell? a52).getD undef)] w74 ∧ (
brB r73.1.1 (
clS Try.prog F.flood_Flood_Entries [.pointer r8.1.1] w74 false [(false, [(.i .i64)])] fun r75 w76 =>
Hold [(26, a71, (w70.cell? a71).getD undef), (11, (p1.add 2), (w57.cell? (p1.add 2)).getD undef), (5, a52, (w51.cell? a52).getD undef)] w76 ∧ (
brB (r75.1.1 != 0) (
R ((false, ()), ()) w76) (
self10 (IntKind.wrap .i64 (z11.1 + 1), ()) w76))) (
self10 (IntKind.wrap .i64 (z11.1 + 1), ()) w74))))))))))) (
R ((true, ()), ()) w12)) (0, ()) w9)))
set_option maxRecDepth 100000 in
theorem law16_FloodKnows.eq (me : Int) (r0 : Int) (r1 : Int) (r2 : Int) (r3 : Int) (script : Option Addr × Nat × Nat) (w : World) (R : Value → World → Prop) : wpF Try.prog Try.f9 (.s .n (.s .n (.s .n (.s .n (.s .n (.s (.s .n (.lp [(35, (.i .i64))] (.s .n (.s .n (.s (.s .n (.s .n (.ct [] (.s .n (.ct [(43, .b)] .n (.s (.s (.pl (.tk 0 (.tk 1 (.tk 2 (.tk 4 (.tk 5 (.ef 3 [] (.ef 6 [5] (.tk 7 .z))))))))) .n) (.ct [(86, .b)] .n .n)))) (.s .n (.s (.pl (.tk 0 (.tk 2 (.tk 3 (.tk 4 (.tk 5 (.ef 1 [] (.ef 6 [] (.tk 7 (.tk 8 (.tk 10 (.tk 11 (.ef 9 [] (.tk 12 (.tk 13 (.tk 14 (.tk 15 (.tk 16 (.tk 17 (.tk 18 (.ef 19 [] (.tk 20 (.tk 21 (.tk 22 (.tk 23 (.tk 24 (.tk 25 (.tk 26 (.ef 27 [] (.tk 28 (.tk 29 (.ef 30 [] (.tk 31 (.tk 32 (.tk 33 .z))))))))))))))))))))))))))))))))))) .n))))) .n))))) .n)))))) [.int .i64 me, .agg #[.int .i64 r0, .int .i64 r1, .int .i64 r2, .int .i64 r3], .slice script.1 script.2.1 script.2.2] w R = law16_FloodKnows.wp me r0 r1 r2 r3 script w (fun r w => R (encR false [(false, [.b])] r) w) := by kernel_rfl
theorem law16_FloodKnows.ok {me : Int} {r0 : Int} {r1 : Int} {r2 : Int} {r3 : Int} {script : Option Addr × Nat × Nat} {w : World} {R : TR [(false, [.b])] → World → Prop} (h : law16_FloodKnows.wp me r0 r1 r2 r3 script w R) : clS Try.prog F.law16_FloodKnows [.int .i64 me, .agg #[.int .i64 r0, .int .i64 r1, .int .i64 r2, .int .i64 r3], .slice script.1 script.2.1 script.2.2] w false [(false, [.b])] R :=
  ok_of Try_follows Try.func9 (fun R => law16_FloodKnows.wp me r0 r1 r2 r3 script w R) (law16_FloodKnows.eq me r0 r1 r2 r3 script w) rfl h
/-! ### law19_SourcePrefers -/
set_option maxRecDepth 100000 in
def law19_SourcePrefers.wp (me : Int) (r0 : Int) (r1 : Int) (r2 : Int) (r3 : Int) (limit : Int) (script : Option Addr × Nat × Nat) (w : World) (R : TR [(false, [.b])] → World → Prop) : Prop :=
alK [.int .i64 r0, .int .i64 r1, .int .i64 r2, .int .i64 r3] T.law19_Rule w fun p1 w2 =>
clS Try.prog F.law19_alive [] w2 false [(false, [.b])] fun r3 w4 =>
brB (!r3.1.1) (
R ((false, ()), ()) w4) (
brB (decide ((script.2.1 : Int) > 200)) (
R ((true, ()), ()) w4) (
clS Try.prog F.source_New [.int .i64 limit] w4 true [(false, [.p]), (false, [(.i .i64)])] fun r5 w6 =>
clS Try.prog F.source_New [.int .i64 limit] w6 true [(false, [.p]), (false, [(.i .i64)])] fun r7 w8 =>
ldN [(.i .i64), (.i .i64), (.i .i64), (.i .i64)] p1 0 w8 fun x9 =>
clS Try.prog F.law19_rules [.agg #[.int .i64 x9.1, .int .i64 x9.2.1, .int .i64 x9.2.2.1, .int .i64 x9.2.2.2.1]] w8 false [(true, [(.i .i64), (.i .i64), (.i .i64), (.i .i64)])] fun r10 w11 =>
clS Try.prog F.flood_New [.int .i64 me, .agg #[.int .i64 r10.1.1, .int .i64 r10.1.2.1, .int .i64 r10.1.2.2.1, .int .i64 r10.1.2.2.2.1]] w11 true [(false, [.p]), (false, [(.i .i64)])] fun r12 w13 =>
brB (r5.2.1.1 != 0) (
R ((true, ()), ()) w13) (
brB (r12.2.1.1 != 0) (
R ((true, ()), ()) w13) (
LoopT (fun (self14 : ((Int) × Unit) → World → Prop) (z15 : (Int) × Unit) w16 => ∀ _ : Nat → Value,
brB (decide (z15.1 < (script.2.1 : Int))) (
ixK script.1 script.2.1 z15.1 fun a17 =>
ldN [(.i .i64), (.i .i64), (.i .i64), (.i .i64), (.i .i64), (.i .i64), (.i .u16), (.i .u16), (.i .i64), (.i .i64), (.i .i64), (.i .i64), (.i .i64), (.i .i64), (.i .i64), (.i .i64), (.i .i64), (.i .i64), (.i .i64)] (a17.add (z15.1.toNat * 19)) 0 w16 fun x18 =>
alK [.int .i64 0, .int .i64 0, .int .i64 0, .int .i64 0, .int .i64 0, .int .i64 0, .int .u16 0, .int .u16 0, .int .i64 0, .int .i64 0, .int .i64 0, .int .i64 0, .int .i64 0, .int .i64 0, .int .i64 0, .int .i64 0, .int .i64 0, .int .i64 0, .int .i64 0] T.law19_Call w16 fun p19 w20 =>
stN [.int .i64 x18.1, .int .i64 x18.2.1, .int .i64 x18.2.2.1, .int .i64 x18.2.2.2.1, .int .i64 x18.2.2.2.2.1, .int .i64 x18.2.2.2.2.2.1, .int .u16 x18.2.2.2.2.2.2.1, .int .u16 x18.2.2.2.2.2.2.2.1, .int .i64 x18.2.2.2.2.2.2.2.2.1, .int .i64 x18.2.2.2.2.2.2.2.2.2.1, .int .i64 x18.2.2.2.2.2.2.2.2.2.2.1, .int .i64 x18.2.2.2.2.2.2.2.2.2.2.2.1, .int .i64 x18.2.2.2.2.2.2.2.2.2.2.2.2.1, .int .i64 x18.2.2.2.2.2.2.2.2.2.2.2.2.2.1, .int .i64 x18.2.2.2.2.2.2.2.2.2.2.2.2.2.2.1, .int .i64 x18.2.2.2.2.2.2.2.2.2.2.2.2.2.2.2.1, .int .i64 x18.2.2.2.2.2.2.2.2.2.2.2.2.2.2.2.2.1, .int .i64 x18.2.2.2.2.2.2.2.2.2.2.2.2.2.2.2.2.2.1, .int .i64 x18.2.2.2.2.2.2.2.2.2.2.2.2.2.2.2.2.2.2.1] p19 0 w20 fun w21 =>
CutT (fun (J22 : Unit → World → Prop) =>
ld1 (.i .i64) p19 w21 fun x25 =>
CutT (fun (J26 : ((Bool) × Unit) → World → Prop) =>
brB (x25 == 0) (
J26 ((x25 == 0), ()) w21) (
J26 ((x25 == 1), ()) w21)) (fun (z27 : (Bool) × Unit) w28 => ∀ _ : Nat → Value,
brB z27.1 (
ldN [(.i .i64), (.i .i64), (.i .i64), (.i .i64), (.i .u16), (.i .u16), (.i .i64), (.i .i64), (.i .i64), (.i .i64), (.i .i64), (.i .i64), (.i .i64), (.i .i64)] (p19.add 2) 0 w28 fun x29 =>
alK [.int .i64 0, .int .i64 0, .int .i64 0, .int .i64 0, .int .u16 0, .int .u16 0, .int .i64 0, .int .i64 0, .int .i64 0, .int .i64 0, .int .i64 0, .int .i64 0, .int .i64 0, .int .i64 0] T.ref05_Plain w28 fun p30 w31 =>
stN [.int .i64 x29.1, .int .i64 x29.2.1, .int .i64 x29.2.2.1, .int .i64 x29.2.2.2.1, .int .u16 x29.2.2.2.2.1, .int .u16 x29.2.2.2.2.2.1, .int .i64 x29.2.2.2.2.2.2.1, .int .i64 x29.2.2.2.2.2.2.2.1, .int .i64 x29.2.2.2.2.2.2.2.2.1, .int .i64 x29.2.2.2.2.2.2.2.2.2.1, .int .i64 x29.2.2.2.2.2.2.2.2.2.2.1, .int .i64 x29.2.2.2.2.2.2.2.2.2.2.2.1, .int .i64 x29.2.2.2.2.2.2.2.2.2.2.2.2.1, .int .i64 x29.2.2.2.2.2.2.2.2.2.2.2.2.2.1] p30 0 w31 fun w32 =>
ld1 (.i .i64) (p30.add 1) w32 fun x33 =>
ld1 (.i .i64) (p30.add 3) w32 fun x34 =>
ld1 (.i .u16) (p30.add 4) w32 fun x35 =>
ld1 (.i .u16) (p30.add 5) w32 fun x36 =>
ld1 (.i .i64) (p30.add 6) w32 fun x37 =>
ld1 (.i .i64) (p30.add 7) w32 fun x38 =>
ld1 (.i .i64) (p19.add 1) w32 fun x39 =>
clS Try.prog F.flood_Flood_Hear [.pointer r12.1.1, .agg #[.int .i64 x33, .int .i64 x34, .int .u16 x35, .int .u16 x36, .int .i64 x37, .int .i64 x38], .int .i64 x39] w32 false [(false, [(.i .i64)])] fun r40 w41 =>
J22 (()) w41) (
brB (x25 == 2) (
ld1 (.i .i64) (p19.add 1) w28 fun x42 =>
clS Try.prog F.flood_Flood_Beat [.pointer r12.1.1, .int .i64 x42] w28 true [(true, [(.i .i64), (.i .i64), (.i .u16), (.i .u16), (.i .i64), (.i .i64)]), (false, [.b])] fun r43 w44 =>
clS Try.prog F.source_Source_Beat [.pointer r5.1.1] w44 true [] fun r45 w46 =>
J22 (()) w46) (
brB (x25 == 3) (
ldN [(.i .i64), (.i .i64), (.i .i64)] (p19.add 16) 0 w28 fun x47 =>
ld1 (.i .i64) ((p19.add 2).add 3) w28 fun x48 =>
ld1 (.i .u16) ((p19.add 2).add 4) w28 fun x49 =>
clS Try.prog F.source_Source_Put [.pointer r5.1.1, .agg #[.int .i64 x47.1, .int .i64 x47.2.1, .int .i64 x47.2.2.1], .agg #[.int .i64 x48, .int .u16 x49]] w28 false [(false, [(.i .i64)])] fun r50 w51 =>
J22 (()) w51) (
J22 (()) w28))))) (fun (z23 : Unit) w24 => ∀ _ : Nat → Value,
ld1 (.i .i64) (p19.add 1) w24 fun x52 =>
clS Try.prog F.source_Source_Time [.pointer r5.1.1, .pointer r12.1.1, .int .i64 x52] w24 true [(true, [(.i .i64), (.i .i64), (.i .i64), (.i .u16), (.i .i64)]), (false, [(.i .i64)])] fun r53 w54 =>
alK [.int .i64 0, .int .i64 0, .int .i64 0, .int .u16 0, .int .i64 0] T.source_Answer w54 fun p55 w56 =>
stN [.int .i64 r53.1.1, .int .i64 r53.1.2.1, .int .i64 r53.1.2.2.1, .int .u16 r53.1.2.2.2.1, .int .i64 r53.1.2.2.2.2.1] p55 0 w56 fun w57 =>
ld1 (.i .i64) (p19.add 1) w57 fun x58 =>
clS Try.prog F.source_Source_Time [.pointer r7.1.1, .pointer r12.1.1, .int .i64 x58] w57 true [(true, [(.i .i64), (.i .i64), (.i .i64), (.i .u16), (.i .i64)]), (false, [(.i .i64)])] fun r59 w60 =>
alK [.int .i64 0, .int .i64 0, .int .i64 0, .int .u16 0, .int .i64 0] T.source_Answer w60 fun p61 w62 =>
stN [.int .i64 r59.1.1, .int .i64 r59.1.2.1, .int .i64 r59.1.2.2.1, .int .u16 r59.1.2.2.2.1, .int .i64 r59.1.2.2.2.2.1] p61 0 w62 fun w63 =>
CutT (fun (J64 : Unit → World → Prop) =>
drK w63 fun w67 =>
clS Try.prog F.flood_Flood_Synced [.pointer r12.1.1] w67 false [(false, [.b])] fun r68 w69 =>
Hold [] w69 ∧ (
brB r68.1.1 (
ldN [(.i .i64), (.i .i64), (.i .i64), (.i .u16), (.i .i64)] p55 0 w69 fun x70 =>
ldN [(.i .i64), (.i .i64), (.i .i64), (.i .u16), (.i .i64)] p61 0 w69 fun x71 =>
brB (!((x70.1 == x71.1) && ((x70.2.1 == x71.2.1) && (((x70.2.2.1 == x71.2.2.1) && ((x70.2.2.2.1 == x71.2.2.2.1) && true)) && ((x70.2.2.2.2.1 == x71.2.2.2.2.1) && true))))) (
R ((false, ()), ()) w69) (
brB (r53.2.1.1 != r59.2.1.1) (
R ((false, ()), ()) w69) (
brB (r53.2.1.1 == 0) (
ld1 (.i .i64) (p55.add 2) w69 fun x72 =>
ncK r12.1.1 fun a73 =>
ld1 .p a73 w69 fun x74 =>
clS Try.prog F.elect_Elect_Root [.pointer x74] w69 false [(false, [(.i .i64)])] fun r75 w76 =>
Hold [(21, a73, (w69.cell? a73).getD undef), (17, (p55.add 2), (w69.cell? (p55.add 2)).getD undef), (4, (p61.add 0), (w69.cell? (p61.add 0)).getD undef), (4, (p61.add 1), (w69.cell? (p61.add 1)).getD undef), (4, (p61.add 2), (w69.cell? (p61.add 2)).getD undef), (4, (p61.add 3), (w69.cell? (p61.add 3)).getD undef), (4, (p61.add 4), (w69.cell? (p61.add 4)).getD undef), (3, (p55.add 0), (w69.cell? (p55.add 0)).getD undef), (3, (p55.add 1), (w69.cell? (p55.add 1)).getD undef), (3, (p55.add 2), (w69.cell? (p55.add 2)).getD undef), (3, (p55.add 3), (w69.cell? (p55.add 3)).getD undef), (3, (p55.add 4), (w69.cell? (p55.add 4)).getD undef)] w76 ∧ (
brB (x72 != r75.1.1) (
R ((false, ()), ()) w76) (
ld1 (.i .i64) (p55.add 4) w76 fun x77 =>
ncK r12.1.1 fun a78 =>
ld1 .p a78 w76 fun x79 =>
clS Try.prog F.elect_Elect_Mine [.pointer x79] w76 false [(false, [.b])] fun r80 w81 =>
Hold [(26, (p55.add 4), (w76.cell? (p55.add 4)).getD undef), (21, a73, (w69.cell? a73).getD undef), (17, (p55.add 2), (w69.cell? (p55.add 2)).getD undef), (4, (p61.add 0), (w69.cell? (p61.add 0)).getD undef), (4, (p61.add 1), (w69.cell? (p61.add 1)).getD undef), (4, (p61.add 2), (w69.cell? (p61.add 2)).getD undef), (4, (p61.add 3), (w69.cell? (p61.add 3)).getD undef), (4, (p61.add 4), (w69.cell? (p61.add 4)).getD undef), (3, (p55.add 0), (w69.cell? (p55.add 0)).getD undef), (3, (p55.add 1), (w69.cell? (p55.add 1)).getD undef), (3, (p55.add 2), (w69.cell? (p55.add 2)).getD undef), (3, (p55.add 3), (w69.cell? (p55.add 3)).getD undef), (3, (p55.add 4), (w69.cell? (p55.add 4)).getD undef)] w81 ∧ (
brB (!((x77 == 1) == r80.1.1)) (
R ((false, ()), ()) w81) (
J64 (()) w81))))) (
J64 (()) w69)))) (
J64 (()) w69))) (fun (z65 : Unit) w66 => ∀ _ : Nat → Value,
clS Try.prog F.flood_Flood_Synced [.pointer r12.1.1] w66 false [(false, [.b])] fun r82 w83 =>
brB (!r82.1.1) (
brB (r59.2.1.1 != 9) (
R ((false, ()), ()) w83) (
brB (r53.2.1.1 == 0) (
ld1 (.i .i64) (p55.add 4) w83 fun x84 =>
brB (x84 != 3) (
R ((false, ()), ()) w83) (
clS Try.prog F.source_Source_Fresh [.pointer r5.1.1] w83 false [(false, [.b])] fun r85 w86 =>
brB ((r53.2.1.1 == 9) == r85.1.1) (
R ((false, ()), ()) w86) (
self14 (IntKind.wrap .i64 (z15.1 + 1), ()) w86))) (
clS Try.prog F.source_Source_Fresh [.pointer r5.1.1] w83 false [(false, [.b])] fun r87 w88 =>
brB ((r53.2.1.1 == 9) == r87.1.1) (
R ((false, ()), ()) w88) (
self14 (IntKind.wrap .i64 (z15.1 + 1), ()) w88)))) (
self14 (IntKind.wrap .i64 (z15.1 + 1), ()) w83)))) (
R ((true, ()), ()) w16)) (0, ()) w13))))
set_option maxRecDepth 100000 in
theorem law19_SourcePrefers.eq (me : Int) (r0 : Int) (r1 : Int) (r2 : Int) (r3 : Int) (limit : Int) (script : Option Addr × Nat × Nat) (w : World) (R : Value → World → Prop) : wpF Try.prog Try.f10 (.s .n (.s .n (.s .n (.s .n (.s .n (.s .n (.s .n (.s (.s .n (.lp [(52, (.i .i64))] (.s .n (.s .n (.s (.s .n (.ct [] (.s .n (.ct [(58, .b)] .n .n)) (.s .n (.s .n (.ct [] (.s (.pl (.tk 0 (.ef 1 [] (.tk 2 (.tk 3 (.tk 4 (.tk 5 (.tk 6 (.tk 7 (.tk 8 (.tk 9 (.tk 10 (.tk 11 (.tk 12 (.tk 13 (.tk 14 (.tk 15 (.tk 16 (.tk 17 (.tk 18 (.tk 19 (.tk 20 (.tk 21 (.ef 22 [] (.tk 23 (.tk 24 (.tk 25 (.tk 26 (.tk 27 (.tk 28 (.tk 29 (.tk 30 (.tk 31 (.ef 32 [31] (.tk 33 (.tk 34 (.tk 35 (.tk 36 (.tk 37 .z))))))))))))))))))))))))))))))))))))))) .n) .n))))) .n))))) .n)))))))) [.int .i64 me, .agg #[.int .i64 r0, .int .i64 r1, .int .i64 r2, .int .i64 r3], .int .i64 limit, .slice script.1 script.2.1 script.2.2] w R = law19_SourcePrefers.wp me r0 r1 r2 r3 limit script w (fun r w => R (encR false [(false, [.b])] r) w) := by kernel_rfl
theorem law19_SourcePrefers.ok {me : Int} {r0 : Int} {r1 : Int} {r2 : Int} {r3 : Int} {limit : Int} {script : Option Addr × Nat × Nat} {w : World} {R : TR [(false, [.b])] → World → Prop} (h : law19_SourcePrefers.wp me r0 r1 r2 r3 limit script w R) : clS Try.prog F.law19_SourcePrefers [.int .i64 me, .agg #[.int .i64 r0, .int .i64 r1, .int .i64 r2, .int .i64 r3], .int .i64 limit, .slice script.1 script.2.1 script.2.2] w false [(false, [.b])] R :=
  ok_of Try_follows Try.func10 (fun R => law19_SourcePrefers.wp me r0 r1 r2 r3 limit script w R) (law19_SourcePrefers.eq me r0 r1 r2 r3 limit script w) rfl h
/-! ### law23_alive -/
set_option maxRecDepth 100000 in
def law23_alive.wp  (w : World) (R : TR [(false, [.b])] → World → Prop) : Prop :=
alK [.bool false, .int .i64 0, .int .u16 0, .int .i64 0, .int .u16 0, .int .i64 0, .int .i64 0] T.anchor_Book w fun p1 w2 =>
clS Try.prog F.anchor_Book_Make [.pointer (some p1), .int .i64 3, .agg #[.int .i64 5000, .int .i64 0, .int .i64 0, .int .u16 0, .int .i64 0], .int .i64 100] w2 true [(true, [(.i .i64), (.i .u16), (.i .i64), (.i .u16), (.i .i64), (.i .i64)]), (false, [(.i .i64)])] fun r3 w4 =>
alK [.int .i64 0, .int .u16 0, .int .i64 0, .int .u16 0, .int .i64 0, .int .i64 0] T.frame_Anchor w4 fun p5 w6 =>
stN [.int .i64 r3.1.1, .int .u16 r3.1.2.1, .int .i64 r3.1.2.2.1, .int .u16 r3.1.2.2.2.1, .int .i64 r3.1.2.2.2.2.1, .int .i64 r3.1.2.2.2.2.2.1] p5 0 w6 fun w7 =>
clS Try.prog F.anchor_Book_Tai [.pointer (some p1), .agg #[.int .i64 0, .int .u16 0], .int .i64 7250] w7 true [(true, [(.i .i64), (.i .i64)]), (false, [(.i .i64)])] fun r8 w9 =>
alK [.int .i64 0, .int .i64 0] T.anchor_Moment w9 fun p10 w11 =>
stN [.int .i64 r8.1.1, .int .i64 r8.1.2.1] p10 0 w11 fun w12 =>
clS Try.prog F.anchor_Book_Tai [.pointer (some p1), .agg #[.int .i64 0, .int .u16 0], .int .i64 4999] w12 true [(true, [(.i .i64), (.i .i64)]), (false, [(.i .i64)])] fun r13 w14 =>
alK [.int .i64 0, .int .i64 0] T.anchor_Moment w14 fun p15 w16 =>
stN [.int .i64 r13.1.1, .int .i64 r13.1.2.1] p15 0 w16 fun w17 =>
brB (r3.2.1.1 == 0) (
ld1 (.i .u16) (p5.add 1) w17 fun x18 =>
brB (x18 == 1) (
ld1 (.i .i64) p5 w17 fun x19 =>
brB (x19 == 3) (
brB (r8.2.1.1 == 0) (
ldN [(.i .i64), (.i .i64)] p10 0 w17 fun x20 =>
brB ((x20.1 == 102) && ((x20.2.1 == 250) && true)) (
brB (r13.2.1.1 == 0) (
ldN [(.i .i64), (.i .i64)] p15 0 w17 fun x21 =>
R ((((x21.1 == 99) && ((x21.2.1 == 999) && true)), ()), ()) w17) (
R ((false, ()), ()) w17)) (
R ((false, ()), ()) w17)) (
R ((false, ()), ()) w17)) (
R ((false, ()), ()) w17)) (
R ((false, ()), ()) w17)) (
R ((false, ()), ()) w17)
set_option maxRecDepth 100000 in
theorem law23_alive.eq  (w : World) (R : Value → World → Prop) : wpF Try.prog Try.f11 .n [] w R = law23_alive.wp  w (fun r w => R (encR false [(false, [.b])] r) w) := by kernel_rfl
theorem law23_alive.ok  {w : World} {R : TR [(false, [.b])] → World → Prop} (h : law23_alive.wp  w R) : clS Try.prog F.law23_alive [] w false [(false, [.b])] R :=
  ok_of Try_follows Try.func11 (fun R => law23_alive.wp  w R) (law23_alive.eq  w) rfl h
/-! ### ref05_Good -/
set_option maxRecDepth 100000 in
def ref05_Good.wp (p0 : Int) (p1 : Int) (p2 : Int) (p3 : Int) (p4 : Int) (p5 : Int) (p6 : Int) (p7 : Int) (p8 : Int) (p9 : Int) (p10 : Int) (p11 : Int) (p12 : Int) (p13 : Int) (w : World) (R : TR [(false, [.b])] → World → Prop) : Prop :=
alK [.int .i64 p0, .int .i64 p1, .int .i64 p2, .int .i64 p3, .int .u16 p4, .int .u16 p5, .int .i64 p6, .int .i64 p7, .int .i64 p8, .int .i64 p9, .int .i64 p10, .int .i64 p11, .int .i64 p12, .int .i64 p13] T.ref05_Plain w fun p1 w2 =>
ldN [(.i .i64), (.i .i64), (.i .i64), (.i .i64), (.i .u16), (.i .u16), (.i .i64), (.i .i64), (.i .i64), (.i .i64), (.i .i64), (.i .i64), (.i .i64), (.i .i64)] p1 0 w2 fun x3 =>
clS Try.prog F.ref05_Fields [.agg #[.int .i64 x3.1, .int .i64 x3.2.1, .int .i64 x3.2.2.1, .int .i64 x3.2.2.2.1, .int .u16 x3.2.2.2.2.1, .int .u16 x3.2.2.2.2.2.1, .int .i64 x3.2.2.2.2.2.2.1, .int .i64 x3.2.2.2.2.2.2.2.1, .int .i64 x3.2.2.2.2.2.2.2.2.1, .int .i64 x3.2.2.2.2.2.2.2.2.2.1, .int .i64 x3.2.2.2.2.2.2.2.2.2.2.1, .int .i64 x3.2.2.2.2.2.2.2.2.2.2.2.1, .int .i64 x3.2.2.2.2.2.2.2.2.2.2.2.2.1, .int .i64 x3.2.2.2.2.2.2.2.2.2.2.2.2.2.1]] w2 false [(false, [.sl])] fun r4 w5 =>
LoopT (fun (self6 : ((Int) × Unit) → World → Prop) (z7 : (Int) × Unit) w8 => ∀ _ : Nat → Value,
brB (decide (z7.1 < (r4.1.1.2.1 : Int))) (
ixK r4.1.1.1 r4.1.1.2.1 z7.1 fun a9 =>
ldN [(.i .i64), (.i .i64), (.i .i64)] (a9.add (z7.1.toNat * 3)) 0 w8 fun x10 =>
alK [.int .i64 0, .int .i64 0, .int .i64 0] T.ref05_Field w8 fun p11 w12 =>
stN [.int .i64 x10.1, .int .i64 x10.2.1, .int .i64 x10.2.2.1] p11 0 w12 fun w13 =>
ld1 (.i .i64) (p11.add 1) w13 fun x14 =>
brB (decide (x14 < 0)) (
R ((false, ()), ()) w13) (
ld1 (.i .i64) (p11.add 1) w13 fun x15 =>
ld1 (.i .i64) (p11.add 2) w13 fun x16 =>
brB (decide (x15 > x16)) (
R ((false, ()), ()) w13) (
self6 (IntKind.wrap .i64 (z7.1 + 1), ()) w13))) (
R ((decide ((r4.1.1.2.1 : Int) > 0), ()), ()) w8)) (0, ()) w5
set_option maxRecDepth 100000 in
theorem ref05_Good.eq (p0 : Int) (p1 : Int) (p2 : Int) (p3 : Int) (p4 : Int) (p5 : Int) (p6 : Int) (p7 : Int) (p8 : Int) (p9 : Int) (p10 : Int) (p11 : Int) (p12 : Int) (p13 : Int) (w : World) (R : Value → World → Prop) : wpF Try.prog Try.f12 (.s .n (.s .n (.s (.s .n (.lp [(10, (.i .i64))] .n)) .n))) [.agg #[.int .i64 p0, .int .i64 p1, .int .i64 p2, .int .i64 p3, .int .u16 p4, .int .u16 p5, .int .i64 p6, .int .i64 p7, .int .i64 p8, .int .i64 p9, .int .i64 p10, .int .i64 p11, .int .i64 p12, .int .i64 p13]] w R = ref05_Good.wp p0 p1 p2 p3 p4 p5 p6 p7 p8 p9 p10 p11 p12 p13 w (fun r w => R (encR false [(false, [.b])] r) w) := by kernel_rfl
theorem ref05_Good.ok {p0 : Int} {p1 : Int} {p2 : Int} {p3 : Int} {p4 : Int} {p5 : Int} {p6 : Int} {p7 : Int} {p8 : Int} {p9 : Int} {p10 : Int} {p11 : Int} {p12 : Int} {p13 : Int} {w : World} {R : TR [(false, [.b])] → World → Prop} (h : ref05_Good.wp p0 p1 p2 p3 p4 p5 p6 p7 p8 p9 p10 p11 p12 p13 w R) : clS Try.prog F.ref05_Good [.agg #[.int .i64 p0, .int .i64 p1, .int .i64 p2, .int .i64 p3, .int .u16 p4, .int .u16 p5, .int .i64 p6, .int .i64 p7, .int .i64 p8, .int .i64 p9, .int .i64 p10, .int .i64 p11, .int .i64 p12, .int .i64 p13]] w false [(false, [.b])] R :=
  ok_of Try_follows Try.func12 (fun R => ref05_Good.wp p0 p1 p2 p3 p4 p5 p6 p7 p8 p9 p10 p11 p12 p13 w R) (ref05_Good.eq p0 p1 p2 p3 p4 p5 p6 p7 p8 p9 p10 p11 p12 p13 w) rfl h
/-! ### anchor_Book_Hear -/
set_option maxRecDepth 100000 in
def anchor_Book_Hear.wp (b : Option Addr) (a0 : Int) (a1 : Int) (a2 : Int) (a3 : Int) (a4 : Int) (a5 : Int) (w : World) (R : TR [(false, [.b])] → World → Prop) : Prop :=
alK [.int .i64 a0, .int .u16 a1, .int .i64 a2, .int .u16 a3, .int .i64 a4, .int .i64 a5] T.frame_Anchor w fun p1 w2 =>
CutT (fun (J3 : Unit → World → Prop) =>
drK w2 fun w6 =>
brB (Option.isNone b) (
R ((false, ()), ()) w6) (
ldN [(.i .i64), (.i .u16), (.i .i64), (.i .u16), (.i .i64), (.i .i64)] p1 0 w6 fun x7 =>
clS Try.prog F.frame_Good [.iface T.frame_Anchor (.agg #[.int .i64 x7.1, .int .u16 x7.2.1, .int .i64 x7.2.2.1, .int .u16 x7.2.2.2.1, .int .i64 x7.2.2.2.2.1, .int .i64 x7.2.2.2.2.2.1])] w6 false [(false, [.b])] fun r8 w9 =>
Hold [(3, (p1.add 0), (w6.cell? (p1.add 0)).getD undef), (3, (p1.add 1), (w6.cell? (p1.add 1)).getD undef), (3, (p1.add 2), (w6.cell? (p1.add 2)).getD undef), (3, (p1.add 3), (w6.cell? (p1.add 3)).getD undef), (3, (p1.add 4), (w6.cell? (p1.add 4)).getD undef), (3, (p1.add 5), (w6.cell? (p1.add 5)).getD undef)] w9 ∧ (
brB (!r8.1.1) (
R ((false, ()), ()) w9) (
ncK b fun a10 =>
ld1 .b a10 w9 fun x11 =>
brB x11 (
ld1 (.i .u16) (p1.add 1) w9 fun x12 =>
ncK b fun a13 =>
ld1 (.i .u16) ((a13.add 1).add 1) w9 fun x14 =>
clS Try.prog F.wrap_Newer [.int .u16 x12, .int .u16 x14] w9 false [(false, [.b])] fun r15 w16 =>
Hold [(12, a10, (w9.cell? a10).getD undef), (3, (p1.add 0), (w6.cell? (p1.add 0)).getD undef), (3, (p1.add 1), (w6.cell? (p1.add 1)).getD undef), (3, (p1.add 2), (w6.cell? (p1.add 2)).getD undef), (3, (p1.add 3), (w6.cell? (p1.add 3)).getD undef), (3, (p1.add 4), (w6.cell? (p1.add 4)).getD undef), (3, (p1.add 5), (w6.cell? (p1.add 5)).getD undef)] w16 ∧ (
brB (!r15.1.1) (
R ((false, ()), ()) w16) (
J3 (()) w16))) (
J3 (()) w9))))) (fun (z4 : Unit) w5 => ∀ _ : Nat → Value,
drK w5 fun w17 =>
ldN [(.i .i64), (.i .u16), (.i .i64), (.i .u16), (.i .i64), (.i .i64)] p1 0 w17 fun x18 =>
ncK b fun a19 =>
stN [.bool true] a19 0 w17 fun w20 =>
Hold [(2, (p1.add 0), (w17.cell? (p1.add 0)).getD undef), (2, (p1.add 1), (w17.cell? (p1.add 1)).getD undef), (2, (p1.add 2), (w17.cell? (p1.add 2)).getD undef), (2, (p1.add 3), (w17.cell? (p1.add 3)).getD undef), (2, (p1.add 4), (w17.cell? (p1.add 4)).getD undef), (2, (p1.add 5), (w17.cell? (p1.add 5)).getD undef)] w20 ∧ (
ncK b fun a21 =>
stN [.int .i64 x18.1, .int .u16 x18.2.1, .int .i64 x18.2.2.1, .int .u16 x18.2.2.2.1, .int .i64 x18.2.2.2.2.1, .int .i64 x18.2.2.2.2.2.1] (a21.add 1) 0 w20 fun w22 =>
Hold [] w22 ∧ (
R ((true, ()), ()) w22)))
set_option maxRecDepth 100000 in
theorem anchor_Book_Hear.eq (b : Option Addr) (a0 : Int) (a1 : Int) (a2 : Int) (a3 : Int) (a4 : Int) (a5 : Int) (w : World) (R : Value → World → Prop) : wpF Try.prog Try.f13 (.s .n (.ct [] (.s (.pl (.tk 0 (.tk 1 (.tk 2 (.tk 3 (.tk 4 (.ef 5 [] (.tk 6 (.tk 7 (.tk 8 (.tk 9 (.tk 10 (.tk 11 (.tk 12 (.tk 13 (.tk 14 (.tk 15 (.tk 16 (.tk 17 (.tk 18 (.tk 19 (.tk 20 (.ef 21 [15, 20] (.tk 22 (.tk 23 (.tk 24 .z)))))))))))))))))))))))))) .n) (.s (.pl (.tk 0 (.tk 1 (.tk 2 (.tk 3 (.tk 4 (.ef 5 [] (.tk 6 (.tk 7 (.ef 8 [2] .z)))))))))) .n))) [.pointer b, .agg #[.int .i64 a0, .int .u16 a1, .int .i64 a2, .int .u16 a3, .int .i64 a4, .int .i64 a5]] w R = anchor_Book_Hear.wp b a0 a1 a2 a3 a4 a5 w (fun r w => R (encR false [(false, [.b])] r) w) := by kernel_rfl
theorem anchor_Book_Hear.ok {b : Option Addr} {a0 : Int} {a1 : Int} {a2 : Int} {a3 : Int} {a4 : Int} {a5 : Int} {w : World} {R : TR [(false, [.b])] → World → Prop} (h : anchor_Book_Hear.wp b a0 a1 a2 a3 a4 a5 w R) : clS Try.prog F.anchor_Book_Hear [.pointer b, .agg #[.int .i64 a0, .int .u16 a1, .int .i64 a2, .int .u16 a3, .int .i64 a4, .int .i64 a5]] w false [(false, [.b])] R :=
  ok_of Try_follows Try.func13 (fun R => anchor_Book_Hear.wp b a0 a1 a2 a3 a4 a5 w R) (anchor_Book_Hear.eq b a0 a1 a2 a3 a4 a5 w) rfl h
/-! ### law23_of -/
set_option maxRecDepth 100000 in
def law23_of.wp (p0 : Int) (p1 : Int) (p2 : Int) (p3 : Int) (p4 : Int) (p5 : Int) (p6 : Int) (p7 : Int) (p8 : Int) (p9 : Int) (p10 : Int) (p11 : Int) (p12 : Int) (p13 : Int) (w : World) (R : TR [(true, [(.i .i64), (.i .u16), (.i .i64), (.i .u16), (.i .i64), (.i .i64)])] → World → Prop) : Prop :=
alK [.int .i64 p0, .int .i64 p1, .int .i64 p2, .int .i64 p3, .int .u16 p4, .int .u16 p5, .int .i64 p6, .int .i64 p7, .int .i64 p8, .int .i64 p9, .int .i64 p10, .int .i64 p11, .int .i64 p12, .int .i64 p13] T.ref05_Plain w fun p1 w2 =>
alK [.int .i64 0, .int .u16 0, .int .i64 0, .int .u16 0, .int .i64 0, .int .i64 0] T.frame_Anchor w2 fun p3 w4 =>
ld1 (.i .i64) (p1.add 1) w4 fun x5 =>
ld1 (.i .u16) (p1.add 5) w4 fun x6 =>
ld1 (.i .i64) (p1.add 3) w4 fun x7 =>
ld1 (.i .u16) (p1.add 4) w4 fun x8 =>
ld1 (.i .i64) (p1.add 12) w4 fun x9 =>
ld1 (.i .i64) (p1.add 13) w4 fun x10 =>
stN [.int .i64 x5, .int .u16 x6, .int .i64 x7, .int .u16 x8, .int .i64 x9, .int .i64 x10] p3 0 w4 fun w11 =>
ldN [(.i .i64), (.i .u16), (.i .i64), (.i .u16), (.i .i64), (.i .i64)] p3 0 w11 fun x12 =>
R ((x12.1, x12.2.1, x12.2.2.1, x12.2.2.2.1, x12.2.2.2.2.1, x12.2.2.2.2.2.1, ()), ()) w11
set_option maxRecDepth 100000 in
theorem law23_of.eq (p0 : Int) (p1 : Int) (p2 : Int) (p3 : Int) (p4 : Int) (p5 : Int) (p6 : Int) (p7 : Int) (p8 : Int) (p9 : Int) (p10 : Int) (p11 : Int) (p12 : Int) (p13 : Int) (w : World) (R : Value → World → Prop) : wpF Try.prog Try.f14 .n [.agg #[.int .i64 p0, .int .i64 p1, .int .i64 p2, .int .i64 p3, .int .u16 p4, .int .u16 p5, .int .i64 p6, .int .i64 p7, .int .i64 p8, .int .i64 p9, .int .i64 p10, .int .i64 p11, .int .i64 p12, .int .i64 p13]] w R = law23_of.wp p0 p1 p2 p3 p4 p5 p6 p7 p8 p9 p10 p11 p12 p13 w (fun r w => R (encR false [(true, [(.i .i64), (.i .u16), (.i .i64), (.i .u16), (.i .i64), (.i .i64)])] r) w) := by kernel_rfl
theorem law23_of.ok {p0 : Int} {p1 : Int} {p2 : Int} {p3 : Int} {p4 : Int} {p5 : Int} {p6 : Int} {p7 : Int} {p8 : Int} {p9 : Int} {p10 : Int} {p11 : Int} {p12 : Int} {p13 : Int} {w : World} {R : TR [(true, [(.i .i64), (.i .u16), (.i .i64), (.i .u16), (.i .i64), (.i .i64)])] → World → Prop} (h : law23_of.wp p0 p1 p2 p3 p4 p5 p6 p7 p8 p9 p10 p11 p12 p13 w R) : clS Try.prog F.law23_of [.agg #[.int .i64 p0, .int .i64 p1, .int .i64 p2, .int .i64 p3, .int .u16 p4, .int .u16 p5, .int .i64 p6, .int .i64 p7, .int .i64 p8, .int .i64 p9, .int .i64 p10, .int .i64 p11, .int .i64 p12, .int .i64 p13]] w false [(true, [(.i .i64), (.i .u16), (.i .i64), (.i .u16), (.i .i64), (.i .i64)])] R :=
  ok_of Try_follows Try.func14 (fun R => law23_of.wp p0 p1 p2 p3 p4 p5 p6 p7 p8 p9 p10 p11 p12 p13 w R) (law23_of.eq p0 p1 p2 p3 p4 p5 p6 p7 p8 p9 p10 p11 p12 p13 w) rfl h
end Go.Proofs.Ytgpgdhopmifbpaa
