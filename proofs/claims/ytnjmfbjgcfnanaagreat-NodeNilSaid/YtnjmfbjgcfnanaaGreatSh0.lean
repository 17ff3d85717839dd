import Derived.Test.YtnjmfbjgcfnanaaGreatNm
namespace Go.Proofs.YtnjmfbjgcfnanaaGreat
open Go.Eng
set_option linter.unusedVariables false
/-! ### law26_NodeWants -/
set_option maxRecDepth 100000 in
def law26_NodeWants.wp (s0 : Int) (s1 : Int) (s2 : Int) (s3 : Int) (s4 : Int) (s5 : Int) (s6 : Int) (s7 : Int) (s8 : Int) (s9 : Int) (s10 : Bool) (raw : Int) (ticks : Option Addr × Nat × Nat) (w : World) (R : TR [(false, [.b])] → World → Prop) : Prop :=
alK [.int .i64 s0, .int .i64 s1, .int .i64 s2, .int .i64 s3, .int .i64 s4, .int .i64 s5, .int .i64 s6, .int .i64 s7, .int .i64 s8, .int .i64 s9, .bool s10] T.ref26_Setup w fun p1 w2 =>
clS Tryz.prog F.law26_alive [] w2 false [(false, [.b])] fun r3 w4 =>
brB (!r3.1.1) (
R ((false, ()), ()) w4) (
brB (decide ((ticks.2.1 : Int) > 100)) (
R ((true, ()), ()) w4) (
ldN [(.i .i64), (.i .i64), (.i .i64), (.i .i64), (.i .i64), (.i .i64), (.i .i64), (.i .i64), (.i .i64), (.i .i64), .b] p1 0 w4 fun x5 =>
clS Tryz.prog F.ref26_Good [.agg #[.int .i64 x5.1, .int .i64 x5.2.1, .int .i64 x5.2.2.1, .int .i64 x5.2.2.2.1, .int .i64 x5.2.2.2.2.1, .int .i64 x5.2.2.2.2.2.1, .int .i64 x5.2.2.2.2.2.2.1, .int .i64 x5.2.2.2.2.2.2.2.1, .int .i64 x5.2.2.2.2.2.2.2.2.1, .int .i64 x5.2.2.2.2.2.2.2.2.2.1, .bool x5.2.2.2.2.2.2.2.2.2.2.1]] w4 false [(false, [.b])] fun r6 w7 =>
brB (!r6.1.1) (
R ((true, ()), ()) w7) (
ldN [(.i .i64), (.i .i64), (.i .i64), (.i .i64), (.i .i64), (.i .i64), (.i .i64), (.i .i64), (.i .i64), (.i .i64), .b] p1 0 w7 fun x8 =>
clS Tryz.prog F.law26_setup [.agg #[.int .i64 x8.1, .int .i64 x8.2.1, .int .i64 x8.2.2.1, .int .i64 x8.2.2.2.1, .int .i64 x8.2.2.2.2.1, .int .i64 x8.2.2.2.2.2.1, .int .i64 x8.2.2.2.2.2.2.1, .int .i64 x8.2.2.2.2.2.2.2.1, .int .i64 x8.2.2.2.2.2.2.2.2.1, .int .i64 x8.2.2.2.2.2.2.2.2.2.1, .bool x8.2.2.2.2.2.2.2.2.2.2.1]] w7 false [(true, [(.i .i64), (.i .i64), (.i .i64), (.i .i64), (.i .i64), (.i .i64), (.i .i64), (.i .i64), (.i .i64), (.i .i64), .b])] fun r9 w10 =>
clS Tryz.prog F.node_New [.agg #[.int .i64 r9.1.1, .int .i64 r9.1.2.1, .int .i64 r9.1.2.2.1, .int .i64 r9.1.2.2.2.1, .int .i64 r9.1.2.2.2.2.1, .int .i64 r9.1.2.2.2.2.2.1, .int .i64 r9.1.2.2.2.2.2.2.1, .int .i64 r9.1.2.2.2.2.2.2.2.1, .int .i64 r9.1.2.2.2.2.2.2.2.2.1, .int .i64 r9.1.2.2.2.2.2.2.2.2.2.1, .bool r9.1.2.2.2.2.2.2.2.2.2.2.1], .pointer none] w10 true [(false, [.p]), (false, [(.i .i64)])] fun r11 w12 =>
brB (r11.2.1.1 != 0) (
R ((false, ()), ()) w12) (
clS Tryz.prog F.node_Node_On [.pointer r11.1.1, .int .u32 raw] w12 false [(false, [(.i .i64)])] fun r13 w14 =>
brB (r13.1.1 != 0) (
R ((false, ()), ()) w14) (
LoopT (fun (self15 : ((Int) × (Int) × Unit) → World → Prop) (z16 : (Int) × (Int) × Unit) w17 => ∀ _ : Nat → Value,
brB (decide (z16.2.1 < (ticks.2.1 : Int))) (
ixK ticks.1 ticks.2.1 z16.2.1 fun a18 =>
ld1 (.i .i64) (a18.add (z16.2.1.toNat * 1)) w17 fun x19 =>
clS Tryz.prog F.node_Node_Go [.pointer r11.1.1, .int .i64 x19] w17 false [(false, [(.i .i64)])] fun r20 w21 =>
brB (r20.1.1 != 0) (
ld1 (.i .i64) (p1.add 4) w21 fun x22 =>
brB (decide (x19 < (IntKind.wrap .i64 (1000 - x22)))) (
R ((true, ()), ()) w21) (
ld1 (.i .i64) (p1.add 4) w21 fun x23 =>
R ((decide (x19 > (IntKind.wrap .i64 (1000 + x23))), ()), ()) w21)) (
clS Tryz.prog F.node_Node_Send [.pointer r11.1.1, .int .i64 z16.2.1, .int .i64 0] w21 true [(false, [.sl]), (false, [(.i .i64)])] fun r24 w25 =>
brB (r24.2.1.1 != 0) (
R ((false, ()), ()) w25) (
drK w25 fun w26 =>
ld1 (.i .i64) (p1.add 5) w26 fun x27 =>
nzK x27 (
ld1 (.i .i64) (p1.add 7) w26 fun x28 =>
brB ((Int.tmod z16.2.1 x27) != x28) (
brB ((r24.1.1.2.1 : Int) != 0) (
R ((false, ()), ()) w26) (
self15 (z16.1, IntKind.wrap .i64 (z16.2.1 + 1), ()) w26)) (
ld1 (.i .i64) p1 w26 fun x29 =>
alK [.int .i64 0, .int .i64 0, .int .i64 0, .int .i64 0, .int .u16 0, .int .u16 0, .int .i64 0, .int .i64 0, .int .i64 0, .int .i64 0, .int .i64 0, .int .i64 0, .int .i64 0, .int .i64 0] T.ref05_Plain w26 fun p30 w31 =>
stN [.int .i64 3, .int .i64 x29, .int .i64 0, .int .i64 0, .int .u16 0, .int .u16 0, .int .i64 0, .int .i64 0, .int .i64 0, .int .i64 0, .int .i64 0, .int .i64 0, .int .i64 0, .int .i64 0] p30 0 w31 fun w32 =>
CutT (fun (J33 : Unit → World → Prop) =>
ld1 (.i .i64) (p1.add 1) w32 fun x36 =>
brB (decide ((IntKind.wrap .i64 (z16.1 + 1)) ≥ x36)) (
drK w32 fun w37 =>
ld1 (.i .i64) p1 w37 fun x38 =>
ld1 (.i .i64) p1 w37 fun x39 =>
ld1 (.i .i64) (p1.add 1) w37 fun x40 =>
clS Tryz.prog F.node_Node_Status [.pointer r11.1.1] w37 false [(true, [.b, (.i .u16), (.i .i64), (.i .i64), .b, .b, (.i .i64), (.i .i64), (.i .i64), .b, (.i .i64), (.i .i64)])] fun r41 w42 =>
Hold [(6, (p1.add 1), (w37.cell? (p1.add 1)).getD undef), (3, p1, (w37.cell? p1).getD undef), (1, p1, (w37.cell? p1).getD undef)] w42 ∧ (
stN [.int .i64 1, .int .i64 x38, .int .i64 0, .int .i64 x39, .int .u16 1, .int .u16 (IntKind.wrap .u16 (IntKind.wrap .i64 ((IntKind.wrap .i64 ((IntKind.wrap .i64 (z16.1 + 1)) - x40)) + 1))), .int .i64 0, .int .i64 r41.1.2.2.1, .int .i64 0, .int .i64 0, .int .i64 0, .int .i64 0, .int .i64 0, .int .i64 0] p30 0 w42 fun w43 =>
Hold [] w43 ∧ (
J33 (()) w43))) (
J33 (()) w32)) (fun (z34 : Unit) w35 => ∀ _ : Nat → Value,
ldN [(.i .i64), (.i .i64), (.i .i64), (.i .i64), (.i .u16), (.i .u16), (.i .i64), (.i .i64), (.i .i64), (.i .i64), (.i .i64), (.i .i64), (.i .i64), (.i .i64)] p30 0 w35 fun x44 =>
alK [.int .i64 x44.1, .int .i64 x44.2.1, .int .i64 x44.2.2.1, .int .i64 x44.2.2.2.1, .int .u16 x44.2.2.2.2.1, .int .u16 x44.2.2.2.2.2.1, .int .i64 x44.2.2.2.2.2.2.1, .int .i64 x44.2.2.2.2.2.2.2.1, .int .i64 x44.2.2.2.2.2.2.2.2.1, .int .i64 x44.2.2.2.2.2.2.2.2.2.1, .int .i64 x44.2.2.2.2.2.2.2.2.2.2.1, .int .i64 x44.2.2.2.2.2.2.2.2.2.2.2.1, .int .i64 x44.2.2.2.2.2.2.2.2.2.2.2.2.1, .int .i64 x44.2.2.2.2.2.2.2.2.2.2.2.2.2.1] T.ref05_Plain w35 fun p45 w46 =>
clS Tryz.prog F.law26_sent [.slice r24.1.1.1 r24.1.1.2.1 r24.1.1.2.2, .slice (some p45) 1 1] w46 false [(false, [.b])] fun r47 w48 =>
brB (!r47.1.1) (
R ((false, ()), ()) w48) (
self15 (IntKind.wrap .i64 (z16.1 + 1), IntKind.wrap .i64 (z16.2.1 + 1), ()) w48))))))) (
R ((true, ()), ()) w17)) (0, 0, ()) w14)))))
set_option maxRecDepth 100000 in
theorem law26_NodeWants.eq (s0 : Int) (s1 : Int) (s2 : Int) (s3 : Int) (s4 : Int) (s5 : Int) (s6 : Int) (s7 : Int) (s8 : Int) (s9 : Int) (s10 : Bool) (raw : Int) (ticks : Option Addr × Nat × Nat) (w : World) (R : Value → World → Prop) : wpF Tryz.prog Tryz.f3 (.s .n (.s .n (.s .n (.s .n (.s .n (.s .n (.s (.s .n (.lp [(9, (.i .i64)), (41, (.i .i64))] (.s .n (.s .n (.s (.s .n (.s .n (.s .n (.s .n (.s (.s (.pl (.tk 0 (.tk 1 (.tk 2 (.tk 3 (.tk 4 (.tk 5 (.tk 6 .z)))))))) .n) (.s .n (.s .n (.ct [] (.s .n (.s (.pl (.tk 0 (.tk 1 (.tk 2 (.tk 3 (.tk 4 (.tk 5 (.tk 6 (.tk 7 (.tk 8 (.tk 9 (.tk 10 (.ef 11 [] (.tk 12 (.tk 13 (.ef 14 [1, 3, 6] .z)))))))))))))))) .n)) .n)))))))) .n))))) .n))))))) [.agg #[.int .i64 s0, .int .i64 s1, .int .i64 s2, .int .i64 s3, .int .i64 s4, .int .i64 s5, .int .i64 s6, .int .i64 s7, .int .i64 s8, .int .i64 s9, .bool s10], .int .u32 raw, .slice ticks.1 ticks.2.1 ticks.2.2] w R = law26_NodeWants.wp s0 s1 s2 s3 s4 s5 s6 s7 s8 s9 s10 raw ticks w (fun r w => R (encR false [(false, [.b])] r) w) := by kernel_rfl
set_option maxRecDepth 100000 in
theorem law26_NodeWants.ok {s0 : Int} {s1 : Int} {s2 : Int} {s3 : Int} {s4 : Int} {s5 : Int} {s6 : Int} {s7 : Int} {s8 : Int} {s9 : Int} {s10 : Bool} {raw : Int} {ticks : Option Addr × Nat × Nat} {w : World} {R : TR [(false, [.b])] → World → Prop} (h : law26_NodeWants.wp s0 s1 s2 s3 s4 s5 s6 s7 s8 s9 s10 raw ticks w R) : clS Tryz.prog F.law26_NodeWants [.agg #[.int .i64 s0, .int .i64 s1, .int .i64 s2, .int .i64 s3, .int .i64 s4, .int .i64 s5, .int .i64 s6, .int .i64 s7, .int .i64 s8, .int .i64 s9, .bool s10], .int .u32 raw, .slice ticks.1 ticks.2.1 ticks.2.2] w false [(false, [.b])] R :=
  ok_of Tryz_follows Tryz.func3 (fun R => law26_NodeWants.wp s0 s1 s2 s3 s4 s5 s6 s7 s8 s9 s10 raw ticks w R) (law26_NodeWants.eq s0 s1 s2 s3 s4 s5 s6 s7 s8 s9 s10 raw ticks w) rfl h
/-! ### law26_NodeNil -/
set_option maxRecDepth 100000 in
def law26_NodeNil.wp (k : Int) (b : Option Addr × Nat × Nat) (s : ByteArray) (w : World) (R : TR [(false, [.b])] → World → Prop) : Prop :=
clS Tryz.prog F.law26_alive [] w false [(false, [.b])] fun r1 w2 =>
brB (!r1.1.1) (
R ((false, ()), ()) w2) (
brB (decide ((b.2.1 : Int) > 200)) (
R ((true, ()), ()) w2) (
brB (decide ((s.size : Int) > 200)) (
R ((true, ()), ()) w2) (
clS Tryz.prog F.node_Node_Send [.pointer none, .int .i64 k, .int .i64 k] w2 true [(false, [.sl]), (false, [(.i .i64)])] fun r3 w4 =>
clS Tryz.prog F.node_Node_Time [.pointer none] w4 true [(true, [(.i .i64), (.i .i64), (.i .i64), (.i .u16), (.i .i64)]), (false, [(.i .i64)])] fun r5 w6 =>
alK [.int .i64 0, .int .i64 0, .int .i64 0, .int .u16 0, .int .i64 0] T.source_Answer w6 fun p7 w8 =>
stN [.int .i64 r5.1.1, .int .i64 r5.1.2.1, .int .i64 r5.1.2.2.1, .int .u16 r5.1.2.2.2.1, .int .i64 r5.1.2.2.2.2.1] p7 0 w8 fun w9 =>
clS Tryz.prog F.node_Node_Tag [.pointer none, .string s] w9 true [(false, [(.i .i64)]), (false, [(.i .i64)])] fun r10 w11 =>
clS Tryz.prog F.node_Node_Take [.pointer none] w11 true [(true, [(.i .i64), .s, (.i .i64), (.i .i64), (.i .i64), (.i .i64), (.i .u16), (.i .i64)]), (false, [.b])] fun r12 w13 =>
alK [.int .i64 0, .string ByteArray.empty, .int .i64 0, .int .i64 0, .int .i64 0, .int .i64 0, .int .u16 0, .int .i64 0] T.event_Event w13 fun p14 w15 =>
stN [.int .i64 r12.1.1, .string r12.1.2.1, .int .i64 r12.1.2.2.1, .int .i64 r12.1.2.2.2.1, .int .i64 r12.1.2.2.2.2.1, .int .i64 r12.1.2.2.2.2.2.1, .int .u16 r12.1.2.2.2.2.2.2.1, .int .i64 r12.1.2.2.2.2.2.2.2.1] p14 0 w15 fun w16 =>
clS Tryz.prog F.node_Node_Utc [.pointer none] w16 true [(true, [(.i .i64), (.i .i64), (.i .i64), (.i .i64), (.i .i64), (.i .i64)]), (false, [(.i .i64)]), (false, [(.i .i64)])] fun r17 w18 =>
alK [.int .i64 0, .int .i64 0, .int .i64 0, .int .i64 0, .int .i64 0, .int .i64 0] T.utc_Utc w18 fun p19 w20 =>
stN [.int .i64 r17.1.1, .int .i64 r17.1.2.1, .int .i64 r17.1.2.2.1, .int .i64 r17.1.2.2.2.1, .int .i64 r17.1.2.2.2.2.1, .int .i64 r17.1.2.2.2.2.2.1] p19 0 w20 fun w21 =>
clS Tryz.prog F.node_Node_Mark [.pointer none] w21 true [(true, [(.i .u16), (.i .u16)]), (false, [.b])] fun r22 w23 =>
alK [.int .u16 0, .int .u16 0] T.elect_Mark w23 fun p24 w25 =>
stN [.int .u16 r22.1.1, .int .u16 r22.1.2.1] p24 0 w25 fun w26 =>
clS Tryz.prog F.node_Node_On [.pointer none, .int .u32 1] w26 false [(false, [(.i .i64)])] fun r27 w28 =>
brB (r27.1.1 == 2) (
clS Tryz.prog F.node_Node_Off [.pointer none] w28 false [(false, [(.i .i64)])] fun r29 w30 =>
brB (r29.1.1 == 2) (
clS Tryz.prog F.node_Node_Fits [.pointer none, .int .i64 k] w30 false [(false, [.b])] fun r31 w32 =>
brB (!r31.1.1) (
clS Tryz.prog F.node_Node_Go [.pointer none, .int .i64 k] w32 false [(false, [(.i .i64)])] fun r33 w34 =>
brB (r33.1.1 == 2) (
clS Tryz.prog F.node_Node_Awake [.pointer none] w34 false [(false, [.b])] fun r35 w36 =>
brB (!r35.1.1) (
brB (r3.2.1.1 == 2) (
clS Tryz.prog F.node_Node_Hear [.pointer none, .int .i64 k, .slice b.1 b.2.1 b.2.2] w36 false [(false, [(.i .i64)])] fun r37 w38 =>
brB (r37.1.1 == 2) (
brB (r5.2.1.1 == 2) (
brB (r10.2.1.1 == 2) (
brB (!r12.2.1.1) (
clS Tryz.prog F.node_Node_Fix [.pointer none, .int .i64 k] w38 false [(false, [(.i .i64)])] fun r39 w40 =>
brB (r39.1.1 == 2) (
brB (r17.2.2.1.1 == 2) (
brB (!r22.2.1.1) (
clS Tryz.prog F.node_Node_Status [.pointer none] w40 false [(true, [.b, (.i .u16), (.i .i64), (.i .i64), .b, .b, (.i .i64), (.i .i64), (.i .i64), .b, (.i .i64), (.i .i64)])] fun r41 w42 =>
R ((((r41.1.1 == false) && ((r41.1.2.1 == 0) && ((r41.1.2.2.1 == 0) && ((r41.1.2.2.2.1 == 0) && ((r41.1.2.2.2.2.1 == false) && ((r41.1.2.2.2.2.2.1 == false) && ((r41.1.2.2.2.2.2.2.1 == 0) && ((r41.1.2.2.2.2.2.2.2.1 == 0) && ((r41.1.2.2.2.2.2.2.2.2.1 == 0) && ((r41.1.2.2.2.2.2.2.2.2.2.1 == false) && ((r41.1.2.2.2.2.2.2.2.2.2.2.1 == 0) && ((r41.1.2.2.2.2.2.2.2.2.2.2.2.1 == 0) && true)))))))))))), ()), ()) w42) (
R ((false, ()), ()) w40)) (
R ((false, ()), ()) w40)) (
R ((false, ()), ()) w40)) (
R ((false, ()), ()) w38)) (
R ((false, ()), ()) w38)) (
R ((false, ()), ()) w38)) (
R ((false, ()), ()) w38)) (
R ((false, ()), ()) w36)) (
R ((false, ()), ()) w36)) (
R ((false, ()), ()) w34)) (
R ((false, ()), ()) w32)) (
R ((false, ()), ()) w30)) (
R ((false, ()), ()) w28))))
set_option maxRecDepth 100000 in
theorem law26_NodeNil.eq (k : Int) (b : Option Addr × Nat × Nat) (s : ByteArray) (w : World) (R : Value → World → Prop) : wpF Tryz.prog Tryz.f6 .n [.int .i64 k, .slice b.1 b.2.1 b.2.2, .string s] w R = law26_NodeNil.wp k b s w (fun r w => R (encR false [(false, [.b])] r) w) := by kernel_rfl
set_option maxRecDepth 100000 in
theorem law26_NodeNil.ok {k : Int} {b : Option Addr × Nat × Nat} {s : ByteArray} {w : World} {R : TR [(false, [.b])] → World → Prop} (h : law26_NodeNil.wp k b s w R) : clS Tryz.prog F.law26_NodeNil [.int .i64 k, .slice b.1 b.2.1 b.2.2, .string s] w false [(false, [.b])] R :=
  ok_of Tryz_follows Tryz.func6 (fun R => law26_NodeNil.wp k b s w R) (law26_NodeNil.eq k b s w) rfl h
/-! ### law26_alive -/
set_option maxRecDepth 100000 in
def law26_alive.wp  (w : World) (R : TR [(false, [.b])] → World → Prop) : Prop :=
clS Tryz.prog F.law26_setup [.agg #[.int .i64 0, .int .i64 1, .int .i64 0, .int .i64 1, .int .i64 0, .int .i64 4, .int .i64 4, .int .i64 0, .int .i64 1, .int .i64 0, .bool false]] w false [(true, [(.i .i64), (.i .i64), (.i .i64), (.i .i64), (.i .i64), (.i .i64), (.i .i64), (.i .i64), (.i .i64), (.i .i64), .b])] fun r1 w2 =>
clS Tryz.prog F.node_New [.agg #[.int .i64 r1.1.1, .int .i64 r1.1.2.1, .int .i64 r1.1.2.2.1, .int .i64 r1.1.2.2.2.1, .int .i64 r1.1.2.2.2.2.1, .int .i64 r1.1.2.2.2.2.2.1, .int .i64 r1.1.2.2.2.2.2.2.1, .int .i64 r1.1.2.2.2.2.2.2.2.1, .int .i64 r1.1.2.2.2.2.2.2.2.2.1, .int .i64 r1.1.2.2.2.2.2.2.2.2.2.1, .bool r1.1.2.2.2.2.2.2.2.2.2.2.1], .pointer none] w2 true [(false, [.p]), (false, [(.i .i64)])] fun r3 w4 =>
clS Tryz.prog F.node_Node_On [.pointer r3.1.1, .int .u32 500] w4 false [(false, [(.i .i64)])] fun r5 w6 =>
clS Tryz.prog F.node_Node_Send [.pointer r3.1.1, .int .i64 0, .int .i64 0] w6 true [(false, [.sl]), (false, [(.i .i64)])] fun r7 w8 =>
clS Tryz.prog F.node_Node_Time [.pointer r3.1.1] w8 true [(true, [(.i .i64), (.i .i64), (.i .i64), (.i .u16), (.i .i64)]), (false, [(.i .i64)])] fun r9 w10 =>
alK [.int .i64 0, .int .i64 0, .int .i64 0, .int .u16 0, .int .i64 0] T.source_Answer w10 fun p11 w12 =>
stN [.int .i64 r9.1.1, .int .i64 r9.1.2.1, .int .i64 r9.1.2.2.1, .int .u16 r9.1.2.2.2.1, .int .i64 r9.1.2.2.2.2.1] p11 0 w12 fun w13 =>
brB (r3.2.1.1 == 0) (
brB (r5.1.1 == 0) (
brB (r7.2.1.1 == 0) (
brB ((r7.1.1.2.1 : Int) == 1) (
ixK r7.1.1.1 r7.1.1.2.1 0 fun a14 =>
ld1 .sl (a14.add ((0 : Int).toNat * 1)) w13 fun x15 =>
brB ((x15.2.1 : Int) == 18) (
ixK r7.1.1.1 r7.1.1.2.1 0 fun a16 =>
ld1 .sl (a16.add ((0 : Int).toNat * 1)) w13 fun x17 =>
ixK x17.1 x17.2.1 0 fun a18 =>
ld1 (.i .u8) (a18.add ((0 : Int).toNat * 1)) w13 fun x19 =>
brB (x19 == 1) (
brB (r9.2.1.1 == 0) (
ld1 (.i .i64) p11 w13 fun x20 =>
brB (x20 == 500) (
ld1 (.i .i64) (p11.add 4) w13 fun x21 =>
R (((x21 == 1), ()), ()) w13) (
R ((false, ()), ()) w13)) (
R ((false, ()), ()) w13)) (
R ((false, ()), ()) w13)) (
R ((false, ()), ()) w13)) (
R ((false, ()), ()) w13)) (
R ((false, ()), ()) w13)) (
R ((false, ()), ()) w13)) (
R ((false, ()), ()) w13)
set_option maxRecDepth 100000 in
theorem law26_alive.eq  (w : World) (R : Value → World → Prop) : wpF Tryz.prog Tryz.f7 .n [] w R = law26_alive.wp  w (fun r w => R (encR false [(false, [.b])] r) w) := by kernel_rfl
set_option maxRecDepth 100000 in
theorem law26_alive.ok  {w : World} {R : TR [(false, [.b])] → World → Prop} (h : law26_alive.wp  w R) : clS Tryz.prog F.law26_alive [] w false [(false, [.b])] R :=
  ok_of Tryz_follows Tryz.func7 (fun R => law26_alive.wp  w R) (law26_alive.eq  w) rfl h
/-! ### ref26_Good -/
set_option maxRecDepth 100000 in
def ref26_Good.wp (s0 : Int) (s1 : Int) (s2 : Int) (s3 : Int) (s4 : Int) (s5 : Int) (s6 : Int) (s7 : Int) (s8 : Int) (s9 : Int) (s10 : Bool) (w : World) (R : TR [(false, [.b])] → World → Prop) : Prop :=
alK [.int .i64 s0, .int .i64 s1, .int .i64 s2, .int .i64 s3, .int .i64 s4, .int .i64 s5, .int .i64 s6, .int .i64 s7, .int .i64 s8, .int .i64 s9, .bool s10] T.ref26_Setup w fun p1 w2 =>
ld1 (.i .i64) p1 w2 fun x3 =>
ld1 (.i .i64) (p1.add 1) w2 fun x4 =>
ld1 (.i .i64) (p1.add 2) w2 fun x5 =>
ld1 (.i .i64) (p1.add 3) w2 fun x6 =>
ld1 (.i .i64) (p1.add 4) w2 fun x7 =>
clS Tryz.prog F.ref16_Good [.int .i64 x3, .int .i64 x4, .int .i64 x5, .int .i64 x6, .int .i64 x7] w2 false [(false, [.b])] fun r8 w9 =>
brB r8.1.1 (
ldN [(.i .i64), (.i .i64), (.i .i64), (.i .i64), (.i .i64), (.i .i64), (.i .i64), (.i .i64), (.i .i64), (.i .i64), .b] p1 0 w9 fun x10 =>
clS Tryz.prog F.ref26_Setup_Plan [.agg #[.int .i64 x10.1, .int .i64 x10.2.1, .int .i64 x10.2.2.1, .int .i64 x10.2.2.2.1, .int .i64 x10.2.2.2.2.1, .int .i64 x10.2.2.2.2.2.1, .int .i64 x10.2.2.2.2.2.2.1, .int .i64 x10.2.2.2.2.2.2.2.1, .int .i64 x10.2.2.2.2.2.2.2.2.1, .int .i64 x10.2.2.2.2.2.2.2.2.2.1, .bool x10.2.2.2.2.2.2.2.2.2.2.1]] w9 false [(true, [(.i .i64), (.i .i64), (.i .i64)])] fun r11 w12 =>
clS Tryz.prog F.ref11_Good [.agg #[.int .i64 r11.1.1, .int .i64 r11.1.2.1, .int .i64 r11.1.2.2.1]] w12 false [(false, [.b])] fun r13 w14 =>
brB r13.1.1 (
ld1 (.i .i64) (p1.add 8) w14 fun x15 =>
brB (decide (x15 ≥ 1)) (
ld1 (.i .i64) (p1.add 8) w14 fun x16 =>
ld1 (.i .i64) (p1.add 1) w14 fun x17 =>
brB (decide (x16 ≤ x17)) (
ld1 (.i .i64) (p1.add 9) w14 fun x18 =>
brB (decide (x18 ≥ 0)) (
ld1 (.i .i64) (p1.add 9) w14 fun x19 =>
R ((decide (x19 ≤ 20), ()), ()) w14) (
R ((false, ()), ()) w14)) (
R ((false, ()), ()) w14)) (
R ((false, ()), ()) w14)) (
R ((false, ()), ()) w14)) (
R ((false, ()), ()) w9)
set_option maxRecDepth 100000 in
theorem ref26_Good.eq (s0 : Int) (s1 : Int) (s2 : Int) (s3 : Int) (s4 : Int) (s5 : Int) (s6 : Int) (s7 : Int) (s8 : Int) (s9 : Int) (s10 : Bool) (w : World) (R : Value → World → Prop) : wpF Tryz.prog Tryz.f8 .n [.agg #[.int .i64 s0, .int .i64 s1, .int .i64 s2, .int .i64 s3, .int .i64 s4, .int .i64 s5, .int .i64 s6, .int .i64 s7, .int .i64 s8, .int .i64 s9, .bool s10]] w R = ref26_Good.wp s0 s1 s2 s3 s4 s5 s6 s7 s8 s9 s10 w (fun r w => R (encR false [(false, [.b])] r) w) := by kernel_rfl
set_option maxRecDepth 100000 in
theorem ref26_Good.ok {s0 : Int} {s1 : Int} {s2 : Int} {s3 : Int} {s4 : Int} {s5 : Int} {s6 : Int} {s7 : Int} {s8 : Int} {s9 : Int} {s10 : Bool} {w : World} {R : TR [(false, [.b])] → World → Prop} (h : ref26_Good.wp s0 s1 s2 s3 s4 s5 s6 s7 s8 s9 s10 w R) : clS Tryz.prog F.ref26_Good [.agg #[.int .i64 s0, .int .i64 s1, .int .i64 s2, .int .i64 s3, .int .i64 s4, .int .i64 s5, .int .i64 s6, .int .i64 s7, .int .i64 s8, .int .i64 s9, .bool s10]] w false [(false, [.b])] R :=
  ok_of Tryz_follows Tryz.func8 (fun R => ref26_Good.wp s0 s1 s2 s3 s4 s5 s6 s7 s8 s9 s10 w R) (ref26_Good.eq s0 s1 s2 s3 s4 s5 s6 s7 s8 s9 s10 w) rfl h
/-! ### node_New -/
set_option maxRecDepth 100000 in
def node_New.wp (s0 : Int) (s1 : Int) (s2 : Int) (s3 : Int) (s4 : Int) (s5 : Int) (s6 : Int) (s7 : Int) (s8 : Int) (s9 : Int) (s10 : Bool) (leaps : Option Addr) (w : World) (R : TR [(false, [.p]), (false, [(.i .i64)])] → World → Prop) : Prop :=
alK [.int .i64 s0, .int .i64 s1, .int .i64 s2, .int .i64 s3, .int .i64 s4, .int .i64 s5, .int .i64 s6, .int .i64 s7, .int .i64 s8, .int .i64 s9, .bool s10] T.node_Setup w fun p1 w2 =>
ldN [(.i .i64), (.i .i64), (.i .i64), (.i .i64), (.i .i64), (.i .i64), (.i .i64), (.i .i64), (.i .i64), (.i .i64), .b] p1 0 w2 fun x3 =>
clS Tryz.prog F.node_Setup_Good [.agg #[.int .i64 x3.1, .int .i64 x3.2.1, .int .i64 x3.2.2.1, .int .i64 x3.2.2.2.1, .int .i64 x3.2.2.2.2.1, .int .i64 x3.2.2.2.2.2.1, .int .i64 x3.2.2.2.2.2.2.1, .int .i64 x3.2.2.2.2.2.2.2.1, .int .i64 x3.2.2.2.2.2.2.2.2.1, .int .i64 x3.2.2.2.2.2.2.2.2.2.1, .bool x3.2.2.2.2.2.2.2.2.2.2.1]] w2 false [(false, [.b])] fun r4 w5 =>
brB (!r4.1.1) (
R ((none, ()), (1, ()), ()) w5) (
drK w5 fun w6 =>
ldN [(.i .i64), (.i .i64), (.i .i64), (.i .i64), (.i .i64), (.i .i64), (.i .i64), (.i .i64), (.i .i64), (.i .i64), .b] p1 0 w6 fun x7 =>
clS Tryz.prog F.event_New [] w6 false [(false, [.p])] fun r8 w9 =>
Hold [(0, (p1.add 0), (w6.cell? (p1.add 0)).getD undef), (0, (p1.add 1), (w6.cell? (p1.add 1)).getD undef), (0, (p1.add 2), (w6.cell? (p1.add 2)).getD undef), (0, (p1.add 3), (w6.cell? (p1.add 3)).getD undef), (0, (p1.add 4), (w6.cell? (p1.add 4)).getD undef), (0, (p1.add 5), (w6.cell? (p1.add 5)).getD undef), (0, (p1.add 6), (w6.cell? (p1.add 6)).getD undef), (0, (p1.add 7), (w6.cell? (p1.add 7)).getD undef), (0, (p1.add 8), (w6.cell? (p1.add 8)).getD undef), (0, (p1.add 9), (w6.cell? (p1.add 9)).getD undef), (0, (p1.add 10), (w6.cell? (p1.add 10)).getD undef)] w9 ∧ (
alK [.int .i64 x7.1, .int .i64 x7.2.1, .int .i64 x7.2.2.1, .int .i64 x7.2.2.2.1, .int .i64 x7.2.2.2.2.1, .int .i64 x7.2.2.2.2.2.1, .int .i64 x7.2.2.2.2.2.2.1, .int .i64 x7.2.2.2.2.2.2.2.1, .int .i64 x7.2.2.2.2.2.2.2.2.1, .int .i64 x7.2.2.2.2.2.2.2.2.2.1, .bool x7.2.2.2.2.2.2.2.2.2.2.1, .pointer leaps, .bool false, .int .u16 0, .pointer none, .pointer none, .pointer none, .pointer none, .pointer none, .bool false, .int .i64 0, .int .u16 0, .int .i64 0, .int .u16 0, .int .i64 0, .int .i64 0, .pointer r8.1.1, .pointer none] T.node_Node w9 fun p10 w11 =>
Hold [(0, (p1.add 0), (w6.cell? (p1.add 0)).getD undef), (0, (p1.add 1), (w6.cell? (p1.add 1)).getD undef), (0, (p1.add 2), (w6.cell? (p1.add 2)).getD undef), (0, (p1.add 3), (w6.cell? (p1.add 3)).getD undef), (0, (p1.add 4), (w6.cell? (p1.add 4)).getD undef), (0, (p1.add 5), (w6.cell? (p1.add 5)).getD undef), (0, (p1.add 6), (w6.cell? (p1.add 6)).getD undef), (0, (p1.add 7), (w6.cell? (p1.add 7)).getD undef), (0, (p1.add 8), (w6.cell? (p1.add 8)).getD undef), (0, (p1.add 9), (w6.cell? (p1.add 9)).getD undef), (0, (p1.add 10), (w6.cell? (p1.add 10)).getD undef)] w11 ∧ (
ld1 (.i .i64) ((p1.add 1).add 3) w11 fun x12 =>
clS Tryz.prog F.tick_New [.int .i64 x12] w11 true [(false, [.p]), (false, [(.i .i64)])] fun r13 w14 =>
stN [.pointer r13.1.1] (p10.add 14) 0 w14 fun w15 =>
ld1 (.i .i64) p1 w15 fun x16 =>
ldN [(.i .i64), (.i .i64), (.i .i64), (.i .i64)] (p1.add 1) 0 w15 fun x17 =>
clS Tryz.prog F.flood_New [.int .i64 x16, .agg #[.int .i64 x17.1, .int .i64 x17.2.1, .int .i64 x17.2.2.1, .int .i64 x17.2.2.2.1]] w15 true [(false, [.p]), (false, [(.i .i64)])] fun r18 w19 =>
stN [.pointer r18.1.1] (p10.add 15) 0 w19 fun w20 =>
ld1 (.i .i64) p1 w20 fun x21 =>
clS Tryz.prog F.level_New [.int .i64 x21] w20 true [(false, [.p]), (false, [(.i .i64)])] fun r22 w23 =>
stN [.pointer r22.1.1] (p10.add 16) 0 w23 fun w24 =>
ld1 (.i .i64) p1 w24 fun x25 =>
clS Tryz.prog F.pair_New [.int .i64 x25] w24 true [(false, [.p]), (false, [(.i .i64)])] fun r26 w27 =>
stN [.pointer r26.1.1] (p10.add 17) 0 w27 fun w28 =>
ld1 (.i .i64) (p1.add 8) w28 fun x29 =>
clS Tryz.prog F.source_New [.int .i64 x29] w28 true [(false, [.p]), (false, [(.i .i64)])] fun r30 w31 =>
stN [.pointer r30.1.1] (p10.add 18) 0 w31 fun w32 =>
clS Tryz.prog F.ring_New_node_job [.int .i64 8] w32 true [(false, [.p]), (false, [(.i .i64)])] fun r33 w34 =>
stN [.pointer r33.1.1] (p10.add 27) 0 w34 fun w35 =>
R ((some p10, ()), (0, ()), ()) w35)))
set_option maxRecDepth 100000 in
theorem node_New.eq (s0 : Int) (s1 : Int) (s2 : Int) (s3 : Int) (s4 : Int) (s5 : Int) (s6 : Int) (s7 : Int) (s8 : Int) (s9 : Int) (s10 : Bool) (leaps : Option Addr) (w : World) (R : Value → World → Prop) : wpF Tryz.prog Tryz.f9 (.s .n (.s .n (.s (.pl (.tk 0 (.tk 1 (.ef 2 [] (.tk 3 (.ef 4 [] (.tk 5 .z))))))) .n))) [.agg #[.int .i64 s0, .int .i64 s1, .int .i64 s2, .int .i64 s3, .int .i64 s4, .int .i64 s5, .int .i64 s6, .int .i64 s7, .int .i64 s8, .int .i64 s9, .bool s10], .pointer leaps] w R = node_New.wp s0 s1 s2 s3 s4 s5 s6 s7 s8 s9 s10 leaps w (fun r w => R (encR true [(false, [.p]), (false, [(.i .i64)])] r) w) := by kernel_rfl
set_option maxRecDepth 100000 in
theorem node_New.ok {s0 : Int} {s1 : Int} {s2 : Int} {s3 : Int} {s4 : Int} {s5 : Int} {s6 : Int} {s7 : Int} {s8 : Int} {s9 : Int} {s10 : Bool} {leaps : Option Addr} {w : World} {R : TR [(false, [.p]), (false, [(.i .i64)])] → World → Prop} (h : node_New.wp s0 s1 s2 s3 s4 s5 s6 s7 s8 s9 s10 leaps w R) : clS Tryz.prog F.node_New [.agg #[.int .i64 s0, .int .i64 s1, .int .i64 s2, .int .i64 s3, .int .i64 s4, .int .i64 s5, .int .i64 s6, .int .i64 s7, .int .i64 s8, .int .i64 s9, .bool s10], .pointer leaps] w true [(false, [.p]), (false, [(.i .i64)])] R :=
  ok_of Tryz_follows Tryz.func9 (fun R => node_New.wp s0 s1 s2 s3 s4 s5 s6 s7 s8 s9 s10 leaps w R) (node_New.eq s0 s1 s2 s3 s4 s5 s6 s7 s8 s9 s10 leaps w) rfl h
/-! ### law26_setup -/
set_option maxRecDepth 100000 in
def law26_setup.wp (s0 : Int) (s1 : Int) (s2 : Int) (s3 : Int) (s4 : Int) (s5 : Int) (s6 : Int) (s7 : Int) (s8 : Int) (s9 : Int) (s10 : Bool) (w : World) (R : TR [(true, [(.i .i64), (.i .i64), (.i .i64), (.i .i64), (.i .i64), (.i .i64), (.i .i64), (.i .i64), (.i .i64), (.i .i64), .b])] → World → Prop) : Prop :=
alK [.int .i64 s0, .int .i64 s1, .int .i64 s2, .int .i64 s3, .int .i64 s4, .int .i64 s5, .int .i64 s6, .int .i64 s7, .int .i64 s8, .int .i64 s9, .bool s10] T.ref26_Setup w fun p1 w2 =>
alK [.int .i64 0, .int .i64 0, .int .i64 0, .int .i64 0, .int .i64 0, .int .i64 0, .int .i64 0, .int .i64 0, .int .i64 0, .int .i64 0, .bool false] T.node_Setup w2 fun p3 w4 =>
ld1 (.i .i64) p1 w4 fun x5 =>
ld1 (.i .i64) (p1.add 1) w4 fun x6 =>
ld1 (.i .i64) (p1.add 2) w4 fun x7 =>
ld1 (.i .i64) (p1.add 3) w4 fun x8 =>
ld1 (.i .i64) (p1.add 4) w4 fun x9 =>
ld1 (.i .i64) (p1.add 5) w4 fun x10 =>
ld1 (.i .i64) (p1.add 6) w4 fun x11 =>
ld1 (.i .i64) (p1.add 7) w4 fun x12 =>
ld1 (.i .i64) (p1.add 8) w4 fun x13 =>
ld1 (.i .i64) (p1.add 9) w4 fun x14 =>
ld1 .b (p1.add 10) w4 fun x15 =>
stN [.int .i64 x5, .int .i64 x6, .int .i64 x7, .int .i64 x8, .int .i64 x9, .int .i64 x10, .int .i64 x11, .int .i64 x12, .int .i64 x13, .int .i64 x14, .bool x15] p3 0 w4 fun w16 =>
ldN [(.i .i64), (.i .i64), (.i .i64), (.i .i64), (.i .i64), (.i .i64), (.i .i64), (.i .i64), (.i .i64), (.i .i64), .b] p3 0 w16 fun x17 =>
R ((x17.1, x17.2.1, x17.2.2.1, x17.2.2.2.1, x17.2.2.2.2.1, x17.2.2.2.2.2.1, x17.2.2.2.2.2.2.1, x17.2.2.2.2.2.2.2.1, x17.2.2.2.2.2.2.2.2.1, x17.2.2.2.2.2.2.2.2.2.1, x17.2.2.2.2.2.2.2.2.2.2.1, ()), ()) w16
set_option maxRecDepth 100000 in
theorem law26_setup.eq (s0 : Int) (s1 : Int) (s2 : Int) (s3 : Int) (s4 : Int) (s5 : Int) (s6 : Int) (s7 : Int) (s8 : Int) (s9 : Int) (s10 : Bool) (w : World) (R : Value → World → Prop) : wpF Tryz.prog Tryz.f10 .n [.agg #[.int .i64 s0, .int .i64 s1, .int .i64 s2, .int .i64 s3, .int .i64 s4, .int .i64 s5, .int .i64 s6, .int .i64 s7, .int .i64 s8, .int .i64 s9, .bool s10]] w R = law26_setup.wp s0 s1 s2 s3 s4 s5 s6 s7 s8 s9 s10 w (fun r w => R (encR false [(true, [(.i .i64), (.i .i64), (.i .i64), (.i .i64), (.i .i64), (.i .i64), (.i .i64), (.i .i64), (.i .i64), (.i .i64), .b])] r) w) := by kernel_rfl
set_option maxRecDepth 100000 in
theorem law26_setup.ok {s0 : Int} {s1 : Int} {s2 : Int} {s3 : Int} {s4 : Int} {s5 : Int} {s6 : Int} {s7 : Int} {s8 : Int} {s9 : Int} {s10 : Bool} {w : World} {R : TR [(true, [(.i .i64), (.i .i64), (.i .i64), (.i .i64), (.i .i64), (.i .i64), (.i .i64), (.i .i64), (.i .i64), (.i .i64), .b])] → World → Prop} (h : law26_setup.wp s0 s1 s2 s3 s4 s5 s6 s7 s8 s9 s10 w R) : clS Tryz.prog F.law26_setup [.agg #[.int .i64 s0, .int .i64 s1, .int .i64 s2, .int .i64 s3, .int .i64 s4, .int .i64 s5, .int .i64 s6, .int .i64 s7, .int .i64 s8, .int .i64 s9, .bool s10]] w false [(true, [(.i .i64), (.i .i64), (.i .i64), (.i .i64), (.i .i64), (.i .i64), (.i .i64), (.i .i64), (.i .i64), (.i .i64), .b])] R :=
  ok_of Tryz_follows Tryz.func10 (fun R => law26_setup.wp s0 s1 s2 s3 s4 s5 s6 s7 s8 s9 s10 w R) (law26_setup.eq s0 s1 s2 s3 s4 s5 s6 s7 s8 s9 s10 w) rfl h
/-! ### node_Node_On -/
set_option maxRecDepth 100000 in
def node_Node_On.wp (n : Option Addr) (raw : Int) (w : World) (R : TR [(false, [(.i .i64)])] → World → Prop) : Prop :=
brB (Option.isNone n) (
R ((2, ()), ()) w) (
ncK n fun a1 =>
stN [.bool true] (a1.add 12) 0 w fun w2 =>
ncK n fun a3 =>
ld1 (.i .u16) (a3.add 13) w2 fun x4 =>
ncK n fun a5 =>
stN [.int .u16 (IntKind.wrap .u16 (x4 + 1))] (a5.add 13) 0 w2 fun w6 =>
ncK n fun a7 =>
ld1 .p (a7.add 14) w6 fun x8 =>
clS Tryz.prog F.tick_Clock_Boot [.pointer x8, .int .u32 raw] w6 true [] fun r9 w10 =>
drK w10 fun w11 =>
ncK n fun a12 =>
ld1 .p (a12.add 15) w11 fun x13 =>
ncK n fun a14 =>
ld1 (.i .u16) (a14.add 13) w11 fun x15 =>
clS Tryz.prog F.flood_Flood_Boot [.pointer x13, .int .u16 x15] w11 true [] fun r16 w17 =>
Hold [] w17 ∧ (
ncK n fun a18 =>
ld1 .p (a18.add 16) w17 fun x19 =>
clS Tryz.prog F.level_Level_Lose [.pointer x19] w17 true [] fun r20 w21 =>
ncK n fun a22 =>
ld1 .p (a22.add 17) w21 fun x23 =>
clS Tryz.prog F.pair_Pair_Boot [.pointer x23] w21 true [] fun r24 w25 =>
ncK n fun a26 =>
ld1 .p (a26.add 18) w25 fun x27 =>
clS Tryz.prog F.source_Source_Drop [.pointer x27] w25 true [] fun r28 w29 =>
ncK n fun a30 =>
clS Tryz.prog F.anchor_Book_Drop [.pointer (some (a30.add 19))] w29 true [] fun r31 w32 =>
ncK n fun a33 =>
ld1 .p (a33.add 26) w32 fun x34 =>
clS Tryz.prog F.event_Log_Clear [.pointer x34] w32 true [] fun r35 w36 =>
ncK n fun a37 =>
ld1 .p (a37.add 27) w36 fun x38 =>
clS Tryz.prog F.ring_Ring_node_job_Clear [.pointer x38] w36 true [] fun r39 w40 =>
R ((0, ()), ()) w40))
set_option maxRecDepth 100000 in
theorem node_Node_On.eq (n : Option Addr) (raw : Int) (w : World) (R : Value → World → Prop) : wpF Tryz.prog Tryz.f11 (.s .n (.s .n (.s .n (.s .n (.s .n (.s (.pl (.tk 0 (.tk 1 (.tk 2 (.tk 3 (.tk 4 (.tk 5 (.tk 6 (.tk 7 (.ef 8 [3, 7] .z)))))))))) .n)))))) [.pointer n, .int .u32 raw] w R = node_Node_On.wp n raw w (fun r w => R (encR false [(false, [(.i .i64)])] r) w) := by kernel_rfl
set_option maxRecDepth 100000 in
theorem node_Node_On.ok {n : Option Addr} {raw : Int} {w : World} {R : TR [(false, [(.i .i64)])] → World → Prop} (h : node_Node_On.wp n raw w R) : clS Tryz.prog F.node_Node_On [.pointer n, .int .u32 raw] w false [(false, [(.i .i64)])] R :=
  ok_of Tryz_follows Tryz.func11 (fun R => node_Node_On.wp n raw w R) (node_Node_On.eq n raw w) rfl h
/-! ### node_Node_Go -/
set_option maxRecDepth 100000 in
def node_Node_Go.wp (n : Option Addr) (ticks : Int) (w : World) (R : TR [(false, [(.i .i64)])] → World → Prop) : Prop :=
clS Tryz.prog F.node_Node_ready [.pointer n] w false [(false, [(.i .i64)])] fun r1 w2 =>
brB (r1.1.1 != 0) (
R ((r1.1.1, ()), ()) w2) (
ncK n fun a3 =>
ld1 .p (a3.add 14) w2 fun x4 =>
clS Tryz.prog F.tick_Clock_Go [.pointer x4, .int .i64 ticks] w2 false [(false, [(.i .i64)])] fun r5 w6 =>
R ((r5.1.1, ()), ()) w6)
set_option maxRecDepth 100000 in
theorem node_Node_Go.eq (n : Option Addr) (ticks : Int) (w : World) (R : Value → World → Prop) : wpF Tryz.prog Tryz.f12 .n [.pointer n, .int .i64 ticks] w R = node_Node_Go.wp n ticks w (fun r w => R (encR false [(false, [(.i .i64)])] r) w) := by kernel_rfl
set_option maxRecDepth 100000 in
theorem node_Node_Go.ok {n : Option Addr} {ticks : Int} {w : World} {R : TR [(false, [(.i .i64)])] → World → Prop} (h : node_Node_Go.wp n ticks w R) : clS Tryz.prog F.node_Node_Go [.pointer n, .int .i64 ticks] w false [(false, [(.i .i64)])] R :=
  ok_of Tryz_follows Tryz.func12 (fun R => node_Node_Go.wp n ticks w R) (node_Node_Go.eq n ticks w) rfl h
/-! ### node_Node_Send -/
set_option maxRecDepth 100000 in
def node_Node_Send.wp (n : Option Addr) (step : Int) (jitter : Int) (w : World) (R : TR [(false, [.sl]), (false, [(.i .i64)])] → World → Prop) : Prop :=
clS Tryz.prog F.node_Node_stamp [.pointer n, .int .i64 jitter] w true [(false, [(.i .i64)]), (false, [(.i .i64)])] fun r1 w2 =>
brB (r1.2.1.1 != 0) (
R (((none, 0, 0), ()), (r1.2.1.1, ()), ()) w2) (
ncK n fun a3 =>
ldN [(.i .i64), (.i .i64), (.i .i64)] (a3.add 5) 0 w2 fun x4 =>
clS Tryz.prog F.duty_Plan_Mine [.agg #[.int .i64 x4.1, .int .i64 x4.2.1, .int .i64 x4.2.2.1], .int .i64 step] w2 false [(false, [.b])] fun r5 w6 =>
brB (!r5.1.1) (
R (((none, 0, 0), ()), (r1.2.1.1, ()), ()) w6) (
alK [.slice none 0 0] T.node_out w6 fun p7 w8 =>
ncK n fun a9 =>
ld1 .p (a9.add 15) w8 fun x10 =>
clS Tryz.prog F.flood_Flood_Beat [.pointer x10, .int .i64 r1.1.1] w8 true [(true, [(.i .i64), (.i .i64), (.i .u16), (.i .u16), (.i .i64), (.i .i64)]), (false, [.b])] fun r11 w12 =>
alK [.int .i64 0, .int .i64 0, .int .u16 0, .int .u16 0, .int .i64 0, .int .i64 0] T.frame_Sync w12 fun p13 w14 =>
stN [.int .i64 r11.1.1, .int .i64 r11.1.2.1, .int .u16 r11.1.2.2.1, .int .u16 r11.1.2.2.2.1, .int .i64 r11.1.2.2.2.2.1, .int .i64 r11.1.2.2.2.2.2.1] p13 0 w14 fun w15 =>
ncK n fun a16 =>
ld1 .p (a16.add 18) w15 fun x17 =>
clS Tryz.prog F.source_Source_Beat [.pointer x17] w15 true [] fun r18 w19 =>
CutT (fun (J20 : Unit → World → Prop) =>
ncK n fun a23 =>
ld1 .p (a23.add 17) w19 fun x24 =>
clS Tryz.prog F.pair_Pair_Beat [.pointer x24] w19 false [(false, [.b])] fun r25 w26 =>
brB r25.1.1 (
ncK n fun a27 =>
ld1 .p (a27.add 16) w26 fun x28 =>
clS Tryz.prog F.level_Level_Lose [.pointer x28] w26 true [] fun r29 w30 =>
J20 (()) w30) (
J20 (()) w26)) (fun (z21 : Unit) w22 => ∀ _ : Nat → Value,
ldN [(.i .i64), (.i .i64), (.i .u16), (.i .u16), (.i .i64), (.i .i64)] p13 0 w22 fun x31 =>
clS Tryz.prog F.node_out_add [.pointer (some p7), .iface T.frame_Sync (.agg #[.int .i64 x31.1, .int .i64 x31.2.1, .int .u16 x31.2.2.1, .int .u16 x31.2.2.2.1, .int .i64 x31.2.2.2.2.1, .int .i64 x31.2.2.2.2.2.1]), .bool r11.2.1.1] w22 true [] fun r32 w33 =>
CutT (fun (J34 : Unit → World → Prop) =>
LoopT (fun (self37 : Unit → World → Prop) (z38 : Unit) w39 => ∀ _ : Nat → Value,
ld1 .sl p7 w39 fun x40 =>
brB (decide ((x40.2.1 : Int) < 3)) (
ncK n fun a41 =>
ld1 .p (a41.add 27) w39 fun x42 =>
clS Tryz.prog F.ring_Ring_node_job_Pop [.pointer x42] w39 true [(false, [.any]), (false, [.b])] fun r43 w44 =>
brB (!r43.2.1.1) (
J34 (()) w44) (
ivK Tryz.prog r43.1.1 "angelus/node.made" [.pointer n, .int .i64 r1.1.1] w44 true [(false, [.any]), (false, [.b])] fun r45 w46 =>
clS Tryz.prog F.node_out_add [.pointer (some p7), r45.1.1, .bool r45.2.1.1] w46 true [] fun r47 w48 =>
self37 (()) w48)) (
J34 (()) w39)) (()) w33) (fun (z35 : Unit) w36 => ∀ _ : Nat → Value,
CutT (fun (J49 : ((Bool) × Unit) → World → Prop) =>
ncK n fun a52 =>
ld1 .p (a52.add 15) w36 fun x53 =>
clS Tryz.prog F.flood_Flood_Synced [.pointer x53] w36 false [(false, [.b])] fun r54 w55 =>
brB (!r54.1.1) (
ld1 .sl p7 w55 fun x56 =>
J49 (decide ((x56.2.1 : Int) < 3), ()) w55) (
J49 (false, ()) w55)) (fun (z50 : (Bool) × Unit) w51 => ∀ _ : Nat → Value,
brB z50.1 (
clS Tryz.prog F.node_Node_word [.pointer n, .int .i64 r1.1.1] w51 true [(false, [.any]), (false, [.b])] fun r57 w58 =>
clS Tryz.prog F.node_out_add [.pointer (some p7), r57.1.1, .bool r57.2.1.1] w58 true [] fun r59 w60 =>
ld1 .sl p7 w60 fun x61 =>
R (((x61.1, x61.2.1, x61.2.2), ()), (0, ()), ()) w60) (
ld1 .sl p7 w51 fun x62 =>
R (((x62.1, x62.2.1, x62.2.2), ()), (0, ()), ()) w51))))))
set_option maxRecDepth 100000 in
theorem node_Node_Send.eq (n : Option Addr) (step : Int) (jitter : Int) (w : World) (R : Value → World → Prop) : wpF Tryz.prog Tryz.f13 (.s .n (.s .n (.s .n (.s .n (.s .n (.s .n (.ct [] .n (.s .n (.ct [] (.lp [] .n) (.s (.ct [(94, .b)] .n .n) .n)))))))))) [.pointer n, .int .i64 step, .int .i64 jitter] w R = node_Node_Send.wp n step jitter w (fun r w => R (encR true [(false, [.sl]), (false, [(.i .i64)])] r) w) := by kernel_rfl
set_option maxRecDepth 100000 in
theorem node_Node_Send.ok {n : Option Addr} {step : Int} {jitter : Int} {w : World} {R : TR [(false, [.sl]), (false, [(.i .i64)])] → World → Prop} (h : node_Node_Send.wp n step jitter w R) : clS Tryz.prog F.node_Node_Send [.pointer n, .int .i64 step, .int .i64 jitter] w true [(false, [.sl]), (false, [(.i .i64)])] R :=
  ok_of Tryz_follows Tryz.func13 (fun R => node_Node_Send.wp n step jitter w R) (node_Node_Send.eq n step jitter w) rfl h
/-! ### node_Node_Status -/
set_option maxRecDepth 100000 in
def node_Node_Status.wp (n : Option Addr) (w : World) (R : TR [(true, [.b, (.i .u16), (.i .i64), (.i .i64), .b, .b, (.i .i64), (.i .i64), (.i .i64), .b, (.i .i64), (.i .i64)])] → World → Prop) : Prop :=
alK [.bool false, .int .u16 0, .int .i64 0, .int .i64 0, .bool false, .bool false, .int .i64 0, .int .i64 0, .int .i64 0, .bool false, .int .i64 0, .int .i64 0] T.node_Status w fun p1 w2 =>
brB (Option.isNone n) (
stN [.bool false, .int .u16 0, .int .i64 0, .int .i64 0, .bool false, .bool false, .int .i64 0, .int .i64 0, .int .i64 0, .bool false, .int .i64 0, .int .i64 0] p1 0 w2 fun w3 =>
ldN [.b, (.i .u16), (.i .i64), (.i .i64), .b, .b, (.i .i64), (.i .i64), (.i .i64), .b, (.i .i64), (.i .i64)] p1 0 w3 fun x4 =>
R ((x4.1, x4.2.1, x4.2.2.1, x4.2.2.2.1, x4.2.2.2.2.1, x4.2.2.2.2.2.1, x4.2.2.2.2.2.2.1, x4.2.2.2.2.2.2.2.1, x4.2.2.2.2.2.2.2.2.1, x4.2.2.2.2.2.2.2.2.2.1, x4.2.2.2.2.2.2.2.2.2.2.1, x4.2.2.2.2.2.2.2.2.2.2.2.1, ()), ()) w3) (
ncK n fun a5 =>
ld1 .b (a5.add 12) w2 fun x6 =>
brB (!x6) (
ncK n fun a7 =>
ld1 (.i .u16) (a7.add 13) w2 fun x8 =>
stN [.bool false, .int .u16 x8, .int .i64 0, .int .i64 0, .bool false, .bool false, .int .i64 0, .int .i64 0, .int .i64 0, .bool false, .int .i64 0, .int .i64 0] p1 0 w2 fun w9 =>
ldN [.b, (.i .u16), (.i .i64), (.i .i64), .b, .b, (.i .i64), (.i .i64), (.i .i64), .b, (.i .i64), (.i .i64)] p1 0 w9 fun x10 =>
R ((x10.1, x10.2.1, x10.2.2.1, x10.2.2.2.1, x10.2.2.2.2.1, x10.2.2.2.2.2.1, x10.2.2.2.2.2.2.1, x10.2.2.2.2.2.2.2.1, x10.2.2.2.2.2.2.2.2.1, x10.2.2.2.2.2.2.2.2.2.1, x10.2.2.2.2.2.2.2.2.2.2.1, x10.2.2.2.2.2.2.2.2.2.2.2.1, ()), ()) w9) (
drK w2 fun w11 =>
ncK n fun a12 =>
ld1 (.i .u16) (a12.add 13) w11 fun x13 =>
ncK n fun a14 =>
ld1 .p (a14.add 14) w11 fun x15 =>
ncK n fun a16 =>
ld1 .p (a16.add 15) w11 fun x17 =>
ncK x17 fun a18 =>
ld1 .p a18 w11 fun x19 =>
ncK n fun a20 =>
ld1 .p (a20.add 15) w11 fun x21 =>
ncK x21 fun a22 =>
ld1 .p a22 w11 fun x23 =>
ncK n fun a24 =>
ld1 .p (a24.add 15) w11 fun x25 =>
ncK n fun a26 =>
ld1 .p (a26.add 15) w11 fun x27 =>
ncK n fun a28 =>
ld1 .p (a28.add 16) w11 fun x29 =>
ncK n fun a30 =>
ld1 .p (a30.add 16) w11 fun x31 =>
ncK n fun a32 =>
ld1 .p (a32.add 17) w11 fun x33 =>
ncK n fun a34 =>
ld1 .p (a34.add 27) w11 fun x35 =>
ncK n fun a36 =>
ld1 .p (a36.add 26) w11 fun x37 =>
clS Tryz.prog F.tick_Clock_Now [.pointer x15] w11 false [(false, [(.i .i64)])] fun r38 w39 =>
Hold [(58, (a36.add 26), (w11.cell? (a36.add 26)).getD undef), (53, (a34.add 27), (w11.cell? (a34.add 27)).getD undef), (48, (a32.add 17), (w11.cell? (a32.add 17)).getD undef), (43, (a30.add 16), (w11.cell? (a30.add 16)).getD undef), (38, (a28.add 16), (w11.cell? (a28.add 16)).getD undef), (33, (a26.add 15), (w11.cell? (a26.add 15)).getD undef), (28, (a24.add 15), (w11.cell? (a24.add 15)).getD undef), (23, a22, (w11.cell? a22).getD undef), (20, (a20.add 15), (w11.cell? (a20.add 15)).getD undef), (15, a18, (w11.cell? a18).getD undef), (12, (a16.add 15), (w11.cell? (a16.add 15)).getD undef), (7, (a14.add 14), (w11.cell? (a14.add 14)).getD undef), (3, (a12.add 13), (w11.cell? (a12.add 13)).getD undef)] w39 ∧ (
clS Tryz.prog F.elect_Elect_Root [.pointer x19] w39 false [(false, [(.i .i64)])] fun r40 w41 =>
Hold [(58, (a36.add 26), (w11.cell? (a36.add 26)).getD undef), (53, (a34.add 27), (w11.cell? (a34.add 27)).getD undef), (48, (a32.add 17), (w11.cell? (a32.add 17)).getD undef), (43, (a30.add 16), (w11.cell? (a30.add 16)).getD undef), (38, (a28.add 16), (w11.cell? (a28.add 16)).getD undef), (33, (a26.add 15), (w11.cell? (a26.add 15)).getD undef), (28, (a24.add 15), (w11.cell? (a24.add 15)).getD undef), (23, a22, (w11.cell? a22).getD undef), (20, (a20.add 15), (w11.cell? (a20.add 15)).getD undef), (15, a18, (w11.cell? a18).getD undef), (12, (a16.add 15), (w11.cell? (a16.add 15)).getD undef), (7, (a14.add 14), (w11.cell? (a14.add 14)).getD undef), (3, (a12.add 13), (w11.cell? (a12.add 13)).getD undef)] w41 ∧ (
clS Tryz.prog F.elect_Elect_Mine [.pointer x23] w41 false [(false, [.b])] fun r42 w43 =>
Hold [(58, (a36.add 26), (w11.cell? (a36.add 26)).getD undef), (53, (a34.add 27), (w11.cell? (a34.add 27)).getD undef), (48, (a32.add 17), (w11.cell? (a32.add 17)).getD undef), (43, (a30.add 16), (w11.cell? (a30.add 16)).getD undef), (38, (a28.add 16), (w11.cell? (a28.add 16)).getD undef), (33, (a26.add 15), (w11.cell? (a26.add 15)).getD undef), (28, (a24.add 15), (w11.cell? (a24.add 15)).getD undef), (23, a22, (w11.cell? a22).getD undef), (20, (a20.add 15), (w11.cell? (a20.add 15)).getD undef), (15, a18, (w11.cell? a18).getD undef), (12, (a16.add 15), (w11.cell? (a16.add 15)).getD undef), (7, (a14.add 14), (w11.cell? (a14.add 14)).getD undef), (3, (a12.add 13), (w11.cell? (a12.add 13)).getD undef)] w43 ∧ (
clS Tryz.prog F.flood_Flood_Synced [.pointer x25] w43 false [(false, [.b])] fun r44 w45 =>
Hold [(58, (a36.add 26), (w11.cell? (a36.add 26)).getD undef), (53, (a34.add 27), (w11.cell? (a34.add 27)).getD undef), (48, (a32.add 17), (w11.cell? (a32.add 17)).getD undef), (43, (a30.add 16), (w11.cell? (a30.add 16)).getD undef), (38, (a28.add 16), (w11.cell? (a28.add 16)).getD undef), (33, (a26.add 15), (w11.cell? (a26.add 15)).getD undef), (28, (a24.add 15), (w11.cell? (a24.add 15)).getD undef), (23, a22, (w11.cell? a22).getD undef), (20, (a20.add 15), (w11.cell? (a20.add 15)).getD undef), (15, a18, (w11.cell? a18).getD undef), (12, (a16.add 15), (w11.cell? (a16.add 15)).getD undef), (7, (a14.add 14), (w11.cell? (a14.add 14)).getD undef), (3, (a12.add 13), (w11.cell? (a12.add 13)).getD undef)] w45 ∧ (
clS Tryz.prog F.flood_Flood_Entries [.pointer x27] w45 false [(false, [(.i .i64)])] fun r46 w47 =>
Hold [(58, (a36.add 26), (w11.cell? (a36.add 26)).getD undef), (53, (a34.add 27), (w11.cell? (a34.add 27)).getD undef), (48, (a32.add 17), (w11.cell? (a32.add 17)).getD undef), (43, (a30.add 16), (w11.cell? (a30.add 16)).getD undef), (38, (a28.add 16), (w11.cell? (a28.add 16)).getD undef), (33, (a26.add 15), (w11.cell? (a26.add 15)).getD undef), (28, (a24.add 15), (w11.cell? (a24.add 15)).getD undef), (23, a22, (w11.cell? a22).getD undef), (20, (a20.add 15), (w11.cell? (a20.add 15)).getD undef), (15, a18, (w11.cell? a18).getD undef), (12, (a16.add 15), (w11.cell? (a16.add 15)).getD undef), (7, (a14.add 14), (w11.cell? (a14.add 14)).getD undef), (3, (a12.add 13), (w11.cell? (a12.add 13)).getD undef)] w47 ∧ (
clS Tryz.prog F.level_Level_Level [.pointer x29] w47 false [(false, [(.i .i64)])] fun r48 w49 =>
Hold [(58, (a36.add 26), (w11.cell? (a36.add 26)).getD undef), (53, (a34.add 27), (w11.cell? (a34.add 27)).getD undef), (48, (a32.add 17), (w11.cell? (a32.add 17)).getD undef), (43, (a30.add 16), (w11.cell? (a30.add 16)).getD undef), (38, (a28.add 16), (w11.cell? (a28.add 16)).getD undef), (33, (a26.add 15), (w11.cell? (a26.add 15)).getD undef), (28, (a24.add 15), (w11.cell? (a24.add 15)).getD undef), (23, a22, (w11.cell? a22).getD undef), (20, (a20.add 15), (w11.cell? (a20.add 15)).getD undef), (15, a18, (w11.cell? a18).getD undef), (12, (a16.add 15), (w11.cell? (a16.add 15)).getD undef), (7, (a14.add 14), (w11.cell? (a14.add 14)).getD undef), (3, (a12.add 13), (w11.cell? (a12.add 13)).getD undef)] w49 ∧ (
clS Tryz.prog F.level_Level_Parent [.pointer x31] w49 false [(false, [(.i .i64)])] fun r50 w51 =>
Hold [(58, (a36.add 26), (w11.cell? (a36.add 26)).getD undef), (53, (a34.add 27), (w11.cell? (a34.add 27)).getD undef), (48, (a32.add 17), (w11.cell? (a32.add 17)).getD undef), (43, (a30.add 16), (w11.cell? (a30.add 16)).getD undef), (38, (a28.add 16), (w11.cell? (a28.add 16)).getD undef), (33, (a26.add 15), (w11.cell? (a26.add 15)).getD undef), (28, (a24.add 15), (w11.cell? (a24.add 15)).getD undef), (23, a22, (w11.cell? a22).getD undef), (20, (a20.add 15), (w11.cell? (a20.add 15)).getD undef), (15, a18, (w11.cell? a18).getD undef), (12, (a16.add 15), (w11.cell? (a16.add 15)).getD undef), (7, (a14.add 14), (w11.cell? (a14.add 14)).getD undef), (3, (a12.add 13), (w11.cell? (a12.add 13)).getD undef)] w51 ∧ (
clS Tryz.prog F.pair_Pair_Waits [.pointer x33] w51 false [(false, [.b])] fun r52 w53 =>
Hold [(58, (a36.add 26), (w11.cell? (a36.add 26)).getD undef), (53, (a34.add 27), (w11.cell? (a34.add 27)).getD undef), (48, (a32.add 17), (w11.cell? (a32.add 17)).getD undef), (43, (a30.add 16), (w11.cell? (a30.add 16)).getD undef), (38, (a28.add 16), (w11.cell? (a28.add 16)).getD undef), (33, (a26.add 15), (w11.cell? (a26.add 15)).getD undef), (28, (a24.add 15), (w11.cell? (a24.add 15)).getD undef), (23, a22, (w11.cell? a22).getD undef), (20, (a20.add 15), (w11.cell? (a20.add 15)).getD undef), (15, a18, (w11.cell? a18).getD undef), (12, (a16.add 15), (w11.cell? (a16.add 15)).getD undef), (7, (a14.add 14), (w11.cell? (a14.add 14)).getD undef), (3, (a12.add 13), (w11.cell? (a12.add 13)).getD undef)] w53 ∧ (
clS Tryz.prog F.ring_Ring_node_job_Len [.pointer x35] w53 false [(false, [(.i .i64)])] fun r54 w55 =>
Hold [(58, (a36.add 26), (w11.cell? (a36.add 26)).getD undef), (53, (a34.add 27), (w11.cell? (a34.add 27)).getD undef), (48, (a32.add 17), (w11.cell? (a32.add 17)).getD undef), (43, (a30.add 16), (w11.cell? (a30.add 16)).getD undef), (38, (a28.add 16), (w11.cell? (a28.add 16)).getD undef), (33, (a26.add 15), (w11.cell? (a26.add 15)).getD undef), (28, (a24.add 15), (w11.cell? (a24.add 15)).getD undef), (23, a22, (w11.cell? a22).getD undef), (20, (a20.add 15), (w11.cell? (a20.add 15)).getD undef), (15, a18, (w11.cell? a18).getD undef), (12, (a16.add 15), (w11.cell? (a16.add 15)).getD undef), (7, (a14.add 14), (w11.cell? (a14.add 14)).getD undef), (3, (a12.add 13), (w11.cell? (a12.add 13)).getD undef)] w55 ∧ (
clS Tryz.prog F.event_Log_Len [.pointer x37] w55 false [(false, [(.i .i64)])] fun r56 w57 =>
Hold [(53, (a34.add 27), (w11.cell? (a34.add 27)).getD undef), (48, (a32.add 17), (w11.cell? (a32.add 17)).getD undef), (43, (a30.add 16), (w11.cell? (a30.add 16)).getD undef), (38, (a28.add 16), (w11.cell? (a28.add 16)).getD undef), (33, (a26.add 15), (w11.cell? (a26.add 15)).getD undef), (28, (a24.add 15), (w11.cell? (a24.add 15)).getD undef), (23, a22, (w11.cell? a22).getD undef), (20, (a20.add 15), (w11.cell? (a20.add 15)).getD undef), (15, a18, (w11.cell? a18).getD undef), (12, (a16.add 15), (w11.cell? (a16.add 15)).getD undef), (7, (a14.add 14), (w11.cell? (a14.add 14)).getD undef), (3, (a12.add 13), (w11.cell? (a12.add 13)).getD undef)] w57 ∧ (
stN [.bool true, .int .u16 x13, .int .i64 r38.1.1, .int .i64 r40.1.1, .bool r42.1.1, .bool r44.1.1, .int .i64 r46.1.1, .int .i64 r48.1.1, .int .i64 r50.1.1, .bool r52.1.1, .int .i64 r54.1.1, .int .i64 r56.1.1] p1 0 w57 fun w58 =>
Hold [] w58 ∧ (
ldN [.b, (.i .u16), (.i .i64), (.i .i64), .b, .b, (.i .i64), (.i .i64), (.i .i64), .b, (.i .i64), (.i .i64)] p1 0 w58 fun x59 =>
R ((x59.1, x59.2.1, x59.2.2.1, x59.2.2.2.1, x59.2.2.2.2.1, x59.2.2.2.2.2.1, x59.2.2.2.2.2.2.1, x59.2.2.2.2.2.2.2.1, x59.2.2.2.2.2.2.2.2.1, x59.2.2.2.2.2.2.2.2.2.1, x59.2.2.2.2.2.2.2.2.2.2.1, x59.2.2.2.2.2.2.2.2.2.2.2.1, ()), ()) w58)))))))))))))
set_option maxRecDepth 100000 in
theorem node_Node_Status.eq (n : Option Addr) (w : World) (R : Value → World → Prop) : wpF Tryz.prog Tryz.f14 (.s .n (.s .n (.s .n (.s (.pl (.tk 0 (.tk 1 (.tk 2 (.tk 3 (.tk 4 (.tk 5 (.tk 6 (.tk 7 (.tk 9 (.tk 10 (.tk 11 (.tk 12 (.tk 13 (.tk 14 (.tk 15 (.tk 17 (.tk 18 (.tk 19 (.tk 20 (.tk 21 (.tk 22 (.tk 23 (.tk 25 (.tk 26 (.tk 27 (.tk 28 (.tk 30 (.tk 31 (.tk 32 (.tk 33 (.tk 35 (.tk 36 (.tk 37 (.tk 38 (.tk 40 (.tk 41 (.tk 42 (.tk 43 (.tk 45 (.tk 46 (.tk 47 (.tk 48 (.tk 50 (.tk 51 (.tk 52 (.tk 53 (.tk 55 (.tk 56 (.tk 57 (.tk 58 (.ef 8 [] (.ef 16 [] (.ef 24 [] (.ef 29 [] (.ef 34 [] (.ef 39 [] (.ef 44 [] (.ef 49 [] (.ef 54 [] (.ef 59 [58] (.tk 60 (.ef 61 [3, 7, 12, 15, 20, 23, 28, 33, 38, 43, 48, 53] .z))))))))))))))))))))))))))))))))))))))))))))))))))))))))))))))) .n)))) [.pointer n] w R = node_Node_Status.wp n w (fun r w => R (encR false [(true, [.b, (.i .u16), (.i .i64), (.i .i64), .b, .b, (.i .i64), (.i .i64), (.i .i64), .b, (.i .i64), (.i .i64)])] r) w) := by kernel_rfl
set_option maxRecDepth 100000 in
theorem node_Node_Status.ok {n : Option Addr} {w : World} {R : TR [(true, [.b, (.i .u16), (.i .i64), (.i .i64), .b, .b, (.i .i64), (.i .i64), (.i .i64), .b, (.i .i64), (.i .i64)])] → World → Prop} (h : node_Node_Status.wp n w R) : clS Tryz.prog F.node_Node_Status [.pointer n] w false [(true, [.b, (.i .u16), (.i .i64), (.i .i64), .b, .b, (.i .i64), (.i .i64), (.i .i64), .b, (.i .i64), (.i .i64)])] R :=
  ok_of Tryz_follows Tryz.func14 (fun R => node_Node_Status.wp n w R) (node_Node_Status.eq n w) rfl h
/-! ### law26_sent -/
set_option maxRecDepth 100000 in
def law26_sent.wp (b : Option Addr × Nat × Nat) (list : Option Addr × Nat × Nat) (w : World) (R : TR [(false, [.b])] → World → Prop) : Prop :=
brB ((b.2.1 : Int) != (list.2.1 : Int)) (
R ((false, ()), ()) w) (
LoopT (fun (self1 : ((Int) × Unit) → World → Prop) (z2 : (Int) × Unit) w3 => ∀ _ : Nat → Value,
brB (decide (z2.1 < (b.2.1 : Int))) (
drK w3 fun w4 =>
ixK b.1 b.2.1 z2.1 fun a5 =>
ld1 .sl (a5.add (z2.1.toNat * 1)) w4 fun x6 =>
ixK list.1 list.2.1 z2.1 fun a7 =>
ldN [(.i .i64), (.i .i64), (.i .i64), (.i .i64), (.i .u16), (.i .u16), (.i .i64), (.i .i64), (.i .i64), (.i .i64), (.i .i64), (.i .i64), (.i .i64), (.i .i64)] (a7.add (z2.1.toNat * 14)) 0 w4 fun x8 =>
(
bsK Tryz.prog (.slice x6.1 x6.2.1 x6.2.2) w4 fun s9 w10 =>
Hold [(8, ((a7.add (z2.1.toNat * 14)).add 0), (w4.cell? ((a7.add (z2.1.toNat * 14)).add 0)).getD undef), (8, ((a7.add (z2.1.toNat * 14)).add 1), (w4.cell? ((a7.add (z2.1.toNat * 14)).add 1)).getD undef), (8, ((a7.add (z2.1.toNat * 14)).add 2), (w4.cell? ((a7.add (z2.1.toNat * 14)).add 2)).getD undef), (8, ((a7.add (z2.1.toNat * 14)).add 3), (w4.cell? ((a7.add (z2.1.toNat * 14)).add 3)).getD undef), (8, ((a7.add (z2.1.toNat * 14)).add 4), (w4.cell? ((a7.add (z2.1.toNat * 14)).add 4)).getD undef), (8, ((a7.add (z2.1.toNat * 14)).add 5), (w4.cell? ((a7.add (z2.1.toNat * 14)).add 5)).getD undef), (8, ((a7.add (z2.1.toNat * 14)).add 6), (w4.cell? ((a7.add (z2.1.toNat * 14)).add 6)).getD undef), (8, ((a7.add (z2.1.toNat * 14)).add 7), (w4.cell? ((a7.add (z2.1.toNat * 14)).add 7)).getD undef), (8, ((a7.add (z2.1.toNat * 14)).add 8), (w4.cell? ((a7.add (z2.1.toNat * 14)).add 8)).getD undef), (8, ((a7.add (z2.1.toNat * 14)).add 9), (w4.cell? ((a7.add (z2.1.toNat * 14)).add 9)).getD undef), (8, ((a7.add (z2.1.toNat * 14)).add 10), (w4.cell? ((a7.add (z2.1.toNat * 14)).add 10)).getD undef), (8, ((a7.add (z2.1.toNat * 14)).add 11), (w4.cell? ((a7.add (z2.1.toNat * 14)).add 11)).getD undef), (8, ((a7.add (z2.1.toNat * 14)).add 12), (w4.cell? ((a7.add (z2.1.toNat * 14)).add 12)).getD undef), (8, ((a7.add (z2.1.toNat * 14)).add 13), (w4.cell? ((a7.add (z2.1.toNat * 14)).add 13)).getD undef), (3, (a5.add (z2.1.toNat * 1)), (w4.cell? (a5.add (z2.1.toNat * 1))).getD undef)] w10 ∧ (
clS Tryz.prog F.ref05_Bytes [.agg #[.int .i64 x8.1, .int .i64 x8.2.1, .int .i64 x8.2.2.1, .int .i64 x8.2.2.2.1, .int .u16 x8.2.2.2.2.1, .int .u16 x8.2.2.2.2.2.1, .int .i64 x8.2.2.2.2.2.2.1, .int .i64 x8.2.2.2.2.2.2.2.1, .int .i64 x8.2.2.2.2.2.2.2.2.1, .int .i64 x8.2.2.2.2.2.2.2.2.2.1, .int .i64 x8.2.2.2.2.2.2.2.2.2.2.1, .int .i64 x8.2.2.2.2.2.2.2.2.2.2.2.1, .int .i64 x8.2.2.2.2.2.2.2.2.2.2.2.2.1, .int .i64 x8.2.2.2.2.2.2.2.2.2.2.2.2.2.1]] w10 false [(false, [.sl])] fun r11 w12 =>
Hold [(8, ((a7.add (z2.1.toNat * 14)).add 0), (w4.cell? ((a7.add (z2.1.toNat * 14)).add 0)).getD undef), (8, ((a7.add (z2.1.toNat * 14)).add 1), (w4.cell? ((a7.add (z2.1.toNat * 14)).add 1)).getD undef), (8, ((a7.add (z2.1.toNat * 14)).add 2), (w4.cell? ((a7.add (z2.1.toNat * 14)).add 2)).getD undef), (8, ((a7.add (z2.1.toNat * 14)).add 3), (w4.cell? ((a7.add (z2.1.toNat * 14)).add 3)).getD undef), (8, ((a7.add (z2.1.toNat * 14)).add 4), (w4.cell? ((a7.add (z2.1.toNat * 14)).add 4)).getD undef), (8, ((a7.add (z2.1.toNat * 14)).add 5), (w4.cell? ((a7.add (z2.1.toNat * 14)).add 5)).getD undef), (8, ((a7.add (z2.1.toNat * 14)).add 6), (w4.cell? ((a7.add (z2.1.toNat * 14)).add 6)).getD undef), (8, ((a7.add (z2.1.toNat * 14)).add 7), (w4.cell? ((a7.add (z2.1.toNat * 14)).add 7)).getD undef), (8, ((a7.add (z2.1.toNat * 14)).add 8), (w4.cell? ((a7.add (z2.1.toNat * 14)).add 8)).getD undef), (8, ((a7.add (z2.1.toNat * 14)).add 9), (w4.cell? ((a7.add (z2.1.toNat * 14)).add 9)).getD undef), (8, ((a7.add (z2.1.toNat * 14)).add 10), (w4.cell? ((a7.add (z2.1.toNat * 14)).add 10)).getD undef), (8, ((a7.add (z2.1.toNat * 14)).add 11), (w4.cell? ((a7.add (z2.1.toNat * 14)).add 11)).getD undef), (8, ((a7.add (z2.1.toNat * 14)).add 12), (w4.cell? ((a7.add (z2.1.toNat * 14)).add 12)).getD undef), (8, ((a7.add (z2.1.toNat * 14)).add 13), (w4.cell? ((a7.add (z2.1.toNat * 14)).add 13)).getD undef), (3, (a5.add (z2.1.toNat * 1)), (w4.cell? (a5.add (z2.1.toNat * 1))).getD undef)] w12 ∧ (
bsK Tryz.prog (.slice r11.1.1.1 r11.1.1.2.1 r11.1.1.2.2) w12 fun s13 w14 =>
Hold [(8, ((a7.add (z2.1.toNat * 14)).add 0), (w4.cell? ((a7.add (z2.1.toNat * 14)).add 0)).getD undef), (8, ((a7.add (z2.1.toNat * 14)).add 1), (w4.cell? ((a7.add (z2.1.toNat * 14)).add 1)).getD undef), (8, ((a7.add (z2.1.toNat * 14)).add 2), (w4.cell? ((a7.add (z2.1.toNat * 14)).add 2)).getD undef), (8, ((a7.add (z2.1.toNat * 14)).add 3), (w4.cell? ((a7.add (z2.1.toNat * 14)).add 3)).getD undef), (8, ((a7.add (z2.1.toNat * 14)).add 4), (w4.cell? ((a7.add (z2.1.toNat * 14)).add 4)).getD undef), (8, ((a7.add (z2.1.toNat * 14)).add 5), (w4.cell? ((a7.add (z2.1.toNat * 14)).add 5)).getD undef), (8, ((a7.add (z2.1.toNat * 14)).add 6), (w4.cell? ((a7.add (z2.1.toNat * 14)).add 6)).getD undef), (8, ((a7.add (z2.1.toNat * 14)).add 7), (w4.cell? ((a7.add (z2.1.toNat * 14)).add 7)).getD undef), (8, ((a7.add (z2.1.toNat * 14)).add 8), (w4.cell? ((a7.add (z2.1.toNat * 14)).add 8)).getD undef), (8, ((a7.add (z2.1.toNat * 14)).add 9), (w4.cell? ((a7.add (z2.1.toNat * 14)).add 9)).getD undef), (8, ((a7.add (z2.1.toNat * 14)).add 10), (w4.cell? ((a7.add (z2.1.toNat * 14)).add 10)).getD undef), (8, ((a7.add (z2.1.toNat * 14)).add 11), (w4.cell? ((a7.add (z2.1.toNat * 14)).add 11)).getD undef), (8, ((a7.add (z2.1.toNat * 14)).add 12), (w4.cell? ((a7.add (z2.1.toNat * 14)).add 12)).getD undef), (8, ((a7.add (z2.1.toNat * 14)).add 13), (w4.cell? ((a7.add (z2.1.toNat * 14)).add 13)).getD undef), (3, (a5.add (z2.1.toNat * 1)), (w4.cell? (a5.add (z2.1.toNat * 1))).getD undef)] w14 ∧ (
brB (!(s9 == s13)) (
R ((false, ()), ()) w14) (
self1 (IntKind.wrap .i64 (z2.1 + 1), ()) w14))))) ∧ (
clS Tryz.prog F.ref05_Bytes [.agg #[.int .i64 x8.1, .int .i64 x8.2.1, .int .i64 x8.2.2.1, .int .i64 x8.2.2.2.1, .int .u16 x8.2.2.2.2.1, .int .u16 x8.2.2.2.2.2.1, .int .i64 x8.2.2.2.2.2.2.1, .int .i64 x8.2.2.2.2.2.2.2.1, .int .i64 x8.2.2.2.2.2.2.2.2.1, .int .i64 x8.2.2.2.2.2.2.2.2.2.1, .int .i64 x8.2.2.2.2.2.2.2.2.2.2.1, .int .i64 x8.2.2.2.2.2.2.2.2.2.2.2.1, .int .i64 x8.2.2.2.2.2.2.2.2.2.2.2.2.1, .int .i64 x8.2.2.2.2.2.2.2.2.2.2.2.2.2.1]] w4 false [(false, [.sl])] fun r15 w16 =>
Hold [(8, ((a7.add (z2.1.toNat * 14)).add 0), (w4.cell? ((a7.add (z2.1.toNat * 14)).add 0)).getD undef), (8, ((a7.add (z2.1.toNat * 14)).add 1), (w4.cell? ((a7.add (z2.1.toNat * 14)).add 1)).getD undef), (8, ((a7.add (z2.1.toNat * 14)).add 2), (w4.cell? ((a7.add (z2.1.toNat * 14)).add 2)).getD undef), (8, ((a7.add (z2.1.toNat * 14)).add 3), (w4.cell? ((a7.add (z2.1.toNat * 14)).add 3)).getD undef), (8, ((a7.add (z2.1.toNat * 14)).add 4), (w4.cell? ((a7.add (z2.1.toNat * 14)).add 4)).getD undef), (8, ((a7.add (z2.1.toNat * 14)).add 5), (w4.cell? ((a7.add (z2.1.toNat * 14)).add 5)).getD undef), (8, ((a7.add (z2.1.toNat * 14)).add 6), (w4.cell? ((a7.add (z2.1.toNat * 14)).add 6)).getD undef), (8, ((a7.add (z2.1.toNat * 14)).add 7), (w4.cell? ((a7.add (z2.1.toNat * 14)).add 7)).getD undef), (8, ((a7.add (z2.1.toNat * 14)).add 8), (w4.cell? ((a7.add (z2.1.toNat * 14)).add 8)).getD undef), (8, ((a7.add (z2.1.toNat * 14)).add 9), (w4.cell? ((a7.add (z2.1.toNat * 14)).add 9)).getD undef), (8, ((a7.add (z2.1.toNat * 14)).add 10), (w4.cell? ((a7.add (z2.1.toNat * 14)).add 10)).getD undef), (8, ((a7.add (z2.1.toNat * 14)).add 11), (w4.cell? ((a7.add (z2.1.toNat * 14)).add 11)).getD undef), (8, ((a7.add (z2.1.toNat * 14)).add 12), (w4.cell? ((a7.add (z2.1.toNat * 14)).add 12)).getD undef), (8, ((a7.add (z2.1.toNat * 14)).add 13), (w4.cell? ((a7.add (z2.1.toNat * 14)).add 13)).getD undef), (3, (a5.add (z2.1.toNat * 1)), (w4.cell? (a5.add (z2.1.toNat * 1))).getD undef)] w16 ∧ (
(
bsK Tryz.prog (.slice x6.1 x6.2.1 x6.2.2) w16 fun s17 w18 =>
Hold [(8, ((a7.add (z2.1.toNat * 14)).add 0), (w4.cell? ((a7.add (z2.1.toNat * 14)).add 0)).getD undef), (8, ((a7.add (z2.1.toNat * 14)).add 1), (w4.cell? ((a7.add (z2.1.toNat * 14)).add 1)).getD undef), (8, ((a7.add (z2.1.toNat * 14)).add 2), (w4.cell? ((a7.add (z2.1.toNat * 14)).add 2)).getD undef), (8, ((a7.add (z2.1.toNat * 14)).add 3), (w4.cell? ((a7.add (z2.1.toNat * 14)).add 3)).getD undef), (8, ((a7.add (z2.1.toNat * 14)).add 4), (w4.cell? ((a7.add (z2.1.toNat * 14)).add 4)).getD undef), (8, ((a7.add (z2.1.toNat * 14)).add 5), (w4.cell? ((a7.add (z2.1.toNat * 14)).add 5)).getD undef), (8, ((a7.add (z2.1.toNat * 14)).add 6), (w4.cell? ((a7.add (z2.1.toNat * 14)).add 6)).getD undef), (8, ((a7.add (z2.1.toNat * 14)).add 7), (w4.cell? ((a7.add (z2.1.toNat * 14)).add 7)).getD undef), (8, ((a7.add (z2.1.toNat * 14)).add 8), (w4.cell? ((a7.add (z2.1.toNat * 14)).add 8)).getD undef), (8, ((a7.add (z2.1.toNat * 14)).add 9), (w4.cell? ((a7.add (z2.1.toNat * 14)).add 9)).getD undef), (8, ((a7.add (z2.1.toNat * 14)).add 10), (w4.cell? ((a7.add (z2.1.toNat * 14)).add 10)).getD undef), (8, ((a7.add (z2.1.toNat * 14)).add 11), (w4.cell? ((a7.add (z2.1.toNat * 14)).add 11)).getD undef), (8, ((a7.add (z2.1.toNat * 14)).add 12), (w4.cell? ((a7.add (z2.1.toNat * 14)).add 12)).getD undef), (8, ((a7.add (z2.1.toNat * 14)).add 13), (w4.cell? ((a7.add (z2.1.toNat * 14)).add 13)).getD undef), (3, (a5.add (z2.1.toNat * 1)), (w4.cell? (a5.add (z2.1.toNat * 1))).getD undef)] w18 ∧ (
bsK Tryz.prog (.slice r15.1.1.1 r15.1.1.2.1 r15.1.1.2.2) w18 fun s19 w20 =>
Hold [(8, ((a7.add (z2.1.toNat * 14)).add 0), (w4.cell? ((a7.add (z2.1.toNat * 14)).add 0)).getD undef), (8, ((a7.add (z2.1.toNat * 14)).add 1), (w4.cell? ((a7.add (z2.1.toNat * 14)).add 1)).getD undef), (8, ((a7.add (z2.1.toNat * 14)).add 2), (w4.cell? ((a7.add (z2.1.toNat * 14)).add 2)).getD undef), (8, ((a7.add (z2.1.toNat * 14)).add 3), (w4.cell? ((a7.add (z2.1.toNat * 14)).add 3)).getD undef), (8, ((a7.add (z2.1.toNat * 14)).add 4), (w4.cell? ((a7.add (z2.1.toNat * 14)).add 4)).getD undef), (8, ((a7.add (z2.1.toNat * 14)).add 5), (w4.cell? ((a7.add (z2.1.toNat * 14)).add 5)).getD undef), (8, ((a7.add (z2.1.toNat * 14)).add 6), (w4.cell? ((a7.add (z2.1.toNat * 14)).add 6)).getD undef), (8, ((a7.add (z2.1.toNat * 14)).add 7), (w4.cell? ((a7.add (z2.1.toNat * 14)).add 7)).getD undef), (8, ((a7.add (z2.1.toNat * 14)).add 8), (w4.cell? ((a7.add (z2.1.toNat * 14)).add 8)).getD undef), (8, ((a7.add (z2.1.toNat * 14)).add 9), (w4.cell? ((a7.add (z2.1.toNat * 14)).add 9)).getD undef), (8, ((a7.add (z2.1.toNat * 14)).add 10), (w4.cell? ((a7.add (z2.1.toNat * 14)).add 10)).getD undef), (8, ((a7.add (z2.1.toNat * 14)).add 11), (w4.cell? ((a7.add (z2.1.toNat * 14)).add 11)).getD undef), (8, ((a7.add (z2.1.toNat * 14)).add 12), (w4.cell? ((a7.add (z2.1.toNat * 14)).add 12)).getD undef), (8, ((a7.add (z2.1.toNat * 14)).add 13), (w4.cell? ((a7.add (z2.1.toNat * 14)).add 13)).getD undef), (3, (a5.add (z2.1.toNat * 1)), (w4.cell? (a5.add (z2.1.toNat * 1))).getD undef)] w20 ∧ (
brB (!(s17 == s19)) (
R ((false, ()), ()) w20) (
self1 (IntKind.wrap .i64 (z2.1 + 1), ()) w20)))) ∧ (
bsK Tryz.prog (.slice r15.1.1.1 r15.1.1.2.1 r15.1.1.2.2) w16 fun s21 w22 =>
Hold [(8, ((a7.add (z2.1.toNat * 14)).add 0), (w4.cell? ((a7.add (z2.1.toNat * 14)).add 0)).getD undef), (8, ((a7.add (z2.1.toNat * 14)).add 1), (w4.cell? ((a7.add (z2.1.toNat * 14)).add 1)).getD undef), (8, ((a7.add (z2.1.toNat * 14)).add 2), (w4.cell? ((a7.add (z2.1.toNat * 14)).add 2)).getD undef), (8, ((a7.add (z2.1.toNat * 14)).add 3), (w4.cell? ((a7.add (z2.1.toNat * 14)).add 3)).getD undef), (8, ((a7.add (z2.1.toNat * 14)).add 4), (w4.cell? ((a7.add (z2.1.toNat * 14)).add 4)).getD undef), (8, ((a7.add (z2.1.toNat * 14)).add 5), (w4.cell? ((a7.add (z2.1.toNat * 14)).add 5)).getD undef), (8, ((a7.add (z2.1.toNat * 14)).add 6), (w4.cell? ((a7.add (z2.1.toNat * 14)).add 6)).getD undef), (8, ((a7.add (z2.1.toNat * 14)).add 7), (w4.cell? ((a7.add (z2.1.toNat * 14)).add 7)).getD undef), (8, ((a7.add (z2.1.toNat * 14)).add 8), (w4.cell? ((a7.add (z2.1.toNat * 14)).add 8)).getD undef), (8, ((a7.add (z2.1.toNat * 14)).add 9), (w4.cell? ((a7.add (z2.1.toNat * 14)).add 9)).getD undef), (8, ((a7.add (z2.1.toNat * 14)).add 10), (w4.cell? ((a7.add (z2.1.toNat * 14)).add 10)).getD undef), (8, ((a7.add (z2.1.toNat * 14)).add 11), (w4.cell? ((a7.add (z2.1.toNat * 14)).add 11)).getD undef), (8, ((a7.add (z2.1.toNat * 14)).add 12), (w4.cell? ((a7.add (z2.1.toNat * 14)).add 12)).getD undef), (8, ((a7.add (z2.1.toNat * 14)).add 13), (w4.cell? ((a7.add (z2.1.toNat * 14)).add 13)).getD undef), (3, (a5.add (z2.1.toNat * 1)), (w4.cell? (a5.add (z2.1.toNat * 1))).getD undef)] w22 ∧ (
bsK Tryz.prog (.slice x6.1 x6.2.1 x6.2.2) w22 fun s23 w24 =>
Hold [(8, ((a7.add (z2.1.toNat * 14)).add 0), (w4.cell? ((a7.add (z2.1.toNat * 14)).add 0)).getD undef), (8, ((a7.add (z2.1.toNat * 14)).add 1), (w4.cell? ((a7.add (z2.1.toNat * 14)).add 1)).getD undef), (8, ((a7.add (z2.1.toNat * 14)).add 2), (w4.cell? ((a7.add (z2.1.toNat * 14)).add 2)).getD undef), (8, ((a7.add (z2.1.toNat * 14)).add 3), (w4.cell? ((a7.add (z2.1.toNat * 14)).add 3)).getD undef), (8, ((a7.add (z2.1.toNat * 14)).add 4), (w4.cell? ((a7.add (z2.1.toNat * 14)).add 4)).getD undef), (8, ((a7.add (z2.1.toNat * 14)).add 5), (w4.cell? ((a7.add (z2.1.toNat * 14)).add 5)).getD undef), (8, ((a7.add (z2.1.toNat * 14)).add 6), (w4.cell? ((a7.add (z2.1.toNat * 14)).add 6)).getD undef), (8, ((a7.add (z2.1.toNat * 14)).add 7), (w4.cell? ((a7.add (z2.1.toNat * 14)).add 7)).getD undef), (8, ((a7.add (z2.1.toNat * 14)).add 8), (w4.cell? ((a7.add (z2.1.toNat * 14)).add 8)).getD undef), (8, ((a7.add (z2.1.toNat * 14)).add 9), (w4.cell? ((a7.add (z2.1.toNat * 14)).add 9)).getD undef), (8, ((a7.add (z2.1.toNat * 14)).add 10), (w4.cell? ((a7.add (z2.1.toNat * 14)).add 10)).getD undef), (8, ((a7.add (z2.1.toNat * 14)).add 11), (w4.cell? ((a7.add (z2.1.toNat * 14)).add 11)).getD undef), (8, ((a7.add (z2.1.toNat * 14)).add 12), (w4.cell? ((a7.add (z2.1.toNat * 14)).add 12)).getD undef), (8, ((a7.add (z2.1.toNat * 14)).add 13), (w4.cell? ((a7.add (z2.1.toNat * 14)).add 13)).getD undef)] w24 ∧ (
brB (!(s23 == s21)) (
R ((false, ()), ()) w24) (
self1 (IntKind.wrap .i64 (z2.1 + 1), ()) w24))))))) (
R ((true, ()), ()) w3)) (0, ()) w)
set_option maxRecDepth 100000 in
theorem law26_sent.eq (b : Option Addr × Nat × Nat) (list : Option Addr × Nat × Nat) (w : World) (R : Value → World → Prop) : wpF Tryz.prog Tryz.f15 (.s .n (.s .n (.s (.s .n (.lp [(13, (.i .i64))] (.s .n (.s .n (.s (.s .n (.s (.pl (.tk 0 (.tk 1 (.tk 2 (.tk 3 (.tk 5 (.tk 6 (.tk 7 (.tk 8 (.two 4 9 (.ef 9 [] (.ef 10 [] (.tk 11 .z))) (.two 4 10 (.ef 10 [] (.tk 11 .z)) (.ef 4 [3] (.tk 11 .z))))))))))))) .n)) .n))))) .n))) [.slice b.1 b.2.1 b.2.2, .slice list.1 list.2.1 list.2.2] w R = law26_sent.wp b list w (fun r w => R (encR false [(false, [.b])] r) w) := by kernel_rfl
set_option maxRecDepth 100000 in
theorem law26_sent.ok {b : Option Addr × Nat × Nat} {list : Option Addr × Nat × Nat} {w : World} {R : TR [(false, [.b])] → World → Prop} (h : law26_sent.wp b list w R) : clS Tryz.prog F.law26_sent [.slice b.1 b.2.1 b.2.2, .slice list.1 list.2.1 list.2.2] w false [(false, [.b])] R :=
  ok_of Tryz_follows Tryz.func15 (fun R => law26_sent.wp b list w R) (law26_sent.eq b list w) rfl h
/-! ### node_Node_Hear -/
set_option maxRecDepth 100000 in
def node_Node_Hear.wp (n : Option Addr) (jitter : Int) (b : Option Addr × Nat × Nat) (w : World) (R : TR [(false, [(.i .i64)])] → World → Prop) : Prop :=
clS Tryz.prog F.node_Node_stamp [.pointer n, .int .i64 jitter] w true [(false, [(.i .i64)]), (false, [(.i .i64)])] fun r1 w2 =>
brB (r1.2.1.1 != 0) (
R ((r1.2.1.1, ()), ()) w2) (
clS Tryz.prog F.frame_Decode [.slice b.1 b.2.1 b.2.2] w2 true [(false, [.any]), (false, [(.i .i64)])] fun r3 w4 =>
drK w4 fun w5 =>
brB (r3.2.1.1 != 0) (
R ((r3.2.1.1, ()), ()) w5) (
ncK n fun a6 =>
ld1 (.i .i64) a6 w5 fun x7 =>
ivK Tryz.prog r3.1.1 "Sender" [] w5 false [(false, [(.i .i64)])] fun r8 w9 =>
Hold [(9, a6, (w5.cell? a6).getD undef)] w9 ∧ (
brB (r8.1.1 == x7) (
R ((r3.2.1.1, ()), ()) w9) (
clS Tryz.prog F.node_Node_take [.pointer n, r3.1.1, .int .i64 r1.1.1] w9 false [(false, [(.i .i64)])] fun r10 w11 =>
R ((r10.1.1, ()), ()) w11))))
set_option maxRecDepth 100000 in
theorem node_Node_Hear.eq (n : Option Addr) (jitter : Int) (b : Option Addr × Nat × Nat) (w : World) (R : Value → World → Prop) : wpF Tryz.prog Tryz.f20 (.s .n (.s .n (.s .n (.s .n (.s (.s (.pl (.tk 0 (.tk 1 (.tk 2 (.tk 3 (.tk 5 (.tk 6 (.tk 7 (.tk 8 (.tk 9 (.ef 4 [] (.tk 10 (.tk 11 .z))))))))))))) .n) .n))))) [.pointer n, .int .i64 jitter, .slice b.1 b.2.1 b.2.2] w R = node_Node_Hear.wp n jitter b w (fun r w => R (encR false [(false, [(.i .i64)])] r) w) := by kernel_rfl
set_option maxRecDepth 100000 in
theorem node_Node_Hear.ok {n : Option Addr} {jitter : Int} {b : Option Addr × Nat × Nat} {w : World} {R : TR [(false, [(.i .i64)])] → World → Prop} (h : node_Node_Hear.wp n jitter b w R) : clS Tryz.prog F.node_Node_Hear [.pointer n, .int .i64 jitter, .slice b.1 b.2.1 b.2.2] w false [(false, [(.i .i64)])] R :=
  ok_of Tryz_follows Tryz.func20 (fun R => node_Node_Hear.wp n jitter b w R) (node_Node_Hear.eq n jitter b w) rfl h
/-! ### node_Node_Awake -/
set_option maxRecDepth 100000 in
def node_Node_Awake.wp (n : Option Addr) (w : World) (R : TR [(false, [.b])] → World → Prop) : Prop :=
clS Tryz.prog F.node_Node_ready [.pointer n] w false [(false, [(.i .i64)])] fun r1 w2 =>
brB (r1.1.1 != 0) (
R ((false, ()), ()) w2) (
drK w2 fun w3 =>
ncK n fun a4 =>
ld1 .p (a4.add 15) w3 fun x5 =>
ncK n fun a6 =>
ld1 .p (a6.add 14) w3 fun x7 =>
clS Tryz.prog F.tick_Clock_Now [.pointer x7] w3 false [(false, [(.i .i64)])] fun r8 w9 =>
Hold [(7, (a6.add 14), (w3.cell? (a6.add 14)).getD undef), (3, (a4.add 15), (w3.cell? (a4.add 15)).getD undef)] w9 ∧ (
clS Tryz.prog F.flood_Flood_Time [.pointer x5, .int .i64 r8.1.1] w9 true [(false, [(.i .i64)]), (false, [(.i .i64)]), (false, [(.i .i64)])] fun r10 w11 =>
Hold [(7, (a6.add 14), (w3.cell? (a6.add 14)).getD undef)] w11 ∧ (
brB (r10.2.2.1.1 != 0) (
R ((true, ()), ()) w11) (
drK w11 fun w12 =>
ncK n fun a13 =>
ldN [(.i .i64), (.i .i64), (.i .i64)] (a13.add 5) 0 w12 fun x14 =>
ncK n fun a15 =>
ldN [(.i .i64), (.i .i64), (.i .i64), (.i .i64)] (a15.add 1) 0 w12 fun x16 =>
ncK n fun a17 =>
ldN [(.i .i64), (.i .i64), (.i .i64)] (a17.add 5) 0 w12 fun x18 =>
ncK n fun a19 =>
ld1 (.i .i64) (a19.add 9) w12 fun x20 =>
clS Tryz.prog F.bound_Of [.agg #[.int .i64 x16.1, .int .i64 x16.2.1, .int .i64 x16.2.2.1, .int .i64 x16.2.2.2.1], .agg #[.int .i64 x18.1, .int .i64 x18.2.1, .int .i64 x18.2.2.1], .int .i64 x20] w12 false [(true, [(.i .i64), (.i .i64), (.i .i64), (.i .i64)])] fun r21 w22 =>
Hold [(20, (a19.add 9), (w12.cell? (a19.add 9)).getD undef), (15, ((a17.add 5).add 0), (w12.cell? ((a17.add 5).add 0)).getD undef), (15, ((a17.add 5).add 1), (w12.cell? ((a17.add 5).add 1)).getD undef), (15, ((a17.add 5).add 2), (w12.cell? ((a17.add 5).add 2)).getD undef), (10, ((a15.add 1).add 0), (w12.cell? ((a15.add 1).add 0)).getD undef), (10, ((a15.add 1).add 1), (w12.cell? ((a15.add 1).add 1)).getD undef), (10, ((a15.add 1).add 2), (w12.cell? ((a15.add 1).add 2)).getD undef), (10, ((a15.add 1).add 3), (w12.cell? ((a15.add 1).add 3)).getD undef), (4, ((a13.add 5).add 0), (w12.cell? ((a13.add 5).add 0)).getD undef), (4, ((a13.add 5).add 1), (w12.cell? ((a13.add 5).add 1)).getD undef), (4, ((a13.add 5).add 2), (w12.cell? ((a13.add 5).add 2)).getD undef)] w22 ∧ (
clS Tryz.prog F.bound_Terms_Error [.agg #[.int .i64 r21.1.1, .int .i64 r21.1.2.1, .int .i64 r21.1.2.2.1, .int .i64 r21.1.2.2.2.1], .int .i64 r10.2.1.1] w22 false [(false, [(.i .i64)])] fun r23 w24 =>
Hold [(20, (a19.add 9), (w12.cell? (a19.add 9)).getD undef), (15, ((a17.add 5).add 0), (w12.cell? ((a17.add 5).add 0)).getD undef), (15, ((a17.add 5).add 1), (w12.cell? ((a17.add 5).add 1)).getD undef), (15, ((a17.add 5).add 2), (w12.cell? ((a17.add 5).add 2)).getD undef), (10, ((a15.add 1).add 0), (w12.cell? ((a15.add 1).add 0)).getD undef), (10, ((a15.add 1).add 1), (w12.cell? ((a15.add 1).add 1)).getD undef), (10, ((a15.add 1).add 2), (w12.cell? ((a15.add 1).add 2)).getD undef), (10, ((a15.add 1).add 3), (w12.cell? ((a15.add 1).add 3)).getD undef), (4, ((a13.add 5).add 0), (w12.cell? ((a13.add 5).add 0)).getD undef), (4, ((a13.add 5).add 1), (w12.cell? ((a13.add 5).add 1)).getD undef), (4, ((a13.add 5).add 2), (w12.cell? ((a13.add 5).add 2)).getD undef)] w24 ∧ (
clS Tryz.prog F.duty_Plan_Awake [.agg #[.int .i64 x14.1, .int .i64 x14.2.1, .int .i64 x14.2.2.1], .int .i64 r10.1.1, .int .i64 r23.1.1] w24 false [(false, [.b])] fun r25 w26 =>
Hold [(20, (a19.add 9), (w12.cell? (a19.add 9)).getD undef), (15, ((a17.add 5).add 0), (w12.cell? ((a17.add 5).add 0)).getD undef), (15, ((a17.add 5).add 1), (w12.cell? ((a17.add 5).add 1)).getD undef), (15, ((a17.add 5).add 2), (w12.cell? ((a17.add 5).add 2)).getD undef), (10, ((a15.add 1).add 0), (w12.cell? ((a15.add 1).add 0)).getD undef), (10, ((a15.add 1).add 1), (w12.cell? ((a15.add 1).add 1)).getD undef), (10, ((a15.add 1).add 2), (w12.cell? ((a15.add 1).add 2)).getD undef), (10, ((a15.add 1).add 3), (w12.cell? ((a15.add 1).add 3)).getD undef)] w26 ∧ (
R ((r25.1.1, ()), ()) w26)))))))
set_option maxRecDepth 100000 in
theorem node_Node_Awake.eq (n : Option Addr) (w : World) (R : Value → World → Prop) : wpF Tryz.prog Tryz.f21 (.s .n (.s .n (.s (.pl (.tk 0 (.tk 1 (.tk 2 (.tk 3 (.tk 4 (.tk 5 (.tk 6 (.tk 7 (.ef 8 [] (.ef 9 [3] (.tk 10 (.tk 11 (.tk 12 (.tk 13 (.tk 14 (.tk 15 (.tk 16 .z)))))))))))))))))) (.s .n (.s (.pl (.tk 0 (.tk 1 (.tk 2 (.tk 3 (.tk 4 (.tk 5 (.tk 6 (.tk 7 (.tk 8 (.tk 9 (.tk 10 (.tk 11 (.tk 12 (.tk 13 (.tk 14 (.tk 15 (.tk 16 (.tk 17 (.tk 18 (.tk 19 (.tk 20 (.tk 22 (.ef 21 [] (.ef 23 [] (.ef 24 [4] (.tk 25 .z))))))))))))))))))))))))))) .n))))) [.pointer n] w R = node_Node_Awake.wp n w (fun r w => R (encR false [(false, [.b])] r) w) := by kernel_rfl
set_option maxRecDepth 100000 in
theorem node_Node_Awake.ok {n : Option Addr} {w : World} {R : TR [(false, [.b])] → World → Prop} (h : node_Node_Awake.wp n w R) : clS Tryz.prog F.node_Node_Awake [.pointer n] w false [(false, [.b])] R :=
  ok_of Tryz_follows Tryz.func21 (fun R => node_Node_Awake.wp n w R) (node_Node_Awake.eq n w) rfl h
/-! ### node_Node_Time -/
set_option maxRecDepth 100000 in
def node_Node_Time.wp (n : Option Addr) (w : World) (R : TR [(true, [(.i .i64), (.i .i64), (.i .i64), (.i .u16), (.i .i64)]), (false, [(.i .i64)])] → World → Prop) : Prop :=
alK [.int .i64 0, .int .i64 0, .int .i64 0, .int .u16 0, .int .i64 0] T.source_Answer w fun p1 w2 =>
clS Tryz.prog F.node_Node_ready [.pointer n] w2 false [(false, [(.i .i64)])] fun r3 w4 =>
brB (r3.1.1 != 0) (
stN [.int .i64 0, .int .i64 0, .int .i64 0, .int .u16 0, .int .i64 0] p1 0 w4 fun w5 =>
ldN [(.i .i64), (.i .i64), (.i .i64), (.i .u16), (.i .i64)] p1 0 w5 fun x6 =>
R ((x6.1, x6.2.1, x6.2.2.1, x6.2.2.2.1, x6.2.2.2.2.1, ()), (r3.1.1, ()), ()) w5) (
drK w4 fun w7 =>
ncK n fun a8 =>
ld1 .p (a8.add 18) w7 fun x9 =>
ncK n fun a10 =>
ld1 .p (a10.add 15) w7 fun x11 =>
ncK n fun a12 =>
ld1 .p (a12.add 14) w7 fun x13 =>
clS Tryz.prog F.tick_Clock_Now [.pointer x13] w7 false [(false, [(.i .i64)])] fun r14 w15 =>
Hold [(11, (a12.add 14), (w7.cell? (a12.add 14)).getD undef), (7, (a10.add 15), (w7.cell? (a10.add 15)).getD undef), (3, (a8.add 18), (w7.cell? (a8.add 18)).getD undef)] w15 ∧ (
clS Tryz.prog F.source_Source_Time [.pointer x9, .pointer x11, .int .i64 r14.1.1] w15 true [(true, [(.i .i64), (.i .i64), (.i .i64), (.i .u16), (.i .i64)]), (false, [(.i .i64)])] fun r16 w17 =>
Hold [(11, (a12.add 14), (w7.cell? (a12.add 14)).getD undef)] w17 ∧ (
stN [.int .i64 r16.1.1, .int .i64 r16.1.2.1, .int .i64 r16.1.2.2.1, .int .u16 r16.1.2.2.2.1, .int .i64 r16.1.2.2.2.2.1] p1 0 w17 fun w18 =>
Hold [] w18 ∧ (
ldN [(.i .i64), (.i .i64), (.i .i64), (.i .u16), (.i .i64)] p1 0 w18 fun x19 =>
R ((x19.1, x19.2.1, x19.2.2.1, x19.2.2.2.1, x19.2.2.2.2.1, ()), (r16.2.1.1, ()), ()) w18))))
set_option maxRecDepth 100000 in
theorem node_Node_Time.eq (n : Option Addr) (w : World) (R : Value → World → Prop) : wpF Tryz.prog Tryz.f23 (.s .n (.s .n (.s (.pl (.tk 0 (.tk 1 (.tk 2 (.tk 3 (.tk 4 (.tk 5 (.tk 6 (.tk 7 (.tk 8 (.tk 9 (.tk 10 (.tk 11 (.ef 12 [] (.ef 13 [3, 7] (.tk 14 (.tk 15 (.ef 16 [11] (.tk 17 .z))))))))))))))))))) .n))) [.pointer n] w R = node_Node_Time.wp n w (fun r w => R (encR true [(true, [(.i .i64), (.i .i64), (.i .i64), (.i .u16), (.i .i64)]), (false, [(.i .i64)])] r) w) := by kernel_rfl
set_option maxRecDepth 100000 in
theorem node_Node_Time.ok {n : Option Addr} {w : World} {R : TR [(true, [(.i .i64), (.i .i64), (.i .i64), (.i .u16), (.i .i64)]), (false, [(.i .i64)])] → World → Prop} (h : node_Node_Time.wp n w R) : clS Tryz.prog F.node_Node_Time [.pointer n] w true [(true, [(.i .i64), (.i .i64), (.i .i64), (.i .u16), (.i .i64)]), (false, [(.i .i64)])] R :=
  ok_of Tryz_follows Tryz.func23 (fun R => node_Node_Time.wp n w R) (node_Node_Time.eq n w) rfl h
/-! ### node_Node_Tag -/
set_option maxRecDepth 100000 in
def node_Node_Tag.wp (n : Option Addr) (label : ByteArray) (w : World) (R : TR [(false, [(.i .i64)]), (false, [(.i .i64)])] → World → Prop) : Prop :=
clS Tryz.prog F.node_Node_Time [.pointer n] w true [(true, [(.i .i64), (.i .i64), (.i .i64), (.i .u16), (.i .i64)]), (false, [(.i .i64)])] fun r1 w2 =>
alK [.int .i64 0, .int .i64 0, .int .i64 0, .int .u16 0, .int .i64 0] T.source_Answer w2 fun p3 w4 =>
stN [.int .i64 r1.1.1, .int .i64 r1.1.2.1, .int .i64 r1.1.2.2.1, .int .u16 r1.1.2.2.2.1, .int .i64 r1.1.2.2.2.2.1] p3 0 w4 fun w5 =>
brB (r1.2.1.1 != 0) (
R ((0, ()), (r1.2.1.1, ()), ()) w5) (
drK w5 fun w6 =>
ncK n fun a7 =>
ld1 .p (a7.add 26) w6 fun x8 =>
ncK n fun a9 =>
ld1 .p (a9.add 14) w6 fun x10 =>
ldN [(.i .i64), (.i .i64), (.i .i64), (.i .u16), (.i .i64)] p3 0 w6 fun x11 =>
clS Tryz.prog F.tick_Clock_Now [.pointer x10] w6 false [(false, [(.i .i64)])] fun r12 w13 =>
Hold [(10, (p3.add 0), (w6.cell? (p3.add 0)).getD undef), (10, (p3.add 1), (w6.cell? (p3.add 1)).getD undef), (10, (p3.add 2), (w6.cell? (p3.add 2)).getD undef), (10, (p3.add 3), (w6.cell? (p3.add 3)).getD undef), (10, (p3.add 4), (w6.cell? (p3.add 4)).getD undef), (8, (a9.add 14), (w6.cell? (a9.add 14)).getD undef), (3, (a7.add 26), (w6.cell? (a7.add 26)).getD undef)] w13 ∧ (
clS Tryz.prog F.event_Log_Tag [.pointer x8, .string label, .int .i64 r12.1.1, .agg #[.int .i64 x11.1, .int .i64 x11.2.1, .int .i64 x11.2.2.1, .int .u16 x11.2.2.2.1, .int .i64 x11.2.2.2.2.1]] w13 true [(false, [(.i .i64)]), (false, [(.i .i64)])] fun r14 w15 =>
Hold [(8, (a9.add 14), (w6.cell? (a9.add 14)).getD undef)] w15 ∧ (
R ((r14.1.1, ()), (r14.2.1.1, ()), ()) w15)))
set_option maxRecDepth 100000 in
theorem node_Node_Tag.eq (n : Option Addr) (label : ByteArray) (w : World) (R : Value → World → Prop) : wpF Tryz.prog Tryz.f24 (.s .n (.s .n (.s .n (.s (.pl (.tk 0 (.tk 1 (.tk 2 (.tk 3 (.tk 4 (.tk 5 (.tk 6 (.tk 7 (.tk 8 (.tk 10 (.ef 9 [] (.ef 11 [3, 10] (.tk 12 (.tk 13 (.tk 14 (.tk 15 .z))))))))))))))))) .n)))) [.pointer n, .string label] w R = node_Node_Tag.wp n label w (fun r w => R (encR true [(false, [(.i .i64)]), (false, [(.i .i64)])] r) w) := by kernel_rfl
set_option maxRecDepth 100000 in
theorem node_Node_Tag.ok {n : Option Addr} {label : ByteArray} {w : World} {R : TR [(false, [(.i .i64)]), (false, [(.i .i64)])] → World → Prop} (h : node_Node_Tag.wp n label w R) : clS Tryz.prog F.node_Node_Tag [.pointer n, .string label] w true [(false, [(.i .i64)]), (false, [(.i .i64)])] R :=
  ok_of Tryz_follows Tryz.func24 (fun R => node_Node_Tag.wp n label w R) (node_Node_Tag.eq n label w) rfl h
/-! ### node_Node_Take -/
set_option maxRecDepth 100000 in
def node_Node_Take.wp (n : Option Addr) (w : World) (R : TR [(true, [(.i .i64), .s, (.i .i64), (.i .i64), (.i .i64), (.i .i64), (.i .u16), (.i .i64)]), (false, [.b])] → World → Prop) : Prop :=
alK [.int .i64 0, .string ByteArray.empty, .int .i64 0, .int .i64 0, .int .i64 0, .int .i64 0, .int .u16 0, .int .i64 0] T.event_Event w fun p1 w2 =>
clS Tryz.prog F.node_Node_ready [.pointer n] w2 false [(false, [(.i .i64)])] fun r3 w4 =>
brB (r3.1.1 != 0) (
stN [.int .i64 0, .string ByteArray.empty, .int .i64 0, .int .i64 0, .int .i64 0, .int .i64 0, .int .u16 0, .int .i64 0] p1 0 w4 fun w5 =>
ldN [(.i .i64), .s, (.i .i64), (.i .i64), (.i .i64), (.i .i64), (.i .u16), (.i .i64)] p1 0 w5 fun x6 =>
R ((x6.1, x6.2.1, x6.2.2.1, x6.2.2.2.1, x6.2.2.2.2.1, x6.2.2.2.2.2.1, x6.2.2.2.2.2.2.1, x6.2.2.2.2.2.2.2.1, ()), (false, ()), ()) w5) (
ncK n fun a7 =>
ld1 .p (a7.add 26) w4 fun x8 =>
clS Tryz.prog F.event_Log_Take [.pointer x8] w4 true [(true, [(.i .i64), .s, (.i .i64), (.i .i64), (.i .i64), (.i .i64), (.i .u16), (.i .i64)]), (false, [.b])] fun r9 w10 =>
stN [.int .i64 r9.1.1, .string r9.1.2.1, .int .i64 r9.1.2.2.1, .int .i64 r9.1.2.2.2.1, .int .i64 r9.1.2.2.2.2.1, .int .i64 r9.1.2.2.2.2.2.1, .int .u16 r9.1.2.2.2.2.2.2.1, .int .i64 r9.1.2.2.2.2.2.2.2.1] p1 0 w10 fun w11 =>
ldN [(.i .i64), .s, (.i .i64), (.i .i64), (.i .i64), (.i .i64), (.i .u16), (.i .i64)] p1 0 w11 fun x12 =>
R ((x12.1, x12.2.1, x12.2.2.1, x12.2.2.2.1, x12.2.2.2.2.1, x12.2.2.2.2.2.1, x12.2.2.2.2.2.2.1, x12.2.2.2.2.2.2.2.1, ()), (r9.2.1.1, ()), ()) w11)
set_option maxRecDepth 100000 in
theorem node_Node_Take.eq (n : Option Addr) (w : World) (R : Value → World → Prop) : wpF Tryz.prog Tryz.f25 .n [.pointer n] w R = node_Node_Take.wp n w (fun r w => R (encR true [(true, [(.i .i64), .s, (.i .i64), (.i .i64), (.i .i64), (.i .i64), (.i .u16), (.i .i64)]), (false, [.b])] r) w) := by kernel_rfl
set_option maxRecDepth 100000 in
theorem node_Node_Take.ok {n : Option Addr} {w : World} {R : TR [(true, [(.i .i64), .s, (.i .i64), (.i .i64), (.i .i64), (.i .i64), (.i .u16), (.i .i64)]), (false, [.b])] → World → Prop} (h : node_Node_Take.wp n w R) : clS Tryz.prog F.node_Node_Take [.pointer n] w true [(true, [(.i .i64), .s, (.i .i64), (.i .i64), (.i .i64), (.i .i64), (.i .u16), (.i .i64)]), (false, [.b])] R :=
  ok_of Tryz_follows Tryz.func25 (fun R => node_Node_Take.wp n w R) (node_Node_Take.eq n w) rfl h
/-! ### node_Node_Utc -/
set_option maxRecDepth 100000 in
def node_Node_Utc.wp (n : Option Addr) (w : World) (R : TR [(true, [(.i .i64), (.i .i64), (.i .i64), (.i .i64), (.i .i64), (.i .i64)]), (false, [(.i .i64)]), (false, [(.i .i64)])] → World → Prop) : Prop :=
alK [.int .i64 0, .int .i64 0, .int .i64 0, .int .i64 0, .int .i64 0, .int .i64 0] T.utc_Utc w fun p1 w2 =>
clS Tryz.prog F.node_Node_Time [.pointer n] w2 true [(true, [(.i .i64), (.i .i64), (.i .i64), (.i .u16), (.i .i64)]), (false, [(.i .i64)])] fun r3 w4 =>
alK [.int .i64 0, .int .i64 0, .int .i64 0, .int .u16 0, .int .i64 0] T.source_Answer w4 fun p5 w6 =>
stN [.int .i64 r3.1.1, .int .i64 r3.1.2.1, .int .i64 r3.1.2.2.1, .int .u16 r3.1.2.2.2.1, .int .i64 r3.1.2.2.2.2.1] p5 0 w6 fun w7 =>
brB (r3.2.1.1 != 0) (
stN [.int .i64 0, .int .i64 0, .int .i64 0, .int .i64 0, .int .i64 0, .int .i64 0] p1 0 w7 fun w8 =>
ldN [(.i .i64), (.i .i64), (.i .i64), (.i .i64), (.i .i64), (.i .i64)] p1 0 w8 fun x9 =>
R ((x9.1, x9.2.1, x9.2.2.1, x9.2.2.2.1, x9.2.2.2.2.1, x9.2.2.2.2.2.1, ()), (0, ()), (r3.2.1.1, ()), ()) w8) (
drK w7 fun w10 =>
ncK n fun a11 =>
ncK n fun a12 =>
ld1 .p (a12.add 11) w10 fun x13 =>
ldN [(.i .i64), (.i .u16)] (p5.add 2) 0 w10 fun x14 =>
ld1 (.i .i64) p5 w10 fun x15 =>
clS Tryz.prog F.anchor_Book_Utc [.pointer (some (a11.add 19)), .pointer x13, .agg #[.int .i64 x14.1, .int .u16 x14.2.1], .int .i64 x15] w10 true [(true, [(.i .i64), (.i .i64), (.i .i64), (.i .i64), (.i .i64), (.i .i64)]), (false, [(.i .i64)]), (false, [(.i .i64)])] fun r16 w17 =>
Hold [] w17 ∧ (
stN [.int .i64 r16.1.1, .int .i64 r16.1.2.1, .int .i64 r16.1.2.2.1, .int .i64 r16.1.2.2.2.1, .int .i64 r16.1.2.2.2.2.1, .int .i64 r16.1.2.2.2.2.2.1] p1 0 w17 fun w18 =>
Hold [] w18 ∧ (
ldN [(.i .i64), (.i .i64), (.i .i64), (.i .i64), (.i .i64), (.i .i64)] p1 0 w18 fun x19 =>
R ((x19.1, x19.2.1, x19.2.2.1, x19.2.2.2.1, x19.2.2.2.2.1, x19.2.2.2.2.2.1, ()), (r16.2.1.1, ()), (r16.2.2.1.1, ()), ()) w18)))
set_option maxRecDepth 100000 in
theorem node_Node_Utc.eq (n : Option Addr) (w : World) (R : Value → World → Prop) : wpF Tryz.prog Tryz.f26 (.s .n (.s .n (.s .n (.s (.pl (.tk 0 (.tk 1 (.tk 2 (.tk 3 (.tk 4 (.tk 5 (.tk 6 (.tk 7 (.tk 8 (.tk 9 (.tk 10 (.ef 11 [6, 8, 10] (.tk 12 (.tk 13 (.tk 14 (.ef 15 [] (.tk 16 (.tk 17 .z))))))))))))))))))) .n)))) [.pointer n] w R = node_Node_Utc.wp n w (fun r w => R (encR true [(true, [(.i .i64), (.i .i64), (.i .i64), (.i .i64), (.i .i64), (.i .i64)]), (false, [(.i .i64)]), (false, [(.i .i64)])] r) w) := by kernel_rfl
set_option maxRecDepth 100000 in
theorem node_Node_Utc.ok {n : Option Addr} {w : World} {R : TR [(true, [(.i .i64), (.i .i64), (.i .i64), (.i .i64), (.i .i64), (.i .i64)]), (false, [(.i .i64)]), (false, [(.i .i64)])] → World → Prop} (h : node_Node_Utc.wp n w R) : clS Tryz.prog F.node_Node_Utc [.pointer n] w true [(true, [(.i .i64), (.i .i64), (.i .i64), (.i .i64), (.i .i64), (.i .i64)]), (false, [(.i .i64)]), (false, [(.i .i64)])] R :=
  ok_of Tryz_follows Tryz.func26 (fun R => node_Node_Utc.wp n w R) (node_Node_Utc.eq n w) rfl h
/-! ### node_Node_Mark -/
set_option maxRecDepth 100000 in
def node_Node_Mark.wp (n : Option Addr) (w : World) (R : TR [(true, [(.i .u16), (.i .u16)]), (false, [.b])] → World → Prop) : Prop :=
alK [.int .u16 0, .int .u16 0] T.elect_Mark w fun p1 w2 =>
clS Tryz.prog F.node_Node_ready [.pointer n] w2 false [(false, [(.i .i64)])] fun r3 w4 =>
brB (r3.1.1 != 0) (
stN [.int .u16 0, .int .u16 0] p1 0 w4 fun w5 =>
ldN [(.i .u16), (.i .u16)] p1 0 w5 fun x6 =>
R ((x6.1, x6.2.1, ()), (false, ()), ()) w5) (
ncK n fun a7 =>
ld1 .p (a7.add 15) w4 fun x8 =>
ncK x8 fun a9 =>
ld1 .p a9 w4 fun x10 =>
clS Tryz.prog F.elect_Elect_Mark [.pointer x10] w4 true [(true, [(.i .u16), (.i .u16)]), (false, [.b])] fun r11 w12 =>
stN [.int .u16 r11.1.1, .int .u16 r11.1.2.1] p1 0 w12 fun w13 =>
ldN [(.i .u16), (.i .u16)] p1 0 w13 fun x14 =>
R ((x14.1, x14.2.1, ()), (r11.2.1.1, ()), ()) w13)
set_option maxRecDepth 100000 in
theorem node_Node_Mark.eq (n : Option Addr) (w : World) (R : Value → World → Prop) : wpF Tryz.prog Tryz.f27 .n [.pointer n] w R = node_Node_Mark.wp n w (fun r w => R (encR true [(true, [(.i .u16), (.i .u16)]), (false, [.b])] r) w) := by kernel_rfl
set_option maxRecDepth 100000 in
theorem node_Node_Mark.ok {n : Option Addr} {w : World} {R : TR [(true, [(.i .u16), (.i .u16)]), (false, [.b])] → World → Prop} (h : node_Node_Mark.wp n w R) : clS Tryz.prog F.node_Node_Mark [.pointer n] w true [(true, [(.i .u16), (.i .u16)]), (false, [.b])] R :=
  ok_of Tryz_follows Tryz.func27 (fun R => node_Node_Mark.wp n w R) (node_Node_Mark.eq n w) rfl h
/-! ### node_Node_Off -/
set_option maxRecDepth 100000 in
def node_Node_Off.wp (n : Option Addr) (w : World) (R : TR [(false, [(.i .i64)])] → World → Prop) : Prop :=
clS Tryz.prog F.node_Node_ready [.pointer n] w false [(false, [(.i .i64)])] fun r1 w2 =>
brB (r1.1.1 == 0) (
ncK n fun a3 =>
stN [.bool false] (a3.add 12) 0 w2 fun w4 =>
R ((r1.1.1, ()), ()) w4) (
R ((r1.1.1, ()), ()) w2)
set_option maxRecDepth 100000 in
theorem node_Node_Off.eq (n : Option Addr) (w : World) (R : Value → World → Prop) : wpF Tryz.prog Tryz.f28 .n [.pointer n] w R = node_Node_Off.wp n w (fun r w => R (encR false [(false, [(.i .i64)])] r) w) := by kernel_rfl
set_option maxRecDepth 100000 in
theorem node_Node_Off.ok {n : Option Addr} {w : World} {R : TR [(false, [(.i .i64)])] → World → Prop} (h : node_Node_Off.wp n w R) : clS Tryz.prog F.node_Node_Off [.pointer n] w false [(false, [(.i .i64)])] R :=
  ok_of Tryz_follows Tryz.func28 (fun R => node_Node_Off.wp n w R) (node_Node_Off.eq n w) rfl h
/-! ### node_Node_Fits -/
set_option maxRecDepth 100000 in
def node_Node_Fits.wp (n : Option Addr) (ticks : Int) (w : World) (R : TR [(false, [.b])] → World → Prop) : Prop :=
brB (!(Option.isNone n)) (
ncK n fun a1 =>
ld1 .p (a1.add 14) w fun x2 =>
clS Tryz.prog F.tick_Clock_Fits [.pointer x2, .int .i64 ticks] w false [(false, [.b])] fun r3 w4 =>
R ((r3.1.1, ()), ()) w4) (
R ((false, ()), ()) w)
set_option maxRecDepth 100000 in
theorem node_Node_Fits.eq (n : Option Addr) (ticks : Int) (w : World) (R : Value → World → Prop) : wpF Tryz.prog Tryz.f29 .n [.pointer n, .int .i64 ticks] w R = node_Node_Fits.wp n ticks w (fun r w => R (encR false [(false, [.b])] r) w) := by kernel_rfl
set_option maxRecDepth 100000 in
theorem node_Node_Fits.ok {n : Option Addr} {ticks : Int} {w : World} {R : TR [(false, [.b])] → World → Prop} (h : node_Node_Fits.wp n ticks w R) : clS Tryz.prog F.node_Node_Fits [.pointer n, .int .i64 ticks] w false [(false, [.b])] R :=
  ok_of Tryz_follows Tryz.func29 (fun R => node_Node_Fits.wp n ticks w R) (node_Node_Fits.eq n ticks w) rfl h
/-! ### node_Node_Fix -/
set_option maxRecDepth 100000 in
def node_Node_Fix.wp (n : Option Addr) (tai : Int) (w : World) (R : TR [(false, [(.i .i64)])] → World → Prop) : Prop :=
clS Tryz.prog F.node_Node_ready [.pointer n] w false [(false, [(.i .i64)])] fun r1 w2 =>
brB (r1.1.1 != 0) (
R ((r1.1.1, ()), ()) w2) (
ncK n fun a3 =>
ld1 .b (a3.add 10) w2 fun x4 =>
brB (!x4) (
R ((7, ()), ()) w2) (
clS Tryz.prog F.node_Node_Time [.pointer n] w2 true [(true, [(.i .i64), (.i .i64), (.i .i64), (.i .u16), (.i .i64)]), (false, [(.i .i64)])] fun r5 w6 =>
alK [.int .i64 0, .int .i64 0, .int .i64 0, .int .u16 0, .int .i64 0] T.source_Answer w6 fun p7 w8 =>
stN [.int .i64 r5.1.1, .int .i64 r5.1.2.1, .int .i64 r5.1.2.2.1, .int .u16 r5.1.2.2.2.1, .int .i64 r5.1.2.2.2.2.1] p7 0 w8 fun w9 =>
brB (r5.2.1.1 != 0) (
R ((r5.2.1.1, ()), ()) w9) (
drK w9 fun w10 =>
ncK n fun a11 =>
ncK n fun a12 =>
ld1 (.i .i64) a12 w10 fun x13 =>
ldN [(.i .i64), (.i .i64), (.i .i64), (.i .u16), (.i .i64)] p7 0 w10 fun x14 =>
(
clS Tryz.prog F.anchor_Book_Make [.pointer (some (a11.add 19)), .int .i64 x13, .agg #[.int .i64 x14.1, .int .i64 x14.2.1, .int .i64 x14.2.2.1, .int .u16 x14.2.2.2.1, .int .i64 x14.2.2.2.2.1], .int .i64 tai] w10 true [(true, [(.i .i64), (.i .u16), (.i .i64), (.i .u16), (.i .i64), (.i .i64)]), (false, [(.i .i64)])] fun r15 w16 =>
Hold [(8, (p7.add 0), (w10.cell? (p7.add 0)).getD undef), (8, (p7.add 1), (w10.cell? (p7.add 1)).getD undef), (8, (p7.add 2), (w10.cell? (p7.add 2)).getD undef), (8, (p7.add 3), (w10.cell? (p7.add 3)).getD undef), (8, (p7.add 4), (w10.cell? (p7.add 4)).getD undef), (7, a12, (w10.cell? a12).getD undef)] w16 ∧ (
alK [.int .i64 0, .int .u16 0, .int .i64 0, .int .u16 0, .int .i64 0, .int .i64 0] T.frame_Anchor w16 fun p17 w18 =>
Hold [(8, (p7.add 0), (w10.cell? (p7.add 0)).getD undef), (8, (p7.add 1), (w10.cell? (p7.add 1)).getD undef), (8, (p7.add 2), (w10.cell? (p7.add 2)).getD undef), (8, (p7.add 3), (w10.cell? (p7.add 3)).getD undef), (8, (p7.add 4), (w10.cell? (p7.add 4)).getD undef), (7, a12, (w10.cell? a12).getD undef)] w18 ∧ (
stN [.int .i64 r15.1.1, .int .u16 r15.1.2.1, .int .i64 r15.1.2.2.1, .int .u16 r15.1.2.2.2.1, .int .i64 r15.1.2.2.2.2.1, .int .i64 r15.1.2.2.2.2.2.1] p17 0 w18 fun w19 =>
Hold [] w19 ∧ (
brB (r15.2.1.1 != 0) (
R ((r15.2.1.1, ()), ()) w19) (
clS Tryz.prog F.node_Node_pass [.pointer n] w19 false [(false, [(.i .i64)])] fun r20 w21 =>
R ((r20.1.1, ()), ()) w21))))) ∧ (
alK [.int .i64 0, .int .u16 0, .int .i64 0, .int .u16 0, .int .i64 0, .int .i64 0] T.frame_Anchor w10 fun p22 w23 =>
Hold [(8, (p7.add 0), (w10.cell? (p7.add 0)).getD undef), (8, (p7.add 1), (w10.cell? (p7.add 1)).getD undef), (8, (p7.add 2), (w10.cell? (p7.add 2)).getD undef), (8, (p7.add 3), (w10.cell? (p7.add 3)).getD undef), (8, (p7.add 4), (w10.cell? (p7.add 4)).getD undef), (7, a12, (w10.cell? a12).getD undef)] w23 ∧ (
clS Tryz.prog F.anchor_Book_Make [.pointer (some (a11.add 19)), .int .i64 x13, .agg #[.int .i64 x14.1, .int .i64 x14.2.1, .int .i64 x14.2.2.1, .int .u16 x14.2.2.2.1, .int .i64 x14.2.2.2.2.1], .int .i64 tai] w23 true [(true, [(.i .i64), (.i .u16), (.i .i64), (.i .u16), (.i .i64), (.i .i64)]), (false, [(.i .i64)])] fun r24 w25 =>
Hold [] w25 ∧ (
stN [.int .i64 r24.1.1, .int .u16 r24.1.2.1, .int .i64 r24.1.2.2.1, .int .u16 r24.1.2.2.2.1, .int .i64 r24.1.2.2.2.2.1, .int .i64 r24.1.2.2.2.2.2.1] p22 0 w25 fun w26 =>
Hold [] w26 ∧ (
brB (r24.2.1.1 != 0) (
R ((r24.2.1.1, ()), ()) w26) (
clS Tryz.prog F.node_Node_pass [.pointer n] w26 false [(false, [(.i .i64)])] fun r27 w28 =>
R ((r27.1.1, ()), ()) w28))))))))
set_option maxRecDepth 100000 in
theorem node_Node_Fix.eq (n : Option Addr) (tai : Int) (w : World) (R : Value → World → Prop) : wpF Tryz.prog Tryz.f30 (.s .n (.s .n (.s .n (.s .n (.s .n (.s (.s (.pl (.tk 0 (.tk 1 (.tk 2 (.tk 3 (.tk 4 (.tk 5 (.tk 6 (.tk 7 (.tk 8 (.tk 9 (.two 10 14 (.tk 11 (.tk 12 (.tk 13 (.ef 14 [] (.ef 15 [7, 8] (.tk 16 .z)))))) (.ef 10 [7, 8] (.tk 11 (.tk 12 (.tk 13 (.ef 15 [] (.tk 16 .z)))))))))))))))))) .n) .n)))))) [.pointer n, .int .i64 tai] w R = node_Node_Fix.wp n tai w (fun r w => R (encR false [(false, [(.i .i64)])] r) w) := by kernel_rfl
set_option maxRecDepth 100000 in
theorem node_Node_Fix.ok {n : Option Addr} {tai : Int} {w : World} {R : TR [(false, [(.i .i64)])] → World → Prop} (h : node_Node_Fix.wp n tai w R) : clS Tryz.prog F.node_Node_Fix [.pointer n, .int .i64 tai] w false [(false, [(.i .i64)])] R :=
  ok_of Tryz_follows Tryz.func30 (fun R => node_Node_Fix.wp n tai w R) (node_Node_Fix.eq n tai w) rfl h
/-! ### ref16_Good -/
set_option maxRecDepth 100000 in
def ref16_Good.wp (me : Int) (timeout : Int) (ignore : Int) (need : Int) (drift : Int) (w : World) (R : TR [(false, [.b])] → World → Prop) : Prop :=
clS Tryz.prog F.ref15_Good [.int .i64 me, .int .i64 timeout, .int .i64 ignore] w false [(false, [.b])] fun r1 w2 =>
brB r1.1.1 (
brB (decide (need ≥ 1)) (
brB (decide (need ≤ 8)) (
brB (decide (drift ≥ 0)) (
R ((decide (drift ≤ 10), ()), ()) w2) (
R ((false, ()), ()) w2)) (
R ((false, ()), ()) w2)) (
R ((false, ()), ()) w2)) (
R ((false, ()), ()) w2)
set_option maxRecDepth 100000 in
theorem ref16_Good.eq (me : Int) (timeout : Int) (ignore : Int) (need : Int) (drift : Int) (w : World) (R : Value → World → Prop) : wpF Tryz.prog Tryz.f31 .n [.int .i64 me, .int .i64 timeout, .int .i64 ignore, .int .i64 need, .int .i64 drift] w R = ref16_Good.wp me timeout ignore need drift w (fun r w => R (encR false [(false, [.b])] r) w) := by kernel_rfl
set_option maxRecDepth 100000 in
theorem ref16_Good.ok {me : Int} {timeout : Int} {ignore : Int} {need : Int} {drift : Int} {w : World} {R : TR [(false, [.b])] → World → Prop} (h : ref16_Good.wp me timeout ignore need drift w R) : clS Tryz.prog F.ref16_Good [.int .i64 me, .int .i64 timeout, .int .i64 ignore, .int .i64 need, .int .i64 drift] w false [(false, [.b])] R :=
  ok_of Tryz_follows Tryz.func31 (fun R => ref16_Good.wp me timeout ignore need drift w R) (ref16_Good.eq me timeout ignore need drift w) rfl h
/-! ### ref11_Good -/
set_option maxRecDepth 100000 in
def ref11_Good.wp (p0 : Int) (p1 : Int) (p2 : Int) (w : World) (R : TR [(false, [.b])] → World → Prop) : Prop :=
alK [.int .i64 p0, .int .i64 p1, .int .i64 p2] T.ref11_Plan w fun p3 w4 =>
ld1 (.i .i64) p3 w4 fun x5 =>
brB (decide (x5 ≥ 1)) (
ld1 (.i .i64) p3 w4 fun x6 =>
brB (decide (x6 ≤ 64)) (
ld1 (.i .i64) (p3.add 1) w4 fun x7 =>
brB (decide (x7 ≥ 1)) (
ld1 (.i .i64) (p3.add 1) w4 fun x8 =>
ld1 (.i .i64) p3 w4 fun x9 =>
brB (decide (x8 ≤ x9)) (
ld1 (.i .i64) (p3.add 2) w4 fun x10 =>
brB (decide (x10 ≥ 0)) (
ld1 (.i .i64) (p3.add 2) w4 fun x11 =>
ld1 (.i .i64) p3 w4 fun x12 =>
R ((decide (x11 < x12), ()), ()) w4) (
R ((false, ()), ()) w4)) (
R ((false, ()), ()) w4)) (
R ((false, ()), ()) w4)) (
R ((false, ()), ()) w4)) (
R ((false, ()), ()) w4)
set_option maxRecDepth 100000 in
theorem ref11_Good.eq (p0 : Int) (p1 : Int) (p2 : Int) (w : World) (R : Value → World → Prop) : wpF Tryz.prog Tryz.f32 .n [.agg #[.int .i64 p0, .int .i64 p1, .int .i64 p2]] w R = ref11_Good.wp p0 p1 p2 w (fun r w => R (encR false [(false, [.b])] r) w) := by kernel_rfl
set_option maxRecDepth 100000 in
theorem ref11_Good.ok {p0 : Int} {p1 : Int} {p2 : Int} {w : World} {R : TR [(false, [.b])] → World → Prop} (h : ref11_Good.wp p0 p1 p2 w R) : clS Tryz.prog F.ref11_Good [.agg #[.int .i64 p0, .int .i64 p1, .int .i64 p2]] w false [(false, [.b])] R :=
  ok_of Tryz_follows Tryz.func32 (fun R => ref11_Good.wp p0 p1 p2 w R) (ref11_Good.eq p0 p1 p2 w) rfl h
/-! ### ref26_Setup_Plan -/
set_option maxRecDepth 100000 in
def ref26_Setup_Plan.wp (s0 : Int) (s1 : Int) (s2 : Int) (s3 : Int) (s4 : Int) (s5 : Int) (s6 : Int) (s7 : Int) (s8 : Int) (s9 : Int) (s10 : Bool) (w : World) (R : TR [(true, [(.i .i64), (.i .i64), (.i .i64)])] → World → Prop) : Prop :=
alK [.int .i64 s0, .int .i64 s1, .int .i64 s2, .int .i64 s3, .int .i64 s4, .int .i64 s5, .int .i64 s6, .int .i64 s7, .int .i64 s8, .int .i64 s9, .bool s10] T.ref26_Setup w fun p1 w2 =>
alK [.int .i64 0, .int .i64 0, .int .i64 0] T.ref11_Plan w2 fun p3 w4 =>
ld1 (.i .i64) (p1.add 5) w4 fun x5 =>
ld1 (.i .i64) (p1.add 6) w4 fun x6 =>
ld1 (.i .i64) (p1.add 7) w4 fun x7 =>
stN [.int .i64 x5, .int .i64 x6, .int .i64 x7] p3 0 w4 fun w8 =>
ldN [(.i .i64), (.i .i64), (.i .i64)] p3 0 w8 fun x9 =>
R ((x9.1, x9.2.1, x9.2.2.1, ()), ()) w8
set_option maxRecDepth 100000 in
theorem ref26_Setup_Plan.eq (s0 : Int) (s1 : Int) (s2 : Int) (s3 : Int) (s4 : Int) (s5 : Int) (s6 : Int) (s7 : Int) (s8 : Int) (s9 : Int) (s10 : Bool) (w : World) (R : Value → World → Prop) : wpF Tryz.prog Tryz.f33 .n [.agg #[.int .i64 s0, .int .i64 s1, .int .i64 s2, .int .i64 s3, .int .i64 s4, .int .i64 s5, .int .i64 s6, .int .i64 s7, .int .i64 s8, .int .i64 s9, .bool s10]] w R = ref26_Setup_Plan.wp s0 s1 s2 s3 s4 s5 s6 s7 s8 s9 s10 w (fun r w => R (encR false [(true, [(.i .i64), (.i .i64), (.i .i64)])] r) w) := by kernel_rfl
set_option maxRecDepth 100000 in
theorem ref26_Setup_Plan.ok {s0 : Int} {s1 : Int} {s2 : Int} {s3 : Int} {s4 : Int} {s5 : Int} {s6 : Int} {s7 : Int} {s8 : Int} {s9 : Int} {s10 : Bool} {w : World} {R : TR [(true, [(.i .i64), (.i .i64), (.i .i64)])] → World → Prop} (h : ref26_Setup_Plan.wp s0 s1 s2 s3 s4 s5 s6 s7 s8 s9 s10 w R) : clS Tryz.prog F.ref26_Setup_Plan [.agg #[.int .i64 s0, .int .i64 s1, .int .i64 s2, .int .i64 s3, .int .i64 s4, .int .i64 s5, .int .i64 s6, .int .i64 s7, .int .i64 s8, .int .i64 s9, .bool s10]] w false [(true, [(.i .i64), (.i .i64), (.i .i64)])] R :=
  ok_of Tryz_follows Tryz.func33 (fun R => ref26_Setup_Plan.wp s0 s1 s2 s3 s4 s5 s6 s7 s8 s9 s10 w R) (ref26_Setup_Plan.eq s0 s1 s2 s3 s4 s5 s6 s7 s8 s9 s10 w) rfl h
/-! ### node_Setup_Good -/
set_option maxRecDepth 100000 in
def node_Setup_Good.wp (s0 : Int) (s1 : Int) (s2 : Int) (s3 : Int) (s4 : Int) (s5 : Int) (s6 : Int) (s7 : Int) (s8 : Int) (s9 : Int) (s10 : Bool) (w : World) (R : TR [(false, [.b])] → World → Prop) : Prop :=
alK [.int .i64 s0, .int .i64 s1, .int .i64 s2, .int .i64 s3, .int .i64 s4, .int .i64 s5, .int .i64 s6, .int .i64 s7, .int .i64 s8, .int .i64 s9, .bool s10] T.node_Setup w fun p1 w2 =>
ld1 (.i .i64) p1 w2 fun x3 =>
brB (decide (x3 ≥ 0)) (
ld1 (.i .i64) p1 w2 fun x4 =>
brB (decide (x4 < 64)) (
ldN [(.i .i64), (.i .i64), (.i .i64), (.i .i64)] (p1.add 1) 0 w2 fun x5 =>
clS Tryz.prog F.flood_Rules_Good [.agg #[.int .i64 x5.1, .int .i64 x5.2.1, .int .i64 x5.2.2.1, .int .i64 x5.2.2.2.1]] w2 false [(false, [.b])] fun r6 w7 =>
brB r6.1.1 (
ldN [(.i .i64), (.i .i64), (.i .i64)] (p1.add 5) 0 w7 fun x8 =>
clS Tryz.prog F.duty_Plan_Good [.agg #[.int .i64 x8.1, .int .i64 x8.2.1, .int .i64 x8.2.2.1]] w7 false [(false, [.b])] fun r9 w10 =>
brB r9.1.1 (
ld1 (.i .i64) (p1.add 8) w10 fun x11 =>
brB (decide (x11 ≥ 1)) (
ld1 (.i .i64) (p1.add 8) w10 fun x12 =>
ld1 (.i .i64) (p1.add 1) w10 fun x13 =>
brB (decide (x12 ≤ x13)) (
ld1 (.i .i64) (p1.add 9) w10 fun x14 =>
brB (decide (x14 ≥ 0)) (
ld1 (.i .i64) (p1.add 9) w10 fun x15 =>
R ((decide (x15 ≤ 20), ()), ()) w10) (
R ((false, ()), ()) w10)) (
R ((false, ()), ()) w10)) (
R ((false, ()), ()) w10)) (
R ((false, ()), ()) w10)) (
R ((false, ()), ()) w7)) (
R ((false, ()), ()) w2)) (
R ((false, ()), ()) w2)
set_option maxRecDepth 100000 in
theorem node_Setup_Good.eq (s0 : Int) (s1 : Int) (s2 : Int) (s3 : Int) (s4 : Int) (s5 : Int) (s6 : Int) (s7 : Int) (s8 : Int) (s9 : Int) (s10 : Bool) (w : World) (R : Value → World → Prop) : wpF Tryz.prog Tryz.f34 .n [.agg #[.int .i64 s0, .int .i64 s1, .int .i64 s2, .int .i64 s3, .int .i64 s4, .int .i64 s5, .int .i64 s6, .int .i64 s7, .int .i64 s8, .int .i64 s9, .bool s10]] w R = node_Setup_Good.wp s0 s1 s2 s3 s4 s5 s6 s7 s8 s9 s10 w (fun r w => R (encR false [(false, [.b])] r) w) := by kernel_rfl
set_option maxRecDepth 100000 in
theorem node_Setup_Good.ok {s0 : Int} {s1 : Int} {s2 : Int} {s3 : Int} {s4 : Int} {s5 : Int} {s6 : Int} {s7 : Int} {s8 : Int} {s9 : Int} {s10 : Bool} {w : World} {R : TR [(false, [.b])] → World → Prop} (h : node_Setup_Good.wp s0 s1 s2 s3 s4 s5 s6 s7 s8 s9 s10 w R) : clS Tryz.prog F.node_Setup_Good [.agg #[.int .i64 s0, .int .i64 s1, .int .i64 s2, .int .i64 s3, .int .i64 s4, .int .i64 s5, .int .i64 s6, .int .i64 s7, .int .i64 s8, .int .i64 s9, .bool s10]] w false [(false, [.b])] R :=
  ok_of Tryz_follows Tryz.func34 (fun R => node_Setup_Good.wp s0 s1 s2 s3 s4 s5 s6 s7 s8 s9 s10 w R) (node_Setup_Good.eq s0 s1 s2 s3 s4 s5 s6 s7 s8 s9 s10 w) rfl h
/-! ### event_New -/
set_option maxRecDepth 100000 in
def event_New.wp  (w : World) (R : TR [(false, [.p])] → World → Prop) : Prop :=
clS Tryz.prog F.ring_New_event_Event [.int .i64 16] w true [(false, [.p]), (false, [(.i .i64)])] fun r1 w2 =>
alK [.pointer r1.1.1, .int .i64 0] T.event_Log w2 fun p3 w4 =>
R ((some p3, ()), ()) w4
set_option maxRecDepth 100000 in
theorem event_New.eq  (w : World) (R : Value → World → Prop) : wpF Tryz.prog Tryz.f35 .n [] w R = event_New.wp  w (fun r w => R (encR false [(false, [.p])] r) w) := by kernel_rfl
set_option maxRecDepth 100000 in
theorem event_New.ok  {w : World} {R : TR [(false, [.p])] → World → Prop} (h : event_New.wp  w R) : clS Tryz.prog F.event_New [] w false [(false, [.p])] R :=
  ok_of Tryz_follows Tryz.func35 (fun R => event_New.wp  w R) (event_New.eq  w) rfl h
/-! ### tick_New -/
set_option maxRecDepth 100000 in
def tick_New.wp (drift : Int) (w : World) (R : TR [(false, [.p]), (false, [(.i .i64)])] → World → Prop) : Prop :=
brB (decide (drift < 0)) (
R ((none, ()), (1, ()), ()) w) (
brB (decide (drift > 10)) (
R ((none, ()), (1, ()), ()) w) (
alK [.int .i64 drift, .int .u32 0, .int .i64 0] T.tick_Clock w fun p1 w2 =>
R ((some p1, ()), (0, ()), ()) w2))
set_option maxRecDepth 100000 in
theorem tick_New.eq (drift : Int) (w : World) (R : Value → World → Prop) : wpF Tryz.prog Tryz.f36 .n [.int .i64 drift] w R = tick_New.wp drift w (fun r w => R (encR true [(false, [.p]), (false, [(.i .i64)])] r) w) := by kernel_rfl
set_option maxRecDepth 100000 in
theorem tick_New.ok {drift : Int} {w : World} {R : TR [(false, [.p]), (false, [(.i .i64)])] → World → Prop} (h : tick_New.wp drift w R) : clS Tryz.prog F.tick_New [.int .i64 drift] w true [(false, [.p]), (false, [(.i .i64)])] R :=
  ok_of Tryz_follows Tryz.func36 (fun R => tick_New.wp drift w R) (tick_New.eq drift w) rfl h
/-! ### flood_New -/
set_option maxRecDepth 100000 in
def flood_New.wp (me : Int) (r0 : Int) (r1 : Int) (r2 : Int) (r3 : Int) (w : World) (R : TR [(false, [.p]), (false, [(.i .i64)])] → World → Prop) : Prop :=
alK [.int .i64 r0, .int .i64 r1, .int .i64 r2, .int .i64 r3] T.flood_Rules w fun p1 w2 =>
ldN [(.i .i64), (.i .i64), (.i .i64), (.i .i64)] p1 0 w2 fun x3 =>
clS Tryz.prog F.flood_Rules_Good [.agg #[.int .i64 x3.1, .int .i64 x3.2.1, .int .i64 x3.2.2.1, .int .i64 x3.2.2.2.1]] w2 false [(false, [.b])] fun r4 w5 =>
brB (!r4.1.1) (
R ((none, ()), (1, ()), ()) w5) (
ldN [(.i .i64), (.i .i64)] p1 0 w5 fun x6 =>
clS Tryz.prog F.elect_New [.int .i64 me, .agg #[.int .i64 x6.1, .int .i64 x6.2.1]] w5 true [(false, [.p]), (false, [(.i .i64)])] fun r7 w8 =>
brB (r7.2.1.1 != 0) (
R ((none, ()), (r7.2.1.1, ()), ()) w8) (
ldN [(.i .i64), (.i .i64), (.i .i64), (.i .i64)] p1 0 w8 fun x9 =>
alK [.pointer r7.1.1, .int .i64 me, .int .i64 x9.1, .int .i64 x9.2.1, .int .i64 x9.2.2.1, .int .i64 x9.2.2.2.1, .slice none 0 0, .int .i64 0, .int .i64 0, .int .i64 0] T.flood_Flood w8 fun p10 w11 =>
R ((some p10, ()), (0, ()), ()) w11))
set_option maxRecDepth 100000 in
theorem flood_New.eq (me : Int) (r0 : Int) (r1 : Int) (r2 : Int) (r3 : Int) (w : World) (R : Value → World → Prop) : wpF Tryz.prog Tryz.f37 .n [.int .i64 me, .agg #[.int .i64 r0, .int .i64 r1, .int .i64 r2, .int .i64 r3]] w R = flood_New.wp me r0 r1 r2 r3 w (fun r w => R (encR true [(false, [.p]), (false, [(.i .i64)])] r) w) := by kernel_rfl
set_option maxRecDepth 100000 in
theorem flood_New.ok {me : Int} {r0 : Int} {r1 : Int} {r2 : Int} {r3 : Int} {w : World} {R : TR [(false, [.p]), (false, [(.i .i64)])] → World → Prop} (h : flood_New.wp me r0 r1 r2 r3 w R) : clS Tryz.prog F.flood_New [.int .i64 me, .agg #[.int .i64 r0, .int .i64 r1, .int .i64 r2, .int .i64 r3]] w true [(false, [.p]), (false, [(.i .i64)])] R :=
  ok_of Tryz_follows Tryz.func37 (fun R => flood_New.wp me r0 r1 r2 r3 w R) (flood_New.eq me r0 r1 r2 r3 w) rfl h
/-! ### level_New -/
set_option maxRecDepth 100000 in
def level_New.wp (me : Int) (w : World) (R : TR [(false, [.p]), (false, [(.i .i64)])] → World → Prop) : Prop :=
brB (decide (me < 0)) (
R ((none, ()), (1, ()), ()) w) (
brB (decide (me ≥ 64)) (
R ((none, ()), (1, ()), ()) w) (
alK [.int .i64 me, .int .i64 (Int.negSucc 0), .int .i64 (Int.negSucc 0)] T.level_Level w fun p1 w2 =>
R ((some p1, ()), (0, ()), ()) w2))
set_option maxRecDepth 100000 in
theorem level_New.eq (me : Int) (w : World) (R : Value → World → Prop) : wpF Tryz.prog Tryz.f38 .n [.int .i64 me] w R = level_New.wp me w (fun r w => R (encR true [(false, [.p]), (false, [(.i .i64)])] r) w) := by kernel_rfl
set_option maxRecDepth 100000 in
theorem level_New.ok {me : Int} {w : World} {R : TR [(false, [.p]), (false, [(.i .i64)])] → World → Prop} (h : level_New.wp me w R) : clS Tryz.prog F.level_New [.int .i64 me] w true [(false, [.p]), (false, [(.i .i64)])] R :=
  ok_of Tryz_follows Tryz.func38 (fun R => level_New.wp me w R) (level_New.eq me w) rfl h
/-! ### pair_New -/
set_option maxRecDepth 100000 in
def pair_New.wp (me : Int) (w : World) (R : TR [(false, [.p]), (false, [(.i .i64)])] → World → Prop) : Prop :=
brB (decide (me < 0)) (
R ((none, ()), (1, ()), ()) w) (
brB (decide (me ≥ 64)) (
R ((none, ()), (1, ()), ()) w) (
alK [.int .i64 me, .int .i64 0, .int .i64 0, .bool false, .int .i64 0, .int .i64 0, .int .i64 0] T.pair_Pair w fun p1 w2 =>
R ((some p1, ()), (0, ()), ()) w2))
set_option maxRecDepth 100000 in
theorem pair_New.eq (me : Int) (w : World) (R : Value → World → Prop) : wpF Tryz.prog Tryz.f39 .n [.int .i64 me] w R = pair_New.wp me w (fun r w => R (encR true [(false, [.p]), (false, [(.i .i64)])] r) w) := by kernel_rfl
set_option maxRecDepth 100000 in
theorem pair_New.ok {me : Int} {w : World} {R : TR [(false, [.p]), (false, [(.i .i64)])] → World → Prop} (h : pair_New.wp me w R) : clS Tryz.prog F.pair_New [.int .i64 me] w true [(false, [.p]), (false, [(.i .i64)])] R :=
  ok_of Tryz_follows Tryz.func39 (fun R => pair_New.wp me w R) (pair_New.eq me w) rfl h
/-! ### source_New -/
set_option maxRecDepth 100000 in
def source_New.wp (limit : Int) (w : World) (R : TR [(false, [.p]), (false, [(.i .i64)])] → World → Prop) : Prop :=
brB (decide (limit < 1)) (
R ((none, ()), (1, ()), ()) w) (
brB (decide (limit > 1000)) (
R ((none, ()), (1, ()), ()) w) (
alK [.int .i64 limit, .int .i64 0, .int .i64 0, .int .i64 0, .int .i64 0, .int .u16 0, .int .i64 0, .bool false] T.source_Source w fun p1 w2 =>
R ((some p1, ()), (0, ()), ()) w2))
set_option maxRecDepth 100000 in
theorem source_New.eq (limit : Int) (w : World) (R : Value → World → Prop) : wpF Tryz.prog Tryz.f40 .n [.int .i64 limit] w R = source_New.wp limit w (fun r w => R (encR true [(false, [.p]), (false, [(.i .i64)])] r) w) := by kernel_rfl
set_option maxRecDepth 100000 in
theorem source_New.ok {limit : Int} {w : World} {R : TR [(false, [.p]), (false, [(.i .i64)])] → World → Prop} (h : source_New.wp limit w R) : clS Tryz.prog F.source_New [.int .i64 limit] w true [(false, [.p]), (false, [(.i .i64)])] R :=
  ok_of Tryz_follows Tryz.func40 (fun R => source_New.wp limit w R) (source_New.eq limit w) rfl h
/-! ### ring_New_node_job -/
set_option maxRecDepth 100000 in
def ring_New_node_job.wp (room : Int) (w : World) (R : TR [(false, [.p]), (false, [(.i .i64)])] → World → Prop) : Prop :=
brB (decide (room < 1)) (
R ((none, ()), (1, ()), ()) w) (
brB (decide (room > 64)) (
R ((none, ()), (1, ()), ()) w) (
slOf ((Instr.makeSlice T.sl_node_job (.int .i64 room) (.int .i64 room)).run Tryz.prog w) fun y1 w2 =>
alK [.slice y1.1 y1.2.1 y1.2.2, .int .i64 0, .int .i64 0] T.ring_Ring_node_job w2 fun p3 w4 =>
R ((some p3, ()), (0, ()), ()) w4))
set_option maxRecDepth 100000 in
theorem ring_New_node_job.eq (room : Int) (w : World) (R : Value → World → Prop) : wpF Tryz.prog Tryz.f41 .n [.int .i64 room] w R = ring_New_node_job.wp room w (fun r w => R (encR true [(false, [.p]), (false, [(.i .i64)])] r) w) := by kernel_rfl
set_option maxRecDepth 100000 in
theorem ring_New_node_job.ok {room : Int} {w : World} {R : TR [(false, [.p]), (false, [(.i .i64)])] → World → Prop} (h : ring_New_node_job.wp room w R) : clS Tryz.prog F.ring_New_node_job [.int .i64 room] w true [(false, [.p]), (false, [(.i .i64)])] R :=
  ok_of Tryz_follows Tryz.func41 (fun R => ring_New_node_job.wp room w R) (ring_New_node_job.eq room w) rfl h
/-! ### tick_Clock_Boot -/
set_option maxRecDepth 100000 in
def tick_Clock_Boot.wp (c : Option Addr) (raw : Int) (w : World) (R : TR [] → World → Prop) : Prop :=
brB (!(Option.isNone c)) (
ncK c fun a1 =>
stN [.int .u32 raw] (a1.add 1) 0 w fun w2 =>
ncK c fun a3 =>
stN [.int .i64 (IntKind.wrap .i64 raw)] (a3.add 2) 0 w2 fun w4 =>
R (()) w4) (
R (()) w)
set_option maxRecDepth 100000 in
theorem tick_Clock_Boot.eq (c : Option Addr) (raw : Int) (w : World) (R : Value → World → Prop) : wpF Tryz.prog Tryz.f42 .n [.pointer c, .int .u32 raw] w R = tick_Clock_Boot.wp c raw w (fun r w => R (encR true [] r) w) := by kernel_rfl
set_option maxRecDepth 100000 in
theorem tick_Clock_Boot.ok {c : Option Addr} {raw : Int} {w : World} {R : TR [] → World → Prop} (h : tick_Clock_Boot.wp c raw w R) : clS Tryz.prog F.tick_Clock_Boot [.pointer c, .int .u32 raw] w true [] R :=
  ok_of Tryz_follows Tryz.func42 (fun R => tick_Clock_Boot.wp c raw w R) (tick_Clock_Boot.eq c raw w) rfl h
/-! ### flood_Flood_Boot -/
set_option maxRecDepth 100000 in
def flood_Flood_Boot.wp (f : Option Addr) (boot : Int) (w : World) (R : TR [] → World → Prop) : Prop :=
brB (!(Option.isNone f)) (
ncK f fun a1 =>
ld1 .p a1 w fun x2 =>
clS Tryz.prog F.elect_Elect_Boot [.pointer x2, .int .u16 boot] w true [] fun r3 w4 =>
clS Tryz.prog F.flood_Flood_forget [.pointer f] w4 true [] fun r5 w6 =>
R (()) w6) (
R (()) w)
set_option maxRecDepth 100000 in
theorem flood_Flood_Boot.eq (f : Option Addr) (boot : Int) (w : World) (R : Value → World → Prop) : wpF Tryz.prog Tryz.f43 .n [.pointer f, .int .u16 boot] w R = flood_Flood_Boot.wp f boot w (fun r w => R (encR true [] r) w) := by kernel_rfl
set_option maxRecDepth 100000 in
theorem flood_Flood_Boot.ok {f : Option Addr} {boot : Int} {w : World} {R : TR [] → World → Prop} (h : flood_Flood_Boot.wp f boot w R) : clS Tryz.prog F.flood_Flood_Boot [.pointer f, .int .u16 boot] w true [] R :=
  ok_of Tryz_follows Tryz.func43 (fun R => flood_Flood_Boot.wp f boot w R) (flood_Flood_Boot.eq f boot w) rfl h
/-! ### level_Level_Lose -/
set_option maxRecDepth 100000 in
def level_Level_Lose.wp (l : Option Addr) (w : World) (R : TR [] → World → Prop) : Prop :=
brB (!(Option.isNone l)) (
ncK l fun a1 =>
stN [.int .i64 (Int.negSucc 0)] (a1.add 1) 0 w fun w2 =>
ncK l fun a3 =>
stN [.int .i64 (Int.negSucc 0)] (a3.add 2) 0 w2 fun w4 =>
R (()) w4) (
R (()) w)
set_option maxRecDepth 100000 in
theorem level_Level_Lose.eq (l : Option Addr) (w : World) (R : Value → World → Prop) : wpF Tryz.prog Tryz.f44 .n [.pointer l] w R = level_Level_Lose.wp l w (fun r w => R (encR true [] r) w) := by kernel_rfl
set_option maxRecDepth 100000 in
theorem level_Level_Lose.ok {l : Option Addr} {w : World} {R : TR [] → World → Prop} (h : level_Level_Lose.wp l w R) : clS Tryz.prog F.level_Level_Lose [.pointer l] w true [] R :=
  ok_of Tryz_follows Tryz.func44 (fun R => level_Level_Lose.wp l w R) (level_Level_Lose.eq l w) rfl h
/-! ### pair_Pair_Boot -/
set_option maxRecDepth 100000 in
def pair_Pair_Boot.wp (p : Option Addr) (w : World) (R : TR [] → World → Prop) : Prop :=
brB (!(Option.isNone p)) (
ncK p fun a1 =>
ld1 (.i .i64) a1 w fun x2 =>
ncK p fun a3 =>
stN [.int .i64 x2, .int .i64 0, .int .i64 0, .bool false, .int .i64 0, .int .i64 0, .int .i64 0] a3 0 w fun w4 =>
R (()) w4) (
R (()) w)
set_option maxRecDepth 100000 in
theorem pair_Pair_Boot.eq (p : Option Addr) (w : World) (R : Value → World → Prop) : wpF Tryz.prog Tryz.f45 .n [.pointer p] w R = pair_Pair_Boot.wp p w (fun r w => R (encR true [] r) w) := by kernel_rfl
set_option maxRecDepth 100000 in
theorem pair_Pair_Boot.ok {p : Option Addr} {w : World} {R : TR [] → World → Prop} (h : pair_Pair_Boot.wp p w R) : clS Tryz.prog F.pair_Pair_Boot [.pointer p] w true [] R :=
  ok_of Tryz_follows Tryz.func45 (fun R => pair_Pair_Boot.wp p w R) (pair_Pair_Boot.eq p w) rfl h
/-! ### source_Source_Drop -/
set_option maxRecDepth 100000 in
def source_Source_Drop.wp (s : Option Addr) (w : World) (R : TR [] → World → Prop) : Prop :=
brB (!(Option.isNone s)) (
ncK s fun a1 =>
ld1 (.i .i64) a1 w fun x2 =>
ncK s fun a3 =>
stN [.int .i64 x2, .int .i64 0, .int .i64 0, .int .i64 0, .int .i64 0, .int .u16 0, .int .i64 0, .bool false] a3 0 w fun w4 =>
R (()) w4) (
R (()) w)
set_option maxRecDepth 100000 in
theorem source_Source_Drop.eq (s : Option Addr) (w : World) (R : Value → World → Prop) : wpF Tryz.prog Tryz.f46 .n [.pointer s] w R = source_Source_Drop.wp s w (fun r w => R (encR true [] r) w) := by kernel_rfl
set_option maxRecDepth 100000 in
theorem source_Source_Drop.ok {s : Option Addr} {w : World} {R : TR [] → World → Prop} (h : source_Source_Drop.wp s w R) : clS Tryz.prog F.source_Source_Drop [.pointer s] w true [] R :=
  ok_of Tryz_follows Tryz.func46 (fun R => source_Source_Drop.wp s w R) (source_Source_Drop.eq s w) rfl h
/-! ### anchor_Book_Drop -/
set_option maxRecDepth 100000 in
def anchor_Book_Drop.wp (b : Option Addr) (w : World) (R : TR [] → World → Prop) : Prop :=
brB (!(Option.isNone b)) (
ncK b fun a1 =>
stN [.bool false, .int .i64 0, .int .u16 0, .int .i64 0, .int .u16 0, .int .i64 0, .int .i64 0] a1 0 w fun w2 =>
R (()) w2) (
R (()) w)
set_option maxRecDepth 100000 in
theorem anchor_Book_Drop.eq (b : Option Addr) (w : World) (R : Value → World → Prop) : wpF Tryz.prog Tryz.f47 .n [.pointer b] w R = anchor_Book_Drop.wp b w (fun r w => R (encR true [] r) w) := by kernel_rfl
set_option maxRecDepth 100000 in
theorem anchor_Book_Drop.ok {b : Option Addr} {w : World} {R : TR [] → World → Prop} (h : anchor_Book_Drop.wp b w R) : clS Tryz.prog F.anchor_Book_Drop [.pointer b] w true [] R :=
  ok_of Tryz_follows Tryz.func47 (fun R => anchor_Book_Drop.wp b w R) (anchor_Book_Drop.eq b w) rfl h
/-! ### event_Log_Clear -/
set_option maxRecDepth 100000 in
def event_Log_Clear.wp (l : Option Addr) (w : World) (R : TR [] → World → Prop) : Prop :=
brB (!(Option.isNone l)) (
ncK l fun a1 =>
ld1 .p a1 w fun x2 =>
clS Tryz.prog F.ring_Ring_event_Event_Clear [.pointer x2] w true [] fun r3 w4 =>
ncK l fun a5 =>
stN [.int .i64 0] (a5.add 1) 0 w4 fun w6 =>
R (()) w6) (
R (()) w)
set_option maxRecDepth 100000 in
theorem event_Log_Clear.eq (l : Option Addr) (w : World) (R : Value → World → Prop) : wpF Tryz.prog Tryz.f48 .n [.pointer l] w R = event_Log_Clear.wp l w (fun r w => R (encR true [] r) w) := by kernel_rfl
set_option maxRecDepth 100000 in
theorem event_Log_Clear.ok {l : Option Addr} {w : World} {R : TR [] → World → Prop} (h : event_Log_Clear.wp l w R) : clS Tryz.prog F.event_Log_Clear [.pointer l] w true [] R :=
  ok_of Tryz_follows Tryz.func48 (fun R => event_Log_Clear.wp l w R) (event_Log_Clear.eq l w) rfl h
/-! ### ring_Ring_node_job_Clear -/
set_option maxRecDepth 100000 in
def ring_Ring_node_job_Clear.wp (r : Option Addr) (w : World) (R : TR [] → World → Prop) : Prop :=
brB (!(Option.isNone r)) (
ncK r fun a1 =>
ld1 .sl a1 w fun x2 =>
crK Tryz.prog #[T.sl_node_job] T.t0 (.slice x2.1 x2.2.1 x2.2.2) w fun w3 =>
ncK r fun a4 =>
stN [.int .i64 0] (a4.add 1) 0 w3 fun w5 =>
ncK r fun a6 =>
stN [.int .i64 0] (a6.add 2) 0 w5 fun w7 =>
R (()) w7) (
R (()) w)
set_option maxRecDepth 100000 in
theorem ring_Ring_node_job_Clear.eq (r : Option Addr) (w : World) (R : Value → World → Prop) : wpF Tryz.prog Tryz.f49 .n [.pointer r] w R = ring_Ring_node_job_Clear.wp r w (fun r w => R (encR true [] r) w) := by kernel_rfl
set_option maxRecDepth 100000 in
theorem ring_Ring_node_job_Clear.ok {r : Option Addr} {w : World} {R : TR [] → World → Prop} (h : ring_Ring_node_job_Clear.wp r w R) : clS Tryz.prog F.ring_Ring_node_job_Clear [.pointer r] w true [] R :=
  ok_of Tryz_follows Tryz.func49 (fun R => ring_Ring_node_job_Clear.wp r w R) (ring_Ring_node_job_Clear.eq r w) rfl h
/-! ### node_Node_ready -/
set_option maxRecDepth 100000 in
def node_Node_ready.wp (n : Option Addr) (w : World) (R : TR [(false, [(.i .i64)])] → World → Prop) : Prop :=
brB (Option.isNone n) (
R ((2, ()), ()) w) (
ncK n fun a1 =>
ld1 .b (a1.add 12) w fun x2 =>
brB (!x2) (
R ((10, ()), ()) w) (
R ((0, ()), ()) w))
set_option maxRecDepth 100000 in
theorem node_Node_ready.eq (n : Option Addr) (w : World) (R : Value → World → Prop) : wpF Tryz.prog Tryz.f50 .n [.pointer n] w R = node_Node_ready.wp n w (fun r w => R (encR false [(false, [(.i .i64)])] r) w) := by kernel_rfl
set_option maxRecDepth 100000 in
theorem node_Node_ready.ok {n : Option Addr} {w : World} {R : TR [(false, [(.i .i64)])] → World → Prop} (h : node_Node_ready.wp n w R) : clS Tryz.prog F.node_Node_ready [.pointer n] w false [(false, [(.i .i64)])] R :=
  ok_of Tryz_follows Tryz.func50 (fun R => node_Node_ready.wp n w R) (node_Node_ready.eq n w) rfl h
/-! ### tick_Clock_Go -/
set_option maxRecDepth 100000 in
def tick_Clock_Go.wp (c : Option Addr) (ticks : Int) (w : World) (R : TR [(false, [(.i .i64)])] → World → Prop) : Prop :=
brB (Option.isNone c) (
R ((2, ()), ()) w) (
clS Tryz.prog F.tick_Clock_Fits [.pointer c, .int .i64 ticks] w false [(false, [.b])] fun r1 w2 =>
brB (!r1.1.1) (
R ((1, ()), ()) w2) (
drK w2 fun w3 =>
ncK c fun a4 =>
ld1 (.i .i64) (a4.add 2) w3 fun x5 =>
ncK c fun a6 =>
ld1 (.i .u32) (a6.add 1) w3 fun x7 =>
clS Tryz.prog F.wrap_Extend [.int .i64 x5, .int .u32 (IntKind.wrap .u32 (x7 + (IntKind.wrap .u32 ticks)))] w3 true [(false, [(.i .i64)]), (false, [.b])] fun r8 w9 =>
Hold [(7, (a6.add 1), (w3.cell? (a6.add 1)).getD undef)] w9 ∧ (
brB (!r8.2.1.1) (
R ((8, ()), ()) w9) (
ncK c fun a10 =>
ld1 (.i .u32) (a10.add 1) w9 fun x11 =>
ncK c fun a12 =>
stN [.int .u32 (IntKind.wrap .u32 (x11 + (IntKind.wrap .u32 ticks)))] (a12.add 1) 0 w9 fun w13 =>
ncK c fun a14 =>
stN [.int .i64 r8.1.1] (a14.add 2) 0 w13 fun w15 =>
R ((0, ()), ()) w15))))
set_option maxRecDepth 100000 in
theorem tick_Clock_Go.eq (c : Option Addr) (ticks : Int) (w : World) (R : Value → World → Prop) : wpF Tryz.prog Tryz.f51 (.s .n (.s .n (.s (.pl (.tk 0 (.tk 1 (.tk 2 (.tk 3 (.tk 4 (.tk 5 (.tk 6 (.tk 7 (.tk 8 (.tk 9 (.tk 10 (.ef 11 [3] (.tk 12 (.tk 13 (.tk 14 (.tk 15 (.tk 16 .z)))))))))))))))))) .n))) [.pointer c, .int .i64 ticks] w R = tick_Clock_Go.wp c ticks w (fun r w => R (encR false [(false, [(.i .i64)])] r) w) := by kernel_rfl
set_option maxRecDepth 100000 in
theorem tick_Clock_Go.ok {c : Option Addr} {ticks : Int} {w : World} {R : TR [(false, [(.i .i64)])] → World → Prop} (h : tick_Clock_Go.wp c ticks w R) : clS Tryz.prog F.tick_Clock_Go [.pointer c, .int .i64 ticks] w false [(false, [(.i .i64)])] R :=
  ok_of Tryz_follows Tryz.func51 (fun R => tick_Clock_Go.wp c ticks w R) (tick_Clock_Go.eq c ticks w) rfl h
/-! ### node_Node_stamp -/
set_option maxRecDepth 100000 in
def node_Node_stamp.wp (n : Option Addr) (jitter : Int) (w : World) (R : TR [(false, [(.i .i64)]), (false, [(.i .i64)])] → World → Prop) : Prop :=
clS Tryz.prog F.node_Node_ready [.pointer n] w false [(false, [(.i .i64)])] fun r1 w2 =>
brB (r1.1.1 != 0) (
R ((0, ()), (r1.1.1, ()), ()) w2) (
ncK n fun a3 =>
ld1 (.i .i64) (a3.add 9) w2 fun x4 =>
brB (decide (jitter < (IntKind.wrap .i64 (0 - x4)))) (
R ((0, ()), (1, ()), ()) w2) (
ncK n fun a5 =>
ld1 (.i .i64) (a5.add 9) w2 fun x6 =>
brB (decide (jitter > x6)) (
R ((0, ()), (1, ()), ()) w2) (
ncK n fun a7 =>
ld1 .p (a7.add 14) w2 fun x8 =>
clS Tryz.prog F.tick_Clock_Now [.pointer x8] w2 false [(false, [(.i .i64)])] fun r9 w10 =>
clS Tryz.prog F.fix_Clamp [.int .i64 (IntKind.wrap .i64 (r9.1.1 + jitter)), .int .i64 0, .int .i64 1125899906842624] w10 false [(false, [(.i .i64)])] fun r11 w12 =>
R ((r11.1.1, ()), (0, ()), ()) w12)))
set_option maxRecDepth 100000 in
theorem node_Node_stamp.eq (n : Option Addr) (jitter : Int) (w : World) (R : Value → World → Prop) : wpF Tryz.prog Tryz.f52 .n [.pointer n, .int .i64 jitter] w R = node_Node_stamp.wp n jitter w (fun r w => R (encR true [(false, [(.i .i64)]), (false, [(.i .i64)])] r) w) := by kernel_rfl
set_option maxRecDepth 100000 in
theorem node_Node_stamp.ok {n : Option Addr} {jitter : Int} {w : World} {R : TR [(false, [(.i .i64)]), (false, [(.i .i64)])] → World → Prop} (h : node_Node_stamp.wp n jitter w R) : clS Tryz.prog F.node_Node_stamp [.pointer n, .int .i64 jitter] w true [(false, [(.i .i64)]), (false, [(.i .i64)])] R :=
  ok_of Tryz_follows Tryz.func52 (fun R => node_Node_stamp.wp n jitter w R) (node_Node_stamp.eq n jitter w) rfl h
/-! ### duty_Plan_Mine -/
set_option maxRecDepth 100000 in
def duty_Plan_Mine.wp (p0 : Int) (p1 : Int) (p2 : Int) (step : Int) (w : World) (R : TR [(false, [.b])] → World → Prop) : Prop :=
alK [.int .i64 p0, .int .i64 p1, .int .i64 p2] T.duty_Plan w fun p3 w4 =>
drK w4 fun w5 =>
ldN [(.i .i64), (.i .i64), (.i .i64)] p3 0 w5 fun x6 =>
clS Tryz.prog F.duty_Plan_Good [.agg #[.int .i64 x6.1, .int .i64 x6.2.1, .int .i64 x6.2.2.1]] w5 false [(false, [.b])] fun r7 w8 =>
Hold [] w8 ∧ (
brB r7.1.1 (
brB (decide (step ≥ 0)) (
ld1 (.i .i64) p3 w8 fun x9 =>
nzK x9 (
ld1 (.i .i64) (p3.add 2) w8 fun x10 =>
R ((((Int.tmod step x9) == x10), ()), ()) w8)) (
R ((false, ()), ()) w8)) (
R ((false, ()), ()) w8))
set_option maxRecDepth 100000 in
theorem duty_Plan_Mine.eq (p0 : Int) (p1 : Int) (p2 : Int) (step : Int) (w : World) (R : Value → World → Prop) : wpF Tryz.prog Tryz.f53 (.s .n (.s (.pl (.tk 0 (.ef 1 [0] (.tk 2 (.tk 3 (.tk 4 (.tk 5 (.tk 6 (.tk 7 (.tk 8 (.tk 9 (.tk 10 (.tk 11 (.tk 12 (.tk 13 (.tk 14 (.tk 15 .z))))))))))))))))) .n)) [.agg #[.int .i64 p0, .int .i64 p1, .int .i64 p2], .int .i64 step] w R = duty_Plan_Mine.wp p0 p1 p2 step w (fun r w => R (encR false [(false, [.b])] r) w) := by kernel_rfl
set_option maxRecDepth 100000 in
theorem duty_Plan_Mine.ok {p0 : Int} {p1 : Int} {p2 : Int} {step : Int} {w : World} {R : TR [(false, [.b])] → World → Prop} (h : duty_Plan_Mine.wp p0 p1 p2 step w R) : clS Tryz.prog F.duty_Plan_Mine [.agg #[.int .i64 p0, .int .i64 p1, .int .i64 p2], .int .i64 step] w false [(false, [.b])] R :=
  ok_of Tryz_follows Tryz.func53 (fun R => duty_Plan_Mine.wp p0 p1 p2 step w R) (duty_Plan_Mine.eq p0 p1 p2 step w) rfl h
/-! ### flood_Flood_Beat -/
set_option maxRecDepth 100000 in
def flood_Flood_Beat.wp (f : Option Addr) (local_ : Int) (w : World) (R : TR [(true, [(.i .i64), (.i .i64), (.i .u16), (.i .u16), (.i .i64), (.i .i64)]), (false, [.b])] → World → Prop) : Prop :=
alK [.int .i64 0, .int .i64 0, .int .u16 0, .int .u16 0, .int .i64 0, .int .i64 0] T.frame_Sync w fun p1 w2 =>
brB (Option.isNone f) (
stN [.int .i64 0, .int .i64 0, .int .u16 0, .int .u16 0, .int .i64 0, .int .i64 0] p1 0 w2 fun w3 =>
ldN [(.i .i64), (.i .i64), (.i .u16), (.i .u16), (.i .i64), (.i .i64)] p1 0 w3 fun x4 =>
R ((x4.1, x4.2.1, x4.2.2.1, x4.2.2.2.1, x4.2.2.2.2.1, x4.2.2.2.2.2.1, ()), (false, ()), ()) w3) (
CutT (fun (J5 : Unit → World → Prop) =>
ncK f fun a8 =>
ld1 .p a8 w2 fun x9 =>
clS Tryz.prog F.elect_Elect_Beat [.pointer x9] w2 false [(false, [.b])] fun r10 w11 =>
brB r10.1.1 (
clS Tryz.prog F.flood_Flood_forget [.pointer f] w11 true [] fun r12 w13 =>
J5 (()) w13) (
J5 (()) w11)) (fun (z6 : Unit) w7 => ∀ _ : Nat → Value,
brB (decide (local_ < 0)) (
stN [.int .i64 0, .int .i64 0, .int .u16 0, .int .u16 0, .int .i64 0, .int .i64 0] p1 0 w7 fun w14 =>
ldN [(.i .i64), (.i .i64), (.i .u16), (.i .u16), (.i .i64), (.i .i64)] p1 0 w14 fun x15 =>
R ((x15.1, x15.2.1, x15.2.2.1, x15.2.2.2.1, x15.2.2.2.2.1, x15.2.2.2.2.2.1, ()), (false, ()), ()) w14) (
brB (decide (local_ > 1125899906842624)) (
stN [.int .i64 0, .int .i64 0, .int .u16 0, .int .u16 0, .int .i64 0, .int .i64 0] p1 0 w7 fun w16 =>
ldN [(.i .i64), (.i .i64), (.i .u16), (.i .u16), (.i .i64), (.i .i64)] p1 0 w16 fun x17 =>
R ((x17.1, x17.2.1, x17.2.2.1, x17.2.2.2.1, x17.2.2.2.2.1, x17.2.2.2.2.2.1, ()), (false, ()), ()) w16) (
clS Tryz.prog F.flood_Flood_word [.pointer f, .int .i64 local_] w7 true [(true, [(.i .i64), (.i .i64), (.i .u16), (.i .u16), (.i .i64), (.i .i64)]), (false, [.b])] fun r18 w19 =>
alK [.int .i64 0, .int .i64 0, .int .u16 0, .int .u16 0, .int .i64 0, .int .i64 0] T.frame_Sync w19 fun p20 w21 =>
stN [.int .i64 r18.1.1, .int .i64 r18.1.2.1, .int .u16 r18.1.2.2.1, .int .u16 r18.1.2.2.2.1, .int .i64 r18.1.2.2.2.2.1, .int .i64 r18.1.2.2.2.2.2.1] p20 0 w21 fun w22 =>
brB (!r18.2.1.1) (
stN [.int .i64 0, .int .i64 0, .int .u16 0, .int .u16 0, .int .i64 0, .int .i64 0] p1 0 w22 fun w23 =>
ldN [(.i .i64), (.i .i64), (.i .u16), (.i .u16), (.i .i64), (.i .i64)] p1 0 w23 fun x24 =>
R ((x24.1, x24.2.1, x24.2.2.1, x24.2.2.2.1, x24.2.2.2.2.1, x24.2.2.2.2.2.1, ()), (false, ()), ()) w23) (
ldN [(.i .i64), (.i .i64), (.i .u16), (.i .u16), (.i .i64), (.i .i64)] p20 0 w22 fun x25 =>
stN [.int .i64 x25.1, .int .i64 x25.2.1, .int .u16 x25.2.2.1, .int .u16 x25.2.2.2.1, .int .i64 x25.2.2.2.2.1, .int .i64 x25.2.2.2.2.2.1] p1 0 w22 fun w26 =>
ldN [(.i .i64), (.i .i64), (.i .u16), (.i .u16), (.i .i64), (.i .i64)] p1 0 w26 fun x27 =>
R ((x27.1, x27.2.1, x27.2.2.1, x27.2.2.2.1, x27.2.2.2.2.1, x27.2.2.2.2.2.1, ()), (true, ()), ()) w26)))))
set_option maxRecDepth 100000 in
theorem flood_Flood_Beat.eq (f : Option Addr) (local_ : Int) (w : World) (R : Value → World → Prop) : wpF Tryz.prog Tryz.f54 (.s .n (.s .n (.ct [] .n .n))) [.pointer f, .int .i64 local_] w R = flood_Flood_Beat.wp f local_ w (fun r w => R (encR true [(true, [(.i .i64), (.i .i64), (.i .u16), (.i .u16), (.i .i64), (.i .i64)]), (false, [.b])] r) w) := by kernel_rfl
set_option maxRecDepth 100000 in
theorem flood_Flood_Beat.ok {f : Option Addr} {local_ : Int} {w : World} {R : TR [(true, [(.i .i64), (.i .i64), (.i .u16), (.i .u16), (.i .i64), (.i .i64)]), (false, [.b])] → World → Prop} (h : flood_Flood_Beat.wp f local_ w R) : clS Tryz.prog F.flood_Flood_Beat [.pointer f, .int .i64 local_] w true [(true, [(.i .i64), (.i .i64), (.i .u16), (.i .u16), (.i .i64), (.i .i64)]), (false, [.b])] R :=
  ok_of Tryz_follows Tryz.func54 (fun R => flood_Flood_Beat.wp f local_ w R) (flood_Flood_Beat.eq f local_ w) rfl h
/-! ### source_Source_Beat -/
set_option maxRecDepth 100000 in
def source_Source_Beat.wp (s : Option Addr) (w : World) (R : TR [] → World → Prop) : Prop :=
brB (Option.isNone s) (
R (()) w) (
ncK s fun a1 =>
ld1 .b (a1.add 7) w fun x2 =>
brB (!x2) (
R (()) w) (
ncK s fun a3 =>
ld1 (.i .i64) (a3.add 6) w fun x4 =>
ncK s fun a5 =>
stN [.int .i64 (IntKind.wrap .i64 (x4 + 1))] (a5.add 6) 0 w fun w6 =>
drK w6 fun w7 =>
ncK s fun a8 =>
ld1 (.i .i64) (a8.add 6) w7 fun x9 =>
ncK s fun a10 =>
ld1 (.i .i64) a10 w7 fun x11 =>
brB (decide (x9 ≥ x11)) (
clS Tryz.prog F.source_Source_Drop [.pointer s] w7 true [] fun r12 w13 =>
R (()) w13) (
R (()) w7)))
set_option maxRecDepth 100000 in
theorem source_Source_Beat.eq (s : Option Addr) (w : World) (R : Value → World → Prop) : wpF Tryz.prog Tryz.f55 (.s .n (.s .n (.s (.pl (.tk 0 (.tk 1 (.tk 2 (.tk 3 (.tk 4 (.tk 5 (.tk 6 (.tk 7 (.tk 8 .z)))))))))) .n))) [.pointer s] w R = source_Source_Beat.wp s w (fun r w => R (encR true [] r) w) := by kernel_rfl
set_option maxRecDepth 100000 in
theorem source_Source_Beat.ok {s : Option Addr} {w : World} {R : TR [] → World → Prop} (h : source_Source_Beat.wp s w R) : clS Tryz.prog F.source_Source_Beat [.pointer s] w true [] R :=
  ok_of Tryz_follows Tryz.func55 (fun R => source_Source_Beat.wp s w R) (source_Source_Beat.eq s w) rfl h
/-! ### pair_Pair_Beat -/
set_option maxRecDepth 100000 in
def pair_Pair_Beat.wp (p : Option Addr) (w : World) (R : TR [(false, [.b])] → World → Prop) : Prop :=
brB (Option.isNone p) (
R ((false, ()), ()) w) (
ncK p fun a1 =>
ld1 .b (a1.add 3) w fun x2 =>
brB (!x2) (
ncK p fun a3 =>
ld1 (.i .i64) (a3.add 6) w fun x4 =>
ncK p fun a5 =>
stN [.int .i64 (if 0 > (IntKind.wrap .i64 (x4 - 1)) then 0 else (IntKind.wrap .i64 (x4 - 1)))] (a5.add 6) 0 w fun w6 =>
R ((false, ()), ()) w6) (
ncK p fun a7 =>
ld1 (.i .i64) (a7.add 4) w fun x8 =>
ncK p fun a9 =>
stN [.int .i64 (IntKind.wrap .i64 (x8 + 1))] (a9.add 4) 0 w fun w10 =>
ncK p fun a11 =>
ld1 (.i .i64) (a11.add 4) w10 fun x12 =>
brB (decide (x12 < 2)) (
R ((false, ()), ()) w10) (
ncK p fun a13 =>
stN [.bool false] (a13.add 3) 0 w10 fun w14 =>
ncK p fun a15 =>
ld1 (.i .i64) (a15.add 5) w14 fun x16 =>
ncK p fun a17 =>
stN [.int .i64 (IntKind.wrap .i64 (x16 + 1))] (a17.add 5) 0 w14 fun w18 =>
ncK p fun a19 =>
ld1 (.i .i64) (a19.add 5) w18 fun x20 =>
shK x20 (
ncK p fun a21 =>
stN [.int .i64 (IntKind.wrap .i64 ((shlX .i64 1 x20) - 1))] (a21.add 6) 0 w18 fun w22 =>
ncK p fun a23 =>
ld1 (.i .i64) (a23.add 5) w22 fun x24 =>
brB (decide (x24 < 3)) (
R ((false, ()), ()) w22) (
ncK p fun a25 =>
stN [.int .i64 0] (a25.add 5) 0 w22 fun w26 =>
ncK p fun a27 =>
stN [.int .i64 0] (a27.add 6) 0 w26 fun w28 =>
R ((true, ()), ()) w28)))))
set_option maxRecDepth 100000 in
theorem pair_Pair_Beat.eq (p : Option Addr) (w : World) (R : Value → World → Prop) : wpF Tryz.prog Tryz.f56 .n [.pointer p] w R = pair_Pair_Beat.wp p w (fun r w => R (encR false [(false, [.b])] r) w) := by kernel_rfl
set_option maxRecDepth 100000 in
theorem pair_Pair_Beat.ok {p : Option Addr} {w : World} {R : TR [(false, [.b])] → World → Prop} (h : pair_Pair_Beat.wp p w R) : clS Tryz.prog F.pair_Pair_Beat [.pointer p] w false [(false, [.b])] R :=
  ok_of Tryz_follows Tryz.func56 (fun R => pair_Pair_Beat.wp p w R) (pair_Pair_Beat.eq p w) rfl h
/-! ### node_out_add -/
set_option maxRecDepth 100000 in
def node_out_add.wp (o : Option Addr) (f : Value) (ok : Bool) (w : World) (R : TR [] → World → Prop) : Prop :=
brB (!ok) (
R (()) w) (
ncK o fun a1 =>
ld1 .sl a1 w fun x2 =>
brB (decide ((x2.2.1 : Int) ≥ 3)) (
R (()) w) (
clS Tryz.prog F.frame_Encode [f] w true [(false, [.sl]), (false, [(.i .i64)])] fun r3 w4 =>
brB (r3.2.1.1 == 0) (
ncK o fun a5 =>
ld1 .sl a5 w4 fun x6 =>
alK [.slice r3.1.1.1 r3.1.1.2.1 r3.1.1.2.2] T.sl_uint8 w4 fun p7 w8 =>
slOf ((Builtin.append_ #[T.sl_sl_uint8, T.sl_sl_uint8] T.sl_sl_uint8 #[.slice x6.1 x6.2.1 x6.2.2, .slice (some p7) 1 1]).run Tryz.prog w8) fun y9 w10 =>
ncK o fun a11 =>
stN [.slice y9.1 y9.2.1 y9.2.2] a11 0 w10 fun w12 =>
R (()) w12) (
R (()) w4)))
set_option maxRecDepth 100000 in
theorem node_out_add.eq (o : Option Addr) (f : Value) (ok : Bool) (w : World) (R : Value → World → Prop) : wpF Tryz.prog Tryz.f57 .n [.pointer o, f, .bool ok] w R = node_out_add.wp o f ok w (fun r w => R (encR true [] r) w) := by kernel_rfl
set_option maxRecDepth 100000 in
theorem node_out_add.ok {o : Option Addr} {f : Value} {ok : Bool} {w : World} {R : TR [] → World → Prop} (h : node_out_add.wp o f ok w R) : clS Tryz.prog F.node_out_add [.pointer o, f, .bool ok] w true [] R :=
  ok_of Tryz_follows Tryz.func57 (fun R => node_out_add.wp o f ok w R) (node_out_add.eq o f ok w) rfl h
end Go.Proofs.YtnjmfbjgcfnanaaGreat
