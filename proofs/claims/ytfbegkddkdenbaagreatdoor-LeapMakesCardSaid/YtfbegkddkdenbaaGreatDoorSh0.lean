import Derived.Test.YtfbegkddkdenbaaGreatDoorNm
namespace Go.Proofs.YtfbegkddkdenbaaGreatDoor
open Go.Eng
set_option linter.unusedVariables false
/-! ### law21_LeapMakes -/
set_option maxRecDepth 100000 in
def law21_LeapMakes.wp (m0 : Int) (m1 : Int) (m2 : Int) (m3 : Option Addr × Nat × Nat) (day : Int) (w : World) (R : TR [(false, [.b])] → World → Prop) : Prop :=
alK [.int .i64 m0, .int .i64 m1, .int .i64 m2, .slice m3.1 m3.2.1 m3.2.2] T.ref21_Table w fun p1 w2 =>
clS Tryz.prog F.law21_alive [] w2 false [(false, [.b])] fun r3 w4 =>
brB (!r3.1.1) (
R ((false, ()), ()) w4) (
ld1 .sl (p1.add 3) w4 fun x5 =>
brB (decide ((x5.2.1 : Int) > 100)) (
R ((true, ()), ()) w4) (
ldN [(.i .i64), (.i .i64), (.i .i64), .sl] p1 0 w4 fun x6 =>
clS Tryz.prog F.law21_made [.agg #[.int .i64 x6.1, .int .i64 x6.2.1, .int .i64 x6.2.2.1, .slice x6.2.2.2.1.1 x6.2.2.2.1.2.1 x6.2.2.2.1.2.2]] w4 true [(false, [.p]), (false, [(.i .i64)])] fun r7 w8 =>
ldN [(.i .i64), (.i .i64), (.i .i64), .sl] p1 0 w8 fun x9 =>
clS Tryz.prog F.ref21_Fault [.agg #[.int .i64 x9.1, .int .i64 x9.2.1, .int .i64 x9.2.2.1, .slice x9.2.2.2.1.1 x9.2.2.2.1.2.1 x9.2.2.2.1.2.2]] w8 false [(false, [(.i .i64)])] fun r10 w11 =>
brB (r10.1.1 != 0) (
clS Tryz.prog F.leap_Table_Range [.pointer r7.1.1] w11 true [(false, [(.i .i64)]), (false, [(.i .i64)])] fun r12 w13 =>
clS Tryz.prog F.leap_Table_Ahead [.pointer r7.1.1, .int .i64 day] w13 true [(false, [(.i .i64)]), (false, [.b])] fun r14 w15 =>
brB (Option.isNone r7.1.1) (
brB (r7.2.1.1 == r10.1.1) (
brB (r12.1.1 == 0) (
brB (r12.2.1.1 == 0) (
brB (!r14.2.1.1) (
clS Tryz.prog F.leap_Table_Step [.pointer r7.1.1, .int .i64 day] w15 false [(false, [(.i .i64)])] fun r16 w17 =>
brB (r16.1.1 == 0) (
clS Tryz.prog F.leap_Table_Text [.pointer r7.1.1] w17 false [(false, [.s])] fun r18 w19 =>
brB (r18.1.1 == ⟨#[]⟩) (
clS Tryz.prog F.law21_same [.pointer r7.1.1, .agg #[.int .i64 0, .int .i64 0, .int .i64 0, .slice none 0 0]] w19 false [(false, [.b])] fun r20 w21 =>
R ((r20.1.1, ()), ()) w21) (
R ((false, ()), ()) w19)) (
R ((false, ()), ()) w17)) (
R ((false, ()), ()) w15)) (
R ((false, ()), ()) w15)) (
R ((false, ()), ()) w15)) (
R ((false, ()), ()) w15)) (
R ((false, ()), ()) w15)) (
clS Tryz.prog F.leap_Table_Ahead [.pointer r7.1.1, .int .i64 day] w11 true [(false, [(.i .i64)]), (false, [.b])] fun r22 w23 =>
CutT (fun (J24 : Unit → World → Prop) =>
CutT (fun (J27 : ((Bool) × Unit) → World → Prop) =>
ld1 (.i .i64) p1 w23 fun x30 =>
brB (decide (day < x30)) (
J27 (true, ()) w23) (
ld1 (.i .i64) (p1.add 2) w23 fun x31 =>
J27 (decide (day ≥ x31), ()) w23)) (fun (z28 : (Bool) × Unit) w29 => ∀ _ : Nat → Value,
brB z28.1 (
brB r22.2.1.1 (
R ((false, ()), ()) w29) (
brB (r22.1.1 != 0) (
R ((false, ()), ()) w29) (
J24 (()) w29))) (
brB (!r22.2.1.1) (
R ((false, ()), ()) w29) (
ldN [(.i .i64), (.i .i64), (.i .i64), .sl] p1 0 w29 fun x32 =>
clS Tryz.prog F.ref21_Ahead [.agg #[.int .i64 x32.1, .int .i64 x32.2.1, .int .i64 x32.2.2.1, .slice x32.2.2.2.1.1 x32.2.2.2.1.2.1 x32.2.2.2.1.2.2], .int .i64 day] w29 false [(false, [(.i .i64)])] fun r33 w34 =>
brB (r22.1.1 != r33.1.1) (
R ((false, ()), ()) w34) (
J24 (()) w34))))) (fun (z25 : Unit) w26 => ∀ _ : Nat → Value,
drK w26 fun w35 =>
brB (r7.2.1.1 == 0) (
ldN [(.i .i64), (.i .i64), (.i .i64), .sl] p1 0 w35 fun x36 =>
clS Tryz.prog F.leap_Table_Step [.pointer r7.1.1, .int .i64 day] w35 false [(false, [(.i .i64)])] fun r37 w38 =>
Hold [(6, (p1.add 0), (w35.cell? (p1.add 0)).getD undef), (6, (p1.add 1), (w35.cell? (p1.add 1)).getD undef), (6, (p1.add 2), (w35.cell? (p1.add 2)).getD undef), (6, (p1.add 3), (w35.cell? (p1.add 3)).getD undef)] w38 ∧ (
clS Tryz.prog F.ref21_Step [.agg #[.int .i64 x36.1, .int .i64 x36.2.1, .int .i64 x36.2.2.1, .slice x36.2.2.2.1.1 x36.2.2.2.1.2.1 x36.2.2.2.1.2.2], .int .i64 day] w38 false [(false, [(.i .i64)])] fun r39 w40 =>
Hold [(6, (p1.add 0), (w35.cell? (p1.add 0)).getD undef), (6, (p1.add 1), (w35.cell? (p1.add 1)).getD undef), (6, (p1.add 2), (w35.cell? (p1.add 2)).getD undef), (6, (p1.add 3), (w35.cell? (p1.add 3)).getD undef)] w40 ∧ (
brB (r37.1.1 == r39.1.1) (
ldN [(.i .i64), (.i .i64), (.i .i64), .sl] p1 0 w40 fun x41 =>
clS Tryz.prog F.law21_same [.pointer r7.1.1, .agg #[.int .i64 x41.1, .int .i64 x41.2.1, .int .i64 x41.2.2.1, .slice x41.2.2.2.1.1 x41.2.2.2.1.2.1 x41.2.2.2.1.2.2]] w40 false [(false, [.b])] fun r42 w43 =>
Hold [(13, (p1.add 0), (w40.cell? (p1.add 0)).getD undef), (13, (p1.add 1), (w40.cell? (p1.add 1)).getD undef), (13, (p1.add 2), (w40.cell? (p1.add 2)).getD undef), (13, (p1.add 3), (w40.cell? (p1.add 3)).getD undef), (6, (p1.add 0), (w35.cell? (p1.add 0)).getD undef), (6, (p1.add 1), (w35.cell? (p1.add 1)).getD undef), (6, (p1.add 2), (w35.cell? (p1.add 2)).getD undef), (6, (p1.add 3), (w35.cell? (p1.add 3)).getD undef)] w43 ∧ (
brB r42.1.1 (
ldN [(.i .i64), (.i .i64), (.i .i64), .sl] p1 0 w43 fun x44 =>
clS Tryz.prog F.leap_Table_Text [.pointer r7.1.1] w43 false [(false, [.s])] fun r45 w46 =>
Hold [(19, (p1.add 0), (w43.cell? (p1.add 0)).getD undef), (19, (p1.add 1), (w43.cell? (p1.add 1)).getD undef), (19, (p1.add 2), (w43.cell? (p1.add 2)).getD undef), (19, (p1.add 3), (w43.cell? (p1.add 3)).getD undef), (13, (p1.add 0), (w40.cell? (p1.add 0)).getD undef), (13, (p1.add 1), (w40.cell? (p1.add 1)).getD undef), (13, (p1.add 2), (w40.cell? (p1.add 2)).getD undef), (13, (p1.add 3), (w40.cell? (p1.add 3)).getD undef), (6, (p1.add 0), (w35.cell? (p1.add 0)).getD undef), (6, (p1.add 1), (w35.cell? (p1.add 1)).getD undef), (6, (p1.add 2), (w35.cell? (p1.add 2)).getD undef), (6, (p1.add 3), (w35.cell? (p1.add 3)).getD undef)] w46 ∧ (
clS Tryz.prog F.ref21_Text [.agg #[.int .i64 x44.1, .int .i64 x44.2.1, .int .i64 x44.2.2.1, .slice x44.2.2.2.1.1 x44.2.2.2.1.2.1 x44.2.2.2.1.2.2]] w46 false [(false, [.s])] fun r47 w48 =>
Hold [(13, (p1.add 0), (w40.cell? (p1.add 0)).getD undef), (13, (p1.add 1), (w40.cell? (p1.add 1)).getD undef), (13, (p1.add 2), (w40.cell? (p1.add 2)).getD undef), (13, (p1.add 3), (w40.cell? (p1.add 3)).getD undef), (6, (p1.add 0), (w35.cell? (p1.add 0)).getD undef), (6, (p1.add 1), (w35.cell? (p1.add 1)).getD undef), (6, (p1.add 2), (w35.cell? (p1.add 2)).getD undef), (6, (p1.add 3), (w35.cell? (p1.add 3)).getD undef)] w48 ∧ (
R (((r45.1.1 == r47.1.1), ()), ()) w48))) (
R ((false, ()), ()) w43))) (
R ((false, ()), ()) w40)))) (
R ((false, ()), ()) w35)))))
set_option maxRecDepth 100000 in
theorem law21_LeapMakes.eq (m0 : Int) (m1 : Int) (m2 : Int) (m3 : Option Addr × Nat × Nat) (day : Int) (w : World) (R : Value → World → Prop) : wpF Tryz.prog Tryz.f3 (.s .n (.s .n (.s .n (.s .n (.s .n (.s .n (.ct [] (.ct [(90, .b)] .n .n) (.s (.pl (.tk 0 (.tk 1 (.tk 2 (.tk 3 (.tk 4 (.tk 6 (.tk 7 (.ef 5 [] (.ef 8 [] (.tk 9 (.tk 10 (.tk 11 (.tk 12 (.tk 13 (.ef 14 [] (.tk 15 (.tk 16 (.tk 17 (.tk 19 (.ef 18 [] (.ef 20 [19] (.tk 21 (.tk 22 (.tk 23 .z))))))))))))))))))))))))) .n)))))))) [.agg #[.int .i64 m0, .int .i64 m1, .int .i64 m2, .slice m3.1 m3.2.1 m3.2.2], .int .i64 day] w R = law21_LeapMakes.wp m0 m1 m2 m3 day w (fun r w => R (encR false [(false, [.b])] r) w) := by kernel_rfl
set_option maxRecDepth 100000 in
theorem law21_LeapMakes.ok {m0 : Int} {m1 : Int} {m2 : Int} {m3 : Option Addr × Nat × Nat} {day : Int} {w : World} {R : TR [(false, [.b])] → World → Prop} (h : law21_LeapMakes.wp m0 m1 m2 m3 day w R) : clS Tryz.prog F.law21_LeapMakes [.agg #[.int .i64 m0, .int .i64 m1, .int .i64 m2, .slice m3.1 m3.2.1 m3.2.2], .int .i64 day] w false [(false, [.b])] R :=
  ok_of Tryz_follows Tryz.func3 (fun R => law21_LeapMakes.wp m0 m1 m2 m3 day w R) (law21_LeapMakes.eq m0 m1 m2 m3 day w) rfl h
/-! ### law21_alive -/
set_option maxRecDepth 100000 in
def law21_alive.wp  (w : World) (R : TR [(false, [.b])] → World → Prop) : Prop :=
clS Tryz.prog F.leap_Parse [.string ⟨#[115, 116, 97, 114, 116, 32, 49, 57, 55, 50, 45, 48, 49, 45, 48, 49, 32, 49, 48, 10, 108, 101, 97, 112, 32, 49, 57, 55, 50, 45, 48, 54, 45, 51, 48, 32, 43, 49, 10, 101, 110, 100, 32, 49, 57, 55, 51, 45, 48, 49, 45, 48, 49]⟩] w true [(false, [.p]), (false, [(.i .i64)]), (false, [(.i .i64)])] fun r1 w2 =>
clS Tryz.prog F.leap_Table_Ahead [.pointer r1.1.1, .int .i64 912] w2 true [(false, [(.i .i64)]), (false, [.b])] fun r3 w4 =>
clS Tryz.prog F.leap_Table_Ahead [.pointer r1.1.1, .int .i64 911] w4 true [(false, [(.i .i64)]), (false, [.b])] fun r5 w6 =>
brB (r1.2.1.1 == 0) (
brB (r1.2.2.1.1 == 0) (
brB (r3.1.1 == 11) (
brB r3.2.1.1 (
brB (r5.1.1 == 10) (
brB r5.2.1.1 (
clS Tryz.prog F.leap_Table_Step [.pointer r1.1.1, .int .i64 911] w6 false [(false, [(.i .i64)])] fun r7 w8 =>
R (((r7.1.1 == 1), ()), ()) w8) (
R ((false, ()), ()) w6)) (
R ((false, ()), ()) w6)) (
R ((false, ()), ()) w6)) (
R ((false, ()), ()) w6)) (
R ((false, ()), ()) w6)) (
R ((false, ()), ()) w6)
set_option maxRecDepth 100000 in
theorem law21_alive.eq  (w : World) (R : Value → World → Prop) : wpF Tryz.prog Tryz.f4 .n [] w R = law21_alive.wp  w (fun r w => R (encR false [(false, [.b])] r) w) := by kernel_rfl
set_option maxRecDepth 100000 in
theorem law21_alive.ok  {w : World} {R : TR [(false, [.b])] → World → Prop} (h : law21_alive.wp  w R) : clS Tryz.prog F.law21_alive [] w false [(false, [.b])] R :=
  ok_of Tryz_follows Tryz.func4 (fun R => law21_alive.wp  w R) (law21_alive.eq  w) rfl h
/-! ### law21_made -/
set_option maxRecDepth 100000 in
def law21_made.wp (m0 : Int) (m1 : Int) (m2 : Int) (m3 : Option Addr × Nat × Nat) (w : World) (R : TR [(false, [.p]), (false, [(.i .i64)])] → World → Prop) : Prop :=
alK [.int .i64 m0, .int .i64 m1, .int .i64 m2, .slice m3.1 m3.2.1 m3.2.2] T.ref21_Table w fun p1 w2 =>
ld1 .sl (p1.add 3) w2 fun x3 =>
LoopT (fun (self4 : ((Option Addr × Nat × Nat) × (Int) × Unit) → World → Prop) (z5 : (Option Addr × Nat × Nat) × (Int) × Unit) w6 => ∀ _ : Nat → Value,
brB (decide (z5.2.1 < (x3.2.1 : Int))) (
ixK x3.1 x3.2.1 z5.2.1 fun a7 =>
ldN [(.i .i64), (.i .i64)] (a7.add (z5.2.1.toNat * 2)) 0 w6 fun x8 =>
alK [.int .i64 0, .int .i64 0] T.ref21_Leap w6 fun p9 w10 =>
stN [.int .i64 x8.1, .int .i64 x8.2.1] p9 0 w10 fun w11 =>
ldN [(.i .i64), (.i .i64)] p9 0 w11 fun x12 =>
alK [.int .i64 x12.1, .int .i64 x12.2.1] T.leap_Leap w11 fun p13 w14 =>
slOf ((Builtin.append_ #[T.sl_leap_Leap, T.sl_leap_Leap] T.sl_leap_Leap #[.slice z5.1.1 z5.1.2.1 z5.1.2.2, .slice (some p13) 1 1]).run Tryz.prog w14) fun y15 w16 =>
self4 ((y15.1, y15.2.1, y15.2.2), IntKind.wrap .i64 (z5.2.1 + 1), ()) w16) (
ld1 (.i .i64) p1 w6 fun x17 =>
ld1 (.i .i64) (p1.add 1) w6 fun x18 =>
ld1 (.i .i64) (p1.add 2) w6 fun x19 =>
clS Tryz.prog F.leap_Make [.int .i64 x17, .int .i64 x18, .int .i64 x19, .slice z5.1.1 z5.1.2.1 z5.1.2.2] w6 true [(false, [.p]), (false, [(.i .i64)])] fun r20 w21 =>
R ((r20.1.1, ()), (r20.2.1.1, ()), ()) w21)) ((none, 0, 0), 0, ()) w2
set_option maxRecDepth 100000 in
theorem law21_made.eq (m0 : Int) (m1 : Int) (m2 : Int) (m3 : Option Addr × Nat × Nat) (w : World) (R : Value → World → Prop) : wpF Tryz.prog Tryz.f5 (.s .n (.s .n (.s (.s .n (.lp [(4, .sl), (10, (.i .i64))] .n)) .n))) [.agg #[.int .i64 m0, .int .i64 m1, .int .i64 m2, .slice m3.1 m3.2.1 m3.2.2]] w R = law21_made.wp m0 m1 m2 m3 w (fun r w => R (encR true [(false, [.p]), (false, [(.i .i64)])] r) w) := by kernel_rfl
set_option maxRecDepth 100000 in
theorem law21_made.ok {m0 : Int} {m1 : Int} {m2 : Int} {m3 : Option Addr × Nat × Nat} {w : World} {R : TR [(false, [.p]), (false, [(.i .i64)])] → World → Prop} (h : law21_made.wp m0 m1 m2 m3 w R) : clS Tryz.prog F.law21_made [.agg #[.int .i64 m0, .int .i64 m1, .int .i64 m2, .slice m3.1 m3.2.1 m3.2.2]] w true [(false, [.p]), (false, [(.i .i64)])] R :=
  ok_of Tryz_follows Tryz.func5 (fun R => law21_made.wp m0 m1 m2 m3 w R) (law21_made.eq m0 m1 m2 m3 w) rfl h
/-! ### ref21_Fault -/
set_option maxRecDepth 100000 in
def ref21_Fault.wp (t0 : Int) (t1 : Int) (t2 : Int) (t3 : Option Addr × Nat × Nat) (w : World) (R : TR [(false, [(.i .i64)])] → World → Prop) : Prop :=
alK [.int .i64 t0, .int .i64 t1, .int .i64 t2, .slice t3.1 t3.2.1 t3.2.2] T.ref21_Table w fun p1 w2 =>
ld1 (.i .i64) p1 w2 fun x3 =>
brB (decide (x3 < (Int.negSucc 719161))) (
R ((1, ()), ()) w2) (
ld1 (.i .i64) p1 w2 fun x4 =>
brB (decide (x4 > 2932896)) (
R ((1, ()), ()) w2) (
ld1 (.i .i64) (p1.add 2) w2 fun x5 =>
brB (decide (x5 < (Int.negSucc 719161))) (
R ((1, ()), ()) w2) (
ld1 (.i .i64) (p1.add 2) w2 fun x6 =>
brB (decide (x6 > 2932896)) (
R ((1, ()), ()) w2) (
ld1 (.i .i64) p1 w2 fun x7 =>
ld1 (.i .i64) (p1.add 2) w2 fun x8 =>
brB (decide (x7 ≥ x8)) (
R ((1, ()), ()) w2) (
ld1 (.i .i64) (p1.add 1) w2 fun x9 =>
brB (decide (x9 < 0)) (
R ((1, ()), ()) w2) (
ld1 (.i .i64) (p1.add 1) w2 fun x10 =>
brB (decide (x10 > 99)) (
R ((1, ()), ()) w2) (
ld1 .sl (p1.add 3) w2 fun x11 =>
LoopT (fun (self12 : ((Int) × Unit) → World → Prop) (z13 : (Int) × Unit) w14 => ∀ _ : Nat → Value,
brB (decide (z13.1 < (x11.2.1 : Int))) (
ixK x11.1 x11.2.1 z13.1 fun a15 =>
ldN [(.i .i64), (.i .i64)] (a15.add (z13.1.toNat * 2)) 0 w14 fun x16 =>
alK [.int .i64 0, .int .i64 0] T.ref21_Leap w14 fun p17 w18 =>
stN [.int .i64 x16.1, .int .i64 x16.2.1] p17 0 w18 fun w19 =>
ld1 (.i .i64) (p17.add 1) w19 fun x20 =>
brB (x20 != 1) (
ld1 (.i .i64) (p17.add 1) w19 fun x21 =>
brB (x21 != (Int.negSucc 0)) (
R ((1, ()), ()) w19) (
self12 (IntKind.wrap .i64 (z13.1 + 1), ()) w19)) (
self12 (IntKind.wrap .i64 (z13.1 + 1), ()) w19)) (
ld1 .sl (p1.add 3) w14 fun x22 =>
brB (decide ((x22.2.1 : Int) > 64)) (
R ((6, ()), ()) w14) (
ld1 .sl (p1.add 3) w14 fun x23 =>
LoopT (fun (self24 : ((Int) × Unit) → World → Prop) (z25 : (Int) × Unit) w26 => ∀ _ : Nat → Value,
brB (decide (z25.1 < (x23.2.1 : Int))) (
ixK x23.1 x23.2.1 z25.1 fun a27 =>
ldN [(.i .i64), (.i .i64)] (a27.add (z25.1.toNat * 2)) 0 w26 fun x28 =>
alK [.int .i64 0, .int .i64 0] T.ref21_Leap w26 fun p29 w30 =>
stN [.int .i64 x28.1, .int .i64 x28.2.1] p29 0 w30 fun w31 =>
drK w31 fun w32 =>
ld1 (.i .i64) p29 w32 fun x33 =>
ld1 (.i .i64) p1 w32 fun x34 =>
brB (decide (x33 < x34)) (
R ((12, ()), ()) w32) (
ld1 (.i .i64) p29 w32 fun x35 =>
ld1 (.i .i64) (p1.add 2) w32 fun x36 =>
brB (decide (x35 ≥ x36)) (
R ((12, ()), ()) w32) (
brB (decide (z25.1 > 0)) (
ld1 (.i .i64) p29 w32 fun x37 =>
ld1 .sl (p1.add 3) w32 fun x38 =>
ixK x38.1 x38.2.1 (IntKind.wrap .i64 (z25.1 - 1)) fun a39 =>
ld1 (.i .i64) (a39.add ((IntKind.wrap .i64 (z25.1 - 1)).toNat * 2)) w32 fun x40 =>
brB (decide (x37 ≤ x40)) (
R ((12, ()), ()) w32) (
self24 (IntKind.wrap .i64 (z25.1 + 1), ()) w32)) (
self24 (IntKind.wrap .i64 (z25.1 + 1), ()) w32)))) (
R ((0, ()), ()) w26)) (0, ()) w14))) (0, ()) w2)))))))
set_option maxRecDepth 100000 in
theorem ref21_Fault.eq (t0 : Int) (t1 : Int) (t2 : Int) (t3 : Option Addr × Nat × Nat) (w : World) (R : Value → World → Prop) : wpF Tryz.prog Tryz.f6 (.s .n (.s .n (.s (.s .n (.lp [(45, (.i .i64))] .n)) (.s .n (.s (.s .n (.lp [(65, (.i .i64))] (.s .n (.s .n (.s (.s .n (.s (.pl (.tk 0 (.tk 1 (.tk 2 (.tk 3 (.tk 4 (.tk 5 (.tk 6 (.tk 7 (.tk 8 (.tk 9 (.tk 10 (.tk 11 (.tk 12 (.tk 13 (.tk 14 (.tk 15 (.tk 16 (.tk 17 (.tk 18 (.tk 19 (.tk 20 (.tk 21 (.tk 22 (.tk 23 (.tk 24 (.tk 25 (.tk 26 (.tk 27 .z))))))))))))))))))))))))))))) .n)) .n))))) .n))))) [.agg #[.int .i64 t0, .int .i64 t1, .int .i64 t2, .slice t3.1 t3.2.1 t3.2.2]] w R = ref21_Fault.wp t0 t1 t2 t3 w (fun r w => R (encR false [(false, [(.i .i64)])] r) w) := by kernel_rfl
set_option maxRecDepth 100000 in
theorem ref21_Fault.ok {t0 : Int} {t1 : Int} {t2 : Int} {t3 : Option Addr × Nat × Nat} {w : World} {R : TR [(false, [(.i .i64)])] → World → Prop} (h : ref21_Fault.wp t0 t1 t2 t3 w R) : clS Tryz.prog F.ref21_Fault [.agg #[.int .i64 t0, .int .i64 t1, .int .i64 t2, .slice t3.1 t3.2.1 t3.2.2]] w false [(false, [(.i .i64)])] R :=
  ok_of Tryz_follows Tryz.func6 (fun R => ref21_Fault.wp t0 t1 t2 t3 w R) (ref21_Fault.eq t0 t1 t2 t3 w) rfl h
/-! ### leap_Table_Range -/
set_option maxRecDepth 100000 in
def leap_Table_Range.wp (t : Option Addr) (w : World) (R : TR [(false, [(.i .i64)]), (false, [(.i .i64)])] → World → Prop) : Prop :=
brB (Option.isNone t) (
R ((0, ()), (0, ()), ()) w) (
drK w fun w1 =>
ncK t fun a2 =>
ld1 (.i .i64) a2 w1 fun x3 =>
ncK t fun a4 =>
ld1 (.i .i64) (a4.add 2) w1 fun x5 =>
R ((x3, ()), (x5, ()), ()) w1)
set_option maxRecDepth 100000 in
theorem leap_Table_Range.eq (t : Option Addr) (w : World) (R : Value → World → Prop) : wpF Tryz.prog Tryz.f7 (.s .n (.s .n (.s (.pl (.tk 0 (.tk 1 (.tk 2 (.tk 3 (.tk 4 (.tk 5 (.tk 6 (.tk 7 (.tk 8 (.tk 9 .z))))))))))) .n))) [.pointer t] w R = leap_Table_Range.wp t w (fun r w => R (encR true [(false, [(.i .i64)]), (false, [(.i .i64)])] r) w) := by kernel_rfl
set_option maxRecDepth 100000 in
theorem leap_Table_Range.ok {t : Option Addr} {w : World} {R : TR [(false, [(.i .i64)]), (false, [(.i .i64)])] → World → Prop} (h : leap_Table_Range.wp t w R) : clS Tryz.prog F.leap_Table_Range [.pointer t] w true [(false, [(.i .i64)]), (false, [(.i .i64)])] R :=
  ok_of Tryz_follows Tryz.func7 (fun R => leap_Table_Range.wp t w R) (leap_Table_Range.eq t w) rfl h
/-! ### leap_Table_Ahead -/
set_option maxRecDepth 100000 in
def leap_Table_Ahead.wp (t : Option Addr) (day : Int) (w : World) (R : TR [(false, [(.i .i64)]), (false, [.b])] → World → Prop) : Prop :=
alK [.int .i64 day] T.int w fun p1 w2 =>
drK w2 fun w3 =>
brB (Option.isNone t) (
R ((0, ()), (false, ()), ()) w3) (
ld1 (.i .i64) p1 w3 fun x4 =>
ncK t fun a5 =>
ld1 (.i .i64) a5 w3 fun x6 =>
brB (decide (x4 < x6)) (
R ((0, ()), (false, ()), ()) w3) (
ld1 (.i .i64) p1 w3 fun x7 =>
ncK t fun a8 =>
ld1 (.i .i64) (a8.add 2) w3 fun x9 =>
brB (decide (x7 ≥ x9)) (
R ((0, ()), (false, ()), ()) w3) (
ncK t fun a10 =>
ld1 (.i .i64) (a10.add 1) w3 fun x11 =>
alK [.int .i64 0] T.int w3 fun p12 w13 =>
stN [.int .i64 x11] p12 0 w13 fun w14 =>
clS Tryz.prog F.leap_Table_All [.pointer t] w14 false [(false, [.any])] fun r15 w16 =>
RfT Tryz.prog r15.1.1 [(true, [(.i .i64), (.i .i64)])] w16 (fun x17 k18 w19 =>
alK [.int .i64 0, .int .i64 0] T.leap_Leap w19 fun p25 w26 =>
stN [.int .i64 x17.1.1, .int .i64 x17.1.2.1] p25 0 w26 fun w27 =>
k18 w27 fun go20 lv21 w22 =>
ld1 (.i .i64) p25 w22 fun x28 =>
ld1 (.i .i64) p1 w22 fun x29 =>
brB (decide (x28 < x29)) (
ld1 (.i .i64) p12 w22 fun x30 =>
ld1 (.i .i64) (p25.add 1) w22 fun x31 =>
stN [.int .i64 (IntKind.wrap .i64 (x30 + x31))] p12 0 w22 fun w32 =>
go20 w32) (
go20 w22)) (fun D23 w24 =>
ld1 (.i .i64) p12 w24 fun x33 =>
tkK D23 w24 fun w34 =>
R ((x33, ()), (true, ()), ()) w34) [])))
set_option maxRecDepth 100000 in
theorem leap_Table_Ahead.eq (t : Option Addr) (day : Int) (w : World) (R : Value → World → Prop) : wpF Tryz.prog Tryz.f8 (.s .n (.s (.s (.pl (.tk 0 (.tk 1 (.tk 2 (.tk 3 (.tk 4 (.tk 5 (.tk 6 (.tk 7 (.tk 8 (.tk 9 (.tk 10 (.tk 11 (.tk 12 (.tk 13 (.tk 14 (.tk 15 (.tk 16 (.tk 17 .z))))))))))))))))))) .n) (.s .n (.s (.s .n (.rf [(true, [(.i .i64), (.i .i64)])] .n .n)) .n)))) [.pointer t, .int .i64 day] w R = leap_Table_Ahead.wp t day w (fun r w => R (encR true [(false, [(.i .i64)]), (false, [.b])] r) w) := by kernel_rfl
set_option maxRecDepth 100000 in
theorem leap_Table_Ahead.ok {t : Option Addr} {day : Int} {w : World} {R : TR [(false, [(.i .i64)]), (false, [.b])] → World → Prop} (h : leap_Table_Ahead.wp t day w R) : clS Tryz.prog F.leap_Table_Ahead [.pointer t, .int .i64 day] w true [(false, [(.i .i64)]), (false, [.b])] R :=
  ok_of Tryz_follows Tryz.func8 (fun R => leap_Table_Ahead.wp t day w R) (leap_Table_Ahead.eq t day w) rfl h
/-! ### leap_Table_Step -/
set_option maxRecDepth 100000 in
def leap_Table_Step.wp (t : Option Addr) (day : Int) (w : World) (R : TR [(false, [(.i .i64)])] → World → Prop) : Prop :=
alK [.pointer t] T.p_leap_Table w fun p1 w2 =>
alK [.int .i64 day] T.int w2 fun p3 w4 =>
ld1 .p p1 w4 fun x5 =>
brB (Option.isNone x5) (
R ((0, ()), ()) w4) (
ld1 .p p1 w4 fun x6 =>
ncK x6 fun a7 =>
ld1 .sl (a7.add 3) w4 fun x8 =>
clS Tryz.prog F.sort_Search [.int .i64 (x8.2.1 : Int), .func (.func F.leap_Table_Step_1) #[] #[.pointer (some p1), .pointer (some p3)]] w4 false [(false, [(.i .i64)])] fun r9 w10 =>
CutT (fun (J11 : ((Bool) × Unit) → World → Prop) =>
drK w10 fun w14 =>
ld1 .p p1 w14 fun x15 =>
ncK x15 fun a16 =>
ld1 .sl (a16.add 3) w14 fun x17 =>
brB (decide (r9.1.1 < (x17.2.1 : Int))) (
ld1 .p p1 w14 fun x18 =>
ncK x18 fun a19 =>
ld1 .sl (a19.add 3) w14 fun x20 =>
ixK x20.1 x20.2.1 r9.1.1 fun a21 =>
ld1 (.i .i64) (a21.add (r9.1.1.toNat * 2)) w14 fun x22 =>
ld1 (.i .i64) p3 w14 fun x23 =>
J11 ((x22 == x23), ()) w14) (
J11 (false, ()) w14)) (fun (z12 : (Bool) × Unit) w13 => ∀ _ : Nat → Value,
brB z12.1 (
ld1 .p p1 w13 fun x24 =>
ncK x24 fun a25 =>
ld1 .sl (a25.add 3) w13 fun x26 =>
ixK x26.1 x26.2.1 r9.1.1 fun a27 =>
ld1 (.i .i64) ((a27.add (r9.1.1.toNat * 2)).add 1) w13 fun x28 =>
R ((x28, ()), ()) w13) (
R ((0, ()), ()) w13)))
set_option maxRecDepth 100000 in
theorem leap_Table_Step.eq (t : Option Addr) (day : Int) (w : World) (R : Value → World → Prop) : wpF Tryz.prog Tryz.f9 (.s .n (.s .n (.s .n (.s (.ct [(33, .b)] (.pl (.tk 0 (.tk 1 (.tk 2 (.tk 3 (.tk 4 (.tk 5 (.tk 6 (.tk 7 (.tk 8 (.tk 9 (.tk 10 (.tk 11 (.tk 12 (.tk 13 (.tk 14 (.tk 15 (.tk 16 (.tk 17 (.tk 18 .z)))))))))))))))))))) .n) .n)))) [.pointer t, .int .i64 day] w R = leap_Table_Step.wp t day w (fun r w => R (encR false [(false, [(.i .i64)])] r) w) := by kernel_rfl
set_option maxRecDepth 100000 in
theorem leap_Table_Step.ok {t : Option Addr} {day : Int} {w : World} {R : TR [(false, [(.i .i64)])] → World → Prop} (h : leap_Table_Step.wp t day w R) : clS Tryz.prog F.leap_Table_Step [.pointer t, .int .i64 day] w false [(false, [(.i .i64)])] R :=
  ok_of Tryz_follows Tryz.func9 (fun R => leap_Table_Step.wp t day w R) (leap_Table_Step.eq t day w) rfl h
/-! ### leap_Table_Text -/
set_option maxRecDepth 100000 in
def leap_Table_Text.wp (t : Option Addr) (w : World) (R : TR [(false, [.s])] → World → Prop) : Prop :=
brB (Option.isNone t) (
R ((⟨#[]⟩, ()), ()) w) (
alK [.pointer none, .slice none 0 0] T.strings_Builder w fun p1 w2 =>
drK w2 fun w3 =>
ncK t fun a4 =>
ld1 (.i .i64) a4 w3 fun x5 =>
ncK t fun a6 =>
ld1 (.i .i64) (a6.add 1) w3 fun x7 =>
clS Tryz.prog F.leap_text [.int .i64 x5] w3 false [(false, [.s])] fun r8 w9 =>
Hold [(10, (a6.add 1), (w3.cell? (a6.add 1)).getD undef), (3, a4, (w3.cell? a4).getD undef)] w9 ∧ (
saK ⟨#[115, 116, 97, 114, 116, 32]⟩ r8.1.1 (
saK (⟨#[115, 116, 97, 114, 116, 32]⟩ ++ r8.1.1) ⟨#[32]⟩ (
clS Tryz.prog F.strconv_Itoa [.int .i64 x7] w9 false [(false, [.s])] fun r10 w11 =>
Hold [(10, (a6.add 1), (w3.cell? (a6.add 1)).getD undef), (3, a4, (w3.cell? a4).getD undef)] w11 ∧ (
saK ((⟨#[115, 116, 97, 114, 116, 32]⟩ ++ r8.1.1) ++ ⟨#[32]⟩) r10.1.1 (
saK (((⟨#[115, 116, 97, 114, 116, 32]⟩ ++ r8.1.1) ++ ⟨#[32]⟩) ++ r10.1.1) ⟨#[10]⟩ (
clS Tryz.prog F.strings_Builder_WriteString [.pointer (some p1), .string ((((⟨#[115, 116, 97, 114, 116, 32]⟩ ++ r8.1.1) ++ ⟨#[32]⟩) ++ r10.1.1) ++ ⟨#[10]⟩)] w11 true [(false, [(.i .i64)]), (false, [.any])] fun r12 w13 =>
Hold [(10, (a6.add 1), (w3.cell? (a6.add 1)).getD undef), (3, a4, (w3.cell? a4).getD undef)] w13 ∧ (
clS Tryz.prog F.leap_Table_All [.pointer t] w13 false [(false, [.any])] fun r14 w15 =>
RfT Tryz.prog r14.1.1 [(true, [(.i .i64), (.i .i64)])] w15 (fun x16 k17 w18 =>
alK [.int .i64 0, .int .i64 0] T.leap_Leap w18 fun p24 w25 =>
stN [.int .i64 x16.1.1, .int .i64 x16.1.2.1] p24 0 w25 fun w26 =>
k17 w26 fun go19 lv20 w21 =>
CutT (fun (J27 : ((ByteArray) × Unit) → World → Prop) =>
ld1 (.i .i64) (p24.add 1) w21 fun x30 =>
brB (decide (x30 < 0)) (
J27 (⟨#[45, 49]⟩, ()) w21) (
J27 (⟨#[43, 49]⟩, ()) w21)) (fun (z28 : (ByteArray) × Unit) w29 => ∀ _ : Nat → Value,
ld1 (.i .i64) p24 w29 fun x31 =>
clS Tryz.prog F.leap_text [.int .i64 x31] w29 false [(false, [.s])] fun r32 w33 =>
saK ⟨#[108, 101, 97, 112, 32]⟩ r32.1.1 (
saK (⟨#[108, 101, 97, 112, 32]⟩ ++ r32.1.1) ⟨#[32]⟩ (
saK ((⟨#[108, 101, 97, 112, 32]⟩ ++ r32.1.1) ++ ⟨#[32]⟩) z28.1 (
saK (((⟨#[108, 101, 97, 112, 32]⟩ ++ r32.1.1) ++ ⟨#[32]⟩) ++ z28.1) ⟨#[10]⟩ (
clS Tryz.prog F.strings_Builder_WriteString [.pointer (some p1), .string ((((⟨#[108, 101, 97, 112, 32]⟩ ++ r32.1.1) ++ ⟨#[32]⟩) ++ z28.1) ++ ⟨#[10]⟩)] w33 true [(false, [(.i .i64)]), (false, [.any])] fun r34 w35 =>
go19 w35)))))) (fun D22 w23 =>
ncK t fun a36 =>
ld1 (.i .i64) (a36.add 2) w23 fun x37 =>
clS Tryz.prog F.leap_text [.int .i64 x37] w23 false [(false, [.s])] fun r38 w39 =>
saK ⟨#[101, 110, 100, 32]⟩ r38.1.1 (
saK (⟨#[101, 110, 100, 32]⟩ ++ r38.1.1) ⟨#[10]⟩ (
clS Tryz.prog F.strings_Builder_WriteString [.pointer (some p1), .string ((⟨#[101, 110, 100, 32]⟩ ++ r38.1.1) ++ ⟨#[10]⟩)] w39 true [(false, [(.i .i64)]), (false, [.any])] fun r40 w41 =>
clS Tryz.prog F.strings_Builder_String [.pointer (some p1)] w41 false [(false, [.s])] fun r42 w43 =>
tkK D22 w43 fun w44 =>
R ((r42.1.1, ()), ()) w44))) []))))))))
set_option maxRecDepth 100000 in
theorem leap_Table_Text.eq (t : Option Addr) (w : World) (R : Value → World → Prop) : wpF Tryz.prog Tryz.f10 (.s .n (.s .n (.s .n (.s (.pl (.tk 0 (.tk 1 (.tk 2 (.tk 3 (.tk 7 (.tk 8 (.tk 9 (.tk 10 (.ef 4 [] (.tk 5 (.tk 6 (.ef 11 [] (.tk 12 (.tk 13 (.ef 14 [] .z)))))))))))))))) (.s (.s .n (.rf [(true, [(.i .i64), (.i .i64)])] .n (.s .n (.ct [(5, .s)] .n .n)))) .n))))) [.pointer t] w R = leap_Table_Text.wp t w (fun r w => R (encR false [(false, [.s])] r) w) := by kernel_rfl
set_option maxRecDepth 100000 in
theorem leap_Table_Text.ok {t : Option Addr} {w : World} {R : TR [(false, [.s])] → World → Prop} (h : leap_Table_Text.wp t w R) : clS Tryz.prog F.leap_Table_Text [.pointer t] w false [(false, [.s])] R :=
  ok_of Tryz_follows Tryz.func10 (fun R => leap_Table_Text.wp t w R) (leap_Table_Text.eq t w) rfl h
/-! ### law21_same -/
set_option maxRecDepth 100000 in
def law21_same.wp (t : Option Addr) (m0 : Int) (m1 : Int) (m2 : Int) (m3 : Option Addr × Nat × Nat) (w : World) (R : TR [(false, [.b])] → World → Prop) : Prop :=
alK [.int .i64 m0, .int .i64 m1, .int .i64 m2, .slice m3.1 m3.2.1 m3.2.2] T.ref21_Table w fun p1 w2 =>
alK [.bool false] T.bool w2 fun p3 w4 =>
alK [.int .i64 0] T.int w4 fun p5 w6 =>
stN [.int .i64 0] p5 0 w6 fun w7 =>
clS Tryz.prog F.leap_Table_All [.pointer t] w7 false [(false, [.any])] fun r8 w9 =>
RfT Tryz.prog r8.1.1 [(true, [(.i .i64), (.i .i64)])] w9 (fun x10 k11 w12 =>
alK [.int .i64 0, .int .i64 0] T.leap_Leap w12 fun p18 w19 =>
stN [.int .i64 x10.1.1, .int .i64 x10.1.2.1] p18 0 w19 fun w20 =>
k11 w20 fun go13 lv14 w15 =>
drK w15 fun w21 =>
ld1 (.i .i64) p5 w21 fun x22 =>
ld1 .sl (p1.add 3) w21 fun x23 =>
brB (decide (x22 ≥ (x23.2.1 : Int))) (
stN [.bool false] p3 0 w21 fun w24 =>
lv14 0 w24) (
ldN [(.i .i64), (.i .i64)] p18 0 w21 fun x25 =>
ld1 .sl (p1.add 3) w21 fun x26 =>
ld1 (.i .i64) p5 w21 fun x27 =>
ixK x26.1 x26.2.1 x27 fun a28 =>
ldN [(.i .i64), (.i .i64)] (a28.add (x27.toNat * 2)) 0 w21 fun x29 =>
brB (!((x25.1 == x29.1) && ((x25.2.1 == x29.2.1) && true))) (
stN [.bool false] p3 0 w21 fun w30 =>
lv14 0 w30) (
ld1 (.i .i64) p5 w21 fun x31 =>
stN [.int .i64 (IntKind.wrap .i64 (x31 + 1))] p5 0 w21 fun w32 =>
go13 w32))) (fun D16 w17 =>
clS Tryz.prog F.leap_Table_Range [.pointer t] w17 true [(false, [(.i .i64)]), (false, [(.i .i64)])] fun r33 w34 =>
ld1 (.i .i64) p5 w34 fun x35 =>
ld1 .sl (p1.add 3) w34 fun x36 =>
brB (x35 == (x36.2.1 : Int)) (
ld1 (.i .i64) p1 w34 fun x37 =>
brB (r33.1.1 == x37) (
ld1 (.i .i64) (p1.add 2) w34 fun x38 =>
stN [.bool (r33.2.1.1 == x38)] p3 0 w34 fun w39 =>
tkK D16 w39 fun w40 =>
ld1 .b p3 w40 fun x41 =>
R ((x41, ()), ()) w40) (
stN [.bool false] p3 0 w34 fun w42 =>
tkK D16 w42 fun w43 =>
ld1 .b p3 w43 fun x44 =>
R ((x44, ()), ()) w43)) (
stN [.bool false] p3 0 w34 fun w45 =>
tkK D16 w45 fun w46 =>
ld1 .b p3 w46 fun x47 =>
R ((x47, ()), ()) w46)) [(0, fun D16 w17 =>
tkK D16 w17 fun w48 =>
ld1 .b p3 w48 fun x49 =>
R ((x49, ()), ()) w48)]
set_option maxRecDepth 100000 in
theorem law21_same.eq (t : Option Addr) (m0 : Int) (m1 : Int) (m2 : Int) (m3 : Option Addr × Nat × Nat) (w : World) (R : Value → World → Prop) : wpF Tryz.prog Tryz.f11 (.s .n (.s .n (.s (.s .n (.rf [(true, [(.i .i64), (.i .i64)])] .n (.s (.s (.pl (.tk 0 (.tk 1 (.tk 2 (.tk 3 (.tk 4 (.tk 5 (.tk 6 (.tk 7 (.tk 8 (.tk 9 (.tk 10 (.tk 11 (.tk 12 (.tk 13 .z))))))))))))))) .n) .n))) .n))) [.pointer t, .agg #[.int .i64 m0, .int .i64 m1, .int .i64 m2, .slice m3.1 m3.2.1 m3.2.2]] w R = law21_same.wp t m0 m1 m2 m3 w (fun r w => R (encR false [(false, [.b])] r) w) := by kernel_rfl
set_option maxRecDepth 100000 in
theorem law21_same.ok {t : Option Addr} {m0 : Int} {m1 : Int} {m2 : Int} {m3 : Option Addr × Nat × Nat} {w : World} {R : TR [(false, [.b])] → World → Prop} (h : law21_same.wp t m0 m1 m2 m3 w R) : clS Tryz.prog F.law21_same [.pointer t, .agg #[.int .i64 m0, .int .i64 m1, .int .i64 m2, .slice m3.1 m3.2.1 m3.2.2]] w false [(false, [.b])] R :=
  ok_of Tryz_follows Tryz.func11 (fun R => law21_same.wp t m0 m1 m2 m3 w R) (law21_same.eq t m0 m1 m2 m3 w) rfl h
/-! ### ref21_Ahead -/
set_option maxRecDepth 100000 in
def ref21_Ahead.wp (t0 : Int) (t1 : Int) (t2 : Int) (t3 : Option Addr × Nat × Nat) (day : Int) (w : World) (R : TR [(false, [(.i .i64)])] → World → Prop) : Prop :=
alK [.int .i64 t0, .int .i64 t1, .int .i64 t2, .slice t3.1 t3.2.1 t3.2.2] T.ref21_Table w fun p1 w2 =>
ld1 (.i .i64) (p1.add 1) w2 fun x3 =>
ld1 .sl (p1.add 3) w2 fun x4 =>
LoopT (fun (self5 : ((Int) × (Int) × Unit) → World → Prop) (z6 : (Int) × (Int) × Unit) w7 => ∀ _ : Nat → Value,
brB (decide (z6.2.1 < (x4.2.1 : Int))) (
ixK x4.1 x4.2.1 z6.2.1 fun a8 =>
ldN [(.i .i64), (.i .i64)] (a8.add (z6.2.1.toNat * 2)) 0 w7 fun x9 =>
alK [.int .i64 0, .int .i64 0] T.ref21_Leap w7 fun p10 w11 =>
stN [.int .i64 x9.1, .int .i64 x9.2.1] p10 0 w11 fun w12 =>
ld1 (.i .i64) p10 w12 fun x13 =>
brB (decide (x13 < day)) (
ld1 (.i .i64) (p10.add 1) w12 fun x14 =>
self5 (IntKind.wrap .i64 (z6.1 + x14), IntKind.wrap .i64 (z6.2.1 + 1), ()) w12) (
self5 (z6.1, IntKind.wrap .i64 (z6.2.1 + 1), ()) w12)) (
R ((z6.1, ()), ()) w7)) (x3, 0, ()) w2
set_option maxRecDepth 100000 in
theorem ref21_Ahead.eq (t0 : Int) (t1 : Int) (t2 : Int) (t3 : Option Addr × Nat × Nat) (day : Int) (w : World) (R : Value → World → Prop) : wpF Tryz.prog Tryz.f12 (.s .n (.s .n (.s (.s .n (.lp [(5, (.i .i64)), (13, (.i .i64))] .n)) .n))) [.agg #[.int .i64 t0, .int .i64 t1, .int .i64 t2, .slice t3.1 t3.2.1 t3.2.2], .int .i64 day] w R = ref21_Ahead.wp t0 t1 t2 t3 day w (fun r w => R (encR false [(false, [(.i .i64)])] r) w) := by kernel_rfl
set_option maxRecDepth 100000 in
theorem ref21_Ahead.ok {t0 : Int} {t1 : Int} {t2 : Int} {t3 : Option Addr × Nat × Nat} {day : Int} {w : World} {R : TR [(false, [(.i .i64)])] → World → Prop} (h : ref21_Ahead.wp t0 t1 t2 t3 day w R) : clS Tryz.prog F.ref21_Ahead [.agg #[.int .i64 t0, .int .i64 t1, .int .i64 t2, .slice t3.1 t3.2.1 t3.2.2], .int .i64 day] w false [(false, [(.i .i64)])] R :=
  ok_of Tryz_follows Tryz.func12 (fun R => ref21_Ahead.wp t0 t1 t2 t3 day w R) (ref21_Ahead.eq t0 t1 t2 t3 day w) rfl h
/-! ### ref21_Step -/
set_option maxRecDepth 100000 in
def ref21_Step.wp (t0 : Int) (t1 : Int) (t2 : Int) (t3 : Option Addr × Nat × Nat) (day : Int) (w : World) (R : TR [(false, [(.i .i64)])] → World → Prop) : Prop :=
alK [.int .i64 t0, .int .i64 t1, .int .i64 t2, .slice t3.1 t3.2.1 t3.2.2] T.ref21_Table w fun p1 w2 =>
ld1 .sl (p1.add 3) w2 fun x3 =>
LoopT (fun (self4 : ((Int) × Unit) → World → Prop) (z5 : (Int) × Unit) w6 => ∀ _ : Nat → Value,
brB (decide (z5.1 < (x3.2.1 : Int))) (
ixK x3.1 x3.2.1 z5.1 fun a7 =>
ldN [(.i .i64), (.i .i64)] (a7.add (z5.1.toNat * 2)) 0 w6 fun x8 =>
alK [.int .i64 0, .int .i64 0] T.ref21_Leap w6 fun p9 w10 =>
stN [.int .i64 x8.1, .int .i64 x8.2.1] p9 0 w10 fun w11 =>
ld1 (.i .i64) p9 w11 fun x12 =>
brB (x12 == day) (
ld1 (.i .i64) (p9.add 1) w11 fun x13 =>
R ((x13, ()), ()) w11) (
self4 (IntKind.wrap .i64 (z5.1 + 1), ()) w11)) (
R ((0, ()), ()) w6)) (0, ()) w2
set_option maxRecDepth 100000 in
theorem ref21_Step.eq (t0 : Int) (t1 : Int) (t2 : Int) (t3 : Option Addr × Nat × Nat) (day : Int) (w : World) (R : Value → World → Prop) : wpF Tryz.prog Tryz.f13 (.s .n (.s (.s .n (.lp [(10, (.i .i64))] .n)) .n)) [.agg #[.int .i64 t0, .int .i64 t1, .int .i64 t2, .slice t3.1 t3.2.1 t3.2.2], .int .i64 day] w R = ref21_Step.wp t0 t1 t2 t3 day w (fun r w => R (encR false [(false, [(.i .i64)])] r) w) := by kernel_rfl
set_option maxRecDepth 100000 in
theorem ref21_Step.ok {t0 : Int} {t1 : Int} {t2 : Int} {t3 : Option Addr × Nat × Nat} {day : Int} {w : World} {R : TR [(false, [(.i .i64)])] → World → Prop} (h : ref21_Step.wp t0 t1 t2 t3 day w R) : clS Tryz.prog F.ref21_Step [.agg #[.int .i64 t0, .int .i64 t1, .int .i64 t2, .slice t3.1 t3.2.1 t3.2.2], .int .i64 day] w false [(false, [(.i .i64)])] R :=
  ok_of Tryz_follows Tryz.func13 (fun R => ref21_Step.wp t0 t1 t2 t3 day w R) (ref21_Step.eq t0 t1 t2 t3 day w) rfl h
/-! ### ref21_Text -/
set_option maxRecDepth 100000 in
def ref21_Text.wp (t0 : Int) (t1 : Int) (t2 : Int) (t3 : Option Addr × Nat × Nat) (w : World) (R : TR [(false, [.s])] → World → Prop) : Prop :=
alK [.int .i64 t0, .int .i64 t1, .int .i64 t2, .slice t3.1 t3.2.1 t3.2.2] T.ref21_Table w fun p1 w2 =>
drK w2 fun w3 =>
ld1 (.i .i64) p1 w3 fun x4 =>
ld1 (.i .i64) (p1.add 1) w3 fun x5 =>
clS Tryz.prog F.ref21_Date [.int .i64 x4] w3 false [(false, [.s])] fun r6 w7 =>
Hold [(6, (p1.add 1), (w3.cell? (p1.add 1)).getD undef), (1, p1, (w3.cell? p1).getD undef)] w7 ∧ (
saK ⟨#[115, 116, 97, 114, 116, 32]⟩ r6.1.1 (
saK (⟨#[115, 116, 97, 114, 116, 32]⟩ ++ r6.1.1) ⟨#[32]⟩ (
clS Tryz.prog F.strconv_Itoa [.int .i64 x5] w7 false [(false, [.s])] fun r8 w9 =>
Hold [(1, p1, (w3.cell? p1).getD undef)] w9 ∧ (
saK ((⟨#[115, 116, 97, 114, 116, 32]⟩ ++ r6.1.1) ++ ⟨#[32]⟩) r8.1.1 (
saK (((⟨#[115, 116, 97, 114, 116, 32]⟩ ++ r6.1.1) ++ ⟨#[32]⟩) ++ r8.1.1) ⟨#[10]⟩ (
ld1 .sl (p1.add 3) w9 fun x10 =>
LoopT (fun (self11 : ((ByteArray) × (Int) × Unit) → World → Prop) (z12 : (ByteArray) × (Int) × Unit) w13 => ∀ _ : Nat → Value,
brB (decide (z12.2.1 < (x10.2.1 : Int))) (
ixK x10.1 x10.2.1 z12.2.1 fun a14 =>
ldN [(.i .i64), (.i .i64)] (a14.add (z12.2.1.toNat * 2)) 0 w13 fun x15 =>
alK [.int .i64 0, .int .i64 0] T.ref21_Leap w13 fun p16 w17 =>
stN [.int .i64 x15.1, .int .i64 x15.2.1] p16 0 w17 fun w18 =>
CutT (fun (J19 : ((ByteArray) × Unit) → World → Prop) =>
ld1 (.i .i64) (p16.add 1) w18 fun x22 =>
brB (x22 == (Int.negSucc 0)) (
J19 (⟨#[32, 45, 49, 10]⟩, ()) w18) (
J19 (⟨#[32, 43, 49, 10]⟩, ()) w18)) (fun (z20 : (ByteArray) × Unit) w21 => ∀ _ : Nat → Value,
saK z12.1 ⟨#[108, 101, 97, 112, 32]⟩ (
ld1 (.i .i64) p16 w21 fun x23 =>
clS Tryz.prog F.ref21_Date [.int .i64 x23] w21 false [(false, [.s])] fun r24 w25 =>
saK (z12.1 ++ ⟨#[108, 101, 97, 112, 32]⟩) r24.1.1 (
saK ((z12.1 ++ ⟨#[108, 101, 97, 112, 32]⟩) ++ r24.1.1) z20.1 (
self11 (((z12.1 ++ ⟨#[108, 101, 97, 112, 32]⟩) ++ r24.1.1) ++ z20.1, IntKind.wrap .i64 (z12.2.1 + 1), ()) w25))))) (
saK z12.1 ⟨#[101, 110, 100, 32]⟩ (
ld1 (.i .i64) (p1.add 2) w13 fun x26 =>
clS Tryz.prog F.ref21_Date [.int .i64 x26] w13 false [(false, [.s])] fun r27 w28 =>
saK (z12.1 ++ ⟨#[101, 110, 100, 32]⟩) r27.1.1 (
saK ((z12.1 ++ ⟨#[101, 110, 100, 32]⟩) ++ r27.1.1) ⟨#[10]⟩ (
R ((((z12.1 ++ ⟨#[101, 110, 100, 32]⟩) ++ r27.1.1) ++ ⟨#[10]⟩, ()), ()) w28))))) ((((⟨#[115, 116, 97, 114, 116, 32]⟩ ++ r6.1.1) ++ ⟨#[32]⟩) ++ r8.1.1) ++ ⟨#[10]⟩, 0, ()) w9))))))
set_option maxRecDepth 100000 in
theorem ref21_Text.eq (t0 : Int) (t1 : Int) (t2 : Int) (t3 : Option Addr × Nat × Nat) (w : World) (R : Value → World → Prop) : wpF Tryz.prog Tryz.f14 (.s .n (.s (.pl (.tk 0 (.tk 1 (.tk 5 (.tk 6 (.ef 2 [] (.tk 3 (.tk 4 (.ef 7 [6] (.tk 8 (.tk 9 (.tk 10 .z)))))))))))) (.s (.s .n (.lp [(3, .s), (20, (.i .i64))] (.s .n (.s .n (.s (.s .n (.s .n (.ct [(6, .s)] .n .n))) .n))))) .n))) [.agg #[.int .i64 t0, .int .i64 t1, .int .i64 t2, .slice t3.1 t3.2.1 t3.2.2]] w R = ref21_Text.wp t0 t1 t2 t3 w (fun r w => R (encR false [(false, [.s])] r) w) := by kernel_rfl
set_option maxRecDepth 100000 in
theorem ref21_Text.ok {t0 : Int} {t1 : Int} {t2 : Int} {t3 : Option Addr × Nat × Nat} {w : World} {R : TR [(false, [.s])] → World → Prop} (h : ref21_Text.wp t0 t1 t2 t3 w R) : clS Tryz.prog F.ref21_Text [.agg #[.int .i64 t0, .int .i64 t1, .int .i64 t2, .slice t3.1 t3.2.1 t3.2.2]] w false [(false, [.s])] R :=
  ok_of Tryz_follows Tryz.func14 (fun R => ref21_Text.wp t0 t1 t2 t3 w R) (ref21_Text.eq t0 t1 t2 t3 w) rfl h
/-! ### leap_Parse -/
set_option maxRecDepth 100000 in
def leap_Parse.wp (s : ByteArray) (w : World) (R : TR [(false, [.p]), (false, [(.i .i64)]), (false, [(.i .i64)])] → World → Prop) (Z : Value → World → Prop) : Prop :=
alK [.pointer none] T.p_leap_Table w fun p1 w2 =>
alK [.int .i64 0] T.int w2 fun p3 w4 =>
alK [.int .i64 0] T.api_Errno w4 fun p5 w6 =>
brB (decide ((s.size : Int) > 16384)) (
stN [.pointer none] p1 0 w6 fun w7 =>
stN [.int .i64 0] p3 0 w7 fun w8 =>
stN [.int .i64 5] p5 0 w8 fun w9 =>
enK .returning (
ld1 .p p1 w9 fun x10 =>
ld1 (.i .i64) p3 w9 fun x11 =>
ld1 (.i .i64) p5 w9 fun x12 =>
R ((x10, ()), (x11, ()), (x12, ()), ()) w9) (fun ch => paK ch Z w9)) (
alK [.int .i64 0, .int .i64 0, .int .i64 0, .int .i64 0, .int .i64 0, .slice none 0 0] T.leap_reader w6 fun p13 w14 =>
clS Tryz.prog F.strings_Split [.string s, .string ⟨#[10]⟩] w14 false [(false, [.sl])] fun r15 w16 =>
LoopT (fun (self17 : ((Int) × Unit) → World → Prop) (z18 : (Int) × Unit) w19 => ∀ _ : Nat → Value,
brB (decide (z18.1 < (r15.1.1.2.1 : Int))) (
ixK r15.1.1.1 r15.1.1.2.1 z18.1 fun a20 =>
ld1 .s (a20.add (z18.1.toNat * 1)) w19 fun x21 =>
clE Tryz.prog F.leap_reader_read [.pointer (some p13), .string x21] w19 true [] (fun r22 w23 =>
self17 (IntKind.wrap .i64 (z18.1 + 1), ()) w23) (fun (v24 : Value) w25 =>
dfK Tryz.prog F.leap_Parse_1 [.pointer (some p1), .pointer (some p3), .pointer (some p5)] (.panicking [{ v := v24, recovered := false }]) w25 fun u26 w27 =>
enK (settle u26) (
ld1 .p p1 w27 fun x28 =>
ld1 (.i .i64) p3 w27 fun x29 =>
ld1 (.i .i64) p5 w27 fun x30 =>
R ((x28, ()), (x29, ()), (x30, ()), ()) w27) (fun ch => paK ch Z w27))) (
CutT (fun (J31 : Unit → World → Prop) =>
ld1 (.i .i64) (p13.add 1) w19 fun x34 =>
brB (decide (x34 < 2)) (
clE Tryz.prog F.leap_reader_fail [.pointer (some p13), .int .i64 3] w19 true [] (fun r35 w36 =>
J31 (()) w36) (fun (v37 : Value) w38 =>
dfK Tryz.prog F.leap_Parse_1 [.pointer (some p1), .pointer (some p3), .pointer (some p5)] (.panicking [{ v := v37, recovered := false }]) w38 fun u39 w40 =>
enK (settle u39) (
ld1 .p p1 w40 fun x41 =>
ld1 (.i .i64) p3 w40 fun x42 =>
ld1 (.i .i64) p5 w40 fun x43 =>
R ((x41, ()), (x42, ()), (x43, ()), ()) w40) (fun ch => paK ch Z w40))) (
J31 (()) w19)) (fun (z32 : Unit) w33 => ∀ _ : Nat → Value,
drK w33 fun w44 =>
ld1 (.i .i64) (p13.add 2) w44 fun x45 =>
ld1 (.i .i64) (p13.add 3) w44 fun x46 =>
ld1 (.i .i64) (p13.add 4) w44 fun x47 =>
ld1 .sl (p13.add 5) w44 fun x48 =>
alK [.int .i64 x45, .int .i64 x46, .int .i64 x47, .slice x48.1 x48.2.1 x48.2.2] T.leap_Table w44 fun p49 w50 =>
Hold [(15, (p13.add 5), (w44.cell? (p13.add 5)).getD undef), (11, (p13.add 4), (w44.cell? (p13.add 4)).getD undef), (7, (p13.add 3), (w44.cell? (p13.add 3)).getD undef), (3, (p13.add 2), (w44.cell? (p13.add 2)).getD undef)] w50 ∧ (
stN [.pointer (some p49)] p1 0 w50 fun w51 =>
Hold [] w51 ∧ (
stN [.int .i64 0] p3 0 w51 fun w52 =>
Hold [] w52 ∧ (
stN [.int .i64 0] p5 0 w52 fun w53 =>
Hold [] w53 ∧ (
dfK Tryz.prog F.leap_Parse_1 [.pointer (some p1), .pointer (some p3), .pointer (some p5)] .returning w53 fun u54 w55 =>
enK (settle u54) (
ld1 .p p1 w55 fun x56 =>
ld1 (.i .i64) p3 w55 fun x57 =>
ld1 (.i .i64) p5 w55 fun x58 =>
R ((x56, ()), (x57, ()), (x58, ()), ()) w55) (fun ch => paK ch Z w55)))))))) (0, ()) w16)
set_option maxRecDepth 100000 in
theorem leap_Parse.eq (s : ByteArray) (w : World) (R : Value → World → Prop) (Z : Value → World → Prop) : wpFD Tryz.prog Tryz.f15 (.s .n (.s .n (.s .pz (.s .n (.s (.s .n (.lp [(17, (.i .i64))] (.s .n (.s .n (.s (.s .n .pz) .n))))) (.ct [] (.s .n (.s .pz .n)) (.s (.pl (.tk 0 (.tk 1 (.tk 2 (.tk 3 (.tk 4 (.tk 5 (.tk 6 (.tk 7 (.tk 8 (.tk 9 (.tk 10 (.tk 11 (.tk 12 (.tk 13 (.tk 14 (.tk 15 (.tk 16 (.ef 17 [] (.ef 18 [3, 7, 11, 15] (.ef 19 [] (.ef 20 [] .z)))))))))))))))))))))) .n))))))) [.string s] w R Z = leap_Parse.wp s w (fun r w => R (encR true [(false, [.p]), (false, [(.i .i64)]), (false, [(.i .i64)])] r) w) Z := by kernel_rfl
set_option maxRecDepth 100000 in
theorem leap_Parse.ok {s : ByteArray} {w : World} {R : TR [(false, [.p]), (false, [(.i .i64)]), (false, [(.i .i64)])] → World → Prop} (h : leap_Parse.wp s w R fun _ _ => False) : clS Tryz.prog F.leap_Parse [.string s] w true [(false, [.p]), (false, [(.i .i64)]), (false, [(.i .i64)])] R :=
  ok_ofD Tryz_follows Tryz.func15 (fun R Z => leap_Parse.wp s w R Z) (leap_Parse.eq s w) rfl h
/-! ### leap_Make -/
set_option maxRecDepth 100000 in
def leap_Make.wp (start : Int) (ahead : Int) (end_ : Int) (leaps : Option Addr × Nat × Nat) (w : World) (R : TR [(false, [.p]), (false, [(.i .i64)])] → World → Prop) : Prop :=
clS Tryz.prog F.leap_day [.int .i64 start] w false [(false, [.b])] fun r1 w2 =>
brB (!r1.1.1) (
R ((none, ()), (1, ()), ()) w2) (
clS Tryz.prog F.leap_day [.int .i64 end_] w2 false [(false, [.b])] fun r3 w4 =>
brB (!r3.1.1) (
R ((none, ()), (1, ()), ()) w4) (
brB (decide (start ≥ end_)) (
R ((none, ()), (1, ()), ()) w4) (
brB (decide (ahead < 0)) (
R ((none, ()), (1, ()), ()) w4) (
brB (decide (ahead > 99)) (
R ((none, ()), (1, ()), ()) w4) (
clS Tryz.prog F.slices_ContainsFunc_leap_Leap_leap_Leap [.slice leaps.1 leaps.2.1 leaps.2.2, .func (.func F.leap_Make_1) #[] #[]] w4 false [(false, [.b])] fun r5 w6 =>
brB r5.1.1 (
R ((none, ()), (1, ()), ()) w6) (
brB (decide ((leaps.2.1 : Int) > 64)) (
R ((none, ()), (6, ()), ()) w6) (
LoopT (fun (self7 : ((Int) × (Int) × Unit) → World → Prop) (z8 : (Int) × (Int) × Unit) w9 => ∀ _ : Nat → Value,
brB (decide (z8.2.1 < (leaps.2.1 : Int))) (
ixK leaps.1 leaps.2.1 z8.2.1 fun a10 =>
ldN [(.i .i64), (.i .i64)] (a10.add (z8.2.1.toNat * 2)) 0 w9 fun x11 =>
alK [.int .i64 0, .int .i64 0] T.leap_Leap w9 fun p12 w13 =>
stN [.int .i64 x11.1, .int .i64 x11.2.1] p12 0 w13 fun w14 =>
ld1 (.i .i64) p12 w14 fun x15 =>
brB (decide (x15 ≤ z8.1)) (
R ((none, ()), (12, ()), ()) w14) (
ld1 (.i .i64) p12 w14 fun x16 =>
brB (decide (x16 ≥ end_)) (
R ((none, ()), (12, ()), ()) w14) (
ld1 (.i .i64) p12 w14 fun x17 =>
self7 (x17, IntKind.wrap .i64 (z8.2.1 + 1), ()) w14))) (
clS Tryz.prog F.slices_Clone_leap_Leap_leap_Leap [.slice leaps.1 leaps.2.1 leaps.2.2] w9 false [(false, [.sl])] fun r18 w19 =>
alK [.int .i64 start, .int .i64 ahead, .int .i64 end_, .slice r18.1.1.1 r18.1.1.2.1 r18.1.1.2.2] T.leap_Table w19 fun p20 w21 =>
R ((some p20, ()), (0, ()), ()) w21)) (IntKind.wrap .i64 (start - 1), 0, ()) w6)))))))
set_option maxRecDepth 100000 in
theorem leap_Make.eq (start : Int) (ahead : Int) (end_ : Int) (leaps : Option Addr × Nat × Nat) (w : World) (R : Value → World → Prop) : wpF Tryz.prog Tryz.f16 (.s .n (.s .n (.s .n (.s .n (.s .n (.s (.s .n (.lp [(10, (.i .i64)), (43, (.i .i64))] .n)) .n)))))) [.int .i64 start, .int .i64 ahead, .int .i64 end_, .slice leaps.1 leaps.2.1 leaps.2.2] w R = leap_Make.wp start ahead end_ leaps w (fun r w => R (encR true [(false, [.p]), (false, [(.i .i64)])] r) w) := by kernel_rfl
set_option maxRecDepth 100000 in
theorem leap_Make.ok {start : Int} {ahead : Int} {end_ : Int} {leaps : Option Addr × Nat × Nat} {w : World} {R : TR [(false, [.p]), (false, [(.i .i64)])] → World → Prop} (h : leap_Make.wp start ahead end_ leaps w R) : clS Tryz.prog F.leap_Make [.int .i64 start, .int .i64 ahead, .int .i64 end_, .slice leaps.1 leaps.2.1 leaps.2.2] w true [(false, [.p]), (false, [(.i .i64)])] R :=
  ok_of Tryz_follows Tryz.func16 (fun R => leap_Make.wp start ahead end_ leaps w R) (leap_Make.eq start ahead end_ leaps w) rfl h
/-! ### leap_Table_All -/
set_option maxRecDepth 100000 in
def leap_Table_All.wp (t : Option Addr) (w : World) (R : TR [(false, [.any])] → World → Prop) : Prop :=
brB (Option.isNone t) (
R ((.func (.func F.leap_Table_All_1) #[] #[], ()), ()) w) (
ncK t fun a1 =>
ld1 .sl (a1.add 3) w fun x2 =>
clS Tryz.prog F.slices_Values_leap_Leap_leap_Leap [.slice x2.1 x2.2.1 x2.2.2] w false [(false, [.any])] fun r3 w4 =>
R ((r3.1.1, ()), ()) w4)
set_option maxRecDepth 100000 in
theorem leap_Table_All.eq (t : Option Addr) (w : World) (R : Value → World → Prop) : wpF Tryz.prog Tryz.f17 .n [.pointer t] w R = leap_Table_All.wp t w (fun r w => R (encR false [(false, [.any])] r) w) := by kernel_rfl
set_option maxRecDepth 100000 in
theorem leap_Table_All.ok {t : Option Addr} {w : World} {R : TR [(false, [.any])] → World → Prop} (h : leap_Table_All.wp t w R) : clS Tryz.prog F.leap_Table_All [.pointer t] w false [(false, [.any])] R :=
  ok_of Tryz_follows Tryz.func17 (fun R => leap_Table_All.wp t w R) (leap_Table_All.eq t w) rfl h
/-! ### sort_Search_of_leap_Table_Step_1 -/
set_option maxRecDepth 100000 in
def sort_Search_of_leap_Table_Step_1.wp (n : Int) (f_c0 : Addr) (f_c1 : Addr) (w : World) (R : TR [(false, [(.i .i64)])] → World → Prop) : Prop :=
LoopT (fun (self1 : ((Int) × (Int) × Unit) → World → Prop) (z2 : (Int) × (Int) × Unit) w3 => ∀ _ : Nat → Value,
brB (decide (z2.1 < z2.2.1)) (
shK 1 (
clS Tryz.prog F.leap_Table_Step_1 [.int .i64 (IntKind.wrap .i64 (shrX .u64 (IntKind.wrap .u64 (IntKind.wrap .i64 (z2.1 + z2.2.1))) 1)), .pointer (some f_c0), .pointer (some f_c1)] w3 false [(false, [.b])] fun r4 w5 =>
brB (!r4.1.1) (
self1 (IntKind.wrap .i64 ((IntKind.wrap .i64 (shrX .u64 (IntKind.wrap .u64 (IntKind.wrap .i64 (z2.1 + z2.2.1))) 1)) + 1), z2.2.1, ()) w5) (
self1 (z2.1, IntKind.wrap .i64 (shrX .u64 (IntKind.wrap .u64 (IntKind.wrap .i64 (z2.1 + z2.2.1))) 1), ()) w5))) (
R ((z2.1, ()), ()) w3)) (0, n, ()) w
set_option maxRecDepth 100000 in
theorem sort_Search_of_leap_Table_Step_1.eq (n : Int) (f_c0 : Addr) (f_c1 : Addr) (w : World) (R : Value → World → Prop) : wpF Tryz.prog Tryz.f18 (.s .n (.s .n (.s (.lp [(5, (.i .i64)), (6, (.i .i64))] .n) .n))) [.int .i64 n, .func (.func F.leap_Table_Step_1) #[] #[.pointer (some f_c0), .pointer (some f_c1)]] w R = sort_Search_of_leap_Table_Step_1.wp n f_c0 f_c1 w (fun r w => R (encR false [(false, [(.i .i64)])] r) w) := by kernel_rfl
set_option maxRecDepth 100000 in
theorem sort_Search_of_leap_Table_Step_1.ok {n : Int} {f_c0 : Addr} {f_c1 : Addr} {w : World} {R : TR [(false, [(.i .i64)])] → World → Prop} (h : sort_Search_of_leap_Table_Step_1.wp n f_c0 f_c1 w R) : clS Tryz.prog F.sort_Search [.int .i64 n, .func (.func F.leap_Table_Step_1) #[] #[.pointer (some f_c0), .pointer (some f_c1)]] w false [(false, [(.i .i64)])] R :=
  ok_of Tryz_follows Tryz.func18 (fun R => sort_Search_of_leap_Table_Step_1.wp n f_c0 f_c1 w R) (sort_Search_of_leap_Table_Step_1.eq n f_c0 f_c1 w) rfl h
/-! ### leap_Table_Step_1 -/
set_option maxRecDepth 100000 in
def leap_Table_Step_1.wp (i : Int) (c_cap0 : Addr) (c_cap1 : Addr) (w : World) (R : TR [(false, [.b])] → World → Prop) : Prop :=
drK w fun w1 =>
ld1 .p c_cap0 w1 fun x2 =>
ncK x2 fun a3 =>
ld1 .sl (a3.add 3) w1 fun x4 =>
ixK x4.1 x4.2.1 i fun a5 =>
ld1 (.i .i64) (a5.add (i.toNat * 2)) w1 fun x6 =>
ld1 (.i .i64) c_cap1 w1 fun x7 =>
R ((decide (x6 ≥ x7), ()), ()) w1
set_option maxRecDepth 100000 in
theorem leap_Table_Step_1.eq (i : Int) (c_cap0 : Addr) (c_cap1 : Addr) (w : World) (R : Value → World → Prop) : wpF Tryz.prog Tryz.f19 (.s .n (.s (.pl (.tk 0 (.tk 1 (.tk 2 (.tk 3 (.tk 4 (.tk 5 (.tk 6 (.tk 7 (.tk 8 (.tk 9 (.tk 10 .z)))))))))))) .n)) [.int .i64 i, .pointer (some c_cap0), .pointer (some c_cap1)] w R = leap_Table_Step_1.wp i c_cap0 c_cap1 w (fun r w => R (encR false [(false, [.b])] r) w) := by kernel_rfl
set_option maxRecDepth 100000 in
theorem leap_Table_Step_1.ok {i : Int} {c_cap0 : Addr} {c_cap1 : Addr} {w : World} {R : TR [(false, [.b])] → World → Prop} (h : leap_Table_Step_1.wp i c_cap0 c_cap1 w R) : clS Tryz.prog F.leap_Table_Step_1 [.int .i64 i, .pointer (some c_cap0), .pointer (some c_cap1)] w false [(false, [.b])] R :=
  ok_of Tryz_follows Tryz.func19 (fun R => leap_Table_Step_1.wp i c_cap0 c_cap1 w R) (leap_Table_Step_1.eq i c_cap0 c_cap1 w) rfl h
/-! ### strings_Builder_WriteString -/
set_option maxRecDepth 100000 in
def strings_Builder_WriteString.wp (b : Option Addr) (s : ByteArray) (w : World) (R : TR [(false, [(.i .i64)]), (false, [.any])] → World → Prop) : Prop :=
clS Tryz.prog F.strings_Builder_copyCheck [.pointer b] w true [] fun r1 w2 =>
ncK b fun a3 =>
ld1 .sl (a3.add 1) w2 fun x4 =>
slOf ((Builtin.append_ #[T.sl_uint8, T.string] T.sl_uint8 #[.slice x4.1 x4.2.1 x4.2.2, .string s]).run Tryz.prog w2) fun y5 w6 =>
ncK b fun a7 =>
stN [.slice y5.1 y5.2.1 y5.2.2] (a7.add 1) 0 w6 fun w8 =>
R (((s.size : Int), ()), (.nilIface, ()), ()) w8
set_option maxRecDepth 100000 in
theorem strings_Builder_WriteString.eq (b : Option Addr) (s : ByteArray) (w : World) (R : Value → World → Prop) : wpF Tryz.prog Tryz.f20 .n [.pointer b, .string s] w R = strings_Builder_WriteString.wp b s w (fun r w => R (encR true [(false, [(.i .i64)]), (false, [.any])] r) w) := by kernel_rfl
set_option maxRecDepth 100000 in
theorem strings_Builder_WriteString.ok {b : Option Addr} {s : ByteArray} {w : World} {R : TR [(false, [(.i .i64)]), (false, [.any])] → World → Prop} (h : strings_Builder_WriteString.wp b s w R) : clS Tryz.prog F.strings_Builder_WriteString [.pointer b, .string s] w true [(false, [(.i .i64)]), (false, [.any])] R :=
  ok_of Tryz_follows Tryz.func20 (fun R => strings_Builder_WriteString.wp b s w R) (strings_Builder_WriteString.eq b s w) rfl h
/-! ### leap_text -/
set_option maxRecDepth 100000 in
def leap_text.wp (day : Int) (w : World) (R : TR [(false, [.s])] → World → Prop) : Prop :=
clS Tryz.prog F.civil_Of [.int .i64 day] w true [(true, [(.i .i64), (.i .i64), (.i .i64)]), (false, [.b])] fun r1 w2 =>
alK [.int .i64 0, .int .i64 0, .int .i64 0] T.civil_Date w2 fun p3 w4 =>
stN [.int .i64 r1.1.1, .int .i64 r1.1.2.1, .int .i64 r1.1.2.2.1] p3 0 w4 fun w5 =>
ldN [(.i .i64), (.i .i64), (.i .i64)] p3 0 w5 fun x6 =>
clS Tryz.prog F.civil_Date_Text [.agg #[.int .i64 x6.1, .int .i64 x6.2.1, .int .i64 x6.2.2.1]] w5 false [(false, [.s])] fun r7 w8 =>
R ((r7.1.1, ()), ()) w8
set_option maxRecDepth 100000 in
theorem leap_text.eq (day : Int) (w : World) (R : Value → World → Prop) : wpF Tryz.prog Tryz.f21 .n [.int .i64 day] w R = leap_text.wp day w (fun r w => R (encR false [(false, [.s])] r) w) := by kernel_rfl
set_option maxRecDepth 100000 in
theorem leap_text.ok {day : Int} {w : World} {R : TR [(false, [.s])] → World → Prop} (h : leap_text.wp day w R) : clS Tryz.prog F.leap_text [.int .i64 day] w false [(false, [.s])] R :=
  ok_of Tryz_follows Tryz.func21 (fun R => leap_text.wp day w R) (leap_text.eq day w) rfl h
/-! ### ref21_Date -/
set_option maxRecDepth 100000 in
def ref21_Date.wp (day : Int) (w : World) (R : TR [(false, [.s])] → World → Prop) : Prop :=
alK [.int .i64 0, .int .i64 0, .int .i64 0] T.ref20_Date w fun p1 w2 =>
stN [.int .i64 1, .int .i64 1, .int .i64 1] p1 0 w2 fun w3 =>
LoopT (fun (self4 : ((Int) × Unit) → World → Prop) (z5 : (Int) × Unit) w6 => ∀ _ : Nat → Value,
brB (decide ((IntKind.wrap .i64 (z5.1 + 146097)) ≤ day)) (
ld1 (.i .i64) p1 w6 fun x7 =>
stN [.int .i64 (IntKind.wrap .i64 (x7 + 400))] p1 0 w6 fun w8 =>
self4 (IntKind.wrap .i64 (z5.1 + 146097), ()) w8) (
LoopT (fun (self9 : ((Int) × Unit) → World → Prop) (z10 : (Int) × Unit) w11 => ∀ _ : Nat → Value,
brB (decide ((IntKind.wrap .i64 (z10.1 + 366)) ≤ day)) (
ld1 (.i .i64) p1 w11 fun x12 =>
clS Tryz.prog F.ref20_Long [.int .i64 x12] w11 false [(false, [.b])] fun r13 w14 =>
brB r13.1.1 (
ld1 (.i .i64) p1 w14 fun x15 =>
stN [.int .i64 (IntKind.wrap .i64 (x15 + 1))] p1 0 w14 fun w16 =>
self9 (IntKind.wrap .i64 ((IntKind.wrap .i64 (z10.1 + 365)) + 1), ()) w16) (
ld1 (.i .i64) p1 w14 fun x17 =>
stN [.int .i64 (IntKind.wrap .i64 (x17 + 1))] p1 0 w14 fun w18 =>
self9 (IntKind.wrap .i64 (z10.1 + 365), ()) w18)) (
LoopT (fun (self19 : ((Int) × Unit) → World → Prop) (z20 : (Int) × Unit) w21 => ∀ _ : Nat → Value,
brB (decide (z20.1 < day)) (
ldN [(.i .i64), (.i .i64), (.i .i64)] p1 0 w21 fun x22 =>
clS Tryz.prog F.ref20_Next [.agg #[.int .i64 x22.1, .int .i64 x22.2.1, .int .i64 x22.2.2.1]] w21 false [(true, [(.i .i64), (.i .i64), (.i .i64)])] fun r23 w24 =>
stN [.int .i64 r23.1.1, .int .i64 r23.1.2.1, .int .i64 r23.1.2.2.1] p1 0 w24 fun w25 =>
self19 (IntKind.wrap .i64 (z20.1 + 1), ()) w25) (
ldN [(.i .i64), (.i .i64), (.i .i64)] p1 0 w21 fun x26 =>
clS Tryz.prog F.ref20_Text [.agg #[.int .i64 x26.1, .int .i64 x26.2.1, .int .i64 x26.2.2.1]] w21 false [(false, [.s])] fun r27 w28 =>
R ((r27.1.1, ()), ()) w28)) (z10.1, ()) w11)) (z5.1, ()) w6)) ((Int.negSucc 719161), ()) w3
set_option maxRecDepth 100000 in
theorem ref21_Date.eq (day : Int) (w : World) (R : Value → World → Prop) : wpF Tryz.prog Tryz.f24 (.s .n (.s .n (.s .n (.s (.lp [(4, (.i .i64))] .n) (.s (.lp [(4, (.i .i64))] .n) (.s (.lp [(4, (.i .i64))] .n) .n)))))) [.int .i64 day] w R = ref21_Date.wp day w (fun r w => R (encR false [(false, [.s])] r) w) := by kernel_rfl
set_option maxRecDepth 100000 in
theorem ref21_Date.ok {day : Int} {w : World} {R : TR [(false, [.s])] → World → Prop} (h : ref21_Date.wp day w R) : clS Tryz.prog F.ref21_Date [.int .i64 day] w false [(false, [.s])] R :=
  ok_of Tryz_follows Tryz.func24 (fun R => ref21_Date.wp day w R) (ref21_Date.eq day w) rfl h
/-! ### leap_Parse_1, no panic -/
set_option maxRecDepth 100000 in
def leap_Parse_1.wpN (c_cap0 : Addr) (c_cap1 : Addr) (c_cap2 : Addr) (w : World) (k : World → Prop) : Prop :=
ndK (k w)
set_option maxRecDepth 100000 in
theorem leap_Parse_1.eqN (c_cap0 : Addr) (c_cap1 : Addr) (c_cap2 : Addr) (w : World) (k : World → Prop) : wpFR Tryz.prog Tryz.f25 (.s .n .n) [.pointer (some c_cap0), .pointer (some c_cap1), .pointer (some c_cap2)] .nilIface w k = leap_Parse_1.wpN c_cap0 c_cap1 c_cap2 w k := by kernel_rfl
set_option maxRecDepth 100000 in
theorem leap_Parse_1.okN {c_cap0 : Addr} {c_cap1 : Addr} {c_cap2 : Addr} {w : World} {k : World → Prop} (h : leap_Parse_1.wpN c_cap0 c_cap1 c_cap2 w k) : clD Tryz.prog F.leap_Parse_1 [.pointer (some c_cap0), .pointer (some c_cap1), .pointer (some c_cap2)] (.returning) w fun u w' => u = (.returning : FrameMode) ∧ k w' :=
  wpFR_sound Tryz_follows Tryz.func25 (.s .n .n) (.inr ⟨rfl, rfl, rfl⟩) (by rw [leap_Parse_1.eqN]; exact h)
/-! ### leap_Parse_1, a panic -/
set_option maxRecDepth 100000 in
def leap_Parse_1.wpP (c_cap0 : Addr) (c_cap1 : Addr) (c_cap2 : Addr) (x0 : Int) (x1 : Int) (w : World) (k : World → Prop) : Prop :=
alK [.int .i64 0, .int .i64 0] T.leap_fault w fun p1 w2 =>
stN [.int .i64 x0, .int .i64 x1] p1 0 w2 fun w3 =>
drK w3 fun w4 =>
ld1 (.i .i64) (p1.add 1) w4 fun x5 =>
ld1 (.i .i64) p1 w4 fun x6 =>
stN [.pointer none] c_cap0 0 w4 fun w7 =>
Hold [(3, p1, (w4.cell? p1).getD undef), (1, (p1.add 1), (w4.cell? (p1.add 1)).getD undef)] w7 ∧ (
stN [.int .i64 x5] c_cap1 0 w7 fun w8 =>
Hold [(3, p1, (w4.cell? p1).getD undef)] w8 ∧ (
stN [.int .i64 x6] c_cap2 0 w8 fun w9 =>
Hold [] w9 ∧ (
ndK (k w9))))
set_option maxRecDepth 100000 in
theorem leap_Parse_1.eqP (c_cap0 : Addr) (c_cap1 : Addr) (c_cap2 : Addr) (x0 : Int) (x1 : Int) (w : World) (k : World → Prop) : wpFR Tryz.prog Tryz.f25 (.s .n (.s .n (.s (.s .n (.pl (.tk 0 (.tk 1 (.tk 2 (.tk 3 (.ef 4 [] (.ef 5 [1] (.ef 6 [3] .z))))))))) .n))) [.pointer (some c_cap0), .pointer (some c_cap1), .pointer (some c_cap2)] (.iface T.leap_fault (.agg #[.int .i64 x0, .int .i64 x1])) w k = leap_Parse_1.wpP c_cap0 c_cap1 c_cap2 x0 x1 w k := by kernel_rfl
set_option maxRecDepth 100000 in
theorem leap_Parse_1.okP {c_cap0 : Addr} {c_cap1 : Addr} {c_cap2 : Addr} {x0 : Int} {x1 : Int} {w : World} {k : World → Prop} (h : leap_Parse_1.wpP c_cap0 c_cap1 c_cap2 x0 x1 w k) : clD Tryz.prog F.leap_Parse_1 [.pointer (some c_cap0), .pointer (some c_cap1), .pointer (some c_cap2)] (.panicking [{ v := .iface T.leap_fault (.agg #[.int .i64 x0, .int .i64 x1]), recovered := false }]) w fun u w' => u = (.panicking [{ v := .iface T.leap_fault (.agg #[.int .i64 x0, .int .i64 x1]), recovered := true }] : FrameMode) ∧ k w' :=
  wpFR_sound Tryz_follows Tryz.func25 (.s .n (.s .n (.s (.s .n (.pl (.tk 0 (.tk 1 (.tk 2 (.tk 3 (.ef 4 [] (.ef 5 [1] (.ef 6 [3] .z))))))))) .n))) (.inl ⟨rfl, rfl⟩) (by rw [leap_Parse_1.eqP]; exact h)
/-! ### strings_Split -/
set_option maxRecDepth 100000 in
def strings_Split.wp (s : ByteArray) (sep : ByteArray) (w : World) (R : TR [(false, [.sl])] → World → Prop) : Prop :=
clS Tryz.prog F.strings_genSplit [.string s, .string sep, .int .i64 0, .int .i64 (Int.negSucc 0)] w false [(false, [.sl])] fun r1 w2 =>
R (((r1.1.1.1, r1.1.1.2.1, r1.1.1.2.2), ()), ()) w2
set_option maxRecDepth 100000 in
theorem strings_Split.eq (s : ByteArray) (sep : ByteArray) (w : World) (R : Value → World → Prop) : wpF Tryz.prog Tryz.f26 .n [.string s, .string sep] w R = strings_Split.wp s sep w (fun r w => R (encR false [(false, [.sl])] r) w) := by kernel_rfl
set_option maxRecDepth 100000 in
theorem strings_Split.ok {s : ByteArray} {sep : ByteArray} {w : World} {R : TR [(false, [.sl])] → World → Prop} (h : strings_Split.wp s sep w R) : clS Tryz.prog F.strings_Split [.string s, .string sep] w false [(false, [.sl])] R :=
  ok_of Tryz_follows Tryz.func26 (fun R => strings_Split.wp s sep w R) (strings_Split.eq s sep w) rfl h
/-! ### leap_reader_read -/
set_option maxRecDepth 100000 in
def leap_reader_read.wp (r : Option Addr) (s : ByteArray) (w : World) (R : TR [] → World → Prop) (Z : Value → World → Prop) : Prop :=
ncK r fun a1 =>
ld1 (.i .i64) a1 w fun x2 =>
ncK r fun a3 =>
stN [.int .i64 (IntKind.wrap .i64 (x2 + 1))] a3 0 w fun w4 =>
brB (s == ⟨#[]⟩) (
R (()) w4) (
siK s 0 fun c5 =>
brB (c5 == 35) (
R (()) w4) (
clS Tryz.prog F.strings_Split [.string s, .string ⟨#[32]⟩] w4 false [(false, [.sl])] fun r6 w7 =>
ncK r fun a8 =>
ld1 (.i .i64) (a8.add 1) w7 fun x9 =>
brB (x9 == 0) (
clE Tryz.prog F.leap_reader_first [.pointer r, .slice r6.1.1.1 r6.1.1.2.1 r6.1.1.2.2] w7 true [] (fun r10 w11 =>
R (()) w11) (fun (v12 : Value) w13 =>
Z v12 w13)) (
CutT (fun (J14 : ((Bool) × Unit) → World → Prop) =>
ncK r fun a17 =>
ld1 (.i .i64) (a17.add 1) w7 fun x18 =>
brB (x18 == 1) (
ixK r6.1.1.1 r6.1.1.2.1 0 fun a19 =>
ld1 .s (a19.add ((0 : Int).toNat * 1)) w7 fun x20 =>
J14 ((x20 == ⟨#[108, 101, 97, 112]⟩), ()) w7) (
J14 (false, ()) w7)) (fun (z15 : (Bool) × Unit) w16 => ∀ _ : Nat → Value,
brB z15.1 (
clE Tryz.prog F.leap_reader_leap [.pointer r, .slice r6.1.1.1 r6.1.1.2.1 r6.1.1.2.2] w16 true [] (fun r21 w22 =>
R (()) w22) (fun (v23 : Value) w24 =>
Z v23 w24)) (
ncK r fun a25 =>
ld1 (.i .i64) (a25.add 1) w16 fun x26 =>
brB (x26 == 1) (
clE Tryz.prog F.leap_reader_last [.pointer r, .slice r6.1.1.1 r6.1.1.2.1 r6.1.1.2.2] w16 true [] (fun r27 w28 =>
R (()) w28) (fun (v29 : Value) w30 =>
Z v29 w30)) (
clE Tryz.prog F.leap_reader_fail [.pointer r, .int .i64 3] w16 true [] (fun r31 w32 =>
R (()) w32) (fun (v33 : Value) w34 =>
Z v33 w34)))))))
set_option maxRecDepth 100000 in
theorem leap_reader_read.eq (r : Option Addr) (s : ByteArray) (w : World) (R : Value → World → Prop) (Z : Value → World → Prop) : wpFZ Tryz.prog Tryz.f27 (.s .n (.s .n (.s .n (.s .n (.s .pz (.ct [(32, .b)] .n (.s .pz (.s .n (.s .pz .pz))))))))) [.pointer r, .string s] w R Z = leap_reader_read.wp r s w (fun r w => R (encR true [] r) w) Z := by kernel_rfl
set_option maxRecDepth 100000 in
theorem leap_reader_read.ok {r : Option Addr} {s : ByteArray} {w : World} {R : TR [] → World → Prop} {Z : Value → World → Prop} (h : leap_reader_read.wp r s w R Z) : clE Tryz.prog F.leap_reader_read [.pointer r, .string s] w true [] R Z :=
  ok_ofZ Tryz_follows Tryz.func27 (fun R Z => leap_reader_read.wp r s w R Z) (leap_reader_read.eq r s w) rfl h
/-! ### leap_reader_fail -/
set_option maxRecDepth 100000 in
def leap_reader_fail.wp (r : Option Addr) (e : Int) (w : World) (R : TR [] → World → Prop) (Z : Value → World → Prop) : Prop :=
ncK r fun a1 =>
ld1 (.i .i64) a1 w fun x2 =>
Z (.iface T.leap_fault (.agg #[.int .i64 e, .int .i64 x2])) w
set_option maxRecDepth 100000 in
theorem leap_reader_fail.eq (r : Option Addr) (e : Int) (w : World) (R : Value → World → Prop) (Z : Value → World → Prop) : wpFZ Tryz.prog Tryz.f28 .pz [.pointer r, .int .i64 e] w R Z = leap_reader_fail.wp r e w (fun r w => R (encR true [] r) w) Z := by kernel_rfl
set_option maxRecDepth 100000 in
theorem leap_reader_fail.ok {r : Option Addr} {e : Int} {w : World} {R : TR [] → World → Prop} {Z : Value → World → Prop} (h : leap_reader_fail.wp r e w R Z) : clE Tryz.prog F.leap_reader_fail [.pointer r, .int .i64 e] w true [] R Z :=
  ok_ofZ Tryz_follows Tryz.func28 (fun R Z => leap_reader_fail.wp r e w R Z) (leap_reader_fail.eq r e w) rfl h
/-! ### leap_day -/
set_option maxRecDepth 100000 in
def leap_day.wp (n : Int) (w : World) (R : TR [(false, [.b])] → World → Prop) : Prop :=
brB (decide (n ≥ (Int.negSucc 719161))) (
R ((decide (n ≤ 2932896), ()), ()) w) (
R ((false, ()), ()) w)
set_option maxRecDepth 100000 in
theorem leap_day.eq (n : Int) (w : World) (R : Value → World → Prop) : wpF Tryz.prog Tryz.f29 .n [.int .i64 n] w R = leap_day.wp n w (fun r w => R (encR false [(false, [.b])] r) w) := by kernel_rfl
set_option maxRecDepth 100000 in
theorem leap_day.ok {n : Int} {w : World} {R : TR [(false, [.b])] → World → Prop} (h : leap_day.wp n w R) : clS Tryz.prog F.leap_day [.int .i64 n] w false [(false, [.b])] R :=
  ok_of Tryz_follows Tryz.func29 (fun R => leap_day.wp n w R) (leap_day.eq n w) rfl h
/-! ### slices_ContainsFunc_leap_Leap_leap_Leap -/
set_option maxRecDepth 100000 in
def slices_ContainsFunc_leap_Leap_leap_Leap.wp (s : Option Addr × Nat × Nat) (f : Value) (w : World) (R : TR [(false, [.b])] → World → Prop) : Prop :=
clS Tryz.prog F.slices_IndexFunc_leap_Leap_leap_Leap [.slice s.1 s.2.1 s.2.2, f] w false [(false, [(.i .i64)])] fun r1 w2 =>
R ((decide (r1.1.1 ≥ 0), ()), ()) w2
set_option maxRecDepth 100000 in
theorem slices_ContainsFunc_leap_Leap_leap_Leap.eq (s : Option Addr × Nat × Nat) (f : Value) (w : World) (R : Value → World → Prop) : wpF Tryz.prog Tryz.f30 .n [.slice s.1 s.2.1 s.2.2, f] w R = slices_ContainsFunc_leap_Leap_leap_Leap.wp s f w (fun r w => R (encR false [(false, [.b])] r) w) := by kernel_rfl
set_option maxRecDepth 100000 in
theorem slices_ContainsFunc_leap_Leap_leap_Leap.ok {s : Option Addr × Nat × Nat} {f : Value} {w : World} {R : TR [(false, [.b])] → World → Prop} (h : slices_ContainsFunc_leap_Leap_leap_Leap.wp s f w R) : clS Tryz.prog F.slices_ContainsFunc_leap_Leap_leap_Leap [.slice s.1 s.2.1 s.2.2, f] w false [(false, [.b])] R :=
  ok_of Tryz_follows Tryz.func30 (fun R => slices_ContainsFunc_leap_Leap_leap_Leap.wp s f w R) (slices_ContainsFunc_leap_Leap_leap_Leap.eq s f w) rfl h
/-! ### slices_ContainsFunc_leap_Leap_leap_Leap_of_leap_Make_1 -/
set_option maxRecDepth 100000 in
def slices_ContainsFunc_leap_Leap_leap_Leap_of_leap_Make_1.wp (s : Option Addr × Nat × Nat) (w : World) (R : TR [(false, [.b])] → World → Prop) : Prop :=
clS Tryz.prog F.slices_IndexFunc_leap_Leap_leap_Leap [.slice s.1 s.2.1 s.2.2, .func (.func F.leap_Make_1) #[] #[]] w false [(false, [(.i .i64)])] fun r1 w2 =>
R ((decide (r1.1.1 ≥ 0), ()), ()) w2
set_option maxRecDepth 100000 in
theorem slices_ContainsFunc_leap_Leap_leap_Leap_of_leap_Make_1.eq (s : Option Addr × Nat × Nat) (w : World) (R : Value → World → Prop) : wpF Tryz.prog Tryz.f30 .n [.slice s.1 s.2.1 s.2.2, .func (.func F.leap_Make_1) #[] #[]] w R = slices_ContainsFunc_leap_Leap_leap_Leap_of_leap_Make_1.wp s w (fun r w => R (encR false [(false, [.b])] r) w) := by kernel_rfl
set_option maxRecDepth 100000 in
theorem slices_ContainsFunc_leap_Leap_leap_Leap_of_leap_Make_1.ok {s : Option Addr × Nat × Nat} {w : World} {R : TR [(false, [.b])] → World → Prop} (h : slices_ContainsFunc_leap_Leap_leap_Leap_of_leap_Make_1.wp s w R) : clS Tryz.prog F.slices_ContainsFunc_leap_Leap_leap_Leap [.slice s.1 s.2.1 s.2.2, .func (.func F.leap_Make_1) #[] #[]] w false [(false, [.b])] R :=
  ok_of Tryz_follows Tryz.func30 (fun R => slices_ContainsFunc_leap_Leap_leap_Leap_of_leap_Make_1.wp s w R) (slices_ContainsFunc_leap_Leap_leap_Leap_of_leap_Make_1.eq s w) rfl h
/-! ### leap_Make_1 -/
set_option maxRecDepth 100000 in
def leap_Make_1.wp (l0 : Int) (l1 : Int) (w : World) (R : TR [(false, [.b])] → World → Prop) : Prop :=
alK [.int .i64 l0, .int .i64 l1] T.leap_Leap w fun p1 w2 =>
ld1 (.i .i64) (p1.add 1) w2 fun x3 =>
brB (x3 != 1) (
ld1 (.i .i64) (p1.add 1) w2 fun x4 =>
R (((x4 != (Int.negSucc 0)), ()), ()) w2) (
R ((false, ()), ()) w2)
set_option maxRecDepth 100000 in
theorem leap_Make_1.eq (l0 : Int) (l1 : Int) (w : World) (R : Value → World → Prop) : wpF Tryz.prog Tryz.f31 .n [.agg #[.int .i64 l0, .int .i64 l1]] w R = leap_Make_1.wp l0 l1 w (fun r w => R (encR false [(false, [.b])] r) w) := by kernel_rfl
set_option maxRecDepth 100000 in
theorem leap_Make_1.ok {l0 : Int} {l1 : Int} {w : World} {R : TR [(false, [.b])] → World → Prop} (h : leap_Make_1.wp l0 l1 w R) : clS Tryz.prog F.leap_Make_1 [.agg #[.int .i64 l0, .int .i64 l1]] w false [(false, [.b])] R :=
  ok_of Tryz_follows Tryz.func31 (fun R => leap_Make_1.wp l0 l1 w R) (leap_Make_1.eq l0 l1 w) rfl h
/-! ### slices_Clone_leap_Leap_leap_Leap -/
set_option maxRecDepth 100000 in
def slices_Clone_leap_Leap_leap_Leap.wp (s : Option Addr × Nat × Nat) (w : World) (R : TR [(false, [.sl])] → World → Prop) : Prop :=
brB (Option.isNone s.1) (
R (((none, 0, 0), ()), ()) w) (
alK [] T.leap_Leap w fun p1 w2 =>
slOf ((Builtin.append_ #[T.sl_leap_Leap, T.sl_leap_Leap] T.sl_leap_Leap #[.slice (some p1) 0 0, .slice s.1 s.2.1 s.2.2]).run Tryz.prog w2) fun y3 w4 =>
R (((y3.1, y3.2.1, y3.2.2), ()), ()) w4)
set_option maxRecDepth 100000 in
theorem slices_Clone_leap_Leap_leap_Leap.eq (s : Option Addr × Nat × Nat) (w : World) (R : Value → World → Prop) : wpF Tryz.prog Tryz.f32 .n [.slice s.1 s.2.1 s.2.2] w R = slices_Clone_leap_Leap_leap_Leap.wp s w (fun r w => R (encR false [(false, [.sl])] r) w) := by kernel_rfl
set_option maxRecDepth 100000 in
theorem slices_Clone_leap_Leap_leap_Leap.ok {s : Option Addr × Nat × Nat} {w : World} {R : TR [(false, [.sl])] → World → Prop} (h : slices_Clone_leap_Leap_leap_Leap.wp s w R) : clS Tryz.prog F.slices_Clone_leap_Leap_leap_Leap [.slice s.1 s.2.1 s.2.2] w false [(false, [.sl])] R :=
  ok_of Tryz_follows Tryz.func32 (fun R => slices_Clone_leap_Leap_leap_Leap.wp s w R) (slices_Clone_leap_Leap_leap_Leap.eq s w) rfl h
/-! ### leap_Table_All_1 -/
set_option maxRecDepth 100000 in
def leap_Table_All_1.wp (p0 : Value) (w : World) (R : TR [] → World → Prop) : Prop :=
R (()) w
set_option maxRecDepth 100000 in
theorem leap_Table_All_1.eq (p0 : Value) (w : World) (R : Value → World → Prop) : wpF Tryz.prog Tryz.f33 .n [p0] w R = leap_Table_All_1.wp p0 w (fun r w => R (encR true [] r) w) := by kernel_rfl
set_option maxRecDepth 100000 in
theorem leap_Table_All_1.ok {p0 : Value} {w : World} {R : TR [] → World → Prop} (h : leap_Table_All_1.wp p0 w R) : clS Tryz.prog F.leap_Table_All_1 [p0] w true [] R :=
  ok_of Tryz_follows Tryz.func33 (fun R => leap_Table_All_1.wp p0 w R) (leap_Table_All_1.eq p0 w) rfl h
/-! ### slices_Values_leap_Leap_leap_Leap -/
set_option maxRecDepth 100000 in
def slices_Values_leap_Leap_leap_Leap.wp (s : Option Addr × Nat × Nat) (w : World) (R : TR [(false, [.any])] → World → Prop) : Prop :=
alK [.slice s.1 s.2.1 s.2.2] T.sl_leap_Leap w fun p1 w2 =>
R ((.func (.func F.slices_Values_leap_Leap_leap_Leap_1) #[] #[.pointer (some p1)], ()), ()) w2
set_option maxRecDepth 100000 in
theorem slices_Values_leap_Leap_leap_Leap.eq (s : Option Addr × Nat × Nat) (w : World) (R : Value → World → Prop) : wpF Tryz.prog Tryz.f34 .n [.slice s.1 s.2.1 s.2.2] w R = slices_Values_leap_Leap_leap_Leap.wp s w (fun r w => R (encR false [(false, [.any])] r) w) := by kernel_rfl
set_option maxRecDepth 100000 in
theorem slices_Values_leap_Leap_leap_Leap.ok {s : Option Addr × Nat × Nat} {w : World} {R : TR [(false, [.any])] → World → Prop} (h : slices_Values_leap_Leap_leap_Leap.wp s w R) : clS Tryz.prog F.slices_Values_leap_Leap_leap_Leap [.slice s.1 s.2.1 s.2.2] w false [(false, [.any])] R :=
  ok_of Tryz_follows Tryz.func34 (fun R => slices_Values_leap_Leap_leap_Leap.wp s w R) (slices_Values_leap_Leap_leap_Leap.eq s w) rfl h
/-! ### civil_Of -/
set_option maxRecDepth 100000 in
def civil_Of.wp (number : Int) (w : World) (R : TR [(true, [(.i .i64), (.i .i64), (.i .i64)]), (false, [.b])] → World → Prop) : Prop :=
alK [.int .i64 0, .int .i64 0, .int .i64 0] T.civil_Date w fun p1 w2 =>
brB (decide (number < (Int.negSucc 719161))) (
stN [.int .i64 0, .int .i64 0, .int .i64 0] p1 0 w2 fun w3 =>
ldN [(.i .i64), (.i .i64), (.i .i64)] p1 0 w3 fun x4 =>
R ((x4.1, x4.2.1, x4.2.2.1, ()), (false, ()), ()) w3) (
brB (decide (number > 2932896)) (
stN [.int .i64 0, .int .i64 0, .int .i64 0] p1 0 w2 fun w5 =>
ldN [(.i .i64), (.i .i64), (.i .i64)] p1 0 w5 fun x6 =>
R ((x6.1, x6.2.1, x6.2.2.1, ()), (false, ()), ()) w5) (
nzK 366 (
LoopT (fun (self7 : ((Int) × Unit) → World → Prop) (z8 : (Int) × Unit) w9 => ∀ _ : Nat → Value,
clS Tryz.prog F.civil_years [.int .i64 (IntKind.wrap .i64 (z8.1 + 1))] w9 false [(false, [(.i .i64)])] fun r10 w11 =>
brB (decide (r10.1.1 ≤ (IntKind.wrap .i64 (number - (Int.negSucc 719161))))) (
self7 (IntKind.wrap .i64 (z8.1 + 1), ()) w11) (
clS Tryz.prog F.civil_years [.int .i64 z8.1] w11 false [(false, [(.i .i64)])] fun r12 w13 =>
LoopT (fun (self14 : ((Int) × (Int) × Unit) → World → Prop) (z15 : (Int) × (Int) × Unit) w16 => ∀ _ : Nat → Value,
clS Tryz.prog F.civil_month [.int .i64 z8.1, .int .i64 z15.2.1] w16 false [(false, [(.i .i64)])] fun r17 w18 =>
brB (decide (z15.1 ≥ r17.1.1)) (
clS Tryz.prog F.civil_month [.int .i64 z8.1, .int .i64 z15.2.1] w18 false [(false, [(.i .i64)])] fun r19 w20 =>
self14 (IntKind.wrap .i64 (z15.1 - r19.1.1), IntKind.wrap .i64 (z15.2.1 + 1), ()) w20) (
stN [.int .i64 z8.1, .int .i64 z15.2.1, .int .i64 (IntKind.wrap .i64 (z15.1 + 1))] p1 0 w18 fun w21 =>
ldN [(.i .i64), (.i .i64), (.i .i64)] p1 0 w21 fun x22 =>
R ((x22.1, x22.2.1, x22.2.2.1, ()), (true, ()), ()) w21)) (IntKind.wrap .i64 ((IntKind.wrap .i64 (number - (Int.negSucc 719161))) - r12.1.1), 1, ()) w13)) (IntKind.wrap .i64 ((IntKind.wrap .i64 (Int.tdiv (IntKind.wrap .i64 (number - (Int.negSucc 719161))) 366)) + 1), ()) w2)))
set_option maxRecDepth 100000 in
theorem civil_Of.eq (number : Int) (w : World) (R : Value → World → Prop) : wpF Tryz.prog Tryz.f36 (.s .n (.s .n (.s .n (.s .n (.s (.lp [(5, (.i .i64))] .n) (.s .n (.s .n (.s (.lp [(4, (.i .i64)), (6, (.i .i64))] .n) .n)))))))) [.int .i64 number] w R = civil_Of.wp number w (fun r w => R (encR true [(true, [(.i .i64), (.i .i64), (.i .i64)]), (false, [.b])] r) w) := by kernel_rfl
set_option maxRecDepth 100000 in
theorem civil_Of.ok {number : Int} {w : World} {R : TR [(true, [(.i .i64), (.i .i64), (.i .i64)]), (false, [.b])] → World → Prop} (h : civil_Of.wp number w R) : clS Tryz.prog F.civil_Of [.int .i64 number] w true [(true, [(.i .i64), (.i .i64), (.i .i64)]), (false, [.b])] R :=
  ok_of Tryz_follows Tryz.func36 (fun R => civil_Of.wp number w R) (civil_Of.eq number w) rfl h
/-! ### civil_Date_Text -/
set_option maxRecDepth 100000 in
def civil_Date_Text.wp (d0 : Int) (d1 : Int) (d2 : Int) (w : World) (R : TR [(false, [.s])] → World → Prop) : Prop :=
alK [.int .i64 d0, .int .i64 d1, .int .i64 d2] T.civil_Date w fun p1 w2 =>
ldN [(.i .i64), (.i .i64), (.i .i64)] p1 0 w2 fun x3 =>
clS Tryz.prog F.civil_Date_Good [.agg #[.int .i64 x3.1, .int .i64 x3.2.1, .int .i64 x3.2.2.1]] w2 false [(false, [.b])] fun r4 w5 =>
brB (!r4.1.1) (
R ((⟨#[]⟩, ()), ()) w5) (
drK w5 fun w6 =>
ld1 (.i .i64) p1 w6 fun x7 =>
ld1 (.i .i64) (p1.add 1) w6 fun x8 =>
ld1 (.i .i64) (p1.add 2) w6 fun x9 =>
clS Tryz.prog F.civil_digits [.int .i64 x7, .int .i64 4] w6 false [(false, [.s])] fun r10 w11 =>
Hold [(10, (p1.add 2), (w6.cell? (p1.add 2)).getD undef), (5, (p1.add 1), (w6.cell? (p1.add 1)).getD undef), (1, p1, (w6.cell? p1).getD undef)] w11 ∧ (
saK r10.1.1 ⟨#[45]⟩ (
clS Tryz.prog F.civil_digits [.int .i64 x8, .int .i64 2] w11 false [(false, [.s])] fun r12 w13 =>
Hold [(10, (p1.add 2), (w6.cell? (p1.add 2)).getD undef), (5, (p1.add 1), (w6.cell? (p1.add 1)).getD undef), (1, p1, (w6.cell? p1).getD undef)] w13 ∧ (
saK (r10.1.1 ++ ⟨#[45]⟩) r12.1.1 (
saK ((r10.1.1 ++ ⟨#[45]⟩) ++ r12.1.1) ⟨#[45]⟩ (
clS Tryz.prog F.civil_digits [.int .i64 x9, .int .i64 2] w13 false [(false, [.s])] fun r14 w15 =>
Hold [(5, (p1.add 1), (w6.cell? (p1.add 1)).getD undef), (1, p1, (w6.cell? p1).getD undef)] w15 ∧ (
saK (((r10.1.1 ++ ⟨#[45]⟩) ++ r12.1.1) ++ ⟨#[45]⟩) r14.1.1 (
R (((((r10.1.1 ++ ⟨#[45]⟩) ++ r12.1.1) ++ ⟨#[45]⟩) ++ r14.1.1, ()), ()) w15))))))))
set_option maxRecDepth 100000 in
theorem civil_Date_Text.eq (d0 : Int) (d1 : Int) (d2 : Int) (w : World) (R : Value → World → Prop) : wpF Tryz.prog Tryz.f37 (.s .n (.s .n (.s (.pl (.tk 0 (.tk 1 (.tk 4 (.tk 5 (.tk 9 (.tk 10 (.ef 2 [] (.tk 3 (.ef 6 [] (.tk 7 (.tk 8 (.ef 11 [10] (.tk 12 (.tk 13 .z))))))))))))))) .n))) [.agg #[.int .i64 d0, .int .i64 d1, .int .i64 d2]] w R = civil_Date_Text.wp d0 d1 d2 w (fun r w => R (encR false [(false, [.s])] r) w) := by kernel_rfl
set_option maxRecDepth 100000 in
theorem civil_Date_Text.ok {d0 : Int} {d1 : Int} {d2 : Int} {w : World} {R : TR [(false, [.s])] → World → Prop} (h : civil_Date_Text.wp d0 d1 d2 w R) : clS Tryz.prog F.civil_Date_Text [.agg #[.int .i64 d0, .int .i64 d1, .int .i64 d2]] w false [(false, [.s])] R :=
  ok_of Tryz_follows Tryz.func37 (fun R => civil_Date_Text.wp d0 d1 d2 w R) (civil_Date_Text.eq d0 d1 d2 w) rfl h
/-! ### ref20_Long -/
set_option maxRecDepth 100000 in
def ref20_Long.wp (year : Int) (w : World) (R : TR [(false, [.b])] → World → Prop) : Prop :=
nzK 400 (
brB ((Int.tmod year 400) == 0) (
R ((true, ()), ()) w) (
nzK 4 (
brB ((Int.tmod year 4) == 0) (
nzK 100 (
R ((((Int.tmod year 100) != 0), ()), ()) w)) (
R ((false, ()), ()) w))))
set_option maxRecDepth 100000 in
theorem ref20_Long.eq (year : Int) (w : World) (R : Value → World → Prop) : wpF Tryz.prog Tryz.f39 .n [.int .i64 year] w R = ref20_Long.wp year w (fun r w => R (encR false [(false, [.b])] r) w) := by kernel_rfl
set_option maxRecDepth 100000 in
theorem ref20_Long.ok {year : Int} {w : World} {R : TR [(false, [.b])] → World → Prop} (h : ref20_Long.wp year w R) : clS Tryz.prog F.ref20_Long [.int .i64 year] w false [(false, [.b])] R :=
  ok_of Tryz_follows Tryz.func39 (fun R => ref20_Long.wp year w R) (ref20_Long.eq year w) rfl h
/-! ### ref20_Next -/
set_option maxRecDepth 100000 in
def ref20_Next.wp (d0 : Int) (d1 : Int) (d2 : Int) (w : World) (R : TR [(true, [(.i .i64), (.i .i64), (.i .i64)])] → World → Prop) : Prop :=
alK [.int .i64 d0, .int .i64 d1, .int .i64 d2] T.ref20_Date w fun p1 w2 =>
alK [.int .i64 0, .int .i64 0, .int .i64 0] T.ref20_Date w2 fun p3 w4 =>
ld1 (.i .i64) (p1.add 2) w4 fun x5 =>
stN [.int .i64 (IntKind.wrap .i64 (x5 + 1))] (p1.add 2) 0 w4 fun w6 =>
CutT (fun (J7 : Unit → World → Prop) =>
drK w6 fun w10 =>
ld1 (.i .i64) (p1.add 2) w10 fun x11 =>
ld1 (.i .i64) p1 w10 fun x12 =>
ld1 (.i .i64) (p1.add 1) w10 fun x13 =>
clS Tryz.prog F.ref20_Days [.int .i64 x12, .int .i64 x13] w10 false [(false, [(.i .i64)])] fun r14 w15 =>
Hold [(1, (p1.add 2), (w10.cell? (p1.add 2)).getD undef)] w15 ∧ (
brB (decide (x11 > r14.1.1)) (
stN [.int .i64 1] (p1.add 2) 0 w15 fun w16 =>
ld1 (.i .i64) (p1.add 1) w16 fun x17 =>
stN [.int .i64 (IntKind.wrap .i64 (x17 + 1))] (p1.add 1) 0 w16 fun w18 =>
J7 (()) w18) (
J7 (()) w15))) (fun (z8 : Unit) w9 => ∀ _ : Nat → Value,
ld1 (.i .i64) (p1.add 1) w9 fun x19 =>
brB (decide (x19 > 12)) (
stN [.int .i64 1] (p1.add 1) 0 w9 fun w20 =>
ld1 (.i .i64) p1 w20 fun x21 =>
stN [.int .i64 (IntKind.wrap .i64 (x21 + 1))] p1 0 w20 fun w22 =>
ldN [(.i .i64), (.i .i64), (.i .i64)] p1 0 w22 fun x23 =>
stN [.int .i64 x23.1, .int .i64 x23.2.1, .int .i64 x23.2.2.1] p3 0 w22 fun w24 =>
ldN [(.i .i64), (.i .i64), (.i .i64)] p3 0 w24 fun x25 =>
R ((x25.1, x25.2.1, x25.2.2.1, ()), ()) w24) (
ldN [(.i .i64), (.i .i64), (.i .i64)] p1 0 w9 fun x26 =>
stN [.int .i64 x26.1, .int .i64 x26.2.1, .int .i64 x26.2.2.1] p3 0 w9 fun w27 =>
ldN [(.i .i64), (.i .i64), (.i .i64)] p3 0 w27 fun x28 =>
R ((x28.1, x28.2.1, x28.2.2.1, ()), ()) w27))
set_option maxRecDepth 100000 in
theorem ref20_Next.eq (d0 : Int) (d1 : Int) (d2 : Int) (w : World) (R : Value → World → Prop) : wpF Tryz.prog Tryz.f40 (.s .n (.s .n (.ct [] (.s (.pl (.tk 0 (.tk 1 (.tk 2 (.tk 3 (.tk 4 (.tk 5 (.ef 6 [3, 5] (.tk 7 .z))))))))) .n) .n))) [.agg #[.int .i64 d0, .int .i64 d1, .int .i64 d2]] w R = ref20_Next.wp d0 d1 d2 w (fun r w => R (encR false [(true, [(.i .i64), (.i .i64), (.i .i64)])] r) w) := by kernel_rfl
set_option maxRecDepth 100000 in
theorem ref20_Next.ok {d0 : Int} {d1 : Int} {d2 : Int} {w : World} {R : TR [(true, [(.i .i64), (.i .i64), (.i .i64)])] → World → Prop} (h : ref20_Next.wp d0 d1 d2 w R) : clS Tryz.prog F.ref20_Next [.agg #[.int .i64 d0, .int .i64 d1, .int .i64 d2]] w false [(true, [(.i .i64), (.i .i64), (.i .i64)])] R :=
  ok_of Tryz_follows Tryz.func40 (fun R => ref20_Next.wp d0 d1 d2 w R) (ref20_Next.eq d0 d1 d2 w) rfl h
/-! ### ref20_Text -/
set_option maxRecDepth 100000 in
def ref20_Text.wp (d0 : Int) (d1 : Int) (d2 : Int) (w : World) (R : TR [(false, [.s])] → World → Prop) : Prop :=
alK [.int .i64 d0, .int .i64 d1, .int .i64 d2] T.ref20_Date w fun p1 w2 =>
ldN [(.i .i64), (.i .i64), (.i .i64)] p1 0 w2 fun x3 =>
clS Tryz.prog F.ref20_Good [.agg #[.int .i64 x3.1, .int .i64 x3.2.1, .int .i64 x3.2.2.1]] w2 false [(false, [.b])] fun r4 w5 =>
brB (!r4.1.1) (
R ((⟨#[]⟩, ()), ()) w5) (
drK w5 fun w6 =>
ld1 (.i .i64) p1 w6 fun x7 =>
ld1 (.i .i64) (p1.add 1) w6 fun x8 =>
ld1 (.i .i64) (p1.add 2) w6 fun x9 =>
clS Tryz.prog F.ref20_two [.int .i64 x7, .int .i64 4] w6 false [(false, [.s])] fun r10 w11 =>
Hold [(10, (p1.add 2), (w6.cell? (p1.add 2)).getD undef), (5, (p1.add 1), (w6.cell? (p1.add 1)).getD undef), (1, p1, (w6.cell? p1).getD undef)] w11 ∧ (
saK r10.1.1 ⟨#[45]⟩ (
clS Tryz.prog F.ref20_two [.int .i64 x8, .int .i64 2] w11 false [(false, [.s])] fun r12 w13 =>
Hold [(10, (p1.add 2), (w6.cell? (p1.add 2)).getD undef), (5, (p1.add 1), (w6.cell? (p1.add 1)).getD undef), (1, p1, (w6.cell? p1).getD undef)] w13 ∧ (
saK (r10.1.1 ++ ⟨#[45]⟩) r12.1.1 (
saK ((r10.1.1 ++ ⟨#[45]⟩) ++ r12.1.1) ⟨#[45]⟩ (
clS Tryz.prog F.ref20_two [.int .i64 x9, .int .i64 2] w13 false [(false, [.s])] fun r14 w15 =>
Hold [(5, (p1.add 1), (w6.cell? (p1.add 1)).getD undef), (1, p1, (w6.cell? p1).getD undef)] w15 ∧ (
saK (((r10.1.1 ++ ⟨#[45]⟩) ++ r12.1.1) ++ ⟨#[45]⟩) r14.1.1 (
R (((((r10.1.1 ++ ⟨#[45]⟩) ++ r12.1.1) ++ ⟨#[45]⟩) ++ r14.1.1, ()), ()) w15))))))))
set_option maxRecDepth 100000 in
theorem ref20_Text.eq (d0 : Int) (d1 : Int) (d2 : Int) (w : World) (R : Value → World → Prop) : wpF Tryz.prog Tryz.f41 (.s .n (.s .n (.s (.pl (.tk 0 (.tk 1 (.tk 4 (.tk 5 (.tk 9 (.tk 10 (.ef 2 [] (.tk 3 (.ef 6 [] (.tk 7 (.tk 8 (.ef 11 [10] (.tk 12 (.tk 13 .z))))))))))))))) .n))) [.agg #[.int .i64 d0, .int .i64 d1, .int .i64 d2]] w R = ref20_Text.wp d0 d1 d2 w (fun r w => R (encR false [(false, [.s])] r) w) := by kernel_rfl
set_option maxRecDepth 100000 in
theorem ref20_Text.ok {d0 : Int} {d1 : Int} {d2 : Int} {w : World} {R : TR [(false, [.s])] → World → Prop} (h : ref20_Text.wp d0 d1 d2 w R) : clS Tryz.prog F.ref20_Text [.agg #[.int .i64 d0, .int .i64 d1, .int .i64 d2]] w false [(false, [.s])] R :=
  ok_of Tryz_follows Tryz.func41 (fun R => ref20_Text.wp d0 d1 d2 w R) (ref20_Text.eq d0 d1 d2 w) rfl h
/-! ### leap_reader_first -/
set_option maxRecDepth 100000 in
def leap_reader_first.wp (r : Option Addr) (w_ : Option Addr × Nat × Nat) (w : World) (R : TR [] → World → Prop) (Z : Value → World → Prop) : Prop :=
CutT (fun (J1 : Unit → World → Prop) =>
brB ((w_.2.1 : Int) != 3) (
clE Tryz.prog F.leap_reader_fail [.pointer r, .int .i64 3] w true [] (fun r4 w5 =>
J1 (()) w5) (fun (v6 : Value) w7 =>
Z v6 w7)) (
ixK w_.1 w_.2.1 0 fun a8 =>
ld1 .s (a8.add ((0 : Int).toNat * 1)) w fun x9 =>
brB (!(x9 == ⟨#[115, 116, 97, 114, 116]⟩)) (
clE Tryz.prog F.leap_reader_fail [.pointer r, .int .i64 3] w true [] (fun r10 w11 =>
J1 (()) w11) (fun (v12 : Value) w13 =>
Z v12 w13)) (
ixK w_.1 w_.2.1 2 fun a14 =>
ld1 .s (a14.add ((2 : Int).toNat * 1)) w fun x15 =>
clS Tryz.prog F.leap_plain [.string x15] w false [(false, [.b])] fun r16 w17 =>
brB (!r16.1.1) (
clE Tryz.prog F.leap_reader_fail [.pointer r, .int .i64 3] w17 true [] (fun r18 w19 =>
J1 (()) w19) (fun (v20 : Value) w21 =>
Z v20 w21)) (
J1 (()) w17)))) (fun (z2 : Unit) w3 => ∀ _ : Nat → Value,
ixK w_.1 w_.2.1 1 fun a22 =>
ld1 .s (a22.add ((1 : Int).toNat * 1)) w3 fun x23 =>
clE Tryz.prog F.leap_reader_date [.pointer r, .string x23] w3 false [(false, [(.i .i64)])] (fun r24 w25 =>
ncK r fun a26 =>
stN [.int .i64 r24.1.1] (a26.add 2) 0 w25 fun w27 =>
ixK w_.1 w_.2.1 2 fun a28 =>
ld1 .s (a28.add ((2 : Int).toNat * 1)) w27 fun x29 =>
clS Tryz.prog F.strconv_Atoi [.string x29] w27 true [(false, [(.i .i64)]), (false, [.any])] fun r30 w31 =>
ncK r fun a32 =>
stN [.int .i64 r30.1.1] (a32.add 3) 0 w31 fun w33 =>
ncK r fun a34 =>
stN [.int .i64 1] (a34.add 1) 0 w33 fun w35 =>
R (()) w35) (fun (v36 : Value) w37 =>
Z v36 w37))
set_option maxRecDepth 100000 in
theorem leap_reader_first.eq (r : Option Addr) (w_ : Option Addr × Nat × Nat) (w : World) (R : Value → World → Prop) (Z : Value → World → Prop) : wpFZ Tryz.prog Tryz.f43 (.ct [] (.s .n (.s .pz .n)) (.s .pz .n)) [.pointer r, .slice w_.1 w_.2.1 w_.2.2] w R Z = leap_reader_first.wp r w_ w (fun r w => R (encR true [] r) w) Z := by kernel_rfl
set_option maxRecDepth 100000 in
theorem leap_reader_first.ok {r : Option Addr} {w_ : Option Addr × Nat × Nat} {w : World} {R : TR [] → World → Prop} {Z : Value → World → Prop} (h : leap_reader_first.wp r w_ w R Z) : clE Tryz.prog F.leap_reader_first [.pointer r, .slice w_.1 w_.2.1 w_.2.2] w true [] R Z :=
  ok_ofZ Tryz_follows Tryz.func43 (fun R Z => leap_reader_first.wp r w_ w R Z) (leap_reader_first.eq r w_ w) rfl h
/-! ### leap_reader_leap -/
set_option maxRecDepth 100000 in
def leap_reader_leap.wp (r : Option Addr) (w_ : Option Addr × Nat × Nat) (w : World) (R : TR [] → World → Prop) (Z : Value → World → Prop) : Prop :=
maK Tryz.prog T.map_string_int w fun m1 w2 =>
muK Tryz.prog T.map_string_int (.map (some m1)) (.string ⟨#[43, 49]⟩) (.int .i64 1) w2 fun w3 =>
muK Tryz.prog T.map_string_int (.map (some m1)) (.string ⟨#[45, 49]⟩) (.int .i64 (Int.negSucc 0)) w3 fun w4 =>
CutT (fun (J5 : Unit → World → Prop) =>
brB ((w_.2.1 : Int) != 3) (
clE Tryz.prog F.leap_reader_fail [.pointer r, .int .i64 3] w4 true [] (fun r8 w9 =>
J5 (()) w9) (fun (v10 : Value) w11 =>
Z v10 w11)) (
ixK w_.1 w_.2.1 2 fun a12 =>
ld1 .s (a12.add ((2 : Int).toNat * 1)) w4 fun x13 =>
lkP Tryz.prog T.map_string_int (.map (some m1)) (.string x13) w4 false [(.i .i64)] fun x14 =>
brB (x14.1 == 0) (
clE Tryz.prog F.leap_reader_fail [.pointer r, .int .i64 3] w4 true [] (fun r15 w16 =>
J5 (()) w16) (fun (v17 : Value) w18 =>
Z v17 w18)) (
J5 (()) w4))) (fun (z6 : Unit) w7 => ∀ _ : Nat → Value,
ixK w_.1 w_.2.1 1 fun a19 =>
ld1 .s (a19.add ((1 : Int).toNat * 1)) w7 fun x20 =>
clE Tryz.prog F.leap_reader_date [.pointer r, .string x20] w7 false [(false, [(.i .i64)])] (fun r21 w22 =>
CutT (fun (J23 : Unit → World → Prop) =>
ncK r fun a26 =>
ld1 .sl (a26.add 5) w22 fun x27 =>
brB ((x27.2.1 : Int) == 64) (
clE Tryz.prog F.leap_reader_fail [.pointer r, .int .i64 6] w22 true [] (fun r28 w29 =>
J23 (()) w29) (fun (v30 : Value) w31 =>
Z v30 w31)) (
J23 (()) w22)) (fun (z24 : Unit) w25 => ∀ _ : Nat → Value,
CutT (fun (J32 : Unit → World → Prop) =>
ncK r fun a35 =>
ld1 .sl (a35.add 5) w25 fun x36 =>
ncK r fun a37 =>
ld1 (.i .i64) (a37.add 2) w25 fun x38 =>
brB (decide (r21.1.1 < x38)) (
clE Tryz.prog F.leap_reader_fail [.pointer r, .int .i64 12] w25 true [] (fun r39 w40 =>
J32 (()) w40) (fun (v41 : Value) w42 =>
Z v41 w42)) (
brB (decide ((x36.2.1 : Int) > 0)) (
ncK r fun a43 =>
ld1 .sl (a43.add 5) w25 fun x44 =>
ixK x44.1 x44.2.1 (IntKind.wrap .i64 ((x36.2.1 : Int) - 1)) fun a45 =>
ld1 (.i .i64) (a45.add ((IntKind.wrap .i64 ((x36.2.1 : Int) - 1)).toNat * 2)) w25 fun x46 =>
brB (decide (r21.1.1 ≤ x46)) (
clE Tryz.prog F.leap_reader_fail [.pointer r, .int .i64 12] w25 true [] (fun r47 w48 =>
J32 (()) w48) (fun (v49 : Value) w50 =>
Z v49 w50)) (
J32 (()) w25)) (
J32 (()) w25))) (fun (z33 : Unit) w34 => ∀ _ : Nat → Value,
drK w34 fun w51 =>
ncK r fun a52 =>
ld1 .sl (a52.add 5) w51 fun x53 =>
ixK w_.1 w_.2.1 2 fun a54 =>
ld1 .s (a54.add ((2 : Int).toNat * 1)) w51 fun x55 =>
lkP Tryz.prog T.map_string_int (.map (some m1)) (.string x55) w51 false [(.i .i64)] fun x56 =>
Hold [(9, (a54.add ((2 : Int).toNat * 1)), (w51.cell? (a54.add ((2 : Int).toNat * 1))).getD undef), (4, (a52.add 5), (w51.cell? (a52.add 5)).getD undef)] w51 ∧ (
alK [.int .i64 r21.1.1, .int .i64 x56.1] T.leap_Leap w51 fun p57 w58 =>
Hold [(9, (a54.add ((2 : Int).toNat * 1)), (w51.cell? (a54.add ((2 : Int).toNat * 1))).getD undef), (4, (a52.add 5), (w51.cell? (a52.add 5)).getD undef)] w58 ∧ (
slOf ((Builtin.append_ #[T.sl_leap_Leap, T.sl_leap_Leap] T.sl_leap_Leap #[.slice x53.1 x53.2.1 x53.2.2, .slice (some p57) 1 1]).run Tryz.prog w58) fun y59 w60 =>
Hold [(9, (a54.add ((2 : Int).toNat * 1)), (w51.cell? (a54.add ((2 : Int).toNat * 1))).getD undef)] w60 ∧ (
ncK r fun a61 =>
stN [.slice y59.1 y59.2.1 y59.2.2] (a61.add 5) 0 w60 fun w62 =>
Hold [] w62 ∧ (
R (()) w62))))))) (fun (v63 : Value) w64 =>
Z v63 w64))
set_option maxRecDepth 100000 in
theorem leap_reader_leap.eq (r : Option Addr) (w_ : Option Addr × Nat × Nat) (w : World) (R : Value → World → Prop) (Z : Value → World → Prop) : wpFZ Tryz.prog Tryz.f44 (.s .n (.ct [] (.s .n (.s .pz .n)) (.s .pz (.ct [] (.s .n (.s .pz .n)) (.ct [] (.s .n (.s .n (.s .pz .n))) (.pl (.tk 0 (.tk 1 (.tk 2 (.tk 3 (.tk 4 (.tk 5 (.tk 6 (.tk 7 (.tk 8 (.tk 9 (.ef 10 [] (.tk 11 (.ef 12 [] (.ef 13 [4] (.tk 14 (.tk 15 (.ef 16 [9] .z))))))))))))))))))))))) [.pointer r, .slice w_.1 w_.2.1 w_.2.2] w R Z = leap_reader_leap.wp r w_ w (fun r w => R (encR true [] r) w) Z := by kernel_rfl
set_option maxRecDepth 100000 in
theorem leap_reader_leap.ok {r : Option Addr} {w_ : Option Addr × Nat × Nat} {w : World} {R : TR [] → World → Prop} {Z : Value → World → Prop} (h : leap_reader_leap.wp r w_ w R Z) : clE Tryz.prog F.leap_reader_leap [.pointer r, .slice w_.1 w_.2.1 w_.2.2] w true [] R Z :=
  ok_ofZ Tryz_follows Tryz.func44 (fun R Z => leap_reader_leap.wp r w_ w R Z) (leap_reader_leap.eq r w_ w) rfl h
/-! ### leap_reader_last -/
set_option maxRecDepth 100000 in
def leap_reader_last.wp (r : Option Addr) (w_ : Option Addr × Nat × Nat) (w : World) (R : TR [] → World → Prop) (Z : Value → World → Prop) : Prop :=
CutT (fun (J1 : Unit → World → Prop) =>
brB ((w_.2.1 : Int) != 2) (
clE Tryz.prog F.leap_reader_fail [.pointer r, .int .i64 3] w true [] (fun r4 w5 =>
J1 (()) w5) (fun (v6 : Value) w7 =>
Z v6 w7)) (
ixK w_.1 w_.2.1 0 fun a8 =>
ld1 .s (a8.add ((0 : Int).toNat * 1)) w fun x9 =>
brB (!(x9 == ⟨#[101, 110, 100]⟩)) (
clE Tryz.prog F.leap_reader_fail [.pointer r, .int .i64 3] w true [] (fun r10 w11 =>
J1 (()) w11) (fun (v12 : Value) w13 =>
Z v12 w13)) (
J1 (()) w))) (fun (z2 : Unit) w3 => ∀ _ : Nat → Value,
ixK w_.1 w_.2.1 1 fun a14 =>
ld1 .s (a14.add ((1 : Int).toNat * 1)) w3 fun x15 =>
clE Tryz.prog F.leap_reader_date [.pointer r, .string x15] w3 false [(false, [(.i .i64)])] (fun r16 w17 =>
ncK r fun a18 =>
stN [.int .i64 r16.1.1] (a18.add 4) 0 w17 fun w19 =>
ncK r fun a20 =>
ld1 .sl (a20.add 5) w19 fun x21 =>
drK w19 fun w22 =>
ncK r fun a23 =>
ld1 (.i .i64) (a23.add 4) w22 fun x24 =>
ncK r fun a25 =>
ld1 (.i .i64) (a25.add 2) w22 fun x26 =>
brB (decide (x24 ≤ x26)) (
clE Tryz.prog F.leap_reader_fail [.pointer r, .int .i64 12] w22 true [] (fun r27 w28 =>
ncK r fun a29 =>
stN [.int .i64 2] (a29.add 1) 0 w28 fun w30 =>
R (()) w30) (fun (v31 : Value) w32 =>
Z v31 w32)) (
brB (decide ((x21.2.1 : Int) > 0)) (
ncK r fun a33 =>
ld1 (.i .i64) (a33.add 4) w22 fun x34 =>
ncK r fun a35 =>
ld1 .sl (a35.add 5) w22 fun x36 =>
ixK x36.1 x36.2.1 (IntKind.wrap .i64 ((x21.2.1 : Int) - 1)) fun a37 =>
ld1 (.i .i64) (a37.add ((IntKind.wrap .i64 ((x21.2.1 : Int) - 1)).toNat * 2)) w22 fun x38 =>
brB (decide (x34 ≤ x38)) (
clE Tryz.prog F.leap_reader_fail [.pointer r, .int .i64 12] w22 true [] (fun r39 w40 =>
ncK r fun a41 =>
stN [.int .i64 2] (a41.add 1) 0 w40 fun w42 =>
R (()) w42) (fun (v43 : Value) w44 =>
Z v43 w44)) (
ncK r fun a45 =>
stN [.int .i64 2] (a45.add 1) 0 w22 fun w46 =>
R (()) w46)) (
ncK r fun a47 =>
stN [.int .i64 2] (a47.add 1) 0 w22 fun w48 =>
R (()) w48))) (fun (v49 : Value) w50 =>
Z v49 w50))
set_option maxRecDepth 100000 in
theorem leap_reader_last.eq (r : Option Addr) (w_ : Option Addr × Nat × Nat) (w : World) (R : Value → World → Prop) (Z : Value → World → Prop) : wpFZ Tryz.prog Tryz.f45 (.ct [] (.s .n (.s .pz .n)) (.s .pz (.s (.s .n (.s (.pl (.tk 0 (.tk 1 (.tk 2 (.tk 3 (.tk 4 (.tk 5 (.tk 6 (.tk 7 (.tk 8 (.tk 9 (.tk 10 (.tk 11 (.tk 12 (.tk 13 (.tk 14 (.tk 15 (.tk 16 (.tk 17 (.tk 18 (.tk 19 (.tk 20 (.tk 21 (.tk 22 (.tk 23 (.tk 24 (.tk 25 (.tk 26 (.tk 27 (.tk 28 .z)))))))))))))))))))))))))))))) (.s .pz .n))) .n))) [.pointer r, .slice w_.1 w_.2.1 w_.2.2] w R Z = leap_reader_last.wp r w_ w (fun r w => R (encR true [] r) w) Z := by kernel_rfl
set_option maxRecDepth 100000 in
theorem leap_reader_last.ok {r : Option Addr} {w_ : Option Addr × Nat × Nat} {w : World} {R : TR [] → World → Prop} {Z : Value → World → Prop} (h : leap_reader_last.wp r w_ w R Z) : clE Tryz.prog F.leap_reader_last [.pointer r, .slice w_.1 w_.2.1 w_.2.2] w true [] R Z :=
  ok_ofZ Tryz_follows Tryz.func45 (fun R Z => leap_reader_last.wp r w_ w R Z) (leap_reader_last.eq r w_ w) rfl h
/-! ### slices_IndexFunc_leap_Leap_leap_Leap_of_leap_Make_1 -/
set_option maxRecDepth 100000 in
def slices_IndexFunc_leap_Leap_leap_Leap_of_leap_Make_1.wp (s : Option Addr × Nat × Nat) (w : World) (R : TR [(false, [(.i .i64)])] → World → Prop) : Prop :=
LoopT (fun (self1 : ((Int) × Unit) → World → Prop) (z2 : (Int) × Unit) w3 => ∀ _ : Nat → Value,
brB (decide (z2.1 < (s.2.1 : Int))) (
ixK s.1 s.2.1 z2.1 fun a4 =>
ldN [(.i .i64), (.i .i64)] (a4.add (z2.1.toNat * 2)) 0 w3 fun x5 =>
clS Tryz.prog F.leap_Make_1 [.agg #[.int .i64 x5.1, .int .i64 x5.2.1]] w3 false [(false, [.b])] fun r6 w7 =>
brB r6.1.1 (
R ((z2.1, ()), ()) w7) (
self1 (IntKind.wrap .i64 (z2.1 + 1), ()) w7)) (
R (((Int.negSucc 0), ()), ()) w3)) (0, ()) w
set_option maxRecDepth 100000 in
theorem slices_IndexFunc_leap_Leap_leap_Leap_of_leap_Make_1.eq (s : Option Addr × Nat × Nat) (w : World) (R : Value → World → Prop) : wpF Tryz.prog Tryz.f46 (.s .n (.s (.s .n (.lp [(8, (.i .i64))] .n)) .n)) [.slice s.1 s.2.1 s.2.2, .func (.func F.leap_Make_1) #[] #[]] w R = slices_IndexFunc_leap_Leap_leap_Leap_of_leap_Make_1.wp s w (fun r w => R (encR false [(false, [(.i .i64)])] r) w) := by kernel_rfl
set_option maxRecDepth 100000 in
theorem slices_IndexFunc_leap_Leap_leap_Leap_of_leap_Make_1.ok {s : Option Addr × Nat × Nat} {w : World} {R : TR [(false, [(.i .i64)])] → World → Prop} (h : slices_IndexFunc_leap_Leap_leap_Leap_of_leap_Make_1.wp s w R) : clS Tryz.prog F.slices_IndexFunc_leap_Leap_leap_Leap [.slice s.1 s.2.1 s.2.2, .func (.func F.leap_Make_1) #[] #[]] w false [(false, [(.i .i64)])] R :=
  ok_of Tryz_follows Tryz.func46 (fun R => slices_IndexFunc_leap_Leap_leap_Leap_of_leap_Make_1.wp s w R) (slices_IndexFunc_leap_Leap_leap_Leap_of_leap_Make_1.eq s w) rfl h
/-! ### slices_Values_leap_Leap_leap_Leap_1 -/
set_option maxRecDepth 100000 in
def slices_Values_leap_Leap_leap_Leap_1.wp (yield : Nat) (c_cap0 : Addr) (w : World) (R : TR [] → World → Prop) : Prop :=
ld1 .sl c_cap0 w fun x1 =>
LoopT (fun (self2 : ((Int) × Unit) → World → Prop) (z3 : (Int) × Unit) w4 => ∀ _ : Nat → Value,
brB (decide (z3.1 < (x1.2.1 : Int))) (
ixK x1.1 x1.2.1 z3.1 fun a5 =>
ldN [(.i .i64), (.i .i64)] (a5.add (z3.1.toNat * 2)) 0 w4 fun x6 =>
alK [.int .i64 0, .int .i64 0] T.leap_Leap w4 fun p7 w8 =>
stN [.int .i64 x6.1, .int .i64 x6.2.1] p7 0 w8 fun w9 =>
ldN [(.i .i64), (.i .i64)] p7 0 w9 fun x10 =>
yiS Tryz.prog yield [.agg #[.int .i64 x10.1, .int .i64 x10.2.1]] w9 fun b11 w12 =>
brB (!b11) (
R (()) w12) (
self2 (IntKind.wrap .i64 (z3.1 + 1), ()) w12)) (
R (()) w4)) (0, ()) w
set_option maxRecDepth 100000 in
theorem slices_Values_leap_Leap_leap_Leap_1.eq (yield : Nat) (c_cap0 : Addr) (w : World) (R : Value → World → Prop) : wpF Tryz.prog Tryz.f47 (.s .n (.lp [(7, (.i .i64))] .n)) [.func (.yield yield) #[] #[], .pointer (some c_cap0)] w R = slices_Values_leap_Leap_leap_Leap_1.wp yield c_cap0 w (fun r w => R (encR true [] r) w) := by kernel_rfl
set_option maxRecDepth 100000 in
theorem slices_Values_leap_Leap_leap_Leap_1.ok {yield : Nat} {c_cap0 : Addr} {w : World} {R : TR [] → World → Prop} (h : slices_Values_leap_Leap_leap_Leap_1.wp yield c_cap0 w R) : clS Tryz.prog F.slices_Values_leap_Leap_leap_Leap_1 [.func (.yield yield) #[] #[], .pointer (some c_cap0)] w true [] R :=
  ok_of Tryz_follows Tryz.func47 (fun R => slices_Values_leap_Leap_leap_Leap_1.wp yield c_cap0 w R) (slices_Values_leap_Leap_leap_Leap_1.eq yield c_cap0 w) rfl h
/-! ### civil_years -/
set_option maxRecDepth 100000 in
def civil_years.wp (year : Int) (w : World) (R : TR [(false, [(.i .i64)])] → World → Prop) : Prop :=
nzK 4 (
nzK 100 (
nzK 400 (
R ((IntKind.wrap .i64 ((IntKind.wrap .i64 ((IntKind.wrap .i64 ((IntKind.wrap .i64 (365 * (IntKind.wrap .i64 (year - 1)))) + (IntKind.wrap .i64 (Int.tdiv (IntKind.wrap .i64 (year - 1)) 4)))) - (IntKind.wrap .i64 (Int.tdiv (IntKind.wrap .i64 (year - 1)) 100)))) + (IntKind.wrap .i64 (Int.tdiv (IntKind.wrap .i64 (year - 1)) 400))), ()), ()) w)))
set_option maxRecDepth 100000 in
theorem civil_years.eq (year : Int) (w : World) (R : Value → World → Prop) : wpF Tryz.prog Tryz.f49 .n [.int .i64 year] w R = civil_years.wp year w (fun r w => R (encR false [(false, [(.i .i64)])] r) w) := by kernel_rfl
set_option maxRecDepth 100000 in
theorem civil_years.ok {year : Int} {w : World} {R : TR [(false, [(.i .i64)])] → World → Prop} (h : civil_years.wp year w R) : clS Tryz.prog F.civil_years [.int .i64 year] w false [(false, [(.i .i64)])] R :=
  ok_of Tryz_follows Tryz.func49 (fun R => civil_years.wp year w R) (civil_years.eq year w) rfl h
/-! ### civil_month -/
set_option maxRecDepth 100000 in
def civil_month.wp (year : Int) (m : Int) (w : World) (R : TR [(false, [(.i .i64)])] → World → Prop) : Prop :=
brB (m == 2) (
clS Tryz.prog F.civil_leap [.int .i64 year] w false [(false, [.b])] fun r1 w2 =>
brB r1.1.1 (
R ((29, ()), ()) w2) (
aiK [0, 31, 28, 31, 30, 31, 30, 31, 31, 30, 31, 30, 31] 13 m fun c3 =>
R ((c3, ()), ()) w2)) (
aiK [0, 31, 28, 31, 30, 31, 30, 31, 31, 30, 31, 30, 31] 13 m fun c4 =>
R ((c4, ()), ()) w)
set_option maxRecDepth 100000 in
theorem civil_month.eq (year : Int) (m : Int) (w : World) (R : Value → World → Prop) : wpF Tryz.prog Tryz.f50 .n [.int .i64 year, .int .i64 m] w R = civil_month.wp year m w (fun r w => R (encR false [(false, [(.i .i64)])] r) w) := by kernel_rfl
set_option maxRecDepth 100000 in
theorem civil_month.ok {year : Int} {m : Int} {w : World} {R : TR [(false, [(.i .i64)])] → World → Prop} (h : civil_month.wp year m w R) : clS Tryz.prog F.civil_month [.int .i64 year, .int .i64 m] w false [(false, [(.i .i64)])] R :=
  ok_of Tryz_follows Tryz.func50 (fun R => civil_month.wp year m w R) (civil_month.eq year m w) rfl h
/-! ### civil_Date_Good -/
set_option maxRecDepth 100000 in
def civil_Date_Good.wp (d0 : Int) (d1 : Int) (d2 : Int) (w : World) (R : TR [(false, [.b])] → World → Prop) : Prop :=
alK [.int .i64 d0, .int .i64 d1, .int .i64 d2] T.civil_Date w fun p1 w2 =>
drK w2 fun w3 =>
ld1 (.i .i64) p1 w3 fun x4 =>
brB (decide (x4 ≥ 1)) (
ld1 (.i .i64) p1 w3 fun x5 =>
brB (decide (x5 ≤ 9999)) (
ld1 (.i .i64) (p1.add 1) w3 fun x6 =>
brB (decide (x6 ≥ 1)) (
ld1 (.i .i64) (p1.add 1) w3 fun x7 =>
brB (decide (x7 ≤ 12)) (
ld1 (.i .i64) (p1.add 2) w3 fun x8 =>
brB (decide (x8 ≥ 1)) (
ld1 (.i .i64) (p1.add 2) w3 fun x9 =>
ld1 (.i .i64) p1 w3 fun x10 =>
ld1 (.i .i64) (p1.add 1) w3 fun x11 =>
clS Tryz.prog F.civil_month [.int .i64 x10, .int .i64 x11] w3 false [(false, [(.i .i64)])] fun r12 w13 =>
Hold [(25, (p1.add 2), (w3.cell? (p1.add 2)).getD undef), (20, (p1.add 2), (w3.cell? (p1.add 2)).getD undef), (15, (p1.add 1), (w3.cell? (p1.add 1)).getD undef), (10, (p1.add 1), (w3.cell? (p1.add 1)).getD undef), (5, p1, (w3.cell? p1).getD undef), (1, p1, (w3.cell? p1).getD undef)] w13 ∧ (
R ((decide (x9 ≤ r12.1.1), ()), ()) w13)) (
R ((false, ()), ()) w3)) (
R ((false, ()), ()) w3)) (
R ((false, ()), ()) w3)) (
R ((false, ()), ()) w3)) (
R ((false, ()), ()) w3)
set_option maxRecDepth 100000 in
theorem civil_Date_Good.eq (d0 : Int) (d1 : Int) (d2 : Int) (w : World) (R : Value → World → Prop) : wpF Tryz.prog Tryz.f51 (.s .n (.s (.pl (.tk 0 (.tk 1 (.tk 2 (.tk 3 (.tk 4 (.tk 5 (.tk 6 (.tk 7 (.tk 8 (.tk 9 (.tk 10 (.tk 11 (.tk 12 (.tk 13 (.tk 14 (.tk 15 (.tk 16 (.tk 17 (.tk 18 (.tk 19 (.tk 20 (.tk 21 (.tk 22 (.tk 23 (.tk 24 (.tk 25 (.tk 26 (.tk 27 (.tk 28 (.tk 29 (.ef 30 [27, 29] (.tk 31 (.tk 32 (.tk 33 .z))))))))))))))))))))))))))))))))))) .n)) [.agg #[.int .i64 d0, .int .i64 d1, .int .i64 d2]] w R = civil_Date_Good.wp d0 d1 d2 w (fun r w => R (encR false [(false, [.b])] r) w) := by kernel_rfl
set_option maxRecDepth 100000 in
theorem civil_Date_Good.ok {d0 : Int} {d1 : Int} {d2 : Int} {w : World} {R : TR [(false, [.b])] → World → Prop} (h : civil_Date_Good.wp d0 d1 d2 w R) : clS Tryz.prog F.civil_Date_Good [.agg #[.int .i64 d0, .int .i64 d1, .int .i64 d2]] w false [(false, [.b])] R :=
  ok_of Tryz_follows Tryz.func51 (fun R => civil_Date_Good.wp d0 d1 d2 w R) (civil_Date_Good.eq d0 d1 d2 w) rfl h
/-! ### civil_digits -/
set_option maxRecDepth 100000 in
def civil_digits.wp (n : Int) (size : Int) (w : World) (R : TR [(false, [.s])] → World → Prop) : Prop :=
slOf ((Instr.makeSlice T.sl_uint8 (.int .i64 size) (.int .i64 size)).run Tryz.prog w) fun y1 w2 =>
LoopT (fun (self3 : ((Int) × (Int) × Unit) → World → Prop) (z4 : (Int) × (Int) × Unit) w5 => ∀ _ : Nat → Value,
brB (decide (z4.2.1 ≥ 0)) (
nzK 10 (
ixK y1.1 y1.2.1 z4.2.1 fun a6 =>
stN [.int .u8 (IntKind.wrap .u8 (IntKind.wrap .i64 (48 + (Int.tmod z4.1 10))))] (a6.add (z4.2.1.toNat * 1)) 0 w5 fun w7 =>
nzK 10 (
self3 (IntKind.wrap .i64 (Int.tdiv z4.1 10), IntKind.wrap .i64 (z4.2.1 - 1), ()) w7))) (
bsK Tryz.prog (.slice y1.1 y1.2.1 y1.2.2) w5 fun s8 w9 =>
R ((s8, ()), ()) w9)) (n, IntKind.wrap .i64 (size - 1), ()) w2
set_option maxRecDepth 100000 in
theorem civil_digits.eq (n : Int) (size : Int) (w : World) (R : Value → World → Prop) : wpF Tryz.prog Tryz.f52 (.s .n (.s .n (.s (.s .n (.lp [(0, (.i .i64)), (6, (.i .i64))] .n)) .n))) [.int .i64 n, .int .i64 size] w R = civil_digits.wp n size w (fun r w => R (encR false [(false, [.s])] r) w) := by kernel_rfl
set_option maxRecDepth 100000 in
theorem civil_digits.ok {n : Int} {size : Int} {w : World} {R : TR [(false, [.s])] → World → Prop} (h : civil_digits.wp n size w R) : clS Tryz.prog F.civil_digits [.int .i64 n, .int .i64 size] w false [(false, [.s])] R :=
  ok_of Tryz_follows Tryz.func52 (fun R => civil_digits.wp n size w R) (civil_digits.eq n size w) rfl h
/-! ### ref20_Days -/
set_option maxRecDepth 100000 in
def ref20_Days.wp (year : Int) (month : Int) (w : World) (R : TR [(false, [(.i .i64)])] → World → Prop) : Prop :=
CutT (fun (J1 : ((Bool) × Unit) → World → Prop) =>
brB (month == 4) (
J1 ((month == 4), ()) w) (
brB (month == 6) (
J1 ((month == 6), ()) w) (
brB (month == 9) (
J1 ((month == 9), ()) w) (
J1 ((month == 11), ()) w)))) (fun (z2 : (Bool) × Unit) w3 => ∀ _ : Nat → Value,
brB z2.1 (
R ((30, ()), ()) w3) (
brB (month == 2) (
clS Tryz.prog F.ref20_Long [.int .i64 year] w3 false [(false, [.b])] fun r4 w5 =>
brB r4.1.1 (
R ((29, ()), ()) w5) (
R ((28, ()), ()) w5)) (
R ((31, ()), ()) w3)))
set_option maxRecDepth 100000 in
theorem ref20_Days.eq (year : Int) (month : Int) (w : World) (R : Value → World → Prop) : wpF Tryz.prog Tryz.f54 (.s .n (.s (.s .n (.ct [(6, .b)] .n .n)) .n)) [.int .i64 year, .int .i64 month] w R = ref20_Days.wp year month w (fun r w => R (encR false [(false, [(.i .i64)])] r) w) := by kernel_rfl
set_option maxRecDepth 100000 in
theorem ref20_Days.ok {year : Int} {month : Int} {w : World} {R : TR [(false, [(.i .i64)])] → World → Prop} (h : ref20_Days.wp year month w R) : clS Tryz.prog F.ref20_Days [.int .i64 year, .int .i64 month] w false [(false, [(.i .i64)])] R :=
  ok_of Tryz_follows Tryz.func54 (fun R => ref20_Days.wp year month w R) (ref20_Days.eq year month w) rfl h
/-! ### ref20_Good -/
set_option maxRecDepth 100000 in
def ref20_Good.wp (d0 : Int) (d1 : Int) (d2 : Int) (w : World) (R : TR [(false, [.b])] → World → Prop) : Prop :=
alK [.int .i64 d0, .int .i64 d1, .int .i64 d2] T.ref20_Date w fun p1 w2 =>
drK w2 fun w3 =>
ld1 (.i .i64) p1 w3 fun x4 =>
brB (decide (x4 ≥ 1)) (
ld1 (.i .i64) p1 w3 fun x5 =>
brB (decide (x5 ≤ 9999)) (
ld1 (.i .i64) (p1.add 1) w3 fun x6 =>
brB (decide (x6 ≥ 1)) (
ld1 (.i .i64) (p1.add 1) w3 fun x7 =>
brB (decide (x7 ≤ 12)) (
ld1 (.i .i64) (p1.add 2) w3 fun x8 =>
brB (decide (x8 ≥ 1)) (
ld1 (.i .i64) (p1.add 2) w3 fun x9 =>
ld1 (.i .i64) p1 w3 fun x10 =>
ld1 (.i .i64) (p1.add 1) w3 fun x11 =>
clS Tryz.prog F.ref20_Days [.int .i64 x10, .int .i64 x11] w3 false [(false, [(.i .i64)])] fun r12 w13 =>
Hold [(25, (p1.add 2), (w3.cell? (p1.add 2)).getD undef), (20, (p1.add 2), (w3.cell? (p1.add 2)).getD undef), (15, (p1.add 1), (w3.cell? (p1.add 1)).getD undef), (10, (p1.add 1), (w3.cell? (p1.add 1)).getD undef), (5, p1, (w3.cell? p1).getD undef), (1, p1, (w3.cell? p1).getD undef)] w13 ∧ (
R ((decide (x9 ≤ r12.1.1), ()), ()) w13)) (
R ((false, ()), ()) w3)) (
R ((false, ()), ()) w3)) (
R ((false, ()), ()) w3)) (
R ((false, ()), ()) w3)) (
R ((false, ()), ()) w3)
set_option maxRecDepth 100000 in
theorem ref20_Good.eq (d0 : Int) (d1 : Int) (d2 : Int) (w : World) (R : Value → World → Prop) : wpF Tryz.prog Tryz.f55 (.s .n (.s (.pl (.tk 0 (.tk 1 (.tk 2 (.tk 3 (.tk 4 (.tk 5 (.tk 6 (.tk 7 (.tk 8 (.tk 9 (.tk 10 (.tk 11 (.tk 12 (.tk 13 (.tk 14 (.tk 15 (.tk 16 (.tk 17 (.tk 18 (.tk 19 (.tk 20 (.tk 21 (.tk 22 (.tk 23 (.tk 24 (.tk 25 (.tk 26 (.tk 27 (.tk 28 (.tk 29 (.ef 30 [27, 29] (.tk 31 (.tk 32 (.tk 33 .z))))))))))))))))))))))))))))))))))) .n)) [.agg #[.int .i64 d0, .int .i64 d1, .int .i64 d2]] w R = ref20_Good.wp d0 d1 d2 w (fun r w => R (encR false [(false, [.b])] r) w) := by kernel_rfl
set_option maxRecDepth 100000 in
theorem ref20_Good.ok {d0 : Int} {d1 : Int} {d2 : Int} {w : World} {R : TR [(false, [.b])] → World → Prop} (h : ref20_Good.wp d0 d1 d2 w R) : clS Tryz.prog F.ref20_Good [.agg #[.int .i64 d0, .int .i64 d1, .int .i64 d2]] w false [(false, [.b])] R :=
  ok_of Tryz_follows Tryz.func55 (fun R => ref20_Good.wp d0 d1 d2 w R) (ref20_Good.eq d0 d1 d2 w) rfl h
/-! ### ref20_two -/
set_option maxRecDepth 100000 in
def ref20_two.wp (n : Int) (size : Int) (w : World) (R : TR [(false, [.s])] → World → Prop) : Prop :=
LoopT (fun (self1 : ((Int) × (ByteArray) × (Int) × Unit) → World → Prop) (z2 : (Int) × (ByteArray) × (Int) × Unit) w3 => ∀ _ : Nat → Value,
brB (decide (z2.2.2.1 < size)) (
nzK 10 (
alK [.int .u8 (IntKind.wrap .u8 (IntKind.wrap .i64 (48 + (Int.tmod z2.1 10))))] T.uint8 w3 fun p4 w5 =>
bsK Tryz.prog (.slice (some p4) 1 1) w5 fun s6 w7 =>
saK s6 z2.2.1 (
nzK 10 (
self1 (IntKind.wrap .i64 (Int.tdiv z2.1 10), s6 ++ z2.2.1, IntKind.wrap .i64 (z2.2.2.1 + 1), ()) w7)))) (
R ((z2.2.1, ()), ()) w3)) (n, ⟨#[]⟩, 0, ()) w
set_option maxRecDepth 100000 in
theorem ref20_two.eq (n : Int) (size : Int) (w : World) (R : Value → World → Prop) : wpF Tryz.prog Tryz.f56 (.s .n (.s .n (.s (.s .n (.lp [(0, (.i .i64)), (5, .s), (6, (.i .i64))] .n)) .n))) [.int .i64 n, .int .i64 size] w R = ref20_two.wp n size w (fun r w => R (encR false [(false, [.s])] r) w) := by kernel_rfl
set_option maxRecDepth 100000 in
theorem ref20_two.ok {n : Int} {size : Int} {w : World} {R : TR [(false, [.s])] → World → Prop} (h : ref20_two.wp n size w R) : clS Tryz.prog F.ref20_two [.int .i64 n, .int .i64 size] w false [(false, [.s])] R :=
  ok_of Tryz_follows Tryz.func56 (fun R => ref20_two.wp n size w R) (ref20_two.eq n size w) rfl h
/-! ### leap_plain -/
set_option maxRecDepth 100000 in
def leap_plain.wp (s : ByteArray) (w : World) (R : TR [(false, [.b])] → World → Prop) : Prop :=
rgK s w fun it1 w2 =>
LoopT (fun (self3 : Unit → World → Prop) (z4 : Unit) w5 => ∀ _ : Nat → Value,
nxK it1 w5 (fun w6 =>
brB ((s.size : Int) == 1) (
R ((true, ()), ()) w6) (
brB ((s.size : Int) == 2) (
siK s 0 fun c10 =>
R (((c10 != 48), ()), ()) w6) (
R ((false, ()), ()) w6))) fun i8 c9 w7 =>
brB (decide (c9 < 48)) (
R ((false, ()), ()) w7) (
brB (decide (c9 > 57)) (
R ((false, ()), ()) w7) (
self3 (()) w7))) (()) w2
set_option maxRecDepth 100000 in
theorem leap_plain.eq (s : ByteArray) (w : World) (R : Value → World → Prop) : wpF Tryz.prog Tryz.f60 (.s .n (.s (.s .n (.lp [] .n)) .n)) [.string s] w R = leap_plain.wp s w (fun r w => R (encR false [(false, [.b])] r) w) := by kernel_rfl
set_option maxRecDepth 100000 in
theorem leap_plain.ok {s : ByteArray} {w : World} {R : TR [(false, [.b])] → World → Prop} (h : leap_plain.wp s w R) : clS Tryz.prog F.leap_plain [.string s] w false [(false, [.b])] R :=
  ok_of Tryz_follows Tryz.func60 (fun R => leap_plain.wp s w R) (leap_plain.eq s w) rfl h
/-! ### leap_reader_date -/
set_option maxRecDepth 100000 in
def leap_reader_date.wp (r : Option Addr) (s : ByteArray) (w : World) (R : TR [(false, [(.i .i64)])] → World → Prop) (Z : Value → World → Prop) : Prop :=
clS Tryz.prog F.civil_Parse [.string s] w true [(true, [(.i .i64), (.i .i64), (.i .i64)]), (false, [.b])] fun r1 w2 =>
alK [.int .i64 0, .int .i64 0, .int .i64 0] T.civil_Date w2 fun p3 w4 =>
stN [.int .i64 r1.1.1, .int .i64 r1.1.2.1, .int .i64 r1.1.2.2.1] p3 0 w4 fun w5 =>
CutT (fun (J6 : Unit → World → Prop) =>
brB (!r1.2.1.1) (
clE Tryz.prog F.leap_reader_fail [.pointer r, .int .i64 3] w5 true [] (fun r9 w10 =>
J6 (()) w10) (fun (v11 : Value) w12 =>
Z v11 w12)) (
J6 (()) w5)) (fun (z7 : Unit) w8 => ∀ _ : Nat → Value,
ldN [(.i .i64), (.i .i64), (.i .i64)] p3 0 w8 fun x13 =>
clS Tryz.prog F.civil_Date_Number [.agg #[.int .i64 x13.1, .int .i64 x13.2.1, .int .i64 x13.2.2.1]] w8 true [(false, [(.i .i64)]), (false, [.b])] fun r14 w15 =>
R ((r14.1.1, ()), ()) w15)
set_option maxRecDepth 100000 in
theorem leap_reader_date.eq (r : Option Addr) (s : ByteArray) (w : World) (R : Value → World → Prop) (Z : Value → World → Prop) : wpFZ Tryz.prog Tryz.f61 (.s .n (.s .n (.ct [] (.s .n (.s .pz .n)) .n))) [.pointer r, .string s] w R Z = leap_reader_date.wp r s w (fun r w => R (encR false [(false, [(.i .i64)])] r) w) Z := by kernel_rfl
set_option maxRecDepth 100000 in
theorem leap_reader_date.ok {r : Option Addr} {s : ByteArray} {w : World} {R : TR [(false, [(.i .i64)])] → World → Prop} {Z : Value → World → Prop} (h : leap_reader_date.wp r s w R Z) : clE Tryz.prog F.leap_reader_date [.pointer r, .string s] w false [(false, [(.i .i64)])] R Z :=
  ok_ofZ Tryz_follows Tryz.func61 (fun R Z => leap_reader_date.wp r s w R Z) (leap_reader_date.eq r s w) rfl h
/-! ### civil_leap -/
set_option maxRecDepth 100000 in
def civil_leap.wp (year : Int) (w : World) (R : TR [(false, [.b])] → World → Prop) : Prop :=
nzK 4 (
brB ((Int.tmod year 4) == 0) (
nzK 100 (
brB ((Int.tmod year 100) != 0) (
R ((true, ()), ()) w) (
nzK 400 (
R ((((Int.tmod year 400) == 0), ()), ()) w)))) (
R ((false, ()), ()) w))
set_option maxRecDepth 100000 in
theorem civil_leap.eq (year : Int) (w : World) (R : Value → World → Prop) : wpF Tryz.prog Tryz.f63 .n [.int .i64 year] w R = civil_leap.wp year w (fun r w => R (encR false [(false, [.b])] r) w) := by kernel_rfl
set_option maxRecDepth 100000 in
theorem civil_leap.ok {year : Int} {w : World} {R : TR [(false, [.b])] → World → Prop} (h : civil_leap.wp year w R) : clS Tryz.prog F.civil_leap [.int .i64 year] w false [(false, [.b])] R :=
  ok_of Tryz_follows Tryz.func63 (fun R => civil_leap.wp year w R) (civil_leap.eq year w) rfl h
/-! ### civil_Parse -/
set_option maxRecDepth 100000 in
def civil_Parse.wp (s : ByteArray) (w : World) (R : TR [(true, [(.i .i64), (.i .i64), (.i .i64)]), (false, [.b])] → World → Prop) : Prop :=
alK [.int .i64 0, .int .i64 0, .int .i64 0] T.civil_Date w fun p1 w2 =>
alK [.int .i64 0, .int .i64 0, .int .i64 0] T.a3_int w2 fun p3 w4 =>
rgK s w4 fun it5 w6 =>
LoopT (fun (self7 : ((Int) × (Int) × Unit) → World → Prop) (z8 : (Int) × (Int) × Unit) w9 => ∀ _ : Nat → Value,
nxK it5 w9 (fun w10 =>
ixK (some p3) 3 0 fun a14 =>
ld1 (.i .i64) (a14.add ((0 : Int).toNat * 1)) w10 fun x15 =>
ixK (some p3) 3 1 fun a16 =>
ld1 (.i .i64) (a16.add ((1 : Int).toNat * 1)) w10 fun x17 =>
ixK (some p3) 3 2 fun a18 =>
ld1 (.i .i64) (a18.add ((2 : Int).toNat * 1)) w10 fun x19 =>
alK [.int .i64 0, .int .i64 0, .int .i64 0] T.civil_Date w10 fun p20 w21 =>
stN [.int .i64 x15, .int .i64 x17, .int .i64 x19] p20 0 w21 fun w22 =>
brB (z8.1 != 2) (
stN [.int .i64 0, .int .i64 0, .int .i64 0] p1 0 w22 fun w23 =>
ldN [(.i .i64), (.i .i64), (.i .i64)] p1 0 w23 fun x24 =>
R ((x24.1, x24.2.1, x24.2.2.1, ()), (false, ()), ()) w23) (
brB (z8.2.1 != 2) (
stN [.int .i64 0, .int .i64 0, .int .i64 0] p1 0 w22 fun w25 =>
ldN [(.i .i64), (.i .i64), (.i .i64)] p1 0 w25 fun x26 =>
R ((x26.1, x26.2.1, x26.2.2.1, ()), (false, ()), ()) w25) (
ldN [(.i .i64), (.i .i64), (.i .i64)] p20 0 w22 fun x27 =>
clS Tryz.prog F.civil_Date_Good [.agg #[.int .i64 x27.1, .int .i64 x27.2.1, .int .i64 x27.2.2.1]] w22 false [(false, [.b])] fun r28 w29 =>
brB (!r28.1.1) (
stN [.int .i64 0, .int .i64 0, .int .i64 0] p1 0 w29 fun w30 =>
ldN [(.i .i64), (.i .i64), (.i .i64)] p1 0 w30 fun x31 =>
R ((x31.1, x31.2.1, x31.2.2.1, ()), (false, ()), ()) w30) (
ldN [(.i .i64), (.i .i64), (.i .i64)] p20 0 w29 fun x32 =>
stN [.int .i64 x32.1, .int .i64 x32.2.1, .int .i64 x32.2.2.1] p1 0 w29 fun w33 =>
ldN [(.i .i64), (.i .i64), (.i .i64)] p1 0 w33 fun x34 =>
R ((x34.1, x34.2.1, x34.2.2.1, ()), (true, ()), ()) w33)))) fun i12 c13 w11 =>
CutT (fun (J35 : ((Bool) × Unit) → World → Prop) =>
brB (c13 == 45) (
brB (decide (z8.1 < 2)) (
J35 ((z8.2.1 == (IntKind.wrap .i64 (4 - (IntKind.wrap .i64 (2 * (if 1 < z8.1 then 1 else z8.1)))))), ()) w11) (
J35 (false, ()) w11)) (
J35 (false, ()) w11)) (fun (z36 : (Bool) × Unit) w37 => ∀ _ : Nat → Value,
brB z36.1 (
self7 (IntKind.wrap .i64 (z8.1 + 1), 0, ()) w37) (
CutT (fun (J38 : ((Bool) × Unit) → World → Prop) =>
brB (decide (c13 ≥ 48)) (
brB (decide (c13 ≤ 57)) (
J38 (decide (z8.2.1 < (IntKind.wrap .i64 (4 - (IntKind.wrap .i64 (2 * (if 1 < z8.1 then 1 else z8.1)))))), ()) w37) (
J38 (false, ()) w37)) (
J38 (false, ()) w37)) (fun (z39 : (Bool) × Unit) w40 => ∀ _ : Nat → Value,
brB z39.1 (
ixK (some p3) 3 z8.1 fun a41 =>
ld1 (.i .i64) (a41.add (z8.1.toNat * 1)) w40 fun x42 =>
ixK (some p3) 3 z8.1 fun a43 =>
stN [.int .i64 (IntKind.wrap .i64 ((IntKind.wrap .i64 (10 * x42)) + (IntKind.wrap .i64 (IntKind.wrap .i32 (c13 - 48)))))] (a43.add (z8.1.toNat * 1)) 0 w40 fun w44 =>
self7 (z8.1, IntKind.wrap .i64 (z8.2.1 + 1), ()) w44) (
stN [.int .i64 0, .int .i64 0, .int .i64 0] p1 0 w40 fun w45 =>
ldN [(.i .i64), (.i .i64), (.i .i64)] p1 0 w45 fun x46 =>
R ((x46.1, x46.2.1, x46.2.2.1, ()), (false, ()), ()) w45))))) (0, 0, ()) w6
set_option maxRecDepth 100000 in
theorem civil_Parse.eq (s : ByteArray) (w : World) (R : Value → World → Prop) : wpF Tryz.prog Tryz.f72 (.s .n (.s .n (.s .n (.s (.s .n (.lp [(5, (.i .i64)), (6, (.i .i64))] (.s .n (.s .n (.s .n (.ct [(16, .b)] .n (.s .n (.ct [(33, .b)] .n .n)))))))) .n)))) [.string s] w R = civil_Parse.wp s w (fun r w => R (encR true [(true, [(.i .i64), (.i .i64), (.i .i64)]), (false, [.b])] r) w) := by kernel_rfl
set_option maxRecDepth 100000 in
theorem civil_Parse.ok {s : ByteArray} {w : World} {R : TR [(true, [(.i .i64), (.i .i64), (.i .i64)]), (false, [.b])] → World → Prop} (h : civil_Parse.wp s w R) : clS Tryz.prog F.civil_Parse [.string s] w true [(true, [(.i .i64), (.i .i64), (.i .i64)]), (false, [.b])] R :=
  ok_of Tryz_follows Tryz.func72 (fun R => civil_Parse.wp s w R) (civil_Parse.eq s w) rfl h
/-! ### civil_Date_Number -/
set_option maxRecDepth 100000 in
def civil_Date_Number.wp (d0 : Int) (d1 : Int) (d2 : Int) (w : World) (R : TR [(false, [(.i .i64)]), (false, [.b])] → World → Prop) : Prop :=
alK [.int .i64 d0, .int .i64 d1, .int .i64 d2] T.civil_Date w fun p1 w2 =>
ldN [(.i .i64), (.i .i64), (.i .i64)] p1 0 w2 fun x3 =>
clS Tryz.prog F.civil_Date_Good [.agg #[.int .i64 x3.1, .int .i64 x3.2.1, .int .i64 x3.2.2.1]] w2 false [(false, [.b])] fun r4 w5 =>
brB (!r4.1.1) (
R ((0, ()), (false, ()), ()) w5) (
drK w5 fun w6 =>
ld1 (.i .i64) p1 w6 fun x7 =>
ld1 (.i .i64) (p1.add 2) w6 fun x8 =>
clS Tryz.prog F.civil_years [.int .i64 x7] w6 false [(false, [(.i .i64)])] fun r9 w10 =>
Hold [(5, (p1.add 2), (w6.cell? (p1.add 2)).getD undef)] w10 ∧ (
LoopT (fun (self11 : ((Int) × (Int) × Unit) → World → Prop) (z12 : (Int) × (Int) × Unit) w13 => ∀ _ : Nat → Value,
ld1 (.i .i64) (p1.add 1) w13 fun x14 =>
brB (decide (z12.2.1 < x14)) (
ld1 (.i .i64) p1 w13 fun x15 =>
clS Tryz.prog F.civil_month [.int .i64 x15, .int .i64 z12.2.1] w13 false [(false, [(.i .i64)])] fun r16 w17 =>
self11 (IntKind.wrap .i64 (z12.1 + r16.1.1), IntKind.wrap .i64 (z12.2.1 + 1), ()) w17) (
R ((z12.1, ()), (true, ()), ()) w13)) (IntKind.wrap .i64 ((IntKind.wrap .i64 ((IntKind.wrap .i64 ((Int.negSucc 719161) + r9.1.1)) + x8)) - 1), 1, ()) w10))
set_option maxRecDepth 100000 in
theorem civil_Date_Number.eq (d0 : Int) (d1 : Int) (d2 : Int) (w : World) (R : Value → World → Prop) : wpF Tryz.prog Tryz.f73 (.s .n (.s .n (.s (.pl (.tk 0 (.tk 1 (.tk 4 (.tk 5 (.ef 2 [1] (.tk 3 (.tk 6 (.tk 7 (.tk 8 .z)))))))))) (.s (.s .n (.lp [(4, (.i .i64)), (5, (.i .i64))] .n)) .n)))) [.agg #[.int .i64 d0, .int .i64 d1, .int .i64 d2]] w R = civil_Date_Number.wp d0 d1 d2 w (fun r w => R (encR true [(false, [(.i .i64)]), (false, [.b])] r) w) := by kernel_rfl
set_option maxRecDepth 100000 in
theorem civil_Date_Number.ok {d0 : Int} {d1 : Int} {d2 : Int} {w : World} {R : TR [(false, [(.i .i64)]), (false, [.b])] → World → Prop} (h : civil_Date_Number.wp d0 d1 d2 w R) : clS Tryz.prog F.civil_Date_Number [.agg #[.int .i64 d0, .int .i64 d1, .int .i64 d2]] w true [(false, [(.i .i64)]), (false, [.b])] R :=
  ok_of Tryz_follows Tryz.func73 (fun R => civil_Date_Number.wp d0 d1 d2 w R) (civil_Date_Number.eq d0 d1 d2 w) rfl h
end Go.Proofs.YtfbegkddkdenbaaGreatDoor
