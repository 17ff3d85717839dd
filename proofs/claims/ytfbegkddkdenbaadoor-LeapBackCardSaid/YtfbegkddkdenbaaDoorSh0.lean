import Derived.Test.YtfbegkddkdenbaaDoorNm
namespace Go.Proofs.YtfbegkddkdenbaaDoor
open Go.Eng
set_option linter.unusedVariables false
/-! ### law21_LeapSteps -/
set_option maxRecDepth 100000 in
def law21_LeapSteps.wp (m0 : Int) (m1 : Int) (m2 : Int) (m3 : Option Addr × Nat × Nat) (day : Int) (w : World) (R : TR [(false, [.b])] → World → Prop) : Prop :=
alK [.int .i64 m0, .int .i64 m1, .int .i64 m2, .slice m3.1 m3.2.1 m3.2.2] T.ref21_Table w fun p1 w2 =>
clS Tryd.prog F.law21_alive [] w2 false [(false, [.b])] fun r3 w4 =>
brB (!r3.1.1) (
R ((false, ()), ()) w4) (
ld1 .sl (p1.add 3) w4 fun x5 =>
brB (decide ((x5.2.1 : Int) > 64)) (
R ((true, ()), ()) w4) (
ldN [(.i .i64), (.i .i64), (.i .i64), .sl] p1 0 w4 fun x6 =>
clS Tryd.prog F.law21_made [.agg #[.int .i64 x6.1, .int .i64 x6.2.1, .int .i64 x6.2.2.1, .slice x6.2.2.2.1.1 x6.2.2.2.1.2.1 x6.2.2.2.1.2.2]] w4 true [(false, [.p]), (false, [(.i .i64)])] fun r7 w8 =>
brB (r7.2.1.1 != 0) (
R ((true, ()), ()) w8) (
ld1 (.i .i64) p1 w8 fun x9 =>
brB (decide (day < x9)) (
R ((true, ()), ()) w8) (
ld1 (.i .i64) (p1.add 2) w8 fun x10 =>
brB (decide (day ≥ (IntKind.wrap .i64 (x10 - 1)))) (
R ((true, ()), ()) w8) (
clS Tryd.prog F.leap_Table_Ahead [.pointer r7.1.1, .int .i64 day] w8 true [(false, [(.i .i64)]), (false, [.b])] fun r11 w12 =>
clS Tryd.prog F.leap_Table_Ahead [.pointer r7.1.1, .int .i64 (IntKind.wrap .i64 (day + 1))] w12 true [(false, [(.i .i64)]), (false, [.b])] fun r13 w14 =>
clS Tryd.prog F.leap_Table_Step [.pointer r7.1.1, .int .i64 day] w14 false [(false, [(.i .i64)])] fun r15 w16 =>
brB r11.2.1.1 (
brB r13.2.1.1 (
brB ((IntKind.wrap .i64 (r13.1.1 - r11.1.1)) == r15.1.1) (
brB (decide (r15.1.1 ≥ (Int.negSucc 0))) (
brB (decide (r15.1.1 ≤ 1)) (
ldN [(.i .i64), (.i .i64), (.i .i64), .sl] p1 0 w16 fun x17 =>
clS Tryd.prog F.ref21_Step [.agg #[.int .i64 x17.1, .int .i64 x17.2.1, .int .i64 x17.2.2.1, .slice x17.2.2.2.1.1 x17.2.2.2.1.2.1 x17.2.2.2.1.2.2], .int .i64 day] w16 false [(false, [(.i .i64)])] fun r18 w19 =>
R ((((r15.1.1 != 0) == (r18.1.1 != 0)), ()), ()) w19) (
R ((false, ()), ()) w16)) (
R ((false, ()), ()) w16)) (
R ((false, ()), ()) w16)) (
R ((false, ()), ()) w16)) (
R ((false, ()), ()) w16))))))
set_option maxRecDepth 100000 in
theorem law21_LeapSteps.eq (m0 : Int) (m1 : Int) (m2 : Int) (m3 : Option Addr × Nat × Nat) (day : Int) (w : World) (R : Value → World → Prop) : wpF Tryd.prog Tryd.f3 .n [.agg #[.int .i64 m0, .int .i64 m1, .int .i64 m2, .slice m3.1 m3.2.1 m3.2.2], .int .i64 day] w R = law21_LeapSteps.wp m0 m1 m2 m3 day w (fun r w => R (encR false [(false, [.b])] r) w) := by kernel_rfl
set_option maxRecDepth 100000 in
theorem law21_LeapSteps.ok {m0 : Int} {m1 : Int} {m2 : Int} {m3 : Option Addr × Nat × Nat} {day : Int} {w : World} {R : TR [(false, [.b])] → World → Prop} (h : law21_LeapSteps.wp m0 m1 m2 m3 day w R) : clS Tryd.prog F.law21_LeapSteps [.agg #[.int .i64 m0, .int .i64 m1, .int .i64 m2, .slice m3.1 m3.2.1 m3.2.2], .int .i64 day] w false [(false, [.b])] R :=
  ok_of Tryd_follows Tryd.func3 (fun R => law21_LeapSteps.wp m0 m1 m2 m3 day w R) (law21_LeapSteps.eq m0 m1 m2 m3 day w) rfl h
/-! ### law21_LeapReads -/
set_option maxRecDepth 100000 in
def law21_LeapReads.wp (s : ByteArray) (w : World) (R : TR [(false, [.b])] → World → Prop) : Prop :=
clS Tryd.prog F.law21_alive [] w false [(false, [.b])] fun r1 w2 =>
brB (!r1.1.1) (
R ((false, ()), ()) w2) (
brB (decide ((s.size : Int) > 32768)) (
R ((true, ()), ()) w2) (
clS Tryd.prog F.leap_Parse [.string s] w2 true [(false, [.p]), (false, [(.i .i64)]), (false, [(.i .i64)])] fun r3 w4 =>
clS Tryd.prog F.ref21_Parse [.string s] w4 true [(true, [(.i .i64), (.i .i64), (.i .i64), .sl]), (false, [(.i .i64)]), (false, [(.i .i64)])] fun r5 w6 =>
alK [.int .i64 0, .int .i64 0, .int .i64 0, .slice none 0 0] T.ref21_Table w6 fun p7 w8 =>
stN [.int .i64 r5.1.1, .int .i64 r5.1.2.1, .int .i64 r5.1.2.2.1, .slice r5.1.2.2.2.1.1 r5.1.2.2.2.1.2.1 r5.1.2.2.2.1.2.2] p7 0 w8 fun w9 =>
brB (r5.2.2.1.1 != 0) (
brB (Option.isNone r3.1.1) (
brB (r3.2.1.1 == r5.2.1.1) (
R (((r3.2.2.1.1 == r5.2.2.1.1), ()), ()) w9) (
R ((false, ()), ()) w9)) (
R ((false, ()), ()) w9)) (
drK w9 fun w10 =>
brB (r3.2.1.1 == 0) (
brB (r3.2.2.1.1 == 0) (
ldN [(.i .i64), (.i .i64), (.i .i64), .sl] p7 0 w10 fun x11 =>
clS Tryd.prog F.law21_same [.pointer r3.1.1, .agg #[.int .i64 x11.1, .int .i64 x11.2.1, .int .i64 x11.2.2.1, .slice x11.2.2.2.1.1 x11.2.2.2.1.2.1 x11.2.2.2.1.2.2]] w10 false [(false, [.b])] fun r12 w13 =>
Hold [(8, (p7.add 0), (w10.cell? (p7.add 0)).getD undef), (8, (p7.add 1), (w10.cell? (p7.add 1)).getD undef), (8, (p7.add 2), (w10.cell? (p7.add 2)).getD undef), (8, (p7.add 3), (w10.cell? (p7.add 3)).getD undef)] w13 ∧ (
brB r12.1.1 (
ldN [(.i .i64), (.i .i64), (.i .i64), .sl] p7 0 w13 fun x14 =>
clS Tryd.prog F.leap_Table_Text [.pointer r3.1.1] w13 false [(false, [.s])] fun r15 w16 =>
Hold [(14, (p7.add 0), (w13.cell? (p7.add 0)).getD undef), (14, (p7.add 1), (w13.cell? (p7.add 1)).getD undef), (14, (p7.add 2), (w13.cell? (p7.add 2)).getD undef), (14, (p7.add 3), (w13.cell? (p7.add 3)).getD undef), (8, (p7.add 0), (w10.cell? (p7.add 0)).getD undef), (8, (p7.add 1), (w10.cell? (p7.add 1)).getD undef), (8, (p7.add 2), (w10.cell? (p7.add 2)).getD undef), (8, (p7.add 3), (w10.cell? (p7.add 3)).getD undef)] w16 ∧ (
clS Tryd.prog F.ref21_Text [.agg #[.int .i64 x14.1, .int .i64 x14.2.1, .int .i64 x14.2.2.1, .slice x14.2.2.2.1.1 x14.2.2.2.1.2.1 x14.2.2.2.1.2.2]] w16 false [(false, [.s])] fun r17 w18 =>
Hold [(14, (p7.add 0), (w13.cell? (p7.add 0)).getD undef), (14, (p7.add 1), (w13.cell? (p7.add 1)).getD undef), (14, (p7.add 2), (w13.cell? (p7.add 2)).getD undef), (14, (p7.add 3), (w13.cell? (p7.add 3)).getD undef), (8, (p7.add 0), (w10.cell? (p7.add 0)).getD undef), (8, (p7.add 1), (w10.cell? (p7.add 1)).getD undef), (8, (p7.add 2), (w10.cell? (p7.add 2)).getD undef), (8, (p7.add 3), (w10.cell? (p7.add 3)).getD undef)] w18 ∧ (
brB (r15.1.1 == r17.1.1) (
ldN [(.i .i64), (.i .i64), (.i .i64), .sl] p7 0 w18 fun x19 =>
clS Tryd.prog F.ref21_Fault [.agg #[.int .i64 x19.1, .int .i64 x19.2.1, .int .i64 x19.2.2.1, .slice x19.2.2.2.1.1 x19.2.2.2.1.2.1 x19.2.2.2.1.2.2]] w18 false [(false, [(.i .i64)])] fun r20 w21 =>
Hold [(14, (p7.add 0), (w13.cell? (p7.add 0)).getD undef), (14, (p7.add 1), (w13.cell? (p7.add 1)).getD undef), (14, (p7.add 2), (w13.cell? (p7.add 2)).getD undef), (14, (p7.add 3), (w13.cell? (p7.add 3)).getD undef), (8, (p7.add 0), (w10.cell? (p7.add 0)).getD undef), (8, (p7.add 1), (w10.cell? (p7.add 1)).getD undef), (8, (p7.add 2), (w10.cell? (p7.add 2)).getD undef), (8, (p7.add 3), (w10.cell? (p7.add 3)).getD undef)] w21 ∧ (
R (((r20.1.1 == 0), ()), ()) w21)) (
R ((false, ()), ()) w18)))) (
R ((false, ()), ()) w13))) (
R ((false, ()), ()) w10)) (
R ((false, ()), ()) w10))))
set_option maxRecDepth 100000 in
theorem law21_LeapReads.eq (s : ByteArray) (w : World) (R : Value → World → Prop) : wpF Tryd.prog Tryd.f4 (.s .n (.s .n (.s .n (.s .n (.s .n (.s .n (.s (.pl (.tk 0 (.tk 1 (.tk 2 (.tk 3 (.tk 4 (.tk 5 (.tk 6 (.tk 7 (.tk 8 (.ef 9 [] (.tk 10 (.tk 11 (.tk 12 (.tk 14 (.ef 13 [] (.ef 15 [] (.tk 16 (.tk 17 (.tk 18 (.tk 19 (.ef 20 [19] (.tk 21 (.tk 22 (.tk 23 .z))))))))))))))))))))))))) .n))))))) [.string s] w R = law21_LeapReads.wp s w (fun r w => R (encR false [(false, [.b])] r) w) := by kernel_rfl
set_option maxRecDepth 100000 in
theorem law21_LeapReads.ok {s : ByteArray} {w : World} {R : TR [(false, [.b])] → World → Prop} (h : law21_LeapReads.wp s w R) : clS Tryd.prog F.law21_LeapReads [.string s] w false [(false, [.b])] R :=
  ok_of Tryd_follows Tryd.func4 (fun R => law21_LeapReads.wp s w R) (law21_LeapReads.eq s w) rfl h
/-! ### law21_LeapCuts -/
set_option maxRecDepth 100000 in
def law21_LeapCuts.wp (m0 : Int) (m1 : Int) (m2 : Int) (m3 : Option Addr × Nat × Nat) (at_ : Int) (w : World) (R : TR [(false, [.b])] → World → Prop) : Prop :=
alK [.int .i64 m0, .int .i64 m1, .int .i64 m2, .slice m3.1 m3.2.1 m3.2.2] T.ref21_Table w fun p1 w2 =>
clS Tryd.prog F.law21_alive [] w2 false [(false, [.b])] fun r3 w4 =>
brB (!r3.1.1) (
R ((false, ()), ()) w4) (
ld1 .sl (p1.add 3) w4 fun x5 =>
brB (decide ((x5.2.1 : Int) > 64)) (
R ((true, ()), ()) w4) (
ldN [(.i .i64), (.i .i64), (.i .i64), .sl] p1 0 w4 fun x6 =>
clS Tryd.prog F.law21_made [.agg #[.int .i64 x6.1, .int .i64 x6.2.1, .int .i64 x6.2.2.1, .slice x6.2.2.2.1.1 x6.2.2.2.1.2.1 x6.2.2.2.1.2.2]] w4 true [(false, [.p]), (false, [(.i .i64)])] fun r7 w8 =>
brB (r7.2.1.1 != 0) (
R (((Option.isNone r7.1.1), ()), ()) w8) (
clS Tryd.prog F.leap_Table_Text [.pointer r7.1.1] w8 false [(false, [.s])] fun r9 w10 =>
clS Tryd.prog F.ref21_Pieces [.string r9.1.1, .int .u8 10] w10 false [(false, [.sl])] fun r11 w12 =>
CutT (fun (J13 : ((Bool) × Unit) → World → Prop) =>
ld1 .sl (p1.add 3) w12 fun x16 =>
brB ((IntKind.wrap .i64 ((r11.1.1.2.1 : Int) - 1)) != (IntKind.wrap .i64 ((x16.2.1 : Int) + 2))) (
J13 (true, ()) w12) (
brB (decide (at_ < 0)) (
J13 (true, ()) w12) (
J13 (decide (at_ ≥ (IntKind.wrap .i64 ((r11.1.1.2.1 : Int) - 1))), ()) w12))) (fun (z14 : (Bool) × Unit) w15 => ∀ _ : Nat → Value,
brB z14.1 (
ld1 .sl (p1.add 3) w15 fun x17 =>
R ((((IntKind.wrap .i64 ((r11.1.1.2.1 : Int) - 1)) == (IntKind.wrap .i64 ((x17.2.1 : Int) + 2))), ()), ()) w15) (
LoopT (fun (self18 : ((ByteArray) × (ByteArray) × (Int) × Unit) → World → Prop) (z19 : (ByteArray) × (ByteArray) × (Int) × Unit) w20 => ∀ _ : Nat → Value,
brB (decide (z19.2.2.1 < (IntKind.wrap .i64 ((r11.1.1.2.1 : Int) - 1)))) (
CutT (fun (J21 : ((ByteArray) × Unit) → World → Prop) =>
brB (decide (z19.2.2.1 < (IntKind.wrap .i64 ((IntKind.wrap .i64 ((r11.1.1.2.1 : Int) - 1)) - 1)))) (
ixK r11.1.1.1 r11.1.1.2.1 z19.2.2.1 fun a24 =>
ld1 .s (a24.add (z19.2.2.1.toNat * 1)) w20 fun x25 =>
saK z19.1 x25 (
saK (z19.1 ++ x25) ⟨#[10]⟩ (
J21 ((z19.1 ++ x25) ++ ⟨#[10]⟩, ()) w20))) (
J21 (z19.1, ()) w20)) (fun (z22 : (ByteArray) × Unit) w23 => ∀ _ : Nat → Value,
ixK r11.1.1.1 r11.1.1.2.1 z19.2.2.1 fun a26 =>
ld1 .s (a26.add (z19.2.2.1.toNat * 1)) w23 fun x27 =>
saK z19.2.1 x27 (
saK (z19.2.1 ++ x27) ⟨#[10]⟩ (
brB (z19.2.2.1 == at_) (
ixK r11.1.1.1 r11.1.1.2.1 z19.2.2.1 fun a28 =>
ld1 .s (a28.add (z19.2.2.1.toNat * 1)) w23 fun x29 =>
saK ((z19.2.1 ++ x27) ++ ⟨#[10]⟩) x29 (
saK (((z19.2.1 ++ x27) ++ ⟨#[10]⟩) ++ x29) ⟨#[10]⟩ (
self18 (z22.1, (((z19.2.1 ++ x27) ++ ⟨#[10]⟩) ++ x29) ++ ⟨#[10]⟩, IntKind.wrap .i64 (z19.2.2.1 + 1), ()) w23))) (
self18 (z22.1, (z19.2.1 ++ x27) ++ ⟨#[10]⟩, IntKind.wrap .i64 (z19.2.2.1 + 1), ()) w23))))) (
clS Tryd.prog F.leap_Parse [.string z19.1] w20 true [(false, [.p]), (false, [(.i .i64)]), (false, [(.i .i64)])] fun r30 w31 =>
clS Tryd.prog F.leap_Parse [.string z19.2.1] w31 true [(false, [.p]), (false, [(.i .i64)]), (false, [(.i .i64)])] fun r32 w33 =>
brB (Option.isNone r30.1.1) (
brB (r30.2.2.1.1 == 3) (
brB (r30.2.1.1 == (IntKind.wrap .i64 ((r11.1.1.2.1 : Int) - 1))) (
brB (Option.isNone r32.1.1) (
brB (r32.2.1.1 == (IntKind.wrap .i64 (at_ + 2))) (
brB (r32.2.2.1.1 == 3) (
R ((true, ()), ()) w33) (
brB (r32.2.2.1.1 == 12) (
R ((true, ()), ()) w33) (
R (((r32.2.2.1.1 == 6), ()), ()) w33))) (
R ((false, ()), ()) w33)) (
R ((false, ()), ()) w33)) (
R ((false, ()), ()) w33)) (
R ((false, ()), ()) w33)) (
R ((false, ()), ()) w33))) (⟨#[]⟩, ⟨#[]⟩, 0, ()) w15)))))
set_option maxRecDepth 100000 in
theorem law21_LeapCuts.eq (m0 : Int) (m1 : Int) (m2 : Int) (m3 : Option Addr × Nat × Nat) (at_ : Int) (w : World) (R : Value → World → Prop) : wpF Tryd.prog Tryd.f5 (.s .n (.s .n (.s .n (.s .n (.s .n (.s .n (.s .n (.s (.ct [(53, .b)] .n .n) (.s .n (.s (.s .n (.lp [(9, .s), (10, .s), (11, (.i .i64))] (.s .n (.s (.ct [(9, .s)] .n .n) .n)))) .n)))))))))) [.agg #[.int .i64 m0, .int .i64 m1, .int .i64 m2, .slice m3.1 m3.2.1 m3.2.2], .int .i64 at_] w R = law21_LeapCuts.wp m0 m1 m2 m3 at_ w (fun r w => R (encR false [(false, [.b])] r) w) := by kernel_rfl
set_option maxRecDepth 100000 in
theorem law21_LeapCuts.ok {m0 : Int} {m1 : Int} {m2 : Int} {m3 : Option Addr × Nat × Nat} {at_ : Int} {w : World} {R : TR [(false, [.b])] → World → Prop} (h : law21_LeapCuts.wp m0 m1 m2 m3 at_ w R) : clS Tryd.prog F.law21_LeapCuts [.agg #[.int .i64 m0, .int .i64 m1, .int .i64 m2, .slice m3.1 m3.2.1 m3.2.2], .int .i64 at_] w false [(false, [.b])] R :=
  ok_of Tryd_follows Tryd.func5 (fun R => law21_LeapCuts.wp m0 m1 m2 m3 at_ w R) (law21_LeapCuts.eq m0 m1 m2 m3 at_ w) rfl h
/-! ### law21_LeapBack -/
set_option maxRecDepth 100000 in
def law21_LeapBack.wp (m0 : Int) (m1 : Int) (m2 : Int) (m3 : Option Addr × Nat × Nat) (at_ : Int) (w : World) (R : TR [(false, [.b])] → World → Prop) : Prop :=
alK [.int .i64 m0, .int .i64 m1, .int .i64 m2, .slice m3.1 m3.2.1 m3.2.2] T.ref21_Table w fun p1 w2 =>
clS Tryd.prog F.law21_alive [] w2 false [(false, [.b])] fun r3 w4 =>
brB (!r3.1.1) (
R ((false, ()), ()) w4) (
ld1 .sl (p1.add 3) w4 fun x5 =>
brB (decide ((x5.2.1 : Int) > 64)) (
R ((true, ()), ()) w4) (
ldN [(.i .i64), (.i .i64), (.i .i64), .sl] p1 0 w4 fun x6 =>
clS Tryd.prog F.law21_made [.agg #[.int .i64 x6.1, .int .i64 x6.2.1, .int .i64 x6.2.2.1, .slice x6.2.2.2.1.1 x6.2.2.2.1.2.1 x6.2.2.2.1.2.2]] w4 true [(false, [.p]), (false, [(.i .i64)])] fun r7 w8 =>
brB (r7.2.1.1 != 0) (
R (((Option.isNone r7.1.1), ()), ()) w8) (
clS Tryd.prog F.leap_Table_Text [.pointer r7.1.1] w8 false [(false, [.s])] fun r9 w10 =>
clS Tryd.prog F.leap_Parse [.string r9.1.1] w10 true [(false, [.p]), (false, [(.i .i64)]), (false, [(.i .i64)])] fun r11 w12 =>
clS Tryd.prog F.ref21_Pieces [.string r9.1.1, .int .u8 10] w12 false [(false, [.sl])] fun r13 w14 =>
LoopT (fun (self15 : ((ByteArray) × (Int) × Unit) → World → Prop) (z16 : (ByteArray) × (Int) × Unit) w17 => ∀ _ : Nat → Value,
brB (decide (z16.2.1 < (r13.1.1.2.1 : Int))) (
ixK r13.1.1.1 r13.1.1.2.1 z16.2.1 fun a18 =>
ld1 .s (a18.add (z16.2.1.toNat * 1)) w17 fun x19 =>
brB (z16.2.1 == at_) (
saK z16.1 ⟨#[10, 35, 32, 97, 32, 119, 111, 114, 100, 10]⟩ (
saK (z16.1 ++ ⟨#[10, 35, 32, 97, 32, 119, 111, 114, 100, 10]⟩) x19 (
saK ((z16.1 ++ ⟨#[10, 35, 32, 97, 32, 119, 111, 114, 100, 10]⟩) ++ x19) ⟨#[10]⟩ (
self15 (((z16.1 ++ ⟨#[10, 35, 32, 97, 32, 119, 111, 114, 100, 10]⟩) ++ x19) ++ ⟨#[10]⟩, IntKind.wrap .i64 (z16.2.1 + 1), ()) w17)))) (
saK z16.1 x19 (
saK (z16.1 ++ x19) ⟨#[10]⟩ (
self15 ((z16.1 ++ x19) ++ ⟨#[10]⟩, IntKind.wrap .i64 (z16.2.1 + 1), ()) w17)))) (
clS Tryd.prog F.leap_Parse [.string z16.1] w17 true [(false, [.p]), (false, [(.i .i64)]), (false, [(.i .i64)])] fun r20 w21 =>
brB (r11.2.2.1.1 == 0) (
brB (r20.2.2.1.1 == 0) (
ldN [(.i .i64), (.i .i64), (.i .i64), .sl] p1 0 w21 fun x22 =>
clS Tryd.prog F.law21_same [.pointer r11.1.1, .agg #[.int .i64 x22.1, .int .i64 x22.2.1, .int .i64 x22.2.2.1, .slice x22.2.2.2.1.1 x22.2.2.2.1.2.1 x22.2.2.2.1.2.2]] w21 false [(false, [.b])] fun r23 w24 =>
brB r23.1.1 (
ldN [(.i .i64), (.i .i64), (.i .i64), .sl] p1 0 w24 fun x25 =>
clS Tryd.prog F.law21_same [.pointer r20.1.1, .agg #[.int .i64 x25.1, .int .i64 x25.2.1, .int .i64 x25.2.2.1, .slice x25.2.2.2.1.1 x25.2.2.2.1.2.1 x25.2.2.2.1.2.2]] w24 false [(false, [.b])] fun r26 w27 =>
brB r26.1.1 (
clS Tryd.prog F.leap_Table_Text [.pointer r11.1.1] w27 false [(false, [.s])] fun r28 w29 =>
brB (r28.1.1 == r9.1.1) (
clS Tryd.prog F.leap_Table_Text [.pointer r20.1.1] w29 false [(false, [.s])] fun r30 w31 =>
R (((r30.1.1 == r9.1.1), ()), ()) w31) (
R ((false, ()), ()) w29)) (
R ((false, ()), ()) w27)) (
R ((false, ()), ()) w24)) (
R ((false, ()), ()) w21)) (
R ((false, ()), ()) w21))) (⟨#[]⟩, 0, ()) w14)))
set_option maxRecDepth 100000 in
theorem law21_LeapBack.eq (m0 : Int) (m1 : Int) (m2 : Int) (m3 : Option Addr × Nat × Nat) (at_ : Int) (w : World) (R : Value → World → Prop) : wpF Tryd.prog Tryd.f6 (.s .n (.s .n (.s .n (.s .n (.s .n (.s .n (.s .n (.s .n (.s .n (.s (.s .n (.lp [(12, .s), (45, (.i .i64))] .n)) .n)))))))))) [.agg #[.int .i64 m0, .int .i64 m1, .int .i64 m2, .slice m3.1 m3.2.1 m3.2.2], .int .i64 at_] w R = law21_LeapBack.wp m0 m1 m2 m3 at_ w (fun r w => R (encR false [(false, [.b])] r) w) := by kernel_rfl
set_option maxRecDepth 100000 in
theorem law21_LeapBack.ok {m0 : Int} {m1 : Int} {m2 : Int} {m3 : Option Addr × Nat × Nat} {at_ : Int} {w : World} {R : TR [(false, [.b])] → World → Prop} (h : law21_LeapBack.wp m0 m1 m2 m3 at_ w R) : clS Tryd.prog F.law21_LeapBack [.agg #[.int .i64 m0, .int .i64 m1, .int .i64 m2, .slice m3.1 m3.2.1 m3.2.2], .int .i64 at_] w false [(false, [.b])] R :=
  ok_of Tryd_follows Tryd.func6 (fun R => law21_LeapBack.wp m0 m1 m2 m3 at_ w R) (law21_LeapBack.eq m0 m1 m2 m3 at_ w) rfl h
/-! ### law21_alive -/
set_option maxRecDepth 100000 in
def law21_alive.wp  (w : World) (R : TR [(false, [.b])] → World → Prop) : Prop :=
clS Tryd.prog F.leap_Parse [.string ⟨#[115, 116, 97, 114, 116, 32, 49, 57, 55, 50, 45, 48, 49, 45, 48, 49, 32, 49, 48, 10, 108, 101, 97, 112, 32, 49, 57, 55, 50, 45, 48, 54, 45, 51, 48, 32, 43, 49, 10, 101, 110, 100, 32, 49, 57, 55, 51, 45, 48, 49, 45, 48, 49]⟩] w true [(false, [.p]), (false, [(.i .i64)]), (false, [(.i .i64)])] fun r1 w2 =>
clS Tryd.prog F.leap_Table_Ahead [.pointer r1.1.1, .int .i64 912] w2 true [(false, [(.i .i64)]), (false, [.b])] fun r3 w4 =>
clS Tryd.prog F.leap_Table_Ahead [.pointer r1.1.1, .int .i64 911] w4 true [(false, [(.i .i64)]), (false, [.b])] fun r5 w6 =>
brB (r1.2.1.1 == 0) (
brB (r1.2.2.1.1 == 0) (
brB (r3.1.1 == 11) (
brB r3.2.1.1 (
brB (r5.1.1 == 10) (
brB r5.2.1.1 (
clS Tryd.prog F.leap_Table_Step [.pointer r1.1.1, .int .i64 911] w6 false [(false, [(.i .i64)])] fun r7 w8 =>
R (((r7.1.1 == 1), ()), ()) w8) (
R ((false, ()), ()) w6)) (
R ((false, ()), ()) w6)) (
R ((false, ()), ()) w6)) (
R ((false, ()), ()) w6)) (
R ((false, ()), ()) w6)) (
R ((false, ()), ()) w6)
set_option maxRecDepth 100000 in
theorem law21_alive.eq  (w : World) (R : Value → World → Prop) : wpF Tryd.prog Tryd.f7 .n [] w R = law21_alive.wp  w (fun r w => R (encR false [(false, [.b])] r) w) := by kernel_rfl
set_option maxRecDepth 100000 in
theorem law21_alive.ok  {w : World} {R : TR [(false, [.b])] → World → Prop} (h : law21_alive.wp  w R) : clS Tryd.prog F.law21_alive [] w false [(false, [.b])] R :=
  ok_of Tryd_follows Tryd.func7 (fun R => law21_alive.wp  w R) (law21_alive.eq  w) rfl h
/-! ### law21_made -/
set_option maxRecDepth 100000 in
def law21_made.wp (m0 : Int) (m1 : Int) (m2 : Int) (m3 : Option Addr × Nat × Nat) (w : World) (R : TR [(false, [.p]), (false, [(.i .i64)])] → World → Prop) : Prop :=
alK [.int .i64 m0, .int .i64 m1, .int .i64 m2, .slice m3.1 m3.2.1 m3.2.2] T.ref21_Table w fun p1 w2 =>
ld1 .sl (p1.add 3) w2 fun x3 =>
LoopT (fun (self4 : ((Option Addr × Nat × Nat) × (Int) × Unit) → World → Prop) (z5 : (Option Addr × Nat × Nat) × (Int) × Unit) w6 => ∀ _ : Nat → Value,
brB (decide (z5.2.1 < (x3.2.1 : Int))) (
ixK x3.1 x3.2.1 z5.2.1 fun a7 =>
ldN [(.i .i64), (.i .i64)] (a7.add (z5.2.1.toNat * 2)) 0 w6 fun x8 =>
alK [.int .i64 0, .int .i64 0] T.ref21_Leap w6 fun p9 w10 =>
stN [.int .i64 x8.1, .int .i64 x8.2.1] p9 0 w10 fun w11 =>
ldN [(.i .i64), (.i .i64)] p9 0 w11 fun x12 =>
alK [.int .i64 x12.1, .int .i64 x12.2.1] T.leap_Leap w11 fun p13 w14 =>
slOf ((Builtin.append_ #[T.sl_leap_Leap, T.sl_leap_Leap] T.sl_leap_Leap #[.slice z5.1.1 z5.1.2.1 z5.1.2.2, .slice (some p13) 1 1]).run Tryd.prog w14) fun y15 w16 =>
self4 ((y15.1, y15.2.1, y15.2.2), IntKind.wrap .i64 (z5.2.1 + 1), ()) w16) (
ld1 (.i .i64) p1 w6 fun x17 =>
ld1 (.i .i64) (p1.add 1) w6 fun x18 =>
ld1 (.i .i64) (p1.add 2) w6 fun x19 =>
clS Tryd.prog F.leap_Make [.int .i64 x17, .int .i64 x18, .int .i64 x19, .slice z5.1.1 z5.1.2.1 z5.1.2.2] w6 true [(false, [.p]), (false, [(.i .i64)])] fun r20 w21 =>
R ((r20.1.1, ()), (r20.2.1.1, ()), ()) w21)) ((none, 0, 0), 0, ()) w2
set_option maxRecDepth 100000 in
theorem law21_made.eq (m0 : Int) (m1 : Int) (m2 : Int) (m3 : Option Addr × Nat × Nat) (w : World) (R : Value → World → Prop) : wpF Tryd.prog Tryd.f8 (.s .n (.s .n (.s (.s .n (.lp [(4, .sl), (10, (.i .i64))] .n)) .n))) [.agg #[.int .i64 m0, .int .i64 m1, .int .i64 m2, .slice m3.1 m3.2.1 m3.2.2]] w R = law21_made.wp m0 m1 m2 m3 w (fun r w => R (encR true [(false, [.p]), (false, [(.i .i64)])] r) w) := by kernel_rfl
set_option maxRecDepth 100000 in
theorem law21_made.ok {m0 : Int} {m1 : Int} {m2 : Int} {m3 : Option Addr × Nat × Nat} {w : World} {R : TR [(false, [.p]), (false, [(.i .i64)])] → World → Prop} (h : law21_made.wp m0 m1 m2 m3 w R) : clS Tryd.prog F.law21_made [.agg #[.int .i64 m0, .int .i64 m1, .int .i64 m2, .slice m3.1 m3.2.1 m3.2.2]] w true [(false, [.p]), (false, [(.i .i64)])] R :=
  ok_of Tryd_follows Tryd.func8 (fun R => law21_made.wp m0 m1 m2 m3 w R) (law21_made.eq m0 m1 m2 m3 w) rfl h
/-! ### leap_Table_Ahead -/
set_option maxRecDepth 100000 in
def leap_Table_Ahead.wp (t : Option Addr) (day : Int) (w : World) (R : TR [(false, [(.i .i64)]), (false, [.b])] → World → Prop) : Prop :=
alK [.int .i64 day] T.int w fun p1 w2 =>
drK w2 fun w3 =>
brB (Option.isNone t) (
R ((0, ()), (false, ()), ()) w3) (
ld1 (.i .i64) p1 w3 fun x4 =>
ncK t fun a5 =>
ld1 (.i .i64) a5 w3 fun x6 =>
brB (decide (x4 < x6)) (
R ((0, ()), (false, ()), ()) w3) (
ld1 (.i .i64) p1 w3 fun x7 =>
ncK t fun a8 =>
ld1 (.i .i64) (a8.add 2) w3 fun x9 =>
brB (decide (x7 ≥ x9)) (
R ((0, ()), (false, ()), ()) w3) (
ncK t fun a10 =>
ld1 (.i .i64) (a10.add 1) w3 fun x11 =>
alK [.int .i64 0] T.int w3 fun p12 w13 =>
stN [.int .i64 x11] p12 0 w13 fun w14 =>
clS Tryd.prog F.leap_Table_All [.pointer t] w14 false [(false, [.any])] fun r15 w16 =>
RfT Tryd.prog r15.1.1 [(true, [(.i .i64), (.i .i64)])] w16 (fun x17 k18 w19 =>
alK [.int .i64 0, .int .i64 0] T.leap_Leap w19 fun p25 w26 =>
stN [.int .i64 x17.1.1, .int .i64 x17.1.2.1] p25 0 w26 fun w27 =>
k18 w27 fun go20 lv21 w22 =>
ld1 (.i .i64) p25 w22 fun x28 =>
ld1 (.i .i64) p1 w22 fun x29 =>
brB (decide (x28 < x29)) (
ld1 (.i .i64) p12 w22 fun x30 =>
ld1 (.i .i64) (p25.add 1) w22 fun x31 =>
stN [.int .i64 (IntKind.wrap .i64 (x30 + x31))] p12 0 w22 fun w32 =>
go20 w32) (
go20 w22)) (fun D23 w24 =>
ld1 (.i .i64) p12 w24 fun x33 =>
tkK D23 w24 fun w34 =>
R ((x33, ()), (true, ()), ()) w34) [])))
set_option maxRecDepth 100000 in
theorem leap_Table_Ahead.eq (t : Option Addr) (day : Int) (w : World) (R : Value → World → Prop) : wpF Tryd.prog Tryd.f9 (.s .n (.s (.s (.pl (.tk 0 (.tk 1 (.tk 2 (.tk 3 (.tk 4 (.tk 5 (.tk 6 (.tk 7 (.tk 8 (.tk 9 (.tk 10 (.tk 11 (.tk 12 (.tk 13 (.tk 14 (.tk 15 (.tk 16 (.tk 17 .z))))))))))))))))))) .n) (.s .n (.s (.s .n (.rf [(true, [(.i .i64), (.i .i64)])] .n .n)) .n)))) [.pointer t, .int .i64 day] w R = leap_Table_Ahead.wp t day w (fun r w => R (encR true [(false, [(.i .i64)]), (false, [.b])] r) w) := by kernel_rfl
set_option maxRecDepth 100000 in
theorem leap_Table_Ahead.ok {t : Option Addr} {day : Int} {w : World} {R : TR [(false, [(.i .i64)]), (false, [.b])] → World → Prop} (h : leap_Table_Ahead.wp t day w R) : clS Tryd.prog F.leap_Table_Ahead [.pointer t, .int .i64 day] w true [(false, [(.i .i64)]), (false, [.b])] R :=
  ok_of Tryd_follows Tryd.func9 (fun R => leap_Table_Ahead.wp t day w R) (leap_Table_Ahead.eq t day w) rfl h
/-! ### leap_Table_Step -/
set_option maxRecDepth 100000 in
def leap_Table_Step.wp (t : Option Addr) (day : Int) (w : World) (R : TR [(false, [(.i .i64)])] → World → Prop) : Prop :=
alK [.pointer t] T.p_leap_Table w fun p1 w2 =>
alK [.int .i64 day] T.int w2 fun p3 w4 =>
ld1 .p p1 w4 fun x5 =>
brB (Option.isNone x5) (
R ((0, ()), ()) w4) (
ld1 .p p1 w4 fun x6 =>
ncK x6 fun a7 =>
ld1 .sl (a7.add 3) w4 fun x8 =>
clS Tryd.prog F.sort_Search [.int .i64 (x8.2.1 : Int), .func (.func F.leap_Table_Step_1) #[] #[.pointer (some p1), .pointer (some p3)]] w4 false [(false, [(.i .i64)])] fun r9 w10 =>
CutT (fun (J11 : ((Bool) × Unit) → World → Prop) =>
drK w10 fun w14 =>
ld1 .p p1 w14 fun x15 =>
ncK x15 fun a16 =>
ld1 .sl (a16.add 3) w14 fun x17 =>
brB (decide (r9.1.1 < (x17.2.1 : Int))) (
ld1 .p p1 w14 fun x18 =>
ncK x18 fun a19 =>
ld1 .sl (a19.add 3) w14 fun x20 =>
ixK x20.1 x20.2.1 r9.1.1 fun a21 =>
ld1 (.i .i64) (a21.add (r9.1.1.toNat * 2)) w14 fun x22 =>
ld1 (.i .i64) p3 w14 fun x23 =>
J11 ((x22 == x23), ()) w14) (
J11 (false, ()) w14)) (fun (z12 : (Bool) × Unit) w13 => ∀ _ : Nat → Value,
brB z12.1 (
ld1 .p p1 w13 fun x24 =>
ncK x24 fun a25 =>
ld1 .sl (a25.add 3) w13 fun x26 =>
ixK x26.1 x26.2.1 r9.1.1 fun a27 =>
ld1 (.i .i64) ((a27.add (r9.1.1.toNat * 2)).add 1) w13 fun x28 =>
R ((x28, ()), ()) w13) (
R ((0, ()), ()) w13)))
set_option maxRecDepth 100000 in
theorem leap_Table_Step.eq (t : Option Addr) (day : Int) (w : World) (R : Value → World → Prop) : wpF Tryd.prog Tryd.f10 (.s .n (.s .n (.s .n (.s (.ct [(33, .b)] (.pl (.tk 0 (.tk 1 (.tk 2 (.tk 3 (.tk 4 (.tk 5 (.tk 6 (.tk 7 (.tk 8 (.tk 9 (.tk 10 (.tk 11 (.tk 12 (.tk 13 (.tk 14 (.tk 15 (.tk 16 (.tk 17 (.tk 18 .z)))))))))))))))))))) .n) .n)))) [.pointer t, .int .i64 day] w R = leap_Table_Step.wp t day w (fun r w => R (encR false [(false, [(.i .i64)])] r) w) := by kernel_rfl
set_option maxRecDepth 100000 in
theorem leap_Table_Step.ok {t : Option Addr} {day : Int} {w : World} {R : TR [(false, [(.i .i64)])] → World → Prop} (h : leap_Table_Step.wp t day w R) : clS Tryd.prog F.leap_Table_Step [.pointer t, .int .i64 day] w false [(false, [(.i .i64)])] R :=
  ok_of Tryd_follows Tryd.func10 (fun R => leap_Table_Step.wp t day w R) (leap_Table_Step.eq t day w) rfl h
/-! ### ref21_Step -/
set_option maxRecDepth 100000 in
def ref21_Step.wp (t0 : Int) (t1 : Int) (t2 : Int) (t3 : Option Addr × Nat × Nat) (day : Int) (w : World) (R : TR [(false, [(.i .i64)])] → World → Prop) : Prop :=
alK [.int .i64 t0, .int .i64 t1, .int .i64 t2, .slice t3.1 t3.2.1 t3.2.2] T.ref21_Table w fun p1 w2 =>
ld1 .sl (p1.add 3) w2 fun x3 =>
LoopT (fun (self4 : ((Int) × Unit) → World → Prop) (z5 : (Int) × Unit) w6 => ∀ _ : Nat → Value,
brB (decide (z5.1 < (x3.2.1 : Int))) (
ixK x3.1 x3.2.1 z5.1 fun a7 =>
ldN [(.i .i64), (.i .i64)] (a7.add (z5.1.toNat * 2)) 0 w6 fun x8 =>
alK [.int .i64 0, .int .i64 0] T.ref21_Leap w6 fun p9 w10 =>
stN [.int .i64 x8.1, .int .i64 x8.2.1] p9 0 w10 fun w11 =>
ld1 (.i .i64) p9 w11 fun x12 =>
brB (x12 == day) (
ld1 (.i .i64) (p9.add 1) w11 fun x13 =>
R ((x13, ()), ()) w11) (
self4 (IntKind.wrap .i64 (z5.1 + 1), ()) w11)) (
R ((0, ()), ()) w6)) (0, ()) w2
set_option maxRecDepth 100000 in
theorem ref21_Step.eq (t0 : Int) (t1 : Int) (t2 : Int) (t3 : Option Addr × Nat × Nat) (day : Int) (w : World) (R : Value → World → Prop) : wpF Tryd.prog Tryd.f11 (.s .n (.s (.s .n (.lp [(10, (.i .i64))] .n)) .n)) [.agg #[.int .i64 t0, .int .i64 t1, .int .i64 t2, .slice t3.1 t3.2.1 t3.2.2], .int .i64 day] w R = ref21_Step.wp t0 t1 t2 t3 day w (fun r w => R (encR false [(false, [(.i .i64)])] r) w) := by kernel_rfl
set_option maxRecDepth 100000 in
theorem ref21_Step.ok {t0 : Int} {t1 : Int} {t2 : Int} {t3 : Option Addr × Nat × Nat} {day : Int} {w : World} {R : TR [(false, [(.i .i64)])] → World → Prop} (h : ref21_Step.wp t0 t1 t2 t3 day w R) : clS Tryd.prog F.ref21_Step [.agg #[.int .i64 t0, .int .i64 t1, .int .i64 t2, .slice t3.1 t3.2.1 t3.2.2], .int .i64 day] w false [(false, [(.i .i64)])] R :=
  ok_of Tryd_follows Tryd.func11 (fun R => ref21_Step.wp t0 t1 t2 t3 day w R) (ref21_Step.eq t0 t1 t2 t3 day w) rfl h
/-! ### leap_Parse -/
set_option maxRecDepth 100000 in
def leap_Parse.wp (s : ByteArray) (w : World) (R : TR [(false, [.p]), (false, [(.i .i64)]), (false, [(.i .i64)])] → World → Prop) (Z : Value → World → Prop) : Prop :=
alK [.pointer none] T.p_leap_Table w fun p1 w2 =>
alK [.int .i64 0] T.int w2 fun p3 w4 =>
alK [.int .i64 0] T.api_Errno w4 fun p5 w6 =>
brB (decide ((s.size : Int) > 16384)) (
stN [.pointer none] p1 0 w6 fun w7 =>
stN [.int .i64 0] p3 0 w7 fun w8 =>
stN [.int .i64 5] p5 0 w8 fun w9 =>
enK .returning (
ld1 .p p1 w9 fun x10 =>
ld1 (.i .i64) p3 w9 fun x11 =>
ld1 (.i .i64) p5 w9 fun x12 =>
R ((x10, ()), (x11, ()), (x12, ()), ()) w9) (fun ch => paK ch Z w9)) (
alK [.int .i64 0, .int .i64 0, .int .i64 0, .int .i64 0, .int .i64 0, .slice none 0 0] T.leap_reader w6 fun p13 w14 =>
clS Tryd.prog F.strings_Split [.string s, .string ⟨#[10]⟩] w14 false [(false, [.sl])] fun r15 w16 =>
LoopT (fun (self17 : ((Int) × Unit) → World → Prop) (z18 : (Int) × Unit) w19 => ∀ _ : Nat → Value,
brB (decide (z18.1 < (r15.1.1.2.1 : Int))) (
ixK r15.1.1.1 r15.1.1.2.1 z18.1 fun a20 =>
ld1 .s (a20.add (z18.1.toNat * 1)) w19 fun x21 =>
clE Tryd.prog F.leap_reader_read [.pointer (some p13), .string x21] w19 true [] (fun r22 w23 =>
self17 (IntKind.wrap .i64 (z18.1 + 1), ()) w23) (fun (v24 : Value) w25 =>
dfK Tryd.prog F.leap_Parse_1 [.pointer (some p1), .pointer (some p3), .pointer (some p5)] (.panicking [{ v := v24, recovered := false }]) w25 fun u26 w27 =>
enK (settle u26) (
ld1 .p p1 w27 fun x28 =>
ld1 (.i .i64) p3 w27 fun x29 =>
ld1 (.i .i64) p5 w27 fun x30 =>
R ((x28, ()), (x29, ()), (x30, ()), ()) w27) (fun ch => paK ch Z w27))) (
CutT (fun (J31 : Unit → World → Prop) =>
ld1 (.i .i64) (p13.add 1) w19 fun x34 =>
brB (decide (x34 < 2)) (
clE Tryd.prog F.leap_reader_fail [.pointer (some p13), .int .i64 3] w19 true [] (fun r35 w36 =>
J31 (()) w36) (fun (v37 : Value) w38 =>
dfK Tryd.prog F.leap_Parse_1 [.pointer (some p1), .pointer (some p3), .pointer (some p5)] (.panicking [{ v := v37, recovered := false }]) w38 fun u39 w40 =>
enK (settle u39) (
ld1 .p p1 w40 fun x41 =>
ld1 (.i .i64) p3 w40 fun x42 =>
ld1 (.i .i64) p5 w40 fun x43 =>
R ((x41, ()), (x42, ()), (x43, ()), ()) w40) (fun ch => paK ch Z w40))) (
J31 (()) w19)) (fun (z32 : Unit) w33 => ∀ _ : Nat → Value,
drK w33 fun w44 =>
ld1 (.i .i64) (p13.add 2) w44 fun x45 =>
ld1 (.i .i64) (p13.add 3) w44 fun x46 =>
ld1 (.i .i64) (p13.add 4) w44 fun x47 =>
ld1 .sl (p13.add 5) w44 fun x48 =>
alK [.int .i64 x45, .int .i64 x46, .int .i64 x47, .slice x48.1 x48.2.1 x48.2.2] T.leap_Table w44 fun p49 w50 =>
Hold [(15, (p13.add 5), (w44.cell? (p13.add 5)).getD undef), (11, (p13.add 4), (w44.cell? (p13.add 4)).getD undef), (7, (p13.add 3), (w44.cell? (p13.add 3)).getD undef), (3, (p13.add 2), (w44.cell? (p13.add 2)).getD undef)] w50 ∧ (
stN [.pointer (some p49)] p1 0 w50 fun w51 =>
Hold [] w51 ∧ (
stN [.int .i64 0] p3 0 w51 fun w52 =>
Hold [] w52 ∧ (
stN [.int .i64 0] p5 0 w52 fun w53 =>
Hold [] w53 ∧ (
dfK Tryd.prog F.leap_Parse_1 [.pointer (some p1), .pointer (some p3), .pointer (some p5)] .returning w53 fun u54 w55 =>
enK (settle u54) (
ld1 .p p1 w55 fun x56 =>
ld1 (.i .i64) p3 w55 fun x57 =>
ld1 (.i .i64) p5 w55 fun x58 =>
R ((x56, ()), (x57, ()), (x58, ()), ()) w55) (fun ch => paK ch Z w55)))))))) (0, ()) w16)
set_option maxRecDepth 100000 in
theorem leap_Parse.eq (s : ByteArray) (w : World) (R : Value → World → Prop) (Z : Value → World → Prop) : wpFD Tryd.prog Tryd.f12 (.s .n (.s .n (.s .pz (.s .n (.s (.s .n (.lp [(17, (.i .i64))] (.s .n (.s .n (.s (.s .n .pz) .n))))) (.ct [] (.s .n (.s .pz .n)) (.s (.pl (.tk 0 (.tk 1 (.tk 2 (.tk 3 (.tk 4 (.tk 5 (.tk 6 (.tk 7 (.tk 8 (.tk 9 (.tk 10 (.tk 11 (.tk 12 (.tk 13 (.tk 14 (.tk 15 (.tk 16 (.ef 17 [] (.ef 18 [3, 7, 11, 15] (.ef 19 [] (.ef 20 [] .z)))))))))))))))))))))) .n))))))) [.string s] w R Z = leap_Parse.wp s w (fun r w => R (encR true [(false, [.p]), (false, [(.i .i64)]), (false, [(.i .i64)])] r) w) Z := by kernel_rfl
set_option maxRecDepth 100000 in
theorem leap_Parse.ok {s : ByteArray} {w : World} {R : TR [(false, [.p]), (false, [(.i .i64)]), (false, [(.i .i64)])] → World → Prop} (h : leap_Parse.wp s w R fun _ _ => False) : clS Tryd.prog F.leap_Parse [.string s] w true [(false, [.p]), (false, [(.i .i64)]), (false, [(.i .i64)])] R :=
  ok_ofD Tryd_follows Tryd.func12 (fun R Z => leap_Parse.wp s w R Z) (leap_Parse.eq s w) rfl h
/-! ### ref21_Parse -/
set_option maxRecDepth 100000 in
def ref21_Parse.wp (s : ByteArray) (w : World) (R : TR [(true, [(.i .i64), (.i .i64), (.i .i64), .sl]), (false, [(.i .i64)]), (false, [(.i .i64)])] → World → Prop) : Prop :=
alK [.int .i64 0, .int .i64 0, .int .i64 0, .slice none 0 0] T.ref21_Table w fun p1 w2 =>
brB (decide ((s.size : Int) > 16384)) (
stN [.int .i64 0, .int .i64 0, .int .i64 0, .slice none 0 0] p1 0 w2 fun w3 =>
ldN [(.i .i64), (.i .i64), (.i .i64), .sl] p1 0 w3 fun x4 =>
R ((x4.1, x4.2.1, x4.2.2.1, (x4.2.2.2.1.1, x4.2.2.2.1.2.1, x4.2.2.2.1.2.2), ()), (0, ()), (5, ()), ()) w3) (
alK [.int .i64 0, .int .i64 0, .int .i64 0, .slice none 0 0] T.ref21_Table w2 fun p5 w6 =>
clS Tryd.prog F.ref21_Pieces [.string s, .int .u8 10] w6 false [(false, [.sl])] fun r7 w8 =>
LoopT (fun (self9 : ((Int) × (Int) × Unit) → World → Prop) (z10 : (Int) × (Int) × Unit) w11 => ∀ _ : Nat → Value,
brB (decide (z10.2.1 < (r7.1.1.2.1 : Int))) (
ixK r7.1.1.1 r7.1.1.2.1 z10.2.1 fun a12 =>
ld1 .s (a12.add (z10.2.1.toNat * 1)) w11 fun x13 =>
brB (x13 == ⟨#[]⟩) (
self9 (z10.1, IntKind.wrap .i64 (z10.2.1 + 1), ()) w11) (
siK x13 0 fun c14 =>
brB (c14 == 35) (
self9 (z10.1, IntKind.wrap .i64 (z10.2.1 + 1), ()) w11) (
clS Tryd.prog F.ref21_Pieces [.string x13, .int .u8 32] w11 false [(false, [.sl])] fun r15 w16 =>
CutT (fun (J17 : ((Int) × (Bool) × Unit) → World → Prop) =>
brB (decide ((r15.1.1.2.1 : Int) > 1)) (
ixK r15.1.1.1 r15.1.1.2.1 1 fun a20 =>
ld1 .s (a20.add ((1 : Int).toNat * 1)) w16 fun x21 =>
clS Tryd.prog F.ref21_day [.string x21] w16 true [(false, [(.i .i64)]), (false, [.b])] fun r22 w23 =>
J17 (r22.1.1, r22.2.1.1, ()) w23) (
J17 (0, decide ((r15.1.1.2.1 : Int) > 1), ()) w16)) (fun (z18 : (Int) × (Bool) × Unit) w19 => ∀ _ : Nat → Value,
CutT (fun (J24 : ((Bool) × Unit) → World → Prop) =>
brB (!z18.2.1) (
J24 (true, ()) w19) (
J24 ((z10.1 == 2), ()) w19)) (fun (z25 : (Bool) × Unit) w26 => ∀ _ : Nat → Value,
brB z25.1 (
stN [.int .i64 0, .int .i64 0, .int .i64 0, .slice none 0 0] p1 0 w26 fun w27 =>
ldN [(.i .i64), (.i .i64), (.i .i64), .sl] p1 0 w27 fun x28 =>
R ((x28.1, x28.2.1, x28.2.2.1, (x28.2.2.2.1.1, x28.2.2.2.1.2.1, x28.2.2.2.1.2.2), ()), (IntKind.wrap .i64 (z10.2.1 + 1), ()), (3, ()), ()) w27) (
brB (z10.1 == 0) (
CutT (fun (J29 : ((Bool) × Unit) → World → Prop) =>
brB ((r15.1.1.2.1 : Int) != 3) (
J29 (true, ()) w26) (
ixK r15.1.1.1 r15.1.1.2.1 0 fun a32 =>
ld1 .s (a32.add ((0 : Int).toNat * 1)) w26 fun x33 =>
brB (!(x33 == ⟨#[115, 116, 97, 114, 116]⟩)) (
J29 (true, ()) w26) (
ixK r15.1.1.1 r15.1.1.2.1 2 fun a34 =>
ld1 .s (a34.add ((2 : Int).toNat * 1)) w26 fun x35 =>
clS Tryd.prog F.ref21_small [.string x35] w26 false [(false, [(.i .i64)])] fun r36 w37 =>
J29 (decide (r36.1.1 < 0), ()) w37))) (fun (z30 : (Bool) × Unit) w31 => ∀ _ : Nat → Value,
brB z30.1 (
stN [.int .i64 0, .int .i64 0, .int .i64 0, .slice none 0 0] p1 0 w31 fun w38 =>
ldN [(.i .i64), (.i .i64), (.i .i64), .sl] p1 0 w38 fun x39 =>
R ((x39.1, x39.2.1, x39.2.2.1, (x39.2.2.2.1.1, x39.2.2.2.1.2.1, x39.2.2.2.1.2.2), ()), (IntKind.wrap .i64 (z10.2.1 + 1), ()), (3, ()), ()) w38) (
stN [.int .i64 z18.1] p5 0 w31 fun w40 =>
ixK r15.1.1.1 r15.1.1.2.1 2 fun a41 =>
ld1 .s (a41.add ((2 : Int).toNat * 1)) w40 fun x42 =>
clS Tryd.prog F.ref21_small [.string x42] w40 false [(false, [(.i .i64)])] fun r43 w44 =>
stN [.int .i64 r43.1.1] (p5.add 1) 0 w44 fun w45 =>
self9 (1, IntKind.wrap .i64 (z10.2.1 + 1), ()) w45))) (
ld1 .sl (p5.add 3) w26 fun x46 =>
ixK r15.1.1.1 r15.1.1.2.1 0 fun a47 =>
ld1 .s (a47.add ((0 : Int).toNat * 1)) w26 fun x48 =>
brB (x48 == ⟨#[108, 101, 97, 112]⟩) (
CutT (fun (J49 : ((Bool) × Unit) → World → Prop) =>
brB ((r15.1.1.2.1 : Int) != 3) (
J49 (true, ()) w26) (
ixK r15.1.1.1 r15.1.1.2.1 2 fun a52 =>
ld1 .s (a52.add ((2 : Int).toNat * 1)) w26 fun x53 =>
brB (!(x53 == ⟨#[43, 49]⟩)) (
ixK r15.1.1.1 r15.1.1.2.1 2 fun a54 =>
ld1 .s (a54.add ((2 : Int).toNat * 1)) w26 fun x55 =>
J49 (!(x55 == ⟨#[45, 49]⟩), ()) w26) (
J49 (false, ()) w26))) (fun (z50 : (Bool) × Unit) w51 => ∀ _ : Nat → Value,
brB z50.1 (
stN [.int .i64 0, .int .i64 0, .int .i64 0, .slice none 0 0] p1 0 w51 fun w56 =>
ldN [(.i .i64), (.i .i64), (.i .i64), .sl] p1 0 w56 fun x57 =>
R ((x57.1, x57.2.1, x57.2.2.1, (x57.2.2.2.1.1, x57.2.2.2.1.2.1, x57.2.2.2.1.2.2), ()), (IntKind.wrap .i64 (z10.2.1 + 1), ()), (3, ()), ()) w56) (
brB ((x46.2.1 : Int) == 64) (
stN [.int .i64 0, .int .i64 0, .int .i64 0, .slice none 0 0] p1 0 w51 fun w58 =>
ldN [(.i .i64), (.i .i64), (.i .i64), .sl] p1 0 w58 fun x59 =>
R ((x59.1, x59.2.1, x59.2.2.1, (x59.2.2.2.1.1, x59.2.2.2.1.2.1, x59.2.2.2.1.2.2), ()), (IntKind.wrap .i64 (z10.2.1 + 1), ()), (6, ()), ()) w58) (
CutT (fun (J60 : ((Bool) × Unit) → World → Prop) =>
ld1 (.i .i64) p5 w51 fun x63 =>
brB (decide (z18.1 < x63)) (
J60 (true, ()) w51) (
brB (decide ((x46.2.1 : Int) > 0)) (
ld1 .sl (p5.add 3) w51 fun x64 =>
ixK x64.1 x64.2.1 (IntKind.wrap .i64 ((x46.2.1 : Int) - 1)) fun a65 =>
ld1 (.i .i64) (a65.add ((IntKind.wrap .i64 ((x46.2.1 : Int) - 1)).toNat * 2)) w51 fun x66 =>
J60 (decide (z18.1 ≤ x66), ()) w51) (
J60 (false, ()) w51))) (fun (z61 : (Bool) × Unit) w62 => ∀ _ : Nat → Value,
brB z61.1 (
stN [.int .i64 0, .int .i64 0, .int .i64 0, .slice none 0 0] p1 0 w62 fun w67 =>
ldN [(.i .i64), (.i .i64), (.i .i64), .sl] p1 0 w67 fun x68 =>
R ((x68.1, x68.2.1, x68.2.2.1, (x68.2.2.2.1.1, x68.2.2.2.1.2.1, x68.2.2.2.1.2.2), ()), (IntKind.wrap .i64 (z10.2.1 + 1), ()), (12, ()), ()) w67) (
CutT (fun (J69 : ((Int) × Unit) → World → Prop) =>
ixK r15.1.1.1 r15.1.1.2.1 2 fun a72 =>
ld1 .s (a72.add ((2 : Int).toNat * 1)) w62 fun x73 =>
brB (x73 == ⟨#[45, 49]⟩) (
J69 ((Int.negSucc 0), ()) w62) (
J69 (1, ()) w62)) (fun (z70 : (Int) × Unit) w71 => ∀ _ : Nat → Value,
ld1 .sl (p5.add 3) w71 fun x74 =>
alK [.int .i64 z18.1, .int .i64 z70.1] T.ref21_Leap w71 fun p75 w76 =>
slOf ((Builtin.append_ #[T.sl_angelusref21_Leap, T.sl_angelusref21_Leap] T.sl_angelusref21_Leap #[.slice x74.1 x74.2.1 x74.2.2, .slice (some p75) 1 1]).run Tryd.prog w76) fun y77 w78 =>
stN [.slice y77.1 y77.2.1 y77.2.2] (p5.add 3) 0 w78 fun w79 =>
self9 (z10.1, IntKind.wrap .i64 (z10.2.1 + 1), ()) w79))))))) (
CutT (fun (J80 : ((Bool) × Unit) → World → Prop) =>
brB ((r15.1.1.2.1 : Int) != 2) (
J80 (true, ()) w26) (
ixK r15.1.1.1 r15.1.1.2.1 0 fun a83 =>
ld1 .s (a83.add ((0 : Int).toNat * 1)) w26 fun x84 =>
J80 (!(x84 == ⟨#[101, 110, 100]⟩), ()) w26)) (fun (z81 : (Bool) × Unit) w82 => ∀ _ : Nat → Value,
brB z81.1 (
stN [.int .i64 0, .int .i64 0, .int .i64 0, .slice none 0 0] p1 0 w82 fun w85 =>
ldN [(.i .i64), (.i .i64), (.i .i64), .sl] p1 0 w85 fun x86 =>
R ((x86.1, x86.2.1, x86.2.2.1, (x86.2.2.2.1.1, x86.2.2.2.1.2.1, x86.2.2.2.1.2.2), ()), (IntKind.wrap .i64 (z10.2.1 + 1), ()), (3, ()), ()) w85) (
CutT (fun (J87 : ((Bool) × Unit) → World → Prop) =>
ld1 (.i .i64) p5 w82 fun x90 =>
brB (decide (z18.1 ≤ x90)) (
J87 (true, ()) w82) (
brB (decide ((x46.2.1 : Int) > 0)) (
ld1 .sl (p5.add 3) w82 fun x91 =>
ixK x91.1 x91.2.1 (IntKind.wrap .i64 ((x46.2.1 : Int) - 1)) fun a92 =>
ld1 (.i .i64) (a92.add ((IntKind.wrap .i64 ((x46.2.1 : Int) - 1)).toNat * 2)) w82 fun x93 =>
J87 (decide (z18.1 ≤ x93), ()) w82) (
J87 (false, ()) w82))) (fun (z88 : (Bool) × Unit) w89 => ∀ _ : Nat → Value,
brB z88.1 (
stN [.int .i64 0, .int .i64 0, .int .i64 0, .slice none 0 0] p1 0 w89 fun w94 =>
ldN [(.i .i64), (.i .i64), (.i .i64), .sl] p1 0 w94 fun x95 =>
R ((x95.1, x95.2.1, x95.2.2.1, (x95.2.2.2.1.1, x95.2.2.2.1.2.1, x95.2.2.2.1.2.2), ()), (IntKind.wrap .i64 (z10.2.1 + 1), ()), (12, ()), ()) w94) (
stN [.int .i64 z18.1] (p5.add 2) 0 w89 fun w96 =>
self9 (2, IntKind.wrap .i64 (z10.2.1 + 1), ()) w96)))))))))))) (
brB (decide (z10.1 < 2)) (
stN [.int .i64 0, .int .i64 0, .int .i64 0, .slice none 0 0] p1 0 w11 fun w97 =>
ldN [(.i .i64), (.i .i64), (.i .i64), .sl] p1 0 w97 fun x98 =>
R ((x98.1, x98.2.1, x98.2.2.1, (x98.2.2.2.1.1, x98.2.2.2.1.2.1, x98.2.2.2.1.2.2), ()), ((r7.1.1.2.1 : Int), ()), (3, ()), ()) w97) (
ldN [(.i .i64), (.i .i64), (.i .i64), .sl] p5 0 w11 fun x99 =>
stN [.int .i64 x99.1, .int .i64 x99.2.1, .int .i64 x99.2.2.1, .slice x99.2.2.2.1.1 x99.2.2.2.1.2.1 x99.2.2.2.1.2.2] p1 0 w11 fun w100 =>
ldN [(.i .i64), (.i .i64), (.i .i64), .sl] p1 0 w100 fun x101 =>
R ((x101.1, x101.2.1, x101.2.2.1, (x101.2.2.2.1.1, x101.2.2.2.1.2.1, x101.2.2.2.1.2.2), ()), (0, ()), (0, ()), ()) w100))) (0, 0, ()) w8)
set_option maxRecDepth 100000 in
theorem ref21_Parse.eq (s : ByteArray) (w : World) (R : Value → World → Prop) : wpF Tryd.prog Tryd.f13 (.s .n (.s .n (.s .n (.s .n (.s .n (.s (.s .n (.lp [(6, (.i .i64)), (23, (.i .i64))] (.s .n (.s .n (.s (.s .n (.s .n (.s .n (.s .n (.s .n (.ct [(11, (.i .i64)), (12, .b)] .n (.s (.ct [(53, .b)] .n .n) (.s (.s .n (.s (.s (.ct [(74, .b)] .n .n) .n) .n)) (.s .n (.s (.s .n (.s (.s (.ct [(106, .b)] .n .n) (.s .n (.s (.ct [(133, .b)] .n .n) (.s .n (.ct [(14, (.i .i64))] .n .n))))) .n)) (.s (.ct [(157, .b)] .n .n) (.s (.ct [(179, .b)] .n .n) .n)))))))))))) .n))))) .n)))))) [.string s] w R = ref21_Parse.wp s w (fun r w => R (encR true [(true, [(.i .i64), (.i .i64), (.i .i64), .sl]), (false, [(.i .i64)]), (false, [(.i .i64)])] r) w) := by kernel_rfl
set_option maxRecDepth 100000 in
theorem ref21_Parse.ok {s : ByteArray} {w : World} {R : TR [(true, [(.i .i64), (.i .i64), (.i .i64), .sl]), (false, [(.i .i64)]), (false, [(.i .i64)])] → World → Prop} (h : ref21_Parse.wp s w R) : clS Tryd.prog F.ref21_Parse [.string s] w true [(true, [(.i .i64), (.i .i64), (.i .i64), .sl]), (false, [(.i .i64)]), (false, [(.i .i64)])] R :=
  ok_of Tryd_follows Tryd.func13 (fun R => ref21_Parse.wp s w R) (ref21_Parse.eq s w) rfl h
/-! ### law21_same -/
set_option maxRecDepth 100000 in
def law21_same.wp (t : Option Addr) (m0 : Int) (m1 : Int) (m2 : Int) (m3 : Option Addr × Nat × Nat) (w : World) (R : TR [(false, [.b])] → World → Prop) : Prop :=
alK [.int .i64 m0, .int .i64 m1, .int .i64 m2, .slice m3.1 m3.2.1 m3.2.2] T.ref21_Table w fun p1 w2 =>
alK [.bool false] T.bool w2 fun p3 w4 =>
alK [.int .i64 0] T.int w4 fun p5 w6 =>
stN [.int .i64 0] p5 0 w6 fun w7 =>
clS Tryd.prog F.leap_Table_All [.pointer t] w7 false [(false, [.any])] fun r8 w9 =>
RfT Tryd.prog r8.1.1 [(true, [(.i .i64), (.i .i64)])] w9 (fun x10 k11 w12 =>
alK [.int .i64 0, .int .i64 0] T.leap_Leap w12 fun p18 w19 =>
stN [.int .i64 x10.1.1, .int .i64 x10.1.2.1] p18 0 w19 fun w20 =>
k11 w20 fun go13 lv14 w15 =>
drK w15 fun w21 =>
ld1 (.i .i64) p5 w21 fun x22 =>
ld1 .sl (p1.add 3) w21 fun x23 =>
brB (decide (x22 ≥ (x23.2.1 : Int))) (
stN [.bool false] p3 0 w21 fun w24 =>
lv14 0 w24) (
ldN [(.i .i64), (.i .i64)] p18 0 w21 fun x25 =>
ld1 .sl (p1.add 3) w21 fun x26 =>
ld1 (.i .i64) p5 w21 fun x27 =>
ixK x26.1 x26.2.1 x27 fun a28 =>
ldN [(.i .i64), (.i .i64)] (a28.add (x27.toNat * 2)) 0 w21 fun x29 =>
brB (!((x25.1 == x29.1) && ((x25.2.1 == x29.2.1) && true))) (
stN [.bool false] p3 0 w21 fun w30 =>
lv14 0 w30) (
ld1 (.i .i64) p5 w21 fun x31 =>
stN [.int .i64 (IntKind.wrap .i64 (x31 + 1))] p5 0 w21 fun w32 =>
go13 w32))) (fun D16 w17 =>
clS Tryd.prog F.leap_Table_Range [.pointer t] w17 true [(false, [(.i .i64)]), (false, [(.i .i64)])] fun r33 w34 =>
ld1 (.i .i64) p5 w34 fun x35 =>
ld1 .sl (p1.add 3) w34 fun x36 =>
brB (x35 == (x36.2.1 : Int)) (
ld1 (.i .i64) p1 w34 fun x37 =>
brB (r33.1.1 == x37) (
ld1 (.i .i64) (p1.add 2) w34 fun x38 =>
stN [.bool (r33.2.1.1 == x38)] p3 0 w34 fun w39 =>
tkK D16 w39 fun w40 =>
ld1 .b p3 w40 fun x41 =>
R ((x41, ()), ()) w40) (
stN [.bool false] p3 0 w34 fun w42 =>
tkK D16 w42 fun w43 =>
ld1 .b p3 w43 fun x44 =>
R ((x44, ()), ()) w43)) (
stN [.bool false] p3 0 w34 fun w45 =>
tkK D16 w45 fun w46 =>
ld1 .b p3 w46 fun x47 =>
R ((x47, ()), ()) w46)) [(0, fun D16 w17 =>
tkK D16 w17 fun w48 =>
ld1 .b p3 w48 fun x49 =>
R ((x49, ()), ()) w48)]
set_option maxRecDepth 100000 in
theorem law21_same.eq (t : Option Addr) (m0 : Int) (m1 : Int) (m2 : Int) (m3 : Option Addr × Nat × Nat) (w : World) (R : Value → World → Prop) : wpF Tryd.prog Tryd.f14 (.s .n (.s .n (.s (.s .n (.rf [(true, [(.i .i64), (.i .i64)])] .n (.s (.s (.pl (.tk 0 (.tk 1 (.tk 2 (.tk 3 (.tk 4 (.tk 5 (.tk 6 (.tk 7 (.tk 8 (.tk 9 (.tk 10 (.tk 11 (.tk 12 (.tk 13 .z))))))))))))))) .n) .n))) .n))) [.pointer t, .agg #[.int .i64 m0, .int .i64 m1, .int .i64 m2, .slice m3.1 m3.2.1 m3.2.2]] w R = law21_same.wp t m0 m1 m2 m3 w (fun r w => R (encR false [(false, [.b])] r) w) := by kernel_rfl
set_option maxRecDepth 100000 in
theorem law21_same.ok {t : Option Addr} {m0 : Int} {m1 : Int} {m2 : Int} {m3 : Option Addr × Nat × Nat} {w : World} {R : TR [(false, [.b])] → World → Prop} (h : law21_same.wp t m0 m1 m2 m3 w R) : clS Tryd.prog F.law21_same [.pointer t, .agg #[.int .i64 m0, .int .i64 m1, .int .i64 m2, .slice m3.1 m3.2.1 m3.2.2]] w false [(false, [.b])] R :=
  ok_of Tryd_follows Tryd.func14 (fun R => law21_same.wp t m0 m1 m2 m3 w R) (law21_same.eq t m0 m1 m2 m3 w) rfl h
/-! ### leap_Table_Text -/
set_option maxRecDepth 100000 in
def leap_Table_Text.wp (t : Option Addr) (w : World) (R : TR [(false, [.s])] → World → Prop) : Prop :=
brB (Option.isNone t) (
R ((⟨#[]⟩, ()), ()) w) (
alK [.pointer none, .slice none 0 0] T.strings_Builder w fun p1 w2 =>
drK w2 fun w3 =>
ncK t fun a4 =>
ld1 (.i .i64) a4 w3 fun x5 =>
ncK t fun a6 =>
ld1 (.i .i64) (a6.add 1) w3 fun x7 =>
clS Tryd.prog F.leap_text [.int .i64 x5] w3 false [(false, [.s])] fun r8 w9 =>
Hold [(10, (a6.add 1), (w3.cell? (a6.add 1)).getD undef), (3, a4, (w3.cell? a4).getD undef)] w9 ∧ (
saK ⟨#[115, 116, 97, 114, 116, 32]⟩ r8.1.1 (
saK (⟨#[115, 116, 97, 114, 116, 32]⟩ ++ r8.1.1) ⟨#[32]⟩ (
clS Tryd.prog F.strconv_Itoa [.int .i64 x7] w9 false [(false, [.s])] fun r10 w11 =>
Hold [(10, (a6.add 1), (w3.cell? (a6.add 1)).getD undef), (3, a4, (w3.cell? a4).getD undef)] w11 ∧ (
saK ((⟨#[115, 116, 97, 114, 116, 32]⟩ ++ r8.1.1) ++ ⟨#[32]⟩) r10.1.1 (
saK (((⟨#[115, 116, 97, 114, 116, 32]⟩ ++ r8.1.1) ++ ⟨#[32]⟩) ++ r10.1.1) ⟨#[10]⟩ (
clS Tryd.prog F.strings_Builder_WriteString [.pointer (some p1), .string ((((⟨#[115, 116, 97, 114, 116, 32]⟩ ++ r8.1.1) ++ ⟨#[32]⟩) ++ r10.1.1) ++ ⟨#[10]⟩)] w11 true [(false, [(.i .i64)]), (false, [.any])] fun r12 w13 =>
Hold [(10, (a6.add 1), (w3.cell? (a6.add 1)).getD undef), (3, a4, (w3.cell? a4).getD undef)] w13 ∧ (
clS Tryd.prog F.leap_Table_All [.pointer t] w13 false [(false, [.any])] fun r14 w15 =>
RfT Tryd.prog r14.1.1 [(true, [(.i .i64), (.i .i64)])] w15 (fun x16 k17 w18 =>
alK [.int .i64 0, .int .i64 0] T.leap_Leap w18 fun p24 w25 =>
stN [.int .i64 x16.1.1, .int .i64 x16.1.2.1] p24 0 w25 fun w26 =>
k17 w26 fun go19 lv20 w21 =>
CutT (fun (J27 : ((ByteArray) × Unit) → World → Prop) =>
ld1 (.i .i64) (p24.add 1) w21 fun x30 =>
brB (decide (x30 < 0)) (
J27 (⟨#[45, 49]⟩, ()) w21) (
J27 (⟨#[43, 49]⟩, ()) w21)) (fun (z28 : (ByteArray) × Unit) w29 => ∀ _ : Nat → Value,
ld1 (.i .i64) p24 w29 fun x31 =>
clS Tryd.prog F.leap_text [.int .i64 x31] w29 false [(false, [.s])] fun r32 w33 =>
saK ⟨#[108, 101, 97, 112, 32]⟩ r32.1.1 (
saK (⟨#[108, 101, 97, 112, 32]⟩ ++ r32.1.1) ⟨#[32]⟩ (
saK ((⟨#[108, 101, 97, 112, 32]⟩ ++ r32.1.1) ++ ⟨#[32]⟩) z28.1 (
saK (((⟨#[108, 101, 97, 112, 32]⟩ ++ r32.1.1) ++ ⟨#[32]⟩) ++ z28.1) ⟨#[10]⟩ (
clS Tryd.prog F.strings_Builder_WriteString [.pointer (some p1), .string ((((⟨#[108, 101, 97, 112, 32]⟩ ++ r32.1.1) ++ ⟨#[32]⟩) ++ z28.1) ++ ⟨#[10]⟩)] w33 true [(false, [(.i .i64)]), (false, [.any])] fun r34 w35 =>
go19 w35)))))) (fun D22 w23 =>
ncK t fun a36 =>
ld1 (.i .i64) (a36.add 2) w23 fun x37 =>
clS Tryd.prog F.leap_text [.int .i64 x37] w23 false [(false, [.s])] fun r38 w39 =>
saK ⟨#[101, 110, 100, 32]⟩ r38.1.1 (
saK (⟨#[101, 110, 100, 32]⟩ ++ r38.1.1) ⟨#[10]⟩ (
clS Tryd.prog F.strings_Builder_WriteString [.pointer (some p1), .string ((⟨#[101, 110, 100, 32]⟩ ++ r38.1.1) ++ ⟨#[10]⟩)] w39 true [(false, [(.i .i64)]), (false, [.any])] fun r40 w41 =>
clS Tryd.prog F.strings_Builder_String [.pointer (some p1)] w41 false [(false, [.s])] fun r42 w43 =>
tkK D22 w43 fun w44 =>
R ((r42.1.1, ()), ()) w44))) []))))))))
set_option maxRecDepth 100000 in
theorem leap_Table_Text.eq (t : Option Addr) (w : World) (R : Value → World → Prop) : wpF Tryd.prog Tryd.f15 (.s .n (.s .n (.s .n (.s (.pl (.tk 0 (.tk 1 (.tk 2 (.tk 3 (.tk 7 (.tk 8 (.tk 9 (.tk 10 (.ef 4 [] (.tk 5 (.tk 6 (.ef 11 [] (.tk 12 (.tk 13 (.ef 14 [] .z)))))))))))))))) (.s (.s .n (.rf [(true, [(.i .i64), (.i .i64)])] .n (.s .n (.ct [(5, .s)] .n .n)))) .n))))) [.pointer t] w R = leap_Table_Text.wp t w (fun r w => R (encR false [(false, [.s])] r) w) := by kernel_rfl
set_option maxRecDepth 100000 in
theorem leap_Table_Text.ok {t : Option Addr} {w : World} {R : TR [(false, [.s])] → World → Prop} (h : leap_Table_Text.wp t w R) : clS Tryd.prog F.leap_Table_Text [.pointer t] w false [(false, [.s])] R :=
  ok_of Tryd_follows Tryd.func15 (fun R => leap_Table_Text.wp t w R) (leap_Table_Text.eq t w) rfl h
/-! ### ref21_Text -/
set_option maxRecDepth 100000 in
def ref21_Text.wp (t0 : Int) (t1 : Int) (t2 : Int) (t3 : Option Addr × Nat × Nat) (w : World) (R : TR [(false, [.s])] → World → Prop) : Prop :=
alK [.int .i64 t0, .int .i64 t1, .int .i64 t2, .slice t3.1 t3.2.1 t3.2.2] T.ref21_Table w fun p1 w2 =>
drK w2 fun w3 =>
ld1 (.i .i64) p1 w3 fun x4 =>
ld1 (.i .i64) (p1.add 1) w3 fun x5 =>
clS Tryd.prog F.ref21_Date [.int .i64 x4] w3 false [(false, [.s])] fun r6 w7 =>
Hold [(6, (p1.add 1), (w3.cell? (p1.add 1)).getD undef), (1, p1, (w3.cell? p1).getD undef)] w7 ∧ (
saK ⟨#[115, 116, 97, 114, 116, 32]⟩ r6.1.1 (
saK (⟨#[115, 116, 97, 114, 116, 32]⟩ ++ r6.1.1) ⟨#[32]⟩ (
clS Tryd.prog F.strconv_Itoa [.int .i64 x5] w7 false [(false, [.s])] fun r8 w9 =>
Hold [(1, p1, (w3.cell? p1).getD undef)] w9 ∧ (
saK ((⟨#[115, 116, 97, 114, 116, 32]⟩ ++ r6.1.1) ++ ⟨#[32]⟩) r8.1.1 (
saK (((⟨#[115, 116, 97, 114, 116, 32]⟩ ++ r6.1.1) ++ ⟨#[32]⟩) ++ r8.1.1) ⟨#[10]⟩ (
ld1 .sl (p1.add 3) w9 fun x10 =>
LoopT (fun (self11 : ((ByteArray) × (Int) × Unit) → World → Prop) (z12 : (ByteArray) × (Int) × Unit) w13 => ∀ _ : Nat → Value,
brB (decide (z12.2.1 < (x10.2.1 : Int))) (
ixK x10.1 x10.2.1 z12.2.1 fun a14 =>
ldN [(.i .i64), (.i .i64)] (a14.add (z12.2.1.toNat * 2)) 0 w13 fun x15 =>
alK [.int .i64 0, .int .i64 0] T.ref21_Leap w13 fun p16 w17 =>
stN [.int .i64 x15.1, .int .i64 x15.2.1] p16 0 w17 fun w18 =>
CutT (fun (J19 : ((ByteArray) × Unit) → World → Prop) =>
ld1 (.i .i64) (p16.add 1) w18 fun x22 =>
brB (x22 == (Int.negSucc 0)) (
J19 (⟨#[32, 45, 49, 10]⟩, ()) w18) (
J19 (⟨#[32, 43, 49, 10]⟩, ()) w18)) (fun (z20 : (ByteArray) × Unit) w21 => ∀ _ : Nat → Value,
saK z12.1 ⟨#[108, 101, 97, 112, 32]⟩ (
ld1 (.i .i64) p16 w21 fun x23 =>
clS Tryd.prog F.ref21_Date [.int .i64 x23] w21 false [(false, [.s])] fun r24 w25 =>
saK (z12.1 ++ ⟨#[108, 101, 97, 112, 32]⟩) r24.1.1 (
saK ((z12.1 ++ ⟨#[108, 101, 97, 112, 32]⟩) ++ r24.1.1) z20.1 (
self11 (((z12.1 ++ ⟨#[108, 101, 97, 112, 32]⟩) ++ r24.1.1) ++ z20.1, IntKind.wrap .i64 (z12.2.1 + 1), ()) w25))))) (
saK z12.1 ⟨#[101, 110, 100, 32]⟩ (
ld1 (.i .i64) (p1.add 2) w13 fun x26 =>
clS Tryd.prog F.ref21_Date [.int .i64 x26] w13 false [(false, [.s])] fun r27 w28 =>
saK (z12.1 ++ ⟨#[101, 110, 100, 32]⟩) r27.1.1 (
saK ((z12.1 ++ ⟨#[101, 110, 100, 32]⟩) ++ r27.1.1) ⟨#[10]⟩ (
R ((((z12.1 ++ ⟨#[101, 110, 100, 32]⟩) ++ r27.1.1) ++ ⟨#[10]⟩, ()), ()) w28))))) ((((⟨#[115, 116, 97, 114, 116, 32]⟩ ++ r6.1.1) ++ ⟨#[32]⟩) ++ r8.1.1) ++ ⟨#[10]⟩, 0, ()) w9))))))
set_option maxRecDepth 100000 in
theorem ref21_Text.eq (t0 : Int) (t1 : Int) (t2 : Int) (t3 : Option Addr × Nat × Nat) (w : World) (R : Value → World → Prop) : wpF Tryd.prog Tryd.f16 (.s .n (.s (.pl (.tk 0 (.tk 1 (.tk 5 (.tk 6 (.ef 2 [] (.tk 3 (.tk 4 (.ef 7 [6] (.tk 8 (.tk 9 (.tk 10 .z)))))))))))) (.s (.s .n (.lp [(3, .s), (20, (.i .i64))] (.s .n (.s .n (.s (.s .n (.s .n (.ct [(6, .s)] .n .n))) .n))))) .n))) [.agg #[.int .i64 t0, .int .i64 t1, .int .i64 t2, .slice t3.1 t3.2.1 t3.2.2]] w R = ref21_Text.wp t0 t1 t2 t3 w (fun r w => R (encR false [(false, [.s])] r) w) := by kernel_rfl
set_option maxRecDepth 100000 in
theorem ref21_Text.ok {t0 : Int} {t1 : Int} {t2 : Int} {t3 : Option Addr × Nat × Nat} {w : World} {R : TR [(false, [.s])] → World → Prop} (h : ref21_Text.wp t0 t1 t2 t3 w R) : clS Tryd.prog F.ref21_Text [.agg #[.int .i64 t0, .int .i64 t1, .int .i64 t2, .slice t3.1 t3.2.1 t3.2.2]] w false [(false, [.s])] R :=
  ok_of Tryd_follows Tryd.func16 (fun R => ref21_Text.wp t0 t1 t2 t3 w R) (ref21_Text.eq t0 t1 t2 t3 w) rfl h
/-! ### ref21_Fault -/
set_option maxRecDepth 100000 in
def ref21_Fault.wp (t0 : Int) (t1 : Int) (t2 : Int) (t3 : Option Addr × Nat × Nat) (w : World) (R : TR [(false, [(.i .i64)])] → World → Prop) : Prop :=
alK [.int .i64 t0, .int .i64 t1, .int .i64 t2, .slice t3.1 t3.2.1 t3.2.2] T.ref21_Table w fun p1 w2 =>
ld1 (.i .i64) p1 w2 fun x3 =>
brB (decide (x3 < (Int.negSucc 719161))) (
R ((1, ()), ()) w2) (
ld1 (.i .i64) p1 w2 fun x4 =>
brB (decide (x4 > 2932896)) (
R ((1, ()), ()) w2) (
ld1 (.i .i64) (p1.add 2) w2 fun x5 =>
brB (decide (x5 < (Int.negSucc 719161))) (
R ((1, ()), ()) w2) (
ld1 (.i .i64) (p1.add 2) w2 fun x6 =>
brB (decide (x6 > 2932896)) (
R ((1, ()), ()) w2) (
ld1 (.i .i64) p1 w2 fun x7 =>
ld1 (.i .i64) (p1.add 2) w2 fun x8 =>
brB (decide (x7 ≥ x8)) (
R ((1, ()), ()) w2) (
ld1 (.i .i64) (p1.add 1) w2 fun x9 =>
brB (decide (x9 < 0)) (
R ((1, ()), ()) w2) (
ld1 (.i .i64) (p1.add 1) w2 fun x10 =>
brB (decide (x10 > 99)) (
R ((1, ()), ()) w2) (
ld1 .sl (p1.add 3) w2 fun x11 =>
LoopT (fun (self12 : ((Int) × Unit) → World → Prop) (z13 : (Int) × Unit) w14 => ∀ _ : Nat → Value,
brB (decide (z13.1 < (x11.2.1 : Int))) (
ixK x11.1 x11.2.1 z13.1 fun a15 =>
ldN [(.i .i64), (.i .i64)] (a15.add (z13.1.toNat * 2)) 0 w14 fun x16 =>
alK [.int .i64 0, .int .i64 0] T.ref21_Leap w14 fun p17 w18 =>
stN [.int .i64 x16.1, .int .i64 x16.2.1] p17 0 w18 fun w19 =>
ld1 (.i .i64) (p17.add 1) w19 fun x20 =>
brB (x20 != 1) (
ld1 (.i .i64) (p17.add 1) w19 fun x21 =>
brB (x21 != (Int.negSucc 0)) (
R ((1, ()), ()) w19) (
self12 (IntKind.wrap .i64 (z13.1 + 1), ()) w19)) (
self12 (IntKind.wrap .i64 (z13.1 + 1), ()) w19)) (
ld1 .sl (p1.add 3) w14 fun x22 =>
brB (decide ((x22.2.1 : Int) > 64)) (
R ((6, ()), ()) w14) (
ld1 .sl (p1.add 3) w14 fun x23 =>
LoopT (fun (self24 : ((Int) × Unit) → World → Prop) (z25 : (Int) × Unit) w26 => ∀ _ : Nat → Value,
brB (decide (z25.1 < (x23.2.1 : Int))) (
ixK x23.1 x23.2.1 z25.1 fun a27 =>
ldN [(.i .i64), (.i .i64)] (a27.add (z25.1.toNat * 2)) 0 w26 fun x28 =>
alK [.int .i64 0, .int .i64 0] T.ref21_Leap w26 fun p29 w30 =>
stN [.int .i64 x28.1, .int .i64 x28.2.1] p29 0 w30 fun w31 =>
drK w31 fun w32 =>
ld1 (.i .i64) p29 w32 fun x33 =>
ld1 (.i .i64) p1 w32 fun x34 =>
brB (decide (x33 < x34)) (
R ((12, ()), ()) w32) (
ld1 (.i .i64) p29 w32 fun x35 =>
ld1 (.i .i64) (p1.add 2) w32 fun x36 =>
brB (decide (x35 ≥ x36)) (
R ((12, ()), ()) w32) (
brB (decide (z25.1 > 0)) (
ld1 (.i .i64) p29 w32 fun x37 =>
ld1 .sl (p1.add 3) w32 fun x38 =>
ixK x38.1 x38.2.1 (IntKind.wrap .i64 (z25.1 - 1)) fun a39 =>
ld1 (.i .i64) (a39.add ((IntKind.wrap .i64 (z25.1 - 1)).toNat * 2)) w32 fun x40 =>
brB (decide (x37 ≤ x40)) (
R ((12, ()), ()) w32) (
self24 (IntKind.wrap .i64 (z25.1 + 1), ()) w32)) (
self24 (IntKind.wrap .i64 (z25.1 + 1), ()) w32)))) (
R ((0, ()), ()) w26)) (0, ()) w14))) (0, ()) w2)))))))
set_option maxRecDepth 100000 in
theorem ref21_Fault.eq (t0 : Int) (t1 : Int) (t2 : Int) (t3 : Option Addr × Nat × Nat) (w : World) (R : Value → World → Prop) : wpF Tryd.prog Tryd.f17 (.s .n (.s .n (.s (.s .n (.lp [(45, (.i .i64))] .n)) (.s .n (.s (.s .n (.lp [(65, (.i .i64))] (.s .n (.s .n (.s (.s .n (.s (.pl (.tk 0 (.tk 1 (.tk 2 (.tk 3 (.tk 4 (.tk 5 (.tk 6 (.tk 7 (.tk 8 (.tk 9 (.tk 10 (.tk 11 (.tk 12 (.tk 13 (.tk 14 (.tk 15 (.tk 16 (.tk 17 (.tk 18 (.tk 19 (.tk 20 (.tk 21 (.tk 22 (.tk 23 (.tk 24 (.tk 25 (.tk 26 (.tk 27 .z))))))))))))))))))))))))))))) .n)) .n))))) .n))))) [.agg #[.int .i64 t0, .int .i64 t1, .int .i64 t2, .slice t3.1 t3.2.1 t3.2.2]] w R = ref21_Fault.wp t0 t1 t2 t3 w (fun r w => R (encR false [(false, [(.i .i64)])] r) w) := by kernel_rfl
set_option maxRecDepth 100000 in
theorem ref21_Fault.ok {t0 : Int} {t1 : Int} {t2 : Int} {t3 : Option Addr × Nat × Nat} {w : World} {R : TR [(false, [(.i .i64)])] → World → Prop} (h : ref21_Fault.wp t0 t1 t2 t3 w R) : clS Tryd.prog F.ref21_Fault [.agg #[.int .i64 t0, .int .i64 t1, .int .i64 t2, .slice t3.1 t3.2.1 t3.2.2]] w false [(false, [(.i .i64)])] R :=
  ok_of Tryd_follows Tryd.func17 (fun R => ref21_Fault.wp t0 t1 t2 t3 w R) (ref21_Fault.eq t0 t1 t2 t3 w) rfl h
/-! ### ref21_Pieces -/
set_option maxRecDepth 100000 in
def ref21_Pieces.wp (s : ByteArray) (at_ : Int) (w : World) (R : TR [(false, [.sl])] → World → Prop) : Prop :=
LoopT (fun (self1 : ((Option Addr × Nat × Nat) × (Int) × (Int) × Unit) → World → Prop) (z2 : (Option Addr × Nat × Nat) × (Int) × (Int) × Unit) w3 => ∀ _ : Nat → Value,
brB (decide (z2.2.2.1 ≤ (s.size : Int))) (
CutT (fun (J4 : ((Bool) × Unit) → World → Prop) =>
brB (z2.2.2.1 == (s.size : Int)) (
J4 (true, ()) w3) (
siK s z2.2.2.1 fun c7 =>
J4 ((c7 == at_), ()) w3)) (fun (z5 : (Bool) × Unit) w6 => ∀ _ : Nat → Value,
brB z5.1 (
slK z2.2.1 z2.2.2.1 s.size (
alK [.string (s.extract (Int.toNat z2.2.1) (Int.toNat z2.2.2.1))] T.string w6 fun p8 w9 =>
slOf ((Builtin.append_ #[T.sl_string, T.sl_string] T.sl_string #[.slice z2.1.1 z2.1.2.1 z2.1.2.2, .slice (some p8) 1 1]).run Tryd.prog w9) fun y10 w11 =>
self1 ((y10.1, y10.2.1, y10.2.2), IntKind.wrap .i64 (z2.2.2.1 + 1), IntKind.wrap .i64 (z2.2.2.1 + 1), ()) w11)) (
self1 ((z2.1.1, z2.1.2.1, z2.1.2.2), z2.2.1, IntKind.wrap .i64 (z2.2.2.1 + 1), ()) w6))) (
R (((z2.1.1, z2.1.2.1, z2.1.2.2), ()), ()) w3)) ((none, 0, 0), 0, 0, ()) w
set_option maxRecDepth 100000 in
theorem ref21_Pieces.eq (s : ByteArray) (at_ : Int) (w : World) (R : Value → World → Prop) : wpF Tryd.prog Tryd.f18 (.s .n (.s .n (.s .n (.s (.s .n (.lp [(5, .sl), (6, (.i .i64)), (7, (.i .i64))] (.s .n (.s (.ct [(24, .b)] .n .n) .n)))) .n)))) [.string s, .int .u8 at_] w R = ref21_Pieces.wp s at_ w (fun r w => R (encR false [(false, [.sl])] r) w) := by kernel_rfl
set_option maxRecDepth 100000 in
theorem ref21_Pieces.ok {s : ByteArray} {at_ : Int} {w : World} {R : TR [(false, [.sl])] → World → Prop} (h : ref21_Pieces.wp s at_ w R) : clS Tryd.prog F.ref21_Pieces [.string s, .int .u8 at_] w false [(false, [.sl])] R :=
  ok_of Tryd_follows Tryd.func18 (fun R => ref21_Pieces.wp s at_ w R) (ref21_Pieces.eq s at_ w) rfl h
/-! ### leap_Make -/
set_option maxRecDepth 100000 in
def leap_Make.wp (start : Int) (ahead : Int) (end_ : Int) (leaps : Option Addr × Nat × Nat) (w : World) (R : TR [(false, [.p]), (false, [(.i .i64)])] → World → Prop) : Prop :=
clS Tryd.prog F.leap_day [.int .i64 start] w false [(false, [.b])] fun r1 w2 =>
brB (!r1.1.1) (
R ((none, ()), (1, ()), ()) w2) (
clS Tryd.prog F.leap_day [.int .i64 end_] w2 false [(false, [.b])] fun r3 w4 =>
brB (!r3.1.1) (
R ((none, ()), (1, ()), ()) w4) (
brB (decide (start ≥ end_)) (
R ((none, ()), (1, ()), ()) w4) (
brB (decide (ahead < 0)) (
R ((none, ()), (1, ()), ()) w4) (
brB (decide (ahead > 99)) (
R ((none, ()), (1, ()), ()) w4) (
clS Tryd.prog F.slices_ContainsFunc_leap_Leap_leap_Leap [.slice leaps.1 leaps.2.1 leaps.2.2, .func (.func F.leap_Make_1) #[] #[]] w4 false [(false, [.b])] fun r5 w6 =>
brB r5.1.1 (
R ((none, ()), (1, ()), ()) w6) (
brB (decide ((leaps.2.1 : Int) > 64)) (
R ((none, ()), (6, ()), ()) w6) (
LoopT (fun (self7 : ((Int) × (Int) × Unit) → World → Prop) (z8 : (Int) × (Int) × Unit) w9 => ∀ _ : Nat → Value,
brB (decide (z8.2.1 < (leaps.2.1 : Int))) (
ixK leaps.1 leaps.2.1 z8.2.1 fun a10 =>
ldN [(.i .i64), (.i .i64)] (a10.add (z8.2.1.toNat * 2)) 0 w9 fun x11 =>
alK [.int .i64 0, .int .i64 0] T.leap_Leap w9 fun p12 w13 =>
stN [.int .i64 x11.1, .int .i64 x11.2.1] p12 0 w13 fun w14 =>
ld1 (.i .i64) p12 w14 fun x15 =>
brB (decide (x15 ≤ z8.1)) (
R ((none, ()), (12, ()), ()) w14) (
ld1 (.i .i64) p12 w14 fun x16 =>
brB (decide (x16 ≥ end_)) (
R ((none, ()), (12, ()), ()) w14) (
ld1 (.i .i64) p12 w14 fun x17 =>
self7 (x17, IntKind.wrap .i64 (z8.2.1 + 1), ()) w14))) (
clS Tryd.prog F.slices_Clone_leap_Leap_leap_Leap [.slice leaps.1 leaps.2.1 leaps.2.2] w9 false [(false, [.sl])] fun r18 w19 =>
alK [.int .i64 start, .int .i64 ahead, .int .i64 end_, .slice r18.1.1.1 r18.1.1.2.1 r18.1.1.2.2] T.leap_Table w19 fun p20 w21 =>
R ((some p20, ()), (0, ()), ()) w21)) (IntKind.wrap .i64 (start - 1), 0, ()) w6)))))))
set_option maxRecDepth 100000 in
theorem leap_Make.eq (start : Int) (ahead : Int) (end_ : Int) (leaps : Option Addr × Nat × Nat) (w : World) (R : Value → World → Prop) : wpF Tryd.prog Tryd.f19 (.s .n (.s .n (.s .n (.s .n (.s .n (.s (.s .n (.lp [(10, (.i .i64)), (43, (.i .i64))] .n)) .n)))))) [.int .i64 start, .int .i64 ahead, .int .i64 end_, .slice leaps.1 leaps.2.1 leaps.2.2] w R = leap_Make.wp start ahead end_ leaps w (fun r w => R (encR true [(false, [.p]), (false, [(.i .i64)])] r) w) := by kernel_rfl
set_option maxRecDepth 100000 in
theorem leap_Make.ok {start : Int} {ahead : Int} {end_ : Int} {leaps : Option Addr × Nat × Nat} {w : World} {R : TR [(false, [.p]), (false, [(.i .i64)])] → World → Prop} (h : leap_Make.wp start ahead end_ leaps w R) : clS Tryd.prog F.leap_Make [.int .i64 start, .int .i64 ahead, .int .i64 end_, .slice leaps.1 leaps.2.1 leaps.2.2] w true [(false, [.p]), (false, [(.i .i64)])] R :=
  ok_of Tryd_follows Tryd.func19 (fun R => leap_Make.wp start ahead end_ leaps w R) (leap_Make.eq start ahead end_ leaps w) rfl h
/-! ### leap_Table_All -/
set_option maxRecDepth 100000 in
def leap_Table_All.wp (t : Option Addr) (w : World) (R : TR [(false, [.any])] → World → Prop) : Prop :=
brB (Option.isNone t) (
R ((.func (.func F.leap_Table_All_1) #[] #[], ()), ()) w) (
ncK t fun a1 =>
ld1 .sl (a1.add 3) w fun x2 =>
clS Tryd.prog F.slices_Values_leap_Leap_leap_Leap [.slice x2.1 x2.2.1 x2.2.2] w false [(false, [.any])] fun r3 w4 =>
R ((r3.1.1, ()), ()) w4)
set_option maxRecDepth 100000 in
theorem leap_Table_All.eq (t : Option Addr) (w : World) (R : Value → World → Prop) : wpF Tryd.prog Tryd.f20 .n [.pointer t] w R = leap_Table_All.wp t w (fun r w => R (encR false [(false, [.any])] r) w) := by kernel_rfl
set_option maxRecDepth 100000 in
theorem leap_Table_All.ok {t : Option Addr} {w : World} {R : TR [(false, [.any])] → World → Prop} (h : leap_Table_All.wp t w R) : clS Tryd.prog F.leap_Table_All [.pointer t] w false [(false, [.any])] R :=
  ok_of Tryd_follows Tryd.func20 (fun R => leap_Table_All.wp t w R) (leap_Table_All.eq t w) rfl h
/-! ### sort_Search_of_leap_Table_Step_1 -/
set_option maxRecDepth 100000 in
def sort_Search_of_leap_Table_Step_1.wp (n : Int) (f_c0 : Addr) (f_c1 : Addr) (w : World) (R : TR [(false, [(.i .i64)])] → World → Prop) : Prop :=
LoopT (fun (self1 : ((Int) × (Int) × Unit) → World → Prop) (z2 : (Int) × (Int) × Unit) w3 => ∀ _ : Nat → Value,
brB (decide (z2.1 < z2.2.1)) (
shK 1 (
clS Tryd.prog F.leap_Table_Step_1 [.int .i64 (IntKind.wrap .i64 (shrX .u64 (IntKind.wrap .u64 (IntKind.wrap .i64 (z2.1 + z2.2.1))) 1)), .pointer (some f_c0), .pointer (some f_c1)] w3 false [(false, [.b])] fun r4 w5 =>
brB (!r4.1.1) (
self1 (IntKind.wrap .i64 ((IntKind.wrap .i64 (shrX .u64 (IntKind.wrap .u64 (IntKind.wrap .i64 (z2.1 + z2.2.1))) 1)) + 1), z2.2.1, ()) w5) (
self1 (z2.1, IntKind.wrap .i64 (shrX .u64 (IntKind.wrap .u64 (IntKind.wrap .i64 (z2.1 + z2.2.1))) 1), ()) w5))) (
R ((z2.1, ()), ()) w3)) (0, n, ()) w
set_option maxRecDepth 100000 in
theorem sort_Search_of_leap_Table_Step_1.eq (n : Int) (f_c0 : Addr) (f_c1 : Addr) (w : World) (R : Value → World → Prop) : wpF Tryd.prog Tryd.f21 (.s .n (.s .n (.s (.lp [(5, (.i .i64)), (6, (.i .i64))] .n) .n))) [.int .i64 n, .func (.func F.leap_Table_Step_1) #[] #[.pointer (some f_c0), .pointer (some f_c1)]] w R = sort_Search_of_leap_Table_Step_1.wp n f_c0 f_c1 w (fun r w => R (encR false [(false, [(.i .i64)])] r) w) := by kernel_rfl
set_option maxRecDepth 100000 in
theorem sort_Search_of_leap_Table_Step_1.ok {n : Int} {f_c0 : Addr} {f_c1 : Addr} {w : World} {R : TR [(false, [(.i .i64)])] → World → Prop} (h : sort_Search_of_leap_Table_Step_1.wp n f_c0 f_c1 w R) : clS Tryd.prog F.sort_Search [.int .i64 n, .func (.func F.leap_Table_Step_1) #[] #[.pointer (some f_c0), .pointer (some f_c1)]] w false [(false, [(.i .i64)])] R :=
  ok_of Tryd_follows Tryd.func21 (fun R => sort_Search_of_leap_Table_Step_1.wp n f_c0 f_c1 w R) (sort_Search_of_leap_Table_Step_1.eq n f_c0 f_c1 w) rfl h
/-! ### leap_Table_Step_1 -/
set_option maxRecDepth 100000 in
def leap_Table_Step_1.wp (i : Int) (c_cap0 : Addr) (c_cap1 : Addr) (w : World) (R : TR [(false, [.b])] → World → Prop) : Prop :=
drK w fun w1 =>
ld1 .p c_cap0 w1 fun x2 =>
ncK x2 fun a3 =>
ld1 .sl (a3.add 3) w1 fun x4 =>
ixK x4.1 x4.2.1 i fun a5 =>
ld1 (.i .i64) (a5.add (i.toNat * 2)) w1 fun x6 =>
ld1 (.i .i64) c_cap1 w1 fun x7 =>
R ((decide (x6 ≥ x7), ()), ()) w1
set_option maxRecDepth 100000 in
theorem leap_Table_Step_1.eq (i : Int) (c_cap0 : Addr) (c_cap1 : Addr) (w : World) (R : Value → World → Prop) : wpF Tryd.prog Tryd.f22 (.s .n (.s (.pl (.tk 0 (.tk 1 (.tk 2 (.tk 3 (.tk 4 (.tk 5 (.tk 6 (.tk 7 (.tk 8 (.tk 9 (.tk 10 .z)))))))))))) .n)) [.int .i64 i, .pointer (some c_cap0), .pointer (some c_cap1)] w R = leap_Table_Step_1.wp i c_cap0 c_cap1 w (fun r w => R (encR false [(false, [.b])] r) w) := by kernel_rfl
set_option maxRecDepth 100000 in
theorem leap_Table_Step_1.ok {i : Int} {c_cap0 : Addr} {c_cap1 : Addr} {w : World} {R : TR [(false, [.b])] → World → Prop} (h : leap_Table_Step_1.wp i c_cap0 c_cap1 w R) : clS Tryd.prog F.leap_Table_Step_1 [.int .i64 i, .pointer (some c_cap0), .pointer (some c_cap1)] w false [(false, [.b])] R :=
  ok_of Tryd_follows Tryd.func22 (fun R => leap_Table_Step_1.wp i c_cap0 c_cap1 w R) (leap_Table_Step_1.eq i c_cap0 c_cap1 w) rfl h
/-! ### leap_Parse_1, no panic -/
set_option maxRecDepth 100000 in
def leap_Parse_1.wpN (c_cap0 : Addr) (c_cap1 : Addr) (c_cap2 : Addr) (w : World) (k : World → Prop) : Prop :=
ndK (k w)
set_option maxRecDepth 100000 in
theorem leap_Parse_1.eqN (c_cap0 : Addr) (c_cap1 : Addr) (c_cap2 : Addr) (w : World) (k : World → Prop) : wpFR Tryd.prog Tryd.f23 (.s .n .n) [.pointer (some c_cap0), .pointer (some c_cap1), .pointer (some c_cap2)] .nilIface w k = leap_Parse_1.wpN c_cap0 c_cap1 c_cap2 w k := by kernel_rfl
set_option maxRecDepth 100000 in
theorem leap_Parse_1.okN {c_cap0 : Addr} {c_cap1 : Addr} {c_cap2 : Addr} {w : World} {k : World → Prop} (h : leap_Parse_1.wpN c_cap0 c_cap1 c_cap2 w k) : clD Tryd.prog F.leap_Parse_1 [.pointer (some c_cap0), .pointer (some c_cap1), .pointer (some c_cap2)] (.returning) w fun u w' => u = (.returning : FrameMode) ∧ k w' :=
  wpFR_sound Tryd_follows Tryd.func23 (.s .n .n) (.inr ⟨rfl, rfl, rfl⟩) (by rw [leap_Parse_1.eqN]; exact h)
/-! ### leap_Parse_1, a panic -/
set_option maxRecDepth 100000 in
def leap_Parse_1.wpP (c_cap0 : Addr) (c_cap1 : Addr) (c_cap2 : Addr) (x0 : Int) (x1 : Int) (w : World) (k : World → Prop) : Prop :=
alK [.int .i64 0, .int .i64 0] T.leap_fault w fun p1 w2 =>
stN [.int .i64 x0, .int .i64 x1] p1 0 w2 fun w3 =>
drK w3 fun w4 =>
ld1 (.i .i64) (p1.add 1) w4 fun x5 =>
ld1 (.i .i64) p1 w4 fun x6 =>
stN [.pointer none] c_cap0 0 w4 fun w7 =>
Hold [(3, p1, (w4.cell? p1).getD undef), (1, (p1.add 1), (w4.cell? (p1.add 1)).getD undef)] w7 ∧ (
stN [.int .i64 x5] c_cap1 0 w7 fun w8 =>
Hold [(3, p1, (w4.cell? p1).getD undef)] w8 ∧ (
stN [.int .i64 x6] c_cap2 0 w8 fun w9 =>
Hold [] w9 ∧ (
ndK (k w9))))
set_option maxRecDepth 100000 in
theorem leap_Parse_1.eqP (c_cap0 : Addr) (c_cap1 : Addr) (c_cap2 : Addr) (x0 : Int) (x1 : Int) (w : World) (k : World → Prop) : wpFR Tryd.prog Tryd.f23 (.s .n (.s .n (.s (.s .n (.pl (.tk 0 (.tk 1 (.tk 2 (.tk 3 (.ef 4 [] (.ef 5 [1] (.ef 6 [3] .z))))))))) .n))) [.pointer (some c_cap0), .pointer (some c_cap1), .pointer (some c_cap2)] (.iface T.leap_fault (.agg #[.int .i64 x0, .int .i64 x1])) w k = leap_Parse_1.wpP c_cap0 c_cap1 c_cap2 x0 x1 w k := by kernel_rfl
set_option maxRecDepth 100000 in
theorem leap_Parse_1.okP {c_cap0 : Addr} {c_cap1 : Addr} {c_cap2 : Addr} {x0 : Int} {x1 : Int} {w : World} {k : World → Prop} (h : leap_Parse_1.wpP c_cap0 c_cap1 c_cap2 x0 x1 w k) : clD Tryd.prog F.leap_Parse_1 [.pointer (some c_cap0), .pointer (some c_cap1), .pointer (some c_cap2)] (.panicking [{ v := .iface T.leap_fault (.agg #[.int .i64 x0, .int .i64 x1]), recovered := false }]) w fun u w' => u = (.panicking [{ v := .iface T.leap_fault (.agg #[.int .i64 x0, .int .i64 x1]), recovered := true }] : FrameMode) ∧ k w' :=
  wpFR_sound Tryd_follows Tryd.func23 (.s .n (.s .n (.s (.s .n (.pl (.tk 0 (.tk 1 (.tk 2 (.tk 3 (.ef 4 [] (.ef 5 [1] (.ef 6 [3] .z))))))))) .n))) (.inl ⟨rfl, rfl⟩) (by rw [leap_Parse_1.eqP]; exact h)
/-! ### strings_Split -/
set_option maxRecDepth 100000 in
def strings_Split.wp (s : ByteArray) (sep : ByteArray) (w : World) (R : TR [(false, [.sl])] → World → Prop) : Prop :=
clS Tryd.prog F.strings_genSplit [.string s, .string sep, .int .i64 0, .int .i64 (Int.negSucc 0)] w false [(false, [.sl])] fun r1 w2 =>
R (((r1.1.1.1, r1.1.1.2.1, r1.1.1.2.2), ()), ()) w2
set_option maxRecDepth 100000 in
theorem strings_Split.eq (s : ByteArray) (sep : ByteArray) (w : World) (R : Value → World → Prop) : wpF Tryd.prog Tryd.f24 .n [.string s, .string sep] w R = strings_Split.wp s sep w (fun r w => R (encR false [(false, [.sl])] r) w) := by kernel_rfl
set_option maxRecDepth 100000 in
theorem strings_Split.ok {s : ByteArray} {sep : ByteArray} {w : World} {R : TR [(false, [.sl])] → World → Prop} (h : strings_Split.wp s sep w R) : clS Tryd.prog F.strings_Split [.string s, .string sep] w false [(false, [.sl])] R :=
  ok_of Tryd_follows Tryd.func24 (fun R => strings_Split.wp s sep w R) (strings_Split.eq s sep w) rfl h
/-! ### leap_reader_read -/
set_option maxRecDepth 100000 in
def leap_reader_read.wp (r : Option Addr) (s : ByteArray) (w : World) (R : TR [] → World → Prop) (Z : Value → World → Prop) : Prop :=
ncK r fun a1 =>
ld1 (.i .i64) a1 w fun x2 =>
ncK r fun a3 =>
stN [.int .i64 (IntKind.wrap .i64 (x2 + 1))] a3 0 w fun w4 =>
brB (s == ⟨#[]⟩) (
R (()) w4) (
siK s 0 fun c5 =>
brB (c5 == 35) (
R (()) w4) (
clS Tryd.prog F.strings_Split [.string s, .string ⟨#[32]⟩] w4 false [(false, [.sl])] fun r6 w7 =>
ncK r fun a8 =>
ld1 (.i .i64) (a8.add 1) w7 fun x9 =>
brB (x9 == 0) (
clE Tryd.prog F.leap_reader_first [.pointer r, .slice r6.1.1.1 r6.1.1.2.1 r6.1.1.2.2] w7 true [] (fun r10 w11 =>
R (()) w11) (fun (v12 : Value) w13 =>
Z v12 w13)) (
CutT (fun (J14 : ((Bool) × Unit) → World → Prop) =>
ncK r fun a17 =>
ld1 (.i .i64) (a17.add 1) w7 fun x18 =>
brB (x18 == 1) (
ixK r6.1.1.1 r6.1.1.2.1 0 fun a19 =>
ld1 .s (a19.add ((0 : Int).toNat * 1)) w7 fun x20 =>
J14 ((x20 == ⟨#[108, 101, 97, 112]⟩), ()) w7) (
J14 (false, ()) w7)) (fun (z15 : (Bool) × Unit) w16 => ∀ _ : Nat → Value,
brB z15.1 (
clE Tryd.prog F.leap_reader_leap [.pointer r, .slice r6.1.1.1 r6.1.1.2.1 r6.1.1.2.2] w16 true [] (fun r21 w22 =>
R (()) w22) (fun (v23 : Value) w24 =>
Z v23 w24)) (
ncK r fun a25 =>
ld1 (.i .i64) (a25.add 1) w16 fun x26 =>
brB (x26 == 1) (
clE Tryd.prog F.leap_reader_last [.pointer r, .slice r6.1.1.1 r6.1.1.2.1 r6.1.1.2.2] w16 true [] (fun r27 w28 =>
R (()) w28) (fun (v29 : Value) w30 =>
Z v29 w30)) (
clE Tryd.prog F.leap_reader_fail [.pointer r, .int .i64 3] w16 true [] (fun r31 w32 =>
R (()) w32) (fun (v33 : Value) w34 =>
Z v33 w34)))))))
set_option maxRecDepth 100000 in
theorem leap_reader_read.eq (r : Option Addr) (s : ByteArray) (w : World) (R : Value → World → Prop) (Z : Value → World → Prop) : wpFZ Tryd.prog Tryd.f25 (.s .n (.s .n (.s .n (.s .n (.s .pz (.ct [(32, .b)] .n (.s .pz (.s .n (.s .pz .pz))))))))) [.pointer r, .string s] w R Z = leap_reader_read.wp r s w (fun r w => R (encR true [] r) w) Z := by kernel_rfl
set_option maxRecDepth 100000 in
theorem leap_reader_read.ok {r : Option Addr} {s : ByteArray} {w : World} {R : TR [] → World → Prop} {Z : Value → World → Prop} (h : leap_reader_read.wp r s w R Z) : clE Tryd.prog F.leap_reader_read [.pointer r, .string s] w true [] R Z :=
  ok_ofZ Tryd_follows Tryd.func25 (fun R Z => leap_reader_read.wp r s w R Z) (leap_reader_read.eq r s w) rfl h
/-! ### leap_reader_fail -/
set_option maxRecDepth 100000 in
def leap_reader_fail.wp (r : Option Addr) (e : Int) (w : World) (R : TR [] → World → Prop) (Z : Value → World → Prop) : Prop :=
ncK r fun a1 =>
ld1 (.i .i64) a1 w fun x2 =>
Z (.iface T.leap_fault (.agg #[.int .i64 e, .int .i64 x2])) w
set_option maxRecDepth 100000 in
theorem leap_reader_fail.eq (r : Option Addr) (e : Int) (w : World) (R : Value → World → Prop) (Z : Value → World → Prop) : wpFZ Tryd.prog Tryd.f26 .pz [.pointer r, .int .i64 e] w R Z = leap_reader_fail.wp r e w (fun r w => R (encR true [] r) w) Z := by kernel_rfl
set_option maxRecDepth 100000 in
theorem leap_reader_fail.ok {r : Option Addr} {e : Int} {w : World} {R : TR [] → World → Prop} {Z : Value → World → Prop} (h : leap_reader_fail.wp r e w R Z) : clE Tryd.prog F.leap_reader_fail [.pointer r, .int .i64 e] w true [] R Z :=
  ok_ofZ Tryd_follows Tryd.func26 (fun R Z => leap_reader_fail.wp r e w R Z) (leap_reader_fail.eq r e w) rfl h
/-! ### ref21_day -/
set_option maxRecDepth 100000 in
def ref21_day.wp (s : ByteArray) (w : World) (R : TR [(false, [(.i .i64)]), (false, [.b])] → World → Prop) : Prop :=
clS Tryd.prog F.ref20_Parse [.string s] w true [(true, [(.i .i64), (.i .i64), (.i .i64)]), (false, [.b])] fun r1 w2 =>
alK [.int .i64 0, .int .i64 0, .int .i64 0] T.ref20_Date w2 fun p3 w4 =>
stN [.int .i64 r1.1.1, .int .i64 r1.1.2.1, .int .i64 r1.1.2.2.1] p3 0 w4 fun w5 =>
brB (!r1.2.1.1) (
R ((0, ()), (false, ()), ()) w5) (
ldN [(.i .i64), (.i .i64), (.i .i64)] p3 0 w5 fun x6 =>
clS Tryd.prog F.ref20_Number [.agg #[.int .i64 x6.1, .int .i64 x6.2.1, .int .i64 x6.2.2.1]] w5 false [(false, [(.i .i64)])] fun r7 w8 =>
R ((r7.1.1, ()), (true, ()), ()) w8)
set_option maxRecDepth 100000 in
theorem ref21_day.eq (s : ByteArray) (w : World) (R : Value → World → Prop) : wpF Tryd.prog Tryd.f27 .n [.string s] w R = ref21_day.wp s w (fun r w => R (encR true [(false, [(.i .i64)]), (false, [.b])] r) w) := by kernel_rfl
set_option maxRecDepth 100000 in
theorem ref21_day.ok {s : ByteArray} {w : World} {R : TR [(false, [(.i .i64)]), (false, [.b])] → World → Prop} (h : ref21_day.wp s w R) : clS Tryd.prog F.ref21_day [.string s] w true [(false, [(.i .i64)]), (false, [.b])] R :=
  ok_of Tryd_follows Tryd.func27 (fun R => ref21_day.wp s w R) (ref21_day.eq s w) rfl h
/-! ### ref21_small -/
set_option maxRecDepth 100000 in
def ref21_small.wp (s : ByteArray) (w : World) (R : TR [(false, [(.i .i64)])] → World → Prop) : Prop :=
LoopT (fun (self1 : ((Int) × Unit) → World → Prop) (z2 : (Int) × Unit) w3 => ∀ _ : Nat → Value,
brB (decide (z2.1 < 100)) (
clS Tryd.prog F.strconv_Itoa [.int .i64 z2.1] w3 false [(false, [.s])] fun r4 w5 =>
brB (r4.1.1 == s) (
R ((z2.1, ()), ()) w5) (
self1 (IntKind.wrap .i64 (z2.1 + 1), ()) w5)) (
R (((Int.negSucc 0), ()), ()) w3)) (0, ()) w
set_option maxRecDepth 100000 in
theorem ref21_small.eq (s : ByteArray) (w : World) (R : Value → World → Prop) : wpF Tryd.prog Tryd.f28 (.s .n (.s (.s .n (.lp [(3, (.i .i64))] .n)) .n)) [.string s] w R = ref21_small.wp s w (fun r w => R (encR false [(false, [(.i .i64)])] r) w) := by kernel_rfl
set_option maxRecDepth 100000 in
theorem ref21_small.ok {s : ByteArray} {w : World} {R : TR [(false, [(.i .i64)])] → World → Prop} (h : ref21_small.wp s w R) : clS Tryd.prog F.ref21_small [.string s] w false [(false, [(.i .i64)])] R :=
  ok_of Tryd_follows Tryd.func28 (fun R => ref21_small.wp s w R) (ref21_small.eq s w) rfl h
/-! ### leap_Table_Range -/
set_option maxRecDepth 100000 in
def leap_Table_Range.wp (t : Option Addr) (w : World) (R : TR [(false, [(.i .i64)]), (false, [(.i .i64)])] → World → Prop) : Prop :=
brB (Option.isNone t) (
R ((0, ()), (0, ()), ()) w) (
drK w fun w1 =>
ncK t fun a2 =>
ld1 (.i .i64) a2 w1 fun x3 =>
ncK t fun a4 =>
ld1 (.i .i64) (a4.add 2) w1 fun x5 =>
R ((x3, ()), (x5, ()), ()) w1)
set_option maxRecDepth 100000 in
theorem leap_Table_Range.eq (t : Option Addr) (w : World) (R : Value → World → Prop) : wpF Tryd.prog Tryd.f29 (.s .n (.s .n (.s (.pl (.tk 0 (.tk 1 (.tk 2 (.tk 3 (.tk 4 (.tk 5 (.tk 6 (.tk 7 (.tk 8 (.tk 9 .z))))))))))) .n))) [.pointer t] w R = leap_Table_Range.wp t w (fun r w => R (encR true [(false, [(.i .i64)]), (false, [(.i .i64)])] r) w) := by kernel_rfl
set_option maxRecDepth 100000 in
theorem leap_Table_Range.ok {t : Option Addr} {w : World} {R : TR [(false, [(.i .i64)]), (false, [(.i .i64)])] → World → Prop} (h : leap_Table_Range.wp t w R) : clS Tryd.prog F.leap_Table_Range [.pointer t] w true [(false, [(.i .i64)]), (false, [(.i .i64)])] R :=
  ok_of Tryd_follows Tryd.func29 (fun R => leap_Table_Range.wp t w R) (leap_Table_Range.eq t w) rfl h
/-! ### strings_Builder_WriteString -/
set_option maxRecDepth 100000 in
def strings_Builder_WriteString.wp (b : Option Addr) (s : ByteArray) (w : World) (R : TR [(false, [(.i .i64)]), (false, [.any])] → World → Prop) : Prop :=
clS Tryd.prog F.strings_Builder_copyCheck [.pointer b] w true [] fun r1 w2 =>
ncK b fun a3 =>
ld1 .sl (a3.add 1) w2 fun x4 =>
slOf ((Builtin.append_ #[T.sl_uint8, T.string] T.sl_uint8 #[.slice x4.1 x4.2.1 x4.2.2, .string s]).run Tryd.prog w2) fun y5 w6 =>
ncK b fun a7 =>
stN [.slice y5.1 y5.2.1 y5.2.2] (a7.add 1) 0 w6 fun w8 =>
R (((s.size : Int), ()), (.nilIface, ()), ()) w8
set_option maxRecDepth 100000 in
theorem strings_Builder_WriteString.eq (b : Option Addr) (s : ByteArray) (w : World) (R : Value → World → Prop) : wpF Tryd.prog Tryd.f30 .n [.pointer b, .string s] w R = strings_Builder_WriteString.wp b s w (fun r w => R (encR true [(false, [(.i .i64)]), (false, [.any])] r) w) := by kernel_rfl
set_option maxRecDepth 100000 in
theorem strings_Builder_WriteString.ok {b : Option Addr} {s : ByteArray} {w : World} {R : TR [(false, [(.i .i64)]), (false, [.any])] → World → Prop} (h : strings_Builder_WriteString.wp b s w R) : clS Tryd.prog F.strings_Builder_WriteString [.pointer b, .string s] w true [(false, [(.i .i64)]), (false, [.any])] R :=
  ok_of Tryd_follows Tryd.func30 (fun R => strings_Builder_WriteString.wp b s w R) (strings_Builder_WriteString.eq b s w) rfl h
/-! ### leap_text -/
set_option maxRecDepth 100000 in
def leap_text.wp (day : Int) (w : World) (R : TR [(false, [.s])] → World → Prop) : Prop :=
clS Tryd.prog F.civil_Of [.int .i64 day] w true [(true, [(.i .i64), (.i .i64), (.i .i64)]), (false, [.b])] fun r1 w2 =>
alK [.int .i64 0, .int .i64 0, .int .i64 0] T.civil_Date w2 fun p3 w4 =>
stN [.int .i64 r1.1.1, .int .i64 r1.1.2.1, .int .i64 r1.1.2.2.1] p3 0 w4 fun w5 =>
ldN [(.i .i64), (.i .i64), (.i .i64)] p3 0 w5 fun x6 =>
clS Tryd.prog F.civil_Date_Text [.agg #[.int .i64 x6.1, .int .i64 x6.2.1, .int .i64 x6.2.2.1]] w5 false [(false, [.s])] fun r7 w8 =>
R ((r7.1.1, ()), ()) w8
set_option maxRecDepth 100000 in
theorem leap_text.eq (day : Int) (w : World) (R : Value → World → Prop) : wpF Tryd.prog Tryd.f31 .n [.int .i64 day] w R = leap_text.wp day w (fun r w => R (encR false [(false, [.s])] r) w) := by kernel_rfl
set_option maxRecDepth 100000 in
theorem leap_text.ok {day : Int} {w : World} {R : TR [(false, [.s])] → World → Prop} (h : leap_text.wp day w R) : clS Tryd.prog F.leap_text [.int .i64 day] w false [(false, [.s])] R :=
  ok_of Tryd_follows Tryd.func31 (fun R => leap_text.wp day w R) (leap_text.eq day w) rfl h
/-! ### ref21_Date -/
set_option maxRecDepth 100000 in
def ref21_Date.wp (day : Int) (w : World) (R : TR [(false, [.s])] → World → Prop) : Prop :=
alK [.int .i64 0, .int .i64 0, .int .i64 0] T.ref20_Date w fun p1 w2 =>
stN [.int .i64 1, .int .i64 1, .int .i64 1] p1 0 w2 fun w3 =>
LoopT (fun (self4 : ((Int) × Unit) → World → Prop) (z5 : (Int) × Unit) w6 => ∀ _ : Nat → Value,
brB (decide ((IntKind.wrap .i64 (z5.1 + 146097)) ≤ day)) (
ld1 (.i .i64) p1 w6 fun x7 =>
stN [.int .i64 (IntKind.wrap .i64 (x7 + 400))] p1 0 w6 fun w8 =>
self4 (IntKind.wrap .i64 (z5.1 + 146097), ()) w8) (
LoopT (fun (self9 : ((Int) × Unit) → World → Prop) (z10 : (Int) × Unit) w11 => ∀ _ : Nat → Value,
brB (decide ((IntKind.wrap .i64 (z10.1 + 366)) ≤ day)) (
ld1 (.i .i64) p1 w11 fun x12 =>
clS Tryd.prog F.ref20_Long [.int .i64 x12] w11 false [(false, [.b])] fun r13 w14 =>
brB r13.1.1 (
ld1 (.i .i64) p1 w14 fun x15 =>
stN [.int .i64 (IntKind.wrap .i64 (x15 + 1))] p1 0 w14 fun w16 =>
self9 (IntKind.wrap .i64 ((IntKind.wrap .i64 (z10.1 + 365)) + 1), ()) w16) (
ld1 (.i .i64) p1 w14 fun x17 =>
stN [.int .i64 (IntKind.wrap .i64 (x17 + 1))] p1 0 w14 fun w18 =>
self9 (IntKind.wrap .i64 (z10.1 + 365), ()) w18)) (
LoopT (fun (self19 : ((Int) × Unit) → World → Prop) (z20 : (Int) × Unit) w21 => ∀ _ : Nat → Value,
brB (decide (z20.1 < day)) (
ldN [(.i .i64), (.i .i64), (.i .i64)] p1 0 w21 fun x22 =>
clS Tryd.prog F.ref20_Next [.agg #[.int .i64 x22.1, .int .i64 x22.2.1, .int .i64 x22.2.2.1]] w21 false [(true, [(.i .i64), (.i .i64), (.i .i64)])] fun r23 w24 =>
stN [.int .i64 r23.1.1, .int .i64 r23.1.2.1, .int .i64 r23.1.2.2.1] p1 0 w24 fun w25 =>
self19 (IntKind.wrap .i64 (z20.1 + 1), ()) w25) (
ldN [(.i .i64), (.i .i64), (.i .i64)] p1 0 w21 fun x26 =>
clS Tryd.prog F.ref20_Text [.agg #[.int .i64 x26.1, .int .i64 x26.2.1, .int .i64 x26.2.2.1]] w21 false [(false, [.s])] fun r27 w28 =>
R ((r27.1.1, ()), ()) w28)) (z10.1, ()) w11)) (z5.1, ()) w6)) ((Int.negSucc 719161), ()) w3
set_option maxRecDepth 100000 in
theorem ref21_Date.eq (day : Int) (w : World) (R : Value → World → Prop) : wpF Tryd.prog Tryd.f34 (.s .n (.s .n (.s .n (.s (.lp [(4, (.i .i64))] .n) (.s (.lp [(4, (.i .i64))] .n) (.s (.lp [(4, (.i .i64))] .n) .n)))))) [.int .i64 day] w R = ref21_Date.wp day w (fun r w => R (encR false [(false, [.s])] r) w) := by kernel_rfl
set_option maxRecDepth 100000 in
theorem ref21_Date.ok {day : Int} {w : World} {R : TR [(false, [.s])] → World → Prop} (h : ref21_Date.wp day w R) : clS Tryd.prog F.ref21_Date [.int .i64 day] w false [(false, [.s])] R :=
  ok_of Tryd_follows Tryd.func34 (fun R => ref21_Date.wp day w R) (ref21_Date.eq day w) rfl h
/-! ### leap_day -/
set_option maxRecDepth 100000 in
def leap_day.wp (n : Int) (w : World) (R : TR [(false, [.b])] → World → Prop) : Prop :=
brB (decide (n ≥ (Int.negSucc 719161))) (
R ((decide (n ≤ 2932896), ()), ()) w) (
R ((false, ()), ()) w)
set_option maxRecDepth 100000 in
theorem leap_day.eq (n : Int) (w : World) (R : Value → World → Prop) : wpF Tryd.prog Tryd.f35 .n [.int .i64 n] w R = leap_day.wp n w (fun r w => R (encR false [(false, [.b])] r) w) := by kernel_rfl
set_option maxRecDepth 100000 in
theorem leap_day.ok {n : Int} {w : World} {R : TR [(false, [.b])] → World → Prop} (h : leap_day.wp n w R) : clS Tryd.prog F.leap_day [.int .i64 n] w false [(false, [.b])] R :=
  ok_of Tryd_follows Tryd.func35 (fun R => leap_day.wp n w R) (leap_day.eq n w) rfl h
/-! ### slices_ContainsFunc_leap_Leap_leap_Leap -/
set_option maxRecDepth 100000 in
def slices_ContainsFunc_leap_Leap_leap_Leap.wp (s : Option Addr × Nat × Nat) (f : Value) (w : World) (R : TR [(false, [.b])] → World → Prop) : Prop :=
clS Tryd.prog F.slices_IndexFunc_leap_Leap_leap_Leap [.slice s.1 s.2.1 s.2.2, f] w false [(false, [(.i .i64)])] fun r1 w2 =>
R ((decide (r1.1.1 ≥ 0), ()), ()) w2
set_option maxRecDepth 100000 in
theorem slices_ContainsFunc_leap_Leap_leap_Leap.eq (s : Option Addr × Nat × Nat) (f : Value) (w : World) (R : Value → World → Prop) : wpF Tryd.prog Tryd.f36 .n [.slice s.1 s.2.1 s.2.2, f] w R = slices_ContainsFunc_leap_Leap_leap_Leap.wp s f w (fun r w => R (encR false [(false, [.b])] r) w) := by kernel_rfl
set_option maxRecDepth 100000 in
theorem slices_ContainsFunc_leap_Leap_leap_Leap.ok {s : Option Addr × Nat × Nat} {f : Value} {w : World} {R : TR [(false, [.b])] → World → Prop} (h : slices_ContainsFunc_leap_Leap_leap_Leap.wp s f w R) : clS Tryd.prog F.slices_ContainsFunc_leap_Leap_leap_Leap [.slice s.1 s.2.1 s.2.2, f] w false [(false, [.b])] R :=
  ok_of Tryd_follows Tryd.func36 (fun R => slices_ContainsFunc_leap_Leap_leap_Leap.wp s f w R) (slices_ContainsFunc_leap_Leap_leap_Leap.eq s f w) rfl h
/-! ### slices_ContainsFunc_leap_Leap_leap_Leap_of_leap_Make_1 -/
set_option maxRecDepth 100000 in
def slices_ContainsFunc_leap_Leap_leap_Leap_of_leap_Make_1.wp (s : Option Addr × Nat × Nat) (w : World) (R : TR [(false, [.b])] → World → Prop) : Prop :=
clS Tryd.prog F.slices_IndexFunc_leap_Leap_leap_Leap [.slice s.1 s.2.1 s.2.2, .func (.func F.leap_Make_1) #[] #[]] w false [(false, [(.i .i64)])] fun r1 w2 =>
R ((decide (r1.1.1 ≥ 0), ()), ()) w2
set_option maxRecDepth 100000 in
theorem slices_ContainsFunc_leap_Leap_leap_Leap_of_leap_Make_1.eq (s : Option Addr × Nat × Nat) (w : World) (R : Value → World → Prop) : wpF Tryd.prog Tryd.f36 .n [.slice s.1 s.2.1 s.2.2, .func (.func F.leap_Make_1) #[] #[]] w R = slices_ContainsFunc_leap_Leap_leap_Leap_of_leap_Make_1.wp s w (fun r w => R (encR false [(false, [.b])] r) w) := by kernel_rfl
set_option maxRecDepth 100000 in
theorem slices_ContainsFunc_leap_Leap_leap_Leap_of_leap_Make_1.ok {s : Option Addr × Nat × Nat} {w : World} {R : TR [(false, [.b])] → World → Prop} (h : slices_ContainsFunc_leap_Leap_leap_Leap_of_leap_Make_1.wp s w R) : clS Tryd.prog F.slices_ContainsFunc_leap_Leap_leap_Leap [.slice s.1 s.2.1 s.2.2, .func (.func F.leap_Make_1) #[] #[]] w false [(false, [.b])] R :=
  ok_of Tryd_follows Tryd.func36 (fun R => slices_ContainsFunc_leap_Leap_leap_Leap_of_leap_Make_1.wp s w R) (slices_ContainsFunc_leap_Leap_leap_Leap_of_leap_Make_1.eq s w) rfl h
/-! ### leap_Make_1 -/
set_option maxRecDepth 100000 in
def leap_Make_1.wp (l0 : Int) (l1 : Int) (w : World) (R : TR [(false, [.b])] → World → Prop) : Prop :=
alK [.int .i64 l0, .int .i64 l1] T.leap_Leap w fun p1 w2 =>
ld1 (.i .i64) (p1.add 1) w2 fun x3 =>
brB (x3 != 1) (
ld1 (.i .i64) (p1.add 1) w2 fun x4 =>
R (((x4 != (Int.negSucc 0)), ()), ()) w2) (
R ((false, ()), ()) w2)
set_option maxRecDepth 100000 in
theorem leap_Make_1.eq (l0 : Int) (l1 : Int) (w : World) (R : Value → World → Prop) : wpF Tryd.prog Tryd.f37 .n [.agg #[.int .i64 l0, .int .i64 l1]] w R = leap_Make_1.wp l0 l1 w (fun r w => R (encR false [(false, [.b])] r) w) := by kernel_rfl
set_option maxRecDepth 100000 in
theorem leap_Make_1.ok {l0 : Int} {l1 : Int} {w : World} {R : TR [(false, [.b])] → World → Prop} (h : leap_Make_1.wp l0 l1 w R) : clS Tryd.prog F.leap_Make_1 [.agg #[.int .i64 l0, .int .i64 l1]] w false [(false, [.b])] R :=
  ok_of Tryd_follows Tryd.func37 (fun R => leap_Make_1.wp l0 l1 w R) (leap_Make_1.eq l0 l1 w) rfl h
/-! ### slices_Clone_leap_Leap_leap_Leap -/
set_option maxRecDepth 100000 in
def slices_Clone_leap_Leap_leap_Leap.wp (s : Option Addr × Nat × Nat) (w : World) (R : TR [(false, [.sl])] → World → Prop) : Prop :=
brB (Option.isNone s.1) (
R (((none, 0, 0), ()), ()) w) (
alK [] T.leap_Leap w fun p1 w2 =>
slOf ((Builtin.append_ #[T.sl_leap_Leap, T.sl_leap_Leap] T.sl_leap_Leap #[.slice (some p1) 0 0, .slice s.1 s.2.1 s.2.2]).run Tryd.prog w2) fun y3 w4 =>
R (((y3.1, y3.2.1, y3.2.2), ()), ()) w4)
set_option maxRecDepth 100000 in
theorem slices_Clone_leap_Leap_leap_Leap.eq (s : Option Addr × Nat × Nat) (w : World) (R : Value → World → Prop) : wpF Tryd.prog Tryd.f38 .n [.slice s.1 s.2.1 s.2.2] w R = slices_Clone_leap_Leap_leap_Leap.wp s w (fun r w => R (encR false [(false, [.sl])] r) w) := by kernel_rfl
set_option maxRecDepth 100000 in
theorem slices_Clone_leap_Leap_leap_Leap.ok {s : Option Addr × Nat × Nat} {w : World} {R : TR [(false, [.sl])] → World → Prop} (h : slices_Clone_leap_Leap_leap_Leap.wp s w R) : clS Tryd.prog F.slices_Clone_leap_Leap_leap_Leap [.slice s.1 s.2.1 s.2.2] w false [(false, [.sl])] R :=
  ok_of Tryd_follows Tryd.func38 (fun R => slices_Clone_leap_Leap_leap_Leap.wp s w R) (slices_Clone_leap_Leap_leap_Leap.eq s w) rfl h
/-! ### leap_Table_All_1 -/
set_option maxRecDepth 100000 in
def leap_Table_All_1.wp (p0 : Value) (w : World) (R : TR [] → World → Prop) : Prop :=
R (()) w
set_option maxRecDepth 100000 in
theorem leap_Table_All_1.eq (p0 : Value) (w : World) (R : Value → World → Prop) : wpF Tryd.prog Tryd.f39 .n [p0] w R = leap_Table_All_1.wp p0 w (fun r w => R (encR true [] r) w) := by kernel_rfl
set_option maxRecDepth 100000 in
theorem leap_Table_All_1.ok {p0 : Value} {w : World} {R : TR [] → World → Prop} (h : leap_Table_All_1.wp p0 w R) : clS Tryd.prog F.leap_Table_All_1 [p0] w true [] R :=
  ok_of Tryd_follows Tryd.func39 (fun R => leap_Table_All_1.wp p0 w R) (leap_Table_All_1.eq p0 w) rfl h
/-! ### slices_Values_leap_Leap_leap_Leap -/
set_option maxRecDepth 100000 in
def slices_Values_leap_Leap_leap_Leap.wp (s : Option Addr × Nat × Nat) (w : World) (R : TR [(false, [.any])] → World → Prop) : Prop :=
alK [.slice s.1 s.2.1 s.2.2] T.sl_leap_Leap w fun p1 w2 =>
R ((.func (.func F.slices_Values_leap_Leap_leap_Leap_1) #[] #[.pointer (some p1)], ()), ()) w2
set_option maxRecDepth 100000 in
theorem slices_Values_leap_Leap_leap_Leap.eq (s : Option Addr × Nat × Nat) (w : World) (R : Value → World → Prop) : wpF Tryd.prog Tryd.f40 .n [.slice s.1 s.2.1 s.2.2] w R = slices_Values_leap_Leap_leap_Leap.wp s w (fun r w => R (encR false [(false, [.any])] r) w) := by kernel_rfl
set_option maxRecDepth 100000 in
theorem slices_Values_leap_Leap_leap_Leap.ok {s : Option Addr × Nat × Nat} {w : World} {R : TR [(false, [.any])] → World → Prop} (h : slices_Values_leap_Leap_leap_Leap.wp s w R) : clS Tryd.prog F.slices_Values_leap_Leap_leap_Leap [.slice s.1 s.2.1 s.2.2] w false [(false, [.any])] R :=
  ok_of Tryd_follows Tryd.func40 (fun R => slices_Values_leap_Leap_leap_Leap.wp s w R) (slices_Values_leap_Leap_leap_Leap.eq s w) rfl h
/-! ### leap_reader_first -/
set_option maxRecDepth 100000 in
def leap_reader_first.wp (r : Option Addr) (w_ : Option Addr × Nat × Nat) (w : World) (R : TR [] → World → Prop) (Z : Value → World → Prop) : Prop :=
CutT (fun (J1 : Unit → World → Prop) =>
brB ((w_.2.1 : Int) != 3) (
clE Tryd.prog F.leap_reader_fail [.pointer r, .int .i64 3] w true [] (fun r4 w5 =>
J1 (()) w5) (fun (v6 : Value) w7 =>
Z v6 w7)) (
ixK w_.1 w_.2.1 0 fun a8 =>
ld1 .s (a8.add ((0 : Int).toNat * 1)) w fun x9 =>
brB (!(x9 == ⟨#[115, 116, 97, 114, 116]⟩)) (
clE Tryd.prog F.leap_reader_fail [.pointer r, .int .i64 3] w true [] (fun r10 w11 =>
J1 (()) w11) (fun (v12 : Value) w13 =>
Z v12 w13)) (
ixK w_.1 w_.2.1 2 fun a14 =>
ld1 .s (a14.add ((2 : Int).toNat * 1)) w fun x15 =>
clS Tryd.prog F.leap_plain [.string x15] w false [(false, [.b])] fun r16 w17 =>
brB (!r16.1.1) (
clE Tryd.prog F.leap_reader_fail [.pointer r, .int .i64 3] w17 true [] (fun r18 w19 =>
J1 (()) w19) (fun (v20 : Value) w21 =>
Z v20 w21)) (
J1 (()) w17)))) (fun (z2 : Unit) w3 => ∀ _ : Nat → Value,
ixK w_.1 w_.2.1 1 fun a22 =>
ld1 .s (a22.add ((1 : Int).toNat * 1)) w3 fun x23 =>
clE Tryd.prog F.leap_reader_date [.pointer r, .string x23] w3 false [(false, [(.i .i64)])] (fun r24 w25 =>
ncK r fun a26 =>
stN [.int .i64 r24.1.1] (a26.add 2) 0 w25 fun w27 =>
ixK w_.1 w_.2.1 2 fun a28 =>
ld1 .s (a28.add ((2 : Int).toNat * 1)) w27 fun x29 =>
clS Tryd.prog F.strconv_Atoi [.string x29] w27 true [(false, [(.i .i64)]), (false, [.any])] fun r30 w31 =>
ncK r fun a32 =>
stN [.int .i64 r30.1.1] (a32.add 3) 0 w31 fun w33 =>
ncK r fun a34 =>
stN [.int .i64 1] (a34.add 1) 0 w33 fun w35 =>
R (()) w35) (fun (v36 : Value) w37 =>
Z v36 w37))
set_option maxRecDepth 100000 in
theorem leap_reader_first.eq (r : Option Addr) (w_ : Option Addr × Nat × Nat) (w : World) (R : Value → World → Prop) (Z : Value → World → Prop) : wpFZ Tryd.prog Tryd.f42 (.ct [] (.s .n (.s .pz .n)) (.s .pz .n)) [.pointer r, .slice w_.1 w_.2.1 w_.2.2] w R Z = leap_reader_first.wp r w_ w (fun r w => R (encR true [] r) w) Z := by kernel_rfl
set_option maxRecDepth 100000 in
theorem leap_reader_first.ok {r : Option Addr} {w_ : Option Addr × Nat × Nat} {w : World} {R : TR [] → World → Prop} {Z : Value → World → Prop} (h : leap_reader_first.wp r w_ w R Z) : clE Tryd.prog F.leap_reader_first [.pointer r, .slice w_.1 w_.2.1 w_.2.2] w true [] R Z :=
  ok_ofZ Tryd_follows Tryd.func42 (fun R Z => leap_reader_first.wp r w_ w R Z) (leap_reader_first.eq r w_ w) rfl h
/-! ### leap_reader_leap -/
set_option maxRecDepth 100000 in
def leap_reader_leap.wp (r : Option Addr) (w_ : Option Addr × Nat × Nat) (w : World) (R : TR [] → World → Prop) (Z : Value → World → Prop) : Prop :=
maK Tryd.prog T.map_string_int w fun m1 w2 =>
muK Tryd.prog T.map_string_int (.map (some m1)) (.string ⟨#[43, 49]⟩) (.int .i64 1) w2 fun w3 =>
muK Tryd.prog T.map_string_int (.map (some m1)) (.string ⟨#[45, 49]⟩) (.int .i64 (Int.negSucc 0)) w3 fun w4 =>
CutT (fun (J5 : Unit → World → Prop) =>
brB ((w_.2.1 : Int) != 3) (
clE Tryd.prog F.leap_reader_fail [.pointer r, .int .i64 3] w4 true [] (fun r8 w9 =>
J5 (()) w9) (fun (v10 : Value) w11 =>
Z v10 w11)) (
ixK w_.1 w_.2.1 2 fun a12 =>
ld1 .s (a12.add ((2 : Int).toNat * 1)) w4 fun x13 =>
lkP Tryd.prog T.map_string_int (.map (some m1)) (.string x13) w4 false [(.i .i64)] fun x14 =>
brB (x14.1 == 0) (
clE Tryd.prog F.leap_reader_fail [.pointer r, .int .i64 3] w4 true [] (fun r15 w16 =>
J5 (()) w16) (fun (v17 : Value) w18 =>
Z v17 w18)) (
J5 (()) w4))) (fun (z6 : Unit) w7 => ∀ _ : Nat → Value,
ixK w_.1 w_.2.1 1 fun a19 =>
ld1 .s (a19.add ((1 : Int).toNat * 1)) w7 fun x20 =>
clE Tryd.prog F.leap_reader_date [.pointer r, .string x20] w7 false [(false, [(.i .i64)])] (fun r21 w22 =>
CutT (fun (J23 : Unit → World → Prop) =>
ncK r fun a26 =>
ld1 .sl (a26.add 5) w22 fun x27 =>
brB ((x27.2.1 : Int) == 64) (
clE Tryd.prog F.leap_reader_fail [.pointer r, .int .i64 6] w22 true [] (fun r28 w29 =>
J23 (()) w29) (fun (v30 : Value) w31 =>
Z v30 w31)) (
J23 (()) w22)) (fun (z24 : Unit) w25 => ∀ _ : Nat → Value,
CutT (fun (J32 : Unit → World → Prop) =>
ncK r fun a35 =>
ld1 .sl (a35.add 5) w25 fun x36 =>
ncK r fun a37 =>
ld1 (.i .i64) (a37.add 2) w25 fun x38 =>
brB (decide (r21.1.1 < x38)) (
clE Tryd.prog F.leap_reader_fail [.pointer r, .int .i64 12] w25 true [] (fun r39 w40 =>
J32 (()) w40) (fun (v41 : Value) w42 =>
Z v41 w42)) (
brB (decide ((x36.2.1 : Int) > 0)) (
ncK r fun a43 =>
ld1 .sl (a43.add 5) w25 fun x44 =>
ixK x44.1 x44.2.1 (IntKind.wrap .i64 ((x36.2.1 : Int) - 1)) fun a45 =>
ld1 (.i .i64) (a45.add ((IntKind.wrap .i64 ((x36.2.1 : Int) - 1)).toNat * 2)) w25 fun x46 =>
brB (decide (r21.1.1 ≤ x46)) (
clE Tryd.prog F.leap_reader_fail [.pointer r, .int .i64 12] w25 true [] (fun r47 w48 =>
J32 (()) w48) (fun (v49 : Value) w50 =>
Z v49 w50)) (
J32 (()) w25)) (
J32 (()) w25))) (fun (z33 : Unit) w34 => ∀ _ : Nat → Value,
drK w34 fun w51 =>
ncK r fun a52 =>
ld1 .sl (a52.add 5) w51 fun x53 =>
ixK w_.1 w_.2.1 2 fun a54 =>
ld1 .s (a54.add ((2 : Int).toNat * 1)) w51 fun x55 =>
lkP Tryd.prog T.map_string_int (.map (some m1)) (.string x55) w51 false [(.i .i64)] fun x56 =>
Hold [(9, (a54.add ((2 : Int).toNat * 1)), (w51.cell? (a54.add ((2 : Int).toNat * 1))).getD undef), (4, (a52.add 5), (w51.cell? (a52.add 5)).getD undef)] w51 ∧ (
alK [.int .i64 r21.1.1, .int .i64 x56.1] T.leap_Leap w51 fun p57 w58 =>
Hold [(9, (a54.add ((2 : Int).toNat * 1)), (w51.cell? (a54.add ((2 : Int).toNat * 1))).getD undef), (4, (a52.add 5), (w51.cell? (a52.add 5)).getD undef)] w58 ∧ (
slOf ((Builtin.append_ #[T.sl_leap_Leap, T.sl_leap_Leap] T.sl_leap_Leap #[.slice x53.1 x53.2.1 x53.2.2, .slice (some p57) 1 1]).run Tryd.prog w58) fun y59 w60 =>
Hold [(9, (a54.add ((2 : Int).toNat * 1)), (w51.cell? (a54.add ((2 : Int).toNat * 1))).getD undef)] w60 ∧ (
ncK r fun a61 =>
stN [.slice y59.1 y59.2.1 y59.2.2] (a61.add 5) 0 w60 fun w62 =>
Hold [] w62 ∧ (
R (()) w62))))))) (fun (v63 : Value) w64 =>
Z v63 w64))
set_option maxRecDepth 100000 in
theorem leap_reader_leap.eq (r : Option Addr) (w_ : Option Addr × Nat × Nat) (w : World) (R : Value → World → Prop) (Z : Value → World → Prop) : wpFZ Tryd.prog Tryd.f43 (.s .n (.ct [] (.s .n (.s .pz .n)) (.s .pz (.ct [] (.s .n (.s .pz .n)) (.ct [] (.s .n (.s .n (.s .pz .n))) (.pl (.tk 0 (.tk 1 (.tk 2 (.tk 3 (.tk 4 (.tk 5 (.tk 6 (.tk 7 (.tk 8 (.tk 9 (.ef 10 [] (.tk 11 (.ef 12 [] (.ef 13 [4] (.tk 14 (.tk 15 (.ef 16 [9] .z))))))))))))))))))))))) [.pointer r, .slice w_.1 w_.2.1 w_.2.2] w R Z = leap_reader_leap.wp r w_ w (fun r w => R (encR true [] r) w) Z := by kernel_rfl
set_option maxRecDepth 100000 in
theorem leap_reader_leap.ok {r : Option Addr} {w_ : Option Addr × Nat × Nat} {w : World} {R : TR [] → World → Prop} {Z : Value → World → Prop} (h : leap_reader_leap.wp r w_ w R Z) : clE Tryd.prog F.leap_reader_leap [.pointer r, .slice w_.1 w_.2.1 w_.2.2] w true [] R Z :=
  ok_ofZ Tryd_follows Tryd.func43 (fun R Z => leap_reader_leap.wp r w_ w R Z) (leap_reader_leap.eq r w_ w) rfl h
/-! ### leap_reader_last -/
set_option maxRecDepth 100000 in
def leap_reader_last.wp (r : Option Addr) (w_ : Option Addr × Nat × Nat) (w : World) (R : TR [] → World → Prop) (Z : Value → World → Prop) : Prop :=
CutT (fun (J1 : Unit → World → Prop) =>
brB ((w_.2.1 : Int) != 2) (
clE Tryd.prog F.leap_reader_fail [.pointer r, .int .i64 3] w true [] (fun r4 w5 =>
J1 (()) w5) (fun (v6 : Value) w7 =>
Z v6 w7)) (
ixK w_.1 w_.2.1 0 fun a8 =>
ld1 .s (a8.add ((0 : Int).toNat * 1)) w fun x9 =>
brB (!(x9 == ⟨#[101, 110, 100]⟩)) (
clE Tryd.prog F.leap_reader_fail [.pointer r, .int .i64 3] w true [] (fun r10 w11 =>
J1 (()) w11) (fun (v12 : Value) w13 =>
Z v12 w13)) (
J1 (()) w))) (fun (z2 : Unit) w3 => ∀ _ : Nat → Value,
ixK w_.1 w_.2.1 1 fun a14 =>
ld1 .s (a14.add ((1 : Int).toNat * 1)) w3 fun x15 =>
clE Tryd.prog F.leap_reader_date [.pointer r, .string x15] w3 false [(false, [(.i .i64)])] (fun r16 w17 =>
ncK r fun a18 =>
stN [.int .i64 r16.1.1] (a18.add 4) 0 w17 fun w19 =>
ncK r fun a20 =>
ld1 .sl (a20.add 5) w19 fun x21 =>
drK w19 fun w22 =>
ncK r fun a23 =>
ld1 (.i .i64) (a23.add 4) w22 fun x24 =>
ncK r fun a25 =>
ld1 (.i .i64) (a25.add 2) w22 fun x26 =>
brB (decide (x24 ≤ x26)) (
clE Tryd.prog F.leap_reader_fail [.pointer r, .int .i64 12] w22 true [] (fun r27 w28 =>
ncK r fun a29 =>
stN [.int .i64 2] (a29.add 1) 0 w28 fun w30 =>
R (()) w30) (fun (v31 : Value) w32 =>
Z v31 w32)) (
brB (decide ((x21.2.1 : Int) > 0)) (
ncK r fun a33 =>
ld1 (.i .i64) (a33.add 4) w22 fun x34 =>
ncK r fun a35 =>
ld1 .sl (a35.add 5) w22 fun x36 =>
ixK x36.1 x36.2.1 (IntKind.wrap .i64 ((x21.2.1 : Int) - 1)) fun a37 =>
ld1 (.i .i64) (a37.add ((IntKind.wrap .i64 ((x21.2.1 : Int) - 1)).toNat * 2)) w22 fun x38 =>
brB (decide (x34 ≤ x38)) (
clE Tryd.prog F.leap_reader_fail [.pointer r, .int .i64 12] w22 true [] (fun r39 w40 =>
ncK r fun a41 =>
stN [.int .i64 2] (a41.add 1) 0 w40 fun w42 =>
R (()) w42) (fun (v43 : Value) w44 =>
Z v43 w44)) (
ncK r fun a45 =>
stN [.int .i64 2] (a45.add 1) 0 w22 fun w46 =>
R (()) w46)) (
ncK r fun a47 =>
stN [.int .i64 2] (a47.add 1) 0 w22 fun w48 =>
R (()) w48))) (fun (v49 : Value) w50 =>
Z v49 w50))
set_option maxRecDepth 100000 in
theorem leap_reader_last.eq (r : Option Addr) (w_ : Option Addr × Nat × Nat) (w : World) (R : Value → World → Prop) (Z : Value → World → Prop) : wpFZ Tryd.prog Tryd.f44 (.ct [] (.s .n (.s .pz .n)) (.s .pz (.s (.s .n (.s (.pl (.tk 0 (.tk 1 (.tk 2 (.tk 3 (.tk 4 (.tk 5 (.tk 6 (.tk 7 (.tk 8 (.tk 9 (.tk 10 (.tk 11 (.tk 12 (.tk 13 (.tk 14 (.tk 15 (.tk 16 (.tk 17 (.tk 18 (.tk 19 (.tk 20 (.tk 21 (.tk 22 (.tk 23 (.tk 24 (.tk 25 (.tk 26 (.tk 27 (.tk 28 .z)))))))))))))))))))))))))))))) (.s .pz .n))) .n))) [.pointer r, .slice w_.1 w_.2.1 w_.2.2] w R Z = leap_reader_last.wp r w_ w (fun r w => R (encR true [] r) w) Z := by kernel_rfl
set_option maxRecDepth 100000 in
theorem leap_reader_last.ok {r : Option Addr} {w_ : Option Addr × Nat × Nat} {w : World} {R : TR [] → World → Prop} {Z : Value → World → Prop} (h : leap_reader_last.wp r w_ w R Z) : clE Tryd.prog F.leap_reader_last [.pointer r, .slice w_.1 w_.2.1 w_.2.2] w true [] R Z :=
  ok_ofZ Tryd_follows Tryd.func44 (fun R Z => leap_reader_last.wp r w_ w R Z) (leap_reader_last.eq r w_ w) rfl h
/-! ### ref20_Parse -/
set_option maxRecDepth 100000 in
def ref20_Parse.wp (s : ByteArray) (w : World) (R : TR [(true, [(.i .i64), (.i .i64), (.i .i64)]), (false, [.b])] → World → Prop) : Prop :=
alK [.int .i64 0, .int .i64 0, .int .i64 0] T.ref20_Date w fun p1 w2 =>
brB ((s.size : Int) != 10) (
stN [.int .i64 0, .int .i64 0, .int .i64 0] p1 0 w2 fun w3 =>
ldN [(.i .i64), (.i .i64), (.i .i64)] p1 0 w3 fun x4 =>
R ((x4.1, x4.2.1, x4.2.2.1, ()), (false, ()), ()) w3) (
siK s 4 fun c5 =>
brB (c5 != 45) (
stN [.int .i64 0, .int .i64 0, .int .i64 0] p1 0 w2 fun w6 =>
ldN [(.i .i64), (.i .i64), (.i .i64)] p1 0 w6 fun x7 =>
R ((x7.1, x7.2.1, x7.2.2.1, ()), (false, ()), ()) w6) (
siK s 7 fun c8 =>
brB (c8 != 45) (
stN [.int .i64 0, .int .i64 0, .int .i64 0] p1 0 w2 fun w9 =>
ldN [(.i .i64), (.i .i64), (.i .i64)] p1 0 w9 fun x10 =>
R ((x10.1, x10.2.1, x10.2.2.1, ()), (false, ()), ()) w9) (
CutT (fun (J11 : ((Addr) × Unit) → World → Prop) =>
drK w2 fun w14 =>
slK 0 4 s.size (
slK 5 7 s.size (
slK 8 (s.size : Int) s.size (
(
clS Tryd.prog F.ref20_number [.string (s.extract (Int.toNat 0) (Int.toNat 4))] w14 false [(false, [(.i .i64)])] fun r15 w16 =>
Hold [] w16 ∧ (
(
clS Tryd.prog F.ref20_number [.string (s.extract (Int.toNat 5) (Int.toNat 7))] w16 false [(false, [(.i .i64)])] fun r17 w18 =>
Hold [] w18 ∧ (
(
clS Tryd.prog F.ref20_number [.string (s.extract (Int.toNat 8) (Int.toNat (s.size : Int)))] w18 false [(false, [(.i .i64)])] fun r19 w20 =>
Hold [] w20 ∧ (
alK [.int .i64 0, .int .i64 0, .int .i64 0] T.ref20_Date w20 fun p21 w22 =>
Hold [] w22 ∧ (
stN [.int .i64 r15.1.1, .int .i64 r17.1.1, .int .i64 r19.1.1] p21 0 w22 fun w23 =>
Hold [] w23 ∧ (
J11 (p21, ()) w23)))) ∧ (
alK [.int .i64 0, .int .i64 0, .int .i64 0] T.ref20_Date w18 fun p24 w25 =>
Hold [] w25 ∧ (
clS Tryd.prog F.ref20_number [.string (s.extract (Int.toNat 8) (Int.toNat (s.size : Int)))] w25 false [(false, [(.i .i64)])] fun r26 w27 =>
Hold [] w27 ∧ (
stN [.int .i64 r15.1.1, .int .i64 r17.1.1, .int .i64 r26.1.1] p24 0 w27 fun w28 =>
Hold [] w28 ∧ (
J11 (p24, ()) w28)))))) ∧ (
alK [.int .i64 0, .int .i64 0, .int .i64 0] T.ref20_Date w16 fun p29 w30 =>
Hold [] w30 ∧ (
clS Tryd.prog F.ref20_number [.string (s.extract (Int.toNat 5) (Int.toNat 7))] w30 false [(false, [(.i .i64)])] fun r31 w32 =>
Hold [] w32 ∧ (
clS Tryd.prog F.ref20_number [.string (s.extract (Int.toNat 8) (Int.toNat (s.size : Int)))] w32 false [(false, [(.i .i64)])] fun r33 w34 =>
Hold [] w34 ∧ (
stN [.int .i64 r15.1.1, .int .i64 r31.1.1, .int .i64 r33.1.1] p29 0 w34 fun w35 =>
Hold [] w35 ∧ (
J11 (p29, ()) w35))))))) ∧ (
alK [.int .i64 0, .int .i64 0, .int .i64 0] T.ref20_Date w14 fun p36 w37 =>
Hold [] w37 ∧ (
clS Tryd.prog F.ref20_number [.string (s.extract (Int.toNat 0) (Int.toNat 4))] w37 false [(false, [(.i .i64)])] fun r38 w39 =>
Hold [] w39 ∧ (
clS Tryd.prog F.ref20_number [.string (s.extract (Int.toNat 5) (Int.toNat 7))] w39 false [(false, [(.i .i64)])] fun r40 w41 =>
Hold [] w41 ∧ (
clS Tryd.prog F.ref20_number [.string (s.extract (Int.toNat 8) (Int.toNat (s.size : Int)))] w41 false [(false, [(.i .i64)])] fun r42 w43 =>
Hold [] w43 ∧ (
stN [.int .i64 r38.1.1, .int .i64 r40.1.1, .int .i64 r42.1.1] p36 0 w43 fun w44 =>
Hold [] w44 ∧ (
J11 (p36, ()) w44)))))))))) (fun (z12 : (Addr) × Unit) w13 => ∀ _ : Nat → Value,
ldN [(.i .i64), (.i .i64), (.i .i64)] z12.1 0 w13 fun x45 =>
clS Tryd.prog F.ref20_Good [.agg #[.int .i64 x45.1, .int .i64 x45.2.1, .int .i64 x45.2.2.1]] w13 false [(false, [.b])] fun r46 w47 =>
brB (!r46.1.1) (
stN [.int .i64 0, .int .i64 0, .int .i64 0] p1 0 w47 fun w48 =>
ldN [(.i .i64), (.i .i64), (.i .i64)] p1 0 w48 fun x49 =>
R ((x49.1, x49.2.1, x49.2.2.1, ()), (false, ()), ()) w48) (
ldN [(.i .i64), (.i .i64), (.i .i64)] z12.1 0 w47 fun x50 =>
stN [.int .i64 x50.1, .int .i64 x50.2.1, .int .i64 x50.2.2.1] p1 0 w47 fun w51 =>
ldN [(.i .i64), (.i .i64), (.i .i64)] p1 0 w51 fun x52 =>
R ((x52.1, x52.2.1, x52.2.2.1, ()), (true, ()), ()) w51)))))
set_option maxRecDepth 100000 in
theorem ref20_Parse.eq (s : ByteArray) (w : World) (R : Value → World → Prop) : wpF Tryd.prog Tryd.f45 (.s .n (.s .n (.ct [(4, .a)] (.pl (.tk 0 (.tk 1 (.tk 3 (.tk 4 (.tk 6 (.tk 7 (.two 2 10 (.two 5 10 (.two 8 10 (.tk 9 (.ef 10 [] (.ef 11 [] .z))) (.ef 8 [] (.tk 9 (.ef 11 [] .z)))) (.ef 5 [] (.ef 8 [] (.tk 9 (.ef 11 [] .z))))) (.ef 2 [] (.ef 5 [] (.ef 8 [] (.tk 9 (.ef 11 [] .z))))))))))))) .n))) [.string s] w R = ref20_Parse.wp s w (fun r w => R (encR true [(true, [(.i .i64), (.i .i64), (.i .i64)]), (false, [.b])] r) w) := by kernel_rfl
set_option maxRecDepth 100000 in
theorem ref20_Parse.ok {s : ByteArray} {w : World} {R : TR [(true, [(.i .i64), (.i .i64), (.i .i64)]), (false, [.b])] → World → Prop} (h : ref20_Parse.wp s w R) : clS Tryd.prog F.ref20_Parse [.string s] w true [(true, [(.i .i64), (.i .i64), (.i .i64)]), (false, [.b])] R :=
  ok_of Tryd_follows Tryd.func45 (fun R => ref20_Parse.wp s w R) (ref20_Parse.eq s w) rfl h
/-! ### ref20_Number -/
set_option maxRecDepth 100000 in
def ref20_Number.wp (d0 : Int) (d1 : Int) (d2 : Int) (w : World) (R : TR [(false, [(.i .i64)])] → World → Prop) : Prop :=
alK [.int .i64 d0, .int .i64 d1, .int .i64 d2] T.ref20_Date w fun p1 w2 =>
ld1 (.i .i64) p1 w2 fun x3 =>
clS Tryd.prog F.ref20_ahead [.int .i64 x3] w2 false [(false, [(.i .i64)])] fun r4 w5 =>
clS Tryd.prog F.ref20_ahead [.int .i64 1970] w5 false [(false, [(.i .i64)])] fun r6 w7 =>
LoopT (fun (self8 : ((Int) × (Int) × Unit) → World → Prop) (z9 : (Int) × (Int) × Unit) w10 => ∀ _ : Nat → Value,
ld1 (.i .i64) (p1.add 1) w10 fun x11 =>
brB (decide (z9.2.1 < x11)) (
ld1 (.i .i64) p1 w10 fun x12 =>
clS Tryd.prog F.ref20_Days [.int .i64 x12, .int .i64 z9.2.1] w10 false [(false, [(.i .i64)])] fun r13 w14 =>
self8 (IntKind.wrap .i64 (z9.1 + r13.1.1), IntKind.wrap .i64 (z9.2.1 + 1), ()) w14) (
ld1 (.i .i64) (p1.add 2) w10 fun x15 =>
R ((IntKind.wrap .i64 ((IntKind.wrap .i64 (z9.1 + x15)) - 1), ()), ()) w10)) (IntKind.wrap .i64 (r4.1.1 - r6.1.1), 1, ()) w7
set_option maxRecDepth 100000 in
theorem ref20_Number.eq (d0 : Int) (d1 : Int) (d2 : Int) (w : World) (R : Value → World → Prop) : wpF Tryd.prog Tryd.f46 (.s .n (.s .n (.s (.s .n (.lp [(3, (.i .i64)), (4, (.i .i64))] .n)) .n))) [.agg #[.int .i64 d0, .int .i64 d1, .int .i64 d2]] w R = ref20_Number.wp d0 d1 d2 w (fun r w => R (encR false [(false, [(.i .i64)])] r) w) := by kernel_rfl
set_option maxRecDepth 100000 in
theorem ref20_Number.ok {d0 : Int} {d1 : Int} {d2 : Int} {w : World} {R : TR [(false, [(.i .i64)])] → World → Prop} (h : ref20_Number.wp d0 d1 d2 w R) : clS Tryd.prog F.ref20_Number [.agg #[.int .i64 d0, .int .i64 d1, .int .i64 d2]] w false [(false, [(.i .i64)])] R :=
  ok_of Tryd_follows Tryd.func46 (fun R => ref20_Number.wp d0 d1 d2 w R) (ref20_Number.eq d0 d1 d2 w) rfl h
/-! ### civil_Of -/
set_option maxRecDepth 100000 in
def civil_Of.wp (number : Int) (w : World) (R : TR [(true, [(.i .i64), (.i .i64), (.i .i64)]), (false, [.b])] → World → Prop) : Prop :=
alK [.int .i64 0, .int .i64 0, .int .i64 0] T.civil_Date w fun p1 w2 =>
brB (decide (number < (Int.negSucc 719161))) (
stN [.int .i64 0, .int .i64 0, .int .i64 0] p1 0 w2 fun w3 =>
ldN [(.i .i64), (.i .i64), (.i .i64)] p1 0 w3 fun x4 =>
R ((x4.1, x4.2.1, x4.2.2.1, ()), (false, ()), ()) w3) (
brB (decide (number > 2932896)) (
stN [.int .i64 0, .int .i64 0, .int .i64 0] p1 0 w2 fun w5 =>
ldN [(.i .i64), (.i .i64), (.i .i64)] p1 0 w5 fun x6 =>
R ((x6.1, x6.2.1, x6.2.2.1, ()), (false, ()), ()) w5) (
nzK 366 (
LoopT (fun (self7 : ((Int) × Unit) → World → Prop) (z8 : (Int) × Unit) w9 => ∀ _ : Nat → Value,
clS Tryd.prog F.civil_years [.int .i64 (IntKind.wrap .i64 (z8.1 + 1))] w9 false [(false, [(.i .i64)])] fun r10 w11 =>
brB (decide (r10.1.1 ≤ (IntKind.wrap .i64 (number - (Int.negSucc 719161))))) (
self7 (IntKind.wrap .i64 (z8.1 + 1), ()) w11) (
clS Tryd.prog F.civil_years [.int .i64 z8.1] w11 false [(false, [(.i .i64)])] fun r12 w13 =>
LoopT (fun (self14 : ((Int) × (Int) × Unit) → World → Prop) (z15 : (Int) × (Int) × Unit) w16 => ∀ _ : Nat → Value,
clS Tryd.prog F.civil_month [.int .i64 z8.1, .int .i64 z15.2.1] w16 false [(false, [(.i .i64)])] fun r17 w18 =>
brB (decide (z15.1 ≥ r17.1.1)) (
clS Tryd.prog F.civil_month [.int .i64 z8.1, .int .i64 z15.2.1] w18 false [(false, [(.i .i64)])] fun r19 w20 =>
self14 (IntKind.wrap .i64 (z15.1 - r19.1.1), IntKind.wrap .i64 (z15.2.1 + 1), ()) w20) (
stN [.int .i64 z8.1, .int .i64 z15.2.1, .int .i64 (IntKind.wrap .i64 (z15.1 + 1))] p1 0 w18 fun w21 =>
ldN [(.i .i64), (.i .i64), (.i .i64)] p1 0 w21 fun x22 =>
R ((x22.1, x22.2.1, x22.2.2.1, ()), (true, ()), ()) w21)) (IntKind.wrap .i64 ((IntKind.wrap .i64 (number - (Int.negSucc 719161))) - r12.1.1), 1, ()) w13)) (IntKind.wrap .i64 ((IntKind.wrap .i64 (Int.tdiv (IntKind.wrap .i64 (number - (Int.negSucc 719161))) 366)) + 1), ()) w2)))
set_option maxRecDepth 100000 in
theorem civil_Of.eq (number : Int) (w : World) (R : Value → World → Prop) : wpF Tryd.prog Tryd.f48 (.s .n (.s .n (.s .n (.s .n (.s (.lp [(5, (.i .i64))] .n) (.s .n (.s .n (.s (.lp [(4, (.i .i64)), (6, (.i .i64))] .n) .n)))))))) [.int .i64 number] w R = civil_Of.wp number w (fun r w => R (encR true [(true, [(.i .i64), (.i .i64), (.i .i64)]), (false, [.b])] r) w) := by kernel_rfl
set_option maxRecDepth 100000 in
theorem civil_Of.ok {number : Int} {w : World} {R : TR [(true, [(.i .i64), (.i .i64), (.i .i64)]), (false, [.b])] → World → Prop} (h : civil_Of.wp number w R) : clS Tryd.prog F.civil_Of [.int .i64 number] w true [(true, [(.i .i64), (.i .i64), (.i .i64)]), (false, [.b])] R :=
  ok_of Tryd_follows Tryd.func48 (fun R => civil_Of.wp number w R) (civil_Of.eq number w) rfl h
/-! ### civil_Date_Text -/
set_option maxRecDepth 100000 in
def civil_Date_Text.wp (d0 : Int) (d1 : Int) (d2 : Int) (w : World) (R : TR [(false, [.s])] → World → Prop) : Prop :=
alK [.int .i64 d0, .int .i64 d1, .int .i64 d2] T.civil_Date w fun p1 w2 =>
ldN [(.i .i64), (.i .i64), (.i .i64)] p1 0 w2 fun x3 =>
clS Tryd.prog F.civil_Date_Good [.agg #[.int .i64 x3.1, .int .i64 x3.2.1, .int .i64 x3.2.2.1]] w2 false [(false, [.b])] fun r4 w5 =>
brB (!r4.1.1) (
R ((⟨#[]⟩, ()), ()) w5) (
drK w5 fun w6 =>
ld1 (.i .i64) p1 w6 fun x7 =>
ld1 (.i .i64) (p1.add 1) w6 fun x8 =>
ld1 (.i .i64) (p1.add 2) w6 fun x9 =>
clS Tryd.prog F.civil_digits [.int .i64 x7, .int .i64 4] w6 false [(false, [.s])] fun r10 w11 =>
Hold [(10, (p1.add 2), (w6.cell? (p1.add 2)).getD undef), (5, (p1.add 1), (w6.cell? (p1.add 1)).getD undef), (1, p1, (w6.cell? p1).getD undef)] w11 ∧ (
saK r10.1.1 ⟨#[45]⟩ (
clS Tryd.prog F.civil_digits [.int .i64 x8, .int .i64 2] w11 false [(false, [.s])] fun r12 w13 =>
Hold [(10, (p1.add 2), (w6.cell? (p1.add 2)).getD undef), (5, (p1.add 1), (w6.cell? (p1.add 1)).getD undef), (1, p1, (w6.cell? p1).getD undef)] w13 ∧ (
saK (r10.1.1 ++ ⟨#[45]⟩) r12.1.1 (
saK ((r10.1.1 ++ ⟨#[45]⟩) ++ r12.1.1) ⟨#[45]⟩ (
clS Tryd.prog F.civil_digits [.int .i64 x9, .int .i64 2] w13 false [(false, [.s])] fun r14 w15 =>
Hold [(5, (p1.add 1), (w6.cell? (p1.add 1)).getD undef), (1, p1, (w6.cell? p1).getD undef)] w15 ∧ (
saK (((r10.1.1 ++ ⟨#[45]⟩) ++ r12.1.1) ++ ⟨#[45]⟩) r14.1.1 (
R (((((r10.1.1 ++ ⟨#[45]⟩) ++ r12.1.1) ++ ⟨#[45]⟩) ++ r14.1.1, ()), ()) w15))))))))
set_option maxRecDepth 100000 in
theorem civil_Date_Text.eq (d0 : Int) (d1 : Int) (d2 : Int) (w : World) (R : Value → World → Prop) : wpF Tryd.prog Tryd.f49 (.s .n (.s .n (.s (.pl (.tk 0 (.tk 1 (.tk 4 (.tk 5 (.tk 9 (.tk 10 (.ef 2 [] (.tk 3 (.ef 6 [] (.tk 7 (.tk 8 (.ef 11 [10] (.tk 12 (.tk 13 .z))))))))))))))) .n))) [.agg #[.int .i64 d0, .int .i64 d1, .int .i64 d2]] w R = civil_Date_Text.wp d0 d1 d2 w (fun r w => R (encR false [(false, [.s])] r) w) := by kernel_rfl
set_option maxRecDepth 100000 in
theorem civil_Date_Text.ok {d0 : Int} {d1 : Int} {d2 : Int} {w : World} {R : TR [(false, [.s])] → World → Prop} (h : civil_Date_Text.wp d0 d1 d2 w R) : clS Tryd.prog F.civil_Date_Text [.agg #[.int .i64 d0, .int .i64 d1, .int .i64 d2]] w false [(false, [.s])] R :=
  ok_of Tryd_follows Tryd.func49 (fun R => civil_Date_Text.wp d0 d1 d2 w R) (civil_Date_Text.eq d0 d1 d2 w) rfl h
/-! ### ref20_Long -/
set_option maxRecDepth 100000 in
def ref20_Long.wp (year : Int) (w : World) (R : TR [(false, [.b])] → World → Prop) : Prop :=
nzK 400 (
brB ((Int.tmod year 400) == 0) (
R ((true, ()), ()) w) (
nzK 4 (
brB ((Int.tmod year 4) == 0) (
nzK 100 (
R ((((Int.tmod year 100) != 0), ()), ()) w)) (
R ((false, ()), ()) w))))
set_option maxRecDepth 100000 in
theorem ref20_Long.eq (year : Int) (w : World) (R : Value → World → Prop) : wpF Tryd.prog Tryd.f51 .n [.int .i64 year] w R = ref20_Long.wp year w (fun r w => R (encR false [(false, [.b])] r) w) := by kernel_rfl
set_option maxRecDepth 100000 in
theorem ref20_Long.ok {year : Int} {w : World} {R : TR [(false, [.b])] → World → Prop} (h : ref20_Long.wp year w R) : clS Tryd.prog F.ref20_Long [.int .i64 year] w false [(false, [.b])] R :=
  ok_of Tryd_follows Tryd.func51 (fun R => ref20_Long.wp year w R) (ref20_Long.eq year w) rfl h
/-! ### ref20_Next -/
set_option maxRecDepth 100000 in
def ref20_Next.wp (d0 : Int) (d1 : Int) (d2 : Int) (w : World) (R : TR [(true, [(.i .i64), (.i .i64), (.i .i64)])] → World → Prop) : Prop :=
alK [.int .i64 d0, .int .i64 d1, .int .i64 d2] T.ref20_Date w fun p1 w2 =>
alK [.int .i64 0, .int .i64 0, .int .i64 0] T.ref20_Date w2 fun p3 w4 =>
ld1 (.i .i64) (p1.add 2) w4 fun x5 =>
stN [.int .i64 (IntKind.wrap .i64 (x5 + 1))] (p1.add 2) 0 w4 fun w6 =>
CutT (fun (J7 : Unit → World → Prop) =>
drK w6 fun w10 =>
ld1 (.i .i64) (p1.add 2) w10 fun x11 =>
ld1 (.i .i64) p1 w10 fun x12 =>
ld1 (.i .i64) (p1.add 1) w10 fun x13 =>
clS Tryd.prog F.ref20_Days [.int .i64 x12, .int .i64 x13] w10 false [(false, [(.i .i64)])] fun r14 w15 =>
Hold [(1, (p1.add 2), (w10.cell? (p1.add 2)).getD undef)] w15 ∧ (
brB (decide (x11 > r14.1.1)) (
stN [.int .i64 1] (p1.add 2) 0 w15 fun w16 =>
ld1 (.i .i64) (p1.add 1) w16 fun x17 =>
stN [.int .i64 (IntKind.wrap .i64 (x17 + 1))] (p1.add 1) 0 w16 fun w18 =>
J7 (()) w18) (
J7 (()) w15))) (fun (z8 : Unit) w9 => ∀ _ : Nat → Value,
ld1 (.i .i64) (p1.add 1) w9 fun x19 =>
brB (decide (x19 > 12)) (
stN [.int .i64 1] (p1.add 1) 0 w9 fun w20 =>
ld1 (.i .i64) p1 w20 fun x21 =>
stN [.int .i64 (IntKind.wrap .i64 (x21 + 1))] p1 0 w20 fun w22 =>
ldN [(.i .i64), (.i .i64), (.i .i64)] p1 0 w22 fun x23 =>
stN [.int .i64 x23.1, .int .i64 x23.2.1, .int .i64 x23.2.2.1] p3 0 w22 fun w24 =>
ldN [(.i .i64), (.i .i64), (.i .i64)] p3 0 w24 fun x25 =>
R ((x25.1, x25.2.1, x25.2.2.1, ()), ()) w24) (
ldN [(.i .i64), (.i .i64), (.i .i64)] p1 0 w9 fun x26 =>
stN [.int .i64 x26.1, .int .i64 x26.2.1, .int .i64 x26.2.2.1] p3 0 w9 fun w27 =>
ldN [(.i .i64), (.i .i64), (.i .i64)] p3 0 w27 fun x28 =>
R ((x28.1, x28.2.1, x28.2.2.1, ()), ()) w27))
set_option maxRecDepth 100000 in
theorem ref20_Next.eq (d0 : Int) (d1 : Int) (d2 : Int) (w : World) (R : Value → World → Prop) : wpF Tryd.prog Tryd.f52 (.s .n (.s .n (.ct [] (.s (.pl (.tk 0 (.tk 1 (.tk 2 (.tk 3 (.tk 4 (.tk 5 (.ef 6 [3, 5] (.tk 7 .z))))))))) .n) .n))) [.agg #[.int .i64 d0, .int .i64 d1, .int .i64 d2]] w R = ref20_Next.wp d0 d1 d2 w (fun r w => R (encR false [(true, [(.i .i64), (.i .i64), (.i .i64)])] r) w) := by kernel_rfl
set_option maxRecDepth 100000 in
theorem ref20_Next.ok {d0 : Int} {d1 : Int} {d2 : Int} {w : World} {R : TR [(true, [(.i .i64), (.i .i64), (.i .i64)])] → World → Prop} (h : ref20_Next.wp d0 d1 d2 w R) : clS Tryd.prog F.ref20_Next [.agg #[.int .i64 d0, .int .i64 d1, .int .i64 d2]] w false [(true, [(.i .i64), (.i .i64), (.i .i64)])] R :=
  ok_of Tryd_follows Tryd.func52 (fun R => ref20_Next.wp d0 d1 d2 w R) (ref20_Next.eq d0 d1 d2 w) rfl h
/-! ### ref20_Text -/
set_option maxRecDepth 100000 in
def ref20_Text.wp (d0 : Int) (d1 : Int) (d2 : Int) (w : World) (R : TR [(false, [.s])] → World → Prop) : Prop :=
alK [.int .i64 d0, .int .i64 d1, .int .i64 d2] T.ref20_Date w fun p1 w2 =>
ldN [(.i .i64), (.i .i64), (.i .i64)] p1 0 w2 fun x3 =>
clS Tryd.prog F.ref20_Good [.agg #[.int .i64 x3.1, .int .i64 x3.2.1, .int .i64 x3.2.2.1]] w2 false [(false, [.b])] fun r4 w5 =>
brB (!r4.1.1) (
R ((⟨#[]⟩, ()), ()) w5) (
drK w5 fun w6 =>
ld1 (.i .i64) p1 w6 fun x7 =>
ld1 (.i .i64) (p1.add 1) w6 fun x8 =>
ld1 (.i .i64) (p1.add 2) w6 fun x9 =>
clS Tryd.prog F.ref20_two [.int .i64 x7, .int .i64 4] w6 false [(false, [.s])] fun r10 w11 =>
Hold [(10, (p1.add 2), (w6.cell? (p1.add 2)).getD undef), (5, (p1.add 1), (w6.cell? (p1.add 1)).getD undef), (1, p1, (w6.cell? p1).getD undef)] w11 ∧ (
saK r10.1.1 ⟨#[45]⟩ (
clS Tryd.prog F.ref20_two [.int .i64 x8, .int .i64 2] w11 false [(false, [.s])] fun r12 w13 =>
Hold [(10, (p1.add 2), (w6.cell? (p1.add 2)).getD undef), (5, (p1.add 1), (w6.cell? (p1.add 1)).getD undef), (1, p1, (w6.cell? p1).getD undef)] w13 ∧ (
saK (r10.1.1 ++ ⟨#[45]⟩) r12.1.1 (
saK ((r10.1.1 ++ ⟨#[45]⟩) ++ r12.1.1) ⟨#[45]⟩ (
clS Tryd.prog F.ref20_two [.int .i64 x9, .int .i64 2] w13 false [(false, [.s])] fun r14 w15 =>
Hold [(5, (p1.add 1), (w6.cell? (p1.add 1)).getD undef), (1, p1, (w6.cell? p1).getD undef)] w15 ∧ (
saK (((r10.1.1 ++ ⟨#[45]⟩) ++ r12.1.1) ++ ⟨#[45]⟩) r14.1.1 (
R (((((r10.1.1 ++ ⟨#[45]⟩) ++ r12.1.1) ++ ⟨#[45]⟩) ++ r14.1.1, ()), ()) w15))))))))
set_option maxRecDepth 100000 in
theorem ref20_Text.eq (d0 : Int) (d1 : Int) (d2 : Int) (w : World) (R : Value → World → Prop) : wpF Tryd.prog Tryd.f53 (.s .n (.s .n (.s (.pl (.tk 0 (.tk 1 (.tk 4 (.tk 5 (.tk 9 (.tk 10 (.ef 2 [] (.tk 3 (.ef 6 [] (.tk 7 (.tk 8 (.ef 11 [10] (.tk 12 (.tk 13 .z))))))))))))))) .n))) [.agg #[.int .i64 d0, .int .i64 d1, .int .i64 d2]] w R = ref20_Text.wp d0 d1 d2 w (fun r w => R (encR false [(false, [.s])] r) w) := by kernel_rfl
set_option maxRecDepth 100000 in
theorem ref20_Text.ok {d0 : Int} {d1 : Int} {d2 : Int} {w : World} {R : TR [(false, [.s])] → World → Prop} (h : ref20_Text.wp d0 d1 d2 w R) : clS Tryd.prog F.ref20_Text [.agg #[.int .i64 d0, .int .i64 d1, .int .i64 d2]] w false [(false, [.s])] R :=
  ok_of Tryd_follows Tryd.func53 (fun R => ref20_Text.wp d0 d1 d2 w R) (ref20_Text.eq d0 d1 d2 w) rfl h
/-! ### slices_IndexFunc_leap_Leap_leap_Leap_of_leap_Make_1 -/
set_option maxRecDepth 100000 in
def slices_IndexFunc_leap_Leap_leap_Leap_of_leap_Make_1.wp (s : Option Addr × Nat × Nat) (w : World) (R : TR [(false, [(.i .i64)])] → World → Prop) : Prop :=
LoopT (fun (self1 : ((Int) × Unit) → World → Prop) (z2 : (Int) × Unit) w3 => ∀ _ : Nat → Value,
brB (decide (z2.1 < (s.2.1 : Int))) (
ixK s.1 s.2.1 z2.1 fun a4 =>
ldN [(.i .i64), (.i .i64)] (a4.add (z2.1.toNat * 2)) 0 w3 fun x5 =>
clS Tryd.prog F.leap_Make_1 [.agg #[.int .i64 x5.1, .int .i64 x5.2.1]] w3 false [(false, [.b])] fun r6 w7 =>
brB r6.1.1 (
R ((z2.1, ()), ()) w7) (
self1 (IntKind.wrap .i64 (z2.1 + 1), ()) w7)) (
R (((Int.negSucc 0), ()), ()) w3)) (0, ()) w
set_option maxRecDepth 100000 in
theorem slices_IndexFunc_leap_Leap_leap_Leap_of_leap_Make_1.eq (s : Option Addr × Nat × Nat) (w : World) (R : Value → World → Prop) : wpF Tryd.prog Tryd.f54 (.s .n (.s (.s .n (.lp [(8, (.i .i64))] .n)) .n)) [.slice s.1 s.2.1 s.2.2, .func (.func F.leap_Make_1) #[] #[]] w R = slices_IndexFunc_leap_Leap_leap_Leap_of_leap_Make_1.wp s w (fun r w => R (encR false [(false, [(.i .i64)])] r) w) := by kernel_rfl
set_option maxRecDepth 100000 in
theorem slices_IndexFunc_leap_Leap_leap_Leap_of_leap_Make_1.ok {s : Option Addr × Nat × Nat} {w : World} {R : TR [(false, [(.i .i64)])] → World → Prop} (h : slices_IndexFunc_leap_Leap_leap_Leap_of_leap_Make_1.wp s w R) : clS Tryd.prog F.slices_IndexFunc_leap_Leap_leap_Leap [.slice s.1 s.2.1 s.2.2, .func (.func F.leap_Make_1) #[] #[]] w false [(false, [(.i .i64)])] R :=
  ok_of Tryd_follows Tryd.func54 (fun R => slices_IndexFunc_leap_Leap_leap_Leap_of_leap_Make_1.wp s w R) (slices_IndexFunc_leap_Leap_leap_Leap_of_leap_Make_1.eq s w) rfl h
/-! ### slices_Values_leap_Leap_leap_Leap_1 -/
set_option maxRecDepth 100000 in
def slices_Values_leap_Leap_leap_Leap_1.wp (yield : Nat) (c_cap0 : Addr) (w : World) (R : TR [] → World → Prop) : Prop :=
ld1 .sl c_cap0 w fun x1 =>
LoopT (fun (self2 : ((Int) × Unit) → World → Prop) (z3 : (Int) × Unit) w4 => ∀ _ : Nat → Value,
brB (decide (z3.1 < (x1.2.1 : Int))) (
ixK x1.1 x1.2.1 z3.1 fun a5 =>
ldN [(.i .i64), (.i .i64)] (a5.add (z3.1.toNat * 2)) 0 w4 fun x6 =>
alK [.int .i64 0, .int .i64 0] T.leap_Leap w4 fun p7 w8 =>
stN [.int .i64 x6.1, .int .i64 x6.2.1] p7 0 w8 fun w9 =>
ldN [(.i .i64), (.i .i64)] p7 0 w9 fun x10 =>
yiS Tryd.prog yield [.agg #[.int .i64 x10.1, .int .i64 x10.2.1]] w9 fun b11 w12 =>
brB (!b11) (
R (()) w12) (
self2 (IntKind.wrap .i64 (z3.1 + 1), ()) w12)) (
R (()) w4)) (0, ()) w
set_option maxRecDepth 100000 in
theorem slices_Values_leap_Leap_leap_Leap_1.eq (yield : Nat) (c_cap0 : Addr) (w : World) (R : Value → World → Prop) : wpF Tryd.prog Tryd.f55 (.s .n (.lp [(7, (.i .i64))] .n)) [.func (.yield yield) #[] #[], .pointer (some c_cap0)] w R = slices_Values_leap_Leap_leap_Leap_1.wp yield c_cap0 w (fun r w => R (encR true [] r) w) := by kernel_rfl
set_option maxRecDepth 100000 in
theorem slices_Values_leap_Leap_leap_Leap_1.ok {yield : Nat} {c_cap0 : Addr} {w : World} {R : TR [] → World → Prop} (h : slices_Values_leap_Leap_leap_Leap_1.wp yield c_cap0 w R) : clS Tryd.prog F.slices_Values_leap_Leap_leap_Leap_1 [.func (.yield yield) #[] #[], .pointer (some c_cap0)] w true [] R :=
  ok_of Tryd_follows Tryd.func55 (fun R => slices_Values_leap_Leap_leap_Leap_1.wp yield c_cap0 w R) (slices_Values_leap_Leap_leap_Leap_1.eq yield c_cap0 w) rfl h
/-! ### leap_plain -/
set_option maxRecDepth 100000 in
def leap_plain.wp (s : ByteArray) (w : World) (R : TR [(false, [.b])] → World → Prop) : Prop :=
rgK s w fun it1 w2 =>
LoopT (fun (self3 : Unit → World → Prop) (z4 : Unit) w5 => ∀ _ : Nat → Value,
nxK it1 w5 (fun w6 =>
brB ((s.size : Int) == 1) (
R ((true, ()), ()) w6) (
brB ((s.size : Int) == 2) (
siK s 0 fun c10 =>
R (((c10 != 48), ()), ()) w6) (
R ((false, ()), ()) w6))) fun i8 c9 w7 =>
brB (decide (c9 < 48)) (
R ((false, ()), ()) w7) (
brB (decide (c9 > 57)) (
R ((false, ()), ()) w7) (
self3 (()) w7))) (()) w2
set_option maxRecDepth 100000 in
theorem leap_plain.eq (s : ByteArray) (w : World) (R : Value → World → Prop) : wpF Tryd.prog Tryd.f59 (.s .n (.s (.s .n (.lp [] .n)) .n)) [.string s] w R = leap_plain.wp s w (fun r w => R (encR false [(false, [.b])] r) w) := by kernel_rfl
set_option maxRecDepth 100000 in
theorem leap_plain.ok {s : ByteArray} {w : World} {R : TR [(false, [.b])] → World → Prop} (h : leap_plain.wp s w R) : clS Tryd.prog F.leap_plain [.string s] w false [(false, [.b])] R :=
  ok_of Tryd_follows Tryd.func59 (fun R => leap_plain.wp s w R) (leap_plain.eq s w) rfl h
/-! ### leap_reader_date -/
set_option maxRecDepth 100000 in
def leap_reader_date.wp (r : Option Addr) (s : ByteArray) (w : World) (R : TR [(false, [(.i .i64)])] → World → Prop) (Z : Value → World → Prop) : Prop :=
clS Tryd.prog F.civil_Parse [.string s] w true [(true, [(.i .i64), (.i .i64), (.i .i64)]), (false, [.b])] fun r1 w2 =>
alK [.int .i64 0, .int .i64 0, .int .i64 0] T.civil_Date w2 fun p3 w4 =>
stN [.int .i64 r1.1.1, .int .i64 r1.1.2.1, .int .i64 r1.1.2.2.1] p3 0 w4 fun w5 =>
CutT (fun (J6 : Unit → World → Prop) =>
brB (!r1.2.1.1) (
clE Tryd.prog F.leap_reader_fail [.pointer r, .int .i64 3] w5 true [] (fun r9 w10 =>
J6 (()) w10) (fun (v11 : Value) w12 =>
Z v11 w12)) (
J6 (()) w5)) (fun (z7 : Unit) w8 => ∀ _ : Nat → Value,
ldN [(.i .i64), (.i .i64), (.i .i64)] p3 0 w8 fun x13 =>
clS Tryd.prog F.civil_Date_Number [.agg #[.int .i64 x13.1, .int .i64 x13.2.1, .int .i64 x13.2.2.1]] w8 true [(false, [(.i .i64)]), (false, [.b])] fun r14 w15 =>
R ((r14.1.1, ()), ()) w15)
set_option maxRecDepth 100000 in
theorem leap_reader_date.eq (r : Option Addr) (s : ByteArray) (w : World) (R : Value → World → Prop) (Z : Value → World → Prop) : wpFZ Tryd.prog Tryd.f60 (.s .n (.s .n (.ct [] (.s .n (.s .pz .n)) .n))) [.pointer r, .string s] w R Z = leap_reader_date.wp r s w (fun r w => R (encR false [(false, [(.i .i64)])] r) w) Z := by kernel_rfl
set_option maxRecDepth 100000 in
theorem leap_reader_date.ok {r : Option Addr} {s : ByteArray} {w : World} {R : TR [(false, [(.i .i64)])] → World → Prop} {Z : Value → World → Prop} (h : leap_reader_date.wp r s w R Z) : clE Tryd.prog F.leap_reader_date [.pointer r, .string s] w false [(false, [(.i .i64)])] R Z :=
  ok_ofZ Tryd_follows Tryd.func60 (fun R Z => leap_reader_date.wp r s w R Z) (leap_reader_date.eq r s w) rfl h
/-! ### ref20_number -/
set_option maxRecDepth 100000 in
def ref20_number.wp (s : ByteArray) (w : World) (R : TR [(false, [(.i .i64)])] → World → Prop) : Prop :=
LoopT (fun (self1 : ((Int) × (Int) × Unit) → World → Prop) (z2 : (Int) × (Int) × Unit) w3 => ∀ _ : Nat → Value,
brB (decide (z2.2.1 < (s.size : Int))) (
siK s z2.2.1 fun c4 =>
brB (decide (c4 < 48)) (
R (((Int.negSucc 0), ()), ()) w3) (
siK s z2.2.1 fun c5 =>
brB (decide (c5 > 57)) (
R (((Int.negSucc 0), ()), ()) w3) (
siK s z2.2.1 fun c6 =>
self1 (IntKind.wrap .i64 ((IntKind.wrap .i64 (10 * z2.1)) + (IntKind.wrap .i64 (IntKind.wrap .u8 (c6 - 48)))), IntKind.wrap .i64 (z2.2.1 + 1), ()) w3))) (
R ((z2.1, ()), ()) w3)) (0, 0, ()) w
set_option maxRecDepth 100000 in
theorem ref20_number.eq (s : ByteArray) (w : World) (R : Value → World → Prop) : wpF Tryd.prog Tryd.f62 (.s .n (.s .n (.s (.s .n (.lp [(3, (.i .i64)), (4, (.i .i64))] .n)) .n))) [.string s] w R = ref20_number.wp s w (fun r w => R (encR false [(false, [(.i .i64)])] r) w) := by kernel_rfl
set_option maxRecDepth 100000 in
theorem ref20_number.ok {s : ByteArray} {w : World} {R : TR [(false, [(.i .i64)])] → World → Prop} (h : ref20_number.wp s w R) : clS Tryd.prog F.ref20_number [.string s] w false [(false, [(.i .i64)])] R :=
  ok_of Tryd_follows Tryd.func62 (fun R => ref20_number.wp s w R) (ref20_number.eq s w) rfl h
/-! ### ref20_Good -/
set_option maxRecDepth 100000 in
def ref20_Good.wp (d0 : Int) (d1 : Int) (d2 : Int) (w : World) (R : TR [(false, [.b])] → World → Prop) : Prop :=
alK [.int .i64 d0, .int .i64 d1, .int .i64 d2] T.ref20_Date w fun p1 w2 =>
drK w2 fun w3 =>
ld1 (.i .i64) p1 w3 fun x4 =>
brB (decide (x4 ≥ 1)) (
ld1 (.i .i64) p1 w3 fun x5 =>
brB (decide (x5 ≤ 9999)) (
ld1 (.i .i64) (p1.add 1) w3 fun x6 =>
brB (decide (x6 ≥ 1)) (
ld1 (.i .i64) (p1.add 1) w3 fun x7 =>
brB (decide (x7 ≤ 12)) (
ld1 (.i .i64) (p1.add 2) w3 fun x8 =>
brB (decide (x8 ≥ 1)) (
ld1 (.i .i64) (p1.add 2) w3 fun x9 =>
ld1 (.i .i64) p1 w3 fun x10 =>
ld1 (.i .i64) (p1.add 1) w3 fun x11 =>
clS Tryd.prog F.ref20_Days [.int .i64 x10, .int .i64 x11] w3 false [(false, [(.i .i64)])] fun r12 w13 =>
Hold [(25, (p1.add 2), (w3.cell? (p1.add 2)).getD undef), (20, (p1.add 2), (w3.cell? (p1.add 2)).getD undef), (15, (p1.add 1), (w3.cell? (p1.add 1)).getD undef), (10, (p1.add 1), (w3.cell? (p1.add 1)).getD undef), (5, p1, (w3.cell? p1).getD undef), (1, p1, (w3.cell? p1).getD undef)] w13 ∧ (
R ((decide (x9 ≤ r12.1.1), ()), ()) w13)) (
R ((false, ()), ()) w3)) (
R ((false, ()), ()) w3)) (
R ((false, ()), ()) w3)) (
R ((false, ()), ()) w3)) (
R ((false, ()), ()) w3)
set_option maxRecDepth 100000 in
theorem ref20_Good.eq (d0 : Int) (d1 : Int) (d2 : Int) (w : World) (R : Value → World → Prop) : wpF Tryd.prog Tryd.f63 (.s .n (.s (.pl (.tk 0 (.tk 1 (.tk 2 (.tk 3 (.tk 4 (.tk 5 (.tk 6 (.tk 7 (.tk 8 (.tk 9 (.tk 10 (.tk 11 (.tk 12 (.tk 13 (.tk 14 (.tk 15 (.tk 16 (.tk 17 (.tk 18 (.tk 19 (.tk 20 (.tk 21 (.tk 22 (.tk 23 (.tk 24 (.tk 25 (.tk 26 (.tk 27 (.tk 28 (.tk 29 (.ef 30 [27, 29] (.tk 31 (.tk 32 (.tk 33 .z))))))))))))))))))))))))))))))))))) .n)) [.agg #[.int .i64 d0, .int .i64 d1, .int .i64 d2]] w R = ref20_Good.wp d0 d1 d2 w (fun r w => R (encR false [(false, [.b])] r) w) := by kernel_rfl
set_option maxRecDepth 100000 in
theorem ref20_Good.ok {d0 : Int} {d1 : Int} {d2 : Int} {w : World} {R : TR [(false, [.b])] → World → Prop} (h : ref20_Good.wp d0 d1 d2 w R) : clS Tryd.prog F.ref20_Good [.agg #[.int .i64 d0, .int .i64 d1, .int .i64 d2]] w false [(false, [.b])] R :=
  ok_of Tryd_follows Tryd.func63 (fun R => ref20_Good.wp d0 d1 d2 w R) (ref20_Good.eq d0 d1 d2 w) rfl h
end Go.Proofs.YtfbegkddkdenbaaDoor
