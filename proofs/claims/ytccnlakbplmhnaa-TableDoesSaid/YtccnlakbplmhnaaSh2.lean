import Derived.Test.YtccnlakbplmhnaaNm
namespace Go.Proofs.Ytccnlakbplmhnaa
open Go.Eng
set_option linter.unusedVariables false
/-! ### law13_alive -/
set_option maxRecDepth 100000 in
def law13_alive.wp  (w : World) (R : TR [(false, [.b])] → World → Prop) : Prop :=
alK [.int .i64 0, .int .i64 0, .int .i64 0] T.table_Entry w fun p1 w2 =>
alK [.int .i64 0, .int .i64 0, .int .i64 0] T.table_Entry w2 fun p3 w4 =>
stN [.int .i64 0, .int .i64 0, .int .i64 1] p1 0 w4 fun w5 =>
stN [.int .i64 1000, .int .i64 5, .int .i64 1] p3 0 w5 fun w6 =>
ldN [(.i .i64), (.i .i64), (.i .i64)] p1 0 w6 fun x7 =>
ldN [(.i .i64), (.i .i64), (.i .i64)] p3 0 w6 fun x8 =>
alK [.int .i64 x7.1, .int .i64 x7.2.1, .int .i64 x7.2.2.1, .int .i64 x8.1, .int .i64 x8.2.1, .int .i64 x8.2.2.1] T.table_Entry w6 fun p9 w10 =>
clS Try.prog F.slope_Of [.int .i64 10, .slice (some p9) 2 2] w10 false [(true, [(.i .i64), (.i .i64)])] fun r11 w12 =>
brB ((r11.1.1 == 5000) && ((r11.1.2.1 == 1000000) && true)) (
ldN [(.i .i64), (.i .i64), (.i .i64)] p1 0 w12 fun x13 =>
ldN [(.i .i64), (.i .i64), (.i .i64)] p3 0 w12 fun x14 =>
alK [.int .i64 x13.1, .int .i64 x13.2.1, .int .i64 x13.2.2.1, .int .i64 x14.1, .int .i64 x14.2.1, .int .i64 x14.2.2.1] T.table_Entry w12 fun p15 w16 =>
clS Try.prog F.slope_Of [.int .i64 1, .slice (some p15) 2 2] w16 false [(true, [(.i .i64), (.i .i64)])] fun r17 w18 =>
R ((((r17.1.1 == 2) && ((r17.1.2.1 == 999) && true)), ()), ()) w18) (
R ((false, ()), ()) w12)
set_option maxRecDepth 100000 in
theorem law13_alive.eq  (w : World) (R : Value → World → Prop) : wpF Try.prog Try.f32 .n [] w R = law13_alive.wp  w (fun r w => R (encR false [(false, [.b])] r) w) := by kernel_rfl
theorem law13_alive.ok  {w : World} {R : TR [(false, [.b])] → World → Prop} (h : law13_alive.wp  w R) : clS Try.prog F.law13_alive [] w false [(false, [.b])] R :=
  ok_of Try_follows Try.func32 (fun R => law13_alive.wp  w R) (law13_alive.eq  w) rfl h
/-! ### slope_Of -/
set_option maxRecDepth 100000 in
def slope_Of.wp (drift : Int) (list : Option Addr × Nat × Nat) (w : World) (R : TR [(true, [(.i .i64), (.i .i64)])] → World → Prop) : Prop :=
alK [.int .i64 0, .int .i64 0] T.slope_Slope w fun p1 w2 =>
alK [.int .i64 0, .int .i64 0] T.slope_Slope w2 fun p3 w4 =>
stN [.int .i64 0, .int .i64 1] p3 0 w4 fun w5 =>
brB (decide ((list.2.1 : Int) < 2)) (
ldN [(.i .i64), (.i .i64)] p3 0 w5 fun x6 =>
stN [.int .i64 x6.1, .int .i64 x6.2.1] p1 0 w5 fun w7 =>
ldN [(.i .i64), (.i .i64)] p1 0 w7 fun x8 =>
R ((x8.1, x8.2.1, ()), ()) w7) (
brB (decide ((list.2.1 : Int) > 8)) (
ldN [(.i .i64), (.i .i64)] p3 0 w5 fun x9 =>
stN [.int .i64 x9.1, .int .i64 x9.2.1] p1 0 w5 fun w10 =>
ldN [(.i .i64), (.i .i64)] p1 0 w10 fun x11 =>
R ((x11.1, x11.2.1, ()), ()) w10) (
LoopT (fun (self12 : ((Int) × Unit) → World → Prop) (z13 : (Int) × Unit) w14 => ∀ _ : Nat → Value,
brB (decide (z13.1 < (list.2.1 : Int))) (
ixK list.1 list.2.1 z13.1 fun a15 =>
ldN [(.i .i64), (.i .i64), (.i .i64)] (a15.add (z13.1.toNat * 3)) 0 w14 fun x16 =>
alK [.int .i64 0, .int .i64 0, .int .i64 0] T.table_Entry w14 fun p17 w18 =>
stN [.int .i64 x16.1, .int .i64 x16.2.1, .int .i64 x16.2.2.1] p17 0 w18 fun w19 =>
ldN [(.i .i64), (.i .i64), (.i .i64)] p17 0 w19 fun x20 =>
clS Try.prog F.table_Entry_Good [.agg #[.int .i64 x20.1, .int .i64 x20.2.1, .int .i64 x20.2.2.1]] w19 false [(false, [.b])] fun r21 w22 =>
brB (!r21.1.1) (
ldN [(.i .i64), (.i .i64)] p3 0 w22 fun x23 =>
stN [.int .i64 x23.1, .int .i64 x23.2.1] p1 0 w22 fun w24 =>
ldN [(.i .i64), (.i .i64)] p1 0 w24 fun x25 =>
R ((x25.1, x25.2.1, ()), ()) w24) (
self12 (IntKind.wrap .i64 (z13.1 + 1), ()) w22)) (
clS Try.prog F.slope_gather [.slice list.1 list.2.1 list.2.2] w14 true [(true, [(.i .i64), (.i .i64), (.i .i64), (.i .i64), (.i .i64)]), (false, [.b])] fun r26 w27 =>
alK [.int .i64 0, .int .i64 0, .int .i64 0, .int .i64 0, .int .i64 0] T.slope_sums w27 fun p28 w29 =>
stN [.int .i64 r26.1.1, .int .i64 r26.1.2.1, .int .i64 r26.1.2.2.1, .int .i64 r26.1.2.2.2.1, .int .i64 r26.1.2.2.2.2.1] p28 0 w29 fun w30 =>
ld1 (.i .i64) p28 w30 fun x31 =>
ld1 (.i .i64) (p28.add 4) w30 fun x32 =>
ld1 (.i .i64) (p28.add 1) w30 fun x33 =>
ld1 (.i .i64) (p28.add 1) w30 fun x34 =>
brB (!r26.2.1.1) (
ldN [(.i .i64), (.i .i64)] p3 0 w30 fun x35 =>
stN [.int .i64 x35.1, .int .i64 x35.2.1] p1 0 w30 fun w36 =>
ldN [(.i .i64), (.i .i64)] p1 0 w36 fun x37 =>
R ((x37.1, x37.2.1, ()), ()) w36) (
brB (decide ((IntKind.wrap .i64 ((IntKind.wrap .i64 (x31 * x32)) - (IntKind.wrap .i64 (x33 * x34)))) < 1)) (
ldN [(.i .i64), (.i .i64)] p3 0 w30 fun x38 =>
stN [.int .i64 x38.1, .int .i64 x38.2.1] p1 0 w30 fun w39 =>
ldN [(.i .i64), (.i .i64)] p1 0 w39 fun x40 =>
R ((x40.1, x40.2.1, ()), ()) w39) (
ld1 (.i .i64) p28 w30 fun x41 =>
ld1 (.i .i64) (p28.add 3) w30 fun x42 =>
ld1 (.i .i64) (p28.add 1) w30 fun x43 =>
ld1 (.i .i64) (p28.add 2) w30 fun x44 =>
clS Try.prog F.slope_Most [.int .i64 drift] w30 false [(true, [(.i .i64), (.i .i64)])] fun r45 w46 =>
alK [.int .i64 0, .int .i64 0] T.slope_Slope w46 fun p47 w48 =>
stN [.int .i64 r45.1.1, .int .i64 r45.1.2.1] p47 0 w48 fun w49 =>
CutT (fun (J50 : ((Bool) × Unit) → World → Prop) =>
brB (decide ((IntKind.wrap .i64 ((IntKind.wrap .i64 (x41 * x42)) - (IntKind.wrap .i64 (x43 * x44)))) > 0)) (
ldN [(.i .i64), (.i .i64)] p47 0 w49 fun x53 =>
clS Try.prog F.slope_over [.agg #[.int .i64 (IntKind.wrap .i64 ((IntKind.wrap .i64 (x41 * x42)) - (IntKind.wrap .i64 (x43 * x44)))), .int .i64 (IntKind.wrap .i64 ((IntKind.wrap .i64 (x31 * x32)) - (IntKind.wrap .i64 (x33 * x34))))], .agg #[.int .i64 x53.1, .int .i64 x53.2.1]] w49 false [(false, [.b])] fun r54 w55 =>
J50 (r54.1.1, ()) w55) (
J50 (false, ()) w49)) (fun (z51 : (Bool) × Unit) w52 => ∀ _ : Nat → Value,
brB z51.1 (
ldN [(.i .i64), (.i .i64)] p47 0 w52 fun x56 =>
stN [.int .i64 x56.1, .int .i64 x56.2.1] p1 0 w52 fun w57 =>
ldN [(.i .i64), (.i .i64)] p1 0 w57 fun x58 =>
R ((x58.1, x58.2.1, ()), ()) w57) (
CutT (fun (J59 : ((Bool) × Unit) → World → Prop) =>
brB (decide ((IntKind.wrap .i64 ((IntKind.wrap .i64 (x41 * x42)) - (IntKind.wrap .i64 (x43 * x44)))) < 0)) (
ldN [(.i .i64), (.i .i64)] p47 0 w52 fun x62 =>
clS Try.prog F.slope_over [.agg #[.int .i64 (IntKind.wrap .i64 (0 - (IntKind.wrap .i64 ((IntKind.wrap .i64 (x41 * x42)) - (IntKind.wrap .i64 (x43 * x44)))))), .int .i64 (IntKind.wrap .i64 ((IntKind.wrap .i64 (x31 * x32)) - (IntKind.wrap .i64 (x33 * x34))))], .agg #[.int .i64 x62.1, .int .i64 x62.2.1]] w52 false [(false, [.b])] fun r63 w64 =>
J59 (r63.1.1, ()) w64) (
J59 (false, ()) w52)) (fun (z60 : (Bool) × Unit) w61 => ∀ _ : Nat → Value,
brB z60.1 (
ld1 (.i .i64) p47 w61 fun x65 =>
ld1 (.i .i64) (p47.add 1) w61 fun x66 =>
stN [.int .i64 (IntKind.wrap .i64 (0 - x65)), .int .i64 x66] p1 0 w61 fun w67 =>
ldN [(.i .i64), (.i .i64)] p1 0 w67 fun x68 =>
R ((x68.1, x68.2.1, ()), ()) w67) (
stN [.int .i64 (IntKind.wrap .i64 ((IntKind.wrap .i64 (x41 * x42)) - (IntKind.wrap .i64 (x43 * x44)))), .int .i64 (IntKind.wrap .i64 ((IntKind.wrap .i64 (x31 * x32)) - (IntKind.wrap .i64 (x33 * x34))))] p1 0 w61 fun w69 =>
ldN [(.i .i64), (.i .i64)] p1 0 w69 fun x70 =>
R ((x70.1, x70.2.1, ()), ()) w69)))))))) (0, ()) w5))
set_option maxRecDepth 100000 in
theorem slope_Of.eq (drift : Int) (list : Option Addr × Nat × Nat) (w : World) (R : Value → World → Prop) : wpF Try.prog Try.f33 (.s .n (.s .n (.s .n (.s (.s .n (.lp [(25, (.i .i64))] .n)) (.s .n (.s .n (.s .n (.s .n (.s .n (.s (.ct [(70, .b)] .n (.s .n (.ct [(81, .b)] .n .n))) .n)))))))))) [.int .i64 drift, .slice list.1 list.2.1 list.2.2] w R = slope_Of.wp drift list w (fun r w => R (encR false [(true, [(.i .i64), (.i .i64)])] r) w) := by kernel_rfl
theorem slope_Of.ok {drift : Int} {list : Option Addr × Nat × Nat} {w : World} {R : TR [(true, [(.i .i64), (.i .i64)])] → World → Prop} (h : slope_Of.wp drift list w R) : clS Try.prog F.slope_Of [.int .i64 drift, .slice list.1 list.2.1 list.2.2] w false [(true, [(.i .i64), (.i .i64)])] R :=
  ok_of Try_follows Try.func33 (fun R => slope_Of.wp drift list w R) (slope_Of.eq drift list w) rfl h
/-! ### ref13_Of -/
set_option maxRecDepth 100000 in
def ref13_Of.wp (drift : Int) (list : Option Addr × Nat × Nat) (w : World) (R : TR [(false, [(.i .i64)]), (false, [(.i .i64)])] → World → Prop) : Prop :=
brB (decide ((list.2.1 : Int) < 2)) (
R ((0, ()), (1, ()), ()) w) (
brB (decide ((list.2.1 : Int) > 8)) (
R ((0, ()), (1, ()), ()) w) (
LoopT (fun (self1 : ((Int) × Unit) → World → Prop) (z2 : (Int) × Unit) w3 => ∀ _ : Nat → Value,
brB (decide (z2.1 < (list.2.1 : Int))) (
ixK list.1 list.2.1 z2.1 fun a4 =>
ldN [(.i .i64), (.i .i64), (.i .i64)] (a4.add (z2.1.toNat * 3)) 0 w3 fun x5 =>
alK [.int .i64 0, .int .i64 0, .int .i64 0] T.ref12_Entry w3 fun p6 w7 =>
stN [.int .i64 x5.1, .int .i64 x5.2.1, .int .i64 x5.2.2.1] p6 0 w7 fun w8 =>
ldN [(.i .i64), (.i .i64), (.i .i64)] p6 0 w8 fun x9 =>
clS Try.prog F.ref12_Good [.agg #[.int .i64 x9.1, .int .i64 x9.2.1, .int .i64 x9.2.2.1]] w8 false [(false, [.b])] fun r10 w11 =>
brB (!r10.1.1) (
R ((0, ()), (1, ()), ()) w11) (
self1 (IntKind.wrap .i64 (z2.1 + 1), ()) w11)) (
LoopT (fun (self12 : ((Int) × (Int) × (Int) × (Int) × (Int) × Unit) → World → Prop) (z13 : (Int) × (Int) × (Int) × (Int) × (Int) × Unit) w14 => ∀ _ : Nat → Value,
brB (decide (z13.2.2.2.2.1 < (list.2.1 : Int))) (
ixK list.1 list.2.1 z13.2.2.2.2.1 fun a15 =>
ldN [(.i .i64), (.i .i64), (.i .i64)] (a15.add (z13.2.2.2.2.1.toNat * 3)) 0 w14 fun x16 =>
alK [.int .i64 0, .int .i64 0, .int .i64 0] T.ref12_Entry w14 fun p17 w18 =>
stN [.int .i64 x16.1, .int .i64 x16.2.1, .int .i64 x16.2.2.1] p17 0 w18 fun w19 =>
drK w19 fun w20 =>
ld1 (.i .i64) p17 w20 fun x21 =>
ixK list.1 list.2.1 0 fun a22 =>
ld1 (.i .i64) (a22.add ((0 : Int).toNat * 3)) w20 fun x23 =>
drK w20 fun w24 =>
ld1 (.i .i64) (p17.add 1) w24 fun x25 =>
ixK list.1 list.2.1 0 fun a26 =>
ld1 (.i .i64) ((a26.add ((0 : Int).toNat * 3)).add 1) w24 fun x27 =>
brB (decide ((IntKind.wrap .i64 (x21 - x23)) < 0)) (
R ((0, ()), (1, ()), ()) w24) (
brB (decide ((IntKind.wrap .i64 (x21 - x23)) > 4194304)) (
R ((0, ()), (1, ()), ()) w24) (
brB (decide ((IntKind.wrap .i64 (x25 - x27)) < (Int.negSucc 4194303))) (
R ((0, ()), (1, ()), ()) w24) (
brB (decide ((IntKind.wrap .i64 (x25 - x27)) > 4194304)) (
R ((0, ()), (1, ()), ()) w24) (
self12 (IntKind.wrap .i64 (z13.1 + (IntKind.wrap .i64 (x21 - x23))), IntKind.wrap .i64 (z13.2.1 + (IntKind.wrap .i64 (x25 - x27))), IntKind.wrap .i64 (z13.2.2.1 + (IntKind.wrap .i64 ((IntKind.wrap .i64 (x21 - x23)) * (IntKind.wrap .i64 (x25 - x27))))), IntKind.wrap .i64 (z13.2.2.2.1 + (IntKind.wrap .i64 ((IntKind.wrap .i64 (x21 - x23)) * (IntKind.wrap .i64 (x21 - x23))))), IntKind.wrap .i64 (z13.2.2.2.2.1 + 1), ()) w24))))) (
brB (decide ((IntKind.wrap .i64 ((IntKind.wrap .i64 ((list.2.1 : Int) * z13.2.2.2.1)) - (IntKind.wrap .i64 (z13.1 * z13.1)))) ≤ 0)) (
R ((0, ()), (1, ()), ()) w14) (
clS Try.prog F.ref13_Most [.int .i64 drift] w14 true [(false, [(.i .i64)]), (false, [(.i .i64)])] fun r28 w29 =>
CutT (fun (J30 : Unit → World → Prop) =>
brB (decide ((IntKind.wrap .i64 ((IntKind.wrap .i64 ((list.2.1 : Int) * z13.2.2.1)) - (IntKind.wrap .i64 (z13.1 * z13.2.1)))) > 0)) (
clS Try.prog F.ref13_Over [.int .i64 (IntKind.wrap .i64 ((IntKind.wrap .i64 ((list.2.1 : Int) * z13.2.2.1)) - (IntKind.wrap .i64 (z13.1 * z13.2.1)))), .int .i64 (IntKind.wrap .i64 ((IntKind.wrap .i64 ((list.2.1 : Int) * z13.2.2.2.1)) - (IntKind.wrap .i64 (z13.1 * z13.1)))), .int .i64 r28.1.1, .int .i64 r28.2.1.1] w29 false [(false, [.b])] fun r33 w34 =>
brB r33.1.1 (
R ((r28.1.1, ()), (r28.2.1.1, ()), ()) w34) (
J30 (()) w34)) (
J30 (()) w29)) (fun (z31 : Unit) w32 => ∀ _ : Nat → Value,
brB (decide ((IntKind.wrap .i64 ((IntKind.wrap .i64 ((list.2.1 : Int) * z13.2.2.1)) - (IntKind.wrap .i64 (z13.1 * z13.2.1)))) < 0)) (
clS Try.prog F.ref13_Over [.int .i64 (IntKind.wrap .i64 (0 - (IntKind.wrap .i64 ((IntKind.wrap .i64 ((list.2.1 : Int) * z13.2.2.1)) - (IntKind.wrap .i64 (z13.1 * z13.2.1)))))), .int .i64 (IntKind.wrap .i64 ((IntKind.wrap .i64 ((list.2.1 : Int) * z13.2.2.2.1)) - (IntKind.wrap .i64 (z13.1 * z13.1)))), .int .i64 r28.1.1, .int .i64 r28.2.1.1] w32 false [(false, [.b])] fun r35 w36 =>
brB r35.1.1 (
R ((IntKind.wrap .i64 (0 - r28.1.1), ()), (r28.2.1.1, ()), ()) w36) (
R ((IntKind.wrap .i64 ((IntKind.wrap .i64 ((list.2.1 : Int) * z13.2.2.1)) - (IntKind.wrap .i64 (z13.1 * z13.2.1))), ()), (IntKind.wrap .i64 ((IntKind.wrap .i64 ((list.2.1 : Int) * z13.2.2.2.1)) - (IntKind.wrap .i64 (z13.1 * z13.1))), ()), ()) w36)) (
R ((IntKind.wrap .i64 ((IntKind.wrap .i64 ((list.2.1 : Int) * z13.2.2.1)) - (IntKind.wrap .i64 (z13.1 * z13.2.1))), ()), (IntKind.wrap .i64 ((IntKind.wrap .i64 ((list.2.1 : Int) * z13.2.2.2.1)) - (IntKind.wrap .i64 (z13.1 * z13.1))), ()), ()) w32))))) (0, 0, 0, 0, 0, ()) w3)) (0, ()) w))
set_option maxRecDepth 100000 in
theorem ref13_Of.eq (drift : Int) (list : Option Addr × Nat × Nat) (w : World) (R : Value → World → Prop) : wpF Try.prog Try.f34 (.s .n (.s .n (.s .n (.s .n (.s (.s .n (.lp [(31, (.i .i64))] .n)) (.s (.s .n (.lp [(7, (.i .i64)), (8, (.i .i64)), (9, (.i .i64)), (10, (.i .i64)), (41, (.i .i64))] (.s .n (.s .n (.s (.s .n (.s (.pl (.tk 0 (.tk 1 (.tk 2 (.tk 3 (.tk 4 (.tk 5 (.tk 6 (.tk 7 .z))))))))) (.s (.pl (.tk 0 (.tk 1 (.tk 2 (.tk 3 (.tk 4 (.tk 5 (.tk 6 (.tk 7 .z))))))))) .n))) .n))))) (.s .n (.s .n (.s .n (.s .n (.ct [] .n .n))))))))))) [.int .i64 drift, .slice list.1 list.2.1 list.2.2] w R = ref13_Of.wp drift list w (fun r w => R (encR true [(false, [(.i .i64)]), (false, [(.i .i64)])] r) w) := by kernel_rfl
theorem ref13_Of.ok {drift : Int} {list : Option Addr × Nat × Nat} {w : World} {R : TR [(false, [(.i .i64)]), (false, [(.i .i64)])] → World → Prop} (h : ref13_Of.wp drift list w R) : clS Try.prog F.ref13_Of [.int .i64 drift, .slice list.1 list.2.1 list.2.2] w true [(false, [(.i .i64)]), (false, [(.i .i64)])] R :=
  ok_of Try_follows Try.func34 (fun R => ref13_Of.wp drift list w R) (ref13_Of.eq drift list w) rfl h
/-! ### law13_rows -/
set_option maxRecDepth 100000 in
def law13_rows.wp (list : Option Addr × Nat × Nat) (w : World) (R : TR [(false, [.sl])] → World → Prop) : Prop :=
LoopT (fun (self1 : ((Option Addr × Nat × Nat) × (Int) × Unit) → World → Prop) (z2 : (Option Addr × Nat × Nat) × (Int) × Unit) w3 => ∀ _ : Nat → Value,
brB (decide (z2.2.1 < (list.2.1 : Int))) (
ixK list.1 list.2.1 z2.2.1 fun a4 =>
ldN [(.i .i64), (.i .i64), (.i .i64)] (a4.add (z2.2.1.toNat * 3)) 0 w3 fun x5 =>
alK [.int .i64 0, .int .i64 0, .int .i64 0] T.table_Entry w3 fun p6 w7 =>
stN [.int .i64 x5.1, .int .i64 x5.2.1, .int .i64 x5.2.2.1] p6 0 w7 fun w8 =>
ldN [(.i .i64), (.i .i64), (.i .i64)] p6 0 w8 fun x9 =>
alK [.int .i64 x9.1, .int .i64 x9.2.1, .int .i64 x9.2.2.1] T.ref12_Entry w8 fun p10 w11 =>
slOf ((Builtin.append_ #[T.sl_angelusref12_Entry, T.sl_angelusref12_Entry] T.sl_angelusref12_Entry #[.slice z2.1.1 z2.1.2.1 z2.1.2.2, .slice (some p10) 1 1]).run Try.prog w11) fun y12 w13 =>
self1 ((y12.1, y12.2.1, y12.2.2), IntKind.wrap .i64 (z2.2.1 + 1), ()) w13) (
R (((z2.1.1, z2.1.2.1, z2.1.2.2), ()), ()) w3)) ((none, 0, 0), 0, ()) w
set_option maxRecDepth 100000 in
theorem law13_rows.eq (list : Option Addr × Nat × Nat) (w : World) (R : Value → World → Prop) : wpF Try.prog Try.f35 (.s .n (.s .n (.s (.s .n (.lp [(3, .sl), (8, (.i .i64))] .n)) .n))) [.slice list.1 list.2.1 list.2.2] w R = law13_rows.wp list w (fun r w => R (encR false [(false, [.sl])] r) w) := by kernel_rfl
theorem law13_rows.ok {list : Option Addr × Nat × Nat} {w : World} {R : TR [(false, [.sl])] → World → Prop} (h : law13_rows.wp list w R) : clS Try.prog F.law13_rows [.slice list.1 list.2.1 list.2.2] w false [(false, [.sl])] R :=
  ok_of Try_follows Try.func35 (fun R => law13_rows.wp list w R) (law13_rows.eq list w) rfl h
/-! ### slope_Most -/
set_option maxRecDepth 100000 in
def slope_Most.wp (drift : Int) (w : World) (R : TR [(true, [(.i .i64), (.i .i64)])] → World → Prop) : Prop :=
alK [.int .i64 0, .int .i64 0] T.slope_Slope w fun p1 w2 =>
clS Try.prog F.fix_Clamp [.int .i64 drift, .int .i64 0, .int .i64 10] w2 false [(false, [(.i .i64)])] fun r3 w4 =>
stN [.int .i64 (IntKind.wrap .i64 (2 * r3.1.1)), .int .i64 (IntKind.wrap .i64 (1000 - r3.1.1))] p1 0 w4 fun w5 =>
ldN [(.i .i64), (.i .i64)] p1 0 w5 fun x6 =>
R ((x6.1, x6.2.1, ()), ()) w5
set_option maxRecDepth 100000 in
theorem slope_Most.eq (drift : Int) (w : World) (R : Value → World → Prop) : wpF Try.prog Try.f36 .n [.int .i64 drift] w R = slope_Most.wp drift w (fun r w => R (encR false [(true, [(.i .i64), (.i .i64)])] r) w) := by kernel_rfl
theorem slope_Most.ok {drift : Int} {w : World} {R : TR [(true, [(.i .i64), (.i .i64)])] → World → Prop} (h : slope_Most.wp drift w R) : clS Try.prog F.slope_Most [.int .i64 drift] w false [(true, [(.i .i64), (.i .i64)])] R :=
  ok_of Try_follows Try.func36 (fun R => slope_Most.wp drift w R) (slope_Most.eq drift w) rfl h
/-! ### ref13_Most -/
set_option maxRecDepth 100000 in
def ref13_Most.wp (drift : Int) (w : World) (R : TR [(false, [(.i .i64)]), (false, [(.i .i64)])] → World → Prop) : Prop :=
R ((IntKind.wrap .i64 (2 * (if 10 < (if 0 > drift then 0 else drift) then 10 else (if 0 > drift then 0 else drift))), ()), (IntKind.wrap .i64 (1000 - (if 10 < (if 0 > drift then 0 else drift) then 10 else (if 0 > drift then 0 else drift))), ()), ()) w
set_option maxRecDepth 100000 in
theorem ref13_Most.eq (drift : Int) (w : World) (R : Value → World → Prop) : wpF Try.prog Try.f37 .n [.int .i64 drift] w R = ref13_Most.wp drift w (fun r w => R (encR true [(false, [(.i .i64)]), (false, [(.i .i64)])] r) w) := by kernel_rfl
theorem ref13_Most.ok {drift : Int} {w : World} {R : TR [(false, [(.i .i64)]), (false, [(.i .i64)])] → World → Prop} (h : ref13_Most.wp drift w R) : clS Try.prog F.ref13_Most [.int .i64 drift] w true [(false, [(.i .i64)]), (false, [(.i .i64)])] R :=
  ok_of Try_follows Try.func37 (fun R => ref13_Most.wp drift w R) (ref13_Most.eq drift w) rfl h
/-! ### ref13_Over -/
set_option maxRecDepth 100000 in
def ref13_Over.wp (a : Int) (b : Int) (c : Int) (d : Int) (w : World) (R : TR [(false, [.b])] → World → Prop) : Prop :=
LoopT (fun (self1 : ((Int) × (Int) × (Int) × Unit) → World → Prop) (z2 : (Int) × (Int) × (Int) × Unit) w3 => ∀ _ : Nat → Value,
brB (decide (z2.2.2.1 ≥ 0)) (
CutT (fun (J4 : ((Int) × (Int) × Unit) → World → Prop) =>
brB (decide ((IntKind.wrap .i64 (2 * z2.2.1)) ≥ b)) (
J4 (IntKind.wrap .i64 ((IntKind.wrap .i64 (2 * z2.1)) + 1), IntKind.wrap .i64 ((IntKind.wrap .i64 (2 * z2.2.1)) - b), ()) w3) (
J4 (IntKind.wrap .i64 (2 * z2.1), IntKind.wrap .i64 (2 * z2.2.1), ()) w3)) (fun (z5 : (Int) × (Int) × Unit) w6 => ∀ _ : Nat → Value,
shK (IntKind.wrap .u64 z2.2.2.1) (
nzK 2 (
brB ((Int.tmod (shrX .i64 d (IntKind.wrap .u64 z2.2.2.1)) 2) == 1) (
nzK b (
nzK b (
brB (decide ((IntKind.wrap .i64 (z5.2.1 + (Int.tmod a b))) ≥ b)) (
self1 (IntKind.wrap .i64 ((IntKind.wrap .i64 (z5.1 + (IntKind.wrap .i64 (Int.tdiv a b)))) + 1), IntKind.wrap .i64 ((IntKind.wrap .i64 (z5.2.1 + (Int.tmod a b))) - b), IntKind.wrap .i64 (z2.2.2.1 - 1), ()) w6) (
self1 (IntKind.wrap .i64 (z5.1 + (IntKind.wrap .i64 (Int.tdiv a b))), IntKind.wrap .i64 (z5.2.1 + (Int.tmod a b)), IntKind.wrap .i64 (z2.2.2.1 - 1), ()) w6)))) (
self1 (z5.1, z5.2.1, IntKind.wrap .i64 (z2.2.2.1 - 1), ()) w6))))) (
brB (decide (z2.1 > c)) (
R ((true, ()), ()) w3) (
brB (z2.1 == c) (
R ((decide (z2.2.1 > 0), ()), ()) w3) (
R ((false, ()), ()) w3)))) (0, 0, 9, ()) w
set_option maxRecDepth 100000 in
theorem ref13_Over.eq (a : Int) (b : Int) (c : Int) (d : Int) (w : World) (R : Value → World → Prop) : wpF Try.prog Try.f38 (.s .n (.s .n (.s .n (.s (.s .n (.lp [(9, (.i .i64)), (10, (.i .i64)), (11, (.i .i64))] (.s .n (.s (.s .n (.s .n (.ct [(9, (.i .i64)), (10, (.i .i64))] .n .n))) .n)))) .n)))) [.int .i64 a, .int .i64 b, .int .i64 c, .int .i64 d] w R = ref13_Over.wp a b c d w (fun r w => R (encR false [(false, [.b])] r) w) := by kernel_rfl
theorem ref13_Over.ok {a : Int} {b : Int} {c : Int} {d : Int} {w : World} {R : TR [(false, [.b])] → World → Prop} (h : ref13_Over.wp a b c d w R) : clS Try.prog F.ref13_Over [.int .i64 a, .int .i64 b, .int .i64 c, .int .i64 d] w false [(false, [.b])] R :=
  ok_of Try_follows Try.func38 (fun R => ref13_Over.wp a b c d w R) (ref13_Over.eq a b c d w) rfl h
/-! ### law01_alive -/
set_option maxRecDepth 100000 in
def law01_alive.wp  (w : World) (R : TR [(false, [.b])] → World → Prop) : Prop :=
clS Try.prog F.fix_Floor [.int .i64 (Int.negSucc 6), .int .i64 2] w true [(false, [(.i .i64)]), (false, [(.i .i64)]), (false, [.b])] fun r1 w2 =>
clS Try.prog F.fix_MulDiv [.int .i64 4611686018427387904, .int .i64 6, .int .i64 8] w2 true [(false, [(.i .i64)]), (false, [.b])] fun r3 w4 =>
brB (r1.1.1 == (Int.negSucc 3)) (
brB (r1.2.1.1 == 1) (
brB r1.2.2.1.1 (
brB (r3.1.1 == 3458764513820540928) (
R ((r3.2.1.1, ()), ()) w4) (
R ((false, ()), ()) w4)) (
R ((false, ()), ()) w4)) (
R ((false, ()), ()) w4)) (
R ((false, ()), ()) w4)
set_option maxRecDepth 100000 in
theorem law01_alive.eq  (w : World) (R : Value → World → Prop) : wpF Try.prog Try.f39 .n [] w R = law01_alive.wp  w (fun r w => R (encR false [(false, [.b])] r) w) := by kernel_rfl
theorem law01_alive.ok  {w : World} {R : TR [(false, [.b])] → World → Prop} (h : law01_alive.wp  w R) : clS Try.prog F.law01_alive [] w false [(false, [.b])] R :=
  ok_of Try_follows Try.func39 (fun R => law01_alive.wp  w R) (law01_alive.eq  w) rfl h
/-! ### fix_Floor -/
set_option maxRecDepth 100000 in
def fix_Floor.wp (a : Int) (b : Int) (w : World) (R : TR [(false, [(.i .i64)]), (false, [(.i .i64)]), (false, [.b])] → World → Prop) : Prop :=
brB (decide (b < 1)) (
R ((0, ()), (0, ()), (false, ()), ()) w) (
drK w fun w1 =>
nzK b (
nzK b (
brB (decide ((Int.tmod a b) < 0)) (
R ((IntKind.wrap .i64 ((IntKind.wrap .i64 (Int.tdiv a b)) - 1), ()), (IntKind.wrap .i64 ((Int.tmod a b) + b), ()), (true, ()), ()) w1) (
R ((IntKind.wrap .i64 (Int.tdiv a b), ()), (Int.tmod a b, ()), (true, ()), ()) w1))))
set_option maxRecDepth 100000 in
theorem fix_Floor.eq (a : Int) (b : Int) (w : World) (R : Value → World → Prop) : wpF Try.prog Try.f40 (.s .n (.s .n (.s (.pl (.tk 0 (.tk 1 (.tk 2 (.tk 3 (.tk 4 (.tk 5 (.tk 6 (.tk 7 .z))))))))) .n))) [.int .i64 a, .int .i64 b] w R = fix_Floor.wp a b w (fun r w => R (encR true [(false, [(.i .i64)]), (false, [(.i .i64)]), (false, [.b])] r) w) := by kernel_rfl
theorem fix_Floor.ok {a : Int} {b : Int} {w : World} {R : TR [(false, [(.i .i64)]), (false, [(.i .i64)]), (false, [.b])] → World → Prop} (h : fix_Floor.wp a b w R) : clS Try.prog F.fix_Floor [.int .i64 a, .int .i64 b] w true [(false, [(.i .i64)]), (false, [(.i .i64)]), (false, [.b])] R :=
  ok_of Try_follows Try.func40 (fun R => fix_Floor.wp a b w R) (fix_Floor.eq a b w) rfl h
/-! ### fix_Size -/
set_option maxRecDepth 100000 in
def fix_Size.wp (n : Int) (w : World) (R : TR [(false, [(.i .u64)])] → World → Prop) : Prop :=
brB (decide (n < 0)) (
R ((IntKind.wrap .u64 (0 - (IntKind.wrap .u64 n)), ()), ()) w) (
R ((IntKind.wrap .u64 n, ()), ()) w)
set_option maxRecDepth 100000 in
theorem fix_Size.eq (n : Int) (w : World) (R : Value → World → Prop) : wpF Try.prog Try.f41 .n [.int .i64 n] w R = fix_Size.wp n w (fun r w => R (encR false [(false, [(.i .u64)])] r) w) := by kernel_rfl
theorem fix_Size.ok {n : Int} {w : World} {R : TR [(false, [(.i .u64)])] → World → Prop} (h : fix_Size.wp n w R) : clS Try.prog F.fix_Size [.int .i64 n] w false [(false, [(.i .u64)])] R :=
  ok_of Try_follows Try.func41 (fun R => fix_Size.wp n w R) (fix_Size.eq n w) rfl h
/-! ### ref01_Size -/
set_option maxRecDepth 100000 in
def ref01_Size.wp (n : Int) (w : World) (R : TR [(false, [(.i .u64)])] → World → Prop) : Prop :=
brB (decide (n ≥ 0)) (
R ((IntKind.wrap .u64 n, ()), ()) w) (
R ((IntKind.wrap .u64 ((IntKind.wrap .u64 (IntKind.wrap .i64 (0 - (IntKind.wrap .i64 (n + 1))))) + 1), ()), ()) w)
set_option maxRecDepth 100000 in
theorem ref01_Size.eq (n : Int) (w : World) (R : Value → World → Prop) : wpF Try.prog Try.f42 .n [.int .i64 n] w R = ref01_Size.wp n w (fun r w => R (encR false [(false, [(.i .u64)])] r) w) := by kernel_rfl
theorem ref01_Size.ok {n : Int} {w : World} {R : TR [(false, [(.i .u64)])] → World → Prop} (h : ref01_Size.wp n w R) : clS Try.prog F.ref01_Size [.int .i64 n] w false [(false, [(.i .u64)])] R :=
  ok_of Try_follows Try.func42 (fun R => ref01_Size.wp n w R) (ref01_Size.eq n w) rfl h
/-! ### ref01_Floor -/
set_option maxRecDepth 100000 in
def ref01_Floor.wp (a : Int) (b : Int) (w : World) (R : TR [(false, [(.i .i64)]), (false, [(.i .i64)])] → World → Prop) : Prop :=
nzK b (
CutT (fun (J1 : ((Bool) × Unit) → World → Prop) =>
nzK b (
brB ((Int.tmod a b) != 0) (
J1 (decide (a < 0), ()) w) (
J1 (false, ()) w))) (fun (z2 : (Bool) × Unit) w3 => ∀ _ : Nat → Value,
brB z2.1 (
drK w3 fun w4 =>
nzK b (
R ((IntKind.wrap .i64 ((IntKind.wrap .i64 (Int.tdiv a b)) - 1), ()), (IntKind.wrap .i64 ((Int.tmod a b) + b), ()), ()) w4)) (
drK w3 fun w5 =>
nzK b (
R ((IntKind.wrap .i64 (Int.tdiv a b), ()), (Int.tmod a b, ()), ()) w5))))
set_option maxRecDepth 100000 in
theorem ref01_Floor.eq (a : Int) (b : Int) (w : World) (R : Value → World → Prop) : wpF Try.prog Try.f43 (.s .n (.s .n (.s (.ct [(17, .b)] .n (.s (.s (.pl (.tk 0 (.tk 1 (.tk 2 (.tk 3 (.tk 4 (.tk 5 (.tk 6 (.tk 7 (.tk 8 .z)))))))))) .n) .n)) (.s (.pl (.tk 0 (.tk 1 (.tk 2 (.tk 3 (.tk 4 (.tk 5 .z))))))) .n)))) [.int .i64 a, .int .i64 b] w R = ref01_Floor.wp a b w (fun r w => R (encR true [(false, [(.i .i64)]), (false, [(.i .i64)])] r) w) := by kernel_rfl
theorem ref01_Floor.ok {a : Int} {b : Int} {w : World} {R : TR [(false, [(.i .i64)]), (false, [(.i .i64)])] → World → Prop} (h : ref01_Floor.wp a b w R) : clS Try.prog F.ref01_Floor [.int .i64 a, .int .i64 b] w true [(false, [(.i .i64)]), (false, [(.i .i64)])] R :=
  ok_of Try_follows Try.func43 (fun R => ref01_Floor.wp a b w R) (ref01_Floor.eq a b w) rfl h
/-! ### fix_MulDiv -/
set_option maxRecDepth 100000 in
def fix_MulDiv.wp (a : Int) (b : Int) (c : Int) (w : World) (R : TR [(false, [(.i .i64)]), (false, [.b])] → World → Prop) : Prop :=
brB (decide (c < 1)) (
R ((0, ()), (false, ()), ()) w) (
clS Try.prog F.fix_Size [.int .i64 a] w false [(false, [(.i .u64)])] fun r1 w2 =>
clS Try.prog F.fix_Size [.int .i64 b] w2 false [(false, [(.i .u64)])] fun r3 w4 =>
clS Try.prog F.bits_Mul64 [.int .u64 r1.1.1, .int .u64 r3.1.1] w4 true [(false, [(.i .u64)]), (false, [(.i .u64)])] fun r5 w6 =>
brB (decide (r5.1.1 ≥ (IntKind.wrap .u64 c))) (
R ((0, ()), (false, ()), ()) w6) (
clS Try.prog F.bits_Div64 [.int .u64 r5.1.1, .int .u64 r5.2.1.1, .int .u64 (IntKind.wrap .u64 c)] w6 true [(false, [(.i .u64)]), (false, [(.i .u64)])] fun r7 w8 =>
brB ((decide (a < 0)) == (decide (b < 0))) (
brB (decide (r7.1.1 > 9223372036854775807)) (
R ((0, ()), (false, ()), ()) w8) (
R ((IntKind.wrap .i64 r7.1.1, ()), (true, ()), ()) w8)) (
CutT (fun (J9 : ((Int) × Unit) → World → Prop) =>
brB (decide (r7.2.1.1 > 0)) (
brB ((IntKind.wrap .u64 (r7.1.1 + 1)) == 0) (
R ((0, ()), (false, ()), ()) w8) (
J9 (IntKind.wrap .u64 (r7.1.1 + 1), ()) w8)) (
J9 (r7.1.1, ()) w8)) (fun (z10 : (Int) × Unit) w11 => ∀ _ : Nat → Value,
brB (decide (z10.1 > 9223372036854775808)) (
R ((0, ()), (false, ()), ()) w11) (
R ((IntKind.wrap .i64 (IntKind.wrap .u64 (0 - z10.1)), ()), (true, ()), ()) w11)))))
set_option maxRecDepth 100000 in
theorem fix_MulDiv.eq (a : Int) (b : Int) (c : Int) (w : World) (R : Value → World → Prop) : wpF Try.prog Try.f44 (.s .n (.s .n (.s .n (.s .n (.s .n (.s .n (.ct [(10, (.i .u64))] .n .n))))))) [.int .i64 a, .int .i64 b, .int .i64 c] w R = fix_MulDiv.wp a b c w (fun r w => R (encR true [(false, [(.i .i64)]), (false, [.b])] r) w) := by kernel_rfl
theorem fix_MulDiv.ok {a : Int} {b : Int} {c : Int} {w : World} {R : TR [(false, [(.i .i64)]), (false, [.b])] → World → Prop} (h : fix_MulDiv.wp a b c w R) : clS Try.prog F.fix_MulDiv [.int .i64 a, .int .i64 b, .int .i64 c] w true [(false, [(.i .i64)]), (false, [.b])] R :=
  ok_of Try_follows Try.func44 (fun R => fix_MulDiv.wp a b c w R) (fix_MulDiv.eq a b c w) rfl h
/-! ### ref01_MulDiv -/
set_option maxRecDepth 100000 in
def ref01_MulDiv.wp (a : Int) (b : Int) (c : Int) (w : World) (R : TR [(false, [(.i .i64)]), (false, [.b])] → World → Prop) : Prop :=
brB (decide (c < 1)) (
R ((0, ()), (false, ()), ()) w) (
clS Try.prog F.ref01_Size [.int .i64 a] w false [(false, [(.i .u64)])] fun r1 w2 =>
clS Try.prog F.ref01_Size [.int .i64 b] w2 false [(false, [(.i .u64)])] fun r3 w4 =>
clS Try.prog F.ref01_Times [.int .u64 r1.1.1, .int .u64 r3.1.1] w4 false [(true, [(.i .u64), (.i .u64), (.i .u64), (.i .u64)])] fun r5 w6 =>
clS Try.prog F.ref01_Over [.agg #[.int .u64 r5.1.1, .int .u64 r5.1.2.1, .int .u64 r5.1.2.2.1, .int .u64 r5.1.2.2.2.1], .int .u64 (IntKind.wrap .u64 c)] w6 true [(false, [(.i .u64)]), (false, [(.i .u64)]), (false, [.b])] fun r7 w8 =>
brB (!r7.2.2.1.1) (
R ((0, ()), (false, ()), ()) w8) (
CutT (fun (J9 : ((Bool) × Unit) → World → Prop) =>
brB ((decide (a < 0)) == (decide (b < 0))) (
J9 (true, ()) w8) (
brB (r7.1.1 == 0) (
J9 ((r7.2.1.1 == 0), ()) w8) (
J9 (false, ()) w8))) (fun (z10 : (Bool) × Unit) w11 => ∀ _ : Nat → Value,
brB z10.1 (
brB (decide (r7.1.1 > 9223372036854775807)) (
R ((0, ()), (false, ()), ()) w11) (
R ((IntKind.wrap .i64 r7.1.1, ()), (true, ()), ()) w11)) (
CutT (fun (J12 : ((Int) × Unit) → World → Prop) =>
brB (decide (r7.2.1.1 > 0)) (
brB (decide (r7.1.1 ≥ 9223372036854775808)) (
R ((0, ()), (false, ()), ()) w11) (
J12 (IntKind.wrap .u64 (r7.1.1 + 1), ()) w11)) (
J12 (r7.1.1, ()) w11)) (fun (z13 : (Int) × Unit) w14 => ∀ _ : Nat → Value,
brB (decide (z13.1 > 9223372036854775808)) (
R ((0, ()), (false, ()), ()) w14) (
brB (z13.1 == 0) (
R ((0, ()), (true, ()), ()) w14) (
R ((IntKind.wrap .i64 ((IntKind.wrap .i64 (0 - (IntKind.wrap .i64 (IntKind.wrap .u64 (z13.1 - 1))))) - 1), ()), (true, ()), ()) w14)))))))
set_option maxRecDepth 100000 in
theorem ref01_MulDiv.eq (a : Int) (b : Int) (c : Int) (w : World) (R : Value → World → Prop) : wpF Try.prog Try.f45 (.s .n (.s .n (.s .n (.s .n (.s (.ct [(39, .b)] .n .n) (.ct [(8, (.i .u64))] .n .n)))))) [.int .i64 a, .int .i64 b, .int .i64 c] w R = ref01_MulDiv.wp a b c w (fun r w => R (encR true [(false, [(.i .i64)]), (false, [.b])] r) w) := by kernel_rfl
theorem ref01_MulDiv.ok {a : Int} {b : Int} {c : Int} {w : World} {R : TR [(false, [(.i .i64)]), (false, [.b])] → World → Prop} (h : ref01_MulDiv.wp a b c w R) : clS Try.prog F.ref01_MulDiv [.int .i64 a, .int .i64 b, .int .i64 c] w true [(false, [(.i .i64)]), (false, [.b])] R :=
  ok_of Try_follows Try.func45 (fun R => ref01_MulDiv.wp a b c w R) (ref01_MulDiv.eq a b c w) rfl h
/-! ### fix_Clamp -/
set_option maxRecDepth 100000 in
def fix_Clamp.wp (x : Int) (low : Int) (high : Int) (w : World) (R : TR [(false, [(.i .i64)])] → World → Prop) : Prop :=
R (((if low > (if high < x then high else x) then low else (if high < x then high else x)), ()), ()) w
set_option maxRecDepth 100000 in
theorem fix_Clamp.eq (x : Int) (low : Int) (high : Int) (w : World) (R : Value → World → Prop) : wpF Try.prog Try.f46 .n [.int .i64 x, .int .i64 low, .int .i64 high] w R = fix_Clamp.wp x low high w (fun r w => R (encR false [(false, [(.i .i64)])] r) w) := by kernel_rfl
theorem fix_Clamp.ok {x : Int} {low : Int} {high : Int} {w : World} {R : TR [(false, [(.i .i64)])] → World → Prop} (h : fix_Clamp.wp x low high w R) : clS Try.prog F.fix_Clamp [.int .i64 x, .int .i64 low, .int .i64 high] w false [(false, [(.i .i64)])] R :=
  ok_of Try_follows Try.func46 (fun R => fix_Clamp.wp x low high w R) (fix_Clamp.eq x low high w) rfl h
/-! ### fix_Sat -/
set_option maxRecDepth 100000 in
def fix_Sat.wp (a : Int) (b : Int) (w : World) (R : TR [(false, [(.i .i64)])] → World → Prop) : Prop :=
clS Try.prog F.fix_Add [.int .i64 a, .int .i64 b] w true [(false, [(.i .i64)]), (false, [.b])] fun r1 w2 =>
brB r1.2.1.1 (
R ((r1.1.1, ()), ()) w2) (
brB (decide (b > 0)) (
R ((9223372036854775807, ()), ()) w2) (
R (((Int.negSucc 9223372036854775807), ()), ()) w2))
set_option maxRecDepth 100000 in
theorem fix_Sat.eq (a : Int) (b : Int) (w : World) (R : Value → World → Prop) : wpF Try.prog Try.f47 .n [.int .i64 a, .int .i64 b] w R = fix_Sat.wp a b w (fun r w => R (encR false [(false, [(.i .i64)])] r) w) := by kernel_rfl
theorem fix_Sat.ok {a : Int} {b : Int} {w : World} {R : TR [(false, [(.i .i64)])] → World → Prop} (h : fix_Sat.wp a b w R) : clS Try.prog F.fix_Sat [.int .i64 a, .int .i64 b] w false [(false, [(.i .i64)])] R :=
  ok_of Try_follows Try.func47 (fun R => fix_Sat.wp a b w R) (fix_Sat.eq a b w) rfl h
/-! ### fix_Add -/
set_option maxRecDepth 100000 in
def fix_Add.wp (a : Int) (b : Int) (w : World) (R : TR [(false, [(.i .i64)]), (false, [.b])] → World → Prop) : Prop :=
brB (!((decide ((IntKind.wrap .i64 (a + b)) > a)) == (decide (b > 0)))) (
brB (b != 0) (
R ((0, ()), (false, ()), ()) w) (
R ((IntKind.wrap .i64 (a + b), ()), (true, ()), ()) w)) (
R ((IntKind.wrap .i64 (a + b), ()), (true, ()), ()) w)
set_option maxRecDepth 100000 in
theorem fix_Add.eq (a : Int) (b : Int) (w : World) (R : Value → World → Prop) : wpF Try.prog Try.f48 .n [.int .i64 a, .int .i64 b] w R = fix_Add.wp a b w (fun r w => R (encR true [(false, [(.i .i64)]), (false, [.b])] r) w) := by kernel_rfl
theorem fix_Add.ok {a : Int} {b : Int} {w : World} {R : TR [(false, [(.i .i64)]), (false, [.b])] → World → Prop} (h : fix_Add.wp a b w R) : clS Try.prog F.fix_Add [.int .i64 a, .int .i64 b] w true [(false, [(.i .i64)]), (false, [.b])] R :=
  ok_of Try_follows Try.func48 (fun R => fix_Add.wp a b w R) (fix_Add.eq a b w) rfl h
/-! ### ref01_Add -/
set_option maxRecDepth 100000 in
def ref01_Add.wp (a : Int) (b : Int) (w : World) (R : TR [(false, [(.i .i64)]), (false, [.b])] → World → Prop) : Prop :=
brB (decide (a > 0)) (
brB (decide (b > (IntKind.wrap .i64 (9223372036854775807 - a)))) (
R ((0, ()), (false, ()), ()) w) (
brB (decide (a < 0)) (
brB (decide (b < (IntKind.wrap .i64 ((Int.negSucc 9223372036854775807) - a)))) (
R ((0, ()), (false, ()), ()) w) (
R ((IntKind.wrap .i64 (a + b), ()), (true, ()), ()) w)) (
R ((IntKind.wrap .i64 (a + b), ()), (true, ()), ()) w))) (
brB (decide (a < 0)) (
brB (decide (b < (IntKind.wrap .i64 ((Int.negSucc 9223372036854775807) - a)))) (
R ((0, ()), (false, ()), ()) w) (
R ((IntKind.wrap .i64 (a + b), ()), (true, ()), ()) w)) (
R ((IntKind.wrap .i64 (a + b), ()), (true, ()), ()) w))
set_option maxRecDepth 100000 in
theorem ref01_Add.eq (a : Int) (b : Int) (w : World) (R : Value → World → Prop) : wpF Try.prog Try.f49 .n [.int .i64 a, .int .i64 b] w R = ref01_Add.wp a b w (fun r w => R (encR true [(false, [(.i .i64)]), (false, [.b])] r) w) := by kernel_rfl
theorem ref01_Add.ok {a : Int} {b : Int} {w : World} {R : TR [(false, [(.i .i64)]), (false, [.b])] → World → Prop} (h : ref01_Add.wp a b w R) : clS Try.prog F.ref01_Add [.int .i64 a, .int .i64 b] w true [(false, [(.i .i64)]), (false, [.b])] R :=
  ok_of Try_follows Try.func49 (fun R => ref01_Add.wp a b w R) (ref01_Add.eq a b w) rfl h
/-! ### fix_Sub -/
set_option maxRecDepth 100000 in
def fix_Sub.wp (a : Int) (b : Int) (w : World) (R : TR [(false, [(.i .i64)]), (false, [.b])] → World → Prop) : Prop :=
brB (!((decide ((IntKind.wrap .i64 (a - b)) < a)) == (decide (b > 0)))) (
brB (b != 0) (
R ((0, ()), (false, ()), ()) w) (
R ((IntKind.wrap .i64 (a - b), ()), (true, ()), ()) w)) (
R ((IntKind.wrap .i64 (a - b), ()), (true, ()), ()) w)
set_option maxRecDepth 100000 in
theorem fix_Sub.eq (a : Int) (b : Int) (w : World) (R : Value → World → Prop) : wpF Try.prog Try.f50 .n [.int .i64 a, .int .i64 b] w R = fix_Sub.wp a b w (fun r w => R (encR true [(false, [(.i .i64)]), (false, [.b])] r) w) := by kernel_rfl
theorem fix_Sub.ok {a : Int} {b : Int} {w : World} {R : TR [(false, [(.i .i64)]), (false, [.b])] → World → Prop} (h : fix_Sub.wp a b w R) : clS Try.prog F.fix_Sub [.int .i64 a, .int .i64 b] w true [(false, [(.i .i64)]), (false, [.b])] R :=
  ok_of Try_follows Try.func50 (fun R => fix_Sub.wp a b w R) (fix_Sub.eq a b w) rfl h
/-! ### slope_Slope_Gain -/
set_option maxRecDepth 100000 in
def slope_Slope_Gain.wp (s0 : Int) (s1 : Int) (ticks : Int) (w : World) (R : TR [(false, [(.i .i64)])] → World → Prop) : Prop :=
alK [.int .i64 s0, .int .i64 s1] T.slope_Slope w fun p1 w2 =>
ld1 (.i .i64) p1 w2 fun x3 =>
ld1 (.i .i64) (p1.add 1) w2 fun x4 =>
clS Try.prog F.fix_MulDiv [.int .i64 x3, .int .i64 ticks, .int .i64 x4] w2 true [(false, [(.i .i64)]), (false, [.b])] fun r5 w6 =>
R ((r5.1.1, ()), ()) w6
set_option maxRecDepth 100000 in
theorem slope_Slope_Gain.eq (s0 : Int) (s1 : Int) (ticks : Int) (w : World) (R : Value → World → Prop) : wpF Try.prog Try.f51 .n [.agg #[.int .i64 s0, .int .i64 s1], .int .i64 ticks] w R = slope_Slope_Gain.wp s0 s1 ticks w (fun r w => R (encR false [(false, [(.i .i64)])] r) w) := by kernel_rfl
theorem slope_Slope_Gain.ok {s0 : Int} {s1 : Int} {ticks : Int} {w : World} {R : TR [(false, [(.i .i64)])] → World → Prop} (h : slope_Slope_Gain.wp s0 s1 ticks w R) : clS Try.prog F.slope_Slope_Gain [.agg #[.int .i64 s0, .int .i64 s1], .int .i64 ticks] w false [(false, [(.i .i64)])] R :=
  ok_of Try_follows Try.func51 (fun R => slope_Slope_Gain.wp s0 s1 ticks w R) (slope_Slope_Gain.eq s0 s1 ticks w) rfl h
/-! ### ref13_Gain -/
set_option maxRecDepth 100000 in
def ref13_Gain.wp (num : Int) (den : Int) (ticks : Int) (w : World) (R : TR [(false, [(.i .i64)])] → World → Prop) : Prop :=
clS Try.prog F.ref01_MulDiv [.int .i64 num, .int .i64 ticks, .int .i64 den] w true [(false, [(.i .i64)]), (false, [.b])] fun r1 w2 =>
R ((r1.1.1, ()), ()) w2
set_option maxRecDepth 100000 in
theorem ref13_Gain.eq (num : Int) (den : Int) (ticks : Int) (w : World) (R : Value → World → Prop) : wpF Try.prog Try.f52 .n [.int .i64 num, .int .i64 den, .int .i64 ticks] w R = ref13_Gain.wp num den ticks w (fun r w => R (encR false [(false, [(.i .i64)])] r) w) := by kernel_rfl
theorem ref13_Gain.ok {num : Int} {den : Int} {ticks : Int} {w : World} {R : TR [(false, [(.i .i64)])] → World → Prop} (h : ref13_Gain.wp num den ticks w R) : clS Try.prog F.ref13_Gain [.int .i64 num, .int .i64 den, .int .i64 ticks] w false [(false, [(.i .i64)])] R :=
  ok_of Try_follows Try.func52 (fun R => ref13_Gain.wp num den ticks w R) (ref13_Gain.eq num den ticks w) rfl h
/-! ### slices_Clone_table_Entry_table_Entry -/
set_option maxRecDepth 100000 in
def slices_Clone_table_Entry_table_Entry.wp (s : Option Addr × Nat × Nat) (w : World) (R : TR [(false, [.sl])] → World → Prop) : Prop :=
brB (Option.isNone s.1) (
R (((none, 0, 0), ()), ()) w) (
alK [] T.table_Entry w fun p1 w2 =>
slOf ((Builtin.append_ #[T.sl_table_Entry, T.sl_table_Entry] T.sl_table_Entry #[.slice (some p1) 0 0, .slice s.1 s.2.1 s.2.2]).run Try.prog w2) fun y3 w4 =>
R (((y3.1, y3.2.1, y3.2.2), ()), ()) w4)
set_option maxRecDepth 100000 in
theorem slices_Clone_table_Entry_table_Entry.eq (s : Option Addr × Nat × Nat) (w : World) (R : Value → World → Prop) : wpF Try.prog Try.f53 .n [.slice s.1 s.2.1 s.2.2] w R = slices_Clone_table_Entry_table_Entry.wp s w (fun r w => R (encR false [(false, [.sl])] r) w) := by kernel_rfl
theorem slices_Clone_table_Entry_table_Entry.ok {s : Option Addr × Nat × Nat} {w : World} {R : TR [(false, [.sl])] → World → Prop} (h : slices_Clone_table_Entry_table_Entry.wp s w R) : clS Try.prog F.slices_Clone_table_Entry_table_Entry [.slice s.1 s.2.1 s.2.2] w false [(false, [.sl])] R :=
  ok_of Try_follows Try.func53 (fun R => slices_Clone_table_Entry_table_Entry.wp s w R) (slices_Clone_table_Entry_table_Entry.eq s w) rfl h
end Go.Proofs.Ytccnlakbplmhnaa
