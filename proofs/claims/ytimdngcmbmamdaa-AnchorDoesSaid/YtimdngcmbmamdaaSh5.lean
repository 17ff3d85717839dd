import Derived.Test.YtimdngcmbmamdaaNm
namespace Go.Proofs.Ytimdngcmbmamdaa
open Go.Eng
set_option linter.unusedVariables false
/-! ### leap_Table_Step -/
set_option maxRecDepth 100000 in
def leap_Table_Step.wp (t : Option Addr) (day : Int) (w : World) (R : TR [(false, [(.i .i64)])] → World → Prop) : Prop :=
alK [.pointer t] T.p_leap_Table w fun p1 w2 =>
alK [.int .i64 day] T.int w2 fun p3 w4 =>
ld1 .p p1 w4 fun x5 =>
brB (Option.isNone x5) (
R ((0, ()), ()) w4) (
ld1 .p p1 w4 fun x6 =>
ncK x6 fun a7 =>
ld1 .sl (a7.add 3) w4 fun x8 =>
clS Try.prog F.sort_Search [.int .i64 (x8.2.1 : Int), .func (.func F.leap_Table_Step_1) #[] #[.pointer (some p1), .pointer (some p3)]] w4 false [(false, [(.i .i64)])] fun r9 w10 =>
CutT (fun (J11 : ((Bool) × Unit) → World → Prop) =>
drK w10 fun w14 =>
ld1 .p p1 w14 fun x15 =>
ncK x15 fun a16 =>
ld1 .sl (a16.add 3) w14 fun x17 =>
brB (decide (r9.1.1 < (x17.2.1 : Int))) (
ld1 .p p1 w14 fun x18 =>
ncK x18 fun a19 =>
ld1 .sl (a19.add 3) w14 fun x20 =>
ixK x20.1 x20.2.1 r9.1.1 fun a21 =>
ld1 (.i .i64) (a21.add (r9.1.1.toNat * 2)) w14 fun x22 =>
ld1 (.i .i64) p3 w14 fun x23 =>
J11 ((x22 == x23), ()) w14) (
J11 (false, ()) w14)) (fun (z12 : (Bool) × Unit) w13 => ∀ _ : Nat → Value,
brB z12.1 (
ld1 .p p1 w13 fun x24 =>
ncK x24 fun a25 =>
ld1 .sl (a25.add 3) w13 fun x26 =>
ixK x26.1 x26.2.1 r9.1.1 fun a27 =>
ld1 (.i .i64) ((a27.add (r9.1.1.toNat * 2)).add 1) w13 fun x28 =>
R ((x28, ()), ()) w13) (
R ((0, ()), ()) w13)))
set_option maxRecDepth 100000 in
theorem leap_Table_Step.eq (t : Option Addr) (day : Int) (w : World) (R : Value → World → Prop) : wpF Try.prog Try.f45 (.s .n (.s .n (.s .n (.s (.ct [(33, .b)] (.pl (.tk 0 (.tk 1 (.tk 2 (.tk 3 (.tk 4 (.tk 5 (.tk 6 (.tk 7 (.tk 8 (.tk 9 (.tk 10 (.tk 11 (.tk 12 (.tk 13 (.tk 14 (.tk 15 (.tk 16 (.tk 17 (.tk 18 .z)))))))))))))))))))) .n) .n)))) [.pointer t, .int .i64 day] w R = leap_Table_Step.wp t day w (fun r w => R (encR false [(false, [(.i .i64)])] r) w) := by kernel_rfl
set_option maxRecDepth 100000 in
theorem leap_Table_Step.ok {t : Option Addr} {day : Int} {w : World} {R : TR [(false, [(.i .i64)])] → World → Prop} (h : leap_Table_Step.wp t day w R) : clS Try.prog F.leap_Table_Step [.pointer t, .int .i64 day] w false [(false, [(.i .i64)])] R :=
  ok_of Try_follows Try.func45 (fun R => leap_Table_Step.wp t day w R) (leap_Table_Step.eq t day w) rfl h
/-! ### utc_at -/
set_option maxRecDepth 100000 in
def utc_at.wp (d : Int) (s : Int) (w : World) (R : TR [(true, [(.i .i64), (.i .i64), (.i .i64), (.i .i64), (.i .i64), (.i .i64)])] → World → Prop) : Prop :=
alK [.int .i64 0, .int .i64 0, .int .i64 0, .int .i64 0, .int .i64 0, .int .i64 0] T.utc_Utc w fun p1 w2 =>
clS Try.prog F.civil_Of [.int .i64 d] w2 true [(true, [(.i .i64), (.i .i64), (.i .i64)]), (false, [.b])] fun r3 w4 =>
alK [.int .i64 0, .int .i64 0, .int .i64 0] T.civil_Date w4 fun p5 w6 =>
stN [.int .i64 r3.1.1, .int .i64 r3.1.2.1, .int .i64 r3.1.2.2.1] p5 0 w6 fun w7 =>
brB (decide (s ≥ 86400)) (
ldN [(.i .i64), (.i .i64), (.i .i64)] p5 0 w7 fun x8 =>
stN [.int .i64 x8.1, .int .i64 x8.2.1, .int .i64 x8.2.2.1, .int .i64 23, .int .i64 59, .int .i64 (IntKind.wrap .i64 ((IntKind.wrap .i64 ((IntKind.wrap .i64 (59 + s)) - 86400)) + 1))] p1 0 w7 fun w9 =>
ldN [(.i .i64), (.i .i64), (.i .i64), (.i .i64), (.i .i64), (.i .i64)] p1 0 w9 fun x10 =>
R ((x10.1, x10.2.1, x10.2.2.1, x10.2.2.2.1, x10.2.2.2.2.1, x10.2.2.2.2.2.1, ()), ()) w9) (
ldN [(.i .i64), (.i .i64), (.i .i64)] p5 0 w7 fun x11 =>
nzK 3600 (
nzK 60 (
nzK 60 (
nzK 60 (
stN [.int .i64 x11.1, .int .i64 x11.2.1, .int .i64 x11.2.2.1, .int .i64 (IntKind.wrap .i64 (Int.tdiv s 3600)), .int .i64 (Int.tmod (IntKind.wrap .i64 (Int.tdiv s 60)) 60), .int .i64 (Int.tmod s 60)] p1 0 w7 fun w12 =>
ldN [(.i .i64), (.i .i64), (.i .i64), (.i .i64), (.i .i64), (.i .i64)] p1 0 w12 fun x13 =>
R ((x13.1, x13.2.1, x13.2.2.1, x13.2.2.2.1, x13.2.2.2.2.1, x13.2.2.2.2.2.1, ()), ()) w12)))))
set_option maxRecDepth 100000 in
theorem utc_at.eq (d : Int) (s : Int) (w : World) (R : Value → World → Prop) : wpF Try.prog Try.f46 .n [.int .i64 d, .int .i64 s] w R = utc_at.wp d s w (fun r w => R (encR false [(true, [(.i .i64), (.i .i64), (.i .i64), (.i .i64), (.i .i64), (.i .i64)])] r) w) := by kernel_rfl
set_option maxRecDepth 100000 in
theorem utc_at.ok {d : Int} {s : Int} {w : World} {R : TR [(true, [(.i .i64), (.i .i64), (.i .i64), (.i .i64), (.i .i64), (.i .i64)])] → World → Prop} (h : utc_at.wp d s w R) : clS Try.prog F.utc_at [.int .i64 d, .int .i64 s] w false [(true, [(.i .i64), (.i .i64), (.i .i64), (.i .i64), (.i .i64), (.i .i64)])] R :=
  ok_of Try_follows Try.func46 (fun R => utc_at.wp d s w R) (utc_at.eq d s w) rfl h
/-! ### civil_Date_Number -/
set_option maxRecDepth 100000 in
def civil_Date_Number.wp (d0 : Int) (d1 : Int) (d2 : Int) (w : World) (R : TR [(false, [(.i .i64)]), (false, [.b])] → World → Prop) : Prop :=
alK [.int .i64 d0, .int .i64 d1, .int .i64 d2] T.civil_Date w fun p1 w2 =>
ldN [(.i .i64), (.i .i64), (.i .i64)] p1 0 w2 fun x3 =>
clS Try.prog F.civil_Date_Good [.agg #[.int .i64 x3.1, .int .i64 x3.2.1, .int .i64 x3.2.2.1]] w2 false [(false, [.b])] fun r4 w5 =>
brB (!r4.1.1) (
R ((0, ()), (false, ()), ()) w5) (
drK w5 fun w6 =>
ld1 (.i .i64) p1 w6 fun x7 =>
ld1 (.i .i64) (p1.add 2) w6 fun x8 =>
clS Try.prog F.civil_years [.int .i64 x7] w6 false [(false, [(.i .i64)])] fun r9 w10 =>
Hold [(5, (p1.add 2), (w6.cell? (p1.add 2)).getD undef)] w10 ∧ (
LoopT (fun (self11 : ((Int) × (Int) × Unit) → World → Prop) (z12 : (Int) × (Int) × Unit) w13 => ∀ _ : Nat → Value,
ld1 (.i .i64) (p1.add 1) w13 fun x14 =>
brB (decide (z12.2.1 < x14)) (
ld1 (.i .i64) p1 w13 fun x15 =>
clS Try.prog F.civil_month [.int .i64 x15, .int .i64 z12.2.1] w13 false [(false, [(.i .i64)])] fun r16 w17 =>
self11 (IntKind.wrap .i64 (z12.1 + r16.1.1), IntKind.wrap .i64 (z12.2.1 + 1), ()) w17) (
R ((z12.1, ()), (true, ()), ()) w13)) (IntKind.wrap .i64 ((IntKind.wrap .i64 ((IntKind.wrap .i64 ((Int.negSucc 719161) + r9.1.1)) + x8)) - 1), 1, ()) w10))
set_option maxRecDepth 100000 in
theorem civil_Date_Number.eq (d0 : Int) (d1 : Int) (d2 : Int) (w : World) (R : Value → World → Prop) : wpF Try.prog Try.f47 (.s .n (.s .n (.s (.pl (.tk 0 (.tk 1 (.tk 4 (.tk 5 (.ef 2 [1] (.tk 3 (.tk 6 (.tk 7 (.tk 8 .z)))))))))) (.s (.s .n (.lp [(4, (.i .i64)), (5, (.i .i64))] .n)) .n)))) [.agg #[.int .i64 d0, .int .i64 d1, .int .i64 d2]] w R = civil_Date_Number.wp d0 d1 d2 w (fun r w => R (encR true [(false, [(.i .i64)]), (false, [.b])] r) w) := by kernel_rfl
set_option maxRecDepth 100000 in
theorem civil_Date_Number.ok {d0 : Int} {d1 : Int} {d2 : Int} {w : World} {R : TR [(false, [(.i .i64)]), (false, [.b])] → World → Prop} (h : civil_Date_Number.wp d0 d1 d2 w R) : clS Try.prog F.civil_Date_Number [.agg #[.int .i64 d0, .int .i64 d1, .int .i64 d2]] w true [(false, [(.i .i64)]), (false, [.b])] R :=
  ok_of Try_follows Try.func47 (fun R => civil_Date_Number.wp d0 d1 d2 w R) (civil_Date_Number.eq d0 d1 d2 w) rfl h
/-! ### ref22_date -/
set_option maxRecDepth 100000 in
def ref22_date.wp (day : Int) (w : World) (R : TR [(true, [(.i .i64), (.i .i64), (.i .i64)])] → World → Prop) : Prop :=
alK [.int .i64 0, .int .i64 0, .int .i64 0] T.ref20_Date w fun p1 w2 =>
clS Try.prog F.ref21_Date [.int .i64 day] w2 false [(false, [.s])] fun r3 w4 =>
clS Try.prog F.ref20_Parse [.string r3.1.1] w4 true [(true, [(.i .i64), (.i .i64), (.i .i64)]), (false, [.b])] fun r5 w6 =>
alK [.int .i64 0, .int .i64 0, .int .i64 0] T.ref20_Date w6 fun p7 w8 =>
stN [.int .i64 r5.1.1, .int .i64 r5.1.2.1, .int .i64 r5.1.2.2.1] p7 0 w8 fun w9 =>
ldN [(.i .i64), (.i .i64), (.i .i64)] p7 0 w9 fun x10 =>
stN [.int .i64 x10.1, .int .i64 x10.2.1, .int .i64 x10.2.2.1] p1 0 w9 fun w11 =>
ldN [(.i .i64), (.i .i64), (.i .i64)] p1 0 w11 fun x12 =>
R ((x12.1, x12.2.1, x12.2.2.1, ()), ()) w11
set_option maxRecDepth 100000 in
theorem ref22_date.eq (day : Int) (w : World) (R : Value → World → Prop) : wpF Try.prog Try.f48 .n [.int .i64 day] w R = ref22_date.wp day w (fun r w => R (encR false [(true, [(.i .i64), (.i .i64), (.i .i64)])] r) w) := by kernel_rfl
set_option maxRecDepth 100000 in
theorem ref22_date.ok {day : Int} {w : World} {R : TR [(true, [(.i .i64), (.i .i64), (.i .i64)])] → World → Prop} (h : ref22_date.wp day w R) : clS Try.prog F.ref22_date [.int .i64 day] w false [(true, [(.i .i64), (.i .i64), (.i .i64)])] R :=
  ok_of Try_follows Try.func48 (fun R => ref22_date.wp day w R) (ref22_date.eq day w) rfl h
/-! ### ref20_Number -/
set_option maxRecDepth 100000 in
def ref20_Number.wp (d0 : Int) (d1 : Int) (d2 : Int) (w : World) (R : TR [(false, [(.i .i64)])] → World → Prop) : Prop :=
alK [.int .i64 d0, .int .i64 d1, .int .i64 d2] T.ref20_Date w fun p1 w2 =>
ld1 (.i .i64) p1 w2 fun x3 =>
clS Try.prog F.ref20_ahead [.int .i64 x3] w2 false [(false, [(.i .i64)])] fun r4 w5 =>
clS Try.prog F.ref20_ahead [.int .i64 1970] w5 false [(false, [(.i .i64)])] fun r6 w7 =>
LoopT (fun (self8 : ((Int) × (Int) × Unit) → World → Prop) (z9 : (Int) × (Int) × Unit) w10 => ∀ _ : Nat → Value,
ld1 (.i .i64) (p1.add 1) w10 fun x11 =>
brB (decide (z9.2.1 < x11)) (
ld1 (.i .i64) p1 w10 fun x12 =>
clS Try.prog F.ref20_Days [.int .i64 x12, .int .i64 z9.2.1] w10 false [(false, [(.i .i64)])] fun r13 w14 =>
self8 (IntKind.wrap .i64 (z9.1 + r13.1.1), IntKind.wrap .i64 (z9.2.1 + 1), ()) w14) (
ld1 (.i .i64) (p1.add 2) w10 fun x15 =>
R ((IntKind.wrap .i64 ((IntKind.wrap .i64 (z9.1 + x15)) - 1), ()), ()) w10)) (IntKind.wrap .i64 (r4.1.1 - r6.1.1), 1, ()) w7
set_option maxRecDepth 100000 in
theorem ref20_Number.eq (d0 : Int) (d1 : Int) (d2 : Int) (w : World) (R : Value → World → Prop) : wpF Try.prog Try.f49 (.s .n (.s .n (.s (.s .n (.lp [(3, (.i .i64)), (4, (.i .i64))] .n)) .n))) [.agg #[.int .i64 d0, .int .i64 d1, .int .i64 d2]] w R = ref20_Number.wp d0 d1 d2 w (fun r w => R (encR false [(false, [(.i .i64)])] r) w) := by kernel_rfl
set_option maxRecDepth 100000 in
theorem ref20_Number.ok {d0 : Int} {d1 : Int} {d2 : Int} {w : World} {R : TR [(false, [(.i .i64)])] → World → Prop} (h : ref20_Number.wp d0 d1 d2 w R) : clS Try.prog F.ref20_Number [.agg #[.int .i64 d0, .int .i64 d1, .int .i64 d2]] w false [(false, [(.i .i64)])] R :=
  ok_of Try_follows Try.func49 (fun R => ref20_Number.wp d0 d1 d2 w R) (ref20_Number.eq d0 d1 d2 w) rfl h
/-! ### ref21_Ahead -/
set_option maxRecDepth 100000 in
def ref21_Ahead.wp (t0 : Int) (t1 : Int) (t2 : Int) (t3 : Option Addr × Nat × Nat) (day : Int) (w : World) (R : TR [(false, [(.i .i64)])] → World → Prop) : Prop :=
alK [.int .i64 t0, .int .i64 t1, .int .i64 t2, .slice t3.1 t3.2.1 t3.2.2] T.ref21_Table w fun p1 w2 =>
ld1 (.i .i64) (p1.add 1) w2 fun x3 =>
ld1 .sl (p1.add 3) w2 fun x4 =>
LoopT (fun (self5 : ((Int) × (Int) × Unit) → World → Prop) (z6 : (Int) × (Int) × Unit) w7 => ∀ _ : Nat → Value,
brB (decide (z6.2.1 < (x4.2.1 : Int))) (
ixK x4.1 x4.2.1 z6.2.1 fun a8 =>
ldN [(.i .i64), (.i .i64)] (a8.add (z6.2.1.toNat * 2)) 0 w7 fun x9 =>
alK [.int .i64 0, .int .i64 0] T.ref21_Leap w7 fun p10 w11 =>
stN [.int .i64 x9.1, .int .i64 x9.2.1] p10 0 w11 fun w12 =>
ld1 (.i .i64) p10 w12 fun x13 =>
brB (decide (x13 < day)) (
ld1 (.i .i64) (p10.add 1) w12 fun x14 =>
self5 (IntKind.wrap .i64 (z6.1 + x14), IntKind.wrap .i64 (z6.2.1 + 1), ()) w12) (
self5 (z6.1, IntKind.wrap .i64 (z6.2.1 + 1), ()) w12)) (
R ((z6.1, ()), ()) w7)) (x3, 0, ()) w2
set_option maxRecDepth 100000 in
theorem ref21_Ahead.eq (t0 : Int) (t1 : Int) (t2 : Int) (t3 : Option Addr × Nat × Nat) (day : Int) (w : World) (R : Value → World → Prop) : wpF Try.prog Try.f50 (.s .n (.s .n (.s (.s .n (.lp [(5, (.i .i64)), (13, (.i .i64))] .n)) .n))) [.agg #[.int .i64 t0, .int .i64 t1, .int .i64 t2, .slice t3.1 t3.2.1 t3.2.2], .int .i64 day] w R = ref21_Ahead.wp t0 t1 t2 t3 day w (fun r w => R (encR false [(false, [(.i .i64)])] r) w) := by kernel_rfl
set_option maxRecDepth 100000 in
theorem ref21_Ahead.ok {t0 : Int} {t1 : Int} {t2 : Int} {t3 : Option Addr × Nat × Nat} {day : Int} {w : World} {R : TR [(false, [(.i .i64)])] → World → Prop} (h : ref21_Ahead.wp t0 t1 t2 t3 day w R) : clS Try.prog F.ref21_Ahead [.agg #[.int .i64 t0, .int .i64 t1, .int .i64 t2, .slice t3.1 t3.2.1 t3.2.2], .int .i64 day] w false [(false, [(.i .i64)])] R :=
  ok_of Try_follows Try.func50 (fun R => ref21_Ahead.wp t0 t1 t2 t3 day w R) (ref21_Ahead.eq t0 t1 t2 t3 day w) rfl h
/-! ### civil_Date_Text -/
set_option maxRecDepth 100000 in
def civil_Date_Text.wp (d0 : Int) (d1 : Int) (d2 : Int) (w : World) (R : TR [(false, [.s])] → World → Prop) : Prop :=
alK [.int .i64 d0, .int .i64 d1, .int .i64 d2] T.civil_Date w fun p1 w2 =>
ldN [(.i .i64), (.i .i64), (.i .i64)] p1 0 w2 fun x3 =>
clS Try.prog F.civil_Date_Good [.agg #[.int .i64 x3.1, .int .i64 x3.2.1, .int .i64 x3.2.2.1]] w2 false [(false, [.b])] fun r4 w5 =>
brB (!r4.1.1) (
R ((⟨#[]⟩, ()), ()) w5) (
drK w5 fun w6 =>
ld1 (.i .i64) p1 w6 fun x7 =>
ld1 (.i .i64) (p1.add 1) w6 fun x8 =>
ld1 (.i .i64) (p1.add 2) w6 fun x9 =>
clS Try.prog F.civil_digits [.int .i64 x7, .int .i64 4] w6 false [(false, [.s])] fun r10 w11 =>
Hold [(10, (p1.add 2), (w6.cell? (p1.add 2)).getD undef), (5, (p1.add 1), (w6.cell? (p1.add 1)).getD undef), (1, p1, (w6.cell? p1).getD undef)] w11 ∧ (
saK r10.1.1 ⟨#[45]⟩ (
clS Try.prog F.civil_digits [.int .i64 x8, .int .i64 2] w11 false [(false, [.s])] fun r12 w13 =>
Hold [(10, (p1.add 2), (w6.cell? (p1.add 2)).getD undef), (5, (p1.add 1), (w6.cell? (p1.add 1)).getD undef), (1, p1, (w6.cell? p1).getD undef)] w13 ∧ (
saK (r10.1.1 ++ ⟨#[45]⟩) r12.1.1 (
saK ((r10.1.1 ++ ⟨#[45]⟩) ++ r12.1.1) ⟨#[45]⟩ (
clS Try.prog F.civil_digits [.int .i64 x9, .int .i64 2] w13 false [(false, [.s])] fun r14 w15 =>
Hold [(5, (p1.add 1), (w6.cell? (p1.add 1)).getD undef), (1, p1, (w6.cell? p1).getD undef)] w15 ∧ (
saK (((r10.1.1 ++ ⟨#[45]⟩) ++ r12.1.1) ++ ⟨#[45]⟩) r14.1.1 (
R (((((r10.1.1 ++ ⟨#[45]⟩) ++ r12.1.1) ++ ⟨#[45]⟩) ++ r14.1.1, ()), ()) w15))))))))
set_option maxRecDepth 100000 in
theorem civil_Date_Text.eq (d0 : Int) (d1 : Int) (d2 : Int) (w : World) (R : Value → World → Prop) : wpF Try.prog Try.f51 (.s .n (.s .n (.s (.pl (.tk 0 (.tk 1 (.tk 4 (.tk 5 (.tk 9 (.tk 10 (.ef 2 [] (.tk 3 (.ef 6 [] (.tk 7 (.tk 8 (.ef 11 [10] (.tk 12 (.tk 13 .z))))))))))))))) .n))) [.agg #[.int .i64 d0, .int .i64 d1, .int .i64 d2]] w R = civil_Date_Text.wp d0 d1 d2 w (fun r w => R (encR false [(false, [.s])] r) w) := by kernel_rfl
set_option maxRecDepth 100000 in
theorem civil_Date_Text.ok {d0 : Int} {d1 : Int} {d2 : Int} {w : World} {R : TR [(false, [.s])] → World → Prop} (h : civil_Date_Text.wp d0 d1 d2 w R) : clS Try.prog F.civil_Date_Text [.agg #[.int .i64 d0, .int .i64 d1, .int .i64 d2]] w false [(false, [.s])] R :=
  ok_of Try_follows Try.func51 (fun R => civil_Date_Text.wp d0 d1 d2 w R) (civil_Date_Text.eq d0 d1 d2 w) rfl h
/-! ### utc_two -/
set_option maxRecDepth 100000 in
def utc_two.wp (n : Int) (w : World) (R : TR [(false, [.s])] → World → Prop) : Prop :=
nzK 10 (
nzK 10 (
alK [.int .u8 (IntKind.wrap .u8 (IntKind.wrap .i64 (48 + (IntKind.wrap .i64 (Int.tdiv n 10))))), .int .u8 (IntKind.wrap .u8 (IntKind.wrap .i64 (48 + (Int.tmod n 10))))] T.uint8 w fun p1 w2 =>
bsK Try.prog (.slice (some p1) 2 2) w2 fun s3 w4 =>
R ((s3, ()), ()) w4))
set_option maxRecDepth 100000 in
theorem utc_two.eq (n : Int) (w : World) (R : Value → World → Prop) : wpF Try.prog Try.f52 .n [.int .i64 n] w R = utc_two.wp n w (fun r w => R (encR false [(false, [.s])] r) w) := by kernel_rfl
set_option maxRecDepth 100000 in
theorem utc_two.ok {n : Int} {w : World} {R : TR [(false, [.s])] → World → Prop} (h : utc_two.wp n w R) : clS Try.prog F.utc_two [.int .i64 n] w false [(false, [.s])] R :=
  ok_of Try_follows Try.func52 (fun R => utc_two.wp n w R) (utc_two.eq n w) rfl h
/-! ### civil_years -/
set_option maxRecDepth 100000 in
def civil_years.wp (year : Int) (w : World) (R : TR [(false, [(.i .i64)])] → World → Prop) : Prop :=
nzK 4 (
nzK 100 (
nzK 400 (
R ((IntKind.wrap .i64 ((IntKind.wrap .i64 ((IntKind.wrap .i64 ((IntKind.wrap .i64 (365 * (IntKind.wrap .i64 (year - 1)))) + (IntKind.wrap .i64 (Int.tdiv (IntKind.wrap .i64 (year - 1)) 4)))) - (IntKind.wrap .i64 (Int.tdiv (IntKind.wrap .i64 (year - 1)) 100)))) + (IntKind.wrap .i64 (Int.tdiv (IntKind.wrap .i64 (year - 1)) 400))), ()), ()) w)))
set_option maxRecDepth 100000 in
theorem civil_years.eq (year : Int) (w : World) (R : Value → World → Prop) : wpF Try.prog Try.f53 .n [.int .i64 year] w R = civil_years.wp year w (fun r w => R (encR false [(false, [(.i .i64)])] r) w) := by kernel_rfl
set_option maxRecDepth 100000 in
theorem civil_years.ok {year : Int} {w : World} {R : TR [(false, [(.i .i64)])] → World → Prop} (h : civil_years.wp year w R) : clS Try.prog F.civil_years [.int .i64 year] w false [(false, [(.i .i64)])] R :=
  ok_of Try_follows Try.func53 (fun R => civil_years.wp year w R) (civil_years.eq year w) rfl h
/-! ### civil_month -/
set_option maxRecDepth 100000 in
def civil_month.wp (year : Int) (m : Int) (w : World) (R : TR [(false, [(.i .i64)])] → World → Prop) : Prop :=
brB (m == 2) (
clS Try.prog F.civil_leap [.int .i64 year] w false [(false, [.b])] fun r1 w2 =>
brB r1.1.1 (
R ((29, ()), ()) w2) (
aiK [0, 31, 28, 31, 30, 31, 30, 31, 31, 30, 31, 30, 31] 13 m fun c3 =>
R ((c3, ()), ()) w2)) (
aiK [0, 31, 28, 31, 30, 31, 30, 31, 31, 30, 31, 30, 31] 13 m fun c4 =>
R ((c4, ()), ()) w)
set_option maxRecDepth 100000 in
theorem civil_month.eq (year : Int) (m : Int) (w : World) (R : Value → World → Prop) : wpF Try.prog Try.f54 .n [.int .i64 year, .int .i64 m] w R = civil_month.wp year m w (fun r w => R (encR false [(false, [(.i .i64)])] r) w) := by kernel_rfl
set_option maxRecDepth 100000 in
theorem civil_month.ok {year : Int} {m : Int} {w : World} {R : TR [(false, [(.i .i64)])] → World → Prop} (h : civil_month.wp year m w R) : clS Try.prog F.civil_month [.int .i64 year, .int .i64 m] w false [(false, [(.i .i64)])] R :=
  ok_of Try_follows Try.func54 (fun R => civil_month.wp year m w R) (civil_month.eq year m w) rfl h
/-! ### civil_Date_Good -/
set_option maxRecDepth 100000 in
def civil_Date_Good.wp (d0 : Int) (d1 : Int) (d2 : Int) (w : World) (R : TR [(false, [.b])] → World → Prop) : Prop :=
alK [.int .i64 d0, .int .i64 d1, .int .i64 d2] T.civil_Date w fun p1 w2 =>
drK w2 fun w3 =>
ld1 (.i .i64) p1 w3 fun x4 =>
brB (decide (x4 ≥ 1)) (
ld1 (.i .i64) p1 w3 fun x5 =>
brB (decide (x5 ≤ 9999)) (
ld1 (.i .i64) (p1.add 1) w3 fun x6 =>
brB (decide (x6 ≥ 1)) (
ld1 (.i .i64) (p1.add 1) w3 fun x7 =>
brB (decide (x7 ≤ 12)) (
ld1 (.i .i64) (p1.add 2) w3 fun x8 =>
brB (decide (x8 ≥ 1)) (
ld1 (.i .i64) (p1.add 2) w3 fun x9 =>
ld1 (.i .i64) p1 w3 fun x10 =>
ld1 (.i .i64) (p1.add 1) w3 fun x11 =>
clS Try.prog F.civil_month [.int .i64 x10, .int .i64 x11] w3 false [(false, [(.i .i64)])] fun r12 w13 =>
Hold [(25, (p1.add 2), (w3.cell? (p1.add 2)).getD undef), (20, (p1.add 2), (w3.cell? (p1.add 2)).getD undef), (15, (p1.add 1), (w3.cell? (p1.add 1)).getD undef), (10, (p1.add 1), (w3.cell? (p1.add 1)).getD undef), (5, p1, (w3.cell? p1).getD undef), (1, p1, (w3.cell? p1).getD undef)] w13 ∧ (
R ((decide (x9 ≤ r12.1.1), ()), ()) w13)) (
R ((false, ()), ()) w3)) (
R ((false, ()), ()) w3)) (
R ((false, ()), ()) w3)) (
R ((false, ()), ()) w3)) (
R ((false, ()), ()) w3)
set_option maxRecDepth 100000 in
theorem civil_Date_Good.eq (d0 : Int) (d1 : Int) (d2 : Int) (w : World) (R : Value → World → Prop) : wpF Try.prog Try.f55 (.s .n (.s (.pl (.tk 0 (.tk 1 (.tk 2 (.tk 3 (.tk 4 (.tk 5 (.tk 6 (.tk 7 (.tk 8 (.tk 9 (.tk 10 (.tk 11 (.tk 12 (.tk 13 (.tk 14 (.tk 15 (.tk 16 (.tk 17 (.tk 18 (.tk 19 (.tk 20 (.tk 21 (.tk 22 (.tk 23 (.tk 24 (.tk 25 (.tk 26 (.tk 27 (.tk 28 (.tk 29 (.ef 30 [27, 29] (.tk 31 (.tk 32 (.tk 33 .z))))))))))))))))))))))))))))))))))) .n)) [.agg #[.int .i64 d0, .int .i64 d1, .int .i64 d2]] w R = civil_Date_Good.wp d0 d1 d2 w (fun r w => R (encR false [(false, [.b])] r) w) := by kernel_rfl
set_option maxRecDepth 100000 in
theorem civil_Date_Good.ok {d0 : Int} {d1 : Int} {d2 : Int} {w : World} {R : TR [(false, [.b])] → World → Prop} (h : civil_Date_Good.wp d0 d1 d2 w R) : clS Try.prog F.civil_Date_Good [.agg #[.int .i64 d0, .int .i64 d1, .int .i64 d2]] w false [(false, [.b])] R :=
  ok_of Try_follows Try.func55 (fun R => civil_Date_Good.wp d0 d1 d2 w R) (civil_Date_Good.eq d0 d1 d2 w) rfl h
/-! ### ref20_Good -/
set_option maxRecDepth 100000 in
def ref20_Good.wp (d0 : Int) (d1 : Int) (d2 : Int) (w : World) (R : TR [(false, [.b])] → World → Prop) : Prop :=
alK [.int .i64 d0, .int .i64 d1, .int .i64 d2] T.ref20_Date w fun p1 w2 =>
drK w2 fun w3 =>
ld1 (.i .i64) p1 w3 fun x4 =>
brB (decide (x4 ≥ 1)) (
ld1 (.i .i64) p1 w3 fun x5 =>
brB (decide (x5 ≤ 9999)) (
ld1 (.i .i64) (p1.add 1) w3 fun x6 =>
brB (decide (x6 ≥ 1)) (
ld1 (.i .i64) (p1.add 1) w3 fun x7 =>
brB (decide (x7 ≤ 12)) (
ld1 (.i .i64) (p1.add 2) w3 fun x8 =>
brB (decide (x8 ≥ 1)) (
ld1 (.i .i64) (p1.add 2) w3 fun x9 =>
ld1 (.i .i64) p1 w3 fun x10 =>
ld1 (.i .i64) (p1.add 1) w3 fun x11 =>
clS Try.prog F.ref20_Days [.int .i64 x10, .int .i64 x11] w3 false [(false, [(.i .i64)])] fun r12 w13 =>
Hold [(25, (p1.add 2), (w3.cell? (p1.add 2)).getD undef), (20, (p1.add 2), (w3.cell? (p1.add 2)).getD undef), (15, (p1.add 1), (w3.cell? (p1.add 1)).getD undef), (10, (p1.add 1), (w3.cell? (p1.add 1)).getD undef), (5, p1, (w3.cell? p1).getD undef), (1, p1, (w3.cell? p1).getD undef)] w13 ∧ (
R ((decide (x9 ≤ r12.1.1), ()), ()) w13)) (
R ((false, ()), ()) w3)) (
R ((false, ()), ()) w3)) (
R ((false, ()), ()) w3)) (
R ((false, ()), ()) w3)) (
R ((false, ()), ()) w3)
set_option maxRecDepth 100000 in
theorem ref20_Good.eq (d0 : Int) (d1 : Int) (d2 : Int) (w : World) (R : Value → World → Prop) : wpF Try.prog Try.f56 (.s .n (.s (.pl (.tk 0 (.tk 1 (.tk 2 (.tk 3 (.tk 4 (.tk 5 (.tk 6 (.tk 7 (.tk 8 (.tk 9 (.tk 10 (.tk 11 (.tk 12 (.tk 13 (.tk 14 (.tk 15 (.tk 16 (.tk 17 (.tk 18 (.tk 19 (.tk 20 (.tk 21 (.tk 22 (.tk 23 (.tk 24 (.tk 25 (.tk 26 (.tk 27 (.tk 28 (.tk 29 (.ef 30 [27, 29] (.tk 31 (.tk 32 (.tk 33 .z))))))))))))))))))))))))))))))))))) .n)) [.agg #[.int .i64 d0, .int .i64 d1, .int .i64 d2]] w R = ref20_Good.wp d0 d1 d2 w (fun r w => R (encR false [(false, [.b])] r) w) := by kernel_rfl
set_option maxRecDepth 100000 in
theorem ref20_Good.ok {d0 : Int} {d1 : Int} {d2 : Int} {w : World} {R : TR [(false, [.b])] → World → Prop} (h : ref20_Good.wp d0 d1 d2 w R) : clS Try.prog F.ref20_Good [.agg #[.int .i64 d0, .int .i64 d1, .int .i64 d2]] w false [(false, [.b])] R :=
  ok_of Try_follows Try.func56 (fun R => ref20_Good.wp d0 d1 d2 w R) (ref20_Good.eq d0 d1 d2 w) rfl h
/-! ### ref20_Text -/
set_option maxRecDepth 100000 in
def ref20_Text.wp (d0 : Int) (d1 : Int) (d2 : Int) (w : World) (R : TR [(false, [.s])] → World → Prop) : Prop :=
alK [.int .i64 d0, .int .i64 d1, .int .i64 d2] T.ref20_Date w fun p1 w2 =>
ldN [(.i .i64), (.i .i64), (.i .i64)] p1 0 w2 fun x3 =>
clS Try.prog F.ref20_Good [.agg #[.int .i64 x3.1, .int .i64 x3.2.1, .int .i64 x3.2.2.1]] w2 false [(false, [.b])] fun r4 w5 =>
brB (!r4.1.1) (
R ((⟨#[]⟩, ()), ()) w5) (
drK w5 fun w6 =>
ld1 (.i .i64) p1 w6 fun x7 =>
ld1 (.i .i64) (p1.add 1) w6 fun x8 =>
ld1 (.i .i64) (p1.add 2) w6 fun x9 =>
clS Try.prog F.ref20_two [.int .i64 x7, .int .i64 4] w6 false [(false, [.s])] fun r10 w11 =>
Hold [(10, (p1.add 2), (w6.cell? (p1.add 2)).getD undef), (5, (p1.add 1), (w6.cell? (p1.add 1)).getD undef), (1, p1, (w6.cell? p1).getD undef)] w11 ∧ (
saK r10.1.1 ⟨#[45]⟩ (
clS Try.prog F.ref20_two [.int .i64 x8, .int .i64 2] w11 false [(false, [.s])] fun r12 w13 =>
Hold [(10, (p1.add 2), (w6.cell? (p1.add 2)).getD undef), (5, (p1.add 1), (w6.cell? (p1.add 1)).getD undef), (1, p1, (w6.cell? p1).getD undef)] w13 ∧ (
saK (r10.1.1 ++ ⟨#[45]⟩) r12.1.1 (
saK ((r10.1.1 ++ ⟨#[45]⟩) ++ r12.1.1) ⟨#[45]⟩ (
clS Try.prog F.ref20_two [.int .i64 x9, .int .i64 2] w13 false [(false, [.s])] fun r14 w15 =>
Hold [(5, (p1.add 1), (w6.cell? (p1.add 1)).getD undef), (1, p1, (w6.cell? p1).getD undef)] w15 ∧ (
saK (((r10.1.1 ++ ⟨#[45]⟩) ++ r12.1.1) ++ ⟨#[45]⟩) r14.1.1 (
R (((((r10.1.1 ++ ⟨#[45]⟩) ++ r12.1.1) ++ ⟨#[45]⟩) ++ r14.1.1, ()), ()) w15))))))))
set_option maxRecDepth 100000 in
theorem ref20_Text.eq (d0 : Int) (d1 : Int) (d2 : Int) (w : World) (R : Value → World → Prop) : wpF Try.prog Try.f57 (.s .n (.s .n (.s (.pl (.tk 0 (.tk 1 (.tk 4 (.tk 5 (.tk 9 (.tk 10 (.ef 2 [] (.tk 3 (.ef 6 [] (.tk 7 (.tk 8 (.ef 11 [10] (.tk 12 (.tk 13 .z))))))))))))))) .n))) [.agg #[.int .i64 d0, .int .i64 d1, .int .i64 d2]] w R = ref20_Text.wp d0 d1 d2 w (fun r w => R (encR false [(false, [.s])] r) w) := by kernel_rfl
set_option maxRecDepth 100000 in
theorem ref20_Text.ok {d0 : Int} {d1 : Int} {d2 : Int} {w : World} {R : TR [(false, [.s])] → World → Prop} (h : ref20_Text.wp d0 d1 d2 w R) : clS Try.prog F.ref20_Text [.agg #[.int .i64 d0, .int .i64 d1, .int .i64 d2]] w false [(false, [.s])] R :=
  ok_of Try_follows Try.func57 (fun R => ref20_Text.wp d0 d1 d2 w R) (ref20_Text.eq d0 d1 d2 w) rfl h
/-! ### ref22_two -/
set_option maxRecDepth 100000 in
def ref22_two.wp (n : Int) (w : World) (R : TR [(false, [.s])] → World → Prop) : Prop :=
nzK 10 (
nzK 10 (
alK [.int .u8 (IntKind.wrap .u8 (IntKind.wrap .i64 (48 + (IntKind.wrap .i64 (Int.tdiv n 10))))), .int .u8 (IntKind.wrap .u8 (IntKind.wrap .i64 (48 + (Int.tmod n 10))))] T.uint8 w fun p1 w2 =>
bsK Try.prog (.slice (some p1) 2 2) w2 fun s3 w4 =>
R ((s3, ()), ()) w4))
set_option maxRecDepth 100000 in
theorem ref22_two.eq (n : Int) (w : World) (R : Value → World → Prop) : wpF Try.prog Try.f58 .n [.int .i64 n] w R = ref22_two.wp n w (fun r w => R (encR false [(false, [.s])] r) w) := by kernel_rfl
set_option maxRecDepth 100000 in
theorem ref22_two.ok {n : Int} {w : World} {R : TR [(false, [.s])] → World → Prop} (h : ref22_two.wp n w R) : clS Try.prog F.ref22_two [.int .i64 n] w false [(false, [.s])] R :=
  ok_of Try_follows Try.func58 (fun R => ref22_two.wp n w R) (ref22_two.eq n w) rfl h
/-! ### utc_looks -/
set_option maxRecDepth 100000 in
def utc_looks.wp (s : ByteArray) (w : World) (R : TR [(false, [.b])] → World → Prop) : Prop :=
rgK s w fun it1 w2 =>
LoopT (fun (self3 : ((Int) × Unit) → World → Prop) (z4 : (Int) × Unit) w5 => ∀ _ : Nat → Value,
nxK it1 w5 (fun w6 =>
R (((z4.1 == 20), ()), ()) w6) fun i8 c9 w7 =>
brB (decide (z4.1 ≥ 20)) (
R ((false, ()), ()) w7) (
siK ⟨#[48, 48, 48, 48, 45, 48, 48, 45, 48, 48, 84, 48, 48, 58, 48, 48, 58, 48, 48, 90]⟩ z4.1 fun c10 =>
brB ((IntKind.wrap .i32 c10) == 48) (
brB (decide (c9 < 48)) (
R ((false, ()), ()) w7) (
brB (decide (c9 > 57)) (
R ((false, ()), ()) w7) (
brB ((IntKind.wrap .i32 c10) != 48) (
brB (c9 != (IntKind.wrap .i32 c10)) (
R ((false, ()), ()) w7) (
self3 (IntKind.wrap .i64 (z4.1 + 1), ()) w7)) (
self3 (IntKind.wrap .i64 (z4.1 + 1), ()) w7)))) (
brB ((IntKind.wrap .i32 c10) != 48) (
brB (c9 != (IntKind.wrap .i32 c10)) (
R ((false, ()), ()) w7) (
self3 (IntKind.wrap .i64 (z4.1 + 1), ()) w7)) (
self3 (IntKind.wrap .i64 (z4.1 + 1), ()) w7)))) (0, ()) w2
set_option maxRecDepth 100000 in
theorem utc_looks.eq (s : ByteArray) (w : World) (R : Value → World → Prop) : wpF Try.prog Try.f59 (.s .n (.s .n (.s (.s .n (.lp [(3, (.i .i64))] .n)) .n))) [.string s] w R = utc_looks.wp s w (fun r w => R (encR false [(false, [.b])] r) w) := by kernel_rfl
set_option maxRecDepth 100000 in
theorem utc_looks.ok {s : ByteArray} {w : World} {R : TR [(false, [.b])] → World → Prop} (h : utc_looks.wp s w R) : clS Try.prog F.utc_looks [.string s] w false [(false, [.b])] R :=
  ok_of Try_follows Try.func59 (fun R => utc_looks.wp s w R) (utc_looks.eq s w) rfl h
/-! ### civil_Parse -/
set_option maxRecDepth 100000 in
def civil_Parse.wp (s : ByteArray) (w : World) (R : TR [(true, [(.i .i64), (.i .i64), (.i .i64)]), (false, [.b])] → World → Prop) : Prop :=
alK [.int .i64 0, .int .i64 0, .int .i64 0] T.civil_Date w fun p1 w2 =>
alK [.int .i64 0, .int .i64 0, .int .i64 0] T.a3_int w2 fun p3 w4 =>
rgK s w4 fun it5 w6 =>
LoopT (fun (self7 : ((Int) × (Int) × Unit) → World → Prop) (z8 : (Int) × (Int) × Unit) w9 => ∀ _ : Nat → Value,
nxK it5 w9 (fun w10 =>
ixK (some p3) 3 0 fun a14 =>
ld1 (.i .i64) (a14.add ((0 : Int).toNat * 1)) w10 fun x15 =>
ixK (some p3) 3 1 fun a16 =>
ld1 (.i .i64) (a16.add ((1 : Int).toNat * 1)) w10 fun x17 =>
ixK (some p3) 3 2 fun a18 =>
ld1 (.i .i64) (a18.add ((2 : Int).toNat * 1)) w10 fun x19 =>
alK [.int .i64 0, .int .i64 0, .int .i64 0] T.civil_Date w10 fun p20 w21 =>
stN [.int .i64 x15, .int .i64 x17, .int .i64 x19] p20 0 w21 fun w22 =>
brB (z8.1 != 2) (
stN [.int .i64 0, .int .i64 0, .int .i64 0] p1 0 w22 fun w23 =>
ldN [(.i .i64), (.i .i64), (.i .i64)] p1 0 w23 fun x24 =>
R ((x24.1, x24.2.1, x24.2.2.1, ()), (false, ()), ()) w23) (
brB (z8.2.1 != 2) (
stN [.int .i64 0, .int .i64 0, .int .i64 0] p1 0 w22 fun w25 =>
ldN [(.i .i64), (.i .i64), (.i .i64)] p1 0 w25 fun x26 =>
R ((x26.1, x26.2.1, x26.2.2.1, ()), (false, ()), ()) w25) (
ldN [(.i .i64), (.i .i64), (.i .i64)] p20 0 w22 fun x27 =>
clS Try.prog F.civil_Date_Good [.agg #[.int .i64 x27.1, .int .i64 x27.2.1, .int .i64 x27.2.2.1]] w22 false [(false, [.b])] fun r28 w29 =>
brB (!r28.1.1) (
stN [.int .i64 0, .int .i64 0, .int .i64 0] p1 0 w29 fun w30 =>
ldN [(.i .i64), (.i .i64), (.i .i64)] p1 0 w30 fun x31 =>
R ((x31.1, x31.2.1, x31.2.2.1, ()), (false, ()), ()) w30) (
ldN [(.i .i64), (.i .i64), (.i .i64)] p20 0 w29 fun x32 =>
stN [.int .i64 x32.1, .int .i64 x32.2.1, .int .i64 x32.2.2.1] p1 0 w29 fun w33 =>
ldN [(.i .i64), (.i .i64), (.i .i64)] p1 0 w33 fun x34 =>
R ((x34.1, x34.2.1, x34.2.2.1, ()), (true, ()), ()) w33)))) fun i12 c13 w11 =>
CutT (fun (J35 : ((Bool) × Unit) → World → Prop) =>
brB (c13 == 45) (
brB (decide (z8.1 < 2)) (
J35 ((z8.2.1 == (IntKind.wrap .i64 (4 - (IntKind.wrap .i64 (2 * (if 1 < z8.1 then 1 else z8.1)))))), ()) w11) (
J35 (false, ()) w11)) (
J35 (false, ()) w11)) (fun (z36 : (Bool) × Unit) w37 => ∀ _ : Nat → Value,
brB z36.1 (
self7 (IntKind.wrap .i64 (z8.1 + 1), 0, ()) w37) (
CutT (fun (J38 : ((Bool) × Unit) → World → Prop) =>
brB (decide (c13 ≥ 48)) (
brB (decide (c13 ≤ 57)) (
J38 (decide (z8.2.1 < (IntKind.wrap .i64 (4 - (IntKind.wrap .i64 (2 * (if 1 < z8.1 then 1 else z8.1)))))), ()) w37) (
J38 (false, ()) w37)) (
J38 (false, ()) w37)) (fun (z39 : (Bool) × Unit) w40 => ∀ _ : Nat → Value,
brB z39.1 (
ixK (some p3) 3 z8.1 fun a41 =>
ld1 (.i .i64) (a41.add (z8.1.toNat * 1)) w40 fun x42 =>
ixK (some p3) 3 z8.1 fun a43 =>
stN [.int .i64 (IntKind.wrap .i64 ((IntKind.wrap .i64 (10 * x42)) + (IntKind.wrap .i64 (IntKind.wrap .i32 (c13 - 48)))))] (a43.add (z8.1.toNat * 1)) 0 w40 fun w44 =>
self7 (z8.1, IntKind.wrap .i64 (z8.2.1 + 1), ()) w44) (
stN [.int .i64 0, .int .i64 0, .int .i64 0] p1 0 w40 fun w45 =>
ldN [(.i .i64), (.i .i64), (.i .i64)] p1 0 w45 fun x46 =>
R ((x46.1, x46.2.1, x46.2.2.1, ()), (false, ()), ()) w45))))) (0, 0, ()) w6
set_option maxRecDepth 100000 in
theorem civil_Parse.eq (s : ByteArray) (w : World) (R : Value → World → Prop) : wpF Try.prog Try.f60 (.s .n (.s .n (.s .n (.s (.s .n (.lp [(5, (.i .i64)), (6, (.i .i64))] (.s .n (.s .n (.s .n (.ct [(16, .b)] .n (.s .n (.ct [(33, .b)] .n .n)))))))) .n)))) [.string s] w R = civil_Parse.wp s w (fun r w => R (encR true [(true, [(.i .i64), (.i .i64), (.i .i64)]), (false, [.b])] r) w) := by kernel_rfl
set_option maxRecDepth 100000 in
theorem civil_Parse.ok {s : ByteArray} {w : World} {R : TR [(true, [(.i .i64), (.i .i64), (.i .i64)]), (false, [.b])] → World → Prop} (h : civil_Parse.wp s w R) : clS Try.prog F.civil_Parse [.string s] w true [(true, [(.i .i64), (.i .i64), (.i .i64)]), (false, [.b])] R :=
  ok_of Try_follows Try.func60 (fun R => civil_Parse.wp s w R) (civil_Parse.eq s w) rfl h
/-! ### utc_num -/
set_option maxRecDepth 100000 in
def utc_num.wp (s : ByteArray) (w : World) (R : TR [(false, [(.i .i64)])] → World → Prop) : Prop :=
drK w fun w1 =>
siK s 0 fun c2 =>
siK s 1 fun c3 =>
R ((IntKind.wrap .i64 ((IntKind.wrap .i64 (10 * (IntKind.wrap .i64 (IntKind.wrap .u8 (c2 - 48))))) + (IntKind.wrap .i64 (IntKind.wrap .u8 (c3 - 48)))), ()), ()) w1
set_option maxRecDepth 100000 in
theorem utc_num.eq (s : ByteArray) (w : World) (R : Value → World → Prop) : wpF Try.prog Try.f61 (.s .n (.s (.pl (.tk 0 (.tk 1 (.tk 2 (.tk 3 (.tk 4 (.tk 5 (.tk 6 (.tk 7 (.tk 8 (.tk 9 (.tk 10 .z)))))))))))) .n)) [.string s] w R = utc_num.wp s w (fun r w => R (encR false [(false, [(.i .i64)])] r) w) := by kernel_rfl
set_option maxRecDepth 100000 in
theorem utc_num.ok {s : ByteArray} {w : World} {R : TR [(false, [(.i .i64)])] → World → Prop} (h : utc_num.wp s w R) : clS Try.prog F.utc_num [.string s] w false [(false, [(.i .i64)])] R :=
  ok_of Try_follows Try.func61 (fun R => utc_num.wp s w R) (utc_num.eq s w) rfl h
/-! ### ref20_Parse -/
set_option maxRecDepth 100000 in
def ref20_Parse.wp (s : ByteArray) (w : World) (R : TR [(true, [(.i .i64), (.i .i64), (.i .i64)]), (false, [.b])] → World → Prop) : Prop :=
alK [.int .i64 0, .int .i64 0, .int .i64 0] T.ref20_Date w fun p1 w2 =>
brB ((s.size : Int) != 10) (
stN [.int .i64 0, .int .i64 0, .int .i64 0] p1 0 w2 fun w3 =>
ldN [(.i .i64), (.i .i64), (.i .i64)] p1 0 w3 fun x4 =>
R ((x4.1, x4.2.1, x4.2.2.1, ()), (false, ()), ()) w3) (
siK s 4 fun c5 =>
brB (c5 != 45) (
stN [.int .i64 0, .int .i64 0, .int .i64 0] p1 0 w2 fun w6 =>
ldN [(.i .i64), (.i .i64), (.i .i64)] p1 0 w6 fun x7 =>
R ((x7.1, x7.2.1, x7.2.2.1, ()), (false, ()), ()) w6) (
siK s 7 fun c8 =>
brB (c8 != 45) (
stN [.int .i64 0, .int .i64 0, .int .i64 0] p1 0 w2 fun w9 =>
ldN [(.i .i64), (.i .i64), (.i .i64)] p1 0 w9 fun x10 =>
R ((x10.1, x10.2.1, x10.2.2.1, ()), (false, ()), ()) w9) (
CutT (fun (J11 : ((Addr) × Unit) → World → Prop) =>
drK w2 fun w14 =>
slK 0 4 s.size (
slK 5 7 s.size (
slK 8 (s.size : Int) s.size (
(
clS Try.prog F.ref20_number [.string (s.extract (Int.toNat 0) (Int.toNat 4))] w14 false [(false, [(.i .i64)])] fun r15 w16 =>
Hold [] w16 ∧ (
(
clS Try.prog F.ref20_number [.string (s.extract (Int.toNat 5) (Int.toNat 7))] w16 false [(false, [(.i .i64)])] fun r17 w18 =>
Hold [] w18 ∧ (
(
clS Try.prog F.ref20_number [.string (s.extract (Int.toNat 8) (Int.toNat (s.size : Int)))] w18 false [(false, [(.i .i64)])] fun r19 w20 =>
Hold [] w20 ∧ (
alK [.int .i64 0, .int .i64 0, .int .i64 0] T.ref20_Date w20 fun p21 w22 =>
Hold [] w22 ∧ (
stN [.int .i64 r15.1.1, .int .i64 r17.1.1, .int .i64 r19.1.1] p21 0 w22 fun w23 =>
Hold [] w23 ∧ (
J11 (p21, ()) w23)))) ∧ (
alK [.int .i64 0, .int .i64 0, .int .i64 0] T.ref20_Date w18 fun p24 w25 =>
Hold [] w25 ∧ (
clS Try.prog F.ref20_number [.string (s.extract (Int.toNat 8) (Int.toNat (s.size : Int)))] w25 false [(false, [(.i .i64)])] fun r26 w27 =>
Hold [] w27 ∧ (
stN [.int .i64 r15.1.1, .int .i64 r17.1.1, .int .i64 r26.1.1] p24 0 w27 fun w28 =>
Hold [] w28 ∧ (
J11 (p24, ()) w28)))))) ∧ (
alK [.int .i64 0, .int .i64 0, .int .i64 0] T.ref20_Date w16 fun p29 w30 =>
Hold [] w30 ∧ (
clS Try.prog F.ref20_number [.string (s.extract (Int.toNat 5) (Int.toNat 7))] w30 false [(false, [(.i .i64)])] fun r31 w32 =>
Hold [] w32 ∧ (
clS Try.prog F.ref20_number [.string (s.extract (Int.toNat 8) (Int.toNat (s.size : Int)))] w32 false [(false, [(.i .i64)])] fun r33 w34 =>
Hold [] w34 ∧ (
stN [.int .i64 r15.1.1, .int .i64 r31.1.1, .int .i64 r33.1.1] p29 0 w34 fun w35 =>
Hold [] w35 ∧ (
J11 (p29, ()) w35))))))) ∧ (
alK [.int .i64 0, .int .i64 0, .int .i64 0] T.ref20_Date w14 fun p36 w37 =>
Hold [] w37 ∧ (
clS Try.prog F.ref20_number [.string (s.extract (Int.toNat 0) (Int.toNat 4))] w37 false [(false, [(.i .i64)])] fun r38 w39 =>
Hold [] w39 ∧ (
clS Try.prog F.ref20_number [.string (s.extract (Int.toNat 5) (Int.toNat 7))] w39 false [(false, [(.i .i64)])] fun r40 w41 =>
Hold [] w41 ∧ (
clS Try.prog F.ref20_number [.string (s.extract (Int.toNat 8) (Int.toNat (s.size : Int)))] w41 false [(false, [(.i .i64)])] fun r42 w43 =>
Hold [] w43 ∧ (
stN [.int .i64 r38.1.1, .int .i64 r40.1.1, .int .i64 r42.1.1] p36 0 w43 fun w44 =>
Hold [] w44 ∧ (
J11 (p36, ()) w44)))))))))) (fun (z12 : (Addr) × Unit) w13 => ∀ _ : Nat → Value,
ldN [(.i .i64), (.i .i64), (.i .i64)] z12.1 0 w13 fun x45 =>
clS Try.prog F.ref20_Good [.agg #[.int .i64 x45.1, .int .i64 x45.2.1, .int .i64 x45.2.2.1]] w13 false [(false, [.b])] fun r46 w47 =>
brB (!r46.1.1) (
stN [.int .i64 0, .int .i64 0, .int .i64 0] p1 0 w47 fun w48 =>
ldN [(.i .i64), (.i .i64), (.i .i64)] p1 0 w48 fun x49 =>
R ((x49.1, x49.2.1, x49.2.2.1, ()), (false, ()), ()) w48) (
ldN [(.i .i64), (.i .i64), (.i .i64)] z12.1 0 w47 fun x50 =>
stN [.int .i64 x50.1, .int .i64 x50.2.1, .int .i64 x50.2.2.1] p1 0 w47 fun w51 =>
ldN [(.i .i64), (.i .i64), (.i .i64)] p1 0 w51 fun x52 =>
R ((x52.1, x52.2.1, x52.2.2.1, ()), (true, ()), ()) w51)))))
set_option maxRecDepth 100000 in
theorem ref20_Parse.eq (s : ByteArray) (w : World) (R : Value → World → Prop) : wpF Try.prog Try.f62 (.s .n (.s .n (.ct [(4, .a)] (.pl (.tk 0 (.tk 1 (.tk 3 (.tk 4 (.tk 6 (.tk 7 (.two 2 10 (.two 5 10 (.two 8 10 (.tk 9 (.ef 10 [] (.ef 11 [] .z))) (.ef 8 [] (.tk 9 (.ef 11 [] .z)))) (.ef 5 [] (.ef 8 [] (.tk 9 (.ef 11 [] .z))))) (.ef 2 [] (.ef 5 [] (.ef 8 [] (.tk 9 (.ef 11 [] .z))))))))))))) .n))) [.string s] w R = ref20_Parse.wp s w (fun r w => R (encR true [(true, [(.i .i64), (.i .i64), (.i .i64)]), (false, [.b])] r) w) := by kernel_rfl
set_option maxRecDepth 100000 in
theorem ref20_Parse.ok {s : ByteArray} {w : World} {R : TR [(true, [(.i .i64), (.i .i64), (.i .i64)]), (false, [.b])] → World → Prop} (h : ref20_Parse.wp s w R) : clS Try.prog F.ref20_Parse [.string s] w true [(true, [(.i .i64), (.i .i64), (.i .i64)]), (false, [.b])] R :=
  ok_of Try_follows Try.func62 (fun R => ref20_Parse.wp s w R) (ref20_Parse.eq s w) rfl h
/-! ### ref22_num -/
set_option maxRecDepth 100000 in
def ref22_num.wp (s : ByteArray) (w : World) (R : TR [(false, [(.i .i64)])] → World → Prop) : Prop :=
siK s 0 fun c1 =>
brB (decide (c1 < 48)) (
R (((Int.negSucc 0), ()), ()) w) (
siK s 0 fun c2 =>
brB (decide (c2 > 57)) (
R (((Int.negSucc 0), ()), ()) w) (
siK s 1 fun c3 =>
brB (decide (c3 < 48)) (
R (((Int.negSucc 0), ()), ()) w) (
siK s 1 fun c4 =>
brB (decide (c4 > 57)) (
R (((Int.negSucc 0), ()), ()) w) (
drK w fun w5 =>
siK s 0 fun c6 =>
siK s 1 fun c7 =>
R ((IntKind.wrap .i64 ((IntKind.wrap .i64 (10 * (IntKind.wrap .i64 (IntKind.wrap .u8 (c6 - 48))))) + (IntKind.wrap .i64 (IntKind.wrap .u8 (c7 - 48)))), ()), ()) w5))))
set_option maxRecDepth 100000 in
theorem ref22_num.eq (s : ByteArray) (w : World) (R : Value → World → Prop) : wpF Try.prog Try.f63 (.s .n (.s .n (.s (.pl (.tk 0 (.tk 1 (.tk 2 (.tk 3 (.tk 4 (.tk 5 (.tk 6 (.tk 7 (.tk 8 (.tk 9 (.tk 10 .z)))))))))))) .n))) [.string s] w R = ref22_num.wp s w (fun r w => R (encR false [(false, [(.i .i64)])] r) w) := by kernel_rfl
set_option maxRecDepth 100000 in
theorem ref22_num.ok {s : ByteArray} {w : World} {R : TR [(false, [(.i .i64)])] → World → Prop} (h : ref22_num.wp s w R) : clS Try.prog F.ref22_num [.string s] w false [(false, [(.i .i64)])] R :=
  ok_of Try_follows Try.func63 (fun R => ref22_num.wp s w R) (ref22_num.eq s w) rfl h
end Go.Proofs.Ytimdngcmbmamdaa
