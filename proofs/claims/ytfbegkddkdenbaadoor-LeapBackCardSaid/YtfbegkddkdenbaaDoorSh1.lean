import Derived.Test.YtfbegkddkdenbaaDoorNm
namespace Go.Proofs.YtfbegkddkdenbaaDoor
open Go.Eng
set_option linter.unusedVariables false
/-! ### ref20_ahead -/
set_option maxRecDepth 100000 in
def ref20_ahead.wp (year : Int) (w : World) (R : TR [(false, [(.i .i64)])] → World → Prop) : Prop :=
LoopT (fun (self1 : ((Int) × (Int) × Unit) → World → Prop) (z2 : (Int) × (Int) × Unit) w3 => ∀ _ : Nat → Value,
brB (decide ((IntKind.wrap .i64 (z2.2.1 + 400)) ≤ year)) (
self1 (IntKind.wrap .i64 (z2.1 + 146097), IntKind.wrap .i64 (z2.2.1 + 400), ()) w3) (
LoopT (fun (self4 : ((Int) × (Int) × Unit) → World → Prop) (z5 : (Int) × (Int) × Unit) w6 => ∀ _ : Nat → Value,
brB (decide (z5.2.1 < year)) (
clS Tryd.prog F.ref20_Long [.int .i64 z5.2.1] w6 false [(false, [.b])] fun r7 w8 =>
brB r7.1.1 (
self4 (IntKind.wrap .i64 ((IntKind.wrap .i64 (z5.1 + 365)) + 1), IntKind.wrap .i64 (z5.2.1 + 1), ()) w8) (
self4 (IntKind.wrap .i64 (z5.1 + 365), IntKind.wrap .i64 (z5.2.1 + 1), ()) w8)) (
R ((z5.1, ()), ()) w6)) (z2.1, z2.2.1, ()) w3)) (0, 1, ()) w
set_option maxRecDepth 100000 in
theorem ref20_ahead.eq (year : Int) (w : World) (R : Value → World → Prop) : wpF Tryd.prog Tryd.f64 (.s .n (.s .n (.s .n (.s (.lp [(3, (.i .i64)), (4, (.i .i64))] .n) (.s (.lp [(3, (.i .i64)), (4, (.i .i64))] .n) .n))))) [.int .i64 year] w R = ref20_ahead.wp year w (fun r w => R (encR false [(false, [(.i .i64)])] r) w) := by kernel_rfl
set_option maxRecDepth 100000 in
theorem ref20_ahead.ok {year : Int} {w : World} {R : TR [(false, [(.i .i64)])] → World → Prop} (h : ref20_ahead.wp year w R) : clS Tryd.prog F.ref20_ahead [.int .i64 year] w false [(false, [(.i .i64)])] R :=
  ok_of Tryd_follows Tryd.func64 (fun R => ref20_ahead.wp year w R) (ref20_ahead.eq year w) rfl h
/-! ### ref20_Days -/
set_option maxRecDepth 100000 in
def ref20_Days.wp (year : Int) (month : Int) (w : World) (R : TR [(false, [(.i .i64)])] → World → Prop) : Prop :=
CutT (fun (J1 : ((Bool) × Unit) → World → Prop) =>
brB (month == 4) (
J1 ((month == 4), ()) w) (
brB (month == 6) (
J1 ((month == 6), ()) w) (
brB (month == 9) (
J1 ((month == 9), ()) w) (
J1 ((month == 11), ()) w)))) (fun (z2 : (Bool) × Unit) w3 => ∀ _ : Nat → Value,
brB z2.1 (
R ((30, ()), ()) w3) (
brB (month == 2) (
clS Tryd.prog F.ref20_Long [.int .i64 year] w3 false [(false, [.b])] fun r4 w5 =>
brB r4.1.1 (
R ((29, ()), ()) w5) (
R ((28, ()), ()) w5)) (
R ((31, ()), ()) w3)))
set_option maxRecDepth 100000 in
theorem ref20_Days.eq (year : Int) (month : Int) (w : World) (R : Value → World → Prop) : wpF Tryd.prog Tryd.f65 (.s .n (.s (.s .n (.ct [(6, .b)] .n .n)) .n)) [.int .i64 year, .int .i64 month] w R = ref20_Days.wp year month w (fun r w => R (encR false [(false, [(.i .i64)])] r) w) := by kernel_rfl
set_option maxRecDepth 100000 in
theorem ref20_Days.ok {year : Int} {month : Int} {w : World} {R : TR [(false, [(.i .i64)])] → World → Prop} (h : ref20_Days.wp year month w R) : clS Tryd.prog F.ref20_Days [.int .i64 year, .int .i64 month] w false [(false, [(.i .i64)])] R :=
  ok_of Tryd_follows Tryd.func65 (fun R => ref20_Days.wp year month w R) (ref20_Days.eq year month w) rfl h
/-! ### civil_years -/
set_option maxRecDepth 100000 in
def civil_years.wp (year : Int) (w : World) (R : TR [(false, [(.i .i64)])] → World → Prop) : Prop :=
nzK 4 (
nzK 100 (
nzK 400 (
R ((IntKind.wrap .i64 ((IntKind.wrap .i64 ((IntKind.wrap .i64 ((IntKind.wrap .i64 (365 * (IntKind.wrap .i64 (year - 1)))) + (IntKind.wrap .i64 (Int.tdiv (IntKind.wrap .i64 (year - 1)) 4)))) - (IntKind.wrap .i64 (Int.tdiv (IntKind.wrap .i64 (year - 1)) 100)))) + (IntKind.wrap .i64 (Int.tdiv (IntKind.wrap .i64 (year - 1)) 400))), ()), ()) w)))
set_option maxRecDepth 100000 in
theorem civil_years.eq (year : Int) (w : World) (R : Value → World → Prop) : wpF Tryd.prog Tryd.f67 .n [.int .i64 year] w R = civil_years.wp year w (fun r w => R (encR false [(false, [(.i .i64)])] r) w) := by kernel_rfl
set_option maxRecDepth 100000 in
theorem civil_years.ok {year : Int} {w : World} {R : TR [(false, [(.i .i64)])] → World → Prop} (h : civil_years.wp year w R) : clS Tryd.prog F.civil_years [.int .i64 year] w false [(false, [(.i .i64)])] R :=
  ok_of Tryd_follows Tryd.func67 (fun R => civil_years.wp year w R) (civil_years.eq year w) rfl h
/-! ### civil_month -/
set_option maxRecDepth 100000 in
def civil_month.wp (year : Int) (m : Int) (w : World) (R : TR [(false, [(.i .i64)])] → World → Prop) : Prop :=
brB (m == 2) (
clS Tryd.prog F.civil_leap [.int .i64 year] w false [(false, [.b])] fun r1 w2 =>
brB r1.1.1 (
R ((29, ()), ()) w2) (
aiK [0, 31, 28, 31, 30, 31, 30, 31, 31, 30, 31, 30, 31] 13 m fun c3 =>
R ((c3, ()), ()) w2)) (
aiK [0, 31, 28, 31, 30, 31, 30, 31, 31, 30, 31, 30, 31] 13 m fun c4 =>
R ((c4, ()), ()) w)
set_option maxRecDepth 100000 in
theorem civil_month.eq (year : Int) (m : Int) (w : World) (R : Value → World → Prop) : wpF Tryd.prog Tryd.f68 .n [.int .i64 year, .int .i64 m] w R = civil_month.wp year m w (fun r w => R (encR false [(false, [(.i .i64)])] r) w) := by kernel_rfl
set_option maxRecDepth 100000 in
theorem civil_month.ok {year : Int} {m : Int} {w : World} {R : TR [(false, [(.i .i64)])] → World → Prop} (h : civil_month.wp year m w R) : clS Tryd.prog F.civil_month [.int .i64 year, .int .i64 m] w false [(false, [(.i .i64)])] R :=
  ok_of Tryd_follows Tryd.func68 (fun R => civil_month.wp year m w R) (civil_month.eq year m w) rfl h
/-! ### civil_Date_Good -/
set_option maxRecDepth 100000 in
def civil_Date_Good.wp (d0 : Int) (d1 : Int) (d2 : Int) (w : World) (R : TR [(false, [.b])] → World → Prop) : Prop :=
alK [.int .i64 d0, .int .i64 d1, .int .i64 d2] T.civil_Date w fun p1 w2 =>
drK w2 fun w3 =>
ld1 (.i .i64) p1 w3 fun x4 =>
brB (decide (x4 ≥ 1)) (
ld1 (.i .i64) p1 w3 fun x5 =>
brB (decide (x5 ≤ 9999)) (
ld1 (.i .i64) (p1.add 1) w3 fun x6 =>
brB (decide (x6 ≥ 1)) (
ld1 (.i .i64) (p1.add 1) w3 fun x7 =>
brB (decide (x7 ≤ 12)) (
ld1 (.i .i64) (p1.add 2) w3 fun x8 =>
brB (decide (x8 ≥ 1)) (
ld1 (.i .i64) (p1.add 2) w3 fun x9 =>
ld1 (.i .i64) p1 w3 fun x10 =>
ld1 (.i .i64) (p1.add 1) w3 fun x11 =>
clS Tryd.prog F.civil_month [.int .i64 x10, .int .i64 x11] w3 false [(false, [(.i .i64)])] fun r12 w13 =>
Hold [(25, (p1.add 2), (w3.cell? (p1.add 2)).getD undef), (20, (p1.add 2), (w3.cell? (p1.add 2)).getD undef), (15, (p1.add 1), (w3.cell? (p1.add 1)).getD undef), (10, (p1.add 1), (w3.cell? (p1.add 1)).getD undef), (5, p1, (w3.cell? p1).getD undef), (1, p1, (w3.cell? p1).getD undef)] w13 ∧ (
R ((decide (x9 ≤ r12.1.1), ()), ()) w13)) (
R ((false, ()), ()) w3)) (
R ((false, ()), ()) w3)) (
R ((false, ()), ()) w3)) (
R ((false, ()), ()) w3)) (
R ((false, ()), ()) w3)
set_option maxRecDepth 100000 in
theorem civil_Date_Good.eq (d0 : Int) (d1 : Int) (d2 : Int) (w : World) (R : Value → World → Prop) : wpF Tryd.prog Tryd.f69 (.s .n (.s (.pl (.tk 0 (.tk 1 (.tk 2 (.tk 3 (.tk 4 (.tk 5 (.tk 6 (.tk 7 (.tk 8 (.tk 9 (.tk 10 (.tk 11 (.tk 12 (.tk 13 (.tk 14 (.tk 15 (.tk 16 (.tk 17 (.tk 18 (.tk 19 (.tk 20 (.tk 21 (.tk 22 (.tk 23 (.tk 24 (.tk 25 (.tk 26 (.tk 27 (.tk 28 (.tk 29 (.ef 30 [27, 29] (.tk 31 (.tk 32 (.tk 33 .z))))))))))))))))))))))))))))))))))) .n)) [.agg #[.int .i64 d0, .int .i64 d1, .int .i64 d2]] w R = civil_Date_Good.wp d0 d1 d2 w (fun r w => R (encR false [(false, [.b])] r) w) := by kernel_rfl
set_option maxRecDepth 100000 in
theorem civil_Date_Good.ok {d0 : Int} {d1 : Int} {d2 : Int} {w : World} {R : TR [(false, [.b])] → World → Prop} (h : civil_Date_Good.wp d0 d1 d2 w R) : clS Tryd.prog F.civil_Date_Good [.agg #[.int .i64 d0, .int .i64 d1, .int .i64 d2]] w false [(false, [.b])] R :=
  ok_of Tryd_follows Tryd.func69 (fun R => civil_Date_Good.wp d0 d1 d2 w R) (civil_Date_Good.eq d0 d1 d2 w) rfl h
/-! ### civil_digits -/
set_option maxRecDepth 100000 in
def civil_digits.wp (n : Int) (size : Int) (w : World) (R : TR [(false, [.s])] → World → Prop) : Prop :=
slOf ((Instr.makeSlice T.sl_uint8 (.int .i64 size) (.int .i64 size)).run Tryd.prog w) fun y1 w2 =>
LoopT (fun (self3 : ((Int) × (Int) × Unit) → World → Prop) (z4 : (Int) × (Int) × Unit) w5 => ∀ _ : Nat → Value,
brB (decide (z4.2.1 ≥ 0)) (
nzK 10 (
ixK y1.1 y1.2.1 z4.2.1 fun a6 =>
stN [.int .u8 (IntKind.wrap .u8 (IntKind.wrap .i64 (48 + (Int.tmod z4.1 10))))] (a6.add (z4.2.1.toNat * 1)) 0 w5 fun w7 =>
nzK 10 (
self3 (IntKind.wrap .i64 (Int.tdiv z4.1 10), IntKind.wrap .i64 (z4.2.1 - 1), ()) w7))) (
bsK Tryd.prog (.slice y1.1 y1.2.1 y1.2.2) w5 fun s8 w9 =>
R ((s8, ()), ()) w9)) (n, IntKind.wrap .i64 (size - 1), ()) w2
set_option maxRecDepth 100000 in
theorem civil_digits.eq (n : Int) (size : Int) (w : World) (R : Value → World → Prop) : wpF Tryd.prog Tryd.f70 (.s .n (.s .n (.s (.s .n (.lp [(0, (.i .i64)), (6, (.i .i64))] .n)) .n))) [.int .i64 n, .int .i64 size] w R = civil_digits.wp n size w (fun r w => R (encR false [(false, [.s])] r) w) := by kernel_rfl
set_option maxRecDepth 100000 in
theorem civil_digits.ok {n : Int} {size : Int} {w : World} {R : TR [(false, [.s])] → World → Prop} (h : civil_digits.wp n size w R) : clS Tryd.prog F.civil_digits [.int .i64 n, .int .i64 size] w false [(false, [.s])] R :=
  ok_of Tryd_follows Tryd.func70 (fun R => civil_digits.wp n size w R) (civil_digits.eq n size w) rfl h
/-! ### ref20_two -/
set_option maxRecDepth 100000 in
def ref20_two.wp (n : Int) (size : Int) (w : World) (R : TR [(false, [.s])] → World → Prop) : Prop :=
LoopT (fun (self1 : ((Int) × (ByteArray) × (Int) × Unit) → World → Prop) (z2 : (Int) × (ByteArray) × (Int) × Unit) w3 => ∀ _ : Nat → Value,
brB (decide (z2.2.2.1 < size)) (
nzK 10 (
alK [.int .u8 (IntKind.wrap .u8 (IntKind.wrap .i64 (48 + (Int.tmod z2.1 10))))] T.uint8 w3 fun p4 w5 =>
bsK Tryd.prog (.slice (some p4) 1 1) w5 fun s6 w7 =>
saK s6 z2.2.1 (
nzK 10 (
self1 (IntKind.wrap .i64 (Int.tdiv z2.1 10), s6 ++ z2.2.1, IntKind.wrap .i64 (z2.2.2.1 + 1), ()) w7)))) (
R ((z2.2.1, ()), ()) w3)) (n, ⟨#[]⟩, 0, ()) w
set_option maxRecDepth 100000 in
theorem ref20_two.eq (n : Int) (size : Int) (w : World) (R : Value → World → Prop) : wpF Tryd.prog Tryd.f72 (.s .n (.s .n (.s (.s .n (.lp [(0, (.i .i64)), (5, .s), (6, (.i .i64))] .n)) .n))) [.int .i64 n, .int .i64 size] w R = ref20_two.wp n size w (fun r w => R (encR false [(false, [.s])] r) w) := by kernel_rfl
set_option maxRecDepth 100000 in
theorem ref20_two.ok {n : Int} {size : Int} {w : World} {R : TR [(false, [.s])] → World → Prop} (h : ref20_two.wp n size w R) : clS Tryd.prog F.ref20_two [.int .i64 n, .int .i64 size] w false [(false, [.s])] R :=
  ok_of Tryd_follows Tryd.func72 (fun R => ref20_two.wp n size w R) (ref20_two.eq n size w) rfl h
/-! ### civil_Parse -/
set_option maxRecDepth 100000 in
def civil_Parse.wp (s : ByteArray) (w : World) (R : TR [(true, [(.i .i64), (.i .i64), (.i .i64)]), (false, [.b])] → World → Prop) : Prop :=
alK [.int .i64 0, .int .i64 0, .int .i64 0] T.civil_Date w fun p1 w2 =>
alK [.int .i64 0, .int .i64 0, .int .i64 0] T.a3_int w2 fun p3 w4 =>
rgK s w4 fun it5 w6 =>
LoopT (fun (self7 : ((Int) × (Int) × Unit) → World → Prop) (z8 : (Int) × (Int) × Unit) w9 => ∀ _ : Nat → Value,
nxK it5 w9 (fun w10 =>
ixK (some p3) 3 0 fun a14 =>
ld1 (.i .i64) (a14.add ((0 : Int).toNat * 1)) w10 fun x15 =>
ixK (some p3) 3 1 fun a16 =>
ld1 (.i .i64) (a16.add ((1 : Int).toNat * 1)) w10 fun x17 =>
ixK (some p3) 3 2 fun a18 =>
ld1 (.i .i64) (a18.add ((2 : Int).toNat * 1)) w10 fun x19 =>
alK [.int .i64 0, .int .i64 0, .int .i64 0] T.civil_Date w10 fun p20 w21 =>
stN [.int .i64 x15, .int .i64 x17, .int .i64 x19] p20 0 w21 fun w22 =>
brB (z8.1 != 2) (
stN [.int .i64 0, .int .i64 0, .int .i64 0] p1 0 w22 fun w23 =>
ldN [(.i .i64), (.i .i64), (.i .i64)] p1 0 w23 fun x24 =>
R ((x24.1, x24.2.1, x24.2.2.1, ()), (false, ()), ()) w23) (
brB (z8.2.1 != 2) (
stN [.int .i64 0, .int .i64 0, .int .i64 0] p1 0 w22 fun w25 =>
ldN [(.i .i64), (.i .i64), (.i .i64)] p1 0 w25 fun x26 =>
R ((x26.1, x26.2.1, x26.2.2.1, ()), (false, ()), ()) w25) (
ldN [(.i .i64), (.i .i64), (.i .i64)] p20 0 w22 fun x27 =>
clS Tryd.prog F.civil_Date_Good [.agg #[.int .i64 x27.1, .int .i64 x27.2.1, .int .i64 x27.2.2.1]] w22 false [(false, [.b])] fun r28 w29 =>
brB (!r28.1.1) (
stN [.int .i64 0, .int .i64 0, .int .i64 0] p1 0 w29 fun w30 =>
ldN [(.i .i64), (.i .i64), (.i .i64)] p1 0 w30 fun x31 =>
R ((x31.1, x31.2.1, x31.2.2.1, ()), (false, ()), ()) w30) (
ldN [(.i .i64), (.i .i64), (.i .i64)] p20 0 w29 fun x32 =>
stN [.int .i64 x32.1, .int .i64 x32.2.1, .int .i64 x32.2.2.1] p1 0 w29 fun w33 =>
ldN [(.i .i64), (.i .i64), (.i .i64)] p1 0 w33 fun x34 =>
R ((x34.1, x34.2.1, x34.2.2.1, ()), (true, ()), ()) w33)))) fun i12 c13 w11 =>
CutT (fun (J35 : ((Bool) × Unit) → World → Prop) =>
brB (c13 == 45) (
brB (decide (z8.1 < 2)) (
J35 ((z8.2.1 == (IntKind.wrap .i64 (4 - (IntKind.wrap .i64 (2 * (if 1 < z8.1 then 1 else z8.1)))))), ()) w11) (
J35 (false, ()) w11)) (
J35 (false, ()) w11)) (fun (z36 : (Bool) × Unit) w37 => ∀ _ : Nat → Value,
brB z36.1 (
self7 (IntKind.wrap .i64 (z8.1 + 1), 0, ()) w37) (
CutT (fun (J38 : ((Bool) × Unit) → World → Prop) =>
brB (decide (c13 ≥ 48)) (
brB (decide (c13 ≤ 57)) (
J38 (decide (z8.2.1 < (IntKind.wrap .i64 (4 - (IntKind.wrap .i64 (2 * (if 1 < z8.1 then 1 else z8.1)))))), ()) w37) (
J38 (false, ()) w37)) (
J38 (false, ()) w37)) (fun (z39 : (Bool) × Unit) w40 => ∀ _ : Nat → Value,
brB z39.1 (
ixK (some p3) 3 z8.1 fun a41 =>
ld1 (.i .i64) (a41.add (z8.1.toNat * 1)) w40 fun x42 =>
ixK (some p3) 3 z8.1 fun a43 =>
stN [.int .i64 (IntKind.wrap .i64 ((IntKind.wrap .i64 (10 * x42)) + (IntKind.wrap .i64 (IntKind.wrap .i32 (c13 - 48)))))] (a43.add (z8.1.toNat * 1)) 0 w40 fun w44 =>
self7 (z8.1, IntKind.wrap .i64 (z8.2.1 + 1), ()) w44) (
stN [.int .i64 0, .int .i64 0, .int .i64 0] p1 0 w40 fun w45 =>
ldN [(.i .i64), (.i .i64), (.i .i64)] p1 0 w45 fun x46 =>
R ((x46.1, x46.2.1, x46.2.2.1, ()), (false, ()), ()) w45))))) (0, 0, ()) w6
set_option maxRecDepth 100000 in
theorem civil_Parse.eq (s : ByteArray) (w : World) (R : Value → World → Prop) : wpF Tryd.prog Tryd.f77 (.s .n (.s .n (.s .n (.s (.s .n (.lp [(5, (.i .i64)), (6, (.i .i64))] (.s .n (.s .n (.s .n (.ct [(16, .b)] .n (.s .n (.ct [(33, .b)] .n .n)))))))) .n)))) [.string s] w R = civil_Parse.wp s w (fun r w => R (encR true [(true, [(.i .i64), (.i .i64), (.i .i64)]), (false, [.b])] r) w) := by kernel_rfl
set_option maxRecDepth 100000 in
theorem civil_Parse.ok {s : ByteArray} {w : World} {R : TR [(true, [(.i .i64), (.i .i64), (.i .i64)]), (false, [.b])] → World → Prop} (h : civil_Parse.wp s w R) : clS Tryd.prog F.civil_Parse [.string s] w true [(true, [(.i .i64), (.i .i64), (.i .i64)]), (false, [.b])] R :=
  ok_of Tryd_follows Tryd.func77 (fun R => civil_Parse.wp s w R) (civil_Parse.eq s w) rfl h
/-! ### civil_Date_Number -/
set_option maxRecDepth 100000 in
def civil_Date_Number.wp (d0 : Int) (d1 : Int) (d2 : Int) (w : World) (R : TR [(false, [(.i .i64)]), (false, [.b])] → World → Prop) : Prop :=
alK [.int .i64 d0, .int .i64 d1, .int .i64 d2] T.civil_Date w fun p1 w2 =>
ldN [(.i .i64), (.i .i64), (.i .i64)] p1 0 w2 fun x3 =>
clS Tryd.prog F.civil_Date_Good [.agg #[.int .i64 x3.1, .int .i64 x3.2.1, .int .i64 x3.2.2.1]] w2 false [(false, [.b])] fun r4 w5 =>
brB (!r4.1.1) (
R ((0, ()), (false, ()), ()) w5) (
drK w5 fun w6 =>
ld1 (.i .i64) p1 w6 fun x7 =>
ld1 (.i .i64) (p1.add 2) w6 fun x8 =>
clS Tryd.prog F.civil_years [.int .i64 x7] w6 false [(false, [(.i .i64)])] fun r9 w10 =>
Hold [(5, (p1.add 2), (w6.cell? (p1.add 2)).getD undef)] w10 ∧ (
LoopT (fun (self11 : ((Int) × (Int) × Unit) → World → Prop) (z12 : (Int) × (Int) × Unit) w13 => ∀ _ : Nat → Value,
ld1 (.i .i64) (p1.add 1) w13 fun x14 =>
brB (decide (z12.2.1 < x14)) (
ld1 (.i .i64) p1 w13 fun x15 =>
clS Tryd.prog F.civil_month [.int .i64 x15, .int .i64 z12.2.1] w13 false [(false, [(.i .i64)])] fun r16 w17 =>
self11 (IntKind.wrap .i64 (z12.1 + r16.1.1), IntKind.wrap .i64 (z12.2.1 + 1), ()) w17) (
R ((z12.1, ()), (true, ()), ()) w13)) (IntKind.wrap .i64 ((IntKind.wrap .i64 ((IntKind.wrap .i64 ((Int.negSucc 719161) + r9.1.1)) + x8)) - 1), 1, ()) w10))
set_option maxRecDepth 100000 in
theorem civil_Date_Number.eq (d0 : Int) (d1 : Int) (d2 : Int) (w : World) (R : Value → World → Prop) : wpF Tryd.prog Tryd.f78 (.s .n (.s .n (.s (.pl (.tk 0 (.tk 1 (.tk 4 (.tk 5 (.ef 2 [1] (.tk 3 (.tk 6 (.tk 7 (.tk 8 .z)))))))))) (.s (.s .n (.lp [(4, (.i .i64)), (5, (.i .i64))] .n)) .n)))) [.agg #[.int .i64 d0, .int .i64 d1, .int .i64 d2]] w R = civil_Date_Number.wp d0 d1 d2 w (fun r w => R (encR true [(false, [(.i .i64)]), (false, [.b])] r) w) := by kernel_rfl
set_option maxRecDepth 100000 in
theorem civil_Date_Number.ok {d0 : Int} {d1 : Int} {d2 : Int} {w : World} {R : TR [(false, [(.i .i64)]), (false, [.b])] → World → Prop} (h : civil_Date_Number.wp d0 d1 d2 w R) : clS Tryd.prog F.civil_Date_Number [.agg #[.int .i64 d0, .int .i64 d1, .int .i64 d2]] w true [(false, [(.i .i64)]), (false, [.b])] R :=
  ok_of Tryd_follows Tryd.func78 (fun R => civil_Date_Number.wp d0 d1 d2 w R) (civil_Date_Number.eq d0 d1 d2 w) rfl h
/-! ### civil_leap -/
set_option maxRecDepth 100000 in
def civil_leap.wp (year : Int) (w : World) (R : TR [(false, [.b])] → World → Prop) : Prop :=
nzK 4 (
brB ((Int.tmod year 4) == 0) (
nzK 100 (
brB ((Int.tmod year 100) != 0) (
R ((true, ()), ()) w) (
nzK 400 (
R ((((Int.tmod year 400) == 0), ()), ()) w)))) (
R ((false, ()), ()) w))
set_option maxRecDepth 100000 in
theorem civil_leap.eq (year : Int) (w : World) (R : Value → World → Prop) : wpF Tryd.prog Tryd.f81 .n [.int .i64 year] w R = civil_leap.wp year w (fun r w => R (encR false [(false, [.b])] r) w) := by kernel_rfl
set_option maxRecDepth 100000 in
theorem civil_leap.ok {year : Int} {w : World} {R : TR [(false, [.b])] → World → Prop} (h : civil_leap.wp year w R) : clS Tryd.prog F.civil_leap [.int .i64 year] w false [(false, [.b])] R :=
  ok_of Tryd_follows Tryd.func81 (fun R => civil_leap.wp year w R) (civil_leap.eq year w) rfl h
end Go.Proofs.YtfbegkddkdenbaaDoor
