import Derived.Test.YtimdngcmbmamdaaNm
namespace Go.Proofs.Ytimdngcmbmamdaa
open Go.Eng
set_option linter.unusedVariables false
/-! ### ref21_Date -/
set_option maxRecDepth 100000 in
def ref21_Date.wp (day : Int) (w : World) (R : TR [(false, [.s])] → World → Prop) : Prop :=
alK [.int .i64 0, .int .i64 0, .int .i64 0] T.ref20_Date w fun p1 w2 =>
stN [.int .i64 1, .int .i64 1, .int .i64 1] p1 0 w2 fun w3 =>
LoopT (fun (self4 : ((Int) × Unit) → World → Prop) (z5 : (Int) × Unit) w6 => ∀ _ : Nat → Value,
brB (decide ((IntKind.wrap .i64 (z5.1 + 146097)) ≤ day)) (
ld1 (.i .i64) p1 w6 fun x7 =>
stN [.int .i64 (IntKind.wrap .i64 (x7 + 400))] p1 0 w6 fun w8 =>
self4 (IntKind.wrap .i64 (z5.1 + 146097), ()) w8) (
LoopT (fun (self9 : ((Int) × Unit) → World → Prop) (z10 : (Int) × Unit) w11 => ∀ _ : Nat → Value,
brB (decide ((IntKind.wrap .i64 (z10.1 + 366)) ≤ day)) (
ld1 (.i .i64) p1 w11 fun x12 =>
clS Try.prog F.ref20_Long [.int .i64 x12] w11 false [(false, [.b])] fun r13 w14 =>
brB r13.1.1 (
ld1 (.i .i64) p1 w14 fun x15 =>
stN [.int .i64 (IntKind.wrap .i64 (x15 + 1))] p1 0 w14 fun w16 =>
self9 (IntKind.wrap .i64 ((IntKind.wrap .i64 (z10.1 + 365)) + 1), ()) w16) (
ld1 (.i .i64) p1 w14 fun x17 =>
stN [.int .i64 (IntKind.wrap .i64 (x17 + 1))] p1 0 w14 fun w18 =>
self9 (IntKind.wrap .i64 (z10.1 + 365), ()) w18)) (
LoopT (fun (self19 : ((Int) × Unit) → World → Prop) (z20 : (Int) × Unit) w21 => ∀ _ : Nat → Value,
brB (decide (z20.1 < day)) (
ldN [(.i .i64), (.i .i64), (.i .i64)] p1 0 w21 fun x22 =>
clS Try.prog F.ref20_Next [.agg #[.int .i64 x22.1, .int .i64 x22.2.1, .int .i64 x22.2.2.1]] w21 false [(true, [(.i .i64), (.i .i64), (.i .i64)])] fun r23 w24 =>
stN [.int .i64 r23.1.1, .int .i64 r23.1.2.1, .int .i64 r23.1.2.2.1] p1 0 w24 fun w25 =>
self19 (IntKind.wrap .i64 (z20.1 + 1), ()) w25) (
ldN [(.i .i64), (.i .i64), (.i .i64)] p1 0 w21 fun x26 =>
clS Try.prog F.ref20_Text [.agg #[.int .i64 x26.1, .int .i64 x26.2.1, .int .i64 x26.2.2.1]] w21 false [(false, [.s])] fun r27 w28 =>
R ((r27.1.1, ()), ()) w28)) (z10.1, ()) w11)) (z5.1, ()) w6)) ((Int.negSucc 719161), ()) w3
set_option maxRecDepth 100000 in
theorem ref21_Date.eq (day : Int) (w : World) (R : Value → World → Prop) : wpF Try.prog Try.f82 (.s .n (.s .n (.s .n (.s (.lp [(4, (.i .i64))] .n) (.s (.lp [(4, (.i .i64))] .n) (.s (.lp [(4, (.i .i64))] .n) .n)))))) [.int .i64 day] w R = ref21_Date.wp day w (fun r w => R (encR false [(false, [.s])] r) w) := by kernel_rfl
set_option maxRecDepth 100000 in
theorem ref21_Date.ok {day : Int} {w : World} {R : TR [(false, [.s])] → World → Prop} (h : ref21_Date.wp day w R) : clS Try.prog F.ref21_Date [.int .i64 day] w false [(false, [.s])] R :=
  ok_of Try_follows Try.func82 (fun R => ref21_Date.wp day w R) (ref21_Date.eq day w) rfl h
/-! ### ref20_ahead -/
set_option maxRecDepth 100000 in
def ref20_ahead.wp (year : Int) (w : World) (R : TR [(false, [(.i .i64)])] → World → Prop) : Prop :=
LoopT (fun (self1 : ((Int) × (Int) × Unit) → World → Prop) (z2 : (Int) × (Int) × Unit) w3 => ∀ _ : Nat → Value,
brB (decide ((IntKind.wrap .i64 (z2.2.1 + 400)) ≤ year)) (
self1 (IntKind.wrap .i64 (z2.1 + 146097), IntKind.wrap .i64 (z2.2.1 + 400), ()) w3) (
LoopT (fun (self4 : ((Int) × (Int) × Unit) → World → Prop) (z5 : (Int) × (Int) × Unit) w6 => ∀ _ : Nat → Value,
brB (decide (z5.2.1 < year)) (
clS Try.prog F.ref20_Long [.int .i64 z5.2.1] w6 false [(false, [.b])] fun r7 w8 =>
brB r7.1.1 (
self4 (IntKind.wrap .i64 ((IntKind.wrap .i64 (z5.1 + 365)) + 1), IntKind.wrap .i64 (z5.2.1 + 1), ()) w8) (
self4 (IntKind.wrap .i64 (z5.1 + 365), IntKind.wrap .i64 (z5.2.1 + 1), ()) w8)) (
R ((z5.1, ()), ()) w6)) (z2.1, z2.2.1, ()) w3)) (0, 1, ()) w
set_option maxRecDepth 100000 in
theorem ref20_ahead.eq (year : Int) (w : World) (R : Value → World → Prop) : wpF Try.prog Try.f83 (.s .n (.s .n (.s .n (.s (.lp [(3, (.i .i64)), (4, (.i .i64))] .n) (.s (.lp [(3, (.i .i64)), (4, (.i .i64))] .n) .n))))) [.int .i64 year] w R = ref20_ahead.wp year w (fun r w => R (encR false [(false, [(.i .i64)])] r) w) := by kernel_rfl
set_option maxRecDepth 100000 in
theorem ref20_ahead.ok {year : Int} {w : World} {R : TR [(false, [(.i .i64)])] → World → Prop} (h : ref20_ahead.wp year w R) : clS Try.prog F.ref20_ahead [.int .i64 year] w false [(false, [(.i .i64)])] R :=
  ok_of Try_follows Try.func83 (fun R => ref20_ahead.wp year w R) (ref20_ahead.eq year w) rfl h
/-! ### ref20_Days -/
set_option maxRecDepth 100000 in
def ref20_Days.wp (year : Int) (month : Int) (w : World) (R : TR [(false, [(.i .i64)])] → World → Prop) : Prop :=
CutT (fun (J1 : ((Bool) × Unit) → World → Prop) =>
brB (month == 4) (
J1 ((month == 4), ()) w) (
brB (month == 6) (
J1 ((month == 6), ()) w) (
brB (month == 9) (
J1 ((month == 9), ()) w) (
J1 ((month == 11), ()) w)))) (fun (z2 : (Bool) × Unit) w3 => ∀ _ : Nat → Value,
brB z2.1 (
R ((30, ()), ()) w3) (
brB (month == 2) (
clS Try.prog F.ref20_Long [.int .i64 year] w3 false [(false, [.b])] fun r4 w5 =>
brB r4.1.1 (
R ((29, ()), ()) w5) (
R ((28, ()), ()) w5)) (
R ((31, ()), ()) w3)))
set_option maxRecDepth 100000 in
theorem ref20_Days.eq (year : Int) (month : Int) (w : World) (R : Value → World → Prop) : wpF Try.prog Try.f84 (.s .n (.s (.s .n (.ct [(6, .b)] .n .n)) .n)) [.int .i64 year, .int .i64 month] w R = ref20_Days.wp year month w (fun r w => R (encR false [(false, [(.i .i64)])] r) w) := by kernel_rfl
set_option maxRecDepth 100000 in
theorem ref20_Days.ok {year : Int} {month : Int} {w : World} {R : TR [(false, [(.i .i64)])] → World → Prop} (h : ref20_Days.wp year month w R) : clS Try.prog F.ref20_Days [.int .i64 year, .int .i64 month] w false [(false, [(.i .i64)])] R :=
  ok_of Try_follows Try.func84 (fun R => ref20_Days.wp year month w R) (ref20_Days.eq year month w) rfl h
/-! ### civil_digits -/
set_option maxRecDepth 100000 in
def civil_digits.wp (n : Int) (size : Int) (w : World) (R : TR [(false, [.s])] → World → Prop) : Prop :=
slOf ((Instr.makeSlice T.sl_uint8 (.int .i64 size) (.int .i64 size)).run Try.prog w) fun y1 w2 =>
LoopT (fun (self3 : ((Int) × (Int) × Unit) → World → Prop) (z4 : (Int) × (Int) × Unit) w5 => ∀ _ : Nat → Value,
brB (decide (z4.2.1 ≥ 0)) (
nzK 10 (
ixK y1.1 y1.2.1 z4.2.1 fun a6 =>
stN [.int .u8 (IntKind.wrap .u8 (IntKind.wrap .i64 (48 + (Int.tmod z4.1 10))))] (a6.add (z4.2.1.toNat * 1)) 0 w5 fun w7 =>
nzK 10 (
self3 (IntKind.wrap .i64 (Int.tdiv z4.1 10), IntKind.wrap .i64 (z4.2.1 - 1), ()) w7))) (
bsK Try.prog (.slice y1.1 y1.2.1 y1.2.2) w5 fun s8 w9 =>
R ((s8, ()), ()) w9)) (n, IntKind.wrap .i64 (size - 1), ()) w2
set_option maxRecDepth 100000 in
theorem civil_digits.eq (n : Int) (size : Int) (w : World) (R : Value → World → Prop) : wpF Try.prog Try.f85 (.s .n (.s .n (.s (.s .n (.lp [(0, (.i .i64)), (6, (.i .i64))] .n)) .n))) [.int .i64 n, .int .i64 size] w R = civil_digits.wp n size w (fun r w => R (encR false [(false, [.s])] r) w) := by kernel_rfl
set_option maxRecDepth 100000 in
theorem civil_digits.ok {n : Int} {size : Int} {w : World} {R : TR [(false, [.s])] → World → Prop} (h : civil_digits.wp n size w R) : clS Try.prog F.civil_digits [.int .i64 n, .int .i64 size] w false [(false, [.s])] R :=
  ok_of Try_follows Try.func85 (fun R => civil_digits.wp n size w R) (civil_digits.eq n size w) rfl h
/-! ### civil_leap -/
set_option maxRecDepth 100000 in
def civil_leap.wp (year : Int) (w : World) (R : TR [(false, [.b])] → World → Prop) : Prop :=
nzK 4 (
brB ((Int.tmod year 4) == 0) (
nzK 100 (
brB ((Int.tmod year 100) != 0) (
R ((true, ()), ()) w) (
nzK 400 (
R ((((Int.tmod year 400) == 0), ()), ()) w)))) (
R ((false, ()), ()) w))
set_option maxRecDepth 100000 in
theorem civil_leap.eq (year : Int) (w : World) (R : Value → World → Prop) : wpF Try.prog Try.f86 .n [.int .i64 year] w R = civil_leap.wp year w (fun r w => R (encR false [(false, [.b])] r) w) := by kernel_rfl
set_option maxRecDepth 100000 in
theorem civil_leap.ok {year : Int} {w : World} {R : TR [(false, [.b])] → World → Prop} (h : civil_leap.wp year w R) : clS Try.prog F.civil_leap [.int .i64 year] w false [(false, [.b])] R :=
  ok_of Try_follows Try.func86 (fun R => civil_leap.wp year w R) (civil_leap.eq year w) rfl h
/-! ### ref20_two -/
set_option maxRecDepth 100000 in
def ref20_two.wp (n : Int) (size : Int) (w : World) (R : TR [(false, [.s])] → World → Prop) : Prop :=
LoopT (fun (self1 : ((Int) × (ByteArray) × (Int) × Unit) → World → Prop) (z2 : (Int) × (ByteArray) × (Int) × Unit) w3 => ∀ _ : Nat → Value,
brB (decide (z2.2.2.1 < size)) (
nzK 10 (
alK [.int .u8 (IntKind.wrap .u8 (IntKind.wrap .i64 (48 + (Int.tmod z2.1 10))))] T.uint8 w3 fun p4 w5 =>
bsK Try.prog (.slice (some p4) 1 1) w5 fun s6 w7 =>
saK s6 z2.2.1 (
nzK 10 (
self1 (IntKind.wrap .i64 (Int.tdiv z2.1 10), s6 ++ z2.2.1, IntKind.wrap .i64 (z2.2.2.1 + 1), ()) w7)))) (
R ((z2.2.1, ()), ()) w3)) (n, ⟨#[]⟩, 0, ()) w
set_option maxRecDepth 100000 in
theorem ref20_two.eq (n : Int) (size : Int) (w : World) (R : Value → World → Prop) : wpF Try.prog Try.f87 (.s .n (.s .n (.s (.s .n (.lp [(0, (.i .i64)), (5, .s), (6, (.i .i64))] .n)) .n))) [.int .i64 n, .int .i64 size] w R = ref20_two.wp n size w (fun r w => R (encR false [(false, [.s])] r) w) := by kernel_rfl
set_option maxRecDepth 100000 in
theorem ref20_two.ok {n : Int} {size : Int} {w : World} {R : TR [(false, [.s])] → World → Prop} (h : ref20_two.wp n size w R) : clS Try.prog F.ref20_two [.int .i64 n, .int .i64 size] w false [(false, [.s])] R :=
  ok_of Try_follows Try.func87 (fun R => ref20_two.wp n size w R) (ref20_two.eq n size w) rfl h
/-! ### ref20_number -/
set_option maxRecDepth 100000 in
def ref20_number.wp (s : ByteArray) (w : World) (R : TR [(false, [(.i .i64)])] → World → Prop) : Prop :=
LoopT (fun (self1 : ((Int) × (Int) × Unit) → World → Prop) (z2 : (Int) × (Int) × Unit) w3 => ∀ _ : Nat → Value,
brB (decide (z2.2.1 < (s.size : Int))) (
siK s z2.2.1 fun c4 =>
brB (decide (c4 < 48)) (
R (((Int.negSucc 0), ()), ()) w3) (
siK s z2.2.1 fun c5 =>
brB (decide (c5 > 57)) (
R (((Int.negSucc 0), ()), ()) w3) (
siK s z2.2.1 fun c6 =>
self1 (IntKind.wrap .i64 ((IntKind.wrap .i64 (10 * z2.1)) + (IntKind.wrap .i64 (IntKind.wrap .u8 (c6 - 48)))), IntKind.wrap .i64 (z2.2.1 + 1), ()) w3))) (
R ((z2.1, ()), ()) w3)) (0, 0, ()) w
set_option maxRecDepth 100000 in
theorem ref20_number.eq (s : ByteArray) (w : World) (R : Value → World → Prop) : wpF Try.prog Try.f88 (.s .n (.s .n (.s (.s .n (.lp [(3, (.i .i64)), (4, (.i .i64))] .n)) .n))) [.string s] w R = ref20_number.wp s w (fun r w => R (encR false [(false, [(.i .i64)])] r) w) := by kernel_rfl
set_option maxRecDepth 100000 in
theorem ref20_number.ok {s : ByteArray} {w : World} {R : TR [(false, [(.i .i64)])] → World → Prop} (h : ref20_number.wp s w R) : clS Try.prog F.ref20_number [.string s] w false [(false, [(.i .i64)])] R :=
  ok_of Try_follows Try.func88 (fun R => ref20_number.wp s w R) (ref20_number.eq s w) rfl h
/-! ### frame_kind_of_frame_Anchor -/
set_option maxRecDepth 100000 in
def frame_kind_of_frame_Anchor.wp (f0 : Int) (f1 : Int) (f2 : Int) (f3 : Int) (f4 : Int) (f5 : Int) (w : World) (R : TR [(false, [(.i .u8)])] → World → Prop) : Prop :=
R ((6, ()), ()) w
set_option maxRecDepth 100000 in
theorem frame_kind_of_frame_Anchor.eq (f0 : Int) (f1 : Int) (f2 : Int) (f3 : Int) (f4 : Int) (f5 : Int) (w : World) (R : Value → World → Prop) : wpF Try.prog Try.f89 .n [.iface T.frame_Anchor (.agg #[.int .i64 f0, .int .u16 f1, .int .i64 f2, .int .u16 f3, .int .i64 f4, .int .i64 f5])] w R = frame_kind_of_frame_Anchor.wp f0 f1 f2 f3 f4 f5 w (fun r w => R (encR false [(false, [(.i .u8)])] r) w) := by kernel_rfl
set_option maxRecDepth 100000 in
theorem frame_kind_of_frame_Anchor.ok {f0 : Int} {f1 : Int} {f2 : Int} {f3 : Int} {f4 : Int} {f5 : Int} {w : World} {R : TR [(false, [(.i .u8)])] → World → Prop} (h : frame_kind_of_frame_Anchor.wp f0 f1 f2 f3 f4 f5 w R) : clS Try.prog F.frame_kind [.iface T.frame_Anchor (.agg #[.int .i64 f0, .int .u16 f1, .int .i64 f2, .int .u16 f3, .int .i64 f4, .int .i64 f5])] w false [(false, [(.i .u8)])] R :=
  ok_of Try_follows Try.func89 (fun R => frame_kind_of_frame_Anchor.wp f0 f1 f2 f3 f4 f5 w R) (frame_kind_of_frame_Anchor.eq f0 f1 f2 f3 f4 f5 w) rfl h
/-! ### bits_Mul64 -/
set_option maxRecDepth 100000 in
def bits_Mul64.wp (x : Int) (y : Int) (w : World) (R : TR [(false, [(.i .u64)]), (false, [(.i .u64)])] → World → Prop) : Prop :=
shK 32 (
shK 32 (
shK 32 (
shK 32 (
shK 32 (
R ((IntKind.wrap .u64 ((IntKind.wrap .u64 ((IntKind.wrap .u64 ((shrX .u64 x 32) * (shrX .u64 y 32))) + (shrX .u64 (IntKind.wrap .u64 ((IntKind.wrap .u64 ((shrX .u64 x 32) * (bitsX .and .u64 y 4294967295))) + (shrX .u64 (IntKind.wrap .u64 ((bitsX .and .u64 x 4294967295) * (bitsX .and .u64 y 4294967295))) 32))) 32))) + (shrX .u64 (IntKind.wrap .u64 ((bitsX .and .u64 (IntKind.wrap .u64 ((IntKind.wrap .u64 ((shrX .u64 x 32) * (bitsX .and .u64 y 4294967295))) + (shrX .u64 (IntKind.wrap .u64 ((bitsX .and .u64 x 4294967295) * (bitsX .and .u64 y 4294967295))) 32))) 4294967295) + (IntKind.wrap .u64 ((bitsX .and .u64 x 4294967295) * (shrX .u64 y 32))))) 32)), ()), (IntKind.wrap .u64 (x * y), ()), ()) w)))))
set_option maxRecDepth 100000 in
theorem bits_Mul64.eq (x : Int) (y : Int) (w : World) (R : Value → World → Prop) : wpF Try.prog Try.f90 .n [.int .u64 x, .int .u64 y] w R = bits_Mul64.wp x y w (fun r w => R (encR true [(false, [(.i .u64)]), (false, [(.i .u64)])] r) w) := by kernel_rfl
set_option maxRecDepth 100000 in
theorem bits_Mul64.ok {x : Int} {y : Int} {w : World} {R : TR [(false, [(.i .u64)]), (false, [(.i .u64)])] → World → Prop} (h : bits_Mul64.wp x y w R) : clS Try.prog F.bits_Mul64 [.int .u64 x, .int .u64 y] w true [(false, [(.i .u64)]), (false, [(.i .u64)])] R :=
  ok_of Try_follows Try.func90 (fun R => bits_Mul64.wp x y w R) (bits_Mul64.eq x y w) rfl h
/-! ### fix_Size -/
set_option maxRecDepth 100000 in
def fix_Size.wp (n : Int) (w : World) (R : TR [(false, [(.i .u64)])] → World → Prop) : Prop :=
brB (decide (n < 0)) (
R ((IntKind.wrap .u64 (0 - (IntKind.wrap .u64 n)), ()), ()) w) (
R ((IntKind.wrap .u64 n, ()), ()) w)
set_option maxRecDepth 100000 in
theorem fix_Size.eq (n : Int) (w : World) (R : Value → World → Prop) : wpF Try.prog Try.f91 .n [.int .i64 n] w R = fix_Size.wp n w (fun r w => R (encR false [(false, [(.i .u64)])] r) w) := by kernel_rfl
set_option maxRecDepth 100000 in
theorem fix_Size.ok {n : Int} {w : World} {R : TR [(false, [(.i .u64)])] → World → Prop} (h : fix_Size.wp n w R) : clS Try.prog F.fix_Size [.int .i64 n] w false [(false, [(.i .u64)])] R :=
  ok_of Try_follows Try.func91 (fun R => fix_Size.wp n w R) (fix_Size.eq n w) rfl h
/-! ### bits_Div64 -/
set_option maxRecDepth 100000 in
def bits_Div64.wp (hi : Int) (lo : Int) (y : Int) (w : World) (R : TR [(false, [(.i .u64)]), (false, [(.i .u64)])] → World → Prop) : Prop :=
brB (y == 0) (
ld1 .any ⟨0, 0, none⟩ w fun x1 =>
False) (
brB (decide (y ≤ hi)) (
ld1 .any ⟨1, 0, none⟩ w fun x2 =>
False) (
brB (hi == 0) (
drK w fun w3 =>
nzK y (
nzK y (
R ((IntKind.wrap .u64 (Int.tdiv lo y), ()), (Int.tmod lo y, ()), ()) w3))) (
clS Try.prog F.bits_LeadingZeros64 [.int .u64 y] w false [(false, [(.i .i64)])] fun r4 w5 =>
shK (IntKind.wrap .u64 r4.1.1) (
shK 32 (
shK (IntKind.wrap .u64 r4.1.1) (
shK (IntKind.wrap .u64 (64 - (IntKind.wrap .u64 r4.1.1))) (
shK (IntKind.wrap .u64 r4.1.1) (
shK 32 (
nzK (shrX .u64 (shlX .u64 y (IntKind.wrap .u64 r4.1.1)) 32) (
CutT (fun (J6 : ((Int) × Unit) → World → Prop) =>
LoopT (fun (self9 : ((Int) × (Int) × Unit) → World → Prop) (z10 : (Int) × (Int) × Unit) w11 => ∀ _ : Nat → Value,
CutT (fun (J12 : Unit → World → Prop) =>
brB (decide (z10.1 ≥ 4294967296)) (
J12 (()) w11) (
brB (decide ((IntKind.wrap .u64 (z10.1 * (bitsX .and .u64 (shlX .u64 y (IntKind.wrap .u64 r4.1.1)) 4294967295))) > (IntKind.wrap .u64 ((IntKind.wrap .u64 (4294967296 * z10.2.1)) + (shrX .u64 (shlX .u64 lo (IntKind.wrap .u64 r4.1.1)) 32))))) (
J12 (()) w11) (
J6 (z10.1, ()) w11))) (fun (z13 : Unit) w14 => ∀ _ : Nat → Value,
brB (decide ((IntKind.wrap .u64 (z10.2.1 + (shrX .u64 (shlX .u64 y (IntKind.wrap .u64 r4.1.1)) 32))) ≥ 4294967296)) (
J6 (IntKind.wrap .u64 (z10.1 - 1), ()) w14) (
self9 (IntKind.wrap .u64 (z10.1 - 1), IntKind.wrap .u64 (z10.2.1 + (shrX .u64 (shlX .u64 y (IntKind.wrap .u64 r4.1.1)) 32)), ()) w14))) (IntKind.wrap .u64 (Int.tdiv (bitsX .or .u64 (shlX .u64 hi (IntKind.wrap .u64 r4.1.1)) (shrX .u64 lo (IntKind.wrap .u64 (64 - (IntKind.wrap .u64 r4.1.1))))) (shrX .u64 (shlX .u64 y (IntKind.wrap .u64 r4.1.1)) 32)), IntKind.wrap .u64 ((bitsX .or .u64 (shlX .u64 hi (IntKind.wrap .u64 r4.1.1)) (shrX .u64 lo (IntKind.wrap .u64 (64 - (IntKind.wrap .u64 r4.1.1))))) - (IntKind.wrap .u64 ((IntKind.wrap .u64 (Int.tdiv (bitsX .or .u64 (shlX .u64 hi (IntKind.wrap .u64 r4.1.1)) (shrX .u64 lo (IntKind.wrap .u64 (64 - (IntKind.wrap .u64 r4.1.1))))) (shrX .u64 (shlX .u64 y (IntKind.wrap .u64 r4.1.1)) 32))) * (shrX .u64 (shlX .u64 y (IntKind.wrap .u64 r4.1.1)) 32)))), ()) w5) (fun (z7 : (Int) × Unit) w8 => ∀ _ : Nat → Value,
nzK (shrX .u64 (shlX .u64 y (IntKind.wrap .u64 r4.1.1)) 32) (
CutT (fun (J15 : ((Int) × Unit) → World → Prop) =>
LoopT (fun (self18 : ((Int) × (Int) × Unit) → World → Prop) (z19 : (Int) × (Int) × Unit) w20 => ∀ _ : Nat → Value,
CutT (fun (J21 : Unit → World → Prop) =>
brB (decide (z19.2.1 ≥ 4294967296)) (
J21 (()) w20) (
brB (decide ((IntKind.wrap .u64 (z19.2.1 * (bitsX .and .u64 (shlX .u64 y (IntKind.wrap .u64 r4.1.1)) 4294967295))) > (IntKind.wrap .u64 ((IntKind.wrap .u64 (4294967296 * z19.1)) + (bitsX .and .u64 (shlX .u64 lo (IntKind.wrap .u64 r4.1.1)) 4294967295))))) (
J21 (()) w20) (
J15 (z19.2.1, ()) w20))) (fun (z22 : Unit) w23 => ∀ _ : Nat → Value,
brB (decide ((IntKind.wrap .u64 (z19.1 + (shrX .u64 (shlX .u64 y (IntKind.wrap .u64 r4.1.1)) 32))) ≥ 4294967296)) (
J15 (IntKind.wrap .u64 (z19.2.1 - 1), ()) w23) (
self18 (IntKind.wrap .u64 (z19.1 + (shrX .u64 (shlX .u64 y (IntKind.wrap .u64 r4.1.1)) 32)), IntKind.wrap .u64 (z19.2.1 - 1), ()) w23))) (IntKind.wrap .u64 ((IntKind.wrap .u64 ((IntKind.wrap .u64 ((IntKind.wrap .u64 ((bitsX .or .u64 (shlX .u64 hi (IntKind.wrap .u64 r4.1.1)) (shrX .u64 lo (IntKind.wrap .u64 (64 - (IntKind.wrap .u64 r4.1.1))))) * 4294967296)) + (shrX .u64 (shlX .u64 lo (IntKind.wrap .u64 r4.1.1)) 32))) - (IntKind.wrap .u64 (z7.1 * (shlX .u64 y (IntKind.wrap .u64 r4.1.1)))))) - (IntKind.wrap .u64 ((IntKind.wrap .u64 (Int.tdiv (IntKind.wrap .u64 ((IntKind.wrap .u64 ((IntKind.wrap .u64 ((bitsX .or .u64 (shlX .u64 hi (IntKind.wrap .u64 r4.1.1)) (shrX .u64 lo (IntKind.wrap .u64 (64 - (IntKind.wrap .u64 r4.1.1))))) * 4294967296)) + (shrX .u64 (shlX .u64 lo (IntKind.wrap .u64 r4.1.1)) 32))) - (IntKind.wrap .u64 (z7.1 * (shlX .u64 y (IntKind.wrap .u64 r4.1.1)))))) (shrX .u64 (shlX .u64 y (IntKind.wrap .u64 r4.1.1)) 32))) * (shrX .u64 (shlX .u64 y (IntKind.wrap .u64 r4.1.1)) 32)))), IntKind.wrap .u64 (Int.tdiv (IntKind.wrap .u64 ((IntKind.wrap .u64 ((IntKind.wrap .u64 ((bitsX .or .u64 (shlX .u64 hi (IntKind.wrap .u64 r4.1.1)) (shrX .u64 lo (IntKind.wrap .u64 (64 - (IntKind.wrap .u64 r4.1.1))))) * 4294967296)) + (shrX .u64 (shlX .u64 lo (IntKind.wrap .u64 r4.1.1)) 32))) - (IntKind.wrap .u64 (z7.1 * (shlX .u64 y (IntKind.wrap .u64 r4.1.1)))))) (shrX .u64 (shlX .u64 y (IntKind.wrap .u64 r4.1.1)) 32)), ()) w8) (fun (z16 : (Int) × Unit) w17 => ∀ _ : Nat → Value,
shK (IntKind.wrap .u64 r4.1.1) (
R ((IntKind.wrap .u64 ((IntKind.wrap .u64 (z7.1 * 4294967296)) + z16.1), ()), (shrX .u64 (IntKind.wrap .u64 ((IntKind.wrap .u64 ((IntKind.wrap .u64 ((IntKind.wrap .u64 ((IntKind.wrap .u64 ((IntKind.wrap .u64 ((bitsX .or .u64 (shlX .u64 hi (IntKind.wrap .u64 r4.1.1)) (shrX .u64 lo (IntKind.wrap .u64 (64 - (IntKind.wrap .u64 r4.1.1))))) * 4294967296)) + (shrX .u64 (shlX .u64 lo (IntKind.wrap .u64 r4.1.1)) 32))) - (IntKind.wrap .u64 (z7.1 * (shlX .u64 y (IntKind.wrap .u64 r4.1.1)))))) * 4294967296)) + (bitsX .and .u64 (shlX .u64 lo (IntKind.wrap .u64 r4.1.1)) 4294967295))) - (IntKind.wrap .u64 (z16.1 * (shlX .u64 y (IntKind.wrap .u64 r4.1.1)))))) (IntKind.wrap .u64 r4.1.1), ()), ()) w17))))))))))))))
set_option maxRecDepth 100000 in
theorem bits_Div64.eq (hi : Int) (lo : Int) (y : Int) (w : World) (R : Value → World → Prop) : wpF Try.prog Try.f92 (.s .n (.s .n (.s .n (.s (.s .n (.s (.s (.pl (.tk 0 (.tk 1 (.tk 2 (.tk 3 (.tk 4 (.tk 5 (.tk 6 (.tk 7 .z))))))))) .n) .n)) (.s .n (.s .n (.s .n (.s .n (.s .n (.s .n (.s .n (.s .n (.s .n (.s .n (.ct [(15, (.i .u64))] (.lp [(15, (.i .u64)), (16, (.i .u64))] (.ct [] .n .n)) (.s .n (.s .n (.s .n (.ct [(18, (.i .u64))] (.lp [(16, (.i .u64)), (18, (.i .u64))] (.ct [] .n .n)) .n))))))))))))))))))) [.int .u64 hi, .int .u64 lo, .int .u64 y] w R = bits_Div64.wp hi lo y w (fun r w => R (encR true [(false, [(.i .u64)]), (false, [(.i .u64)])] r) w) := by kernel_rfl
set_option maxRecDepth 100000 in
theorem bits_Div64.ok {hi : Int} {lo : Int} {y : Int} {w : World} {R : TR [(false, [(.i .u64)]), (false, [(.i .u64)])] → World → Prop} (h : bits_Div64.wp hi lo y w R) : clS Try.prog F.bits_Div64 [.int .u64 hi, .int .u64 lo, .int .u64 y] w true [(false, [(.i .u64)]), (false, [(.i .u64)])] R :=
  ok_of Try_follows Try.func92 (fun R => bits_Div64.wp hi lo y w R) (bits_Div64.eq hi lo y w) rfl h
/-! ### fix_Add -/
set_option maxRecDepth 100000 in
def fix_Add.wp (a : Int) (b : Int) (w : World) (R : TR [(false, [(.i .i64)]), (false, [.b])] → World → Prop) : Prop :=
brB (!((decide ((IntKind.wrap .i64 (a + b)) > a)) == (decide (b > 0)))) (
brB (b != 0) (
R ((0, ()), (false, ()), ()) w) (
R ((IntKind.wrap .i64 (a + b), ()), (true, ()), ()) w)) (
R ((IntKind.wrap .i64 (a + b), ()), (true, ()), ()) w)
set_option maxRecDepth 100000 in
theorem fix_Add.eq (a : Int) (b : Int) (w : World) (R : Value → World → Prop) : wpF Try.prog Try.f93 .n [.int .i64 a, .int .i64 b] w R = fix_Add.wp a b w (fun r w => R (encR true [(false, [(.i .i64)]), (false, [.b])] r) w) := by kernel_rfl
set_option maxRecDepth 100000 in
theorem fix_Add.ok {a : Int} {b : Int} {w : World} {R : TR [(false, [(.i .i64)]), (false, [.b])] → World → Prop} (h : fix_Add.wp a b w R) : clS Try.prog F.fix_Add [.int .i64 a, .int .i64 b] w true [(false, [(.i .i64)]), (false, [.b])] R :=
  ok_of Try_follows Try.func93 (fun R => fix_Add.wp a b w R) (fix_Add.eq a b w) rfl h
/-! ### ref01_Floor -/
set_option maxRecDepth 100000 in
def ref01_Floor.wp (a : Int) (b : Int) (w : World) (R : TR [(false, [(.i .i64)]), (false, [(.i .i64)])] → World → Prop) : Prop :=
nzK b (
CutT (fun (J1 : ((Bool) × Unit) → World → Prop) =>
nzK b (
brB ((Int.tmod a b) != 0) (
J1 (decide (a < 0), ()) w) (
J1 (false, ()) w))) (fun (z2 : (Bool) × Unit) w3 => ∀ _ : Nat → Value,
brB z2.1 (
drK w3 fun w4 =>
nzK b (
R ((IntKind.wrap .i64 ((IntKind.wrap .i64 (Int.tdiv a b)) - 1), ()), (IntKind.wrap .i64 ((Int.tmod a b) + b), ()), ()) w4)) (
drK w3 fun w5 =>
nzK b (
R ((IntKind.wrap .i64 (Int.tdiv a b), ()), (Int.tmod a b, ()), ()) w5))))
set_option maxRecDepth 100000 in
theorem ref01_Floor.eq (a : Int) (b : Int) (w : World) (R : Value → World → Prop) : wpF Try.prog Try.f94 (.s .n (.s .n (.s (.ct [(17, .b)] .n (.s (.s (.pl (.tk 0 (.tk 1 (.tk 2 (.tk 3 (.tk 4 (.tk 5 (.tk 6 (.tk 7 (.tk 8 .z)))))))))) .n) .n)) (.s (.pl (.tk 0 (.tk 1 (.tk 2 (.tk 3 (.tk 4 (.tk 5 .z))))))) .n)))) [.int .i64 a, .int .i64 b] w R = ref01_Floor.wp a b w (fun r w => R (encR true [(false, [(.i .i64)]), (false, [(.i .i64)])] r) w) := by kernel_rfl
set_option maxRecDepth 100000 in
theorem ref01_Floor.ok {a : Int} {b : Int} {w : World} {R : TR [(false, [(.i .i64)]), (false, [(.i .i64)])] → World → Prop} (h : ref01_Floor.wp a b w R) : clS Try.prog F.ref01_Floor [.int .i64 a, .int .i64 b] w true [(false, [(.i .i64)]), (false, [(.i .i64)])] R :=
  ok_of Try_follows Try.func94 (fun R => ref01_Floor.wp a b w R) (ref01_Floor.eq a b w) rfl h
/-! ### slices_IndexFunc_leap_Leap_leap_Leap_of_leap_Make_1 -/
set_option maxRecDepth 100000 in
def slices_IndexFunc_leap_Leap_leap_Leap_of_leap_Make_1.wp (s : Option Addr × Nat × Nat) (w : World) (R : TR [(false, [(.i .i64)])] → World → Prop) : Prop :=
LoopT (fun (self1 : ((Int) × Unit) → World → Prop) (z2 : (Int) × Unit) w3 => ∀ _ : Nat → Value,
brB (decide (z2.1 < (s.2.1 : Int))) (
ixK s.1 s.2.1 z2.1 fun a4 =>
ldN [(.i .i64), (.i .i64)] (a4.add (z2.1.toNat * 2)) 0 w3 fun x5 =>
clS Try.prog F.leap_Make_1 [.agg #[.int .i64 x5.1, .int .i64 x5.2.1]] w3 false [(false, [.b])] fun r6 w7 =>
brB r6.1.1 (
R ((z2.1, ()), ()) w7) (
self1 (IntKind.wrap .i64 (z2.1 + 1), ()) w7)) (
R (((Int.negSucc 0), ()), ()) w3)) (0, ()) w
set_option maxRecDepth 100000 in
theorem slices_IndexFunc_leap_Leap_leap_Leap_of_leap_Make_1.eq (s : Option Addr × Nat × Nat) (w : World) (R : Value → World → Prop) : wpF Try.prog Try.f95 (.s .n (.s (.s .n (.lp [(8, (.i .i64))] .n)) .n)) [.slice s.1 s.2.1 s.2.2, .func (.func F.leap_Make_1) #[] #[]] w R = slices_IndexFunc_leap_Leap_leap_Leap_of_leap_Make_1.wp s w (fun r w => R (encR false [(false, [(.i .i64)])] r) w) := by kernel_rfl
set_option maxRecDepth 100000 in
theorem slices_IndexFunc_leap_Leap_leap_Leap_of_leap_Make_1.ok {s : Option Addr × Nat × Nat} {w : World} {R : TR [(false, [(.i .i64)])] → World → Prop} (h : slices_IndexFunc_leap_Leap_leap_Leap_of_leap_Make_1.wp s w R) : clS Try.prog F.slices_IndexFunc_leap_Leap_leap_Leap [.slice s.1 s.2.1 s.2.2, .func (.func F.leap_Make_1) #[] #[]] w false [(false, [(.i .i64)])] R :=
  ok_of Try_follows Try.func95 (fun R => slices_IndexFunc_leap_Leap_leap_Leap_of_leap_Make_1.wp s w R) (slices_IndexFunc_leap_Leap_leap_Leap_of_leap_Make_1.eq s w) rfl h
/-! ### leap_Table_All -/
set_option maxRecDepth 100000 in
def leap_Table_All.wp (t : Option Addr) (w : World) (R : TR [(false, [.any])] → World → Prop) : Prop :=
brB (Option.isNone t) (
R ((.func (.func F.leap_Table_All_1) #[] #[], ()), ()) w) (
ncK t fun a1 =>
ld1 .sl (a1.add 3) w fun x2 =>
clS Try.prog F.slices_Values_leap_Leap_leap_Leap [.slice x2.1 x2.2.1 x2.2.2] w false [(false, [.any])] fun r3 w4 =>
R ((r3.1.1, ()), ()) w4)
set_option maxRecDepth 100000 in
theorem leap_Table_All.eq (t : Option Addr) (w : World) (R : Value → World → Prop) : wpF Try.prog Try.f96 .n [.pointer t] w R = leap_Table_All.wp t w (fun r w => R (encR false [(false, [.any])] r) w) := by kernel_rfl
set_option maxRecDepth 100000 in
theorem leap_Table_All.ok {t : Option Addr} {w : World} {R : TR [(false, [.any])] → World → Prop} (h : leap_Table_All.wp t w R) : clS Try.prog F.leap_Table_All [.pointer t] w false [(false, [.any])] R :=
  ok_of Try_follows Try.func96 (fun R => leap_Table_All.wp t w R) (leap_Table_All.eq t w) rfl h
/-! ### ref20_Long -/
set_option maxRecDepth 100000 in
def ref20_Long.wp (year : Int) (w : World) (R : TR [(false, [.b])] → World → Prop) : Prop :=
nzK 400 (
brB ((Int.tmod year 400) == 0) (
R ((true, ()), ()) w) (
nzK 4 (
brB ((Int.tmod year 4) == 0) (
nzK 100 (
R ((((Int.tmod year 100) != 0), ()), ()) w)) (
R ((false, ()), ()) w))))
set_option maxRecDepth 100000 in
theorem ref20_Long.eq (year : Int) (w : World) (R : Value → World → Prop) : wpF Try.prog Try.f97 .n [.int .i64 year] w R = ref20_Long.wp year w (fun r w => R (encR false [(false, [.b])] r) w) := by kernel_rfl
set_option maxRecDepth 100000 in
theorem ref20_Long.ok {year : Int} {w : World} {R : TR [(false, [.b])] → World → Prop} (h : ref20_Long.wp year w R) : clS Try.prog F.ref20_Long [.int .i64 year] w false [(false, [.b])] R :=
  ok_of Try_follows Try.func97 (fun R => ref20_Long.wp year w R) (ref20_Long.eq year w) rfl h
/-! ### ref20_Next -/
set_option maxRecDepth 100000 in
def ref20_Next.wp (d0 : Int) (d1 : Int) (d2 : Int) (w : World) (R : TR [(true, [(.i .i64), (.i .i64), (.i .i64)])] → World → Prop) : Prop :=
alK [.int .i64 d0, .int .i64 d1, .int .i64 d2] T.ref20_Date w fun p1 w2 =>
alK [.int .i64 0, .int .i64 0, .int .i64 0] T.ref20_Date w2 fun p3 w4 =>
ld1 (.i .i64) (p1.add 2) w4 fun x5 =>
stN [.int .i64 (IntKind.wrap .i64 (x5 + 1))] (p1.add 2) 0 w4 fun w6 =>
CutT (fun (J7 : Unit → World → Prop) =>
drK w6 fun w10 =>
ld1 (.i .i64) (p1.add 2) w10 fun x11 =>
ld1 (.i .i64) p1 w10 fun x12 =>
ld1 (.i .i64) (p1.add 1) w10 fun x13 =>
clS Try.prog F.ref20_Days [.int .i64 x12, .int .i64 x13] w10 false [(false, [(.i .i64)])] fun r14 w15 =>
Hold [(1, (p1.add 2), (w10.cell? (p1.add 2)).getD undef)] w15 ∧ (
brB (decide (x11 > r14.1.1)) (
stN [.int .i64 1] (p1.add 2) 0 w15 fun w16 =>
ld1 (.i .i64) (p1.add 1) w16 fun x17 =>
stN [.int .i64 (IntKind.wrap .i64 (x17 + 1))] (p1.add 1) 0 w16 fun w18 =>
J7 (()) w18) (
J7 (()) w15))) (fun (z8 : Unit) w9 => ∀ _ : Nat → Value,
ld1 (.i .i64) (p1.add 1) w9 fun x19 =>
brB (decide (x19 > 12)) (
stN [.int .i64 1] (p1.add 1) 0 w9 fun w20 =>
ld1 (.i .i64) p1 w20 fun x21 =>
stN [.int .i64 (IntKind.wrap .i64 (x21 + 1))] p1 0 w20 fun w22 =>
ldN [(.i .i64), (.i .i64), (.i .i64)] p1 0 w22 fun x23 =>
stN [.int .i64 x23.1, .int .i64 x23.2.1, .int .i64 x23.2.2.1] p3 0 w22 fun w24 =>
ldN [(.i .i64), (.i .i64), (.i .i64)] p3 0 w24 fun x25 =>
R ((x25.1, x25.2.1, x25.2.2.1, ()), ()) w24) (
ldN [(.i .i64), (.i .i64), (.i .i64)] p1 0 w9 fun x26 =>
stN [.int .i64 x26.1, .int .i64 x26.2.1, .int .i64 x26.2.2.1] p3 0 w9 fun w27 =>
ldN [(.i .i64), (.i .i64), (.i .i64)] p3 0 w27 fun x28 =>
R ((x28.1, x28.2.1, x28.2.2.1, ()), ()) w27))
set_option maxRecDepth 100000 in
theorem ref20_Next.eq (d0 : Int) (d1 : Int) (d2 : Int) (w : World) (R : Value → World → Prop) : wpF Try.prog Try.f98 (.s .n (.s .n (.ct [] (.s (.pl (.tk 0 (.tk 1 (.tk 2 (.tk 3 (.tk 4 (.tk 5 (.ef 6 [3, 5] (.tk 7 .z))))))))) .n) .n))) [.agg #[.int .i64 d0, .int .i64 d1, .int .i64 d2]] w R = ref20_Next.wp d0 d1 d2 w (fun r w => R (encR false [(true, [(.i .i64), (.i .i64), (.i .i64)])] r) w) := by kernel_rfl
set_option maxRecDepth 100000 in
theorem ref20_Next.ok {d0 : Int} {d1 : Int} {d2 : Int} {w : World} {R : TR [(true, [(.i .i64), (.i .i64), (.i .i64)])] → World → Prop} (h : ref20_Next.wp d0 d1 d2 w R) : clS Try.prog F.ref20_Next [.agg #[.int .i64 d0, .int .i64 d1, .int .i64 d2]] w false [(true, [(.i .i64), (.i .i64), (.i .i64)])] R :=
  ok_of Try_follows Try.func98 (fun R => ref20_Next.wp d0 d1 d2 w R) (ref20_Next.eq d0 d1 d2 w) rfl h
/-! ### bits_LeadingZeros64 -/
set_option maxRecDepth 100000 in
def bits_LeadingZeros64.wp (x : Int) (w : World) (R : TR [(false, [(.i .i64)])] → World → Prop) : Prop :=
clS Try.prog F.bits_Len64 [.int .u64 x] w false [(false, [(.i .i64)])] fun r1 w2 =>
R ((IntKind.wrap .i64 (64 - r1.1.1), ()), ()) w2
set_option maxRecDepth 100000 in
theorem bits_LeadingZeros64.eq (x : Int) (w : World) (R : Value → World → Prop) : wpF Try.prog Try.f99 .n [.int .u64 x] w R = bits_LeadingZeros64.wp x w (fun r w => R (encR false [(false, [(.i .i64)])] r) w) := by kernel_rfl
set_option maxRecDepth 100000 in
theorem bits_LeadingZeros64.ok {x : Int} {w : World} {R : TR [(false, [(.i .i64)])] → World → Prop} (h : bits_LeadingZeros64.wp x w R) : clS Try.prog F.bits_LeadingZeros64 [.int .u64 x] w false [(false, [(.i .i64)])] R :=
  ok_of Try_follows Try.func99 (fun R => bits_LeadingZeros64.wp x w R) (bits_LeadingZeros64.eq x w) rfl h
/-! ### leap_Table_All_1 -/
set_option maxRecDepth 100000 in
def leap_Table_All_1.wp (p0 : Value) (w : World) (R : TR [] → World → Prop) : Prop :=
R (()) w
set_option maxRecDepth 100000 in
theorem leap_Table_All_1.eq (p0 : Value) (w : World) (R : Value → World → Prop) : wpF Try.prog Try.f100 .n [p0] w R = leap_Table_All_1.wp p0 w (fun r w => R (encR true [] r) w) := by kernel_rfl
set_option maxRecDepth 100000 in
theorem leap_Table_All_1.ok {p0 : Value} {w : World} {R : TR [] → World → Prop} (h : leap_Table_All_1.wp p0 w R) : clS Try.prog F.leap_Table_All_1 [p0] w true [] R :=
  ok_of Try_follows Try.func100 (fun R => leap_Table_All_1.wp p0 w R) (leap_Table_All_1.eq p0 w) rfl h
/-! ### slices_Values_leap_Leap_leap_Leap -/
set_option maxRecDepth 100000 in
def slices_Values_leap_Leap_leap_Leap.wp (s : Option Addr × Nat × Nat) (w : World) (R : TR [(false, [.any])] → World → Prop) : Prop :=
alK [.slice s.1 s.2.1 s.2.2] T.sl_leap_Leap w fun p1 w2 =>
R ((.func (.func F.slices_Values_leap_Leap_leap_Leap_1) #[] #[.pointer (some p1)], ()), ()) w2
set_option maxRecDepth 100000 in
theorem slices_Values_leap_Leap_leap_Leap.eq (s : Option Addr × Nat × Nat) (w : World) (R : Value → World → Prop) : wpF Try.prog Try.f101 .n [.slice s.1 s.2.1 s.2.2] w R = slices_Values_leap_Leap_leap_Leap.wp s w (fun r w => R (encR false [(false, [.any])] r) w) := by kernel_rfl
set_option maxRecDepth 100000 in
theorem slices_Values_leap_Leap_leap_Leap.ok {s : Option Addr × Nat × Nat} {w : World} {R : TR [(false, [.any])] → World → Prop} (h : slices_Values_leap_Leap_leap_Leap.wp s w R) : clS Try.prog F.slices_Values_leap_Leap_leap_Leap [.slice s.1 s.2.1 s.2.2] w false [(false, [.any])] R :=
  ok_of Try_follows Try.func101 (fun R => slices_Values_leap_Leap_leap_Leap.wp s w R) (slices_Values_leap_Leap_leap_Leap.eq s w) rfl h
/-! ### bits_Len64 -/
set_option maxRecDepth 100000 in
def bits_Len64.wp (x : Int) (w : World) (R : TR [(false, [(.i .i64)])] → World → Prop) : Prop :=
CutT (fun (J1 : ((Int) × (Int) × Unit) → World → Prop) =>
brB (decide (x ≥ 4294967296)) (
shK 32 (
J1 (shrX .u64 x 32, 32, ()) w)) (
J1 (x, 0, ()) w)) (fun (z2 : (Int) × (Int) × Unit) w3 => ∀ _ : Nat → Value,
CutT (fun (J4 : ((Int) × (Int) × Unit) → World → Prop) =>
brB (decide (z2.1 ≥ 65536)) (
shK 16 (
J4 (shrX .u64 z2.1 16, IntKind.wrap .i64 (z2.2.1 + 16), ()) w3)) (
J4 (z2.1, z2.2.1, ()) w3)) (fun (z5 : (Int) × (Int) × Unit) w6 => ∀ _ : Nat → Value,
CutT (fun (J7 : ((Int) × (Int) × Unit) → World → Prop) =>
brB (decide (z5.1 ≥ 256)) (
shK 8 (
J7 (shrX .u64 z5.1 8, IntKind.wrap .i64 (z5.2.1 + 8), ()) w6)) (
J7 (z5.1, z5.2.1, ()) w6)) (fun (z8 : (Int) × (Int) × Unit) w9 => ∀ _ : Nat → Value,
siK ⟨#[0, 1, 2, 2, 3, 3, 3, 3, 4, 4, 4, 4, 4, 4, 4, 4, 5, 5, 5, 5, 5, 5, 5, 5, 5, 5, 5, 5, 5, 5, 5, 5, 6, 6, 6, 6, 6, 6, 6, 6, 6, 6, 6, 6, 6, 6, 6, 6, 6, 6, 6, 6, 6, 6, 6, 6, 6, 6, 6, 6, 6, 6, 6, 6, 7, 7, 7, 7, 7, 7, 7, 7, 7, 7, 7, 7, 7, 7, 7, 7, 7, 7, 7, 7, 7, 7, 7, 7, 7, 7, 7, 7, 7, 7, 7, 7, 7, 7, 7, 7, 7, 7, 7, 7, 7, 7, 7, 7, 7, 7, 7, 7, 7, 7, 7, 7, 7, 7, 7, 7, 7, 7, 7, 7, 7, 7, 7, 7, 8, 8, 8, 8, 8, 8, 8, 8, 8, 8, 8, 8, 8, 8, 8, 8, 8, 8, 8, 8, 8, 8, 8, 8, 8, 8, 8, 8, 8, 8, 8, 8, 8, 8, 8, 8, 8, 8, 8, 8, 8, 8, 8, 8, 8, 8, 8, 8, 8, 8, 8, 8, 8, 8, 8, 8, 8, 8, 8, 8, 8, 8, 8, 8, 8, 8, 8, 8, 8, 8, 8, 8, 8, 8, 8, 8, 8, 8, 8, 8, 8, 8, 8, 8, 8, 8, 8, 8, 8, 8, 8, 8, 8, 8, 8, 8, 8, 8, 8, 8, 8, 8, 8, 8, 8, 8, 8, 8, 8, 8, 8, 8, 8, 8, 8, 8, 8, 8, 8, 8, 8, 8, 8, 8, 8, 8, 8, 8]⟩ (IntKind.wrap .u8 z8.1) fun c10 =>
R ((IntKind.wrap .i64 (z8.2.1 + (IntKind.wrap .i64 c10)), ()), ()) w9)))
set_option maxRecDepth 100000 in
theorem bits_Len64.eq (x : Int) (w : World) (R : Value → World → Prop) : wpF Try.prog Try.f102 (.s .n (.ct [(0, (.i .u64)), (2, (.i .i64))] .n (.ct [(0, (.i .u64)), (2, (.i .i64))] .n (.ct [(0, (.i .u64)), (2, (.i .i64))] .n .n)))) [.int .u64 x] w R = bits_Len64.wp x w (fun r w => R (encR false [(false, [(.i .i64)])] r) w) := by kernel_rfl
set_option maxRecDepth 100000 in
theorem bits_Len64.ok {x : Int} {w : World} {R : TR [(false, [(.i .i64)])] → World → Prop} (h : bits_Len64.wp x w R) : clS Try.prog F.bits_Len64 [.int .u64 x] w false [(false, [(.i .i64)])] R :=
  ok_of Try_follows Try.func102 (fun R => bits_Len64.wp x w R) (bits_Len64.eq x w) rfl h
/-! ### slices_Values_leap_Leap_leap_Leap_1 -/
set_option maxRecDepth 100000 in
def slices_Values_leap_Leap_leap_Leap_1.wp (yield : Nat) (c_cap0 : Addr) (w : World) (R : TR [] → World → Prop) : Prop :=
ld1 .sl c_cap0 w fun x1 =>
LoopT (fun (self2 : ((Int) × Unit) → World → Prop) (z3 : (Int) × Unit) w4 => ∀ _ : Nat → Value,
brB (decide (z3.1 < (x1.2.1 : Int))) (
ixK x1.1 x1.2.1 z3.1 fun a5 =>
ldN [(.i .i64), (.i .i64)] (a5.add (z3.1.toNat * 2)) 0 w4 fun x6 =>
alK [.int .i64 0, .int .i64 0] T.leap_Leap w4 fun p7 w8 =>
stN [.int .i64 x6.1, .int .i64 x6.2.1] p7 0 w8 fun w9 =>
ldN [(.i .i64), (.i .i64)] p7 0 w9 fun x10 =>
yiS Try.prog yield [.agg #[.int .i64 x10.1, .int .i64 x10.2.1]] w9 fun b11 w12 =>
brB (!b11) (
R (()) w12) (
self2 (IntKind.wrap .i64 (z3.1 + 1), ()) w12)) (
R (()) w4)) (0, ()) w
set_option maxRecDepth 100000 in
theorem slices_Values_leap_Leap_leap_Leap_1.eq (yield : Nat) (c_cap0 : Addr) (w : World) (R : Value → World → Prop) : wpF Try.prog Try.f103 (.s .n (.lp [(7, (.i .i64))] .n)) [.func (.yield yield) #[] #[], .pointer (some c_cap0)] w R = slices_Values_leap_Leap_leap_Leap_1.wp yield c_cap0 w (fun r w => R (encR true [] r) w) := by kernel_rfl
set_option maxRecDepth 100000 in
theorem slices_Values_leap_Leap_leap_Leap_1.ok {yield : Nat} {c_cap0 : Addr} {w : World} {R : TR [] → World → Prop} (h : slices_Values_leap_Leap_leap_Leap_1.wp yield c_cap0 w R) : clS Try.prog F.slices_Values_leap_Leap_leap_Leap_1 [.func (.yield yield) #[] #[], .pointer (some c_cap0)] w true [] R :=
  ok_of Try_follows Try.func103 (fun R => slices_Values_leap_Leap_leap_Leap_1.wp yield c_cap0 w R) (slices_Values_leap_Leap_leap_Leap_1.eq yield c_cap0 w) rfl h
end Go.Proofs.Ytimdngcmbmamdaa
