import Derived.Test.YtimdngcmbmamdaaNm
namespace Go.Proofs.Ytimdngcmbmamdaa
open Go.Eng
set_option linter.unusedVariables false
/-! ### ref05_Fields -/
set_option maxRecDepth 100000 in
def ref05_Fields.wp (p0 : Int) (p1 : Int) (p2 : Int) (p3 : Int) (p4 : Int) (p5 : Int) (p6 : Int) (p7 : Int) (p8 : Int) (p9 : Int) (p10 : Int) (p11 : Int) (p12 : Int) (p13 : Int) (w : World) (R : TR [(false, [.sl])] → World → Prop) : Prop :=
alK [.int .i64 p0, .int .i64 p1, .int .i64 p2, .int .i64 p3, .int .u16 p4, .int .u16 p5, .int .i64 p6, .int .i64 p7, .int .i64 p8, .int .i64 p9, .int .i64 p10, .int .i64 p11, .int .i64 p12, .int .i64 p13] T.ref05_Plain w fun p1 w2 =>
ld1 (.i .i64) (p1.add 1) w2 fun x3 =>
alK [.int .i64 0, .int .i64 0, .int .i64 0] T.ref05_Field w2 fun p4 w5 =>
stN [.int .i64 1, .int .i64 x3, .int .i64 63] p4 0 w5 fun w6 =>
ld1 (.i .i64) p1 w6 fun x7 =>
brB (x7 == 1) (
ldN [(.i .i64), (.i .i64), (.i .i64)] p4 0 w6 fun x8 =>
ld1 (.i .i64) (p1.add 3) w6 fun x9 =>
ld1 (.i .u16) (p1.add 4) w6 fun x10 =>
ld1 (.i .u16) (p1.add 5) w6 fun x11 =>
ld1 (.i .i64) (p1.add 6) w6 fun x12 =>
ld1 (.i .i64) (p1.add 7) w6 fun x13 =>
alK [.int .i64 x8.1, .int .i64 x8.2.1, .int .i64 x8.2.2.1, .int .i64 1, .int .i64 x9, .int .i64 63, .int .i64 2, .int .i64 (IntKind.wrap .i64 x10), .int .i64 65535, .int .i64 2, .int .i64 (IntKind.wrap .i64 x11), .int .i64 65535, .int .i64 1, .int .i64 x12, .int .i64 63, .int .i64 8, .int .i64 x13, .int .i64 1125899906842624] T.ref05_Field w6 fun p14 w15 =>
R (((some p14, 6, 6), ()), ()) w15) (
brB (x7 == 2) (
ldN [(.i .i64), (.i .i64), (.i .i64)] p4 0 w6 fun x16 =>
ld1 (.i .i64) (p1.add 8) w6 fun x17 =>
alK [.int .i64 x16.1, .int .i64 x16.2.1, .int .i64 x16.2.2.1, .int .i64 1, .int .i64 x17, .int .i64 63] T.ref05_Field w6 fun p18 w19 =>
R (((some p18, 2, 2), ()), ()) w19) (
brB (x7 == 3) (
ldN [(.i .i64), (.i .i64), (.i .i64)] p4 0 w6 fun x20 =>
alK [.int .i64 x20.1, .int .i64 x20.2.1, .int .i64 x20.2.2.1] T.ref05_Field w6 fun p21 w22 =>
R (((some p21, 1, 1), ()), ()) w22) (
brB (x7 == 4) (
ldN [(.i .i64), (.i .i64), (.i .i64)] p4 0 w6 fun x23 =>
ld1 (.i .i64) (p1.add 2) w6 fun x24 =>
ld1 (.i .i64) (p1.add 9) w6 fun x25 =>
alK [.int .i64 x23.1, .int .i64 x23.2.1, .int .i64 x23.2.2.1, .int .i64 1, .int .i64 x24, .int .i64 63, .int .i64 8, .int .i64 x25, .int .i64 1125899906842624] T.ref05_Field w6 fun p26 w27 =>
R (((some p26, 3, 3), ()), ()) w27) (
brB (x7 == 5) (
ldN [(.i .i64), (.i .i64), (.i .i64)] p4 0 w6 fun x28 =>
ld1 (.i .i64) (p1.add 2) w6 fun x29 =>
ld1 (.i .i64) (p1.add 9) w6 fun x30 =>
ld1 (.i .i64) (p1.add 10) w6 fun x31 =>
ld1 (.i .i64) (p1.add 11) w6 fun x32 =>
ld1 (.i .i64) (p1.add 3) w6 fun x33 =>
ld1 (.i .u16) (p1.add 4) w6 fun x34 =>
ld1 (.i .i64) (p1.add 6) w6 fun x35 =>
alK [.int .i64 x28.1, .int .i64 x28.2.1, .int .i64 x28.2.2.1, .int .i64 1, .int .i64 x29, .int .i64 63, .int .i64 8, .int .i64 x30, .int .i64 1125899906842624, .int .i64 8, .int .i64 x31, .int .i64 1125899906842624, .int .i64 8, .int .i64 x32, .int .i64 1125899906842624, .int .i64 1, .int .i64 x33, .int .i64 63, .int .i64 2, .int .i64 (IntKind.wrap .i64 x34), .int .i64 65535, .int .i64 1, .int .i64 x35, .int .i64 63] T.ref05_Field w6 fun p36 w37 =>
R (((some p36, 8, 8), ()), ()) w37) (
brB (x7 == 6) (
ldN [(.i .i64), (.i .i64), (.i .i64)] p4 0 w6 fun x38 =>
ld1 (.i .u16) (p1.add 5) w6 fun x39 =>
ld1 (.i .i64) (p1.add 3) w6 fun x40 =>
ld1 (.i .u16) (p1.add 4) w6 fun x41 =>
ld1 (.i .i64) (p1.add 12) w6 fun x42 =>
ld1 (.i .i64) (p1.add 13) w6 fun x43 =>
alK [.int .i64 x38.1, .int .i64 x38.2.1, .int .i64 x38.2.2.1, .int .i64 2, .int .i64 (IntKind.wrap .i64 x39), .int .i64 65535, .int .i64 1, .int .i64 x40, .int .i64 63, .int .i64 2, .int .i64 (IntKind.wrap .i64 x41), .int .i64 65535, .int .i64 8, .int .i64 x42, .int .i64 1125899906842624, .int .i64 8, .int .i64 x43, .int .i64 1125899906842624] T.ref05_Field w6 fun p44 w45 =>
R (((some p44, 6, 6), ()), ()) w45) (
R (((none, 0, 0), ()), ()) w6))))))
set_option maxRecDepth 100000 in
theorem ref05_Fields.eq (p0 : Int) (p1 : Int) (p2 : Int) (p3 : Int) (p4 : Int) (p5 : Int) (p6 : Int) (p7 : Int) (p8 : Int) (p9 : Int) (p10 : Int) (p11 : Int) (p12 : Int) (p13 : Int) (w : World) (R : Value → World → Prop) : wpF Try.prog Try.f64 .n [.agg #[.int .i64 p0, .int .i64 p1, .int .i64 p2, .int .i64 p3, .int .u16 p4, .int .u16 p5, .int .i64 p6, .int .i64 p7, .int .i64 p8, .int .i64 p9, .int .i64 p10, .int .i64 p11, .int .i64 p12, .int .i64 p13]] w R = ref05_Fields.wp p0 p1 p2 p3 p4 p5 p6 p7 p8 p9 p10 p11 p12 p13 w (fun r w => R (encR false [(false, [.sl])] r) w) := by kernel_rfl
set_option maxRecDepth 100000 in
theorem ref05_Fields.ok {p0 : Int} {p1 : Int} {p2 : Int} {p3 : Int} {p4 : Int} {p5 : Int} {p6 : Int} {p7 : Int} {p8 : Int} {p9 : Int} {p10 : Int} {p11 : Int} {p12 : Int} {p13 : Int} {w : World} {R : TR [(false, [.sl])] → World → Prop} (h : ref05_Fields.wp p0 p1 p2 p3 p4 p5 p6 p7 p8 p9 p10 p11 p12 p13 w R) : clS Try.prog F.ref05_Fields [.agg #[.int .i64 p0, .int .i64 p1, .int .i64 p2, .int .i64 p3, .int .u16 p4, .int .u16 p5, .int .i64 p6, .int .i64 p7, .int .i64 p8, .int .i64 p9, .int .i64 p10, .int .i64 p11, .int .i64 p12, .int .i64 p13]] w false [(false, [.sl])] R :=
  ok_of Try_follows Try.func64 (fun R => ref05_Fields.wp p0 p1 p2 p3 p4 p5 p6 p7 p8 p9 p10 p11 p12 p13 w R) (ref05_Fields.eq p0 p1 p2 p3 p4 p5 p6 p7 p8 p9 p10 p11 p12 p13 w) rfl h
/-! ### frame_Good_of_frame_Anchor -/
set_option maxRecDepth 100000 in
def frame_Good_of_frame_Anchor.wp (f0 : Int) (f1 : Int) (f2 : Int) (f3 : Int) (f4 : Int) (f5 : Int) (w : World) (R : TR [(false, [.b])] → World → Prop) : Prop :=
clS Try.prog F.frame_kind [.iface T.frame_Anchor (.agg #[.int .i64 f0, .int .u16 f1, .int .i64 f2, .int .u16 f3, .int .i64 f4, .int .i64 f5])] w false [(false, [(.i .u8)])] fun r1 w2 =>
brB (r1.1.1 == 0) (
R ((false, ()), ()) w2) (
clS Try.prog F.frame_Anchor_fields [.agg #[.int .i64 f0, .int .u16 f1, .int .i64 f2, .int .u16 f3, .int .i64 f4, .int .i64 f5]] w2 false [(false, [.sl])] fun r3 w4 =>
LoopT (fun (self5 : ((Int) × Unit) → World → Prop) (z6 : (Int) × Unit) w7 => ∀ _ : Nat → Value,
brB (decide (z6.1 < (r3.1.1.2.1 : Int))) (
ixK r3.1.1.1 r3.1.1.2.1 z6.1 fun a8 =>
ldN [(.i .i64), (.i .i64), (.i .i64)] (a8.add (z6.1.toNat * 3)) 0 w7 fun x9 =>
alK [.int .i64 0, .int .i64 0, .int .i64 0] T.frame_field w7 fun p10 w11 =>
stN [.int .i64 x9.1, .int .i64 x9.2.1, .int .i64 x9.2.2.1] p10 0 w11 fun w12 =>
ld1 (.i .i64) (p10.add 1) w12 fun x13 =>
brB (decide (x13 < 0)) (
R ((false, ()), ()) w12) (
ld1 (.i .i64) (p10.add 1) w12 fun x14 =>
ld1 (.i .i64) (p10.add 2) w12 fun x15 =>
brB (decide (x14 > x15)) (
R ((false, ()), ()) w12) (
self5 (IntKind.wrap .i64 (z6.1 + 1), ()) w12))) (
R ((true, ()), ()) w7)) (0, ()) w4)
set_option maxRecDepth 100000 in
theorem frame_Good_of_frame_Anchor.eq (f0 : Int) (f1 : Int) (f2 : Int) (f3 : Int) (f4 : Int) (f5 : Int) (w : World) (R : Value → World → Prop) : wpF Try.prog Try.f65 (.s .n (.s .n (.s (.s .n (.lp [(11, (.i .i64))] .n)) .n))) [.iface T.frame_Anchor (.agg #[.int .i64 f0, .int .u16 f1, .int .i64 f2, .int .u16 f3, .int .i64 f4, .int .i64 f5])] w R = frame_Good_of_frame_Anchor.wp f0 f1 f2 f3 f4 f5 w (fun r w => R (encR false [(false, [.b])] r) w) := by kernel_rfl
set_option maxRecDepth 100000 in
theorem frame_Good_of_frame_Anchor.ok {f0 : Int} {f1 : Int} {f2 : Int} {f3 : Int} {f4 : Int} {f5 : Int} {w : World} {R : TR [(false, [.b])] → World → Prop} (h : frame_Good_of_frame_Anchor.wp f0 f1 f2 f3 f4 f5 w R) : clS Try.prog F.frame_Good [.iface T.frame_Anchor (.agg #[.int .i64 f0, .int .u16 f1, .int .i64 f2, .int .u16 f3, .int .i64 f4, .int .i64 f5])] w false [(false, [.b])] R :=
  ok_of Try_follows Try.func65 (fun R => frame_Good_of_frame_Anchor.wp f0 f1 f2 f3 f4 f5 w R) (frame_Good_of_frame_Anchor.eq f0 f1 f2 f3 f4 f5 w) rfl h
/-! ### wrap_Newer -/
set_option maxRecDepth 100000 in
def wrap_Newer.wp (a : Int) (b : Int) (w : World) (R : TR [(false, [.b])] → World → Prop) : Prop :=
R ((decide ((IntKind.wrap .i16 (IntKind.wrap .u16 (a - b))) > 0), ()), ()) w
set_option maxRecDepth 100000 in
theorem wrap_Newer.eq (a : Int) (b : Int) (w : World) (R : Value → World → Prop) : wpF Try.prog Try.f66 .n [.int .u16 a, .int .u16 b] w R = wrap_Newer.wp a b w (fun r w => R (encR false [(false, [.b])] r) w) := by kernel_rfl
set_option maxRecDepth 100000 in
theorem wrap_Newer.ok {a : Int} {b : Int} {w : World} {R : TR [(false, [.b])] → World → Prop} (h : wrap_Newer.wp a b w R) : clS Try.prog F.wrap_Newer [.int .u16 a, .int .u16 b] w false [(false, [.b])] R :=
  ok_of Try_follows Try.func66 (fun R => wrap_Newer.wp a b w R) (wrap_Newer.eq a b w) rfl h
/-! ### fix_MulDiv -/
set_option maxRecDepth 100000 in
def fix_MulDiv.wp (a : Int) (b : Int) (c : Int) (w : World) (R : TR [(false, [(.i .i64)]), (false, [.b])] → World → Prop) : Prop :=
brB (decide (c < 1)) (
R ((0, ()), (false, ()), ()) w) (
clS Try.prog F.fix_Size [.int .i64 a] w false [(false, [(.i .u64)])] fun r1 w2 =>
clS Try.prog F.fix_Size [.int .i64 b] w2 false [(false, [(.i .u64)])] fun r3 w4 =>
clS Try.prog F.bits_Mul64 [.int .u64 r1.1.1, .int .u64 r3.1.1] w4 true [(false, [(.i .u64)]), (false, [(.i .u64)])] fun r5 w6 =>
brB (decide (r5.1.1 ≥ (IntKind.wrap .u64 c))) (
R ((0, ()), (false, ()), ()) w6) (
clS Try.prog F.bits_Div64 [.int .u64 r5.1.1, .int .u64 r5.2.1.1, .int .u64 (IntKind.wrap .u64 c)] w6 true [(false, [(.i .u64)]), (false, [(.i .u64)])] fun r7 w8 =>
brB ((decide (a < 0)) == (decide (b < 0))) (
brB (decide (r7.1.1 > 9223372036854775807)) (
R ((0, ()), (false, ()), ()) w8) (
R ((IntKind.wrap .i64 r7.1.1, ()), (true, ()), ()) w8)) (
CutT (fun (J9 : ((Int) × Unit) → World → Prop) =>
brB (decide (r7.2.1.1 > 0)) (
brB ((IntKind.wrap .u64 (r7.1.1 + 1)) == 0) (
R ((0, ()), (false, ()), ()) w8) (
J9 (IntKind.wrap .u64 (r7.1.1 + 1), ()) w8)) (
J9 (r7.1.1, ()) w8)) (fun (z10 : (Int) × Unit) w11 => ∀ _ : Nat → Value,
brB (decide (z10.1 > 9223372036854775808)) (
R ((0, ()), (false, ()), ()) w11) (
R ((IntKind.wrap .i64 (IntKind.wrap .u64 (0 - z10.1)), ()), (true, ()), ()) w11)))))
set_option maxRecDepth 100000 in
theorem fix_MulDiv.eq (a : Int) (b : Int) (c : Int) (w : World) (R : Value → World → Prop) : wpF Try.prog Try.f67 (.s .n (.s .n (.s .n (.s .n (.s .n (.s .n (.ct [(10, (.i .u64))] .n .n))))))) [.int .i64 a, .int .i64 b, .int .i64 c] w R = fix_MulDiv.wp a b c w (fun r w => R (encR true [(false, [(.i .i64)]), (false, [.b])] r) w) := by kernel_rfl
set_option maxRecDepth 100000 in
theorem fix_MulDiv.ok {a : Int} {b : Int} {c : Int} {w : World} {R : TR [(false, [(.i .i64)]), (false, [.b])] → World → Prop} (h : fix_MulDiv.wp a b c w R) : clS Try.prog F.fix_MulDiv [.int .i64 a, .int .i64 b, .int .i64 c] w true [(false, [(.i .i64)]), (false, [.b])] R :=
  ok_of Try_follows Try.func67 (fun R => fix_MulDiv.wp a b c w R) (fix_MulDiv.eq a b c w) rfl h
/-! ### fix_Sat -/
set_option maxRecDepth 100000 in
def fix_Sat.wp (a : Int) (b : Int) (w : World) (R : TR [(false, [(.i .i64)])] → World → Prop) : Prop :=
clS Try.prog F.fix_Add [.int .i64 a, .int .i64 b] w true [(false, [(.i .i64)]), (false, [.b])] fun r1 w2 =>
brB r1.2.1.1 (
R ((r1.1.1, ()), ()) w2) (
brB (decide (b > 0)) (
R ((9223372036854775807, ()), ()) w2) (
R (((Int.negSucc 9223372036854775807), ()), ()) w2))
set_option maxRecDepth 100000 in
theorem fix_Sat.eq (a : Int) (b : Int) (w : World) (R : Value → World → Prop) : wpF Try.prog Try.f68 .n [.int .i64 a, .int .i64 b] w R = fix_Sat.wp a b w (fun r w => R (encR false [(false, [(.i .i64)])] r) w) := by kernel_rfl
set_option maxRecDepth 100000 in
theorem fix_Sat.ok {a : Int} {b : Int} {w : World} {R : TR [(false, [(.i .i64)])] → World → Prop} (h : fix_Sat.wp a b w R) : clS Try.prog F.fix_Sat [.int .i64 a, .int .i64 b] w false [(false, [(.i .i64)])] R :=
  ok_of Try_follows Try.func68 (fun R => fix_Sat.wp a b w R) (fix_Sat.eq a b w) rfl h
/-! ### wrap_Next -/
set_option maxRecDepth 100000 in
def wrap_Next.wp (a : Int) (w : World) (R : TR [(false, [(.i .u16)])] → World → Prop) : Prop :=
R ((IntKind.wrap .u16 (a + 1), ()), ()) w
set_option maxRecDepth 100000 in
theorem wrap_Next.eq (a : Int) (w : World) (R : Value → World → Prop) : wpF Try.prog Try.f69 .n [.int .u16 a] w R = wrap_Next.wp a w (fun r w => R (encR false [(false, [(.i .u16)])] r) w) := by kernel_rfl
set_option maxRecDepth 100000 in
theorem wrap_Next.ok {a : Int} {w : World} {R : TR [(false, [(.i .u16)])] → World → Prop} (h : wrap_Next.wp a w R) : clS Try.prog F.wrap_Next [.int .u16 a] w false [(false, [(.i .u16)])] R :=
  ok_of Try_follows Try.func69 (fun R => wrap_Next.wp a w R) (wrap_Next.eq a w) rfl h
/-! ### ref02_Newer -/
set_option maxRecDepth 100000 in
def ref02_Newer.wp (a : Int) (b : Int) (w : World) (R : TR [(false, [.b])] → World → Prop) : Prop :=
nzK 65536 (
brB (decide ((Int.tmod (IntKind.wrap .i64 ((IntKind.wrap .i64 ((IntKind.wrap .i64 a) + 65536)) - (IntKind.wrap .i64 b))) 65536) ≥ 1)) (
R ((decide ((Int.tmod (IntKind.wrap .i64 ((IntKind.wrap .i64 ((IntKind.wrap .i64 a) + 65536)) - (IntKind.wrap .i64 b))) 65536) ≤ 32767), ()), ()) w) (
R ((false, ()), ()) w))
set_option maxRecDepth 100000 in
theorem ref02_Newer.eq (a : Int) (b : Int) (w : World) (R : Value → World → Prop) : wpF Try.prog Try.f70 .n [.int .u16 a, .int .u16 b] w R = ref02_Newer.wp a b w (fun r w => R (encR false [(false, [.b])] r) w) := by kernel_rfl
set_option maxRecDepth 100000 in
theorem ref02_Newer.ok {a : Int} {b : Int} {w : World} {R : TR [(false, [.b])] → World → Prop} (h : ref02_Newer.wp a b w R) : clS Try.prog F.ref02_Newer [.int .u16 a, .int .u16 b] w false [(false, [.b])] R :=
  ok_of Try_follows Try.func70 (fun R => ref02_Newer.wp a b w R) (ref02_Newer.eq a b w) rfl h
/-! ### ref05_Only -/
set_option maxRecDepth 100000 in
def ref05_Only.wp (p0 : Int) (p1 : Int) (p2 : Int) (p3 : Int) (p4 : Int) (p5 : Int) (p6 : Int) (p7 : Int) (p8 : Int) (p9 : Int) (p10 : Int) (p11 : Int) (p12 : Int) (p13 : Int) (w : World) (R : TR [(true, [(.i .i64), (.i .i64), (.i .i64), (.i .i64), (.i .u16), (.i .u16), (.i .i64), (.i .i64), (.i .i64), (.i .i64), (.i .i64), (.i .i64), (.i .i64), (.i .i64)])] → World → Prop) : Prop :=
alK [.int .i64 p0, .int .i64 p1, .int .i64 p2, .int .i64 p3, .int .u16 p4, .int .u16 p5, .int .i64 p6, .int .i64 p7, .int .i64 p8, .int .i64 p9, .int .i64 p10, .int .i64 p11, .int .i64 p12, .int .i64 p13] T.ref05_Plain w fun p1 w2 =>
alK [.int .i64 0, .int .i64 0, .int .i64 0, .int .i64 0, .int .u16 0, .int .u16 0, .int .i64 0, .int .i64 0, .int .i64 0, .int .i64 0, .int .i64 0, .int .i64 0, .int .i64 0, .int .i64 0] T.ref05_Plain w2 fun p3 w4 =>
ld1 (.i .i64) p1 w4 fun x5 =>
brB (x5 == 1) (
ld1 (.i .i64) (p1.add 1) w4 fun x6 =>
ld1 (.i .i64) (p1.add 3) w4 fun x7 =>
ld1 (.i .u16) (p1.add 4) w4 fun x8 =>
ld1 (.i .u16) (p1.add 5) w4 fun x9 =>
ld1 (.i .i64) (p1.add 6) w4 fun x10 =>
ld1 (.i .i64) (p1.add 7) w4 fun x11 =>
stN [.int .i64 1, .int .i64 x6, .int .i64 0, .int .i64 x7, .int .u16 x8, .int .u16 x9, .int .i64 x10, .int .i64 x11, .int .i64 0, .int .i64 0, .int .i64 0, .int .i64 0, .int .i64 0, .int .i64 0] p3 0 w4 fun w12 =>
ldN [(.i .i64), (.i .i64), (.i .i64), (.i .i64), (.i .u16), (.i .u16), (.i .i64), (.i .i64), (.i .i64), (.i .i64), (.i .i64), (.i .i64), (.i .i64), (.i .i64)] p3 0 w12 fun x13 =>
R ((x13.1, x13.2.1, x13.2.2.1, x13.2.2.2.1, x13.2.2.2.2.1, x13.2.2.2.2.2.1, x13.2.2.2.2.2.2.1, x13.2.2.2.2.2.2.2.1, x13.2.2.2.2.2.2.2.2.1, x13.2.2.2.2.2.2.2.2.2.1, x13.2.2.2.2.2.2.2.2.2.2.1, x13.2.2.2.2.2.2.2.2.2.2.2.1, x13.2.2.2.2.2.2.2.2.2.2.2.2.1, x13.2.2.2.2.2.2.2.2.2.2.2.2.2.1, ()), ()) w12) (
brB (x5 == 2) (
ld1 (.i .i64) (p1.add 1) w4 fun x14 =>
ld1 (.i .i64) (p1.add 8) w4 fun x15 =>
stN [.int .i64 2, .int .i64 x14, .int .i64 0, .int .i64 0, .int .u16 0, .int .u16 0, .int .i64 0, .int .i64 0, .int .i64 x15, .int .i64 0, .int .i64 0, .int .i64 0, .int .i64 0, .int .i64 0] p3 0 w4 fun w16 =>
ldN [(.i .i64), (.i .i64), (.i .i64), (.i .i64), (.i .u16), (.i .u16), (.i .i64), (.i .i64), (.i .i64), (.i .i64), (.i .i64), (.i .i64), (.i .i64), (.i .i64)] p3 0 w16 fun x17 =>
R ((x17.1, x17.2.1, x17.2.2.1, x17.2.2.2.1, x17.2.2.2.2.1, x17.2.2.2.2.2.1, x17.2.2.2.2.2.2.1, x17.2.2.2.2.2.2.2.1, x17.2.2.2.2.2.2.2.2.1, x17.2.2.2.2.2.2.2.2.2.1, x17.2.2.2.2.2.2.2.2.2.2.1, x17.2.2.2.2.2.2.2.2.2.2.2.1, x17.2.2.2.2.2.2.2.2.2.2.2.2.1, x17.2.2.2.2.2.2.2.2.2.2.2.2.2.1, ()), ()) w16) (
brB (x5 == 3) (
ld1 (.i .i64) (p1.add 1) w4 fun x18 =>
stN [.int .i64 3, .int .i64 x18, .int .i64 0, .int .i64 0, .int .u16 0, .int .u16 0, .int .i64 0, .int .i64 0, .int .i64 0, .int .i64 0, .int .i64 0, .int .i64 0, .int .i64 0, .int .i64 0] p3 0 w4 fun w19 =>
ldN [(.i .i64), (.i .i64), (.i .i64), (.i .i64), (.i .u16), (.i .u16), (.i .i64), (.i .i64), (.i .i64), (.i .i64), (.i .i64), (.i .i64), (.i .i64), (.i .i64)] p3 0 w19 fun x20 =>
R ((x20.1, x20.2.1, x20.2.2.1, x20.2.2.2.1, x20.2.2.2.2.1, x20.2.2.2.2.2.1, x20.2.2.2.2.2.2.1, x20.2.2.2.2.2.2.2.1, x20.2.2.2.2.2.2.2.2.1, x20.2.2.2.2.2.2.2.2.2.1, x20.2.2.2.2.2.2.2.2.2.2.1, x20.2.2.2.2.2.2.2.2.2.2.2.1, x20.2.2.2.2.2.2.2.2.2.2.2.2.1, x20.2.2.2.2.2.2.2.2.2.2.2.2.2.1, ()), ()) w19) (
brB (x5 == 4) (
ld1 (.i .i64) (p1.add 1) w4 fun x21 =>
ld1 (.i .i64) (p1.add 2) w4 fun x22 =>
ld1 (.i .i64) (p1.add 9) w4 fun x23 =>
stN [.int .i64 4, .int .i64 x21, .int .i64 x22, .int .i64 0, .int .u16 0, .int .u16 0, .int .i64 0, .int .i64 0, .int .i64 0, .int .i64 x23, .int .i64 0, .int .i64 0, .int .i64 0, .int .i64 0] p3 0 w4 fun w24 =>
ldN [(.i .i64), (.i .i64), (.i .i64), (.i .i64), (.i .u16), (.i .u16), (.i .i64), (.i .i64), (.i .i64), (.i .i64), (.i .i64), (.i .i64), (.i .i64), (.i .i64)] p3 0 w24 fun x25 =>
R ((x25.1, x25.2.1, x25.2.2.1, x25.2.2.2.1, x25.2.2.2.2.1, x25.2.2.2.2.2.1, x25.2.2.2.2.2.2.1, x25.2.2.2.2.2.2.2.1, x25.2.2.2.2.2.2.2.2.1, x25.2.2.2.2.2.2.2.2.2.1, x25.2.2.2.2.2.2.2.2.2.2.1, x25.2.2.2.2.2.2.2.2.2.2.2.1, x25.2.2.2.2.2.2.2.2.2.2.2.2.1, x25.2.2.2.2.2.2.2.2.2.2.2.2.2.1, ()), ()) w24) (
brB (x5 == 5) (
ld1 (.i .i64) (p1.add 1) w4 fun x26 =>
ld1 (.i .i64) (p1.add 2) w4 fun x27 =>
ld1 (.i .i64) (p1.add 9) w4 fun x28 =>
ld1 (.i .i64) (p1.add 10) w4 fun x29 =>
ld1 (.i .i64) (p1.add 11) w4 fun x30 =>
ld1 (.i .i64) (p1.add 3) w4 fun x31 =>
ld1 (.i .u16) (p1.add 4) w4 fun x32 =>
ld1 (.i .i64) (p1.add 6) w4 fun x33 =>
stN [.int .i64 5, .int .i64 x26, .int .i64 x27, .int .i64 x31, .int .u16 x32, .int .u16 0, .int .i64 x33, .int .i64 0, .int .i64 0, .int .i64 x28, .int .i64 x29, .int .i64 x30, .int .i64 0, .int .i64 0] p3 0 w4 fun w34 =>
ldN [(.i .i64), (.i .i64), (.i .i64), (.i .i64), (.i .u16), (.i .u16), (.i .i64), (.i .i64), (.i .i64), (.i .i64), (.i .i64), (.i .i64), (.i .i64), (.i .i64)] p3 0 w34 fun x35 =>
R ((x35.1, x35.2.1, x35.2.2.1, x35.2.2.2.1, x35.2.2.2.2.1, x35.2.2.2.2.2.1, x35.2.2.2.2.2.2.1, x35.2.2.2.2.2.2.2.1, x35.2.2.2.2.2.2.2.2.1, x35.2.2.2.2.2.2.2.2.2.1, x35.2.2.2.2.2.2.2.2.2.2.1, x35.2.2.2.2.2.2.2.2.2.2.2.1, x35.2.2.2.2.2.2.2.2.2.2.2.2.1, x35.2.2.2.2.2.2.2.2.2.2.2.2.2.1, ()), ()) w34) (
brB (x5 == 6) (
ld1 (.i .i64) (p1.add 1) w4 fun x36 =>
ld1 (.i .u16) (p1.add 5) w4 fun x37 =>
ld1 (.i .i64) (p1.add 3) w4 fun x38 =>
ld1 (.i .u16) (p1.add 4) w4 fun x39 =>
ld1 (.i .i64) (p1.add 12) w4 fun x40 =>
ld1 (.i .i64) (p1.add 13) w4 fun x41 =>
stN [.int .i64 6, .int .i64 x36, .int .i64 0, .int .i64 x38, .int .u16 x39, .int .u16 x37, .int .i64 0, .int .i64 0, .int .i64 0, .int .i64 0, .int .i64 0, .int .i64 0, .int .i64 x40, .int .i64 x41] p3 0 w4 fun w42 =>
ldN [(.i .i64), (.i .i64), (.i .i64), (.i .i64), (.i .u16), (.i .u16), (.i .i64), (.i .i64), (.i .i64), (.i .i64), (.i .i64), (.i .i64), (.i .i64), (.i .i64)] p3 0 w42 fun x43 =>
R ((x43.1, x43.2.1, x43.2.2.1, x43.2.2.2.1, x43.2.2.2.2.1, x43.2.2.2.2.2.1, x43.2.2.2.2.2.2.1, x43.2.2.2.2.2.2.2.1, x43.2.2.2.2.2.2.2.2.1, x43.2.2.2.2.2.2.2.2.2.1, x43.2.2.2.2.2.2.2.2.2.2.1, x43.2.2.2.2.2.2.2.2.2.2.2.1, x43.2.2.2.2.2.2.2.2.2.2.2.2.1, x43.2.2.2.2.2.2.2.2.2.2.2.2.2.1, ()), ()) w42) (
stN [.int .i64 0, .int .i64 0, .int .i64 0, .int .i64 0, .int .u16 0, .int .u16 0, .int .i64 0, .int .i64 0, .int .i64 0, .int .i64 0, .int .i64 0, .int .i64 0, .int .i64 0, .int .i64 0] p3 0 w4 fun w44 =>
ldN [(.i .i64), (.i .i64), (.i .i64), (.i .i64), (.i .u16), (.i .u16), (.i .i64), (.i .i64), (.i .i64), (.i .i64), (.i .i64), (.i .i64), (.i .i64), (.i .i64)] p3 0 w44 fun x45 =>
R ((x45.1, x45.2.1, x45.2.2.1, x45.2.2.2.1, x45.2.2.2.2.1, x45.2.2.2.2.2.1, x45.2.2.2.2.2.2.1, x45.2.2.2.2.2.2.2.1, x45.2.2.2.2.2.2.2.2.1, x45.2.2.2.2.2.2.2.2.2.1, x45.2.2.2.2.2.2.2.2.2.2.1, x45.2.2.2.2.2.2.2.2.2.2.2.1, x45.2.2.2.2.2.2.2.2.2.2.2.2.1, x45.2.2.2.2.2.2.2.2.2.2.2.2.2.1, ()), ()) w44))))))
set_option maxRecDepth 100000 in
theorem ref05_Only.eq (p0 : Int) (p1 : Int) (p2 : Int) (p3 : Int) (p4 : Int) (p5 : Int) (p6 : Int) (p7 : Int) (p8 : Int) (p9 : Int) (p10 : Int) (p11 : Int) (p12 : Int) (p13 : Int) (w : World) (R : Value → World → Prop) : wpF Try.prog Try.f71 .n [.agg #[.int .i64 p0, .int .i64 p1, .int .i64 p2, .int .i64 p3, .int .u16 p4, .int .u16 p5, .int .i64 p6, .int .i64 p7, .int .i64 p8, .int .i64 p9, .int .i64 p10, .int .i64 p11, .int .i64 p12, .int .i64 p13]] w R = ref05_Only.wp p0 p1 p2 p3 p4 p5 p6 p7 p8 p9 p10 p11 p12 p13 w (fun r w => R (encR false [(true, [(.i .i64), (.i .i64), (.i .i64), (.i .i64), (.i .u16), (.i .u16), (.i .i64), (.i .i64), (.i .i64), (.i .i64), (.i .i64), (.i .i64), (.i .i64), (.i .i64)])] r) w) := by kernel_rfl
set_option maxRecDepth 100000 in
theorem ref05_Only.ok {p0 : Int} {p1 : Int} {p2 : Int} {p3 : Int} {p4 : Int} {p5 : Int} {p6 : Int} {p7 : Int} {p8 : Int} {p9 : Int} {p10 : Int} {p11 : Int} {p12 : Int} {p13 : Int} {w : World} {R : TR [(true, [(.i .i64), (.i .i64), (.i .i64), (.i .i64), (.i .u16), (.i .u16), (.i .i64), (.i .i64), (.i .i64), (.i .i64), (.i .i64), (.i .i64), (.i .i64), (.i .i64)])] → World → Prop} (h : ref05_Only.wp p0 p1 p2 p3 p4 p5 p6 p7 p8 p9 p10 p11 p12 p13 w R) : clS Try.prog F.ref05_Only [.agg #[.int .i64 p0, .int .i64 p1, .int .i64 p2, .int .i64 p3, .int .u16 p4, .int .u16 p5, .int .i64 p6, .int .i64 p7, .int .i64 p8, .int .i64 p9, .int .i64 p10, .int .i64 p11, .int .i64 p12, .int .i64 p13]] w false [(true, [(.i .i64), (.i .i64), (.i .i64), (.i .i64), (.i .u16), (.i .u16), (.i .i64), (.i .i64), (.i .i64), (.i .i64), (.i .i64), (.i .i64), (.i .i64), (.i .i64)])] R :=
  ok_of Try_follows Try.func71 (fun R => ref05_Only.wp p0 p1 p2 p3 p4 p5 p6 p7 p8 p9 p10 p11 p12 p13 w R) (ref05_Only.eq p0 p1 p2 p3 p4 p5 p6 p7 p8 p9 p10 p11 p12 p13 w) rfl h
/-! ### ref02_Next -/
set_option maxRecDepth 100000 in
def ref02_Next.wp (a : Int) (w : World) (R : TR [(false, [(.i .u16)])] → World → Prop) : Prop :=
nzK 65536 (
R ((IntKind.wrap .u16 (Int.tmod (IntKind.wrap .i64 ((IntKind.wrap .i64 a) + 1)) 65536), ()), ()) w)
set_option maxRecDepth 100000 in
theorem ref02_Next.eq (a : Int) (w : World) (R : Value → World → Prop) : wpF Try.prog Try.f72 .n [.int .u16 a] w R = ref02_Next.wp a w (fun r w => R (encR false [(false, [(.i .u16)])] r) w) := by kernel_rfl
set_option maxRecDepth 100000 in
theorem ref02_Next.ok {a : Int} {w : World} {R : TR [(false, [(.i .u16)])] → World → Prop} (h : ref02_Next.wp a w R) : clS Try.prog F.ref02_Next [.int .u16 a] w false [(false, [(.i .u16)])] R :=
  ok_of Try_follows Try.func72 (fun R => ref02_Next.wp a w R) (ref02_Next.eq a w) rfl h
/-! ### ref23_Book_Tai -/
set_option maxRecDepth 100000 in
def ref23_Book_Tai.wp (b : Option Addr) (root : Int) (boot : Int) (time : Int) (w : World) (R : TR [(false, [(.i .i64)]), (false, [(.i .i64)]), (false, [(.i .i64)])] → World → Prop) : Prop :=
ncK b fun a1 =>
ld1 (.i .i64) a1 w fun x2 =>
brB (x2 != 6) (
R ((0, ()), (0, ()), (7, ()), ()) w) (
ncK b fun a3 =>
ld1 (.i .i64) (a3.add 3) w fun x4 =>
brB (x4 != root) (
R ((0, ()), (0, ()), (9, ()), ()) w) (
ncK b fun a5 =>
ld1 (.i .u16) (a5.add 4) w fun x6 =>
brB (x6 != boot) (
R ((0, ()), (0, ()), (9, ()), ()) w) (
brB (decide (time < 0)) (
R ((0, ()), (0, ()), (8, ()), ()) w) (
brB (decide (time > 1125899906842624)) (
R ((0, ()), (0, ()), (8, ()), ()) w) (
ncK b fun a7 =>
ld1 (.i .i64) (a7.add 12) w fun x8 =>
clS Try.prog F.ref01_Floor [.int .i64 (IntKind.wrap .i64 (time - x8)), .int .i64 1000] w true [(false, [(.i .i64)]), (false, [(.i .i64)])] fun r9 w10 =>
ncK b fun a11 =>
ld1 (.i .i64) (a11.add 13) w10 fun x12 =>
R ((IntKind.wrap .i64 (x12 + r9.1.1), ()), (r9.2.1.1, ()), (0, ()), ()) w10)))))
set_option maxRecDepth 100000 in
theorem ref23_Book_Tai.eq (b : Option Addr) (root : Int) (boot : Int) (time : Int) (w : World) (R : Value → World → Prop) : wpF Try.prog Try.f73 .n [.pointer b, .int .i64 root, .int .u16 boot, .int .i64 time] w R = ref23_Book_Tai.wp b root boot time w (fun r w => R (encR true [(false, [(.i .i64)]), (false, [(.i .i64)]), (false, [(.i .i64)])] r) w) := by kernel_rfl
set_option maxRecDepth 100000 in
theorem ref23_Book_Tai.ok {b : Option Addr} {root : Int} {boot : Int} {time : Int} {w : World} {R : TR [(false, [(.i .i64)]), (false, [(.i .i64)]), (false, [(.i .i64)])] → World → Prop} (h : ref23_Book_Tai.wp b root boot time w R) : clS Try.prog F.ref23_Book_Tai [.pointer b, .int .i64 root, .int .u16 boot, .int .i64 time] w true [(false, [(.i .i64)]), (false, [(.i .i64)]), (false, [(.i .i64)])] R :=
  ok_of Try_follows Try.func73 (fun R => ref23_Book_Tai.wp b root boot time w R) (ref23_Book_Tai.eq b root boot time w) rfl h
/-! ### ref23_Book_Time -/
set_option maxRecDepth 100000 in
def ref23_Book_Time.wp (b : Option Addr) (root : Int) (boot : Int) (tai : Int) (w : World) (R : TR [(false, [(.i .i64)]), (false, [(.i .i64)])] → World → Prop) : Prop :=
clS Try.prog F.ref23_Book_Tai [.pointer b, .int .i64 root, .int .u16 boot, .int .i64 0] w true [(false, [(.i .i64)]), (false, [(.i .i64)]), (false, [(.i .i64)])] fun r1 w2 =>
brB (r1.2.2.1.1 != 0) (
R ((0, ()), (r1.2.2.1.1, ()), ()) w2) (
brB (decide (tai < (Int.negSucc 1125899906842623))) (
R ((0, ()), (8, ()), ()) w2) (
brB (decide (tai > 1125899906842624)) (
R ((0, ()), (8, ()), ()) w2) (
drK w2 fun w3 =>
ncK b fun a4 =>
ld1 (.i .i64) (a4.add 12) w3 fun x5 =>
ncK b fun a6 =>
ld1 (.i .i64) (a6.add 13) w3 fun x7 =>
brB (decide ((IntKind.wrap .i64 (x5 + (IntKind.wrap .i64 (1000 * (IntKind.wrap .i64 (tai - x7)))))) < 0)) (
R ((0, ()), (8, ()), ()) w3) (
brB (decide ((IntKind.wrap .i64 (x5 + (IntKind.wrap .i64 (1000 * (IntKind.wrap .i64 (tai - x7)))))) > 1125899906842624)) (
R ((0, ()), (8, ()), ()) w3) (
R ((IntKind.wrap .i64 (x5 + (IntKind.wrap .i64 (1000 * (IntKind.wrap .i64 (tai - x7))))), ()), (0, ()), ()) w3)))))
set_option maxRecDepth 100000 in
theorem ref23_Book_Time.eq (b : Option Addr) (root : Int) (boot : Int) (tai : Int) (w : World) (R : Value → World → Prop) : wpF Try.prog Try.f74 (.s .n (.s .n (.s .n (.s (.pl (.tk 0 (.tk 1 (.tk 2 (.tk 3 (.tk 4 (.tk 5 (.tk 6 (.tk 7 (.tk 8 (.tk 9 (.tk 10 (.tk 11 (.tk 12 (.tk 13 (.tk 14 .z)))))))))))))))) .n)))) [.pointer b, .int .i64 root, .int .u16 boot, .int .i64 tai] w R = ref23_Book_Time.wp b root boot tai w (fun r w => R (encR true [(false, [(.i .i64)]), (false, [(.i .i64)])] r) w) := by kernel_rfl
set_option maxRecDepth 100000 in
theorem ref23_Book_Time.ok {b : Option Addr} {root : Int} {boot : Int} {tai : Int} {w : World} {R : TR [(false, [(.i .i64)]), (false, [(.i .i64)])] → World → Prop} (h : ref23_Book_Time.wp b root boot tai w R) : clS Try.prog F.ref23_Book_Time [.pointer b, .int .i64 root, .int .u16 boot, .int .i64 tai] w true [(false, [(.i .i64)]), (false, [(.i .i64)])] R :=
  ok_of Try_follows Try.func74 (fun R => ref23_Book_Time.wp b root boot tai w R) (ref23_Book_Time.eq b root boot tai w) rfl h
/-! ### leap_day -/
set_option maxRecDepth 100000 in
def leap_day.wp (n : Int) (w : World) (R : TR [(false, [.b])] → World → Prop) : Prop :=
brB (decide (n ≥ (Int.negSucc 719161))) (
R ((decide (n ≤ 2932896), ()), ()) w) (
R ((false, ()), ()) w)
set_option maxRecDepth 100000 in
theorem leap_day.eq (n : Int) (w : World) (R : Value → World → Prop) : wpF Try.prog Try.f75 .n [.int .i64 n] w R = leap_day.wp n w (fun r w => R (encR false [(false, [.b])] r) w) := by kernel_rfl
set_option maxRecDepth 100000 in
theorem leap_day.ok {n : Int} {w : World} {R : TR [(false, [.b])] → World → Prop} (h : leap_day.wp n w R) : clS Try.prog F.leap_day [.int .i64 n] w false [(false, [.b])] R :=
  ok_of Try_follows Try.func75 (fun R => leap_day.wp n w R) (leap_day.eq n w) rfl h
/-! ### slices_ContainsFunc_leap_Leap_leap_Leap -/
set_option maxRecDepth 100000 in
def slices_ContainsFunc_leap_Leap_leap_Leap.wp (s : Option Addr × Nat × Nat) (f : Value) (w : World) (R : TR [(false, [.b])] → World → Prop) : Prop :=
clS Try.prog F.slices_IndexFunc_leap_Leap_leap_Leap [.slice s.1 s.2.1 s.2.2, f] w false [(false, [(.i .i64)])] fun r1 w2 =>
R ((decide (r1.1.1 ≥ 0), ()), ()) w2
set_option maxRecDepth 100000 in
theorem slices_ContainsFunc_leap_Leap_leap_Leap.eq (s : Option Addr × Nat × Nat) (f : Value) (w : World) (R : Value → World → Prop) : wpF Try.prog Try.f76 .n [.slice s.1 s.2.1 s.2.2, f] w R = slices_ContainsFunc_leap_Leap_leap_Leap.wp s f w (fun r w => R (encR false [(false, [.b])] r) w) := by kernel_rfl
set_option maxRecDepth 100000 in
theorem slices_ContainsFunc_leap_Leap_leap_Leap.ok {s : Option Addr × Nat × Nat} {f : Value} {w : World} {R : TR [(false, [.b])] → World → Prop} (h : slices_ContainsFunc_leap_Leap_leap_Leap.wp s f w R) : clS Try.prog F.slices_ContainsFunc_leap_Leap_leap_Leap [.slice s.1 s.2.1 s.2.2, f] w false [(false, [.b])] R :=
  ok_of Try_follows Try.func76 (fun R => slices_ContainsFunc_leap_Leap_leap_Leap.wp s f w R) (slices_ContainsFunc_leap_Leap_leap_Leap.eq s f w) rfl h
/-! ### slices_ContainsFunc_leap_Leap_leap_Leap_of_leap_Make_1 -/
set_option maxRecDepth 100000 in
def slices_ContainsFunc_leap_Leap_leap_Leap_of_leap_Make_1.wp (s : Option Addr × Nat × Nat) (w : World) (R : TR [(false, [.b])] → World → Prop) : Prop :=
clS Try.prog F.slices_IndexFunc_leap_Leap_leap_Leap [.slice s.1 s.2.1 s.2.2, .func (.func F.leap_Make_1) #[] #[]] w false [(false, [(.i .i64)])] fun r1 w2 =>
R ((decide (r1.1.1 ≥ 0), ()), ()) w2
set_option maxRecDepth 100000 in
theorem slices_ContainsFunc_leap_Leap_leap_Leap_of_leap_Make_1.eq (s : Option Addr × Nat × Nat) (w : World) (R : Value → World → Prop) : wpF Try.prog Try.f76 .n [.slice s.1 s.2.1 s.2.2, .func (.func F.leap_Make_1) #[] #[]] w R = slices_ContainsFunc_leap_Leap_leap_Leap_of_leap_Make_1.wp s w (fun r w => R (encR false [(false, [.b])] r) w) := by kernel_rfl
set_option maxRecDepth 100000 in
theorem slices_ContainsFunc_leap_Leap_leap_Leap_of_leap_Make_1.ok {s : Option Addr × Nat × Nat} {w : World} {R : TR [(false, [.b])] → World → Prop} (h : slices_ContainsFunc_leap_Leap_leap_Leap_of_leap_Make_1.wp s w R) : clS Try.prog F.slices_ContainsFunc_leap_Leap_leap_Leap [.slice s.1 s.2.1 s.2.2, .func (.func F.leap_Make_1) #[] #[]] w false [(false, [.b])] R :=
  ok_of Try_follows Try.func76 (fun R => slices_ContainsFunc_leap_Leap_leap_Leap_of_leap_Make_1.wp s w R) (slices_ContainsFunc_leap_Leap_leap_Leap_of_leap_Make_1.eq s w) rfl h
/-! ### leap_Make_1 -/
set_option maxRecDepth 100000 in
def leap_Make_1.wp (l0 : Int) (l1 : Int) (w : World) (R : TR [(false, [.b])] → World → Prop) : Prop :=
alK [.int .i64 l0, .int .i64 l1] T.leap_Leap w fun p1 w2 =>
ld1 (.i .i64) (p1.add 1) w2 fun x3 =>
brB (x3 != 1) (
ld1 (.i .i64) (p1.add 1) w2 fun x4 =>
R (((x4 != (Int.negSucc 0)), ()), ()) w2) (
R ((false, ()), ()) w2)
set_option maxRecDepth 100000 in
theorem leap_Make_1.eq (l0 : Int) (l1 : Int) (w : World) (R : Value → World → Prop) : wpF Try.prog Try.f77 .n [.agg #[.int .i64 l0, .int .i64 l1]] w R = leap_Make_1.wp l0 l1 w (fun r w => R (encR false [(false, [.b])] r) w) := by kernel_rfl
set_option maxRecDepth 100000 in
theorem leap_Make_1.ok {l0 : Int} {l1 : Int} {w : World} {R : TR [(false, [.b])] → World → Prop} (h : leap_Make_1.wp l0 l1 w R) : clS Try.prog F.leap_Make_1 [.agg #[.int .i64 l0, .int .i64 l1]] w false [(false, [.b])] R :=
  ok_of Try_follows Try.func77 (fun R => leap_Make_1.wp l0 l1 w R) (leap_Make_1.eq l0 l1 w) rfl h
/-! ### slices_Clone_leap_Leap_leap_Leap -/
set_option maxRecDepth 100000 in
def slices_Clone_leap_Leap_leap_Leap.wp (s : Option Addr × Nat × Nat) (w : World) (R : TR [(false, [.sl])] → World → Prop) : Prop :=
brB (Option.isNone s.1) (
R (((none, 0, 0), ()), ()) w) (
alK [] T.leap_Leap w fun p1 w2 =>
slOf ((Builtin.append_ #[T.sl_leap_Leap, T.sl_leap_Leap] T.sl_leap_Leap #[.slice (some p1) 0 0, .slice s.1 s.2.1 s.2.2]).run Try.prog w2) fun y3 w4 =>
R (((y3.1, y3.2.1, y3.2.2), ()), ()) w4)
set_option maxRecDepth 100000 in
theorem slices_Clone_leap_Leap_leap_Leap.eq (s : Option Addr × Nat × Nat) (w : World) (R : Value → World → Prop) : wpF Try.prog Try.f78 .n [.slice s.1 s.2.1 s.2.2] w R = slices_Clone_leap_Leap_leap_Leap.wp s w (fun r w => R (encR false [(false, [.sl])] r) w) := by kernel_rfl
set_option maxRecDepth 100000 in
theorem slices_Clone_leap_Leap_leap_Leap.ok {s : Option Addr × Nat × Nat} {w : World} {R : TR [(false, [.sl])] → World → Prop} (h : slices_Clone_leap_Leap_leap_Leap.wp s w R) : clS Try.prog F.slices_Clone_leap_Leap_leap_Leap [.slice s.1 s.2.1 s.2.2] w false [(false, [.sl])] R :=
  ok_of Try_follows Try.func78 (fun R => slices_Clone_leap_Leap_leap_Leap.wp s w R) (slices_Clone_leap_Leap_leap_Leap.eq s w) rfl h
/-! ### leap_Table_Ahead -/
set_option maxRecDepth 100000 in
def leap_Table_Ahead.wp (t : Option Addr) (day : Int) (w : World) (R : TR [(false, [(.i .i64)]), (false, [.b])] → World → Prop) : Prop :=
alK [.int .i64 day] T.int w fun p1 w2 =>
drK w2 fun w3 =>
brB (Option.isNone t) (
R ((0, ()), (false, ()), ()) w3) (
ld1 (.i .i64) p1 w3 fun x4 =>
ncK t fun a5 =>
ld1 (.i .i64) a5 w3 fun x6 =>
brB (decide (x4 < x6)) (
R ((0, ()), (false, ()), ()) w3) (
ld1 (.i .i64) p1 w3 fun x7 =>
ncK t fun a8 =>
ld1 (.i .i64) (a8.add 2) w3 fun x9 =>
brB (decide (x7 ≥ x9)) (
R ((0, ()), (false, ()), ()) w3) (
ncK t fun a10 =>
ld1 (.i .i64) (a10.add 1) w3 fun x11 =>
alK [.int .i64 0] T.int w3 fun p12 w13 =>
stN [.int .i64 x11] p12 0 w13 fun w14 =>
clS Try.prog F.leap_Table_All [.pointer t] w14 false [(false, [.any])] fun r15 w16 =>
RfT Try.prog r15.1.1 [(true, [(.i .i64), (.i .i64)])] w16 (fun x17 k18 w19 =>
alK [.int .i64 0, .int .i64 0] T.leap_Leap w19 fun p25 w26 =>
stN [.int .i64 x17.1.1, .int .i64 x17.1.2.1] p25 0 w26 fun w27 =>
k18 w27 fun go20 lv21 w22 =>
ld1 (.i .i64) p25 w22 fun x28 =>
ld1 (.i .i64) p1 w22 fun x29 =>
brB (decide (x28 < x29)) (
ld1 (.i .i64) p12 w22 fun x30 =>
ld1 (.i .i64) (p25.add 1) w22 fun x31 =>
stN [.int .i64 (IntKind.wrap .i64 (x30 + x31))] p12 0 w22 fun w32 =>
go20 w32) (
go20 w22)) (fun D23 w24 =>
ld1 (.i .i64) p12 w24 fun x33 =>
tkK D23 w24 fun w34 =>
R ((x33, ()), (true, ()), ()) w34) [])))
set_option maxRecDepth 100000 in
theorem leap_Table_Ahead.eq (t : Option Addr) (day : Int) (w : World) (R : Value → World → Prop) : wpF Try.prog Try.f79 (.s .n (.s (.s (.pl (.tk 0 (.tk 1 (.tk 2 (.tk 3 (.tk 4 (.tk 5 (.tk 6 (.tk 7 (.tk 8 (.tk 9 (.tk 10 (.tk 11 (.tk 12 (.tk 13 (.tk 14 (.tk 15 (.tk 16 (.tk 17 .z))))))))))))))))))) .n) (.s .n (.s (.s .n (.rf [(true, [(.i .i64), (.i .i64)])] .n .n)) .n)))) [.pointer t, .int .i64 day] w R = leap_Table_Ahead.wp t day w (fun r w => R (encR true [(false, [(.i .i64)]), (false, [.b])] r) w) := by kernel_rfl
set_option maxRecDepth 100000 in
theorem leap_Table_Ahead.ok {t : Option Addr} {day : Int} {w : World} {R : TR [(false, [(.i .i64)]), (false, [.b])] → World → Prop} (h : leap_Table_Ahead.wp t day w R) : clS Try.prog F.leap_Table_Ahead [.pointer t, .int .i64 day] w true [(false, [(.i .i64)]), (false, [.b])] R :=
  ok_of Try_follows Try.func79 (fun R => leap_Table_Ahead.wp t day w R) (leap_Table_Ahead.eq t day w) rfl h
/-! ### sort_Search_of_leap_Table_Step_1 -/
set_option maxRecDepth 100000 in
def sort_Search_of_leap_Table_Step_1.wp (n : Int) (f_c0 : Addr) (f_c1 : Addr) (w : World) (R : TR [(false, [(.i .i64)])] → World → Prop) : Prop :=
LoopT (fun (self1 : ((Int) × (Int) × Unit) → World → Prop) (z2 : (Int) × (Int) × Unit) w3 => ∀ _ : Nat → Value,
brB (decide (z2.1 < z2.2.1)) (
shK 1 (
clS Try.prog F.leap_Table_Step_1 [.int .i64 (IntKind.wrap .i64 (shrX .u64 (IntKind.wrap .u64 (IntKind.wrap .i64 (z2.1 + z2.2.1))) 1)), .pointer (some f_c0), .pointer (some f_c1)] w3 false [(false, [.b])] fun r4 w5 =>
brB (!r4.1.1) (
self1 (IntKind.wrap .i64 ((IntKind.wrap .i64 (shrX .u64 (IntKind.wrap .u64 (IntKind.wrap .i64 (z2.1 + z2.2.1))) 1)) + 1), z2.2.1, ()) w5) (
self1 (z2.1, IntKind.wrap .i64 (shrX .u64 (IntKind.wrap .u64 (IntKind.wrap .i64 (z2.1 + z2.2.1))) 1), ()) w5))) (
R ((z2.1, ()), ()) w3)) (0, n, ()) w
set_option maxRecDepth 100000 in
theorem sort_Search_of_leap_Table_Step_1.eq (n : Int) (f_c0 : Addr) (f_c1 : Addr) (w : World) (R : Value → World → Prop) : wpF Try.prog Try.f80 (.s .n (.s .n (.s (.lp [(5, (.i .i64)), (6, (.i .i64))] .n) .n))) [.int .i64 n, .func (.func F.leap_Table_Step_1) #[] #[.pointer (some f_c0), .pointer (some f_c1)]] w R = sort_Search_of_leap_Table_Step_1.wp n f_c0 f_c1 w (fun r w => R (encR false [(false, [(.i .i64)])] r) w) := by kernel_rfl
set_option maxRecDepth 100000 in
theorem sort_Search_of_leap_Table_Step_1.ok {n : Int} {f_c0 : Addr} {f_c1 : Addr} {w : World} {R : TR [(false, [(.i .i64)])] → World → Prop} (h : sort_Search_of_leap_Table_Step_1.wp n f_c0 f_c1 w R) : clS Try.prog F.sort_Search [.int .i64 n, .func (.func F.leap_Table_Step_1) #[] #[.pointer (some f_c0), .pointer (some f_c1)]] w false [(false, [(.i .i64)])] R :=
  ok_of Try_follows Try.func80 (fun R => sort_Search_of_leap_Table_Step_1.wp n f_c0 f_c1 w R) (sort_Search_of_leap_Table_Step_1.eq n f_c0 f_c1 w) rfl h
/-! ### leap_Table_Step_1 -/
set_option maxRecDepth 100000 in
def leap_Table_Step_1.wp (i : Int) (c_cap0 : Addr) (c_cap1 : Addr) (w : World) (R : TR [(false, [.b])] → World → Prop) : Prop :=
drK w fun w1 =>
ld1 .p c_cap0 w1 fun x2 =>
ncK x2 fun a3 =>
ld1 .sl (a3.add 3) w1 fun x4 =>
ixK x4.1 x4.2.1 i fun a5 =>
ld1 (.i .i64) (a5.add (i.toNat * 2)) w1 fun x6 =>
ld1 (.i .i64) c_cap1 w1 fun x7 =>
R ((decide (x6 ≥ x7), ()), ()) w1
set_option maxRecDepth 100000 in
theorem leap_Table_Step_1.eq (i : Int) (c_cap0 : Addr) (c_cap1 : Addr) (w : World) (R : Value → World → Prop) : wpF Try.prog Try.f81 (.s .n (.s (.pl (.tk 0 (.tk 1 (.tk 2 (.tk 3 (.tk 4 (.tk 5 (.tk 6 (.tk 7 (.tk 8 (.tk 9 (.tk 10 .z)))))))))))) .n)) [.int .i64 i, .pointer (some c_cap0), .pointer (some c_cap1)] w R = leap_Table_Step_1.wp i c_cap0 c_cap1 w (fun r w => R (encR false [(false, [.b])] r) w) := by kernel_rfl
set_option maxRecDepth 100000 in
theorem leap_Table_Step_1.ok {i : Int} {c_cap0 : Addr} {c_cap1 : Addr} {w : World} {R : TR [(false, [.b])] → World → Prop} (h : leap_Table_Step_1.wp i c_cap0 c_cap1 w R) : clS Try.prog F.leap_Table_Step_1 [.int .i64 i, .pointer (some c_cap0), .pointer (some c_cap1)] w false [(false, [.b])] R :=
  ok_of Try_follows Try.func81 (fun R => leap_Table_Step_1.wp i c_cap0 c_cap1 w R) (leap_Table_Step_1.eq i c_cap0 c_cap1 w) rfl h
end Go.Proofs.Ytimdngcmbmamdaa
