import Derived.Test.YtnjmfbjgcfnanaaGreatNm
namespace Go.Proofs.YtnjmfbjgcfnanaaGreat
open Go.Eng
set_option linter.unusedVariables false
/-! ### ref01_MulDiv -/
set_option maxRecDepth 100000 in
def ref01_MulDiv.wp (a : Int) (b : Int) (c : Int) (w : World) (R : TR [(false, [(.i .i64)]), (false, [.b])] → World → Prop) : Prop :=
brB (decide (c < 1)) (
R ((0, ()), (false, ()), ()) w) (
clS Tryz.prog F.ref01_Size [.int .i64 a] w false [(false, [(.i .u64)])] fun r1 w2 =>
clS Tryz.prog F.ref01_Size [.int .i64 b] w2 false [(false, [(.i .u64)])] fun r3 w4 =>
clS Tryz.prog F.ref01_Times [.int .u64 r1.1.1, .int .u64 r3.1.1] w4 false [(true, [(.i .u64), (.i .u64), (.i .u64), (.i .u64)])] fun r5 w6 =>
clS Tryz.prog F.ref01_Over [.agg #[.int .u64 r5.1.1, .int .u64 r5.1.2.1, .int .u64 r5.1.2.2.1, .int .u64 r5.1.2.2.2.1], .int .u64 (IntKind.wrap .u64 c)] w6 true [(false, [(.i .u64)]), (false, [(.i .u64)]), (false, [.b])] fun r7 w8 =>
brB (!r7.2.2.1.1) (
R ((0, ()), (false, ()), ()) w8) (
CutT (fun (J9 : ((Bool) × Unit) → World → Prop) =>
brB ((decide (a < 0)) == (decide (b < 0))) (
J9 (true, ()) w8) (
brB (r7.1.1 == 0) (
J9 ((r7.2.1.1 == 0), ()) w8) (
J9 (false, ()) w8))) (fun (z10 : (Bool) × Unit) w11 => ∀ _ : Nat → Value,
brB z10.1 (
brB (decide (r7.1.1 > 9223372036854775807)) (
R ((0, ()), (false, ()), ()) w11) (
R ((IntKind.wrap .i64 r7.1.1, ()), (true, ()), ()) w11)) (
CutT (fun (J12 : ((Int) × Unit) → World → Prop) =>
brB (decide (r7.2.1.1 > 0)) (
brB (decide (r7.1.1 ≥ 9223372036854775808)) (
R ((0, ()), (false, ()), ()) w11) (
J12 (IntKind.wrap .u64 (r7.1.1 + 1), ()) w11)) (
J12 (r7.1.1, ()) w11)) (fun (z13 : (Int) × Unit) w14 => ∀ _ : Nat → Value,
brB (decide (z13.1 > 9223372036854775808)) (
R ((0, ()), (false, ()), ()) w14) (
brB (z13.1 == 0) (
R ((0, ()), (true, ()), ()) w14) (
R ((IntKind.wrap .i64 ((IntKind.wrap .i64 (0 - (IntKind.wrap .i64 (IntKind.wrap .u64 (z13.1 - 1))))) - 1), ()), (true, ()), ()) w14)))))))
set_option maxRecDepth 100000 in
theorem ref01_MulDiv.eq (a : Int) (b : Int) (c : Int) (w : World) (R : Value → World → Prop) : wpF Tryz.prog Tryz.f252 (.s .n (.s .n (.s .n (.s .n (.s (.ct [(39, .b)] .n .n) (.ct [(8, (.i .u64))] .n .n)))))) [.int .i64 a, .int .i64 b, .int .i64 c] w R = ref01_MulDiv.wp a b c w (fun r w => R (encR true [(false, [(.i .i64)]), (false, [.b])] r) w) := by kernel_rfl
set_option maxRecDepth 100000 in
theorem ref01_MulDiv.ok {a : Int} {b : Int} {c : Int} {w : World} {R : TR [(false, [(.i .i64)]), (false, [.b])] → World → Prop} (h : ref01_MulDiv.wp a b c w R) : clS Tryz.prog F.ref01_MulDiv [.int .i64 a, .int .i64 b, .int .i64 c] w true [(false, [(.i .i64)]), (false, [.b])] R :=
  ok_of Tryz_follows Tryz.func252 (fun R => ref01_MulDiv.wp a b c w R) (ref01_MulDiv.eq a b c w) rfl h
/-! ### ref01_Over -/
set_option maxRecDepth 100000 in
def ref01_Over.wp (w_0 : Int) (w_1 : Int) (w_2 : Int) (w_3 : Int) (c : Int) (w : World) (R : TR [(false, [(.i .u64)]), (false, [(.i .u64)]), (false, [.b])] → World → Prop) : Prop :=
alK [.int .u64 w_0, .int .u64 w_1, .int .u64 w_2, .int .u64 w_3] T.ref01_Wide w fun p1 w2 =>
LoopT (fun (self3 : ((Int) × (Int) × (Bool) × (Int) × Unit) → World → Prop) (z4 : (Int) × (Int) × (Bool) × (Int) × Unit) w5 => ∀ _ : Nat → Value,
brB (decide (z4.2.2.2.1 ≥ 0)) (
nzK 32 (
ixK (some p1) 4 (IntKind.wrap .i64 (Int.tdiv z4.2.2.2.1 32)) fun a6 =>
ld1 (.i .u64) (a6.add ((IntKind.wrap .i64 (Int.tdiv z4.2.2.2.1 32)).toNat * 1)) w5 fun x7 =>
nzK 32 (
shK (IntKind.wrap .u64 (Int.tmod z4.2.2.2.1 32)) (
CutT (fun (J8 : ((Bool) × Unit) → World → Prop) =>
brB (decide (z4.1 ≥ 9223372036854775808)) (
J8 (false, ()) w5) (
J8 (z4.2.2.1, ()) w5)) (fun (z9 : (Bool) × Unit) w10 => ∀ _ : Nat → Value,
brB (decide ((IntKind.wrap .u64 ((IntKind.wrap .u64 (2 * z4.2.1)) + (bitsX .and .u64 (shrX .u64 x7 (IntKind.wrap .u64 (Int.tmod z4.2.2.2.1 32))) 1))) ≥ c)) (
self3 (IntKind.wrap .u64 ((IntKind.wrap .u64 (2 * z4.1)) + 1), IntKind.wrap .u64 ((IntKind.wrap .u64 ((IntKind.wrap .u64 (2 * z4.2.1)) + (bitsX .and .u64 (shrX .u64 x7 (IntKind.wrap .u64 (Int.tmod z4.2.2.2.1 32))) 1))) - c), z9.1, IntKind.wrap .i64 (z4.2.2.2.1 - 1), ()) w10) (
self3 (IntKind.wrap .u64 (2 * z4.1), IntKind.wrap .u64 ((IntKind.wrap .u64 (2 * z4.2.1)) + (bitsX .and .u64 (shrX .u64 x7 (IntKind.wrap .u64 (Int.tmod z4.2.2.2.1 32))) 1)), z9.1, IntKind.wrap .i64 (z4.2.2.2.1 - 1), ()) w10)))))) (
R ((z4.1, ()), (z4.2.1, ()), (z4.2.2.1, ()), ()) w5)) (0, 0, true, 127, ()) w2
set_option maxRecDepth 100000 in
theorem ref01_Over.eq (w_0 : Int) (w_1 : Int) (w_2 : Int) (w_3 : Int) (c : Int) (w : World) (R : Value → World → Prop) : wpF Tryz.prog Tryz.f253 (.s .n (.s .n (.s .n (.s .n (.s (.s .n (.lp [(7, (.i .u64)), (8, (.i .u64)), (9, .b), (10, (.i .i64))] (.s .n (.s (.s .n (.ct [(9, .b)] .n .n)) .n)))) .n))))) [.agg #[.int .u64 w_0, .int .u64 w_1, .int .u64 w_2, .int .u64 w_3], .int .u64 c] w R = ref01_Over.wp w_0 w_1 w_2 w_3 c w (fun r w => R (encR true [(false, [(.i .u64)]), (false, [(.i .u64)]), (false, [.b])] r) w) := by kernel_rfl
set_option maxRecDepth 100000 in
theorem ref01_Over.ok {w_0 : Int} {w_1 : Int} {w_2 : Int} {w_3 : Int} {c : Int} {w : World} {R : TR [(false, [(.i .u64)]), (false, [(.i .u64)]), (false, [.b])] → World → Prop} (h : ref01_Over.wp w_0 w_1 w_2 w_3 c w R) : clS Tryz.prog F.ref01_Over [.agg #[.int .u64 w_0, .int .u64 w_1, .int .u64 w_2, .int .u64 w_3], .int .u64 c] w true [(false, [(.i .u64)]), (false, [(.i .u64)]), (false, [.b])] R :=
  ok_of Tryz_follows Tryz.func253 (fun R => ref01_Over.wp w_0 w_1 w_2 w_3 c w R) (ref01_Over.eq w_0 w_1 w_2 w_3 c w) rfl h
/-! ### ref01_Times -/
set_option maxRecDepth 100000 in
def ref01_Times.wp (a : Int) (b : Int) (w : World) (R : TR [(true, [(.i .u64), (.i .u64), (.i .u64), (.i .u64)])] → World → Prop) : Prop :=
alK [.int .u64 0, .int .u64 0, .int .u64 0, .int .u64 0] T.ref01_Wide w fun p1 w2 =>
shK 32 (
alK [.int .u64 0, .int .u64 0] T.a2_uint64 w2 fun p3 w4 =>
stN [.int .u64 (bitsX .and .u64 a 4294967295), .int .u64 (shrX .u64 a 32)] p3 0 w4 fun w5 =>
shK 32 (
alK [.int .u64 0, .int .u64 0] T.a2_uint64 w5 fun p6 w7 =>
stN [.int .u64 (bitsX .and .u64 b 4294967295), .int .u64 (shrX .u64 b 32)] p6 0 w7 fun w8 =>
alK [.int .u64 0, .int .u64 0, .int .u64 0, .int .u64 0] T.ref01_Wide w8 fun p9 w10 =>
LoopT (fun (self11 : ((Int) × Unit) → World → Prop) (z12 : (Int) × Unit) w13 => ∀ _ : Nat → Value,
brB (decide (z12.1 < 2)) (
LoopT (fun (self14 : ((Int) × (Int) × Unit) → World → Prop) (z15 : (Int) × (Int) × Unit) w16 => ∀ _ : Nat → Value,
brB (decide (z15.2.1 < 2)) (
drK w16 fun w17 =>
ixK (some p9) 4 (IntKind.wrap .i64 (z12.1 + z15.2.1)) fun a18 =>
ld1 (.i .u64) (a18.add ((IntKind.wrap .i64 (z12.1 + z15.2.1)).toNat * 1)) w17 fun x19 =>
ixK (some p3) 2 z12.1 fun a20 =>
ld1 (.i .u64) (a20.add (z12.1.toNat * 1)) w17 fun x21 =>
ixK (some p6) 2 z15.2.1 fun a22 =>
ld1 (.i .u64) (a22.add (z15.2.1.toNat * 1)) w17 fun x23 =>
ixK (some p9) 4 (IntKind.wrap .i64 (z12.1 + z15.2.1)) fun a24 =>
stN [.int .u64 (bitsX .and .u64 (IntKind.wrap .u64 ((IntKind.wrap .u64 (x19 + (IntKind.wrap .u64 (x21 * x23)))) + z15.1)) 4294967295)] (a24.add ((IntKind.wrap .i64 (z12.1 + z15.2.1)).toNat * 1)) 0 w17 fun w25 =>
shK 32 (
self14 (shrX .u64 (IntKind.wrap .u64 ((IntKind.wrap .u64 (x19 + (IntKind.wrap .u64 (x21 * x23)))) + z15.1)) 32, IntKind.wrap .i64 (z15.2.1 + 1), ()) w25)) (
ixK (some p9) 4 (IntKind.wrap .i64 (z12.1 + 2)) fun a26 =>
ld1 (.i .u64) (a26.add ((IntKind.wrap .i64 (z12.1 + 2)).toNat * 1)) w16 fun x27 =>
ixK (some p9) 4 (IntKind.wrap .i64 (z12.1 + 2)) fun a28 =>
stN [.int .u64 (IntKind.wrap .u64 (x27 + z15.1))] (a28.add ((IntKind.wrap .i64 (z12.1 + 2)).toNat * 1)) 0 w16 fun w29 =>
self11 (IntKind.wrap .i64 (z12.1 + 1), ()) w29)) (0, 0, ()) w13) (
ldN [(.i .u64), (.i .u64), (.i .u64), (.i .u64)] p9 0 w13 fun x30 =>
stN [.int .u64 x30.1, .int .u64 x30.2.1, .int .u64 x30.2.2.1, .int .u64 x30.2.2.2.1] p1 0 w13 fun w31 =>
ldN [(.i .u64), (.i .u64), (.i .u64), (.i .u64)] p1 0 w31 fun x32 =>
R ((x32.1, x32.2.1, x32.2.2.1, x32.2.2.2.1, ()), ()) w31)) (0, ()) w10))
set_option maxRecDepth 100000 in
theorem ref01_Times.eq (a : Int) (b : Int) (w : World) (R : Value → World → Prop) : wpF Tryz.prog Tryz.f254 (.s .n (.s .n (.s .n (.s .n (.s (.s .n (.lp [(8, (.i .i64))] (.s .n (.s (.s .n (.s (.s .n (.lp [(9, (.i .u64)), (10, (.i .i64))] (.s .n (.s (.s (.pl (.tk 0 (.tk 1 (.tk 2 (.tk 3 (.tk 4 (.tk 5 (.tk 6 (.tk 7 (.tk 8 (.tk 9 (.tk 10 (.tk 11 (.tk 12 (.tk 13 (.tk 14 (.tk 15 .z))))))))))))))))) .n) .n)))) .n)) .n)))) .n))))) [.int .u64 a, .int .u64 b] w R = ref01_Times.wp a b w (fun r w => R (encR false [(true, [(.i .u64), (.i .u64), (.i .u64), (.i .u64)])] r) w) := by kernel_rfl
set_option maxRecDepth 100000 in
theorem ref01_Times.ok {a : Int} {b : Int} {w : World} {R : TR [(true, [(.i .u64), (.i .u64), (.i .u64), (.i .u64)])] → World → Prop} (h : ref01_Times.wp a b w R) : clS Tryz.prog F.ref01_Times [.int .u64 a, .int .u64 b] w false [(true, [(.i .u64), (.i .u64), (.i .u64), (.i .u64)])] R :=
  ok_of Tryz_follows Tryz.func254 (fun R => ref01_Times.wp a b w R) (ref01_Times.eq a b w) rfl h
/-! ### ref01_Size -/
set_option maxRecDepth 100000 in
def ref01_Size.wp (n : Int) (w : World) (R : TR [(false, [(.i .u64)])] → World → Prop) : Prop :=
brB (decide (n ≥ 0)) (
R ((IntKind.wrap .u64 n, ()), ()) w) (
R ((IntKind.wrap .u64 ((IntKind.wrap .u64 (IntKind.wrap .i64 (0 - (IntKind.wrap .i64 (n + 1))))) + 1), ()), ()) w)
set_option maxRecDepth 100000 in
theorem ref01_Size.eq (n : Int) (w : World) (R : Value → World → Prop) : wpF Tryz.prog Tryz.f255 .n [.int .i64 n] w R = ref01_Size.wp n w (fun r w => R (encR false [(false, [(.i .u64)])] r) w) := by kernel_rfl
set_option maxRecDepth 100000 in
theorem ref01_Size.ok {n : Int} {w : World} {R : TR [(false, [(.i .u64)])] → World → Prop} (h : ref01_Size.wp n w R) : clS Tryz.prog F.ref01_Size [.int .i64 n] w false [(false, [(.i .u64)])] R :=
  ok_of Tryz_follows Tryz.func255 (fun R => ref01_Size.wp n w R) (ref01_Size.eq n w) rfl h
/-! ### frame_Anchor_fields -/
set_option maxRecDepth 100000 in
def frame_Anchor_fields.wp (f0 : Int) (f1 : Int) (f2 : Int) (f3 : Int) (f4 : Int) (f5 : Int) (w : World) (R : TR [(false, [.sl])] → World → Prop) : Prop :=
alK [.int .i64 f0, .int .u16 f1, .int .i64 f2, .int .u16 f3, .int .i64 f4, .int .i64 f5] T.frame_Anchor w fun p1 w2 =>
drK w2 fun w3 =>
ld1 (.i .i64) p1 w3 fun x4 =>
ld1 (.i .u16) (p1.add 1) w3 fun x5 =>
ld1 (.i .i64) (p1.add 2) w3 fun x6 =>
ld1 (.i .u16) (p1.add 3) w3 fun x7 =>
ld1 (.i .i64) (p1.add 4) w3 fun x8 =>
ld1 (.i .i64) (p1.add 5) w3 fun x9 =>
clS Tryz.prog F.frame_node [.int .i64 x4] w3 false [(true, [(.i .i64), (.i .i64), (.i .i64)])] fun r10 w11 =>
Hold [(16, (p1.add 5), (w3.cell? (p1.add 5)).getD undef), (13, (p1.add 4), (w3.cell? (p1.add 4)).getD undef), (10, (p1.add 3), (w3.cell? (p1.add 3)).getD undef), (7, (p1.add 2), (w3.cell? (p1.add 2)).getD undef), (4, (p1.add 1), (w3.cell? (p1.add 1)).getD undef), (1, p1, (w3.cell? p1).getD undef)] w11 ∧ (
clS Tryz.prog F.frame_short [.int .u16 x5] w11 false [(true, [(.i .i64), (.i .i64), (.i .i64)])] fun r12 w13 =>
Hold [(16, (p1.add 5), (w3.cell? (p1.add 5)).getD undef), (13, (p1.add 4), (w3.cell? (p1.add 4)).getD undef), (10, (p1.add 3), (w3.cell? (p1.add 3)).getD undef), (7, (p1.add 2), (w3.cell? (p1.add 2)).getD undef), (4, (p1.add 1), (w3.cell? (p1.add 1)).getD undef), (1, p1, (w3.cell? p1).getD undef)] w13 ∧ (
clS Tryz.prog F.frame_node [.int .i64 x6] w13 false [(true, [(.i .i64), (.i .i64), (.i .i64)])] fun r14 w15 =>
Hold [(16, (p1.add 5), (w3.cell? (p1.add 5)).getD undef), (13, (p1.add 4), (w3.cell? (p1.add 4)).getD undef), (10, (p1.add 3), (w3.cell? (p1.add 3)).getD undef), (7, (p1.add 2), (w3.cell? (p1.add 2)).getD undef), (4, (p1.add 1), (w3.cell? (p1.add 1)).getD undef), (1, p1, (w3.cell? p1).getD undef)] w15 ∧ (
clS Tryz.prog F.frame_short [.int .u16 x7] w15 false [(true, [(.i .i64), (.i .i64), (.i .i64)])] fun r16 w17 =>
Hold [(16, (p1.add 5), (w3.cell? (p1.add 5)).getD undef), (13, (p1.add 4), (w3.cell? (p1.add 4)).getD undef), (10, (p1.add 3), (w3.cell? (p1.add 3)).getD undef), (7, (p1.add 2), (w3.cell? (p1.add 2)).getD undef), (4, (p1.add 1), (w3.cell? (p1.add 1)).getD undef), (1, p1, (w3.cell? p1).getD undef)] w17 ∧ (
clS Tryz.prog F.frame_time [.int .i64 x8] w17 false [(true, [(.i .i64), (.i .i64), (.i .i64)])] fun r18 w19 =>
Hold [(16, (p1.add 5), (w3.cell? (p1.add 5)).getD undef), (13, (p1.add 4), (w3.cell? (p1.add 4)).getD undef), (10, (p1.add 3), (w3.cell? (p1.add 3)).getD undef), (7, (p1.add 2), (w3.cell? (p1.add 2)).getD undef), (4, (p1.add 1), (w3.cell? (p1.add 1)).getD undef), (1, p1, (w3.cell? p1).getD undef)] w19 ∧ (
clS Tryz.prog F.frame_time [.int .i64 x9] w19 false [(true, [(.i .i64), (.i .i64), (.i .i64)])] fun r20 w21 =>
Hold [(16, (p1.add 5), (w3.cell? (p1.add 5)).getD undef), (13, (p1.add 4), (w3.cell? (p1.add 4)).getD undef), (10, (p1.add 3), (w3.cell? (p1.add 3)).getD undef), (7, (p1.add 2), (w3.cell? (p1.add 2)).getD undef), (4, (p1.add 1), (w3.cell? (p1.add 1)).getD undef), (1, p1, (w3.cell? p1).getD undef)] w21 ∧ (
alK [.int .i64 r10.1.1, .int .i64 r10.1.2.1, .int .i64 r10.1.2.2.1, .int .i64 r12.1.1, .int .i64 r12.1.2.1, .int .i64 r12.1.2.2.1, .int .i64 r14.1.1, .int .i64 r14.1.2.1, .int .i64 r14.1.2.2.1, .int .i64 r16.1.1, .int .i64 r16.1.2.1, .int .i64 r16.1.2.2.1, .int .i64 r18.1.1, .int .i64 r18.1.2.1, .int .i64 r18.1.2.2.1, .int .i64 r20.1.1, .int .i64 r20.1.2.1, .int .i64 r20.1.2.2.1] T.frame_field w21 fun p22 w23 =>
Hold [(16, (p1.add 5), (w3.cell? (p1.add 5)).getD undef), (13, (p1.add 4), (w3.cell? (p1.add 4)).getD undef), (10, (p1.add 3), (w3.cell? (p1.add 3)).getD undef), (7, (p1.add 2), (w3.cell? (p1.add 2)).getD undef), (4, (p1.add 1), (w3.cell? (p1.add 1)).getD undef), (1, p1, (w3.cell? p1).getD undef)] w23 ∧ (
R (((some p22, 6, 6), ()), ()) w23)))))))
set_option maxRecDepth 100000 in
theorem frame_Anchor_fields.eq (f0 : Int) (f1 : Int) (f2 : Int) (f3 : Int) (f4 : Int) (f5 : Int) (w : World) (R : Value → World → Prop) : wpF Tryz.prog Tryz.f277 (.s .n (.s (.pl (.tk 0 (.tk 1 (.tk 3 (.tk 4 (.tk 6 (.tk 7 (.tk 9 (.tk 10 (.tk 12 (.tk 13 (.tk 15 (.tk 16 (.ef 2 [] (.ef 5 [] (.ef 8 [] (.ef 11 [] (.ef 14 [] (.ef 17 [] (.ef 18 [] (.tk 19 .z))))))))))))))))))))) .n)) [.agg #[.int .i64 f0, .int .u16 f1, .int .i64 f2, .int .u16 f3, .int .i64 f4, .int .i64 f5]] w R = frame_Anchor_fields.wp f0 f1 f2 f3 f4 f5 w (fun r w => R (encR false [(false, [.sl])] r) w) := by kernel_rfl
set_option maxRecDepth 100000 in
theorem frame_Anchor_fields.ok {f0 : Int} {f1 : Int} {f2 : Int} {f3 : Int} {f4 : Int} {f5 : Int} {w : World} {R : TR [(false, [.sl])] → World → Prop} (h : frame_Anchor_fields.wp f0 f1 f2 f3 f4 f5 w R) : clS Tryz.prog F.frame_Anchor_fields [.agg #[.int .i64 f0, .int .u16 f1, .int .i64 f2, .int .u16 f3, .int .i64 f4, .int .i64 f5]] w false [(false, [.sl])] R :=
  ok_of Tryz_follows Tryz.func277 (fun R => frame_Anchor_fields.wp f0 f1 f2 f3 f4 f5 w R) (frame_Anchor_fields.eq f0 f1 f2 f3 f4 f5 w) rfl h
/-! ### frame_node -/
set_option maxRecDepth 100000 in
def frame_node.wp (n : Int) (w : World) (R : TR [(true, [(.i .i64), (.i .i64), (.i .i64)])] → World → Prop) : Prop :=
alK [.int .i64 0, .int .i64 0, .int .i64 0] T.frame_field w fun p1 w2 =>
stN [.int .i64 1, .int .i64 n, .int .i64 63] p1 0 w2 fun w3 =>
ldN [(.i .i64), (.i .i64), (.i .i64)] p1 0 w3 fun x4 =>
R ((x4.1, x4.2.1, x4.2.2.1, ()), ()) w3
set_option maxRecDepth 100000 in
theorem frame_node.eq (n : Int) (w : World) (R : Value → World → Prop) : wpF Tryz.prog Tryz.f278 .n [.int .i64 n] w R = frame_node.wp n w (fun r w => R (encR false [(true, [(.i .i64), (.i .i64), (.i .i64)])] r) w) := by kernel_rfl
set_option maxRecDepth 100000 in
theorem frame_node.ok {n : Int} {w : World} {R : TR [(true, [(.i .i64), (.i .i64), (.i .i64)])] → World → Prop} (h : frame_node.wp n w R) : clS Tryz.prog F.frame_node [.int .i64 n] w false [(true, [(.i .i64), (.i .i64), (.i .i64)])] R :=
  ok_of Tryz_follows Tryz.func278 (fun R => frame_node.wp n w R) (frame_node.eq n w) rfl h
/-! ### frame_short -/
set_option maxRecDepth 100000 in
def frame_short.wp (n : Int) (w : World) (R : TR [(true, [(.i .i64), (.i .i64), (.i .i64)])] → World → Prop) : Prop :=
alK [.int .i64 0, .int .i64 0, .int .i64 0] T.frame_field w fun p1 w2 =>
stN [.int .i64 2, .int .i64 (IntKind.wrap .i64 n), .int .i64 65535] p1 0 w2 fun w3 =>
ldN [(.i .i64), (.i .i64), (.i .i64)] p1 0 w3 fun x4 =>
R ((x4.1, x4.2.1, x4.2.2.1, ()), ()) w3
set_option maxRecDepth 100000 in
theorem frame_short.eq (n : Int) (w : World) (R : Value → World → Prop) : wpF Tryz.prog Tryz.f279 .n [.int .u16 n] w R = frame_short.wp n w (fun r w => R (encR false [(true, [(.i .i64), (.i .i64), (.i .i64)])] r) w) := by kernel_rfl
set_option maxRecDepth 100000 in
theorem frame_short.ok {n : Int} {w : World} {R : TR [(true, [(.i .i64), (.i .i64), (.i .i64)])] → World → Prop} (h : frame_short.wp n w R) : clS Tryz.prog F.frame_short [.int .u16 n] w false [(true, [(.i .i64), (.i .i64), (.i .i64)])] R :=
  ok_of Tryz_follows Tryz.func279 (fun R => frame_short.wp n w R) (frame_short.eq n w) rfl h
/-! ### frame_time -/
set_option maxRecDepth 100000 in
def frame_time.wp (n : Int) (w : World) (R : TR [(true, [(.i .i64), (.i .i64), (.i .i64)])] → World → Prop) : Prop :=
alK [.int .i64 0, .int .i64 0, .int .i64 0] T.frame_field w fun p1 w2 =>
stN [.int .i64 8, .int .i64 n, .int .i64 1125899906842624] p1 0 w2 fun w3 =>
ldN [(.i .i64), (.i .i64), (.i .i64)] p1 0 w3 fun x4 =>
R ((x4.1, x4.2.1, x4.2.2.1, ()), ()) w3
set_option maxRecDepth 100000 in
theorem frame_time.eq (n : Int) (w : World) (R : Value → World → Prop) : wpF Tryz.prog Tryz.f280 .n [.int .i64 n] w R = frame_time.wp n w (fun r w => R (encR false [(true, [(.i .i64), (.i .i64), (.i .i64)])] r) w) := by kernel_rfl
set_option maxRecDepth 100000 in
theorem frame_time.ok {n : Int} {w : World} {R : TR [(true, [(.i .i64), (.i .i64), (.i .i64)])] → World → Prop} (h : frame_time.wp n w R) : clS Tryz.prog F.frame_time [.int .i64 n] w false [(true, [(.i .i64), (.i .i64), (.i .i64)])] R :=
  ok_of Tryz_follows Tryz.func280 (fun R => frame_time.wp n w R) (frame_time.eq n w) rfl h
/-! ### frame_Sync_fields -/
set_option maxRecDepth 100000 in
def frame_Sync_fields.wp (f0 : Int) (f1 : Int) (f2 : Int) (f3 : Int) (f4 : Int) (f5 : Int) (w : World) (R : TR [(false, [.sl])] → World → Prop) : Prop :=
alK [.int .i64 f0, .int .i64 f1, .int .u16 f2, .int .u16 f3, .int .i64 f4, .int .i64 f5] T.frame_Sync w fun p1 w2 =>
drK w2 fun w3 =>
ld1 (.i .i64) p1 w3 fun x4 =>
ld1 (.i .i64) (p1.add 1) w3 fun x5 =>
ld1 (.i .u16) (p1.add 2) w3 fun x6 =>
ld1 (.i .u16) (p1.add 3) w3 fun x7 =>
ld1 (.i .i64) (p1.add 4) w3 fun x8 =>
ld1 (.i .i64) (p1.add 5) w3 fun x9 =>
clS Tryz.prog F.frame_node [.int .i64 x4] w3 false [(true, [(.i .i64), (.i .i64), (.i .i64)])] fun r10 w11 =>
Hold [(16, (p1.add 5), (w3.cell? (p1.add 5)).getD undef), (13, (p1.add 4), (w3.cell? (p1.add 4)).getD undef), (10, (p1.add 3), (w3.cell? (p1.add 3)).getD undef), (7, (p1.add 2), (w3.cell? (p1.add 2)).getD undef), (4, (p1.add 1), (w3.cell? (p1.add 1)).getD undef), (1, p1, (w3.cell? p1).getD undef)] w11 ∧ (
clS Tryz.prog F.frame_node [.int .i64 x5] w11 false [(true, [(.i .i64), (.i .i64), (.i .i64)])] fun r12 w13 =>
Hold [(16, (p1.add 5), (w3.cell? (p1.add 5)).getD undef), (13, (p1.add 4), (w3.cell? (p1.add 4)).getD undef), (10, (p1.add 3), (w3.cell? (p1.add 3)).getD undef), (7, (p1.add 2), (w3.cell? (p1.add 2)).getD undef), (4, (p1.add 1), (w3.cell? (p1.add 1)).getD undef), (1, p1, (w3.cell? p1).getD undef)] w13 ∧ (
clS Tryz.prog F.frame_short [.int .u16 x6] w13 false [(true, [(.i .i64), (.i .i64), (.i .i64)])] fun r14 w15 =>
Hold [(16, (p1.add 5), (w3.cell? (p1.add 5)).getD undef), (13, (p1.add 4), (w3.cell? (p1.add 4)).getD undef), (10, (p1.add 3), (w3.cell? (p1.add 3)).getD undef), (7, (p1.add 2), (w3.cell? (p1.add 2)).getD undef), (4, (p1.add 1), (w3.cell? (p1.add 1)).getD undef), (1, p1, (w3.cell? p1).getD undef)] w15 ∧ (
clS Tryz.prog F.frame_short [.int .u16 x7] w15 false [(true, [(.i .i64), (.i .i64), (.i .i64)])] fun r16 w17 =>
Hold [(16, (p1.add 5), (w3.cell? (p1.add 5)).getD undef), (13, (p1.add 4), (w3.cell? (p1.add 4)).getD undef), (10, (p1.add 3), (w3.cell? (p1.add 3)).getD undef), (7, (p1.add 2), (w3.cell? (p1.add 2)).getD undef), (4, (p1.add 1), (w3.cell? (p1.add 1)).getD undef), (1, p1, (w3.cell? p1).getD undef)] w17 ∧ (
clS Tryz.prog F.frame_hops [.int .i64 x8] w17 false [(true, [(.i .i64), (.i .i64), (.i .i64)])] fun r18 w19 =>
Hold [(16, (p1.add 5), (w3.cell? (p1.add 5)).getD undef), (13, (p1.add 4), (w3.cell? (p1.add 4)).getD undef), (10, (p1.add 3), (w3.cell? (p1.add 3)).getD undef), (7, (p1.add 2), (w3.cell? (p1.add 2)).getD undef), (4, (p1.add 1), (w3.cell? (p1.add 1)).getD undef), (1, p1, (w3.cell? p1).getD undef)] w19 ∧ (
clS Tryz.prog F.frame_time [.int .i64 x9] w19 false [(true, [(.i .i64), (.i .i64), (.i .i64)])] fun r20 w21 =>
Hold [(16, (p1.add 5), (w3.cell? (p1.add 5)).getD undef), (13, (p1.add 4), (w3.cell? (p1.add 4)).getD undef), (10, (p1.add 3), (w3.cell? (p1.add 3)).getD undef), (7, (p1.add 2), (w3.cell? (p1.add 2)).getD undef), (4, (p1.add 1), (w3.cell? (p1.add 1)).getD undef), (1, p1, (w3.cell? p1).getD undef)] w21 ∧ (
alK [.int .i64 r10.1.1, .int .i64 r10.1.2.1, .int .i64 r10.1.2.2.1, .int .i64 r12.1.1, .int .i64 r12.1.2.1, .int .i64 r12.1.2.2.1, .int .i64 r14.1.1, .int .i64 r14.1.2.1, .int .i64 r14.1.2.2.1, .int .i64 r16.1.1, .int .i64 r16.1.2.1, .int .i64 r16.1.2.2.1, .int .i64 r18.1.1, .int .i64 r18.1.2.1, .int .i64 r18.1.2.2.1, .int .i64 r20.1.1, .int .i64 r20.1.2.1, .int .i64 r20.1.2.2.1] T.frame_field w21 fun p22 w23 =>
Hold [(16, (p1.add 5), (w3.cell? (p1.add 5)).getD undef), (13, (p1.add 4), (w3.cell? (p1.add 4)).getD undef), (10, (p1.add 3), (w3.cell? (p1.add 3)).getD undef), (7, (p1.add 2), (w3.cell? (p1.add 2)).getD undef), (4, (p1.add 1), (w3.cell? (p1.add 1)).getD undef), (1, p1, (w3.cell? p1).getD undef)] w23 ∧ (
R (((some p22, 6, 6), ()), ()) w23)))))))
set_option maxRecDepth 100000 in
theorem frame_Sync_fields.eq (f0 : Int) (f1 : Int) (f2 : Int) (f3 : Int) (f4 : Int) (f5 : Int) (w : World) (R : Value → World → Prop) : wpF Tryz.prog Tryz.f282 (.s .n (.s (.pl (.tk 0 (.tk 1 (.tk 3 (.tk 4 (.tk 6 (.tk 7 (.tk 9 (.tk 10 (.tk 12 (.tk 13 (.tk 15 (.tk 16 (.ef 2 [] (.ef 5 [] (.ef 8 [] (.ef 11 [] (.ef 14 [] (.ef 17 [] (.ef 18 [] (.tk 19 .z))))))))))))))))))))) .n)) [.agg #[.int .i64 f0, .int .i64 f1, .int .u16 f2, .int .u16 f3, .int .i64 f4, .int .i64 f5]] w R = frame_Sync_fields.wp f0 f1 f2 f3 f4 f5 w (fun r w => R (encR false [(false, [.sl])] r) w) := by kernel_rfl
set_option maxRecDepth 100000 in
theorem frame_Sync_fields.ok {f0 : Int} {f1 : Int} {f2 : Int} {f3 : Int} {f4 : Int} {f5 : Int} {w : World} {R : TR [(false, [.sl])] → World → Prop} (h : frame_Sync_fields.wp f0 f1 f2 f3 f4 f5 w R) : clS Tryz.prog F.frame_Sync_fields [.agg #[.int .i64 f0, .int .i64 f1, .int .u16 f2, .int .u16 f3, .int .i64 f4, .int .i64 f5]] w false [(false, [.sl])] R :=
  ok_of Tryz_follows Tryz.func282 (fun R => frame_Sync_fields.wp f0 f1 f2 f3 f4 f5 w R) (frame_Sync_fields.eq f0 f1 f2 f3 f4 f5 w) rfl h
/-! ### frame_hops -/
set_option maxRecDepth 100000 in
def frame_hops.wp (n : Int) (w : World) (R : TR [(true, [(.i .i64), (.i .i64), (.i .i64)])] → World → Prop) : Prop :=
alK [.int .i64 0, .int .i64 0, .int .i64 0] T.frame_field w fun p1 w2 =>
stN [.int .i64 1, .int .i64 n, .int .i64 63] p1 0 w2 fun w3 =>
ldN [(.i .i64), (.i .i64), (.i .i64)] p1 0 w3 fun x4 =>
R ((x4.1, x4.2.1, x4.2.2.1, ()), ()) w3
set_option maxRecDepth 100000 in
theorem frame_hops.eq (n : Int) (w : World) (R : Value → World → Prop) : wpF Tryz.prog Tryz.f283 .n [.int .i64 n] w R = frame_hops.wp n w (fun r w => R (encR false [(true, [(.i .i64), (.i .i64), (.i .i64)])] r) w) := by kernel_rfl
set_option maxRecDepth 100000 in
theorem frame_hops.ok {n : Int} {w : World} {R : TR [(true, [(.i .i64), (.i .i64), (.i .i64)])] → World → Prop} (h : frame_hops.wp n w R) : clS Tryz.prog F.frame_hops [.int .i64 n] w false [(true, [(.i .i64), (.i .i64), (.i .i64)])] R :=
  ok_of Tryz_follows Tryz.func283 (fun R => frame_hops.wp n w R) (frame_hops.eq n w) rfl h
/-! ### frame_Want_fields -/
set_option maxRecDepth 100000 in
def frame_Want_fields.wp (f0 : Int) (w : World) (R : TR [(false, [.sl])] → World → Prop) : Prop :=
alK [.int .i64 f0] T.frame_Want w fun p1 w2 =>
ld1 (.i .i64) p1 w2 fun x3 =>
clS Tryz.prog F.frame_node [.int .i64 x3] w2 false [(true, [(.i .i64), (.i .i64), (.i .i64)])] fun r4 w5 =>
alK [.int .i64 r4.1.1, .int .i64 r4.1.2.1, .int .i64 r4.1.2.2.1] T.frame_field w5 fun p6 w7 =>
R (((some p6, 1, 1), ()), ()) w7
set_option maxRecDepth 100000 in
theorem frame_Want_fields.eq (f0 : Int) (w : World) (R : Value → World → Prop) : wpF Tryz.prog Tryz.f286 .n [.agg #[.int .i64 f0]] w R = frame_Want_fields.wp f0 w (fun r w => R (encR false [(false, [.sl])] r) w) := by kernel_rfl
set_option maxRecDepth 100000 in
theorem frame_Want_fields.ok {f0 : Int} {w : World} {R : TR [(false, [.sl])] → World → Prop} (h : frame_Want_fields.wp f0 w R) : clS Tryz.prog F.frame_Want_fields [.agg #[.int .i64 f0]] w false [(false, [.sl])] R :=
  ok_of Tryz_follows Tryz.func286 (fun R => frame_Want_fields.wp f0 w R) (frame_Want_fields.eq f0 w) rfl h
end Go.Proofs.YtnjmfbjgcfnanaaGreat
