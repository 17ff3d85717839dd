import Derived.Test.YtimdngcmbmamdaaNm
namespace Go.Proofs.Ytimdngcmbmamdaa
open Go.Eng
set_option linter.unusedVariables false
/-! ### frame_Anchor_fields -/
set_option maxRecDepth 100000 in
def frame_Anchor_fields.wp (f0 : Int) (f1 : Int) (f2 : Int) (f3 : Int) (f4 : Int) (f5 : Int) (w : World) (R : TR [(false, [.sl])] → World → Prop) : Prop :=
alK [.int .i64 f0, .int .u16 f1, .int .i64 f2, .int .u16 f3, .int .i64 f4, .int .i64 f5] T.frame_Anchor w fun p1 w2 =>
drK w2 fun w3 =>
ld1 (.i .i64) p1 w3 fun x4 =>
ld1 (.i .u16) (p1.add 1) w3 fun x5 =>
ld1 (.i .i64) (p1.add 2) w3 fun x6 =>
ld1 (.i .u16) (p1.add 3) w3 fun x7 =>
ld1 (.i .i64) (p1.add 4) w3 fun x8 =>
ld1 (.i .i64) (p1.add 5) w3 fun x9 =>
clS Try.prog F.frame_node [.int .i64 x4] w3 false [(true, [(.i .i64), (.i .i64), (.i .i64)])] fun r10 w11 =>
Hold [(16, (p1.add 5), (w3.cell? (p1.add 5)).getD undef), (13, (p1.add 4), (w3.cell? (p1.add 4)).getD undef), (10, (p1.add 3), (w3.cell? (p1.add 3)).getD undef), (7, (p1.add 2), (w3.cell? (p1.add 2)).getD undef), (4, (p1.add 1), (w3.cell? (p1.add 1)).getD undef), (1, p1, (w3.cell? p1).getD undef)] w11 ∧ (
clS Try.prog F.frame_short [.int .u16 x5] w11 false [(true, [(.i .i64), (.i .i64), (.i .i64)])] fun r12 w13 =>
Hold [(16, (p1.add 5), (w3.cell? (p1.add 5)).getD undef), (13, (p1.add 4), (w3.cell? (p1.add 4)).getD undef), (10, (p1.add 3), (w3.cell? (p1.add 3)).getD undef), (7, (p1.add 2), (w3.cell? (p1.add 2)).getD undef), (4, (p1.add 1), (w3.cell? (p1.add 1)).getD undef), (1, p1, (w3.cell? p1).getD undef)] w13 ∧ (
clS Try.prog F.frame_node [.int .i64 x6] w13 false [(true, [(.i .i64), (.i .i64), (.i .i64)])] fun r14 w15 =>
Hold [(16, (p1.add 5), (w3.cell? (p1.add 5)).getD undef), (13, (p1.add 4), (w3.cell? (p1.add 4)).getD undef), (10, (p1.add 3), (w3.cell? (p1.add 3)).getD undef), (7, (p1.add 2), (w3.cell? (p1.add 2)).getD undef), (4, (p1.add 1), (w3.cell? (p1.add 1)).getD undef), (1, p1, (w3.cell? p1).getD undef)] w15 ∧ (
clS Try.prog F.frame_short [.int .u16 x7] w15 false [(true, [(.i .i64), (.i .i64), (.i .i64)])] fun r16 w17 =>
Hold [(16, (p1.add 5), (w3.cell? (p1.add 5)).getD undef), (13, (p1.add 4), (w3.cell? (p1.add 4)).getD undef), (10, (p1.add 3), (w3.cell? (p1.add 3)).getD undef), (7, (p1.add 2), (w3.cell? (p1.add 2)).getD undef), (4, (p1.add 1), (w3.cell? (p1.add 1)).getD undef), (1, p1, (w3.cell? p1).getD undef)] w17 ∧ (
clS Try.prog F.frame_time [.int .i64 x8] w17 false [(true, [(.i .i64), (.i .i64), (.i .i64)])] fun r18 w19 =>
Hold [(16, (p1.add 5), (w3.cell? (p1.add 5)).getD undef), (13, (p1.add 4), (w3.cell? (p1.add 4)).getD undef), (10, (p1.add 3), (w3.cell? (p1.add 3)).getD undef), (7, (p1.add 2), (w3.cell? (p1.add 2)).getD undef), (4, (p1.add 1), (w3.cell? (p1.add 1)).getD undef), (1, p1, (w3.cell? p1).getD undef)] w19 ∧ (
clS Try.prog F.frame_time [.int .i64 x9] w19 false [(true, [(.i .i64), (.i .i64), (.i .i64)])] fun r20 w21 =>
Hold [(16, (p1.add 5), (w3.cell? (p1.add 5)).getD undef), (13, (p1.add 4), (w3.cell? (p1.add 4)).getD undef), (10, (p1.add 3), (w3.cell? (p1.add 3)).getD undef), (7, (p1.add 2), (w3.cell? (p1.add 2)).getD undef), (4, (p1.add 1), (w3.cell? (p1.add 1)).getD undef), (1, p1, (w3.cell? p1).getD undef)] w21 ∧ (
alK [.int .i64 r10.1.1, .int .i64 r10.1.2.1, .int .i64 r10.1.2.2.1, .int .i64 r12.1.1, .int .i64 r12.1.2.1, .int .i64 r12.1.2.2.1, .int .i64 r14.1.1, .int .i64 r14.1.2.1, .int .i64 r14.1.2.2.1, .int .i64 r16.1.1, .int .i64 r16.1.2.1, .int .i64 r16.1.2.2.1, .int .i64 r18.1.1, .int .i64 r18.1.2.1, .int .i64 r18.1.2.2.1, .int .i64 r20.1.1, .int .i64 r20.1.2.1, .int .i64 r20.1.2.2.1] T.frame_field w21 fun p22 w23 =>
Hold [(16, (p1.add 5), (w3.cell? (p1.add 5)).getD undef), (13, (p1.add 4), (w3.cell? (p1.add 4)).getD undef), (10, (p1.add 3), (w3.cell? (p1.add 3)).getD undef), (7, (p1.add 2), (w3.cell? (p1.add 2)).getD undef), (4, (p1.add 1), (w3.cell? (p1.add 1)).getD undef), (1, p1, (w3.cell? p1).getD undef)] w23 ∧ (
R (((some p22, 6, 6), ()), ()) w23)))))))
set_option maxRecDepth 100000 in
theorem frame_Anchor_fields.eq (f0 : Int) (f1 : Int) (f2 : Int) (f3 : Int) (f4 : Int) (f5 : Int) (w : World) (R : Value → World → Prop) : wpF Try.prog Try.f121 (.s .n (.s (.pl (.tk 0 (.tk 1 (.tk 3 (.tk 4 (.tk 6 (.tk 7 (.tk 9 (.tk 10 (.tk 12 (.tk 13 (.tk 15 (.tk 16 (.ef 2 [] (.ef 5 [] (.ef 8 [] (.ef 11 [] (.ef 14 [] (.ef 17 [] (.ef 18 [] (.tk 19 .z))))))))))))))))))))) .n)) [.agg #[.int .i64 f0, .int .u16 f1, .int .i64 f2, .int .u16 f3, .int .i64 f4, .int .i64 f5]] w R = frame_Anchor_fields.wp f0 f1 f2 f3 f4 f5 w (fun r w => R (encR false [(false, [.sl])] r) w) := by kernel_rfl
set_option maxRecDepth 100000 in
theorem frame_Anchor_fields.ok {f0 : Int} {f1 : Int} {f2 : Int} {f3 : Int} {f4 : Int} {f5 : Int} {w : World} {R : TR [(false, [.sl])] → World → Prop} (h : frame_Anchor_fields.wp f0 f1 f2 f3 f4 f5 w R) : clS Try.prog F.frame_Anchor_fields [.agg #[.int .i64 f0, .int .u16 f1, .int .i64 f2, .int .u16 f3, .int .i64 f4, .int .i64 f5]] w false [(false, [.sl])] R :=
  ok_of Try_follows Try.func121 (fun R => frame_Anchor_fields.wp f0 f1 f2 f3 f4 f5 w R) (frame_Anchor_fields.eq f0 f1 f2 f3 f4 f5 w) rfl h
/-! ### frame_node -/
set_option maxRecDepth 100000 in
def frame_node.wp (n : Int) (w : World) (R : TR [(true, [(.i .i64), (.i .i64), (.i .i64)])] → World → Prop) : Prop :=
alK [.int .i64 0, .int .i64 0, .int .i64 0] T.frame_field w fun p1 w2 =>
stN [.int .i64 1, .int .i64 n, .int .i64 63] p1 0 w2 fun w3 =>
ldN [(.i .i64), (.i .i64), (.i .i64)] p1 0 w3 fun x4 =>
R ((x4.1, x4.2.1, x4.2.2.1, ()), ()) w3
set_option maxRecDepth 100000 in
theorem frame_node.eq (n : Int) (w : World) (R : Value → World → Prop) : wpF Try.prog Try.f122 .n [.int .i64 n] w R = frame_node.wp n w (fun r w => R (encR false [(true, [(.i .i64), (.i .i64), (.i .i64)])] r) w) := by kernel_rfl
set_option maxRecDepth 100000 in
theorem frame_node.ok {n : Int} {w : World} {R : TR [(true, [(.i .i64), (.i .i64), (.i .i64)])] → World → Prop} (h : frame_node.wp n w R) : clS Try.prog F.frame_node [.int .i64 n] w false [(true, [(.i .i64), (.i .i64), (.i .i64)])] R :=
  ok_of Try_follows Try.func122 (fun R => frame_node.wp n w R) (frame_node.eq n w) rfl h
/-! ### frame_short -/
set_option maxRecDepth 100000 in
def frame_short.wp (n : Int) (w : World) (R : TR [(true, [(.i .i64), (.i .i64), (.i .i64)])] → World → Prop) : Prop :=
alK [.int .i64 0, .int .i64 0, .int .i64 0] T.frame_field w fun p1 w2 =>
stN [.int .i64 2, .int .i64 (IntKind.wrap .i64 n), .int .i64 65535] p1 0 w2 fun w3 =>
ldN [(.i .i64), (.i .i64), (.i .i64)] p1 0 w3 fun x4 =>
R ((x4.1, x4.2.1, x4.2.2.1, ()), ()) w3
set_option maxRecDepth 100000 in
theorem frame_short.eq (n : Int) (w : World) (R : Value → World → Prop) : wpF Try.prog Try.f123 .n [.int .u16 n] w R = frame_short.wp n w (fun r w => R (encR false [(true, [(.i .i64), (.i .i64), (.i .i64)])] r) w) := by kernel_rfl
set_option maxRecDepth 100000 in
theorem frame_short.ok {n : Int} {w : World} {R : TR [(true, [(.i .i64), (.i .i64), (.i .i64)])] → World → Prop} (h : frame_short.wp n w R) : clS Try.prog F.frame_short [.int .u16 n] w false [(true, [(.i .i64), (.i .i64), (.i .i64)])] R :=
  ok_of Try_follows Try.func123 (fun R => frame_short.wp n w R) (frame_short.eq n w) rfl h
/-! ### frame_time -/
set_option maxRecDepth 100000 in
def frame_time.wp (n : Int) (w : World) (R : TR [(true, [(.i .i64), (.i .i64), (.i .i64)])] → World → Prop) : Prop :=
alK [.int .i64 0, .int .i64 0, .int .i64 0] T.frame_field w fun p1 w2 =>
stN [.int .i64 8, .int .i64 n, .int .i64 1125899906842624] p1 0 w2 fun w3 =>
ldN [(.i .i64), (.i .i64), (.i .i64)] p1 0 w3 fun x4 =>
R ((x4.1, x4.2.1, x4.2.2.1, ()), ()) w3
set_option maxRecDepth 100000 in
theorem frame_time.eq (n : Int) (w : World) (R : Value → World → Prop) : wpF Try.prog Try.f124 .n [.int .i64 n] w R = frame_time.wp n w (fun r w => R (encR false [(true, [(.i .i64), (.i .i64), (.i .i64)])] r) w) := by kernel_rfl
set_option maxRecDepth 100000 in
theorem frame_time.ok {n : Int} {w : World} {R : TR [(true, [(.i .i64), (.i .i64), (.i .i64)])] → World → Prop} (h : frame_time.wp n w R) : clS Try.prog F.frame_time [.int .i64 n] w false [(true, [(.i .i64), (.i .i64), (.i .i64)])] R :=
  ok_of Try_follows Try.func124 (fun R => frame_time.wp n w R) (frame_time.eq n w) rfl h
/-! ### frame_Sync_fields -/
set_option maxRecDepth 100000 in
def frame_Sync_fields.wp (f0 : Int) (f1 : Int) (f2 : Int) (f3 : Int) (f4 : Int) (f5 : Int) (w : World) (R : TR [(false, [.sl])] → World → Prop) : Prop :=
alK [.int .i64 f0, .int .i64 f1, .int .u16 f2, .int .u16 f3, .int .i64 f4, .int .i64 f5] T.frame_Sync w fun p1 w2 =>
drK w2 fun w3 =>
ld1 (.i .i64) p1 w3 fun x4 =>
ld1 (.i .i64) (p1.add 1) w3 fun x5 =>
ld1 (.i .u16) (p1.add 2) w3 fun x6 =>
ld1 (.i .u16) (p1.add 3) w3 fun x7 =>
ld1 (.i .i64) (p1.add 4) w3 fun x8 =>
ld1 (.i .i64) (p1.add 5) w3 fun x9 =>
clS Try.prog F.frame_node [.int .i64 x4] w3 false [(true, [(.i .i64), (.i .i64), (.i .i64)])] fun r10 w11 =>
Hold [(16, (p1.add 5), (w3.cell? (p1.add 5)).getD undef), (13, (p1.add 4), (w3.cell? (p1.add 4)).getD undef), (10, (p1.add 3), (w3.cell? (p1.add 3)).getD undef), (7, (p1.add 2), (w3.cell? (p1.add 2)).getD undef), (4, (p1.add 1), (w3.cell? (p1.add 1)).getD undef), (1, p1, (w3.cell? p1).getD undef)] w11 ∧ (
clS Try.prog F.frame_node [.int .i64 x5] w11 false [(true, [(.i .i64), (.i .i64), (.i .i64)])] fun r12 w13 =>
Hold [(16, (p1.add 5), (w3.cell? (p1.add 5)).getD undef), (13, (p1.add 4), (w3.cell? (p1.add 4)).getD undef), (10, (p1.add 3), (w3.cell? (p1.add 3)).getD undef), (7, (p1.add 2), (w3.cell? (p1.add 2)).getD undef), (4, (p1.add 1), (w3.cell? (p1.add 1)).getD undef), (1, p1, (w3.cell? p1).getD undef)] w13 ∧ (
clS Try.prog F.frame_short [.int .u16 x6] w13 false [(true, [(.i .i64), (.i .i64), (.i .i64)])] fun r14 w15 =>
Hold [(16, (p1.add 5), (w3.cell? (p1.add 5)).getD undef), (13, (p1.add 4), (w3.cell? (p1.add 4)).getD undef), (10, (p1.add 3), (w3.cell? (p1.add 3)).getD undef), (7, (p1.add 2), (w3.cell? (p1.add 2)).getD undef), (4, (p1.add 1), (w3.cell? (p1.add 1)).getD undef), (1, p1, (w3.cell? p1).getD undef)] w15 ∧ (
clS Try.prog F.frame_short [.int .u16 x7] w15 false [(true, [(.i .i64), (.i .i64), (.i .i64)])] fun r16 w17 =>
Hold [(16, (p1.add 5), (w3.cell? (p1.add 5)).getD undef), (13, (p1.add 4), (w3.cell? (p1.add 4)).getD undef), (10, (p1.add 3), (w3.cell? (p1.add 3)).getD undef), (7, (p1.add 2), (w3.cell? (p1.add 2)).getD undef), (4, (p1.add 1), (w3.cell? (p1.add 1)).getD undef), (1, p1, (w3.cell? p1).getD undef)] w17 ∧ (
clS Try.prog F.frame_hops [.int .i64 x8] w17 false [(true, [(.i .i64), (.i .i64), (.i .i64)])] fun r18 w19 =>
Hold [(16, (p1.add 5), (w3.cell? (p1.add 5)).getD undef), (13, (p1.add 4), (w3.cell? (p1.add 4)).getD undef), (10, (p1.add 3), (w3.cell? (p1.add 3)).getD undef), (7, (p1.add 2), (w3.cell? (p1.add 2)).getD undef), (4, (p1.add 1), (w3.cell? (p1.add 1)).getD undef), (1, p1, (w3.cell? p1).getD undef)] w19 ∧ (
clS Try.prog F.frame_time [.int .i64 x9] w19 false [(true, [(.i .i64), (.i .i64), (.i .i64)])] fun r20 w21 =>
Hold [(16, (p1.add 5), (w3.cell? (p1.add 5)).getD undef), (13, (p1.add 4), (w3.cell? (p1.add 4)).getD undef), (10, (p1.add 3), (w3.cell? (p1.add 3)).getD undef), (7, (p1.add 2), (w3.cell? (p1.add 2)).getD undef), (4, (p1.add 1), (w3.cell? (p1.add 1)).getD undef), (1, p1, (w3.cell? p1).getD undef)] w21 ∧ (
alK [.int .i64 r10.1.1, .int .i64 r10.1.2.1, .int .i64 r10.1.2.2.1, .int .i64 r12.1.1, .int .i64 r12.1.2.1, .int .i64 r12.1.2.2.1, .int .i64 r14.1.1, .int .i64 r14.1.2.1, .int .i64 r14.1.2.2.1, .int .i64 r16.1.1, .int .i64 r16.1.2.1, .int .i64 r16.1.2.2.1, .int .i64 r18.1.1, .int .i64 r18.1.2.1, .int .i64 r18.1.2.2.1, .int .i64 r20.1.1, .int .i64 r20.1.2.1, .int .i64 r20.1.2.2.1] T.frame_field w21 fun p22 w23 =>
Hold [(16, (p1.add 5), (w3.cell? (p1.add 5)).getD undef), (13, (p1.add 4), (w3.cell? (p1.add 4)).getD undef), (10, (p1.add 3), (w3.cell? (p1.add 3)).getD undef), (7, (p1.add 2), (w3.cell? (p1.add 2)).getD undef), (4, (p1.add 1), (w3.cell? (p1.add 1)).getD undef), (1, p1, (w3.cell? p1).getD undef)] w23 ∧ (
R (((some p22, 6, 6), ()), ()) w23)))))))
set_option maxRecDepth 100000 in
theorem frame_Sync_fields.eq (f0 : Int) (f1 : Int) (f2 : Int) (f3 : Int) (f4 : Int) (f5 : Int) (w : World) (R : Value → World → Prop) : wpF Try.prog Try.f126 (.s .n (.s (.pl (.tk 0 (.tk 1 (.tk 3 (.tk 4 (.tk 6 (.tk 7 (.tk 9 (.tk 10 (.tk 12 (.tk 13 (.tk 15 (.tk 16 (.ef 2 [] (.ef 5 [] (.ef 8 [] (.ef 11 [] (.ef 14 [] (.ef 17 [] (.ef 18 [] (.tk 19 .z))))))))))))))))))))) .n)) [.agg #[.int .i64 f0, .int .i64 f1, .int .u16 f2, .int .u16 f3, .int .i64 f4, .int .i64 f5]] w R = frame_Sync_fields.wp f0 f1 f2 f3 f4 f5 w (fun r w => R (encR false [(false, [.sl])] r) w) := by kernel_rfl
set_option maxRecDepth 100000 in
theorem frame_Sync_fields.ok {f0 : Int} {f1 : Int} {f2 : Int} {f3 : Int} {f4 : Int} {f5 : Int} {w : World} {R : TR [(false, [.sl])] → World → Prop} (h : frame_Sync_fields.wp f0 f1 f2 f3 f4 f5 w R) : clS Try.prog F.frame_Sync_fields [.agg #[.int .i64 f0, .int .i64 f1, .int .u16 f2, .int .u16 f3, .int .i64 f4, .int .i64 f5]] w false [(false, [.sl])] R :=
  ok_of Try_follows Try.func126 (fun R => frame_Sync_fields.wp f0 f1 f2 f3 f4 f5 w R) (frame_Sync_fields.eq f0 f1 f2 f3 f4 f5 w) rfl h
/-! ### frame_hops -/
set_option maxRecDepth 100000 in
def frame_hops.wp (n : Int) (w : World) (R : TR [(true, [(.i .i64), (.i .i64), (.i .i64)])] → World → Prop) : Prop :=
alK [.int .i64 0, .int .i64 0, .int .i64 0] T.frame_field w fun p1 w2 =>
stN [.int .i64 1, .int .i64 n, .int .i64 63] p1 0 w2 fun w3 =>
ldN [(.i .i64), (.i .i64), (.i .i64)] p1 0 w3 fun x4 =>
R ((x4.1, x4.2.1, x4.2.2.1, ()), ()) w3
set_option maxRecDepth 100000 in
theorem frame_hops.eq (n : Int) (w : World) (R : Value → World → Prop) : wpF Try.prog Try.f127 .n [.int .i64 n] w R = frame_hops.wp n w (fun r w => R (encR false [(true, [(.i .i64), (.i .i64), (.i .i64)])] r) w) := by kernel_rfl
set_option maxRecDepth 100000 in
theorem frame_hops.ok {n : Int} {w : World} {R : TR [(true, [(.i .i64), (.i .i64), (.i .i64)])] → World → Prop} (h : frame_hops.wp n w R) : clS Try.prog F.frame_hops [.int .i64 n] w false [(true, [(.i .i64), (.i .i64), (.i .i64)])] R :=
  ok_of Try_follows Try.func127 (fun R => frame_hops.wp n w R) (frame_hops.eq n w) rfl h
/-! ### frame_Find_fields -/
set_option maxRecDepth 100000 in
def frame_Find_fields.wp (f0 : Int) (f1 : Int) (w : World) (R : TR [(false, [.sl])] → World → Prop) : Prop :=
alK [.int .i64 f0, .int .i64 f1] T.frame_Find w fun p1 w2 =>
drK w2 fun w3 =>
ld1 (.i .i64) p1 w3 fun x4 =>
ld1 (.i .i64) (p1.add 1) w3 fun x5 =>
clS Try.prog F.frame_node [.int .i64 x4] w3 false [(true, [(.i .i64), (.i .i64), (.i .i64)])] fun r6 w7 =>
Hold [(4, (p1.add 1), (w3.cell? (p1.add 1)).getD undef), (1, p1, (w3.cell? p1).getD undef)] w7 ∧ (
clS Try.prog F.frame_hops [.int .i64 x5] w7 false [(true, [(.i .i64), (.i .i64), (.i .i64)])] fun r8 w9 =>
Hold [(4, (p1.add 1), (w3.cell? (p1.add 1)).getD undef), (1, p1, (w3.cell? p1).getD undef)] w9 ∧ (
alK [.int .i64 r6.1.1, .int .i64 r6.1.2.1, .int .i64 r6.1.2.2.1, .int .i64 r8.1.1, .int .i64 r8.1.2.1, .int .i64 r8.1.2.2.1] T.frame_field w9 fun p10 w11 =>
Hold [(4, (p1.add 1), (w3.cell? (p1.add 1)).getD undef), (1, p1, (w3.cell? p1).getD undef)] w11 ∧ (
R (((some p10, 2, 2), ()), ()) w11)))
set_option maxRecDepth 100000 in
theorem frame_Find_fields.eq (f0 : Int) (f1 : Int) (w : World) (R : Value → World → Prop) : wpF Try.prog Try.f129 (.s .n (.s (.pl (.tk 0 (.tk 1 (.tk 3 (.tk 4 (.ef 2 [] (.ef 5 [] (.ef 6 [] (.tk 7 .z))))))))) .n)) [.agg #[.int .i64 f0, .int .i64 f1]] w R = frame_Find_fields.wp f0 f1 w (fun r w => R (encR false [(false, [.sl])] r) w) := by kernel_rfl
set_option maxRecDepth 100000 in
theorem frame_Find_fields.ok {f0 : Int} {f1 : Int} {w : World} {R : TR [(false, [.sl])] → World → Prop} (h : frame_Find_fields.wp f0 f1 w R) : clS Try.prog F.frame_Find_fields [.agg #[.int .i64 f0, .int .i64 f1]] w false [(false, [.sl])] R :=
  ok_of Try_follows Try.func129 (fun R => frame_Find_fields.wp f0 f1 w R) (frame_Find_fields.eq f0 f1 w) rfl h
/-! ### frame_Want_fields -/
set_option maxRecDepth 100000 in
def frame_Want_fields.wp (f0 : Int) (w : World) (R : TR [(false, [.sl])] → World → Prop) : Prop :=
alK [.int .i64 f0] T.frame_Want w fun p1 w2 =>
ld1 (.i .i64) p1 w2 fun x3 =>
clS Try.prog F.frame_node [.int .i64 x3] w2 false [(true, [(.i .i64), (.i .i64), (.i .i64)])] fun r4 w5 =>
alK [.int .i64 r4.1.1, .int .i64 r4.1.2.1, .int .i64 r4.1.2.2.1] T.frame_field w5 fun p6 w7 =>
R (((some p6, 1, 1), ()), ()) w7
set_option maxRecDepth 100000 in
theorem frame_Want_fields.eq (f0 : Int) (w : World) (R : Value → World → Prop) : wpF Try.prog Try.f131 .n [.agg #[.int .i64 f0]] w R = frame_Want_fields.wp f0 w (fun r w => R (encR false [(false, [.sl])] r) w) := by kernel_rfl
set_option maxRecDepth 100000 in
theorem frame_Want_fields.ok {f0 : Int} {w : World} {R : TR [(false, [.sl])] → World → Prop} (h : frame_Want_fields.wp f0 w R) : clS Try.prog F.frame_Want_fields [.agg #[.int .i64 f0]] w false [(false, [.sl])] R :=
  ok_of Try_follows Try.func131 (fun R => frame_Want_fields.wp f0 w R) (frame_Want_fields.eq f0 w) rfl h
/-! ### frame_Pulse_fields -/
set_option maxRecDepth 100000 in
def frame_Pulse_fields.wp (f0 : Int) (f1 : Int) (f2 : Int) (w : World) (R : TR [(false, [.sl])] → World → Prop) : Prop :=
alK [.int .i64 f0, .int .i64 f1, .int .i64 f2] T.frame_Pulse w fun p1 w2 =>
drK w2 fun w3 =>
ld1 (.i .i64) p1 w3 fun x4 =>
ld1 (.i .i64) (p1.add 1) w3 fun x5 =>
ld1 (.i .i64) (p1.add 2) w3 fun x6 =>
clS Try.prog F.frame_node [.int .i64 x4] w3 false [(true, [(.i .i64), (.i .i64), (.i .i64)])] fun r7 w8 =>
Hold [(7, (p1.add 2), (w3.cell? (p1.add 2)).getD undef), (4, (p1.add 1), (w3.cell? (p1.add 1)).getD undef), (1, p1, (w3.cell? p1).getD undef)] w8 ∧ (
clS Try.prog F.frame_node [.int .i64 x5] w8 false [(true, [(.i .i64), (.i .i64), (.i .i64)])] fun r9 w10 =>
Hold [(7, (p1.add 2), (w3.cell? (p1.add 2)).getD undef), (4, (p1.add 1), (w3.cell? (p1.add 1)).getD undef), (1, p1, (w3.cell? p1).getD undef)] w10 ∧ (
clS Try.prog F.frame_time [.int .i64 x6] w10 false [(true, [(.i .i64), (.i .i64), (.i .i64)])] fun r11 w12 =>
Hold [(7, (p1.add 2), (w3.cell? (p1.add 2)).getD undef), (4, (p1.add 1), (w3.cell? (p1.add 1)).getD undef), (1, p1, (w3.cell? p1).getD undef)] w12 ∧ (
alK [.int .i64 r7.1.1, .int .i64 r7.1.2.1, .int .i64 r7.1.2.2.1, .int .i64 r9.1.1, .int .i64 r9.1.2.1, .int .i64 r9.1.2.2.1, .int .i64 r11.1.1, .int .i64 r11.1.2.1, .int .i64 r11.1.2.2.1] T.frame_field w12 fun p13 w14 =>
Hold [(7, (p1.add 2), (w3.cell? (p1.add 2)).getD undef), (4, (p1.add 1), (w3.cell? (p1.add 1)).getD undef), (1, p1, (w3.cell? p1).getD undef)] w14 ∧ (
R (((some p13, 3, 3), ()), ()) w14))))
set_option maxRecDepth 100000 in
theorem frame_Pulse_fields.eq (f0 : Int) (f1 : Int) (f2 : Int) (w : World) (R : Value → World → Prop) : wpF Try.prog Try.f133 (.s .n (.s (.pl (.tk 0 (.tk 1 (.tk 3 (.tk 4 (.tk 6 (.tk 7 (.ef 2 [] (.ef 5 [] (.ef 8 [] (.ef 9 [] (.tk 10 .z)))))))))))) .n)) [.agg #[.int .i64 f0, .int .i64 f1, .int .i64 f2]] w R = frame_Pulse_fields.wp f0 f1 f2 w (fun r w => R (encR false [(false, [.sl])] r) w) := by kernel_rfl
set_option maxRecDepth 100000 in
theorem frame_Pulse_fields.ok {f0 : Int} {f1 : Int} {f2 : Int} {w : World} {R : TR [(false, [.sl])] → World → Prop} (h : frame_Pulse_fields.wp f0 f1 f2 w R) : clS Try.prog F.frame_Pulse_fields [.agg #[.int .i64 f0, .int .i64 f1, .int .i64 f2]] w false [(false, [.sl])] R :=
  ok_of Try_follows Try.func133 (fun R => frame_Pulse_fields.wp f0 f1 f2 w R) (frame_Pulse_fields.eq f0 f1 f2 w) rfl h
/-! ### frame_Reply_fields -/
set_option maxRecDepth 100000 in
def frame_Reply_fields.wp (f0 : Int) (f1 : Int) (f2 : Int) (f3 : Int) (f4 : Int) (f5 : Int) (f6 : Int) (f7 : Int) (w : World) (R : TR [(false, [.sl])] → World → Prop) : Prop :=
alK [.int .i64 f0, .int .i64 f1, .int .i64 f2, .int .i64 f3, .int .i64 f4, .int .i64 f5, .int .u16 f6, .int .i64 f7] T.frame_Reply w fun p1 w2 =>
drK w2 fun w3 =>
ld1 (.i .i64) p1 w3 fun x4 =>
ld1 (.i .i64) (p1.add 1) w3 fun x5 =>
ld1 (.i .i64) (p1.add 2) w3 fun x6 =>
ld1 (.i .i64) (p1.add 3) w3 fun x7 =>
ld1 (.i .i64) (p1.add 4) w3 fun x8 =>
ld1 (.i .i64) (p1.add 5) w3 fun x9 =>
ld1 (.i .u16) (p1.add 6) w3 fun x10 =>
ld1 (.i .i64) (p1.add 7) w3 fun x11 =>
clS Try.prog F.frame_node [.int .i64 x4] w3 false [(true, [(.i .i64), (.i .i64), (.i .i64)])] fun r12 w13 =>
Hold [(22, (p1.add 7), (w3.cell? (p1.add 7)).getD undef), (19, (p1.add 6), (w3.cell? (p1.add 6)).getD undef), (16, (p1.add 5), (w3.cell? (p1.add 5)).getD undef), (13, (p1.add 4), (w3.cell? (p1.add 4)).getD undef), (10, (p1.add 3), (w3.cell? (p1.add 3)).getD undef), (7, (p1.add 2), (w3.cell? (p1.add 2)).getD undef), (4, (p1.add 1), (w3.cell? (p1.add 1)).getD undef), (1, p1, (w3.cell? p1).getD undef)] w13 ∧ (
clS Try.prog F.frame_node [.int .i64 x5] w13 false [(true, [(.i .i64), (.i .i64), (.i .i64)])] fun r14 w15 =>
Hold [(22, (p1.add 7), (w3.cell? (p1.add 7)).getD undef), (19, (p1.add 6), (w3.cell? (p1.add 6)).getD undef), (16, (p1.add 5), (w3.cell? (p1.add 5)).getD undef), (13, (p1.add 4), (w3.cell? (p1.add 4)).getD undef), (10, (p1.add 3), (w3.cell? (p1.add 3)).getD undef), (7, (p1.add 2), (w3.cell? (p1.add 2)).getD undef), (4, (p1.add 1), (w3.cell? (p1.add 1)).getD undef), (1, p1, (w3.cell? p1).getD undef)] w15 ∧ (
clS Try.prog F.frame_time [.int .i64 x6] w15 false [(true, [(.i .i64), (.i .i64), (.i .i64)])] fun r16 w17 =>
Hold [(22, (p1.add 7), (w3.cell? (p1.add 7)).getD undef), (19, (p1.add 6), (w3.cell? (p1.add 6)).getD undef), (16, (p1.add 5), (w3.cell? (p1.add 5)).getD undef), (13, (p1.add 4), (w3.cell? (p1.add 4)).getD undef), (10, (p1.add 3), (w3.cell? (p1.add 3)).getD undef), (7, (p1.add 2), (w3.cell? (p1.add 2)).getD undef), (4, (p1.add 1), (w3.cell? (p1.add 1)).getD undef), (1, p1, (w3.cell? p1).getD undef)] w17 ∧ (
clS Try.prog F.frame_time [.int .i64 x7] w17 false [(true, [(.i .i64), (.i .i64), (.i .i64)])] fun r18 w19 =>
Hold [(22, (p1.add 7), (w3.cell? (p1.add 7)).getD undef), (19, (p1.add 6), (w3.cell? (p1.add 6)).getD undef), (16, (p1.add 5), (w3.cell? (p1.add 5)).getD undef), (13, (p1.add 4), (w3.cell? (p1.add 4)).getD undef), (10, (p1.add 3), (w3.cell? (p1.add 3)).getD undef), (7, (p1.add 2), (w3.cell? (p1.add 2)).getD undef), (4, (p1.add 1), (w3.cell? (p1.add 1)).getD undef), (1, p1, (w3.cell? p1).getD undef)] w19 ∧ (
clS Try.prog F.frame_time [.int .i64 x8] w19 false [(true, [(.i .i64), (.i .i64), (.i .i64)])] fun r20 w21 =>
Hold [(22, (p1.add 7), (w3.cell? (p1.add 7)).getD undef), (19, (p1.add 6), (w3.cell? (p1.add 6)).getD undef), (16, (p1.add 5), (w3.cell? (p1.add 5)).getD undef), (13, (p1.add 4), (w3.cell? (p1.add 4)).getD undef), (10, (p1.add 3), (w3.cell? (p1.add 3)).getD undef), (7, (p1.add 2), (w3.cell? (p1.add 2)).getD undef), (4, (p1.add 1), (w3.cell? (p1.add 1)).getD undef), (1, p1, (w3.cell? p1).getD undef)] w21 ∧ (
clS Try.prog F.frame_node [.int .i64 x9] w21 false [(true, [(.i .i64), (.i .i64), (.i .i64)])] fun r22 w23 =>
Hold [(22, (p1.add 7), (w3.cell? (p1.add 7)).getD undef), (19, (p1.add 6), (w3.cell? (p1.add 6)).getD undef), (16, (p1.add 5), (w3.cell? (p1.add 5)).getD undef), (13, (p1.add 4), (w3.cell? (p1.add 4)).getD undef), (10, (p1.add 3), (w3.cell? (p1.add 3)).getD undef), (7, (p1.add 2), (w3.cell? (p1.add 2)).getD undef), (4, (p1.add 1), (w3.cell? (p1.add 1)).getD undef), (1, p1, (w3.cell? p1).getD undef)] w23 ∧ (
clS Try.prog F.frame_short [.int .u16 x10] w23 false [(true, [(.i .i64), (.i .i64), (.i .i64)])] fun r24 w25 =>
Hold [(22, (p1.add 7), (w3.cell? (p1.add 7)).getD undef), (19, (p1.add 6), (w3.cell? (p1.add 6)).getD undef), (16, (p1.add 5), (w3.cell? (p1.add 5)).getD undef), (13, (p1.add 4), (w3.cell? (p1.add 4)).getD undef), (10, (p1.add 3), (w3.cell? (p1.add 3)).getD undef), (7, (p1.add 2), (w3.cell? (p1.add 2)).getD undef), (4, (p1.add 1), (w3.cell? (p1.add 1)).getD undef), (1, p1, (w3.cell? p1).getD undef)] w25 ∧ (
clS Try.prog F.frame_hops [.int .i64 x11] w25 false [(true, [(.i .i64), (.i .i64), (.i .i64)])] fun r26 w27 =>
Hold [(22, (p1.add 7), (w3.cell? (p1.add 7)).getD undef), (19, (p1.add 6), (w3.cell? (p1.add 6)).getD undef), (16, (p1.add 5), (w3.cell? (p1.add 5)).getD undef), (13, (p1.add 4), (w3.cell? (p1.add 4)).getD undef), (10, (p1.add 3), (w3.cell? (p1.add 3)).getD undef), (7, (p1.add 2), (w3.cell? (p1.add 2)).getD undef), (4, (p1.add 1), (w3.cell? (p1.add 1)).getD undef), (1, p1, (w3.cell? p1).getD undef)] w27 ∧ (
alK [.int .i64 r12.1.1, .int .i64 r12.1.2.1, .int .i64 r12.1.2.2.1, .int .i64 r14.1.1, .int .i64 r14.1.2.1, .int .i64 r14.1.2.2.1, .int .i64 r16.1.1, .int .i64 r16.1.2.1, .int .i64 r16.1.2.2.1, .int .i64 r18.1.1, .int .i64 r18.1.2.1, .int .i64 r18.1.2.2.1, .int .i64 r20.1.1, .int .i64 r20.1.2.1, .int .i64 r20.1.2.2.1, .int .i64 r22.1.1, .int .i64 r22.1.2.1, .int .i64 r22.1.2.2.1, .int .i64 r24.1.1, .int .i64 r24.1.2.1, .int .i64 r24.1.2.2.1, .int .i64 r26.1.1, .int .i64 r26.1.2.1, .int .i64 r26.1.2.2.1] T.frame_field w27 fun p28 w29 =>
Hold [(22, (p1.add 7), (w3.cell? (p1.add 7)).getD undef), (19, (p1.add 6), (w3.cell? (p1.add 6)).getD undef), (16, (p1.add 5), (w3.cell? (p1.add 5)).getD undef), (13, (p1.add 4), (w3.cell? (p1.add 4)).getD undef), (10, (p1.add 3), (w3.cell? (p1.add 3)).getD undef), (7, (p1.add 2), (w3.cell? (p1.add 2)).getD undef), (4, (p1.add 1), (w3.cell? (p1.add 1)).getD undef), (1, p1, (w3.cell? p1).getD undef)] w29 ∧ (
R (((some p28, 8, 8), ()), ()) w29)))))))))
set_option maxRecDepth 100000 in
theorem frame_Reply_fields.eq (f0 : Int) (f1 : Int) (f2 : Int) (f3 : Int) (f4 : Int) (f5 : Int) (f6 : Int) (f7 : Int) (w : World) (R : Value → World → Prop) : wpF Try.prog Try.f135 (.s .n (.s (.pl (.tk 0 (.tk 1 (.tk 3 (.tk 4 (.tk 6 (.tk 7 (.tk 9 (.tk 10 (.tk 12 (.tk 13 (.tk 15 (.tk 16 (.tk 18 (.tk 19 (.tk 21 (.tk 22 (.ef 2 [] (.ef 5 [] (.ef 8 [] (.ef 11 [] (.ef 14 [] (.ef 17 [] (.ef 20 [] (.ef 23 [] (.ef 24 [] (.tk 25 .z))))))))))))))))))))))))))) .n)) [.agg #[.int .i64 f0, .int .i64 f1, .int .i64 f2, .int .i64 f3, .int .i64 f4, .int .i64 f5, .int .u16 f6, .int .i64 f7]] w R = frame_Reply_fields.wp f0 f1 f2 f3 f4 f5 f6 f7 w (fun r w => R (encR false [(false, [.sl])] r) w) := by kernel_rfl
set_option maxRecDepth 100000 in
theorem frame_Reply_fields.ok {f0 : Int} {f1 : Int} {f2 : Int} {f3 : Int} {f4 : Int} {f5 : Int} {f6 : Int} {f7 : Int} {w : World} {R : TR [(false, [.sl])] → World → Prop} (h : frame_Reply_fields.wp f0 f1 f2 f3 f4 f5 f6 f7 w R) : clS Try.prog F.frame_Reply_fields [.agg #[.int .i64 f0, .int .i64 f1, .int .i64 f2, .int .i64 f3, .int .i64 f4, .int .i64 f5, .int .u16 f6, .int .i64 f7]] w false [(false, [.sl])] R :=
  ok_of Try_follows Try.func135 (fun R => frame_Reply_fields.wp f0 f1 f2 f3 f4 f5 f6 f7 w R) (frame_Reply_fields.eq f0 f1 f2 f3 f4 f5 f6 f7 w) rfl h
end Go.Proofs.Ytimdngcmbmamdaa
