import Derived.Test.YtimdngcmbmamdaaNm
namespace Go.Proofs.Ytimdngcmbmamdaa
open Go.Eng
set_option linter.unusedVariables false
/-! ### anchor_Book_Utc -/
set_option maxRecDepth 100000 in
def anchor_Book_Utc.wp (b : Option Addr) (t : Option Addr) (w_0 : Int) (w_1 : Int) (time : Int) (w : World) (R : TR [(true, [(.i .i64), (.i .i64), (.i .i64), (.i .i64), (.i .i64), (.i .i64)]), (false, [(.i .i64)]), (false, [(.i .i64)])] → World → Prop) : Prop :=
alK [.int .i64 w_0, .int .u16 w_1] T.source_Whose w fun p1 w2 =>
alK [.int .i64 0, .int .i64 0, .int .i64 0, .int .i64 0, .int .i64 0, .int .i64 0] T.utc_Utc w2 fun p3 w4 =>
ldN [(.i .i64), (.i .u16)] p1 0 w4 fun x5 =>
clS Try.prog F.anchor_Book_Tai [.pointer b, .agg #[.int .i64 x5.1, .int .u16 x5.2.1], .int .i64 time] w4 true [(true, [(.i .i64), (.i .i64)]), (false, [(.i .i64)])] fun r6 w7 =>
alK [.int .i64 0, .int .i64 0] T.anchor_Moment w7 fun p8 w9 =>
stN [.int .i64 r6.1.1, .int .i64 r6.1.2.1] p8 0 w9 fun w10 =>
brB (r6.2.1.1 != 0) (
stN [.int .i64 0, .int .i64 0, .int .i64 0, .int .i64 0, .int .i64 0, .int .i64 0] p3 0 w10 fun w11 =>
ldN [(.i .i64), (.i .i64), (.i .i64), (.i .i64), (.i .i64), (.i .i64)] p3 0 w11 fun x12 =>
R ((x12.1, x12.2.1, x12.2.2.1, x12.2.2.2.1, x12.2.2.2.2.1, x12.2.2.2.2.2.1, ()), (0, ()), (r6.2.1.1, ()), ()) w11) (
ld1 (.i .i64) p8 w10 fun x13 =>
clS Try.prog F.utc_Of [.pointer t, .int .i64 x13] w10 true [(true, [(.i .i64), (.i .i64), (.i .i64), (.i .i64), (.i .i64), (.i .i64)]), (false, [(.i .i64)])] fun r14 w15 =>
alK [.int .i64 0, .int .i64 0, .int .i64 0, .int .i64 0, .int .i64 0, .int .i64 0] T.utc_Utc w15 fun p16 w17 =>
stN [.int .i64 r14.1.1, .int .i64 r14.1.2.1, .int .i64 r14.1.2.2.1, .int .i64 r14.1.2.2.2.1, .int .i64 r14.1.2.2.2.2.1, .int .i64 r14.1.2.2.2.2.2.1] p16 0 w17 fun w18 =>
brB (r14.2.1.1 != 0) (
stN [.int .i64 0, .int .i64 0, .int .i64 0, .int .i64 0, .int .i64 0, .int .i64 0] p3 0 w18 fun w19 =>
ldN [(.i .i64), (.i .i64), (.i .i64), (.i .i64), (.i .i64), (.i .i64)] p3 0 w19 fun x20 =>
R ((x20.1, x20.2.1, x20.2.2.1, x20.2.2.2.1, x20.2.2.2.2.1, x20.2.2.2.2.2.1, ()), (0, ()), (r14.2.1.1, ()), ()) w19) (
drK w18 fun w21 =>
ldN [(.i .i64), (.i .i64), (.i .i64), (.i .i64), (.i .i64), (.i .i64)] p16 0 w21 fun x22 =>
ld1 (.i .i64) (p8.add 1) w21 fun x23 =>
stN [.int .i64 x22.1, .int .i64 x22.2.1, .int .i64 x22.2.2.1, .int .i64 x22.2.2.2.1, .int .i64 x22.2.2.2.2.1, .int .i64 x22.2.2.2.2.2.1] p3 0 w21 fun w24 =>
Hold [(2, (p8.add 1), (w21.cell? (p8.add 1)).getD undef)] w24 ∧ (
ldN [(.i .i64), (.i .i64), (.i .i64), (.i .i64), (.i .i64), (.i .i64)] p3 0 w24 fun x25 =>
R ((x25.1, x25.2.1, x25.2.2.1, x25.2.2.2.1, x25.2.2.2.2.1, x25.2.2.2.2.2.1, ()), (x23, ()), (0, ()), ()) w24)))
set_option maxRecDepth 100000 in
theorem anchor_Book_Utc.eq (b : Option Addr) (t : Option Addr) (w_0 : Int) (w_1 : Int) (time : Int) (w : World) (R : Value → World → Prop) : wpF Try.prog Try.f35 (.s .n (.s .n (.s .n (.s .n (.s .n (.s (.pl (.tk 0 (.tk 1 (.tk 2 (.ef 3 [0] (.tk 4 (.tk 5 .z))))))) .n)))))) [.pointer b, .pointer t, .agg #[.int .i64 w_0, .int .u16 w_1], .int .i64 time] w R = anchor_Book_Utc.wp b t w_0 w_1 time w (fun r w => R (encR true [(true, [(.i .i64), (.i .i64), (.i .i64), (.i .i64), (.i .i64), (.i .i64)]), (false, [(.i .i64)]), (false, [(.i .i64)])] r) w) := by kernel_rfl
set_option maxRecDepth 100000 in
theorem anchor_Book_Utc.ok {b : Option Addr} {t : Option Addr} {w_0 : Int} {w_1 : Int} {time : Int} {w : World} {R : TR [(true, [(.i .i64), (.i .i64), (.i .i64), (.i .i64), (.i .i64), (.i .i64)]), (false, [(.i .i64)]), (false, [(.i .i64)])] → World → Prop} (h : anchor_Book_Utc.wp b t w_0 w_1 time w R) : clS Try.prog F.anchor_Book_Utc [.pointer b, .pointer t, .agg #[.int .i64 w_0, .int .u16 w_1], .int .i64 time] w true [(true, [(.i .i64), (.i .i64), (.i .i64), (.i .i64), (.i .i64), (.i .i64)]), (false, [(.i .i64)]), (false, [(.i .i64)])] R :=
  ok_of Try_follows Try.func35 (fun R => anchor_Book_Utc.wp b t w_0 w_1 time w R) (anchor_Book_Utc.eq b t w_0 w_1 time w) rfl h
/-! ### anchor_Book_Drop -/
set_option maxRecDepth 100000 in
def anchor_Book_Drop.wp (b : Option Addr) (w : World) (R : TR [] → World → Prop) : Prop :=
brB (!(Option.isNone b)) (
ncK b fun a1 =>
stN [.bool false, .int .i64 0, .int .u16 0, .int .i64 0, .int .u16 0, .int .i64 0, .int .i64 0] a1 0 w fun w2 =>
R (()) w2) (
R (()) w)
set_option maxRecDepth 100000 in
theorem anchor_Book_Drop.eq (b : Option Addr) (w : World) (R : Value → World → Prop) : wpF Try.prog Try.f36 .n [.pointer b] w R = anchor_Book_Drop.wp b w (fun r w => R (encR true [] r) w) := by kernel_rfl
set_option maxRecDepth 100000 in
theorem anchor_Book_Drop.ok {b : Option Addr} {w : World} {R : TR [] → World → Prop} (h : anchor_Book_Drop.wp b w R) : clS Try.prog F.anchor_Book_Drop [.pointer b] w true [] R :=
  ok_of Try_follows Try.func36 (fun R => anchor_Book_Drop.wp b w R) (anchor_Book_Drop.eq b w) rfl h
/-! ### anchor_Book_Has -/
set_option maxRecDepth 100000 in
def anchor_Book_Has.wp (b : Option Addr) (w : World) (R : TR [(true, [(.i .i64), (.i .u16), (.i .i64), (.i .u16), (.i .i64), (.i .i64)]), (false, [.b])] → World → Prop) : Prop :=
alK [.int .i64 0, .int .u16 0, .int .i64 0, .int .u16 0, .int .i64 0, .int .i64 0] T.frame_Anchor w fun p1 w2 =>
brB (Option.isNone b) (
stN [.int .i64 0, .int .u16 0, .int .i64 0, .int .u16 0, .int .i64 0, .int .i64 0] p1 0 w2 fun w3 =>
ldN [(.i .i64), (.i .u16), (.i .i64), (.i .u16), (.i .i64), (.i .i64)] p1 0 w3 fun x4 =>
R ((x4.1, x4.2.1, x4.2.2.1, x4.2.2.2.1, x4.2.2.2.2.1, x4.2.2.2.2.2.1, ()), (false, ()), ()) w3) (
drK w2 fun w5 =>
ncK b fun a6 =>
ldN [(.i .i64), (.i .u16), (.i .i64), (.i .u16), (.i .i64), (.i .i64)] (a6.add 1) 0 w5 fun x7 =>
ncK b fun a8 =>
ld1 .b a8 w5 fun x9 =>
stN [.int .i64 x7.1, .int .u16 x7.2.1, .int .i64 x7.2.2.1, .int .u16 x7.2.2.2.1, .int .i64 x7.2.2.2.2.1, .int .i64 x7.2.2.2.2.2.1] p1 0 w5 fun w10 =>
Hold [(7, a8, (w5.cell? a8).getD undef)] w10 ∧ (
ldN [(.i .i64), (.i .u16), (.i .i64), (.i .u16), (.i .i64), (.i .i64)] p1 0 w10 fun x11 =>
R ((x11.1, x11.2.1, x11.2.2.1, x11.2.2.2.1, x11.2.2.2.2.1, x11.2.2.2.2.2.1, ()), (x9, ()), ()) w10))
set_option maxRecDepth 100000 in
theorem anchor_Book_Has.eq (b : Option Addr) (w : World) (R : Value → World → Prop) : wpF Try.prog Try.f37 (.s .n (.s .n (.s (.pl (.tk 0 (.tk 1 (.tk 2 (.tk 3 (.tk 4 (.tk 5 (.tk 6 (.tk 7 (.ef 8 [3] (.tk 9 .z))))))))))) .n))) [.pointer b] w R = anchor_Book_Has.wp b w (fun r w => R (encR true [(true, [(.i .i64), (.i .u16), (.i .i64), (.i .u16), (.i .i64), (.i .i64)]), (false, [.b])] r) w) := by kernel_rfl
set_option maxRecDepth 100000 in
theorem anchor_Book_Has.ok {b : Option Addr} {w : World} {R : TR [(true, [(.i .i64), (.i .u16), (.i .i64), (.i .u16), (.i .i64), (.i .i64)]), (false, [.b])] → World → Prop} (h : anchor_Book_Has.wp b w R) : clS Try.prog F.anchor_Book_Has [.pointer b] w true [(true, [(.i .i64), (.i .u16), (.i .i64), (.i .u16), (.i .i64), (.i .i64)]), (false, [.b])] R :=
  ok_of Try_follows Try.func37 (fun R => anchor_Book_Has.wp b w R) (anchor_Book_Has.eq b w) rfl h
/-! ### anchor_Book_Make -/
set_option maxRecDepth 100000 in
def anchor_Book_Make.wp (b : Option Addr) (me : Int) (t0 : Int) (t1 : Int) (t2 : Int) (t3 : Int) (t4 : Int) (tai : Int) (w : World) (R : TR [(true, [(.i .i64), (.i .u16), (.i .i64), (.i .u16), (.i .i64), (.i .i64)]), (false, [(.i .i64)])] → World → Prop) : Prop :=
alK [.int .i64 t0, .int .i64 t1, .int .i64 t2, .int .u16 t3, .int .i64 t4] T.source_Answer w fun p1 w2 =>
alK [.int .i64 0, .int .u16 0, .int .i64 0, .int .u16 0, .int .i64 0, .int .i64 0] T.frame_Anchor w2 fun p3 w4 =>
brB (Option.isNone b) (
stN [.int .i64 0, .int .u16 0, .int .i64 0, .int .u16 0, .int .i64 0, .int .i64 0] p3 0 w4 fun w5 =>
ldN [(.i .i64), (.i .u16), (.i .i64), (.i .u16), (.i .i64), (.i .i64)] p3 0 w5 fun x6 =>
R ((x6.1, x6.2.1, x6.2.2.1, x6.2.2.2.1, x6.2.2.2.2.1, x6.2.2.2.2.2.1, ()), (2, ()), ()) w5) (
CutT (fun (J7 : ((Addr) × Unit) → World → Prop) =>
drK w4 fun w10 =>
ncK b fun a11 =>
ld1 (.i .u16) ((a11.add 1).add 1) w10 fun x12 =>
ld1 (.i .i64) (p1.add 2) w10 fun x13 =>
ld1 (.i .u16) ((p1.add 2).add 1) w10 fun x14 =>
ld1 (.i .i64) p1 w10 fun x15 =>
(
clS Try.prog F.wrap_Next [.int .u16 x12] w10 false [(false, [(.i .u16)])] fun r16 w17 =>
Hold [(14, p1, (w10.cell? p1).getD undef), (12, ((p1.add 2).add 1), (w10.cell? ((p1.add 2).add 1)).getD undef), (9, (p1.add 2), (w10.cell? (p1.add 2)).getD undef), (5, ((a11.add 1).add 1), (w10.cell? ((a11.add 1).add 1)).getD undef)] w17 ∧ (
alK [.int .i64 0, .int .u16 0, .int .i64 0, .int .u16 0, .int .i64 0, .int .i64 0] T.frame_Anchor w17 fun p18 w19 =>
Hold [(14, p1, (w10.cell? p1).getD undef), (12, ((p1.add 2).add 1), (w10.cell? ((p1.add 2).add 1)).getD undef), (9, (p1.add 2), (w10.cell? (p1.add 2)).getD undef), (5, ((a11.add 1).add 1), (w10.cell? ((a11.add 1).add 1)).getD undef)] w19 ∧ (
stN [.int .i64 me, .int .u16 r16.1.1, .int .i64 x13, .int .u16 x14, .int .i64 x15, .int .i64 tai] p18 0 w19 fun w20 =>
Hold [] w20 ∧ (
J7 (p18, ()) w20)))) ∧ (
alK [.int .i64 0, .int .u16 0, .int .i64 0, .int .u16 0, .int .i64 0, .int .i64 0] T.frame_Anchor w10 fun p21 w22 =>
Hold [(14, p1, (w10.cell? p1).getD undef), (12, ((p1.add 2).add 1), (w10.cell? ((p1.add 2).add 1)).getD undef), (9, (p1.add 2), (w10.cell? (p1.add 2)).getD undef), (5, ((a11.add 1).add 1), (w10.cell? ((a11.add 1).add 1)).getD undef)] w22 ∧ (
clS Try.prog F.wrap_Next [.int .u16 x12] w22 false [(false, [(.i .u16)])] fun r23 w24 =>
Hold [(14, p1, (w10.cell? p1).getD undef), (12, ((p1.add 2).add 1), (w10.cell? ((p1.add 2).add 1)).getD undef), (9, (p1.add 2), (w10.cell? (p1.add 2)).getD undef)] w24 ∧ (
stN [.int .i64 me, .int .u16 r23.1.1, .int .i64 x13, .int .u16 x14, .int .i64 x15, .int .i64 tai] p21 0 w24 fun w25 =>
Hold [] w25 ∧ (
J7 (p21, ()) w25))))) (fun (z8 : (Addr) × Unit) w9 => ∀ _ : Nat → Value,
ldN [(.i .i64), (.i .u16), (.i .i64), (.i .u16), (.i .i64), (.i .i64)] z8.1 0 w9 fun x26 =>
clS Try.prog F.frame_Good [.iface T.frame_Anchor (.agg #[.int .i64 x26.1, .int .u16 x26.2.1, .int .i64 x26.2.2.1, .int .u16 x26.2.2.2.1, .int .i64 x26.2.2.2.2.1, .int .i64 x26.2.2.2.2.2.1])] w9 false [(false, [.b])] fun r27 w28 =>
brB (!r27.1.1) (
stN [.int .i64 0, .int .u16 0, .int .i64 0, .int .u16 0, .int .i64 0, .int .i64 0] p3 0 w28 fun w29 =>
ldN [(.i .i64), (.i .u16), (.i .i64), (.i .u16), (.i .i64), (.i .i64)] p3 0 w29 fun x30 =>
R ((x30.1, x30.2.1, x30.2.2.1, x30.2.2.2.1, x30.2.2.2.2.1, x30.2.2.2.2.2.1, ()), (1, ()), ()) w29) (
drK w28 fun w31 =>
ldN [(.i .i64), (.i .u16), (.i .i64), (.i .u16), (.i .i64), (.i .i64)] z8.1 0 w31 fun x32 =>
ncK b fun a33 =>
stN [.bool true] a33 0 w31 fun w34 =>
Hold [(2, (z8.1.add 0), (w31.cell? (z8.1.add 0)).getD undef), (2, (z8.1.add 1), (w31.cell? (z8.1.add 1)).getD undef), (2, (z8.1.add 2), (w31.cell? (z8.1.add 2)).getD undef), (2, (z8.1.add 3), (w31.cell? (z8.1.add 3)).getD undef), (2, (z8.1.add 4), (w31.cell? (z8.1.add 4)).getD undef), (2, (z8.1.add 5), (w31.cell? (z8.1.add 5)).getD undef)] w34 ∧ (
ncK b fun a35 =>
stN [.int .i64 x32.1, .int .u16 x32.2.1, .int .i64 x32.2.2.1, .int .u16 x32.2.2.2.1, .int .i64 x32.2.2.2.2.1, .int .i64 x32.2.2.2.2.2.1] (a35.add 1) 0 w34 fun w36 =>
Hold [] w36 ∧ (
ldN [(.i .i64), (.i .u16), (.i .i64), (.i .u16), (.i .i64), (.i .i64)] z8.1 0 w36 fun x37 =>
stN [.int .i64 x37.1, .int .u16 x37.2.1, .int .i64 x37.2.2.1, .int .u16 x37.2.2.2.1, .int .i64 x37.2.2.2.2.1, .int .i64 x37.2.2.2.2.2.1] p3 0 w36 fun w38 =>
ldN [(.i .i64), (.i .u16), (.i .i64), (.i .u16), (.i .i64), (.i .i64)] p3 0 w38 fun x39 =>
R ((x39.1, x39.2.1, x39.2.2.1, x39.2.2.2.1, x39.2.2.2.2.1, x39.2.2.2.2.2.1, ()), (0, ()), ()) w38)))))
set_option maxRecDepth 100000 in
theorem anchor_Book_Make.eq (b : Option Addr) (me : Int) (t0 : Int) (t1 : Int) (t2 : Int) (t3 : Int) (t4 : Int) (tai : Int) (w : World) (R : Value → World → Prop) : wpF Try.prog Try.f38 (.s .n (.s .n (.ct [(10, .a)] (.pl (.tk 0 (.tk 1 (.tk 2 (.tk 3 (.tk 4 (.tk 5 (.tk 7 (.tk 8 (.tk 9 (.tk 10 (.tk 11 (.tk 12 (.tk 13 (.tk 14 (.tk 15 (.two 6 17 (.tk 16 (.ef 17 [] (.ef 18 [5, 9, 12, 14] .z))) (.ef 6 [5] (.tk 16 (.ef 18 [9, 12, 14] .z)))))))))))))))))))) (.s .n (.s (.pl (.tk 0 (.tk 1 (.tk 2 (.tk 3 (.tk 4 (.ef 5 [] (.tk 6 (.tk 7 (.ef 8 [2] .z)))))))))) .n))))) [.pointer b, .int .i64 me, .agg #[.int .i64 t0, .int .i64 t1, .int .i64 t2, .int .u16 t3, .int .i64 t4], .int .i64 tai] w R = anchor_Book_Make.wp b me t0 t1 t2 t3 t4 tai w (fun r w => R (encR true [(true, [(.i .i64), (.i .u16), (.i .i64), (.i .u16), (.i .i64), (.i .i64)]), (false, [(.i .i64)])] r) w) := by kernel_rfl
set_option maxRecDepth 100000 in
theorem anchor_Book_Make.ok {b : Option Addr} {me : Int} {t0 : Int} {t1 : Int} {t2 : Int} {t3 : Int} {t4 : Int} {tai : Int} {w : World} {R : TR [(true, [(.i .i64), (.i .u16), (.i .i64), (.i .u16), (.i .i64), (.i .i64)]), (false, [(.i .i64)])] → World → Prop} (h : anchor_Book_Make.wp b me t0 t1 t2 t3 t4 tai w R) : clS Try.prog F.anchor_Book_Make [.pointer b, .int .i64 me, .agg #[.int .i64 t0, .int .i64 t1, .int .i64 t2, .int .u16 t3, .int .i64 t4], .int .i64 tai] w true [(true, [(.i .i64), (.i .u16), (.i .i64), (.i .u16), (.i .i64), (.i .i64)]), (false, [(.i .i64)])] R :=
  ok_of Try_follows Try.func38 (fun R => anchor_Book_Make.wp b me t0 t1 t2 t3 t4 tai w R) (anchor_Book_Make.eq b me t0 t1 t2 t3 t4 tai w) rfl h
/-! ### ref23_Book_Hear -/
set_option maxRecDepth 100000 in
def ref23_Book_Hear.wp (b : Option Addr) (a0 : Int) (a1 : Int) (a2 : Int) (a3 : Int) (a4 : Int) (a5 : Int) (a6 : Int) (a7 : Int) (a8 : Int) (a9 : Int) (a10 : Int) (a11 : Int) (a12 : Int) (a13 : Int) (w : World) (R : TR [(false, [.b])] → World → Prop) : Prop :=
alK [.int .i64 a0, .int .i64 a1, .int .i64 a2, .int .i64 a3, .int .u16 a4, .int .u16 a5, .int .i64 a6, .int .i64 a7, .int .i64 a8, .int .i64 a9, .int .i64 a10, .int .i64 a11, .int .i64 a12, .int .i64 a13] T.ref05_Plain w fun p1 w2 =>
CutT (fun (J3 : Unit → World → Prop) =>
drK w2 fun w6 =>
ld1 (.i .i64) p1 w6 fun x7 =>
brB (x7 != 6) (
R ((false, ()), ()) w6) (
ldN [(.i .i64), (.i .i64), (.i .i64), (.i .i64), (.i .u16), (.i .u16), (.i .i64), (.i .i64), (.i .i64), (.i .i64), (.i .i64), (.i .i64), (.i .i64), (.i .i64)] p1 0 w6 fun x8 =>
clS Try.prog F.ref05_Good [.agg #[.int .i64 x8.1, .int .i64 x8.2.1, .int .i64 x8.2.2.1, .int .i64 x8.2.2.2.1, .int .u16 x8.2.2.2.2.1, .int .u16 x8.2.2.2.2.2.1, .int .i64 x8.2.2.2.2.2.2.1, .int .i64 x8.2.2.2.2.2.2.2.1, .int .i64 x8.2.2.2.2.2.2.2.2.1, .int .i64 x8.2.2.2.2.2.2.2.2.2.1, .int .i64 x8.2.2.2.2.2.2.2.2.2.2.1, .int .i64 x8.2.2.2.2.2.2.2.2.2.2.2.1, .int .i64 x8.2.2.2.2.2.2.2.2.2.2.2.2.1, .int .i64 x8.2.2.2.2.2.2.2.2.2.2.2.2.2.1]] w6 false [(false, [.b])] fun r9 w10 =>
Hold [(4, (p1.add 0), (w6.cell? (p1.add 0)).getD undef), (4, (p1.add 1), (w6.cell? (p1.add 1)).getD undef), (4, (p1.add 2), (w6.cell? (p1.add 2)).getD undef), (4, (p1.add 3), (w6.cell? (p1.add 3)).getD undef), (4, (p1.add 4), (w6.cell? (p1.add 4)).getD undef), (4, (p1.add 5), (w6.cell? (p1.add 5)).getD undef), (4, (p1.add 6), (w6.cell? (p1.add 6)).getD undef), (4, (p1.add 7), (w6.cell? (p1.add 7)).getD undef), (4, (p1.add 8), (w6.cell? (p1.add 8)).getD undef), (4, (p1.add 9), (w6.cell? (p1.add 9)).getD undef), (4, (p1.add 10), (w6.cell? (p1.add 10)).getD undef), (4, (p1.add 11), (w6.cell? (p1.add 11)).getD undef), (4, (p1.add 12), (w6.cell? (p1.add 12)).getD undef), (4, (p1.add 13), (w6.cell? (p1.add 13)).getD undef), (1, p1, (w6.cell? p1).getD undef)] w10 ∧ (
brB (!r9.1.1) (
R ((false, ()), ()) w10) (
ncK b fun a11 =>
ld1 (.i .i64) a11 w10 fun x12 =>
brB (x12 == 6) (
ld1 (.i .u16) (p1.add 5) w10 fun x13 =>
ncK b fun a14 =>
ld1 (.i .u16) (a14.add 5) w10 fun x15 =>
clS Try.prog F.ref02_Newer [.int .u16 x13, .int .u16 x15] w10 false [(false, [.b])] fun r16 w17 =>
Hold [(13, a11, (w10.cell? a11).getD undef), (4, (p1.add 0), (w6.cell? (p1.add 0)).getD undef), (4, (p1.add 1), (w6.cell? (p1.add 1)).getD undef), (4, (p1.add 2), (w6.cell? (p1.add 2)).getD undef), (4, (p1.add 3), (w6.cell? (p1.add 3)).getD undef), (4, (p1.add 4), (w6.cell? (p1.add 4)).getD undef), (4, (p1.add 5), (w6.cell? (p1.add 5)).getD undef), (4, (p1.add 6), (w6.cell? (p1.add 6)).getD undef), (4, (p1.add 7), (w6.cell? (p1.add 7)).getD undef), (4, (p1.add 8), (w6.cell? (p1.add 8)).getD undef), (4, (p1.add 9), (w6.cell? (p1.add 9)).getD undef), (4, (p1.add 10), (w6.cell? (p1.add 10)).getD undef), (4, (p1.add 11), (w6.cell? (p1.add 11)).getD undef), (4, (p1.add 12), (w6.cell? (p1.add 12)).getD undef), (4, (p1.add 13), (w6.cell? (p1.add 13)).getD undef), (1, p1, (w6.cell? p1).getD undef)] w17 ∧ (
brB (!r16.1.1) (
R ((false, ()), ()) w17) (
J3 (()) w17))) (
J3 (()) w10))))) (fun (z4 : Unit) w5 => ∀ _ : Nat → Value,
ldN [(.i .i64), (.i .i64), (.i .i64), (.i .i64), (.i .u16), (.i .u16), (.i .i64), (.i .i64), (.i .i64), (.i .i64), (.i .i64), (.i .i64), (.i .i64), (.i .i64)] p1 0 w5 fun x18 =>
clS Try.prog F.ref05_Only [.agg #[.int .i64 x18.1, .int .i64 x18.2.1, .int .i64 x18.2.2.1, .int .i64 x18.2.2.2.1, .int .u16 x18.2.2.2.2.1, .int .u16 x18.2.2.2.2.2.1, .int .i64 x18.2.2.2.2.2.2.1, .int .i64 x18.2.2.2.2.2.2.2.1, .int .i64 x18.2.2.2.2.2.2.2.2.1, .int .i64 x18.2.2.2.2.2.2.2.2.2.1, .int .i64 x18.2.2.2.2.2.2.2.2.2.2.1, .int .i64 x18.2.2.2.2.2.2.2.2.2.2.2.1, .int .i64 x18.2.2.2.2.2.2.2.2.2.2.2.2.1, .int .i64 x18.2.2.2.2.2.2.2.2.2.2.2.2.2.1]] w5 false [(true, [(.i .i64), (.i .i64), (.i .i64), (.i .i64), (.i .u16), (.i .u16), (.i .i64), (.i .i64), (.i .i64), (.i .i64), (.i .i64), (.i .i64), (.i .i64), (.i .i64)])] fun r19 w20 =>
ncK b fun a21 =>
stN [.int .i64 r19.1.1, .int .i64 r19.1.2.1, .int .i64 r19.1.2.2.1, .int .i64 r19.1.2.2.2.1, .int .u16 r19.1.2.2.2.2.1, .int .u16 r19.1.2.2.2.2.2.1, .int .i64 r19.1.2.2.2.2.2.2.1, .int .i64 r19.1.2.2.2.2.2.2.2.1, .int .i64 r19.1.2.2.2.2.2.2.2.2.1, .int .i64 r19.1.2.2.2.2.2.2.2.2.2.1, .int .i64 r19.1.2.2.2.2.2.2.2.2.2.2.1, .int .i64 r19.1.2.2.2.2.2.2.2.2.2.2.2.1, .int .i64 r19.1.2.2.2.2.2.2.2.2.2.2.2.2.1, .int .i64 r19.1.2.2.2.2.2.2.2.2.2.2.2.2.2.1] a21 0 w20 fun w22 =>
R ((true, ()), ()) w22)
set_option maxRecDepth 100000 in
theorem ref23_Book_Hear.eq (b : Option Addr) (a0 : Int) (a1 : Int) (a2 : Int) (a3 : Int) (a4 : Int) (a5 : Int) (a6 : Int) (a7 : Int) (a8 : Int) (a9 : Int) (a10 : Int) (a11 : Int) (a12 : Int) (a13 : Int) (w : World) (R : Value → World → Prop) : wpF Try.prog Try.f39 (.s .n (.ct [] (.s (.pl (.tk 0 (.tk 1 (.tk 2 (.tk 3 (.tk 4 (.ef 5 [] (.tk 6 (.tk 7 (.tk 8 (.tk 9 (.tk 10 (.tk 11 (.tk 12 (.tk 13 (.tk 14 (.tk 15 (.tk 16 (.tk 17 (.tk 18 (.tk 19 (.tk 20 (.tk 21 (.tk 22 (.ef 23 [17, 22] (.tk 24 (.tk 25 (.tk 26 .z)))))))))))))))))))))))))))) .n) .n)) [.pointer b, .agg #[.int .i64 a0, .int .i64 a1, .int .i64 a2, .int .i64 a3, .int .u16 a4, .int .u16 a5, .int .i64 a6, .int .i64 a7, .int .i64 a8, .int .i64 a9, .int .i64 a10, .int .i64 a11, .int .i64 a12, .int .i64 a13]] w R = ref23_Book_Hear.wp b a0 a1 a2 a3 a4 a5 a6 a7 a8 a9 a10 a11 a12 a13 w (fun r w => R (encR false [(false, [.b])] r) w) := by kernel_rfl
set_option maxRecDepth 100000 in
theorem ref23_Book_Hear.ok {b : Option Addr} {a0 : Int} {a1 : Int} {a2 : Int} {a3 : Int} {a4 : Int} {a5 : Int} {a6 : Int} {a7 : Int} {a8 : Int} {a9 : Int} {a10 : Int} {a11 : Int} {a12 : Int} {a13 : Int} {w : World} {R : TR [(false, [.b])] → World → Prop} (h : ref23_Book_Hear.wp b a0 a1 a2 a3 a4 a5 a6 a7 a8 a9 a10 a11 a12 a13 w R) : clS Try.prog F.ref23_Book_Hear [.pointer b, .agg #[.int .i64 a0, .int .i64 a1, .int .i64 a2, .int .i64 a3, .int .u16 a4, .int .u16 a5, .int .i64 a6, .int .i64 a7, .int .i64 a8, .int .i64 a9, .int .i64 a10, .int .i64 a11, .int .i64 a12, .int .i64 a13]] w false [(false, [.b])] R :=
  ok_of Try_follows Try.func39 (fun R => ref23_Book_Hear.wp b a0 a1 a2 a3 a4 a5 a6 a7 a8 a9 a10 a11 a12 a13 w R) (ref23_Book_Hear.eq b a0 a1 a2 a3 a4 a5 a6 a7 a8 a9 a10 a11 a12 a13 w) rfl h
/-! ### ref23_Book_Make -/
set_option maxRecDepth 100000 in
def ref23_Book_Make.wp (b : Option Addr) (me : Int) (root : Int) (boot : Int) (global : Int) (tai : Int) (w : World) (R : TR [(true, [(.i .i64), (.i .i64), (.i .i64), (.i .i64), (.i .u16), (.i .u16), (.i .i64), (.i .i64), (.i .i64), (.i .i64), (.i .i64), (.i .i64), (.i .i64), (.i .i64)])] → World → Prop) : Prop :=
alK [.int .i64 0, .int .i64 0, .int .i64 0, .int .i64 0, .int .u16 0, .int .u16 0, .int .i64 0, .int .i64 0, .int .i64 0, .int .i64 0, .int .i64 0, .int .i64 0, .int .i64 0, .int .i64 0] T.ref05_Plain w fun p1 w2 =>
ncK b fun a3 =>
ld1 (.i .u16) (a3.add 5) w2 fun x4 =>
clS Try.prog F.ref02_Next [.int .u16 x4] w2 false [(false, [(.i .u16)])] fun r5 w6 =>
alK [.int .i64 0, .int .i64 0, .int .i64 0, .int .i64 0, .int .u16 0, .int .u16 0, .int .i64 0, .int .i64 0, .int .i64 0, .int .i64 0, .int .i64 0, .int .i64 0, .int .i64 0, .int .i64 0] T.ref05_Plain w6 fun p7 w8 =>
stN [.int .i64 6, .int .i64 me, .int .i64 0, .int .i64 root, .int .u16 boot, .int .u16 r5.1.1, .int .i64 0, .int .i64 0, .int .i64 0, .int .i64 0, .int .i64 0, .int .i64 0, .int .i64 global, .int .i64 tai] p7 0 w8 fun w9 =>
ldN [(.i .i64), (.i .i64), (.i .i64), (.i .i64), (.i .u16), (.i .u16), (.i .i64), (.i .i64), (.i .i64), (.i .i64), (.i .i64), (.i .i64), (.i .i64), (.i .i64)] p7 0 w9 fun x10 =>
clS Try.prog F.ref05_Good [.agg #[.int .i64 x10.1, .int .i64 x10.2.1, .int .i64 x10.2.2.1, .int .i64 x10.2.2.2.1, .int .u16 x10.2.2.2.2.1, .int .u16 x10.2.2.2.2.2.1, .int .i64 x10.2.2.2.2.2.2.1, .int .i64 x10.2.2.2.2.2.2.2.1, .int .i64 x10.2.2.2.2.2.2.2.2.1, .int .i64 x10.2.2.2.2.2.2.2.2.2.1, .int .i64 x10.2.2.2.2.2.2.2.2.2.2.1, .int .i64 x10.2.2.2.2.2.2.2.2.2.2.2.1, .int .i64 x10.2.2.2.2.2.2.2.2.2.2.2.2.1, .int .i64 x10.2.2.2.2.2.2.2.2.2.2.2.2.2.1]] w9 false [(false, [.b])] fun r11 w12 =>
brB (!r11.1.1) (
stN [.int .i64 0, .int .i64 0, .int .i64 0, .int .i64 0, .int .u16 0, .int .u16 0, .int .i64 0, .int .i64 0, .int .i64 0, .int .i64 0, .int .i64 0, .int .i64 0, .int .i64 0, .int .i64 0] p1 0 w12 fun w13 =>
ldN [(.i .i64), (.i .i64), (.i .i64), (.i .i64), (.i .u16), (.i .u16), (.i .i64), (.i .i64), (.i .i64), (.i .i64), (.i .i64), (.i .i64), (.i .i64), (.i .i64)] p1 0 w13 fun x14 =>
R ((x14.1, x14.2.1, x14.2.2.1, x14.2.2.2.1, x14.2.2.2.2.1, x14.2.2.2.2.2.1, x14.2.2.2.2.2.2.1, x14.2.2.2.2.2.2.2.1, x14.2.2.2.2.2.2.2.2.1, x14.2.2.2.2.2.2.2.2.2.1, x14.2.2.2.2.2.2.2.2.2.2.1, x14.2.2.2.2.2.2.2.2.2.2.2.1, x14.2.2.2.2.2.2.2.2.2.2.2.2.1, x14.2.2.2.2.2.2.2.2.2.2.2.2.2.1, ()), ()) w13) (
ldN [(.i .i64), (.i .i64), (.i .i64), (.i .i64), (.i .u16), (.i .u16), (.i .i64), (.i .i64), (.i .i64), (.i .i64), (.i .i64), (.i .i64), (.i .i64), (.i .i64)] p7 0 w12 fun x15 =>
ncK b fun a16 =>
stN [.int .i64 x15.1, .int .i64 x15.2.1, .int .i64 x15.2.2.1, .int .i64 x15.2.2.2.1, .int .u16 x15.2.2.2.2.1, .int .u16 x15.2.2.2.2.2.1, .int .i64 x15.2.2.2.2.2.2.1, .int .i64 x15.2.2.2.2.2.2.2.1, .int .i64 x15.2.2.2.2.2.2.2.2.1, .int .i64 x15.2.2.2.2.2.2.2.2.2.1, .int .i64 x15.2.2.2.2.2.2.2.2.2.2.1, .int .i64 x15.2.2.2.2.2.2.2.2.2.2.2.1, .int .i64 x15.2.2.2.2.2.2.2.2.2.2.2.2.1, .int .i64 x15.2.2.2.2.2.2.2.2.2.2.2.2.2.1] a16 0 w12 fun w17 =>
ldN [(.i .i64), (.i .i64), (.i .i64), (.i .i64), (.i .u16), (.i .u16), (.i .i64), (.i .i64), (.i .i64), (.i .i64), (.i .i64), (.i .i64), (.i .i64), (.i .i64)] p7 0 w17 fun x18 =>
stN [.int .i64 x18.1, .int .i64 x18.2.1, .int .i64 x18.2.2.1, .int .i64 x18.2.2.2.1, .int .u16 x18.2.2.2.2.1, .int .u16 x18.2.2.2.2.2.1, .int .i64 x18.2.2.2.2.2.2.1, .int .i64 x18.2.2.2.2.2.2.2.1, .int .i64 x18.2.2.2.2.2.2.2.2.1, .int .i64 x18.2.2.2.2.2.2.2.2.2.1, .int .i64 x18.2.2.2.2.2.2.2.2.2.2.1, .int .i64 x18.2.2.2.2.2.2.2.2.2.2.2.1, .int .i64 x18.2.2.2.2.2.2.2.2.2.2.2.2.1, .int .i64 x18.2.2.2.2.2.2.2.2.2.2.2.2.2.1] p1 0 w17 fun w19 =>
ldN [(.i .i64), (.i .i64), (.i .i64), (.i .i64), (.i .u16), (.i .u16), (.i .i64), (.i .i64), (.i .i64), (.i .i64), (.i .i64), (.i .i64), (.i .i64), (.i .i64)] p1 0 w19 fun x20 =>
R ((x20.1, x20.2.1, x20.2.2.1, x20.2.2.2.1, x20.2.2.2.2.1, x20.2.2.2.2.2.1, x20.2.2.2.2.2.2.1, x20.2.2.2.2.2.2.2.1, x20.2.2.2.2.2.2.2.2.1, x20.2.2.2.2.2.2.2.2.2.1, x20.2.2.2.2.2.2.2.2.2.2.1, x20.2.2.2.2.2.2.2.2.2.2.2.1, x20.2.2.2.2.2.2.2.2.2.2.2.2.1, x20.2.2.2.2.2.2.2.2.2.2.2.2.2.1, ()), ()) w19)
set_option maxRecDepth 100000 in
theorem ref23_Book_Make.eq (b : Option Addr) (me : Int) (root : Int) (boot : Int) (global : Int) (tai : Int) (w : World) (R : Value → World → Prop) : wpF Try.prog Try.f40 .n [.pointer b, .int .i64 me, .int .i64 root, .int .u16 boot, .int .i64 global, .int .i64 tai] w R = ref23_Book_Make.wp b me root boot global tai w (fun r w => R (encR false [(true, [(.i .i64), (.i .i64), (.i .i64), (.i .i64), (.i .u16), (.i .u16), (.i .i64), (.i .i64), (.i .i64), (.i .i64), (.i .i64), (.i .i64), (.i .i64), (.i .i64)])] r) w) := by kernel_rfl
set_option maxRecDepth 100000 in
theorem ref23_Book_Make.ok {b : Option Addr} {me : Int} {root : Int} {boot : Int} {global : Int} {tai : Int} {w : World} {R : TR [(true, [(.i .i64), (.i .i64), (.i .i64), (.i .i64), (.i .u16), (.i .u16), (.i .i64), (.i .i64), (.i .i64), (.i .i64), (.i .i64), (.i .i64), (.i .i64), (.i .i64)])] → World → Prop} (h : ref23_Book_Make.wp b me root boot global tai w R) : clS Try.prog F.ref23_Book_Make [.pointer b, .int .i64 me, .int .i64 root, .int .u16 boot, .int .i64 global, .int .i64 tai] w false [(true, [(.i .i64), (.i .i64), (.i .i64), (.i .i64), (.i .u16), (.i .u16), (.i .i64), (.i .i64), (.i .i64), (.i .i64), (.i .i64), (.i .i64), (.i .i64), (.i .i64)])] R :=
  ok_of Try_follows Try.func40 (fun R => ref23_Book_Make.wp b me root boot global tai w R) (ref23_Book_Make.eq b me root boot global tai w) rfl h
/-! ### law23_asked -/
set_option maxRecDepth 100000 in
def law23_asked.wp (b : Option Addr) (m : Option Addr) (t : Option Addr) (c0 : Int) (c1 : Int) (c2 : Int) (c3 : Int) (c4 : Int) (c5 : Int) (c6 : Int) (c7 : Int) (c8 : Int) (c9 : Int) (c10 : Int) (c11 : Int) (c12 : Int) (c13 : Int) (c14 : Int) (c15 : Int) (c16 : Int) (c17 : Int) (w : World) (R : TR [(false, [.b])] → World → Prop) : Prop :=
alK [.int .i64 c0, .int .i64 c1, .int .i64 c2, .int .i64 c3, .int .i64 c4, .int .u16 c5, .int .u16 c6, .int .i64 c7, .int .i64 c8, .int .i64 c9, .int .i64 c10, .int .i64 c11, .int .i64 c12, .int .i64 c13, .int .i64 c14, .int .i64 c15, .int .u16 c16, .int .i64 c17] T.law23_Call w fun p1 w2 =>
ld1 (.i .i64) (p1.add 15) w2 fun x3 =>
ld1 (.i .u16) (p1.add 16) w2 fun x4 =>
alK [.int .i64 0, .int .u16 0] T.source_Whose w2 fun p5 w6 =>
stN [.int .i64 x3, .int .u16 x4] p5 0 w6 fun w7 =>
ldN [(.i .i64), (.i .u16)] p5 0 w7 fun x8 =>
ld1 (.i .i64) (p1.add 17) w7 fun x9 =>
clS Try.prog F.anchor_Book_Tai [.pointer b, .agg #[.int .i64 x8.1, .int .u16 x8.2.1], .int .i64 x9] w7 true [(true, [(.i .i64), (.i .i64)]), (false, [(.i .i64)])] fun r10 w11 =>
alK [.int .i64 0, .int .i64 0] T.anchor_Moment w11 fun p12 w13 =>
stN [.int .i64 r10.1.1, .int .i64 r10.1.2.1] p12 0 w13 fun w14 =>
ld1 (.i .i64) (p1.add 15) w14 fun x15 =>
ld1 (.i .u16) (p1.add 16) w14 fun x16 =>
ld1 (.i .i64) (p1.add 17) w14 fun x17 =>
clS Try.prog F.ref23_Book_Tai [.pointer m, .int .i64 x15, .int .u16 x16, .int .i64 x17] w14 true [(false, [(.i .i64)]), (false, [(.i .i64)]), (false, [(.i .i64)])] fun r18 w19 =>
ld1 (.i .i64) p12 w19 fun x20 =>
brB (x20 != r18.1.1) (
R ((false, ()), ()) w19) (
ld1 (.i .i64) (p12.add 1) w19 fun x21 =>
brB (x21 != r18.2.1.1) (
R ((false, ()), ()) w19) (
brB (r10.2.1.1 != r18.2.2.1.1) (
R ((false, ()), ()) w19) (
ldN [(.i .i64), (.i .u16)] p5 0 w19 fun x22 =>
ld1 (.i .i64) (p1.add 17) w19 fun x23 =>
clS Try.prog F.anchor_Book_Utc [.pointer b, .pointer t, .agg #[.int .i64 x22.1, .int .u16 x22.2.1], .int .i64 x23] w19 true [(true, [(.i .i64), (.i .i64), (.i .i64), (.i .i64), (.i .i64), (.i .i64)]), (false, [(.i .i64)]), (false, [(.i .i64)])] fun r24 w25 =>
alK [.int .i64 0, .int .i64 0, .int .i64 0, .int .i64 0, .int .i64 0, .int .i64 0] T.utc_Utc w25 fun p26 w27 =>
stN [.int .i64 r24.1.1, .int .i64 r24.1.2.1, .int .i64 r24.1.2.2.1, .int .i64 r24.1.2.2.2.1, .int .i64 r24.1.2.2.2.2.1, .int .i64 r24.1.2.2.2.2.2.1] p26 0 w27 fun w28 =>
CutT (fun (J29 : Unit → World → Prop) =>
brB (r10.2.1.1 != 0) (
brB (r24.2.2.1.1 != r10.2.1.1) (
R ((false, ()), ()) w28) (
brB (r24.2.1.1 != 0) (
R ((false, ()), ()) w28) (
ldN [(.i .i64), (.i .i64), (.i .i64), (.i .i64), (.i .i64), (.i .i64)] p26 0 w28 fun x32 =>
brB (!(((x32.1 == 0) && ((x32.2.1 == 0) && ((x32.2.2.1 == 0) && true))) && ((x32.2.2.2.1 == 0) && ((x32.2.2.2.2.1 == 0) && ((x32.2.2.2.2.2.1 == 0) && true))))) (
R ((false, ()), ()) w28) (
J29 (()) w28)))) (
ld1 (.i .i64) p12 w28 fun x33 =>
clS Try.prog F.utc_Of [.pointer t, .int .i64 x33] w28 true [(true, [(.i .i64), (.i .i64), (.i .i64), (.i .i64), (.i .i64), (.i .i64)]), (false, [(.i .i64)])] fun r34 w35 =>
alK [.int .i64 0, .int .i64 0, .int .i64 0, .int .i64 0, .int .i64 0, .int .i64 0] T.utc_Utc w35 fun p36 w37 =>
stN [.int .i64 r34.1.1, .int .i64 r34.1.2.1, .int .i64 r34.1.2.2.1, .int .i64 r34.1.2.2.2.1, .int .i64 r34.1.2.2.2.2.1, .int .i64 r34.1.2.2.2.2.2.1] p36 0 w37 fun w38 =>
brB (r24.2.2.1.1 != r34.2.1.1) (
R ((false, ()), ()) w38) (
ldN [(.i .i64), (.i .i64), (.i .i64), (.i .i64), (.i .i64), (.i .i64)] p26 0 w38 fun x39 =>
ldN [(.i .i64), (.i .i64), (.i .i64), (.i .i64), (.i .i64), (.i .i64)] p36 0 w38 fun x40 =>
brB (!(((x39.1 == x40.1) && ((x39.2.1 == x40.2.1) && ((x39.2.2.1 == x40.2.2.1) && true))) && ((x39.2.2.2.1 == x40.2.2.2.1) && ((x39.2.2.2.2.1 == x40.2.2.2.2.1) && ((x39.2.2.2.2.2.1 == x40.2.2.2.2.2.1) && true))))) (
R ((false, ()), ()) w38) (
brB (r34.2.1.1 == 0) (
ld1 (.i .i64) (p12.add 1) w38 fun x41 =>
brB (r24.2.1.1 != x41) (
R ((false, ()), ()) w38) (
brB (r34.2.1.1 != 0) (
brB (r24.2.1.1 != 0) (
R ((false, ()), ()) w38) (
J29 (()) w38)) (
J29 (()) w38))) (
brB (r34.2.1.1 != 0) (
brB (r24.2.1.1 != 0) (
R ((false, ()), ()) w38) (
J29 (()) w38)) (
J29 (()) w38)))))) (fun (z30 : Unit) w31 => ∀ _ : Nat → Value,
ldN [(.i .i64), (.i .u16)] p5 0 w31 fun x42 =>
ld1 (.i .i64) (p1.add 17) w31 fun x43 =>
clS Try.prog F.anchor_Book_Time [.pointer b, .agg #[.int .i64 x42.1, .int .u16 x42.2.1], .int .i64 x43] w31 true [(false, [(.i .i64)]), (false, [(.i .i64)])] fun r44 w45 =>
ld1 (.i .i64) (p1.add 15) w45 fun x46 =>
ld1 (.i .u16) (p1.add 16) w45 fun x47 =>
ld1 (.i .i64) (p1.add 17) w45 fun x48 =>
clS Try.prog F.ref23_Book_Time [.pointer m, .int .i64 x46, .int .u16 x47, .int .i64 x48] w45 true [(false, [(.i .i64)]), (false, [(.i .i64)])] fun r49 w50 =>
brB (r44.1.1 == r49.1.1) (
R (((r44.2.1.1 == r49.2.1.1), ()), ()) w50) (
R ((false, ()), ()) w50)))))
set_option maxRecDepth 100000 in
theorem law23_asked.eq (b : Option Addr) (m : Option Addr) (t : Option Addr) (c0 : Int) (c1 : Int) (c2 : Int) (c3 : Int) (c4 : Int) (c5 : Int) (c6 : Int) (c7 : Int) (c8 : Int) (c9 : Int) (c10 : Int) (c11 : Int) (c12 : Int) (c13 : Int) (c14 : Int) (c15 : Int) (c16 : Int) (c17 : Int) (w : World) (R : Value → World → Prop) : wpF Try.prog Try.f41 (.s .n (.s .n (.s .n (.s .n (.s .n (.s .n (.ct [] .n .n))))))) [.pointer b, .pointer m, .pointer t, .agg #[.int .i64 c0, .int .i64 c1, .int .i64 c2, .int .i64 c3, .int .i64 c4, .int .u16 c5, .int .u16 c6, .int .i64 c7, .int .i64 c8, .int .i64 c9, .int .i64 c10, .int .i64 c11, .int .i64 c12, .int .i64 c13, .int .i64 c14, .int .i64 c15, .int .u16 c16, .int .i64 c17]] w R = law23_asked.wp b m t c0 c1 c2 c3 c4 c5 c6 c7 c8 c9 c10 c11 c12 c13 c14 c15 c16 c17 w (fun r w => R (encR false [(false, [.b])] r) w) := by kernel_rfl
set_option maxRecDepth 100000 in
theorem law23_asked.ok {b : Option Addr} {m : Option Addr} {t : Option Addr} {c0 : Int} {c1 : Int} {c2 : Int} {c3 : Int} {c4 : Int} {c5 : Int} {c6 : Int} {c7 : Int} {c8 : Int} {c9 : Int} {c10 : Int} {c11 : Int} {c12 : Int} {c13 : Int} {c14 : Int} {c15 : Int} {c16 : Int} {c17 : Int} {w : World} {R : TR [(false, [.b])] → World → Prop} (h : law23_asked.wp b m t c0 c1 c2 c3 c4 c5 c6 c7 c8 c9 c10 c11 c12 c13 c14 c15 c16 c17 w R) : clS Try.prog F.law23_asked [.pointer b, .pointer m, .pointer t, .agg #[.int .i64 c0, .int .i64 c1, .int .i64 c2, .int .i64 c3, .int .i64 c4, .int .u16 c5, .int .u16 c6, .int .i64 c7, .int .i64 c8, .int .i64 c9, .int .i64 c10, .int .i64 c11, .int .i64 c12, .int .i64 c13, .int .i64 c14, .int .i64 c15, .int .u16 c16, .int .i64 c17]] w false [(false, [.b])] R :=
  ok_of Try_follows Try.func41 (fun R => law23_asked.wp b m t c0 c1 c2 c3 c4 c5 c6 c7 c8 c9 c10 c11 c12 c13 c14 c15 c16 c17 w R) (law23_asked.eq b m t c0 c1 c2 c3 c4 c5 c6 c7 c8 c9 c10 c11 c12 c13 c14 c15 c16 c17 w) rfl h
/-! ### leap_Make -/
set_option maxRecDepth 100000 in
def leap_Make.wp (start : Int) (ahead : Int) (end_ : Int) (leaps : Option Addr × Nat × Nat) (w : World) (R : TR [(false, [.p]), (false, [(.i .i64)])] → World → Prop) : Prop :=
clS Try.prog F.leap_day [.int .i64 start] w false [(false, [.b])] fun r1 w2 =>
brB (!r1.1.1) (
R ((none, ()), (1, ()), ()) w2) (
clS Try.prog F.leap_day [.int .i64 end_] w2 false [(false, [.b])] fun r3 w4 =>
brB (!r3.1.1) (
R ((none, ()), (1, ()), ()) w4) (
brB (decide (start ≥ end_)) (
R ((none, ()), (1, ()), ()) w4) (
brB (decide (ahead < 0)) (
R ((none, ()), (1, ()), ()) w4) (
brB (decide (ahead > 99)) (
R ((none, ()), (1, ()), ()) w4) (
clS Try.prog F.slices_ContainsFunc_leap_Leap_leap_Leap [.slice leaps.1 leaps.2.1 leaps.2.2, .func (.func F.leap_Make_1) #[] #[]] w4 false [(false, [.b])] fun r5 w6 =>
brB r5.1.1 (
R ((none, ()), (1, ()), ()) w6) (
brB (decide ((leaps.2.1 : Int) > 64)) (
R ((none, ()), (6, ()), ()) w6) (
LoopT (fun (self7 : ((Int) × (Int) × Unit) → World → Prop) (z8 : (Int) × (Int) × Unit) w9 => ∀ _ : Nat → Value,
brB (decide (z8.2.1 < (leaps.2.1 : Int))) (
ixK leaps.1 leaps.2.1 z8.2.1 fun a10 =>
ldN [(.i .i64), (.i .i64)] (a10.add (z8.2.1.toNat * 2)) 0 w9 fun x11 =>
alK [.int .i64 0, .int .i64 0] T.leap_Leap w9 fun p12 w13 =>
stN [.int .i64 x11.1, .int .i64 x11.2.1] p12 0 w13 fun w14 =>
ld1 (.i .i64) p12 w14 fun x15 =>
brB (decide (x15 ≤ z8.1)) (
R ((none, ()), (12, ()), ()) w14) (
ld1 (.i .i64) p12 w14 fun x16 =>
brB (decide (x16 ≥ end_)) (
R ((none, ()), (12, ()), ()) w14) (
ld1 (.i .i64) p12 w14 fun x17 =>
self7 (x17, IntKind.wrap .i64 (z8.2.1 + 1), ()) w14))) (
clS Try.prog F.slices_Clone_leap_Leap_leap_Leap [.slice leaps.1 leaps.2.1 leaps.2.2] w9 false [(false, [.sl])] fun r18 w19 =>
alK [.int .i64 start, .int .i64 ahead, .int .i64 end_, .slice r18.1.1.1 r18.1.1.2.1 r18.1.1.2.2] T.leap_Table w19 fun p20 w21 =>
R ((some p20, ()), (0, ()), ()) w21)) (IntKind.wrap .i64 (start - 1), 0, ()) w6)))))))
set_option maxRecDepth 100000 in
theorem leap_Make.eq (start : Int) (ahead : Int) (end_ : Int) (leaps : Option Addr × Nat × Nat) (w : World) (R : Value → World → Prop) : wpF Try.prog Try.f42 (.s .n (.s .n (.s .n (.s .n (.s .n (.s (.s .n (.lp [(10, (.i .i64)), (43, (.i .i64))] .n)) .n)))))) [.int .i64 start, .int .i64 ahead, .int .i64 end_, .slice leaps.1 leaps.2.1 leaps.2.2] w R = leap_Make.wp start ahead end_ leaps w (fun r w => R (encR true [(false, [.p]), (false, [(.i .i64)])] r) w) := by kernel_rfl
set_option maxRecDepth 100000 in
theorem leap_Make.ok {start : Int} {ahead : Int} {end_ : Int} {leaps : Option Addr × Nat × Nat} {w : World} {R : TR [(false, [.p]), (false, [(.i .i64)])] → World → Prop} (h : leap_Make.wp start ahead end_ leaps w R) : clS Try.prog F.leap_Make [.int .i64 start, .int .i64 ahead, .int .i64 end_, .slice leaps.1 leaps.2.1 leaps.2.2] w true [(false, [.p]), (false, [(.i .i64)])] R :=
  ok_of Try_follows Try.func42 (fun R => leap_Make.wp start ahead end_ leaps w R) (leap_Make.eq start ahead end_ leaps w) rfl h
/-! ### fix_Floor -/
set_option maxRecDepth 100000 in
def fix_Floor.wp (a : Int) (b : Int) (w : World) (R : TR [(false, [(.i .i64)]), (false, [(.i .i64)]), (false, [.b])] → World → Prop) : Prop :=
brB (decide (b < 1)) (
R ((0, ()), (0, ()), (false, ()), ()) w) (
drK w fun w1 =>
nzK b (
nzK b (
brB (decide ((Int.tmod a b) < 0)) (
R ((IntKind.wrap .i64 ((IntKind.wrap .i64 (Int.tdiv a b)) - 1), ()), (IntKind.wrap .i64 ((Int.tmod a b) + b), ()), (true, ()), ()) w1) (
R ((IntKind.wrap .i64 (Int.tdiv a b), ()), (Int.tmod a b, ()), (true, ()), ()) w1))))
set_option maxRecDepth 100000 in
theorem fix_Floor.eq (a : Int) (b : Int) (w : World) (R : Value → World → Prop) : wpF Try.prog Try.f43 (.s .n (.s .n (.s (.pl (.tk 0 (.tk 1 (.tk 2 (.tk 3 (.tk 4 (.tk 5 (.tk 6 (.tk 7 .z))))))))) .n))) [.int .i64 a, .int .i64 b] w R = fix_Floor.wp a b w (fun r w => R (encR true [(false, [(.i .i64)]), (false, [(.i .i64)]), (false, [.b])] r) w) := by kernel_rfl
set_option maxRecDepth 100000 in
theorem fix_Floor.ok {a : Int} {b : Int} {w : World} {R : TR [(false, [(.i .i64)]), (false, [(.i .i64)]), (false, [.b])] → World → Prop} (h : fix_Floor.wp a b w R) : clS Try.prog F.fix_Floor [.int .i64 a, .int .i64 b] w true [(false, [(.i .i64)]), (false, [(.i .i64)]), (false, [.b])] R :=
  ok_of Try_follows Try.func43 (fun R => fix_Floor.wp a b w R) (fix_Floor.eq a b w) rfl h
/-! ### utc_begin -/
set_option maxRecDepth 100000 in
def utc_begin.wp (t : Option Addr) (d : Int) (w : World) (R : TR [(false, [(.i .i64)]), (false, [.b])] → World → Prop) : Prop :=
clS Try.prog F.leap_Table_Ahead [.pointer t, .int .i64 d] w true [(false, [(.i .i64)]), (false, [.b])] fun r1 w2 =>
R ((IntKind.wrap .i64 ((IntKind.wrap .i64 (86400 * d)) + r1.1.1), ()), (r1.2.1.1, ()), ()) w2
set_option maxRecDepth 100000 in
theorem utc_begin.eq (t : Option Addr) (d : Int) (w : World) (R : Value → World → Prop) : wpF Try.prog Try.f44 .n [.pointer t, .int .i64 d] w R = utc_begin.wp t d w (fun r w => R (encR true [(false, [(.i .i64)]), (false, [.b])] r) w) := by kernel_rfl
set_option maxRecDepth 100000 in
theorem utc_begin.ok {t : Option Addr} {d : Int} {w : World} {R : TR [(false, [(.i .i64)]), (false, [.b])] → World → Prop} (h : utc_begin.wp t d w R) : clS Try.prog F.utc_begin [.pointer t, .int .i64 d] w true [(false, [(.i .i64)]), (false, [.b])] R :=
  ok_of Try_follows Try.func44 (fun R => utc_begin.wp t d w R) (utc_begin.eq t d w) rfl h
end Go.Proofs.Ytimdngcmbmamdaa
