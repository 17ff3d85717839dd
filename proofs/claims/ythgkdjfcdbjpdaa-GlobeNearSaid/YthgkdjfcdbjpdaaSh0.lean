import Derived.Test.YthgkdjfcdbjpdaaNm
namespace Go.Proofs.Ythgkdjfcdbjpdaa
open Go.Eng
set_option linter.unusedVariables false
/-! ### law14_GlobeIs -/
set_option maxRecDepth 100000 in
def law14_GlobeIs.wp (drift : Int) (list : Option Addr × Nat × Nat) (local_ : Int) (w : World) (R : TR [(false, [.b])] → World → Prop) : Prop :=
clS Try.prog F.law14_alive [] w false [(false, [.b])] fun r1 w2 =>
brB (!r1.1.1) (
R ((false, ()), ()) w2) (
brB (decide ((list.2.1 : Int) > 100)) (
R ((true, ()), ()) w2) (
clS Try.prog F.law14_filled [.slice list.1 list.2.1 list.2.2] w2 true [(false, [.p]), (false, [.sl])] fun r3 w4 =>
clS Try.prog F.globe_Of [.int .i64 drift, .pointer r3.1.1] w4 true [(true, [(.i .i64), (.i .i64), (.i .i64), (.i .i64), (.i .i64)]), (false, [.b])] fun r5 w6 =>
alK [.int .i64 0, .int .i64 0, .int .i64 0, .int .i64 0, .int .i64 0] T.globe_Map w6 fun p7 w8 =>
stN [.int .i64 r5.1.1, .int .i64 r5.1.2.1, .int .i64 r5.1.2.2.1, .int .i64 r5.1.2.2.2.1, .int .i64 r5.1.2.2.2.2.1] p7 0 w8 fun w9 =>
clS Try.prog F.ref14_Of [.int .i64 drift, .slice r3.2.1.1.1 r3.2.1.1.2.1 r3.2.1.1.2.2] w9 true [(true, [(.i .i64), (.i .i64), (.i .i64), (.i .i64), (.i .i64)]), (false, [.b])] fun r10 w11 =>
alK [.int .i64 0, .int .i64 0, .int .i64 0, .int .i64 0, .int .i64 0] T.ref14_Map w11 fun p12 w13 =>
stN [.int .i64 r10.1.1, .int .i64 r10.1.2.1, .int .i64 r10.1.2.2.1, .int .i64 r10.1.2.2.2.1, .int .i64 r10.1.2.2.2.2.1] p12 0 w13 fun w14 =>
brB (!(r5.2.1.1 == r10.2.1.1)) (
R ((false, ()), ()) w14) (
brB (!r10.2.1.1) (
clS Try.prog F.globe_Of [.int .i64 drift, .pointer none] w14 true [(true, [(.i .i64), (.i .i64), (.i .i64), (.i .i64), (.i .i64)]), (false, [.b])] fun r15 w16 =>
alK [.int .i64 0, .int .i64 0, .int .i64 0, .int .i64 0, .int .i64 0] T.globe_Map w16 fun p17 w18 =>
stN [.int .i64 r15.1.1, .int .i64 r15.1.2.1, .int .i64 r15.1.2.2.1, .int .i64 r15.1.2.2.2.1, .int .i64 r15.1.2.2.2.2.1] p17 0 w18 fun w19 =>
ldN [(.i .i64), (.i .i64), (.i .i64), (.i .i64), (.i .i64)] p7 0 w19 fun x20 =>
brB ((x20.1 == 0) && ((x20.2.1 == 0) && (((x20.2.2.1 == 0) && ((x20.2.2.2.1 == 0) && true)) && ((x20.2.2.2.2.1 == 0) && true)))) (
ldN [(.i .i64), (.i .i64), (.i .i64), (.i .i64), (.i .i64)] p17 0 w19 fun x21 =>
brB ((x21.1 == 0) && ((x21.2.1 == 0) && (((x21.2.2.1 == 0) && ((x21.2.2.2.1 == 0) && true)) && ((x21.2.2.2.2.1 == 0) && true)))) (
R ((!r15.2.1.1, ()), ()) w19) (
R ((false, ()), ()) w19)) (
R ((false, ()), ()) w19)) (
ld1 (.i .i64) p7 w14 fun x22 =>
ld1 (.i .i64) p12 w14 fun x23 =>
brB (x22 != x23) (
R ((false, ()), ()) w14) (
ld1 (.i .i64) (p7.add 1) w14 fun x24 =>
ld1 (.i .i64) (p12.add 1) w14 fun x25 =>
brB (x24 != x25) (
R ((false, ()), ()) w14) (
ld1 (.i .i64) (p7.add 2) w14 fun x26 =>
ld1 (.i .i64) (p12.add 2) w14 fun x27 =>
brB (x26 != x27) (
R ((false, ()), ()) w14) (
ld1 (.i .i64) ((p7.add 2).add 1) w14 fun x28 =>
ld1 (.i .i64) (p12.add 3) w14 fun x29 =>
brB (x28 != x29) (
R ((false, ()), ()) w14) (
ld1 (.i .i64) (p7.add 4) w14 fun x30 =>
ld1 (.i .i64) (p12.add 4) w14 fun x31 =>
brB (x30 != x31) (
R ((false, ()), ()) w14) (
ldN [(.i .i64), (.i .i64), (.i .i64), (.i .i64), (.i .i64)] p7 0 w14 fun x32 =>
clS Try.prog F.globe_Map_Global [.agg #[.int .i64 x32.1, .int .i64 x32.2.1, .int .i64 x32.2.2.1, .int .i64 x32.2.2.2.1, .int .i64 x32.2.2.2.2.1], .int .i64 local_] w14 true [(false, [(.i .i64)]), (false, [.b])] fun r33 w34 =>
ldN [(.i .i64), (.i .i64), (.i .i64), (.i .i64), (.i .i64)] p12 0 w34 fun x35 =>
clS Try.prog F.ref14_Global [.agg #[.int .i64 x35.1, .int .i64 x35.2.1, .int .i64 x35.2.2.1, .int .i64 x35.2.2.2.1, .int .i64 x35.2.2.2.2.1], .int .i64 local_] w34 true [(false, [(.i .i64)]), (false, [.b])] fun r36 w37 =>
brB (r33.1.1 == r36.1.1) (
R (((r33.2.1.1 == r36.2.1.1), ()), ()) w37) (
R ((false, ()), ()) w37))))))))))
set_option maxRecDepth 100000 in
theorem law14_GlobeIs.eq (drift : Int) (list : Option Addr × Nat × Nat) (local_ : Int) (w : World) (R : Value → World → Prop) : wpF Try.prog Try.f3 .n [.int .i64 drift, .slice list.1 list.2.1 list.2.2, .int .i64 local_] w R = law14_GlobeIs.wp drift list local_ w (fun r w => R (encR false [(false, [.b])] r) w) := by kernel_rfl
theorem law14_GlobeIs.ok {drift : Int} {list : Option Addr × Nat × Nat} {local_ : Int} {w : World} {R : TR [(false, [.b])] → World → Prop} (h : law14_GlobeIs.wp drift list local_ w R) : clS Try.prog F.law14_GlobeIs [.int .i64 drift, .slice list.1 list.2.1 list.2.2, .int .i64 local_] w false [(false, [.b])] R :=
  ok_of Try_follows Try.func3 (fun R => law14_GlobeIs.wp drift list local_ w R) (law14_GlobeIs.eq drift list local_ w) rfl h
/-! ### law14_GlobeOn -/
set_option maxRecDepth 100000 in
def law14_GlobeOn.wp (drift : Int) (list : Option Addr × Nat × Nat) (local_ : Int) (by_ : Int) (w : World) (R : TR [(false, [.b])] → World → Prop) : Prop :=
clS Try.prog F.law14_alive [] w false [(false, [.b])] fun r1 w2 =>
brB (!r1.1.1) (
R ((false, ()), ()) w2) (
brB (decide ((list.2.1 : Int) > 100)) (
R ((true, ()), ()) w2) (
brB (decide (local_ < 0)) (
R ((true, ()), ()) w2) (
brB (decide (by_ < 0)) (
R ((true, ()), ()) w2) (
brB (decide (by_ > 1073741824)) (
R ((true, ()), ()) w2) (
brB (decide (local_ > (IntKind.wrap .i64 (1125899906842624 - by_)))) (
R ((true, ()), ()) w2) (
clS Try.prog F.law14_filled [.slice list.1 list.2.1 list.2.2] w2 true [(false, [.p]), (false, [.sl])] fun r3 w4 =>
clS Try.prog F.globe_Of [.int .i64 drift, .pointer r3.1.1] w4 true [(true, [(.i .i64), (.i .i64), (.i .i64), (.i .i64), (.i .i64)]), (false, [.b])] fun r5 w6 =>
alK [.int .i64 0, .int .i64 0, .int .i64 0, .int .i64 0, .int .i64 0] T.globe_Map w6 fun p7 w8 =>
stN [.int .i64 r5.1.1, .int .i64 r5.1.2.1, .int .i64 r5.1.2.2.1, .int .i64 r5.1.2.2.2.1, .int .i64 r5.1.2.2.2.2.1] p7 0 w8 fun w9 =>
brB (!r5.2.1.1) (
R ((true, ()), ()) w9) (
ldN [(.i .i64), (.i .i64), (.i .i64), (.i .i64), (.i .i64)] p7 0 w9 fun x10 =>
clS Try.prog F.globe_Map_Global [.agg #[.int .i64 x10.1, .int .i64 x10.2.1, .int .i64 x10.2.2.1, .int .i64 x10.2.2.2.1, .int .i64 x10.2.2.2.2.1], .int .i64 local_] w9 true [(false, [(.i .i64)]), (false, [.b])] fun r11 w12 =>
ldN [(.i .i64), (.i .i64), (.i .i64), (.i .i64), (.i .i64)] p7 0 w12 fun x13 =>
clS Try.prog F.globe_Map_Global [.agg #[.int .i64 x13.1, .int .i64 x13.2.1, .int .i64 x13.2.2.1, .int .i64 x13.2.2.2.1, .int .i64 x13.2.2.2.2.1], .int .i64 (IntKind.wrap .i64 (local_ + by_))] w12 true [(false, [(.i .i64)]), (false, [.b])] fun r14 w15 =>
brB (!r11.2.1.1) (
R ((true, ()), ()) w15) (
brB (!r14.2.1.1) (
R ((true, ()), ()) w15) (
clS Try.prog F.ref13_Most [.int .i64 drift] w15 true [(false, [(.i .i64)]), (false, [(.i .i64)])] fun r16 w17 =>
brB (decide (r14.1.1 ≥ r11.1.1)) (
clS Try.prog F.ref13_Gain [.int .i64 r16.1.1, .int .i64 r16.2.1.1, .int .i64 by_] w17 false [(false, [(.i .i64)])] fun r18 w19 =>
R ((decide ((IntKind.wrap .i64 (r14.1.1 - r11.1.1)) ≤ (IntKind.wrap .i64 ((IntKind.wrap .i64 (by_ + r18.1.1)) + 2))), ()), ()) w19) (
R ((false, ()), ()) w17))))))))))
set_option maxRecDepth 100000 in
theorem law14_GlobeOn.eq (drift : Int) (list : Option Addr × Nat × Nat) (local_ : Int) (by_ : Int) (w : World) (R : Value → World → Prop) : wpF Try.prog Try.f4 .n [.int .i64 drift, .slice list.1 list.2.1 list.2.2, .int .i64 local_, .int .i64 by_] w R = law14_GlobeOn.wp drift list local_ by_ w (fun r w => R (encR false [(false, [.b])] r) w) := by kernel_rfl
theorem law14_GlobeOn.ok {drift : Int} {list : Option Addr × Nat × Nat} {local_ : Int} {by_ : Int} {w : World} {R : TR [(false, [.b])] → World → Prop} (h : law14_GlobeOn.wp drift list local_ by_ w R) : clS Try.prog F.law14_GlobeOn [.int .i64 drift, .slice list.1 list.2.1 list.2.2, .int .i64 local_, .int .i64 by_] w false [(false, [.b])] R :=
  ok_of Try_follows Try.func4 (fun R => law14_GlobeOn.wp drift list local_ by_ w R) (law14_GlobeOn.eq drift list local_ by_ w) rfl h
/-! ### law14_GlobeBack -/
set_option maxRecDepth 100000 in
def law14_GlobeBack.wp (drift : Int) (list : Option Addr × Nat × Nat) (local_ : Int) (global : Int) (w : World) (R : TR [(false, [.b])] → World → Prop) : Prop :=
clS Try.prog F.law14_alive [] w false [(false, [.b])] fun r1 w2 =>
brB (!r1.1.1) (
R ((false, ()), ()) w2) (
brB (decide ((list.2.1 : Int) > 100)) (
R ((true, ()), ()) w2) (
clS Try.prog F.law14_filled [.slice list.1 list.2.1 list.2.2] w2 true [(false, [.p]), (false, [.sl])] fun r3 w4 =>
clS Try.prog F.globe_Of [.int .i64 drift, .pointer r3.1.1] w4 true [(true, [(.i .i64), (.i .i64), (.i .i64), (.i .i64), (.i .i64)]), (false, [.b])] fun r5 w6 =>
alK [.int .i64 0, .int .i64 0, .int .i64 0, .int .i64 0, .int .i64 0] T.globe_Map w6 fun p7 w8 =>
stN [.int .i64 r5.1.1, .int .i64 r5.1.2.1, .int .i64 r5.1.2.2.1, .int .i64 r5.1.2.2.2.1, .int .i64 r5.1.2.2.2.2.1] p7 0 w8 fun w9 =>
clS Try.prog F.ref14_Of [.int .i64 drift, .slice r3.2.1.1.1 r3.2.1.1.2.1 r3.2.1.1.2.2] w9 true [(true, [(.i .i64), (.i .i64), (.i .i64), (.i .i64), (.i .i64)]), (false, [.b])] fun r10 w11 =>
alK [.int .i64 0, .int .i64 0, .int .i64 0, .int .i64 0, .int .i64 0] T.ref14_Map w11 fun p12 w13 =>
stN [.int .i64 r10.1.1, .int .i64 r10.1.2.1, .int .i64 r10.1.2.2.1, .int .i64 r10.1.2.2.2.1, .int .i64 r10.1.2.2.2.2.1] p12 0 w13 fun w14 =>
brB (!r5.2.1.1) (
R ((((r3.2.1.1.2.1 : Int) == 0), ()), ()) w14) (
CutT (fun (J15 : Unit → World → Prop) =>
ldN [(.i .i64), (.i .i64), (.i .i64), (.i .i64), (.i .i64)] p7 0 w14 fun x18 =>
clS Try.prog F.globe_Map_Global [.agg #[.int .i64 x18.1, .int .i64 x18.2.1, .int .i64 x18.2.2.1, .int .i64 x18.2.2.2.1, .int .i64 x18.2.2.2.2.1], .int .i64 local_] w14 true [(false, [(.i .i64)]), (false, [.b])] fun r19 w20 =>
brB r19.2.1.1 (
ldN [(.i .i64), (.i .i64), (.i .i64), (.i .i64), (.i .i64)] p7 0 w20 fun x21 =>
clS Try.prog F.globe_Map_Back [.agg #[.int .i64 x21.1, .int .i64 x21.2.1, .int .i64 x21.2.2.1, .int .i64 x21.2.2.2.1, .int .i64 x21.2.2.2.2.1], .int .i64 r19.1.1] w20 true [(false, [(.i .i64)]), (false, [.b])] fun r22 w23 =>
ldN [(.i .i64), (.i .i64), (.i .i64), (.i .i64), (.i .i64)] p7 0 w23 fun x24 =>
clS Try.prog F.globe_Map_Global [.agg #[.int .i64 x24.1, .int .i64 x24.2.1, .int .i64 x24.2.2.1, .int .i64 x24.2.2.2.1, .int .i64 x24.2.2.2.2.1], .int .i64 r22.1.1] w23 true [(false, [(.i .i64)]), (false, [.b])] fun r25 w26 =>
brB (!r22.2.1.1) (
R ((false, ()), ()) w26) (
brB (decide (r22.1.1 > local_)) (
R ((false, ()), ()) w26) (
brB (!r25.2.1.1) (
R ((false, ()), ()) w26) (
brB (r25.1.1 != r19.1.1) (
R ((false, ()), ()) w26) (
J15 (()) w26))))) (
J15 (()) w20)) (fun (z16 : Unit) w17 => ∀ _ : Nat → Value,
ldN [(.i .i64), (.i .i64), (.i .i64), (.i .i64), (.i .i64)] p7 0 w17 fun x27 =>
clS Try.prog F.globe_Map_Back [.agg #[.int .i64 x27.1, .int .i64 x27.2.1, .int .i64 x27.2.2.1, .int .i64 x27.2.2.2.1, .int .i64 x27.2.2.2.2.1], .int .i64 global] w17 true [(false, [(.i .i64)]), (false, [.b])] fun r28 w29 =>
brB (!r28.2.1.1) (
brB (r28.1.1 == 0) (
brB (decide (global < 0)) (
R ((true, ()), ()) w29) (
brB (decide (global > 1125899906842624)) (
R ((true, ()), ()) w29) (
ldN [(.i .i64), (.i .i64), (.i .i64), (.i .i64), (.i .i64)] p12 0 w29 fun x30 =>
clS Try.prog F.law14_reaches [.agg #[.int .i64 x30.1, .int .i64 x30.2.1, .int .i64 x30.2.2.1, .int .i64 x30.2.2.2.1, .int .i64 x30.2.2.2.2.1], .int .i64 global] w29 false [(false, [.b])] fun r31 w32 =>
R ((!r31.1.1, ()), ()) w32))) (
R ((false, ()), ()) w29)) (
ldN [(.i .i64), (.i .i64), (.i .i64), (.i .i64), (.i .i64)] p12 0 w29 fun x33 =>
clS Try.prog F.ref14_Global [.agg #[.int .i64 x33.1, .int .i64 x33.2.1, .int .i64 x33.2.2.1, .int .i64 x33.2.2.2.1, .int .i64 x33.2.2.2.2.1], .int .i64 r28.1.1] w29 true [(false, [(.i .i64)]), (false, [.b])] fun r34 w35 =>
brB r34.2.1.1 (
brB (decide (r34.1.1 ≥ global)) (
brB (r28.1.1 == 0) (
R ((true, ()), ()) w35) (
ldN [(.i .i64), (.i .i64), (.i .i64), (.i .i64), (.i .i64)] p12 0 w35 fun x36 =>
clS Try.prog F.ref14_Raw [.agg #[.int .i64 x36.1, .int .i64 x36.2.1, .int .i64 x36.2.2.1, .int .i64 x36.2.2.2.1, .int .i64 x36.2.2.2.2.1], .int .i64 (IntKind.wrap .i64 (r28.1.1 - 1))] w35 false [(false, [(.i .i64)])] fun r37 w38 =>
R ((decide (r37.1.1 < global), ()), ()) w38)) (
R ((false, ()), ()) w35)) (
R ((false, ()), ()) w35))))))
set_option maxRecDepth 100000 in
theorem law14_GlobeBack.eq (drift : Int) (list : Option Addr × Nat × Nat) (local_ : Int) (global : Int) (w : World) (R : Value → World → Prop) : wpF Try.prog Try.f5 (.s .n (.s .n (.s .n (.s .n (.s .n (.s .n (.s .n (.ct [] .n .n)))))))) [.int .i64 drift, .slice list.1 list.2.1 list.2.2, .int .i64 local_, .int .i64 global] w R = law14_GlobeBack.wp drift list local_ global w (fun r w => R (encR false [(false, [.b])] r) w) := by kernel_rfl
theorem law14_GlobeBack.ok {drift : Int} {list : Option Addr × Nat × Nat} {local_ : Int} {global : Int} {w : World} {R : TR [(false, [.b])] → World → Prop} (h : law14_GlobeBack.wp drift list local_ global w R) : clS Try.prog F.law14_GlobeBack [.int .i64 drift, .slice list.1 list.2.1 list.2.2, .int .i64 local_, .int .i64 global] w false [(false, [.b])] R :=
  ok_of Try_follows Try.func5 (fun R => law14_GlobeBack.wp drift list local_ global w R) (law14_GlobeBack.eq drift list local_ global w) rfl h
/-! ### law14_GlobeNear -/
set_option maxRecDepth 100000 in
def law14_GlobeNear.wp (drift : Int) (steps : Option Addr × Nat × Nat) (gains : Option Addr × Nat × Nat) (errs : Option Addr × Nat × Nat) (start : Int) (ahead : Int) (off : Int) (w : World) (R : TR [(false, [.b])] → World → Prop) : Prop :=
clS Try.prog F.law14_alive [] w false [(false, [.b])] fun r1 w2 =>
brB (!r1.1.1) (
R ((false, ()), ()) w2) (
brB (decide (drift < 0)) (
R ((true, ()), ()) w2) (
brB (decide (drift > 10)) (
R ((true, ()), ()) w2) (
brB (decide ((steps.2.1 : Int) < 2)) (
R ((true, ()), ()) w2) (
brB (decide ((steps.2.1 : Int) > 9)) (
R ((true, ()), ()) w2) (
brB (decide ((gains.2.1 : Int) < (steps.2.1 : Int))) (
R ((true, ()), ()) w2) (
brB (decide ((errs.2.1 : Int) < (steps.2.1 : Int))) (
R ((true, ()), ()) w2) (
brB (decide (start < 0)) (
R ((true, ()), ()) w2) (
brB (decide (start > 1099511627776)) (
R ((true, ()), ()) w2) (
brB (decide (ahead < 0)) (
R ((true, ()), ()) w2) (
brB (decide (ahead > 1099511627776)) (
R ((true, ()), ()) w2) (
brB (decide (off < 0)) (
R ((true, ()), ()) w2) (
brB (decide (off > 100000)) (
R ((true, ()), ()) w2) (
clS Try.prog F.ref13_Most [.int .i64 drift] w2 true [(false, [(.i .i64)]), (false, [(.i .i64)])] fun r3 w4 =>
alK [.slice none 0 0] T.table_Table w4 fun p5 w6 =>
LoopT (fun (self7 : ((Int) × (Int) × (Int) × (Int) × Unit) → World → Prop) (z8 : (Int) × (Int) × (Int) × (Int) × Unit) w9 => ∀ _ : Nat → Value,
brB (decide (z8.2.2.2.1 < (steps.2.1 : Int))) (
ixK steps.1 steps.2.1 z8.2.2.2.1 fun a10 =>
ld1 (.i .i64) (a10.add (z8.2.2.2.1.toNat * 1)) w9 fun x11 =>
brB (decide (x11 < 1)) (
R ((true, ()), ()) w9) (
brB (decide (x11 > 100000)) (
R ((true, ()), ()) w9) (
ixK errs.1 errs.2.1 z8.2.2.2.1 fun a12 =>
ld1 (.i .i64) (a12.add (z8.2.2.2.1.toNat * 1)) w9 fun x13 =>
brB (decide (x13 < (IntKind.wrap .i64 (0 - off)))) (
R ((true, ()), ()) w9) (
ixK errs.1 errs.2.1 z8.2.2.2.1 fun a14 =>
ld1 (.i .i64) (a14.add (z8.2.2.2.1.toNat * 1)) w9 fun x15 =>
brB (decide (x15 > off)) (
R ((true, ()), ()) w9) (
clS Try.prog F.ref13_Gain [.int .i64 r3.1.1, .int .i64 r3.2.1.1, .int .i64 x11] w9 false [(false, [(.i .i64)])] fun r16 w17 =>
ixK gains.1 gains.2.1 z8.2.2.2.1 fun a18 =>
ld1 (.i .i64) (a18.add (z8.2.2.2.1.toNat * 1)) w17 fun x19 =>
brB (decide (x19 < (IntKind.wrap .i64 (0 - r16.1.1)))) (
R ((true, ()), ()) w17) (
ixK gains.1 gains.2.1 z8.2.2.2.1 fun a20 =>
ld1 (.i .i64) (a20.add (z8.2.2.2.1.toNat * 1)) w17 fun x21 =>
brB (decide (x21 > r16.1.1)) (
R ((true, ()), ()) w17) (
ixK gains.1 gains.2.1 z8.2.2.2.1 fun a22 =>
ld1 (.i .i64) (a22.add (z8.2.2.2.1.toNat * 1)) w17 fun x23 =>
CutT (fun (J24 : ((Int) × Unit) → World → Prop) =>
brB (z8.2.2.2.1 == 0) (
J24 (IntKind.wrap .i64 (z8.1 + x11), ()) w17) (
J24 (z8.2.2.1, ()) w17)) (fun (z25 : (Int) × Unit) w26 => ∀ _ : Nat → Value,
brB (decide (z8.2.2.2.1 < (IntKind.wrap .i64 ((steps.2.1 : Int) - 1)))) (
ixK errs.1 errs.2.1 z8.2.2.2.1 fun a27 =>
ld1 (.i .i64) (a27.add (z8.2.2.2.1.toNat * 1)) w26 fun x28 =>
clS Try.prog F.table_Table_Add [.pointer (some p5), .agg #[.int .i64 (IntKind.wrap .i64 (z8.1 + x11)), .int .i64 (IntKind.wrap .i64 ((IntKind.wrap .i64 (z8.2.1 + x23)) + x28)), .int .i64 1]] w26 false [(false, [(.i .i64)])] fun r29 w30 =>
brB (r29.1.1 != 0) (
R ((false, ()), ()) w30) (
self7 (IntKind.wrap .i64 (z8.1 + x11), IntKind.wrap .i64 (z8.2.1 + x23), z25.1, IntKind.wrap .i64 (z8.2.2.2.1 + 1), ()) w30)) (
self7 (IntKind.wrap .i64 (z8.1 + x11), IntKind.wrap .i64 (z8.2.1 + x23), z25.1, IntKind.wrap .i64 (z8.2.2.2.1 + 1), ()) w26))))))))) (
clS Try.prog F.globe_Of [.int .i64 drift, .pointer (some p5)] w9 true [(true, [(.i .i64), (.i .i64), (.i .i64), (.i .i64), (.i .i64)]), (false, [.b])] fun r31 w32 =>
alK [.int .i64 0, .int .i64 0, .int .i64 0, .int .i64 0, .int .i64 0] T.globe_Map w32 fun p33 w34 =>
stN [.int .i64 r31.1.1, .int .i64 r31.1.2.1, .int .i64 r31.1.2.2.1, .int .i64 r31.1.2.2.2.1, .int .i64 r31.1.2.2.2.2.1] p33 0 w34 fun w35 =>
ldN [(.i .i64), (.i .i64), (.i .i64), (.i .i64), (.i .i64)] p33 0 w35 fun x36 =>
clS Try.prog F.globe_Map_Global [.agg #[.int .i64 x36.1, .int .i64 x36.2.1, .int .i64 x36.2.2.1, .int .i64 x36.2.2.2.1, .int .i64 x36.2.2.2.2.1], .int .i64 z8.1] w35 true [(false, [(.i .i64)]), (false, [.b])] fun r37 w38 =>
brB (!r31.2.1.1) (
R ((decide ((IntKind.wrap .i64 (z8.1 + z8.2.1)) < 300000), ()), ()) w38) (
brB (!r37.2.1.1) (
R ((decide ((IntKind.wrap .i64 (z8.1 + z8.2.1)) < 300000), ()), ()) w38) (
clS Try.prog F.ref13_Gain [.int .i64 r3.1.1, .int .i64 r3.2.1.1, .int .i64 (IntKind.wrap .i64 (z8.1 - z8.2.2.1))] w38 false [(false, [(.i .i64)])] fun r39 w40 =>
brB (decide ((IntKind.wrap .i64 (r37.1.1 - (IntKind.wrap .i64 (z8.1 + z8.2.1)))) ≤ (IntKind.wrap .i64 ((IntKind.wrap .i64 (off + (IntKind.wrap .i64 (2 * r39.1.1)))) + 4)))) (
R ((decide ((IntKind.wrap .i64 (r37.1.1 - (IntKind.wrap .i64 (z8.1 + z8.2.1)))) ≥ (IntKind.wrap .i64 (0 - (IntKind.wrap .i64 ((IntKind.wrap .i64 (off + (IntKind.wrap .i64 (2 * r39.1.1)))) + 4))))), ()), ()) w40) (
R ((false, ()), ()) w40))))) (start, ahead, start, 0, ()) w6)))))))))))))
set_option maxRecDepth 100000 in
theorem law14_GlobeNear.eq (drift : Int) (steps : Option Addr × Nat × Nat) (gains : Option Addr × Nat × Nat) (errs : Option Addr × Nat × Nat) (start : Int) (ahead : Int) (off : Int) (w : World) (R : Value → World → Prop) : wpF Try.prog Try.f6 (.s .n (.s .n (.s .n (.s .n (.s .n (.s .n (.s .n (.s (.s .n (.lp [(18, (.i .i64)), (19, (.i .i64)), (20, (.i .i64)), (98, (.i .i64))] (.s .n (.s .n (.s (.s .n (.s .n (.s .n (.s .n (.s .n (.s .n (.ct [(20, (.i .i64))] .n .n))))))) .n))))) .n)))))))) [.int .i64 drift, .slice steps.1 steps.2.1 steps.2.2, .slice gains.1 gains.2.1 gains.2.2, .slice errs.1 errs.2.1 errs.2.2, .int .i64 start, .int .i64 ahead, .int .i64 off] w R = law14_GlobeNear.wp drift steps gains errs start ahead off w (fun r w => R (encR false [(false, [.b])] r) w) := by kernel_rfl
theorem law14_GlobeNear.ok {drift : Int} {steps : Option Addr × Nat × Nat} {gains : Option Addr × Nat × Nat} {errs : Option Addr × Nat × Nat} {start : Int} {ahead : Int} {off : Int} {w : World} {R : TR [(false, [.b])] → World → Prop} (h : law14_GlobeNear.wp drift steps gains errs start ahead off w R) : clS Try.prog F.law14_GlobeNear [.int .i64 drift, .slice steps.1 steps.2.1 steps.2.2, .slice gains.1 gains.2.1 gains.2.2, .slice errs.1 errs.2.1 errs.2.2, .int .i64 start, .int .i64 ahead, .int .i64 off] w false [(false, [.b])] R :=
  ok_of Try_follows Try.func6 (fun R => law14_GlobeNear.wp drift steps gains errs start ahead off w R) (law14_GlobeNear.eq drift steps gains errs start ahead off w) rfl h
/-! ### law14_GlobeOne -/
set_option maxRecDepth 100000 in
def law14_GlobeOne.wp (drift : Int) (e0 : Int) (e1 : Int) (e2 : Int) (local_ : Int) (w : World) (R : TR [(false, [.b])] → World → Prop) : Prop :=
alK [.int .i64 e0, .int .i64 e1, .int .i64 e2] T.table_Entry w fun p1 w2 =>
clS Try.prog F.law14_alive [] w2 false [(false, [.b])] fun r3 w4 =>
brB (!r3.1.1) (
R ((false, ()), ()) w4) (
ldN [(.i .i64), (.i .i64), (.i .i64)] p1 0 w4 fun x5 =>
alK [.int .i64 x5.1, .int .i64 x5.2.1, .int .i64 x5.2.2.1] T.table_Entry w4 fun p6 w7 =>
clS Try.prog F.law14_filled [.slice (some p6) 1 1] w7 true [(false, [.p]), (false, [.sl])] fun r8 w9 =>
clS Try.prog F.globe_Of [.int .i64 drift, .pointer r8.1.1] w9 true [(true, [(.i .i64), (.i .i64), (.i .i64), (.i .i64), (.i .i64)]), (false, [.b])] fun r10 w11 =>
alK [.int .i64 0, .int .i64 0, .int .i64 0, .int .i64 0, .int .i64 0] T.globe_Map w11 fun p12 w13 =>
stN [.int .i64 r10.1.1, .int .i64 r10.1.2.1, .int .i64 r10.1.2.2.1, .int .i64 r10.1.2.2.2.1, .int .i64 r10.1.2.2.2.2.1] p12 0 w13 fun w14 =>
brB (!r10.2.1.1) (
ldN [(.i .i64), (.i .i64), (.i .i64)] p1 0 w14 fun x15 =>
clS Try.prog F.table_Entry_Good [.agg #[.int .i64 x15.1, .int .i64 x15.2.1, .int .i64 x15.2.2.1]] w14 false [(false, [.b])] fun r16 w17 =>
R ((!r16.1.1, ()), ()) w17) (
brB (decide (local_ < 0)) (
R ((true, ()), ()) w14) (
brB (decide (local_ > 1125899906842624)) (
R ((true, ()), ()) w14) (
ld1 (.i .i64) (p1.add 1) w14 fun x18 =>
ldN [(.i .i64), (.i .i64), (.i .i64), (.i .i64), (.i .i64)] p12 0 w14 fun x19 =>
clS Try.prog F.globe_Map_Global [.agg #[.int .i64 x19.1, .int .i64 x19.2.1, .int .i64 x19.2.2.1, .int .i64 x19.2.2.2.1, .int .i64 x19.2.2.2.2.1], .int .i64 local_] w14 true [(false, [(.i .i64)]), (false, [.b])] fun r20 w21 =>
CutT (fun (J22 : ((Bool) × Unit) → World → Prop) =>
brB (decide ((IntKind.wrap .i64 (local_ + x18)) < 0)) (
J22 (true, ()) w21) (
J22 (decide ((IntKind.wrap .i64 (local_ + x18)) > 1125899906842624), ()) w21)) (fun (z23 : (Bool) × Unit) w24 => ∀ _ : Nat → Value,
brB z23.1 (
brB (!r20.2.1.1) (
R (((r20.1.1 == 0), ()), ()) w24) (
R ((false, ()), ()) w24)) (
ldN [(.i .i64), (.i .i64), (.i .i64), (.i .i64), (.i .i64)] p12 0 w24 fun x25 =>
clS Try.prog F.globe_Map_Back [.agg #[.int .i64 x25.1, .int .i64 x25.2.1, .int .i64 x25.2.2.1, .int .i64 x25.2.2.2.1, .int .i64 x25.2.2.2.2.1], .int .i64 (IntKind.wrap .i64 (local_ + x18))] w24 true [(false, [(.i .i64)]), (false, [.b])] fun r26 w27 =>
brB r20.2.1.1 (
brB (r20.1.1 == (IntKind.wrap .i64 (local_ + x18))) (
brB r26.2.1.1 (
brB (r26.1.1 == local_) (
ld1 (.i .i64) (p12.add 4) w27 fun x28 =>
ld1 (.i .i64) (p1.add 2) w27 fun x29 =>
R (((x28 == x29), ()), ()) w27) (
R ((false, ()), ()) w27)) (
R ((false, ()), ()) w27)) (
R ((false, ()), ()) w27)) (
R ((false, ()), ()) w27)))))))
set_option maxRecDepth 100000 in
theorem law14_GlobeOne.eq (drift : Int) (e0 : Int) (e1 : Int) (e2 : Int) (local_ : Int) (w : World) (R : Value → World → Prop) : wpF Try.prog Try.f7 (.s .n (.s .n (.s .n (.s .n (.s .n (.s .n (.s .n (.s .n (.s (.ct [(56, .b)] .n .n) .n))))))))) [.int .i64 drift, .agg #[.int .i64 e0, .int .i64 e1, .int .i64 e2], .int .i64 local_] w R = law14_GlobeOne.wp drift e0 e1 e2 local_ w (fun r w => R (encR false [(false, [.b])] r) w) := by kernel_rfl
theorem law14_GlobeOne.ok {drift : Int} {e0 : Int} {e1 : Int} {e2 : Int} {local_ : Int} {w : World} {R : TR [(false, [.b])] → World → Prop} (h : law14_GlobeOne.wp drift e0 e1 e2 local_ w R) : clS Try.prog F.law14_GlobeOne [.int .i64 drift, .agg #[.int .i64 e0, .int .i64 e1, .int .i64 e2], .int .i64 local_] w false [(false, [.b])] R :=
  ok_of Try_follows Try.func7 (fun R => law14_GlobeOne.wp drift e0 e1 e2 local_ w R) (law14_GlobeOne.eq drift e0 e1 e2 local_ w) rfl h
/-! ### law14_alive -/
set_option maxRecDepth 100000 in
def law14_alive.wp  (w : World) (R : TR [(false, [.b])] → World → Prop) : Prop :=
alK [.int .i64 100, .int .i64 50, .int .i64 3] T.table_Entry w fun p1 w2 =>
clS Try.prog F.law14_filled [.slice (some p1) 1 1] w2 true [(false, [.p]), (false, [.sl])] fun r3 w4 =>
clS Try.prog F.globe_Of [.int .i64 10, .pointer r3.1.1] w4 true [(true, [(.i .i64), (.i .i64), (.i .i64), (.i .i64), (.i .i64)]), (false, [.b])] fun r5 w6 =>
alK [.int .i64 0, .int .i64 0, .int .i64 0, .int .i64 0, .int .i64 0] T.globe_Map w6 fun p7 w8 =>
stN [.int .i64 r5.1.1, .int .i64 r5.1.2.1, .int .i64 r5.1.2.2.1, .int .i64 r5.1.2.2.2.1, .int .i64 r5.1.2.2.2.2.1] p7 0 w8 fun w9 =>
ldN [(.i .i64), (.i .i64), (.i .i64), (.i .i64), (.i .i64)] p7 0 w9 fun x10 =>
clS Try.prog F.globe_Map_Global [.agg #[.int .i64 x10.1, .int .i64 x10.2.1, .int .i64 x10.2.2.1, .int .i64 x10.2.2.2.1, .int .i64 x10.2.2.2.2.1], .int .i64 7] w9 true [(false, [(.i .i64)]), (false, [.b])] fun r11 w12 =>
ldN [(.i .i64), (.i .i64), (.i .i64), (.i .i64), (.i .i64)] p7 0 w12 fun x13 =>
clS Try.prog F.globe_Map_Back [.agg #[.int .i64 x13.1, .int .i64 x13.2.1, .int .i64 x13.2.2.1, .int .i64 x13.2.2.2.1, .int .i64 x13.2.2.2.2.1], .int .i64 57] w12 true [(false, [(.i .i64)]), (false, [.b])] fun r14 w15 =>
brB r5.2.1.1 (
ld1 (.i .i64) (p7.add 4) w15 fun x16 =>
brB (x16 == 3) (
brB (r11.1.1 == 57) (
brB r11.2.1.1 (
brB (r14.1.1 == 7) (
R ((r14.2.1.1, ()), ()) w15) (
R ((false, ()), ()) w15)) (
R ((false, ()), ()) w15)) (
R ((false, ()), ()) w15)) (
R ((false, ()), ()) w15)) (
R ((false, ()), ()) w15)
set_option maxRecDepth 100000 in
theorem law14_alive.eq  (w : World) (R : Value → World → Prop) : wpF Try.prog Try.f8 .n [] w R = law14_alive.wp  w (fun r w => R (encR false [(false, [.b])] r) w) := by kernel_rfl
theorem law14_alive.ok  {w : World} {R : TR [(false, [.b])] → World → Prop} (h : law14_alive.wp  w R) : clS Try.prog F.law14_alive [] w false [(false, [.b])] R :=
  ok_of Try_follows Try.func8 (fun R => law14_alive.wp  w R) (law14_alive.eq  w) rfl h
/-! ### law14_filled -/
set_option maxRecDepth 100000 in
def law14_filled.wp (list : Option Addr × Nat × Nat) (w : World) (R : TR [(false, [.p]), (false, [.sl])] → World → Prop) : Prop :=
alK [.slice none 0 0] T.table_Table w fun p1 w2 =>
LoopT (fun (self3 : ((Option Addr × Nat × Nat) × (Int) × Unit) → World → Prop) (z4 : (Option Addr × Nat × Nat) × (Int) × Unit) w5 => ∀ _ : Nat → Value,
brB (decide (z4.2.1 < (list.2.1 : Int))) (
ixK list.1 list.2.1 z4.2.1 fun a6 =>
ldN [(.i .i64), (.i .i64), (.i .i64)] (a6.add (z4.2.1.toNat * 3)) 0 w5 fun x7 =>
alK [.int .i64 0, .int .i64 0, .int .i64 0] T.table_Entry w5 fun p8 w9 =>
stN [.int .i64 x7.1, .int .i64 x7.2.1, .int .i64 x7.2.2.1] p8 0 w9 fun w10 =>
ldN [(.i .i64), (.i .i64), (.i .i64)] p8 0 w10 fun x11 =>
clS Try.prog F.table_Table_Add [.pointer (some p1), .agg #[.int .i64 x11.1, .int .i64 x11.2.1, .int .i64 x11.2.2.1]] w10 false [(false, [(.i .i64)])] fun r12 w13 =>
ldN [(.i .i64), (.i .i64), (.i .i64)] p8 0 w13 fun x14 =>
clS Try.prog F.ref12_Add [.slice z4.1.1 z4.1.2.1 z4.1.2.2, .agg #[.int .i64 x14.1, .int .i64 x14.2.1, .int .i64 x14.2.2.1]] w13 true [(false, [.sl]), (false, [(.i .i64)])] fun r15 w16 =>
self3 ((r15.1.1.1, r15.1.1.2.1, r15.1.1.2.2), IntKind.wrap .i64 (z4.2.1 + 1), ()) w16) (
R ((some p1, ()), ((z4.1.1, z4.1.2.1, z4.1.2.2), ()), ()) w5)) ((none, 0, 0), 0, ()) w2
set_option maxRecDepth 100000 in
theorem law14_filled.eq (list : Option Addr × Nat × Nat) (w : World) (R : Value → World → Prop) : wpF Try.prog Try.f9 (.s .n (.s .n (.s .n (.s (.s .n (.lp [(5, .sl), (12, (.i .i64))] .n)) .n)))) [.slice list.1 list.2.1 list.2.2] w R = law14_filled.wp list w (fun r w => R (encR true [(false, [.p]), (false, [.sl])] r) w) := by kernel_rfl
theorem law14_filled.ok {list : Option Addr × Nat × Nat} {w : World} {R : TR [(false, [.p]), (false, [.sl])] → World → Prop} (h : law14_filled.wp list w R) : clS Try.prog F.law14_filled [.slice list.1 list.2.1 list.2.2] w true [(false, [.p]), (false, [.sl])] R :=
  ok_of Try_follows Try.func9 (fun R => law14_filled.wp list w R) (law14_filled.eq list w) rfl h
/-! ### globe_Of -/
set_option maxRecDepth 100000 in
def globe_Of.wp (drift : Int) (t : Option Addr) (w : World) (R : TR [(true, [(.i .i64), (.i .i64), (.i .i64), (.i .i64), (.i .i64)]), (false, [.b])] → World → Prop) : Prop :=
alK [.int .i64 0, .int .i64 0, .int .i64 0, .int .i64 0, .int .i64 0] T.globe_Map w fun p1 w2 =>
clS Try.prog F.table_Table_Len [.pointer t] w2 false [(false, [(.i .i64)])] fun r3 w4 =>
brB (r3.1.1 == 0) (
stN [.int .i64 0, .int .i64 0, .int .i64 0, .int .i64 0, .int .i64 0] p1 0 w4 fun w5 =>
ldN [(.i .i64), (.i .i64), (.i .i64), (.i .i64), (.i .i64)] p1 0 w5 fun x6 =>
R ((x6.1, x6.2.1, x6.2.2.1, x6.2.2.2.1, x6.2.2.2.2.1, ()), (false, ()), ()) w5) (
alK [.int .i64 0] T.int w4 fun p7 w8 =>
alK [.int .i64 0] T.int w8 fun p9 w10 =>
stN [.int .i64 0] p7 0 w10 fun w11 =>
stN [.int .i64 0] p9 0 w11 fun w12 =>
clS Try.prog F.table_Table_All [.pointer t] w12 false [(false, [.any])] fun r13 w14 =>
RfT Try.prog r13.1.1 [(true, [(.i .i64), (.i .i64), (.i .i64)])] w14 (fun x15 k16 w17 =>
alK [.int .i64 0, .int .i64 0, .int .i64 0] T.table_Entry w17 fun p23 w24 =>
stN [.int .i64 x15.1.1, .int .i64 x15.1.2.1, .int .i64 x15.1.2.2.1] p23 0 w24 fun w25 =>
k16 w25 fun go18 lv19 w20 =>
ld1 (.i .i64) p7 w20 fun x26 =>
ld1 (.i .i64) p23 w20 fun x27 =>
stN [.int .i64 (IntKind.wrap .i64 (x26 + x27))] p7 0 w20 fun w28 =>
ld1 (.i .i64) p9 w28 fun x29 =>
ld1 (.i .i64) (p23.add 1) w28 fun x30 =>
stN [.int .i64 (IntKind.wrap .i64 (x29 + x30))] p9 0 w28 fun w31 =>
go18 w31) (fun D21 w22 =>
ld1 (.i .i64) p7 w22 fun x32 =>
clS Try.prog F.fix_Floor [.int .i64 x32, .int .i64 r3.1.1] w22 true [(false, [(.i .i64)]), (false, [(.i .i64)]), (false, [.b])] fun r33 w34 =>
stN [.int .i64 r33.1.1] p7 0 w34 fun w35 =>
ld1 (.i .i64) p9 w35 fun x36 =>
clS Try.prog F.fix_Floor [.int .i64 x36, .int .i64 r3.1.1] w35 true [(false, [(.i .i64)]), (false, [(.i .i64)]), (false, [.b])] fun r37 w38 =>
stN [.int .i64 r37.1.1] p9 0 w38 fun w39 =>
drK w39 fun w40 =>
ld1 (.i .i64) p7 w40 fun x41 =>
ld1 (.i .i64) p9 w40 fun x42 =>
clS Try.prog F.table_Table_List [.pointer t] w40 false [(false, [.sl])] fun r43 w44 =>
Hold [(1, p9, (w40.cell? p9).getD undef), (0, p7, (w40.cell? p7).getD undef)] w44 ∧ (
clS Try.prog F.slope_Of [.int .i64 drift, .slice r43.1.1.1 r43.1.1.2.1 r43.1.1.2.2] w44 false [(true, [(.i .i64), (.i .i64)])] fun r45 w46 =>
Hold [(1, p9, (w40.cell? p9).getD undef), (0, p7, (w40.cell? p7).getD undef)] w46 ∧ (
clS Try.prog F.table_Table_Hops [.pointer t] w46 false [(false, [(.i .i64)])] fun r47 w48 =>
Hold [(1, p9, (w40.cell? p9).getD undef), (0, p7, (w40.cell? p7).getD undef)] w48 ∧ (
stN [.int .i64 x41, .int .i64 x42, .int .i64 r45.1.1, .int .i64 r45.1.2.1, .int .i64 r47.1.1] p1 0 w48 fun w49 =>
Hold [] w49 ∧ (
tkK D21 w49 fun w50 =>
ldN [(.i .i64), (.i .i64), (.i .i64), (.i .i64), (.i .i64)] p1 0 w50 fun x51 =>
R ((x51.1, x51.2.1, x51.2.2.1, x51.2.2.2.1, x51.2.2.2.2.1, ()), (true, ()), ()) w50))))) [])
set_option maxRecDepth 100000 in
theorem globe_Of.eq (drift : Int) (t : Option Addr) (w : World) (R : Value → World → Prop) : wpF Try.prog Try.f10 (.s .n (.s .n (.s .n (.s .n (.s (.s .n (.rf [(true, [(.i .i64), (.i .i64), (.i .i64)])] .n .n)) (.s .n (.s .n (.s (.pl (.tk 0 (.tk 1 (.tk 2 (.tk 3 (.tk 6 (.ef 4 [] (.ef 5 [] (.ef 7 [] (.tk 8 (.ef 9 [0, 1] (.tk 10 .z)))))))))))) .n)))))))) [.int .i64 drift, .pointer t] w R = globe_Of.wp drift t w (fun r w => R (encR true [(true, [(.i .i64), (.i .i64), (.i .i64), (.i .i64), (.i .i64)]), (false, [.b])] r) w) := by kernel_rfl
theorem globe_Of.ok {drift : Int} {t : Option Addr} {w : World} {R : TR [(true, [(.i .i64), (.i .i64), (.i .i64), (.i .i64), (.i .i64)]), (false, [.b])] → World → Prop} (h : globe_Of.wp drift t w R) : clS Try.prog F.globe_Of [.int .i64 drift, .pointer t] w true [(true, [(.i .i64), (.i .i64), (.i .i64), (.i .i64), (.i .i64)]), (false, [.b])] R :=
  ok_of Try_follows Try.func10 (fun R => globe_Of.wp drift t w R) (globe_Of.eq drift t w) rfl h
/-! ### ref14_Of -/
set_option maxRecDepth 100000 in
def ref14_Of.wp (drift : Int) (list : Option Addr × Nat × Nat) (w : World) (R : TR [(true, [(.i .i64), (.i .i64), (.i .i64), (.i .i64), (.i .i64)]), (false, [.b])] → World → Prop) : Prop :=
alK [.int .i64 0, .int .i64 0, .int .i64 0, .int .i64 0, .int .i64 0] T.ref14_Map w fun p1 w2 =>
brB ((list.2.1 : Int) == 0) (
stN [.int .i64 0, .int .i64 0, .int .i64 0, .int .i64 0, .int .i64 0] p1 0 w2 fun w3 =>
ldN [(.i .i64), (.i .i64), (.i .i64), (.i .i64), (.i .i64)] p1 0 w3 fun x4 =>
R ((x4.1, x4.2.1, x4.2.2.1, x4.2.2.2.1, x4.2.2.2.2.1, ()), (false, ()), ()) w3) (
LoopT (fun (self5 : ((Int) × (Int) × (Int) × Unit) → World → Prop) (z6 : (Int) × (Int) × (Int) × Unit) w7 => ∀ _ : Nat → Value,
brB (decide (z6.2.2.1 < (list.2.1 : Int))) (
ixK list.1 list.2.1 z6.2.2.1 fun a8 =>
ldN [(.i .i64), (.i .i64), (.i .i64)] (a8.add (z6.2.2.1.toNat * 3)) 0 w7 fun x9 =>
alK [.int .i64 0, .int .i64 0, .int .i64 0] T.ref12_Entry w7 fun p10 w11 =>
stN [.int .i64 x9.1, .int .i64 x9.2.1, .int .i64 x9.2.2.1] p10 0 w11 fun w12 =>
ld1 (.i .i64) p10 w12 fun x13 =>
ld1 (.i .i64) (p10.add 1) w12 fun x14 =>
self5 (IntKind.wrap .i64 (z6.1 + x13), IntKind.wrap .i64 (z6.2.1 + x14), IntKind.wrap .i64 (z6.2.2.1 + 1), ()) w12) (
clS Try.prog F.ref01_Floor [.int .i64 z6.1, .int .i64 (list.2.1 : Int)] w7 true [(false, [(.i .i64)]), (false, [(.i .i64)])] fun r15 w16 =>
clS Try.prog F.ref01_Floor [.int .i64 z6.2.1, .int .i64 (list.2.1 : Int)] w16 true [(false, [(.i .i64)]), (false, [(.i .i64)])] fun r17 w18 =>
clS Try.prog F.ref13_Of [.int .i64 drift, .slice list.1 list.2.1 list.2.2] w18 true [(false, [(.i .i64)]), (false, [(.i .i64)])] fun r19 w20 =>
clS Try.prog F.ref12_Hops [.slice list.1 list.2.1 list.2.2] w20 false [(false, [(.i .i64)])] fun r21 w22 =>
stN [.int .i64 r15.1.1, .int .i64 r17.1.1, .int .i64 r19.1.1, .int .i64 r19.2.1.1, .int .i64 r21.1.1] p1 0 w22 fun w23 =>
ldN [(.i .i64), (.i .i64), (.i .i64), (.i .i64), (.i .i64)] p1 0 w23 fun x24 =>
R ((x24.1, x24.2.1, x24.2.2.1, x24.2.2.2.1, x24.2.2.2.2.1, ()), (true, ()), ()) w23)) (0, 0, 0, ()) w2)
set_option maxRecDepth 100000 in
theorem ref14_Of.eq (drift : Int) (list : Option Addr × Nat × Nat) (w : World) (R : Value → World → Prop) : wpF Try.prog Try.f11 (.s .n (.s .n (.s .n (.s .n (.s (.s .n (.lp [(7, (.i .i64)), (8, (.i .i64)), (24, (.i .i64))] .n)) .n))))) [.int .i64 drift, .slice list.1 list.2.1 list.2.2] w R = ref14_Of.wp drift list w (fun r w => R (encR true [(true, [(.i .i64), (.i .i64), (.i .i64), (.i .i64), (.i .i64)]), (false, [.b])] r) w) := by kernel_rfl
theorem ref14_Of.ok {drift : Int} {list : Option Addr × Nat × Nat} {w : World} {R : TR [(true, [(.i .i64), (.i .i64), (.i .i64), (.i .i64), (.i .i64)]), (false, [.b])] → World → Prop} (h : ref14_Of.wp drift list w R) : clS Try.prog F.ref14_Of [.int .i64 drift, .slice list.1 list.2.1 list.2.2] w true [(true, [(.i .i64), (.i .i64), (.i .i64), (.i .i64), (.i .i64)]), (false, [.b])] R :=
  ok_of Try_follows Try.func11 (fun R => ref14_Of.wp drift list w R) (ref14_Of.eq drift list w) rfl h
/-! ### globe_Map_Global -/
set_option maxRecDepth 100000 in
def globe_Map_Global.wp (m0 : Int) (m1 : Int) (m2 : Int) (m3 : Int) (m4 : Int) (local_ : Int) (w : World) (R : TR [(false, [(.i .i64)]), (false, [.b])] → World → Prop) : Prop :=
alK [.int .i64 m0, .int .i64 m1, .int .i64 m2, .int .i64 m3, .int .i64 m4] T.globe_Map w fun p1 w2 =>
brB (decide (local_ < 0)) (
R ((0, ()), (false, ()), ()) w2) (
brB (decide (local_ > 1125899906842624)) (
R ((0, ()), (false, ()), ()) w2) (
ld1 (.i .i64) p1 w2 fun x3 =>
brB (decide (x3 < 0)) (
R ((0, ()), (false, ()), ()) w2) (
ld1 (.i .i64) p1 w2 fun x4 =>
brB (decide (x4 > 1125899906842624)) (
R ((0, ()), (false, ()), ()) w2) (
ldN [(.i .i64), (.i .i64)] (p1.add 2) 0 w2 fun x5 =>
ld1 (.i .i64) p1 w2 fun x6 =>
clS Try.prog F.slope_Slope_Gain [.agg #[.int .i64 x5.1, .int .i64 x5.2.1], .int .i64 (IntKind.wrap .i64 (local_ - x6))] w2 false [(false, [(.i .i64)])] fun r7 w8 =>
ld1 (.i .i64) (p1.add 1) w8 fun x9 =>
clS Try.prog F.fix_Clamp [.int .i64 x9, .int .i64 (Int.negSucc 1125899906842623), .int .i64 1125899906842624] w8 false [(false, [(.i .i64)])] fun r10 w11 =>
clS Try.prog F.fix_Sat [.int .i64 local_, .int .i64 r10.1.1] w11 false [(false, [(.i .i64)])] fun r12 w13 =>
clS Try.prog F.fix_Clamp [.int .i64 r7.1.1, .int .i64 (Int.negSucc 1125899906842623), .int .i64 1125899906842624] w13 false [(false, [(.i .i64)])] fun r14 w15 =>
clS Try.prog F.fix_Sat [.int .i64 r12.1.1, .int .i64 r14.1.1] w15 false [(false, [(.i .i64)])] fun r16 w17 =>
brB (decide (r16.1.1 < 0)) (
R ((0, ()), (false, ()), ()) w17) (
brB (decide (r16.1.1 > 1125899906842624)) (
R ((0, ()), (false, ()), ()) w17) (
R ((r16.1.1, ()), (true, ()), ()) w17))))))
set_option maxRecDepth 100000 in
theorem globe_Map_Global.eq (m0 : Int) (m1 : Int) (m2 : Int) (m3 : Int) (m4 : Int) (local_ : Int) (w : World) (R : Value → World → Prop) : wpF Try.prog Try.f12 .n [.agg #[.int .i64 m0, .int .i64 m1, .int .i64 m2, .int .i64 m3, .int .i64 m4], .int .i64 local_] w R = globe_Map_Global.wp m0 m1 m2 m3 m4 local_ w (fun r w => R (encR true [(false, [(.i .i64)]), (false, [.b])] r) w) := by kernel_rfl
theorem globe_Map_Global.ok {m0 : Int} {m1 : Int} {m2 : Int} {m3 : Int} {m4 : Int} {local_ : Int} {w : World} {R : TR [(false, [(.i .i64)]), (false, [.b])] → World → Prop} (h : globe_Map_Global.wp m0 m1 m2 m3 m4 local_ w R) : clS Try.prog F.globe_Map_Global [.agg #[.int .i64 m0, .int .i64 m1, .int .i64 m2, .int .i64 m3, .int .i64 m4], .int .i64 local_] w true [(false, [(.i .i64)]), (false, [.b])] R :=
  ok_of Try_follows Try.func12 (fun R => globe_Map_Global.wp m0 m1 m2 m3 m4 local_ w R) (globe_Map_Global.eq m0 m1 m2 m3 m4 local_ w) rfl h
/-! ### ref14_Global -/
set_option maxRecDepth 100000 in
def ref14_Global.wp (m0 : Int) (m1 : Int) (m2 : Int) (m3 : Int) (m4 : Int) (local_ : Int) (w : World) (R : TR [(false, [(.i .i64)]), (false, [.b])] → World → Prop) : Prop :=
alK [.int .i64 m0, .int .i64 m1, .int .i64 m2, .int .i64 m3, .int .i64 m4] T.ref14_Map w fun p1 w2 =>
brB (decide (local_ < 0)) (
R ((0, ()), (false, ()), ()) w2) (
brB (decide (local_ > 1125899906842624)) (
R ((0, ()), (false, ()), ()) w2) (
ldN [(.i .i64), (.i .i64), (.i .i64), (.i .i64), (.i .i64)] p1 0 w2 fun x3 =>
clS Try.prog F.ref14_Raw [.agg #[.int .i64 x3.1, .int .i64 x3.2.1, .int .i64 x3.2.2.1, .int .i64 x3.2.2.2.1, .int .i64 x3.2.2.2.2.1], .int .i64 local_] w2 false [(false, [(.i .i64)])] fun r4 w5 =>
brB (decide (r4.1.1 < 0)) (
R ((0, ()), (false, ()), ()) w5) (
brB (decide (r4.1.1 > 1125899906842624)) (
R ((0, ()), (false, ()), ()) w5) (
R ((r4.1.1, ()), (true, ()), ()) w5))))
set_option maxRecDepth 100000 in
theorem ref14_Global.eq (m0 : Int) (m1 : Int) (m2 : Int) (m3 : Int) (m4 : Int) (local_ : Int) (w : World) (R : Value → World → Prop) : wpF Try.prog Try.f13 .n [.agg #[.int .i64 m0, .int .i64 m1, .int .i64 m2, .int .i64 m3, .int .i64 m4], .int .i64 local_] w R = ref14_Global.wp m0 m1 m2 m3 m4 local_ w (fun r w => R (encR true [(false, [(.i .i64)]), (false, [.b])] r) w) := by kernel_rfl
theorem ref14_Global.ok {m0 : Int} {m1 : Int} {m2 : Int} {m3 : Int} {m4 : Int} {local_ : Int} {w : World} {R : TR [(false, [(.i .i64)]), (false, [.b])] → World → Prop} (h : ref14_Global.wp m0 m1 m2 m3 m4 local_ w R) : clS Try.prog F.ref14_Global [.agg #[.int .i64 m0, .int .i64 m1, .int .i64 m2, .int .i64 m3, .int .i64 m4], .int .i64 local_] w true [(false, [(.i .i64)]), (false, [.b])] R :=
  ok_of Try_follows Try.func13 (fun R => ref14_Global.wp m0 m1 m2 m3 m4 local_ w R) (ref14_Global.eq m0 m1 m2 m3 m4 local_ w) rfl h
end Go.Proofs.Ythgkdjfcdbjpdaa
