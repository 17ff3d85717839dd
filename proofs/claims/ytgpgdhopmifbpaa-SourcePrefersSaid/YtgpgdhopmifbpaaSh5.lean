import Derived.Test.YtgpgdhopmifbpaaNm
namespace Go.Proofs.Ytgpgdhopmifbpaa
open Go.Eng
set_option linter.unusedVariables false
/-! ### slope_Of -/
set_option maxRecDepth 100000 in
def slope_Of.wp (drift : Int) (list : Option Addr × Nat × Nat) (w : World) (R : TR [(true, [(.i .i64), (.i .i64)])] → World → Prop) : Prop :=
alK [.int .i64 0, .int .i64 0] T.slope_Slope w fun p1 w2 =>
alK [.int .i64 0, .int .i64 0] T.slope_Slope w2 fun p3 w4 =>
stN [.int .i64 0, .int .i64 1] p3 0 w4 fun w5 =>
brB (decide ((list.2.1 : Int) < 2)) (
ldN [(.i .i64), (.i .i64)] p3 0 w5 fun x6 =>
stN [.int .i64 x6.1, .int .i64 x6.2.1] p1 0 w5 fun w7 =>
ldN [(.i .i64), (.i .i64)] p1 0 w7 fun x8 =>
R ((x8.1, x8.2.1, ()), ()) w7) (
brB (decide ((list.2.1 : Int) > 8)) (
ldN [(.i .i64), (.i .i64)] p3 0 w5 fun x9 =>
stN [.int .i64 x9.1, .int .i64 x9.2.1] p1 0 w5 fun w10 =>
ldN [(.i .i64), (.i .i64)] p1 0 w10 fun x11 =>
R ((x11.1, x11.2.1, ()), ()) w10) (
LoopT (fun (self12 : ((Int) × Unit) → World → Prop) (z13 : (Int) × Unit) w14 => ∀ _ : Nat → Value,
brB (decide (z13.1 < (list.2.1 : Int))) (
ixK list.1 list.2.1 z13.1 fun a15 =>
ldN [(.i .i64), (.i .i64), (.i .i64)] (a15.add (z13.1.toNat * 3)) 0 w14 fun x16 =>
alK [.int .i64 0, .int .i64 0, .int .i64 0] T.table_Entry w14 fun p17 w18 =>
stN [.int .i64 x16.1, .int .i64 x16.2.1, .int .i64 x16.2.2.1] p17 0 w18 fun w19 =>
ldN [(.i .i64), (.i .i64), (.i .i64)] p17 0 w19 fun x20 =>
clS Try.prog F.table_Entry_Good [.agg #[.int .i64 x20.1, .int .i64 x20.2.1, .int .i64 x20.2.2.1]] w19 false [(false, [.b])] fun r21 w22 =>
brB (!r21.1.1) (
ldN [(.i .i64), (.i .i64)] p3 0 w22 fun x23 =>
stN [.int .i64 x23.1, .int .i64 x23.2.1] p1 0 w22 fun w24 =>
ldN [(.i .i64), (.i .i64)] p1 0 w24 fun x25 =>
R ((x25.1, x25.2.1, ()), ()) w24) (
self12 (IntKind.wrap .i64 (z13.1 + 1), ()) w22)) (
clS Try.prog F.slope_gather [.slice list.1 list.2.1 list.2.2] w14 true [(true, [(.i .i64), (.i .i64), (.i .i64), (.i .i64), (.i .i64)]), (false, [.b])] fun r26 w27 =>
alK [.int .i64 0, .int .i64 0, .int .i64 0, .int .i64 0, .int .i64 0] T.slope_sums w27 fun p28 w29 =>
stN [.int .i64 r26.1.1, .int .i64 r26.1.2.1, .int .i64 r26.1.2.2.1, .int .i64 r26.1.2.2.2.1, .int .i64 r26.1.2.2.2.2.1] p28 0 w29 fun w30 =>
ld1 (.i .i64) p28 w30 fun x31 =>
ld1 (.i .i64) (p28.add 4) w30 fun x32 =>
ld1 (.i .i64) (p28.add 1) w30 fun x33 =>
ld1 (.i .i64) (p28.add 1) w30 fun x34 =>
brB (!r26.2.1.1) (
ldN [(.i .i64), (.i .i64)] p3 0 w30 fun x35 =>
stN [.int .i64 x35.1, .int .i64 x35.2.1] p1 0 w30 fun w36 =>
ldN [(.i .i64), (.i .i64)] p1 0 w36 fun x37 =>
R ((x37.1, x37.2.1, ()), ()) w36) (
brB (decide ((IntKind.wrap .i64 ((IntKind.wrap .i64 (x31 * x32)) - (IntKind.wrap .i64 (x33 * x34)))) < 1)) (
ldN [(.i .i64), (.i .i64)] p3 0 w30 fun x38 =>
stN [.int .i64 x38.1, .int .i64 x38.2.1] p1 0 w30 fun w39 =>
ldN [(.i .i64), (.i .i64)] p1 0 w39 fun x40 =>
R ((x40.1, x40.2.1, ()), ()) w39) (
ld1 (.i .i64) p28 w30 fun x41 =>
ld1 (.i .i64) (p28.add 3) w30 fun x42 =>
ld1 (.i .i64) (p28.add 1) w30 fun x43 =>
ld1 (.i .i64) (p28.add 2) w30 fun x44 =>
clS Try.prog F.slope_Most [.int .i64 drift] w30 false [(true, [(.i .i64), (.i .i64)])] fun r45 w46 =>
alK [.int .i64 0, .int .i64 0] T.slope_Slope w46 fun p47 w48 =>
stN [.int .i64 r45.1.1, .int .i64 r45.1.2.1] p47 0 w48 fun w49 =>
CutT (fun (J50 : ((Bool) × Unit) → World → Prop) =>
brB (decide ((IntKind.wrap .i64 ((IntKind.wrap .i64 (x41 * x42)) - (IntKind.wrap .i64 (x43 * x44)))) > 0)) (
ldN [(.i .i64), (.i .i64)] p47 0 w49 fun x53 =>
clS Try.prog F.slope_over [.agg #[.int .i64 (IntKind.wrap .i64 ((IntKind.wrap .i64 (x41 * x42)) - (IntKind.wrap .i64 (x43 * x44)))), .int .i64 (IntKind.wrap .i64 ((IntKind.wrap .i64 (x31 * x32)) - (IntKind.wrap .i64 (x33 * x34))))], .agg #[.int .i64 x53.1, .int .i64 x53.2.1]] w49 false [(false, [.b])] fun r54 w55 =>
J50 (r54.1.1, ()) w55) (
J50 (false, ()) w49)) (fun (z51 : (Bool) × Unit) w52 => ∀ _ : Nat → Value,
brB z51.1 (
ldN [(.i .i64), (.i .i64)] p47 0 w52 fun x56 =>
stN [.int .i64 x56.1, .int .i64 x56.2.1] p1 0 w52 fun w57 =>
ldN [(.i .i64), (.i .i64)] p1 0 w57 fun x58 =>
R ((x58.1, x58.2.1, ()), ()) w57) (
CutT (fun (J59 : ((Bool) × Unit) → World → Prop) =>
brB (decide ((IntKind.wrap .i64 ((IntKind.wrap .i64 (x41 * x42)) - (IntKind.wrap .i64 (x43 * x44)))) < 0)) (
ldN [(.i .i64), (.i .i64)] p47 0 w52 fun x62 =>
clS Try.prog F.slope_over [.agg #[.int .i64 (IntKind.wrap .i64 (0 - (IntKind.wrap .i64 ((IntKind.wrap .i64 (x41 * x42)) - (IntKind.wrap .i64 (x43 * x44)))))), .int .i64 (IntKind.wrap .i64 ((IntKind.wrap .i64 (x31 * x32)) - (IntKind.wrap .i64 (x33 * x34))))], .agg #[.int .i64 x62.1, .int .i64 x62.2.1]] w52 false [(false, [.b])] fun r63 w64 =>
J59 (r63.1.1, ()) w64) (
J59 (false, ()) w52)) (fun (z60 : (Bool) × Unit) w61 => ∀ _ : Nat → Value,
brB z60.1 (
ld1 (.i .i64) p47 w61 fun x65 =>
ld1 (.i .i64) (p47.add 1) w61 fun x66 =>
stN [.int .i64 (IntKind.wrap .i64 (0 - x65)), .int .i64 x66] p1 0 w61 fun w67 =>
ldN [(.i .i64), (.i .i64)] p1 0 w67 fun x68 =>
R ((x68.1, x68.2.1, ()), ()) w67) (
stN [.int .i64 (IntKind.wrap .i64 ((IntKind.wrap .i64 (x41 * x42)) - (IntKind.wrap .i64 (x43 * x44)))), .int .i64 (IntKind.wrap .i64 ((IntKind.wrap .i64 (x31 * x32)) - (IntKind.wrap .i64 (x33 * x34))))] p1 0 w61 fun w69 =>
ldN [(.i .i64), (.i .i64)] p1 0 w69 fun x70 =>
R ((x70.1, x70.2.1, ()), ()) w69)))))))) (0, ()) w5))
set_option maxRecDepth 100000 in
theorem slope_Of.eq (drift : Int) (list : Option Addr × Nat × Nat) (w : World) (R : Value → World → Prop) : wpF Try.prog Try.f65 (.s .n (.s .n (.s .n (.s (.s .n (.lp [(25, (.i .i64))] .n)) (.s .n (.s .n (.s .n (.s .n (.s .n (.s (.ct [(70, .b)] .n (.s .n (.ct [(81, .b)] .n .n))) .n)))))))))) [.int .i64 drift, .slice list.1 list.2.1 list.2.2] w R = slope_Of.wp drift list w (fun r w => R (encR false [(true, [(.i .i64), (.i .i64)])] r) w) := by kernel_rfl
theorem slope_Of.ok {drift : Int} {list : Option Addr × Nat × Nat} {w : World} {R : TR [(true, [(.i .i64), (.i .i64)])] → World → Prop} (h : slope_Of.wp drift list w R) : clS Try.prog F.slope_Of [.int .i64 drift, .slice list.1 list.2.1 list.2.2] w false [(true, [(.i .i64), (.i .i64)])] R :=
  ok_of Try_follows Try.func65 (fun R => slope_Of.wp drift list w R) (slope_Of.eq drift list w) rfl h
/-! ### table_Table_List -/
set_option maxRecDepth 100000 in
def table_Table_List.wp (t : Option Addr) (w : World) (R : TR [(false, [.sl])] → World → Prop) : Prop :=
clS Try.prog F.table_Table_All [.pointer t] w false [(false, [.any])] fun r1 w2 =>
clS Try.prog F.slices_Collect_table_Entry [r1.1.1] w2 false [(false, [.sl])] fun r3 w4 =>
R (((r3.1.1.1, r3.1.1.2.1, r3.1.1.2.2), ()), ()) w4
set_option maxRecDepth 100000 in
theorem table_Table_List.eq (t : Option Addr) (w : World) (R : Value → World → Prop) : wpF Try.prog Try.f66 .n [.pointer t] w R = table_Table_List.wp t w (fun r w => R (encR false [(false, [.sl])] r) w) := by kernel_rfl
theorem table_Table_List.ok {t : Option Addr} {w : World} {R : TR [(false, [.sl])] → World → Prop} (h : table_Table_List.wp t w R) : clS Try.prog F.table_Table_List [.pointer t] w false [(false, [.sl])] R :=
  ok_of Try_follows Try.func66 (fun R => table_Table_List.wp t w R) (table_Table_List.eq t w) rfl h
/-! ### table_Table_Hops -/
set_option maxRecDepth 100000 in
def table_Table_Hops.wp (t : Option Addr) (w : World) (R : TR [(false, [(.i .i64)])] → World → Prop) : Prop :=
alK [.int .i64 0] T.int w fun p1 w2 =>
stN [.int .i64 0] p1 0 w2 fun w3 =>
clS Try.prog F.table_Table_All [.pointer t] w3 false [(false, [.any])] fun r4 w5 =>
RfT Try.prog r4.1.1 [(true, [(.i .i64), (.i .i64), (.i .i64)])] w5 (fun x6 k7 w8 =>
alK [.int .i64 0, .int .i64 0, .int .i64 0] T.table_Entry w8 fun p14 w15 =>
stN [.int .i64 x6.1.1, .int .i64 x6.1.2.1, .int .i64 x6.1.2.2.1] p14 0 w15 fun w16 =>
k7 w16 fun go9 lv10 w11 =>
ld1 (.i .i64) p1 w11 fun x17 =>
ld1 (.i .i64) (p14.add 2) w11 fun x18 =>
stN [.int .i64 (if x18 > x17 then x18 else x17)] p1 0 w11 fun w19 =>
go9 w19) (fun D12 w13 =>
ld1 (.i .i64) p1 w13 fun x20 =>
tkK D12 w13 fun w21 =>
R ((x20, ()), ()) w21) []
set_option maxRecDepth 100000 in
theorem table_Table_Hops.eq (t : Option Addr) (w : World) (R : Value → World → Prop) : wpF Try.prog Try.f67 (.s .n (.s .n (.s (.s .n (.rf [(true, [(.i .i64), (.i .i64), (.i .i64)])] .n .n)) .n))) [.pointer t] w R = table_Table_Hops.wp t w (fun r w => R (encR false [(false, [(.i .i64)])] r) w) := by kernel_rfl
theorem table_Table_Hops.ok {t : Option Addr} {w : World} {R : TR [(false, [(.i .i64)])] → World → Prop} (h : table_Table_Hops.wp t w R) : clS Try.prog F.table_Table_Hops [.pointer t] w false [(false, [(.i .i64)])] R :=
  ok_of Try_follows Try.func67 (fun R => table_Table_Hops.wp t w R) (table_Table_Hops.eq t w) rfl h
/-! ### slope_Slope_Gain -/
set_option maxRecDepth 100000 in
def slope_Slope_Gain.wp (s0 : Int) (s1 : Int) (ticks : Int) (w : World) (R : TR [(false, [(.i .i64)])] → World → Prop) : Prop :=
alK [.int .i64 s0, .int .i64 s1] T.slope_Slope w fun p1 w2 =>
ld1 (.i .i64) p1 w2 fun x3 =>
ld1 (.i .i64) (p1.add 1) w2 fun x4 =>
clS Try.prog F.fix_MulDiv [.int .i64 x3, .int .i64 ticks, .int .i64 x4] w2 true [(false, [(.i .i64)]), (false, [.b])] fun r5 w6 =>
R ((r5.1.1, ()), ()) w6
set_option maxRecDepth 100000 in
theorem slope_Slope_Gain.eq (s0 : Int) (s1 : Int) (ticks : Int) (w : World) (R : Value → World → Prop) : wpF Try.prog Try.f68 .n [.agg #[.int .i64 s0, .int .i64 s1], .int .i64 ticks] w R = slope_Slope_Gain.wp s0 s1 ticks w (fun r w => R (encR false [(false, [(.i .i64)])] r) w) := by kernel_rfl
theorem slope_Slope_Gain.ok {s0 : Int} {s1 : Int} {ticks : Int} {w : World} {R : TR [(false, [(.i .i64)])] → World → Prop} (h : slope_Slope_Gain.wp s0 s1 ticks w R) : clS Try.prog F.slope_Slope_Gain [.agg #[.int .i64 s0, .int .i64 s1], .int .i64 ticks] w false [(false, [(.i .i64)])] R :=
  ok_of Try_follows Try.func68 (fun R => slope_Slope_Gain.wp s0 s1 ticks w R) (slope_Slope_Gain.eq s0 s1 ticks w) rfl h
/-! ### fix_Sat -/
set_option maxRecDepth 100000 in
def fix_Sat.wp (a : Int) (b : Int) (w : World) (R : TR [(false, [(.i .i64)])] → World → Prop) : Prop :=
clS Try.prog F.fix_Add [.int .i64 a, .int .i64 b] w true [(false, [(.i .i64)]), (false, [.b])] fun r1 w2 =>
brB r1.2.1.1 (
R ((r1.1.1, ()), ()) w2) (
brB (decide (b > 0)) (
R ((9223372036854775807, ()), ()) w2) (
R (((Int.negSucc 9223372036854775807), ()), ()) w2))
set_option maxRecDepth 100000 in
theorem fix_Sat.eq (a : Int) (b : Int) (w : World) (R : Value → World → Prop) : wpF Try.prog Try.f69 .n [.int .i64 a, .int .i64 b] w R = fix_Sat.wp a b w (fun r w => R (encR false [(false, [(.i .i64)])] r) w) := by kernel_rfl
theorem fix_Sat.ok {a : Int} {b : Int} {w : World} {R : TR [(false, [(.i .i64)])] → World → Prop} (h : fix_Sat.wp a b w R) : clS Try.prog F.fix_Sat [.int .i64 a, .int .i64 b] w false [(false, [(.i .i64)])] R :=
  ok_of Try_follows Try.func69 (fun R => fix_Sat.wp a b w R) (fix_Sat.eq a b w) rfl h
/-! ### fix_Clamp -/
set_option maxRecDepth 100000 in
def fix_Clamp.wp (x : Int) (low : Int) (high : Int) (w : World) (R : TR [(false, [(.i .i64)])] → World → Prop) : Prop :=
R (((if low > (if high < x then high else x) then low else (if high < x then high else x)), ()), ()) w
set_option maxRecDepth 100000 in
theorem fix_Clamp.eq (x : Int) (low : Int) (high : Int) (w : World) (R : Value → World → Prop) : wpF Try.prog Try.f70 .n [.int .i64 x, .int .i64 low, .int .i64 high] w R = fix_Clamp.wp x low high w (fun r w => R (encR false [(false, [(.i .i64)])] r) w) := by kernel_rfl
theorem fix_Clamp.ok {x : Int} {low : Int} {high : Int} {w : World} {R : TR [(false, [(.i .i64)])] → World → Prop} (h : fix_Clamp.wp x low high w R) : clS Try.prog F.fix_Clamp [.int .i64 x, .int .i64 low, .int .i64 high] w false [(false, [(.i .i64)])] R :=
  ok_of Try_follows Try.func70 (fun R => fix_Clamp.wp x low high w R) (fix_Clamp.eq x low high w) rfl h
/-! ### table_Table_All_1 -/
set_option maxRecDepth 100000 in
def table_Table_All_1.wp (yield : Nat) (c_cap0 : Addr) (w : World) (R : TR [] → World → Prop) : Prop :=
ld1 .p c_cap0 w fun x1 =>
clS Try.prog F.table_Table_Len [.pointer x1] w false [(false, [(.i .i64)])] fun r2 w3 =>
LoopT (fun (self4 : ((Int) × Unit) → World → Prop) (z5 : (Int) × Unit) w6 => ∀ _ : Nat → Value,
brB (decide (z5.1 < r2.1.1)) (
ld1 .p c_cap0 w6 fun x7 =>
ncK x7 fun a8 =>
ld1 .sl a8 w6 fun x9 =>
ixK x9.1 x9.2.1 z5.1 fun a10 =>
ldN [(.i .i64), (.i .i64), (.i .i64)] (a10.add (z5.1.toNat * 3)) 0 w6 fun x11 =>
yiS Try.prog yield [.agg #[.int .i64 x11.1, .int .i64 x11.2.1, .int .i64 x11.2.2.1]] w6 fun b12 w13 =>
brB (!b12) (
R (()) w13) (
self4 (IntKind.wrap .i64 (z5.1 + 1), ()) w13)) (
R (()) w6)) (0, ()) w3
set_option maxRecDepth 100000 in
theorem table_Table_All_1.eq (yield : Nat) (c_cap0 : Addr) (w : World) (R : Value → World → Prop) : wpF Try.prog Try.f71 (.s .n (.lp [(6, (.i .i64))] .n)) [.func (.yield yield) #[] #[], .pointer (some c_cap0)] w R = table_Table_All_1.wp yield c_cap0 w (fun r w => R (encR true [] r) w) := by kernel_rfl
theorem table_Table_All_1.ok {yield : Nat} {c_cap0 : Addr} {w : World} {R : TR [] → World → Prop} (h : table_Table_All_1.wp yield c_cap0 w R) : clS Try.prog F.table_Table_All_1 [.func (.yield yield) #[] #[], .pointer (some c_cap0)] w true [] R :=
  ok_of Try_follows Try.func71 (fun R => table_Table_All_1.wp yield c_cap0 w R) (table_Table_All_1.eq yield c_cap0 w) rfl h
/-! ### slope_gather -/
set_option maxRecDepth 100000 in
def slope_gather.wp (list : Option Addr × Nat × Nat) (w : World) (R : TR [(true, [(.i .i64), (.i .i64), (.i .i64), (.i .i64), (.i .i64)]), (false, [.b])] → World → Prop) : Prop :=
alK [.int .i64 0, .int .i64 0, .int .i64 0, .int .i64 0, .int .i64 0] T.slope_sums w fun p1 w2 =>
alK [.int .i64 0, .int .i64 0, .int .i64 0, .int .i64 0, .int .i64 0] T.slope_sums w2 fun p3 w4 =>
LoopT (fun (self5 : ((Int) × Unit) → World → Prop) (z6 : (Int) × Unit) w7 => ∀ _ : Nat → Value,
brB (decide (z6.1 < (list.2.1 : Int))) (
ixK list.1 list.2.1 z6.1 fun a8 =>
ldN [(.i .i64), (.i .i64), (.i .i64)] (a8.add (z6.1.toNat * 3)) 0 w7 fun x9 =>
alK [.int .i64 0, .int .i64 0, .int .i64 0] T.table_Entry w7 fun p10 w11 =>
stN [.int .i64 x9.1, .int .i64 x9.2.1, .int .i64 x9.2.2.1] p10 0 w11 fun w12 =>
drK w12 fun w13 =>
ld1 (.i .i64) p10 w13 fun x14 =>
ixK list.1 list.2.1 0 fun a15 =>
ld1 (.i .i64) (a15.add ((0 : Int).toNat * 3)) w13 fun x16 =>
ld1 (.i .i64) (p10.add 1) w13 fun x17 =>
ixK list.1 list.2.1 0 fun a18 =>
ld1 (.i .i64) ((a18.add ((0 : Int).toNat * 3)).add 1) w13 fun x19 =>
brB (decide ((IntKind.wrap .i64 (x14 - x16)) < 0)) (
stN [.int .i64 0, .int .i64 0, .int .i64 0, .int .i64 0, .int .i64 0] p1 0 w13 fun w20 =>
ldN [(.i .i64), (.i .i64), (.i .i64), (.i .i64), (.i .i64)] p1 0 w20 fun x21 =>
R ((x21.1, x21.2.1, x21.2.2.1, x21.2.2.2.1, x21.2.2.2.2.1, ()), (false, ()), ()) w20) (
brB (decide ((IntKind.wrap .i64 (x14 - x16)) > 4194304)) (
stN [.int .i64 0, .int .i64 0, .int .i64 0, .int .i64 0, .int .i64 0] p1 0 w13 fun w22 =>
ldN [(.i .i64), (.i .i64), (.i .i64), (.i .i64), (.i .i64)] p1 0 w22 fun x23 =>
R ((x23.1, x23.2.1, x23.2.2.1, x23.2.2.2.1, x23.2.2.2.2.1, ()), (false, ()), ()) w22) (
brB (decide ((IntKind.wrap .i64 (x17 - x19)) < (Int.negSucc 4194303))) (
stN [.int .i64 0, .int .i64 0, .int .i64 0, .int .i64 0, .int .i64 0] p1 0 w13 fun w24 =>
ldN [(.i .i64), (.i .i64), (.i .i64), (.i .i64), (.i .i64)] p1 0 w24 fun x25 =>
R ((x25.1, x25.2.1, x25.2.2.1, x25.2.2.2.1, x25.2.2.2.2.1, ()), (false, ()), ()) w24) (
brB (decide ((IntKind.wrap .i64 (x17 - x19)) > 4194304)) (
stN [.int .i64 0, .int .i64 0, .int .i64 0, .int .i64 0, .int .i64 0] p1 0 w13 fun w26 =>
ldN [(.i .i64), (.i .i64), (.i .i64), (.i .i64), (.i .i64)] p1 0 w26 fun x27 =>
R ((x27.1, x27.2.1, x27.2.2.1, x27.2.2.2.1, x27.2.2.2.2.1, ()), (false, ()), ()) w26) (
clS Try.prog F.slope_sums_add [.pointer (some p3), .int .i64 (IntKind.wrap .i64 (x14 - x16)), .int .i64 (IntKind.wrap .i64 (x17 - x19))] w13 true [] fun r28 w29 =>
self5 (IntKind.wrap .i64 (z6.1 + 1), ()) w29))))) (
ldN [(.i .i64), (.i .i64), (.i .i64), (.i .i64), (.i .i64)] p3 0 w7 fun x30 =>
stN [.int .i64 x30.1, .int .i64 x30.2.1, .int .i64 x30.2.2.1, .int .i64 x30.2.2.2.1, .int .i64 x30.2.2.2.2.1] p1 0 w7 fun w31 =>
ldN [(.i .i64), (.i .i64), (.i .i64), (.i .i64), (.i .i64)] p1 0 w31 fun x32 =>
R ((x32.1, x32.2.1, x32.2.2.1, x32.2.2.2.1, x32.2.2.2.2.1, ()), (true, ()), ()) w31)) (0, ()) w4
set_option maxRecDepth 100000 in
theorem slope_gather.eq (list : Option Addr × Nat × Nat) (w : World) (R : Value → World → Prop) : wpF Try.prog Try.f72 (.s .n (.s .n (.s (.s .n (.lp [(11, (.i .i64))] (.s .n (.s .n (.s (.s .n (.s (.pl (.tk 0 (.tk 1 (.tk 2 (.tk 3 (.tk 4 (.tk 5 (.tk 6 (.tk 7 (.tk 8 (.tk 9 (.tk 10 (.tk 11 (.tk 12 (.tk 13 (.tk 14 (.tk 15 .z))))))))))))))))) .n)) .n))))) .n))) [.slice list.1 list.2.1 list.2.2] w R = slope_gather.wp list w (fun r w => R (encR true [(true, [(.i .i64), (.i .i64), (.i .i64), (.i .i64), (.i .i64)]), (false, [.b])] r) w) := by kernel_rfl
theorem slope_gather.ok {list : Option Addr × Nat × Nat} {w : World} {R : TR [(true, [(.i .i64), (.i .i64), (.i .i64), (.i .i64), (.i .i64)]), (false, [.b])] → World → Prop} (h : slope_gather.wp list w R) : clS Try.prog F.slope_gather [.slice list.1 list.2.1 list.2.2] w true [(true, [(.i .i64), (.i .i64), (.i .i64), (.i .i64), (.i .i64)]), (false, [.b])] R :=
  ok_of Try_follows Try.func72 (fun R => slope_gather.wp list w R) (slope_gather.eq list w) rfl h
/-! ### slope_Most -/
set_option maxRecDepth 100000 in
def slope_Most.wp (drift : Int) (w : World) (R : TR [(true, [(.i .i64), (.i .i64)])] → World → Prop) : Prop :=
alK [.int .i64 0, .int .i64 0] T.slope_Slope w fun p1 w2 =>
clS Try.prog F.fix_Clamp [.int .i64 drift, .int .i64 0, .int .i64 10] w2 false [(false, [(.i .i64)])] fun r3 w4 =>
stN [.int .i64 (IntKind.wrap .i64 (2 * r3.1.1)), .int .i64 (IntKind.wrap .i64 (1000 - r3.1.1))] p1 0 w4 fun w5 =>
ldN [(.i .i64), (.i .i64)] p1 0 w5 fun x6 =>
R ((x6.1, x6.2.1, ()), ()) w5
set_option maxRecDepth 100000 in
theorem slope_Most.eq (drift : Int) (w : World) (R : Value → World → Prop) : wpF Try.prog Try.f73 .n [.int .i64 drift] w R = slope_Most.wp drift w (fun r w => R (encR false [(true, [(.i .i64), (.i .i64)])] r) w) := by kernel_rfl
theorem slope_Most.ok {drift : Int} {w : World} {R : TR [(true, [(.i .i64), (.i .i64)])] → World → Prop} (h : slope_Most.wp drift w R) : clS Try.prog F.slope_Most [.int .i64 drift] w false [(true, [(.i .i64), (.i .i64)])] R :=
  ok_of Try_follows Try.func73 (fun R => slope_Most.wp drift w R) (slope_Most.eq drift w) rfl h
/-! ### slope_over -/
set_option maxRecDepth 100000 in
def slope_over.wp (a0 : Int) (a1 : Int) (b0 : Int) (b1 : Int) (w : World) (R : TR [(false, [.b])] → World → Prop) : Prop :=
alK [.int .i64 a0, .int .i64 a1] T.slope_Slope w fun p1 w2 =>
alK [.int .i64 b0, .int .i64 b1] T.slope_Slope w2 fun p3 w4 =>
ld1 (.i .i64) p1 w4 fun x5 =>
ld1 (.i .i64) (p3.add 1) w4 fun x6 =>
clS Try.prog F.bits_Mul64 [.int .u64 (IntKind.wrap .u64 x5), .int .u64 (IntKind.wrap .u64 x6)] w4 true [(false, [(.i .u64)]), (false, [(.i .u64)])] fun r7 w8 =>
ld1 (.i .i64) p3 w8 fun x9 =>
ld1 (.i .i64) (p1.add 1) w8 fun x10 =>
clS Try.prog F.bits_Mul64 [.int .u64 (IntKind.wrap .u64 x9), .int .u64 (IntKind.wrap .u64 x10)] w8 true [(false, [(.i .u64)]), (false, [(.i .u64)])] fun r11 w12 =>
brB (decide (r7.1.1 > r11.1.1)) (
R ((true, ()), ()) w12) (
brB (r7.1.1 == r11.1.1) (
R ((decide (r7.2.1.1 > r11.2.1.1), ()), ()) w12) (
R ((false, ()), ()) w12))
set_option maxRecDepth 100000 in
theorem slope_over.eq (a0 : Int) (a1 : Int) (b0 : Int) (b1 : Int) (w : World) (R : Value → World → Prop) : wpF Try.prog Try.f74 .n [.agg #[.int .i64 a0, .int .i64 a1], .agg #[.int .i64 b0, .int .i64 b1]] w R = slope_over.wp a0 a1 b0 b1 w (fun r w => R (encR false [(false, [.b])] r) w) := by kernel_rfl
theorem slope_over.ok {a0 : Int} {a1 : Int} {b0 : Int} {b1 : Int} {w : World} {R : TR [(false, [.b])] → World → Prop} (h : slope_over.wp a0 a1 b0 b1 w R) : clS Try.prog F.slope_over [.agg #[.int .i64 a0, .int .i64 a1], .agg #[.int .i64 b0, .int .i64 b1]] w false [(false, [.b])] R :=
  ok_of Try_follows Try.func74 (fun R => slope_over.wp a0 a1 b0 b1 w R) (slope_over.eq a0 a1 b0 b1 w) rfl h
/-! ### slices_Collect_table_Entry -/
set_option maxRecDepth 100000 in
def slices_Collect_table_Entry.wp (seq : Value) (w : World) (R : TR [(false, [.sl])] → World → Prop) : Prop :=
clS Try.prog F.slices_AppendSeq_table_Entry_table_Entry [.slice none 0 0, seq] w false [(false, [.sl])] fun r1 w2 =>
R (((r1.1.1.1, r1.1.1.2.1, r1.1.1.2.2), ()), ()) w2
set_option maxRecDepth 100000 in
theorem slices_Collect_table_Entry.eq (seq : Value) (w : World) (R : Value → World → Prop) : wpF Try.prog Try.f75 .n [seq] w R = slices_Collect_table_Entry.wp seq w (fun r w => R (encR false [(false, [.sl])] r) w) := by kernel_rfl
theorem slices_Collect_table_Entry.ok {seq : Value} {w : World} {R : TR [(false, [.sl])] → World → Prop} (h : slices_Collect_table_Entry.wp seq w R) : clS Try.prog F.slices_Collect_table_Entry [seq] w false [(false, [.sl])] R :=
  ok_of Try_follows Try.func75 (fun R => slices_Collect_table_Entry.wp seq w R) (slices_Collect_table_Entry.eq seq w) rfl h
/-! ### fix_MulDiv -/
set_option maxRecDepth 100000 in
def fix_MulDiv.wp (a : Int) (b : Int) (c : Int) (w : World) (R : TR [(false, [(.i .i64)]), (false, [.b])] → World → Prop) : Prop :=
brB (decide (c < 1)) (
R ((0, ()), (false, ()), ()) w) (
clS Try.prog F.fix_Size [.int .i64 a] w false [(false, [(.i .u64)])] fun r1 w2 =>
clS Try.prog F.fix_Size [.int .i64 b] w2 false [(false, [(.i .u64)])] fun r3 w4 =>
clS Try.prog F.bits_Mul64 [.int .u64 r1.1.1, .int .u64 r3.1.1] w4 true [(false, [(.i .u64)]), (false, [(.i .u64)])] fun r5 w6 =>
brB (decide (r5.1.1 ≥ (IntKind.wrap .u64 c))) (
R ((0, ()), (false, ()), ()) w6) (
clS Try.prog F.bits_Div64 [.int .u64 r5.1.1, .int .u64 r5.2.1.1, .int .u64 (IntKind.wrap .u64 c)] w6 true [(false, [(.i .u64)]), (false, [(.i .u64)])] fun r7 w8 =>
brB ((decide (a < 0)) == (decide (b < 0))) (
brB (decide (r7.1.1 > 9223372036854775807)) (
R ((0, ()), (false, ()), ()) w8) (
R ((IntKind.wrap .i64 r7.1.1, ()), (true, ()), ()) w8)) (
CutT (fun (J9 : ((Int) × Unit) → World → Prop) =>
brB (decide (r7.2.1.1 > 0)) (
brB ((IntKind.wrap .u64 (r7.1.1 + 1)) == 0) (
R ((0, ()), (false, ()), ()) w8) (
J9 (IntKind.wrap .u64 (r7.1.1 + 1), ()) w8)) (
J9 (r7.1.1, ()) w8)) (fun (z10 : (Int) × Unit) w11 => ∀ _ : Nat → Value,
brB (decide (z10.1 > 9223372036854775808)) (
R ((0, ()), (false, ()), ()) w11) (
R ((IntKind.wrap .i64 (IntKind.wrap .u64 (0 - z10.1)), ()), (true, ()), ()) w11)))))
set_option maxRecDepth 100000 in
theorem fix_MulDiv.eq (a : Int) (b : Int) (c : Int) (w : World) (R : Value → World → Prop) : wpF Try.prog Try.f76 (.s .n (.s .n (.s .n (.s .n (.s .n (.s .n (.ct [(10, (.i .u64))] .n .n))))))) [.int .i64 a, .int .i64 b, .int .i64 c] w R = fix_MulDiv.wp a b c w (fun r w => R (encR true [(false, [(.i .i64)]), (false, [.b])] r) w) := by kernel_rfl
theorem fix_MulDiv.ok {a : Int} {b : Int} {c : Int} {w : World} {R : TR [(false, [(.i .i64)]), (false, [.b])] → World → Prop} (h : fix_MulDiv.wp a b c w R) : clS Try.prog F.fix_MulDiv [.int .i64 a, .int .i64 b, .int .i64 c] w true [(false, [(.i .i64)]), (false, [.b])] R :=
  ok_of Try_follows Try.func76 (fun R => fix_MulDiv.wp a b c w R) (fix_MulDiv.eq a b c w) rfl h
/-! ### fix_Add -/
set_option maxRecDepth 100000 in
def fix_Add.wp (a : Int) (b : Int) (w : World) (R : TR [(false, [(.i .i64)]), (false, [.b])] → World → Prop) : Prop :=
brB (!((decide ((IntKind.wrap .i64 (a + b)) > a)) == (decide (b > 0)))) (
brB (b != 0) (
R ((0, ()), (false, ()), ()) w) (
R ((IntKind.wrap .i64 (a + b), ()), (true, ()), ()) w)) (
R ((IntKind.wrap .i64 (a + b), ()), (true, ()), ()) w)
set_option maxRecDepth 100000 in
theorem fix_Add.eq (a : Int) (b : Int) (w : World) (R : Value → World → Prop) : wpF Try.prog Try.f77 .n [.int .i64 a, .int .i64 b] w R = fix_Add.wp a b w (fun r w => R (encR true [(false, [(.i .i64)]), (false, [.b])] r) w) := by kernel_rfl
theorem fix_Add.ok {a : Int} {b : Int} {w : World} {R : TR [(false, [(.i .i64)]), (false, [.b])] → World → Prop} (h : fix_Add.wp a b w R) : clS Try.prog F.fix_Add [.int .i64 a, .int .i64 b] w true [(false, [(.i .i64)]), (false, [.b])] R :=
  ok_of Try_follows Try.func77 (fun R => fix_Add.wp a b w R) (fix_Add.eq a b w) rfl h
/-! ### slope_sums_add -/
set_option maxRecDepth 100000 in
def slope_sums_add.wp (s : Option Addr) (x : Int) (y : Int) (w : World) (R : TR [] → World → Prop) : Prop :=
ncK s fun a1 =>
ld1 (.i .i64) a1 w fun x2 =>
ncK s fun a3 =>
stN [.int .i64 (IntKind.wrap .i64 (x2 + 1))] a3 0 w fun w4 =>
ncK s fun a5 =>
ld1 (.i .i64) (a5.add 1) w4 fun x6 =>
ncK s fun a7 =>
stN [.int .i64 (IntKind.wrap .i64 (x6 + x))] (a7.add 1) 0 w4 fun w8 =>
ncK s fun a9 =>
ld1 (.i .i64) (a9.add 2) w8 fun x10 =>
ncK s fun a11 =>
stN [.int .i64 (IntKind.wrap .i64 (x10 + y))] (a11.add 2) 0 w8 fun w12 =>
ncK s fun a13 =>
ld1 (.i .i64) (a13.add 3) w12 fun x14 =>
ncK s fun a15 =>
stN [.int .i64 (IntKind.wrap .i64 (x14 + (IntKind.wrap .i64 (x * y))))] (a15.add 3) 0 w12 fun w16 =>
ncK s fun a17 =>
ld1 (.i .i64) (a17.add 4) w16 fun x18 =>
ncK s fun a19 =>
stN [.int .i64 (IntKind.wrap .i64 (x18 + (IntKind.wrap .i64 (x * x))))] (a19.add 4) 0 w16 fun w20 =>
R (()) w20
set_option maxRecDepth 100000 in
theorem slope_sums_add.eq (s : Option Addr) (x : Int) (y : Int) (w : World) (R : Value → World → Prop) : wpF Try.prog Try.f78 .n [.pointer s, .int .i64 x, .int .i64 y] w R = slope_sums_add.wp s x y w (fun r w => R (encR true [] r) w) := by kernel_rfl
theorem slope_sums_add.ok {s : Option Addr} {x : Int} {y : Int} {w : World} {R : TR [] → World → Prop} (h : slope_sums_add.wp s x y w R) : clS Try.prog F.slope_sums_add [.pointer s, .int .i64 x, .int .i64 y] w true [] R :=
  ok_of Try_follows Try.func78 (fun R => slope_sums_add.wp s x y w R) (slope_sums_add.eq s x y w) rfl h
/-! ### bits_Mul64 -/
set_option maxRecDepth 100000 in
def bits_Mul64.wp (x : Int) (y : Int) (w : World) (R : TR [(false, [(.i .u64)]), (false, [(.i .u64)])] → World → Prop) : Prop :=
shK 32 (
shK 32 (
shK 32 (
shK 32 (
shK 32 (
R ((IntKind.wrap .u64 ((IntKind.wrap .u64 ((IntKind.wrap .u64 ((shrX .u64 x 32) * (shrX .u64 y 32))) + (shrX .u64 (IntKind.wrap .u64 ((IntKind.wrap .u64 ((shrX .u64 x 32) * (bitsX .and .u64 y 4294967295))) + (shrX .u64 (IntKind.wrap .u64 ((bitsX .and .u64 x 4294967295) * (bitsX .and .u64 y 4294967295))) 32))) 32))) + (shrX .u64 (IntKind.wrap .u64 ((bitsX .and .u64 (IntKind.wrap .u64 ((IntKind.wrap .u64 ((shrX .u64 x 32) * (bitsX .and .u64 y 4294967295))) + (shrX .u64 (IntKind.wrap .u64 ((bitsX .and .u64 x 4294967295) * (bitsX .and .u64 y 4294967295))) 32))) 4294967295) + (IntKind.wrap .u64 ((bitsX .and .u64 x 4294967295) * (shrX .u64 y 32))))) 32)), ()), (IntKind.wrap .u64 (x * y), ()), ()) w)))))
set_option maxRecDepth 100000 in
theorem bits_Mul64.eq (x : Int) (y : Int) (w : World) (R : Value → World → Prop) : wpF Try.prog Try.f79 .n [.int .u64 x, .int .u64 y] w R = bits_Mul64.wp x y w (fun r w => R (encR true [(false, [(.i .u64)]), (false, [(.i .u64)])] r) w) := by kernel_rfl
theorem bits_Mul64.ok {x : Int} {y : Int} {w : World} {R : TR [(false, [(.i .u64)]), (false, [(.i .u64)])] → World → Prop} (h : bits_Mul64.wp x y w R) : clS Try.prog F.bits_Mul64 [.int .u64 x, .int .u64 y] w true [(false, [(.i .u64)]), (false, [(.i .u64)])] R :=
  ok_of Try_follows Try.func79 (fun R => bits_Mul64.wp x y w R) (bits_Mul64.eq x y w) rfl h
/-! ### slices_AppendSeq_table_Entry_table_Entry -/
set_option maxRecDepth 100000 in
def slices_AppendSeq_table_Entry_table_Entry.wp (s : Option Addr × Nat × Nat) (seq : Value) (w : World) (R : TR [(false, [.sl])] → World → Prop) : Prop :=
alK [.slice s.1 s.2.1 s.2.2] T.sl_table_Entry w fun p1 w2 =>
RfT Try.prog seq [(true, [(.i .i64), (.i .i64), (.i .i64)])] w2 (fun x3 k4 w5 =>
alK [.int .i64 0, .int .i64 0, .int .i64 0] T.table_Entry w5 fun p11 w12 =>
stN [.int .i64 x3.1.1, .int .i64 x3.1.2.1, .int .i64 x3.1.2.2.1] p11 0 w12 fun w13 =>
k4 w13 fun go6 lv7 w8 =>
ld1 .sl p1 w8 fun x14 =>
ldN [(.i .i64), (.i .i64), (.i .i64)] p11 0 w8 fun x15 =>
alK [.int .i64 x15.1, .int .i64 x15.2.1, .int .i64 x15.2.2.1] T.table_Entry w8 fun p16 w17 =>
slOf ((Builtin.append_ #[T.sl_table_Entry, T.sl_table_Entry] T.sl_table_Entry #[.slice x14.1 x14.2.1 x14.2.2, .slice (some p16) 1 1]).run Try.prog w17) fun y18 w19 =>
stN [.slice y18.1 y18.2.1 y18.2.2] p1 0 w19 fun w20 =>
go6 w20) (fun D9 w10 =>
ld1 .sl p1 w10 fun x21 =>
tkK D9 w10 fun w22 =>
R (((x21.1, x21.2.1, x21.2.2), ()), ()) w22) []
set_option maxRecDepth 100000 in
theorem slices_AppendSeq_table_Entry_table_Entry.eq (s : Option Addr × Nat × Nat) (seq : Value) (w : World) (R : Value → World → Prop) : wpF Try.prog Try.f80 (.s .n (.s (.s .n (.rf [(true, [(.i .i64), (.i .i64), (.i .i64)])] .n .n)) .n)) [.slice s.1 s.2.1 s.2.2, seq] w R = slices_AppendSeq_table_Entry_table_Entry.wp s seq w (fun r w => R (encR false [(false, [.sl])] r) w) := by kernel_rfl
theorem slices_AppendSeq_table_Entry_table_Entry.ok {s : Option Addr × Nat × Nat} {seq : Value} {w : World} {R : TR [(false, [.sl])] → World → Prop} (h : slices_AppendSeq_table_Entry_table_Entry.wp s seq w R) : clS Try.prog F.slices_AppendSeq_table_Entry_table_Entry [.slice s.1 s.2.1 s.2.2, seq] w false [(false, [.sl])] R :=
  ok_of Try_follows Try.func80 (fun R => slices_AppendSeq_table_Entry_table_Entry.wp s seq w R) (slices_AppendSeq_table_Entry_table_Entry.eq s seq w) rfl h
/-! ### fix_Size -/
set_option maxRecDepth 100000 in
def fix_Size.wp (n : Int) (w : World) (R : TR [(false, [(.i .u64)])] → World → Prop) : Prop :=
brB (decide (n < 0)) (
R ((IntKind.wrap .u64 (0 - (IntKind.wrap .u64 n)), ()), ()) w) (
R ((IntKind.wrap .u64 n, ()), ()) w)
set_option maxRecDepth 100000 in
theorem fix_Size.eq (n : Int) (w : World) (R : Value → World → Prop) : wpF Try.prog Try.f81 .n [.int .i64 n] w R = fix_Size.wp n w (fun r w => R (encR false [(false, [(.i .u64)])] r) w) := by kernel_rfl
theorem fix_Size.ok {n : Int} {w : World} {R : TR [(false, [(.i .u64)])] → World → Prop} (h : fix_Size.wp n w R) : clS Try.prog F.fix_Size [.int .i64 n] w false [(false, [(.i .u64)])] R :=
  ok_of Try_follows Try.func81 (fun R => fix_Size.wp n w R) (fix_Size.eq n w) rfl h
/-! ### bits_Div64 -/
set_option maxRecDepth 100000 in
def bits_Div64.wp (hi : Int) (lo : Int) (y : Int) (w : World) (R : TR [(false, [(.i .u64)]), (false, [(.i .u64)])] → World → Prop) : Prop :=
brB (y == 0) (
ld1 .any ⟨0, 0, none⟩ w fun x1 =>
False) (
brB (decide (y ≤ hi)) (
ld1 .any ⟨1, 0, none⟩ w fun x2 =>
False) (
brB (hi == 0) (
drK w fun w3 =>
nzK y (
nzK y (
R ((IntKind.wrap .u64 (Int.tdiv lo y), ()), (Int.tmod lo y, ()), ()) w3))) (
clS Try.prog F.bits_LeadingZeros64 [.int .u64 y] w false [(false, [(.i .i64)])] fun r4 w5 =>
shK (IntKind.wrap .u64 r4.1.1) (
shK 32 (
shK (IntKind.wrap .u64 r4.1.1) (
shK (IntKind.wrap .u64 (64 - (IntKind.wrap .u64 r4.1.1))) (
shK (IntKind.wrap .u64 r4.1.1) (
shK 32 (
nzK (shrX .u64 (shlX .u64 y (IntKind.wrap .u64 r4.1.1)) 32) (
CutT (fun (J6 : ((Int) × Unit) → World → Prop) =>
LoopT (fun (self9 : ((Int) × (Int) × Unit) → World → Prop) (z10 : (Int) × (Int) × Unit) w11 => ∀ _ : Nat → Value,
CutT (fun (J12 : Unit → World → Prop) =>
brB (decide (z10.1 ≥ 4294967296)) (
J12 (()) w11) (
brB (decide ((IntKind.wrap .u64 (z10.1 * (bitsX .and .u64 (shlX .u64 y (IntKind.wrap .u64 r4.1.1)) 4294967295))) > (IntKind.wrap .u64 ((IntKind.wrap .u64 (4294967296 * z10.2.1)) + (shrX .u64 (shlX .u64 lo (IntKind.wrap .u64 r4.1.1)) 32))))) (
J12 (()) w11) (
J6 (z10.1, ()) w11))) (fun (z13 : Unit) w14 => ∀ _ : Nat → Value,
brB (decide ((IntKind.wrap .u64 (z10.2.1 + (shrX .u64 (shlX .u64 y (IntKind.wrap .u64 r4.1.1)) 32))) ≥ 4294967296)) (
J6 (IntKind.wrap .u64 (z10.1 - 1), ()) w14) (
self9 (IntKind.wrap .u64 (z10.1 - 1), IntKind.wrap .u64 (z10.2.1 + (shrX .u64 (shlX .u64 y (IntKind.wrap .u64 r4.1.1)) 32)), ()) w14))) (IntKind.wrap .u64 (Int.tdiv (bitsX .or .u64 (shlX .u64 hi (IntKind.wrap .u64 r4.1.1)) (shrX .u64 lo (IntKind.wrap .u64 (64 - (IntKind.wrap .u64 r4.1.1))))) (shrX .u64 (shlX .u64 y (IntKind.wrap .u64 r4.1.1)) 32)), IntKind.wrap .u64 ((bitsX .or .u64 (shlX .u64 hi (IntKind.wrap .u64 r4.1.1)) (shrX .u64 lo (IntKind.wrap .u64 (64 - (IntKind.wrap .u64 r4.1.1))))) - (IntKind.wrap .u64 ((IntKind.wrap .u64 (Int.tdiv (bitsX .or .u64 (shlX .u64 hi (IntKind.wrap .u64 r4.1.1)) (shrX .u64 lo (IntKind.wrap .u64 (64 - (IntKind.wrap .u64 r4.1.1))))) (shrX .u64 (shlX .u64 y (IntKind.wrap .u64 r4.1.1)) 32))) * (shrX .u64 (shlX .u64 y (IntKind.wrap .u64 r4.1.1)) 32)))), ()) w5) (fun (z7 : (Int) × Unit) w8 => ∀ _ : Nat → Value,
nzK (shrX .u64 (shlX .u64 y (IntKind.wrap .u64 r4.1.1)) 32) (
CutT (fun (J15 : ((Int) × Unit) → World → Prop) =>
LoopT (fun (self18 : ((Int) × (Int) × Unit) → World → Prop) (z19 : (Int) × (Int) × Unit) w20 => ∀ _ : Nat → Value,
CutT (fun (J21 : Unit → World → Prop) =>
brB (decide (z19.2.1 ≥ 4294967296)) (
J21 (()) w20) (
brB (decide ((IntKind.wrap .u64 (z19.2.1 * (bitsX .and .u64 (shlX .u64 y (IntKind.wrap .u64 r4.1.1)) 4294967295))) > (IntKind.wrap .u64 ((IntKind.wrap .u64 (4294967296 * z19.1)) + (bitsX .and .u64 (shlX .u64 lo (IntKind.wrap .u64 r4.1.1)) 4294967295))))) (
J21 (()) w20) (
J15 (z19.2.1, ()) w20))) (fun (z22 : Unit) w23 => ∀ _ : Nat → Value,
brB (decide ((IntKind.wrap .u64 (z19.1 + (shrX .u64 (shlX .u64 y (IntKind.wrap .u64 r4.1.1)) 32))) ≥ 4294967296)) (
J15 (IntKind.wrap .u64 (z19.2.1 - 1), ()) w23) (
self18 (IntKind.wrap .u64 (z19.1 + (shrX .u64 (shlX .u64 y (IntKind.wrap .u64 r4.1.1)) 32)), IntKind.wrap .u64 (z19.2.1 - 1), ()) w23))) (IntKind.wrap .u64 ((IntKind.wrap .u64 ((IntKind.wrap .u64 ((IntKind.wrap .u64 ((bitsX .or .u64 (shlX .u64 hi (IntKind.wrap .u64 r4.1.1)) (shrX .u64 lo (IntKind.wrap .u64 (64 - (IntKind.wrap .u64 r4.1.1))))) * 4294967296)) + (shrX .u64 (shlX .u64 lo (IntKind.wrap .u64 r4.1.1)) 32))) - (IntKind.wrap .u64 (z7.1 * (shlX .u64 y (IntKind.wrap .u64 r4.1.1)))))) - (IntKind.wrap .u64 ((IntKind.wrap .u64 (Int.tdiv (IntKind.wrap .u64 ((IntKind.wrap .u64 ((IntKind.wrap .u64 ((bitsX .or .u64 (shlX .u64 hi (IntKind.wrap .u64 r4.1.1)) (shrX .u64 lo (IntKind.wrap .u64 (64 - (IntKind.wrap .u64 r4.1.1))))) * 4294967296)) + (shrX .u64 (shlX .u64 lo (IntKind.wrap .u64 r4.1.1)) 32))) - (IntKind.wrap .u64 (z7.1 * (shlX .u64 y (IntKind.wrap .u64 r4.1.1)))))) (shrX .u64 (shlX .u64 y (IntKind.wrap .u64 r4.1.1)) 32))) * (shrX .u64 (shlX .u64 y (IntKind.wrap .u64 r4.1.1)) 32)))), IntKind.wrap .u64 (Int.tdiv (IntKind.wrap .u64 ((IntKind.wrap .u64 ((IntKind.wrap .u64 ((bitsX .or .u64 (shlX .u64 hi (IntKind.wrap .u64 r4.1.1)) (shrX .u64 lo (IntKind.wrap .u64 (64 - (IntKind.wrap .u64 r4.1.1))))) * 4294967296)) + (shrX .u64 (shlX .u64 lo (IntKind.wrap .u64 r4.1.1)) 32))) - (IntKind.wrap .u64 (z7.1 * (shlX .u64 y (IntKind.wrap .u64 r4.1.1)))))) (shrX .u64 (shlX .u64 y (IntKind.wrap .u64 r4.1.1)) 32)), ()) w8) (fun (z16 : (Int) × Unit) w17 => ∀ _ : Nat → Value,
shK (IntKind.wrap .u64 r4.1.1) (
R ((IntKind.wrap .u64 ((IntKind.wrap .u64 (z7.1 * 4294967296)) + z16.1), ()), (shrX .u64 (IntKind.wrap .u64 ((IntKind.wrap .u64 ((IntKind.wrap .u64 ((IntKind.wrap .u64 ((IntKind.wrap .u64 ((IntKind.wrap .u64 ((bitsX .or .u64 (shlX .u64 hi (IntKind.wrap .u64 r4.1.1)) (shrX .u64 lo (IntKind.wrap .u64 (64 - (IntKind.wrap .u64 r4.1.1))))) * 4294967296)) + (shrX .u64 (shlX .u64 lo (IntKind.wrap .u64 r4.1.1)) 32))) - (IntKind.wrap .u64 (z7.1 * (shlX .u64 y (IntKind.wrap .u64 r4.1.1)))))) * 4294967296)) + (bitsX .and .u64 (shlX .u64 lo (IntKind.wrap .u64 r4.1.1)) 4294967295))) - (IntKind.wrap .u64 (z16.1 * (shlX .u64 y (IntKind.wrap .u64 r4.1.1)))))) (IntKind.wrap .u64 r4.1.1), ()), ()) w17))))))))))))))
set_option maxRecDepth 100000 in
theorem bits_Div64.eq (hi : Int) (lo : Int) (y : Int) (w : World) (R : Value → World → Prop) : wpF Try.prog Try.f82 (.s .n (.s .n (.s .n (.s (.s .n (.s (.s (.pl (.tk 0 (.tk 1 (.tk 2 (.tk 3 (.tk 4 (.tk 5 (.tk 6 (.tk 7 .z))))))))) .n) .n)) (.s .n (.s .n (.s .n (.s .n (.s .n (.s .n (.s .n (.s .n (.s .n (.s .n (.ct [(15, (.i .u64))] (.lp [(15, (.i .u64)), (16, (.i .u64))] (.ct [] .n .n)) (.s .n (.s .n (.s .n (.ct [(18, (.i .u64))] (.lp [(16, (.i .u64)), (18, (.i .u64))] (.ct [] .n .n)) .n))))))))))))))))))) [.int .u64 hi, .int .u64 lo, .int .u64 y] w R = bits_Div64.wp hi lo y w (fun r w => R (encR true [(false, [(.i .u64)]), (false, [(.i .u64)])] r) w) := by kernel_rfl
theorem bits_Div64.ok {hi : Int} {lo : Int} {y : Int} {w : World} {R : TR [(false, [(.i .u64)]), (false, [(.i .u64)])] → World → Prop} (h : bits_Div64.wp hi lo y w R) : clS Try.prog F.bits_Div64 [.int .u64 hi, .int .u64 lo, .int .u64 y] w true [(false, [(.i .u64)]), (false, [(.i .u64)])] R :=
  ok_of Try_follows Try.func82 (fun R => bits_Div64.wp hi lo y w R) (bits_Div64.eq hi lo y w) rfl h
/-! ### bits_LeadingZeros64 -/
set_option maxRecDepth 100000 in
def bits_LeadingZeros64.wp (x : Int) (w : World) (R : TR [(false, [(.i .i64)])] → World → Prop) : Prop :=
clS Try.prog F.bits_Len64 [.int .u64 x] w false [(false, [(.i .i64)])] fun r1 w2 =>
R ((IntKind.wrap .i64 (64 - r1.1.1), ()), ()) w2
set_option maxRecDepth 100000 in
theorem bits_LeadingZeros64.eq (x : Int) (w : World) (R : Value → World → Prop) : wpF Try.prog Try.f83 .n [.int .u64 x] w R = bits_LeadingZeros64.wp x w (fun r w => R (encR false [(false, [(.i .i64)])] r) w) := by kernel_rfl
theorem bits_LeadingZeros64.ok {x : Int} {w : World} {R : TR [(false, [(.i .i64)])] → World → Prop} (h : bits_LeadingZeros64.wp x w R) : clS Try.prog F.bits_LeadingZeros64 [.int .u64 x] w false [(false, [(.i .i64)])] R :=
  ok_of Try_follows Try.func83 (fun R => bits_LeadingZeros64.wp x w R) (bits_LeadingZeros64.eq x w) rfl h
end Go.Proofs.Ytgpgdhopmifbpaa
