import Derived.Test.YtahojpppjpfjmaaGreatNm
namespace Go.Proofs.YtahojpppjpfjmaaGreat
open Go.Eng
set_option linter.unusedVariables false
/-! ### ref14_Raw -/
set_option maxRecDepth 100000 in
def ref14_Raw.wp (m0 : Int) (m1 : Int) (m2 : Int) (m3 : Int) (m4 : Int) (local_ : Int) (w : World) (R : TR [(false, [(.i .i64)])] → World → Prop) : Prop :=
alK [.int .i64 m0, .int .i64 m1, .int .i64 m2, .int .i64 m3, .int .i64 m4] T.ref14_Map w fun p1 w2 =>
drK w2 fun w3 =>
ld1 (.i .i64) (p1.add 1) w3 fun x4 =>
ld1 (.i .i64) (p1.add 2) w3 fun x5 =>
ld1 (.i .i64) (p1.add 3) w3 fun x6 =>
ld1 (.i .i64) p1 w3 fun x7 =>
clS Tryz.prog F.ref13_Gain [.int .i64 x5, .int .i64 x6, .int .i64 (IntKind.wrap .i64 (local_ - x7))] w3 false [(false, [(.i .i64)])] fun r8 w9 =>
Hold [(10, p1, (w3.cell? p1).getD undef), (2, (p1.add 1), (w3.cell? (p1.add 1)).getD undef)] w9 ∧ (
R ((IntKind.wrap .i64 ((IntKind.wrap .i64 (local_ + x4)) + r8.1.1), ()), ()) w9)
set_option maxRecDepth 100000 in
theorem ref14_Raw.eq (m0 : Int) (m1 : Int) (m2 : Int) (m3 : Int) (m4 : Int) (local_ : Int) (w : World) (R : Value → World → Prop) : wpF Tryz.prog Tryz.f74 (.s .n (.s (.pl (.tk 0 (.tk 1 (.tk 2 (.tk 3 (.tk 4 (.tk 5 (.tk 6 (.tk 7 (.tk 8 (.tk 9 (.tk 10 (.tk 11 (.ef 12 [5, 7] (.tk 13 (.tk 14 .z)))))))))))))))) .n)) [.agg #[.int .i64 m0, .int .i64 m1, .int .i64 m2, .int .i64 m3, .int .i64 m4], .int .i64 local_] w R = ref14_Raw.wp m0 m1 m2 m3 m4 local_ w (fun r w => R (encR false [(false, [(.i .i64)])] r) w) := by kernel_rfl
theorem ref14_Raw.ok {m0 : Int} {m1 : Int} {m2 : Int} {m3 : Int} {m4 : Int} {local_ : Int} {w : World} {R : TR [(false, [(.i .i64)])] → World → Prop} (h : ref14_Raw.wp m0 m1 m2 m3 m4 local_ w R) : clS Tryz.prog F.ref14_Raw [.agg #[.int .i64 m0, .int .i64 m1, .int .i64 m2, .int .i64 m3, .int .i64 m4], .int .i64 local_] w false [(false, [(.i .i64)])] R :=
  ok_of Tryz_follows Tryz.func74 (fun R => ref14_Raw.wp m0 m1 m2 m3 m4 local_ w R) (ref14_Raw.eq m0 m1 m2 m3 m4 local_ w) rfl h
/-! ### table_Table_All -/
set_option maxRecDepth 100000 in
def table_Table_All.wp (t : Option Addr) (w : World) (R : TR [(false, [.any])] → World → Prop) : Prop :=
alK [.pointer t] T.p_table_Table w fun p1 w2 =>
R ((.func (.func F.table_Table_All_1) #[] #[.pointer (some p1)], ()), ()) w2
set_option maxRecDepth 100000 in
theorem table_Table_All.eq (t : Option Addr) (w : World) (R : Value → World → Prop) : wpF Tryz.prog Tryz.f75 .n [.pointer t] w R = table_Table_All.wp t w (fun r w => R (encR false [(false, [.any])] r) w) := by kernel_rfl
theorem table_Table_All.ok {t : Option Addr} {w : World} {R : TR [(false, [.any])] → World → Prop} (h : table_Table_All.wp t w R) : clS Tryz.prog F.table_Table_All [.pointer t] w false [(false, [.any])] R :=
  ok_of Tryz_follows Tryz.func75 (fun R => table_Table_All.wp t w R) (table_Table_All.eq t w) rfl h
/-! ### fix_Floor -/
set_option maxRecDepth 100000 in
def fix_Floor.wp (a : Int) (b : Int) (w : World) (R : TR [(false, [(.i .i64)]), (false, [(.i .i64)]), (false, [.b])] → World → Prop) : Prop :=
brB (decide (b < 1)) (
R ((0, ()), (0, ()), (false, ()), ()) w) (
drK w fun w1 =>
nzK b (
nzK b (
brB (decide ((Int.tmod a b) < 0)) (
R ((IntKind.wrap .i64 ((IntKind.wrap .i64 (Int.tdiv a b)) - 1), ()), (IntKind.wrap .i64 ((Int.tmod a b) + b), ()), (true, ()), ()) w1) (
R ((IntKind.wrap .i64 (Int.tdiv a b), ()), (Int.tmod a b, ()), (true, ()), ()) w1))))
set_option maxRecDepth 100000 in
theorem fix_Floor.eq (a : Int) (b : Int) (w : World) (R : Value → World → Prop) : wpF Tryz.prog Tryz.f76 (.s .n (.s .n (.s (.pl (.tk 0 (.tk 1 (.tk 2 (.tk 3 (.tk 4 (.tk 5 (.tk 6 (.tk 7 .z))))))))) .n))) [.int .i64 a, .int .i64 b] w R = fix_Floor.wp a b w (fun r w => R (encR true [(false, [(.i .i64)]), (false, [(.i .i64)]), (false, [.b])] r) w) := by kernel_rfl
theorem fix_Floor.ok {a : Int} {b : Int} {w : World} {R : TR [(false, [(.i .i64)]), (false, [(.i .i64)]), (false, [.b])] → World → Prop} (h : fix_Floor.wp a b w R) : clS Tryz.prog F.fix_Floor [.int .i64 a, .int .i64 b] w true [(false, [(.i .i64)]), (false, [(.i .i64)]), (false, [.b])] R :=
  ok_of Tryz_follows Tryz.func76 (fun R => fix_Floor.wp a b w R) (fix_Floor.eq a b w) rfl h
/-! ### slope_Of -/
set_option maxRecDepth 100000 in
def slope_Of.wp (drift : Int) (list : Option Addr × Nat × Nat) (w : World) (R : TR [(true, [(.i .i64), (.i .i64)])] → World → Prop) : Prop :=
alK [.int .i64 0, .int .i64 0] T.slope_Slope w fun p1 w2 =>
alK [.int .i64 0, .int .i64 0] T.slope_Slope w2 fun p3 w4 =>
stN [.int .i64 0, .int .i64 1] p3 0 w4 fun w5 =>
brB (decide ((list.2.1 : Int) < 2)) (
ldN [(.i .i64), (.i .i64)] p3 0 w5 fun x6 =>
stN [.int .i64 x6.1, .int .i64 x6.2.1] p1 0 w5 fun w7 =>
ldN [(.i .i64), (.i .i64)] p1 0 w7 fun x8 =>
R ((x8.1, x8.2.1, ()), ()) w7) (
brB (decide ((list.2.1 : Int) > 8)) (
ldN [(.i .i64), (.i .i64)] p3 0 w5 fun x9 =>
stN [.int .i64 x9.1, .int .i64 x9.2.1] p1 0 w5 fun w10 =>
ldN [(.i .i64), (.i .i64)] p1 0 w10 fun x11 =>
R ((x11.1, x11.2.1, ()), ()) w10) (
LoopT (fun (self12 : ((Int) × Unit) → World → Prop) (z13 : (Int) × Unit) w14 => ∀ _ : Nat → Value,
brB (decide (z13.1 < (list.2.1 : Int))) (
ixK list.1 list.2.1 z13.1 fun a15 =>
ldN [(.i .i64), (.i .i64), (.i .i64)] (a15.add (z13.1.toNat * 3)) 0 w14 fun x16 =>
alK [.int .i64 0, .int .i64 0, .int .i64 0] T.table_Entry w14 fun p17 w18 =>
stN [.int .i64 x16.1, .int .i64 x16.2.1, .int .i64 x16.2.2.1] p17 0 w18 fun w19 =>
ldN [(.i .i64), (.i .i64), (.i .i64)] p17 0 w19 fun x20 =>
clS Tryz.prog F.table_Entry_Good [.agg #[.int .i64 x20.1, .int .i64 x20.2.1, .int .i64 x20.2.2.1]] w19 false [(false, [.b])] fun r21 w22 =>
brB (!r21.1.1) (
ldN [(.i .i64), (.i .i64)] p3 0 w22 fun x23 =>
stN [.int .i64 x23.1, .int .i64 x23.2.1] p1 0 w22 fun w24 =>
ldN [(.i .i64), (.i .i64)] p1 0 w24 fun x25 =>
R ((x25.1, x25.2.1, ()), ()) w24) (
self12 (IntKind.wrap .i64 (z13.1 + 1), ()) w22)) (
clS Tryz.prog F.slope_gather [.slice list.1 list.2.1 list.2.2] w14 true [(true, [(.i .i64), (.i .i64), (.i .i64), (.i .i64), (.i .i64)]), (false, [.b])] fun r26 w27 =>
alK [.int .i64 0, .int .i64 0, .int .i64 0, .int .i64 0, .int .i64 0] T.slope_sums w27 fun p28 w29 =>
stN [.int .i64 r26.1.1, .int .i64 r26.1.2.1, .int .i64 r26.1.2.2.1, .int .i64 r26.1.2.2.2.1, .int .i64 r26.1.2.2.2.2.1] p28 0 w29 fun w30 =>
ld1 (.i .i64) p28 w30 fun x31 =>
ld1 (.i .i64) (p28.add 4) w30 fun x32 =>
ld1 (.i .i64) (p28.add 1) w30 fun x33 =>
ld1 (.i .i64) (p28.add 1) w30 fun x34 =>
brB (!r26.2.1.1) (
ldN [(.i .i64), (.i .i64)] p3 0 w30 fun x35 =>
stN [.int .i64 x35.1, .int .i64 x35.2.1] p1 0 w30 fun w36 =>
ldN [(.i .i64), (.i .i64)] p1 0 w36 fun x37 =>
R ((x37.1, x37.2.1, ()), ()) w36) (
brB (decide ((IntKind.wrap .i64 ((IntKind.wrap .i64 (x31 * x32)) - (IntKind.wrap .i64 (x33 * x34)))) < 1)) (
ldN [(.i .i64), (.i .i64)] p3 0 w30 fun x38 =>
stN [.int .i64 x38.1, .int .i64 x38.2.1] p1 0 w30 fun w39 =>
ldN [(.i .i64), (.i .i64)] p1 0 w39 fun x40 =>
R ((x40.1, x40.2.1, ()), ()) w39) (
ld1 (.i .i64) p28 w30 fun x41 =>
ld1 (.i .i64) (p28.add 3) w30 fun x42 =>
ld1 (.i .i64) (p28.add 1) w30 fun x43 =>
ld1 (.i .i64) (p28.add 2) w30 fun x44 =>
clS Tryz.prog F.slope_Most [.int .i64 drift] w30 false [(true, [(.i .i64), (.i .i64)])] fun r45 w46 =>
alK [.int .i64 0, .int .i64 0] T.slope_Slope w46 fun p47 w48 =>
stN [.int .i64 r45.1.1, .int .i64 r45.1.2.1] p47 0 w48 fun w49 =>
CutT (fun (J50 : ((Bool) × Unit) → World → Prop) =>
brB (decide ((IntKind.wrap .i64 ((IntKind.wrap .i64 (x41 * x42)) - (IntKind.wrap .i64 (x43 * x44)))) > 0)) (
ldN [(.i .i64), (.i .i64)] p47 0 w49 fun x53 =>
clS Tryz.prog F.slope_over [.agg #[.int .i64 (IntKind.wrap .i64 ((IntKind.wrap .i64 (x41 * x42)) - (IntKind.wrap .i64 (x43 * x44)))), .int .i64 (IntKind.wrap .i64 ((IntKind.wrap .i64 (x31 * x32)) - (IntKind.wrap .i64 (x33 * x34))))], .agg #[.int .i64 x53.1, .int .i64 x53.2.1]] w49 false [(false, [.b])] fun r54 w55 =>
J50 (r54.1.1, ()) w55) (
J50 (false, ()) w49)) (fun (z51 : (Bool) × Unit) w52 => ∀ _ : Nat → Value,
brB z51.1 (
ldN [(.i .i64), (.i .i64)] p47 0 w52 fun x56 =>
stN [.int .i64 x56.1, .int .i64 x56.2.1] p1 0 w52 fun w57 =>
ldN [(.i .i64), (.i .i64)] p1 0 w57 fun x58 =>
R ((x58.1, x58.2.1, ()), ()) w57) (
CutT (fun (J59 : ((Bool) × Unit) → World → Prop) =>
brB (decide ((IntKind.wrap .i64 ((IntKind.wrap .i64 (x41 * x42)) - (IntKind.wrap .i64 (x43 * x44)))) < 0)) (
ldN [(.i .i64), (.i .i64)] p47 0 w52 fun x62 =>
clS Tryz.prog F.slope_over [.agg #[.int .i64 (IntKind.wrap .i64 (0 - (IntKind.wrap .i64 ((IntKind.wrap .i64 (x41 * x42)) - (IntKind.wrap .i64 (x43 * x44)))))), .int .i64 (IntKind.wrap .i64 ((IntKind.wrap .i64 (x31 * x32)) - (IntKind.wrap .i64 (x33 * x34))))], .agg #[.int .i64 x62.1, .int .i64 x62.2.1]] w52 false [(false, [.b])] fun r63 w64 =>
J59 (r63.1.1, ()) w64) (
J59 (false, ()) w52)) (fun (z60 : (Bool) × Unit) w61 => ∀ _ : Nat → Value,
brB z60.1 (
ld1 (.i .i64) p47 w61 fun x65 =>
ld1 (.i .i64) (p47.add 1) w61 fun x66 =>
stN [.int .i64 (IntKind.wrap .i64 (0 - x65)), .int .i64 x66] p1 0 w61 fun w67 =>
ldN [(.i .i64), (.i .i64)] p1 0 w67 fun x68 =>
R ((x68.1, x68.2.1, ()), ()) w67) (
stN [.int .i64 (IntKind.wrap .i64 ((IntKind.wrap .i64 (x41 * x42)) - (IntKind.wrap .i64 (x43 * x44)))), .int .i64 (IntKind.wrap .i64 ((IntKind.wrap .i64 (x31 * x32)) - (IntKind.wrap .i64 (x33 * x34))))] p1 0 w61 fun w69 =>
ldN [(.i .i64), (.i .i64)] p1 0 w69 fun x70 =>
R ((x70.1, x70.2.1, ()), ()) w69)))))))) (0, ()) w5))
set_option maxRecDepth 100000 in
theorem slope_Of.eq (drift : Int) (list : Option Addr × Nat × Nat) (w : World) (R : Value → World → Prop) : wpF Tryz.prog Tryz.f77 (.s .n (.s .n (.s .n (.s (.s .n (.lp [(25, (.i .i64))] .n)) (.s .n (.s .n (.s .n (.s .n (.s .n (.s (.ct [(70, .b)] .n (.s .n (.ct [(81, .b)] .n .n))) .n)))))))))) [.int .i64 drift, .slice list.1 list.2.1 list.2.2] w R = slope_Of.wp drift list w (fun r w => R (encR false [(true, [(.i .i64), (.i .i64)])] r) w) := by kernel_rfl
theorem slope_Of.ok {drift : Int} {list : Option Addr × Nat × Nat} {w : World} {R : TR [(true, [(.i .i64), (.i .i64)])] → World → Prop} (h : slope_Of.wp drift list w R) : clS Tryz.prog F.slope_Of [.int .i64 drift, .slice list.1 list.2.1 list.2.2] w false [(true, [(.i .i64), (.i .i64)])] R :=
  ok_of Tryz_follows Tryz.func77 (fun R => slope_Of.wp drift list w R) (slope_Of.eq drift list w) rfl h
/-! ### table_Table_List -/
set_option maxRecDepth 100000 in
def table_Table_List.wp (t : Option Addr) (w : World) (R : TR [(false, [.sl])] → World → Prop) : Prop :=
clS Tryz.prog F.table_Table_All [.pointer t] w false [(false, [.any])] fun r1 w2 =>
clS Tryz.prog F.slices_Collect_table_Entry [r1.1.1] w2 false [(false, [.sl])] fun r3 w4 =>
R (((r3.1.1.1, r3.1.1.2.1, r3.1.1.2.2), ()), ()) w4
set_option maxRecDepth 100000 in
theorem table_Table_List.eq (t : Option Addr) (w : World) (R : Value → World → Prop) : wpF Tryz.prog Tryz.f78 .n [.pointer t] w R = table_Table_List.wp t w (fun r w => R (encR false [(false, [.sl])] r) w) := by kernel_rfl
theorem table_Table_List.ok {t : Option Addr} {w : World} {R : TR [(false, [.sl])] → World → Prop} (h : table_Table_List.wp t w R) : clS Tryz.prog F.table_Table_List [.pointer t] w false [(false, [.sl])] R :=
  ok_of Tryz_follows Tryz.func78 (fun R => table_Table_List.wp t w R) (table_Table_List.eq t w) rfl h
/-! ### table_Table_Hops -/
set_option maxRecDepth 100000 in
def table_Table_Hops.wp (t : Option Addr) (w : World) (R : TR [(false, [(.i .i64)])] → World → Prop) : Prop :=
alK [.int .i64 0] T.int w fun p1 w2 =>
stN [.int .i64 0] p1 0 w2 fun w3 =>
clS Tryz.prog F.table_Table_All [.pointer t] w3 false [(false, [.any])] fun r4 w5 =>
RfT Tryz.prog r4.1.1 [(true, [(.i .i64), (.i .i64), (.i .i64)])] w5 (fun x6 k7 w8 =>
alK [.int .i64 0, .int .i64 0, .int .i64 0] T.table_Entry w8 fun p14 w15 =>
stN [.int .i64 x6.1.1, .int .i64 x6.1.2.1, .int .i64 x6.1.2.2.1] p14 0 w15 fun w16 =>
k7 w16 fun go9 lv10 w11 =>
ld1 (.i .i64) p1 w11 fun x17 =>
ld1 (.i .i64) (p14.add 2) w11 fun x18 =>
stN [.int .i64 (if x18 > x17 then x18 else x17)] p1 0 w11 fun w19 =>
go9 w19) (fun D12 w13 =>
ld1 (.i .i64) p1 w13 fun x20 =>
tkK D12 w13 fun w21 =>
R ((x20, ()), ()) w21) []
set_option maxRecDepth 100000 in
theorem table_Table_Hops.eq (t : Option Addr) (w : World) (R : Value → World → Prop) : wpF Tryz.prog Tryz.f79 (.s .n (.s .n (.s (.s .n (.rf [(true, [(.i .i64), (.i .i64), (.i .i64)])] .n .n)) .n))) [.pointer t] w R = table_Table_Hops.wp t w (fun r w => R (encR false [(false, [(.i .i64)])] r) w) := by kernel_rfl
theorem table_Table_Hops.ok {t : Option Addr} {w : World} {R : TR [(false, [(.i .i64)])] → World → Prop} (h : table_Table_Hops.wp t w R) : clS Tryz.prog F.table_Table_Hops [.pointer t] w false [(false, [(.i .i64)])] R :=
  ok_of Tryz_follows Tryz.func79 (fun R => table_Table_Hops.wp t w R) (table_Table_Hops.eq t w) rfl h
/-! ### slope_Slope_Gain -/
set_option maxRecDepth 100000 in
def slope_Slope_Gain.wp (s0 : Int) (s1 : Int) (ticks : Int) (w : World) (R : TR [(false, [(.i .i64)])] → World → Prop) : Prop :=
alK [.int .i64 s0, .int .i64 s1] T.slope_Slope w fun p1 w2 =>
ld1 (.i .i64) p1 w2 fun x3 =>
ld1 (.i .i64) (p1.add 1) w2 fun x4 =>
clS Tryz.prog F.fix_MulDiv [.int .i64 x3, .int .i64 ticks, .int .i64 x4] w2 true [(false, [(.i .i64)]), (false, [.b])] fun r5 w6 =>
R ((r5.1.1, ()), ()) w6
set_option maxRecDepth 100000 in
theorem slope_Slope_Gain.eq (s0 : Int) (s1 : Int) (ticks : Int) (w : World) (R : Value → World → Prop) : wpF Tryz.prog Tryz.f80 .n [.agg #[.int .i64 s0, .int .i64 s1], .int .i64 ticks] w R = slope_Slope_Gain.wp s0 s1 ticks w (fun r w => R (encR false [(false, [(.i .i64)])] r) w) := by kernel_rfl
theorem slope_Slope_Gain.ok {s0 : Int} {s1 : Int} {ticks : Int} {w : World} {R : TR [(false, [(.i .i64)])] → World → Prop} (h : slope_Slope_Gain.wp s0 s1 ticks w R) : clS Tryz.prog F.slope_Slope_Gain [.agg #[.int .i64 s0, .int .i64 s1], .int .i64 ticks] w false [(false, [(.i .i64)])] R :=
  ok_of Tryz_follows Tryz.func80 (fun R => slope_Slope_Gain.wp s0 s1 ticks w R) (slope_Slope_Gain.eq s0 s1 ticks w) rfl h
/-! ### fix_Sat -/
set_option maxRecDepth 100000 in
def fix_Sat.wp (a : Int) (b : Int) (w : World) (R : TR [(false, [(.i .i64)])] → World → Prop) : Prop :=
clS Tryz.prog F.fix_Add [.int .i64 a, .int .i64 b] w true [(false, [(.i .i64)]), (false, [.b])] fun r1 w2 =>
brB r1.2.1.1 (
R ((r1.1.1, ()), ()) w2) (
brB (decide (b > 0)) (
R ((9223372036854775807, ()), ()) w2) (
R (((Int.negSucc 9223372036854775807), ()), ()) w2))
set_option maxRecDepth 100000 in
theorem fix_Sat.eq (a : Int) (b : Int) (w : World) (R : Value → World → Prop) : wpF Tryz.prog Tryz.f81 .n [.int .i64 a, .int .i64 b] w R = fix_Sat.wp a b w (fun r w => R (encR false [(false, [(.i .i64)])] r) w) := by kernel_rfl
theorem fix_Sat.ok {a : Int} {b : Int} {w : World} {R : TR [(false, [(.i .i64)])] → World → Prop} (h : fix_Sat.wp a b w R) : clS Tryz.prog F.fix_Sat [.int .i64 a, .int .i64 b] w false [(false, [(.i .i64)])] R :=
  ok_of Tryz_follows Tryz.func81 (fun R => fix_Sat.wp a b w R) (fix_Sat.eq a b w) rfl h
/-! ### fix_Clamp -/
set_option maxRecDepth 100000 in
def fix_Clamp.wp (x : Int) (low : Int) (high : Int) (w : World) (R : TR [(false, [(.i .i64)])] → World → Prop) : Prop :=
R (((if low > (if high < x then high else x) then low else (if high < x then high else x)), ()), ()) w
set_option maxRecDepth 100000 in
theorem fix_Clamp.eq (x : Int) (low : Int) (high : Int) (w : World) (R : Value → World → Prop) : wpF Tryz.prog Tryz.f82 .n [.int .i64 x, .int .i64 low, .int .i64 high] w R = fix_Clamp.wp x low high w (fun r w => R (encR false [(false, [(.i .i64)])] r) w) := by kernel_rfl
theorem fix_Clamp.ok {x : Int} {low : Int} {high : Int} {w : World} {R : TR [(false, [(.i .i64)])] → World → Prop} (h : fix_Clamp.wp x low high w R) : clS Tryz.prog F.fix_Clamp [.int .i64 x, .int .i64 low, .int .i64 high] w false [(false, [(.i .i64)])] R :=
  ok_of Tryz_follows Tryz.func82 (fun R => fix_Clamp.wp x low high w R) (fix_Clamp.eq x low high w) rfl h
/-! ### ref13_Most -/
set_option maxRecDepth 100000 in
def ref13_Most.wp (drift : Int) (w : World) (R : TR [(false, [(.i .i64)]), (false, [(.i .i64)])] → World → Prop) : Prop :=
R ((IntKind.wrap .i64 (2 * (if 10 < (if 0 > drift then 0 else drift) then 10 else (if 0 > drift then 0 else drift))), ()), (IntKind.wrap .i64 (1000 - (if 10 < (if 0 > drift then 0 else drift) then 10 else (if 0 > drift then 0 else drift))), ()), ()) w
set_option maxRecDepth 100000 in
theorem ref13_Most.eq (drift : Int) (w : World) (R : Value → World → Prop) : wpF Tryz.prog Tryz.f83 .n [.int .i64 drift] w R = ref13_Most.wp drift w (fun r w => R (encR true [(false, [(.i .i64)]), (false, [(.i .i64)])] r) w) := by kernel_rfl
theorem ref13_Most.ok {drift : Int} {w : World} {R : TR [(false, [(.i .i64)]), (false, [(.i .i64)])] → World → Prop} (h : ref13_Most.wp drift w R) : clS Tryz.prog F.ref13_Most [.int .i64 drift] w true [(false, [(.i .i64)]), (false, [(.i .i64)])] R :=
  ok_of Tryz_follows Tryz.func83 (fun R => ref13_Most.wp drift w R) (ref13_Most.eq drift w) rfl h
/-! ### ref13_Over -/
set_option maxRecDepth 100000 in
def ref13_Over.wp (a : Int) (b : Int) (c : Int) (d : Int) (w : World) (R : TR [(false, [.b])] → World → Prop) : Prop :=
LoopT (fun (self1 : ((Int) × (Int) × (Int) × Unit) → World → Prop) (z2 : (Int) × (Int) × (Int) × Unit) w3 => ∀ _ : Nat → Value,
brB (decide (z2.2.2.1 ≥ 0)) (
CutT (fun (J4 : ((Int) × (Int) × Unit) → World → Prop) =>
brB (decide ((IntKind.wrap .i64 (2 * z2.2.1)) ≥ b)) (
J4 (IntKind.wrap .i64 ((IntKind.wrap .i64 (2 * z2.1)) + 1), IntKind.wrap .i64 ((IntKind.wrap .i64 (2 * z2.2.1)) - b), ()) w3) (
J4 (IntKind.wrap .i64 (2 * z2.1), IntKind.wrap .i64 (2 * z2.2.1), ()) w3)) (fun (z5 : (Int) × (Int) × Unit) w6 => ∀ _ : Nat → Value,
shK (IntKind.wrap .u64 z2.2.2.1) (
nzK 2 (
brB ((Int.tmod (shrX .i64 d (IntKind.wrap .u64 z2.2.2.1)) 2) == 1) (
nzK b (
nzK b (
brB (decide ((IntKind.wrap .i64 (z5.2.1 + (Int.tmod a b))) ≥ b)) (
self1 (IntKind.wrap .i64 ((IntKind.wrap .i64 (z5.1 + (IntKind.wrap .i64 (Int.tdiv a b)))) + 1), IntKind.wrap .i64 ((IntKind.wrap .i64 (z5.2.1 + (Int.tmod a b))) - b), IntKind.wrap .i64 (z2.2.2.1 - 1), ()) w6) (
self1 (IntKind.wrap .i64 (z5.1 + (IntKind.wrap .i64 (Int.tdiv a b))), IntKind.wrap .i64 (z5.2.1 + (Int.tmod a b)), IntKind.wrap .i64 (z2.2.2.1 - 1), ()) w6)))) (
self1 (z5.1, z5.2.1, IntKind.wrap .i64 (z2.2.2.1 - 1), ()) w6))))) (
brB (decide (z2.1 > c)) (
R ((true, ()), ()) w3) (
brB (z2.1 == c) (
R ((decide (z2.2.1 > 0), ()), ()) w3) (
R ((false, ()), ()) w3)))) (0, 0, 9, ()) w
set_option maxRecDepth 100000 in
theorem ref13_Over.eq (a : Int) (b : Int) (c : Int) (d : Int) (w : World) (R : Value → World → Prop) : wpF Tryz.prog Tryz.f84 (.s .n (.s .n (.s .n (.s (.s .n (.lp [(9, (.i .i64)), (10, (.i .i64)), (11, (.i .i64))] (.s .n (.s (.s .n (.s .n (.ct [(9, (.i .i64)), (10, (.i .i64))] .n .n))) .n)))) .n)))) [.int .i64 a, .int .i64 b, .int .i64 c, .int .i64 d] w R = ref13_Over.wp a b c d w (fun r w => R (encR false [(false, [.b])] r) w) := by kernel_rfl
theorem ref13_Over.ok {a : Int} {b : Int} {c : Int} {d : Int} {w : World} {R : TR [(false, [.b])] → World → Prop} (h : ref13_Over.wp a b c d w R) : clS Tryz.prog F.ref13_Over [.int .i64 a, .int .i64 b, .int .i64 c, .int .i64 d] w false [(false, [.b])] R :=
  ok_of Tryz_follows Tryz.func84 (fun R => ref13_Over.wp a b c d w R) (ref13_Over.eq a b c d w) rfl h
/-! ### ref13_Gain -/
set_option maxRecDepth 100000 in
def ref13_Gain.wp (num : Int) (den : Int) (ticks : Int) (w : World) (R : TR [(false, [(.i .i64)])] → World → Prop) : Prop :=
clS Tryz.prog F.ref01_MulDiv [.int .i64 num, .int .i64 ticks, .int .i64 den] w true [(false, [(.i .i64)]), (false, [.b])] fun r1 w2 =>
R ((r1.1.1, ()), ()) w2
set_option maxRecDepth 100000 in
theorem ref13_Gain.eq (num : Int) (den : Int) (ticks : Int) (w : World) (R : Value → World → Prop) : wpF Tryz.prog Tryz.f85 .n [.int .i64 num, .int .i64 den, .int .i64 ticks] w R = ref13_Gain.wp num den ticks w (fun r w => R (encR false [(false, [(.i .i64)])] r) w) := by kernel_rfl
theorem ref13_Gain.ok {num : Int} {den : Int} {ticks : Int} {w : World} {R : TR [(false, [(.i .i64)])] → World → Prop} (h : ref13_Gain.wp num den ticks w R) : clS Tryz.prog F.ref13_Gain [.int .i64 num, .int .i64 den, .int .i64 ticks] w false [(false, [(.i .i64)])] R :=
  ok_of Tryz_follows Tryz.func85 (fun R => ref13_Gain.wp num den ticks w R) (ref13_Gain.eq num den ticks w) rfl h
/-! ### table_Table_All_1 -/
set_option maxRecDepth 100000 in
def table_Table_All_1.wp (yield : Nat) (c_cap0 : Addr) (w : World) (R : TR [] → World → Prop) : Prop :=
ld1 .p c_cap0 w fun x1 =>
clS Tryz.prog F.table_Table_Len [.pointer x1] w false [(false, [(.i .i64)])] fun r2 w3 =>
LoopT (fun (self4 : ((Int) × Unit) → World → Prop) (z5 : (Int) × Unit) w6 => ∀ _ : Nat → Value,
brB (decide (z5.1 < r2.1.1)) (
ld1 .p c_cap0 w6 fun x7 =>
ncK x7 fun a8 =>
ld1 .sl a8 w6 fun x9 =>
ixK x9.1 x9.2.1 z5.1 fun a10 =>
ldN [(.i .i64), (.i .i64), (.i .i64)] (a10.add (z5.1.toNat * 3)) 0 w6 fun x11 =>
yiS Tryz.prog yield [.agg #[.int .i64 x11.1, .int .i64 x11.2.1, .int .i64 x11.2.2.1]] w6 fun b12 w13 =>
brB (!b12) (
R (()) w13) (
self4 (IntKind.wrap .i64 (z5.1 + 1), ()) w13)) (
R (()) w6)) (0, ()) w3
set_option maxRecDepth 100000 in
theorem table_Table_All_1.eq (yield : Nat) (c_cap0 : Addr) (w : World) (R : Value → World → Prop) : wpF Tryz.prog Tryz.f86 (.s .n (.lp [(6, (.i .i64))] .n)) [.func (.yield yield) #[] #[], .pointer (some c_cap0)] w R = table_Table_All_1.wp yield c_cap0 w (fun r w => R (encR true [] r) w) := by kernel_rfl
theorem table_Table_All_1.ok {yield : Nat} {c_cap0 : Addr} {w : World} {R : TR [] → World → Prop} (h : table_Table_All_1.wp yield c_cap0 w R) : clS Tryz.prog F.table_Table_All_1 [.func (.yield yield) #[] #[], .pointer (some c_cap0)] w true [] R :=
  ok_of Tryz_follows Tryz.func86 (fun R => table_Table_All_1.wp yield c_cap0 w R) (table_Table_All_1.eq yield c_cap0 w) rfl h
/-! ### slope_gather -/
set_option maxRecDepth 100000 in
def slope_gather.wp (list : Option Addr × Nat × Nat) (w : World) (R : TR [(true, [(.i .i64), (.i .i64), (.i .i64), (.i .i64), (.i .i64)]), (false, [.b])] → World → Prop) : Prop :=
alK [.int .i64 0, .int .i64 0, .int .i64 0, .int .i64 0, .int .i64 0] T.slope_sums w fun p1 w2 =>
alK [.int .i64 0, .int .i64 0, .int .i64 0, .int .i64 0, .int .i64 0] T.slope_sums w2 fun p3 w4 =>
LoopT (fun (self5 : ((Int) × Unit) → World → Prop) (z6 : (Int) × Unit) w7 => ∀ _ : Nat → Value,
brB (decide (z6.1 < (list.2.1 : Int))) (
ixK list.1 list.2.1 z6.1 fun a8 =>
ldN [(.i .i64), (.i .i64), (.i .i64)] (a8.add (z6.1.toNat * 3)) 0 w7 fun x9 =>
alK [.int .i64 0, .int .i64 0, .int .i64 0] T.table_Entry w7 fun p10 w11 =>
stN [.int .i64 x9.1, .int .i64 x9.2.1, .int .i64 x9.2.2.1] p10 0 w11 fun w12 =>
drK w12 fun w13 =>
ld1 (.i .i64) p10 w13 fun x14 =>
ixK list.1 list.2.1 0 fun a15 =>
ld1 (.i .i64) (a15.add ((0 : Int).toNat * 3)) w13 fun x16 =>
ld1 (.i .i64) (p10.add 1) w13 fun x17 =>
ixK list.1 list.2.1 0 fun a18 =>
ld1 (.i .i64) ((a18.add ((0 : Int).toNat * 3)).add 1) w13 fun x19 =>
brB (decide ((IntKind.wrap .i64 (x14 - x16)) < 0)) (
stN [.int .i64 0, .int .i64 0, .int .i64 0, .int .i64 0, .int .i64 0] p1 0 w13 fun w20 =>
ldN [(.i .i64), (.i .i64), (.i .i64), (.i .i64), (.i .i64)] p1 0 w20 fun x21 =>
R ((x21.1, x21.2.1, x21.2.2.1, x21.2.2.2.1, x21.2.2.2.2.1, ()), (false, ()), ()) w20) (
brB (decide ((IntKind.wrap .i64 (x14 - x16)) > 4194304)) (
stN [.int .i64 0, .int .i64 0, .int .i64 0, .int .i64 0, .int .i64 0] p1 0 w13 fun w22 =>
ldN [(.i .i64), (.i .i64), (.i .i64), (.i .i64), (.i .i64)] p1 0 w22 fun x23 =>
R ((x23.1, x23.2.1, x23.2.2.1, x23.2.2.2.1, x23.2.2.2.2.1, ()), (false, ()), ()) w22) (
brB (decide ((IntKind.wrap .i64 (x17 - x19)) < (Int.negSucc 4194303))) (
stN [.int .i64 0, .int .i64 0, .int .i64 0, .int .i64 0, .int .i64 0] p1 0 w13 fun w24 =>
ldN [(.i .i64), (.i .i64), (.i .i64), (.i .i64), (.i .i64)] p1 0 w24 fun x25 =>
R ((x25.1, x25.2.1, x25.2.2.1, x25.2.2.2.1, x25.2.2.2.2.1, ()), (false, ()), ()) w24) (
brB (decide ((IntKind.wrap .i64 (x17 - x19)) > 4194304)) (
stN [.int .i64 0, .int .i64 0, .int .i64 0, .int .i64 0, .int .i64 0] p1 0 w13 fun w26 =>
ldN [(.i .i64), (.i .i64), (.i .i64), (.i .i64), (.i .i64)] p1 0 w26 fun x27 =>
R ((x27.1, x27.2.1, x27.2.2.1, x27.2.2.2.1, x27.2.2.2.2.1, ()), (false, ()), ()) w26) (
clS Tryz.prog F.slope_sums_add [.pointer (some p3), .int .i64 (IntKind.wrap .i64 (x14 - x16)), .int .i64 (IntKind.wrap .i64 (x17 - x19))] w13 true [] fun r28 w29 =>
self5 (IntKind.wrap .i64 (z6.1 + 1), ()) w29))))) (
ldN [(.i .i64), (.i .i64), (.i .i64), (.i .i64), (.i .i64)] p3 0 w7 fun x30 =>
stN [.int .i64 x30.1, .int .i64 x30.2.1, .int .i64 x30.2.2.1, .int .i64 x30.2.2.2.1, .int .i64 x30.2.2.2.2.1] p1 0 w7 fun w31 =>
ldN [(.i .i64), (.i .i64), (.i .i64), (.i .i64), (.i .i64)] p1 0 w31 fun x32 =>
R ((x32.1, x32.2.1, x32.2.2.1, x32.2.2.2.1, x32.2.2.2.2.1, ()), (true, ()), ()) w31)) (0, ()) w4
set_option maxRecDepth 100000 in
theorem slope_gather.eq (list : Option Addr × Nat × Nat) (w : World) (R : Value → World → Prop) : wpF Tryz.prog Tryz.f87 (.s .n (.s .n (.s (.s .n (.lp [(11, (.i .i64))] (.s .n (.s .n (.s (.s .n (.s (.pl (.tk 0 (.tk 1 (.tk 2 (.tk 3 (.tk 4 (.tk 5 (.tk 6 (.tk 7 (.tk 8 (.tk 9 (.tk 10 (.tk 11 (.tk 12 (.tk 13 (.tk 14 (.tk 15 .z))))))))))))))))) .n)) .n))))) .n))) [.slice list.1 list.2.1 list.2.2] w R = slope_gather.wp list w (fun r w => R (encR true [(true, [(.i .i64), (.i .i64), (.i .i64), (.i .i64), (.i .i64)]), (false, [.b])] r) w) := by kernel_rfl
theorem slope_gather.ok {list : Option Addr × Nat × Nat} {w : World} {R : TR [(true, [(.i .i64), (.i .i64), (.i .i64), (.i .i64), (.i .i64)]), (false, [.b])] → World → Prop} (h : slope_gather.wp list w R) : clS Tryz.prog F.slope_gather [.slice list.1 list.2.1 list.2.2] w true [(true, [(.i .i64), (.i .i64), (.i .i64), (.i .i64), (.i .i64)]), (false, [.b])] R :=
  ok_of Tryz_follows Tryz.func87 (fun R => slope_gather.wp list w R) (slope_gather.eq list w) rfl h
/-! ### slope_Most -/
set_option maxRecDepth 100000 in
def slope_Most.wp (drift : Int) (w : World) (R : TR [(true, [(.i .i64), (.i .i64)])] → World → Prop) : Prop :=
alK [.int .i64 0, .int .i64 0] T.slope_Slope w fun p1 w2 =>
clS Tryz.prog F.fix_Clamp [.int .i64 drift, .int .i64 0, .int .i64 10] w2 false [(false, [(.i .i64)])] fun r3 w4 =>
stN [.int .i64 (IntKind.wrap .i64 (2 * r3.1.1)), .int .i64 (IntKind.wrap .i64 (1000 - r3.1.1))] p1 0 w4 fun w5 =>
ldN [(.i .i64), (.i .i64)] p1 0 w5 fun x6 =>
R ((x6.1, x6.2.1, ()), ()) w5
set_option maxRecDepth 100000 in
theorem slope_Most.eq (drift : Int) (w : World) (R : Value → World → Prop) : wpF Tryz.prog Tryz.f88 .n [.int .i64 drift] w R = slope_Most.wp drift w (fun r w => R (encR false [(true, [(.i .i64), (.i .i64)])] r) w) := by kernel_rfl
theorem slope_Most.ok {drift : Int} {w : World} {R : TR [(true, [(.i .i64), (.i .i64)])] → World → Prop} (h : slope_Most.wp drift w R) : clS Tryz.prog F.slope_Most [.int .i64 drift] w false [(true, [(.i .i64), (.i .i64)])] R :=
  ok_of Tryz_follows Tryz.func88 (fun R => slope_Most.wp drift w R) (slope_Most.eq drift w) rfl h
/-! ### slope_over -/
set_option maxRecDepth 100000 in
def slope_over.wp (a0 : Int) (a1 : Int) (b0 : Int) (b1 : Int) (w : World) (R : TR [(false, [.b])] → World → Prop) : Prop :=
alK [.int .i64 a0, .int .i64 a1] T.slope_Slope w fun p1 w2 =>
alK [.int .i64 b0, .int .i64 b1] T.slope_Slope w2 fun p3 w4 =>
ld1 (.i .i64) p1 w4 fun x5 =>
ld1 (.i .i64) (p3.add 1) w4 fun x6 =>
clS Tryz.prog F.bits_Mul64 [.int .u64 (IntKind.wrap .u64 x5), .int .u64 (IntKind.wrap .u64 x6)] w4 true [(false, [(.i .u64)]), (false, [(.i .u64)])] fun r7 w8 =>
ld1 (.i .i64) p3 w8 fun x9 =>
ld1 (.i .i64) (p1.add 1) w8 fun x10 =>
clS Tryz.prog F.bits_Mul64 [.int .u64 (IntKind.wrap .u64 x9), .int .u64 (IntKind.wrap .u64 x10)] w8 true [(false, [(.i .u64)]), (false, [(.i .u64)])] fun r11 w12 =>
brB (decide (r7.1.1 > r11.1.1)) (
R ((true, ()), ()) w12) (
brB (r7.1.1 == r11.1.1) (
R ((decide (r7.2.1.1 > r11.2.1.1), ()), ()) w12) (
R ((false, ()), ()) w12))
set_option maxRecDepth 100000 in
theorem slope_over.eq (a0 : Int) (a1 : Int) (b0 : Int) (b1 : Int) (w : World) (R : Value → World → Prop) : wpF Tryz.prog Tryz.f89 .n [.agg #[.int .i64 a0, .int .i64 a1], .agg #[.int .i64 b0, .int .i64 b1]] w R = slope_over.wp a0 a1 b0 b1 w (fun r w => R (encR false [(false, [.b])] r) w) := by kernel_rfl
theorem slope_over.ok {a0 : Int} {a1 : Int} {b0 : Int} {b1 : Int} {w : World} {R : TR [(false, [.b])] → World → Prop} (h : slope_over.wp a0 a1 b0 b1 w R) : clS Tryz.prog F.slope_over [.agg #[.int .i64 a0, .int .i64 a1], .agg #[.int .i64 b0, .int .i64 b1]] w false [(false, [.b])] R :=
  ok_of Tryz_follows Tryz.func89 (fun R => slope_over.wp a0 a1 b0 b1 w R) (slope_over.eq a0 a1 b0 b1 w) rfl h
/-! ### slices_Collect_table_Entry -/
set_option maxRecDepth 100000 in
def slices_Collect_table_Entry.wp (seq : Value) (w : World) (R : TR [(false, [.sl])] → World → Prop) : Prop :=
clS Tryz.prog F.slices_AppendSeq_table_Entry_table_Entry [.slice none 0 0, seq] w false [(false, [.sl])] fun r1 w2 =>
R (((r1.1.1.1, r1.1.1.2.1, r1.1.1.2.2), ()), ()) w2
set_option maxRecDepth 100000 in
theorem slices_Collect_table_Entry.eq (seq : Value) (w : World) (R : Value → World → Prop) : wpF Tryz.prog Tryz.f90 .n [seq] w R = slices_Collect_table_Entry.wp seq w (fun r w => R (encR false [(false, [.sl])] r) w) := by kernel_rfl
theorem slices_Collect_table_Entry.ok {seq : Value} {w : World} {R : TR [(false, [.sl])] → World → Prop} (h : slices_Collect_table_Entry.wp seq w R) : clS Tryz.prog F.slices_Collect_table_Entry [seq] w false [(false, [.sl])] R :=
  ok_of Tryz_follows Tryz.func90 (fun R => slices_Collect_table_Entry.wp seq w R) (slices_Collect_table_Entry.eq seq w) rfl h
/-! ### fix_MulDiv -/
set_option maxRecDepth 100000 in
def fix_MulDiv.wp (a : Int) (b : Int) (c : Int) (w : World) (R : TR [(false, [(.i .i64)]), (false, [.b])] → World → Prop) : Prop :=
brB (decide (c < 1)) (
R ((0, ()), (false, ()), ()) w) (
clS Tryz.prog F.fix_Size [.int .i64 a] w false [(false, [(.i .u64)])] fun r1 w2 =>
clS Tryz.prog F.fix_Size [.int .i64 b] w2 false [(false, [(.i .u64)])] fun r3 w4 =>
clS Tryz.prog F.bits_Mul64 [.int .u64 r1.1.1, .int .u64 r3.1.1] w4 true [(false, [(.i .u64)]), (false, [(.i .u64)])] fun r5 w6 =>
brB (decide (r5.1.1 ≥ (IntKind.wrap .u64 c))) (
R ((0, ()), (false, ()), ()) w6) (
clS Tryz.prog F.bits_Div64 [.int .u64 r5.1.1, .int .u64 r5.2.1.1, .int .u64 (IntKind.wrap .u64 c)] w6 true [(false, [(.i .u64)]), (false, [(.i .u64)])] fun r7 w8 =>
brB ((decide (a < 0)) == (decide (b < 0))) (
brB (decide (r7.1.1 > 9223372036854775807)) (
R ((0, ()), (false, ()), ()) w8) (
R ((IntKind.wrap .i64 r7.1.1, ()), (true, ()), ()) w8)) (
CutT (fun (J9 : ((Int) × Unit) → World → Prop) =>
brB (decide (r7.2.1.1 > 0)) (
brB ((IntKind.wrap .u64 (r7.1.1 + 1)) == 0) (
R ((0, ()), (false, ()), ()) w8) (
J9 (IntKind.wrap .u64 (r7.1.1 + 1), ()) w8)) (
J9 (r7.1.1, ()) w8)) (fun (z10 : (Int) × Unit) w11 => ∀ _ : Nat → Value,
brB (decide (z10.1 > 9223372036854775808)) (
R ((0, ()), (false, ()), ()) w11) (
R ((IntKind.wrap .i64 (IntKind.wrap .u64 (0 - z10.1)), ()), (true, ()), ()) w11)))))
set_option maxRecDepth 100000 in
theorem fix_MulDiv.eq (a : Int) (b : Int) (c : Int) (w : World) (R : Value → World → Prop) : wpF Tryz.prog Tryz.f91 (.s .n (.s .n (.s .n (.s .n (.s .n (.s .n (.ct [(10, (.i .u64))] .n .n))))))) [.int .i64 a, .int .i64 b, .int .i64 c] w R = fix_MulDiv.wp a b c w (fun r w => R (encR true [(false, [(.i .i64)]), (false, [.b])] r) w) := by kernel_rfl
theorem fix_MulDiv.ok {a : Int} {b : Int} {c : Int} {w : World} {R : TR [(false, [(.i .i64)]), (false, [.b])] → World → Prop} (h : fix_MulDiv.wp a b c w R) : clS Tryz.prog F.fix_MulDiv [.int .i64 a, .int .i64 b, .int .i64 c] w true [(false, [(.i .i64)]), (false, [.b])] R :=
  ok_of Tryz_follows Tryz.func91 (fun R => fix_MulDiv.wp a b c w R) (fix_MulDiv.eq a b c w) rfl h
/-! ### fix_Add -/
set_option maxRecDepth 100000 in
def fix_Add.wp (a : Int) (b : Int) (w : World) (R : TR [(false, [(.i .i64)]), (false, [.b])] → World → Prop) : Prop :=
brB (!((decide ((IntKind.wrap .i64 (a + b)) > a)) == (decide (b > 0)))) (
brB (b != 0) (
R ((0, ()), (false, ()), ()) w) (
R ((IntKind.wrap .i64 (a + b), ()), (true, ()), ()) w)) (
R ((IntKind.wrap .i64 (a + b), ()), (true, ()), ()) w)
set_option maxRecDepth 100000 in
theorem fix_Add.eq (a : Int) (b : Int) (w : World) (R : Value → World → Prop) : wpF Tryz.prog Tryz.f92 .n [.int .i64 a, .int .i64 b] w R = fix_Add.wp a b w (fun r w => R (encR true [(false, [(.i .i64)]), (false, [.b])] r) w) := by kernel_rfl
theorem fix_Add.ok {a : Int} {b : Int} {w : World} {R : TR [(false, [(.i .i64)]), (false, [.b])] → World → Prop} (h : fix_Add.wp a b w R) : clS Tryz.prog F.fix_Add [.int .i64 a, .int .i64 b] w true [(false, [(.i .i64)]), (false, [.b])] R :=
  ok_of Tryz_follows Tryz.func92 (fun R => fix_Add.wp a b w R) (fix_Add.eq a b w) rfl h
/-! ### ref01_MulDiv -/
set_option maxRecDepth 100000 in
def ref01_MulDiv.wp (a : Int) (b : Int) (c : Int) (w : World) (R : TR [(false, [(.i .i64)]), (false, [.b])] → World → Prop) : Prop :=
brB (decide (c < 1)) (
R ((0, ()), (false, ()), ()) w) (
clS Tryz.prog F.ref01_Size [.int .i64 a] w false [(false, [(.i .u64)])] fun r1 w2 =>
clS Tryz.prog F.ref01_Size [.int .i64 b] w2 false [(false, [(.i .u64)])] fun r3 w4 =>
clS Tryz.prog F.ref01_Times [.int .u64 r1.1.1, .int .u64 r3.1.1] w4 false [(true, [(.i .u64), (.i .u64), (.i .u64), (.i .u64)])] fun r5 w6 =>
clS Tryz.prog F.ref01_Over [.agg #[.int .u64 r5.1.1, .int .u64 r5.1.2.1, .int .u64 r5.1.2.2.1, .int .u64 r5.1.2.2.2.1], .int .u64 (IntKind.wrap .u64 c)] w6 true [(false, [(.i .u64)]), (false, [(.i .u64)]), (false, [.b])] fun r7 w8 =>
brB (!r7.2.2.1.1) (
R ((0, ()), (false, ()), ()) w8) (
CutT (fun (J9 : ((Bool) × Unit) → World → Prop) =>
brB ((decide (a < 0)) == (decide (b < 0))) (
J9 (true, ()) w8) (
brB (r7.1.1 == 0) (
J9 ((r7.2.1.1 == 0), ()) w8) (
J9 (false, ()) w8))) (fun (z10 : (Bool) × Unit) w11 => ∀ _ : Nat → Value,
brB z10.1 (
brB (decide (r7.1.1 > 9223372036854775807)) (
R ((0, ()), (false, ()), ()) w11) (
R ((IntKind.wrap .i64 r7.1.1, ()), (true, ()), ()) w11)) (
CutT (fun (J12 : ((Int) × Unit) → World → Prop) =>
brB (decide (r7.2.1.1 > 0)) (
brB (decide (r7.1.1 ≥ 9223372036854775808)) (
R ((0, ()), (false, ()), ()) w11) (
J12 (IntKind.wrap .u64 (r7.1.1 + 1), ()) w11)) (
J12 (r7.1.1, ()) w11)) (fun (z13 : (Int) × Unit) w14 => ∀ _ : Nat → Value,
brB (decide (z13.1 > 9223372036854775808)) (
R ((0, ()), (false, ()), ()) w14) (
brB (z13.1 == 0) (
R ((0, ()), (true, ()), ()) w14) (
R ((IntKind.wrap .i64 ((IntKind.wrap .i64 (0 - (IntKind.wrap .i64 (IntKind.wrap .u64 (z13.1 - 1))))) - 1), ()), (true, ()), ()) w14)))))))
set_option maxRecDepth 100000 in
theorem ref01_MulDiv.eq (a : Int) (b : Int) (c : Int) (w : World) (R : Value → World → Prop) : wpF Tryz.prog Tryz.f93 (.s .n (.s .n (.s .n (.s .n (.s (.ct [(39, .b)] .n .n) (.ct [(8, (.i .u64))] .n .n)))))) [.int .i64 a, .int .i64 b, .int .i64 c] w R = ref01_MulDiv.wp a b c w (fun r w => R (encR true [(false, [(.i .i64)]), (false, [.b])] r) w) := by kernel_rfl
theorem ref01_MulDiv.ok {a : Int} {b : Int} {c : Int} {w : World} {R : TR [(false, [(.i .i64)]), (false, [.b])] → World → Prop} (h : ref01_MulDiv.wp a b c w R) : clS Tryz.prog F.ref01_MulDiv [.int .i64 a, .int .i64 b, .int .i64 c] w true [(false, [(.i .i64)]), (false, [.b])] R :=
  ok_of Tryz_follows Tryz.func93 (fun R => ref01_MulDiv.wp a b c w R) (ref01_MulDiv.eq a b c w) rfl h
/-! ### slope_sums_add -/
set_option maxRecDepth 100000 in
def slope_sums_add.wp (s : Option Addr) (x : Int) (y : Int) (w : World) (R : TR [] → World → Prop) : Prop :=
ncK s fun a1 =>
ld1 (.i .i64) a1 w fun x2 =>
ncK s fun a3 =>
stN [.int .i64 (IntKind.wrap .i64 (x2 + 1))] a3 0 w fun w4 =>
ncK s fun a5 =>
ld1 (.i .i64) (a5.add 1) w4 fun x6 =>
ncK s fun a7 =>
stN [.int .i64 (IntKind.wrap .i64 (x6 + x))] (a7.add 1) 0 w4 fun w8 =>
ncK s fun a9 =>
ld1 (.i .i64) (a9.add 2) w8 fun x10 =>
ncK s fun a11 =>
stN [.int .i64 (IntKind.wrap .i64 (x10 + y))] (a11.add 2) 0 w8 fun w12 =>
ncK s fun a13 =>
ld1 (.i .i64) (a13.add 3) w12 fun x14 =>
ncK s fun a15 =>
stN [.int .i64 (IntKind.wrap .i64 (x14 + (IntKind.wrap .i64 (x * y))))] (a15.add 3) 0 w12 fun w16 =>
ncK s fun a17 =>
ld1 (.i .i64) (a17.add 4) w16 fun x18 =>
ncK s fun a19 =>
stN [.int .i64 (IntKind.wrap .i64 (x18 + (IntKind.wrap .i64 (x * x))))] (a19.add 4) 0 w16 fun w20 =>
R (()) w20
set_option maxRecDepth 100000 in
theorem slope_sums_add.eq (s : Option Addr) (x : Int) (y : Int) (w : World) (R : Value → World → Prop) : wpF Tryz.prog Tryz.f94 .n [.pointer s, .int .i64 x, .int .i64 y] w R = slope_sums_add.wp s x y w (fun r w => R (encR true [] r) w) := by kernel_rfl
theorem slope_sums_add.ok {s : Option Addr} {x : Int} {y : Int} {w : World} {R : TR [] → World → Prop} (h : slope_sums_add.wp s x y w R) : clS Tryz.prog F.slope_sums_add [.pointer s, .int .i64 x, .int .i64 y] w true [] R :=
  ok_of Tryz_follows Tryz.func94 (fun R => slope_sums_add.wp s x y w R) (slope_sums_add.eq s x y w) rfl h
/-! ### bits_Mul64 -/
set_option maxRecDepth 100000 in
def bits_Mul64.wp (x : Int) (y : Int) (w : World) (R : TR [(false, [(.i .u64)]), (false, [(.i .u64)])] → World → Prop) : Prop :=
shK 32 (
shK 32 (
shK 32 (
shK 32 (
shK 32 (
R ((IntKind.wrap .u64 ((IntKind.wrap .u64 ((IntKind.wrap .u64 ((shrX .u64 x 32) * (shrX .u64 y 32))) + (shrX .u64 (IntKind.wrap .u64 ((IntKind.wrap .u64 ((shrX .u64 x 32) * (bitsX .and .u64 y 4294967295))) + (shrX .u64 (IntKind.wrap .u64 ((bitsX .and .u64 x 4294967295) * (bitsX .and .u64 y 4294967295))) 32))) 32))) + (shrX .u64 (IntKind.wrap .u64 ((bitsX .and .u64 (IntKind.wrap .u64 ((IntKind.wrap .u64 ((shrX .u64 x 32) * (bitsX .and .u64 y 4294967295))) + (shrX .u64 (IntKind.wrap .u64 ((bitsX .and .u64 x 4294967295) * (bitsX .and .u64 y 4294967295))) 32))) 4294967295) + (IntKind.wrap .u64 ((bitsX .and .u64 x 4294967295) * (shrX .u64 y 32))))) 32)), ()), (IntKind.wrap .u64 (x * y), ()), ()) w)))))
set_option maxRecDepth 100000 in
theorem bits_Mul64.eq (x : Int) (y : Int) (w : World) (R : Value → World → Prop) : wpF Tryz.prog Tryz.f95 .n [.int .u64 x, .int .u64 y] w R = bits_Mul64.wp x y w (fun r w => R (encR true [(false, [(.i .u64)]), (false, [(.i .u64)])] r) w) := by kernel_rfl
theorem bits_Mul64.ok {x : Int} {y : Int} {w : World} {R : TR [(false, [(.i .u64)]), (false, [(.i .u64)])] → World → Prop} (h : bits_Mul64.wp x y w R) : clS Tryz.prog F.bits_Mul64 [.int .u64 x, .int .u64 y] w true [(false, [(.i .u64)]), (false, [(.i .u64)])] R :=
  ok_of Tryz_follows Tryz.func95 (fun R => bits_Mul64.wp x y w R) (bits_Mul64.eq x y w) rfl h
end Go.Proofs.YtahojpppjpfjmaaGreat
