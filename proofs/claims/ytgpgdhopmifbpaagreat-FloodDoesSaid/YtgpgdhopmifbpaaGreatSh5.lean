import Derived.Test.YtgpgdhopmifbpaaGreatNm
namespace Go.Proofs.YtgpgdhopmifbpaaGreat
open Go.Eng
set_option linter.unusedVariables false
/-! ### frame_Good_of_frame_Sync -/
set_option maxRecDepth 100000 in
def frame_Good_of_frame_Sync.wp (f0 : Int) (f1 : Int) (f2 : Int) (f3 : Int) (f4 : Int) (f5 : Int) (w : World) (R : TR [(false, [.b])] → World → Prop) : Prop :=
clS Tryz.prog F.frame_kind [.iface T.frame_Sync (.agg #[.int .i64 f0, .int .i64 f1, .int .u16 f2, .int .u16 f3, .int .i64 f4, .int .i64 f5])] w false [(false, [(.i .u8)])] fun r1 w2 =>
brB (r1.1.1 == 0) (
R ((false, ()), ()) w2) (
clS Tryz.prog F.frame_Sync_fields [.agg #[.int .i64 f0, .int .i64 f1, .int .u16 f2, .int .u16 f3, .int .i64 f4, .int .i64 f5]] w2 false [(false, [.sl])] fun r3 w4 =>
LoopT (fun (self5 : ((Int) × Unit) → World → Prop) (z6 : (Int) × Unit) w7 => ∀ _ : Nat → Value,
brB (decide (z6.1 < (r3.1.1.2.1 : Int))) (
ixK r3.1.1.1 r3.1.1.2.1 z6.1 fun a8 =>
ldN [(.i .i64), (.i .i64), (.i .i64)] (a8.add (z6.1.toNat * 3)) 0 w7 fun x9 =>
alK [.int .i64 0, .int .i64 0, .int .i64 0] T.frame_field w7 fun p10 w11 =>
stN [.int .i64 x9.1, .int .i64 x9.2.1, .int .i64 x9.2.2.1] p10 0 w11 fun w12 =>
ld1 (.i .i64) (p10.add 1) w12 fun x13 =>
brB (decide (x13 < 0)) (
R ((false, ()), ()) w12) (
ld1 (.i .i64) (p10.add 1) w12 fun x14 =>
ld1 (.i .i64) (p10.add 2) w12 fun x15 =>
brB (decide (x14 > x15)) (
R ((false, ()), ()) w12) (
self5 (IntKind.wrap .i64 (z6.1 + 1), ()) w12))) (
R ((true, ()), ()) w7)) (0, ()) w4)
set_option maxRecDepth 100000 in
theorem frame_Good_of_frame_Sync.eq (f0 : Int) (f1 : Int) (f2 : Int) (f3 : Int) (f4 : Int) (f5 : Int) (w : World) (R : Value → World → Prop) : wpF Tryz.prog Tryz.f66 (.s .n (.s .n (.s (.s .n (.lp [(11, (.i .i64))] .n)) .n))) [.iface T.frame_Sync (.agg #[.int .i64 f0, .int .i64 f1, .int .u16 f2, .int .u16 f3, .int .i64 f4, .int .i64 f5])] w R = frame_Good_of_frame_Sync.wp f0 f1 f2 f3 f4 f5 w (fun r w => R (encR false [(false, [.b])] r) w) := by kernel_rfl
theorem frame_Good_of_frame_Sync.ok {f0 : Int} {f1 : Int} {f2 : Int} {f3 : Int} {f4 : Int} {f5 : Int} {w : World} {R : TR [(false, [.b])] → World → Prop} (h : frame_Good_of_frame_Sync.wp f0 f1 f2 f3 f4 f5 w R) : clS Tryz.prog F.frame_Good [.iface T.frame_Sync (.agg #[.int .i64 f0, .int .i64 f1, .int .u16 f2, .int .u16 f3, .int .i64 f4, .int .i64 f5])] w false [(false, [.b])] R :=
  ok_of Tryz_follows Tryz.func66 (fun R => frame_Good_of_frame_Sync.wp f0 f1 f2 f3 f4 f5 w R) (frame_Good_of_frame_Sync.eq f0 f1 f2 f3 f4 f5 w) rfl h
/-! ### table_Table_All -/
set_option maxRecDepth 100000 in
def table_Table_All.wp (t : Option Addr) (w : World) (R : TR [(false, [.any])] → World → Prop) : Prop :=
alK [.pointer t] T.p_table_Table w fun p1 w2 =>
R ((.func (.func F.table_Table_All_1) #[] #[.pointer (some p1)], ()), ()) w2
set_option maxRecDepth 100000 in
theorem table_Table_All.eq (t : Option Addr) (w : World) (R : Value → World → Prop) : wpF Tryz.prog Tryz.f67 .n [.pointer t] w R = table_Table_All.wp t w (fun r w => R (encR false [(false, [.any])] r) w) := by kernel_rfl
theorem table_Table_All.ok {t : Option Addr} {w : World} {R : TR [(false, [.any])] → World → Prop} (h : table_Table_All.wp t w R) : clS Tryz.prog F.table_Table_All [.pointer t] w false [(false, [.any])] R :=
  ok_of Tryz_follows Tryz.func67 (fun R => table_Table_All.wp t w R) (table_Table_All.eq t w) rfl h
/-! ### fix_Floor -/
set_option maxRecDepth 100000 in
def fix_Floor.wp (a : Int) (b : Int) (w : World) (R : TR [(false, [(.i .i64)]), (false, [(.i .i64)]), (false, [.b])] → World → Prop) : Prop :=
brB (decide (b < 1)) (
R ((0, ()), (0, ()), (false, ()), ()) w) (
drK w fun w1 =>
nzK b (
nzK b (
brB (decide ((Int.tmod a b) < 0)) (
R ((IntKind.wrap .i64 ((IntKind.wrap .i64 (Int.tdiv a b)) - 1), ()), (IntKind.wrap .i64 ((Int.tmod a b) + b), ()), (true, ()), ()) w1) (
R ((IntKind.wrap .i64 (Int.tdiv a b), ()), (Int.tmod a b, ()), (true, ()), ()) w1))))
set_option maxRecDepth 100000 in
theorem fix_Floor.eq (a : Int) (b : Int) (w : World) (R : Value → World → Prop) : wpF Tryz.prog Tryz.f68 (.s .n (.s .n (.s (.pl (.tk 0 (.tk 1 (.tk 2 (.tk 3 (.tk 4 (.tk 5 (.tk 6 (.tk 7 .z))))))))) .n))) [.int .i64 a, .int .i64 b] w R = fix_Floor.wp a b w (fun r w => R (encR true [(false, [(.i .i64)]), (false, [(.i .i64)]), (false, [.b])] r) w) := by kernel_rfl
theorem fix_Floor.ok {a : Int} {b : Int} {w : World} {R : TR [(false, [(.i .i64)]), (false, [(.i .i64)]), (false, [.b])] → World → Prop} (h : fix_Floor.wp a b w R) : clS Tryz.prog F.fix_Floor [.int .i64 a, .int .i64 b] w true [(false, [(.i .i64)]), (false, [(.i .i64)]), (false, [.b])] R :=
  ok_of Tryz_follows Tryz.func68 (fun R => fix_Floor.wp a b w R) (fix_Floor.eq a b w) rfl h
/-! ### slope_Of -/
set_option maxRecDepth 100000 in
def slope_Of.wp (drift : Int) (list : Option Addr × Nat × Nat) (w : World) (R : TR [(true, [(.i .i64), (.i .i64)])] → World → Prop) : Prop :=
alK [.int .i64 0, .int .i64 0] T.slope_Slope w fun p1 w2 =>
alK [.int .i64 0, .int .i64 0] T.slope_Slope w2 fun p3 w4 =>
stN [.int .i64 0, .int .i64 1] p3 0 w4 fun w5 =>
brB (decide ((list.2.1 : Int) < 2)) (
ldN [(.i .i64), (.i .i64)] p3 0 w5 fun x6 =>
stN [.int .i64 x6.1, .int .i64 x6.2.1] p1 0 w5 fun w7 =>
ldN [(.i .i64), (.i .i64)] p1 0 w7 fun x8 =>
R ((x8.1, x8.2.1, ()), ()) w7) (
brB (decide ((list.2.1 : Int) > 8)) (
ldN [(.i .i64), (.i .i64)] p3 0 w5 fun x9 =>
stN [.int .i64 x9.1, .int .i64 x9.2.1] p1 0 w5 fun w10 =>
ldN [(.i .i64), (.i .i64)] p1 0 w10 fun x11 =>
R ((x11.1, x11.2.1, ()), ()) w10) (
LoopT (fun (self12 : ((Int) × Unit) → World → Prop) (z13 : (Int) × Unit) w14 => ∀ _ : Nat → Value,
brB (decide (z13.1 < (list.2.1 : Int))) (
ixK list.1 list.2.1 z13.1 fun a15 =>
ldN [(.i .i64), (.i .i64), (.i .i64)] (a15.add (z13.1.toNat * 3)) 0 w14 fun x16 =>
alK [.int .i64 0, .int .i64 0, .int .i64 0] T.table_Entry w14 fun p17 w18 =>
stN [.int .i64 x16.1, .int .i64 x16.2.1, .int .i64 x16.2.2.1] p17 0 w18 fun w19 =>
ldN [(.i .i64), (.i .i64), (.i .i64)] p17 0 w19 fun x20 =>
clS Tryz.prog F.table_Entry_Good [.agg #[.int .i64 x20.1, .int .i64 x20.2.1, .int .i64 x20.2.2.1]] w19 false [(false, [.b])] fun r21 w22 =>
brB (!r21.1.1) (
ldN [(.i .i64), (.i .i64)] p3 0 w22 fun x23 =>
stN [.int .i64 x23.1, .int .i64 x23.2.1] p1 0 w22 fun w24 =>
ldN [(.i .i64), (.i .i64)] p1 0 w24 fun x25 =>
R ((x25.1, x25.2.1, ()), ()) w24) (
self12 (IntKind.wrap .i64 (z13.1 + 1), ()) w22)) (
clS Tryz.prog F.slope_gather [.slice list.1 list.2.1 list.2.2] w14 true [(true, [(.i .i64), (.i .i64), (.i .i64), (.i .i64), (.i .i64)]), (false, [.b])] fun r26 w27 =>
alK [.int .i64 0, .int .i64 0, .int .i64 0, .int .i64 0, .int .i64 0] T.slope_sums w27 fun p28 w29 =>
stN [.int .i64 r26.1.1, .int .i64 r26.1.2.1, .int .i64 r26.1.2.2.1, .int .i64 r26.1.2.2.2.1, .int .i64 r26.1.2.2.2.2.1] p28 0 w29 fun w30 =>
ld1 (.i .i64) p28 w30 fun x31 =>
ld1 (.i .i64) (p28.add 4) w30 fun x32 =>
ld1 (.i .i64) (p28.add 1) w30 fun x33 =>
ld1 (.i .i64) (p28.add 1) w30 fun x34 =>
brB (!r26.2.1.1) (
ldN [(.i .i64), (.i .i64)] p3 0 w30 fun x35 =>
stN [.int .i64 x35.1, .int .i64 x35.2.1] p1 0 w30 fun w36 =>
ldN [(.i .i64), (.i .i64)] p1 0 w36 fun x37 =>
R ((x37.1, x37.2.1, ()), ()) w36) (
brB (decide ((IntKind.wrap .i64 ((IntKind.wrap .i64 (x31 * x32)) - (IntKind.wrap .i64 (x33 * x34)))) < 1)) (
ldN [(.i .i64), (.i .i64)] p3 0 w30 fun x38 =>
stN [.int .i64 x38.1, .int .i64 x38.2.1] p1 0 w30 fun w39 =>
ldN [(.i .i64), (.i .i64)] p1 0 w39 fun x40 =>
R ((x40.1, x40.2.1, ()), ()) w39) (
ld1 (.i .i64) p28 w30 fun x41 =>
ld1 (.i .i64) (p28.add 3) w30 fun x42 =>
ld1 (.i .i64) (p28.add 1) w30 fun x43 =>
ld1 (.i .i64) (p28.add 2) w30 fun x44 =>
clS Tryz.prog F.slope_Most [.int .i64 drift] w30 false [(true, [(.i .i64), (.i .i64)])] fun r45 w46 =>
alK [.int .i64 0, .int .i64 0] T.slope_Slope w46 fun p47 w48 =>
stN [.int .i64 r45.1.1, .int .i64 r45.1.2.1] p47 0 w48 fun w49 =>
CutT (fun (J50 : ((Bool) × Unit) → World → Prop) =>
brB (decide ((IntKind.wrap .i64 ((IntKind.wrap .i64 (x41 * x42)) - (IntKind.wrap .i64 (x43 * x44)))) > 0)) (
ldN [(.i .i64), (.i .i64)] p47 0 w49 fun x53 =>
clS Tryz.prog F.slope_over [.agg #[.int .i64 (IntKind.wrap .i64 ((IntKind.wrap .i64 (x41 * x42)) - (IntKind.wrap .i64 (x43 * x44)))), .int .i64 (IntKind.wrap .i64 ((IntKind.wrap .i64 (x31 * x32)) - (IntKind.wrap .i64 (x33 * x34))))], .agg #[.int .i64 x53.1, .int .i64 x53.2.1]] w49 false [(false, [.b])] fun r54 w55 =>
J50 (r54.1.1, ()) w55) (
J50 (false, ()) w49)) (fun (z51 : (Bool) × Unit) w52 => ∀ _ : Nat → Value,
brB z51.1 (
ldN [(.i .i64), (.i .i64)] p47 0 w52 fun x56 =>
stN [.int .i64 x56.1, .int .i64 x56.2.1] p1 0 w52 fun w57 =>
ldN [(.i .i64), (.i .i64)] p1 0 w57 fun x58 =>
R ((x58.1, x58.2.1, ()), ()) w57) (
CutT (fun (J59 : ((Bool) × Unit) → World → Prop) =>
brB (decide ((IntKind.wrap .i64 ((IntKind.wrap .i64 (x41 * x42)) - (IntKind.wrap .i64 (x43 * x44)))) < 0)) (
ldN [(.i .i64), (.i .i64)] p47 0 w52 fun x62 =>
clS Tryz.prog F.slope_over [.agg #[.int .i64 (IntKind.wrap .i64 (0 - (IntKind.wrap .i64 ((IntKind.wrap .i64 (x41 * x42)) - (IntKind.wrap .i64 (x43 * x44)))))), .int .i64 (IntKind.wrap .i64 ((IntKind.wrap .i64 (x31 * x32)) - (IntKind.wrap .i64 (x33 * x34))))], .agg #[.int .i64 x62.1, .int .i64 x62.2.1]] w52 false [(false, [.b])] fun r63 w64 =>
J59 (r63.1.1, ()) w64) (
J59 (false, ()) w52)) (fun (z60 : (Bool) × Unit) w61 => ∀ _ : Nat → Value,
brB z60.1 (
ld1 (.i .i64) p47 w61 fun x65 =>
ld1 (.i .i64) (p47.add 1) w61 fun x66 =>
stN [.int .i64 (IntKind.wrap .i64 (0 - x65)), .int .i64 x66] p1 0 w61 fun w67 =>
ldN [(.i .i64), (.i .i64)] p1 0 w67 fun x68 =>
R ((x68.1, x68.2.1, ()), ()) w67) (
stN [.int .i64 (IntKind.wrap .i64 ((IntKind.wrap .i64 (x41 * x42)) - (IntKind.wrap .i64 (x43 * x44)))), .int .i64 (IntKind.wrap .i64 ((IntKind.wrap .i64 (x31 * x32)) - (IntKind.wrap .i64 (x33 * x34))))] p1 0 w61 fun w69 =>
ldN [(.i .i64), (.i .i64)] p1 0 w69 fun x70 =>
R ((x70.1, x70.2.1, ()), ()) w69)))))))) (0, ()) w5))
set_option maxRecDepth 100000 in
theorem slope_Of.eq (drift : Int) (list : Option Addr × Nat × Nat) (w : World) (R : Value → World → Prop) : wpF Tryz.prog Tryz.f69 (.s .n (.s .n (.s .n (.s (.s .n (.lp [(25, (.i .i64))] .n)) (.s .n (.s .n (.s .n (.s .n (.s .n (.s (.ct [(70, .b)] .n (.s .n (.ct [(81, .b)] .n .n))) .n)))))))))) [.int .i64 drift, .slice list.1 list.2.1 list.2.2] w R = slope_Of.wp drift list w (fun r w => R (encR false [(true, [(.i .i64), (.i .i64)])] r) w) := by kernel_rfl
theorem slope_Of.ok {drift : Int} {list : Option Addr × Nat × Nat} {w : World} {R : TR [(true, [(.i .i64), (.i .i64)])] → World → Prop} (h : slope_Of.wp drift list w R) : clS Tryz.prog F.slope_Of [.int .i64 drift, .slice list.1 list.2.1 list.2.2] w false [(true, [(.i .i64), (.i .i64)])] R :=
  ok_of Tryz_follows Tryz.func69 (fun R => slope_Of.wp drift list w R) (slope_Of.eq drift list w) rfl h
/-! ### table_Table_List -/
set_option maxRecDepth 100000 in
def table_Table_List.wp (t : Option Addr) (w : World) (R : TR [(false, [.sl])] → World → Prop) : Prop :=
clS Tryz.prog F.table_Table_All [.pointer t] w false [(false, [.any])] fun r1 w2 =>
clS Tryz.prog F.slices_Collect_table_Entry [r1.1.1] w2 false [(false, [.sl])] fun r3 w4 =>
R (((r3.1.1.1, r3.1.1.2.1, r3.1.1.2.2), ()), ()) w4
set_option maxRecDepth 100000 in
theorem table_Table_List.eq (t : Option Addr) (w : World) (R : Value → World → Prop) : wpF Tryz.prog Tryz.f70 .n [.pointer t] w R = table_Table_List.wp t w (fun r w => R (encR false [(false, [.sl])] r) w) := by kernel_rfl
theorem table_Table_List.ok {t : Option Addr} {w : World} {R : TR [(false, [.sl])] → World → Prop} (h : table_Table_List.wp t w R) : clS Tryz.prog F.table_Table_List [.pointer t] w false [(false, [.sl])] R :=
  ok_of Tryz_follows Tryz.func70 (fun R => table_Table_List.wp t w R) (table_Table_List.eq t w) rfl h
/-! ### table_Table_Hops -/
set_option maxRecDepth 100000 in
def table_Table_Hops.wp (t : Option Addr) (w : World) (R : TR [(false, [(.i .i64)])] → World → Prop) : Prop :=
alK [.int .i64 0] T.int w fun p1 w2 =>
stN [.int .i64 0] p1 0 w2 fun w3 =>
clS Tryz.prog F.table_Table_All [.pointer t] w3 false [(false, [.any])] fun r4 w5 =>
RfT Tryz.prog r4.1.1 [(true, [(.i .i64), (.i .i64), (.i .i64)])] w5 (fun x6 k7 w8 =>
alK [.int .i64 0, .int .i64 0, .int .i64 0] T.table_Entry w8 fun p14 w15 =>
stN [.int .i64 x6.1.1, .int .i64 x6.1.2.1, .int .i64 x6.1.2.2.1] p14 0 w15 fun w16 =>
k7 w16 fun go9 lv10 w11 =>
ld1 (.i .i64) p1 w11 fun x17 =>
ld1 (.i .i64) (p14.add 2) w11 fun x18 =>
stN [.int .i64 (if x18 > x17 then x18 else x17)] p1 0 w11 fun w19 =>
go9 w19) (fun D12 w13 =>
ld1 (.i .i64) p1 w13 fun x20 =>
tkK D12 w13 fun w21 =>
R ((x20, ()), ()) w21) []
set_option maxRecDepth 100000 in
theorem table_Table_Hops.eq (t : Option Addr) (w : World) (R : Value → World → Prop) : wpF Tryz.prog Tryz.f71 (.s .n (.s .n (.s (.s .n (.rf [(true, [(.i .i64), (.i .i64), (.i .i64)])] .n .n)) .n))) [.pointer t] w R = table_Table_Hops.wp t w (fun r w => R (encR false [(false, [(.i .i64)])] r) w) := by kernel_rfl
theorem table_Table_Hops.ok {t : Option Addr} {w : World} {R : TR [(false, [(.i .i64)])] → World → Prop} (h : table_Table_Hops.wp t w R) : clS Tryz.prog F.table_Table_Hops [.pointer t] w false [(false, [(.i .i64)])] R :=
  ok_of Tryz_follows Tryz.func71 (fun R => table_Table_Hops.wp t w R) (table_Table_Hops.eq t w) rfl h
/-! ### slope_Slope_Gain -/
set_option maxRecDepth 100000 in
def slope_Slope_Gain.wp (s0 : Int) (s1 : Int) (ticks : Int) (w : World) (R : TR [(false, [(.i .i64)])] → World → Prop) : Prop :=
alK [.int .i64 s0, .int .i64 s1] T.slope_Slope w fun p1 w2 =>
ld1 (.i .i64) p1 w2 fun x3 =>
ld1 (.i .i64) (p1.add 1) w2 fun x4 =>
clS Tryz.prog F.fix_MulDiv [.int .i64 x3, .int .i64 ticks, .int .i64 x4] w2 true [(false, [(.i .i64)]), (false, [.b])] fun r5 w6 =>
R ((r5.1.1, ()), ()) w6
set_option maxRecDepth 100000 in
theorem slope_Slope_Gain.eq (s0 : Int) (s1 : Int) (ticks : Int) (w : World) (R : Value → World → Prop) : wpF Tryz.prog Tryz.f72 .n [.agg #[.int .i64 s0, .int .i64 s1], .int .i64 ticks] w R = slope_Slope_Gain.wp s0 s1 ticks w (fun r w => R (encR false [(false, [(.i .i64)])] r) w) := by kernel_rfl
theorem slope_Slope_Gain.ok {s0 : Int} {s1 : Int} {ticks : Int} {w : World} {R : TR [(false, [(.i .i64)])] → World → Prop} (h : slope_Slope_Gain.wp s0 s1 ticks w R) : clS Tryz.prog F.slope_Slope_Gain [.agg #[.int .i64 s0, .int .i64 s1], .int .i64 ticks] w false [(false, [(.i .i64)])] R :=
  ok_of Tryz_follows Tryz.func72 (fun R => slope_Slope_Gain.wp s0 s1 ticks w R) (slope_Slope_Gain.eq s0 s1 ticks w) rfl h
/-! ### fix_Sat -/
set_option maxRecDepth 100000 in
def fix_Sat.wp (a : Int) (b : Int) (w : World) (R : TR [(false, [(.i .i64)])] → World → Prop) : Prop :=
clS Tryz.prog F.fix_Add [.int .i64 a, .int .i64 b] w true [(false, [(.i .i64)]), (false, [.b])] fun r1 w2 =>
brB r1.2.1.1 (
R ((r1.1.1, ()), ()) w2) (
brB (decide (b > 0)) (
R ((9223372036854775807, ()), ()) w2) (
R (((Int.negSucc 9223372036854775807), ()), ()) w2))
set_option maxRecDepth 100000 in
theorem fix_Sat.eq (a : Int) (b : Int) (w : World) (R : Value → World → Prop) : wpF Tryz.prog Tryz.f73 .n [.int .i64 a, .int .i64 b] w R = fix_Sat.wp a b w (fun r w => R (encR false [(false, [(.i .i64)])] r) w) := by kernel_rfl
theorem fix_Sat.ok {a : Int} {b : Int} {w : World} {R : TR [(false, [(.i .i64)])] → World → Prop} (h : fix_Sat.wp a b w R) : clS Tryz.prog F.fix_Sat [.int .i64 a, .int .i64 b] w false [(false, [(.i .i64)])] R :=
  ok_of Tryz_follows Tryz.func73 (fun R => fix_Sat.wp a b w R) (fix_Sat.eq a b w) rfl h
/-! ### fix_Clamp -/
set_option maxRecDepth 100000 in
def fix_Clamp.wp (x : Int) (low : Int) (high : Int) (w : World) (R : TR [(false, [(.i .i64)])] → World → Prop) : Prop :=
R (((if low > (if high < x then high else x) then low else (if high < x then high else x)), ()), ()) w
set_option maxRecDepth 100000 in
theorem fix_Clamp.eq (x : Int) (low : Int) (high : Int) (w : World) (R : Value → World → Prop) : wpF Tryz.prog Tryz.f74 .n [.int .i64 x, .int .i64 low, .int .i64 high] w R = fix_Clamp.wp x low high w (fun r w => R (encR false [(false, [(.i .i64)])] r) w) := by kernel_rfl
theorem fix_Clamp.ok {x : Int} {low : Int} {high : Int} {w : World} {R : TR [(false, [(.i .i64)])] → World → Prop} (h : fix_Clamp.wp x low high w R) : clS Tryz.prog F.fix_Clamp [.int .i64 x, .int .i64 low, .int .i64 high] w false [(false, [(.i .i64)])] R :=
  ok_of Tryz_follows Tryz.func74 (fun R => fix_Clamp.wp x low high w R) (fix_Clamp.eq x low high w) rfl h
/-! ### elect_Elect_may -/
set_option maxRecDepth 100000 in
def elect_Elect_may.wp (e : Option Addr) (root : Int) (w : World) (R : TR [(false, [.b])] → World → Prop) : Prop :=
CutT (fun (J1 : ((Bool) × Unit) → World → Prop) =>
brB (decide (root < 0)) (
J1 (true, ()) w) (
ncK e fun a4 =>
ld1 (.i .i64) a4 w fun x5 =>
J1 (decide (root ≥ x5), ()) w)) (fun (z2 : (Bool) × Unit) w3 => ∀ _ : Nat → Value,
brB z2.1 (
R ((false, ()), ()) w3) (
clS Tryz.prog F.elect_Elect_Mine [.pointer e] w3 false [(false, [.b])] fun r6 w7 =>
brB r6.1.1 (
ncK e fun a8 =>
ld1 (.i .i64) (a8.add 7) w7 fun x9 =>
R (((x9 == 0), ()), ()) w7) (
ncK e fun a10 =>
ld1 (.i .i64) (a10.add 5) w7 fun x11 =>
brB (decide (x11 < 0)) (
R ((true, ()), ()) w7) (
ncK e fun a12 =>
ld1 (.i .i64) (a12.add 5) w7 fun x13 =>
R ((decide (root ≤ x13), ()), ()) w7))))
set_option maxRecDepth 100000 in
theorem elect_Elect_may.eq (e : Option Addr) (root : Int) (w : World) (R : Value → World → Prop) : wpF Tryz.prog Tryz.f75 (.s .n (.s (.ct [(5, .b)] .n .n) .n)) [.pointer e, .int .i64 root] w R = elect_Elect_may.wp e root w (fun r w => R (encR false [(false, [.b])] r) w) := by kernel_rfl
theorem elect_Elect_may.ok {e : Option Addr} {root : Int} {w : World} {R : TR [(false, [.b])] → World → Prop} (h : elect_Elect_may.wp e root w R) : clS Tryz.prog F.elect_Elect_may [.pointer e, .int .i64 root] w false [(false, [.b])] R :=
  ok_of Tryz_follows Tryz.func75 (fun R => elect_Elect_may.wp e root w R) (elect_Elect_may.eq e root w) rfl h
/-! ### elect_Mark_newer -/
set_option maxRecDepth 100000 in
def elect_Mark_newer.wp (m0 : Int) (m1 : Int) (old0 : Int) (old1 : Int) (w : World) (R : TR [(false, [.b])] → World → Prop) : Prop :=
alK [.int .u16 m0, .int .u16 m1] T.elect_Mark w fun p1 w2 =>
alK [.int .u16 old0, .int .u16 old1] T.elect_Mark w2 fun p3 w4 =>
ld1 (.i .u16) p1 w4 fun x5 =>
ld1 (.i .u16) p3 w4 fun x6 =>
clS Tryz.prog F.wrap_Newer [.int .u16 x5, .int .u16 x6] w4 false [(false, [.b])] fun r7 w8 =>
brB r7.1.1 (
R ((true, ()), ()) w8) (
ld1 (.i .u16) p1 w8 fun x9 =>
ld1 (.i .u16) p3 w8 fun x10 =>
brB (x9 == x10) (
ld1 (.i .u16) (p1.add 1) w8 fun x11 =>
ld1 (.i .u16) (p3.add 1) w8 fun x12 =>
clS Tryz.prog F.wrap_Newer [.int .u16 x11, .int .u16 x12] w8 false [(false, [.b])] fun r13 w14 =>
R ((r13.1.1, ()), ()) w14) (
R ((false, ()), ()) w8))
set_option maxRecDepth 100000 in
theorem elect_Mark_newer.eq (m0 : Int) (m1 : Int) (old0 : Int) (old1 : Int) (w : World) (R : Value → World → Prop) : wpF Tryz.prog Tryz.f76 .n [.agg #[.int .u16 m0, .int .u16 m1], .agg #[.int .u16 old0, .int .u16 old1]] w R = elect_Mark_newer.wp m0 m1 old0 old1 w (fun r w => R (encR false [(false, [.b])] r) w) := by kernel_rfl
theorem elect_Mark_newer.ok {m0 : Int} {m1 : Int} {old0 : Int} {old1 : Int} {w : World} {R : TR [(false, [.b])] → World → Prop} (h : elect_Mark_newer.wp m0 m1 old0 old1 w R) : clS Tryz.prog F.elect_Mark_newer [.agg #[.int .u16 m0, .int .u16 m1], .agg #[.int .u16 old0, .int .u16 old1]] w false [(false, [.b])] R :=
  ok_of Tryz_follows Tryz.func76 (fun R => elect_Mark_newer.wp m0 m1 old0 old1 w R) (elect_Mark_newer.eq m0 m1 old0 old1 w) rfl h
/-! ### table_Table_Last -/
set_option maxRecDepth 100000 in
def table_Table_Last.wp (t : Option Addr) (w : World) (R : TR [(true, [(.i .i64), (.i .i64), (.i .i64)]), (false, [.b])] → World → Prop) : Prop :=
alK [.int .i64 0, .int .i64 0, .int .i64 0] T.table_Entry w fun p1 w2 =>
clS Tryz.prog F.table_Table_Len [.pointer t] w2 false [(false, [(.i .i64)])] fun r3 w4 =>
brB (r3.1.1 == 0) (
stN [.int .i64 0, .int .i64 0, .int .i64 0] p1 0 w4 fun w5 =>
ldN [(.i .i64), (.i .i64), (.i .i64)] p1 0 w5 fun x6 =>
R ((x6.1, x6.2.1, x6.2.2.1, ()), (false, ()), ()) w5) (
drK w4 fun w7 =>
ncK t fun a8 =>
ld1 .sl a8 w7 fun x9 =>
ncK t fun a10 =>
ld1 .sl a10 w7 fun x11 =>
ixK x9.1 x9.2.1 (IntKind.wrap .i64 ((x11.2.1 : Int) - 1)) fun a12 =>
ldN [(.i .i64), (.i .i64), (.i .i64)] (a12.add ((IntKind.wrap .i64 ((x11.2.1 : Int) - 1)).toNat * 3)) 0 w7 fun x13 =>
stN [.int .i64 x13.1, .int .i64 x13.2.1, .int .i64 x13.2.2.1] p1 0 w7 fun w14 =>
Hold [] w14 ∧ (
ldN [(.i .i64), (.i .i64), (.i .i64)] p1 0 w14 fun x15 =>
R ((x15.1, x15.2.1, x15.2.2.1, ()), (true, ()), ()) w14))
set_option maxRecDepth 100000 in
theorem table_Table_Last.eq (t : Option Addr) (w : World) (R : Value → World → Prop) : wpF Tryz.prog Tryz.f77 (.s .n (.s .n (.s (.pl (.tk 0 (.tk 1 (.tk 2 (.tk 3 (.tk 4 (.tk 5 (.tk 6 (.tk 7 (.tk 8 (.tk 9 (.tk 10 (.tk 11 (.ef 12 [3, 7, 11] (.tk 13 .z))))))))))))))) .n))) [.pointer t] w R = table_Table_Last.wp t w (fun r w => R (encR true [(true, [(.i .i64), (.i .i64), (.i .i64)]), (false, [.b])] r) w) := by kernel_rfl
theorem table_Table_Last.ok {t : Option Addr} {w : World} {R : TR [(true, [(.i .i64), (.i .i64), (.i .i64)]), (false, [.b])] → World → Prop} (h : table_Table_Last.wp t w R) : clS Tryz.prog F.table_Table_Last [.pointer t] w true [(true, [(.i .i64), (.i .i64), (.i .i64)]), (false, [.b])] R :=
  ok_of Tryz_follows Tryz.func77 (fun R => table_Table_Last.wp t w R) (table_Table_Last.eq t w) rfl h
/-! ### slices_Clone_table_Entry_table_Entry -/
set_option maxRecDepth 100000 in
def slices_Clone_table_Entry_table_Entry.wp (s : Option Addr × Nat × Nat) (w : World) (R : TR [(false, [.sl])] → World → Prop) : Prop :=
brB (Option.isNone s.1) (
R (((none, 0, 0), ()), ()) w) (
alK [] T.table_Entry w fun p1 w2 =>
slOf ((Builtin.append_ #[T.sl_table_Entry, T.sl_table_Entry] T.sl_table_Entry #[.slice (some p1) 0 0, .slice s.1 s.2.1 s.2.2]).run Tryz.prog w2) fun y3 w4 =>
R (((y3.1, y3.2.1, y3.2.2), ()), ()) w4)
set_option maxRecDepth 100000 in
theorem slices_Clone_table_Entry_table_Entry.eq (s : Option Addr × Nat × Nat) (w : World) (R : Value → World → Prop) : wpF Tryz.prog Tryz.f78 .n [.slice s.1 s.2.1 s.2.2] w R = slices_Clone_table_Entry_table_Entry.wp s w (fun r w => R (encR false [(false, [.sl])] r) w) := by kernel_rfl
theorem slices_Clone_table_Entry_table_Entry.ok {s : Option Addr × Nat × Nat} {w : World} {R : TR [(false, [.sl])] → World → Prop} (h : slices_Clone_table_Entry_table_Entry.wp s w R) : clS Tryz.prog F.slices_Clone_table_Entry_table_Entry [.slice s.1 s.2.1 s.2.2] w false [(false, [.sl])] R :=
  ok_of Tryz_follows Tryz.func78 (fun R => slices_Clone_table_Entry_table_Entry.wp s w R) (slices_Clone_table_Entry_table_Entry.eq s w) rfl h
/-! ### ref15_Newer -/
set_option maxRecDepth 100000 in
def ref15_Newer.wp (b1 : Int) (s1 : Int) (b2 : Int) (s2 : Int) (w : World) (R : TR [(false, [.b])] → World → Prop) : Prop :=
brB (b1 == b2) (
clS Tryz.prog F.ref02_Newer [.int .u16 s1, .int .u16 s2] w false [(false, [.b])] fun r1 w2 =>
R ((r1.1.1, ()), ()) w2) (
clS Tryz.prog F.ref02_Newer [.int .u16 b1, .int .u16 b2] w false [(false, [.b])] fun r3 w4 =>
R ((r3.1.1, ()), ()) w4)
set_option maxRecDepth 100000 in
theorem ref15_Newer.eq (b1 : Int) (s1 : Int) (b2 : Int) (s2 : Int) (w : World) (R : Value → World → Prop) : wpF Tryz.prog Tryz.f79 .n [.int .u16 b1, .int .u16 s1, .int .u16 b2, .int .u16 s2] w R = ref15_Newer.wp b1 s1 b2 s2 w (fun r w => R (encR false [(false, [.b])] r) w) := by kernel_rfl
theorem ref15_Newer.ok {b1 : Int} {s1 : Int} {b2 : Int} {s2 : Int} {w : World} {R : TR [(false, [.b])] → World → Prop} (h : ref15_Newer.wp b1 s1 b2 s2 w R) : clS Tryz.prog F.ref15_Newer [.int .u16 b1, .int .u16 s1, .int .u16 b2, .int .u16 s2] w false [(false, [.b])] R :=
  ok_of Tryz_follows Tryz.func79 (fun R => ref15_Newer.wp b1 s1 b2 s2 w R) (ref15_Newer.eq b1 s1 b2 s2 w) rfl h
/-! ### ref05_Fields -/
set_option maxRecDepth 100000 in
def ref05_Fields.wp (p0 : Int) (p1 : Int) (p2 : Int) (p3 : Int) (p4 : Int) (p5 : Int) (p6 : Int) (p7 : Int) (p8 : Int) (p9 : Int) (p10 : Int) (p11 : Int) (p12 : Int) (p13 : Int) (w : World) (R : TR [(false, [.sl])] → World → Prop) : Prop :=
alK [.int .i64 p0, .int .i64 p1, .int .i64 p2, .int .i64 p3, .int .u16 p4, .int .u16 p5, .int .i64 p6, .int .i64 p7, .int .i64 p8, .int .i64 p9, .int .i64 p10, .int .i64 p11, .int .i64 p12, .int .i64 p13] T.ref05_Plain w fun p1 w2 =>
ld1 (.i .i64) (p1.add 1) w2 fun x3 =>
alK [.int .i64 0, .int .i64 0, .int .i64 0] T.ref05_Field w2 fun p4 w5 =>
stN [.int .i64 1, .int .i64 x3, .int .i64 63] p4 0 w5 fun w6 =>
ld1 (.i .i64) p1 w6 fun x7 =>
brB (x7 == 1) (
ldN [(.i .i64), (.i .i64), (.i .i64)] p4 0 w6 fun x8 =>
ld1 (.i .i64) (p1.add 3) w6 fun x9 =>
ld1 (.i .u16) (p1.add 4) w6 fun x10 =>
ld1 (.i .u16) (p1.add 5) w6 fun x11 =>
ld1 (.i .i64) (p1.add 6) w6 fun x12 =>
ld1 (.i .i64) (p1.add 7) w6 fun x13 =>
alK [.int .i64 x8.1, .int .i64 x8.2.1, .int .i64 x8.2.2.1, .int .i64 1, .int .i64 x9, .int .i64 63, .int .i64 2, .int .i64 (IntKind.wrap .i64 x10), .int .i64 65535, .int .i64 2, .int .i64 (IntKind.wrap .i64 x11), .int .i64 65535, .int .i64 1, .int .i64 x12, .int .i64 63, .int .i64 8, .int .i64 x13, .int .i64 1125899906842624] T.ref05_Field w6 fun p14 w15 =>
R (((some p14, 6, 6), ()), ()) w15) (
brB (x7 == 2) (
ldN [(.i .i64), (.i .i64), (.i .i64)] p4 0 w6 fun x16 =>
ld1 (.i .i64) (p1.add 8) w6 fun x17 =>
alK [.int .i64 x16.1, .int .i64 x16.2.1, .int .i64 x16.2.2.1, .int .i64 1, .int .i64 x17, .int .i64 63] T.ref05_Field w6 fun p18 w19 =>
R (((some p18, 2, 2), ()), ()) w19) (
brB (x7 == 3) (
ldN [(.i .i64), (.i .i64), (.i .i64)] p4 0 w6 fun x20 =>
alK [.int .i64 x20.1, .int .i64 x20.2.1, .int .i64 x20.2.2.1] T.ref05_Field w6 fun p21 w22 =>
R (((some p21, 1, 1), ()), ()) w22) (
brB (x7 == 4) (
ldN [(.i .i64), (.i .i64), (.i .i64)] p4 0 w6 fun x23 =>
ld1 (.i .i64) (p1.add 2) w6 fun x24 =>
ld1 (.i .i64) (p1.add 9) w6 fun x25 =>
alK [.int .i64 x23.1, .int .i64 x23.2.1, .int .i64 x23.2.2.1, .int .i64 1, .int .i64 x24, .int .i64 63, .int .i64 8, .int .i64 x25, .int .i64 1125899906842624] T.ref05_Field w6 fun p26 w27 =>
R (((some p26, 3, 3), ()), ()) w27) (
brB (x7 == 5) (
ldN [(.i .i64), (.i .i64), (.i .i64)] p4 0 w6 fun x28 =>
ld1 (.i .i64) (p1.add 2) w6 fun x29 =>
ld1 (.i .i64) (p1.add 9) w6 fun x30 =>
ld1 (.i .i64) (p1.add 10) w6 fun x31 =>
ld1 (.i .i64) (p1.add 11) w6 fun x32 =>
ld1 (.i .i64) (p1.add 3) w6 fun x33 =>
ld1 (.i .u16) (p1.add 4) w6 fun x34 =>
ld1 (.i .i64) (p1.add 6) w6 fun x35 =>
alK [.int .i64 x28.1, .int .i64 x28.2.1, .int .i64 x28.2.2.1, .int .i64 1, .int .i64 x29, .int .i64 63, .int .i64 8, .int .i64 x30, .int .i64 1125899906842624, .int .i64 8, .int .i64 x31, .int .i64 1125899906842624, .int .i64 8, .int .i64 x32, .int .i64 1125899906842624, .int .i64 1, .int .i64 x33, .int .i64 63, .int .i64 2, .int .i64 (IntKind.wrap .i64 x34), .int .i64 65535, .int .i64 1, .int .i64 x35, .int .i64 63] T.ref05_Field w6 fun p36 w37 =>
R (((some p36, 8, 8), ()), ()) w37) (
brB (x7 == 6) (
ldN [(.i .i64), (.i .i64), (.i .i64)] p4 0 w6 fun x38 =>
ld1 (.i .u16) (p1.add 5) w6 fun x39 =>
ld1 (.i .i64) (p1.add 3) w6 fun x40 =>
ld1 (.i .u16) (p1.add 4) w6 fun x41 =>
ld1 (.i .i64) (p1.add 12) w6 fun x42 =>
ld1 (.i .i64) (p1.add 13) w6 fun x43 =>
alK [.int .i64 x38.1, .int .i64 x38.2.1, .int .i64 x38.2.2.1, .int .i64 2, .int .i64 (IntKind.wrap .i64 x39), .int .i64 65535, .int .i64 1, .int .i64 x40, .int .i64 63, .int .i64 2, .int .i64 (IntKind.wrap .i64 x41), .int .i64 65535, .int .i64 8, .int .i64 x42, .int .i64 1125899906842624, .int .i64 8, .int .i64 x43, .int .i64 1125899906842624] T.ref05_Field w6 fun p44 w45 =>
R (((some p44, 6, 6), ()), ()) w45) (
R (((none, 0, 0), ()), ()) w6))))))
set_option maxRecDepth 100000 in
theorem ref05_Fields.eq (p0 : Int) (p1 : Int) (p2 : Int) (p3 : Int) (p4 : Int) (p5 : Int) (p6 : Int) (p7 : Int) (p8 : Int) (p9 : Int) (p10 : Int) (p11 : Int) (p12 : Int) (p13 : Int) (w : World) (R : Value → World → Prop) : wpF Tryz.prog Tryz.f80 .n [.agg #[.int .i64 p0, .int .i64 p1, .int .i64 p2, .int .i64 p3, .int .u16 p4, .int .u16 p5, .int .i64 p6, .int .i64 p7, .int .i64 p8, .int .i64 p9, .int .i64 p10, .int .i64 p11, .int .i64 p12, .int .i64 p13]] w R = ref05_Fields.wp p0 p1 p2 p3 p4 p5 p6 p7 p8 p9 p10 p11 p12 p13 w (fun r w => R (encR false [(false, [.sl])] r) w) := by kernel_rfl
theorem ref05_Fields.ok {p0 : Int} {p1 : Int} {p2 : Int} {p3 : Int} {p4 : Int} {p5 : Int} {p6 : Int} {p7 : Int} {p8 : Int} {p9 : Int} {p10 : Int} {p11 : Int} {p12 : Int} {p13 : Int} {w : World} {R : TR [(false, [.sl])] → World → Prop} (h : ref05_Fields.wp p0 p1 p2 p3 p4 p5 p6 p7 p8 p9 p10 p11 p12 p13 w R) : clS Tryz.prog F.ref05_Fields [.agg #[.int .i64 p0, .int .i64 p1, .int .i64 p2, .int .i64 p3, .int .u16 p4, .int .u16 p5, .int .i64 p6, .int .i64 p7, .int .i64 p8, .int .i64 p9, .int .i64 p10, .int .i64 p11, .int .i64 p12, .int .i64 p13]] w false [(false, [.sl])] R :=
  ok_of Tryz_follows Tryz.func80 (fun R => ref05_Fields.wp p0 p1 p2 p3 p4 p5 p6 p7 p8 p9 p10 p11 p12 p13 w R) (ref05_Fields.eq p0 p1 p2 p3 p4 p5 p6 p7 p8 p9 p10 p11 p12 p13 w) rfl h
/-! ### ref01_Floor -/
set_option maxRecDepth 100000 in
def ref01_Floor.wp (a : Int) (b : Int) (w : World) (R : TR [(false, [(.i .i64)]), (false, [(.i .i64)])] → World → Prop) : Prop :=
nzK b (
CutT (fun (J1 : ((Bool) × Unit) → World → Prop) =>
nzK b (
brB ((Int.tmod a b) != 0) (
J1 (decide (a < 0), ()) w) (
J1 (false, ()) w))) (fun (z2 : (Bool) × Unit) w3 => ∀ _ : Nat → Value,
brB z2.1 (
drK w3 fun w4 =>
nzK b (
R ((IntKind.wrap .i64 ((IntKind.wrap .i64 (Int.tdiv a b)) - 1), ()), (IntKind.wrap .i64 ((Int.tmod a b) + b), ()), ()) w4)) (
drK w3 fun w5 =>
nzK b (
R ((IntKind.wrap .i64 (Int.tdiv a b), ()), (Int.tmod a b, ()), ()) w5))))
set_option maxRecDepth 100000 in
theorem ref01_Floor.eq (a : Int) (b : Int) (w : World) (R : Value → World → Prop) : wpF Tryz.prog Tryz.f81 (.s .n (.s .n (.s (.ct [(17, .b)] .n (.s (.s (.pl (.tk 0 (.tk 1 (.tk 2 (.tk 3 (.tk 4 (.tk 5 (.tk 6 (.tk 7 (.tk 8 .z)))))))))) .n) .n)) (.s (.pl (.tk 0 (.tk 1 (.tk 2 (.tk 3 (.tk 4 (.tk 5 .z))))))) .n)))) [.int .i64 a, .int .i64 b] w R = ref01_Floor.wp a b w (fun r w => R (encR true [(false, [(.i .i64)]), (false, [(.i .i64)])] r) w) := by kernel_rfl
theorem ref01_Floor.ok {a : Int} {b : Int} {w : World} {R : TR [(false, [(.i .i64)]), (false, [(.i .i64)])] → World → Prop} (h : ref01_Floor.wp a b w R) : clS Tryz.prog F.ref01_Floor [.int .i64 a, .int .i64 b] w true [(false, [(.i .i64)]), (false, [(.i .i64)])] R :=
  ok_of Tryz_follows Tryz.func81 (fun R => ref01_Floor.wp a b w R) (ref01_Floor.eq a b w) rfl h
/-! ### ref13_Of -/
set_option maxRecDepth 100000 in
def ref13_Of.wp (drift : Int) (list : Option Addr × Nat × Nat) (w : World) (R : TR [(false, [(.i .i64)]), (false, [(.i .i64)])] → World → Prop) : Prop :=
brB (decide ((list.2.1 : Int) < 2)) (
R ((0, ()), (1, ()), ()) w) (
brB (decide ((list.2.1 : Int) > 8)) (
R ((0, ()), (1, ()), ()) w) (
LoopT (fun (self1 : ((Int) × Unit) → World → Prop) (z2 : (Int) × Unit) w3 => ∀ _ : Nat → Value,
brB (decide (z2.1 < (list.2.1 : Int))) (
ixK list.1 list.2.1 z2.1 fun a4 =>
ldN [(.i .i64), (.i .i64), (.i .i64)] (a4.add (z2.1.toNat * 3)) 0 w3 fun x5 =>
alK [.int .i64 0, .int .i64 0, .int .i64 0] T.ref12_Entry w3 fun p6 w7 =>
stN [.int .i64 x5.1, .int .i64 x5.2.1, .int .i64 x5.2.2.1] p6 0 w7 fun w8 =>
ldN [(.i .i64), (.i .i64), (.i .i64)] p6 0 w8 fun x9 =>
clS Tryz.prog F.ref12_Good [.agg #[.int .i64 x9.1, .int .i64 x9.2.1, .int .i64 x9.2.2.1]] w8 false [(false, [.b])] fun r10 w11 =>
brB (!r10.1.1) (
R ((0, ()), (1, ()), ()) w11) (
self1 (IntKind.wrap .i64 (z2.1 + 1), ()) w11)) (
LoopT (fun (self12 : ((Int) × (Int) × (Int) × (Int) × (Int) × Unit) → World → Prop) (z13 : (Int) × (Int) × (Int) × (Int) × (Int) × Unit) w14 => ∀ _ : Nat → Value,
brB (decide (z13.2.2.2.2.1 < (list.2.1 : Int))) (
ixK list.1 list.2.1 z13.2.2.2.2.1 fun a15 =>
ldN [(.i .i64), (.i .i64), (.i .i64)] (a15.add (z13.2.2.2.2.1.toNat * 3)) 0 w14 fun x16 =>
alK [.int .i64 0, .int .i64 0, .int .i64 0] T.ref12_Entry w14 fun p17 w18 =>
stN [.int .i64 x16.1, .int .i64 x16.2.1, .int .i64 x16.2.2.1] p17 0 w18 fun w19 =>
drK w19 fun w20 =>
ld1 (.i .i64) p17 w20 fun x21 =>
ixK list.1 list.2.1 0 fun a22 =>
ld1 (.i .i64) (a22.add ((0 : Int).toNat * 3)) w20 fun x23 =>
drK w20 fun w24 =>
ld1 (.i .i64) (p17.add 1) w24 fun x25 =>
ixK list.1 list.2.1 0 fun a26 =>
ld1 (.i .i64) ((a26.add ((0 : Int).toNat * 3)).add 1) w24 fun x27 =>
brB (decide ((IntKind.wrap .i64 (x21 - x23)) < 0)) (
R ((0, ()), (1, ()), ()) w24) (
brB (decide ((IntKind.wrap .i64 (x21 - x23)) > 4194304)) (
R ((0, ()), (1, ()), ()) w24) (
brB (decide ((IntKind.wrap .i64 (x25 - x27)) < (Int.negSucc 4194303))) (
R ((0, ()), (1, ()), ()) w24) (
brB (decide ((IntKind.wrap .i64 (x25 - x27)) > 4194304)) (
R ((0, ()), (1, ()), ()) w24) (
self12 (IntKind.wrap .i64 (z13.1 + (IntKind.wrap .i64 (x21 - x23))), IntKind.wrap .i64 (z13.2.1 + (IntKind.wrap .i64 (x25 - x27))), IntKind.wrap .i64 (z13.2.2.1 + (IntKind.wrap .i64 ((IntKind.wrap .i64 (x21 - x23)) * (IntKind.wrap .i64 (x25 - x27))))), IntKind.wrap .i64 (z13.2.2.2.1 + (IntKind.wrap .i64 ((IntKind.wrap .i64 (x21 - x23)) * (IntKind.wrap .i64 (x21 - x23))))), IntKind.wrap .i64 (z13.2.2.2.2.1 + 1), ()) w24))))) (
brB (decide ((IntKind.wrap .i64 ((IntKind.wrap .i64 ((list.2.1 : Int) * z13.2.2.2.1)) - (IntKind.wrap .i64 (z13.1 * z13.1)))) ≤ 0)) (
R ((0, ()), (1, ()), ()) w14) (
clS Tryz.prog F.ref13_Most [.int .i64 drift] w14 true [(false, [(.i .i64)]), (false, [(.i .i64)])] fun r28 w29 =>
CutT (fun (J30 : Unit → World → Prop) =>
brB (decide ((IntKind.wrap .i64 ((IntKind.wrap .i64 ((list.2.1 : Int) * z13.2.2.1)) - (IntKind.wrap .i64 (z13.1 * z13.2.1)))) > 0)) (
clS Tryz.prog F.ref13_Over [.int .i64 (IntKind.wrap .i64 ((IntKind.wrap .i64 ((list.2.1 : Int) * z13.2.2.1)) - (IntKind.wrap .i64 (z13.1 * z13.2.1)))), .int .i64 (IntKind.wrap .i64 ((IntKind.wrap .i64 ((list.2.1 : Int) * z13.2.2.2.1)) - (IntKind.wrap .i64 (z13.1 * z13.1)))), .int .i64 r28.1.1, .int .i64 r28.2.1.1] w29 false [(false, [.b])] fun r33 w34 =>
brB r33.1.1 (
R ((r28.1.1, ()), (r28.2.1.1, ()), ()) w34) (
J30 (()) w34)) (
J30 (()) w29)) (fun (z31 : Unit) w32 => ∀ _ : Nat → Value,
brB (decide ((IntKind.wrap .i64 ((IntKind.wrap .i64 ((list.2.1 : Int) * z13.2.2.1)) - (IntKind.wrap .i64 (z13.1 * z13.2.1)))) < 0)) (
clS Tryz.prog F.ref13_Over [.int .i64 (IntKind.wrap .i64 (0 - (IntKind.wrap .i64 ((IntKind.wrap .i64 ((list.2.1 : Int) * z13.2.2.1)) - (IntKind.wrap .i64 (z13.1 * z13.2.1)))))), .int .i64 (IntKind.wrap .i64 ((IntKind.wrap .i64 ((list.2.1 : Int) * z13.2.2.2.1)) - (IntKind.wrap .i64 (z13.1 * z13.1)))), .int .i64 r28.1.1, .int .i64 r28.2.1.1] w32 false [(false, [.b])] fun r35 w36 =>
brB r35.1.1 (
R ((IntKind.wrap .i64 (0 - r28.1.1), ()), (r28.2.1.1, ()), ()) w36) (
R ((IntKind.wrap .i64 ((IntKind.wrap .i64 ((list.2.1 : Int) * z13.2.2.1)) - (IntKind.wrap .i64 (z13.1 * z13.2.1))), ()), (IntKind.wrap .i64 ((IntKind.wrap .i64 ((list.2.1 : Int) * z13.2.2.2.1)) - (IntKind.wrap .i64 (z13.1 * z13.1))), ()), ()) w36)) (
R ((IntKind.wrap .i64 ((IntKind.wrap .i64 ((list.2.1 : Int) * z13.2.2.1)) - (IntKind.wrap .i64 (z13.1 * z13.2.1))), ()), (IntKind.wrap .i64 ((IntKind.wrap .i64 ((list.2.1 : Int) * z13.2.2.2.1)) - (IntKind.wrap .i64 (z13.1 * z13.1))), ()), ()) w32))))) (0, 0, 0, 0, 0, ()) w3)) (0, ()) w))
set_option maxRecDepth 100000 in
theorem ref13_Of.eq (drift : Int) (list : Option Addr × Nat × Nat) (w : World) (R : Value → World → Prop) : wpF Tryz.prog Tryz.f82 (.s .n (.s .n (.s .n (.s .n (.s (.s .n (.lp [(31, (.i .i64))] .n)) (.s (.s .n (.lp [(7, (.i .i64)), (8, (.i .i64)), (9, (.i .i64)), (10, (.i .i64)), (41, (.i .i64))] (.s .n (.s .n (.s (.s .n (.s (.pl (.tk 0 (.tk 1 (.tk 2 (.tk 3 (.tk 4 (.tk 5 (.tk 6 (.tk 7 .z))))))))) (.s (.pl (.tk 0 (.tk 1 (.tk 2 (.tk 3 (.tk 4 (.tk 5 (.tk 6 (.tk 7 .z))))))))) .n))) .n))))) (.s .n (.s .n (.s .n (.s .n (.ct [] .n .n))))))))))) [.int .i64 drift, .slice list.1 list.2.1 list.2.2] w R = ref13_Of.wp drift list w (fun r w => R (encR true [(false, [(.i .i64)]), (false, [(.i .i64)])] r) w) := by kernel_rfl
theorem ref13_Of.ok {drift : Int} {list : Option Addr × Nat × Nat} {w : World} {R : TR [(false, [(.i .i64)]), (false, [(.i .i64)])] → World → Prop} (h : ref13_Of.wp drift list w R) : clS Tryz.prog F.ref13_Of [.int .i64 drift, .slice list.1 list.2.1 list.2.2] w true [(false, [(.i .i64)]), (false, [(.i .i64)])] R :=
  ok_of Tryz_follows Tryz.func82 (fun R => ref13_Of.wp drift list w R) (ref13_Of.eq drift list w) rfl h
/-! ### ref12_Hops -/
set_option maxRecDepth 100000 in
def ref12_Hops.wp (list : Option Addr × Nat × Nat) (w : World) (R : TR [(false, [(.i .i64)])] → World → Prop) : Prop :=
LoopT (fun (self1 : ((Int) × (Int) × Unit) → World → Prop) (z2 : (Int) × (Int) × Unit) w3 => ∀ _ : Nat → Value,
brB (decide (z2.2.1 < (list.2.1 : Int))) (
ixK list.1 list.2.1 z2.2.1 fun a4 =>
ldN [(.i .i64), (.i .i64), (.i .i64)] (a4.add (z2.2.1.toNat * 3)) 0 w3 fun x5 =>
alK [.int .i64 0, .int .i64 0, .int .i64 0] T.ref12_Entry w3 fun p6 w7 =>
stN [.int .i64 x5.1, .int .i64 x5.2.1, .int .i64 x5.2.2.1] p6 0 w7 fun w8 =>
ld1 (.i .i64) (p6.add 2) w8 fun x9 =>
self1 ((if x9 > z2.1 then x9 else z2.1), IntKind.wrap .i64 (z2.2.1 + 1), ()) w8) (
R ((z2.1, ()), ()) w3)) (0, 0, ()) w
set_option maxRecDepth 100000 in
theorem ref12_Hops.eq (list : Option Addr × Nat × Nat) (w : World) (R : Value → World → Prop) : wpF Tryz.prog Tryz.f83 (.s .n (.s .n (.s (.s .n (.lp [(3, (.i .i64)), (8, (.i .i64))] .n)) .n))) [.slice list.1 list.2.1 list.2.2] w R = ref12_Hops.wp list w (fun r w => R (encR false [(false, [(.i .i64)])] r) w) := by kernel_rfl
theorem ref12_Hops.ok {list : Option Addr × Nat × Nat} {w : World} {R : TR [(false, [(.i .i64)])] → World → Prop} (h : ref12_Hops.wp list w R) : clS Tryz.prog F.ref12_Hops [.slice list.1 list.2.1 list.2.2] w false [(false, [(.i .i64)])] R :=
  ok_of Tryz_follows Tryz.func83 (fun R => ref12_Hops.wp list w R) (ref12_Hops.eq list w) rfl h
end Go.Proofs.YtgpgdhopmifbpaaGreat
