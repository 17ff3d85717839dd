import Derived.Test.YtgpgdhopmifbpaaNm
namespace Go.Proofs.Ytgpgdhopmifbpaa
open Go.Eng
set_option linter.unusedVariables false
/-! ### anchor_Book_Tai -/
set_option maxRecDepth 100000 in
def anchor_Book_Tai.wp (b : Option Addr) (w_0 : Int) (w_1 : Int) (time : Int) (w : World) (R : TR [(true, [(.i .i64), (.i .i64)]), (false, [(.i .i64)])] → World → Prop) : Prop :=
alK [.int .i64 w_0, .int .u16 w_1] T.source_Whose w fun p1 w2 =>
alK [.int .i64 0, .int .i64 0] T.anchor_Moment w2 fun p3 w4 =>
brB (Option.isNone b) (
stN [.int .i64 0, .int .i64 0] p3 0 w4 fun w5 =>
ldN [(.i .i64), (.i .i64)] p3 0 w5 fun x6 =>
R ((x6.1, x6.2.1, ()), (2, ()), ()) w5) (
ncK b fun a7 =>
ld1 .b a7 w4 fun x8 =>
brB (!x8) (
stN [.int .i64 0, .int .i64 0] p3 0 w4 fun w9 =>
ldN [(.i .i64), (.i .i64)] p3 0 w9 fun x10 =>
R ((x10.1, x10.2.1, ()), (7, ()), ()) w9) (
CutT (fun (J11 : ((Bool) × Unit) → World → Prop) =>
drK w4 fun w14 =>
ncK b fun a15 =>
ld1 (.i .i64) ((a15.add 1).add 2) w14 fun x16 =>
ld1 (.i .i64) p1 w14 fun x17 =>
brB (x16 != x17) (
J11 (true, ()) w14) (
ncK b fun a18 =>
ld1 (.i .u16) ((a18.add 1).add 3) w14 fun x19 =>
ld1 (.i .u16) (p1.add 1) w14 fun x20 =>
J11 ((x19 != x20), ()) w14)) (fun (z12 : (Bool) × Unit) w13 => ∀ _ : Nat → Value,
brB z12.1 (
stN [.int .i64 0, .int .i64 0] p3 0 w13 fun w21 =>
ldN [(.i .i64), (.i .i64)] p3 0 w21 fun x22 =>
R ((x22.1, x22.2.1, ()), (9, ()), ()) w21) (
brB (decide (time < 0)) (
stN [.int .i64 0, .int .i64 0] p3 0 w13 fun w23 =>
ldN [(.i .i64), (.i .i64)] p3 0 w23 fun x24 =>
R ((x24.1, x24.2.1, ()), (8, ()), ()) w23) (
brB (decide (time > 1125899906842624)) (
stN [.int .i64 0, .int .i64 0] p3 0 w13 fun w25 =>
ldN [(.i .i64), (.i .i64)] p3 0 w25 fun x26 =>
R ((x26.1, x26.2.1, ()), (8, ()), ()) w25) (
ncK b fun a27 =>
ld1 (.i .i64) ((a27.add 1).add 4) w13 fun x28 =>
clS Try.prog F.fix_Floor [.int .i64 (IntKind.wrap .i64 (time - x28)), .int .i64 1000] w13 true [(false, [(.i .i64)]), (false, [(.i .i64)]), (false, [.b])] fun r29 w30 =>
ncK b fun a31 =>
ld1 (.i .i64) ((a31.add 1).add 5) w30 fun x32 =>
stN [.int .i64 (IntKind.wrap .i64 (x32 + r29.1.1)), .int .i64 r29.2.1.1] p3 0 w30 fun w33 =>
ldN [(.i .i64), (.i .i64)] p3 0 w33 fun x34 =>
R ((x34.1, x34.2.1, ()), (0, ()), ()) w33))))))
set_option maxRecDepth 100000 in
theorem anchor_Book_Tai.eq (b : Option Addr) (w_0 : Int) (w_1 : Int) (time : Int) (w : World) (R : Value → World → Prop) : wpF Try.prog Try.f15 (.s .n (.s (.s .n (.s .n (.s .n (.s .n (.ct [(22, .b)] (.pl (.tk 0 (.tk 1 (.tk 2 (.tk 3 (.tk 4 (.tk 5 (.tk 6 (.tk 7 (.tk 8 (.tk 9 (.tk 10 (.tk 11 (.tk 12 (.tk 13 (.tk 14 (.tk 15 (.tk 16 (.tk 17 (.tk 18 .z)))))))))))))))))))) .n))))) .n)) [.pointer b, .agg #[.int .i64 w_0, .int .u16 w_1], .int .i64 time] w R = anchor_Book_Tai.wp b w_0 w_1 time w (fun r w => R (encR true [(true, [(.i .i64), (.i .i64)]), (false, [(.i .i64)])] r) w) := by kernel_rfl
theorem anchor_Book_Tai.ok {b : Option Addr} {w_0 : Int} {w_1 : Int} {time : Int} {w : World} {R : TR [(true, [(.i .i64), (.i .i64)]), (false, [(.i .i64)])] → World → Prop} (h : anchor_Book_Tai.wp b w_0 w_1 time w R) : clS Try.prog F.anchor_Book_Tai [.pointer b, .agg #[.int .i64 w_0, .int .u16 w_1], .int .i64 time] w true [(true, [(.i .i64), (.i .i64)]), (false, [(.i .i64)])] R :=
  ok_of Try_follows Try.func15 (fun R => anchor_Book_Tai.wp b w_0 w_1 time w R) (anchor_Book_Tai.eq b w_0 w_1 time w) rfl h
/-! ### law19_alive -/
set_option maxRecDepth 100000 in
def law19_alive.wp  (w : World) (R : TR [(false, [.b])] → World → Prop) : Prop :=
clS Try.prog F.source_New [.int .i64 2] w true [(false, [.p]), (false, [(.i .i64)])] fun r1 w2 =>
clS Try.prog F.flood_New [.int .i64 5, .agg #[.int .i64 9, .int .i64 0, .int .i64 1, .int .i64 0]] w2 true [(false, [.p]), (false, [(.i .i64)])] fun r3 w4 =>
clS Try.prog F.source_Source_Put [.pointer r1.1.1, .agg #[.int .i64 100, .int .i64 50, .int .i64 2], .agg #[.int .i64 3, .int .u16 7]] w4 false [(false, [(.i .i64)])] fun r5 w6 =>
clS Try.prog F.source_Source_Time [.pointer r1.1.1, .pointer r3.1.1, .int .i64 110] w6 true [(true, [(.i .i64), (.i .i64), (.i .i64), (.i .u16), (.i .i64)]), (false, [(.i .i64)])] fun r7 w8 =>
alK [.int .i64 0, .int .i64 0, .int .i64 0, .int .u16 0, .int .i64 0] T.source_Answer w8 fun p9 w10 =>
stN [.int .i64 r7.1.1, .int .i64 r7.1.2.1, .int .i64 r7.1.2.2.1, .int .u16 r7.1.2.2.2.1, .int .i64 r7.1.2.2.2.2.1] p9 0 w10 fun w11 =>
brB (r1.2.1.1 == 0) (
brB (r3.2.1.1 == 0) (
brB (r5.1.1 == 0) (
brB (r7.2.1.1 == 0) (
ld1 (.i .i64) p9 w11 fun x12 =>
brB (x12 == 160) (
ld1 (.i .i64) (p9.add 1) w11 fun x13 =>
brB (x13 == 2) (
ld1 (.i .i64) (p9.add 2) w11 fun x14 =>
brB (x14 == 3) (
ld1 (.i .i64) (p9.add 4) w11 fun x15 =>
R (((x15 == 3), ()), ()) w11) (
R ((false, ()), ()) w11)) (
R ((false, ()), ()) w11)) (
R ((false, ()), ()) w11)) (
R ((false, ()), ()) w11)) (
R ((false, ()), ()) w11)) (
R ((false, ()), ()) w11)) (
R ((false, ()), ()) w11)
set_option maxRecDepth 100000 in
theorem law19_alive.eq  (w : World) (R : Value → World → Prop) : wpF Try.prog Try.f16 .n [] w R = law19_alive.wp  w (fun r w => R (encR false [(false, [.b])] r) w) := by kernel_rfl
theorem law19_alive.ok  {w : World} {R : TR [(false, [.b])] → World → Prop} (h : law19_alive.wp  w R) : clS Try.prog F.law19_alive [] w false [(false, [.b])] R :=
  ok_of Try_follows Try.func16 (fun R => law19_alive.wp  w R) (law19_alive.eq  w) rfl h
/-! ### flood_New -/
set_option maxRecDepth 100000 in
def flood_New.wp (me : Int) (r0 : Int) (r1 : Int) (r2 : Int) (r3 : Int) (w : World) (R : TR [(false, [.p]), (false, [(.i .i64)])] → World → Prop) : Prop :=
alK [.int .i64 r0, .int .i64 r1, .int .i64 r2, .int .i64 r3] T.flood_Rules w fun p1 w2 =>
ldN [(.i .i64), (.i .i64), (.i .i64), (.i .i64)] p1 0 w2 fun x3 =>
clS Try.prog F.flood_Rules_Good [.agg #[.int .i64 x3.1, .int .i64 x3.2.1, .int .i64 x3.2.2.1, .int .i64 x3.2.2.2.1]] w2 false [(false, [.b])] fun r4 w5 =>
brB (!r4.1.1) (
R ((none, ()), (1, ()), ()) w5) (
ldN [(.i .i64), (.i .i64)] p1 0 w5 fun x6 =>
clS Try.prog F.elect_New [.int .i64 me, .agg #[.int .i64 x6.1, .int .i64 x6.2.1]] w5 true [(false, [.p]), (false, [(.i .i64)])] fun r7 w8 =>
brB (r7.2.1.1 != 0) (
R ((none, ()), (r7.2.1.1, ()), ()) w8) (
ldN [(.i .i64), (.i .i64), (.i .i64), (.i .i64)] p1 0 w8 fun x9 =>
alK [.pointer r7.1.1, .int .i64 me, .int .i64 x9.1, .int .i64 x9.2.1, .int .i64 x9.2.2.1, .int .i64 x9.2.2.2.1, .slice none 0 0, .int .i64 0, .int .i64 0, .int .i64 0] T.flood_Flood w8 fun p10 w11 =>
R ((some p10, ()), (0, ()), ()) w11))
set_option maxRecDepth 100000 in
theorem flood_New.eq (me : Int) (r0 : Int) (r1 : Int) (r2 : Int) (r3 : Int) (w : World) (R : Value → World → Prop) : wpF Try.prog Try.f17 .n [.int .i64 me, .agg #[.int .i64 r0, .int .i64 r1, .int .i64 r2, .int .i64 r3]] w R = flood_New.wp me r0 r1 r2 r3 w (fun r w => R (encR true [(false, [.p]), (false, [(.i .i64)])] r) w) := by kernel_rfl
theorem flood_New.ok {me : Int} {r0 : Int} {r1 : Int} {r2 : Int} {r3 : Int} {w : World} {R : TR [(false, [.p]), (false, [(.i .i64)])] → World → Prop} (h : flood_New.wp me r0 r1 r2 r3 w R) : clS Try.prog F.flood_New [.int .i64 me, .agg #[.int .i64 r0, .int .i64 r1, .int .i64 r2, .int .i64 r3]] w true [(false, [.p]), (false, [(.i .i64)])] R :=
  ok_of Try_follows Try.func17 (fun R => flood_New.wp me r0 r1 r2 r3 w R) (flood_New.eq me r0 r1 r2 r3 w) rfl h
/-! ### law19_rules -/
set_option maxRecDepth 100000 in
def law19_rules.wp (r0 : Int) (r1 : Int) (r2 : Int) (r3 : Int) (w : World) (R : TR [(true, [(.i .i64), (.i .i64), (.i .i64), (.i .i64)])] → World → Prop) : Prop :=
alK [.int .i64 r0, .int .i64 r1, .int .i64 r2, .int .i64 r3] T.law19_Rule w fun p1 w2 =>
alK [.int .i64 0, .int .i64 0, .int .i64 0, .int .i64 0] T.flood_Rules w2 fun p3 w4 =>
ld1 (.i .i64) p1 w4 fun x5 =>
ld1 (.i .i64) (p1.add 1) w4 fun x6 =>
ld1 (.i .i64) (p1.add 2) w4 fun x7 =>
ld1 (.i .i64) (p1.add 3) w4 fun x8 =>
stN [.int .i64 x5, .int .i64 x6, .int .i64 x7, .int .i64 x8] p3 0 w4 fun w9 =>
ldN [(.i .i64), (.i .i64), (.i .i64), (.i .i64)] p3 0 w9 fun x10 =>
R ((x10.1, x10.2.1, x10.2.2.1, x10.2.2.2.1, ()), ()) w9
set_option maxRecDepth 100000 in
theorem law19_rules.eq (r0 : Int) (r1 : Int) (r2 : Int) (r3 : Int) (w : World) (R : Value → World → Prop) : wpF Try.prog Try.f18 .n [.agg #[.int .i64 r0, .int .i64 r1, .int .i64 r2, .int .i64 r3]] w R = law19_rules.wp r0 r1 r2 r3 w (fun r w => R (encR false [(true, [(.i .i64), (.i .i64), (.i .i64), (.i .i64)])] r) w) := by kernel_rfl
theorem law19_rules.ok {r0 : Int} {r1 : Int} {r2 : Int} {r3 : Int} {w : World} {R : TR [(true, [(.i .i64), (.i .i64), (.i .i64), (.i .i64)])] → World → Prop} (h : law19_rules.wp r0 r1 r2 r3 w R) : clS Try.prog F.law19_rules [.agg #[.int .i64 r0, .int .i64 r1, .int .i64 r2, .int .i64 r3]] w false [(true, [(.i .i64), (.i .i64), (.i .i64), (.i .i64)])] R :=
  ok_of Try_follows Try.func18 (fun R => law19_rules.wp r0 r1 r2 r3 w R) (law19_rules.eq r0 r1 r2 r3 w) rfl h
/-! ### source_New -/
set_option maxRecDepth 100000 in
def source_New.wp (limit : Int) (w : World) (R : TR [(false, [.p]), (false, [(.i .i64)])] → World → Prop) : Prop :=
brB (decide (limit < 1)) (
R ((none, ()), (1, ()), ()) w) (
brB (decide (limit > 1000)) (
R ((none, ()), (1, ()), ()) w) (
alK [.int .i64 limit, .int .i64 0, .int .i64 0, .int .i64 0, .int .i64 0, .int .u16 0, .int .i64 0, .bool false] T.source_Source w fun p1 w2 =>
R ((some p1, ()), (0, ()), ()) w2))
set_option maxRecDepth 100000 in
theorem source_New.eq (limit : Int) (w : World) (R : Value → World → Prop) : wpF Try.prog Try.f19 .n [.int .i64 limit] w R = source_New.wp limit w (fun r w => R (encR true [(false, [.p]), (false, [(.i .i64)])] r) w) := by kernel_rfl
theorem source_New.ok {limit : Int} {w : World} {R : TR [(false, [.p]), (false, [(.i .i64)])] → World → Prop} (h : source_New.wp limit w R) : clS Try.prog F.source_New [.int .i64 limit] w true [(false, [.p]), (false, [(.i .i64)])] R :=
  ok_of Try_follows Try.func19 (fun R => source_New.wp limit w R) (source_New.eq limit w) rfl h
/-! ### source_Source_Put -/
set_option maxRecDepth 100000 in
def source_Source_Put.wp (s : Option Addr) (e0 : Int) (e1 : Int) (e2 : Int) (w_0 : Int) (w_1 : Int) (w : World) (R : TR [(false, [(.i .i64)])] → World → Prop) : Prop :=
alK [.int .i64 e0, .int .i64 e1, .int .i64 e2] T.table_Entry w fun p1 w2 =>
alK [.int .i64 w_0, .int .u16 w_1] T.source_Whose w2 fun p3 w4 =>
brB (Option.isNone s) (
R ((2, ()), ()) w4) (
ldN [(.i .i64), (.i .i64), (.i .i64)] p1 0 w4 fun x5 =>
clS Try.prog F.table_Entry_Good [.agg #[.int .i64 x5.1, .int .i64 x5.2.1, .int .i64 x5.2.2.1]] w4 false [(false, [.b])] fun r6 w7 =>
brB (!r6.1.1) (
R ((1, ()), ()) w7) (
ld1 (.i .i64) p3 w7 fun x8 =>
brB (decide (x8 < 0)) (
R ((1, ()), ()) w7) (
ld1 (.i .i64) p3 w7 fun x9 =>
brB (decide (x9 ≥ 64)) (
R ((1, ()), ()) w7) (
drK w7 fun w10 =>
ldN [(.i .i64), (.i .i64), (.i .i64)] p1 0 w10 fun x11 =>
ldN [(.i .i64), (.i .u16)] p3 0 w10 fun x12 =>
ncK s fun a13 =>
stN [.int .i64 x11.1, .int .i64 x11.2.1, .int .i64 x11.2.2.1] (a13.add 1) 0 w10 fun w14 =>
Hold [(5, (p3.add 0), (w10.cell? (p3.add 0)).getD undef), (5, (p3.add 1), (w10.cell? (p3.add 1)).getD undef)] w14 ∧ (
ncK s fun a15 =>
stN [.int .i64 x12.1, .int .u16 x12.2.1] (a15.add 4) 0 w14 fun w16 =>
Hold [] w16 ∧ (
ncK s fun a17 =>
stN [.int .i64 0] (a17.add 6) 0 w16 fun w18 =>
Hold [] w18 ∧ (
ncK s fun a19 =>
stN [.bool true] (a19.add 7) 0 w18 fun w20 =>
Hold [] w20 ∧ (
R ((0, ()), ()) w20))))))))
set_option maxRecDepth 100000 in
theorem source_Source_Put.eq (s : Option Addr) (e0 : Int) (e1 : Int) (e2 : Int) (w_0 : Int) (w_1 : Int) (w : World) (R : Value → World → Prop) : wpF Try.prog Try.f20 (.s .n (.s .n (.s (.pl (.tk 0 (.tk 1 (.tk 2 (.tk 3 (.tk 4 (.tk 5 (.tk 6 (.tk 7 (.ef 8 [4] (.tk 9 (.tk 10 (.ef 11 [5] (.tk 12 (.tk 13 (.ef 14 [] (.tk 15 (.tk 16 (.ef 17 [] .z))))))))))))))))))) .n))) [.pointer s, .agg #[.int .i64 e0, .int .i64 e1, .int .i64 e2], .agg #[.int .i64 w_0, .int .u16 w_1]] w R = source_Source_Put.wp s e0 e1 e2 w_0 w_1 w (fun r w => R (encR false [(false, [(.i .i64)])] r) w) := by kernel_rfl
theorem source_Source_Put.ok {s : Option Addr} {e0 : Int} {e1 : Int} {e2 : Int} {w_0 : Int} {w_1 : Int} {w : World} {R : TR [(false, [(.i .i64)])] → World → Prop} (h : source_Source_Put.wp s e0 e1 e2 w_0 w_1 w R) : clS Try.prog F.source_Source_Put [.pointer s, .agg #[.int .i64 e0, .int .i64 e1, .int .i64 e2], .agg #[.int .i64 w_0, .int .u16 w_1]] w false [(false, [(.i .i64)])] R :=
  ok_of Try_follows Try.func20 (fun R => source_Source_Put.wp s e0 e1 e2 w_0 w_1 w R) (source_Source_Put.eq s e0 e1 e2 w_0 w_1 w) rfl h
/-! ### source_Source_Fresh -/
set_option maxRecDepth 100000 in
def source_Source_Fresh.wp (s : Option Addr) (w : World) (R : TR [(false, [.b])] → World → Prop) : Prop :=
brB (!(Option.isNone s)) (
ncK s fun a1 =>
ld1 .b (a1.add 7) w fun x2 =>
R ((x2, ()), ()) w) (
R ((false, ()), ()) w)
set_option maxRecDepth 100000 in
theorem source_Source_Fresh.eq (s : Option Addr) (w : World) (R : Value → World → Prop) : wpF Try.prog Try.f21 .n [.pointer s] w R = source_Source_Fresh.wp s w (fun r w => R (encR false [(false, [.b])] r) w) := by kernel_rfl
theorem source_Source_Fresh.ok {s : Option Addr} {w : World} {R : TR [(false, [.b])] → World → Prop} (h : source_Source_Fresh.wp s w R) : clS Try.prog F.source_Source_Fresh [.pointer s] w false [(false, [.b])] R :=
  ok_of Try_follows Try.func21 (fun R => source_Source_Fresh.wp s w R) (source_Source_Fresh.eq s w) rfl h
/-! ### source_Source_Time -/
set_option maxRecDepth 100000 in
def source_Source_Time.wp (s : Option Addr) (f : Option Addr) (local_ : Int) (w : World) (R : TR [(true, [(.i .i64), (.i .i64), (.i .i64), (.i .u16), (.i .i64)]), (false, [(.i .i64)])] → World → Prop) : Prop :=
alK [.int .i64 0, .int .i64 0, .int .i64 0, .int .u16 0, .int .i64 0] T.source_Answer w fun p1 w2 =>
CutT (fun (J3 : ((Bool) × Unit) → World → Prop) =>
brB (Option.isNone s) (
J3 (true, ()) w2) (
J3 ((Option.isNone f), ()) w2)) (fun (z4 : (Bool) × Unit) w5 => ∀ _ : Nat → Value,
brB z4.1 (
stN [.int .i64 0, .int .i64 0, .int .i64 0, .int .u16 0, .int .i64 0] p1 0 w5 fun w6 =>
ldN [(.i .i64), (.i .i64), (.i .i64), (.i .u16), (.i .i64)] p1 0 w6 fun x7 =>
R ((x7.1, x7.2.1, x7.2.2.1, x7.2.2.2.1, x7.2.2.2.2.1, ()), (2, ()), ()) w6) (
clS Try.prog F.flood_Flood_Synced [.pointer f] w5 false [(false, [.b])] fun r8 w9 =>
brB r8.1.1 (
clS Try.prog F.source_flooded [.pointer f, .int .i64 local_] w9 true [(true, [(.i .i64), (.i .i64), (.i .i64), (.i .u16), (.i .i64)]), (false, [(.i .i64)])] fun r10 w11 =>
stN [.int .i64 r10.1.1, .int .i64 r10.1.2.1, .int .i64 r10.1.2.2.1, .int .u16 r10.1.2.2.2.1, .int .i64 r10.1.2.2.2.2.1] p1 0 w11 fun w12 =>
ldN [(.i .i64), (.i .i64), (.i .i64), (.i .u16), (.i .i64)] p1 0 w12 fun x13 =>
R ((x13.1, x13.2.1, x13.2.2.1, x13.2.2.2.1, x13.2.2.2.2.1, ()), (r10.2.1.1, ()), ()) w12) (
ncK s fun a14 =>
ld1 .b (a14.add 7) w9 fun x15 =>
brB (!x15) (
stN [.int .i64 0, .int .i64 0, .int .i64 0, .int .u16 0, .int .i64 0] p1 0 w9 fun w16 =>
ldN [(.i .i64), (.i .i64), (.i .i64), (.i .u16), (.i .i64)] p1 0 w16 fun x17 =>
R ((x17.1, x17.2.1, x17.2.2.1, x17.2.2.2.1, x17.2.2.2.2.1, ()), (9, ()), ()) w16) (
brB (decide (local_ < 0)) (
stN [.int .i64 0, .int .i64 0, .int .i64 0, .int .u16 0, .int .i64 0] p1 0 w9 fun w18 =>
ldN [(.i .i64), (.i .i64), (.i .i64), (.i .u16), (.i .i64)] p1 0 w18 fun x19 =>
R ((x19.1, x19.2.1, x19.2.2.1, x19.2.2.2.1, x19.2.2.2.2.1, ()), (8, ()), ()) w18) (
brB (decide (local_ > 1125899906842624)) (
stN [.int .i64 0, .int .i64 0, .int .i64 0, .int .u16 0, .int .i64 0] p1 0 w9 fun w20 =>
ldN [(.i .i64), (.i .i64), (.i .i64), (.i .u16), (.i .i64)] p1 0 w20 fun x21 =>
R ((x21.1, x21.2.1, x21.2.2.1, x21.2.2.2.1, x21.2.2.2.2.1, ()), (8, ()), ()) w20) (
ncK s fun a22 =>
ld1 (.i .i64) ((a22.add 1).add 1) w9 fun x23 =>
brB (decide ((IntKind.wrap .i64 (local_ + x23)) < 0)) (
stN [.int .i64 0, .int .i64 0, .int .i64 0, .int .u16 0, .int .i64 0] p1 0 w9 fun w24 =>
ldN [(.i .i64), (.i .i64), (.i .i64), (.i .u16), (.i .i64)] p1 0 w24 fun x25 =>
R ((x25.1, x25.2.1, x25.2.2.1, x25.2.2.2.1, x25.2.2.2.2.1, ()), (8, ()), ()) w24) (
brB (decide ((IntKind.wrap .i64 (local_ + x23)) > 1125899906842624)) (
stN [.int .i64 0, .int .i64 0, .int .i64 0, .int .u16 0, .int .i64 0] p1 0 w9 fun w26 =>
ldN [(.i .i64), (.i .i64), (.i .i64), (.i .u16), (.i .i64)] p1 0 w26 fun x27 =>
R ((x27.1, x27.2.1, x27.2.2.1, x27.2.2.2.1, x27.2.2.2.2.1, ()), (8, ()), ()) w26) (
drK w9 fun w28 =>
ncK s fun a29 =>
ld1 (.i .i64) ((a29.add 1).add 2) w28 fun x30 =>
ncK s fun a31 =>
ldN [(.i .i64), (.i .u16)] (a31.add 4) 0 w28 fun x32 =>
stN [.int .i64 (IntKind.wrap .i64 (local_ + x23)), .int .i64 x30, .int .i64 x32.1, .int .u16 x32.2.1, .int .i64 3] p1 0 w28 fun w33 =>
Hold [] w33 ∧ (
ldN [(.i .i64), (.i .i64), (.i .i64), (.i .u16), (.i .i64)] p1 0 w33 fun x34 =>
R ((x34.1, x34.2.1, x34.2.2.1, x34.2.2.2.1, x34.2.2.2.2.1, ()), (0, ()), ()) w33)))))))))
set_option maxRecDepth 100000 in
theorem source_Source_Time.eq (s : Option Addr) (f : Option Addr) (local_ : Int) (w : World) (R : Value → World → Prop) : wpF Try.prog Try.f22 (.s .n (.s (.ct [(9, .b)] .n .n) (.s .n (.s .n (.s (.pl (.tk 0 (.tk 1 (.tk 2 (.tk 3 (.tk 4 (.tk 5 (.tk 6 (.tk 7 (.tk 8 (.tk 9 (.tk 10 (.ef 11 [5, 9] (.tk 12 .z)))))))))))))) .n))))) [.pointer s, .pointer f, .int .i64 local_] w R = source_Source_Time.wp s f local_ w (fun r w => R (encR true [(true, [(.i .i64), (.i .i64), (.i .i64), (.i .u16), (.i .i64)]), (false, [(.i .i64)])] r) w) := by kernel_rfl
theorem source_Source_Time.ok {s : Option Addr} {f : Option Addr} {local_ : Int} {w : World} {R : TR [(true, [(.i .i64), (.i .i64), (.i .i64), (.i .u16), (.i .i64)]), (false, [(.i .i64)])] → World → Prop} (h : source_Source_Time.wp s f local_ w R) : clS Try.prog F.source_Source_Time [.pointer s, .pointer f, .int .i64 local_] w true [(true, [(.i .i64), (.i .i64), (.i .i64), (.i .u16), (.i .i64)]), (false, [(.i .i64)])] R :=
  ok_of Try_follows Try.func22 (fun R => source_Source_Time.wp s f local_ w R) (source_Source_Time.eq s f local_ w) rfl h
/-! ### source_Source_Beat -/
set_option maxRecDepth 100000 in
def source_Source_Beat.wp (s : Option Addr) (w : World) (R : TR [] → World → Prop) : Prop :=
brB (Option.isNone s) (
R (()) w) (
ncK s fun a1 =>
ld1 .b (a1.add 7) w fun x2 =>
brB (!x2) (
R (()) w) (
ncK s fun a3 =>
ld1 (.i .i64) (a3.add 6) w fun x4 =>
ncK s fun a5 =>
stN [.int .i64 (IntKind.wrap .i64 (x4 + 1))] (a5.add 6) 0 w fun w6 =>
drK w6 fun w7 =>
ncK s fun a8 =>
ld1 (.i .i64) (a8.add 6) w7 fun x9 =>
ncK s fun a10 =>
ld1 (.i .i64) a10 w7 fun x11 =>
brB (decide (x9 ≥ x11)) (
clS Try.prog F.source_Source_Drop [.pointer s] w7 true [] fun r12 w13 =>
R (()) w13) (
R (()) w7)))
set_option maxRecDepth 100000 in
theorem source_Source_Beat.eq (s : Option Addr) (w : World) (R : Value → World → Prop) : wpF Try.prog Try.f23 (.s .n (.s .n (.s (.pl (.tk 0 (.tk 1 (.tk 2 (.tk 3 (.tk 4 (.tk 5 (.tk 6 (.tk 7 (.tk 8 .z)))))))))) .n))) [.pointer s] w R = source_Source_Beat.wp s w (fun r w => R (encR true [] r) w) := by kernel_rfl
theorem source_Source_Beat.ok {s : Option Addr} {w : World} {R : TR [] → World → Prop} (h : source_Source_Beat.wp s w R) : clS Try.prog F.source_Source_Beat [.pointer s] w true [] R :=
  ok_of Try_follows Try.func23 (fun R => source_Source_Beat.wp s w R) (source_Source_Beat.eq s w) rfl h
/-! ### law16_alive -/
set_option maxRecDepth 100000 in
def law16_alive.wp  (w : World) (R : TR [(false, [.b])] → World → Prop) : Prop :=
clS Try.prog F.law16_rules [.agg #[.int .i64 3, .int .i64 0, .int .i64 1, .int .i64 10]] w false [(true, [(.i .i64), (.i .i64), (.i .i64), (.i .i64)])] fun r1 w2 =>
clS Try.prog F.flood_New [.int .i64 5, .agg #[.int .i64 r1.1.1, .int .i64 r1.1.2.1, .int .i64 r1.1.2.2.1, .int .i64 r1.1.2.2.2.1]] w2 true [(false, [.p]), (false, [(.i .i64)])] fun r3 w4 =>
clS Try.prog F.flood_Flood_Hear [.pointer r3.1.1, .agg #[.int .i64 3, .int .i64 3, .int .u16 0, .int .u16 1, .int .i64 0, .int .i64 500], .int .i64 100] w4 false [(false, [(.i .i64)])] fun r5 w6 =>
clS Try.prog F.flood_Flood_Time [.pointer r3.1.1, .int .i64 150] w6 true [(false, [(.i .i64)]), (false, [(.i .i64)]), (false, [(.i .i64)])] fun r7 w8 =>
clS Try.prog F.flood_Flood_Beat [.pointer r3.1.1, .int .i64 160] w8 true [(true, [(.i .i64), (.i .i64), (.i .u16), (.i .u16), (.i .i64), (.i .i64)]), (false, [.b])] fun r9 w10 =>
alK [.int .i64 0, .int .i64 0, .int .u16 0, .int .u16 0, .int .i64 0, .int .i64 0] T.frame_Sync w10 fun p11 w12 =>
stN [.int .i64 r9.1.1, .int .i64 r9.1.2.1, .int .u16 r9.1.2.2.1, .int .u16 r9.1.2.2.2.1, .int .i64 r9.1.2.2.2.2.1, .int .i64 r9.1.2.2.2.2.2.1] p11 0 w12 fun w13 =>
brB (r3.2.1.1 == 0) (
brB (r5.1.1 == 2) (
brB (r7.1.1 == 550) (
brB (r7.2.1.1 == 1) (
brB (r7.2.2.1.1 == 0) (
brB r9.2.1.1 (
ld1 (.i .i64) (p11.add 5) w13 fun x14 =>
brB (x14 == 560) (
ld1 (.i .i64) (p11.add 4) w13 fun x15 =>
brB (x15 == 1) (
ld1 (.i .i64) (p11.add 1) w13 fun x16 =>
R (((x16 == 3), ()), ()) w13) (
R ((false, ()), ()) w13)) (
R ((false, ()), ()) w13)) (
R ((false, ()), ()) w13)) (
R ((false, ()), ()) w13)) (
R ((false, ()), ()) w13)) (
R ((false, ()), ()) w13)) (
R ((false, ()), ()) w13)) (
R ((false, ()), ()) w13)
set_option maxRecDepth 100000 in
theorem law16_alive.eq  (w : World) (R : Value → World → Prop) : wpF Try.prog Try.f24 .n [] w R = law16_alive.wp  w (fun r w => R (encR false [(false, [.b])] r) w) := by kernel_rfl
theorem law16_alive.ok  {w : World} {R : TR [(false, [.b])] → World → Prop} (h : law16_alive.wp  w R) : clS Try.prog F.law16_alive [] w false [(false, [.b])] R :=
  ok_of Try_follows Try.func24 (fun R => law16_alive.wp  w R) (law16_alive.eq  w) rfl h
/-! ### law16_rules -/
set_option maxRecDepth 100000 in
def law16_rules.wp (r0 : Int) (r1 : Int) (r2 : Int) (r3 : Int) (w : World) (R : TR [(true, [(.i .i64), (.i .i64), (.i .i64), (.i .i64)])] → World → Prop) : Prop :=
alK [.int .i64 r0, .int .i64 r1, .int .i64 r2, .int .i64 r3] T.law16_Rule w fun p1 w2 =>
alK [.int .i64 0, .int .i64 0, .int .i64 0, .int .i64 0] T.flood_Rules w2 fun p3 w4 =>
ld1 (.i .i64) p1 w4 fun x5 =>
ld1 (.i .i64) (p1.add 1) w4 fun x6 =>
ld1 (.i .i64) (p1.add 2) w4 fun x7 =>
ld1 (.i .i64) (p1.add 3) w4 fun x8 =>
stN [.int .i64 x5, .int .i64 x6, .int .i64 x7, .int .i64 x8] p3 0 w4 fun w9 =>
ldN [(.i .i64), (.i .i64), (.i .i64), (.i .i64)] p3 0 w9 fun x10 =>
R ((x10.1, x10.2.1, x10.2.2.1, x10.2.2.2.1, ()), ()) w9
set_option maxRecDepth 100000 in
theorem law16_rules.eq (r0 : Int) (r1 : Int) (r2 : Int) (r3 : Int) (w : World) (R : Value → World → Prop) : wpF Try.prog Try.f25 .n [.agg #[.int .i64 r0, .int .i64 r1, .int .i64 r2, .int .i64 r3]] w R = law16_rules.wp r0 r1 r2 r3 w (fun r w => R (encR false [(true, [(.i .i64), (.i .i64), (.i .i64), (.i .i64)])] r) w) := by kernel_rfl
theorem law16_rules.ok {r0 : Int} {r1 : Int} {r2 : Int} {r3 : Int} {w : World} {R : TR [(true, [(.i .i64), (.i .i64), (.i .i64), (.i .i64)])] → World → Prop} (h : law16_rules.wp r0 r1 r2 r3 w R) : clS Try.prog F.law16_rules [.agg #[.int .i64 r0, .int .i64 r1, .int .i64 r2, .int .i64 r3]] w false [(true, [(.i .i64), (.i .i64), (.i .i64), (.i .i64)])] R :=
  ok_of Try_follows Try.func25 (fun R => law16_rules.wp r0 r1 r2 r3 w R) (law16_rules.eq r0 r1 r2 r3 w) rfl h
/-! ### flood_Flood_Hear -/
set_option maxRecDepth 100000 in
def flood_Flood_Hear.wp (f : Option Addr) (s0 : Int) (s1 : Int) (s2 : Int) (s3 : Int) (s4 : Int) (s5 : Int) (local_ : Int) (w : World) (R : TR [(false, [(.i .i64)])] → World → Prop) : Prop :=
alK [.int .i64 s0, .int .i64 s1, .int .u16 s2, .int .u16 s3, .int .i64 s4, .int .i64 s5] T.frame_Sync w fun p1 w2 =>
brB (Option.isNone f) (
R ((0, ()), ()) w2) (
ld1 (.i .i64) (p1.add 4) w2 fun x3 =>
brB (decide (x3 < 0)) (
R ((0, ()), ()) w2) (
ld1 (.i .i64) (p1.add 4) w2 fun x4 =>
brB (decide (x4 ≥ 63)) (
R ((0, ()), ()) w2) (
brB (decide (local_ < 0)) (
R ((0, ()), ()) w2) (
brB (decide (local_ > 1125899906842624)) (
R ((0, ()), ()) w2) (
ld1 (.i .i64) (p1.add 5) w2 fun x5 =>
brB (decide (x5 < 0)) (
R ((0, ()), ()) w2) (
ld1 (.i .i64) (p1.add 5) w2 fun x6 =>
brB (decide (x6 > 1125899906842624)) (
R ((0, ()), ()) w2) (
drK w2 fun w7 =>
ncK f fun a8 =>
ld1 .p a8 w7 fun x9 =>
ld1 (.i .i64) (p1.add 1) w7 fun x10 =>
ld1 (.i .u16) (p1.add 2) w7 fun x11 =>
ld1 (.i .u16) (p1.add 3) w7 fun x12 =>
clS Try.prog F.elect_Elect_Hear [.pointer x9, .int .i64 x10, .agg #[.int .u16 x11, .int .u16 x12]] w7 false [(false, [(.i .i64)])] fun r13 w14 =>
Hold [(9, (p1.add 3), (w7.cell? (p1.add 3)).getD undef), (7, (p1.add 2), (w7.cell? (p1.add 2)).getD undef)] w14 ∧ (
brB (r13.1.1 == 0) (
R ((r13.1.1, ()), ()) w14) (
CutT (fun (J15 : Unit → World → Prop) =>
brB (r13.1.1 == 2) (
clS Try.prog F.flood_Flood_forget [.pointer f] w14 true [] fun r18 w19 =>
J15 (()) w19) (
J15 (()) w14)) (fun (z16 : Unit) w17 => ∀ _ : Nat → Value,
ld1 (.i .i64) (p1.add 5) w17 fun x20 =>
ld1 (.i .i64) (p1.add 4) w17 fun x21 =>
alK [.int .i64 0, .int .i64 0, .int .i64 0] T.table_Entry w17 fun p22 w23 =>
stN [.int .i64 local_, .int .i64 (IntKind.wrap .i64 (x20 - local_)), .int .i64 (IntKind.wrap .i64 (x21 + 1))] p22 0 w23 fun w24 =>
CutT (fun (J25 : Unit → World → Prop) =>
drK w24 fun w28 =>
ncK f fun a29 =>
ldN [(.i .i64), (.i .i64), (.i .i64)] p22 0 w28 fun x30 =>
clS Try.prog F.table_Table_Add [.pointer (some (a29.add 6)), .agg #[.int .i64 x30.1, .int .i64 x30.2.1, .int .i64 x30.2.2.1]] w28 false [(false, [(.i .i64)])] fun r31 w32 =>
Hold [] w32 ∧ (
brB (r31.1.1 != 0) (
ncK f fun a33 =>
clS Try.prog F.table_Table_Clear [.pointer (some (a33.add 6))] w32 true [] fun r34 w35 =>
drK w35 fun w36 =>
ncK f fun a37 =>
ldN [(.i .i64), (.i .i64), (.i .i64)] p22 0 w36 fun x38 =>
clS Try.prog F.table_Table_Add [.pointer (some (a37.add 6)), .agg #[.int .i64 x38.1, .int .i64 x38.2.1, .int .i64 x38.2.2.1]] w36 false [(false, [(.i .i64)])] fun r39 w40 =>
Hold [] w40 ∧ (
J25 (()) w40)) (
J25 (()) w32))) (fun (z26 : Unit) w27 => ∀ _ : Nat → Value,
ld1 (.i .i64) (p1.add 5) w27 fun x41 =>
ld1 (.i .i64) (p1.add 4) w27 fun x42 =>
ncK f fun a43 =>
stN [.int .i64 local_, .int .i64 x41, .int .i64 (IntKind.wrap .i64 (x42 + 1))] (a43.add 7) 0 w27 fun w44 =>
R ((r13.1.1, ()), ()) w44)))))))))))
set_option maxRecDepth 100000 in
theorem flood_Flood_Hear.eq (f : Option Addr) (s0 : Int) (s1 : Int) (s2 : Int) (s3 : Int) (s4 : Int) (s5 : Int) (local_ : Int) (w : World) (R : Value → World → Prop) : wpF Try.prog Try.f26 (.s .n (.s .n (.s (.pl (.tk 0 (.tk 1 (.tk 2 (.tk 3 (.tk 4 (.tk 5 (.tk 6 (.tk 7 (.tk 8 (.tk 9 (.tk 10 (.ef 11 [3, 5] (.tk 12 .z)))))))))))))) (.s .n (.ct [] .n (.s .n (.ct [] (.s (.pl (.tk 0 (.tk 1 (.tk 2 (.tk 3 (.ef 4 [3] (.tk 5 .z))))))) (.s (.s .n (.pl (.tk 0 (.tk 1 (.tk 2 (.tk 3 (.ef 4 [3] .z))))))) .n)) .n))))))) [.pointer f, .agg #[.int .i64 s0, .int .i64 s1, .int .u16 s2, .int .u16 s3, .int .i64 s4, .int .i64 s5], .int .i64 local_] w R = flood_Flood_Hear.wp f s0 s1 s2 s3 s4 s5 local_ w (fun r w => R (encR false [(false, [(.i .i64)])] r) w) := by kernel_rfl
theorem flood_Flood_Hear.ok {f : Option Addr} {s0 : Int} {s1 : Int} {s2 : Int} {s3 : Int} {s4 : Int} {s5 : Int} {local_ : Int} {w : World} {R : TR [(false, [(.i .i64)])] → World → Prop} (h : flood_Flood_Hear.wp f s0 s1 s2 s3 s4 s5 local_ w R) : clS Try.prog F.flood_Flood_Hear [.pointer f, .agg #[.int .i64 s0, .int .i64 s1, .int .u16 s2, .int .u16 s3, .int .i64 s4, .int .i64 s5], .int .i64 local_] w false [(false, [(.i .i64)])] R :=
  ok_of Try_follows Try.func26 (fun R => flood_Flood_Hear.wp f s0 s1 s2 s3 s4 s5 local_ w R) (flood_Flood_Hear.eq f s0 s1 s2 s3 s4 s5 local_ w) rfl h
/-! ### law16_sync -/
set_option maxRecDepth 100000 in
def law16_sync.wp (p0 : Int) (p1 : Int) (p2 : Int) (p3 : Int) (p4 : Int) (p5 : Int) (p6 : Int) (p7 : Int) (p8 : Int) (p9 : Int) (p10 : Int) (p11 : Int) (p12 : Int) (p13 : Int) (w : World) (R : TR [(true, [(.i .i64), (.i .i64), (.i .u16), (.i .u16), (.i .i64), (.i .i64)])] → World → Prop) : Prop :=
alK [.int .i64 p0, .int .i64 p1, .int .i64 p2, .int .i64 p3, .int .u16 p4, .int .u16 p5, .int .i64 p6, .int .i64 p7, .int .i64 p8, .int .i64 p9, .int .i64 p10, .int .i64 p11, .int .i64 p12, .int .i64 p13] T.ref05_Plain w fun p1 w2 =>
alK [.int .i64 0, .int .i64 0, .int .u16 0, .int .u16 0, .int .i64 0, .int .i64 0] T.frame_Sync w2 fun p3 w4 =>
ld1 (.i .i64) (p1.add 1) w4 fun x5 =>
ld1 (.i .i64) (p1.add 3) w4 fun x6 =>
ld1 (.i .u16) (p1.add 4) w4 fun x7 =>
ld1 (.i .u16) (p1.add 5) w4 fun x8 =>
ld1 (.i .i64) (p1.add 6) w4 fun x9 =>
ld1 (.i .i64) (p1.add 7) w4 fun x10 =>
stN [.int .i64 x5, .int .i64 x6, .int .u16 x7, .int .u16 x8, .int .i64 x9, .int .i64 x10] p3 0 w4 fun w11 =>
ldN [(.i .i64), (.i .i64), (.i .u16), (.i .u16), (.i .i64), (.i .i64)] p3 0 w11 fun x12 =>
R ((x12.1, x12.2.1, x12.2.2.1, x12.2.2.2.1, x12.2.2.2.2.1, x12.2.2.2.2.2.1, ()), ()) w11
set_option maxRecDepth 100000 in
theorem law16_sync.eq (p0 : Int) (p1 : Int) (p2 : Int) (p3 : Int) (p4 : Int) (p5 : Int) (p6 : Int) (p7 : Int) (p8 : Int) (p9 : Int) (p10 : Int) (p11 : Int) (p12 : Int) (p13 : Int) (w : World) (R : Value → World → Prop) : wpF Try.prog Try.f27 .n [.agg #[.int .i64 p0, .int .i64 p1, .int .i64 p2, .int .i64 p3, .int .u16 p4, .int .u16 p5, .int .i64 p6, .int .i64 p7, .int .i64 p8, .int .i64 p9, .int .i64 p10, .int .i64 p11, .int .i64 p12, .int .i64 p13]] w R = law16_sync.wp p0 p1 p2 p3 p4 p5 p6 p7 p8 p9 p10 p11 p12 p13 w (fun r w => R (encR false [(true, [(.i .i64), (.i .i64), (.i .u16), (.i .u16), (.i .i64), (.i .i64)])] r) w) := by kernel_rfl
theorem law16_sync.ok {p0 : Int} {p1 : Int} {p2 : Int} {p3 : Int} {p4 : Int} {p5 : Int} {p6 : Int} {p7 : Int} {p8 : Int} {p9 : Int} {p10 : Int} {p11 : Int} {p12 : Int} {p13 : Int} {w : World} {R : TR [(true, [(.i .i64), (.i .i64), (.i .u16), (.i .u16), (.i .i64), (.i .i64)])] → World → Prop} (h : law16_sync.wp p0 p1 p2 p3 p4 p5 p6 p7 p8 p9 p10 p11 p12 p13 w R) : clS Try.prog F.law16_sync [.agg #[.int .i64 p0, .int .i64 p1, .int .i64 p2, .int .i64 p3, .int .u16 p4, .int .u16 p5, .int .i64 p6, .int .i64 p7, .int .i64 p8, .int .i64 p9, .int .i64 p10, .int .i64 p11, .int .i64 p12, .int .i64 p13]] w false [(true, [(.i .i64), (.i .i64), (.i .u16), (.i .u16), (.i .i64), (.i .i64)])] R :=
  ok_of Try_follows Try.func27 (fun R => law16_sync.wp p0 p1 p2 p3 p4 p5 p6 p7 p8 p9 p10 p11 p12 p13 w R) (law16_sync.eq p0 p1 p2 p3 p4 p5 p6 p7 p8 p9 p10 p11 p12 p13 w) rfl h
/-! ### elect_Elect_Root -/
set_option maxRecDepth 100000 in
def elect_Elect_Root.wp (e : Option Addr) (w : World) (R : TR [(false, [(.i .i64)])] → World → Prop) : Prop :=
brB (Option.isNone e) (
R (((Int.negSucc 0), ()), ()) w) (
ncK e fun a1 =>
ld1 (.i .i64) (a1.add 5) w fun x2 =>
R ((x2, ()), ()) w)
set_option maxRecDepth 100000 in
theorem elect_Elect_Root.eq (e : Option Addr) (w : World) (R : Value → World → Prop) : wpF Try.prog Try.f28 .n [.pointer e] w R = elect_Elect_Root.wp e w (fun r w => R (encR false [(false, [(.i .i64)])] r) w) := by kernel_rfl
theorem elect_Elect_Root.ok {e : Option Addr} {w : World} {R : TR [(false, [(.i .i64)])] → World → Prop} (h : elect_Elect_Root.wp e w R) : clS Try.prog F.elect_Elect_Root [.pointer e] w false [(false, [(.i .i64)])] R :=
  ok_of Try_follows Try.func28 (fun R => elect_Elect_Root.wp e w R) (elect_Elect_Root.eq e w) rfl h
/-! ### flood_Flood_Beat -/
set_option maxRecDepth 100000 in
def flood_Flood_Beat.wp (f : Option Addr) (local_ : Int) (w : World) (R : TR [(true, [(.i .i64), (.i .i64), (.i .u16), (.i .u16), (.i .i64), (.i .i64)]), (false, [.b])] → World → Prop) : Prop :=
alK [.int .i64 0, .int .i64 0, .int .u16 0, .int .u16 0, .int .i64 0, .int .i64 0] T.frame_Sync w fun p1 w2 =>
brB (Option.isNone f) (
stN [.int .i64 0, .int .i64 0, .int .u16 0, .int .u16 0, .int .i64 0, .int .i64 0] p1 0 w2 fun w3 =>
ldN [(.i .i64), (.i .i64), (.i .u16), (.i .u16), (.i .i64), (.i .i64)] p1 0 w3 fun x4 =>
R ((x4.1, x4.2.1, x4.2.2.1, x4.2.2.2.1, x4.2.2.2.2.1, x4.2.2.2.2.2.1, ()), (false, ()), ()) w3) (
CutT (fun (J5 : Unit → World → Prop) =>
ncK f fun a8 =>
ld1 .p a8 w2 fun x9 =>
clS Try.prog F.elect_Elect_Beat [.pointer x9] w2 false [(false, [.b])] fun r10 w11 =>
brB r10.1.1 (
clS Try.prog F.flood_Flood_forget [.pointer f] w11 true [] fun r12 w13 =>
J5 (()) w13) (
J5 (()) w11)) (fun (z6 : Unit) w7 => ∀ _ : Nat → Value,
brB (decide (local_ < 0)) (
stN [.int .i64 0, .int .i64 0, .int .u16 0, .int .u16 0, .int .i64 0, .int .i64 0] p1 0 w7 fun w14 =>
ldN [(.i .i64), (.i .i64), (.i .u16), (.i .u16), (.i .i64), (.i .i64)] p1 0 w14 fun x15 =>
R ((x15.1, x15.2.1, x15.2.2.1, x15.2.2.2.1, x15.2.2.2.2.1, x15.2.2.2.2.2.1, ()), (false, ()), ()) w14) (
brB (decide (local_ > 1125899906842624)) (
stN [.int .i64 0, .int .i64 0, .int .u16 0, .int .u16 0, .int .i64 0, .int .i64 0] p1 0 w7 fun w16 =>
ldN [(.i .i64), (.i .i64), (.i .u16), (.i .u16), (.i .i64), (.i .i64)] p1 0 w16 fun x17 =>
R ((x17.1, x17.2.1, x17.2.2.1, x17.2.2.2.1, x17.2.2.2.2.1, x17.2.2.2.2.2.1, ()), (false, ()), ()) w16) (
clS Try.prog F.flood_Flood_word [.pointer f, .int .i64 local_] w7 true [(true, [(.i .i64), (.i .i64), (.i .u16), (.i .u16), (.i .i64), (.i .i64)]), (false, [.b])] fun r18 w19 =>
alK [.int .i64 0, .int .i64 0, .int .u16 0, .int .u16 0, .int .i64 0, .int .i64 0] T.frame_Sync w19 fun p20 w21 =>
stN [.int .i64 r18.1.1, .int .i64 r18.1.2.1, .int .u16 r18.1.2.2.1, .int .u16 r18.1.2.2.2.1, .int .i64 r18.1.2.2.2.2.1, .int .i64 r18.1.2.2.2.2.2.1] p20 0 w21 fun w22 =>
brB (!r18.2.1.1) (
stN [.int .i64 0, .int .i64 0, .int .u16 0, .int .u16 0, .int .i64 0, .int .i64 0] p1 0 w22 fun w23 =>
ldN [(.i .i64), (.i .i64), (.i .u16), (.i .u16), (.i .i64), (.i .i64)] p1 0 w23 fun x24 =>
R ((x24.1, x24.2.1, x24.2.2.1, x24.2.2.2.1, x24.2.2.2.2.1, x24.2.2.2.2.2.1, ()), (false, ()), ()) w23) (
ldN [(.i .i64), (.i .i64), (.i .u16), (.i .u16), (.i .i64), (.i .i64)] p20 0 w22 fun x25 =>
stN [.int .i64 x25.1, .int .i64 x25.2.1, .int .u16 x25.2.2.1, .int .u16 x25.2.2.2.1, .int .i64 x25.2.2.2.2.1, .int .i64 x25.2.2.2.2.2.1] p1 0 w22 fun w26 =>
ldN [(.i .i64), (.i .i64), (.i .u16), (.i .u16), (.i .i64), (.i .i64)] p1 0 w26 fun x27 =>
R ((x27.1, x27.2.1, x27.2.2.1, x27.2.2.2.1, x27.2.2.2.2.1, x27.2.2.2.2.2.1, ()), (true, ()), ()) w26)))))
set_option maxRecDepth 100000 in
theorem flood_Flood_Beat.eq (f : Option Addr) (local_ : Int) (w : World) (R : Value → World → Prop) : wpF Try.prog Try.f29 (.s .n (.s .n (.ct [] .n .n))) [.pointer f, .int .i64 local_] w R = flood_Flood_Beat.wp f local_ w (fun r w => R (encR true [(true, [(.i .i64), (.i .i64), (.i .u16), (.i .u16), (.i .i64), (.i .i64)]), (false, [.b])] r) w) := by kernel_rfl
theorem flood_Flood_Beat.ok {f : Option Addr} {local_ : Int} {w : World} {R : TR [(true, [(.i .i64), (.i .i64), (.i .u16), (.i .u16), (.i .i64), (.i .i64)]), (false, [.b])] → World → Prop} (h : flood_Flood_Beat.wp f local_ w R) : clS Try.prog F.flood_Flood_Beat [.pointer f, .int .i64 local_] w true [(true, [(.i .i64), (.i .i64), (.i .u16), (.i .u16), (.i .i64), (.i .i64)]), (false, [.b])] R :=
  ok_of Try_follows Try.func29 (fun R => flood_Flood_Beat.wp f local_ w R) (flood_Flood_Beat.eq f local_ w) rfl h
/-! ### elect_Elect_Mine -/
set_option maxRecDepth 100000 in
def elect_Elect_Mine.wp (e : Option Addr) (w : World) (R : TR [(false, [.b])] → World → Prop) : Prop :=
drK w fun w1 =>
brB (!(Option.isNone e)) (
ncK e fun a2 =>
ld1 (.i .i64) (a2.add 5) w1 fun x3 =>
ncK e fun a4 =>
ld1 (.i .i64) a4 w1 fun x5 =>
R (((x3 == x5), ()), ()) w1) (
R ((false, ()), ()) w1)
set_option maxRecDepth 100000 in
theorem elect_Elect_Mine.eq (e : Option Addr) (w : World) (R : Value → World → Prop) : wpF Try.prog Try.f30 (.s .n (.s (.pl (.tk 0 (.tk 1 (.tk 2 (.tk 3 (.tk 4 (.tk 5 (.tk 6 (.tk 7 (.tk 8 (.tk 9 (.tk 10 (.tk 11 (.tk 12 (.tk 13 .z))))))))))))))) .n)) [.pointer e] w R = elect_Elect_Mine.wp e w (fun r w => R (encR false [(false, [.b])] r) w) := by kernel_rfl
theorem elect_Elect_Mine.ok {e : Option Addr} {w : World} {R : TR [(false, [.b])] → World → Prop} (h : elect_Elect_Mine.wp e w R) : clS Try.prog F.elect_Elect_Mine [.pointer e] w false [(false, [.b])] R :=
  ok_of Try_follows Try.func30 (fun R => elect_Elect_Mine.wp e w R) (elect_Elect_Mine.eq e w) rfl h
end Go.Proofs.Ytgpgdhopmifbpaa
