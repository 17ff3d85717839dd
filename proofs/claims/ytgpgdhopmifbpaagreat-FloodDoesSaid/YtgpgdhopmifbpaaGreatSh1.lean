import Derived.Test.YtgpgdhopmifbpaaGreatNm
namespace Go.Proofs.YtgpgdhopmifbpaaGreat
open Go.Eng
set_option linter.unusedVariables false
/-! ### flood_New -/
set_option maxRecDepth 100000 in
def flood_New.wp (me : Int) (r0 : Int) (r1 : Int) (r2 : Int) (r3 : Int) (w : World) (R : TR [(false, [.p]), (false, [(.i .i64)])] → World → Prop) : Prop :=
alK [.int .i64 r0, .int .i64 r1, .int .i64 r2, .int .i64 r3] T.flood_Rules w fun p1 w2 =>
ldN [(.i .i64), (.i .i64), (.i .i64), (.i .i64)] p1 0 w2 fun x3 =>
clS Tryz.prog F.flood_Rules_Good [.agg #[.int .i64 x3.1, .int .i64 x3.2.1, .int .i64 x3.2.2.1, .int .i64 x3.2.2.2.1]] w2 false [(false, [.b])] fun r4 w5 =>
brB (!r4.1.1) (
R ((none, ()), (1, ()), ()) w5) (
ldN [(.i .i64), (.i .i64)] p1 0 w5 fun x6 =>
clS Tryz.prog F.elect_New [.int .i64 me, .agg #[.int .i64 x6.1, .int .i64 x6.2.1]] w5 true [(false, [.p]), (false, [(.i .i64)])] fun r7 w8 =>
brB (r7.2.1.1 != 0) (
R ((none, ()), (r7.2.1.1, ()), ()) w8) (
ldN [(.i .i64), (.i .i64), (.i .i64), (.i .i64)] p1 0 w8 fun x9 =>
alK [.pointer r7.1.1, .int .i64 me, .int .i64 x9.1, .int .i64 x9.2.1, .int .i64 x9.2.2.1, .int .i64 x9.2.2.2.1, .slice none 0 0, .int .i64 0, .int .i64 0, .int .i64 0] T.flood_Flood w8 fun p10 w11 =>
R ((some p10, ()), (0, ()), ()) w11))
set_option maxRecDepth 100000 in
theorem flood_New.eq (me : Int) (r0 : Int) (r1 : Int) (r2 : Int) (r3 : Int) (w : World) (R : Value → World → Prop) : wpF Tryz.prog Tryz.f6 .n [.int .i64 me, .agg #[.int .i64 r0, .int .i64 r1, .int .i64 r2, .int .i64 r3]] w R = flood_New.wp me r0 r1 r2 r3 w (fun r w => R (encR true [(false, [.p]), (false, [(.i .i64)])] r) w) := by kernel_rfl
theorem flood_New.ok {me : Int} {r0 : Int} {r1 : Int} {r2 : Int} {r3 : Int} {w : World} {R : TR [(false, [.p]), (false, [(.i .i64)])] → World → Prop} (h : flood_New.wp me r0 r1 r2 r3 w R) : clS Tryz.prog F.flood_New [.int .i64 me, .agg #[.int .i64 r0, .int .i64 r1, .int .i64 r2, .int .i64 r3]] w true [(false, [.p]), (false, [(.i .i64)])] R :=
  ok_of Tryz_follows Tryz.func6 (fun R => flood_New.wp me r0 r1 r2 r3 w R) (flood_New.eq me r0 r1 r2 r3 w) rfl h
/-! ### law16_rules -/
set_option maxRecDepth 100000 in
def law16_rules.wp (r0 : Int) (r1 : Int) (r2 : Int) (r3 : Int) (w : World) (R : TR [(true, [(.i .i64), (.i .i64), (.i .i64), (.i .i64)])] → World → Prop) : Prop :=
alK [.int .i64 r0, .int .i64 r1, .int .i64 r2, .int .i64 r3] T.law16_Rule w fun p1 w2 =>
alK [.int .i64 0, .int .i64 0, .int .i64 0, .int .i64 0] T.flood_Rules w2 fun p3 w4 =>
ld1 (.i .i64) p1 w4 fun x5 =>
ld1 (.i .i64) (p1.add 1) w4 fun x6 =>
ld1 (.i .i64) (p1.add 2) w4 fun x7 =>
ld1 (.i .i64) (p1.add 3) w4 fun x8 =>
stN [.int .i64 x5, .int .i64 x6, .int .i64 x7, .int .i64 x8] p3 0 w4 fun w9 =>
ldN [(.i .i64), (.i .i64), (.i .i64), (.i .i64)] p3 0 w9 fun x10 =>
R ((x10.1, x10.2.1, x10.2.2.1, x10.2.2.2.1, ()), ()) w9
set_option maxRecDepth 100000 in
theorem law16_rules.eq (r0 : Int) (r1 : Int) (r2 : Int) (r3 : Int) (w : World) (R : Value → World → Prop) : wpF Tryz.prog Tryz.f7 .n [.agg #[.int .i64 r0, .int .i64 r1, .int .i64 r2, .int .i64 r3]] w R = law16_rules.wp r0 r1 r2 r3 w (fun r w => R (encR false [(true, [(.i .i64), (.i .i64), (.i .i64), (.i .i64)])] r) w) := by kernel_rfl
theorem law16_rules.ok {r0 : Int} {r1 : Int} {r2 : Int} {r3 : Int} {w : World} {R : TR [(true, [(.i .i64), (.i .i64), (.i .i64), (.i .i64)])] → World → Prop} (h : law16_rules.wp r0 r1 r2 r3 w R) : clS Tryz.prog F.law16_rules [.agg #[.int .i64 r0, .int .i64 r1, .int .i64 r2, .int .i64 r3]] w false [(true, [(.i .i64), (.i .i64), (.i .i64), (.i .i64)])] R :=
  ok_of Tryz_follows Tryz.func7 (fun R => law16_rules.wp r0 r1 r2 r3 w R) (law16_rules.eq r0 r1 r2 r3 w) rfl h
/-! ### flood_Flood_Boot -/
set_option maxRecDepth 100000 in
def flood_Flood_Boot.wp (f : Option Addr) (boot : Int) (w : World) (R : TR [] → World → Prop) : Prop :=
brB (!(Option.isNone f)) (
ncK f fun a1 =>
ld1 .p a1 w fun x2 =>
clS Tryz.prog F.elect_Elect_Boot [.pointer x2, .int .u16 boot] w true [] fun r3 w4 =>
clS Tryz.prog F.flood_Flood_forget [.pointer f] w4 true [] fun r5 w6 =>
R (()) w6) (
R (()) w)
set_option maxRecDepth 100000 in
theorem flood_Flood_Boot.eq (f : Option Addr) (boot : Int) (w : World) (R : Value → World → Prop) : wpF Tryz.prog Tryz.f8 .n [.pointer f, .int .u16 boot] w R = flood_Flood_Boot.wp f boot w (fun r w => R (encR true [] r) w) := by kernel_rfl
theorem flood_Flood_Boot.ok {f : Option Addr} {boot : Int} {w : World} {R : TR [] → World → Prop} (h : flood_Flood_Boot.wp f boot w R) : clS Tryz.prog F.flood_Flood_Boot [.pointer f, .int .u16 boot] w true [] R :=
  ok_of Tryz_follows Tryz.func8 (fun R => flood_Flood_Boot.wp f boot w R) (flood_Flood_Boot.eq f boot w) rfl h
/-! ### flood_Flood_Beat -/
set_option maxRecDepth 100000 in
def flood_Flood_Beat.wp (f : Option Addr) (local_ : Int) (w : World) (R : TR [(true, [(.i .i64), (.i .i64), (.i .u16), (.i .u16), (.i .i64), (.i .i64)]), (false, [.b])] → World → Prop) : Prop :=
alK [.int .i64 0, .int .i64 0, .int .u16 0, .int .u16 0, .int .i64 0, .int .i64 0] T.frame_Sync w fun p1 w2 =>
brB (Option.isNone f) (
stN [.int .i64 0, .int .i64 0, .int .u16 0, .int .u16 0, .int .i64 0, .int .i64 0] p1 0 w2 fun w3 =>
ldN [(.i .i64), (.i .i64), (.i .u16), (.i .u16), (.i .i64), (.i .i64)] p1 0 w3 fun x4 =>
R ((x4.1, x4.2.1, x4.2.2.1, x4.2.2.2.1, x4.2.2.2.2.1, x4.2.2.2.2.2.1, ()), (false, ()), ()) w3) (
CutT (fun (J5 : Unit → World → Prop) =>
ncK f fun a8 =>
ld1 .p a8 w2 fun x9 =>
clS Tryz.prog F.elect_Elect_Beat [.pointer x9] w2 false [(false, [.b])] fun r10 w11 =>
brB r10.1.1 (
clS Tryz.prog F.flood_Flood_forget [.pointer f] w11 true [] fun r12 w13 =>
J5 (()) w13) (
J5 (()) w11)) (fun (z6 : Unit) w7 => ∀ _ : Nat → Value,
brB (decide (local_ < 0)) (
stN [.int .i64 0, .int .i64 0, .int .u16 0, .int .u16 0, .int .i64 0, .int .i64 0] p1 0 w7 fun w14 =>
ldN [(.i .i64), (.i .i64), (.i .u16), (.i .u16), (.i .i64), (.i .i64)] p1 0 w14 fun x15 =>
R ((x15.1, x15.2.1, x15.2.2.1, x15.2.2.2.1, x15.2.2.2.2.1, x15.2.2.2.2.2.1, ()), (false, ()), ()) w14) (
brB (decide (local_ > 1125899906842624)) (
stN [.int .i64 0, .int .i64 0, .int .u16 0, .int .u16 0, .int .i64 0, .int .i64 0] p1 0 w7 fun w16 =>
ldN [(.i .i64), (.i .i64), (.i .u16), (.i .u16), (.i .i64), (.i .i64)] p1 0 w16 fun x17 =>
R ((x17.1, x17.2.1, x17.2.2.1, x17.2.2.2.1, x17.2.2.2.2.1, x17.2.2.2.2.2.1, ()), (false, ()), ()) w16) (
clS Tryz.prog F.flood_Flood_word [.pointer f, .int .i64 local_] w7 true [(true, [(.i .i64), (.i .i64), (.i .u16), (.i .u16), (.i .i64), (.i .i64)]), (false, [.b])] fun r18 w19 =>
alK [.int .i64 0, .int .i64 0, .int .u16 0, .int .u16 0, .int .i64 0, .int .i64 0] T.frame_Sync w19 fun p20 w21 =>
stN [.int .i64 r18.1.1, .int .i64 r18.1.2.1, .int .u16 r18.1.2.2.1, .int .u16 r18.1.2.2.2.1, .int .i64 r18.1.2.2.2.2.1, .int .i64 r18.1.2.2.2.2.2.1] p20 0 w21 fun w22 =>
brB (!r18.2.1.1) (
stN [.int .i64 0, .int .i64 0, .int .u16 0, .int .u16 0, .int .i64 0, .int .i64 0] p1 0 w22 fun w23 =>
ldN [(.i .i64), (.i .i64), (.i .u16), (.i .u16), (.i .i64), (.i .i64)] p1 0 w23 fun x24 =>
R ((x24.1, x24.2.1, x24.2.2.1, x24.2.2.2.1, x24.2.2.2.2.1, x24.2.2.2.2.2.1, ()), (false, ()), ()) w23) (
ldN [(.i .i64), (.i .i64), (.i .u16), (.i .u16), (.i .i64), (.i .i64)] p20 0 w22 fun x25 =>
stN [.int .i64 x25.1, .int .i64 x25.2.1, .int .u16 x25.2.2.1, .int .u16 x25.2.2.2.1, .int .i64 x25.2.2.2.2.1, .int .i64 x25.2.2.2.2.2.1] p1 0 w22 fun w26 =>
ldN [(.i .i64), (.i .i64), (.i .u16), (.i .u16), (.i .i64), (.i .i64)] p1 0 w26 fun x27 =>
R ((x27.1, x27.2.1, x27.2.2.1, x27.2.2.2.1, x27.2.2.2.2.1, x27.2.2.2.2.2.1, ()), (true, ()), ()) w26)))))
set_option maxRecDepth 100000 in
theorem flood_Flood_Beat.eq (f : Option Addr) (local_ : Int) (w : World) (R : Value → World → Prop) : wpF Tryz.prog Tryz.f9 (.s .n (.s .n (.ct [] .n .n))) [.pointer f, .int .i64 local_] w R = flood_Flood_Beat.wp f local_ w (fun r w => R (encR true [(true, [(.i .i64), (.i .i64), (.i .u16), (.i .u16), (.i .i64), (.i .i64)]), (false, [.b])] r) w) := by kernel_rfl
theorem flood_Flood_Beat.ok {f : Option Addr} {local_ : Int} {w : World} {R : TR [(true, [(.i .i64), (.i .i64), (.i .u16), (.i .u16), (.i .i64), (.i .i64)]), (false, [.b])] → World → Prop} (h : flood_Flood_Beat.wp f local_ w R) : clS Tryz.prog F.flood_Flood_Beat [.pointer f, .int .i64 local_] w true [(true, [(.i .i64), (.i .i64), (.i .u16), (.i .u16), (.i .i64), (.i .i64)]), (false, [.b])] R :=
  ok_of Tryz_follows Tryz.func9 (fun R => flood_Flood_Beat.wp f local_ w R) (flood_Flood_Beat.eq f local_ w) rfl h
/-! ### flood_Flood_Time -/
set_option maxRecDepth 100000 in
def flood_Flood_Time.wp (f : Option Addr) (local_ : Int) (w : World) (R : TR [(false, [(.i .i64)]), (false, [(.i .i64)]), (false, [(.i .i64)])] → World → Prop) : Prop :=
brB (Option.isNone f) (
R ((0, ()), (0, ()), (2, ()), ()) w) (
clS Tryz.prog F.flood_Flood_Synced [.pointer f] w false [(false, [.b])] fun r1 w2 =>
brB (!r1.1.1) (
R ((0, ()), (0, ()), (9, ()), ()) w2) (
CutT (fun (J3 : ((Bool) × Unit) → World → Prop) =>
brB (decide (local_ < 0)) (
J3 (true, ()) w2) (
J3 (decide (local_ > 1125899906842624), ()) w2)) (fun (z4 : (Bool) × Unit) w5 => ∀ _ : Nat → Value,
brB z4.1 (
R ((0, ()), (0, ()), (8, ()), ()) w5) (
ncK f fun a6 =>
ld1 .p a6 w5 fun x7 =>
clS Tryz.prog F.elect_Elect_Mine [.pointer x7] w5 false [(false, [.b])] fun r8 w9 =>
brB r8.1.1 (
R ((local_, ()), (0, ()), (0, ()), ()) w9) (
CutT (fun (J10 : ((Addr) × Unit) → World → Prop) =>
drK w9 fun w13 =>
ncK f fun a14 =>
ld1 (.i .i64) ((a14.add 2).add 3) w13 fun x15 =>
ncK f fun a16 =>
(
clS Tryz.prog F.globe_Of [.int .i64 x15, .pointer (some (a16.add 6))] w13 true [(true, [(.i .i64), (.i .i64), (.i .i64), (.i .i64), (.i .i64)]), (false, [.b])] fun r17 w18 =>
Hold [(4, ((a14.add 2).add 3), (w13.cell? ((a14.add 2).add 3)).getD undef)] w18 ∧ (
alK [.int .i64 0, .int .i64 0, .int .i64 0, .int .i64 0, .int .i64 0] T.globe_Map w18 fun p19 w20 =>
Hold [(4, ((a14.add 2).add 3), (w13.cell? ((a14.add 2).add 3)).getD undef)] w20 ∧ (
stN [.int .i64 r17.1.1, .int .i64 r17.1.2.1, .int .i64 r17.1.2.2.1, .int .i64 r17.1.2.2.2.1, .int .i64 r17.1.2.2.2.2.1] p19 0 w20 fun w21 =>
Hold [] w21 ∧ (
J10 (p19, ()) w21)))) ∧ (
alK [.int .i64 0, .int .i64 0, .int .i64 0, .int .i64 0, .int .i64 0] T.globe_Map w13 fun p22 w23 =>
Hold [(4, ((a14.add 2).add 3), (w13.cell? ((a14.add 2).add 3)).getD undef)] w23 ∧ (
clS Tryz.prog F.globe_Of [.int .i64 x15, .pointer (some (a16.add 6))] w23 true [(true, [(.i .i64), (.i .i64), (.i .i64), (.i .i64), (.i .i64)]), (false, [.b])] fun r24 w25 =>
Hold [] w25 ∧ (
stN [.int .i64 r24.1.1, .int .i64 r24.1.2.1, .int .i64 r24.1.2.2.1, .int .i64 r24.1.2.2.2.1, .int .i64 r24.1.2.2.2.2.1] p22 0 w25 fun w26 =>
Hold [] w26 ∧ (
J10 (p22, ()) w26))))) (fun (z11 : (Addr) × Unit) w12 => ∀ _ : Nat → Value,
ldN [(.i .i64), (.i .i64), (.i .i64), (.i .i64), (.i .i64)] z11.1 0 w12 fun x27 =>
clS Tryz.prog F.globe_Map_Global [.agg #[.int .i64 x27.1, .int .i64 x27.2.1, .int .i64 x27.2.2.1, .int .i64 x27.2.2.2.1, .int .i64 x27.2.2.2.2.1], .int .i64 local_] w12 true [(false, [(.i .i64)]), (false, [.b])] fun r28 w29 =>
brB (!r28.2.1.1) (
R ((0, ()), (0, ()), (8, ()), ()) w29) (
drK w29 fun w30 =>
ld1 (.i .i64) (z11.1.add 4) w30 fun x31 =>
R ((r28.1.1, ()), (x31, ()), (0, ()), ()) w30)))))))
set_option maxRecDepth 100000 in
theorem flood_Flood_Time.eq (f : Option Addr) (local_ : Int) (w : World) (R : Value → World → Prop) : wpF Tryz.prog Tryz.f10 (.s .n (.s (.s .n (.s .n (.s .n (.s .n (.ct [(18, .b)] .n .n))))) (.ct [(7, .a)] (.pl (.tk 0 (.tk 1 (.tk 2 (.tk 3 (.tk 4 (.tk 5 (.tk 6 (.tk 7 (.two 8 12 (.tk 9 (.tk 10 (.tk 11 (.ef 12 [] (.ef 13 [4] (.tk 14 .z)))))) (.ef 8 [4] (.tk 9 (.tk 10 (.tk 11 (.ef 13 [] (.tk 14 .z)))))))))))))))) (.s .n (.s .n (.s (.pl (.tk 0 (.tk 1 (.tk 2 (.tk 3 (.tk 4 (.tk 5 .z))))))) .n)))))) [.pointer f, .int .i64 local_] w R = flood_Flood_Time.wp f local_ w (fun r w => R (encR true [(false, [(.i .i64)]), (false, [(.i .i64)]), (false, [(.i .i64)])] r) w) := by kernel_rfl
theorem flood_Flood_Time.ok {f : Option Addr} {local_ : Int} {w : World} {R : TR [(false, [(.i .i64)]), (false, [(.i .i64)]), (false, [(.i .i64)])] → World → Prop} (h : flood_Flood_Time.wp f local_ w R) : clS Tryz.prog F.flood_Flood_Time [.pointer f, .int .i64 local_] w true [(false, [(.i .i64)]), (false, [(.i .i64)]), (false, [(.i .i64)])] R :=
  ok_of Tryz_follows Tryz.func10 (fun R => flood_Flood_Time.wp f local_ w R) (flood_Flood_Time.eq f local_ w) rfl h
/-! ### flood_Flood_Hear -/
set_option maxRecDepth 100000 in
def flood_Flood_Hear.wp (f : Option Addr) (s0 : Int) (s1 : Int) (s2 : Int) (s3 : Int) (s4 : Int) (s5 : Int) (local_ : Int) (w : World) (R : TR [(false, [(.i .i64)])] → World → Prop) : Prop :=
alK [.int .i64 s0, .int .i64 s1, .int .u16 s2, .int .u16 s3, .int .i64 s4, .int .i64 s5] T.frame_Sync w fun p1 w2 =>
brB (Option.isNone f) (
R ((0, ()), ()) w2) (
ld1 (.i .i64) (p1.add 4) w2 fun x3 =>
brB (decide (x3 < 0)) (
R ((0, ()), ()) w2) (
ld1 (.i .i64) (p1.add 4) w2 fun x4 =>
brB (decide (x4 ≥ 63)) (
R ((0, ()), ()) w2) (
brB (decide (local_ < 0)) (
R ((0, ()), ()) w2) (
brB (decide (local_ > 1125899906842624)) (
R ((0, ()), ()) w2) (
ld1 (.i .i64) (p1.add 5) w2 fun x5 =>
brB (decide (x5 < 0)) (
R ((0, ()), ()) w2) (
ld1 (.i .i64) (p1.add 5) w2 fun x6 =>
brB (decide (x6 > 1125899906842624)) (
R ((0, ()), ()) w2) (
drK w2 fun w7 =>
ncK f fun a8 =>
ld1 .p a8 w7 fun x9 =>
ld1 (.i .i64) (p1.add 1) w7 fun x10 =>
ld1 (.i .u16) (p1.add 2) w7 fun x11 =>
ld1 (.i .u16) (p1.add 3) w7 fun x12 =>
clS Tryz.prog F.elect_Elect_Hear [.pointer x9, .int .i64 x10, .agg #[.int .u16 x11, .int .u16 x12]] w7 false [(false, [(.i .i64)])] fun r13 w14 =>
Hold [(9, (p1.add 3), (w7.cell? (p1.add 3)).getD undef), (7, (p1.add 2), (w7.cell? (p1.add 2)).getD undef)] w14 ∧ (
brB (r13.1.1 == 0) (
R ((r13.1.1, ()), ()) w14) (
CutT (fun (J15 : Unit → World → Prop) =>
brB (r13.1.1 == 2) (
clS Tryz.prog F.flood_Flood_forget [.pointer f] w14 true [] fun r18 w19 =>
J15 (()) w19) (
J15 (()) w14)) (fun (z16 : Unit) w17 => ∀ _ : Nat → Value,
ld1 (.i .i64) (p1.add 5) w17 fun x20 =>
ld1 (.i .i64) (p1.add 4) w17 fun x21 =>
alK [.int .i64 0, .int .i64 0, .int .i64 0] T.table_Entry w17 fun p22 w23 =>
stN [.int .i64 local_, .int .i64 (IntKind.wrap .i64 (x20 - local_)), .int .i64 (IntKind.wrap .i64 (x21 + 1))] p22 0 w23 fun w24 =>
CutT (fun (J25 : Unit → World → Prop) =>
drK w24 fun w28 =>
ncK f fun a29 =>
ldN [(.i .i64), (.i .i64), (.i .i64)] p22 0 w28 fun x30 =>
clS Tryz.prog F.table_Table_Add [.pointer (some (a29.add 6)), .agg #[.int .i64 x30.1, .int .i64 x30.2.1, .int .i64 x30.2.2.1]] w28 false [(false, [(.i .i64)])] fun r31 w32 =>
Hold [] w32 ∧ (
brB (r31.1.1 != 0) (
ncK f fun a33 =>
clS Tryz.prog F.table_Table_Clear [.pointer (some (a33.add 6))] w32 true [] fun r34 w35 =>
drK w35 fun w36 =>
ncK f fun a37 =>
ldN [(.i .i64), (.i .i64), (.i .i64)] p22 0 w36 fun x38 =>
clS Tryz.prog F.table_Table_Add [.pointer (some (a37.add 6)), .agg #[.int .i64 x38.1, .int .i64 x38.2.1, .int .i64 x38.2.2.1]] w36 false [(false, [(.i .i64)])] fun r39 w40 =>
Hold [] w40 ∧ (
J25 (()) w40)) (
J25 (()) w32))) (fun (z26 : Unit) w27 => ∀ _ : Nat → Value,
ld1 (.i .i64) (p1.add 5) w27 fun x41 =>
ld1 (.i .i64) (p1.add 4) w27 fun x42 =>
ncK f fun a43 =>
stN [.int .i64 local_, .int .i64 x41, .int .i64 (IntKind.wrap .i64 (x42 + 1))] (a43.add 7) 0 w27 fun w44 =>
R ((r13.1.1, ()), ()) w44)))))))))))
set_option maxRecDepth 100000 in
theorem flood_Flood_Hear.eq (f : Option Addr) (s0 : Int) (s1 : Int) (s2 : Int) (s3 : Int) (s4 : Int) (s5 : Int) (local_ : Int) (w : World) (R : Value → World → Prop) : wpF Tryz.prog Tryz.f11 (.s .n (.s .n (.s (.pl (.tk 0 (.tk 1 (.tk 2 (.tk 3 (.tk 4 (.tk 5 (.tk 6 (.tk 7 (.tk 8 (.tk 9 (.tk 10 (.ef 11 [3, 5] (.tk 12 .z)))))))))))))) (.s .n (.ct [] .n (.s .n (.ct [] (.s (.pl (.tk 0 (.tk 1 (.tk 2 (.tk 3 (.ef 4 [3] (.tk 5 .z))))))) (.s (.s .n (.pl (.tk 0 (.tk 1 (.tk 2 (.tk 3 (.ef 4 [3] .z))))))) .n)) .n))))))) [.pointer f, .agg #[.int .i64 s0, .int .i64 s1, .int .u16 s2, .int .u16 s3, .int .i64 s4, .int .i64 s5], .int .i64 local_] w R = flood_Flood_Hear.wp f s0 s1 s2 s3 s4 s5 local_ w (fun r w => R (encR false [(false, [(.i .i64)])] r) w) := by kernel_rfl
theorem flood_Flood_Hear.ok {f : Option Addr} {s0 : Int} {s1 : Int} {s2 : Int} {s3 : Int} {s4 : Int} {s5 : Int} {local_ : Int} {w : World} {R : TR [(false, [(.i .i64)])] → World → Prop} (h : flood_Flood_Hear.wp f s0 s1 s2 s3 s4 s5 local_ w R) : clS Tryz.prog F.flood_Flood_Hear [.pointer f, .agg #[.int .i64 s0, .int .i64 s1, .int .u16 s2, .int .u16 s3, .int .i64 s4, .int .i64 s5], .int .i64 local_] w false [(false, [(.i .i64)])] R :=
  ok_of Tryz_follows Tryz.func11 (fun R => flood_Flood_Hear.wp f s0 s1 s2 s3 s4 s5 local_ w R) (flood_Flood_Hear.eq f s0 s1 s2 s3 s4 s5 local_ w) rfl h
/-! ### flood_Flood_Synced -/
set_option maxRecDepth 100000 in
def flood_Flood_Synced.wp (f : Option Addr) (w : World) (R : TR [(false, [.b])] → World → Prop) : Prop :=
drK w fun w1 =>
brB (!(Option.isNone f)) (
ncK f fun a2 =>
ld1 .p a2 w1 fun x3 =>
clS Tryz.prog F.elect_Elect_Mine [.pointer x3] w1 false [(false, [.b])] fun r4 w5 =>
Hold [(6, a2, (w1.cell? a2).getD undef)] w5 ∧ (
brB r4.1.1 (
R ((true, ()), ()) w5) (
ncK f fun a6 =>
ncK f fun a7 =>
ld1 (.i .i64) ((a7.add 2).add 2) w5 fun x8 =>
clS Tryz.prog F.table_Table_Len [.pointer (some (a6.add 6))] w5 false [(false, [(.i .i64)])] fun r9 w10 =>
Hold [(17, ((a7.add 2).add 2), (w5.cell? ((a7.add 2).add 2)).getD undef), (6, a2, (w1.cell? a2).getD undef)] w10 ∧ (
R ((decide (r9.1.1 ≥ x8), ()), ()) w10)))) (
R ((false, ()), ()) w1)
set_option maxRecDepth 100000 in
theorem flood_Flood_Synced.eq (f : Option Addr) (w : World) (R : Value → World → Prop) : wpF Tryz.prog Tryz.f12 (.s .n (.s (.pl (.tk 0 (.tk 1 (.tk 2 (.tk 3 (.tk 4 (.tk 5 (.tk 6 (.ef 7 [] (.tk 8 (.tk 9 (.tk 10 (.tk 11 (.tk 13 (.tk 14 (.tk 15 (.tk 16 (.tk 17 (.ef 12 [] (.tk 18 (.tk 19 (.tk 20 (.tk 21 .z))))))))))))))))))))))) .n)) [.pointer f] w R = flood_Flood_Synced.wp f w (fun r w => R (encR false [(false, [.b])] r) w) := by kernel_rfl
theorem flood_Flood_Synced.ok {f : Option Addr} {w : World} {R : TR [(false, [.b])] → World → Prop} (h : flood_Flood_Synced.wp f w R) : clS Tryz.prog F.flood_Flood_Synced [.pointer f] w false [(false, [.b])] R :=
  ok_of Tryz_follows Tryz.func12 (fun R => flood_Flood_Synced.wp f w R) (flood_Flood_Synced.eq f w) rfl h
/-! ### flood_Flood_Entries -/
set_option maxRecDepth 100000 in
def flood_Flood_Entries.wp (f : Option Addr) (w : World) (R : TR [(false, [(.i .i64)])] → World → Prop) : Prop :=
brB (Option.isNone f) (
R ((0, ()), ()) w) (
ncK f fun a1 =>
clS Tryz.prog F.table_Table_Len [.pointer (some (a1.add 6))] w false [(false, [(.i .i64)])] fun r2 w3 =>
R ((r2.1.1, ()), ()) w3)
set_option maxRecDepth 100000 in
theorem flood_Flood_Entries.eq (f : Option Addr) (w : World) (R : Value → World → Prop) : wpF Tryz.prog Tryz.f13 .n [.pointer f] w R = flood_Flood_Entries.wp f w (fun r w => R (encR false [(false, [(.i .i64)])] r) w) := by kernel_rfl
theorem flood_Flood_Entries.ok {f : Option Addr} {w : World} {R : TR [(false, [(.i .i64)])] → World → Prop} (h : flood_Flood_Entries.wp f w R) : clS Tryz.prog F.flood_Flood_Entries [.pointer f] w false [(false, [(.i .i64)])] R :=
  ok_of Tryz_follows Tryz.func13 (fun R => flood_Flood_Entries.wp f w R) (flood_Flood_Entries.eq f w) rfl h
/-! ### ref16_Good -/
set_option maxRecDepth 100000 in
def ref16_Good.wp (me : Int) (timeout : Int) (ignore : Int) (need : Int) (drift : Int) (w : World) (R : TR [(false, [.b])] → World → Prop) : Prop :=
clS Tryz.prog F.ref15_Good [.int .i64 me, .int .i64 timeout, .int .i64 ignore] w false [(false, [.b])] fun r1 w2 =>
brB r1.1.1 (
brB (decide (need ≥ 1)) (
brB (decide (need ≤ 8)) (
brB (decide (drift ≥ 0)) (
R ((decide (drift ≤ 10), ()), ()) w2) (
R ((false, ()), ()) w2)) (
R ((false, ()), ()) w2)) (
R ((false, ()), ()) w2)) (
R ((false, ()), ()) w2)
set_option maxRecDepth 100000 in
theorem ref16_Good.eq (me : Int) (timeout : Int) (ignore : Int) (need : Int) (drift : Int) (w : World) (R : Value → World → Prop) : wpF Tryz.prog Tryz.f14 .n [.int .i64 me, .int .i64 timeout, .int .i64 ignore, .int .i64 need, .int .i64 drift] w R = ref16_Good.wp me timeout ignore need drift w (fun r w => R (encR false [(false, [.b])] r) w) := by kernel_rfl
theorem ref16_Good.ok {me : Int} {timeout : Int} {ignore : Int} {need : Int} {drift : Int} {w : World} {R : TR [(false, [.b])] → World → Prop} (h : ref16_Good.wp me timeout ignore need drift w R) : clS Tryz.prog F.ref16_Good [.int .i64 me, .int .i64 timeout, .int .i64 ignore, .int .i64 need, .int .i64 drift] w false [(false, [.b])] R :=
  ok_of Tryz_follows Tryz.func14 (fun R => ref16_Good.wp me timeout ignore need drift w R) (ref16_Good.eq me timeout ignore need drift w) rfl h
/-! ### flood_Rules_Good -/
set_option maxRecDepth 100000 in
def flood_Rules_Good.wp (r0 : Int) (r1 : Int) (r2 : Int) (r3 : Int) (w : World) (R : TR [(false, [.b])] → World → Prop) : Prop :=
alK [.int .i64 r0, .int .i64 r1, .int .i64 r2, .int .i64 r3] T.flood_Rules w fun p1 w2 =>
ldN [(.i .i64), (.i .i64)] p1 0 w2 fun x3 =>
clS Tryz.prog F.elect_Rules_Good [.agg #[.int .i64 x3.1, .int .i64 x3.2.1]] w2 false [(false, [.b])] fun r4 w5 =>
brB r4.1.1 (
ld1 (.i .i64) (p1.add 2) w5 fun x6 =>
brB (decide (x6 ≥ 1)) (
ld1 (.i .i64) (p1.add 2) w5 fun x7 =>
brB (decide (x7 ≤ 8)) (
ld1 (.i .i64) (p1.add 3) w5 fun x8 =>
brB (decide (x8 ≥ 0)) (
ld1 (.i .i64) (p1.add 3) w5 fun x9 =>
R ((decide (x9 ≤ 10), ()), ()) w5) (
R ((false, ()), ()) w5)) (
R ((false, ()), ()) w5)) (
R ((false, ()), ()) w5)) (
R ((false, ()), ()) w5)
set_option maxRecDepth 100000 in
theorem flood_Rules_Good.eq (r0 : Int) (r1 : Int) (r2 : Int) (r3 : Int) (w : World) (R : Value → World → Prop) : wpF Tryz.prog Tryz.f15 .n [.agg #[.int .i64 r0, .int .i64 r1, .int .i64 r2, .int .i64 r3]] w R = flood_Rules_Good.wp r0 r1 r2 r3 w (fun r w => R (encR false [(false, [.b])] r) w) := by kernel_rfl
theorem flood_Rules_Good.ok {r0 : Int} {r1 : Int} {r2 : Int} {r3 : Int} {w : World} {R : TR [(false, [.b])] → World → Prop} (h : flood_Rules_Good.wp r0 r1 r2 r3 w R) : clS Tryz.prog F.flood_Rules_Good [.agg #[.int .i64 r0, .int .i64 r1, .int .i64 r2, .int .i64 r3]] w false [(false, [.b])] R :=
  ok_of Tryz_follows Tryz.func15 (fun R => flood_Rules_Good.wp r0 r1 r2 r3 w R) (flood_Rules_Good.eq r0 r1 r2 r3 w) rfl h
/-! ### ref16_New -/
set_option maxRecDepth 100000 in
def ref16_New.wp (me : Int) (timeout : Int) (ignore : Int) (need : Int) (drift : Int) (boot : Int) (w : World) (R : TR [(false, [.p])] → World → Prop) : Prop :=
clS Tryz.prog F.ref15_New [.int .i64 me, .int .i64 timeout, .int .i64 ignore, .int .u16 boot] w false [(false, [.p])] fun r1 w2 =>
alK [.pointer r1.1.1, .int .i64 need, .int .i64 drift, .slice none 0 0, .int .i64 0, .int .i64 0, .int .i64 0] T.ref16_Flood w2 fun p3 w4 =>
R ((some p3, ()), ()) w4
set_option maxRecDepth 100000 in
theorem ref16_New.eq (me : Int) (timeout : Int) (ignore : Int) (need : Int) (drift : Int) (boot : Int) (w : World) (R : Value → World → Prop) : wpF Tryz.prog Tryz.f16 .n [.int .i64 me, .int .i64 timeout, .int .i64 ignore, .int .i64 need, .int .i64 drift, .int .u16 boot] w R = ref16_New.wp me timeout ignore need drift boot w (fun r w => R (encR false [(false, [.p])] r) w) := by kernel_rfl
theorem ref16_New.ok {me : Int} {timeout : Int} {ignore : Int} {need : Int} {drift : Int} {boot : Int} {w : World} {R : TR [(false, [.p])] → World → Prop} (h : ref16_New.wp me timeout ignore need drift boot w R) : clS Tryz.prog F.ref16_New [.int .i64 me, .int .i64 timeout, .int .i64 ignore, .int .i64 need, .int .i64 drift, .int .u16 boot] w false [(false, [.p])] R :=
  ok_of Tryz_follows Tryz.func16 (fun R => ref16_New.wp me timeout ignore need drift boot w R) (ref16_New.eq me timeout ignore need drift boot w) rfl h
/-! ### law16_sync -/
set_option maxRecDepth 100000 in
def law16_sync.wp (p0 : Int) (p1 : Int) (p2 : Int) (p3 : Int) (p4 : Int) (p5 : Int) (p6 : Int) (p7 : Int) (p8 : Int) (p9 : Int) (p10 : Int) (p11 : Int) (p12 : Int) (p13 : Int) (w : World) (R : TR [(true, [(.i .i64), (.i .i64), (.i .u16), (.i .u16), (.i .i64), (.i .i64)])] → World → Prop) : Prop :=
alK [.int .i64 p0, .int .i64 p1, .int .i64 p2, .int .i64 p3, .int .u16 p4, .int .u16 p5, .int .i64 p6, .int .i64 p7, .int .i64 p8, .int .i64 p9, .int .i64 p10, .int .i64 p11, .int .i64 p12, .int .i64 p13] T.ref05_Plain w fun p1 w2 =>
alK [.int .i64 0, .int .i64 0, .int .u16 0, .int .u16 0, .int .i64 0, .int .i64 0] T.frame_Sync w2 fun p3 w4 =>
ld1 (.i .i64) (p1.add 1) w4 fun x5 =>
ld1 (.i .i64) (p1.add 3) w4 fun x6 =>
ld1 (.i .u16) (p1.add 4) w4 fun x7 =>
ld1 (.i .u16) (p1.add 5) w4 fun x8 =>
ld1 (.i .i64) (p1.add 6) w4 fun x9 =>
ld1 (.i .i64) (p1.add 7) w4 fun x10 =>
stN [.int .i64 x5, .int .i64 x6, .int .u16 x7, .int .u16 x8, .int .i64 x9, .int .i64 x10] p3 0 w4 fun w11 =>
ldN [(.i .i64), (.i .i64), (.i .u16), (.i .u16), (.i .i64), (.i .i64)] p3 0 w11 fun x12 =>
R ((x12.1, x12.2.1, x12.2.2.1, x12.2.2.2.1, x12.2.2.2.2.1, x12.2.2.2.2.2.1, ()), ()) w11
set_option maxRecDepth 100000 in
theorem law16_sync.eq (p0 : Int) (p1 : Int) (p2 : Int) (p3 : Int) (p4 : Int) (p5 : Int) (p6 : Int) (p7 : Int) (p8 : Int) (p9 : Int) (p10 : Int) (p11 : Int) (p12 : Int) (p13 : Int) (w : World) (R : Value → World → Prop) : wpF Tryz.prog Tryz.f17 .n [.agg #[.int .i64 p0, .int .i64 p1, .int .i64 p2, .int .i64 p3, .int .u16 p4, .int .u16 p5, .int .i64 p6, .int .i64 p7, .int .i64 p8, .int .i64 p9, .int .i64 p10, .int .i64 p11, .int .i64 p12, .int .i64 p13]] w R = law16_sync.wp p0 p1 p2 p3 p4 p5 p6 p7 p8 p9 p10 p11 p12 p13 w (fun r w => R (encR false [(true, [(.i .i64), (.i .i64), (.i .u16), (.i .u16), (.i .i64), (.i .i64)])] r) w) := by kernel_rfl
theorem law16_sync.ok {p0 : Int} {p1 : Int} {p2 : Int} {p3 : Int} {p4 : Int} {p5 : Int} {p6 : Int} {p7 : Int} {p8 : Int} {p9 : Int} {p10 : Int} {p11 : Int} {p12 : Int} {p13 : Int} {w : World} {R : TR [(true, [(.i .i64), (.i .i64), (.i .u16), (.i .u16), (.i .i64), (.i .i64)])] → World → Prop} (h : law16_sync.wp p0 p1 p2 p3 p4 p5 p6 p7 p8 p9 p10 p11 p12 p13 w R) : clS Tryz.prog F.law16_sync [.agg #[.int .i64 p0, .int .i64 p1, .int .i64 p2, .int .i64 p3, .int .u16 p4, .int .u16 p5, .int .i64 p6, .int .i64 p7, .int .i64 p8, .int .i64 p9, .int .i64 p10, .int .i64 p11, .int .i64 p12, .int .i64 p13]] w false [(true, [(.i .i64), (.i .i64), (.i .u16), (.i .u16), (.i .i64), (.i .i64)])] R :=
  ok_of Tryz_follows Tryz.func17 (fun R => law16_sync.wp p0 p1 p2 p3 p4 p5 p6 p7 p8 p9 p10 p11 p12 p13 w R) (law16_sync.eq p0 p1 p2 p3 p4 p5 p6 p7 p8 p9 p10 p11 p12 p13 w) rfl h
/-! ### ref16_Flood_Hear -/
set_option maxRecDepth 100000 in
def ref16_Flood_Hear.wp (f : Option Addr) (p0 : Int) (p1 : Int) (p2 : Int) (p3 : Int) (p4 : Int) (p5 : Int) (p6 : Int) (p7 : Int) (p8 : Int) (p9 : Int) (p10 : Int) (p11 : Int) (p12 : Int) (p13 : Int) (local_ : Int) (w : World) (R : TR [(false, [(.i .i64)])] → World → Prop) : Prop :=
alK [.int .i64 p0, .int .i64 p1, .int .i64 p2, .int .i64 p3, .int .u16 p4, .int .u16 p5, .int .i64 p6, .int .i64 p7, .int .i64 p8, .int .i64 p9, .int .i64 p10, .int .i64 p11, .int .i64 p12, .int .i64 p13] T.ref05_Plain w fun p1 w2 =>
ld1 (.i .i64) (p1.add 6) w2 fun x3 =>
brB (decide (x3 < 0)) (
R ((0, ()), ()) w2) (
ld1 (.i .i64) (p1.add 6) w2 fun x4 =>
brB (decide (x4 > 62)) (
R ((0, ()), ()) w2) (
clS Tryz.prog F.ref16_time [.int .i64 local_] w2 false [(false, [.b])] fun r5 w6 =>
brB (!r5.1.1) (
R ((0, ()), ()) w6) (
ld1 (.i .i64) (p1.add 7) w6 fun x7 =>
clS Tryz.prog F.ref16_time [.int .i64 x7] w6 false [(false, [.b])] fun r8 w9 =>
brB (!r8.1.1) (
R ((0, ()), ()) w9) (
drK w9 fun w10 =>
ncK f fun a11 =>
ld1 .p a11 w10 fun x12 =>
ld1 (.i .i64) (p1.add 3) w10 fun x13 =>
ld1 (.i .u16) (p1.add 4) w10 fun x14 =>
ld1 (.i .u16) (p1.add 5) w10 fun x15 =>
clS Tryz.prog F.ref15_Elect_Hear [.pointer x12, .int .i64 x13, .int .u16 x14, .int .u16 x15] w10 false [(false, [(.i .i64)])] fun r16 w17 =>
Hold [] w17 ∧ (
brB (r16.1.1 == 0) (
R ((0, ()), ()) w17) (
CutT (fun (J18 : Unit → World → Prop) =>
brB (r16.1.1 == 2) (
clS Tryz.prog F.ref16_Flood_forget [.pointer f] w17 true [] fun r21 w22 =>
J18 (()) w22) (
J18 (()) w17)) (fun (z19 : Unit) w20 => ∀ _ : Nat → Value,
ld1 (.i .i64) (p1.add 7) w20 fun x23 =>
ld1 (.i .i64) (p1.add 6) w20 fun x24 =>
alK [.int .i64 0, .int .i64 0, .int .i64 0] T.ref12_Entry w20 fun p25 w26 =>
stN [.int .i64 local_, .int .i64 (IntKind.wrap .i64 (x23 - local_)), .int .i64 (IntKind.wrap .i64 (x24 + 1))] p25 0 w26 fun w27 =>
drK w27 fun w28 =>
ncK f fun a29 =>
ld1 .sl (a29.add 3) w28 fun x30 =>
ldN [(.i .i64), (.i .i64), (.i .i64)] p25 0 w28 fun x31 =>
clS Tryz.prog F.ref12_Add [.slice x30.1 x30.2.1 x30.2.2, .agg #[.int .i64 x31.1, .int .i64 x31.2.1, .int .i64 x31.2.2.1]] w28 true [(false, [.sl]), (false, [(.i .i64)])] fun r32 w33 =>
Hold [] w33 ∧ (
CutT (fun (J34 : ((Option Addr × Nat × Nat) × Unit) → World → Prop) =>
brB (r32.2.1.1 != 0) (
ldN [(.i .i64), (.i .i64), (.i .i64)] p25 0 w33 fun x37 =>
clS Tryz.prog F.ref12_Add [.slice none 0 0, .agg #[.int .i64 x37.1, .int .i64 x37.2.1, .int .i64 x37.2.2.1]] w33 true [(false, [.sl]), (false, [(.i .i64)])] fun r38 w39 =>
J34 ((r38.1.1.1, r38.1.1.2.1, r38.1.1.2.2), ()) w39) (
J34 ((r32.1.1.1, r32.1.1.2.1, r32.1.1.2.2), ()) w33)) (fun (z35 : (Option Addr × Nat × Nat) × Unit) w36 => ∀ _ : Nat → Value,
ncK f fun a40 =>
stN [.slice z35.1.1 z35.1.2.1 z35.1.2.2] (a40.add 3) 0 w36 fun w41 =>
ncK f fun a42 =>
stN [.int .i64 local_] (a42.add 4) 0 w41 fun w43 =>
ld1 (.i .i64) (p1.add 7) w43 fun x44 =>
ncK f fun a45 =>
stN [.int .i64 x44] (a45.add 5) 0 w43 fun w46 =>
ld1 (.i .i64) (p1.add 6) w46 fun x47 =>
ncK f fun a48 =>
stN [.int .i64 (IntKind.wrap .i64 (x47 + 1))] (a48.add 6) 0 w46 fun w49 =>
R ((r16.1.1, ()), ()) w49)))))))))
set_option maxRecDepth 100000 in
theorem ref16_Flood_Hear.eq (f : Option Addr) (p0 : Int) (p1 : Int) (p2 : Int) (p3 : Int) (p4 : Int) (p5 : Int) (p6 : Int) (p7 : Int) (p8 : Int) (p9 : Int) (p10 : Int) (p11 : Int) (p12 : Int) (p13 : Int) (local_ : Int) (w : World) (R : Value → World → Prop) : wpF Tryz.prog Tryz.f18 (.s .n (.s .n (.s (.pl (.tk 0 (.tk 1 (.tk 2 (.tk 3 (.tk 4 (.tk 5 (.tk 6 (.tk 7 (.tk 8 (.tk 9 (.ef 10 [3, 5, 7, 9] (.tk 11 .z))))))))))))) (.s .n (.ct [] .n (.s .n (.s (.pl (.tk 0 (.tk 1 (.tk 2 (.tk 3 (.tk 4 (.ef 5 [3, 4] (.tk 6 (.tk 7 (.tk 8 (.tk 9 (.tk 10 .z)))))))))))) (.ct [(9, .sl)] .n .n)))))))) [.pointer f, .agg #[.int .i64 p0, .int .i64 p1, .int .i64 p2, .int .i64 p3, .int .u16 p4, .int .u16 p5, .int .i64 p6, .int .i64 p7, .int .i64 p8, .int .i64 p9, .int .i64 p10, .int .i64 p11, .int .i64 p12, .int .i64 p13], .int .i64 local_] w R = ref16_Flood_Hear.wp f p0 p1 p2 p3 p4 p5 p6 p7 p8 p9 p10 p11 p12 p13 local_ w (fun r w => R (encR false [(false, [(.i .i64)])] r) w) := by kernel_rfl
theorem ref16_Flood_Hear.ok {f : Option Addr} {p0 : Int} {p1 : Int} {p2 : Int} {p3 : Int} {p4 : Int} {p5 : Int} {p6 : Int} {p7 : Int} {p8 : Int} {p9 : Int} {p10 : Int} {p11 : Int} {p12 : Int} {p13 : Int} {local_ : Int} {w : World} {R : TR [(false, [(.i .i64)])] → World → Prop} (h : ref16_Flood_Hear.wp f p0 p1 p2 p3 p4 p5 p6 p7 p8 p9 p10 p11 p12 p13 local_ w R) : clS Tryz.prog F.ref16_Flood_Hear [.pointer f, .agg #[.int .i64 p0, .int .i64 p1, .int .i64 p2, .int .i64 p3, .int .u16 p4, .int .u16 p5, .int .i64 p6, .int .i64 p7, .int .i64 p8, .int .i64 p9, .int .i64 p10, .int .i64 p11, .int .i64 p12, .int .i64 p13], .int .i64 local_] w false [(false, [(.i .i64)])] R :=
  ok_of Tryz_follows Tryz.func18 (fun R => ref16_Flood_Hear.wp f p0 p1 p2 p3 p4 p5 p6 p7 p8 p9 p10 p11 p12 p13 local_ w R) (ref16_Flood_Hear.eq f p0 p1 p2 p3 p4 p5 p6 p7 p8 p9 p10 p11 p12 p13 local_ w) rfl h
end Go.Proofs.YtgpgdhopmifbpaaGreat
