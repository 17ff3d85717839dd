import Derived.Test.YtgpgdhopmifbpaaGreatNm
namespace Go.Proofs.YtgpgdhopmifbpaaGreat
open Go.Eng
set_option linter.unusedVariables false
/-! ### ref19_Source_Put -/
set_option maxRecDepth 100000 in
def ref19_Source_Put.wp (s : Option Addr) (e0 : Int) (e1 : Int) (e2 : Int) (root : Int) (boot : Int) (w : World) (R : TR [(false, [(.i .i64)])] → World → Prop) : Prop :=
alK [.int .i64 e0, .int .i64 e1, .int .i64 e2] T.ref12_Entry w fun p1 w2 =>
ldN [(.i .i64), (.i .i64), (.i .i64)] p1 0 w2 fun x3 =>
clS Tryz.prog F.ref12_Good [.agg #[.int .i64 x3.1, .int .i64 x3.2.1, .int .i64 x3.2.2.1]] w2 false [(false, [.b])] fun r4 w5 =>
brB (!r4.1.1) (
R ((1, ()), ()) w5) (
brB (decide (root < 0)) (
R ((1, ()), ()) w5) (
brB (decide (root > 63)) (
R ((1, ()), ()) w5) (
ldN [(.i .i64), (.i .i64), (.i .i64)] p1 0 w5 fun x6 =>
ncK s fun a7 =>
stN [.int .i64 x6.1, .int .i64 x6.2.1, .int .i64 x6.2.2.1] (a7.add 1) 0 w5 fun w8 =>
ncK s fun a9 =>
stN [.int .i64 root] (a9.add 4) 0 w8 fun w10 =>
ncK s fun a11 =>
stN [.int .u16 boot] (a11.add 5) 0 w10 fun w12 =>
ncK s fun a13 =>
stN [.int .i64 0] (a13.add 6) 0 w12 fun w14 =>
ncK s fun a15 =>
stN [.bool true] (a15.add 7) 0 w14 fun w16 =>
R ((0, ()), ()) w16)))
set_option maxRecDepth 100000 in
theorem ref19_Source_Put.eq (s : Option Addr) (e0 : Int) (e1 : Int) (e2 : Int) (root : Int) (boot : Int) (w : World) (R : Value → World → Prop) : wpF Tryz.prog Tryz.f36 .n [.pointer s, .agg #[.int .i64 e0, .int .i64 e1, .int .i64 e2], .int .i64 root, .int .u16 boot] w R = ref19_Source_Put.wp s e0 e1 e2 root boot w (fun r w => R (encR false [(false, [(.i .i64)])] r) w) := by kernel_rfl
theorem ref19_Source_Put.ok {s : Option Addr} {e0 : Int} {e1 : Int} {e2 : Int} {root : Int} {boot : Int} {w : World} {R : TR [(false, [(.i .i64)])] → World → Prop} (h : ref19_Source_Put.wp s e0 e1 e2 root boot w R) : clS Tryz.prog F.ref19_Source_Put [.pointer s, .agg #[.int .i64 e0, .int .i64 e1, .int .i64 e2], .int .i64 root, .int .u16 boot] w false [(false, [(.i .i64)])] R :=
  ok_of Tryz_follows Tryz.func36 (fun R => ref19_Source_Put.wp s e0 e1 e2 root boot w R) (ref19_Source_Put.eq s e0 e1 e2 root boot w) rfl h
/-! ### ref19_Source_Time -/
set_option maxRecDepth 100000 in
def ref19_Source_Time.wp (s : Option Addr) (f : Option Addr) (local_ : Int) (w : World) (R : TR [(true, [(.i .i64), (.i .i64), (.i .i64), (.i .u16), (.i .i64)]), (false, [(.i .i64)])] → World → Prop) : Prop :=
alK [.int .i64 0, .int .i64 0, .int .i64 0, .int .u16 0, .int .i64 0] T.ref19_Answer w fun p1 w2 =>
clS Tryz.prog F.ref16_Flood_Synced [.pointer f] w2 false [(false, [.b])] fun r3 w4 =>
brB r3.1.1 (
clS Tryz.prog F.ref16_Flood_Time [.pointer f, .int .i64 local_] w4 true [(false, [(.i .i64)]), (false, [(.i .i64)]), (false, [(.i .i64)])] fun r5 w6 =>
brB (r5.2.2.1.1 != 0) (
stN [.int .i64 0, .int .i64 0, .int .i64 0, .int .u16 0, .int .i64 0] p1 0 w6 fun w7 =>
ldN [(.i .i64), (.i .i64), (.i .i64), (.i .u16), (.i .i64)] p1 0 w7 fun x8 =>
R ((x8.1, x8.2.1, x8.2.2.1, x8.2.2.2.1, x8.2.2.2.2.1, ()), (r5.2.2.1.1, ()), ()) w7) (
ncK f fun a9 =>
ld1 .p a9 w6 fun x10 =>
clS Tryz.prog F.ref15_Elect_Mark [.pointer x10] w6 true [(false, [(.i .u16)]), (false, [(.i .u16)]), (false, [.b])] fun r11 w12 =>
clS Tryz.prog F.ref16_Flood_Mine [.pointer f] w12 false [(false, [.b])] fun r13 w14 =>
brB r13.1.1 (
ncK f fun a15 =>
ld1 .p a15 w14 fun x16 =>
ncK x16 fun a17 =>
ld1 (.i .i64) (a17.add 5) w14 fun x18 =>
stN [.int .i64 r5.1.1, .int .i64 r5.2.1.1, .int .i64 x18, .int .u16 r11.1.1, .int .i64 1] p1 0 w14 fun w19 =>
ldN [(.i .i64), (.i .i64), (.i .i64), (.i .u16), (.i .i64)] p1 0 w19 fun x20 =>
R ((x20.1, x20.2.1, x20.2.2.1, x20.2.2.2.1, x20.2.2.2.2.1, ()), (0, ()), ()) w19) (
ncK f fun a21 =>
ld1 .p a21 w14 fun x22 =>
ncK x22 fun a23 =>
ld1 (.i .i64) (a23.add 5) w14 fun x24 =>
stN [.int .i64 r5.1.1, .int .i64 r5.2.1.1, .int .i64 x24, .int .u16 r11.1.1, .int .i64 2] p1 0 w14 fun w25 =>
ldN [(.i .i64), (.i .i64), (.i .i64), (.i .u16), (.i .i64)] p1 0 w25 fun x26 =>
R ((x26.1, x26.2.1, x26.2.2.1, x26.2.2.2.1, x26.2.2.2.2.1, ()), (0, ()), ()) w25))) (
ncK s fun a27 =>
ld1 .b (a27.add 7) w4 fun x28 =>
brB (!x28) (
stN [.int .i64 0, .int .i64 0, .int .i64 0, .int .u16 0, .int .i64 0] p1 0 w4 fun w29 =>
ldN [(.i .i64), (.i .i64), (.i .i64), (.i .u16), (.i .i64)] p1 0 w29 fun x30 =>
R ((x30.1, x30.2.1, x30.2.2.1, x30.2.2.2.1, x30.2.2.2.2.1, ()), (9, ()), ()) w29) (
brB (decide (local_ < 0)) (
stN [.int .i64 0, .int .i64 0, .int .i64 0, .int .u16 0, .int .i64 0] p1 0 w4 fun w31 =>
ldN [(.i .i64), (.i .i64), (.i .i64), (.i .u16), (.i .i64)] p1 0 w31 fun x32 =>
R ((x32.1, x32.2.1, x32.2.2.1, x32.2.2.2.1, x32.2.2.2.2.1, ()), (8, ()), ()) w31) (
brB (decide (local_ > 1125899906842624)) (
stN [.int .i64 0, .int .i64 0, .int .i64 0, .int .u16 0, .int .i64 0] p1 0 w4 fun w33 =>
ldN [(.i .i64), (.i .i64), (.i .i64), (.i .u16), (.i .i64)] p1 0 w33 fun x34 =>
R ((x34.1, x34.2.1, x34.2.2.1, x34.2.2.2.1, x34.2.2.2.2.1, ()), (8, ()), ()) w33) (
ncK s fun a35 =>
ld1 (.i .i64) ((a35.add 1).add 1) w4 fun x36 =>
brB (decide ((IntKind.wrap .i64 (local_ + x36)) < 0)) (
stN [.int .i64 0, .int .i64 0, .int .i64 0, .int .u16 0, .int .i64 0] p1 0 w4 fun w37 =>
ldN [(.i .i64), (.i .i64), (.i .i64), (.i .u16), (.i .i64)] p1 0 w37 fun x38 =>
R ((x38.1, x38.2.1, x38.2.2.1, x38.2.2.2.1, x38.2.2.2.2.1, ()), (8, ()), ()) w37) (
ncK s fun a39 =>
ld1 (.i .i64) ((a39.add 1).add 1) w4 fun x40 =>
brB (decide ((IntKind.wrap .i64 (local_ + x40)) > 1125899906842624)) (
stN [.int .i64 0, .int .i64 0, .int .i64 0, .int .u16 0, .int .i64 0] p1 0 w4 fun w41 =>
ldN [(.i .i64), (.i .i64), (.i .i64), (.i .u16), (.i .i64)] p1 0 w41 fun x42 =>
R ((x42.1, x42.2.1, x42.2.2.1, x42.2.2.2.1, x42.2.2.2.2.1, ()), (8, ()), ()) w41) (
drK w4 fun w43 =>
ncK s fun a44 =>
ld1 (.i .i64) ((a44.add 1).add 1) w43 fun x45 =>
ncK s fun a46 =>
ld1 (.i .i64) ((a46.add 1).add 2) w43 fun x47 =>
ncK s fun a48 =>
ld1 (.i .i64) (a48.add 4) w43 fun x49 =>
ncK s fun a50 =>
ld1 (.i .u16) (a50.add 5) w43 fun x51 =>
stN [.int .i64 (IntKind.wrap .i64 (local_ + x45)), .int .i64 x47, .int .i64 x49, .int .u16 x51, .int .i64 3] p1 0 w43 fun w52 =>
Hold [] w52 ∧ (
ldN [(.i .i64), (.i .i64), (.i .i64), (.i .u16), (.i .i64)] p1 0 w52 fun x53 =>
R ((x53.1, x53.2.1, x53.2.2.1, x53.2.2.2.1, x53.2.2.2.2.1, ()), (0, ()), ()) w52)))))))
set_option maxRecDepth 100000 in
theorem ref19_Source_Time.eq (s : Option Addr) (f : Option Addr) (local_ : Int) (w : World) (R : Value → World → Prop) : wpF Tryz.prog Tryz.f37 (.s .n (.s .n (.s .n (.s .n (.s (.pl (.tk 0 (.tk 1 (.tk 2 (.tk 3 (.tk 4 (.tk 5 (.tk 6 (.tk 7 (.tk 8 (.tk 9 (.tk 10 (.tk 11 (.tk 12 (.tk 13 (.tk 14 (.tk 15 (.tk 16 (.tk 17 (.tk 18 (.tk 19 (.tk 20 (.ef 21 [5, 11, 15, 19] (.tk 22 .z)))))))))))))))))))))))) .n))))) [.pointer s, .pointer f, .int .i64 local_] w R = ref19_Source_Time.wp s f local_ w (fun r w => R (encR true [(true, [(.i .i64), (.i .i64), (.i .i64), (.i .u16), (.i .i64)]), (false, [(.i .i64)])] r) w) := by kernel_rfl
theorem ref19_Source_Time.ok {s : Option Addr} {f : Option Addr} {local_ : Int} {w : World} {R : TR [(true, [(.i .i64), (.i .i64), (.i .i64), (.i .u16), (.i .i64)]), (false, [(.i .i64)])] → World → Prop} (h : ref19_Source_Time.wp s f local_ w R) : clS Tryz.prog F.ref19_Source_Time [.pointer s, .pointer f, .int .i64 local_] w true [(true, [(.i .i64), (.i .i64), (.i .i64), (.i .u16), (.i .i64)]), (false, [(.i .i64)])] R :=
  ok_of Tryz_follows Tryz.func37 (fun R => ref19_Source_Time.wp s f local_ w R) (ref19_Source_Time.eq s f local_ w) rfl h
/-! ### law19_same -/
set_option maxRecDepth 100000 in
def law19_same.wp (a0 : Int) (a1 : Int) (a2 : Int) (a3 : Int) (a4 : Int) (b0 : Int) (b1 : Int) (b2 : Int) (b3 : Int) (b4 : Int) (w : World) (R : TR [(false, [.b])] → World → Prop) : Prop :=
alK [.int .i64 a0, .int .i64 a1, .int .i64 a2, .int .u16 a3, .int .i64 a4] T.source_Answer w fun p1 w2 =>
alK [.int .i64 b0, .int .i64 b1, .int .i64 b2, .int .u16 b3, .int .i64 b4] T.ref19_Answer w2 fun p3 w4 =>
ld1 (.i .i64) p1 w4 fun x5 =>
ld1 (.i .i64) p3 w4 fun x6 =>
brB (x5 == x6) (
ld1 (.i .i64) (p1.add 1) w4 fun x7 =>
ld1 (.i .i64) (p3.add 1) w4 fun x8 =>
brB (x7 == x8) (
ld1 (.i .i64) (p1.add 2) w4 fun x9 =>
ld1 (.i .i64) (p3.add 2) w4 fun x10 =>
brB (x9 == x10) (
ld1 (.i .u16) ((p1.add 2).add 1) w4 fun x11 =>
ld1 (.i .u16) (p3.add 3) w4 fun x12 =>
brB (x11 == x12) (
ld1 (.i .i64) (p1.add 4) w4 fun x13 =>
ld1 (.i .i64) (p3.add 4) w4 fun x14 =>
R (((x13 == x14), ()), ()) w4) (
R ((false, ()), ()) w4)) (
R ((false, ()), ()) w4)) (
R ((false, ()), ()) w4)) (
R ((false, ()), ()) w4)
set_option maxRecDepth 100000 in
theorem law19_same.eq (a0 : Int) (a1 : Int) (a2 : Int) (a3 : Int) (a4 : Int) (b0 : Int) (b1 : Int) (b2 : Int) (b3 : Int) (b4 : Int) (w : World) (R : Value → World → Prop) : wpF Tryz.prog Tryz.f38 .n [.agg #[.int .i64 a0, .int .i64 a1, .int .i64 a2, .int .u16 a3, .int .i64 a4], .agg #[.int .i64 b0, .int .i64 b1, .int .i64 b2, .int .u16 b3, .int .i64 b4]] w R = law19_same.wp a0 a1 a2 a3 a4 b0 b1 b2 b3 b4 w (fun r w => R (encR false [(false, [.b])] r) w) := by kernel_rfl
theorem law19_same.ok {a0 : Int} {a1 : Int} {a2 : Int} {a3 : Int} {a4 : Int} {b0 : Int} {b1 : Int} {b2 : Int} {b3 : Int} {b4 : Int} {w : World} {R : TR [(false, [.b])] → World → Prop} (h : law19_same.wp a0 a1 a2 a3 a4 b0 b1 b2 b3 b4 w R) : clS Tryz.prog F.law19_same [.agg #[.int .i64 a0, .int .i64 a1, .int .i64 a2, .int .u16 a3, .int .i64 a4], .agg #[.int .i64 b0, .int .i64 b1, .int .i64 b2, .int .u16 b3, .int .i64 b4]] w false [(false, [.b])] R :=
  ok_of Tryz_follows Tryz.func38 (fun R => law19_same.wp a0 a1 a2 a3 a4 b0 b1 b2 b3 b4 w R) (law19_same.eq a0 a1 a2 a3 a4 b0 b1 b2 b3 b4 w) rfl h
/-! ### elect_New -/
set_option maxRecDepth 100000 in
def elect_New.wp (me : Int) (r0 : Int) (r1 : Int) (w : World) (R : TR [(false, [.p]), (false, [(.i .i64)])] → World → Prop) : Prop :=
alK [.int .i64 r0, .int .i64 r1] T.elect_Rules w fun p1 w2 =>
brB (decide (me < 0)) (
R ((none, ()), (1, ()), ()) w2) (
brB (decide (me ≥ 64)) (
R ((none, ()), (1, ()), ()) w2) (
ldN [(.i .i64), (.i .i64)] p1 0 w2 fun x3 =>
clS Tryz.prog F.elect_Rules_Good [.agg #[.int .i64 x3.1, .int .i64 x3.2.1]] w2 false [(false, [.b])] fun r4 w5 =>
brB (!r4.1.1) (
R ((none, ()), (1, ()), ()) w5) (
ldN [(.i .i64), (.i .i64)] p1 0 w5 fun x6 =>
alK [.int .i64 me, .int .i64 x6.1, .int .i64 x6.2.1, .int .u16 0, .int .u16 0, .int .i64 0, .int .i64 0, .int .i64 0, .map none] T.elect_Elect w5 fun p7 w8 =>
clS Tryz.prog F.elect_Elect_Boot [.pointer (some p7), .int .u16 0] w8 true [] fun r9 w10 =>
R ((some p7, ()), (0, ()), ()) w10)))
set_option maxRecDepth 100000 in
theorem elect_New.eq (me : Int) (r0 : Int) (r1 : Int) (w : World) (R : Value → World → Prop) : wpF Tryz.prog Tryz.f39 .n [.int .i64 me, .agg #[.int .i64 r0, .int .i64 r1]] w R = elect_New.wp me r0 r1 w (fun r w => R (encR true [(false, [.p]), (false, [(.i .i64)])] r) w) := by kernel_rfl
theorem elect_New.ok {me : Int} {r0 : Int} {r1 : Int} {w : World} {R : TR [(false, [.p]), (false, [(.i .i64)])] → World → Prop} (h : elect_New.wp me r0 r1 w R) : clS Tryz.prog F.elect_New [.int .i64 me, .agg #[.int .i64 r0, .int .i64 r1]] w true [(false, [.p]), (false, [(.i .i64)])] R :=
  ok_of Tryz_follows Tryz.func39 (fun R => elect_New.wp me r0 r1 w R) (elect_New.eq me r0 r1 w) rfl h
/-! ### elect_Elect_Boot -/
set_option maxRecDepth 100000 in
def elect_Elect_Boot.wp (e : Option Addr) (boot : Int) (w : World) (R : TR [] → World → Prop) : Prop :=
brB (!(Option.isNone e)) (
drK w fun w1 =>
ncK e fun a2 =>
ld1 (.i .i64) a2 w1 fun x3 =>
ncK e fun a4 =>
ldN [(.i .i64), (.i .i64)] (a4.add 1) 0 w1 fun x5 =>
maK Tryz.prog T.map_int_elect_Mark w1 fun m6 w7 =>
Hold [(8, ((a4.add 1).add 0), (w1.cell? ((a4.add 1).add 0)).getD undef), (8, ((a4.add 1).add 1), (w1.cell? ((a4.add 1).add 1)).getD undef), (4, a2, (w1.cell? a2).getD undef)] w7 ∧ (
ncK e fun a8 =>
stN [.int .i64 x3, .int .i64 x5.1, .int .i64 x5.2.1, .int .u16 boot, .int .u16 0, .int .i64 (Int.negSucc 0), .int .i64 0, .int .i64 0, .map (some m6)] a8 0 w7 fun w9 =>
Hold [] w9 ∧ (
R (()) w9))) (
R (()) w)
set_option maxRecDepth 100000 in
theorem elect_Elect_Boot.eq (e : Option Addr) (boot : Int) (w : World) (R : Value → World → Prop) : wpF Tryz.prog Tryz.f40 (.s .n (.s (.pl (.tk 0 (.tk 1 (.tk 2 (.tk 3 (.tk 4 (.tk 5 (.tk 6 (.tk 7 (.tk 8 (.tk 9 (.ef 10 [] (.tk 11 (.tk 12 (.ef 13 [4, 8] .z))))))))))))))) .n)) [.pointer e, .int .u16 boot] w R = elect_Elect_Boot.wp e boot w (fun r w => R (encR true [] r) w) := by kernel_rfl
theorem elect_Elect_Boot.ok {e : Option Addr} {boot : Int} {w : World} {R : TR [] → World → Prop} (h : elect_Elect_Boot.wp e boot w R) : clS Tryz.prog F.elect_Elect_Boot [.pointer e, .int .u16 boot] w true [] R :=
  ok_of Tryz_follows Tryz.func40 (fun R => elect_Elect_Boot.wp e boot w R) (elect_Elect_Boot.eq e boot w) rfl h
/-! ### flood_Flood_forget -/
set_option maxRecDepth 100000 in
def flood_Flood_forget.wp (f : Option Addr) (w : World) (R : TR [] → World → Prop) : Prop :=
ncK f fun a1 =>
clS Tryz.prog F.table_Table_Clear [.pointer (some (a1.add 6))] w true [] fun r2 w3 =>
ncK f fun a4 =>
stN [.int .i64 0, .int .i64 0, .int .i64 0] (a4.add 7) 0 w3 fun w5 =>
R (()) w5
set_option maxRecDepth 100000 in
theorem flood_Flood_forget.eq (f : Option Addr) (w : World) (R : Value → World → Prop) : wpF Tryz.prog Tryz.f41 .n [.pointer f] w R = flood_Flood_forget.wp f w (fun r w => R (encR true [] r) w) := by kernel_rfl
theorem flood_Flood_forget.ok {f : Option Addr} {w : World} {R : TR [] → World → Prop} (h : flood_Flood_forget.wp f w R) : clS Tryz.prog F.flood_Flood_forget [.pointer f] w true [] R :=
  ok_of Tryz_follows Tryz.func41 (fun R => flood_Flood_forget.wp f w R) (flood_Flood_forget.eq f w) rfl h
/-! ### elect_Elect_Beat -/
set_option maxRecDepth 100000 in
def elect_Elect_Beat.wp (e : Option Addr) (w : World) (R : TR [(false, [.b])] → World → Prop) : Prop :=
brB (Option.isNone e) (
R ((false, ()), ()) w) (
clS Tryz.prog F.elect_Elect_Mine [.pointer e] w false [(false, [.b])] fun r1 w2 =>
brB r1.1.1 (
ncK e fun a3 =>
ld1 (.i .i64) (a3.add 7) w2 fun x4 =>
ncK e fun a5 =>
stN [.int .i64 (if 0 > (IntKind.wrap .i64 (x4 - 1)) then 0 else (IntKind.wrap .i64 (x4 - 1)))] (a5.add 7) 0 w2 fun w6 =>
R ((false, ()), ()) w6) (
ncK e fun a7 =>
ld1 (.i .i64) (a7.add 6) w2 fun x8 =>
ncK e fun a9 =>
stN [.int .i64 (IntKind.wrap .i64 (x8 + 1))] (a9.add 6) 0 w2 fun w10 =>
drK w10 fun w11 =>
ncK e fun a12 =>
ld1 (.i .i64) (a12.add 6) w11 fun x13 =>
ncK e fun a14 =>
ld1 (.i .i64) (a14.add 1) w11 fun x15 =>
brB (decide (x13 < x15)) (
R ((false, ()), ()) w11) (
drK w11 fun w16 =>
ncK e fun a17 =>
ld1 (.i .i64) a17 w16 fun x18 =>
ncK e fun a19 =>
ld1 (.i .i64) ((a19.add 1).add 1) w16 fun x20 =>
ncK e fun a21 =>
stN [.int .i64 x18] (a21.add 5) 0 w16 fun w22 =>
Hold [] w22 ∧ (
ncK e fun a23 =>
stN [.int .i64 0] (a23.add 6) 0 w22 fun w24 =>
Hold [] w24 ∧ (
ncK e fun a25 =>
stN [.int .i64 x20] (a25.add 7) 0 w24 fun w26 =>
Hold [] w26 ∧ (
R ((true, ()), ()) w26))))))
set_option maxRecDepth 100000 in
theorem elect_Elect_Beat.eq (e : Option Addr) (w : World) (R : Value → World → Prop) : wpF Tryz.prog Tryz.f42 (.s .n (.s .n (.s .n (.s (.s (.pl (.tk 0 (.tk 1 (.tk 2 (.tk 3 (.tk 4 (.tk 5 (.tk 6 (.tk 7 (.tk 8 (.tk 9 .z))))))))))) .n) (.s (.pl (.tk 0 (.tk 1 (.tk 2 (.tk 3 (.tk 4 (.tk 5 (.tk 6 (.tk 7 (.tk 8 (.tk 9 (.tk 10 (.tk 11 (.tk 12 (.tk 13 (.ef 14 [6, 11] (.tk 15 (.tk 16 (.ef 17 [] (.tk 18 (.tk 19 (.ef 20 [] .z)))))))))))))))))))))) .n))))) [.pointer e] w R = elect_Elect_Beat.wp e w (fun r w => R (encR false [(false, [.b])] r) w) := by kernel_rfl
theorem elect_Elect_Beat.ok {e : Option Addr} {w : World} {R : TR [(false, [.b])] → World → Prop} (h : elect_Elect_Beat.wp e w R) : clS Tryz.prog F.elect_Elect_Beat [.pointer e] w false [(false, [.b])] R :=
  ok_of Tryz_follows Tryz.func42 (fun R => elect_Elect_Beat.wp e w R) (elect_Elect_Beat.eq e w) rfl h
/-! ### flood_Flood_word -/
set_option maxRecDepth 100000 in
def flood_Flood_word.wp (f : Option Addr) (local_ : Int) (w : World) (R : TR [(true, [(.i .i64), (.i .i64), (.i .u16), (.i .u16), (.i .i64), (.i .i64)]), (false, [.b])] → World → Prop) : Prop :=
alK [.int .i64 0, .int .i64 0, .int .u16 0, .int .u16 0, .int .i64 0, .int .i64 0] T.frame_Sync w fun p1 w2 =>
ncK f fun a3 =>
ld1 .p a3 w2 fun x4 =>
clS Tryz.prog F.elect_Elect_Mine [.pointer x4] w2 false [(false, [.b])] fun r5 w6 =>
brB r5.1.1 (
ncK f fun a7 =>
ld1 .p a7 w6 fun x8 =>
clS Tryz.prog F.elect_Elect_Issue [.pointer x8] w6 true [(true, [(.i .u16), (.i .u16)]), (false, [.b])] fun r9 w10 =>
alK [.int .u16 0, .int .u16 0] T.elect_Mark w10 fun p11 w12 =>
stN [.int .u16 r9.1.1, .int .u16 r9.1.2.1] p11 0 w12 fun w13 =>
drK w13 fun w14 =>
ncK f fun a15 =>
ld1 (.i .i64) (a15.add 1) w14 fun x16 =>
ncK f fun a17 =>
ld1 (.i .i64) (a17.add 1) w14 fun x18 =>
ld1 (.i .u16) p11 w14 fun x19 =>
ld1 (.i .u16) (p11.add 1) w14 fun x20 =>
stN [.int .i64 x16, .int .i64 x18, .int .u16 x19, .int .u16 x20, .int .i64 0, .int .i64 local_] p1 0 w14 fun w21 =>
Hold [] w21 ∧ (
ldN [(.i .i64), (.i .i64), (.i .u16), (.i .u16), (.i .i64), (.i .i64)] p1 0 w21 fun x22 =>
R ((x22.1, x22.2.1, x22.2.2.1, x22.2.2.2.1, x22.2.2.2.2.1, x22.2.2.2.2.2.1, ()), (true, ()), ()) w21)) (
clS Tryz.prog F.flood_Flood_Synced [.pointer f] w6 false [(false, [.b])] fun r23 w24 =>
brB (!r23.1.1) (
stN [.int .i64 0, .int .i64 0, .int .u16 0, .int .u16 0, .int .i64 0, .int .i64 0] p1 0 w24 fun w25 =>
ldN [(.i .i64), (.i .i64), (.i .u16), (.i .u16), (.i .i64), (.i .i64)] p1 0 w25 fun x26 =>
R ((x26.1, x26.2.1, x26.2.2.1, x26.2.2.2.1, x26.2.2.2.2.1, x26.2.2.2.2.2.1, ()), (false, ()), ()) w25) (
ncK f fun a27 =>
ld1 .p a27 w24 fun x28 =>
clS Tryz.prog F.elect_Elect_Mark [.pointer x28] w24 true [(true, [(.i .u16), (.i .u16)]), (false, [.b])] fun r29 w30 =>
alK [.int .u16 0, .int .u16 0] T.elect_Mark w30 fun p31 w32 =>
stN [.int .u16 r29.1.1, .int .u16 r29.1.2.1] p31 0 w32 fun w33 =>
CutT (fun (J34 : ((Addr) × Unit) → World → Prop) =>
drK w33 fun w37 =>
ncK f fun a38 =>
ld1 (.i .i64) (a38.add 1) w37 fun x39 =>
ncK f fun a40 =>
ld1 .p a40 w37 fun x41 =>
ld1 (.i .u16) p31 w37 fun x42 =>
ld1 (.i .u16) (p31.add 1) w37 fun x43 =>
ncK f fun a44 =>
ld1 (.i .i64) ((a44.add 7).add 2) w37 fun x45 =>
ncK f fun a46 =>
ld1 (.i .i64) ((a46.add 7).add 1) w37 fun x47 =>
ncK f fun a48 =>
ld1 (.i .i64) (a48.add 7) w37 fun x49 =>
(
clS Tryz.prog F.elect_Elect_Root [.pointer x41] w37 false [(false, [(.i .i64)])] fun r50 w51 =>
Hold [(29, (a48.add 7), (w37.cell? (a48.add 7)).getD undef), (22, ((a46.add 7).add 1), (w37.cell? ((a46.add 7).add 1)).getD undef), (17, ((a44.add 7).add 2), (w37.cell? ((a44.add 7).add 2)).getD undef), (12, (p31.add 1), (w37.cell? (p31.add 1)).getD undef), (10, p31, (w37.cell? p31).getD undef), (7, a40, (w37.cell? a40).getD undef), (3, (a38.add 1), (w37.cell? (a38.add 1)).getD undef)] w51 ∧ (
alK [.int .i64 0, .int .i64 0, .int .u16 0, .int .u16 0, .int .i64 0, .int .i64 0] T.frame_Sync w51 fun p52 w53 =>
Hold [(29, (a48.add 7), (w37.cell? (a48.add 7)).getD undef), (22, ((a46.add 7).add 1), (w37.cell? ((a46.add 7).add 1)).getD undef), (17, ((a44.add 7).add 2), (w37.cell? ((a44.add 7).add 2)).getD undef), (12, (p31.add 1), (w37.cell? (p31.add 1)).getD undef), (10, p31, (w37.cell? p31).getD undef), (7, a40, (w37.cell? a40).getD undef), (3, (a38.add 1), (w37.cell? (a38.add 1)).getD undef)] w53 ∧ (
stN [.int .i64 x39, .int .i64 r50.1.1, .int .u16 x42, .int .u16 x43, .int .i64 x45, .int .i64 (IntKind.wrap .i64 ((IntKind.wrap .i64 (x47 + local_)) - x49))] p52 0 w53 fun w54 =>
Hold [] w54 ∧ (
J34 (p52, ()) w54)))) ∧ (
alK [.int .i64 0, .int .i64 0, .int .u16 0, .int .u16 0, .int .i64 0, .int .i64 0] T.frame_Sync w37 fun p55 w56 =>
Hold [(29, (a48.add 7), (w37.cell? (a48.add 7)).getD undef), (22, ((a46.add 7).add 1), (w37.cell? ((a46.add 7).add 1)).getD undef), (17, ((a44.add 7).add 2), (w37.cell? ((a44.add 7).add 2)).getD undef), (12, (p31.add 1), (w37.cell? (p31.add 1)).getD undef), (10, p31, (w37.cell? p31).getD undef), (7, a40, (w37.cell? a40).getD undef), (3, (a38.add 1), (w37.cell? (a38.add 1)).getD undef)] w56 ∧ (
clS Tryz.prog F.elect_Elect_Root [.pointer x41] w56 false [(false, [(.i .i64)])] fun r57 w58 =>
Hold [(29, (a48.add 7), (w37.cell? (a48.add 7)).getD undef), (22, ((a46.add 7).add 1), (w37.cell? ((a46.add 7).add 1)).getD undef), (17, ((a44.add 7).add 2), (w37.cell? ((a44.add 7).add 2)).getD undef), (12, (p31.add 1), (w37.cell? (p31.add 1)).getD undef), (10, p31, (w37.cell? p31).getD undef), (3, (a38.add 1), (w37.cell? (a38.add 1)).getD undef)] w58 ∧ (
stN [.int .i64 x39, .int .i64 r57.1.1, .int .u16 x42, .int .u16 x43, .int .i64 x45, .int .i64 (IntKind.wrap .i64 ((IntKind.wrap .i64 (x47 + local_)) - x49))] p55 0 w58 fun w59 =>
Hold [] w59 ∧ (
J34 (p55, ()) w59))))) (fun (z35 : (Addr) × Unit) w36 => ∀ _ : Nat → Value,
drK w36 fun w60 =>
ldN [(.i .i64), (.i .i64), (.i .u16), (.i .u16), (.i .i64), (.i .i64)] z35.1 0 w60 fun x61 =>
ldN [(.i .i64), (.i .i64), (.i .u16), (.i .u16), (.i .i64), (.i .i64)] z35.1 0 w60 fun x62 =>
clS Tryz.prog F.frame_Good [.iface T.frame_Sync (.agg #[.int .i64 x62.1, .int .i64 x62.2.1, .int .u16 x62.2.2.1, .int .u16 x62.2.2.2.1, .int .i64 x62.2.2.2.2.1, .int .i64 x62.2.2.2.2.2.1])] w60 false [(false, [.b])] fun r63 w64 =>
Hold [(1, (z35.1.add 0), (w60.cell? (z35.1.add 0)).getD undef), (1, (z35.1.add 1), (w60.cell? (z35.1.add 1)).getD undef), (1, (z35.1.add 2), (w60.cell? (z35.1.add 2)).getD undef), (1, (z35.1.add 3), (w60.cell? (z35.1.add 3)).getD undef), (1, (z35.1.add 4), (w60.cell? (z35.1.add 4)).getD undef), (1, (z35.1.add 5), (w60.cell? (z35.1.add 5)).getD undef), (0, (z35.1.add 0), (w60.cell? (z35.1.add 0)).getD undef), (0, (z35.1.add 1), (w60.cell? (z35.1.add 1)).getD undef), (0, (z35.1.add 2), (w60.cell? (z35.1.add 2)).getD undef), (0, (z35.1.add 3), (w60.cell? (z35.1.add 3)).getD undef), (0, (z35.1.add 4), (w60.cell? (z35.1.add 4)).getD undef), (0, (z35.1.add 5), (w60.cell? (z35.1.add 5)).getD undef)] w64 ∧ (
stN [.int .i64 x61.1, .int .i64 x61.2.1, .int .u16 x61.2.2.1, .int .u16 x61.2.2.2.1, .int .i64 x61.2.2.2.2.1, .int .i64 x61.2.2.2.2.2.1] p1 0 w64 fun w65 =>
Hold [(1, (z35.1.add 0), (w60.cell? (z35.1.add 0)).getD undef), (1, (z35.1.add 1), (w60.cell? (z35.1.add 1)).getD undef), (1, (z35.1.add 2), (w60.cell? (z35.1.add 2)).getD undef), (1, (z35.1.add 3), (w60.cell? (z35.1.add 3)).getD undef), (1, (z35.1.add 4), (w60.cell? (z35.1.add 4)).getD undef), (1, (z35.1.add 5), (w60.cell? (z35.1.add 5)).getD undef)] w65 ∧ (
ldN [(.i .i64), (.i .i64), (.i .u16), (.i .u16), (.i .i64), (.i .i64)] p1 0 w65 fun x66 =>
R ((x66.1, x66.2.1, x66.2.2.1, x66.2.2.2.1, x66.2.2.2.2.1, x66.2.2.2.2.2.1, ()), (r63.1.1, ()), ()) w65)))))
set_option maxRecDepth 100000 in
theorem flood_Flood_word.eq (f : Option Addr) (local_ : Int) (w : World) (R : Value → World → Prop) : wpF Tryz.prog Tryz.f43 (.s .n (.s (.s .n (.s (.s .n (.s (.pl (.tk 0 (.tk 1 (.tk 2 (.tk 3 (.tk 4 (.tk 5 (.tk 6 (.tk 7 (.tk 8 (.tk 9 (.tk 10 (.tk 11 (.tk 12 (.tk 13 (.ef 14 [3, 7, 9, 11] (.tk 15 .z))))))))))))))))) .n)) .n)) (.s .n (.s .n (.ct [(10, .a)] (.pl (.tk 0 (.tk 1 (.tk 2 (.tk 3 (.tk 4 (.tk 5 (.tk 6 (.tk 7 (.tk 9 (.tk 10 (.tk 11 (.tk 12 (.tk 13 (.tk 14 (.tk 15 (.tk 16 (.tk 17 (.tk 18 (.tk 19 (.tk 20 (.tk 21 (.tk 22 (.tk 23 (.tk 24 (.tk 25 (.tk 26 (.tk 27 (.tk 28 (.tk 29 (.tk 30 (.two 8 32 (.tk 31 (.ef 32 [] (.ef 33 [3, 7, 10, 12, 17, 22, 29] .z))) (.ef 8 [7] (.tk 31 (.ef 33 [3, 10, 12, 17, 22, 29] .z))))))))))))))))))))))))))))))))))) (.s (.pl (.tk 0 (.tk 1 (.tk 2 (.ef 3 [] (.ef 4 [0] (.tk 5 .z))))))) .n)))))) [.pointer f, .int .i64 local_] w R = flood_Flood_word.wp f local_ w (fun r w => R (encR true [(true, [(.i .i64), (.i .i64), (.i .u16), (.i .u16), (.i .i64), (.i .i64)]), (false, [.b])] r) w) := by kernel_rfl
theorem flood_Flood_word.ok {f : Option Addr} {local_ : Int} {w : World} {R : TR [(true, [(.i .i64), (.i .i64), (.i .u16), (.i .u16), (.i .i64), (.i .i64)]), (false, [.b])] → World → Prop} (h : flood_Flood_word.wp f local_ w R) : clS Tryz.prog F.flood_Flood_word [.pointer f, .int .i64 local_] w true [(true, [(.i .i64), (.i .i64), (.i .u16), (.i .u16), (.i .i64), (.i .i64)]), (false, [.b])] R :=
  ok_of Tryz_follows Tryz.func43 (fun R => flood_Flood_word.wp f local_ w R) (flood_Flood_word.eq f local_ w) rfl h
/-! ### globe_Of -/
set_option maxRecDepth 100000 in
def globe_Of.wp (drift : Int) (t : Option Addr) (w : World) (R : TR [(true, [(.i .i64), (.i .i64), (.i .i64), (.i .i64), (.i .i64)]), (false, [.b])] → World → Prop) : Prop :=
alK [.int .i64 0, .int .i64 0, .int .i64 0, .int .i64 0, .int .i64 0] T.globe_Map w fun p1 w2 =>
clS Tryz.prog F.table_Table_Len [.pointer t] w2 false [(false, [(.i .i64)])] fun r3 w4 =>
brB (r3.1.1 == 0) (
stN [.int .i64 0, .int .i64 0, .int .i64 0, .int .i64 0, .int .i64 0] p1 0 w4 fun w5 =>
ldN [(.i .i64), (.i .i64), (.i .i64), (.i .i64), (.i .i64)] p1 0 w5 fun x6 =>
R ((x6.1, x6.2.1, x6.2.2.1, x6.2.2.2.1, x6.2.2.2.2.1, ()), (false, ()), ()) w5) (
alK [.int .i64 0] T.int w4 fun p7 w8 =>
alK [.int .i64 0] T.int w8 fun p9 w10 =>
stN [.int .i64 0] p7 0 w10 fun w11 =>
stN [.int .i64 0] p9 0 w11 fun w12 =>
clS Tryz.prog F.table_Table_All [.pointer t] w12 false [(false, [.any])] fun r13 w14 =>
RfT Tryz.prog r13.1.1 [(true, [(.i .i64), (.i .i64), (.i .i64)])] w14 (fun x15 k16 w17 =>
alK [.int .i64 0, .int .i64 0, .int .i64 0] T.table_Entry w17 fun p23 w24 =>
stN [.int .i64 x15.1.1, .int .i64 x15.1.2.1, .int .i64 x15.1.2.2.1] p23 0 w24 fun w25 =>
k16 w25 fun go18 lv19 w20 =>
ld1 (.i .i64) p7 w20 fun x26 =>
ld1 (.i .i64) p23 w20 fun x27 =>
stN [.int .i64 (IntKind.wrap .i64 (x26 + x27))] p7 0 w20 fun w28 =>
ld1 (.i .i64) p9 w28 fun x29 =>
ld1 (.i .i64) (p23.add 1) w28 fun x30 =>
stN [.int .i64 (IntKind.wrap .i64 (x29 + x30))] p9 0 w28 fun w31 =>
go18 w31) (fun D21 w22 =>
ld1 (.i .i64) p7 w22 fun x32 =>
clS Tryz.prog F.fix_Floor [.int .i64 x32, .int .i64 r3.1.1] w22 true [(false, [(.i .i64)]), (false, [(.i .i64)]), (false, [.b])] fun r33 w34 =>
stN [.int .i64 r33.1.1] p7 0 w34 fun w35 =>
ld1 (.i .i64) p9 w35 fun x36 =>
clS Tryz.prog F.fix_Floor [.int .i64 x36, .int .i64 r3.1.1] w35 true [(false, [(.i .i64)]), (false, [(.i .i64)]), (false, [.b])] fun r37 w38 =>
stN [.int .i64 r37.1.1] p9 0 w38 fun w39 =>
drK w39 fun w40 =>
ld1 (.i .i64) p7 w40 fun x41 =>
ld1 (.i .i64) p9 w40 fun x42 =>
clS Tryz.prog F.table_Table_List [.pointer t] w40 false [(false, [.sl])] fun r43 w44 =>
Hold [(1, p9, (w40.cell? p9).getD undef), (0, p7, (w40.cell? p7).getD undef)] w44 ∧ (
clS Tryz.prog F.slope_Of [.int .i64 drift, .slice r43.1.1.1 r43.1.1.2.1 r43.1.1.2.2] w44 false [(true, [(.i .i64), (.i .i64)])] fun r45 w46 =>
Hold [(1, p9, (w40.cell? p9).getD undef), (0, p7, (w40.cell? p7).getD undef)] w46 ∧ (
clS Tryz.prog F.table_Table_Hops [.pointer t] w46 false [(false, [(.i .i64)])] fun r47 w48 =>
Hold [(1, p9, (w40.cell? p9).getD undef), (0, p7, (w40.cell? p7).getD undef)] w48 ∧ (
stN [.int .i64 x41, .int .i64 x42, .int .i64 r45.1.1, .int .i64 r45.1.2.1, .int .i64 r47.1.1] p1 0 w48 fun w49 =>
Hold [] w49 ∧ (
tkK D21 w49 fun w50 =>
ldN [(.i .i64), (.i .i64), (.i .i64), (.i .i64), (.i .i64)] p1 0 w50 fun x51 =>
R ((x51.1, x51.2.1, x51.2.2.1, x51.2.2.2.1, x51.2.2.2.2.1, ()), (true, ()), ()) w50))))) [])
set_option maxRecDepth 100000 in
theorem globe_Of.eq (drift : Int) (t : Option Addr) (w : World) (R : Value → World → Prop) : wpF Tryz.prog Tryz.f44 (.s .n (.s .n (.s .n (.s .n (.s (.s .n (.rf [(true, [(.i .i64), (.i .i64), (.i .i64)])] .n .n)) (.s .n (.s .n (.s (.pl (.tk 0 (.tk 1 (.tk 2 (.tk 3 (.tk 6 (.ef 4 [] (.ef 5 [] (.ef 7 [] (.tk 8 (.ef 9 [0, 1] (.tk 10 .z)))))))))))) .n)))))))) [.int .i64 drift, .pointer t] w R = globe_Of.wp drift t w (fun r w => R (encR true [(true, [(.i .i64), (.i .i64), (.i .i64), (.i .i64), (.i .i64)]), (false, [.b])] r) w) := by kernel_rfl
theorem globe_Of.ok {drift : Int} {t : Option Addr} {w : World} {R : TR [(true, [(.i .i64), (.i .i64), (.i .i64), (.i .i64), (.i .i64)]), (false, [.b])] → World → Prop} (h : globe_Of.wp drift t w R) : clS Tryz.prog F.globe_Of [.int .i64 drift, .pointer t] w true [(true, [(.i .i64), (.i .i64), (.i .i64), (.i .i64), (.i .i64)]), (false, [.b])] R :=
  ok_of Tryz_follows Tryz.func44 (fun R => globe_Of.wp drift t w R) (globe_Of.eq drift t w) rfl h
/-! ### globe_Map_Global -/
set_option maxRecDepth 100000 in
def globe_Map_Global.wp (m0 : Int) (m1 : Int) (m2 : Int) (m3 : Int) (m4 : Int) (local_ : Int) (w : World) (R : TR [(false, [(.i .i64)]), (false, [.b])] → World → Prop) : Prop :=
alK [.int .i64 m0, .int .i64 m1, .int .i64 m2, .int .i64 m3, .int .i64 m4] T.globe_Map w fun p1 w2 =>
brB (decide (local_ < 0)) (
R ((0, ()), (false, ()), ()) w2) (
brB (decide (local_ > 1125899906842624)) (
R ((0, ()), (false, ()), ()) w2) (
ld1 (.i .i64) p1 w2 fun x3 =>
brB (decide (x3 < 0)) (
R ((0, ()), (false, ()), ()) w2) (
ld1 (.i .i64) p1 w2 fun x4 =>
brB (decide (x4 > 1125899906842624)) (
R ((0, ()), (false, ()), ()) w2) (
ldN [(.i .i64), (.i .i64)] (p1.add 2) 0 w2 fun x5 =>
ld1 (.i .i64) p1 w2 fun x6 =>
clS Tryz.prog F.slope_Slope_Gain [.agg #[.int .i64 x5.1, .int .i64 x5.2.1], .int .i64 (IntKind.wrap .i64 (local_ - x6))] w2 false [(false, [(.i .i64)])] fun r7 w8 =>
ld1 (.i .i64) (p1.add 1) w8 fun x9 =>
clS Tryz.prog F.fix_Clamp [.int .i64 x9, .int .i64 (Int.negSucc 1125899906842623), .int .i64 1125899906842624] w8 false [(false, [(.i .i64)])] fun r10 w11 =>
clS Tryz.prog F.fix_Sat [.int .i64 local_, .int .i64 r10.1.1] w11 false [(false, [(.i .i64)])] fun r12 w13 =>
clS Tryz.prog F.fix_Clamp [.int .i64 r7.1.1, .int .i64 (Int.negSucc 1125899906842623), .int .i64 1125899906842624] w13 false [(false, [(.i .i64)])] fun r14 w15 =>
clS Tryz.prog F.fix_Sat [.int .i64 r12.1.1, .int .i64 r14.1.1] w15 false [(false, [(.i .i64)])] fun r16 w17 =>
brB (decide (r16.1.1 < 0)) (
R ((0, ()), (false, ()), ()) w17) (
brB (decide (r16.1.1 > 1125899906842624)) (
R ((0, ()), (false, ()), ()) w17) (
R ((r16.1.1, ()), (true, ()), ()) w17))))))
set_option maxRecDepth 100000 in
theorem globe_Map_Global.eq (m0 : Int) (m1 : Int) (m2 : Int) (m3 : Int) (m4 : Int) (local_ : Int) (w : World) (R : Value → World → Prop) : wpF Tryz.prog Tryz.f45 .n [.agg #[.int .i64 m0, .int .i64 m1, .int .i64 m2, .int .i64 m3, .int .i64 m4], .int .i64 local_] w R = globe_Map_Global.wp m0 m1 m2 m3 m4 local_ w (fun r w => R (encR true [(false, [(.i .i64)]), (false, [.b])] r) w) := by kernel_rfl
theorem globe_Map_Global.ok {m0 : Int} {m1 : Int} {m2 : Int} {m3 : Int} {m4 : Int} {local_ : Int} {w : World} {R : TR [(false, [(.i .i64)]), (false, [.b])] → World → Prop} (h : globe_Map_Global.wp m0 m1 m2 m3 m4 local_ w R) : clS Tryz.prog F.globe_Map_Global [.agg #[.int .i64 m0, .int .i64 m1, .int .i64 m2, .int .i64 m3, .int .i64 m4], .int .i64 local_] w true [(false, [(.i .i64)]), (false, [.b])] R :=
  ok_of Tryz_follows Tryz.func45 (fun R => globe_Map_Global.wp m0 m1 m2 m3 m4 local_ w R) (globe_Map_Global.eq m0 m1 m2 m3 m4 local_ w) rfl h
/-! ### elect_Elect_Hear -/
set_option maxRecDepth 100000 in
def elect_Elect_Hear.wp (e : Option Addr) (root : Int) (m0 : Int) (m1 : Int) (w : World) (R : TR [(false, [(.i .i64)])] → World → Prop) : Prop :=
alK [.int .u16 m0, .int .u16 m1] T.elect_Mark w fun p1 w2 =>
brB (Option.isNone e) (
R ((0, ()), ()) w2) (
clS Tryz.prog F.elect_Elect_may [.pointer e, .int .i64 root] w2 false [(false, [.b])] fun r3 w4 =>
brB (!r3.1.1) (
R ((0, ()), ()) w4) (
ncK e fun a5 =>
ld1 .m (a5.add 8) w4 fun x6 =>
lkO Tryz.prog T.map_int_elect_Mark (.map x6) (.int .i64 root) w4 true [(.i .u16), (.i .u16)] fun x7 b8 =>
alK [.int .u16 0, .int .u16 0] T.elect_Mark w4 fun p9 w10 =>
stN [.int .u16 x7.1, .int .u16 x7.2.1] p9 0 w10 fun w11 =>
CutT (fun (J12 : Unit → World → Prop) =>
brB b8 (
ldN [(.i .u16), (.i .u16)] p1 0 w11 fun x15 =>
ldN [(.i .u16), (.i .u16)] p9 0 w11 fun x16 =>
clS Tryz.prog F.elect_Mark_newer [.agg #[.int .u16 x15.1, .int .u16 x15.2.1], .agg #[.int .u16 x16.1, .int .u16 x16.2.1]] w11 false [(false, [.b])] fun r17 w18 =>
brB (!r17.1.1) (
R ((0, ()), ()) w18) (
J12 (()) w18)) (
J12 (()) w11)) (fun (z13 : Unit) w14 => ∀ _ : Nat → Value,
CutT (fun (J19 : ((Bool) × Unit) → World → Prop) =>
ncK e fun a22 =>
ld1 (.i .i64) (a22.add 5) w14 fun x23 =>
brB (x23 != root) (
J19 (true, ()) w14) (
ld1 (.i .u16) p9 w14 fun x24 =>
ld1 (.i .u16) p1 w14 fun x25 =>
J19 ((x24 != x25), ()) w14)) (fun (z20 : (Bool) × Unit) w21 => ∀ _ : Nat → Value,
drK w21 fun w26 =>
ncK e fun a27 =>
ld1 .m (a27.add 8) w26 fun x28 =>
ldN [(.i .u16), (.i .u16)] p1 0 w26 fun x29 =>
muK Tryz.prog T.map_int_elect_Mark (.map x28) (.int .i64 root) (.agg #[.int .u16 x29.1, .int .u16 x29.2.1]) w26 fun w30 =>
Hold [] w30 ∧ (
ncK e fun a31 =>
stN [.int .i64 root] (a31.add 5) 0 w30 fun w32 =>
ncK e fun a33 =>
stN [.int .i64 0] (a33.add 6) 0 w32 fun w34 =>
ncK e fun a35 =>
stN [.int .i64 0] (a35.add 7) 0 w34 fun w36 =>
brB z20.1 (
R ((2, ()), ()) w36) (
R ((1, ()), ()) w36))))))
set_option maxRecDepth 100000 in
theorem elect_Elect_Hear.eq (e : Option Addr) (root : Int) (m0 : Int) (m1 : Int) (w : World) (R : Value → World → Prop) : wpF Tryz.prog Tryz.f46 (.s .n (.s .n (.s .n (.ct [] .n (.ct [(9, .b)] .n (.s (.pl (.tk 0 (.tk 1 (.tk 2 (.tk 3 (.tk 4 (.tk 5 (.ef 6 [3, 5] .z)))))))) .n)))))) [.pointer e, .int .i64 root, .agg #[.int .u16 m0, .int .u16 m1]] w R = elect_Elect_Hear.wp e root m0 m1 w (fun r w => R (encR false [(false, [(.i .i64)])] r) w) := by kernel_rfl
theorem elect_Elect_Hear.ok {e : Option Addr} {root : Int} {m0 : Int} {m1 : Int} {w : World} {R : TR [(false, [(.i .i64)])] → World → Prop} (h : elect_Elect_Hear.wp e root m0 m1 w R) : clS Tryz.prog F.elect_Elect_Hear [.pointer e, .int .i64 root, .agg #[.int .u16 m0, .int .u16 m1]] w false [(false, [(.i .i64)])] R :=
  ok_of Tryz_follows Tryz.func46 (fun R => elect_Elect_Hear.wp e root m0 m1 w R) (elect_Elect_Hear.eq e root m0 m1 w) rfl h
/-! ### table_Table_Add -/
set_option maxRecDepth 100000 in
def table_Table_Add.wp (t : Option Addr) (e0 : Int) (e1 : Int) (e2 : Int) (w : World) (R : TR [(false, [(.i .i64)])] → World → Prop) : Prop :=
alK [.int .i64 e0, .int .i64 e1, .int .i64 e2] T.table_Entry w fun p1 w2 =>
CutT (fun (J3 : Unit → World → Prop) =>
clS Tryz.prog F.table_Table_Last [.pointer t] w2 true [(true, [(.i .i64), (.i .i64), (.i .i64)]), (false, [.b])] fun r6 w7 =>
alK [.int .i64 0, .int .i64 0, .int .i64 0] T.table_Entry w7 fun p8 w9 =>
stN [.int .i64 r6.1.1, .int .i64 r6.1.2.1, .int .i64 r6.1.2.2.1] p8 0 w9 fun w10 =>
brB (Option.isNone t) (
R ((2, ()), ()) w10) (
ldN [(.i .i64), (.i .i64), (.i .i64)] p1 0 w10 fun x11 =>
clS Tryz.prog F.table_Entry_Good [.agg #[.int .i64 x11.1, .int .i64 x11.2.1, .int .i64 x11.2.2.1]] w10 false [(false, [.b])] fun r12 w13 =>
brB (!r12.1.1) (
R ((1, ()), ()) w13) (
brB r6.2.1.1 (
ld1 (.i .i64) p1 w13 fun x14 =>
ld1 (.i .i64) p8 w13 fun x15 =>
brB (decide (x14 ≤ x15)) (
R ((12, ()), ()) w13) (
J3 (()) w13)) (
J3 (()) w13)))) (fun (z4 : Unit) w5 => ∀ _ : Nat → Value,
drK w5 fun w16 =>
ncK t fun a17 =>
ld1 .sl a17 w16 fun x18 =>
ldN [(.i .i64), (.i .i64), (.i .i64)] p1 0 w16 fun x19 =>
alK [.int .i64 x19.1, .int .i64 x19.2.1, .int .i64 x19.2.2.1] T.table_Entry w16 fun p20 w21 =>
Hold [(5, (p1.add 0), (w16.cell? (p1.add 0)).getD undef), (5, (p1.add 1), (w16.cell? (p1.add 1)).getD undef), (5, (p1.add 2), (w16.cell? (p1.add 2)).getD undef), (4, a17, (w16.cell? a17).getD undef)] w21 ∧ (
slOf ((Builtin.append_ #[T.sl_table_Entry, T.sl_table_Entry] T.sl_table_Entry #[.slice x18.1 x18.2.1 x18.2.2, .slice (some p20) 1 1]).run Tryz.prog w21) fun y22 w23 =>
Hold [(5, (p1.add 0), (w16.cell? (p1.add 0)).getD undef), (5, (p1.add 1), (w16.cell? (p1.add 1)).getD undef), (5, (p1.add 2), (w16.cell? (p1.add 2)).getD undef)] w23 ∧ (
ncK t fun a24 =>
stN [.slice y22.1 y22.2.1 y22.2.2] a24 0 w23 fun w25 =>
Hold [] w25 ∧ (
ncK t fun a26 =>
ld1 .sl a26 w25 fun x27 =>
brB (decide ((x27.2.1 : Int) > 8)) (
ncK t fun a28 =>
ld1 .sl a28 w25 fun x29 =>
slK 1 (x29.2.1 : Int) x29.2.2 (
clS Tryz.prog F.slices_Clone_table_Entry_table_Entry [.slice (slA x29.1 x29.2.2 (Int.toNat 1) 3) ((Int.toNat (x29.2.1 : Int)) - (Int.toNat 1)) (x29.2.2 - Int.toNat 1)] w25 false [(false, [.sl])] fun r30 w31 =>
ncK t fun a32 =>
stN [.slice r30.1.1.1 r30.1.1.2.1 r30.1.1.2.2] a32 0 w31 fun w33 =>
R ((0, ()), ()) w33)) (
R ((0, ()), ()) w25)))))
set_option maxRecDepth 100000 in
theorem table_Table_Add.eq (t : Option Addr) (e0 : Int) (e1 : Int) (e2 : Int) (w : World) (R : Value → World → Prop) : wpF Tryz.prog Tryz.f47 (.s .n (.ct [] .n (.s (.pl (.tk 0 (.tk 1 (.tk 2 (.tk 3 (.tk 4 (.tk 5 (.ef 6 [] (.ef 7 [4] (.tk 8 (.tk 9 (.ef 10 [5] .z)))))))))))) .n))) [.pointer t, .agg #[.int .i64 e0, .int .i64 e1, .int .i64 e2]] w R = table_Table_Add.wp t e0 e1 e2 w (fun r w => R (encR false [(false, [(.i .i64)])] r) w) := by kernel_rfl
theorem table_Table_Add.ok {t : Option Addr} {e0 : Int} {e1 : Int} {e2 : Int} {w : World} {R : TR [(false, [(.i .i64)])] → World → Prop} (h : table_Table_Add.wp t e0 e1 e2 w R) : clS Tryz.prog F.table_Table_Add [.pointer t, .agg #[.int .i64 e0, .int .i64 e1, .int .i64 e2]] w false [(false, [(.i .i64)])] R :=
  ok_of Tryz_follows Tryz.func47 (fun R => table_Table_Add.wp t e0 e1 e2 w R) (table_Table_Add.eq t e0 e1 e2 w) rfl h
/-! ### table_Table_Clear -/
set_option maxRecDepth 100000 in
def table_Table_Clear.wp (t : Option Addr) (w : World) (R : TR [] → World → Prop) : Prop :=
brB (!(Option.isNone t)) (
ncK t fun a1 =>
stN [.slice none 0 0] a1 0 w fun w2 =>
R (()) w2) (
R (()) w)
set_option maxRecDepth 100000 in
theorem table_Table_Clear.eq (t : Option Addr) (w : World) (R : Value → World → Prop) : wpF Tryz.prog Tryz.f48 .n [.pointer t] w R = table_Table_Clear.wp t w (fun r w => R (encR true [] r) w) := by kernel_rfl
theorem table_Table_Clear.ok {t : Option Addr} {w : World} {R : TR [] → World → Prop} (h : table_Table_Clear.wp t w R) : clS Tryz.prog F.table_Table_Clear [.pointer t] w true [] R :=
  ok_of Tryz_follows Tryz.func48 (fun R => table_Table_Clear.wp t w R) (table_Table_Clear.eq t w) rfl h
/-! ### table_Table_Len -/
set_option maxRecDepth 100000 in
def table_Table_Len.wp (t : Option Addr) (w : World) (R : TR [(false, [(.i .i64)])] → World → Prop) : Prop :=
brB (Option.isNone t) (
R ((0, ()), ()) w) (
ncK t fun a1 =>
ld1 .sl a1 w fun x2 =>
R (((x2.2.1 : Int), ()), ()) w)
set_option maxRecDepth 100000 in
theorem table_Table_Len.eq (t : Option Addr) (w : World) (R : Value → World → Prop) : wpF Tryz.prog Tryz.f49 .n [.pointer t] w R = table_Table_Len.wp t w (fun r w => R (encR false [(false, [(.i .i64)])] r) w) := by kernel_rfl
theorem table_Table_Len.ok {t : Option Addr} {w : World} {R : TR [(false, [(.i .i64)])] → World → Prop} (h : table_Table_Len.wp t w R) : clS Tryz.prog F.table_Table_Len [.pointer t] w false [(false, [(.i .i64)])] R :=
  ok_of Tryz_follows Tryz.func49 (fun R => table_Table_Len.wp t w R) (table_Table_Len.eq t w) rfl h
end Go.Proofs.YtgpgdhopmifbpaaGreat
