import Derived.Test.YtgpgdhopmifbpaaNm
namespace Go.Proofs.Ytgpgdhopmifbpaa
open Go.Eng
set_option linter.unusedVariables false
/-! ### flood_Flood_Time -/
set_option maxRecDepth 100000 in
def flood_Flood_Time.wp (f : Option Addr) (local_ : Int) (w : World) (R : TR [(false, [(.i .i64)]), (false, [(.i .i64)]), (false, [(.i .i64)])] → World → Prop) : Prop :=
brB (Option.isNone f) (
R ((0, ()), (0, ()), (2, ()), ()) w) (
clS Try.prog F.flood_Flood_Synced [.pointer f] w false [(false, [.b])] fun r1 w2 =>
brB (!r1.1.1) (
R ((0, ()), (0, ()), (9, ()), ()) w2) (
CutT (fun (J3 : ((Bool) × Unit) → World → Prop) =>
brB (decide (local_ < 0)) (
J3 (true, ()) w2) (
J3 (decide (local_ > 1125899906842624), ()) w2)) (fun (z4 : (Bool) × Unit) w5 => ∀ _ : Nat → Value,
brB z4.1 (
R ((0, ()), (0, ()), (8, ()), ()) w5) (
ncK f fun a6 =>
ld1 .p a6 w5 fun x7 =>
clS Try.prog F.elect_Elect_Mine [.pointer x7] w5 false [(false, [.b])] fun r8 w9 =>
brB r8.1.1 (
R ((local_, ()), (0, ()), (0, ()), ()) w9) (
CutT (fun (J10 : ((Addr) × Unit) → World → Prop) =>
drK w9 fun w13 =>
ncK f fun a14 =>
ld1 (.i .i64) ((a14.add 2).add 3) w13 fun x15 =>
ncK f fun a16 =>
(
clS Try.prog F.globe_Of [.int .i64 x15, .pointer (some (a16.add 6))] w13 true [(true, [(.i .i64), (.i .i64), (.i .i64), (.i .i64), (.i .i64)]), (false, [.b])] fun r17 w18 =>
Hold [(4, ((a14.add 2).add 3), (w13.cell? ((a14.add 2).add 3)).getD undef)] w18 ∧ (
alK [.int .i64 0, .int .i64 0, .int .i64 0, .int .i64 0, .int .i64 0] T.globe_Map w18 fun p19 w20 =>
Hold [(4, ((a14.add 2).add 3), (w13.cell? ((a14.add 2).add 3)).getD undef)] w20 ∧ (
stN [.int .i64 r17.1.1, .int .i64 r17.1.2.1, .int .i64 r17.1.2.2.1, .int .i64 r17.1.2.2.2.1, .int .i64 r17.1.2.2.2.2.1] p19 0 w20 fun w21 =>
Hold [] w21 ∧ (
J10 (p19, ()) w21)))) ∧ (
alK [.int .i64 0, .int .i64 0, .int .i64 0, .int .i64 0, .int .i64 0] T.globe_Map w13 fun p22 w23 =>
Hold [(4, ((a14.add 2).add 3), (w13.cell? ((a14.add 2).add 3)).getD undef)] w23 ∧ (
clS Try.prog F.globe_Of [.int .i64 x15, .pointer (some (a16.add 6))] w23 true [(true, [(.i .i64), (.i .i64), (.i .i64), (.i .i64), (.i .i64)]), (false, [.b])] fun r24 w25 =>
Hold [] w25 ∧ (
stN [.int .i64 r24.1.1, .int .i64 r24.1.2.1, .int .i64 r24.1.2.2.1, .int .i64 r24.1.2.2.2.1, .int .i64 r24.1.2.2.2.2.1] p22 0 w25 fun w26 =>
Hold [] w26 ∧ (
J10 (p22, ()) w26))))) (fun (z11 : (Addr) × Unit) w12 => ∀ _ : Nat → Value,
ldN [(.i .i64), (.i .i64), (.i .i64), (.i .i64), (.i .i64)] z11.1 0 w12 fun x27 =>
clS Try.prog F.globe_Map_Global [.agg #[.int .i64 x27.1, .int .i64 x27.2.1, .int .i64 x27.2.2.1, .int .i64 x27.2.2.2.1, .int .i64 x27.2.2.2.2.1], .int .i64 local_] w12 true [(false, [(.i .i64)]), (false, [.b])] fun r28 w29 =>
brB (!r28.2.1.1) (
R ((0, ()), (0, ()), (8, ()), ()) w29) (
drK w29 fun w30 =>
ld1 (.i .i64) (z11.1.add 4) w30 fun x31 =>
R ((r28.1.1, ()), (x31, ()), (0, ()), ()) w30)))))))
set_option maxRecDepth 100000 in
theorem flood_Flood_Time.eq (f : Option Addr) (local_ : Int) (w : World) (R : Value → World → Prop) : wpF Try.prog Try.f31 (.s .n (.s (.s .n (.s .n (.s .n (.s .n (.ct [(18, .b)] .n .n))))) (.ct [(7, .a)] (.pl (.tk 0 (.tk 1 (.tk 2 (.tk 3 (.tk 4 (.tk 5 (.tk 6 (.tk 7 (.two 8 12 (.tk 9 (.tk 10 (.tk 11 (.ef 12 [] (.ef 13 [4] (.tk 14 .z)))))) (.ef 8 [4] (.tk 9 (.tk 10 (.tk 11 (.ef 13 [] (.tk 14 .z)))))))))))))))) (.s .n (.s .n (.s (.pl (.tk 0 (.tk 1 (.tk 2 (.tk 3 (.tk 4 (.tk 5 .z))))))) .n)))))) [.pointer f, .int .i64 local_] w R = flood_Flood_Time.wp f local_ w (fun r w => R (encR true [(false, [(.i .i64)]), (false, [(.i .i64)]), (false, [(.i .i64)])] r) w) := by kernel_rfl
theorem flood_Flood_Time.ok {f : Option Addr} {local_ : Int} {w : World} {R : TR [(false, [(.i .i64)]), (false, [(.i .i64)]), (false, [(.i .i64)])] → World → Prop} (h : flood_Flood_Time.wp f local_ w R) : clS Try.prog F.flood_Flood_Time [.pointer f, .int .i64 local_] w true [(false, [(.i .i64)]), (false, [(.i .i64)]), (false, [(.i .i64)])] R :=
  ok_of Try_follows Try.func31 (fun R => flood_Flood_Time.wp f local_ w R) (flood_Flood_Time.eq f local_ w) rfl h
/-! ### flood_Flood_Boot -/
set_option maxRecDepth 100000 in
def flood_Flood_Boot.wp (f : Option Addr) (boot : Int) (w : World) (R : TR [] → World → Prop) : Prop :=
brB (!(Option.isNone f)) (
ncK f fun a1 =>
ld1 .p a1 w fun x2 =>
clS Try.prog F.elect_Elect_Boot [.pointer x2, .int .u16 boot] w true [] fun r3 w4 =>
clS Try.prog F.flood_Flood_forget [.pointer f] w4 true [] fun r5 w6 =>
R (()) w6) (
R (()) w)
set_option maxRecDepth 100000 in
theorem flood_Flood_Boot.eq (f : Option Addr) (boot : Int) (w : World) (R : Value → World → Prop) : wpF Try.prog Try.f32 .n [.pointer f, .int .u16 boot] w R = flood_Flood_Boot.wp f boot w (fun r w => R (encR true [] r) w) := by kernel_rfl
theorem flood_Flood_Boot.ok {f : Option Addr} {boot : Int} {w : World} {R : TR [] → World → Prop} (h : flood_Flood_Boot.wp f boot w R) : clS Try.prog F.flood_Flood_Boot [.pointer f, .int .u16 boot] w true [] R :=
  ok_of Try_follows Try.func32 (fun R => flood_Flood_Boot.wp f boot w R) (flood_Flood_Boot.eq f boot w) rfl h
/-! ### flood_Flood_Synced -/
set_option maxRecDepth 100000 in
def flood_Flood_Synced.wp (f : Option Addr) (w : World) (R : TR [(false, [.b])] → World → Prop) : Prop :=
drK w fun w1 =>
brB (!(Option.isNone f)) (
ncK f fun a2 =>
ld1 .p a2 w1 fun x3 =>
clS Try.prog F.elect_Elect_Mine [.pointer x3] w1 false [(false, [.b])] fun r4 w5 =>
Hold [(6, a2, (w1.cell? a2).getD undef)] w5 ∧ (
brB r4.1.1 (
R ((true, ()), ()) w5) (
ncK f fun a6 =>
ncK f fun a7 =>
ld1 (.i .i64) ((a7.add 2).add 2) w5 fun x8 =>
clS Try.prog F.table_Table_Len [.pointer (some (a6.add 6))] w5 false [(false, [(.i .i64)])] fun r9 w10 =>
Hold [(17, ((a7.add 2).add 2), (w5.cell? ((a7.add 2).add 2)).getD undef), (6, a2, (w1.cell? a2).getD undef)] w10 ∧ (
R ((decide (r9.1.1 ≥ x8), ()), ()) w10)))) (
R ((false, ()), ()) w1)
set_option maxRecDepth 100000 in
theorem flood_Flood_Synced.eq (f : Option Addr) (w : World) (R : Value → World → Prop) : wpF Try.prog Try.f33 (.s .n (.s (.pl (.tk 0 (.tk 1 (.tk 2 (.tk 3 (.tk 4 (.tk 5 (.tk 6 (.ef 7 [] (.tk 8 (.tk 9 (.tk 10 (.tk 11 (.tk 13 (.tk 14 (.tk 15 (.tk 16 (.tk 17 (.ef 12 [] (.tk 18 (.tk 19 (.tk 20 (.tk 21 .z))))))))))))))))))))))) .n)) [.pointer f] w R = flood_Flood_Synced.wp f w (fun r w => R (encR false [(false, [.b])] r) w) := by kernel_rfl
theorem flood_Flood_Synced.ok {f : Option Addr} {w : World} {R : TR [(false, [.b])] → World → Prop} (h : flood_Flood_Synced.wp f w R) : clS Try.prog F.flood_Flood_Synced [.pointer f] w false [(false, [.b])] R :=
  ok_of Try_follows Try.func33 (fun R => flood_Flood_Synced.wp f w R) (flood_Flood_Synced.eq f w) rfl h
/-! ### flood_Flood_Entries -/
set_option maxRecDepth 100000 in
def flood_Flood_Entries.wp (f : Option Addr) (w : World) (R : TR [(false, [(.i .i64)])] → World → Prop) : Prop :=
brB (Option.isNone f) (
R ((0, ()), ()) w) (
ncK f fun a1 =>
clS Try.prog F.table_Table_Len [.pointer (some (a1.add 6))] w false [(false, [(.i .i64)])] fun r2 w3 =>
R ((r2.1.1, ()), ()) w3)
set_option maxRecDepth 100000 in
theorem flood_Flood_Entries.eq (f : Option Addr) (w : World) (R : Value → World → Prop) : wpF Try.prog Try.f34 .n [.pointer f] w R = flood_Flood_Entries.wp f w (fun r w => R (encR false [(false, [(.i .i64)])] r) w) := by kernel_rfl
theorem flood_Flood_Entries.ok {f : Option Addr} {w : World} {R : TR [(false, [(.i .i64)])] → World → Prop} (h : flood_Flood_Entries.wp f w R) : clS Try.prog F.flood_Flood_Entries [.pointer f] w false [(false, [(.i .i64)])] R :=
  ok_of Try_follows Try.func34 (fun R => flood_Flood_Entries.wp f w R) (flood_Flood_Entries.eq f w) rfl h
/-! ### anchor_Book_Make -/
set_option maxRecDepth 100000 in
def anchor_Book_Make.wp (b : Option Addr) (me : Int) (t0 : Int) (t1 : Int) (t2 : Int) (t3 : Int) (t4 : Int) (tai : Int) (w : World) (R : TR [(true, [(.i .i64), (.i .u16), (.i .i64), (.i .u16), (.i .i64), (.i .i64)]), (false, [(.i .i64)])] → World → Prop) : Prop :=
alK [.int .i64 t0, .int .i64 t1, .int .i64 t2, .int .u16 t3, .int .i64 t4] T.source_Answer w fun p1 w2 =>
alK [.int .i64 0, .int .u16 0, .int .i64 0, .int .u16 0, .int .i64 0, .int .i64 0] T.frame_Anchor w2 fun p3 w4 =>
brB (Option.isNone b) (
stN [.int .i64 0, .int .u16 0, .int .i64 0, .int .u16 0, .int .i64 0, .int .i64 0] p3 0 w4 fun w5 =>
ldN [(.i .i64), (.i .u16), (.i .i64), (.i .u16), (.i .i64), (.i .i64)] p3 0 w5 fun x6 =>
R ((x6.1, x6.2.1, x6.2.2.1, x6.2.2.2.1, x6.2.2.2.2.1, x6.2.2.2.2.2.1, ()), (2, ()), ()) w5) (
CutT (fun (J7 : ((Addr) × Unit) → World → Prop) =>
drK w4 fun w10 =>
ncK b fun a11 =>
ld1 (.i .u16) ((a11.add 1).add 1) w10 fun x12 =>
ld1 (.i .i64) (p1.add 2) w10 fun x13 =>
ld1 (.i .u16) ((p1.add 2).add 1) w10 fun x14 =>
ld1 (.i .i64) p1 w10 fun x15 =>
(
clS Try.prog F.wrap_Next [.int .u16 x12] w10 false [(false, [(.i .u16)])] fun r16 w17 =>
Hold [(14, p1, (w10.cell? p1).getD undef), (12, ((p1.add 2).add 1), (w10.cell? ((p1.add 2).add 1)).getD undef), (9, (p1.add 2), (w10.cell? (p1.add 2)).getD undef), (5, ((a11.add 1).add 1), (w10.cell? ((a11.add 1).add 1)).getD undef)] w17 ∧ (
alK [.int .i64 0, .int .u16 0, .int .i64 0, .int .u16 0, .int .i64 0, .int .i64 0] T.frame_Anchor w17 fun p18 w19 =>
Hold [(14, p1, (w10.cell? p1).getD undef), (12, ((p1.add 2).add 1), (w10.cell? ((p1.add 2).add 1)).getD undef), (9, (p1.add 2), (w10.cell? (p1.add 2)).getD undef), (5, ((a11.add 1).add 1), (w10.cell? ((a11.add 1).add 1)).getD undef)] w19 ∧ (
stN [.int .i64 me, .int .u16 r16.1.1, .int .i64 x13, .int .u16 x14, .int .i64 x15, .int .i64 tai] p18 0 w19 fun w20 =>
Hold [] w20 ∧ (
J7 (p18, ()) w20)))) ∧ (
alK [.int .i64 0, .int .u16 0, .int .i64 0, .int .u16 0, .int .i64 0, .int .i64 0] T.frame_Anchor w10 fun p21 w22 =>
Hold [(14, p1, (w10.cell? p1).getD undef), (12, ((p1.add 2).add 1), (w10.cell? ((p1.add 2).add 1)).getD undef), (9, (p1.add 2), (w10.cell? (p1.add 2)).getD undef), (5, ((a11.add 1).add 1), (w10.cell? ((a11.add 1).add 1)).getD undef)] w22 ∧ (
clS Try.prog F.wrap_Next [.int .u16 x12] w22 false [(false, [(.i .u16)])] fun r23 w24 =>
Hold [(14, p1, (w10.cell? p1).getD undef), (12, ((p1.add 2).add 1), (w10.cell? ((p1.add 2).add 1)).getD undef), (9, (p1.add 2), (w10.cell? (p1.add 2)).getD undef)] w24 ∧ (
stN [.int .i64 me, .int .u16 r23.1.1, .int .i64 x13, .int .u16 x14, .int .i64 x15, .int .i64 tai] p21 0 w24 fun w25 =>
Hold [] w25 ∧ (
J7 (p21, ()) w25))))) (fun (z8 : (Addr) × Unit) w9 => ∀ _ : Nat → Value,
ldN [(.i .i64), (.i .u16), (.i .i64), (.i .u16), (.i .i64), (.i .i64)] z8.1 0 w9 fun x26 =>
clS Try.prog F.frame_Good [.iface T.frame_Anchor (.agg #[.int .i64 x26.1, .int .u16 x26.2.1, .int .i64 x26.2.2.1, .int .u16 x26.2.2.2.1, .int .i64 x26.2.2.2.2.1, .int .i64 x26.2.2.2.2.2.1])] w9 false [(false, [.b])] fun r27 w28 =>
brB (!r27.1.1) (
stN [.int .i64 0, .int .u16 0, .int .i64 0, .int .u16 0, .int .i64 0, .int .i64 0] p3 0 w28 fun w29 =>
ldN [(.i .i64), (.i .u16), (.i .i64), (.i .u16), (.i .i64), (.i .i64)] p3 0 w29 fun x30 =>
R ((x30.1, x30.2.1, x30.2.2.1, x30.2.2.2.1, x30.2.2.2.2.1, x30.2.2.2.2.2.1, ()), (1, ()), ()) w29) (
drK w28 fun w31 =>
ldN [(.i .i64), (.i .u16), (.i .i64), (.i .u16), (.i .i64), (.i .i64)] z8.1 0 w31 fun x32 =>
ncK b fun a33 =>
stN [.bool true] a33 0 w31 fun w34 =>
Hold [(2, (z8.1.add 0), (w31.cell? (z8.1.add 0)).getD undef), (2, (z8.1.add 1), (w31.cell? (z8.1.add 1)).getD undef), (2, (z8.1.add 2), (w31.cell? (z8.1.add 2)).getD undef), (2, (z8.1.add 3), (w31.cell? (z8.1.add 3)).getD undef), (2, (z8.1.add 4), (w31.cell? (z8.1.add 4)).getD undef), (2, (z8.1.add 5), (w31.cell? (z8.1.add 5)).getD undef)] w34 ∧ (
ncK b fun a35 =>
stN [.int .i64 x32.1, .int .u16 x32.2.1, .int .i64 x32.2.2.1, .int .u16 x32.2.2.2.1, .int .i64 x32.2.2.2.2.1, .int .i64 x32.2.2.2.2.2.1] (a35.add 1) 0 w34 fun w36 =>
Hold [] w36 ∧ (
ldN [(.i .i64), (.i .u16), (.i .i64), (.i .u16), (.i .i64), (.i .i64)] z8.1 0 w36 fun x37 =>
stN [.int .i64 x37.1, .int .u16 x37.2.1, .int .i64 x37.2.2.1, .int .u16 x37.2.2.2.1, .int .i64 x37.2.2.2.2.1, .int .i64 x37.2.2.2.2.2.1] p3 0 w36 fun w38 =>
ldN [(.i .i64), (.i .u16), (.i .i64), (.i .u16), (.i .i64), (.i .i64)] p3 0 w38 fun x39 =>
R ((x39.1, x39.2.1, x39.2.2.1, x39.2.2.2.1, x39.2.2.2.2.1, x39.2.2.2.2.2.1, ()), (0, ()), ()) w38)))))
set_option maxRecDepth 100000 in
theorem anchor_Book_Make.eq (b : Option Addr) (me : Int) (t0 : Int) (t1 : Int) (t2 : Int) (t3 : Int) (t4 : Int) (tai : Int) (w : World) (R : Value → World → Prop) : wpF Try.prog Try.f35 (.s .n (.s .n (.ct [(10, .a)] (.pl (.tk 0 (.tk 1 (.tk 2 (.tk 3 (.tk 4 (.tk 5 (.tk 7 (.tk 8 (.tk 9 (.tk 10 (.tk 11 (.tk 12 (.tk 13 (.tk 14 (.tk 15 (.two 6 17 (.tk 16 (.ef 17 [] (.ef 18 [5, 9, 12, 14] .z))) (.ef 6 [5] (.tk 16 (.ef 18 [9, 12, 14] .z)))))))))))))))))))) (.s .n (.s (.pl (.tk 0 (.tk 1 (.tk 2 (.tk 3 (.tk 4 (.ef 5 [] (.tk 6 (.tk 7 (.ef 8 [2] .z)))))))))) .n))))) [.pointer b, .int .i64 me, .agg #[.int .i64 t0, .int .i64 t1, .int .i64 t2, .int .u16 t3, .int .i64 t4], .int .i64 tai] w R = anchor_Book_Make.wp b me t0 t1 t2 t3 t4 tai w (fun r w => R (encR true [(true, [(.i .i64), (.i .u16), (.i .i64), (.i .u16), (.i .i64), (.i .i64)]), (false, [(.i .i64)])] r) w) := by kernel_rfl
theorem anchor_Book_Make.ok {b : Option Addr} {me : Int} {t0 : Int} {t1 : Int} {t2 : Int} {t3 : Int} {t4 : Int} {tai : Int} {w : World} {R : TR [(true, [(.i .i64), (.i .u16), (.i .i64), (.i .u16), (.i .i64), (.i .i64)]), (false, [(.i .i64)])] → World → Prop} (h : anchor_Book_Make.wp b me t0 t1 t2 t3 t4 tai w R) : clS Try.prog F.anchor_Book_Make [.pointer b, .int .i64 me, .agg #[.int .i64 t0, .int .i64 t1, .int .i64 t2, .int .u16 t3, .int .i64 t4], .int .i64 tai] w true [(true, [(.i .i64), (.i .u16), (.i .i64), (.i .u16), (.i .i64), (.i .i64)]), (false, [(.i .i64)])] R :=
  ok_of Try_follows Try.func35 (fun R => anchor_Book_Make.wp b me t0 t1 t2 t3 t4 tai w R) (anchor_Book_Make.eq b me t0 t1 t2 t3 t4 tai w) rfl h
/-! ### ref05_Fields -/
set_option maxRecDepth 100000 in
def ref05_Fields.wp (p0 : Int) (p1 : Int) (p2 : Int) (p3 : Int) (p4 : Int) (p5 : Int) (p6 : Int) (p7 : Int) (p8 : Int) (p9 : Int) (p10 : Int) (p11 : Int) (p12 : Int) (p13 : Int) (w : World) (R : TR [(false, [.sl])] → World → Prop) : Prop :=
alK [.int .i64 p0, .int .i64 p1, .int .i64 p2, .int .i64 p3, .int .u16 p4, .int .u16 p5, .int .i64 p6, .int .i64 p7, .int .i64 p8, .int .i64 p9, .int .i64 p10, .int .i64 p11, .int .i64 p12, .int .i64 p13] T.ref05_Plain w fun p1 w2 =>
ld1 (.i .i64) (p1.add 1) w2 fun x3 =>
alK [.int .i64 0, .int .i64 0, .int .i64 0] T.ref05_Field w2 fun p4 w5 =>
stN [.int .i64 1, .int .i64 x3, .int .i64 63] p4 0 w5 fun w6 =>
ld1 (.i .i64) p1 w6 fun x7 =>
brB (x7 == 1) (
ldN [(.i .i64), (.i .i64), (.i .i64)] p4 0 w6 fun x8 =>
ld1 (.i .i64) (p1.add 3) w6 fun x9 =>
ld1 (.i .u16) (p1.add 4) w6 fun x10 =>
ld1 (.i .u16) (p1.add 5) w6 fun x11 =>
ld1 (.i .i64) (p1.add 6) w6 fun x12 =>
ld1 (.i .i64) (p1.add 7) w6 fun x13 =>
alK [.int .i64 x8.1, .int .i64 x8.2.1, .int .i64 x8.2.2.1, .int .i64 1, .int .i64 x9, .int .i64 63, .int .i64 2, .int .i64 (IntKind.wrap .i64 x10), .int .i64 65535, .int .i64 2, .int .i64 (IntKind.wrap .i64 x11), .int .i64 65535, .int .i64 1, .int .i64 x12, .int .i64 63, .int .i64 8, .int .i64 x13, .int .i64 1125899906842624] T.ref05_Field w6 fun p14 w15 =>
R (((some p14, 6, 6), ()), ()) w15) (
brB (x7 == 2) (
ldN [(.i .i64), (.i .i64), (.i .i64)] p4 0 w6 fun x16 =>
ld1 (.i .i64) (p1.add 8) w6 fun x17 =>
alK [.int .i64 x16.1, .int .i64 x16.2.1, .int .i64 x16.2.2.1, .int .i64 1, .int .i64 x17, .int .i64 63] T.ref05_Field w6 fun p18 w19 =>
R (((some p18, 2, 2), ()), ()) w19) (
brB (x7 == 3) (
ldN [(.i .i64), (.i .i64), (.i .i64)] p4 0 w6 fun x20 =>
alK [.int .i64 x20.1, .int .i64 x20.2.1, .int .i64 x20.2.2.1] T.ref05_Field w6 fun p21 w22 =>
R (((some p21, 1, 1), ()), ()) w22) (
brB (x7 == 4) (
ldN [(.i .i64), (.i .i64), (.i .i64)] p4 0 w6 fun x23 =>
ld1 (.i .i64) (p1.add 2) w6 fun x24 =>
ld1 (.i .i64) (p1.add 9) w6 fun x25 =>
alK [.int .i64 x23.1, .int .i64 x23.2.1, .int .i64 x23.2.2.1, .int .i64 1, .int .i64 x24, .int .i64 63, .int .i64 8, .int .i64 x25, .int .i64 1125899906842624] T.ref05_Field w6 fun p26 w27 =>
R (((some p26, 3, 3), ()), ()) w27) (
brB (x7 == 5) (
ldN [(.i .i64), (.i .i64), (.i .i64)] p4 0 w6 fun x28 =>
ld1 (.i .i64) (p1.add 2) w6 fun x29 =>
ld1 (.i .i64) (p1.add 9) w6 fun x30 =>
ld1 (.i .i64) (p1.add 10) w6 fun x31 =>
ld1 (.i .i64) (p1.add 11) w6 fun x32 =>
ld1 (.i .i64) (p1.add 3) w6 fun x33 =>
ld1 (.i .u16) (p1.add 4) w6 fun x34 =>
ld1 (.i .i64) (p1.add 6) w6 fun x35 =>
alK [.int .i64 x28.1, .int .i64 x28.2.1, .int .i64 x28.2.2.1, .int .i64 1, .int .i64 x29, .int .i64 63, .int .i64 8, .int .i64 x30, .int .i64 1125899906842624, .int .i64 8, .int .i64 x31, .int .i64 1125899906842624, .int .i64 8, .int .i64 x32, .int .i64 1125899906842624, .int .i64 1, .int .i64 x33, .int .i64 63, .int .i64 2, .int .i64 (IntKind.wrap .i64 x34), .int .i64 65535, .int .i64 1, .int .i64 x35, .int .i64 63] T.ref05_Field w6 fun p36 w37 =>
R (((some p36, 8, 8), ()), ()) w37) (
brB (x7 == 6) (
ldN [(.i .i64), (.i .i64), (.i .i64)] p4 0 w6 fun x38 =>
ld1 (.i .u16) (p1.add 5) w6 fun x39 =>
ld1 (.i .i64) (p1.add 3) w6 fun x40 =>
ld1 (.i .u16) (p1.add 4) w6 fun x41 =>
ld1 (.i .i64) (p1.add 12) w6 fun x42 =>
ld1 (.i .i64) (p1.add 13) w6 fun x43 =>
alK [.int .i64 x38.1, .int .i64 x38.2.1, .int .i64 x38.2.2.1, .int .i64 2, .int .i64 (IntKind.wrap .i64 x39), .int .i64 65535, .int .i64 1, .int .i64 x40, .int .i64 63, .int .i64 2, .int .i64 (IntKind.wrap .i64 x41), .int .i64 65535, .int .i64 8, .int .i64 x42, .int .i64 1125899906842624, .int .i64 8, .int .i64 x43, .int .i64 1125899906842624] T.ref05_Field w6 fun p44 w45 =>
R (((some p44, 6, 6), ()), ()) w45) (
R (((none, 0, 0), ()), ()) w6))))))
set_option maxRecDepth 100000 in
theorem ref05_Fields.eq (p0 : Int) (p1 : Int) (p2 : Int) (p3 : Int) (p4 : Int) (p5 : Int) (p6 : Int) (p7 : Int) (p8 : Int) (p9 : Int) (p10 : Int) (p11 : Int) (p12 : Int) (p13 : Int) (w : World) (R : Value → World → Prop) : wpF Try.prog Try.f36 .n [.agg #[.int .i64 p0, .int .i64 p1, .int .i64 p2, .int .i64 p3, .int .u16 p4, .int .u16 p5, .int .i64 p6, .int .i64 p7, .int .i64 p8, .int .i64 p9, .int .i64 p10, .int .i64 p11, .int .i64 p12, .int .i64 p13]] w R = ref05_Fields.wp p0 p1 p2 p3 p4 p5 p6 p7 p8 p9 p10 p11 p12 p13 w (fun r w => R (encR false [(false, [.sl])] r) w) := by kernel_rfl
theorem ref05_Fields.ok {p0 : Int} {p1 : Int} {p2 : Int} {p3 : Int} {p4 : Int} {p5 : Int} {p6 : Int} {p7 : Int} {p8 : Int} {p9 : Int} {p10 : Int} {p11 : Int} {p12 : Int} {p13 : Int} {w : World} {R : TR [(false, [.sl])] → World → Prop} (h : ref05_Fields.wp p0 p1 p2 p3 p4 p5 p6 p7 p8 p9 p10 p11 p12 p13 w R) : clS Try.prog F.ref05_Fields [.agg #[.int .i64 p0, .int .i64 p1, .int .i64 p2, .int .i64 p3, .int .u16 p4, .int .u16 p5, .int .i64 p6, .int .i64 p7, .int .i64 p8, .int .i64 p9, .int .i64 p10, .int .i64 p11, .int .i64 p12, .int .i64 p13]] w false [(false, [.sl])] R :=
  ok_of Try_follows Try.func36 (fun R => ref05_Fields.wp p0 p1 p2 p3 p4 p5 p6 p7 p8 p9 p10 p11 p12 p13 w R) (ref05_Fields.eq p0 p1 p2 p3 p4 p5 p6 p7 p8 p9 p10 p11 p12 p13 w) rfl h
/-! ### frame_Good_of_frame_Anchor -/
set_option maxRecDepth 100000 in
def frame_Good_of_frame_Anchor.wp (f0 : Int) (f1 : Int) (f2 : Int) (f3 : Int) (f4 : Int) (f5 : Int) (w : World) (R : TR [(false, [.b])] → World → Prop) : Prop :=
clS Try.prog F.frame_kind [.iface T.frame_Anchor (.agg #[.int .i64 f0, .int .u16 f1, .int .i64 f2, .int .u16 f3, .int .i64 f4, .int .i64 f5])] w false [(false, [(.i .u8)])] fun r1 w2 =>
brB (r1.1.1 == 0) (
R ((false, ()), ()) w2) (
clS Try.prog F.frame_Anchor_fields [.agg #[.int .i64 f0, .int .u16 f1, .int .i64 f2, .int .u16 f3, .int .i64 f4, .int .i64 f5]] w2 false [(false, [.sl])] fun r3 w4 =>
LoopT (fun (self5 : ((Int) × Unit) → World → Prop) (z6 : (Int) × Unit) w7 => ∀ _ : Nat → Value,
brB (decide (z6.1 < (r3.1.1.2.1 : Int))) (
ixK r3.1.1.1 r3.1.1.2.1 z6.1 fun a8 =>
ldN [(.i .i64), (.i .i64), (.i .i64)] (a8.add (z6.1.toNat * 3)) 0 w7 fun x9 =>
alK [.int .i64 0, .int .i64 0, .int .i64 0] T.frame_field w7 fun p10 w11 =>
stN [.int .i64 x9.1, .int .i64 x9.2.1, .int .i64 x9.2.2.1] p10 0 w11 fun w12 =>
ld1 (.i .i64) (p10.add 1) w12 fun x13 =>
brB (decide (x13 < 0)) (
R ((false, ()), ()) w12) (
ld1 (.i .i64) (p10.add 1) w12 fun x14 =>
ld1 (.i .i64) (p10.add 2) w12 fun x15 =>
brB (decide (x14 > x15)) (
R ((false, ()), ()) w12) (
self5 (IntKind.wrap .i64 (z6.1 + 1), ()) w12))) (
R ((true, ()), ()) w7)) (0, ()) w4)
set_option maxRecDepth 100000 in
theorem frame_Good_of_frame_Anchor.eq (f0 : Int) (f1 : Int) (f2 : Int) (f3 : Int) (f4 : Int) (f5 : Int) (w : World) (R : Value → World → Prop) : wpF Try.prog Try.f37 (.s .n (.s .n (.s (.s .n (.lp [(11, (.i .i64))] .n)) .n))) [.iface T.frame_Anchor (.agg #[.int .i64 f0, .int .u16 f1, .int .i64 f2, .int .u16 f3, .int .i64 f4, .int .i64 f5])] w R = frame_Good_of_frame_Anchor.wp f0 f1 f2 f3 f4 f5 w (fun r w => R (encR false [(false, [.b])] r) w) := by kernel_rfl
theorem frame_Good_of_frame_Anchor.ok {f0 : Int} {f1 : Int} {f2 : Int} {f3 : Int} {f4 : Int} {f5 : Int} {w : World} {R : TR [(false, [.b])] → World → Prop} (h : frame_Good_of_frame_Anchor.wp f0 f1 f2 f3 f4 f5 w R) : clS Try.prog F.frame_Good [.iface T.frame_Anchor (.agg #[.int .i64 f0, .int .u16 f1, .int .i64 f2, .int .u16 f3, .int .i64 f4, .int .i64 f5])] w false [(false, [.b])] R :=
  ok_of Try_follows Try.func37 (fun R => frame_Good_of_frame_Anchor.wp f0 f1 f2 f3 f4 f5 w R) (frame_Good_of_frame_Anchor.eq f0 f1 f2 f3 f4 f5 w) rfl h
/-! ### frame_Good_of_frame_Sync -/
set_option maxRecDepth 100000 in
def frame_Good_of_frame_Sync.wp (f0 : Int) (f1 : Int) (f2 : Int) (f3 : Int) (f4 : Int) (f5 : Int) (w : World) (R : TR [(false, [.b])] → World → Prop) : Prop :=
clS Try.prog F.frame_kind [.iface T.frame_Sync (.agg #[.int .i64 f0, .int .i64 f1, .int .u16 f2, .int .u16 f3, .int .i64 f4, .int .i64 f5])] w false [(false, [(.i .u8)])] fun r1 w2 =>
brB (r1.1.1 == 0) (
R ((false, ()), ()) w2) (
clS Try.prog F.frame_Sync_fields [.agg #[.int .i64 f0, .int .i64 f1, .int .u16 f2, .int .u16 f3, .int .i64 f4, .int .i64 f5]] w2 false [(false, [.sl])] fun r3 w4 =>
LoopT (fun (self5 : ((Int) × Unit) → World → Prop) (z6 : (Int) × Unit) w7 => ∀ _ : Nat → Value,
brB (decide (z6.1 < (r3.1.1.2.1 : Int))) (
ixK r3.1.1.1 r3.1.1.2.1 z6.1 fun a8 =>
ldN [(.i .i64), (.i .i64), (.i .i64)] (a8.add (z6.1.toNat * 3)) 0 w7 fun x9 =>
alK [.int .i64 0, .int .i64 0, .int .i64 0] T.frame_field w7 fun p10 w11 =>
stN [.int .i64 x9.1, .int .i64 x9.2.1, .int .i64 x9.2.2.1] p10 0 w11 fun w12 =>
ld1 (.i .i64) (p10.add 1) w12 fun x13 =>
brB (decide (x13 < 0)) (
R ((false, ()), ()) w12) (
ld1 (.i .i64) (p10.add 1) w12 fun x14 =>
ld1 (.i .i64) (p10.add 2) w12 fun x15 =>
brB (decide (x14 > x15)) (
R ((false, ()), ()) w12) (
self5 (IntKind.wrap .i64 (z6.1 + 1), ()) w12))) (
R ((true, ()), ()) w7)) (0, ()) w4)
set_option maxRecDepth 100000 in
theorem frame_Good_of_frame_Sync.eq (f0 : Int) (f1 : Int) (f2 : Int) (f3 : Int) (f4 : Int) (f5 : Int) (w : World) (R : Value → World → Prop) : wpF Try.prog Try.f37 (.s .n (.s .n (.s (.s .n (.lp [(11, (.i .i64))] .n)) .n))) [.iface T.frame_Sync (.agg #[.int .i64 f0, .int .i64 f1, .int .u16 f2, .int .u16 f3, .int .i64 f4, .int .i64 f5])] w R = frame_Good_of_frame_Sync.wp f0 f1 f2 f3 f4 f5 w (fun r w => R (encR false [(false, [.b])] r) w) := by kernel_rfl
theorem frame_Good_of_frame_Sync.ok {f0 : Int} {f1 : Int} {f2 : Int} {f3 : Int} {f4 : Int} {f5 : Int} {w : World} {R : TR [(false, [.b])] → World → Prop} (h : frame_Good_of_frame_Sync.wp f0 f1 f2 f3 f4 f5 w R) : clS Try.prog F.frame_Good [.iface T.frame_Sync (.agg #[.int .i64 f0, .int .i64 f1, .int .u16 f2, .int .u16 f3, .int .i64 f4, .int .i64 f5])] w false [(false, [.b])] R :=
  ok_of Try_follows Try.func37 (fun R => frame_Good_of_frame_Sync.wp f0 f1 f2 f3 f4 f5 w R) (frame_Good_of_frame_Sync.eq f0 f1 f2 f3 f4 f5 w) rfl h
/-! ### wrap_Newer -/
set_option maxRecDepth 100000 in
def wrap_Newer.wp (a : Int) (b : Int) (w : World) (R : TR [(false, [.b])] → World → Prop) : Prop :=
R ((decide ((IntKind.wrap .i16 (IntKind.wrap .u16 (a - b))) > 0), ()), ()) w
set_option maxRecDepth 100000 in
theorem wrap_Newer.eq (a : Int) (b : Int) (w : World) (R : Value → World → Prop) : wpF Try.prog Try.f38 .n [.int .u16 a, .int .u16 b] w R = wrap_Newer.wp a b w (fun r w => R (encR false [(false, [.b])] r) w) := by kernel_rfl
theorem wrap_Newer.ok {a : Int} {b : Int} {w : World} {R : TR [(false, [.b])] → World → Prop} (h : wrap_Newer.wp a b w R) : clS Try.prog F.wrap_Newer [.int .u16 a, .int .u16 b] w false [(false, [.b])] R :=
  ok_of Try_follows Try.func38 (fun R => wrap_Newer.wp a b w R) (wrap_Newer.eq a b w) rfl h
/-! ### fix_Floor -/
set_option maxRecDepth 100000 in
def fix_Floor.wp (a : Int) (b : Int) (w : World) (R : TR [(false, [(.i .i64)]), (false, [(.i .i64)]), (false, [.b])] → World → Prop) : Prop :=
brB (decide (b < 1)) (
R ((0, ()), (0, ()), (false, ()), ()) w) (
drK w fun w1 =>
nzK b (
nzK b (
brB (decide ((Int.tmod a b) < 0)) (
R ((IntKind.wrap .i64 ((IntKind.wrap .i64 (Int.tdiv a b)) - 1), ()), (IntKind.wrap .i64 ((Int.tmod a b) + b), ()), (true, ()), ()) w1) (
R ((IntKind.wrap .i64 (Int.tdiv a b), ()), (Int.tmod a b, ()), (true, ()), ()) w1))))
set_option maxRecDepth 100000 in
theorem fix_Floor.eq (a : Int) (b : Int) (w : World) (R : Value → World → Prop) : wpF Try.prog Try.f39 (.s .n (.s .n (.s (.pl (.tk 0 (.tk 1 (.tk 2 (.tk 3 (.tk 4 (.tk 5 (.tk 6 (.tk 7 .z))))))))) .n))) [.int .i64 a, .int .i64 b] w R = fix_Floor.wp a b w (fun r w => R (encR true [(false, [(.i .i64)]), (false, [(.i .i64)]), (false, [.b])] r) w) := by kernel_rfl
theorem fix_Floor.ok {a : Int} {b : Int} {w : World} {R : TR [(false, [(.i .i64)]), (false, [(.i .i64)]), (false, [.b])] → World → Prop} (h : fix_Floor.wp a b w R) : clS Try.prog F.fix_Floor [.int .i64 a, .int .i64 b] w true [(false, [(.i .i64)]), (false, [(.i .i64)]), (false, [.b])] R :=
  ok_of Try_follows Try.func39 (fun R => fix_Floor.wp a b w R) (fix_Floor.eq a b w) rfl h
/-! ### flood_Rules_Good -/
set_option maxRecDepth 100000 in
def flood_Rules_Good.wp (r0 : Int) (r1 : Int) (r2 : Int) (r3 : Int) (w : World) (R : TR [(false, [.b])] → World → Prop) : Prop :=
alK [.int .i64 r0, .int .i64 r1, .int .i64 r2, .int .i64 r3] T.flood_Rules w fun p1 w2 =>
ldN [(.i .i64), (.i .i64)] p1 0 w2 fun x3 =>
clS Try.prog F.elect_Rules_Good [.agg #[.int .i64 x3.1, .int .i64 x3.2.1]] w2 false [(false, [.b])] fun r4 w5 =>
brB r4.1.1 (
ld1 (.i .i64) (p1.add 2) w5 fun x6 =>
brB (decide (x6 ≥ 1)) (
ld1 (.i .i64) (p1.add 2) w5 fun x7 =>
brB (decide (x7 ≤ 8)) (
ld1 (.i .i64) (p1.add 3) w5 fun x8 =>
brB (decide (x8 ≥ 0)) (
ld1 (.i .i64) (p1.add 3) w5 fun x9 =>
R ((decide (x9 ≤ 10), ()), ()) w5) (
R ((false, ()), ()) w5)) (
R ((false, ()), ()) w5)) (
R ((false, ()), ()) w5)) (
R ((false, ()), ()) w5)
set_option maxRecDepth 100000 in
theorem flood_Rules_Good.eq (r0 : Int) (r1 : Int) (r2 : Int) (r3 : Int) (w : World) (R : Value → World → Prop) : wpF Try.prog Try.f40 .n [.agg #[.int .i64 r0, .int .i64 r1, .int .i64 r2, .int .i64 r3]] w R = flood_Rules_Good.wp r0 r1 r2 r3 w (fun r w => R (encR false [(false, [.b])] r) w) := by kernel_rfl
theorem flood_Rules_Good.ok {r0 : Int} {r1 : Int} {r2 : Int} {r3 : Int} {w : World} {R : TR [(false, [.b])] → World → Prop} (h : flood_Rules_Good.wp r0 r1 r2 r3 w R) : clS Try.prog F.flood_Rules_Good [.agg #[.int .i64 r0, .int .i64 r1, .int .i64 r2, .int .i64 r3]] w false [(false, [.b])] R :=
  ok_of Try_follows Try.func40 (fun R => flood_Rules_Good.wp r0 r1 r2 r3 w R) (flood_Rules_Good.eq r0 r1 r2 r3 w) rfl h
/-! ### elect_New -/
set_option maxRecDepth 100000 in
def elect_New.wp (me : Int) (r0 : Int) (r1 : Int) (w : World) (R : TR [(false, [.p]), (false, [(.i .i64)])] → World → Prop) : Prop :=
alK [.int .i64 r0, .int .i64 r1] T.elect_Rules w fun p1 w2 =>
brB (decide (me < 0)) (
R ((none, ()), (1, ()), ()) w2) (
brB (decide (me ≥ 64)) (
R ((none, ()), (1, ()), ()) w2) (
ldN [(.i .i64), (.i .i64)] p1 0 w2 fun x3 =>
clS Try.prog F.elect_Rules_Good [.agg #[.int .i64 x3.1, .int .i64 x3.2.1]] w2 false [(false, [.b])] fun r4 w5 =>
brB (!r4.1.1) (
R ((none, ()), (1, ()), ()) w5) (
ldN [(.i .i64), (.i .i64)] p1 0 w5 fun x6 =>
alK [.int .i64 me, .int .i64 x6.1, .int .i64 x6.2.1, .int .u16 0, .int .u16 0, .int .i64 0, .int .i64 0, .int .i64 0, .map none] T.elect_Elect w5 fun p7 w8 =>
clS Try.prog F.elect_Elect_Boot [.pointer (some p7), .int .u16 0] w8 true [] fun r9 w10 =>
R ((some p7, ()), (0, ()), ()) w10)))
set_option maxRecDepth 100000 in
theorem elect_New.eq (me : Int) (r0 : Int) (r1 : Int) (w : World) (R : Value → World → Prop) : wpF Try.prog Try.f41 .n [.int .i64 me, .agg #[.int .i64 r0, .int .i64 r1]] w R = elect_New.wp me r0 r1 w (fun r w => R (encR true [(false, [.p]), (false, [(.i .i64)])] r) w) := by kernel_rfl
theorem elect_New.ok {me : Int} {r0 : Int} {r1 : Int} {w : World} {R : TR [(false, [.p]), (false, [(.i .i64)])] → World → Prop} (h : elect_New.wp me r0 r1 w R) : clS Try.prog F.elect_New [.int .i64 me, .agg #[.int .i64 r0, .int .i64 r1]] w true [(false, [.p]), (false, [(.i .i64)])] R :=
  ok_of Try_follows Try.func41 (fun R => elect_New.wp me r0 r1 w R) (elect_New.eq me r0 r1 w) rfl h
/-! ### table_Entry_Good -/
set_option maxRecDepth 100000 in
def table_Entry_Good.wp (e0 : Int) (e1 : Int) (e2 : Int) (w : World) (R : TR [(false, [.b])] → World → Prop) : Prop :=
alK [.int .i64 e0, .int .i64 e1, .int .i64 e2] T.table_Entry w fun p1 w2 =>
ld1 (.i .i64) p1 w2 fun x3 =>
brB (decide (x3 ≥ 0)) (
ld1 (.i .i64) p1 w2 fun x4 =>
brB (decide (x4 ≤ 1125899906842624)) (
ld1 (.i .i64) (p1.add 1) w2 fun x5 =>
brB (decide (x5 ≥ (Int.negSucc 1125899906842623))) (
ld1 (.i .i64) (p1.add 1) w2 fun x6 =>
brB (decide (x6 ≤ 1125899906842624)) (
ld1 (.i .i64) (p1.add 2) w2 fun x7 =>
brB (decide (x7 ≥ 1)) (
ld1 (.i .i64) (p1.add 2) w2 fun x8 =>
R ((decide (x8 ≤ 63), ()), ()) w2) (
R ((false, ()), ()) w2)) (
R ((false, ()), ()) w2)) (
R ((false, ()), ()) w2)) (
R ((false, ()), ()) w2)) (
R ((false, ()), ()) w2)
set_option maxRecDepth 100000 in
theorem table_Entry_Good.eq (e0 : Int) (e1 : Int) (e2 : Int) (w : World) (R : Value → World → Prop) : wpF Try.prog Try.f42 .n [.agg #[.int .i64 e0, .int .i64 e1, .int .i64 e2]] w R = table_Entry_Good.wp e0 e1 e2 w (fun r w => R (encR false [(false, [.b])] r) w) := by kernel_rfl
theorem table_Entry_Good.ok {e0 : Int} {e1 : Int} {e2 : Int} {w : World} {R : TR [(false, [.b])] → World → Prop} (h : table_Entry_Good.wp e0 e1 e2 w R) : clS Try.prog F.table_Entry_Good [.agg #[.int .i64 e0, .int .i64 e1, .int .i64 e2]] w false [(false, [.b])] R :=
  ok_of Try_follows Try.func42 (fun R => table_Entry_Good.wp e0 e1 e2 w R) (table_Entry_Good.eq e0 e1 e2 w) rfl h
/-! ### source_flooded -/
set_option maxRecDepth 100000 in
def source_flooded.wp (f : Option Addr) (local_ : Int) (w : World) (R : TR [(true, [(.i .i64), (.i .i64), (.i .i64), (.i .u16), (.i .i64)]), (false, [(.i .i64)])] → World → Prop) : Prop :=
alK [.int .i64 0, .int .i64 0, .int .i64 0, .int .u16 0, .int .i64 0] T.source_Answer w fun p1 w2 =>
clS Try.prog F.flood_Flood_Time [.pointer f, .int .i64 local_] w2 true [(false, [(.i .i64)]), (false, [(.i .i64)]), (false, [(.i .i64)])] fun r3 w4 =>
brB (r3.2.2.1.1 != 0) (
stN [.int .i64 0, .int .i64 0, .int .i64 0, .int .u16 0, .int .i64 0] p1 0 w4 fun w5 =>
ldN [(.i .i64), (.i .i64), (.i .i64), (.i .u16), (.i .i64)] p1 0 w5 fun x6 =>
R ((x6.1, x6.2.1, x6.2.2.1, x6.2.2.2.1, x6.2.2.2.2.1, ()), (r3.2.2.1.1, ()), ()) w5) (
ncK f fun a7 =>
ld1 .p a7 w4 fun x8 =>
clS Try.prog F.elect_Elect_Mark [.pointer x8] w4 true [(true, [(.i .u16), (.i .u16)]), (false, [.b])] fun r9 w10 =>
alK [.int .u16 0, .int .u16 0] T.elect_Mark w10 fun p11 w12 =>
stN [.int .u16 r9.1.1, .int .u16 r9.1.2.1] p11 0 w12 fun w13 =>
CutT (fun (J14 : ((Addr) × Unit) → World → Prop) =>
drK w13 fun w17 =>
ncK f fun a18 =>
ld1 .p a18 w17 fun x19 =>
ld1 (.i .u16) p11 w17 fun x20 =>
(
clS Try.prog F.elect_Elect_Root [.pointer x19] w17 false [(false, [(.i .i64)])] fun r21 w22 =>
Hold [(8, p11, (w17.cell? p11).getD undef), (5, a18, (w17.cell? a18).getD undef)] w22 ∧ (
alK [.int .i64 0, .int .i64 0, .int .i64 0, .int .u16 0, .int .i64 0] T.source_Answer w22 fun p23 w24 =>
Hold [(8, p11, (w17.cell? p11).getD undef), (5, a18, (w17.cell? a18).getD undef)] w24 ∧ (
stN [.int .i64 r3.1.1, .int .i64 r3.2.1.1, .int .i64 r21.1.1, .int .u16 x20, .int .i64 2] p23 0 w24 fun w25 =>
Hold [] w25 ∧ (
J14 (p23, ()) w25)))) ∧ (
alK [.int .i64 0, .int .i64 0, .int .i64 0, .int .u16 0, .int .i64 0] T.source_Answer w17 fun p26 w27 =>
Hold [(8, p11, (w17.cell? p11).getD undef), (5, a18, (w17.cell? a18).getD undef)] w27 ∧ (
clS Try.prog F.elect_Elect_Root [.pointer x19] w27 false [(false, [(.i .i64)])] fun r28 w29 =>
Hold [(8, p11, (w17.cell? p11).getD undef)] w29 ∧ (
stN [.int .i64 r3.1.1, .int .i64 r3.2.1.1, .int .i64 r28.1.1, .int .u16 x20, .int .i64 2] p26 0 w29 fun w30 =>
Hold [] w30 ∧ (
J14 (p26, ()) w30))))) (fun (z15 : (Addr) × Unit) w16 => ∀ _ : Nat → Value,
ncK f fun a31 =>
ld1 .p a31 w16 fun x32 =>
clS Try.prog F.elect_Elect_Mine [.pointer x32] w16 false [(false, [.b])] fun r33 w34 =>
brB r33.1.1 (
stN [.int .i64 1] (z15.1.add 4) 0 w34 fun w35 =>
ldN [(.i .i64), (.i .i64), (.i .i64), (.i .u16), (.i .i64)] z15.1 0 w35 fun x36 =>
stN [.int .i64 x36.1, .int .i64 x36.2.1, .int .i64 x36.2.2.1, .int .u16 x36.2.2.2.1, .int .i64 x36.2.2.2.2.1] p1 0 w35 fun w37 =>
ldN [(.i .i64), (.i .i64), (.i .i64), (.i .u16), (.i .i64)] p1 0 w37 fun x38 =>
R ((x38.1, x38.2.1, x38.2.2.1, x38.2.2.2.1, x38.2.2.2.2.1, ()), (0, ()), ()) w37) (
ldN [(.i .i64), (.i .i64), (.i .i64), (.i .u16), (.i .i64)] z15.1 0 w34 fun x39 =>
stN [.int .i64 x39.1, .int .i64 x39.2.1, .int .i64 x39.2.2.1, .int .u16 x39.2.2.2.1, .int .i64 x39.2.2.2.2.1] p1 0 w34 fun w40 =>
ldN [(.i .i64), (.i .i64), (.i .i64), (.i .u16), (.i .i64)] p1 0 w40 fun x41 =>
R ((x41.1, x41.2.1, x41.2.2.1, x41.2.2.2.1, x41.2.2.2.2.1, ()), (0, ()), ()) w40)))
set_option maxRecDepth 100000 in
theorem source_flooded.eq (f : Option Addr) (local_ : Int) (w : World) (R : Value → World → Prop) : wpF Try.prog Try.f43 (.s .n (.s .n (.s .n (.s .n (.ct [(11, .a)] (.pl (.tk 0 (.tk 1 (.tk 2 (.tk 3 (.tk 4 (.tk 5 (.tk 7 (.tk 8 (.two 6 11 (.tk 9 (.tk 10 (.ef 11 [] (.ef 12 [5, 8] .z)))) (.ef 6 [5] (.tk 9 (.tk 10 (.ef 12 [8] .z)))))))))))))) .n))))) [.pointer f, .int .i64 local_] w R = source_flooded.wp f local_ w (fun r w => R (encR true [(true, [(.i .i64), (.i .i64), (.i .i64), (.i .u16), (.i .i64)]), (false, [(.i .i64)])] r) w) := by kernel_rfl
theorem source_flooded.ok {f : Option Addr} {local_ : Int} {w : World} {R : TR [(true, [(.i .i64), (.i .i64), (.i .i64), (.i .u16), (.i .i64)]), (false, [(.i .i64)])] → World → Prop} (h : source_flooded.wp f local_ w R) : clS Try.prog F.source_flooded [.pointer f, .int .i64 local_] w true [(true, [(.i .i64), (.i .i64), (.i .i64), (.i .u16), (.i .i64)]), (false, [(.i .i64)])] R :=
  ok_of Try_follows Try.func43 (fun R => source_flooded.wp f local_ w R) (source_flooded.eq f local_ w) rfl h
/-! ### source_Source_Drop -/
set_option maxRecDepth 100000 in
def source_Source_Drop.wp (s : Option Addr) (w : World) (R : TR [] → World → Prop) : Prop :=
brB (!(Option.isNone s)) (
ncK s fun a1 =>
ld1 (.i .i64) a1 w fun x2 =>
ncK s fun a3 =>
stN [.int .i64 x2, .int .i64 0, .int .i64 0, .int .i64 0, .int .i64 0, .int .u16 0, .int .i64 0, .bool false] a3 0 w fun w4 =>
R (()) w4) (
R (()) w)
set_option maxRecDepth 100000 in
theorem source_Source_Drop.eq (s : Option Addr) (w : World) (R : Value → World → Prop) : wpF Try.prog Try.f44 .n [.pointer s] w R = source_Source_Drop.wp s w (fun r w => R (encR true [] r) w) := by kernel_rfl
theorem source_Source_Drop.ok {s : Option Addr} {w : World} {R : TR [] → World → Prop} (h : source_Source_Drop.wp s w R) : clS Try.prog F.source_Source_Drop [.pointer s] w true [] R :=
  ok_of Try_follows Try.func44 (fun R => source_Source_Drop.wp s w R) (source_Source_Drop.eq s w) rfl h
/-! ### elect_Elect_Hear -/
set_option maxRecDepth 100000 in
def elect_Elect_Hear.wp (e : Option Addr) (root : Int) (m0 : Int) (m1 : Int) (w : World) (R : TR [(false, [(.i .i64)])] → World → Prop) : Prop :=
alK [.int .u16 m0, .int .u16 m1] T.elect_Mark w fun p1 w2 =>
brB (Option.isNone e) (
R ((0, ()), ()) w2) (
clS Try.prog F.elect_Elect_may [.pointer e, .int .i64 root] w2 false [(false, [.b])] fun r3 w4 =>
brB (!r3.1.1) (
R ((0, ()), ()) w4) (
ncK e fun a5 =>
ld1 .m (a5.add 8) w4 fun x6 =>
lkO Try.prog T.map_int_elect_Mark (.map x6) (.int .i64 root) w4 true [(.i .u16), (.i .u16)] fun x7 b8 =>
alK [.int .u16 0, .int .u16 0] T.elect_Mark w4 fun p9 w10 =>
stN [.int .u16 x7.1, .int .u16 x7.2.1] p9 0 w10 fun w11 =>
CutT (fun (J12 : Unit → World → Prop) =>
brB b8 (
ldN [(.i .u16), (.i .u16)] p1 0 w11 fun x15 =>
ldN [(.i .u16), (.i .u16)] p9 0 w11 fun x16 =>
clS Try.prog F.elect_Mark_newer [.agg #[.int .u16 x15.1, .int .u16 x15.2.1], .agg #[.int .u16 x16.1, .int .u16 x16.2.1]] w11 false [(false, [.b])] fun r17 w18 =>
brB (!r17.1.1) (
R ((0, ()), ()) w18) (
J12 (()) w18)) (
J12 (()) w11)) (fun (z13 : Unit) w14 => ∀ _ : Nat → Value,
CutT (fun (J19 : ((Bool) × Unit) → World → Prop) =>
ncK e fun a22 =>
ld1 (.i .i64) (a22.add 5) w14 fun x23 =>
brB (x23 != root) (
J19 (true, ()) w14) (
ld1 (.i .u16) p9 w14 fun x24 =>
ld1 (.i .u16) p1 w14 fun x25 =>
J19 ((x24 != x25), ()) w14)) (fun (z20 : (Bool) × Unit) w21 => ∀ _ : Nat → Value,
drK w21 fun w26 =>
ncK e fun a27 =>
ld1 .m (a27.add 8) w26 fun x28 =>
ldN [(.i .u16), (.i .u16)] p1 0 w26 fun x29 =>
muK Try.prog T.map_int_elect_Mark (.map x28) (.int .i64 root) (.agg #[.int .u16 x29.1, .int .u16 x29.2.1]) w26 fun w30 =>
Hold [] w30 ∧ (
ncK e fun a31 =>
stN [.int .i64 root] (a31.add 5) 0 w30 fun w32 =>
ncK e fun a33 =>
stN [.int .i64 0] (a33.add 6) 0 w32 fun w34 =>
ncK e fun a35 =>
stN [.int .i64 0] (a35.add 7) 0 w34 fun w36 =>
brB z20.1 (
R ((2, ()), ()) w36) (
R ((1, ()), ()) w36))))))
set_option maxRecDepth 100000 in
theorem elect_Elect_Hear.eq (e : Option Addr) (root : Int) (m0 : Int) (m1 : Int) (w : World) (R : Value → World → Prop) : wpF Try.prog Try.f45 (.s .n (.s .n (.s .n (.ct [] .n (.ct [(9, .b)] .n (.s (.pl (.tk 0 (.tk 1 (.tk 2 (.tk 3 (.tk 4 (.tk 5 (.ef 6 [3, 5] .z)))))))) .n)))))) [.pointer e, .int .i64 root, .agg #[.int .u16 m0, .int .u16 m1]] w R = elect_Elect_Hear.wp e root m0 m1 w (fun r w => R (encR false [(false, [(.i .i64)])] r) w) := by kernel_rfl
theorem elect_Elect_Hear.ok {e : Option Addr} {root : Int} {m0 : Int} {m1 : Int} {w : World} {R : TR [(false, [(.i .i64)])] → World → Prop} (h : elect_Elect_Hear.wp e root m0 m1 w R) : clS Try.prog F.elect_Elect_Hear [.pointer e, .int .i64 root, .agg #[.int .u16 m0, .int .u16 m1]] w false [(false, [(.i .i64)])] R :=
  ok_of Try_follows Try.func45 (fun R => elect_Elect_Hear.wp e root m0 m1 w R) (elect_Elect_Hear.eq e root m0 m1 w) rfl h
/-! ### flood_Flood_forget -/
set_option maxRecDepth 100000 in
def flood_Flood_forget.wp (f : Option Addr) (w : World) (R : TR [] → World → Prop) : Prop :=
ncK f fun a1 =>
clS Try.prog F.table_Table_Clear [.pointer (some (a1.add 6))] w true [] fun r2 w3 =>
ncK f fun a4 =>
stN [.int .i64 0, .int .i64 0, .int .i64 0] (a4.add 7) 0 w3 fun w5 =>
R (()) w5
set_option maxRecDepth 100000 in
theorem flood_Flood_forget.eq (f : Option Addr) (w : World) (R : Value → World → Prop) : wpF Try.prog Try.f46 .n [.pointer f] w R = flood_Flood_forget.wp f w (fun r w => R (encR true [] r) w) := by kernel_rfl
theorem flood_Flood_forget.ok {f : Option Addr} {w : World} {R : TR [] → World → Prop} (h : flood_Flood_forget.wp f w R) : clS Try.prog F.flood_Flood_forget [.pointer f] w true [] R :=
  ok_of Try_follows Try.func46 (fun R => flood_Flood_forget.wp f w R) (flood_Flood_forget.eq f w) rfl h
end Go.Proofs.Ytgpgdhopmifbpaa
