import Derived.Test.YtahojpppjpfjmaaGreatNm
namespace Go.Proofs.YtahojpppjpfjmaaGreat
open Go.Eng
set_option linter.unusedVariables false
/-! ### table_Table_Last -/
set_option maxRecDepth 100000 in
def table_Table_Last.wp (t : Option Addr) (w : World) (R : TR [(true, [(.i .i64), (.i .i64), (.i .i64)]), (false, [.b])] → World → Prop) : Prop :=
alK [.int .i64 0, .int .i64 0, .int .i64 0] T.table_Entry w fun p1 w2 =>
clS Tryz.prog F.table_Table_Len [.pointer t] w2 false [(false, [(.i .i64)])] fun r3 w4 =>
brB (r3.1.1 == 0) (
stN [.int .i64 0, .int .i64 0, .int .i64 0] p1 0 w4 fun w5 =>
ldN [(.i .i64), (.i .i64), (.i .i64)] p1 0 w5 fun x6 =>
R ((x6.1, x6.2.1, x6.2.2.1, ()), (false, ()), ()) w5) (
drK w4 fun w7 =>
ncK t fun a8 =>
ld1 .sl a8 w7 fun x9 =>
ncK t fun a10 =>
ld1 .sl a10 w7 fun x11 =>
ixK x9.1 x9.2.1 (IntKind.wrap .i64 ((x11.2.1 : Int) - 1)) fun a12 =>
ldN [(.i .i64), (.i .i64), (.i .i64)] (a12.add ((IntKind.wrap .i64 ((x11.2.1 : Int) - 1)).toNat * 3)) 0 w7 fun x13 =>
stN [.int .i64 x13.1, .int .i64 x13.2.1, .int .i64 x13.2.2.1] p1 0 w7 fun w14 =>
Hold [] w14 ∧ (
ldN [(.i .i64), (.i .i64), (.i .i64)] p1 0 w14 fun x15 =>
R ((x15.1, x15.2.1, x15.2.2.1, ()), (true, ()), ()) w14))
set_option maxRecDepth 100000 in
theorem table_Table_Last.eq (t : Option Addr) (w : World) (R : Value → World → Prop) : wpF Tryz.prog Tryz.f57 (.s .n (.s .n (.s (.pl (.tk 0 (.tk 1 (.tk 2 (.tk 3 (.tk 4 (.tk 5 (.tk 6 (.tk 7 (.tk 8 (.tk 9 (.tk 10 (.tk 11 (.ef 12 [3, 7, 11] (.tk 13 .z))))))))))))))) .n))) [.pointer t] w R = table_Table_Last.wp t w (fun r w => R (encR true [(true, [(.i .i64), (.i .i64), (.i .i64)]), (false, [.b])] r) w) := by kernel_rfl
theorem table_Table_Last.ok {t : Option Addr} {w : World} {R : TR [(true, [(.i .i64), (.i .i64), (.i .i64)]), (false, [.b])] → World → Prop} (h : table_Table_Last.wp t w R) : clS Tryz.prog F.table_Table_Last [.pointer t] w true [(true, [(.i .i64), (.i .i64), (.i .i64)]), (false, [.b])] R :=
  ok_of Tryz_follows Tryz.func57 (fun R => table_Table_Last.wp t w R) (table_Table_Last.eq t w) rfl h
/-! ### slices_Clone_table_Entry_table_Entry -/
set_option maxRecDepth 100000 in
def slices_Clone_table_Entry_table_Entry.wp (s : Option Addr × Nat × Nat) (w : World) (R : TR [(false, [.sl])] → World → Prop) : Prop :=
brB (Option.isNone s.1) (
R (((none, 0, 0), ()), ()) w) (
alK [] T.table_Entry w fun p1 w2 =>
slOf ((Builtin.append_ #[T.sl_table_Entry, T.sl_table_Entry] T.sl_table_Entry #[.slice (some p1) 0 0, .slice s.1 s.2.1 s.2.2]).run Tryz.prog w2) fun y3 w4 =>
R (((y3.1, y3.2.1, y3.2.2), ()), ()) w4)
set_option maxRecDepth 100000 in
theorem slices_Clone_table_Entry_table_Entry.eq (s : Option Addr × Nat × Nat) (w : World) (R : Value → World → Prop) : wpF Tryz.prog Tryz.f58 .n [.slice s.1 s.2.1 s.2.2] w R = slices_Clone_table_Entry_table_Entry.wp s w (fun r w => R (encR false [(false, [.sl])] r) w) := by kernel_rfl
theorem slices_Clone_table_Entry_table_Entry.ok {s : Option Addr × Nat × Nat} {w : World} {R : TR [(false, [.sl])] → World → Prop} (h : slices_Clone_table_Entry_table_Entry.wp s w R) : clS Tryz.prog F.slices_Clone_table_Entry_table_Entry [.slice s.1 s.2.1 s.2.2] w false [(false, [.sl])] R :=
  ok_of Tryz_follows Tryz.func58 (fun R => slices_Clone_table_Entry_table_Entry.wp s w R) (slices_Clone_table_Entry_table_Entry.eq s w) rfl h
/-! ### ref15_Newer -/
set_option maxRecDepth 100000 in
def ref15_Newer.wp (b1 : Int) (s1 : Int) (b2 : Int) (s2 : Int) (w : World) (R : TR [(false, [.b])] → World → Prop) : Prop :=
brB (b1 == b2) (
clS Tryz.prog F.ref02_Newer [.int .u16 s1, .int .u16 s2] w false [(false, [.b])] fun r1 w2 =>
R ((r1.1.1, ()), ()) w2) (
clS Tryz.prog F.ref02_Newer [.int .u16 b1, .int .u16 b2] w false [(false, [.b])] fun r3 w4 =>
R ((r3.1.1, ()), ()) w4)
set_option maxRecDepth 100000 in
theorem ref15_Newer.eq (b1 : Int) (s1 : Int) (b2 : Int) (s2 : Int) (w : World) (R : Value → World → Prop) : wpF Tryz.prog Tryz.f59 .n [.int .u16 b1, .int .u16 s1, .int .u16 b2, .int .u16 s2] w R = ref15_Newer.wp b1 s1 b2 s2 w (fun r w => R (encR false [(false, [.b])] r) w) := by kernel_rfl
theorem ref15_Newer.ok {b1 : Int} {s1 : Int} {b2 : Int} {s2 : Int} {w : World} {R : TR [(false, [.b])] → World → Prop} (h : ref15_Newer.wp b1 s1 b2 s2 w R) : clS Tryz.prog F.ref15_Newer [.int .u16 b1, .int .u16 s1, .int .u16 b2, .int .u16 s2] w false [(false, [.b])] R :=
  ok_of Tryz_follows Tryz.func59 (fun R => ref15_Newer.wp b1 s1 b2 s2 w R) (ref15_Newer.eq b1 s1 b2 s2 w) rfl h
/-! ### elect_Elect_Issue -/
set_option maxRecDepth 100000 in
def elect_Elect_Issue.wp (e : Option Addr) (w : World) (R : TR [(true, [(.i .u16), (.i .u16)]), (false, [.b])] → World → Prop) : Prop :=
alK [.int .u16 0, .int .u16 0] T.elect_Mark w fun p1 w2 =>
clS Tryz.prog F.elect_Elect_Mine [.pointer e] w2 false [(false, [.b])] fun r3 w4 =>
brB (!r3.1.1) (
stN [.int .u16 0, .int .u16 0] p1 0 w4 fun w5 =>
ldN [(.i .u16), (.i .u16)] p1 0 w5 fun x6 =>
R ((x6.1, x6.2.1, ()), (false, ()), ()) w5) (
ncK e fun a7 =>
ld1 (.i .u16) (a7.add 4) w4 fun x8 =>
clS Tryz.prog F.wrap_Next [.int .u16 x8] w4 false [(false, [(.i .u16)])] fun r9 w10 =>
ncK e fun a11 =>
stN [.int .u16 r9.1.1] (a11.add 4) 0 w10 fun w12 =>
drK w12 fun w13 =>
ncK e fun a14 =>
ld1 (.i .u16) (a14.add 3) w13 fun x15 =>
ncK e fun a16 =>
ld1 (.i .u16) (a16.add 4) w13 fun x17 =>
stN [.int .u16 x15, .int .u16 x17] p1 0 w13 fun w18 =>
Hold [] w18 ∧ (
ldN [(.i .u16), (.i .u16)] p1 0 w18 fun x19 =>
R ((x19.1, x19.2.1, ()), (true, ()), ()) w18))
set_option maxRecDepth 100000 in
theorem elect_Elect_Issue.eq (e : Option Addr) (w : World) (R : Value → World → Prop) : wpF Tryz.prog Tryz.f60 (.s .n (.s .n (.s .n (.s (.pl (.tk 0 (.tk 1 (.tk 2 (.tk 3 (.tk 4 (.tk 5 (.tk 6 (.tk 7 (.tk 8 (.ef 9 [3, 7] (.tk 10 .z)))))))))))) .n)))) [.pointer e] w R = elect_Elect_Issue.wp e w (fun r w => R (encR true [(true, [(.i .u16), (.i .u16)]), (false, [.b])] r) w) := by kernel_rfl
theorem elect_Elect_Issue.ok {e : Option Addr} {w : World} {R : TR [(true, [(.i .u16), (.i .u16)]), (false, [.b])] → World → Prop} (h : elect_Elect_Issue.wp e w R) : clS Tryz.prog F.elect_Elect_Issue [.pointer e] w true [(true, [(.i .u16), (.i .u16)]), (false, [.b])] R :=
  ok_of Tryz_follows Tryz.func60 (fun R => elect_Elect_Issue.wp e w R) (elect_Elect_Issue.eq e w) rfl h
/-! ### frame_Good_of_frame_Sync -/
set_option maxRecDepth 100000 in
def frame_Good_of_frame_Sync.wp (f0 : Int) (f1 : Int) (f2 : Int) (f3 : Int) (f4 : Int) (f5 : Int) (w : World) (R : TR [(false, [.b])] → World → Prop) : Prop :=
clS Tryz.prog F.frame_kind [.iface T.frame_Sync (.agg #[.int .i64 f0, .int .i64 f1, .int .u16 f2, .int .u16 f3, .int .i64 f4, .int .i64 f5])] w false [(false, [(.i .u8)])] fun r1 w2 =>
brB (r1.1.1 == 0) (
R ((false, ()), ()) w2) (
clS Tryz.prog F.frame_Sync_fields [.agg #[.int .i64 f0, .int .i64 f1, .int .u16 f2, .int .u16 f3, .int .i64 f4, .int .i64 f5]] w2 false [(false, [.sl])] fun r3 w4 =>
LoopT (fun (self5 : ((Int) × Unit) → World → Prop) (z6 : (Int) × Unit) w7 => ∀ _ : Nat → Value,
brB (decide (z6.1 < (r3.1.1.2.1 : Int))) (
ixK r3.1.1.1 r3.1.1.2.1 z6.1 fun a8 =>
ldN [(.i .i64), (.i .i64), (.i .i64)] (a8.add (z6.1.toNat * 3)) 0 w7 fun x9 =>
alK [.int .i64 0, .int .i64 0, .int .i64 0] T.frame_field w7 fun p10 w11 =>
stN [.int .i64 x9.1, .int .i64 x9.2.1, .int .i64 x9.2.2.1] p10 0 w11 fun w12 =>
ld1 (.i .i64) (p10.add 1) w12 fun x13 =>
brB (decide (x13 < 0)) (
R ((false, ()), ()) w12) (
ld1 (.i .i64) (p10.add 1) w12 fun x14 =>
ld1 (.i .i64) (p10.add 2) w12 fun x15 =>
brB (decide (x14 > x15)) (
R ((false, ()), ()) w12) (
self5 (IntKind.wrap .i64 (z6.1 + 1), ()) w12))) (
R ((true, ()), ()) w7)) (0, ()) w4)
set_option maxRecDepth 100000 in
theorem frame_Good_of_frame_Sync.eq (f0 : Int) (f1 : Int) (f2 : Int) (f3 : Int) (f4 : Int) (f5 : Int) (w : World) (R : Value → World → Prop) : wpF Tryz.prog Tryz.f61 (.s .n (.s .n (.s (.s .n (.lp [(11, (.i .i64))] .n)) .n))) [.iface T.frame_Sync (.agg #[.int .i64 f0, .int .i64 f1, .int .u16 f2, .int .u16 f3, .int .i64 f4, .int .i64 f5])] w R = frame_Good_of_frame_Sync.wp f0 f1 f2 f3 f4 f5 w (fun r w => R (encR false [(false, [.b])] r) w) := by kernel_rfl
theorem frame_Good_of_frame_Sync.ok {f0 : Int} {f1 : Int} {f2 : Int} {f3 : Int} {f4 : Int} {f5 : Int} {w : World} {R : TR [(false, [.b])] → World → Prop} (h : frame_Good_of_frame_Sync.wp f0 f1 f2 f3 f4 f5 w R) : clS Tryz.prog F.frame_Good [.iface T.frame_Sync (.agg #[.int .i64 f0, .int .i64 f1, .int .u16 f2, .int .u16 f3, .int .i64 f4, .int .i64 f5])] w false [(false, [.b])] R :=
  ok_of Tryz_follows Tryz.func61 (fun R => frame_Good_of_frame_Sync.wp f0 f1 f2 f3 f4 f5 w R) (frame_Good_of_frame_Sync.eq f0 f1 f2 f3 f4 f5 w) rfl h
/-! ### ref05_Fields -/
set_option maxRecDepth 100000 in
def ref05_Fields.wp (p0 : Int) (p1 : Int) (p2 : Int) (p3 : Int) (p4 : Int) (p5 : Int) (p6 : Int) (p7 : Int) (p8 : Int) (p9 : Int) (p10 : Int) (p11 : Int) (p12 : Int) (p13 : Int) (w : World) (R : TR [(false, [.sl])] → World → Prop) : Prop :=
alK [.int .i64 p0, .int .i64 p1, .int .i64 p2, .int .i64 p3, .int .u16 p4, .int .u16 p5, .int .i64 p6, .int .i64 p7, .int .i64 p8, .int .i64 p9, .int .i64 p10, .int .i64 p11, .int .i64 p12, .int .i64 p13] T.ref05_Plain w fun p1 w2 =>
ld1 (.i .i64) (p1.add 1) w2 fun x3 =>
alK [.int .i64 0, .int .i64 0, .int .i64 0] T.ref05_Field w2 fun p4 w5 =>
stN [.int .i64 1, .int .i64 x3, .int .i64 63] p4 0 w5 fun w6 =>
ld1 (.i .i64) p1 w6 fun x7 =>
brB (x7 == 1) (
ldN [(.i .i64), (.i .i64), (.i .i64)] p4 0 w6 fun x8 =>
ld1 (.i .i64) (p1.add 3) w6 fun x9 =>
ld1 (.i .u16) (p1.add 4) w6 fun x10 =>
ld1 (.i .u16) (p1.add 5) w6 fun x11 =>
ld1 (.i .i64) (p1.add 6) w6 fun x12 =>
ld1 (.i .i64) (p1.add 7) w6 fun x13 =>
alK [.int .i64 x8.1, .int .i64 x8.2.1, .int .i64 x8.2.2.1, .int .i64 1, .int .i64 x9, .int .i64 63, .int .i64 2, .int .i64 (IntKind.wrap .i64 x10), .int .i64 65535, .int .i64 2, .int .i64 (IntKind.wrap .i64 x11), .int .i64 65535, .int .i64 1, .int .i64 x12, .int .i64 63, .int .i64 8, .int .i64 x13, .int .i64 1125899906842624] T.ref05_Field w6 fun p14 w15 =>
R (((some p14, 6, 6), ()), ()) w15) (
brB (x7 == 2) (
ldN [(.i .i64), (.i .i64), (.i .i64)] p4 0 w6 fun x16 =>
ld1 (.i .i64) (p1.add 8) w6 fun x17 =>
alK [.int .i64 x16.1, .int .i64 x16.2.1, .int .i64 x16.2.2.1, .int .i64 1, .int .i64 x17, .int .i64 63] T.ref05_Field w6 fun p18 w19 =>
R (((some p18, 2, 2), ()), ()) w19) (
brB (x7 == 3) (
ldN [(.i .i64), (.i .i64), (.i .i64)] p4 0 w6 fun x20 =>
alK [.int .i64 x20.1, .int .i64 x20.2.1, .int .i64 x20.2.2.1] T.ref05_Field w6 fun p21 w22 =>
R (((some p21, 1, 1), ()), ()) w22) (
brB (x7 == 4) (
ldN [(.i .i64), (.i .i64), (.i .i64)] p4 0 w6 fun x23 =>
ld1 (.i .i64) (p1.add 2) w6 fun x24 =>
ld1 (.i .i64) (p1.add 9) w6 fun x25 =>
alK [.int .i64 x23.1, .int .i64 x23.2.1, .int .i64 x23.2.2.1, .int .i64 1, .int .i64 x24, .int .i64 63, .int .i64 8, .int .i64 x25, .int .i64 1125899906842624] T.ref05_Field w6 fun p26 w27 =>
R (((some p26, 3, 3), ()), ()) w27) (
brB (x7 == 5) (
ldN [(.i .i64), (.i .i64), (.i .i64)] p4 0 w6 fun x28 =>
ld1 (.i .i64) (p1.add 2) w6 fun x29 =>
ld1 (.i .i64) (p1.add 9) w6 fun x30 =>
ld1 (.i .i64) (p1.add 10) w6 fun x31 =>
ld1 (.i .i64) (p1.add 11) w6 fun x32 =>
ld1 (.i .i64) (p1.add 3) w6 fun x33 =>
ld1 (.i .u16) (p1.add 4) w6 fun x34 =>
ld1 (.i .i64) (p1.add 6) w6 fun x35 =>
alK [.int .i64 x28.1, .int .i64 x28.2.1, .int .i64 x28.2.2.1, .int .i64 1, .int .i64 x29, .int .i64 63, .int .i64 8, .int .i64 x30, .int .i64 1125899906842624, .int .i64 8, .int .i64 x31, .int .i64 1125899906842624, .int .i64 8, .int .i64 x32, .int .i64 1125899906842624, .int .i64 1, .int .i64 x33, .int .i64 63, .int .i64 2, .int .i64 (IntKind.wrap .i64 x34), .int .i64 65535, .int .i64 1, .int .i64 x35, .int .i64 63] T.ref05_Field w6 fun p36 w37 =>
R (((some p36, 8, 8), ()), ()) w37) (
brB (x7 == 6) (
ldN [(.i .i64), (.i .i64), (.i .i64)] p4 0 w6 fun x38 =>
ld1 (.i .u16) (p1.add 5) w6 fun x39 =>
ld1 (.i .i64) (p1.add 3) w6 fun x40 =>
ld1 (.i .u16) (p1.add 4) w6 fun x41 =>
ld1 (.i .i64) (p1.add 12) w6 fun x42 =>
ld1 (.i .i64) (p1.add 13) w6 fun x43 =>
alK [.int .i64 x38.1, .int .i64 x38.2.1, .int .i64 x38.2.2.1, .int .i64 2, .int .i64 (IntKind.wrap .i64 x39), .int .i64 65535, .int .i64 1, .int .i64 x40, .int .i64 63, .int .i64 2, .int .i64 (IntKind.wrap .i64 x41), .int .i64 65535, .int .i64 8, .int .i64 x42, .int .i64 1125899906842624, .int .i64 8, .int .i64 x43, .int .i64 1125899906842624] T.ref05_Field w6 fun p44 w45 =>
R (((some p44, 6, 6), ()), ()) w45) (
R (((none, 0, 0), ()), ()) w6))))))
set_option maxRecDepth 100000 in
theorem ref05_Fields.eq (p0 : Int) (p1 : Int) (p2 : Int) (p3 : Int) (p4 : Int) (p5 : Int) (p6 : Int) (p7 : Int) (p8 : Int) (p9 : Int) (p10 : Int) (p11 : Int) (p12 : Int) (p13 : Int) (w : World) (R : Value → World → Prop) : wpF Tryz.prog Tryz.f62 .n [.agg #[.int .i64 p0, .int .i64 p1, .int .i64 p2, .int .i64 p3, .int .u16 p4, .int .u16 p5, .int .i64 p6, .int .i64 p7, .int .i64 p8, .int .i64 p9, .int .i64 p10, .int .i64 p11, .int .i64 p12, .int .i64 p13]] w R = ref05_Fields.wp p0 p1 p2 p3 p4 p5 p6 p7 p8 p9 p10 p11 p12 p13 w (fun r w => R (encR false [(false, [.sl])] r) w) := by kernel_rfl
theorem ref05_Fields.ok {p0 : Int} {p1 : Int} {p2 : Int} {p3 : Int} {p4 : Int} {p5 : Int} {p6 : Int} {p7 : Int} {p8 : Int} {p9 : Int} {p10 : Int} {p11 : Int} {p12 : Int} {p13 : Int} {w : World} {R : TR [(false, [.sl])] → World → Prop} (h : ref05_Fields.wp p0 p1 p2 p3 p4 p5 p6 p7 p8 p9 p10 p11 p12 p13 w R) : clS Tryz.prog F.ref05_Fields [.agg #[.int .i64 p0, .int .i64 p1, .int .i64 p2, .int .i64 p3, .int .u16 p4, .int .u16 p5, .int .i64 p6, .int .i64 p7, .int .i64 p8, .int .i64 p9, .int .i64 p10, .int .i64 p11, .int .i64 p12, .int .i64 p13]] w false [(false, [.sl])] R :=
  ok_of Tryz_follows Tryz.func62 (fun R => ref05_Fields.wp p0 p1 p2 p3 p4 p5 p6 p7 p8 p9 p10 p11 p12 p13 w R) (ref05_Fields.eq p0 p1 p2 p3 p4 p5 p6 p7 p8 p9 p10 p11 p12 p13 w) rfl h
/-! ### ref14_Of -/
set_option maxRecDepth 100000 in
def ref14_Of.wp (drift : Int) (list : Option Addr × Nat × Nat) (w : World) (R : TR [(true, [(.i .i64), (.i .i64), (.i .i64), (.i .i64), (.i .i64)]), (false, [.b])] → World → Prop) : Prop :=
alK [.int .i64 0, .int .i64 0, .int .i64 0, .int .i64 0, .int .i64 0] T.ref14_Map w fun p1 w2 =>
brB ((list.2.1 : Int) == 0) (
stN [.int .i64 0, .int .i64 0, .int .i64 0, .int .i64 0, .int .i64 0] p1 0 w2 fun w3 =>
ldN [(.i .i64), (.i .i64), (.i .i64), (.i .i64), (.i .i64)] p1 0 w3 fun x4 =>
R ((x4.1, x4.2.1, x4.2.2.1, x4.2.2.2.1, x4.2.2.2.2.1, ()), (false, ()), ()) w3) (
LoopT (fun (self5 : ((Int) × (Int) × (Int) × Unit) → World → Prop) (z6 : (Int) × (Int) × (Int) × Unit) w7 => ∀ _ : Nat → Value,
brB (decide (z6.2.2.1 < (list.2.1 : Int))) (
ixK list.1 list.2.1 z6.2.2.1 fun a8 =>
ldN [(.i .i64), (.i .i64), (.i .i64)] (a8.add (z6.2.2.1.toNat * 3)) 0 w7 fun x9 =>
alK [.int .i64 0, .int .i64 0, .int .i64 0] T.ref12_Entry w7 fun p10 w11 =>
stN [.int .i64 x9.1, .int .i64 x9.2.1, .int .i64 x9.2.2.1] p10 0 w11 fun w12 =>
ld1 (.i .i64) p10 w12 fun x13 =>
ld1 (.i .i64) (p10.add 1) w12 fun x14 =>
self5 (IntKind.wrap .i64 (z6.1 + x13), IntKind.wrap .i64 (z6.2.1 + x14), IntKind.wrap .i64 (z6.2.2.1 + 1), ()) w12) (
clS Tryz.prog F.ref01_Floor [.int .i64 z6.1, .int .i64 (list.2.1 : Int)] w7 true [(false, [(.i .i64)]), (false, [(.i .i64)])] fun r15 w16 =>
clS Tryz.prog F.ref01_Floor [.int .i64 z6.2.1, .int .i64 (list.2.1 : Int)] w16 true [(false, [(.i .i64)]), (false, [(.i .i64)])] fun r17 w18 =>
clS Tryz.prog F.ref13_Of [.int .i64 drift, .slice list.1 list.2.1 list.2.2] w18 true [(false, [(.i .i64)]), (false, [(.i .i64)])] fun r19 w20 =>
clS Tryz.prog F.ref12_Hops [.slice list.1 list.2.1 list.2.2] w20 false [(false, [(.i .i64)])] fun r21 w22 =>
stN [.int .i64 r15.1.1, .int .i64 r17.1.1, .int .i64 r19.1.1, .int .i64 r19.2.1.1, .int .i64 r21.1.1] p1 0 w22 fun w23 =>
ldN [(.i .i64), (.i .i64), (.i .i64), (.i .i64), (.i .i64)] p1 0 w23 fun x24 =>
R ((x24.1, x24.2.1, x24.2.2.1, x24.2.2.2.1, x24.2.2.2.2.1, ()), (true, ()), ()) w23)) (0, 0, 0, ()) w2)
set_option maxRecDepth 100000 in
theorem ref14_Of.eq (drift : Int) (list : Option Addr × Nat × Nat) (w : World) (R : Value → World → Prop) : wpF Tryz.prog Tryz.f63 (.s .n (.s .n (.s .n (.s .n (.s (.s .n (.lp [(7, (.i .i64)), (8, (.i .i64)), (24, (.i .i64))] .n)) .n))))) [.int .i64 drift, .slice list.1 list.2.1 list.2.2] w R = ref14_Of.wp drift list w (fun r w => R (encR true [(true, [(.i .i64), (.i .i64), (.i .i64), (.i .i64), (.i .i64)]), (false, [.b])] r) w) := by kernel_rfl
theorem ref14_Of.ok {drift : Int} {list : Option Addr × Nat × Nat} {w : World} {R : TR [(true, [(.i .i64), (.i .i64), (.i .i64), (.i .i64), (.i .i64)]), (false, [.b])] → World → Prop} (h : ref14_Of.wp drift list w R) : clS Tryz.prog F.ref14_Of [.int .i64 drift, .slice list.1 list.2.1 list.2.2] w true [(true, [(.i .i64), (.i .i64), (.i .i64), (.i .i64), (.i .i64)]), (false, [.b])] R :=
  ok_of Tryz_follows Tryz.func63 (fun R => ref14_Of.wp drift list w R) (ref14_Of.eq drift list w) rfl h
/-! ### ref14_Global -/
set_option maxRecDepth 100000 in
def ref14_Global.wp (m0 : Int) (m1 : Int) (m2 : Int) (m3 : Int) (m4 : Int) (local_ : Int) (w : World) (R : TR [(false, [(.i .i64)]), (false, [.b])] → World → Prop) : Prop :=
alK [.int .i64 m0, .int .i64 m1, .int .i64 m2, .int .i64 m3, .int .i64 m4] T.ref14_Map w fun p1 w2 =>
brB (decide (local_ < 0)) (
R ((0, ()), (false, ()), ()) w2) (
brB (decide (local_ > 1125899906842624)) (
R ((0, ()), (false, ()), ()) w2) (
ldN [(.i .i64), (.i .i64), (.i .i64), (.i .i64), (.i .i64)] p1 0 w2 fun x3 =>
clS Tryz.prog F.ref14_Raw [.agg #[.int .i64 x3.1, .int .i64 x3.2.1, .int .i64 x3.2.2.1, .int .i64 x3.2.2.2.1, .int .i64 x3.2.2.2.2.1], .int .i64 local_] w2 false [(false, [(.i .i64)])] fun r4 w5 =>
brB (decide (r4.1.1 < 0)) (
R ((0, ()), (false, ()), ()) w5) (
brB (decide (r4.1.1 > 1125899906842624)) (
R ((0, ()), (false, ()), ()) w5) (
R ((r4.1.1, ()), (true, ()), ()) w5))))
set_option maxRecDepth 100000 in
theorem ref14_Global.eq (m0 : Int) (m1 : Int) (m2 : Int) (m3 : Int) (m4 : Int) (local_ : Int) (w : World) (R : Value → World → Prop) : wpF Tryz.prog Tryz.f64 .n [.agg #[.int .i64 m0, .int .i64 m1, .int .i64 m2, .int .i64 m3, .int .i64 m4], .int .i64 local_] w R = ref14_Global.wp m0 m1 m2 m3 m4 local_ w (fun r w => R (encR true [(false, [(.i .i64)]), (false, [.b])] r) w) := by kernel_rfl
theorem ref14_Global.ok {m0 : Int} {m1 : Int} {m2 : Int} {m3 : Int} {m4 : Int} {local_ : Int} {w : World} {R : TR [(false, [(.i .i64)]), (false, [.b])] → World → Prop} (h : ref14_Global.wp m0 m1 m2 m3 m4 local_ w R) : clS Tryz.prog F.ref14_Global [.agg #[.int .i64 m0, .int .i64 m1, .int .i64 m2, .int .i64 m3, .int .i64 m4], .int .i64 local_] w true [(false, [(.i .i64)]), (false, [.b])] R :=
  ok_of Tryz_follows Tryz.func64 (fun R => ref14_Global.wp m0 m1 m2 m3 m4 local_ w R) (ref14_Global.eq m0 m1 m2 m3 m4 local_ w) rfl h
/-! ### globe_Of -/
set_option maxRecDepth 100000 in
def globe_Of.wp (drift : Int) (t : Option Addr) (w : World) (R : TR [(true, [(.i .i64), (.i .i64), (.i .i64), (.i .i64), (.i .i64)]), (false, [.b])] → World → Prop) : Prop :=
alK [.int .i64 0, .int .i64 0, .int .i64 0, .int .i64 0, .int .i64 0] T.globe_Map w fun p1 w2 =>
clS Tryz.prog F.table_Table_Len [.pointer t] w2 false [(false, [(.i .i64)])] fun r3 w4 =>
brB (r3.1.1 == 0) (
stN [.int .i64 0, .int .i64 0, .int .i64 0, .int .i64 0, .int .i64 0] p1 0 w4 fun w5 =>
ldN [(.i .i64), (.i .i64), (.i .i64), (.i .i64), (.i .i64)] p1 0 w5 fun x6 =>
R ((x6.1, x6.2.1, x6.2.2.1, x6.2.2.2.1, x6.2.2.2.2.1, ()), (false, ()), ()) w5) (
alK [.int .i64 0] T.int w4 fun p7 w8 =>
alK [.int .i64 0] T.int w8 fun p9 w10 =>
stN [.int .i64 0] p7 0 w10 fun w11 =>
stN [.int .i64 0] p9 0 w11 fun w12 =>
clS Tryz.prog F.table_Table_All [.pointer t] w12 false [(false, [.any])] fun r13 w14 =>
RfT Tryz.prog r13.1.1 [(true, [(.i .i64), (.i .i64), (.i .i64)])] w14 (fun x15 k16 w17 =>
alK [.int .i64 0, .int .i64 0, .int .i64 0] T.table_Entry w17 fun p23 w24 =>
stN [.int .i64 x15.1.1, .int .i64 x15.1.2.1, .int .i64 x15.1.2.2.1] p23 0 w24 fun w25 =>
k16 w25 fun go18 lv19 w20 =>
ld1 (.i .i64) p7 w20 fun x26 =>
ld1 (.i .i64) p23 w20 fun x27 =>
stN [.int .i64 (IntKind.wrap .i64 (x26 + x27))] p7 0 w20 fun w28 =>
ld1 (.i .i64) p9 w28 fun x29 =>
ld1 (.i .i64) (p23.add 1) w28 fun x30 =>
stN [.int .i64 (IntKind.wrap .i64 (x29 + x30))] p9 0 w28 fun w31 =>
go18 w31) (fun D21 w22 =>
ld1 (.i .i64) p7 w22 fun x32 =>
clS Tryz.prog F.fix_Floor [.int .i64 x32, .int .i64 r3.1.1] w22 true [(false, [(.i .i64)]), (false, [(.i .i64)]), (false, [.b])] fun r33 w34 =>
stN [.int .i64 r33.1.1] p7 0 w34 fun w35 =>
ld1 (.i .i64) p9 w35 fun x36 =>
clS Tryz.prog F.fix_Floor [.int .i64 x36, .int .i64 r3.1.1] w35 true [(false, [(.i .i64)]), (false, [(.i .i64)]), (false, [.b])] fun r37 w38 =>
stN [.int .i64 r37.1.1] p9 0 w38 fun w39 =>
drK w39 fun w40 =>
ld1 (.i .i64) p7 w40 fun x41 =>
ld1 (.i .i64) p9 w40 fun x42 =>
clS Tryz.prog F.table_Table_List [.pointer t] w40 false [(false, [.sl])] fun r43 w44 =>
Hold [(1, p9, (w40.cell? p9).getD undef), (0, p7, (w40.cell? p7).getD undef)] w44 ∧ (
clS Tryz.prog F.slope_Of [.int .i64 drift, .slice r43.1.1.1 r43.1.1.2.1 r43.1.1.2.2] w44 false [(true, [(.i .i64), (.i .i64)])] fun r45 w46 =>
Hold [(1, p9, (w40.cell? p9).getD undef), (0, p7, (w40.cell? p7).getD undef)] w46 ∧ (
clS Tryz.prog F.table_Table_Hops [.pointer t] w46 false [(false, [(.i .i64)])] fun r47 w48 =>
Hold [(1, p9, (w40.cell? p9).getD undef), (0, p7, (w40.cell? p7).getD undef)] w48 ∧ (
stN [.int .i64 x41, .int .i64 x42, .int .i64 r45.1.1, .int .i64 r45.1.2.1, .int .i64 r47.1.1] p1 0 w48 fun w49 =>
Hold [] w49 ∧ (
tkK D21 w49 fun w50 =>
ldN [(.i .i64), (.i .i64), (.i .i64), (.i .i64), (.i .i64)] p1 0 w50 fun x51 =>
R ((x51.1, x51.2.1, x51.2.2.1, x51.2.2.2.1, x51.2.2.2.2.1, ()), (true, ()), ()) w50))))) [])
set_option maxRecDepth 100000 in
theorem globe_Of.eq (drift : Int) (t : Option Addr) (w : World) (R : Value → World → Prop) : wpF Tryz.prog Tryz.f65 (.s .n (.s .n (.s .n (.s .n (.s (.s .n (.rf [(true, [(.i .i64), (.i .i64), (.i .i64)])] .n .n)) (.s .n (.s .n (.s (.pl (.tk 0 (.tk 1 (.tk 2 (.tk 3 (.tk 6 (.ef 4 [] (.ef 5 [] (.ef 7 [] (.tk 8 (.ef 9 [0, 1] (.tk 10 .z)))))))))))) .n)))))))) [.int .i64 drift, .pointer t] w R = globe_Of.wp drift t w (fun r w => R (encR true [(true, [(.i .i64), (.i .i64), (.i .i64), (.i .i64), (.i .i64)]), (false, [.b])] r) w) := by kernel_rfl
theorem globe_Of.ok {drift : Int} {t : Option Addr} {w : World} {R : TR [(true, [(.i .i64), (.i .i64), (.i .i64), (.i .i64), (.i .i64)]), (false, [.b])] → World → Prop} (h : globe_Of.wp drift t w R) : clS Tryz.prog F.globe_Of [.int .i64 drift, .pointer t] w true [(true, [(.i .i64), (.i .i64), (.i .i64), (.i .i64), (.i .i64)]), (false, [.b])] R :=
  ok_of Tryz_follows Tryz.func65 (fun R => globe_Of.wp drift t w R) (globe_Of.eq drift t w) rfl h
/-! ### globe_Map_Global -/
set_option maxRecDepth 100000 in
def globe_Map_Global.wp (m0 : Int) (m1 : Int) (m2 : Int) (m3 : Int) (m4 : Int) (local_ : Int) (w : World) (R : TR [(false, [(.i .i64)]), (false, [.b])] → World → Prop) : Prop :=
alK [.int .i64 m0, .int .i64 m1, .int .i64 m2, .int .i64 m3, .int .i64 m4] T.globe_Map w fun p1 w2 =>
brB (decide (local_ < 0)) (
R ((0, ()), (false, ()), ()) w2) (
brB (decide (local_ > 1125899906842624)) (
R ((0, ()), (false, ()), ()) w2) (
ld1 (.i .i64) p1 w2 fun x3 =>
brB (decide (x3 < 0)) (
R ((0, ()), (false, ()), ()) w2) (
ld1 (.i .i64) p1 w2 fun x4 =>
brB (decide (x4 > 1125899906842624)) (
R ((0, ()), (false, ()), ()) w2) (
ldN [(.i .i64), (.i .i64)] (p1.add 2) 0 w2 fun x5 =>
ld1 (.i .i64) p1 w2 fun x6 =>
clS Tryz.prog F.slope_Slope_Gain [.agg #[.int .i64 x5.1, .int .i64 x5.2.1], .int .i64 (IntKind.wrap .i64 (local_ - x6))] w2 false [(false, [(.i .i64)])] fun r7 w8 =>
ld1 (.i .i64) (p1.add 1) w8 fun x9 =>
clS Tryz.prog F.fix_Clamp [.int .i64 x9, .int .i64 (Int.negSucc 1125899906842623), .int .i64 1125899906842624] w8 false [(false, [(.i .i64)])] fun r10 w11 =>
clS Tryz.prog F.fix_Sat [.int .i64 local_, .int .i64 r10.1.1] w11 false [(false, [(.i .i64)])] fun r12 w13 =>
clS Tryz.prog F.fix_Clamp [.int .i64 r7.1.1, .int .i64 (Int.negSucc 1125899906842623), .int .i64 1125899906842624] w13 false [(false, [(.i .i64)])] fun r14 w15 =>
clS Tryz.prog F.fix_Sat [.int .i64 r12.1.1, .int .i64 r14.1.1] w15 false [(false, [(.i .i64)])] fun r16 w17 =>
brB (decide (r16.1.1 < 0)) (
R ((0, ()), (false, ()), ()) w17) (
brB (decide (r16.1.1 > 1125899906842624)) (
R ((0, ()), (false, ()), ()) w17) (
R ((r16.1.1, ()), (true, ()), ()) w17))))))
set_option maxRecDepth 100000 in
theorem globe_Map_Global.eq (m0 : Int) (m1 : Int) (m2 : Int) (m3 : Int) (m4 : Int) (local_ : Int) (w : World) (R : Value → World → Prop) : wpF Tryz.prog Tryz.f66 .n [.agg #[.int .i64 m0, .int .i64 m1, .int .i64 m2, .int .i64 m3, .int .i64 m4], .int .i64 local_] w R = globe_Map_Global.wp m0 m1 m2 m3 m4 local_ w (fun r w => R (encR true [(false, [(.i .i64)]), (false, [.b])] r) w) := by kernel_rfl
theorem globe_Map_Global.ok {m0 : Int} {m1 : Int} {m2 : Int} {m3 : Int} {m4 : Int} {local_ : Int} {w : World} {R : TR [(false, [(.i .i64)]), (false, [.b])] → World → Prop} (h : globe_Map_Global.wp m0 m1 m2 m3 m4 local_ w R) : clS Tryz.prog F.globe_Map_Global [.agg #[.int .i64 m0, .int .i64 m1, .int .i64 m2, .int .i64 m3, .int .i64 m4], .int .i64 local_] w true [(false, [(.i .i64)]), (false, [.b])] R :=
  ok_of Tryz_follows Tryz.func66 (fun R => globe_Map_Global.wp m0 m1 m2 m3 m4 local_ w R) (globe_Map_Global.eq m0 m1 m2 m3 m4 local_ w) rfl h
/-! ### wrap_Newer -/
set_option maxRecDepth 100000 in
def wrap_Newer.wp (a : Int) (b : Int) (w : World) (R : TR [(false, [.b])] → World → Prop) : Prop :=
R ((decide ((IntKind.wrap .i16 (IntKind.wrap .u16 (a - b))) > 0), ()), ()) w
set_option maxRecDepth 100000 in
theorem wrap_Newer.eq (a : Int) (b : Int) (w : World) (R : Value → World → Prop) : wpF Tryz.prog Tryz.f67 .n [.int .u16 a, .int .u16 b] w R = wrap_Newer.wp a b w (fun r w => R (encR false [(false, [.b])] r) w) := by kernel_rfl
theorem wrap_Newer.ok {a : Int} {b : Int} {w : World} {R : TR [(false, [.b])] → World → Prop} (h : wrap_Newer.wp a b w R) : clS Tryz.prog F.wrap_Newer [.int .u16 a, .int .u16 b] w false [(false, [.b])] R :=
  ok_of Tryz_follows Tryz.func67 (fun R => wrap_Newer.wp a b w R) (wrap_Newer.eq a b w) rfl h
/-! ### ref02_Newer -/
set_option maxRecDepth 100000 in
def ref02_Newer.wp (a : Int) (b : Int) (w : World) (R : TR [(false, [.b])] → World → Prop) : Prop :=
nzK 65536 (
brB (decide ((Int.tmod (IntKind.wrap .i64 ((IntKind.wrap .i64 ((IntKind.wrap .i64 a) + 65536)) - (IntKind.wrap .i64 b))) 65536) ≥ 1)) (
R ((decide ((Int.tmod (IntKind.wrap .i64 ((IntKind.wrap .i64 ((IntKind.wrap .i64 a) + 65536)) - (IntKind.wrap .i64 b))) 65536) ≤ 32767), ()), ()) w) (
R ((false, ()), ()) w))
set_option maxRecDepth 100000 in
theorem ref02_Newer.eq (a : Int) (b : Int) (w : World) (R : Value → World → Prop) : wpF Tryz.prog Tryz.f68 .n [.int .u16 a, .int .u16 b] w R = ref02_Newer.wp a b w (fun r w => R (encR false [(false, [.b])] r) w) := by kernel_rfl
theorem ref02_Newer.ok {a : Int} {b : Int} {w : World} {R : TR [(false, [.b])] → World → Prop} (h : ref02_Newer.wp a b w R) : clS Tryz.prog F.ref02_Newer [.int .u16 a, .int .u16 b] w false [(false, [.b])] R :=
  ok_of Tryz_follows Tryz.func68 (fun R => ref02_Newer.wp a b w R) (ref02_Newer.eq a b w) rfl h
/-! ### wrap_Next -/
set_option maxRecDepth 100000 in
def wrap_Next.wp (a : Int) (w : World) (R : TR [(false, [(.i .u16)])] → World → Prop) : Prop :=
R ((IntKind.wrap .u16 (a + 1), ()), ()) w
set_option maxRecDepth 100000 in
theorem wrap_Next.eq (a : Int) (w : World) (R : Value → World → Prop) : wpF Tryz.prog Tryz.f69 .n [.int .u16 a] w R = wrap_Next.wp a w (fun r w => R (encR false [(false, [(.i .u16)])] r) w) := by kernel_rfl
theorem wrap_Next.ok {a : Int} {w : World} {R : TR [(false, [(.i .u16)])] → World → Prop} (h : wrap_Next.wp a w R) : clS Tryz.prog F.wrap_Next [.int .u16 a] w false [(false, [(.i .u16)])] R :=
  ok_of Tryz_follows Tryz.func69 (fun R => wrap_Next.wp a w R) (wrap_Next.eq a w) rfl h
/-! ### frame_kind_of_frame_Sync -/
set_option maxRecDepth 100000 in
def frame_kind_of_frame_Sync.wp (f0 : Int) (f1 : Int) (f2 : Int) (f3 : Int) (f4 : Int) (f5 : Int) (w : World) (R : TR [(false, [(.i .u8)])] → World → Prop) : Prop :=
R ((1, ()), ()) w
set_option maxRecDepth 100000 in
theorem frame_kind_of_frame_Sync.eq (f0 : Int) (f1 : Int) (f2 : Int) (f3 : Int) (f4 : Int) (f5 : Int) (w : World) (R : Value → World → Prop) : wpF Tryz.prog Tryz.f70 .n [.iface T.frame_Sync (.agg #[.int .i64 f0, .int .i64 f1, .int .u16 f2, .int .u16 f3, .int .i64 f4, .int .i64 f5])] w R = frame_kind_of_frame_Sync.wp f0 f1 f2 f3 f4 f5 w (fun r w => R (encR false [(false, [(.i .u8)])] r) w) := by kernel_rfl
theorem frame_kind_of_frame_Sync.ok {f0 : Int} {f1 : Int} {f2 : Int} {f3 : Int} {f4 : Int} {f5 : Int} {w : World} {R : TR [(false, [(.i .u8)])] → World → Prop} (h : frame_kind_of_frame_Sync.wp f0 f1 f2 f3 f4 f5 w R) : clS Tryz.prog F.frame_kind [.iface T.frame_Sync (.agg #[.int .i64 f0, .int .i64 f1, .int .u16 f2, .int .u16 f3, .int .i64 f4, .int .i64 f5])] w false [(false, [(.i .u8)])] R :=
  ok_of Tryz_follows Tryz.func70 (fun R => frame_kind_of_frame_Sync.wp f0 f1 f2 f3 f4 f5 w R) (frame_kind_of_frame_Sync.eq f0 f1 f2 f3 f4 f5 w) rfl h
/-! ### ref01_Floor -/
set_option maxRecDepth 100000 in
def ref01_Floor.wp (a : Int) (b : Int) (w : World) (R : TR [(false, [(.i .i64)]), (false, [(.i .i64)])] → World → Prop) : Prop :=
nzK b (
CutT (fun (J1 : ((Bool) × Unit) → World → Prop) =>
nzK b (
brB ((Int.tmod a b) != 0) (
J1 (decide (a < 0), ()) w) (
J1 (false, ()) w))) (fun (z2 : (Bool) × Unit) w3 => ∀ _ : Nat → Value,
brB z2.1 (
drK w3 fun w4 =>
nzK b (
R ((IntKind.wrap .i64 ((IntKind.wrap .i64 (Int.tdiv a b)) - 1), ()), (IntKind.wrap .i64 ((Int.tmod a b) + b), ()), ()) w4)) (
drK w3 fun w5 =>
nzK b (
R ((IntKind.wrap .i64 (Int.tdiv a b), ()), (Int.tmod a b, ()), ()) w5))))
set_option maxRecDepth 100000 in
theorem ref01_Floor.eq (a : Int) (b : Int) (w : World) (R : Value → World → Prop) : wpF Tryz.prog Tryz.f71 (.s .n (.s .n (.s (.ct [(17, .b)] .n (.s (.s (.pl (.tk 0 (.tk 1 (.tk 2 (.tk 3 (.tk 4 (.tk 5 (.tk 6 (.tk 7 (.tk 8 .z)))))))))) .n) .n)) (.s (.pl (.tk 0 (.tk 1 (.tk 2 (.tk 3 (.tk 4 (.tk 5 .z))))))) .n)))) [.int .i64 a, .int .i64 b] w R = ref01_Floor.wp a b w (fun r w => R (encR true [(false, [(.i .i64)]), (false, [(.i .i64)])] r) w) := by kernel_rfl
theorem ref01_Floor.ok {a : Int} {b : Int} {w : World} {R : TR [(false, [(.i .i64)]), (false, [(.i .i64)])] → World → Prop} (h : ref01_Floor.wp a b w R) : clS Tryz.prog F.ref01_Floor [.int .i64 a, .int .i64 b] w true [(false, [(.i .i64)]), (false, [(.i .i64)])] R :=
  ok_of Tryz_follows Tryz.func71 (fun R => ref01_Floor.wp a b w R) (ref01_Floor.eq a b w) rfl h
/-! ### ref13_Of -/
set_option maxRecDepth 100000 in
def ref13_Of.wp (drift : Int) (list : Option Addr × Nat × Nat) (w : World) (R : TR [(false, [(.i .i64)]), (false, [(.i .i64)])] → World → Prop) : Prop :=
brB (decide ((list.2.1 : Int) < 2)) (
R ((0, ()), (1, ()), ()) w) (
brB (decide ((list.2.1 : Int) > 8)) (
R ((0, ()), (1, ()), ()) w) (
LoopT (fun (self1 : ((Int) × Unit) → World → Prop) (z2 : (Int) × Unit) w3 => ∀ _ : Nat → Value,
brB (decide (z2.1 < (list.2.1 : Int))) (
ixK list.1 list.2.1 z2.1 fun a4 =>
ldN [(.i .i64), (.i .i64), (.i .i64)] (a4.add (z2.1.toNat * 3)) 0 w3 fun x5 =>
alK [.int .i64 0, .int .i64 0, .int .i64 0] T.ref12_Entry w3 fun p6 w7 =>
stN [.int .i64 x5.1, .int .i64 x5.2.1, .int .i64 x5.2.2.1] p6 0 w7 fun w8 =>
ldN [(.i .i64), (.i .i64), (.i .i64)] p6 0 w8 fun x9 =>
clS Tryz.prog F.ref12_Good [.agg #[.int .i64 x9.1, .int .i64 x9.2.1, .int .i64 x9.2.2.1]] w8 false [(false, [.b])] fun r10 w11 =>
brB (!r10.1.1) (
R ((0, ()), (1, ()), ()) w11) (
self1 (IntKind.wrap .i64 (z2.1 + 1), ()) w11)) (
LoopT (fun (self12 : ((Int) × (Int) × (Int) × (Int) × (Int) × Unit) → World → Prop) (z13 : (Int) × (Int) × (Int) × (Int) × (Int) × Unit) w14 => ∀ _ : Nat → Value,
brB (decide (z13.2.2.2.2.1 < (list.2.1 : Int))) (
ixK list.1 list.2.1 z13.2.2.2.2.1 fun a15 =>
ldN [(.i .i64), (.i .i64), (.i .i64)] (a15.add (z13.2.2.2.2.1.toNat * 3)) 0 w14 fun x16 =>
alK [.int .i64 0, .int .i64 0, .int .i64 0] T.ref12_Entry w14 fun p17 w18 =>
stN [.int .i64 x16.1, .int .i64 x16.2.1, .int .i64 x16.2.2.1] p17 0 w18 fun w19 =>
drK w19 fun w20 =>
ld1 (.i .i64) p17 w20 fun x21 =>
ixK list.1 list.2.1 0 fun a22 =>
ld1 (.i .i64) (a22.add ((0 : Int).toNat * 3)) w20 fun x23 =>
drK w20 fun w24 =>
ld1 (.i .i64) (p17.add 1) w24 fun x25 =>
ixK list.1 list.2.1 0 fun a26 =>
ld1 (.i .i64) ((a26.add ((0 : Int).toNat * 3)).add 1) w24 fun x27 =>
brB (decide ((IntKind.wrap .i64 (x21 - x23)) < 0)) (
R ((0, ()), (1, ()), ()) w24) (
brB (decide ((IntKind.wrap .i64 (x21 - x23)) > 4194304)) (
R ((0, ()), (1, ()), ()) w24) (
brB (decide ((IntKind.wrap .i64 (x25 - x27)) < (Int.negSucc 4194303))) (
R ((0, ()), (1, ()), ()) w24) (
brB (decide ((IntKind.wrap .i64 (x25 - x27)) > 4194304)) (
R ((0, ()), (1, ()), ()) w24) (
self12 (IntKind.wrap .i64 (z13.1 + (IntKind.wrap .i64 (x21 - x23))), IntKind.wrap .i64 (z13.2.1 + (IntKind.wrap .i64 (x25 - x27))), IntKind.wrap .i64 (z13.2.2.1 + (IntKind.wrap .i64 ((IntKind.wrap .i64 (x21 - x23)) * (IntKind.wrap .i64 (x25 - x27))))), IntKind.wrap .i64 (z13.2.2.2.1 + (IntKind.wrap .i64 ((IntKind.wrap .i64 (x21 - x23)) * (IntKind.wrap .i64 (x21 - x23))))), IntKind.wrap .i64 (z13.2.2.2.2.1 + 1), ()) w24))))) (
brB (decide ((IntKind.wrap .i64 ((IntKind.wrap .i64 ((list.2.1 : Int) * z13.2.2.2.1)) - (IntKind.wrap .i64 (z13.1 * z13.1)))) ≤ 0)) (
R ((0, ()), (1, ()), ()) w14) (
clS Tryz.prog F.ref13_Most [.int .i64 drift] w14 true [(false, [(.i .i64)]), (false, [(.i .i64)])] fun r28 w29 =>
CutT (fun (J30 : Unit → World → Prop) =>
brB (decide ((IntKind.wrap .i64 ((IntKind.wrap .i64 ((list.2.1 : Int) * z13.2.2.1)) - (IntKind.wrap .i64 (z13.1 * z13.2.1)))) > 0)) (
clS Tryz.prog F.ref13_Over [.int .i64 (IntKind.wrap .i64 ((IntKind.wrap .i64 ((list.2.1 : Int) * z13.2.2.1)) - (IntKind.wrap .i64 (z13.1 * z13.2.1)))), .int .i64 (IntKind.wrap .i64 ((IntKind.wrap .i64 ((list.2.1 : Int) * z13.2.2.2.1)) - (IntKind.wrap .i64 (z13.1 * z13.1)))), .int .i64 r28.1.1, .int .i64 r28.2.1.1] w29 false [(false, [.b])] fun r33 w34 =>
brB r33.1.1 (
R ((r28.1.1, ()), (r28.2.1.1, ()), ()) w34) (
J30 (()) w34)) (
J30 (()) w29)) (fun (z31 : Unit) w32 => ∀ _ : Nat → Value,
brB (decide ((IntKind.wrap .i64 ((IntKind.wrap .i64 ((list.2.1 : Int) * z13.2.2.1)) - (IntKind.wrap .i64 (z13.1 * z13.2.1)))) < 0)) (
clS Tryz.prog F.ref13_Over [.int .i64 (IntKind.wrap .i64 (0 - (IntKind.wrap .i64 ((IntKind.wrap .i64 ((list.2.1 : Int) * z13.2.2.1)) - (IntKind.wrap .i64 (z13.1 * z13.2.1)))))), .int .i64 (IntKind.wrap .i64 ((IntKind.wrap .i64 ((list.2.1 : Int) * z13.2.2.2.1)) - (IntKind.wrap .i64 (z13.1 * z13.1)))), .int .i64 r28.1.1, .int .i64 r28.2.1.1] w32 false [(false, [.b])] fun r35 w36 =>
brB r35.1.1 (
R ((IntKind.wrap .i64 (0 - r28.1.1), ()), (r28.2.1.1, ()), ()) w36) (
R ((IntKind.wrap .i64 ((IntKind.wrap .i64 ((list.2.1 : Int) * z13.2.2.1)) - (IntKind.wrap .i64 (z13.1 * z13.2.1))), ()), (IntKind.wrap .i64 ((IntKind.wrap .i64 ((list.2.1 : Int) * z13.2.2.2.1)) - (IntKind.wrap .i64 (z13.1 * z13.1))), ()), ()) w36)) (
R ((IntKind.wrap .i64 ((IntKind.wrap .i64 ((list.2.1 : Int) * z13.2.2.1)) - (IntKind.wrap .i64 (z13.1 * z13.2.1))), ()), (IntKind.wrap .i64 ((IntKind.wrap .i64 ((list.2.1 : Int) * z13.2.2.2.1)) - (IntKind.wrap .i64 (z13.1 * z13.1))), ()), ()) w32))))) (0, 0, 0, 0, 0, ()) w3)) (0, ()) w))
set_option maxRecDepth 100000 in
theorem ref13_Of.eq (drift : Int) (list : Option Addr × Nat × Nat) (w : World) (R : Value → World → Prop) : wpF Tryz.prog Tryz.f72 (.s .n (.s .n (.s .n (.s .n (.s (.s .n (.lp [(31, (.i .i64))] .n)) (.s (.s .n (.lp [(7, (.i .i64)), (8, (.i .i64)), (9, (.i .i64)), (10, (.i .i64)), (41, (.i .i64))] (.s .n (.s .n (.s (.s .n (.s (.pl (.tk 0 (.tk 1 (.tk 2 (.tk 3 (.tk 4 (.tk 5 (.tk 6 (.tk 7 .z))))))))) (.s (.pl (.tk 0 (.tk 1 (.tk 2 (.tk 3 (.tk 4 (.tk 5 (.tk 6 (.tk 7 .z))))))))) .n))) .n))))) (.s .n (.s .n (.s .n (.s .n (.ct [] .n .n))))))))))) [.int .i64 drift, .slice list.1 list.2.1 list.2.2] w R = ref13_Of.wp drift list w (fun r w => R (encR true [(false, [(.i .i64)]), (false, [(.i .i64)])] r) w) := by kernel_rfl
theorem ref13_Of.ok {drift : Int} {list : Option Addr × Nat × Nat} {w : World} {R : TR [(false, [(.i .i64)]), (false, [(.i .i64)])] → World → Prop} (h : ref13_Of.wp drift list w R) : clS Tryz.prog F.ref13_Of [.int .i64 drift, .slice list.1 list.2.1 list.2.2] w true [(false, [(.i .i64)]), (false, [(.i .i64)])] R :=
  ok_of Tryz_follows Tryz.func72 (fun R => ref13_Of.wp drift list w R) (ref13_Of.eq drift list w) rfl h
/-! ### ref12_Hops -/
set_option maxRecDepth 100000 in
def ref12_Hops.wp (list : Option Addr × Nat × Nat) (w : World) (R : TR [(false, [(.i .i64)])] → World → Prop) : Prop :=
LoopT (fun (self1 : ((Int) × (Int) × Unit) → World → Prop) (z2 : (Int) × (Int) × Unit) w3 => ∀ _ : Nat → Value,
brB (decide (z2.2.1 < (list.2.1 : Int))) (
ixK list.1 list.2.1 z2.2.1 fun a4 =>
ldN [(.i .i64), (.i .i64), (.i .i64)] (a4.add (z2.2.1.toNat * 3)) 0 w3 fun x5 =>
alK [.int .i64 0, .int .i64 0, .int .i64 0] T.ref12_Entry w3 fun p6 w7 =>
stN [.int .i64 x5.1, .int .i64 x5.2.1, .int .i64 x5.2.2.1] p6 0 w7 fun w8 =>
ld1 (.i .i64) (p6.add 2) w8 fun x9 =>
self1 ((if x9 > z2.1 then x9 else z2.1), IntKind.wrap .i64 (z2.2.1 + 1), ()) w8) (
R ((z2.1, ()), ()) w3)) (0, 0, ()) w
set_option maxRecDepth 100000 in
theorem ref12_Hops.eq (list : Option Addr × Nat × Nat) (w : World) (R : Value → World → Prop) : wpF Tryz.prog Tryz.f73 (.s .n (.s .n (.s (.s .n (.lp [(3, (.i .i64)), (8, (.i .i64))] .n)) .n))) [.slice list.1 list.2.1 list.2.2] w R = ref12_Hops.wp list w (fun r w => R (encR false [(false, [(.i .i64)])] r) w) := by kernel_rfl
theorem ref12_Hops.ok {list : Option Addr × Nat × Nat} {w : World} {R : TR [(false, [(.i .i64)])] → World → Prop} (h : ref12_Hops.wp list w R) : clS Tryz.prog F.ref12_Hops [.slice list.1 list.2.1 list.2.2] w false [(false, [(.i .i64)])] R :=
  ok_of Tryz_follows Tryz.func73 (fun R => ref12_Hops.wp list w R) (ref12_Hops.eq list w) rfl h
end Go.Proofs.YtahojpppjpfjmaaGreat
