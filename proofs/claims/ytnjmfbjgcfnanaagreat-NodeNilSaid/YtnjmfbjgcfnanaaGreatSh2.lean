import Derived.Test.YtnjmfbjgcfnanaaGreatNm
namespace Go.Proofs.YtnjmfbjgcfnanaaGreat
open Go.Eng
set_option linter.unusedVariables false
/-! ### wrap_Next -/
set_option maxRecDepth 100000 in
def wrap_Next.wp (a : Int) (w : World) (R : TR [(false, [(.i .u16)])] → World → Prop) : Prop :=
R ((IntKind.wrap .u16 (a + 1), ()), ()) w
set_option maxRecDepth 100000 in
theorem wrap_Next.eq (a : Int) (w : World) (R : Value → World → Prop) : wpF Tryz.prog Tryz.f155 .n [.int .u16 a] w R = wrap_Next.wp a w (fun r w => R (encR false [(false, [(.i .u16)])] r) w) := by kernel_rfl
set_option maxRecDepth 100000 in
theorem wrap_Next.ok {a : Int} {w : World} {R : TR [(false, [(.i .u16)])] → World → Prop} (h : wrap_Next.wp a w R) : clS Tryz.prog F.wrap_Next [.int .u16 a] w false [(false, [(.i .u16)])] R :=
  ok_of Tryz_follows Tryz.func155 (fun R => wrap_Next.wp a w R) (wrap_Next.eq a w) rfl h
/-! ### elect_Rules_Good -/
set_option maxRecDepth 100000 in
def elect_Rules_Good.wp (r0 : Int) (r1 : Int) (w : World) (R : TR [(false, [.b])] → World → Prop) : Prop :=
alK [.int .i64 r0, .int .i64 r1] T.elect_Rules w fun p1 w2 =>
ld1 (.i .i64) p1 w2 fun x3 =>
brB (decide (x3 ≥ 1)) (
ld1 (.i .i64) p1 w2 fun x4 =>
brB (decide (x4 ≤ 1000)) (
ld1 (.i .i64) (p1.add 1) w2 fun x5 =>
brB (decide (x5 ≥ 0)) (
ld1 (.i .i64) (p1.add 1) w2 fun x6 =>
R ((decide (x6 ≤ 1000), ()), ()) w2) (
R ((false, ()), ()) w2)) (
R ((false, ()), ()) w2)) (
R ((false, ()), ()) w2)
set_option maxRecDepth 100000 in
theorem elect_Rules_Good.eq (r0 : Int) (r1 : Int) (w : World) (R : Value → World → Prop) : wpF Tryz.prog Tryz.f157 .n [.agg #[.int .i64 r0, .int .i64 r1]] w R = elect_Rules_Good.wp r0 r1 w (fun r w => R (encR false [(false, [.b])] r) w) := by kernel_rfl
set_option maxRecDepth 100000 in
theorem elect_Rules_Good.ok {r0 : Int} {r1 : Int} {w : World} {R : TR [(false, [.b])] → World → Prop} (h : elect_Rules_Good.wp r0 r1 w R) : clS Tryz.prog F.elect_Rules_Good [.agg #[.int .i64 r0, .int .i64 r1]] w false [(false, [.b])] R :=
  ok_of Tryz_follows Tryz.func157 (fun R => elect_Rules_Good.wp r0 r1 w R) (elect_Rules_Good.eq r0 r1 w) rfl h
/-! ### table_Table_Clear -/
set_option maxRecDepth 100000 in
def table_Table_Clear.wp (t : Option Addr) (w : World) (R : TR [] → World → Prop) : Prop :=
brB (!(Option.isNone t)) (
ncK t fun a1 =>
stN [.slice none 0 0] a1 0 w fun w2 =>
R (()) w2) (
R (()) w)
set_option maxRecDepth 100000 in
theorem table_Table_Clear.eq (t : Option Addr) (w : World) (R : Value → World → Prop) : wpF Tryz.prog Tryz.f158 .n [.pointer t] w R = table_Table_Clear.wp t w (fun r w => R (encR true [] r) w) := by kernel_rfl
set_option maxRecDepth 100000 in
theorem table_Table_Clear.ok {t : Option Addr} {w : World} {R : TR [] → World → Prop} (h : table_Table_Clear.wp t w R) : clS Tryz.prog F.table_Table_Clear [.pointer t] w true [] R :=
  ok_of Tryz_follows Tryz.func158 (fun R => table_Table_Clear.wp t w R) (table_Table_Clear.eq t w) rfl h
/-! ### elect_Elect_Issue -/
set_option maxRecDepth 100000 in
def elect_Elect_Issue.wp (e : Option Addr) (w : World) (R : TR [(true, [(.i .u16), (.i .u16)]), (false, [.b])] → World → Prop) : Prop :=
alK [.int .u16 0, .int .u16 0] T.elect_Mark w fun p1 w2 =>
clS Tryz.prog F.elect_Elect_Mine [.pointer e] w2 false [(false, [.b])] fun r3 w4 =>
brB (!r3.1.1) (
stN [.int .u16 0, .int .u16 0] p1 0 w4 fun w5 =>
ldN [(.i .u16), (.i .u16)] p1 0 w5 fun x6 =>
R ((x6.1, x6.2.1, ()), (false, ()), ()) w5) (
ncK e fun a7 =>
ld1 (.i .u16) (a7.add 4) w4 fun x8 =>
clS Tryz.prog F.wrap_Next [.int .u16 x8] w4 false [(false, [(.i .u16)])] fun r9 w10 =>
ncK e fun a11 =>
stN [.int .u16 r9.1.1] (a11.add 4) 0 w10 fun w12 =>
drK w12 fun w13 =>
ncK e fun a14 =>
ld1 (.i .u16) (a14.add 3) w13 fun x15 =>
ncK e fun a16 =>
ld1 (.i .u16) (a16.add 4) w13 fun x17 =>
stN [.int .u16 x15, .int .u16 x17] p1 0 w13 fun w18 =>
Hold [] w18 ∧ (
ldN [(.i .u16), (.i .u16)] p1 0 w18 fun x19 =>
R ((x19.1, x19.2.1, ()), (true, ()), ()) w18))
set_option maxRecDepth 100000 in
theorem elect_Elect_Issue.eq (e : Option Addr) (w : World) (R : Value → World → Prop) : wpF Tryz.prog Tryz.f159 (.s .n (.s .n (.s .n (.s (.pl (.tk 0 (.tk 1 (.tk 2 (.tk 3 (.tk 4 (.tk 5 (.tk 6 (.tk 7 (.tk 8 (.ef 9 [3, 7] (.tk 10 .z)))))))))))) .n)))) [.pointer e] w R = elect_Elect_Issue.wp e w (fun r w => R (encR true [(true, [(.i .u16), (.i .u16)]), (false, [.b])] r) w) := by kernel_rfl
set_option maxRecDepth 100000 in
theorem elect_Elect_Issue.ok {e : Option Addr} {w : World} {R : TR [(true, [(.i .u16), (.i .u16)]), (false, [.b])] → World → Prop} (h : elect_Elect_Issue.wp e w R) : clS Tryz.prog F.elect_Elect_Issue [.pointer e] w true [(true, [(.i .u16), (.i .u16)]), (false, [.b])] R :=
  ok_of Tryz_follows Tryz.func159 (fun R => elect_Elect_Issue.wp e w R) (elect_Elect_Issue.eq e w) rfl h
/-! ### octet_Pen_Num -/
set_option maxRecDepth 100000 in
def octet_Pen_Num.wp (p : Option Addr) (size : Int) (n : Int) (w : World) (R : TR [(false, [.p])] → World → Prop) : Prop :=
brB (Option.isNone p) (
R ((none, ()), ()) w) (
LoopT (fun (self1 : ((Int) × Unit) → World → Prop) (z2 : (Int) × Unit) w3 => ∀ _ : Nat → Value,
brB (decide (z2.1 ≥ 0)) (
drK w3 fun w4 =>
ncK p fun a5 =>
ld1 .sl a5 w4 fun x6 =>
shK (IntKind.wrap .i64 (8 * z2.1)) (
alK [.int .u8 (IntKind.wrap .u8 (shrX .u64 n (IntKind.wrap .i64 (8 * z2.1))))] T.uint8 w4 fun p7 w8 =>
Hold [(4, a5, (w4.cell? a5).getD undef)] w8 ∧ (
slOf ((Builtin.append_ #[T.sl_uint8, T.sl_uint8] T.sl_uint8 #[.slice x6.1 x6.2.1 x6.2.2, .slice (some p7) 1 1]).run Tryz.prog w8) fun y9 w10 =>
Hold [] w10 ∧ (
ncK p fun a11 =>
stN [.slice y9.1 y9.2.1 y9.2.2] a11 0 w10 fun w12 =>
Hold [] w12 ∧ (
self1 (IntKind.wrap .i64 (z2.1 - 1), ()) w12))))) (
R ((p, ()), ()) w3)) (IntKind.wrap .i64 ((if 8 < (if 0 > size then 0 else size) then 8 else (if 0 > size then 0 else size)) - 1), ()) w)
set_option maxRecDepth 100000 in
theorem octet_Pen_Num.eq (p : Option Addr) (size : Int) (n : Int) (w : World) (R : Value → World → Prop) : wpF Tryz.prog Tryz.f160 (.s .n (.s .n (.s (.s .n (.lp [(7, (.i .i64))] (.s .n (.s (.pl (.tk 0 (.tk 1 (.tk 2 (.tk 3 (.tk 4 (.tk 5 (.tk 6 (.tk 7 (.tk 8 (.tk 9 (.ef 10 [] (.ef 11 [4] (.tk 12 (.tk 13 (.ef 14 [] .z)))))))))))))))) .n)))) .n))) [.pointer p, .int .i64 size, .int .u64 n] w R = octet_Pen_Num.wp p size n w (fun r w => R (encR false [(false, [.p])] r) w) := by kernel_rfl
set_option maxRecDepth 100000 in
theorem octet_Pen_Num.ok {p : Option Addr} {size : Int} {n : Int} {w : World} {R : TR [(false, [.p])] → World → Prop} (h : octet_Pen_Num.wp p size n w R) : clS Tryz.prog F.octet_Pen_Num [.pointer p, .int .i64 size, .int .u64 n] w false [(false, [.p])] R :=
  ok_of Tryz_follows Tryz.func160 (fun R => octet_Pen_Num.wp p size n w R) (octet_Pen_Num.eq p size n w) rfl h
/-! ### frame_kind_of_frame_Anchor -/
set_option maxRecDepth 100000 in
def frame_kind_of_frame_Anchor.wp (f0 : Int) (f1 : Int) (f2 : Int) (f3 : Int) (f4 : Int) (f5 : Int) (w : World) (R : TR [(false, [(.i .u8)])] → World → Prop) : Prop :=
R ((6, ()), ()) w
set_option maxRecDepth 100000 in
theorem frame_kind_of_frame_Anchor.eq (f0 : Int) (f1 : Int) (f2 : Int) (f3 : Int) (f4 : Int) (f5 : Int) (w : World) (R : Value → World → Prop) : wpF Tryz.prog Tryz.f161 .n [.iface T.frame_Anchor (.agg #[.int .i64 f0, .int .u16 f1, .int .i64 f2, .int .u16 f3, .int .i64 f4, .int .i64 f5])] w R = frame_kind_of_frame_Anchor.wp f0 f1 f2 f3 f4 f5 w (fun r w => R (encR false [(false, [(.i .u8)])] r) w) := by kernel_rfl
set_option maxRecDepth 100000 in
theorem frame_kind_of_frame_Anchor.ok {f0 : Int} {f1 : Int} {f2 : Int} {f3 : Int} {f4 : Int} {f5 : Int} {w : World} {R : TR [(false, [(.i .u8)])] → World → Prop} (h : frame_kind_of_frame_Anchor.wp f0 f1 f2 f3 f4 f5 w R) : clS Tryz.prog F.frame_kind [.iface T.frame_Anchor (.agg #[.int .i64 f0, .int .u16 f1, .int .i64 f2, .int .u16 f3, .int .i64 f4, .int .i64 f5])] w false [(false, [(.i .u8)])] R :=
  ok_of Tryz_follows Tryz.func161 (fun R => frame_kind_of_frame_Anchor.wp f0 f1 f2 f3 f4 f5 w R) (frame_kind_of_frame_Anchor.eq f0 f1 f2 f3 f4 f5 w) rfl h
/-! ### frame_kind_of_frame_Sync -/
set_option maxRecDepth 100000 in
def frame_kind_of_frame_Sync.wp (f0 : Int) (f1 : Int) (f2 : Int) (f3 : Int) (f4 : Int) (f5 : Int) (w : World) (R : TR [(false, [(.i .u8)])] → World → Prop) : Prop :=
R ((1, ()), ()) w
set_option maxRecDepth 100000 in
theorem frame_kind_of_frame_Sync.eq (f0 : Int) (f1 : Int) (f2 : Int) (f3 : Int) (f4 : Int) (f5 : Int) (w : World) (R : Value → World → Prop) : wpF Tryz.prog Tryz.f161 .n [.iface T.frame_Sync (.agg #[.int .i64 f0, .int .i64 f1, .int .u16 f2, .int .u16 f3, .int .i64 f4, .int .i64 f5])] w R = frame_kind_of_frame_Sync.wp f0 f1 f2 f3 f4 f5 w (fun r w => R (encR false [(false, [(.i .u8)])] r) w) := by kernel_rfl
set_option maxRecDepth 100000 in
theorem frame_kind_of_frame_Sync.ok {f0 : Int} {f1 : Int} {f2 : Int} {f3 : Int} {f4 : Int} {f5 : Int} {w : World} {R : TR [(false, [(.i .u8)])] → World → Prop} (h : frame_kind_of_frame_Sync.wp f0 f1 f2 f3 f4 f5 w R) : clS Tryz.prog F.frame_kind [.iface T.frame_Sync (.agg #[.int .i64 f0, .int .i64 f1, .int .u16 f2, .int .u16 f3, .int .i64 f4, .int .i64 f5])] w false [(false, [(.i .u8)])] R :=
  ok_of Tryz_follows Tryz.func161 (fun R => frame_kind_of_frame_Sync.wp f0 f1 f2 f3 f4 f5 w R) (frame_kind_of_frame_Sync.eq f0 f1 f2 f3 f4 f5 w) rfl h
/-! ### frame_kind_of_frame_Want -/
set_option maxRecDepth 100000 in
def frame_kind_of_frame_Want.wp (f0 : Int) (w : World) (R : TR [(false, [(.i .u8)])] → World → Prop) : Prop :=
R ((3, ()), ()) w
set_option maxRecDepth 100000 in
theorem frame_kind_of_frame_Want.eq (f0 : Int) (w : World) (R : Value → World → Prop) : wpF Tryz.prog Tryz.f161 .n [.iface T.frame_Want (.agg #[.int .i64 f0])] w R = frame_kind_of_frame_Want.wp f0 w (fun r w => R (encR false [(false, [(.i .u8)])] r) w) := by kernel_rfl
set_option maxRecDepth 100000 in
theorem frame_kind_of_frame_Want.ok {f0 : Int} {w : World} {R : TR [(false, [(.i .u8)])] → World → Prop} (h : frame_kind_of_frame_Want.wp f0 w R) : clS Tryz.prog F.frame_kind [.iface T.frame_Want (.agg #[.int .i64 f0])] w false [(false, [(.i .u8)])] R :=
  ok_of Tryz_follows Tryz.func161 (fun R => frame_kind_of_frame_Want.wp f0 w R) (frame_kind_of_frame_Want.eq f0 w) rfl h
/-! ### crc_Seal -/
set_option maxRecDepth 100000 in
def crc_Seal.wp (b : Option Addr × Nat × Nat) (w : World) (R : TR [(false, [.sl])] → World → Prop) : Prop :=
clS Tryz.prog F.crc_Sum [.slice b.1 b.2.1 b.2.2] w false [(false, [(.i .u16)])] fun r1 w2 =>
slOf ((Instr.makeSlice T.sl_uint8 (.int .i64 0) (.int .i64 (IntKind.wrap .i64 ((b.2.1 : Int) + 2)))).run Tryz.prog w2) fun y3 w4 =>
slOf ((Builtin.append_ #[T.sl_uint8, T.sl_uint8] T.sl_uint8 #[.slice y3.1 y3.2.1 y3.2.2, .slice b.1 b.2.1 b.2.2]).run Tryz.prog w4) fun y5 w6 =>
shK 8 (
alK [.int .u8 (IntKind.wrap .u8 (shrX .u16 r1.1.1 8)), .int .u8 (IntKind.wrap .u8 r1.1.1)] T.uint8 w6 fun p7 w8 =>
slOf ((Builtin.append_ #[T.sl_uint8, T.sl_uint8] T.sl_uint8 #[.slice y5.1 y5.2.1 y5.2.2, .slice (some p7) 2 2]).run Tryz.prog w8) fun y9 w10 =>
R (((y9.1, y9.2.1, y9.2.2), ()), ()) w10)
set_option maxRecDepth 100000 in
theorem crc_Seal.eq (b : Option Addr × Nat × Nat) (w : World) (R : Value → World → Prop) : wpF Tryz.prog Tryz.f162 .n [.slice b.1 b.2.1 b.2.2] w R = crc_Seal.wp b w (fun r w => R (encR false [(false, [.sl])] r) w) := by kernel_rfl
set_option maxRecDepth 100000 in
theorem crc_Seal.ok {b : Option Addr × Nat × Nat} {w : World} {R : TR [(false, [.sl])] → World → Prop} (h : crc_Seal.wp b w R) : clS Tryz.prog F.crc_Seal [.slice b.1 b.2.1 b.2.2] w false [(false, [.sl])] R :=
  ok_of Tryz_follows Tryz.func162 (fun R => crc_Seal.wp b w R) (crc_Seal.eq b w) rfl h
/-! ### octet_Pen_Bytes -/
set_option maxRecDepth 100000 in
def octet_Pen_Bytes.wp (p : Option Addr) (w : World) (R : TR [(false, [.sl])] → World → Prop) : Prop :=
brB (Option.isNone p) (
R (((none, 0, 0), ()), ()) w) (
ncK p fun a1 =>
ld1 .sl a1 w fun x2 =>
slOf ((Builtin.append_ #[T.sl_uint8, T.sl_uint8] T.sl_uint8 #[.slice none 0 0, .slice x2.1 x2.2.1 x2.2.2]).run Tryz.prog w) fun y3 w4 =>
R (((y3.1, y3.2.1, y3.2.2), ()), ()) w4)
set_option maxRecDepth 100000 in
theorem octet_Pen_Bytes.eq (p : Option Addr) (w : World) (R : Value → World → Prop) : wpF Tryz.prog Tryz.f163 .n [.pointer p] w R = octet_Pen_Bytes.wp p w (fun r w => R (encR false [(false, [.sl])] r) w) := by kernel_rfl
set_option maxRecDepth 100000 in
theorem octet_Pen_Bytes.ok {p : Option Addr} {w : World} {R : TR [(false, [.sl])] → World → Prop} (h : octet_Pen_Bytes.wp p w R) : clS Tryz.prog F.octet_Pen_Bytes [.pointer p] w false [(false, [.sl])] R :=
  ok_of Tryz_follows Tryz.func163 (fun R => octet_Pen_Bytes.wp p w R) (octet_Pen_Bytes.eq p w) rfl h
/-! ### ref15_New -/
set_option maxRecDepth 100000 in
def ref15_New.wp (me : Int) (timeout : Int) (ignore : Int) (boot : Int) (w : World) (R : TR [(false, [.p])] → World → Prop) : Prop :=
alK [.int .i64 me, .int .i64 timeout, .int .i64 ignore, .int .u16 boot, .int .u16 0, .int .i64 (Int.negSucc 0), .int .i64 0, .int .i64 0, .bool false, .bool false, .bool false, .bool false, .bool false, .bool false, .bool false, .bool false, .bool false, .bool false, .bool false, .bool false, .bool false, .bool false, .bool false, .bool false, .bool false, .bool false, .bool false, .bool false, .bool false, .bool false, .bool false, .bool false, .bool false, .bool false, .bool false, .bool false, .bool false, .bool false, .bool false, .bool false, .bool false, .bool false, .bool false, .bool false, .bool false, .bool false, .bool false, .bool false, .bool false, .bool false, .bool false, .bool false, .bool false, .bool false, .bool false, .bool false, .bool false, .bool false, .bool false, .bool false, .bool false, .bool false, .bool false, .bool false, .bool false, .bool false, .bool false, .bool false, .bool false, .bool false, .bool false, .bool false, .int .u16 0, .int .u16 0, .int .u16 0, .int .u16 0, .int .u16 0, .int .u16 0, .int .u16 0, .int .u16 0, .int .u16 0, .int .u16 0, .int .u16 0, .int .u16 0, .int .u16 0, .int .u16 0, .int .u16 0, .int .u16 0, .int .u16 0, .int .u16 0, .int .u16 0, .int .u16 0, .int .u16 0, .int .u16 0, .int .u16 0, .int .u16 0, .int .u16 0, .int .u16 0, .int .u16 0, .int .u16 0, .int .u16 0, .int .u16 0, .int .u16 0, .int .u16 0, .int .u16 0, .int .u16 0, .int .u16 0, .int .u16 0, .int .u16 0, .int .u16 0, .int .u16 0, .int .u16 0, .int .u16 0, .int .u16 0, .int .u16 0, .int .u16 0, .int .u16 0, .int .u16 0, .int .u16 0, .int .u16 0, .int .u16 0, .int .u16 0, .int .u16 0, .int .u16 0, .int .u16 0, .int .u16 0, .int .u16 0, .int .u16 0, .int .u16 0, .int .u16 0, .int .u16 0, .int .u16 0, .int .u16 0, .int .u16 0, .int .u16 0, .int .u16 0, .int .u16 0, .int .u16 0, .int .u16 0, .int .u16 0, .int .u16 0, .int .u16 0, .int .u16 0, .int .u16 0, .int .u16 0, .int .u16 0, .int .u16 0, .int .u16 0, .int .u16 0, .int .u16 0, .int .u16 0, .int .u16 0, .int .u16 0, .int .u16 0, .int .u16 0, .int .u16 0, .int .u16 0, .int .u16 0, .int .u16 0, .int .u16 0, .int .u16 0, .int .u16 0, .int .u16 0, .int .u16 0, .int .u16 0, .int .u16 0, .int .u16 0, .int .u16 0, .int .u16 0, .int .u16 0, .int .u16 0, .int .u16 0, .int .u16 0, .int .u16 0, .int .u16 0, .int .u16 0, .int .u16 0, .int .u16 0, .int .u16 0, .int .u16 0, .int .u16 0, .int .u16 0, .int .u16 0, .int .u16 0, .int .u16 0, .int .u16 0, .int .u16 0, .int .u16 0, .int .u16 0, .int .u16 0, .int .u16 0, .int .u16 0, .int .u16 0, .int .u16 0, .int .u16 0, .int .u16 0, .int .u16 0, .int .u16 0, .int .u16 0, .int .u16 0] T.ref15_Elect w fun p1 w2 =>
R ((some p1, ()), ()) w2
set_option maxRecDepth 100000 in
theorem ref15_New.eq (me : Int) (timeout : Int) (ignore : Int) (boot : Int) (w : World) (R : Value → World → Prop) : wpF Tryz.prog Tryz.f164 .n [.int .i64 me, .int .i64 timeout, .int .i64 ignore, .int .u16 boot] w R = ref15_New.wp me timeout ignore boot w (fun r w => R (encR false [(false, [.p])] r) w) := by kernel_rfl
set_option maxRecDepth 100000 in
theorem ref15_New.ok {me : Int} {timeout : Int} {ignore : Int} {boot : Int} {w : World} {R : TR [(false, [.p])] → World → Prop} (h : ref15_New.wp me timeout ignore boot w R) : clS Tryz.prog F.ref15_New [.int .i64 me, .int .i64 timeout, .int .i64 ignore, .int .u16 boot] w false [(false, [.p])] R :=
  ok_of Tryz_follows Tryz.func164 (fun R => ref15_New.wp me timeout ignore boot w R) (ref15_New.eq me timeout ignore boot w) rfl h
/-! ### ref15_Elect_Beat -/
set_option maxRecDepth 100000 in
def ref15_Elect_Beat.wp (e : Option Addr) (w : World) (R : TR [(false, [.b])] → World → Prop) : Prop :=
drK w fun w1 =>
ncK e fun a2 =>
ld1 (.i .i64) (a2.add 5) w1 fun x3 =>
ncK e fun a4 =>
ld1 (.i .i64) a4 w1 fun x5 =>
brB (x3 == x5) (
ncK e fun a6 =>
ld1 (.i .i64) (a6.add 7) w1 fun x7 =>
brB (decide (x7 > 0)) (
ncK e fun a8 =>
ld1 (.i .i64) (a8.add 7) w1 fun x9 =>
ncK e fun a10 =>
stN [.int .i64 (IntKind.wrap .i64 (x9 - 1))] (a10.add 7) 0 w1 fun w11 =>
R ((false, ()), ()) w11) (
R ((false, ()), ()) w1)) (
ncK e fun a12 =>
ld1 (.i .i64) (a12.add 6) w1 fun x13 =>
ncK e fun a14 =>
stN [.int .i64 (IntKind.wrap .i64 (x13 + 1))] (a14.add 6) 0 w1 fun w15 =>
drK w15 fun w16 =>
ncK e fun a17 =>
ld1 (.i .i64) (a17.add 6) w16 fun x18 =>
ncK e fun a19 =>
ld1 (.i .i64) (a19.add 1) w16 fun x20 =>
brB (decide (x18 < x20)) (
R ((false, ()), ()) w16) (
ncK e fun a21 =>
ld1 (.i .i64) a21 w16 fun x22 =>
ncK e fun a23 =>
stN [.int .i64 x22] (a23.add 5) 0 w16 fun w24 =>
ncK e fun a25 =>
stN [.int .i64 0] (a25.add 6) 0 w24 fun w26 =>
ncK e fun a27 =>
ld1 (.i .i64) (a27.add 2) w26 fun x28 =>
ncK e fun a29 =>
stN [.int .i64 x28] (a29.add 7) 0 w26 fun w30 =>
R ((true, ()), ()) w30))
set_option maxRecDepth 100000 in
theorem ref15_Elect_Beat.eq (e : Option Addr) (w : World) (R : Value → World → Prop) : wpF Tryz.prog Tryz.f165 (.s .n (.s (.s (.pl (.tk 0 (.tk 1 (.tk 2 (.tk 3 (.tk 4 (.tk 5 (.tk 6 (.tk 7 (.tk 8 .z)))))))))) .n) (.s .n (.s (.s (.pl (.tk 0 (.tk 1 (.tk 2 (.tk 3 (.tk 4 (.tk 5 (.tk 6 (.tk 7 (.tk 8 .z)))))))))) .n) .n)))) [.pointer e] w R = ref15_Elect_Beat.wp e w (fun r w => R (encR false [(false, [.b])] r) w) := by kernel_rfl
set_option maxRecDepth 100000 in
theorem ref15_Elect_Beat.ok {e : Option Addr} {w : World} {R : TR [(false, [.b])] → World → Prop} (h : ref15_Elect_Beat.wp e w R) : clS Tryz.prog F.ref15_Elect_Beat [.pointer e] w false [(false, [.b])] R :=
  ok_of Tryz_follows Tryz.func165 (fun R => ref15_Elect_Beat.wp e w R) (ref15_Elect_Beat.eq e w) rfl h
/-! ### ref16_Flood_forget -/
set_option maxRecDepth 100000 in
def ref16_Flood_forget.wp (f : Option Addr) (w : World) (R : TR [] → World → Prop) : Prop :=
ncK f fun a1 =>
stN [.slice none 0 0] (a1.add 3) 0 w fun w2 =>
ncK f fun a3 =>
stN [.int .i64 0] (a3.add 4) 0 w2 fun w4 =>
ncK f fun a5 =>
stN [.int .i64 0] (a5.add 5) 0 w4 fun w6 =>
ncK f fun a7 =>
stN [.int .i64 0] (a7.add 6) 0 w6 fun w8 =>
R (()) w8
set_option maxRecDepth 100000 in
theorem ref16_Flood_forget.eq (f : Option Addr) (w : World) (R : Value → World → Prop) : wpF Tryz.prog Tryz.f166 .n [.pointer f] w R = ref16_Flood_forget.wp f w (fun r w => R (encR true [] r) w) := by kernel_rfl
set_option maxRecDepth 100000 in
theorem ref16_Flood_forget.ok {f : Option Addr} {w : World} {R : TR [] → World → Prop} (h : ref16_Flood_forget.wp f w R) : clS Tryz.prog F.ref16_Flood_forget [.pointer f] w true [] R :=
  ok_of Tryz_follows Tryz.func166 (fun R => ref16_Flood_forget.wp f w R) (ref16_Flood_forget.eq f w) rfl h
/-! ### ref16_time -/
set_option maxRecDepth 100000 in
def ref16_time.wp (t : Int) (w : World) (R : TR [(false, [.b])] → World → Prop) : Prop :=
brB (decide (t ≥ 0)) (
R ((decide (t ≤ 1125899906842624), ()), ()) w) (
R ((false, ()), ()) w)
set_option maxRecDepth 100000 in
theorem ref16_time.eq (t : Int) (w : World) (R : Value → World → Prop) : wpF Tryz.prog Tryz.f167 .n [.int .i64 t] w R = ref16_time.wp t w (fun r w => R (encR false [(false, [.b])] r) w) := by kernel_rfl
set_option maxRecDepth 100000 in
theorem ref16_time.ok {t : Int} {w : World} {R : TR [(false, [.b])] → World → Prop} (h : ref16_time.wp t w R) : clS Tryz.prog F.ref16_time [.int .i64 t] w false [(false, [.b])] R :=
  ok_of Tryz_follows Tryz.func167 (fun R => ref16_time.wp t w R) (ref16_time.eq t w) rfl h
/-! ### ref16_Flood_Mine -/
set_option maxRecDepth 100000 in
def ref16_Flood_Mine.wp (f : Option Addr) (w : World) (R : TR [(false, [.b])] → World → Prop) : Prop :=
drK w fun w1 =>
ncK f fun a2 =>
ld1 .p a2 w1 fun x3 =>
ncK x3 fun a4 =>
ld1 (.i .i64) (a4.add 5) w1 fun x5 =>
ncK f fun a6 =>
ld1 .p a6 w1 fun x7 =>
ncK x7 fun a8 =>
ld1 (.i .i64) a8 w1 fun x9 =>
R (((x5 == x9), ()), ()) w1
set_option maxRecDepth 100000 in
theorem ref16_Flood_Mine.eq (f : Option Addr) (w : World) (R : Value → World → Prop) : wpF Tryz.prog Tryz.f168 (.s .n (.s (.pl (.tk 0 (.tk 1 (.tk 2 (.tk 3 (.tk 4 (.tk 5 (.tk 6 (.tk 7 (.tk 8 (.tk 9 (.tk 10 (.tk 11 (.tk 12 (.tk 13 (.tk 14 (.tk 15 .z))))))))))))))))) .n)) [.pointer f] w R = ref16_Flood_Mine.wp f w (fun r w => R (encR false [(false, [.b])] r) w) := by kernel_rfl
set_option maxRecDepth 100000 in
theorem ref16_Flood_Mine.ok {f : Option Addr} {w : World} {R : TR [(false, [.b])] → World → Prop} (h : ref16_Flood_Mine.wp f w R) : clS Tryz.prog F.ref16_Flood_Mine [.pointer f] w false [(false, [.b])] R :=
  ok_of Tryz_follows Tryz.func168 (fun R => ref16_Flood_Mine.wp f w R) (ref16_Flood_Mine.eq f w) rfl h
/-! ### ref02_Next -/
set_option maxRecDepth 100000 in
def ref02_Next.wp (a : Int) (w : World) (R : TR [(false, [(.i .u16)])] → World → Prop) : Prop :=
nzK 65536 (
R ((IntKind.wrap .u16 (Int.tmod (IntKind.wrap .i64 ((IntKind.wrap .i64 a) + 1)) 65536), ()), ()) w)
set_option maxRecDepth 100000 in
theorem ref02_Next.eq (a : Int) (w : World) (R : Value → World → Prop) : wpF Tryz.prog Tryz.f169 .n [.int .u16 a] w R = ref02_Next.wp a w (fun r w => R (encR false [(false, [(.i .u16)])] r) w) := by kernel_rfl
set_option maxRecDepth 100000 in
theorem ref02_Next.ok {a : Int} {w : World} {R : TR [(false, [(.i .u16)])] → World → Prop} (h : ref02_Next.wp a w R) : clS Tryz.prog F.ref02_Next [.int .u16 a] w false [(false, [(.i .u16)])] R :=
  ok_of Tryz_follows Tryz.func169 (fun R => ref02_Next.wp a w R) (ref02_Next.eq a w) rfl h
/-! ### ref15_Elect_Mark -/
set_option maxRecDepth 100000 in
def ref15_Elect_Mark.wp (e : Option Addr) (w : World) (R : TR [(false, [(.i .u16)]), (false, [(.i .u16)]), (false, [.b])] → World → Prop) : Prop :=
ncK e fun a1 =>
ld1 (.i .i64) (a1.add 5) w fun x2 =>
brB (decide (x2 < 0)) (
R ((0, ()), (0, ()), (false, ()), ()) w) (
drK w fun w3 =>
ncK e fun a4 =>
ld1 (.i .i64) (a4.add 5) w3 fun x5 =>
ncK e fun a6 =>
ld1 (.i .i64) a6 w3 fun x7 =>
brB (x5 == x7) (
drK w3 fun w8 =>
ncK e fun a9 =>
ld1 (.i .u16) (a9.add 3) w8 fun x10 =>
ncK e fun a11 =>
ld1 (.i .u16) (a11.add 4) w8 fun x12 =>
ncK e fun a13 =>
ld1 (.i .u16) (a13.add 4) w8 fun x14 =>
R ((x10, ()), (x12, ()), (decide (x14 > 0), ()), ()) w8) (
drK w3 fun w15 =>
ncK e fun a16 =>
ld1 (.i .i64) (a16.add 5) w15 fun x17 =>
ncK e fun a18 =>
ixK (some (a18.add 72)) 64 x17 fun a19 =>
ld1 (.i .u16) (a19.add (x17.toNat * 1)) w15 fun x20 =>
ncK e fun a21 =>
ld1 (.i .i64) (a21.add 5) w15 fun x22 =>
ncK e fun a23 =>
ixK (some (a23.add 136)) 64 x22 fun a24 =>
ld1 (.i .u16) (a24.add (x22.toNat * 1)) w15 fun x25 =>
R ((x20, ()), (x25, ()), (true, ()), ()) w15))
set_option maxRecDepth 100000 in
theorem ref15_Elect_Mark.eq (e : Option Addr) (w : World) (R : Value → World → Prop) : wpF Tryz.prog Tryz.f170 (.s .n (.s .n (.s (.s (.pl (.tk 0 (.tk 1 (.tk 2 (.tk 3 (.tk 4 (.tk 5 (.tk 6 (.tk 7 (.tk 8 .z)))))))))) (.s (.s (.pl (.tk 0 (.tk 1 (.tk 2 (.tk 3 (.tk 4 (.tk 5 (.tk 6 (.tk 7 (.tk 8 (.tk 9 (.tk 10 (.tk 11 (.tk 12 (.tk 13 (.tk 14 (.tk 15 .z))))))))))))))))) .n) .n)) (.s (.pl (.tk 0 (.tk 1 (.tk 2 (.tk 3 (.tk 4 (.tk 5 (.tk 6 (.tk 7 (.tk 8 (.tk 9 (.tk 10 (.tk 11 (.tk 12 (.tk 13 (.tk 14 (.tk 15 (.tk 16 (.tk 17 (.tk 18 (.tk 19 (.tk 20 .z)))))))))))))))))))))) .n)))) [.pointer e] w R = ref15_Elect_Mark.wp e w (fun r w => R (encR true [(false, [(.i .u16)]), (false, [(.i .u16)]), (false, [.b])] r) w) := by kernel_rfl
set_option maxRecDepth 100000 in
theorem ref15_Elect_Mark.ok {e : Option Addr} {w : World} {R : TR [(false, [(.i .u16)]), (false, [(.i .u16)]), (false, [.b])] → World → Prop} (h : ref15_Elect_Mark.wp e w R) : clS Tryz.prog F.ref15_Elect_Mark [.pointer e] w true [(false, [(.i .u16)]), (false, [(.i .u16)]), (false, [.b])] R :=
  ok_of Tryz_follows Tryz.func170 (fun R => ref15_Elect_Mark.wp e w R) (ref15_Elect_Mark.eq e w) rfl h
/-! ### ref16_Flood_Hear -/
set_option maxRecDepth 100000 in
def ref16_Flood_Hear.wp (f : Option Addr) (p0 : Int) (p1 : Int) (p2 : Int) (p3 : Int) (p4 : Int) (p5 : Int) (p6 : Int) (p7 : Int) (p8 : Int) (p9 : Int) (p10 : Int) (p11 : Int) (p12 : Int) (p13 : Int) (local_ : Int) (w : World) (R : TR [(false, [(.i .i64)])] → World → Prop) : Prop :=
alK [.int .i64 p0, .int .i64 p1, .int .i64 p2, .int .i64 p3, .int .u16 p4, .int .u16 p5, .int .i64 p6, .int .i64 p7, .int .i64 p8, .int .i64 p9, .int .i64 p10, .int .i64 p11, .int .i64 p12, .int .i64 p13] T.ref05_Plain w fun p14 w15 =>
ld1 (.i .i64) (p14.add 6) w15 fun x16 =>
brB (decide (x16 < 0)) (
R ((0, ()), ()) w15) (
ld1 (.i .i64) (p14.add 6) w15 fun x17 =>
brB (decide (x17 > 62)) (
R ((0, ()), ()) w15) (
clS Tryz.prog F.ref16_time [.int .i64 local_] w15 false [(false, [.b])] fun r18 w19 =>
brB (!r18.1.1) (
R ((0, ()), ()) w19) (
ld1 (.i .i64) (p14.add 7) w19 fun x20 =>
clS Tryz.prog F.ref16_time [.int .i64 x20] w19 false [(false, [.b])] fun r21 w22 =>
brB (!r21.1.1) (
R ((0, ()), ()) w22) (
drK w22 fun w23 =>
ncK f fun a24 =>
ld1 .p a24 w23 fun x25 =>
ld1 (.i .i64) (p14.add 3) w23 fun x26 =>
ld1 (.i .u16) (p14.add 4) w23 fun x27 =>
ld1 (.i .u16) (p14.add 5) w23 fun x28 =>
clS Tryz.prog F.ref15_Elect_Hear [.pointer x25, .int .i64 x26, .int .u16 x27, .int .u16 x28] w23 false [(false, [(.i .i64)])] fun r29 w30 =>
Hold [] w30 ∧ (
brB (r29.1.1 == 0) (
R ((0, ()), ()) w30) (
CutT (fun (J31 : Unit → World → Prop) =>
brB (r29.1.1 == 2) (
clS Tryz.prog F.ref16_Flood_forget [.pointer f] w30 true [] fun r34 w35 =>
J31 (()) w35) (
J31 (()) w30)) (fun (z32 : Unit) w33 => ∀ _ : Nat → Value,
ld1 (.i .i64) (p14.add 7) w33 fun x36 =>
ld1 (.i .i64) (p14.add 6) w33 fun x37 =>
alK [.int .i64 0, .int .i64 0, .int .i64 0] T.ref12_Entry w33 fun p38 w39 =>
stN [.int .i64 local_, .int .i64 (IntKind.wrap .i64 (x36 - local_)), .int .i64 (IntKind.wrap .i64 (x37 + 1))] p38 0 w39 fun w40 =>
drK w40 fun w41 =>
ncK f fun a42 =>
ld1 .sl (a42.add 3) w41 fun x43 =>
ldN [(.i .i64), (.i .i64), (.i .i64)] p38 0 w41 fun x44 =>
clS Tryz.prog F.ref12_Add [.slice x43.1 x43.2.1 x43.2.2, .agg #[.int .i64 x44.1, .int .i64 x44.2.1, .int .i64 x44.2.2.1]] w41 true [(false, [.sl]), (false, [(.i .i64)])] fun r45 w46 =>
Hold [] w46 ∧ (
CutT (fun (J47 : ((Option Addr × Nat × Nat) × Unit) → World → Prop) =>
brB (r45.2.1.1 != 0) (
ldN [(.i .i64), (.i .i64), (.i .i64)] p38 0 w46 fun x50 =>
clS Tryz.prog F.ref12_Add [.slice none 0 0, .agg #[.int .i64 x50.1, .int .i64 x50.2.1, .int .i64 x50.2.2.1]] w46 true [(false, [.sl]), (false, [(.i .i64)])] fun r51 w52 =>
J47 ((r51.1.1.1, r51.1.1.2.1, r51.1.1.2.2), ()) w52) (
J47 ((r45.1.1.1, r45.1.1.2.1, r45.1.1.2.2), ()) w46)) (fun (z48 : (Option Addr × Nat × Nat) × Unit) w49 => ∀ _ : Nat → Value,
ncK f fun a53 =>
stN [.slice z48.1.1 z48.1.2.1 z48.1.2.2] (a53.add 3) 0 w49 fun w54 =>
ncK f fun a55 =>
stN [.int .i64 local_] (a55.add 4) 0 w54 fun w56 =>
ld1 (.i .i64) (p14.add 7) w56 fun x57 =>
ncK f fun a58 =>
stN [.int .i64 x57] (a58.add 5) 0 w56 fun w59 =>
ld1 (.i .i64) (p14.add 6) w59 fun x60 =>
ncK f fun a61 =>
stN [.int .i64 (IntKind.wrap .i64 (x60 + 1))] (a61.add 6) 0 w59 fun w62 =>
R ((r29.1.1, ()), ()) w62)))))))))
set_option maxRecDepth 100000 in
theorem ref16_Flood_Hear.eq (f : Option Addr) (p0 : Int) (p1 : Int) (p2 : Int) (p3 : Int) (p4 : Int) (p5 : Int) (p6 : Int) (p7 : Int) (p8 : Int) (p9 : Int) (p10 : Int) (p11 : Int) (p12 : Int) (p13 : Int) (local_ : Int) (w : World) (R : Value → World → Prop) : wpF Tryz.prog Tryz.f172 (.s .n (.s .n (.s (.pl (.tk 0 (.tk 1 (.tk 2 (.tk 3 (.tk 4 (.tk 5 (.tk 6 (.tk 7 (.tk 8 (.tk 9 (.ef 10 [3, 5, 7, 9] (.tk 11 .z))))))))))))) (.s .n (.ct [] .n (.s .n (.s (.pl (.tk 0 (.tk 1 (.tk 2 (.tk 3 (.tk 4 (.ef 5 [3, 4] (.tk 6 (.tk 7 (.tk 8 (.tk 9 (.tk 10 .z)))))))))))) (.ct [(9, .sl)] .n .n)))))))) [.pointer f, .agg #[.int .i64 p0, .int .i64 p1, .int .i64 p2, .int .i64 p3, .int .u16 p4, .int .u16 p5, .int .i64 p6, .int .i64 p7, .int .i64 p8, .int .i64 p9, .int .i64 p10, .int .i64 p11, .int .i64 p12, .int .i64 p13], .int .i64 local_] w R = ref16_Flood_Hear.wp f p0 p1 p2 p3 p4 p5 p6 p7 p8 p9 p10 p11 p12 p13 local_ w (fun r w => R (encR false [(false, [(.i .i64)])] r) w) := by kernel_rfl
set_option maxRecDepth 100000 in
theorem ref16_Flood_Hear.ok {f : Option Addr} {p0 : Int} {p1 : Int} {p2 : Int} {p3 : Int} {p4 : Int} {p5 : Int} {p6 : Int} {p7 : Int} {p8 : Int} {p9 : Int} {p10 : Int} {p11 : Int} {p12 : Int} {p13 : Int} {local_ : Int} {w : World} {R : TR [(false, [(.i .i64)])] → World → Prop} (h : ref16_Flood_Hear.wp f p0 p1 p2 p3 p4 p5 p6 p7 p8 p9 p10 p11 p12 p13 local_ w R) : clS Tryz.prog F.ref16_Flood_Hear [.pointer f, .agg #[.int .i64 p0, .int .i64 p1, .int .i64 p2, .int .i64 p3, .int .u16 p4, .int .u16 p5, .int .i64 p6, .int .i64 p7, .int .i64 p8, .int .i64 p9, .int .i64 p10, .int .i64 p11, .int .i64 p12, .int .i64 p13], .int .i64 local_] w false [(false, [(.i .i64)])] R :=
  ok_of Tryz_follows Tryz.func172 (fun R => ref16_Flood_Hear.wp f p0 p1 p2 p3 p4 p5 p6 p7 p8 p9 p10 p11 p12 p13 local_ w R) (ref16_Flood_Hear.eq f p0 p1 p2 p3 p4 p5 p6 p7 p8 p9 p10 p11 p12 p13 local_ w) rfl h
/-! ### crc_Sum -/
set_option maxRecDepth 100000 in
def crc_Sum.wp (b : Option Addr × Nat × Nat) (w : World) (R : TR [(false, [(.i .u16)])] → World → Prop) : Prop :=
clS Tryz.prog F.crc_Goes [.int .u16 65535, .slice b.1 b.2.1 b.2.2] w false [(false, [(.i .u16)])] fun r1 w2 =>
R ((r1.1.1, ()), ()) w2
set_option maxRecDepth 100000 in
theorem crc_Sum.eq (b : Option Addr × Nat × Nat) (w : World) (R : Value → World → Prop) : wpF Tryz.prog Tryz.f180 .n [.slice b.1 b.2.1 b.2.2] w R = crc_Sum.wp b w (fun r w => R (encR false [(false, [(.i .u16)])] r) w) := by kernel_rfl
set_option maxRecDepth 100000 in
theorem crc_Sum.ok {b : Option Addr × Nat × Nat} {w : World} {R : TR [(false, [(.i .u16)])] → World → Prop} (h : crc_Sum.wp b w R) : clS Tryz.prog F.crc_Sum [.slice b.1 b.2.1 b.2.2] w false [(false, [(.i .u16)])] R :=
  ok_of Tryz_follows Tryz.func180 (fun R => crc_Sum.wp b w R) (crc_Sum.eq b w) rfl h
/-! ### elect_Elect_Hear -/
set_option maxRecDepth 100000 in
def elect_Elect_Hear.wp (e : Option Addr) (root : Int) (m0 : Int) (m1 : Int) (w : World) (R : TR [(false, [(.i .i64)])] → World → Prop) : Prop :=
alK [.int .u16 m0, .int .u16 m1] T.elect_Mark w fun p1 w2 =>
brB (Option.isNone e) (
R ((0, ()), ()) w2) (
clS Tryz.prog F.elect_Elect_may [.pointer e, .int .i64 root] w2 false [(false, [.b])] fun r3 w4 =>
brB (!r3.1.1) (
R ((0, ()), ()) w4) (
ncK e fun a5 =>
ld1 .m (a5.add 8) w4 fun x6 =>
lkO Tryz.prog T.map_int_elect_Mark (.map x6) (.int .i64 root) w4 true [(.i .u16), (.i .u16)] fun x7 b8 =>
alK [.int .u16 0, .int .u16 0] T.elect_Mark w4 fun p9 w10 =>
stN [.int .u16 x7.1, .int .u16 x7.2.1] p9 0 w10 fun w11 =>
CutT (fun (J12 : Unit → World → Prop) =>
brB b8 (
ldN [(.i .u16), (.i .u16)] p1 0 w11 fun x15 =>
ldN [(.i .u16), (.i .u16)] p9 0 w11 fun x16 =>
clS Tryz.prog F.elect_Mark_newer [.agg #[.int .u16 x15.1, .int .u16 x15.2.1], .agg #[.int .u16 x16.1, .int .u16 x16.2.1]] w11 false [(false, [.b])] fun r17 w18 =>
brB (!r17.1.1) (
R ((0, ()), ()) w18) (
J12 (()) w18)) (
J12 (()) w11)) (fun (z13 : Unit) w14 => ∀ _ : Nat → Value,
CutT (fun (J19 : ((Bool) × Unit) → World → Prop) =>
ncK e fun a22 =>
ld1 (.i .i64) (a22.add 5) w14 fun x23 =>
brB (x23 != root) (
J19 (true, ()) w14) (
ld1 (.i .u16) p9 w14 fun x24 =>
ld1 (.i .u16) p1 w14 fun x25 =>
J19 ((x24 != x25), ()) w14)) (fun (z20 : (Bool) × Unit) w21 => ∀ _ : Nat → Value,
drK w21 fun w26 =>
ncK e fun a27 =>
ld1 .m (a27.add 8) w26 fun x28 =>
ldN [(.i .u16), (.i .u16)] p1 0 w26 fun x29 =>
muK Tryz.prog T.map_int_elect_Mark (.map x28) (.int .i64 root) (.agg #[.int .u16 x29.1, .int .u16 x29.2.1]) w26 fun w30 =>
Hold [] w30 ∧ (
ncK e fun a31 =>
stN [.int .i64 root] (a31.add 5) 0 w30 fun w32 =>
ncK e fun a33 =>
stN [.int .i64 0] (a33.add 6) 0 w32 fun w34 =>
ncK e fun a35 =>
stN [.int .i64 0] (a35.add 7) 0 w34 fun w36 =>
brB z20.1 (
R ((2, ()), ()) w36) (
R ((1, ()), ()) w36))))))
set_option maxRecDepth 100000 in
theorem elect_Elect_Hear.eq (e : Option Addr) (root : Int) (m0 : Int) (m1 : Int) (w : World) (R : Value → World → Prop) : wpF Tryz.prog Tryz.f183 (.s .n (.s .n (.s .n (.ct [] .n (.ct [(9, .b)] .n (.s (.pl (.tk 0 (.tk 1 (.tk 2 (.tk 3 (.tk 4 (.tk 5 (.ef 6 [3, 5] .z)))))))) .n)))))) [.pointer e, .int .i64 root, .agg #[.int .u16 m0, .int .u16 m1]] w R = elect_Elect_Hear.wp e root m0 m1 w (fun r w => R (encR false [(false, [(.i .i64)])] r) w) := by kernel_rfl
set_option maxRecDepth 100000 in
theorem elect_Elect_Hear.ok {e : Option Addr} {root : Int} {m0 : Int} {m1 : Int} {w : World} {R : TR [(false, [(.i .i64)])] → World → Prop} (h : elect_Elect_Hear.wp e root m0 m1 w R) : clS Tryz.prog F.elect_Elect_Hear [.pointer e, .int .i64 root, .agg #[.int .u16 m0, .int .u16 m1]] w false [(false, [(.i .i64)])] R :=
  ok_of Tryz_follows Tryz.func183 (fun R => elect_Elect_Hear.wp e root m0 m1 w R) (elect_Elect_Hear.eq e root m0 m1 w) rfl h
/-! ### table_Table_Add -/
set_option maxRecDepth 100000 in
def table_Table_Add.wp (t : Option Addr) (e0 : Int) (e1 : Int) (e2 : Int) (w : World) (R : TR [(false, [(.i .i64)])] → World → Prop) : Prop :=
alK [.int .i64 e0, .int .i64 e1, .int .i64 e2] T.table_Entry w fun p1 w2 =>
CutT (fun (J3 : Unit → World → Prop) =>
clS Tryz.prog F.table_Table_Last [.pointer t] w2 true [(true, [(.i .i64), (.i .i64), (.i .i64)]), (false, [.b])] fun r6 w7 =>
alK [.int .i64 0, .int .i64 0, .int .i64 0] T.table_Entry w7 fun p8 w9 =>
stN [.int .i64 r6.1.1, .int .i64 r6.1.2.1, .int .i64 r6.1.2.2.1] p8 0 w9 fun w10 =>
brB (Option.isNone t) (
R ((2, ()), ()) w10) (
ldN [(.i .i64), (.i .i64), (.i .i64)] p1 0 w10 fun x11 =>
clS Tryz.prog F.table_Entry_Good [.agg #[.int .i64 x11.1, .int .i64 x11.2.1, .int .i64 x11.2.2.1]] w10 false [(false, [.b])] fun r12 w13 =>
brB (!r12.1.1) (
R ((1, ()), ()) w13) (
brB r6.2.1.1 (
ld1 (.i .i64) p1 w13 fun x14 =>
ld1 (.i .i64) p8 w13 fun x15 =>
brB (decide (x14 ≤ x15)) (
R ((12, ()), ()) w13) (
J3 (()) w13)) (
J3 (()) w13)))) (fun (z4 : Unit) w5 => ∀ _ : Nat → Value,
drK w5 fun w16 =>
ncK t fun a17 =>
ld1 .sl a17 w16 fun x18 =>
ldN [(.i .i64), (.i .i64), (.i .i64)] p1 0 w16 fun x19 =>
alK [.int .i64 x19.1, .int .i64 x19.2.1, .int .i64 x19.2.2.1] T.table_Entry w16 fun p20 w21 =>
Hold [(5, (p1.add 0), (w16.cell? (p1.add 0)).getD undef), (5, (p1.add 1), (w16.cell? (p1.add 1)).getD undef), (5, (p1.add 2), (w16.cell? (p1.add 2)).getD undef), (4, a17, (w16.cell? a17).getD undef)] w21 ∧ (
slOf ((Builtin.append_ #[T.sl_table_Entry, T.sl_table_Entry] T.sl_table_Entry #[.slice x18.1 x18.2.1 x18.2.2, .slice (some p20) 1 1]).run Tryz.prog w21) fun y22 w23 =>
Hold [(5, (p1.add 0), (w16.cell? (p1.add 0)).getD undef), (5, (p1.add 1), (w16.cell? (p1.add 1)).getD undef), (5, (p1.add 2), (w16.cell? (p1.add 2)).getD undef)] w23 ∧ (
ncK t fun a24 =>
stN [.slice y22.1 y22.2.1 y22.2.2] a24 0 w23 fun w25 =>
Hold [] w25 ∧ (
ncK t fun a26 =>
ld1 .sl a26 w25 fun x27 =>
brB (decide ((x27.2.1 : Int) > 8)) (
ncK t fun a28 =>
ld1 .sl a28 w25 fun x29 =>
slK 1 (x29.2.1 : Int) x29.2.2 (
clS Tryz.prog F.slices_Clone_table_Entry_table_Entry [.slice (slA x29.1 x29.2.2 (Int.toNat 1) 3) ((Int.toNat (x29.2.1 : Int)) - (Int.toNat 1)) (x29.2.2 - Int.toNat 1)] w25 false [(false, [.sl])] fun r30 w31 =>
ncK t fun a32 =>
stN [.slice r30.1.1.1 r30.1.1.2.1 r30.1.1.2.2] a32 0 w31 fun w33 =>
R ((0, ()), ()) w33)) (
R ((0, ()), ()) w25)))))
set_option maxRecDepth 100000 in
theorem table_Table_Add.eq (t : Option Addr) (e0 : Int) (e1 : Int) (e2 : Int) (w : World) (R : Value → World → Prop) : wpF Tryz.prog Tryz.f184 (.s .n (.ct [] .n (.s (.pl (.tk 0 (.tk 1 (.tk 2 (.tk 3 (.tk 4 (.tk 5 (.ef 6 [] (.ef 7 [4] (.tk 8 (.tk 9 (.ef 10 [5] .z)))))))))))) .n))) [.pointer t, .agg #[.int .i64 e0, .int .i64 e1, .int .i64 e2]] w R = table_Table_Add.wp t e0 e1 e2 w (fun r w => R (encR false [(false, [(.i .i64)])] r) w) := by kernel_rfl
set_option maxRecDepth 100000 in
theorem table_Table_Add.ok {t : Option Addr} {e0 : Int} {e1 : Int} {e2 : Int} {w : World} {R : TR [(false, [(.i .i64)])] → World → Prop} (h : table_Table_Add.wp t e0 e1 e2 w R) : clS Tryz.prog F.table_Table_Add [.pointer t, .agg #[.int .i64 e0, .int .i64 e1, .int .i64 e2]] w false [(false, [(.i .i64)])] R :=
  ok_of Tryz_follows Tryz.func184 (fun R => table_Table_Add.wp t e0 e1 e2 w R) (table_Table_Add.eq t e0 e1 e2 w) rfl h
/-! ### table_Entry_Good -/
set_option maxRecDepth 100000 in
def table_Entry_Good.wp (e0 : Int) (e1 : Int) (e2 : Int) (w : World) (R : TR [(false, [.b])] → World → Prop) : Prop :=
alK [.int .i64 e0, .int .i64 e1, .int .i64 e2] T.table_Entry w fun p1 w2 =>
ld1 (.i .i64) p1 w2 fun x3 =>
brB (decide (x3 ≥ 0)) (
ld1 (.i .i64) p1 w2 fun x4 =>
brB (decide (x4 ≤ 1125899906842624)) (
ld1 (.i .i64) (p1.add 1) w2 fun x5 =>
brB (decide (x5 ≥ (Int.negSucc 1125899906842623))) (
ld1 (.i .i64) (p1.add 1) w2 fun x6 =>
brB (decide (x6 ≤ 1125899906842624)) (
ld1 (.i .i64) (p1.add 2) w2 fun x7 =>
brB (decide (x7 ≥ 1)) (
ld1 (.i .i64) (p1.add 2) w2 fun x8 =>
R ((decide (x8 ≤ 63), ()), ()) w2) (
R ((false, ()), ()) w2)) (
R ((false, ()), ()) w2)) (
R ((false, ()), ()) w2)) (
R ((false, ()), ()) w2)) (
R ((false, ()), ()) w2)
set_option maxRecDepth 100000 in
theorem table_Entry_Good.eq (e0 : Int) (e1 : Int) (e2 : Int) (w : World) (R : Value → World → Prop) : wpF Tryz.prog Tryz.f187 .n [.agg #[.int .i64 e0, .int .i64 e1, .int .i64 e2]] w R = table_Entry_Good.wp e0 e1 e2 w (fun r w => R (encR false [(false, [.b])] r) w) := by kernel_rfl
set_option maxRecDepth 100000 in
theorem table_Entry_Good.ok {e0 : Int} {e1 : Int} {e2 : Int} {w : World} {R : TR [(false, [.b])] → World → Prop} (h : table_Entry_Good.wp e0 e1 e2 w R) : clS Tryz.prog F.table_Entry_Good [.agg #[.int .i64 e0, .int .i64 e1, .int .i64 e2]] w false [(false, [.b])] R :=
  ok_of Tryz_follows Tryz.func187 (fun R => table_Entry_Good.wp e0 e1 e2 w R) (table_Entry_Good.eq e0 e1 e2 w) rfl h
/-! ### wrap_Newer -/
set_option maxRecDepth 100000 in
def wrap_Newer.wp (a : Int) (b : Int) (w : World) (R : TR [(false, [.b])] → World → Prop) : Prop :=
R ((decide ((IntKind.wrap .i16 (IntKind.wrap .u16 (a - b))) > 0), ()), ()) w
set_option maxRecDepth 100000 in
theorem wrap_Newer.eq (a : Int) (b : Int) (w : World) (R : Value → World → Prop) : wpF Tryz.prog Tryz.f188 .n [.int .u16 a, .int .u16 b] w R = wrap_Newer.wp a b w (fun r w => R (encR false [(false, [.b])] r) w) := by kernel_rfl
set_option maxRecDepth 100000 in
theorem wrap_Newer.ok {a : Int} {b : Int} {w : World} {R : TR [(false, [.b])] → World → Prop} (h : wrap_Newer.wp a b w R) : clS Tryz.prog F.wrap_Newer [.int .u16 a, .int .u16 b] w false [(false, [.b])] R :=
  ok_of Tryz_follows Tryz.func188 (fun R => wrap_Newer.wp a b w R) (wrap_Newer.eq a b w) rfl h
/-! ### table_Table_All -/
set_option maxRecDepth 100000 in
def table_Table_All.wp (t : Option Addr) (w : World) (R : TR [(false, [.any])] → World → Prop) : Prop :=
alK [.pointer t] T.p_table_Table w fun p1 w2 =>
R ((.func (.func F.table_Table_All_1) #[] #[.pointer (some p1)], ()), ()) w2
set_option maxRecDepth 100000 in
theorem table_Table_All.eq (t : Option Addr) (w : World) (R : Value → World → Prop) : wpF Tryz.prog Tryz.f189 .n [.pointer t] w R = table_Table_All.wp t w (fun r w => R (encR false [(false, [.any])] r) w) := by kernel_rfl
set_option maxRecDepth 100000 in
theorem table_Table_All.ok {t : Option Addr} {w : World} {R : TR [(false, [.any])] → World → Prop} (h : table_Table_All.wp t w R) : clS Tryz.prog F.table_Table_All [.pointer t] w false [(false, [.any])] R :=
  ok_of Tryz_follows Tryz.func189 (fun R => table_Table_All.wp t w R) (table_Table_All.eq t w) rfl h
/-! ### slope_Of -/
set_option maxRecDepth 100000 in
def slope_Of.wp (drift : Int) (list : Option Addr × Nat × Nat) (w : World) (R : TR [(true, [(.i .i64), (.i .i64)])] → World → Prop) : Prop :=
alK [.int .i64 0, .int .i64 0] T.slope_Slope w fun p1 w2 =>
alK [.int .i64 0, .int .i64 0] T.slope_Slope w2 fun p3 w4 =>
stN [.int .i64 0, .int .i64 1] p3 0 w4 fun w5 =>
brB (decide ((list.2.1 : Int) < 2)) (
ldN [(.i .i64), (.i .i64)] p3 0 w5 fun x6 =>
stN [.int .i64 x6.1, .int .i64 x6.2.1] p1 0 w5 fun w7 =>
ldN [(.i .i64), (.i .i64)] p1 0 w7 fun x8 =>
R ((x8.1, x8.2.1, ()), ()) w7) (
brB (decide ((list.2.1 : Int) > 8)) (
ldN [(.i .i64), (.i .i64)] p3 0 w5 fun x9 =>
stN [.int .i64 x9.1, .int .i64 x9.2.1] p1 0 w5 fun w10 =>
ldN [(.i .i64), (.i .i64)] p1 0 w10 fun x11 =>
R ((x11.1, x11.2.1, ()), ()) w10) (
LoopT (fun (self12 : ((Int) × Unit) → World → Prop) (z13 : (Int) × Unit) w14 => ∀ _ : Nat → Value,
brB (decide (z13.1 < (list.2.1 : Int))) (
ixK list.1 list.2.1 z13.1 fun a15 =>
ldN [(.i .i64), (.i .i64), (.i .i64)] (a15.add (z13.1.toNat * 3)) 0 w14 fun x16 =>
alK [.int .i64 0, .int .i64 0, .int .i64 0] T.table_Entry w14 fun p17 w18 =>
stN [.int .i64 x16.1, .int .i64 x16.2.1, .int .i64 x16.2.2.1] p17 0 w18 fun w19 =>
ldN [(.i .i64), (.i .i64), (.i .i64)] p17 0 w19 fun x20 =>
clS Tryz.prog F.table_Entry_Good [.agg #[.int .i64 x20.1, .int .i64 x20.2.1, .int .i64 x20.2.2.1]] w19 false [(false, [.b])] fun r21 w22 =>
brB (!r21.1.1) (
ldN [(.i .i64), (.i .i64)] p3 0 w22 fun x23 =>
stN [.int .i64 x23.1, .int .i64 x23.2.1] p1 0 w22 fun w24 =>
ldN [(.i .i64), (.i .i64)] p1 0 w24 fun x25 =>
R ((x25.1, x25.2.1, ()), ()) w24) (
self12 (IntKind.wrap .i64 (z13.1 + 1), ()) w22)) (
clS Tryz.prog F.slope_gather [.slice list.1 list.2.1 list.2.2] w14 true [(true, [(.i .i64), (.i .i64), (.i .i64), (.i .i64), (.i .i64)]), (false, [.b])] fun r26 w27 =>
alK [.int .i64 0, .int .i64 0, .int .i64 0, .int .i64 0, .int .i64 0] T.slope_sums w27 fun p28 w29 =>
stN [.int .i64 r26.1.1, .int .i64 r26.1.2.1, .int .i64 r26.1.2.2.1, .int .i64 r26.1.2.2.2.1, .int .i64 r26.1.2.2.2.2.1] p28 0 w29 fun w30 =>
ld1 (.i .i64) p28 w30 fun x31 =>
ld1 (.i .i64) (p28.add 4) w30 fun x32 =>
ld1 (.i .i64) (p28.add 1) w30 fun x33 =>
ld1 (.i .i64) (p28.add 1) w30 fun x34 =>
brB (!r26.2.1.1) (
ldN [(.i .i64), (.i .i64)] p3 0 w30 fun x35 =>
stN [.int .i64 x35.1, .int .i64 x35.2.1] p1 0 w30 fun w36 =>
ldN [(.i .i64), (.i .i64)] p1 0 w36 fun x37 =>
R ((x37.1, x37.2.1, ()), ()) w36) (
brB (decide ((IntKind.wrap .i64 ((IntKind.wrap .i64 (x31 * x32)) - (IntKind.wrap .i64 (x33 * x34)))) < 1)) (
ldN [(.i .i64), (.i .i64)] p3 0 w30 fun x38 =>
stN [.int .i64 x38.1, .int .i64 x38.2.1] p1 0 w30 fun w39 =>
ldN [(.i .i64), (.i .i64)] p1 0 w39 fun x40 =>
R ((x40.1, x40.2.1, ()), ()) w39) (
ld1 (.i .i64) p28 w30 fun x41 =>
ld1 (.i .i64) (p28.add 3) w30 fun x42 =>
ld1 (.i .i64) (p28.add 1) w30 fun x43 =>
ld1 (.i .i64) (p28.add 2) w30 fun x44 =>
clS Tryz.prog F.slope_Most [.int .i64 drift] w30 false [(true, [(.i .i64), (.i .i64)])] fun r45 w46 =>
alK [.int .i64 0, .int .i64 0] T.slope_Slope w46 fun p47 w48 =>
stN [.int .i64 r45.1.1, .int .i64 r45.1.2.1] p47 0 w48 fun w49 =>
CutT (fun (J50 : ((Bool) × Unit) → World → Prop) =>
brB (decide ((IntKind.wrap .i64 ((IntKind.wrap .i64 (x41 * x42)) - (IntKind.wrap .i64 (x43 * x44)))) > 0)) (
ldN [(.i .i64), (.i .i64)] p47 0 w49 fun x53 =>
clS Tryz.prog F.slope_over [.agg #[.int .i64 (IntKind.wrap .i64 ((IntKind.wrap .i64 (x41 * x42)) - (IntKind.wrap .i64 (x43 * x44)))), .int .i64 (IntKind.wrap .i64 ((IntKind.wrap .i64 (x31 * x32)) - (IntKind.wrap .i64 (x33 * x34))))], .agg #[.int .i64 x53.1, .int .i64 x53.2.1]] w49 false [(false, [.b])] fun r54 w55 =>
J50 (r54.1.1, ()) w55) (
J50 (false, ()) w49)) (fun (z51 : (Bool) × Unit) w52 => ∀ _ : Nat → Value,
brB z51.1 (
ldN [(.i .i64), (.i .i64)] p47 0 w52 fun x56 =>
stN [.int .i64 x56.1, .int .i64 x56.2.1] p1 0 w52 fun w57 =>
ldN [(.i .i64), (.i .i64)] p1 0 w57 fun x58 =>
R ((x58.1, x58.2.1, ()), ()) w57) (
CutT (fun (J59 : ((Bool) × Unit) → World → Prop) =>
brB (decide ((IntKind.wrap .i64 ((IntKind.wrap .i64 (x41 * x42)) - (IntKind.wrap .i64 (x43 * x44)))) < 0)) (
ldN [(.i .i64), (.i .i64)] p47 0 w52 fun x62 =>
clS Tryz.prog F.slope_over [.agg #[.int .i64 (IntKind.wrap .i64 (0 - (IntKind.wrap .i64 ((IntKind.wrap .i64 (x41 * x42)) - (IntKind.wrap .i64 (x43 * x44)))))), .int .i64 (IntKind.wrap .i64 ((IntKind.wrap .i64 (x31 * x32)) - (IntKind.wrap .i64 (x33 * x34))))], .agg #[.int .i64 x62.1, .int .i64 x62.2.1]] w52 false [(false, [.b])] fun r63 w64 =>
J59 (r63.1.1, ()) w64) (
J59 (false, ()) w52)) (fun (z60 : (Bool) × Unit) w61 => ∀ _ : Nat → Value,
brB z60.1 (
ld1 (.i .i64) p47 w61 fun x65 =>
ld1 (.i .i64) (p47.add 1) w61 fun x66 =>
stN [.int .i64 (IntKind.wrap .i64 (0 - x65)), .int .i64 x66] p1 0 w61 fun w67 =>
ldN [(.i .i64), (.i .i64)] p1 0 w67 fun x68 =>
R ((x68.1, x68.2.1, ()), ()) w67) (
stN [.int .i64 (IntKind.wrap .i64 ((IntKind.wrap .i64 (x41 * x42)) - (IntKind.wrap .i64 (x43 * x44)))), .int .i64 (IntKind.wrap .i64 ((IntKind.wrap .i64 (x31 * x32)) - (IntKind.wrap .i64 (x33 * x34))))] p1 0 w61 fun w69 =>
ldN [(.i .i64), (.i .i64)] p1 0 w69 fun x70 =>
R ((x70.1, x70.2.1, ()), ()) w69)))))))) (0, ()) w5))
set_option maxRecDepth 100000 in
theorem slope_Of.eq (drift : Int) (list : Option Addr × Nat × Nat) (w : World) (R : Value → World → Prop) : wpF Tryz.prog Tryz.f190 (.s .n (.s .n (.s .n (.s (.s .n (.lp [(25, (.i .i64))] .n)) (.s .n (.s .n (.s .n (.s .n (.s .n (.s (.ct [(70, .b)] .n (.s .n (.ct [(81, .b)] .n .n))) .n)))))))))) [.int .i64 drift, .slice list.1 list.2.1 list.2.2] w R = slope_Of.wp drift list w (fun r w => R (encR false [(true, [(.i .i64), (.i .i64)])] r) w) := by kernel_rfl
set_option maxRecDepth 100000 in
theorem slope_Of.ok {drift : Int} {list : Option Addr × Nat × Nat} {w : World} {R : TR [(true, [(.i .i64), (.i .i64)])] → World → Prop} (h : slope_Of.wp drift list w R) : clS Tryz.prog F.slope_Of [.int .i64 drift, .slice list.1 list.2.1 list.2.2] w false [(true, [(.i .i64), (.i .i64)])] R :=
  ok_of Tryz_follows Tryz.func190 (fun R => slope_Of.wp drift list w R) (slope_Of.eq drift list w) rfl h
/-! ### table_Table_List -/
set_option maxRecDepth 100000 in
def table_Table_List.wp (t : Option Addr) (w : World) (R : TR [(false, [.sl])] → World → Prop) : Prop :=
clS Tryz.prog F.table_Table_All [.pointer t] w false [(false, [.any])] fun r1 w2 =>
clS Tryz.prog F.slices_Collect_table_Entry [r1.1.1] w2 false [(false, [.sl])] fun r3 w4 =>
R (((r3.1.1.1, r3.1.1.2.1, r3.1.1.2.2), ()), ()) w4
set_option maxRecDepth 100000 in
theorem table_Table_List.eq (t : Option Addr) (w : World) (R : Value → World → Prop) : wpF Tryz.prog Tryz.f191 .n [.pointer t] w R = table_Table_List.wp t w (fun r w => R (encR false [(false, [.sl])] r) w) := by kernel_rfl
set_option maxRecDepth 100000 in
theorem table_Table_List.ok {t : Option Addr} {w : World} {R : TR [(false, [.sl])] → World → Prop} (h : table_Table_List.wp t w R) : clS Tryz.prog F.table_Table_List [.pointer t] w false [(false, [.sl])] R :=
  ok_of Tryz_follows Tryz.func191 (fun R => table_Table_List.wp t w R) (table_Table_List.eq t w) rfl h
/-! ### table_Table_Hops -/
set_option maxRecDepth 100000 in
def table_Table_Hops.wp (t : Option Addr) (w : World) (R : TR [(false, [(.i .i64)])] → World → Prop) : Prop :=
alK [.int .i64 0] T.int w fun p1 w2 =>
stN [.int .i64 0] p1 0 w2 fun w3 =>
clS Tryz.prog F.table_Table_All [.pointer t] w3 false [(false, [.any])] fun r4 w5 =>
RfT Tryz.prog r4.1.1 [(true, [(.i .i64), (.i .i64), (.i .i64)])] w5 (fun x6 k7 w8 =>
alK [.int .i64 0, .int .i64 0, .int .i64 0] T.table_Entry w8 fun p14 w15 =>
stN [.int .i64 x6.1.1, .int .i64 x6.1.2.1, .int .i64 x6.1.2.2.1] p14 0 w15 fun w16 =>
k7 w16 fun go9 lv10 w11 =>
ld1 (.i .i64) p1 w11 fun x17 =>
ld1 (.i .i64) (p14.add 2) w11 fun x18 =>
stN [.int .i64 (if x18 > x17 then x18 else x17)] p1 0 w11 fun w19 =>
go9 w19) (fun D12 w13 =>
ld1 (.i .i64) p1 w13 fun x20 =>
tkK D12 w13 fun w21 =>
R ((x20, ()), ()) w21) []
set_option maxRecDepth 100000 in
theorem table_Table_Hops.eq (t : Option Addr) (w : World) (R : Value → World → Prop) : wpF Tryz.prog Tryz.f192 (.s .n (.s .n (.s (.s .n (.rf [(true, [(.i .i64), (.i .i64), (.i .i64)])] .n .n)) .n))) [.pointer t] w R = table_Table_Hops.wp t w (fun r w => R (encR false [(false, [(.i .i64)])] r) w) := by kernel_rfl
set_option maxRecDepth 100000 in
theorem table_Table_Hops.ok {t : Option Addr} {w : World} {R : TR [(false, [(.i .i64)])] → World → Prop} (h : table_Table_Hops.wp t w R) : clS Tryz.prog F.table_Table_Hops [.pointer t] w false [(false, [(.i .i64)])] R :=
  ok_of Tryz_follows Tryz.func192 (fun R => table_Table_Hops.wp t w R) (table_Table_Hops.eq t w) rfl h
/-! ### slope_Slope_Gain -/
set_option maxRecDepth 100000 in
def slope_Slope_Gain.wp (s0 : Int) (s1 : Int) (ticks : Int) (w : World) (R : TR [(false, [(.i .i64)])] → World → Prop) : Prop :=
alK [.int .i64 s0, .int .i64 s1] T.slope_Slope w fun p1 w2 =>
ld1 (.i .i64) p1 w2 fun x3 =>
ld1 (.i .i64) (p1.add 1) w2 fun x4 =>
clS Tryz.prog F.fix_MulDiv [.int .i64 x3, .int .i64 ticks, .int .i64 x4] w2 true [(false, [(.i .i64)]), (false, [.b])] fun r5 w6 =>
R ((r5.1.1, ()), ()) w6
set_option maxRecDepth 100000 in
theorem slope_Slope_Gain.eq (s0 : Int) (s1 : Int) (ticks : Int) (w : World) (R : Value → World → Prop) : wpF Tryz.prog Tryz.f193 .n [.agg #[.int .i64 s0, .int .i64 s1], .int .i64 ticks] w R = slope_Slope_Gain.wp s0 s1 ticks w (fun r w => R (encR false [(false, [(.i .i64)])] r) w) := by kernel_rfl
set_option maxRecDepth 100000 in
theorem slope_Slope_Gain.ok {s0 : Int} {s1 : Int} {ticks : Int} {w : World} {R : TR [(false, [(.i .i64)])] → World → Prop} (h : slope_Slope_Gain.wp s0 s1 ticks w R) : clS Tryz.prog F.slope_Slope_Gain [.agg #[.int .i64 s0, .int .i64 s1], .int .i64 ticks] w false [(false, [(.i .i64)])] R :=
  ok_of Tryz_follows Tryz.func193 (fun R => slope_Slope_Gain.wp s0 s1 ticks w R) (slope_Slope_Gain.eq s0 s1 ticks w) rfl h
/-! ### fix_Sat -/
set_option maxRecDepth 100000 in
def fix_Sat.wp (a : Int) (b : Int) (w : World) (R : TR [(false, [(.i .i64)])] → World → Prop) : Prop :=
clS Tryz.prog F.fix_Add [.int .i64 a, .int .i64 b] w true [(false, [(.i .i64)]), (false, [.b])] fun r1 w2 =>
brB r1.2.1.1 (
R ((r1.1.1, ()), ()) w2) (
brB (decide (b > 0)) (
R ((9223372036854775807, ()), ()) w2) (
R (((Int.negSucc 9223372036854775807), ()), ()) w2))
set_option maxRecDepth 100000 in
theorem fix_Sat.eq (a : Int) (b : Int) (w : World) (R : Value → World → Prop) : wpF Tryz.prog Tryz.f194 .n [.int .i64 a, .int .i64 b] w R = fix_Sat.wp a b w (fun r w => R (encR false [(false, [(.i .i64)])] r) w) := by kernel_rfl
set_option maxRecDepth 100000 in
theorem fix_Sat.ok {a : Int} {b : Int} {w : World} {R : TR [(false, [(.i .i64)])] → World → Prop} (h : fix_Sat.wp a b w R) : clS Tryz.prog F.fix_Sat [.int .i64 a, .int .i64 b] w false [(false, [(.i .i64)])] R :=
  ok_of Tryz_follows Tryz.func194 (fun R => fix_Sat.wp a b w R) (fix_Sat.eq a b w) rfl h
/-! ### ref16_Flood_Time -/
set_option maxRecDepth 100000 in
def ref16_Flood_Time.wp (f : Option Addr) (local_ : Int) (w : World) (R : TR [(false, [(.i .i64)]), (false, [(.i .i64)]), (false, [(.i .i64)])] → World → Prop) : Prop :=
clS Tryz.prog F.ref16_Flood_Synced [.pointer f] w false [(false, [.b])] fun r1 w2 =>
brB (!r1.1.1) (
R ((0, ()), (0, ()), (9, ()), ()) w2) (
clS Tryz.prog F.ref16_time [.int .i64 local_] w2 false [(false, [.b])] fun r3 w4 =>
brB (!r3.1.1) (
R ((0, ()), (0, ()), (8, ()), ()) w4) (
clS Tryz.prog F.ref16_Flood_Mine [.pointer f] w4 false [(false, [.b])] fun r5 w6 =>
brB r5.1.1 (
R ((local_, ()), (0, ()), (0, ()), ()) w6) (
CutT (fun (J7 : ((Addr) × Unit) → World → Prop) =>
drK w6 fun w10 =>
ncK f fun a11 =>
ld1 (.i .i64) (a11.add 2) w10 fun x12 =>
ncK f fun a13 =>
ld1 .sl (a13.add 3) w10 fun x14 =>
(
clS Tryz.prog F.ref14_Of [.int .i64 x12, .slice x14.1 x14.2.1 x14.2.2] w10 true [(true, [(.i .i64), (.i .i64), (.i .i64), (.i .i64), (.i .i64)]), (false, [.b])] fun r15 w16 =>
Hold [(7, (a13.add 3), (w10.cell? (a13.add 3)).getD undef), (3, (a11.add 2), (w10.cell? (a11.add 2)).getD undef)] w16 ∧ (
alK [.int .i64 0, .int .i64 0, .int .i64 0, .int .i64 0, .int .i64 0] T.ref14_Map w16 fun p17 w18 =>
Hold [(7, (a13.add 3), (w10.cell? (a13.add 3)).getD undef), (3, (a11.add 2), (w10.cell? (a11.add 2)).getD undef)] w18 ∧ (
stN [.int .i64 r15.1.1, .int .i64 r15.1.2.1, .int .i64 r15.1.2.2.1, .int .i64 r15.1.2.2.2.1, .int .i64 r15.1.2.2.2.2.1] p17 0 w18 fun w19 =>
Hold [] w19 ∧ (
J7 (p17, ()) w19)))) ∧ (
alK [.int .i64 0, .int .i64 0, .int .i64 0, .int .i64 0, .int .i64 0] T.ref14_Map w10 fun p20 w21 =>
Hold [(7, (a13.add 3), (w10.cell? (a13.add 3)).getD undef), (3, (a11.add 2), (w10.cell? (a11.add 2)).getD undef)] w21 ∧ (
clS Tryz.prog F.ref14_Of [.int .i64 x12, .slice x14.1 x14.2.1 x14.2.2] w21 true [(true, [(.i .i64), (.i .i64), (.i .i64), (.i .i64), (.i .i64)]), (false, [.b])] fun r22 w23 =>
Hold [] w23 ∧ (
stN [.int .i64 r22.1.1, .int .i64 r22.1.2.1, .int .i64 r22.1.2.2.1, .int .i64 r22.1.2.2.2.1, .int .i64 r22.1.2.2.2.2.1] p20 0 w23 fun w24 =>
Hold [] w24 ∧ (
J7 (p20, ()) w24))))) (fun (z8 : (Addr) × Unit) w9 => ∀ _ : Nat → Value,
ldN [(.i .i64), (.i .i64), (.i .i64), (.i .i64), (.i .i64)] z8.1 0 w9 fun x25 =>
clS Tryz.prog F.ref14_Global [.agg #[.int .i64 x25.1, .int .i64 x25.2.1, .int .i64 x25.2.2.1, .int .i64 x25.2.2.2.1, .int .i64 x25.2.2.2.2.1], .int .i64 local_] w9 true [(false, [(.i .i64)]), (false, [.b])] fun r26 w27 =>
brB (!r26.2.1.1) (
R ((0, ()), (0, ()), (8, ()), ()) w27) (
drK w27 fun w28 =>
ld1 (.i .i64) (z8.1.add 4) w28 fun x29 =>
R ((r26.1.1, ()), (x29, ()), (0, ()), ()) w28)))))
set_option maxRecDepth 100000 in
theorem ref16_Flood_Time.eq (f : Option Addr) (local_ : Int) (w : World) (R : Value → World → Prop) : wpF Tryz.prog Tryz.f201 (.s .n (.s .n (.s .n (.s .n (.ct [(7, .a)] (.pl (.tk 0 (.tk 1 (.tk 2 (.tk 3 (.tk 4 (.tk 5 (.tk 6 (.tk 7 (.two 8 12 (.tk 9 (.tk 10 (.tk 11 (.ef 12 [] (.ef 13 [3, 7] (.tk 14 .z)))))) (.ef 8 [3, 7] (.tk 9 (.tk 10 (.tk 11 (.ef 13 [] (.tk 14 .z)))))))))))))))) (.s .n (.s .n (.s (.pl (.tk 0 (.tk 1 (.tk 2 (.tk 3 (.tk 4 (.tk 5 .z))))))) .n)))))))) [.pointer f, .int .i64 local_] w R = ref16_Flood_Time.wp f local_ w (fun r w => R (encR true [(false, [(.i .i64)]), (false, [(.i .i64)]), (false, [(.i .i64)])] r) w) := by kernel_rfl
set_option maxRecDepth 100000 in
theorem ref16_Flood_Time.ok {f : Option Addr} {local_ : Int} {w : World} {R : TR [(false, [(.i .i64)]), (false, [(.i .i64)]), (false, [(.i .i64)])] → World → Prop} (h : ref16_Flood_Time.wp f local_ w R) : clS Tryz.prog F.ref16_Flood_Time [.pointer f, .int .i64 local_] w true [(false, [(.i .i64)]), (false, [(.i .i64)]), (false, [(.i .i64)])] R :=
  ok_of Tryz_follows Tryz.func201 (fun R => ref16_Flood_Time.wp f local_ w R) (ref16_Flood_Time.eq f local_ w) rfl h
/-! ### ref15_Elect_Hear -/
set_option maxRecDepth 100000 in
def ref15_Elect_Hear.wp (e : Option Addr) (root : Int) (boot : Int) (seq : Int) (w : World) (R : TR [(false, [(.i .i64)])] → World → Prop) : Prop :=
brB (decide (root < 0)) (
R ((0, ()), ()) w) (
ncK e fun a1 =>
ld1 (.i .i64) a1 w fun x2 =>
brB (decide (root ≥ x2)) (
R ((0, ()), ()) w) (
CutT (fun (J3 : Unit → World → Prop) =>
drK w fun w6 =>
ncK e fun a7 =>
ld1 (.i .i64) (a7.add 5) w6 fun x8 =>
ncK e fun a9 =>
ld1 (.i .i64) a9 w6 fun x10 =>
brB (x8 == x10) (
ncK e fun a11 =>
ld1 (.i .i64) (a11.add 7) w6 fun x12 =>
brB (decide (x12 > 0)) (
R ((0, ()), ()) w6) (
J3 (()) w6)) (
J3 (()) w6)) (fun (z4 : Unit) w5 => ∀ _ : Nat → Value,
CutT (fun (J13 : Unit → World → Prop) =>
drK w5 fun w16 =>
ncK e fun a17 =>
ld1 (.i .i64) (a17.add 5) w16 fun x18 =>
brB (decide (x18 ≥ 0)) (
ncK e fun a19 =>
ld1 (.i .i64) (a19.add 5) w16 fun x20 =>
ncK e fun a21 =>
ld1 (.i .i64) a21 w16 fun x22 =>
brB (x20 != x22) (
ncK e fun a23 =>
ld1 (.i .i64) (a23.add 5) w16 fun x24 =>
brB (decide (root > x24)) (
R ((0, ()), ()) w16) (
J13 (()) w16)) (
J13 (()) w16)) (
J13 (()) w16)) (fun (z14 : Unit) w15 => ∀ _ : Nat → Value,
CutT (fun (J25 : Unit → World → Prop) =>
drK w15 fun w28 =>
ncK e fun a29 =>
ixK (some (a29.add 8)) 64 root fun a30 =>
ld1 .b (a30.add (root.toNat * 1)) w28 fun x31 =>
brB x31 (
ncK e fun a32 =>
ixK (some (a32.add 72)) 64 root fun a33 =>
ld1 (.i .u16) (a33.add (root.toNat * 1)) w28 fun x34 =>
ncK e fun a35 =>
ixK (some (a35.add 136)) 64 root fun a36 =>
ld1 (.i .u16) (a36.add (root.toNat * 1)) w28 fun x37 =>
clS Tryz.prog F.ref15_Newer [.int .u16 boot, .int .u16 seq, .int .u16 x34, .int .u16 x37] w28 false [(false, [.b])] fun r38 w39 =>
Hold [(5, (a30.add (root.toNat * 1)), (w28.cell? (a30.add (root.toNat * 1))).getD undef)] w39 ∧ (
brB (!r38.1.1) (
R ((0, ()), ()) w39) (
J25 (()) w39))) (
J25 (()) w28)) (fun (z26 : Unit) w27 => ∀ _ : Nat → Value,
CutT (fun (J40 : ((Int) × Unit) → World → Prop) =>
ncK e fun a43 =>
ld1 (.i .i64) (a43.add 5) w27 fun x44 =>
brB (x44 != root) (
J40 (2, ()) w27) (
ncK e fun a45 =>
ixK (some (a45.add 8)) 64 root fun a46 =>
ld1 .b (a46.add (root.toNat * 1)) w27 fun x47 =>
brB (!x47) (
J40 (2, ()) w27) (
ncK e fun a48 =>
ixK (some (a48.add 72)) 64 root fun a49 =>
ld1 (.i .u16) (a49.add (root.toNat * 1)) w27 fun x50 =>
brB (x50 != boot) (
J40 (2, ()) w27) (
J40 (1, ()) w27)))) (fun (z41 : (Int) × Unit) w42 => ∀ _ : Nat → Value,
ncK e fun a51 =>
ixK (some (a51.add 8)) 64 root fun a52 =>
stN [.bool true] (a52.add (root.toNat * 1)) 0 w42 fun w53 =>
ncK e fun a54 =>
ixK (some (a54.add 72)) 64 root fun a55 =>
stN [.int .u16 boot] (a55.add (root.toNat * 1)) 0 w53 fun w56 =>
ncK e fun a57 =>
ixK (some (a57.add 136)) 64 root fun a58 =>
stN [.int .u16 seq] (a58.add (root.toNat * 1)) 0 w56 fun w59 =>
ncK e fun a60 =>
stN [.int .i64 root] (a60.add 5) 0 w59 fun w61 =>
ncK e fun a62 =>
stN [.int .i64 0] (a62.add 6) 0 w61 fun w63 =>
ncK e fun a64 =>
stN [.int .i64 0] (a64.add 7) 0 w63 fun w65 =>
R ((z41.1, ()), ()) w65))))))
set_option maxRecDepth 100000 in
theorem ref15_Elect_Hear.eq (e : Option Addr) (root : Int) (boot : Int) (seq : Int) (w : World) (R : Value → World → Prop) : wpF Tryz.prog Tryz.f202 (.s .n (.s .n (.ct [] (.s (.pl (.tk 0 (.tk 1 (.tk 2 (.tk 3 (.tk 4 (.tk 5 (.tk 6 (.tk 7 (.tk 8 (.tk 9 (.tk 10 (.tk 11 (.tk 12 (.tk 13 (.tk 14 (.tk 15 .z))))))))))))))))) .n) (.ct [] (.s (.pl (.tk 0 (.tk 1 (.tk 2 (.tk 3 (.tk 4 (.tk 5 (.tk 6 (.tk 7 (.tk 8 (.tk 9 (.tk 10 (.tk 11 (.tk 12 (.tk 13 (.tk 14 (.tk 15 (.tk 16 (.tk 17 (.tk 18 (.tk 19 (.tk 20 (.tk 21 (.tk 22 (.tk 23 .z))))))))))))))))))))))))) .n) (.ct [] (.s (.pl (.tk 0 (.tk 1 (.tk 2 (.tk 3 (.tk 4 (.tk 5 (.tk 6 (.tk 7 (.tk 8 (.tk 9 (.tk 10 (.tk 11 (.tk 12 (.tk 13 (.tk 14 (.tk 15 (.tk 16 (.tk 17 (.tk 18 (.tk 19 (.tk 20 (.ef 21 [14, 20] (.tk 22 (.tk 23 .z))))))))))))))))))))))))) .n) (.s .n (.ct [(9, (.i .i64))] .n .n))))))) [.pointer e, .int .i64 root, .int .u16 boot, .int .u16 seq] w R = ref15_Elect_Hear.wp e root boot seq w (fun r w => R (encR false [(false, [(.i .i64)])] r) w) := by kernel_rfl
set_option maxRecDepth 100000 in
theorem ref15_Elect_Hear.ok {e : Option Addr} {root : Int} {boot : Int} {seq : Int} {w : World} {R : TR [(false, [(.i .i64)])] → World → Prop} (h : ref15_Elect_Hear.wp e root boot seq w R) : clS Tryz.prog F.ref15_Elect_Hear [.pointer e, .int .i64 root, .int .u16 boot, .int .u16 seq] w false [(false, [(.i .i64)])] R :=
  ok_of Tryz_follows Tryz.func202 (fun R => ref15_Elect_Hear.wp e root boot seq w R) (ref15_Elect_Hear.eq e root boot seq w) rfl h
/-! ### ref12_Add -/
set_option maxRecDepth 100000 in
def ref12_Add.wp (list : Option Addr × Nat × Nat) (e0 : Int) (e1 : Int) (e2 : Int) (w : World) (R : TR [(false, [.sl]), (false, [(.i .i64)])] → World → Prop) : Prop :=
alK [.int .i64 e0, .int .i64 e1, .int .i64 e2] T.ref12_Entry w fun p1 w2 =>
ldN [(.i .i64), (.i .i64), (.i .i64)] p1 0 w2 fun x3 =>
clS Tryz.prog F.ref12_Good [.agg #[.int .i64 x3.1, .int .i64 x3.2.1, .int .i64 x3.2.2.1]] w2 false [(false, [.b])] fun r4 w5 =>
brB (!r4.1.1) (
R (((list.1, list.2.1, list.2.2), ()), (1, ()), ()) w5) (
CutT (fun (J6 : Unit → World → Prop) =>
drK w5 fun w9 =>
brB (decide ((list.2.1 : Int) > 0)) (
ld1 (.i .i64) p1 w9 fun x10 =>
ixK list.1 list.2.1 (IntKind.wrap .i64 ((list.2.1 : Int) - 1)) fun a11 =>
ld1 (.i .i64) (a11.add ((IntKind.wrap .i64 ((list.2.1 : Int) - 1)).toNat * 3)) w9 fun x12 =>
brB (decide (x10 ≤ x12)) (
R (((list.1, list.2.1, list.2.2), ()), (12, ()), ()) w9) (
J6 (()) w9)) (
J6 (()) w9)) (fun (z7 : Unit) w8 => ∀ _ : Nat → Value,
CutT (fun (J13 : ((Option Addr × Nat × Nat) × Unit) → World → Prop) =>
drK w8 fun w16 =>
ldN [(.i .i64), (.i .i64), (.i .i64)] p1 0 w16 fun x17 =>
(
alK [] T.ref12_Entry w16 fun p18 w19 =>
Hold [(3, (p1.add 0), (w16.cell? (p1.add 0)).getD undef), (3, (p1.add 1), (w16.cell? (p1.add 1)).getD undef), (3, (p1.add 2), (w16.cell? (p1.add 2)).getD undef)] w19 ∧ (
(
slOf ((Builtin.append_ #[T.sl_angelusref12_Entry, T.sl_angelusref12_Entry] T.sl_angelusref12_Entry #[.slice (some p18) 0 0, .slice list.1 list.2.1 list.2.2]).run Tryz.prog w19) fun y20 w21 =>
Hold [(3, (p1.add 0), (w16.cell? (p1.add 0)).getD undef), (3, (p1.add 1), (w16.cell? (p1.add 1)).getD undef), (3, (p1.add 2), (w16.cell? (p1.add 2)).getD undef)] w21 ∧ (
alK [.int .i64 x17.1, .int .i64 x17.2.1, .int .i64 x17.2.2.1] T.ref12_Entry w21 fun p22 w23 =>
Hold [(3, (p1.add 0), (w16.cell? (p1.add 0)).getD undef), (3, (p1.add 1), (w16.cell? (p1.add 1)).getD undef), (3, (p1.add 2), (w16.cell? (p1.add 2)).getD undef)] w23 ∧ (
slOf ((Builtin.append_ #[T.sl_angelusref12_Entry, T.sl_angelusref12_Entry] T.sl_angelusref12_Entry #[.slice y20.1 y20.2.1 y20.2.2, .slice (some p22) 1 1]).run Tryz.prog w23) fun y24 w25 =>
Hold [(3, (p1.add 0), (w16.cell? (p1.add 0)).getD undef), (3, (p1.add 1), (w16.cell? (p1.add 1)).getD undef), (3, (p1.add 2), (w16.cell? (p1.add 2)).getD undef)] w25 ∧ (
J13 ((y24.1, y24.2.1, y24.2.2), ()) w25)))) ∧ (
alK [.int .i64 x17.1, .int .i64 x17.2.1, .int .i64 x17.2.2.1] T.ref12_Entry w19 fun p26 w27 =>
Hold [(3, (p1.add 0), (w16.cell? (p1.add 0)).getD undef), (3, (p1.add 1), (w16.cell? (p1.add 1)).getD undef), (3, (p1.add 2), (w16.cell? (p1.add 2)).getD undef)] w27 ∧ (
slOf ((Builtin.append_ #[T.sl_angelusref12_Entry, T.sl_angelusref12_Entry] T.sl_angelusref12_Entry #[.slice (some p18) 0 0, .slice list.1 list.2.1 list.2.2]).run Tryz.prog w27) fun y28 w29 =>
Hold [(3, (p1.add 0), (w16.cell? (p1.add 0)).getD undef), (3, (p1.add 1), (w16.cell? (p1.add 1)).getD undef), (3, (p1.add 2), (w16.cell? (p1.add 2)).getD undef)] w29 ∧ (
slOf ((Builtin.append_ #[T.sl_angelusref12_Entry, T.sl_angelusref12_Entry] T.sl_angelusref12_Entry #[.slice y28.1 y28.2.1 y28.2.2, .slice (some p26) 1 1]).run Tryz.prog w29) fun y30 w31 =>
Hold [(3, (p1.add 0), (w16.cell? (p1.add 0)).getD undef), (3, (p1.add 1), (w16.cell? (p1.add 1)).getD undef), (3, (p1.add 2), (w16.cell? (p1.add 2)).getD undef)] w31 ∧ (
J13 ((y30.1, y30.2.1, y30.2.2), ()) w31)))))) ∧ (
alK [.int .i64 x17.1, .int .i64 x17.2.1, .int .i64 x17.2.2.1] T.ref12_Entry w16 fun p32 w33 =>
Hold [(3, (p1.add 0), (w16.cell? (p1.add 0)).getD undef), (3, (p1.add 1), (w16.cell? (p1.add 1)).getD undef), (3, (p1.add 2), (w16.cell? (p1.add 2)).getD undef)] w33 ∧ (
alK [] T.ref12_Entry w33 fun p34 w35 =>
Hold [(3, (p1.add 0), (w16.cell? (p1.add 0)).getD undef), (3, (p1.add 1), (w16.cell? (p1.add 1)).getD undef), (3, (p1.add 2), (w16.cell? (p1.add 2)).getD undef)] w35 ∧ (
slOf ((Builtin.append_ #[T.sl_angelusref12_Entry, T.sl_angelusref12_Entry] T.sl_angelusref12_Entry #[.slice (some p34) 0 0, .slice list.1 list.2.1 list.2.2]).run Tryz.prog w35) fun y36 w37 =>
Hold [(3, (p1.add 0), (w16.cell? (p1.add 0)).getD undef), (3, (p1.add 1), (w16.cell? (p1.add 1)).getD undef), (3, (p1.add 2), (w16.cell? (p1.add 2)).getD undef)] w37 ∧ (
slOf ((Builtin.append_ #[T.sl_angelusref12_Entry, T.sl_angelusref12_Entry] T.sl_angelusref12_Entry #[.slice y36.1 y36.2.1 y36.2.2, .slice (some p32) 1 1]).run Tryz.prog w37) fun y38 w39 =>
Hold [(3, (p1.add 0), (w16.cell? (p1.add 0)).getD undef), (3, (p1.add 1), (w16.cell? (p1.add 1)).getD undef), (3, (p1.add 2), (w16.cell? (p1.add 2)).getD undef)] w39 ∧ (
J13 ((y38.1, y38.2.1, y38.2.2), ()) w39)))))) (fun (z14 : (Option Addr × Nat × Nat) × Unit) w15 => ∀ _ : Nat → Value,
brB (decide ((z14.1.2.1 : Int) > 8)) (
slK (IntKind.wrap .i64 ((z14.1.2.1 : Int) - 8)) (z14.1.2.1 : Int) z14.1.2.2 (
R (((slA z14.1.1 z14.1.2.2 (Int.toNat (IntKind.wrap .i64 ((z14.1.2.1 : Int) - 8))) 3, (Int.toNat (z14.1.2.1 : Int)) - (Int.toNat (IntKind.wrap .i64 ((z14.1.2.1 : Int) - 8))), z14.1.2.2 - Int.toNat (IntKind.wrap .i64 ((z14.1.2.1 : Int) - 8))), ()), (0, ()), ()) w15)) (
R (((z14.1.1, z14.1.2.1, z14.1.2.2), ()), (0, ()), ()) w15))))
set_option maxRecDepth 100000 in
theorem ref12_Add.eq (list : Option Addr × Nat × Nat) (e0 : Int) (e1 : Int) (e2 : Int) (w : World) (R : Value → World → Prop) : wpF Tryz.prog Tryz.f203 (.s .n (.s .n (.s .n (.ct [] (.s (.pl (.tk 0 (.tk 1 (.tk 2 (.tk 3 (.tk 4 (.tk 5 (.tk 6 (.tk 7 (.tk 8 (.tk 9 (.tk 10 (.tk 11 (.tk 12 .z)))))))))))))) .n) (.ct [(7, .sl)] (.pl (.tk 1 (.tk 3 (.two 0 4 (.two 2 4 (.ef 4 [] (.ef 5 [] (.tk 6 .z))) (.ef 2 [] (.ef 5 [] (.tk 6 .z)))) (.ef 0 [] (.ef 2 [] (.ef 5 [] (.tk 6 .z)))))))) .n))))) [.slice list.1 list.2.1 list.2.2, .agg #[.int .i64 e0, .int .i64 e1, .int .i64 e2]] w R = ref12_Add.wp list e0 e1 e2 w (fun r w => R (encR true [(false, [.sl]), (false, [(.i .i64)])] r) w) := by kernel_rfl
set_option maxRecDepth 100000 in
theorem ref12_Add.ok {list : Option Addr × Nat × Nat} {e0 : Int} {e1 : Int} {e2 : Int} {w : World} {R : TR [(false, [.sl]), (false, [(.i .i64)])] → World → Prop} (h : ref12_Add.wp list e0 e1 e2 w R) : clS Tryz.prog F.ref12_Add [.slice list.1 list.2.1 list.2.2, .agg #[.int .i64 e0, .int .i64 e1, .int .i64 e2]] w true [(false, [.sl]), (false, [(.i .i64)])] R :=
  ok_of Tryz_follows Tryz.func203 (fun R => ref12_Add.wp list e0 e1 e2 w R) (ref12_Add.eq list e0 e1 e2 w) rfl h
/-! ### ref12_Good -/
set_option maxRecDepth 100000 in
def ref12_Good.wp (e0 : Int) (e1 : Int) (e2 : Int) (w : World) (R : TR [(false, [.b])] → World → Prop) : Prop :=
alK [.int .i64 e0, .int .i64 e1, .int .i64 e2] T.ref12_Entry w fun p1 w2 =>
ld1 (.i .i64) p1 w2 fun x3 =>
brB (decide (x3 ≥ 0)) (
ld1 (.i .i64) p1 w2 fun x4 =>
brB (decide (x4 ≤ 1125899906842624)) (
ld1 (.i .i64) (p1.add 1) w2 fun x5 =>
brB (decide (x5 ≥ (Int.negSucc 1125899906842623))) (
ld1 (.i .i64) (p1.add 1) w2 fun x6 =>
brB (decide (x6 ≤ 1125899906842624)) (
ld1 (.i .i64) (p1.add 2) w2 fun x7 =>
brB (decide (x7 ≥ 1)) (
ld1 (.i .i64) (p1.add 2) w2 fun x8 =>
R ((decide (x8 ≤ 63), ()), ()) w2) (
R ((false, ()), ()) w2)) (
R ((false, ()), ()) w2)) (
R ((false, ()), ()) w2)) (
R ((false, ()), ()) w2)) (
R ((false, ()), ()) w2)
set_option maxRecDepth 100000 in
theorem ref12_Good.eq (e0 : Int) (e1 : Int) (e2 : Int) (w : World) (R : Value → World → Prop) : wpF Tryz.prog Tryz.f206 .n [.agg #[.int .i64 e0, .int .i64 e1, .int .i64 e2]] w R = ref12_Good.wp e0 e1 e2 w (fun r w => R (encR false [(false, [.b])] r) w) := by kernel_rfl
set_option maxRecDepth 100000 in
theorem ref12_Good.ok {e0 : Int} {e1 : Int} {e2 : Int} {w : World} {R : TR [(false, [.b])] → World → Prop} (h : ref12_Good.wp e0 e1 e2 w R) : clS Tryz.prog F.ref12_Good [.agg #[.int .i64 e0, .int .i64 e1, .int .i64 e2]] w false [(false, [.b])] R :=
  ok_of Tryz_follows Tryz.func206 (fun R => ref12_Good.wp e0 e1 e2 w R) (ref12_Good.eq e0 e1 e2 w) rfl h
/-! ### ref02_Newer -/
set_option maxRecDepth 100000 in
def ref02_Newer.wp (a : Int) (b : Int) (w : World) (R : TR [(false, [.b])] → World → Prop) : Prop :=
nzK 65536 (
brB (decide ((Int.tmod (IntKind.wrap .i64 ((IntKind.wrap .i64 ((IntKind.wrap .i64 a) + 65536)) - (IntKind.wrap .i64 b))) 65536) ≥ 1)) (
R ((decide ((Int.tmod (IntKind.wrap .i64 ((IntKind.wrap .i64 ((IntKind.wrap .i64 a) + 65536)) - (IntKind.wrap .i64 b))) 65536) ≤ 32767), ()), ()) w) (
R ((false, ()), ()) w))
set_option maxRecDepth 100000 in
theorem ref02_Newer.eq (a : Int) (b : Int) (w : World) (R : Value → World → Prop) : wpF Tryz.prog Tryz.f207 .n [.int .u16 a, .int .u16 b] w R = ref02_Newer.wp a b w (fun r w => R (encR false [(false, [.b])] r) w) := by kernel_rfl
set_option maxRecDepth 100000 in
theorem ref02_Newer.ok {a : Int} {b : Int} {w : World} {R : TR [(false, [.b])] → World → Prop} (h : ref02_Newer.wp a b w R) : clS Tryz.prog F.ref02_Newer [.int .u16 a, .int .u16 b] w false [(false, [.b])] R :=
  ok_of Tryz_follows Tryz.func207 (fun R => ref02_Newer.wp a b w R) (ref02_Newer.eq a b w) rfl h
/-! ### crc_Goes -/
set_option maxRecDepth 100000 in
def crc_Goes.wp (sum : Int) (b : Option Addr × Nat × Nat) (w : World) (R : TR [(false, [(.i .u16)])] → World → Prop) : Prop :=
LoopT (fun (self1 : ((Int) × (Int) × Unit) → World → Prop) (z2 : (Int) × (Int) × Unit) w3 => ∀ _ : Nat → Value,
brB (decide (z2.2.1 < (b.2.1 : Int))) (
ixK b.1 b.2.1 z2.2.1 fun a4 =>
ld1 (.i .u8) (a4.add (z2.2.1.toNat * 1)) w3 fun x5 =>
clS Tryz.prog F.crc_step [.int .u16 z2.1, .int .u8 x5] w3 false [(false, [(.i .u16)])] fun r6 w7 =>
self1 (r6.1.1, IntKind.wrap .i64 (z2.2.1 + 1), ()) w7) (
R ((z2.1, ()), ()) w3)) (sum, 0, ()) w
set_option maxRecDepth 100000 in
theorem crc_Goes.eq (sum : Int) (b : Option Addr × Nat × Nat) (w : World) (R : Value → World → Prop) : wpF Tryz.prog Tryz.f209 (.s .n (.s (.s .n (.lp [(0, (.i .u16)), (9, (.i .i64))] .n)) .n)) [.int .u16 sum, .slice b.1 b.2.1 b.2.2] w R = crc_Goes.wp sum b w (fun r w => R (encR false [(false, [(.i .u16)])] r) w) := by kernel_rfl
set_option maxRecDepth 100000 in
theorem crc_Goes.ok {sum : Int} {b : Option Addr × Nat × Nat} {w : World} {R : TR [(false, [(.i .u16)])] → World → Prop} (h : crc_Goes.wp sum b w R) : clS Tryz.prog F.crc_Goes [.int .u16 sum, .slice b.1 b.2.1 b.2.2] w false [(false, [(.i .u16)])] R :=
  ok_of Tryz_follows Tryz.func209 (fun R => crc_Goes.wp sum b w R) (crc_Goes.eq sum b w) rfl h
/-! ### elect_Elect_may -/
set_option maxRecDepth 100000 in
def elect_Elect_may.wp (e : Option Addr) (root : Int) (w : World) (R : TR [(false, [.b])] → World → Prop) : Prop :=
CutT (fun (J1 : ((Bool) × Unit) → World → Prop) =>
brB (decide (root < 0)) (
J1 (true, ()) w) (
ncK e fun a4 =>
ld1 (.i .i64) a4 w fun x5 =>
J1 (decide (root ≥ x5), ()) w)) (fun (z2 : (Bool) × Unit) w3 => ∀ _ : Nat → Value,
brB z2.1 (
R ((false, ()), ()) w3) (
clS Tryz.prog F.elect_Elect_Mine [.pointer e] w3 false [(false, [.b])] fun r6 w7 =>
brB r6.1.1 (
ncK e fun a8 =>
ld1 (.i .i64) (a8.add 7) w7 fun x9 =>
R (((x9 == 0), ()), ()) w7) (
ncK e fun a10 =>
ld1 (.i .i64) (a10.add 5) w7 fun x11 =>
brB (decide (x11 < 0)) (
R ((true, ()), ()) w7) (
ncK e fun a12 =>
ld1 (.i .i64) (a12.add 5) w7 fun x13 =>
R ((decide (root ≤ x13), ()), ()) w7))))
set_option maxRecDepth 100000 in
theorem elect_Elect_may.eq (e : Option Addr) (root : Int) (w : World) (R : Value → World → Prop) : wpF Tryz.prog Tryz.f210 (.s .n (.s (.ct [(5, .b)] .n .n) .n)) [.pointer e, .int .i64 root] w R = elect_Elect_may.wp e root w (fun r w => R (encR false [(false, [.b])] r) w) := by kernel_rfl
set_option maxRecDepth 100000 in
theorem elect_Elect_may.ok {e : Option Addr} {root : Int} {w : World} {R : TR [(false, [.b])] → World → Prop} (h : elect_Elect_may.wp e root w R) : clS Tryz.prog F.elect_Elect_may [.pointer e, .int .i64 root] w false [(false, [.b])] R :=
  ok_of Tryz_follows Tryz.func210 (fun R => elect_Elect_may.wp e root w R) (elect_Elect_may.eq e root w) rfl h
/-! ### elect_Mark_newer -/
set_option maxRecDepth 100000 in
def elect_Mark_newer.wp (m0 : Int) (m1 : Int) (old0 : Int) (old1 : Int) (w : World) (R : TR [(false, [.b])] → World → Prop) : Prop :=
alK [.int .u16 m0, .int .u16 m1] T.elect_Mark w fun p1 w2 =>
alK [.int .u16 old0, .int .u16 old1] T.elect_Mark w2 fun p3 w4 =>
ld1 (.i .u16) p1 w4 fun x5 =>
ld1 (.i .u16) p3 w4 fun x6 =>
clS Tryz.prog F.wrap_Newer [.int .u16 x5, .int .u16 x6] w4 false [(false, [.b])] fun r7 w8 =>
brB r7.1.1 (
R ((true, ()), ()) w8) (
ld1 (.i .u16) p1 w8 fun x9 =>
ld1 (.i .u16) p3 w8 fun x10 =>
brB (x9 == x10) (
ld1 (.i .u16) (p1.add 1) w8 fun x11 =>
ld1 (.i .u16) (p3.add 1) w8 fun x12 =>
clS Tryz.prog F.wrap_Newer [.int .u16 x11, .int .u16 x12] w8 false [(false, [.b])] fun r13 w14 =>
R ((r13.1.1, ()), ()) w14) (
R ((false, ()), ()) w8))
set_option maxRecDepth 100000 in
theorem elect_Mark_newer.eq (m0 : Int) (m1 : Int) (old0 : Int) (old1 : Int) (w : World) (R : Value → World → Prop) : wpF Tryz.prog Tryz.f211 .n [.agg #[.int .u16 m0, .int .u16 m1], .agg #[.int .u16 old0, .int .u16 old1]] w R = elect_Mark_newer.wp m0 m1 old0 old1 w (fun r w => R (encR false [(false, [.b])] r) w) := by kernel_rfl
set_option maxRecDepth 100000 in
theorem elect_Mark_newer.ok {m0 : Int} {m1 : Int} {old0 : Int} {old1 : Int} {w : World} {R : TR [(false, [.b])] → World → Prop} (h : elect_Mark_newer.wp m0 m1 old0 old1 w R) : clS Tryz.prog F.elect_Mark_newer [.agg #[.int .u16 m0, .int .u16 m1], .agg #[.int .u16 old0, .int .u16 old1]] w false [(false, [.b])] R :=
  ok_of Tryz_follows Tryz.func211 (fun R => elect_Mark_newer.wp m0 m1 old0 old1 w R) (elect_Mark_newer.eq m0 m1 old0 old1 w) rfl h
/-! ### table_Table_Last -/
set_option maxRecDepth 100000 in
def table_Table_Last.wp (t : Option Addr) (w : World) (R : TR [(true, [(.i .i64), (.i .i64), (.i .i64)]), (false, [.b])] → World → Prop) : Prop :=
alK [.int .i64 0, .int .i64 0, .int .i64 0] T.table_Entry w fun p1 w2 =>
clS Tryz.prog F.table_Table_Len [.pointer t] w2 false [(false, [(.i .i64)])] fun r3 w4 =>
brB (r3.1.1 == 0) (
stN [.int .i64 0, .int .i64 0, .int .i64 0] p1 0 w4 fun w5 =>
ldN [(.i .i64), (.i .i64), (.i .i64)] p1 0 w5 fun x6 =>
R ((x6.1, x6.2.1, x6.2.2.1, ()), (false, ()), ()) w5) (
drK w4 fun w7 =>
ncK t fun a8 =>
ld1 .sl a8 w7 fun x9 =>
ncK t fun a10 =>
ld1 .sl a10 w7 fun x11 =>
ixK x9.1 x9.2.1 (IntKind.wrap .i64 ((x11.2.1 : Int) - 1)) fun a12 =>
ldN [(.i .i64), (.i .i64), (.i .i64)] (a12.add ((IntKind.wrap .i64 ((x11.2.1 : Int) - 1)).toNat * 3)) 0 w7 fun x13 =>
stN [.int .i64 x13.1, .int .i64 x13.2.1, .int .i64 x13.2.2.1] p1 0 w7 fun w14 =>
Hold [] w14 ∧ (
ldN [(.i .i64), (.i .i64), (.i .i64)] p1 0 w14 fun x15 =>
R ((x15.1, x15.2.1, x15.2.2.1, ()), (true, ()), ()) w14))
set_option maxRecDepth 100000 in
theorem table_Table_Last.eq (t : Option Addr) (w : World) (R : Value → World → Prop) : wpF Tryz.prog Tryz.f212 (.s .n (.s .n (.s (.pl (.tk 0 (.tk 1 (.tk 2 (.tk 3 (.tk 4 (.tk 5 (.tk 6 (.tk 7 (.tk 8 (.tk 9 (.tk 10 (.tk 11 (.ef 12 [3, 7, 11] (.tk 13 .z))))))))))))))) .n))) [.pointer t] w R = table_Table_Last.wp t w (fun r w => R (encR true [(true, [(.i .i64), (.i .i64), (.i .i64)]), (false, [.b])] r) w) := by kernel_rfl
set_option maxRecDepth 100000 in
theorem table_Table_Last.ok {t : Option Addr} {w : World} {R : TR [(true, [(.i .i64), (.i .i64), (.i .i64)]), (false, [.b])] → World → Prop} (h : table_Table_Last.wp t w R) : clS Tryz.prog F.table_Table_Last [.pointer t] w true [(true, [(.i .i64), (.i .i64), (.i .i64)]), (false, [.b])] R :=
  ok_of Tryz_follows Tryz.func212 (fun R => table_Table_Last.wp t w R) (table_Table_Last.eq t w) rfl h
/-! ### slices_Clone_table_Entry_table_Entry -/
set_option maxRecDepth 100000 in
def slices_Clone_table_Entry_table_Entry.wp (s : Option Addr × Nat × Nat) (w : World) (R : TR [(false, [.sl])] → World → Prop) : Prop :=
brB (Option.isNone s.1) (
R (((none, 0, 0), ()), ()) w) (
alK [] T.table_Entry w fun p1 w2 =>
slOf ((Builtin.append_ #[T.sl_table_Entry, T.sl_table_Entry] T.sl_table_Entry #[.slice (some p1) 0 0, .slice s.1 s.2.1 s.2.2]).run Tryz.prog w2) fun y3 w4 =>
R (((y3.1, y3.2.1, y3.2.2), ()), ()) w4)
set_option maxRecDepth 100000 in
theorem slices_Clone_table_Entry_table_Entry.eq (s : Option Addr × Nat × Nat) (w : World) (R : Value → World → Prop) : wpF Tryz.prog Tryz.f213 .n [.slice s.1 s.2.1 s.2.2] w R = slices_Clone_table_Entry_table_Entry.wp s w (fun r w => R (encR false [(false, [.sl])] r) w) := by kernel_rfl
set_option maxRecDepth 100000 in
theorem slices_Clone_table_Entry_table_Entry.ok {s : Option Addr × Nat × Nat} {w : World} {R : TR [(false, [.sl])] → World → Prop} (h : slices_Clone_table_Entry_table_Entry.wp s w R) : clS Tryz.prog F.slices_Clone_table_Entry_table_Entry [.slice s.1 s.2.1 s.2.2] w false [(false, [.sl])] R :=
  ok_of Tryz_follows Tryz.func213 (fun R => slices_Clone_table_Entry_table_Entry.wp s w R) (slices_Clone_table_Entry_table_Entry.eq s w) rfl h
/-! ### table_Table_All_1 -/
set_option maxRecDepth 100000 in
def table_Table_All_1.wp (yield : Nat) (c_cap0 : Addr) (w : World) (R : TR [] → World → Prop) : Prop :=
ld1 .p c_cap0 w fun x1 =>
clS Tryz.prog F.table_Table_Len [.pointer x1] w false [(false, [(.i .i64)])] fun r2 w3 =>
LoopT (fun (self4 : ((Int) × Unit) → World → Prop) (z5 : (Int) × Unit) w6 => ∀ _ : Nat → Value,
brB (decide (z5.1 < r2.1.1)) (
ld1 .p c_cap0 w6 fun x7 =>
ncK x7 fun a8 =>
ld1 .sl a8 w6 fun x9 =>
ixK x9.1 x9.2.1 z5.1 fun a10 =>
ldN [(.i .i64), (.i .i64), (.i .i64)] (a10.add (z5.1.toNat * 3)) 0 w6 fun x11 =>
yiS Tryz.prog yield [.agg #[.int .i64 x11.1, .int .i64 x11.2.1, .int .i64 x11.2.2.1]] w6 fun b12 w13 =>
brB (!b12) (
R (()) w13) (
self4 (IntKind.wrap .i64 (z5.1 + 1), ()) w13)) (
R (()) w6)) (0, ()) w3
set_option maxRecDepth 100000 in
theorem table_Table_All_1.eq (yield : Nat) (c_cap0 : Addr) (w : World) (R : Value → World → Prop) : wpF Tryz.prog Tryz.f214 (.s .n (.lp [(6, (.i .i64))] .n)) [.func (.yield yield) #[] #[], .pointer (some c_cap0)] w R = table_Table_All_1.wp yield c_cap0 w (fun r w => R (encR true [] r) w) := by kernel_rfl
set_option maxRecDepth 100000 in
theorem table_Table_All_1.ok {yield : Nat} {c_cap0 : Addr} {w : World} {R : TR [] → World → Prop} (h : table_Table_All_1.wp yield c_cap0 w R) : clS Tryz.prog F.table_Table_All_1 [.func (.yield yield) #[] #[], .pointer (some c_cap0)] w true [] R :=
  ok_of Tryz_follows Tryz.func214 (fun R => table_Table_All_1.wp yield c_cap0 w R) (table_Table_All_1.eq yield c_cap0 w) rfl h
/-! ### slope_gather -/
set_option maxRecDepth 100000 in
def slope_gather.wp (list : Option Addr × Nat × Nat) (w : World) (R : TR [(true, [(.i .i64), (.i .i64), (.i .i64), (.i .i64), (.i .i64)]), (false, [.b])] → World → Prop) : Prop :=
alK [.int .i64 0, .int .i64 0, .int .i64 0, .int .i64 0, .int .i64 0] T.slope_sums w fun p1 w2 =>
alK [.int .i64 0, .int .i64 0, .int .i64 0, .int .i64 0, .int .i64 0] T.slope_sums w2 fun p3 w4 =>
LoopT (fun (self5 : ((Int) × Unit) → World → Prop) (z6 : (Int) × Unit) w7 => ∀ _ : Nat → Value,
brB (decide (z6.1 < (list.2.1 : Int))) (
ixK list.1 list.2.1 z6.1 fun a8 =>
ldN [(.i .i64), (.i .i64), (.i .i64)] (a8.add (z6.1.toNat * 3)) 0 w7 fun x9 =>
alK [.int .i64 0, .int .i64 0, .int .i64 0] T.table_Entry w7 fun p10 w11 =>
stN [.int .i64 x9.1, .int .i64 x9.2.1, .int .i64 x9.2.2.1] p10 0 w11 fun w12 =>
drK w12 fun w13 =>
ld1 (.i .i64) p10 w13 fun x14 =>
ixK list.1 list.2.1 0 fun a15 =>
ld1 (.i .i64) (a15.add ((0 : Int).toNat * 3)) w13 fun x16 =>
ld1 (.i .i64) (p10.add 1) w13 fun x17 =>
ixK list.1 list.2.1 0 fun a18 =>
ld1 (.i .i64) ((a18.add ((0 : Int).toNat * 3)).add 1) w13 fun x19 =>
brB (decide ((IntKind.wrap .i64 (x14 - x16)) < 0)) (
stN [.int .i64 0, .int .i64 0, .int .i64 0, .int .i64 0, .int .i64 0] p1 0 w13 fun w20 =>
ldN [(.i .i64), (.i .i64), (.i .i64), (.i .i64), (.i .i64)] p1 0 w20 fun x21 =>
R ((x21.1, x21.2.1, x21.2.2.1, x21.2.2.2.1, x21.2.2.2.2.1, ()), (false, ()), ()) w20) (
brB (decide ((IntKind.wrap .i64 (x14 - x16)) > 4194304)) (
stN [.int .i64 0, .int .i64 0, .int .i64 0, .int .i64 0, .int .i64 0] p1 0 w13 fun w22 =>
ldN [(.i .i64), (.i .i64), (.i .i64), (.i .i64), (.i .i64)] p1 0 w22 fun x23 =>
R ((x23.1, x23.2.1, x23.2.2.1, x23.2.2.2.1, x23.2.2.2.2.1, ()), (false, ()), ()) w22) (
brB (decide ((IntKind.wrap .i64 (x17 - x19)) < (Int.negSucc 4194303))) (
stN [.int .i64 0, .int .i64 0, .int .i64 0, .int .i64 0, .int .i64 0] p1 0 w13 fun w24 =>
ldN [(.i .i64), (.i .i64), (.i .i64), (.i .i64), (.i .i64)] p1 0 w24 fun x25 =>
R ((x25.1, x25.2.1, x25.2.2.1, x25.2.2.2.1, x25.2.2.2.2.1, ()), (false, ()), ()) w24) (
brB (decide ((IntKind.wrap .i64 (x17 - x19)) > 4194304)) (
stN [.int .i64 0, .int .i64 0, .int .i64 0, .int .i64 0, .int .i64 0] p1 0 w13 fun w26 =>
ldN [(.i .i64), (.i .i64), (.i .i64), (.i .i64), (.i .i64)] p1 0 w26 fun x27 =>
R ((x27.1, x27.2.1, x27.2.2.1, x27.2.2.2.1, x27.2.2.2.2.1, ()), (false, ()), ()) w26) (
clS Tryz.prog F.slope_sums_add [.pointer (some p3), .int .i64 (IntKind.wrap .i64 (x14 - x16)), .int .i64 (IntKind.wrap .i64 (x17 - x19))] w13 true [] fun r28 w29 =>
self5 (IntKind.wrap .i64 (z6.1 + 1), ()) w29))))) (
ldN [(.i .i64), (.i .i64), (.i .i64), (.i .i64), (.i .i64)] p3 0 w7 fun x30 =>
stN [.int .i64 x30.1, .int .i64 x30.2.1, .int .i64 x30.2.2.1, .int .i64 x30.2.2.2.1, .int .i64 x30.2.2.2.2.1] p1 0 w7 fun w31 =>
ldN [(.i .i64), (.i .i64), (.i .i64), (.i .i64), (.i .i64)] p1 0 w31 fun x32 =>
R ((x32.1, x32.2.1, x32.2.2.1, x32.2.2.2.1, x32.2.2.2.2.1, ()), (true, ()), ()) w31)) (0, ()) w4
set_option maxRecDepth 100000 in
theorem slope_gather.eq (list : Option Addr × Nat × Nat) (w : World) (R : Value → World → Prop) : wpF Tryz.prog Tryz.f215 (.s .n (.s .n (.s (.s .n (.lp [(11, (.i .i64))] (.s .n (.s .n (.s (.s .n (.s (.pl (.tk 0 (.tk 1 (.tk 2 (.tk 3 (.tk 4 (.tk 5 (.tk 6 (.tk 7 (.tk 8 (.tk 9 (.tk 10 (.tk 11 (.tk 12 (.tk 13 (.tk 14 (.tk 15 .z))))))))))))))))) .n)) .n))))) .n))) [.slice list.1 list.2.1 list.2.2] w R = slope_gather.wp list w (fun r w => R (encR true [(true, [(.i .i64), (.i .i64), (.i .i64), (.i .i64), (.i .i64)]), (false, [.b])] r) w) := by kernel_rfl
set_option maxRecDepth 100000 in
theorem slope_gather.ok {list : Option Addr × Nat × Nat} {w : World} {R : TR [(true, [(.i .i64), (.i .i64), (.i .i64), (.i .i64), (.i .i64)]), (false, [.b])] → World → Prop} (h : slope_gather.wp list w R) : clS Tryz.prog F.slope_gather [.slice list.1 list.2.1 list.2.2] w true [(true, [(.i .i64), (.i .i64), (.i .i64), (.i .i64), (.i .i64)]), (false, [.b])] R :=
  ok_of Tryz_follows Tryz.func215 (fun R => slope_gather.wp list w R) (slope_gather.eq list w) rfl h
/-! ### slope_Most -/
set_option maxRecDepth 100000 in
def slope_Most.wp (drift : Int) (w : World) (R : TR [(true, [(.i .i64), (.i .i64)])] → World → Prop) : Prop :=
alK [.int .i64 0, .int .i64 0] T.slope_Slope w fun p1 w2 =>
clS Tryz.prog F.fix_Clamp [.int .i64 drift, .int .i64 0, .int .i64 10] w2 false [(false, [(.i .i64)])] fun r3 w4 =>
stN [.int .i64 (IntKind.wrap .i64 (2 * r3.1.1)), .int .i64 (IntKind.wrap .i64 (1000 - r3.1.1))] p1 0 w4 fun w5 =>
ldN [(.i .i64), (.i .i64)] p1 0 w5 fun x6 =>
R ((x6.1, x6.2.1, ()), ()) w5
set_option maxRecDepth 100000 in
theorem slope_Most.eq (drift : Int) (w : World) (R : Value → World → Prop) : wpF Tryz.prog Tryz.f216 .n [.int .i64 drift] w R = slope_Most.wp drift w (fun r w => R (encR false [(true, [(.i .i64), (.i .i64)])] r) w) := by kernel_rfl
set_option maxRecDepth 100000 in
theorem slope_Most.ok {drift : Int} {w : World} {R : TR [(true, [(.i .i64), (.i .i64)])] → World → Prop} (h : slope_Most.wp drift w R) : clS Tryz.prog F.slope_Most [.int .i64 drift] w false [(true, [(.i .i64), (.i .i64)])] R :=
  ok_of Tryz_follows Tryz.func216 (fun R => slope_Most.wp drift w R) (slope_Most.eq drift w) rfl h
/-! ### slope_over -/
set_option maxRecDepth 100000 in
def slope_over.wp (a0 : Int) (a1 : Int) (b0 : Int) (b1 : Int) (w : World) (R : TR [(false, [.b])] → World → Prop) : Prop :=
alK [.int .i64 a0, .int .i64 a1] T.slope_Slope w fun p1 w2 =>
alK [.int .i64 b0, .int .i64 b1] T.slope_Slope w2 fun p3 w4 =>
ld1 (.i .i64) p1 w4 fun x5 =>
ld1 (.i .i64) (p3.add 1) w4 fun x6 =>
clS Tryz.prog F.bits_Mul64 [.int .u64 (IntKind.wrap .u64 x5), .int .u64 (IntKind.wrap .u64 x6)] w4 true [(false, [(.i .u64)]), (false, [(.i .u64)])] fun r7 w8 =>
ld1 (.i .i64) p3 w8 fun x9 =>
ld1 (.i .i64) (p1.add 1) w8 fun x10 =>
clS Tryz.prog F.bits_Mul64 [.int .u64 (IntKind.wrap .u64 x9), .int .u64 (IntKind.wrap .u64 x10)] w8 true [(false, [(.i .u64)]), (false, [(.i .u64)])] fun r11 w12 =>
brB (decide (r7.1.1 > r11.1.1)) (
R ((true, ()), ()) w12) (
brB (r7.1.1 == r11.1.1) (
R ((decide (r7.2.1.1 > r11.2.1.1), ()), ()) w12) (
R ((false, ()), ()) w12))
set_option maxRecDepth 100000 in
theorem slope_over.eq (a0 : Int) (a1 : Int) (b0 : Int) (b1 : Int) (w : World) (R : Value → World → Prop) : wpF Tryz.prog Tryz.f217 .n [.agg #[.int .i64 a0, .int .i64 a1], .agg #[.int .i64 b0, .int .i64 b1]] w R = slope_over.wp a0 a1 b0 b1 w (fun r w => R (encR false [(false, [.b])] r) w) := by kernel_rfl
set_option maxRecDepth 100000 in
theorem slope_over.ok {a0 : Int} {a1 : Int} {b0 : Int} {b1 : Int} {w : World} {R : TR [(false, [.b])] → World → Prop} (h : slope_over.wp a0 a1 b0 b1 w R) : clS Tryz.prog F.slope_over [.agg #[.int .i64 a0, .int .i64 a1], .agg #[.int .i64 b0, .int .i64 b1]] w false [(false, [.b])] R :=
  ok_of Tryz_follows Tryz.func217 (fun R => slope_over.wp a0 a1 b0 b1 w R) (slope_over.eq a0 a1 b0 b1 w) rfl h
/-! ### slices_Collect_table_Entry -/
set_option maxRecDepth 100000 in
def slices_Collect_table_Entry.wp (seq : Value) (w : World) (R : TR [(false, [.sl])] → World → Prop) : Prop :=
clS Tryz.prog F.slices_AppendSeq_table_Entry_table_Entry [.slice none 0 0, seq] w false [(false, [.sl])] fun r1 w2 =>
R (((r1.1.1.1, r1.1.1.2.1, r1.1.1.2.2), ()), ()) w2
set_option maxRecDepth 100000 in
theorem slices_Collect_table_Entry.eq (seq : Value) (w : World) (R : Value → World → Prop) : wpF Tryz.prog Tryz.f218 .n [seq] w R = slices_Collect_table_Entry.wp seq w (fun r w => R (encR false [(false, [.sl])] r) w) := by kernel_rfl
set_option maxRecDepth 100000 in
theorem slices_Collect_table_Entry.ok {seq : Value} {w : World} {R : TR [(false, [.sl])] → World → Prop} (h : slices_Collect_table_Entry.wp seq w R) : clS Tryz.prog F.slices_Collect_table_Entry [seq] w false [(false, [.sl])] R :=
  ok_of Tryz_follows Tryz.func218 (fun R => slices_Collect_table_Entry.wp seq w R) (slices_Collect_table_Entry.eq seq w) rfl h
/-! ### fix_MulDiv -/
set_option maxRecDepth 100000 in
def fix_MulDiv.wp (a : Int) (b : Int) (c : Int) (w : World) (R : TR [(false, [(.i .i64)]), (false, [.b])] → World → Prop) : Prop :=
brB (decide (c < 1)) (
R ((0, ()), (false, ()), ()) w) (
clS Tryz.prog F.fix_Size [.int .i64 a] w false [(false, [(.i .u64)])] fun r1 w2 =>
clS Tryz.prog F.fix_Size [.int .i64 b] w2 false [(false, [(.i .u64)])] fun r3 w4 =>
clS Tryz.prog F.bits_Mul64 [.int .u64 r1.1.1, .int .u64 r3.1.1] w4 true [(false, [(.i .u64)]), (false, [(.i .u64)])] fun r5 w6 =>
brB (decide (r5.1.1 ≥ (IntKind.wrap .u64 c))) (
R ((0, ()), (false, ()), ()) w6) (
clS Tryz.prog F.bits_Div64 [.int .u64 r5.1.1, .int .u64 r5.2.1.1, .int .u64 (IntKind.wrap .u64 c)] w6 true [(false, [(.i .u64)]), (false, [(.i .u64)])] fun r7 w8 =>
brB ((decide (a < 0)) == (decide (b < 0))) (
brB (decide (r7.1.1 > 9223372036854775807)) (
R ((0, ()), (false, ()), ()) w8) (
R ((IntKind.wrap .i64 r7.1.1, ()), (true, ()), ()) w8)) (
CutT (fun (J9 : ((Int) × Unit) → World → Prop) =>
brB (decide (r7.2.1.1 > 0)) (
brB ((IntKind.wrap .u64 (r7.1.1 + 1)) == 0) (
R ((0, ()), (false, ()), ()) w8) (
J9 (IntKind.wrap .u64 (r7.1.1 + 1), ()) w8)) (
J9 (r7.1.1, ()) w8)) (fun (z10 : (Int) × Unit) w11 => ∀ _ : Nat → Value,
brB (decide (z10.1 > 9223372036854775808)) (
R ((0, ()), (false, ()), ()) w11) (
R ((IntKind.wrap .i64 (IntKind.wrap .u64 (0 - z10.1)), ()), (true, ()), ()) w11)))))
set_option maxRecDepth 100000 in
theorem fix_MulDiv.eq (a : Int) (b : Int) (c : Int) (w : World) (R : Value → World → Prop) : wpF Tryz.prog Tryz.f219 (.s .n (.s .n (.s .n (.s .n (.s .n (.s .n (.ct [(10, (.i .u64))] .n .n))))))) [.int .i64 a, .int .i64 b, .int .i64 c] w R = fix_MulDiv.wp a b c w (fun r w => R (encR true [(false, [(.i .i64)]), (false, [.b])] r) w) := by kernel_rfl
set_option maxRecDepth 100000 in
theorem fix_MulDiv.ok {a : Int} {b : Int} {c : Int} {w : World} {R : TR [(false, [(.i .i64)]), (false, [.b])] → World → Prop} (h : fix_MulDiv.wp a b c w R) : clS Tryz.prog F.fix_MulDiv [.int .i64 a, .int .i64 b, .int .i64 c] w true [(false, [(.i .i64)]), (false, [.b])] R :=
  ok_of Tryz_follows Tryz.func219 (fun R => fix_MulDiv.wp a b c w R) (fix_MulDiv.eq a b c w) rfl h
/-! ### fix_Add -/
set_option maxRecDepth 100000 in
def fix_Add.wp (a : Int) (b : Int) (w : World) (R : TR [(false, [(.i .i64)]), (false, [.b])] → World → Prop) : Prop :=
brB (!((decide ((IntKind.wrap .i64 (a + b)) > a)) == (decide (b > 0)))) (
brB (b != 0) (
R ((0, ()), (false, ()), ()) w) (
R ((IntKind.wrap .i64 (a + b), ()), (true, ()), ()) w)) (
R ((IntKind.wrap .i64 (a + b), ()), (true, ()), ()) w)
set_option maxRecDepth 100000 in
theorem fix_Add.eq (a : Int) (b : Int) (w : World) (R : Value → World → Prop) : wpF Tryz.prog Tryz.f220 .n [.int .i64 a, .int .i64 b] w R = fix_Add.wp a b w (fun r w => R (encR true [(false, [(.i .i64)]), (false, [.b])] r) w) := by kernel_rfl
set_option maxRecDepth 100000 in
theorem fix_Add.ok {a : Int} {b : Int} {w : World} {R : TR [(false, [(.i .i64)]), (false, [.b])] → World → Prop} (h : fix_Add.wp a b w R) : clS Tryz.prog F.fix_Add [.int .i64 a, .int .i64 b] w true [(false, [(.i .i64)]), (false, [.b])] R :=
  ok_of Tryz_follows Tryz.func220 (fun R => fix_Add.wp a b w R) (fix_Add.eq a b w) rfl h
/-! ### ref14_Of -/
set_option maxRecDepth 100000 in
def ref14_Of.wp (drift : Int) (list : Option Addr × Nat × Nat) (w : World) (R : TR [(true, [(.i .i64), (.i .i64), (.i .i64), (.i .i64), (.i .i64)]), (false, [.b])] → World → Prop) : Prop :=
alK [.int .i64 0, .int .i64 0, .int .i64 0, .int .i64 0, .int .i64 0] T.ref14_Map w fun p1 w2 =>
brB ((list.2.1 : Int) == 0) (
stN [.int .i64 0, .int .i64 0, .int .i64 0, .int .i64 0, .int .i64 0] p1 0 w2 fun w3 =>
ldN [(.i .i64), (.i .i64), (.i .i64), (.i .i64), (.i .i64)] p1 0 w3 fun x4 =>
R ((x4.1, x4.2.1, x4.2.2.1, x4.2.2.2.1, x4.2.2.2.2.1, ()), (false, ()), ()) w3) (
LoopT (fun (self5 : ((Int) × (Int) × (Int) × Unit) → World → Prop) (z6 : (Int) × (Int) × (Int) × Unit) w7 => ∀ _ : Nat → Value,
brB (decide (z6.2.2.1 < (list.2.1 : Int))) (
ixK list.1 list.2.1 z6.2.2.1 fun a8 =>
ldN [(.i .i64), (.i .i64), (.i .i64)] (a8.add (z6.2.2.1.toNat * 3)) 0 w7 fun x9 =>
alK [.int .i64 0, .int .i64 0, .int .i64 0] T.ref12_Entry w7 fun p10 w11 =>
stN [.int .i64 x9.1, .int .i64 x9.2.1, .int .i64 x9.2.2.1] p10 0 w11 fun w12 =>
ld1 (.i .i64) p10 w12 fun x13 =>
ld1 (.i .i64) (p10.add 1) w12 fun x14 =>
self5 (IntKind.wrap .i64 (z6.1 + x13), IntKind.wrap .i64 (z6.2.1 + x14), IntKind.wrap .i64 (z6.2.2.1 + 1), ()) w12) (
clS Tryz.prog F.ref01_Floor [.int .i64 z6.1, .int .i64 (list.2.1 : Int)] w7 true [(false, [(.i .i64)]), (false, [(.i .i64)])] fun r15 w16 =>
clS Tryz.prog F.ref01_Floor [.int .i64 z6.2.1, .int .i64 (list.2.1 : Int)] w16 true [(false, [(.i .i64)]), (false, [(.i .i64)])] fun r17 w18 =>
clS Tryz.prog F.ref13_Of [.int .i64 drift, .slice list.1 list.2.1 list.2.2] w18 true [(false, [(.i .i64)]), (false, [(.i .i64)])] fun r19 w20 =>
clS Tryz.prog F.ref12_Hops [.slice list.1 list.2.1 list.2.2] w20 false [(false, [(.i .i64)])] fun r21 w22 =>
stN [.int .i64 r15.1.1, .int .i64 r17.1.1, .int .i64 r19.1.1, .int .i64 r19.2.1.1, .int .i64 r21.1.1] p1 0 w22 fun w23 =>
ldN [(.i .i64), (.i .i64), (.i .i64), (.i .i64), (.i .i64)] p1 0 w23 fun x24 =>
R ((x24.1, x24.2.1, x24.2.2.1, x24.2.2.2.1, x24.2.2.2.2.1, ()), (true, ()), ()) w23)) (0, 0, 0, ()) w2)
set_option maxRecDepth 100000 in
theorem ref14_Of.eq (drift : Int) (list : Option Addr × Nat × Nat) (w : World) (R : Value → World → Prop) : wpF Tryz.prog Tryz.f227 (.s .n (.s .n (.s .n (.s .n (.s (.s .n (.lp [(7, (.i .i64)), (8, (.i .i64)), (24, (.i .i64))] .n)) .n))))) [.int .i64 drift, .slice list.1 list.2.1 list.2.2] w R = ref14_Of.wp drift list w (fun r w => R (encR true [(true, [(.i .i64), (.i .i64), (.i .i64), (.i .i64), (.i .i64)]), (false, [.b])] r) w) := by kernel_rfl
set_option maxRecDepth 100000 in
theorem ref14_Of.ok {drift : Int} {list : Option Addr × Nat × Nat} {w : World} {R : TR [(true, [(.i .i64), (.i .i64), (.i .i64), (.i .i64), (.i .i64)]), (false, [.b])] → World → Prop} (h : ref14_Of.wp drift list w R) : clS Tryz.prog F.ref14_Of [.int .i64 drift, .slice list.1 list.2.1 list.2.2] w true [(true, [(.i .i64), (.i .i64), (.i .i64), (.i .i64), (.i .i64)]), (false, [.b])] R :=
  ok_of Tryz_follows Tryz.func227 (fun R => ref14_Of.wp drift list w R) (ref14_Of.eq drift list w) rfl h
/-! ### ref14_Global -/
set_option maxRecDepth 100000 in
def ref14_Global.wp (m0 : Int) (m1 : Int) (m2 : Int) (m3 : Int) (m4 : Int) (local_ : Int) (w : World) (R : TR [(false, [(.i .i64)]), (false, [.b])] → World → Prop) : Prop :=
alK [.int .i64 m0, .int .i64 m1, .int .i64 m2, .int .i64 m3, .int .i64 m4] T.ref14_Map w fun p1 w2 =>
brB (decide (local_ < 0)) (
R ((0, ()), (false, ()), ()) w2) (
brB (decide (local_ > 1125899906842624)) (
R ((0, ()), (false, ()), ()) w2) (
ldN [(.i .i64), (.i .i64), (.i .i64), (.i .i64), (.i .i64)] p1 0 w2 fun x3 =>
clS Tryz.prog F.ref14_Raw [.agg #[.int .i64 x3.1, .int .i64 x3.2.1, .int .i64 x3.2.2.1, .int .i64 x3.2.2.2.1, .int .i64 x3.2.2.2.2.1], .int .i64 local_] w2 false [(false, [(.i .i64)])] fun r4 w5 =>
brB (decide (r4.1.1 < 0)) (
R ((0, ()), (false, ()), ()) w5) (
brB (decide (r4.1.1 > 1125899906842624)) (
R ((0, ()), (false, ()), ()) w5) (
R ((r4.1.1, ()), (true, ()), ()) w5))))
set_option maxRecDepth 100000 in
theorem ref14_Global.eq (m0 : Int) (m1 : Int) (m2 : Int) (m3 : Int) (m4 : Int) (local_ : Int) (w : World) (R : Value → World → Prop) : wpF Tryz.prog Tryz.f228 .n [.agg #[.int .i64 m0, .int .i64 m1, .int .i64 m2, .int .i64 m3, .int .i64 m4], .int .i64 local_] w R = ref14_Global.wp m0 m1 m2 m3 m4 local_ w (fun r w => R (encR true [(false, [(.i .i64)]), (false, [.b])] r) w) := by kernel_rfl
set_option maxRecDepth 100000 in
theorem ref14_Global.ok {m0 : Int} {m1 : Int} {m2 : Int} {m3 : Int} {m4 : Int} {local_ : Int} {w : World} {R : TR [(false, [(.i .i64)]), (false, [.b])] → World → Prop} (h : ref14_Global.wp m0 m1 m2 m3 m4 local_ w R) : clS Tryz.prog F.ref14_Global [.agg #[.int .i64 m0, .int .i64 m1, .int .i64 m2, .int .i64 m3, .int .i64 m4], .int .i64 local_] w true [(false, [(.i .i64)]), (false, [.b])] R :=
  ok_of Tryz_follows Tryz.func228 (fun R => ref14_Global.wp m0 m1 m2 m3 m4 local_ w R) (ref14_Global.eq m0 m1 m2 m3 m4 local_ w) rfl h
/-! ### ref15_Newer -/
set_option maxRecDepth 100000 in
def ref15_Newer.wp (b1 : Int) (s1 : Int) (b2 : Int) (s2 : Int) (w : World) (R : TR [(false, [.b])] → World → Prop) : Prop :=
brB (b1 == b2) (
clS Tryz.prog F.ref02_Newer [.int .u16 s1, .int .u16 s2] w false [(false, [.b])] fun r1 w2 =>
R ((r1.1.1, ()), ()) w2) (
clS Tryz.prog F.ref02_Newer [.int .u16 b1, .int .u16 b2] w false [(false, [.b])] fun r3 w4 =>
R ((r3.1.1, ()), ()) w4)
set_option maxRecDepth 100000 in
theorem ref15_Newer.eq (b1 : Int) (s1 : Int) (b2 : Int) (s2 : Int) (w : World) (R : Value → World → Prop) : wpF Tryz.prog Tryz.f229 .n [.int .u16 b1, .int .u16 s1, .int .u16 b2, .int .u16 s2] w R = ref15_Newer.wp b1 s1 b2 s2 w (fun r w => R (encR false [(false, [.b])] r) w) := by kernel_rfl
set_option maxRecDepth 100000 in
theorem ref15_Newer.ok {b1 : Int} {s1 : Int} {b2 : Int} {s2 : Int} {w : World} {R : TR [(false, [.b])] → World → Prop} (h : ref15_Newer.wp b1 s1 b2 s2 w R) : clS Tryz.prog F.ref15_Newer [.int .u16 b1, .int .u16 s1, .int .u16 b2, .int .u16 s2] w false [(false, [.b])] R :=
  ok_of Tryz_follows Tryz.func229 (fun R => ref15_Newer.wp b1 s1 b2 s2 w R) (ref15_Newer.eq b1 s1 b2 s2 w) rfl h
/-! ### ref01_Floor -/
set_option maxRecDepth 100000 in
def ref01_Floor.wp (a : Int) (b : Int) (w : World) (R : TR [(false, [(.i .i64)]), (false, [(.i .i64)])] → World → Prop) : Prop :=
nzK b (
CutT (fun (J1 : ((Bool) × Unit) → World → Prop) =>
nzK b (
brB ((Int.tmod a b) != 0) (
J1 (decide (a < 0), ()) w) (
J1 (false, ()) w))) (fun (z2 : (Bool) × Unit) w3 => ∀ _ : Nat → Value,
brB z2.1 (
drK w3 fun w4 =>
nzK b (
R ((IntKind.wrap .i64 ((IntKind.wrap .i64 (Int.tdiv a b)) - 1), ()), (IntKind.wrap .i64 ((Int.tmod a b) + b), ()), ()) w4)) (
drK w3 fun w5 =>
nzK b (
R ((IntKind.wrap .i64 (Int.tdiv a b), ()), (Int.tmod a b, ()), ()) w5))))
set_option maxRecDepth 100000 in
theorem ref01_Floor.eq (a : Int) (b : Int) (w : World) (R : Value → World → Prop) : wpF Tryz.prog Tryz.f230 (.s .n (.s .n (.s (.ct [(17, .b)] .n (.s (.s (.pl (.tk 0 (.tk 1 (.tk 2 (.tk 3 (.tk 4 (.tk 5 (.tk 6 (.tk 7 (.tk 8 .z)))))))))) .n) .n)) (.s (.pl (.tk 0 (.tk 1 (.tk 2 (.tk 3 (.tk 4 (.tk 5 .z))))))) .n)))) [.int .i64 a, .int .i64 b] w R = ref01_Floor.wp a b w (fun r w => R (encR true [(false, [(.i .i64)]), (false, [(.i .i64)])] r) w) := by kernel_rfl
set_option maxRecDepth 100000 in
theorem ref01_Floor.ok {a : Int} {b : Int} {w : World} {R : TR [(false, [(.i .i64)]), (false, [(.i .i64)])] → World → Prop} (h : ref01_Floor.wp a b w R) : clS Tryz.prog F.ref01_Floor [.int .i64 a, .int .i64 b] w true [(false, [(.i .i64)]), (false, [(.i .i64)])] R :=
  ok_of Tryz_follows Tryz.func230 (fun R => ref01_Floor.wp a b w R) (ref01_Floor.eq a b w) rfl h
/-! ### crc_step -/
set_option maxRecDepth 100000 in
def crc_step.wp (sum : Int) (b : Int) (w : World) (R : TR [(false, [(.i .u16)])] → World → Prop) : Prop :=
shK 8 (
LoopT (fun (self1 : ((Int) × (Int) × Unit) → World → Prop) (z2 : (Int) × (Int) × Unit) w3 => ∀ _ : Nat → Value,
brB (decide (z2.2.1 < 8)) (
shK 1 (
brB ((bitsX .and .u16 z2.1 32768) != 0) (
self1 (bitsX .xor .u16 (shlX .u16 z2.1 1) 4129, IntKind.wrap .i64 (z2.2.1 + 1), ()) w3) (
self1 (shlX .u16 z2.1 1, IntKind.wrap .i64 (z2.2.1 + 1), ()) w3))) (
R ((z2.1, ()), ()) w3)) (bitsX .xor .u16 sum (shlX .u16 (IntKind.wrap .u16 b) 8), 0, ()) w)
set_option maxRecDepth 100000 in
theorem crc_step.eq (sum : Int) (b : Int) (w : World) (R : Value → World → Prop) : wpF Tryz.prog Tryz.f231 (.s .n (.s .n (.s (.s .n (.lp [(0, (.i .u16)), (11, (.i .i64))] .n)) .n))) [.int .u16 sum, .int .u8 b] w R = crc_step.wp sum b w (fun r w => R (encR false [(false, [(.i .u16)])] r) w) := by kernel_rfl
set_option maxRecDepth 100000 in
theorem crc_step.ok {sum : Int} {b : Int} {w : World} {R : TR [(false, [(.i .u16)])] → World → Prop} (h : crc_step.wp sum b w R) : clS Tryz.prog F.crc_step [.int .u16 sum, .int .u8 b] w false [(false, [(.i .u16)])] R :=
  ok_of Tryz_follows Tryz.func231 (fun R => crc_step.wp sum b w R) (crc_step.eq sum b w) rfl h
/-! ### slope_sums_add -/
set_option maxRecDepth 100000 in
def slope_sums_add.wp (s : Option Addr) (x : Int) (y : Int) (w : World) (R : TR [] → World → Prop) : Prop :=
ncK s fun a1 =>
ld1 (.i .i64) a1 w fun x2 =>
ncK s fun a3 =>
stN [.int .i64 (IntKind.wrap .i64 (x2 + 1))] a3 0 w fun w4 =>
ncK s fun a5 =>
ld1 (.i .i64) (a5.add 1) w4 fun x6 =>
ncK s fun a7 =>
stN [.int .i64 (IntKind.wrap .i64 (x6 + x))] (a7.add 1) 0 w4 fun w8 =>
ncK s fun a9 =>
ld1 (.i .i64) (a9.add 2) w8 fun x10 =>
ncK s fun a11 =>
stN [.int .i64 (IntKind.wrap .i64 (x10 + y))] (a11.add 2) 0 w8 fun w12 =>
ncK s fun a13 =>
ld1 (.i .i64) (a13.add 3) w12 fun x14 =>
ncK s fun a15 =>
stN [.int .i64 (IntKind.wrap .i64 (x14 + (IntKind.wrap .i64 (x * y))))] (a15.add 3) 0 w12 fun w16 =>
ncK s fun a17 =>
ld1 (.i .i64) (a17.add 4) w16 fun x18 =>
ncK s fun a19 =>
stN [.int .i64 (IntKind.wrap .i64 (x18 + (IntKind.wrap .i64 (x * x))))] (a19.add 4) 0 w16 fun w20 =>
R (()) w20
set_option maxRecDepth 100000 in
theorem slope_sums_add.eq (s : Option Addr) (x : Int) (y : Int) (w : World) (R : Value → World → Prop) : wpF Tryz.prog Tryz.f232 .n [.pointer s, .int .i64 x, .int .i64 y] w R = slope_sums_add.wp s x y w (fun r w => R (encR true [] r) w) := by kernel_rfl
set_option maxRecDepth 100000 in
theorem slope_sums_add.ok {s : Option Addr} {x : Int} {y : Int} {w : World} {R : TR [] → World → Prop} (h : slope_sums_add.wp s x y w R) : clS Tryz.prog F.slope_sums_add [.pointer s, .int .i64 x, .int .i64 y] w true [] R :=
  ok_of Tryz_follows Tryz.func232 (fun R => slope_sums_add.wp s x y w R) (slope_sums_add.eq s x y w) rfl h
/-! ### bits_Mul64 -/
set_option maxRecDepth 100000 in
def bits_Mul64.wp (x : Int) (y : Int) (w : World) (R : TR [(false, [(.i .u64)]), (false, [(.i .u64)])] → World → Prop) : Prop :=
shK 32 (
shK 32 (
shK 32 (
shK 32 (
shK 32 (
R ((IntKind.wrap .u64 ((IntKind.wrap .u64 ((IntKind.wrap .u64 ((shrX .u64 x 32) * (shrX .u64 y 32))) + (shrX .u64 (IntKind.wrap .u64 ((IntKind.wrap .u64 ((shrX .u64 x 32) * (bitsX .and .u64 y 4294967295))) + (shrX .u64 (IntKind.wrap .u64 ((bitsX .and .u64 x 4294967295) * (bitsX .and .u64 y 4294967295))) 32))) 32))) + (shrX .u64 (IntKind.wrap .u64 ((bitsX .and .u64 (IntKind.wrap .u64 ((IntKind.wrap .u64 ((shrX .u64 x 32) * (bitsX .and .u64 y 4294967295))) + (shrX .u64 (IntKind.wrap .u64 ((bitsX .and .u64 x 4294967295) * (bitsX .and .u64 y 4294967295))) 32))) 4294967295) + (IntKind.wrap .u64 ((bitsX .and .u64 x 4294967295) * (shrX .u64 y 32))))) 32)), ()), (IntKind.wrap .u64 (x * y), ()), ()) w)))))
set_option maxRecDepth 100000 in
theorem bits_Mul64.eq (x : Int) (y : Int) (w : World) (R : Value → World → Prop) : wpF Tryz.prog Tryz.f233 .n [.int .u64 x, .int .u64 y] w R = bits_Mul64.wp x y w (fun r w => R (encR true [(false, [(.i .u64)]), (false, [(.i .u64)])] r) w) := by kernel_rfl
set_option maxRecDepth 100000 in
theorem bits_Mul64.ok {x : Int} {y : Int} {w : World} {R : TR [(false, [(.i .u64)]), (false, [(.i .u64)])] → World → Prop} (h : bits_Mul64.wp x y w R) : clS Tryz.prog F.bits_Mul64 [.int .u64 x, .int .u64 y] w true [(false, [(.i .u64)]), (false, [(.i .u64)])] R :=
  ok_of Tryz_follows Tryz.func233 (fun R => bits_Mul64.wp x y w R) (bits_Mul64.eq x y w) rfl h
/-! ### slices_AppendSeq_table_Entry_table_Entry -/
set_option maxRecDepth 100000 in
def slices_AppendSeq_table_Entry_table_Entry.wp (s : Option Addr × Nat × Nat) (seq : Value) (w : World) (R : TR [(false, [.sl])] → World → Prop) : Prop :=
alK [.slice s.1 s.2.1 s.2.2] T.sl_table_Entry w fun p1 w2 =>
RfT Tryz.prog seq [(true, [(.i .i64), (.i .i64), (.i .i64)])] w2 (fun x3 k4 w5 =>
alK [.int .i64 0, .int .i64 0, .int .i64 0] T.table_Entry w5 fun p11 w12 =>
stN [.int .i64 x3.1.1, .int .i64 x3.1.2.1, .int .i64 x3.1.2.2.1] p11 0 w12 fun w13 =>
k4 w13 fun go6 lv7 w8 =>
ld1 .sl p1 w8 fun x14 =>
ldN [(.i .i64), (.i .i64), (.i .i64)] p11 0 w8 fun x15 =>
alK [.int .i64 x15.1, .int .i64 x15.2.1, .int .i64 x15.2.2.1] T.table_Entry w8 fun p16 w17 =>
slOf ((Builtin.append_ #[T.sl_table_Entry, T.sl_table_Entry] T.sl_table_Entry #[.slice x14.1 x14.2.1 x14.2.2, .slice (some p16) 1 1]).run Tryz.prog w17) fun y18 w19 =>
stN [.slice y18.1 y18.2.1 y18.2.2] p1 0 w19 fun w20 =>
go6 w20) (fun D9 w10 =>
ld1 .sl p1 w10 fun x21 =>
tkK D9 w10 fun w22 =>
R (((x21.1, x21.2.1, x21.2.2), ()), ()) w22) []
set_option maxRecDepth 100000 in
theorem slices_AppendSeq_table_Entry_table_Entry.eq (s : Option Addr × Nat × Nat) (seq : Value) (w : World) (R : Value → World → Prop) : wpF Tryz.prog Tryz.f234 (.s .n (.s (.s .n (.rf [(true, [(.i .i64), (.i .i64), (.i .i64)])] .n .n)) .n)) [.slice s.1 s.2.1 s.2.2, seq] w R = slices_AppendSeq_table_Entry_table_Entry.wp s seq w (fun r w => R (encR false [(false, [.sl])] r) w) := by kernel_rfl
set_option maxRecDepth 100000 in
theorem slices_AppendSeq_table_Entry_table_Entry.ok {s : Option Addr × Nat × Nat} {seq : Value} {w : World} {R : TR [(false, [.sl])] → World → Prop} (h : slices_AppendSeq_table_Entry_table_Entry.wp s seq w R) : clS Tryz.prog F.slices_AppendSeq_table_Entry_table_Entry [.slice s.1 s.2.1 s.2.2, seq] w false [(false, [.sl])] R :=
  ok_of Tryz_follows Tryz.func234 (fun R => slices_AppendSeq_table_Entry_table_Entry.wp s seq w R) (slices_AppendSeq_table_Entry_table_Entry.eq s seq w) rfl h
/-! ### fix_Size -/
set_option maxRecDepth 100000 in
def fix_Size.wp (n : Int) (w : World) (R : TR [(false, [(.i .u64)])] → World → Prop) : Prop :=
brB (decide (n < 0)) (
R ((IntKind.wrap .u64 (0 - (IntKind.wrap .u64 n)), ()), ()) w) (
R ((IntKind.wrap .u64 n, ()), ()) w)
set_option maxRecDepth 100000 in
theorem fix_Size.eq (n : Int) (w : World) (R : Value → World → Prop) : wpF Tryz.prog Tryz.f235 .n [.int .i64 n] w R = fix_Size.wp n w (fun r w => R (encR false [(false, [(.i .u64)])] r) w) := by kernel_rfl
set_option maxRecDepth 100000 in
theorem fix_Size.ok {n : Int} {w : World} {R : TR [(false, [(.i .u64)])] → World → Prop} (h : fix_Size.wp n w R) : clS Tryz.prog F.fix_Size [.int .i64 n] w false [(false, [(.i .u64)])] R :=
  ok_of Tryz_follows Tryz.func235 (fun R => fix_Size.wp n w R) (fix_Size.eq n w) rfl h
/-! ### bits_Div64 -/
set_option maxRecDepth 100000 in
def bits_Div64.wp (hi : Int) (lo : Int) (y : Int) (w : World) (R : TR [(false, [(.i .u64)]), (false, [(.i .u64)])] → World → Prop) : Prop :=
brB (y == 0) (
ld1 .any ⟨0, 0, none⟩ w fun x1 =>
False) (
brB (decide (y ≤ hi)) (
ld1 .any ⟨1, 0, none⟩ w fun x2 =>
False) (
brB (hi == 0) (
drK w fun w3 =>
nzK y (
nzK y (
R ((IntKind.wrap .u64 (Int.tdiv lo y), ()), (Int.tmod lo y, ()), ()) w3))) (
clS Tryz.prog F.bits_LeadingZeros64 [.int .u64 y] w false [(false, [(.i .i64)])] fun r4 w5 =>
shK (IntKind.wrap .u64 r4.1.1) (
shK 32 (
shK (IntKind.wrap .u64 r4.1.1) (
shK (IntKind.wrap .u64 (64 - (IntKind.wrap .u64 r4.1.1))) (
shK (IntKind.wrap .u64 r4.1.1) (
shK 32 (
nzK (shrX .u64 (shlX .u64 y (IntKind.wrap .u64 r4.1.1)) 32) (
CutT (fun (J6 : ((Int) × Unit) → World → Prop) =>
LoopT (fun (self9 : ((Int) × (Int) × Unit) → World → Prop) (z10 : (Int) × (Int) × Unit) w11 => ∀ _ : Nat → Value,
CutT (fun (J12 : Unit → World → Prop) =>
brB (decide (z10.1 ≥ 4294967296)) (
J12 (()) w11) (
brB (decide ((IntKind.wrap .u64 (z10.1 * (bitsX .and .u64 (shlX .u64 y (IntKind.wrap .u64 r4.1.1)) 4294967295))) > (IntKind.wrap .u64 ((IntKind.wrap .u64 (4294967296 * z10.2.1)) + (shrX .u64 (shlX .u64 lo (IntKind.wrap .u64 r4.1.1)) 32))))) (
J12 (()) w11) (
J6 (z10.1, ()) w11))) (fun (z13 : Unit) w14 => ∀ _ : Nat → Value,
brB (decide ((IntKind.wrap .u64 (z10.2.1 + (shrX .u64 (shlX .u64 y (IntKind.wrap .u64 r4.1.1)) 32))) ≥ 4294967296)) (
J6 (IntKind.wrap .u64 (z10.1 - 1), ()) w14) (
self9 (IntKind.wrap .u64 (z10.1 - 1), IntKind.wrap .u64 (z10.2.1 + (shrX .u64 (shlX .u64 y (IntKind.wrap .u64 r4.1.1)) 32)), ()) w14))) (IntKind.wrap .u64 (Int.tdiv (bitsX .or .u64 (shlX .u64 hi (IntKind.wrap .u64 r4.1.1)) (shrX .u64 lo (IntKind.wrap .u64 (64 - (IntKind.wrap .u64 r4.1.1))))) (shrX .u64 (shlX .u64 y (IntKind.wrap .u64 r4.1.1)) 32)), IntKind.wrap .u64 ((bitsX .or .u64 (shlX .u64 hi (IntKind.wrap .u64 r4.1.1)) (shrX .u64 lo (IntKind.wrap .u64 (64 - (IntKind.wrap .u64 r4.1.1))))) - (IntKind.wrap .u64 ((IntKind.wrap .u64 (Int.tdiv (bitsX .or .u64 (shlX .u64 hi (IntKind.wrap .u64 r4.1.1)) (shrX .u64 lo (IntKind.wrap .u64 (64 - (IntKind.wrap .u64 r4.1.1))))) (shrX .u64 (shlX .u64 y (IntKind.wrap .u64 r4.1.1)) 32))) * (shrX .u64 (shlX .u64 y (IntKind.wrap .u64 r4.1.1)) 32)))), ()) w5) (fun (z7 : (Int) × Unit) w8 => ∀ _ : Nat → Value,
nzK (shrX .u64 (shlX .u64 y (IntKind.wrap .u64 r4.1.1)) 32) (
CutT (fun (J15 : ((Int) × Unit) → World → Prop) =>
LoopT (fun (self18 : ((Int) × (Int) × Unit) → World → Prop) (z19 : (Int) × (Int) × Unit) w20 => ∀ _ : Nat → Value,
CutT (fun (J21 : Unit → World → Prop) =>
brB (decide (z19.2.1 ≥ 4294967296)) (
J21 (()) w20) (
brB (decide ((IntKind.wrap .u64 (z19.2.1 * (bitsX .and .u64 (shlX .u64 y (IntKind.wrap .u64 r4.1.1)) 4294967295))) > (IntKind.wrap .u64 ((IntKind.wrap .u64 (4294967296 * z19.1)) + (bitsX .and .u64 (shlX .u64 lo (IntKind.wrap .u64 r4.1.1)) 4294967295))))) (
J21 (()) w20) (
J15 (z19.2.1, ()) w20))) (fun (z22 : Unit) w23 => ∀ _ : Nat → Value,
brB (decide ((IntKind.wrap .u64 (z19.1 + (shrX .u64 (shlX .u64 y (IntKind.wrap .u64 r4.1.1)) 32))) ≥ 4294967296)) (
J15 (IntKind.wrap .u64 (z19.2.1 - 1), ()) w23) (
self18 (IntKind.wrap .u64 (z19.1 + (shrX .u64 (shlX .u64 y (IntKind.wrap .u64 r4.1.1)) 32)), IntKind.wrap .u64 (z19.2.1 - 1), ()) w23))) (IntKind.wrap .u64 ((IntKind.wrap .u64 ((IntKind.wrap .u64 ((IntKind.wrap .u64 ((bitsX .or .u64 (shlX .u64 hi (IntKind.wrap .u64 r4.1.1)) (shrX .u64 lo (IntKind.wrap .u64 (64 - (IntKind.wrap .u64 r4.1.1))))) * 4294967296)) + (shrX .u64 (shlX .u64 lo (IntKind.wrap .u64 r4.1.1)) 32))) - (IntKind.wrap .u64 (z7.1 * (shlX .u64 y (IntKind.wrap .u64 r4.1.1)))))) - (IntKind.wrap .u64 ((IntKind.wrap .u64 (Int.tdiv (IntKind.wrap .u64 ((IntKind.wrap .u64 ((IntKind.wrap .u64 ((bitsX .or .u64 (shlX .u64 hi (IntKind.wrap .u64 r4.1.1)) (shrX .u64 lo (IntKind.wrap .u64 (64 - (IntKind.wrap .u64 r4.1.1))))) * 4294967296)) + (shrX .u64 (shlX .u64 lo (IntKind.wrap .u64 r4.1.1)) 32))) - (IntKind.wrap .u64 (z7.1 * (shlX .u64 y (IntKind.wrap .u64 r4.1.1)))))) (shrX .u64 (shlX .u64 y (IntKind.wrap .u64 r4.1.1)) 32))) * (shrX .u64 (shlX .u64 y (IntKind.wrap .u64 r4.1.1)) 32)))), IntKind.wrap .u64 (Int.tdiv (IntKind.wrap .u64 ((IntKind.wrap .u64 ((IntKind.wrap .u64 ((bitsX .or .u64 (shlX .u64 hi (IntKind.wrap .u64 r4.1.1)) (shrX .u64 lo (IntKind.wrap .u64 (64 - (IntKind.wrap .u64 r4.1.1))))) * 4294967296)) + (shrX .u64 (shlX .u64 lo (IntKind.wrap .u64 r4.1.1)) 32))) - (IntKind.wrap .u64 (z7.1 * (shlX .u64 y (IntKind.wrap .u64 r4.1.1)))))) (shrX .u64 (shlX .u64 y (IntKind.wrap .u64 r4.1.1)) 32)), ()) w8) (fun (z16 : (Int) × Unit) w17 => ∀ _ : Nat → Value,
shK (IntKind.wrap .u64 r4.1.1) (
R ((IntKind.wrap .u64 ((IntKind.wrap .u64 (z7.1 * 4294967296)) + z16.1), ()), (shrX .u64 (IntKind.wrap .u64 ((IntKind.wrap .u64 ((IntKind.wrap .u64 ((IntKind.wrap .u64 ((IntKind.wrap .u64 ((IntKind.wrap .u64 ((bitsX .or .u64 (shlX .u64 hi (IntKind.wrap .u64 r4.1.1)) (shrX .u64 lo (IntKind.wrap .u64 (64 - (IntKind.wrap .u64 r4.1.1))))) * 4294967296)) + (shrX .u64 (shlX .u64 lo (IntKind.wrap .u64 r4.1.1)) 32))) - (IntKind.wrap .u64 (z7.1 * (shlX .u64 y (IntKind.wrap .u64 r4.1.1)))))) * 4294967296)) + (bitsX .and .u64 (shlX .u64 lo (IntKind.wrap .u64 r4.1.1)) 4294967295))) - (IntKind.wrap .u64 (z16.1 * (shlX .u64 y (IntKind.wrap .u64 r4.1.1)))))) (IntKind.wrap .u64 r4.1.1), ()), ()) w17))))))))))))))
set_option maxRecDepth 100000 in
theorem bits_Div64.eq (hi : Int) (lo : Int) (y : Int) (w : World) (R : Value → World → Prop) : wpF Tryz.prog Tryz.f236 (.s .n (.s .n (.s .n (.s (.s .n (.s (.s (.pl (.tk 0 (.tk 1 (.tk 2 (.tk 3 (.tk 4 (.tk 5 (.tk 6 (.tk 7 .z))))))))) .n) .n)) (.s .n (.s .n (.s .n (.s .n (.s .n (.s .n (.s .n (.s .n (.s .n (.s .n (.ct [(15, (.i .u64))] (.lp [(15, (.i .u64)), (16, (.i .u64))] (.ct [] .n .n)) (.s .n (.s .n (.s .n (.ct [(18, (.i .u64))] (.lp [(16, (.i .u64)), (18, (.i .u64))] (.ct [] .n .n)) .n))))))))))))))))))) [.int .u64 hi, .int .u64 lo, .int .u64 y] w R = bits_Div64.wp hi lo y w (fun r w => R (encR true [(false, [(.i .u64)]), (false, [(.i .u64)])] r) w) := by kernel_rfl
set_option maxRecDepth 100000 in
theorem bits_Div64.ok {hi : Int} {lo : Int} {y : Int} {w : World} {R : TR [(false, [(.i .u64)]), (false, [(.i .u64)])] → World → Prop} (h : bits_Div64.wp hi lo y w R) : clS Tryz.prog F.bits_Div64 [.int .u64 hi, .int .u64 lo, .int .u64 y] w true [(false, [(.i .u64)]), (false, [(.i .u64)])] R :=
  ok_of Tryz_follows Tryz.func236 (fun R => bits_Div64.wp hi lo y w R) (bits_Div64.eq hi lo y w) rfl h
/-! ### ref13_Of -/
set_option maxRecDepth 100000 in
def ref13_Of.wp (drift : Int) (list : Option Addr × Nat × Nat) (w : World) (R : TR [(false, [(.i .i64)]), (false, [(.i .i64)])] → World → Prop) : Prop :=
brB (decide ((list.2.1 : Int) < 2)) (
R ((0, ()), (1, ()), ()) w) (
brB (decide ((list.2.1 : Int) > 8)) (
R ((0, ()), (1, ()), ()) w) (
LoopT (fun (self1 : ((Int) × Unit) → World → Prop) (z2 : (Int) × Unit) w3 => ∀ _ : Nat → Value,
brB (decide (z2.1 < (list.2.1 : Int))) (
ixK list.1 list.2.1 z2.1 fun a4 =>
ldN [(.i .i64), (.i .i64), (.i .i64)] (a4.add (z2.1.toNat * 3)) 0 w3 fun x5 =>
alK [.int .i64 0, .int .i64 0, .int .i64 0] T.ref12_Entry w3 fun p6 w7 =>
stN [.int .i64 x5.1, .int .i64 x5.2.1, .int .i64 x5.2.2.1] p6 0 w7 fun w8 =>
ldN [(.i .i64), (.i .i64), (.i .i64)] p6 0 w8 fun x9 =>
clS Tryz.prog F.ref12_Good [.agg #[.int .i64 x9.1, .int .i64 x9.2.1, .int .i64 x9.2.2.1]] w8 false [(false, [.b])] fun r10 w11 =>
brB (!r10.1.1) (
R ((0, ()), (1, ()), ()) w11) (
self1 (IntKind.wrap .i64 (z2.1 + 1), ()) w11)) (
LoopT (fun (self12 : ((Int) × (Int) × (Int) × (Int) × (Int) × Unit) → World → Prop) (z13 : (Int) × (Int) × (Int) × (Int) × (Int) × Unit) w14 => ∀ _ : Nat → Value,
brB (decide (z13.2.2.2.2.1 < (list.2.1 : Int))) (
ixK list.1 list.2.1 z13.2.2.2.2.1 fun a15 =>
ldN [(.i .i64), (.i .i64), (.i .i64)] (a15.add (z13.2.2.2.2.1.toNat * 3)) 0 w14 fun x16 =>
alK [.int .i64 0, .int .i64 0, .int .i64 0] T.ref12_Entry w14 fun p17 w18 =>
stN [.int .i64 x16.1, .int .i64 x16.2.1, .int .i64 x16.2.2.1] p17 0 w18 fun w19 =>
drK w19 fun w20 =>
ld1 (.i .i64) p17 w20 fun x21 =>
ixK list.1 list.2.1 0 fun a22 =>
ld1 (.i .i64) (a22.add ((0 : Int).toNat * 3)) w20 fun x23 =>
drK w20 fun w24 =>
ld1 (.i .i64) (p17.add 1) w24 fun x25 =>
ixK list.1 list.2.1 0 fun a26 =>
ld1 (.i .i64) ((a26.add ((0 : Int).toNat * 3)).add 1) w24 fun x27 =>
brB (decide ((IntKind.wrap .i64 (x21 - x23)) < 0)) (
R ((0, ()), (1, ()), ()) w24) (
brB (decide ((IntKind.wrap .i64 (x21 - x23)) > 4194304)) (
R ((0, ()), (1, ()), ()) w24) (
brB (decide ((IntKind.wrap .i64 (x25 - x27)) < (Int.negSucc 4194303))) (
R ((0, ()), (1, ()), ()) w24) (
brB (decide ((IntKind.wrap .i64 (x25 - x27)) > 4194304)) (
R ((0, ()), (1, ()), ()) w24) (
self12 (IntKind.wrap .i64 (z13.1 + (IntKind.wrap .i64 (x21 - x23))), IntKind.wrap .i64 (z13.2.1 + (IntKind.wrap .i64 (x25 - x27))), IntKind.wrap .i64 (z13.2.2.1 + (IntKind.wrap .i64 ((IntKind.wrap .i64 (x21 - x23)) * (IntKind.wrap .i64 (x25 - x27))))), IntKind.wrap .i64 (z13.2.2.2.1 + (IntKind.wrap .i64 ((IntKind.wrap .i64 (x21 - x23)) * (IntKind.wrap .i64 (x21 - x23))))), IntKind.wrap .i64 (z13.2.2.2.2.1 + 1), ()) w24))))) (
brB (decide ((IntKind.wrap .i64 ((IntKind.wrap .i64 ((list.2.1 : Int) * z13.2.2.2.1)) - (IntKind.wrap .i64 (z13.1 * z13.1)))) ≤ 0)) (
R ((0, ()), (1, ()), ()) w14) (
clS Tryz.prog F.ref13_Most [.int .i64 drift] w14 true [(false, [(.i .i64)]), (false, [(.i .i64)])] fun r28 w29 =>
CutT (fun (J30 : Unit → World → Prop) =>
brB (decide ((IntKind.wrap .i64 ((IntKind.wrap .i64 ((list.2.1 : Int) * z13.2.2.1)) - (IntKind.wrap .i64 (z13.1 * z13.2.1)))) > 0)) (
clS Tryz.prog F.ref13_Over [.int .i64 (IntKind.wrap .i64 ((IntKind.wrap .i64 ((list.2.1 : Int) * z13.2.2.1)) - (IntKind.wrap .i64 (z13.1 * z13.2.1)))), .int .i64 (IntKind.wrap .i64 ((IntKind.wrap .i64 ((list.2.1 : Int) * z13.2.2.2.1)) - (IntKind.wrap .i64 (z13.1 * z13.1)))), .int .i64 r28.1.1, .int .i64 r28.2.1.1] w29 false [(false, [.b])] fun r33 w34 =>
brB r33.1.1 (
R ((r28.1.1, ()), (r28.2.1.1, ()), ()) w34) (
J30 (()) w34)) (
J30 (()) w29)) (fun (z31 : Unit) w32 => ∀ _ : Nat → Value,
brB (decide ((IntKind.wrap .i64 ((IntKind.wrap .i64 ((list.2.1 : Int) * z13.2.2.1)) - (IntKind.wrap .i64 (z13.1 * z13.2.1)))) < 0)) (
clS Tryz.prog F.ref13_Over [.int .i64 (IntKind.wrap .i64 (0 - (IntKind.wrap .i64 ((IntKind.wrap .i64 ((list.2.1 : Int) * z13.2.2.1)) - (IntKind.wrap .i64 (z13.1 * z13.2.1)))))), .int .i64 (IntKind.wrap .i64 ((IntKind.wrap .i64 ((list.2.1 : Int) * z13.2.2.2.1)) - (IntKind.wrap .i64 (z13.1 * z13.1)))), .int .i64 r28.1.1, .int .i64 r28.2.1.1] w32 false [(false, [.b])] fun r35 w36 =>
brB r35.1.1 (
R ((IntKind.wrap .i64 (0 - r28.1.1), ()), (r28.2.1.1, ()), ()) w36) (
R ((IntKind.wrap .i64 ((IntKind.wrap .i64 ((list.2.1 : Int) * z13.2.2.1)) - (IntKind.wrap .i64 (z13.1 * z13.2.1))), ()), (IntKind.wrap .i64 ((IntKind.wrap .i64 ((list.2.1 : Int) * z13.2.2.2.1)) - (IntKind.wrap .i64 (z13.1 * z13.1))), ()), ()) w36)) (
R ((IntKind.wrap .i64 ((IntKind.wrap .i64 ((list.2.1 : Int) * z13.2.2.1)) - (IntKind.wrap .i64 (z13.1 * z13.2.1))), ()), (IntKind.wrap .i64 ((IntKind.wrap .i64 ((list.2.1 : Int) * z13.2.2.2.1)) - (IntKind.wrap .i64 (z13.1 * z13.1))), ()), ()) w32))))) (0, 0, 0, 0, 0, ()) w3)) (0, ()) w))
set_option maxRecDepth 100000 in
theorem ref13_Of.eq (drift : Int) (list : Option Addr × Nat × Nat) (w : World) (R : Value → World → Prop) : wpF Tryz.prog Tryz.f240 (.s .n (.s .n (.s .n (.s .n (.s (.s .n (.lp [(31, (.i .i64))] .n)) (.s (.s .n (.lp [(7, (.i .i64)), (8, (.i .i64)), (9, (.i .i64)), (10, (.i .i64)), (41, (.i .i64))] (.s .n (.s .n (.s (.s .n (.s (.pl (.tk 0 (.tk 1 (.tk 2 (.tk 3 (.tk 4 (.tk 5 (.tk 6 (.tk 7 .z))))))))) (.s (.pl (.tk 0 (.tk 1 (.tk 2 (.tk 3 (.tk 4 (.tk 5 (.tk 6 (.tk 7 .z))))))))) .n))) .n))))) (.s .n (.s .n (.s .n (.s .n (.ct [] .n .n))))))))))) [.int .i64 drift, .slice list.1 list.2.1 list.2.2] w R = ref13_Of.wp drift list w (fun r w => R (encR true [(false, [(.i .i64)]), (false, [(.i .i64)])] r) w) := by kernel_rfl
set_option maxRecDepth 100000 in
theorem ref13_Of.ok {drift : Int} {list : Option Addr × Nat × Nat} {w : World} {R : TR [(false, [(.i .i64)]), (false, [(.i .i64)])] → World → Prop} (h : ref13_Of.wp drift list w R) : clS Tryz.prog F.ref13_Of [.int .i64 drift, .slice list.1 list.2.1 list.2.2] w true [(false, [(.i .i64)]), (false, [(.i .i64)])] R :=
  ok_of Tryz_follows Tryz.func240 (fun R => ref13_Of.wp drift list w R) (ref13_Of.eq drift list w) rfl h
/-! ### ref12_Hops -/
set_option maxRecDepth 100000 in
def ref12_Hops.wp (list : Option Addr × Nat × Nat) (w : World) (R : TR [(false, [(.i .i64)])] → World → Prop) : Prop :=
LoopT (fun (self1 : ((Int) × (Int) × Unit) → World → Prop) (z2 : (Int) × (Int) × Unit) w3 => ∀ _ : Nat → Value,
brB (decide (z2.2.1 < (list.2.1 : Int))) (
ixK list.1 list.2.1 z2.2.1 fun a4 =>
ldN [(.i .i64), (.i .i64), (.i .i64)] (a4.add (z2.2.1.toNat * 3)) 0 w3 fun x5 =>
alK [.int .i64 0, .int .i64 0, .int .i64 0] T.ref12_Entry w3 fun p6 w7 =>
stN [.int .i64 x5.1, .int .i64 x5.2.1, .int .i64 x5.2.2.1] p6 0 w7 fun w8 =>
ld1 (.i .i64) (p6.add 2) w8 fun x9 =>
self1 ((if x9 > z2.1 then x9 else z2.1), IntKind.wrap .i64 (z2.2.1 + 1), ()) w8) (
R ((z2.1, ()), ()) w3)) (0, 0, ()) w
set_option maxRecDepth 100000 in
theorem ref12_Hops.eq (list : Option Addr × Nat × Nat) (w : World) (R : Value → World → Prop) : wpF Tryz.prog Tryz.f241 (.s .n (.s .n (.s (.s .n (.lp [(3, (.i .i64)), (8, (.i .i64))] .n)) .n))) [.slice list.1 list.2.1 list.2.2] w R = ref12_Hops.wp list w (fun r w => R (encR false [(false, [(.i .i64)])] r) w) := by kernel_rfl
set_option maxRecDepth 100000 in
theorem ref12_Hops.ok {list : Option Addr × Nat × Nat} {w : World} {R : TR [(false, [(.i .i64)])] → World → Prop} (h : ref12_Hops.wp list w R) : clS Tryz.prog F.ref12_Hops [.slice list.1 list.2.1 list.2.2] w false [(false, [(.i .i64)])] R :=
  ok_of Tryz_follows Tryz.func241 (fun R => ref12_Hops.wp list w R) (ref12_Hops.eq list w) rfl h
/-! ### ref14_Raw -/
set_option maxRecDepth 100000 in
def ref14_Raw.wp (m0 : Int) (m1 : Int) (m2 : Int) (m3 : Int) (m4 : Int) (local_ : Int) (w : World) (R : TR [(false, [(.i .i64)])] → World → Prop) : Prop :=
alK [.int .i64 m0, .int .i64 m1, .int .i64 m2, .int .i64 m3, .int .i64 m4] T.ref14_Map w fun p1 w2 =>
drK w2 fun w3 =>
ld1 (.i .i64) (p1.add 1) w3 fun x4 =>
ld1 (.i .i64) (p1.add 2) w3 fun x5 =>
ld1 (.i .i64) (p1.add 3) w3 fun x6 =>
ld1 (.i .i64) p1 w3 fun x7 =>
clS Tryz.prog F.ref13_Gain [.int .i64 x5, .int .i64 x6, .int .i64 (IntKind.wrap .i64 (local_ - x7))] w3 false [(false, [(.i .i64)])] fun r8 w9 =>
Hold [(10, p1, (w3.cell? p1).getD undef), (2, (p1.add 1), (w3.cell? (p1.add 1)).getD undef)] w9 ∧ (
R ((IntKind.wrap .i64 ((IntKind.wrap .i64 (local_ + x4)) + r8.1.1), ()), ()) w9)
set_option maxRecDepth 100000 in
theorem ref14_Raw.eq (m0 : Int) (m1 : Int) (m2 : Int) (m3 : Int) (m4 : Int) (local_ : Int) (w : World) (R : Value → World → Prop) : wpF Tryz.prog Tryz.f242 (.s .n (.s (.pl (.tk 0 (.tk 1 (.tk 2 (.tk 3 (.tk 4 (.tk 5 (.tk 6 (.tk 7 (.tk 8 (.tk 9 (.tk 10 (.tk 11 (.ef 12 [5, 7] (.tk 13 (.tk 14 .z)))))))))))))))) .n)) [.agg #[.int .i64 m0, .int .i64 m1, .int .i64 m2, .int .i64 m3, .int .i64 m4], .int .i64 local_] w R = ref14_Raw.wp m0 m1 m2 m3 m4 local_ w (fun r w => R (encR false [(false, [(.i .i64)])] r) w) := by kernel_rfl
set_option maxRecDepth 100000 in
theorem ref14_Raw.ok {m0 : Int} {m1 : Int} {m2 : Int} {m3 : Int} {m4 : Int} {local_ : Int} {w : World} {R : TR [(false, [(.i .i64)])] → World → Prop} (h : ref14_Raw.wp m0 m1 m2 m3 m4 local_ w R) : clS Tryz.prog F.ref14_Raw [.agg #[.int .i64 m0, .int .i64 m1, .int .i64 m2, .int .i64 m3, .int .i64 m4], .int .i64 local_] w false [(false, [(.i .i64)])] R :=
  ok_of Tryz_follows Tryz.func242 (fun R => ref14_Raw.wp m0 m1 m2 m3 m4 local_ w R) (ref14_Raw.eq m0 m1 m2 m3 m4 local_ w) rfl h
/-! ### bits_LeadingZeros64 -/
set_option maxRecDepth 100000 in
def bits_LeadingZeros64.wp (x : Int) (w : World) (R : TR [(false, [(.i .i64)])] → World → Prop) : Prop :=
clS Tryz.prog F.bits_Len64 [.int .u64 x] w false [(false, [(.i .i64)])] fun r1 w2 =>
R ((IntKind.wrap .i64 (64 - r1.1.1), ()), ()) w2
set_option maxRecDepth 100000 in
theorem bits_LeadingZeros64.eq (x : Int) (w : World) (R : Value → World → Prop) : wpF Tryz.prog Tryz.f243 .n [.int .u64 x] w R = bits_LeadingZeros64.wp x w (fun r w => R (encR false [(false, [(.i .i64)])] r) w) := by kernel_rfl
set_option maxRecDepth 100000 in
theorem bits_LeadingZeros64.ok {x : Int} {w : World} {R : TR [(false, [(.i .i64)])] → World → Prop} (h : bits_LeadingZeros64.wp x w R) : clS Tryz.prog F.bits_LeadingZeros64 [.int .u64 x] w false [(false, [(.i .i64)])] R :=
  ok_of Tryz_follows Tryz.func243 (fun R => bits_LeadingZeros64.wp x w R) (bits_LeadingZeros64.eq x w) rfl h
/-! ### ref13_Most -/
set_option maxRecDepth 100000 in
def ref13_Most.wp (drift : Int) (w : World) (R : TR [(false, [(.i .i64)]), (false, [(.i .i64)])] → World → Prop) : Prop :=
R ((IntKind.wrap .i64 (2 * (if 10 < (if 0 > drift then 0 else drift) then 10 else (if 0 > drift then 0 else drift))), ()), (IntKind.wrap .i64 (1000 - (if 10 < (if 0 > drift then 0 else drift) then 10 else (if 0 > drift then 0 else drift))), ()), ()) w
set_option maxRecDepth 100000 in
theorem ref13_Most.eq (drift : Int) (w : World) (R : Value → World → Prop) : wpF Tryz.prog Tryz.f247 .n [.int .i64 drift] w R = ref13_Most.wp drift w (fun r w => R (encR true [(false, [(.i .i64)]), (false, [(.i .i64)])] r) w) := by kernel_rfl
set_option maxRecDepth 100000 in
theorem ref13_Most.ok {drift : Int} {w : World} {R : TR [(false, [(.i .i64)]), (false, [(.i .i64)])] → World → Prop} (h : ref13_Most.wp drift w R) : clS Tryz.prog F.ref13_Most [.int .i64 drift] w true [(false, [(.i .i64)]), (false, [(.i .i64)])] R :=
  ok_of Tryz_follows Tryz.func247 (fun R => ref13_Most.wp drift w R) (ref13_Most.eq drift w) rfl h
/-! ### ref13_Over -/
set_option maxRecDepth 100000 in
def ref13_Over.wp (a : Int) (b : Int) (c : Int) (d : Int) (w : World) (R : TR [(false, [.b])] → World → Prop) : Prop :=
LoopT (fun (self1 : ((Int) × (Int) × (Int) × Unit) → World → Prop) (z2 : (Int) × (Int) × (Int) × Unit) w3 => ∀ _ : Nat → Value,
brB (decide (z2.2.2.1 ≥ 0)) (
CutT (fun (J4 : ((Int) × (Int) × Unit) → World → Prop) =>
brB (decide ((IntKind.wrap .i64 (2 * z2.2.1)) ≥ b)) (
J4 (IntKind.wrap .i64 ((IntKind.wrap .i64 (2 * z2.1)) + 1), IntKind.wrap .i64 ((IntKind.wrap .i64 (2 * z2.2.1)) - b), ()) w3) (
J4 (IntKind.wrap .i64 (2 * z2.1), IntKind.wrap .i64 (2 * z2.2.1), ()) w3)) (fun (z5 : (Int) × (Int) × Unit) w6 => ∀ _ : Nat → Value,
shK (IntKind.wrap .u64 z2.2.2.1) (
nzK 2 (
brB ((Int.tmod (shrX .i64 d (IntKind.wrap .u64 z2.2.2.1)) 2) == 1) (
nzK b (
nzK b (
brB (decide ((IntKind.wrap .i64 (z5.2.1 + (Int.tmod a b))) ≥ b)) (
self1 (IntKind.wrap .i64 ((IntKind.wrap .i64 (z5.1 + (IntKind.wrap .i64 (Int.tdiv a b)))) + 1), IntKind.wrap .i64 ((IntKind.wrap .i64 (z5.2.1 + (Int.tmod a b))) - b), IntKind.wrap .i64 (z2.2.2.1 - 1), ()) w6) (
self1 (IntKind.wrap .i64 (z5.1 + (IntKind.wrap .i64 (Int.tdiv a b))), IntKind.wrap .i64 (z5.2.1 + (Int.tmod a b)), IntKind.wrap .i64 (z2.2.2.1 - 1), ()) w6)))) (
self1 (z5.1, z5.2.1, IntKind.wrap .i64 (z2.2.2.1 - 1), ()) w6))))) (
brB (decide (z2.1 > c)) (
R ((true, ()), ()) w3) (
brB (z2.1 == c) (
R ((decide (z2.2.1 > 0), ()), ()) w3) (
R ((false, ()), ()) w3)))) (0, 0, 9, ()) w
set_option maxRecDepth 100000 in
theorem ref13_Over.eq (a : Int) (b : Int) (c : Int) (d : Int) (w : World) (R : Value → World → Prop) : wpF Tryz.prog Tryz.f248 (.s .n (.s .n (.s .n (.s (.s .n (.lp [(9, (.i .i64)), (10, (.i .i64)), (11, (.i .i64))] (.s .n (.s (.s .n (.s .n (.ct [(9, (.i .i64)), (10, (.i .i64))] .n .n))) .n)))) .n)))) [.int .i64 a, .int .i64 b, .int .i64 c, .int .i64 d] w R = ref13_Over.wp a b c d w (fun r w => R (encR false [(false, [.b])] r) w) := by kernel_rfl
set_option maxRecDepth 100000 in
theorem ref13_Over.ok {a : Int} {b : Int} {c : Int} {d : Int} {w : World} {R : TR [(false, [.b])] → World → Prop} (h : ref13_Over.wp a b c d w R) : clS Tryz.prog F.ref13_Over [.int .i64 a, .int .i64 b, .int .i64 c, .int .i64 d] w false [(false, [.b])] R :=
  ok_of Tryz_follows Tryz.func248 (fun R => ref13_Over.wp a b c d w R) (ref13_Over.eq a b c d w) rfl h
/-! ### ref13_Gain -/
set_option maxRecDepth 100000 in
def ref13_Gain.wp (num : Int) (den : Int) (ticks : Int) (w : World) (R : TR [(false, [(.i .i64)])] → World → Prop) : Prop :=
clS Tryz.prog F.ref01_MulDiv [.int .i64 num, .int .i64 ticks, .int .i64 den] w true [(false, [(.i .i64)]), (false, [.b])] fun r1 w2 =>
R ((r1.1.1, ()), ()) w2
set_option maxRecDepth 100000 in
theorem ref13_Gain.eq (num : Int) (den : Int) (ticks : Int) (w : World) (R : Value → World → Prop) : wpF Tryz.prog Tryz.f249 .n [.int .i64 num, .int .i64 den, .int .i64 ticks] w R = ref13_Gain.wp num den ticks w (fun r w => R (encR false [(false, [(.i .i64)])] r) w) := by kernel_rfl
set_option maxRecDepth 100000 in
theorem ref13_Gain.ok {num : Int} {den : Int} {ticks : Int} {w : World} {R : TR [(false, [(.i .i64)])] → World → Prop} (h : ref13_Gain.wp num den ticks w R) : clS Tryz.prog F.ref13_Gain [.int .i64 num, .int .i64 den, .int .i64 ticks] w false [(false, [(.i .i64)])] R :=
  ok_of Tryz_follows Tryz.func249 (fun R => ref13_Gain.wp num den ticks w R) (ref13_Gain.eq num den ticks w) rfl h
/-! ### bits_Len64 -/
set_option maxRecDepth 100000 in
def bits_Len64.wp (x : Int) (w : World) (R : TR [(false, [(.i .i64)])] → World → Prop) : Prop :=
CutT (fun (J1 : ((Int) × (Int) × Unit) → World → Prop) =>
brB (decide (x ≥ 4294967296)) (
shK 32 (
J1 (shrX .u64 x 32, 32, ()) w)) (
J1 (x, 0, ()) w)) (fun (z2 : (Int) × (Int) × Unit) w3 => ∀ _ : Nat → Value,
CutT (fun (J4 : ((Int) × (Int) × Unit) → World → Prop) =>
brB (decide (z2.1 ≥ 65536)) (
shK 16 (
J4 (shrX .u64 z2.1 16, IntKind.wrap .i64 (z2.2.1 + 16), ()) w3)) (
J4 (z2.1, z2.2.1, ()) w3)) (fun (z5 : (Int) × (Int) × Unit) w6 => ∀ _ : Nat → Value,
CutT (fun (J7 : ((Int) × (Int) × Unit) → World → Prop) =>
brB (decide (z5.1 ≥ 256)) (
shK 8 (
J7 (shrX .u64 z5.1 8, IntKind.wrap .i64 (z5.2.1 + 8), ()) w6)) (
J7 (z5.1, z5.2.1, ()) w6)) (fun (z8 : (Int) × (Int) × Unit) w9 => ∀ _ : Nat → Value,
siK ⟨#[0, 1, 2, 2, 3, 3, 3, 3, 4, 4, 4, 4, 4, 4, 4, 4, 5, 5, 5, 5, 5, 5, 5, 5, 5, 5, 5, 5, 5, 5, 5, 5, 6, 6, 6, 6, 6, 6, 6, 6, 6, 6, 6, 6, 6, 6, 6, 6, 6, 6, 6, 6, 6, 6, 6, 6, 6, 6, 6, 6, 6, 6, 6, 6, 7, 7, 7, 7, 7, 7, 7, 7, 7, 7, 7, 7, 7, 7, 7, 7, 7, 7, 7, 7, 7, 7, 7, 7, 7, 7, 7, 7, 7, 7, 7, 7, 7, 7, 7, 7, 7, 7, 7, 7, 7, 7, 7, 7, 7, 7, 7, 7, 7, 7, 7, 7, 7, 7, 7, 7, 7, 7, 7, 7, 7, 7, 7, 7, 8, 8, 8, 8, 8, 8, 8, 8, 8, 8, 8, 8, 8, 8, 8, 8, 8, 8, 8, 8, 8, 8, 8, 8, 8, 8, 8, 8, 8, 8, 8, 8, 8, 8, 8, 8, 8, 8, 8, 8, 8, 8, 8, 8, 8, 8, 8, 8, 8, 8, 8, 8, 8, 8, 8, 8, 8, 8, 8, 8, 8, 8, 8, 8, 8, 8, 8, 8, 8, 8, 8, 8, 8, 8, 8, 8, 8, 8, 8, 8, 8, 8, 8, 8, 8, 8, 8, 8, 8, 8, 8, 8, 8, 8, 8, 8, 8, 8, 8, 8, 8, 8, 8, 8, 8, 8, 8, 8, 8, 8, 8, 8, 8, 8, 8, 8, 8, 8, 8, 8, 8, 8, 8, 8, 8, 8, 8, 8]⟩ (IntKind.wrap .u8 z8.1) fun c10 =>
R ((IntKind.wrap .i64 (z8.2.1 + (IntKind.wrap .i64 c10)), ()), ()) w9)))
set_option maxRecDepth 100000 in
theorem bits_Len64.eq (x : Int) (w : World) (R : Value → World → Prop) : wpF Tryz.prog Tryz.f250 (.s .n (.ct [(0, (.i .u64)), (2, (.i .i64))] .n (.ct [(0, (.i .u64)), (2, (.i .i64))] .n (.ct [(0, (.i .u64)), (2, (.i .i64))] .n .n)))) [.int .u64 x] w R = bits_Len64.wp x w (fun r w => R (encR false [(false, [(.i .i64)])] r) w) := by kernel_rfl
set_option maxRecDepth 100000 in
theorem bits_Len64.ok {x : Int} {w : World} {R : TR [(false, [(.i .i64)])] → World → Prop} (h : bits_Len64.wp x w R) : clS Tryz.prog F.bits_Len64 [.int .u64 x] w false [(false, [(.i .i64)])] R :=
  ok_of Tryz_follows Tryz.func250 (fun R => bits_Len64.wp x w R) (bits_Len64.eq x w) rfl h
end Go.Proofs.YtnjmfbjgcfnanaaGreat
