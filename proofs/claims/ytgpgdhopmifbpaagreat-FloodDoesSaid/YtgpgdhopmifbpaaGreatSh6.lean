import Derived.Test.YtgpgdhopmifbpaaGreatNm
namespace Go.Proofs.YtgpgdhopmifbpaaGreat
open Go.Eng
set_option linter.unusedVariables false
/-! ### ref14_Raw -/
set_option maxRecDepth 100000 in
def ref14_Raw.wp (m0 : Int) (m1 : Int) (m2 : Int) (m3 : Int) (m4 : Int) (local_ : Int) (w : World) (R : TR [(false, [(.i .i64)])] → World → Prop) : Prop :=
alK [.int .i64 m0, .int .i64 m1, .int .i64 m2, .int .i64 m3, .int .i64 m4] T.ref14_Map w fun p1 w2 =>
drK w2 fun w3 =>
ld1 (.i .i64) (p1.add 1) w3 fun x4 =>
ld1 (.i .i64) (p1.add 2) w3 fun x5 =>
ld1 (.i .i64) (p1.add 3) w3 fun x6 =>
ld1 (.i .i64) p1 w3 fun x7 =>
clS Tryz.prog F.ref13_Gain [.int .i64 x5, .int .i64 x6, .int .i64 (IntKind.wrap .i64 (local_ - x7))] w3 false [(false, [(.i .i64)])] fun r8 w9 =>
Hold [(10, p1, (w3.cell? p1).getD undef), (2, (p1.add 1), (w3.cell? (p1.add 1)).getD undef)] w9 ∧ (
R ((IntKind.wrap .i64 ((IntKind.wrap .i64 (local_ + x4)) + r8.1.1), ()), ()) w9)
set_option maxRecDepth 100000 in
theorem ref14_Raw.eq (m0 : Int) (m1 : Int) (m2 : Int) (m3 : Int) (m4 : Int) (local_ : Int) (w : World) (R : Value → World → Prop) : wpF Tryz.prog Tryz.f84 (.s .n (.s (.pl (.tk 0 (.tk 1 (.tk 2 (.tk 3 (.tk 4 (.tk 5 (.tk 6 (.tk 7 (.tk 8 (.tk 9 (.tk 10 (.tk 11 (.ef 12 [5, 7] (.tk 13 (.tk 14 .z)))))))))))))))) .n)) [.agg #[.int .i64 m0, .int .i64 m1, .int .i64 m2, .int .i64 m3, .int .i64 m4], .int .i64 local_] w R = ref14_Raw.wp m0 m1 m2 m3 m4 local_ w (fun r w => R (encR false [(false, [(.i .i64)])] r) w) := by kernel_rfl
theorem ref14_Raw.ok {m0 : Int} {m1 : Int} {m2 : Int} {m3 : Int} {m4 : Int} {local_ : Int} {w : World} {R : TR [(false, [(.i .i64)])] → World → Prop} (h : ref14_Raw.wp m0 m1 m2 m3 m4 local_ w R) : clS Tryz.prog F.ref14_Raw [.agg #[.int .i64 m0, .int .i64 m1, .int .i64 m2, .int .i64 m3, .int .i64 m4], .int .i64 local_] w false [(false, [(.i .i64)])] R :=
  ok_of Tryz_follows Tryz.func84 (fun R => ref14_Raw.wp m0 m1 m2 m3 m4 local_ w R) (ref14_Raw.eq m0 m1 m2 m3 m4 local_ w) rfl h
/-! ### wrap_Next -/
set_option maxRecDepth 100000 in
def wrap_Next.wp (a : Int) (w : World) (R : TR [(false, [(.i .u16)])] → World → Prop) : Prop :=
R ((IntKind.wrap .u16 (a + 1), ()), ()) w
set_option maxRecDepth 100000 in
theorem wrap_Next.eq (a : Int) (w : World) (R : Value → World → Prop) : wpF Tryz.prog Tryz.f85 .n [.int .u16 a] w R = wrap_Next.wp a w (fun r w => R (encR false [(false, [(.i .u16)])] r) w) := by kernel_rfl
theorem wrap_Next.ok {a : Int} {w : World} {R : TR [(false, [(.i .u16)])] → World → Prop} (h : wrap_Next.wp a w R) : clS Tryz.prog F.wrap_Next [.int .u16 a] w false [(false, [(.i .u16)])] R :=
  ok_of Tryz_follows Tryz.func85 (fun R => wrap_Next.wp a w R) (wrap_Next.eq a w) rfl h
/-! ### frame_kind_of_frame_Sync -/
set_option maxRecDepth 100000 in
def frame_kind_of_frame_Sync.wp (f0 : Int) (f1 : Int) (f2 : Int) (f3 : Int) (f4 : Int) (f5 : Int) (w : World) (R : TR [(false, [(.i .u8)])] → World → Prop) : Prop :=
R ((1, ()), ()) w
set_option maxRecDepth 100000 in
theorem frame_kind_of_frame_Sync.eq (f0 : Int) (f1 : Int) (f2 : Int) (f3 : Int) (f4 : Int) (f5 : Int) (w : World) (R : Value → World → Prop) : wpF Tryz.prog Tryz.f86 .n [.iface T.frame_Sync (.agg #[.int .i64 f0, .int .i64 f1, .int .u16 f2, .int .u16 f3, .int .i64 f4, .int .i64 f5])] w R = frame_kind_of_frame_Sync.wp f0 f1 f2 f3 f4 f5 w (fun r w => R (encR false [(false, [(.i .u8)])] r) w) := by kernel_rfl
theorem frame_kind_of_frame_Sync.ok {f0 : Int} {f1 : Int} {f2 : Int} {f3 : Int} {f4 : Int} {f5 : Int} {w : World} {R : TR [(false, [(.i .u8)])] → World → Prop} (h : frame_kind_of_frame_Sync.wp f0 f1 f2 f3 f4 f5 w R) : clS Tryz.prog F.frame_kind [.iface T.frame_Sync (.agg #[.int .i64 f0, .int .i64 f1, .int .u16 f2, .int .u16 f3, .int .i64 f4, .int .i64 f5])] w false [(false, [(.i .u8)])] R :=
  ok_of Tryz_follows Tryz.func86 (fun R => frame_kind_of_frame_Sync.wp f0 f1 f2 f3 f4 f5 w R) (frame_kind_of_frame_Sync.eq f0 f1 f2 f3 f4 f5 w) rfl h
/-! ### table_Table_All_1 -/
set_option maxRecDepth 100000 in
def table_Table_All_1.wp (yield : Nat) (c_cap0 : Addr) (w : World) (R : TR [] → World → Prop) : Prop :=
ld1 .p c_cap0 w fun x1 =>
clS Tryz.prog F.table_Table_Len [.pointer x1] w false [(false, [(.i .i64)])] fun r2 w3 =>
LoopT (fun (self4 : ((Int) × Unit) → World → Prop) (z5 : (Int) × Unit) w6 => ∀ _ : Nat → Value,
brB (decide (z5.1 < r2.1.1)) (
ld1 .p c_cap0 w6 fun x7 =>
ncK x7 fun a8 =>
ld1 .sl a8 w6 fun x9 =>
ixK x9.1 x9.2.1 z5.1 fun a10 =>
ldN [(.i .i64), (.i .i64), (.i .i64)] (a10.add (z5.1.toNat * 3)) 0 w6 fun x11 =>
yiS Tryz.prog yield [.agg #[.int .i64 x11.1, .int .i64 x11.2.1, .int .i64 x11.2.2.1]] w6 fun b12 w13 =>
brB (!b12) (
R (()) w13) (
self4 (IntKind.wrap .i64 (z5.1 + 1), ()) w13)) (
R (()) w6)) (0, ()) w3
set_option maxRecDepth 100000 in
theorem table_Table_All_1.eq (yield : Nat) (c_cap0 : Addr) (w : World) (R : Value → World → Prop) : wpF Tryz.prog Tryz.f87 (.s .n (.lp [(6, (.i .i64))] .n)) [.func (.yield yield) #[] #[], .pointer (some c_cap0)] w R = table_Table_All_1.wp yield c_cap0 w (fun r w => R (encR true [] r) w) := by kernel_rfl
theorem table_Table_All_1.ok {yield : Nat} {c_cap0 : Addr} {w : World} {R : TR [] → World → Prop} (h : table_Table_All_1.wp yield c_cap0 w R) : clS Tryz.prog F.table_Table_All_1 [.func (.yield yield) #[] #[], .pointer (some c_cap0)] w true [] R :=
  ok_of Tryz_follows Tryz.func87 (fun R => table_Table_All_1.wp yield c_cap0 w R) (table_Table_All_1.eq yield c_cap0 w) rfl h
/-! ### slope_gather -/
set_option maxRecDepth 100000 in
def slope_gather.wp (list : Option Addr × Nat × Nat) (w : World) (R : TR [(true, [(.i .i64), (.i .i64), (.i .i64), (.i .i64), (.i .i64)]), (false, [.b])] → World → Prop) : Prop :=
alK [.int .i64 0, .int .i64 0, .int .i64 0, .int .i64 0, .int .i64 0] T.slope_sums w fun p1 w2 =>
alK [.int .i64 0, .int .i64 0, .int .i64 0, .int .i64 0, .int .i64 0] T.slope_sums w2 fun p3 w4 =>
LoopT (fun (self5 : ((Int) × Unit) → World → Prop) (z6 : (Int) × Unit) w7 => ∀ _ : Nat → Value,
brB (decide (z6.1 < (list.2.1 : Int))) (
ixK list.1 list.2.1 z6.1 fun a8 =>
ldN [(.i .i64), (.i .i64), (.i .i64)] (a8.add (z6.1.toNat * 3)) 0 w7 fun x9 =>
alK [.int .i64 0, .int .i64 0, .int .i64 0] T.table_Entry w7 fun p10 w11 =>
stN [.int .i64 x9.1, .int .i64 x9.2.1, .int .i64 x9.2.2.1] p10 0 w11 fun w12 =>
drK w12 fun w13 =>
ld1 (.i .i64) p10 w13 fun x14 =>
ixK list.1 list.2.1 0 fun a15 =>
ld1 (.i .i64) (a15.add ((0 : Int).toNat * 3)) w13 fun x16 =>
ld1 (.i .i64) (p10.add 1) w13 fun x17 =>
ixK list.1 list.2.1 0 fun a18 =>
ld1 (.i .i64) ((a18.add ((0 : Int).toNat * 3)).add 1) w13 fun x19 =>
brB (decide ((IntKind.wrap .i64 (x14 - x16)) < 0)) (
stN [.int .i64 0, .int .i64 0, .int .i64 0, .int .i64 0, .int .i64 0] p1 0 w13 fun w20 =>
ldN [(.i .i64), (.i .i64), (.i .i64), (.i .i64), (.i .i64)] p1 0 w20 fun x21 =>
R ((x21.1, x21.2.1, x21.2.2.1, x21.2.2.2.1, x21.2.2.2.2.1, ()), (false, ()), ()) w20) (
brB (decide ((IntKind.wrap .i64 (x14 - x16)) > 4194304)) (
stN [.int .i64 0, .int .i64 0, .int .i64 0, .int .i64 0, .int .i64 0] p1 0 w13 fun w22 =>
ldN [(.i .i64), (.i .i64), (.i .i64), (.i .i64), (.i .i64)] p1 0 w22 fun x23 =>
R ((x23.1, x23.2.1, x23.2.2.1, x23.2.2.2.1, x23.2.2.2.2.1, ()), (false, ()), ()) w22) (
brB (decide ((IntKind.wrap .i64 (x17 - x19)) < (Int.negSucc 4194303))) (
stN [.int .i64 0, .int .i64 0, .int .i64 0, .int .i64 0, .int .i64 0] p1 0 w13 fun w24 =>
ldN [(.i .i64), (.i .i64), (.i .i64), (.i .i64), (.i .i64)] p1 0 w24 fun x25 =>
R ((x25.1, x25.2.1, x25.2.2.1, x25.2.2.2.1, x25.2.2.2.2.1, ()), (false, ()), ()) w24) (
brB (decide ((IntKind.wrap .i64 (x17 - x19)) > 4194304)) (
stN [.int .i64 0, .int .i64 0, .int .i64 0, .int .i64 0, .int .i64 0] p1 0 w13 fun w26 =>
ldN [(.i .i64), (.i .i64), (.i .i64), (.i .i64), (.i .i64)] p1 0 w26 fun x27 =>
R ((x27.1, x27.2.1, x27.2.2.1, x27.2.2.2.1, x27.2.2.2.2.1, ()), (false, ()), ()) w26) (
clS Tryz.prog F.slope_sums_add [.pointer (some p3), .int .i64 (IntKind.wrap .i64 (x14 - x16)), .int .i64 (IntKind.wrap .i64 (x17 - x19))] w13 true [] fun r28 w29 =>
self5 (IntKind.wrap .i64 (z6.1 + 1), ()) w29))))) (
ldN [(.i .i64), (.i .i64), (.i .i64), (.i .i64), (.i .i64)] p3 0 w7 fun x30 =>
stN [.int .i64 x30.1, .int .i64 x30.2.1, .int .i64 x30.2.2.1, .int .i64 x30.2.2.2.1, .int .i64 x30.2.2.2.2.1] p1 0 w7 fun w31 =>
ldN [(.i .i64), (.i .i64), (.i .i64), (.i .i64), (.i .i64)] p1 0 w31 fun x32 =>
R ((x32.1, x32.2.1, x32.2.2.1, x32.2.2.2.1, x32.2.2.2.2.1, ()), (true, ()), ()) w31)) (0, ()) w4
set_option maxRecDepth 100000 in
theorem slope_gather.eq (list : Option Addr × Nat × Nat) (w : World) (R : Value → World → Prop) : wpF Tryz.prog Tryz.f88 (.s .n (.s .n (.s (.s .n (.lp [(11, (.i .i64))] (.s .n (.s .n (.s (.s .n (.s (.pl (.tk 0 (.tk 1 (.tk 2 (.tk 3 (.tk 4 (.tk 5 (.tk 6 (.tk 7 (.tk 8 (.tk 9 (.tk 10 (.tk 11 (.tk 12 (.tk 13 (.tk 14 (.tk 15 .z))))))))))))))))) .n)) .n))))) .n))) [.slice list.1 list.2.1 list.2.2] w R = slope_gather.wp list w (fun r w => R (encR true [(true, [(.i .i64), (.i .i64), (.i .i64), (.i .i64), (.i .i64)]), (false, [.b])] r) w) := by kernel_rfl
theorem slope_gather.ok {list : Option Addr × Nat × Nat} {w : World} {R : TR [(true, [(.i .i64), (.i .i64), (.i .i64), (.i .i64), (.i .i64)]), (false, [.b])] → World → Prop} (h : slope_gather.wp list w R) : clS Tryz.prog F.slope_gather [.slice list.1 list.2.1 list.2.2] w true [(true, [(.i .i64), (.i .i64), (.i .i64), (.i .i64), (.i .i64)]), (false, [.b])] R :=
  ok_of Tryz_follows Tryz.func88 (fun R => slope_gather.wp list w R) (slope_gather.eq list w) rfl h
/-! ### slope_Most -/
set_option maxRecDepth 100000 in
def slope_Most.wp (drift : Int) (w : World) (R : TR [(true, [(.i .i64), (.i .i64)])] → World → Prop) : Prop :=
alK [.int .i64 0, .int .i64 0] T.slope_Slope w fun p1 w2 =>
clS Tryz.prog F.fix_Clamp [.int .i64 drift, .int .i64 0, .int .i64 10] w2 false [(false, [(.i .i64)])] fun r3 w4 =>
stN [.int .i64 (IntKind.wrap .i64 (2 * r3.1.1)), .int .i64 (IntKind.wrap .i64 (1000 - r3.1.1))] p1 0 w4 fun w5 =>
ldN [(.i .i64), (.i .i64)] p1 0 w5 fun x6 =>
R ((x6.1, x6.2.1, ()), ()) w5
set_option maxRecDepth 100000 in
theorem slope_Most.eq (drift : Int) (w : World) (R : Value → World → Prop) : wpF Tryz.prog Tryz.f89 .n [.int .i64 drift] w R = slope_Most.wp drift w (fun r w => R (encR false [(true, [(.i .i64), (.i .i64)])] r) w) := by kernel_rfl
theorem slope_Most.ok {drift : Int} {w : World} {R : TR [(true, [(.i .i64), (.i .i64)])] → World → Prop} (h : slope_Most.wp drift w R) : clS Tryz.prog F.slope_Most [.int .i64 drift] w false [(true, [(.i .i64), (.i .i64)])] R :=
  ok_of Tryz_follows Tryz.func89 (fun R => slope_Most.wp drift w R) (slope_Most.eq drift w) rfl h
/-! ### slope_over -/
set_option maxRecDepth 100000 in
def slope_over.wp (a0 : Int) (a1 : Int) (b0 : Int) (b1 : Int) (w : World) (R : TR [(false, [.b])] → World → Prop) : Prop :=
alK [.int .i64 a0, .int .i64 a1] T.slope_Slope w fun p1 w2 =>
alK [.int .i64 b0, .int .i64 b1] T.slope_Slope w2 fun p3 w4 =>
ld1 (.i .i64) p1 w4 fun x5 =>
ld1 (.i .i64) (p3.add 1) w4 fun x6 =>
clS Tryz.prog F.bits_Mul64 [.int .u64 (IntKind.wrap .u64 x5), .int .u64 (IntKind.wrap .u64 x6)] w4 true [(false, [(.i .u64)]), (false, [(.i .u64)])] fun r7 w8 =>
ld1 (.i .i64) p3 w8 fun x9 =>
ld1 (.i .i64) (p1.add 1) w8 fun x10 =>
clS Tryz.prog F.bits_Mul64 [.int .u64 (IntKind.wrap .u64 x9), .int .u64 (IntKind.wrap .u64 x10)] w8 true [(false, [(.i .u64)]), (false, [(.i .u64)])] fun r11 w12 =>
brB (decide (r7.1.1 > r11.1.1)) (
R ((true, ()), ()) w12) (
brB (r7.1.1 == r11.1.1) (
R ((decide (r7.2.1.1 > r11.2.1.1), ()), ()) w12) (
R ((false, ()), ()) w12))
set_option maxRecDepth 100000 in
theorem slope_over.eq (a0 : Int) (a1 : Int) (b0 : Int) (b1 : Int) (w : World) (R : Value → World → Prop) : wpF Tryz.prog Tryz.f90 .n [.agg #[.int .i64 a0, .int .i64 a1], .agg #[.int .i64 b0, .int .i64 b1]] w R = slope_over.wp a0 a1 b0 b1 w (fun r w => R (encR false [(false, [.b])] r) w) := by kernel_rfl
theorem slope_over.ok {a0 : Int} {a1 : Int} {b0 : Int} {b1 : Int} {w : World} {R : TR [(false, [.b])] → World → Prop} (h : slope_over.wp a0 a1 b0 b1 w R) : clS Tryz.prog F.slope_over [.agg #[.int .i64 a0, .int .i64 a1], .agg #[.int .i64 b0, .int .i64 b1]] w false [(false, [.b])] R :=
  ok_of Tryz_follows Tryz.func90 (fun R => slope_over.wp a0 a1 b0 b1 w R) (slope_over.eq a0 a1 b0 b1 w) rfl h
/-! ### slices_Collect_table_Entry -/
set_option maxRecDepth 100000 in
def slices_Collect_table_Entry.wp (seq : Value) (w : World) (R : TR [(false, [.sl])] → World → Prop) : Prop :=
clS Tryz.prog F.slices_AppendSeq_table_Entry_table_Entry [.slice none 0 0, seq] w false [(false, [.sl])] fun r1 w2 =>
R (((r1.1.1.1, r1.1.1.2.1, r1.1.1.2.2), ()), ()) w2
set_option maxRecDepth 100000 in
theorem slices_Collect_table_Entry.eq (seq : Value) (w : World) (R : Value → World → Prop) : wpF Tryz.prog Tryz.f91 .n [seq] w R = slices_Collect_table_Entry.wp seq w (fun r w => R (encR false [(false, [.sl])] r) w) := by kernel_rfl
theorem slices_Collect_table_Entry.ok {seq : Value} {w : World} {R : TR [(false, [.sl])] → World → Prop} (h : slices_Collect_table_Entry.wp seq w R) : clS Tryz.prog F.slices_Collect_table_Entry [seq] w false [(false, [.sl])] R :=
  ok_of Tryz_follows Tryz.func91 (fun R => slices_Collect_table_Entry.wp seq w R) (slices_Collect_table_Entry.eq seq w) rfl h
/-! ### fix_MulDiv -/
set_option maxRecDepth 100000 in
def fix_MulDiv.wp (a : Int) (b : Int) (c : Int) (w : World) (R : TR [(false, [(.i .i64)]), (false, [.b])] → World → Prop) : Prop :=
brB (decide (c < 1)) (
R ((0, ()), (false, ()), ()) w) (
clS Tryz.prog F.fix_Size [.int .i64 a] w false [(false, [(.i .u64)])] fun r1 w2 =>
clS Tryz.prog F.fix_Size [.int .i64 b] w2 false [(false, [(.i .u64)])] fun r3 w4 =>
clS Tryz.prog F.bits_Mul64 [.int .u64 r1.1.1, .int .u64 r3.1.1] w4 true [(false, [(.i .u64)]), (false, [(.i .u64)])] fun r5 w6 =>
brB (decide (r5.1.1 ≥ (IntKind.wrap .u64 c))) (
R ((0, ()), (false, ()), ()) w6) (
clS Tryz.prog F.bits_Div64 [.int .u64 r5.1.1, .int .u64 r5.2.1.1, .int .u64 (IntKind.wrap .u64 c)] w6 true [(false, [(.i .u64)]), (false, [(.i .u64)])] fun r7 w8 =>
brB ((decide (a < 0)) == (decide (b < 0))) (
brB (decide (r7.1.1 > 9223372036854775807)) (
R ((0, ()), (false, ()), ()) w8) (
R ((IntKind.wrap .i64 r7.1.1, ()), (true, ()), ()) w8)) (
CutT (fun (J9 : ((Int) × Unit) → World → Prop) =>
brB (decide (r7.2.1.1 > 0)) (
brB ((IntKind.wrap .u64 (r7.1.1 + 1)) == 0) (
R ((0, ()), (false, ()), ()) w8) (
J9 (IntKind.wrap .u64 (r7.1.1 + 1), ()) w8)) (
J9 (r7.1.1, ()) w8)) (fun (z10 : (Int) × Unit) w11 => ∀ _ : Nat → Value,
brB (decide (z10.1 > 9223372036854775808)) (
R ((0, ()), (false, ()), ()) w11) (
R ((IntKind.wrap .i64 (IntKind.wrap .u64 (0 - z10.1)), ()), (true, ()), ()) w11)))))
set_option maxRecDepth 100000 in
theorem fix_MulDiv.eq (a : Int) (b : Int) (c : Int) (w : World) (R : Value → World → Prop) : wpF Tryz.prog Tryz.f92 (.s .n (.s .n (.s .n (.s .n (.s .n (.s .n (.ct [(10, (.i .u64))] .n .n))))))) [.int .i64 a, .int .i64 b, .int .i64 c] w R = fix_MulDiv.wp a b c w (fun r w => R (encR true [(false, [(.i .i64)]), (false, [.b])] r) w) := by kernel_rfl
theorem fix_MulDiv.ok {a : Int} {b : Int} {c : Int} {w : World} {R : TR [(false, [(.i .i64)]), (false, [.b])] → World → Prop} (h : fix_MulDiv.wp a b c w R) : clS Tryz.prog F.fix_MulDiv [.int .i64 a, .int .i64 b, .int .i64 c] w true [(false, [(.i .i64)]), (false, [.b])] R :=
  ok_of Tryz_follows Tryz.func92 (fun R => fix_MulDiv.wp a b c w R) (fix_MulDiv.eq a b c w) rfl h
/-! ### fix_Add -/
set_option maxRecDepth 100000 in
def fix_Add.wp (a : Int) (b : Int) (w : World) (R : TR [(false, [(.i .i64)]), (false, [.b])] → World → Prop) : Prop :=
brB (!((decide ((IntKind.wrap .i64 (a + b)) > a)) == (decide (b > 0)))) (
brB (b != 0) (
R ((0, ()), (false, ()), ()) w) (
R ((IntKind.wrap .i64 (a + b), ()), (true, ()), ()) w)) (
R ((IntKind.wrap .i64 (a + b), ()), (true, ()), ()) w)
set_option maxRecDepth 100000 in
theorem fix_Add.eq (a : Int) (b : Int) (w : World) (R : Value → World → Prop) : wpF Tryz.prog Tryz.f93 .n [.int .i64 a, .int .i64 b] w R = fix_Add.wp a b w (fun r w => R (encR true [(false, [(.i .i64)]), (false, [.b])] r) w) := by kernel_rfl
theorem fix_Add.ok {a : Int} {b : Int} {w : World} {R : TR [(false, [(.i .i64)]), (false, [.b])] → World → Prop} (h : fix_Add.wp a b w R) : clS Tryz.prog F.fix_Add [.int .i64 a, .int .i64 b] w true [(false, [(.i .i64)]), (false, [.b])] R :=
  ok_of Tryz_follows Tryz.func93 (fun R => fix_Add.wp a b w R) (fix_Add.eq a b w) rfl h
/-! ### wrap_Newer -/
set_option maxRecDepth 100000 in
def wrap_Newer.wp (a : Int) (b : Int) (w : World) (R : TR [(false, [.b])] → World → Prop) : Prop :=
R ((decide ((IntKind.wrap .i16 (IntKind.wrap .u16 (a - b))) > 0), ()), ()) w
set_option maxRecDepth 100000 in
theorem wrap_Newer.eq (a : Int) (b : Int) (w : World) (R : Value → World → Prop) : wpF Tryz.prog Tryz.f94 .n [.int .u16 a, .int .u16 b] w R = wrap_Newer.wp a b w (fun r w => R (encR false [(false, [.b])] r) w) := by kernel_rfl
theorem wrap_Newer.ok {a : Int} {b : Int} {w : World} {R : TR [(false, [.b])] → World → Prop} (h : wrap_Newer.wp a b w R) : clS Tryz.prog F.wrap_Newer [.int .u16 a, .int .u16 b] w false [(false, [.b])] R :=
  ok_of Tryz_follows Tryz.func94 (fun R => wrap_Newer.wp a b w R) (wrap_Newer.eq a b w) rfl h
/-! ### ref02_Newer -/
set_option maxRecDepth 100000 in
def ref02_Newer.wp (a : Int) (b : Int) (w : World) (R : TR [(false, [.b])] → World → Prop) : Prop :=
nzK 65536 (
brB (decide ((Int.tmod (IntKind.wrap .i64 ((IntKind.wrap .i64 ((IntKind.wrap .i64 a) + 65536)) - (IntKind.wrap .i64 b))) 65536) ≥ 1)) (
R ((decide ((Int.tmod (IntKind.wrap .i64 ((IntKind.wrap .i64 ((IntKind.wrap .i64 a) + 65536)) - (IntKind.wrap .i64 b))) 65536) ≤ 32767), ()), ()) w) (
R ((false, ()), ()) w))
set_option maxRecDepth 100000 in
theorem ref02_Newer.eq (a : Int) (b : Int) (w : World) (R : Value → World → Prop) : wpF Tryz.prog Tryz.f95 .n [.int .u16 a, .int .u16 b] w R = ref02_Newer.wp a b w (fun r w => R (encR false [(false, [.b])] r) w) := by kernel_rfl
theorem ref02_Newer.ok {a : Int} {b : Int} {w : World} {R : TR [(false, [.b])] → World → Prop} (h : ref02_Newer.wp a b w R) : clS Tryz.prog F.ref02_Newer [.int .u16 a, .int .u16 b] w false [(false, [.b])] R :=
  ok_of Tryz_follows Tryz.func95 (fun R => ref02_Newer.wp a b w R) (ref02_Newer.eq a b w) rfl h
/-! ### ref13_Most -/
set_option maxRecDepth 100000 in
def ref13_Most.wp (drift : Int) (w : World) (R : TR [(false, [(.i .i64)]), (false, [(.i .i64)])] → World → Prop) : Prop :=
R ((IntKind.wrap .i64 (2 * (if 10 < (if 0 > drift then 0 else drift) then 10 else (if 0 > drift then 0 else drift))), ()), (IntKind.wrap .i64 (1000 - (if 10 < (if 0 > drift then 0 else drift) then 10 else (if 0 > drift then 0 else drift))), ()), ()) w
set_option maxRecDepth 100000 in
theorem ref13_Most.eq (drift : Int) (w : World) (R : Value → World → Prop) : wpF Tryz.prog Tryz.f96 .n [.int .i64 drift] w R = ref13_Most.wp drift w (fun r w => R (encR true [(false, [(.i .i64)]), (false, [(.i .i64)])] r) w) := by kernel_rfl
theorem ref13_Most.ok {drift : Int} {w : World} {R : TR [(false, [(.i .i64)]), (false, [(.i .i64)])] → World → Prop} (h : ref13_Most.wp drift w R) : clS Tryz.prog F.ref13_Most [.int .i64 drift] w true [(false, [(.i .i64)]), (false, [(.i .i64)])] R :=
  ok_of Tryz_follows Tryz.func96 (fun R => ref13_Most.wp drift w R) (ref13_Most.eq drift w) rfl h
/-! ### ref13_Over -/
set_option maxRecDepth 100000 in
def ref13_Over.wp (a : Int) (b : Int) (c : Int) (d : Int) (w : World) (R : TR [(false, [.b])] → World → Prop) : Prop :=
LoopT (fun (self1 : ((Int) × (Int) × (Int) × Unit) → World → Prop) (z2 : (Int) × (Int) × (Int) × Unit) w3 => ∀ _ : Nat → Value,
brB (decide (z2.2.2.1 ≥ 0)) (
CutT (fun (J4 : ((Int) × (Int) × Unit) → World → Prop) =>
brB (decide ((IntKind.wrap .i64 (2 * z2.2.1)) ≥ b)) (
J4 (IntKind.wrap .i64 ((IntKind.wrap .i64 (2 * z2.1)) + 1), IntKind.wrap .i64 ((IntKind.wrap .i64 (2 * z2.2.1)) - b), ()) w3) (
J4 (IntKind.wrap .i64 (2 * z2.1), IntKind.wrap .i64 (2 * z2.2.1), ()) w3)) (fun (z5 : (Int) × (Int) × Unit) w6 => ∀ _ : Nat → Value,
shK (IntKind.wrap .u64 z2.2.2.1) (
nzK 2 (
brB ((Int.tmod (shrX .i64 d (IntKind.wrap .u64 z2.2.2.1)) 2) == 1) (
nzK b (
nzK b (
brB (decide ((IntKind.wrap .i64 (z5.2.1 + (Int.tmod a b))) ≥ b)) (
self1 (IntKind.wrap .i64 ((IntKind.wrap .i64 (z5.1 + (IntKind.wrap .i64 (Int.tdiv a b)))) + 1), IntKind.wrap .i64 ((IntKind.wrap .i64 (z5.2.1 + (Int.tmod a b))) - b), IntKind.wrap .i64 (z2.2.2.1 - 1), ()) w6) (
self1 (IntKind.wrap .i64 (z5.1 + (IntKind.wrap .i64 (Int.tdiv a b))), IntKind.wrap .i64 (z5.2.1 + (Int.tmod a b)), IntKind.wrap .i64 (z2.2.2.1 - 1), ()) w6)))) (
self1 (z5.1, z5.2.1, IntKind.wrap .i64 (z2.2.2.1 - 1), ()) w6))))) (
brB (decide (z2.1 > c)) (
R ((true, ()), ()) w3) (
brB (z2.1 == c) (
R ((decide (z2.2.1 > 0), ()), ()) w3) (
R ((false, ()), ()) w3)))) (0, 0, 9, ()) w
set_option maxRecDepth 100000 in
theorem ref13_Over.eq (a : Int) (b : Int) (c : Int) (d : Int) (w : World) (R : Value → World → Prop) : wpF Tryz.prog Tryz.f97 (.s .n (.s .n (.s .n (.s (.s .n (.lp [(9, (.i .i64)), (10, (.i .i64)), (11, (.i .i64))] (.s .n (.s (.s .n (.s .n (.ct [(9, (.i .i64)), (10, (.i .i64))] .n .n))) .n)))) .n)))) [.int .i64 a, .int .i64 b, .int .i64 c, .int .i64 d] w R = ref13_Over.wp a b c d w (fun r w => R (encR false [(false, [.b])] r) w) := by kernel_rfl
theorem ref13_Over.ok {a : Int} {b : Int} {c : Int} {d : Int} {w : World} {R : TR [(false, [.b])] → World → Prop} (h : ref13_Over.wp a b c d w R) : clS Tryz.prog F.ref13_Over [.int .i64 a, .int .i64 b, .int .i64 c, .int .i64 d] w false [(false, [.b])] R :=
  ok_of Tryz_follows Tryz.func97 (fun R => ref13_Over.wp a b c d w R) (ref13_Over.eq a b c d w) rfl h
/-! ### ref13_Gain -/
set_option maxRecDepth 100000 in
def ref13_Gain.wp (num : Int) (den : Int) (ticks : Int) (w : World) (R : TR [(false, [(.i .i64)])] → World → Prop) : Prop :=
clS Tryz.prog F.ref01_MulDiv [.int .i64 num, .int .i64 ticks, .int .i64 den] w true [(false, [(.i .i64)]), (false, [.b])] fun r1 w2 =>
R ((r1.1.1, ()), ()) w2
set_option maxRecDepth 100000 in
theorem ref13_Gain.eq (num : Int) (den : Int) (ticks : Int) (w : World) (R : Value → World → Prop) : wpF Tryz.prog Tryz.f98 .n [.int .i64 num, .int .i64 den, .int .i64 ticks] w R = ref13_Gain.wp num den ticks w (fun r w => R (encR false [(false, [(.i .i64)])] r) w) := by kernel_rfl
theorem ref13_Gain.ok {num : Int} {den : Int} {ticks : Int} {w : World} {R : TR [(false, [(.i .i64)])] → World → Prop} (h : ref13_Gain.wp num den ticks w R) : clS Tryz.prog F.ref13_Gain [.int .i64 num, .int .i64 den, .int .i64 ticks] w false [(false, [(.i .i64)])] R :=
  ok_of Tryz_follows Tryz.func98 (fun R => ref13_Gain.wp num den ticks w R) (ref13_Gain.eq num den ticks w) rfl h
/-! ### slope_sums_add -/
set_option maxRecDepth 100000 in
def slope_sums_add.wp (s : Option Addr) (x : Int) (y : Int) (w : World) (R : TR [] → World → Prop) : Prop :=
ncK s fun a1 =>
ld1 (.i .i64) a1 w fun x2 =>
ncK s fun a3 =>
stN [.int .i64 (IntKind.wrap .i64 (x2 + 1))] a3 0 w fun w4 =>
ncK s fun a5 =>
ld1 (.i .i64) (a5.add 1) w4 fun x6 =>
ncK s fun a7 =>
stN [.int .i64 (IntKind.wrap .i64 (x6 + x))] (a7.add 1) 0 w4 fun w8 =>
ncK s fun a9 =>
ld1 (.i .i64) (a9.add 2) w8 fun x10 =>
ncK s fun a11 =>
stN [.int .i64 (IntKind.wrap .i64 (x10 + y))] (a11.add 2) 0 w8 fun w12 =>
ncK s fun a13 =>
ld1 (.i .i64) (a13.add 3) w12 fun x14 =>
ncK s fun a15 =>
stN [.int .i64 (IntKind.wrap .i64 (x14 + (IntKind.wrap .i64 (x * y))))] (a15.add 3) 0 w12 fun w16 =>
ncK s fun a17 =>
ld1 (.i .i64) (a17.add 4) w16 fun x18 =>
ncK s fun a19 =>
stN [.int .i64 (IntKind.wrap .i64 (x18 + (IntKind.wrap .i64 (x * x))))] (a19.add 4) 0 w16 fun w20 =>
R (()) w20
set_option maxRecDepth 100000 in
theorem slope_sums_add.eq (s : Option Addr) (x : Int) (y : Int) (w : World) (R : Value → World → Prop) : wpF Tryz.prog Tryz.f99 .n [.pointer s, .int .i64 x, .int .i64 y] w R = slope_sums_add.wp s x y w (fun r w => R (encR true [] r) w) := by kernel_rfl
theorem slope_sums_add.ok {s : Option Addr} {x : Int} {y : Int} {w : World} {R : TR [] → World → Prop} (h : slope_sums_add.wp s x y w R) : clS Tryz.prog F.slope_sums_add [.pointer s, .int .i64 x, .int .i64 y] w true [] R :=
  ok_of Tryz_follows Tryz.func99 (fun R => slope_sums_add.wp s x y w R) (slope_sums_add.eq s x y w) rfl h
/-! ### bits_Mul64 -/
set_option maxRecDepth 100000 in
def bits_Mul64.wp (x : Int) (y : Int) (w : World) (R : TR [(false, [(.i .u64)]), (false, [(.i .u64)])] → World → Prop) : Prop :=
shK 32 (
shK 32 (
shK 32 (
shK 32 (
shK 32 (
R ((IntKind.wrap .u64 ((IntKind.wrap .u64 ((IntKind.wrap .u64 ((shrX .u64 x 32) * (shrX .u64 y 32))) + (shrX .u64 (IntKind.wrap .u64 ((IntKind.wrap .u64 ((shrX .u64 x 32) * (bitsX .and .u64 y 4294967295))) + (shrX .u64 (IntKind.wrap .u64 ((bitsX .and .u64 x 4294967295) * (bitsX .and .u64 y 4294967295))) 32))) 32))) + (shrX .u64 (IntKind.wrap .u64 ((bitsX .and .u64 (IntKind.wrap .u64 ((IntKind.wrap .u64 ((shrX .u64 x 32) * (bitsX .and .u64 y 4294967295))) + (shrX .u64 (IntKind.wrap .u64 ((bitsX .and .u64 x 4294967295) * (bitsX .and .u64 y 4294967295))) 32))) 4294967295) + (IntKind.wrap .u64 ((bitsX .and .u64 x 4294967295) * (shrX .u64 y 32))))) 32)), ()), (IntKind.wrap .u64 (x * y), ()), ()) w)))))
set_option maxRecDepth 100000 in
theorem bits_Mul64.eq (x : Int) (y : Int) (w : World) (R : Value → World → Prop) : wpF Tryz.prog Tryz.f100 .n [.int .u64 x, .int .u64 y] w R = bits_Mul64.wp x y w (fun r w => R (encR true [(false, [(.i .u64)]), (false, [(.i .u64)])] r) w) := by kernel_rfl
theorem bits_Mul64.ok {x : Int} {y : Int} {w : World} {R : TR [(false, [(.i .u64)]), (false, [(.i .u64)])] → World → Prop} (h : bits_Mul64.wp x y w R) : clS Tryz.prog F.bits_Mul64 [.int .u64 x, .int .u64 y] w true [(false, [(.i .u64)]), (false, [(.i .u64)])] R :=
  ok_of Tryz_follows Tryz.func100 (fun R => bits_Mul64.wp x y w R) (bits_Mul64.eq x y w) rfl h
/-! ### slices_AppendSeq_table_Entry_table_Entry -/
set_option maxRecDepth 100000 in
def slices_AppendSeq_table_Entry_table_Entry.wp (s : Option Addr × Nat × Nat) (seq : Value) (w : World) (R : TR [(false, [.sl])] → World → Prop) : Prop :=
alK [.slice s.1 s.2.1 s.2.2] T.sl_table_Entry w fun p1 w2 =>
RfT Tryz.prog seq [(true, [(.i .i64), (.i .i64), (.i .i64)])] w2 (fun x3 k4 w5 =>
alK [.int .i64 0, .int .i64 0, .int .i64 0] T.table_Entry w5 fun p11 w12 =>
stN [.int .i64 x3.1.1, .int .i64 x3.1.2.1, .int .i64 x3.1.2.2.1] p11 0 w12 fun w13 =>
k4 w13 fun go6 lv7 w8 =>
ld1 .sl p1 w8 fun x14 =>
ldN [(.i .i64), (.i .i64), (.i .i64)] p11 0 w8 fun x15 =>
alK [.int .i64 x15.1, .int .i64 x15.2.1, .int .i64 x15.2.2.1] T.table_Entry w8 fun p16 w17 =>
slOf ((Builtin.append_ #[T.sl_table_Entry, T.sl_table_Entry] T.sl_table_Entry #[.slice x14.1 x14.2.1 x14.2.2, .slice (some p16) 1 1]).run Tryz.prog w17) fun y18 w19 =>
stN [.slice y18.1 y18.2.1 y18.2.2] p1 0 w19 fun w20 =>
go6 w20) (fun D9 w10 =>
ld1 .sl p1 w10 fun x21 =>
tkK D9 w10 fun w22 =>
R (((x21.1, x21.2.1, x21.2.2), ()), ()) w22) []
set_option maxRecDepth 100000 in
theorem slices_AppendSeq_table_Entry_table_Entry.eq (s : Option Addr × Nat × Nat) (seq : Value) (w : World) (R : Value → World → Prop) : wpF Tryz.prog Tryz.f101 (.s .n (.s (.s .n (.rf [(true, [(.i .i64), (.i .i64), (.i .i64)])] .n .n)) .n)) [.slice s.1 s.2.1 s.2.2, seq] w R = slices_AppendSeq_table_Entry_table_Entry.wp s seq w (fun r w => R (encR false [(false, [.sl])] r) w) := by kernel_rfl
theorem slices_AppendSeq_table_Entry_table_Entry.ok {s : Option Addr × Nat × Nat} {seq : Value} {w : World} {R : TR [(false, [.sl])] → World → Prop} (h : slices_AppendSeq_table_Entry_table_Entry.wp s seq w R) : clS Tryz.prog F.slices_AppendSeq_table_Entry_table_Entry [.slice s.1 s.2.1 s.2.2, seq] w false [(false, [.sl])] R :=
  ok_of Tryz_follows Tryz.func101 (fun R => slices_AppendSeq_table_Entry_table_Entry.wp s seq w R) (slices_AppendSeq_table_Entry_table_Entry.eq s seq w) rfl h
/-! ### fix_Size -/
set_option maxRecDepth 100000 in
def fix_Size.wp (n : Int) (w : World) (R : TR [(false, [(.i .u64)])] → World → Prop) : Prop :=
brB (decide (n < 0)) (
R ((IntKind.wrap .u64 (0 - (IntKind.wrap .u64 n)), ()), ()) w) (
R ((IntKind.wrap .u64 n, ()), ()) w)
set_option maxRecDepth 100000 in
theorem fix_Size.eq (n : Int) (w : World) (R : Value → World → Prop) : wpF Tryz.prog Tryz.f102 .n [.int .i64 n] w R = fix_Size.wp n w (fun r w => R (encR false [(false, [(.i .u64)])] r) w) := by kernel_rfl
theorem fix_Size.ok {n : Int} {w : World} {R : TR [(false, [(.i .u64)])] → World → Prop} (h : fix_Size.wp n w R) : clS Tryz.prog F.fix_Size [.int .i64 n] w false [(false, [(.i .u64)])] R :=
  ok_of Tryz_follows Tryz.func102 (fun R => fix_Size.wp n w R) (fix_Size.eq n w) rfl h
/-! ### bits_Div64 -/
set_option maxRecDepth 100000 in
def bits_Div64.wp (hi : Int) (lo : Int) (y : Int) (w : World) (R : TR [(false, [(.i .u64)]), (false, [(.i .u64)])] → World → Prop) : Prop :=
brB (y == 0) (
ld1 .any ⟨0, 0, none⟩ w fun x1 =>
False) (
brB (decide (y ≤ hi)) (
ld1 .any ⟨1, 0, none⟩ w fun x2 =>
False) (
brB (hi == 0) (
drK w fun w3 =>
nzK y (
nzK y (
R ((IntKind.wrap .u64 (Int.tdiv lo y), ()), (Int.tmod lo y, ()), ()) w3))) (
clS Tryz.prog F.bits_LeadingZeros64 [.int .u64 y] w false [(false, [(.i .i64)])] fun r4 w5 =>
shK (IntKind.wrap .u64 r4.1.1) (
shK 32 (
shK (IntKind.wrap .u64 r4.1.1) (
shK (IntKind.wrap .u64 (64 - (IntKind.wrap .u64 r4.1.1))) (
shK (IntKind.wrap .u64 r4.1.1) (
shK 32 (
nzK (shrX .u64 (shlX .u64 y (IntKind.wrap .u64 r4.1.1)) 32) (
CutT (fun (J6 : ((Int) × Unit) → World → Prop) =>
LoopT (fun (self9 : ((Int) × (Int) × Unit) → World → Prop) (z10 : (Int) × (Int) × Unit) w11 => ∀ _ : Nat → Value,
CutT (fun (J12 : Unit → World → Prop) =>
brB (decide (z10.1 ≥ 4294967296)) (
J12 (()) w11) (
brB (decide ((IntKind.wrap .u64 (z10.1 * (bitsX .and .u64 (shlX .u64 y (IntKind.wrap .u64 r4.1.1)) 4294967295))) > (IntKind.wrap .u64 ((IntKind.wrap .u64 (4294967296 * z10.2.1)) + (shrX .u64 (shlX .u64 lo (IntKind.wrap .u64 r4.1.1)) 32))))) (
J12 (()) w11) (
J6 (z10.1, ()) w11))) (fun (z13 : Unit) w14 => ∀ _ : Nat → Value,
brB (decide ((IntKind.wrap .u64 (z10.2.1 + (shrX .u64 (shlX .u64 y (IntKind.wrap .u64 r4.1.1)) 32))) ≥ 4294967296)) (
J6 (IntKind.wrap .u64 (z10.1 - 1), ()) w14) (
self9 (IntKind.wrap .u64 (z10.1 - 1), IntKind.wrap .u64 (z10.2.1 + (shrX .u64 (shlX .u64 y (IntKind.wrap .u64 r4.1.1)) 32)), ()) w14))) (IntKind.wrap .u64 (Int.tdiv (bitsX .or .u64 (shlX .u64 hi (IntKind.wrap .u64 r4.1.1)) (shrX .u64 lo (IntKind.wrap .u64 (64 - (IntKind.wrap .u64 r4.1.1))))) (shrX .u64 (shlX .u64 y (IntKind.wrap .u64 r4.1.1)) 32)), IntKind.wrap .u64 ((bitsX .or .u64 (shlX .u64 hi (IntKind.wrap .u64 r4.1.1)) (shrX .u64 lo (IntKind.wrap .u64 (64 - (IntKind.wrap .u64 r4.1.1))))) - (IntKind.wrap .u64 ((IntKind.wrap .u64 (Int.tdiv (bitsX .or .u64 (shlX .u64 hi (IntKind.wrap .u64 r4.1.1)) (shrX .u64 lo (IntKind.wrap .u64 (64 - (IntKind.wrap .u64 r4.1.1))))) (shrX .u64 (shlX .u64 y (IntKind.wrap .u64 r4.1.1)) 32))) * (shrX .u64 (shlX .u64 y (IntKind.wrap .u64 r4.1.1)) 32)))), ()) w5) (fun (z7 : (Int) × Unit) w8 => ∀ _ : Nat → Value,
nzK (shrX .u64 (shlX .u64 y (IntKind.wrap .u64 r4.1.1)) 32) (
CutT (fun (J15 : ((Int) × Unit) → World → Prop) =>
LoopT (fun (self18 : ((Int) × (Int) × Unit) → World → Prop) (z19 : (Int) × (Int) × Unit) w20 => ∀ _ : Nat → Value,
CutT (fun (J21 : Unit → World → Prop) =>
brB (decide (z19.2.1 ≥ 4294967296)) (
J21 (()) w20) (
brB (decide ((IntKind.wrap .u64 (z19.2.1 * (bitsX .and .u64 (shlX .u64 y (IntKind.wrap .u64 r4.1.1)) 4294967295))) > (IntKind.wrap .u64 ((IntKind.wrap .u64 (4294967296 * z19.1)) + (bitsX .and .u64 (shlX .u64 lo (IntKind.wrap .u64 r4.1.1)) 4294967295))))) (
J21 (()) w20) (
J15 (z19.2.1, ()) w20))) (fun (z22 : Unit) w23 => ∀ _ : Nat → Value,
brB (decide ((IntKind.wrap .u64 (z19.1 + (shrX .u64 (shlX .u64 y (IntKind.wrap .u64 r4.1.1)) 32))) ≥ 4294967296)) (
J15 (IntKind.wrap .u64 (z19.2.1 - 1), ()) w23) (
self18 (IntKind.wrap .u64 (z19.1 + (shrX .u64 (shlX .u64 y (IntKind.wrap .u64 r4.1.1)) 32)), IntKind.wrap .u64 (z19.2.1 - 1), ()) w23))) (IntKind.wrap .u64 ((IntKind.wrap .u64 ((IntKind.wrap .u64 ((IntKind.wrap .u64 ((bitsX .or .u64 (shlX .u64 hi (IntKind.wrap .u64 r4.1.1)) (shrX .u64 lo (IntKind.wrap .u64 (64 - (IntKind.wrap .u64 r4.1.1))))) * 4294967296)) + (shrX .u64 (shlX .u64 lo (IntKind.wrap .u64 r4.1.1)) 32))) - (IntKind.wrap .u64 (z7.1 * (shlX .u64 y (IntKind.wrap .u64 r4.1.1)))))) - (IntKind.wrap .u64 ((IntKind.wrap .u64 (Int.tdiv (IntKind.wrap .u64 ((IntKind.wrap .u64 ((IntKind.wrap .u64 ((bitsX .or .u64 (shlX .u64 hi (IntKind.wrap .u64 r4.1.1)) (shrX .u64 lo (IntKind.wrap .u64 (64 - (IntKind.wrap .u64 r4.1.1))))) * 4294967296)) + (shrX .u64 (shlX .u64 lo (IntKind.wrap .u64 r4.1.1)) 32))) - (IntKind.wrap .u64 (z7.1 * (shlX .u64 y (IntKind.wrap .u64 r4.1.1)))))) (shrX .u64 (shlX .u64 y (IntKind.wrap .u64 r4.1.1)) 32))) * (shrX .u64 (shlX .u64 y (IntKind.wrap .u64 r4.1.1)) 32)))), IntKind.wrap .u64 (Int.tdiv (IntKind.wrap .u64 ((IntKind.wrap .u64 ((IntKind.wrap .u64 ((bitsX .or .u64 (shlX .u64 hi (IntKind.wrap .u64 r4.1.1)) (shrX .u64 lo (IntKind.wrap .u64 (64 - (IntKind.wrap .u64 r4.1.1))))) * 4294967296)) + (shrX .u64 (shlX .u64 lo (IntKind.wrap .u64 r4.1.1)) 32))) - (IntKind.wrap .u64 (z7.1 * (shlX .u64 y (IntKind.wrap .u64 r4.1.1)))))) (shrX .u64 (shlX .u64 y (IntKind.wrap .u64 r4.1.1)) 32)), ()) w8) (fun (z16 : (Int) × Unit) w17 => ∀ _ : Nat → Value,
shK (IntKind.wrap .u64 r4.1.1) (
R ((IntKind.wrap .u64 ((IntKind.wrap .u64 (z7.1 * 4294967296)) + z16.1), ()), (shrX .u64 (IntKind.wrap .u64 ((IntKind.wrap .u64 ((IntKind.wrap .u64 ((IntKind.wrap .u64 ((IntKind.wrap .u64 ((IntKind.wrap .u64 ((bitsX .or .u64 (shlX .u64 hi (IntKind.wrap .u64 r4.1.1)) (shrX .u64 lo (IntKind.wrap .u64 (64 - (IntKind.wrap .u64 r4.1.1))))) * 4294967296)) + (shrX .u64 (shlX .u64 lo (IntKind.wrap .u64 r4.1.1)) 32))) - (IntKind.wrap .u64 (z7.1 * (shlX .u64 y (IntKind.wrap .u64 r4.1.1)))))) * 4294967296)) + (bitsX .and .u64 (shlX .u64 lo (IntKind.wrap .u64 r4.1.1)) 4294967295))) - (IntKind.wrap .u64 (z16.1 * (shlX .u64 y (IntKind.wrap .u64 r4.1.1)))))) (IntKind.wrap .u64 r4.1.1), ()), ()) w17))))))))))))))
set_option maxRecDepth 100000 in
theorem bits_Div64.eq (hi : Int) (lo : Int) (y : Int) (w : World) (R : Value → World → Prop) : wpF Tryz.prog Tryz.f103 (.s .n (.s .n (.s .n (.s (.s .n (.s (.s (.pl (.tk 0 (.tk 1 (.tk 2 (.tk 3 (.tk 4 (.tk 5 (.tk 6 (.tk 7 .z))))))))) .n) .n)) (.s .n (.s .n (.s .n (.s .n (.s .n (.s .n (.s .n (.s .n (.s .n (.s .n (.ct [(15, (.i .u64))] (.lp [(15, (.i .u64)), (16, (.i .u64))] (.ct [] .n .n)) (.s .n (.s .n (.s .n (.ct [(18, (.i .u64))] (.lp [(16, (.i .u64)), (18, (.i .u64))] (.ct [] .n .n)) .n))))))))))))))))))) [.int .u64 hi, .int .u64 lo, .int .u64 y] w R = bits_Div64.wp hi lo y w (fun r w => R (encR true [(false, [(.i .u64)]), (false, [(.i .u64)])] r) w) := by kernel_rfl
theorem bits_Div64.ok {hi : Int} {lo : Int} {y : Int} {w : World} {R : TR [(false, [(.i .u64)]), (false, [(.i .u64)])] → World → Prop} (h : bits_Div64.wp hi lo y w R) : clS Tryz.prog F.bits_Div64 [.int .u64 hi, .int .u64 lo, .int .u64 y] w true [(false, [(.i .u64)]), (false, [(.i .u64)])] R :=
  ok_of Tryz_follows Tryz.func103 (fun R => bits_Div64.wp hi lo y w R) (bits_Div64.eq hi lo y w) rfl h
/-! ### ref01_MulDiv -/
set_option maxRecDepth 100000 in
def ref01_MulDiv.wp (a : Int) (b : Int) (c : Int) (w : World) (R : TR [(false, [(.i .i64)]), (false, [.b])] → World → Prop) : Prop :=
brB (decide (c < 1)) (
R ((0, ()), (false, ()), ()) w) (
clS Tryz.prog F.ref01_Size [.int .i64 a] w false [(false, [(.i .u64)])] fun r1 w2 =>
clS Tryz.prog F.ref01_Size [.int .i64 b] w2 false [(false, [(.i .u64)])] fun r3 w4 =>
clS Tryz.prog F.ref01_Times [.int .u64 r1.1.1, .int .u64 r3.1.1] w4 false [(true, [(.i .u64), (.i .u64), (.i .u64), (.i .u64)])] fun r5 w6 =>
clS Tryz.prog F.ref01_Over [.agg #[.int .u64 r5.1.1, .int .u64 r5.1.2.1, .int .u64 r5.1.2.2.1, .int .u64 r5.1.2.2.2.1], .int .u64 (IntKind.wrap .u64 c)] w6 true [(false, [(.i .u64)]), (false, [(.i .u64)]), (false, [.b])] fun r7 w8 =>
brB (!r7.2.2.1.1) (
R ((0, ()), (false, ()), ()) w8) (
CutT (fun (J9 : ((Bool) × Unit) → World → Prop) =>
brB ((decide (a < 0)) == (decide (b < 0))) (
J9 (true, ()) w8) (
brB (r7.1.1 == 0) (
J9 ((r7.2.1.1 == 0), ()) w8) (
J9 (false, ()) w8))) (fun (z10 : (Bool) × Unit) w11 => ∀ _ : Nat → Value,
brB z10.1 (
brB (decide (r7.1.1 > 9223372036854775807)) (
R ((0, ()), (false, ()), ()) w11) (
R ((IntKind.wrap .i64 r7.1.1, ()), (true, ()), ()) w11)) (
CutT (fun (J12 : ((Int) × Unit) → World → Prop) =>
brB (decide (r7.2.1.1 > 0)) (
brB (decide (r7.1.1 ≥ 9223372036854775808)) (
R ((0, ()), (false, ()), ()) w11) (
J12 (IntKind.wrap .u64 (r7.1.1 + 1), ()) w11)) (
J12 (r7.1.1, ()) w11)) (fun (z13 : (Int) × Unit) w14 => ∀ _ : Nat → Value,
brB (decide (z13.1 > 9223372036854775808)) (
R ((0, ()), (false, ()), ()) w14) (
brB (z13.1 == 0) (
R ((0, ()), (true, ()), ()) w14) (
R ((IntKind.wrap .i64 ((IntKind.wrap .i64 (0 - (IntKind.wrap .i64 (IntKind.wrap .u64 (z13.1 - 1))))) - 1), ()), (true, ()), ()) w14)))))))
set_option maxRecDepth 100000 in
theorem ref01_MulDiv.eq (a : Int) (b : Int) (c : Int) (w : World) (R : Value → World → Prop) : wpF Tryz.prog Tryz.f104 (.s .n (.s .n (.s .n (.s .n (.s (.ct [(39, .b)] .n .n) (.ct [(8, (.i .u64))] .n .n)))))) [.int .i64 a, .int .i64 b, .int .i64 c] w R = ref01_MulDiv.wp a b c w (fun r w => R (encR true [(false, [(.i .i64)]), (false, [.b])] r) w) := by kernel_rfl
theorem ref01_MulDiv.ok {a : Int} {b : Int} {c : Int} {w : World} {R : TR [(false, [(.i .i64)]), (false, [.b])] → World → Prop} (h : ref01_MulDiv.wp a b c w R) : clS Tryz.prog F.ref01_MulDiv [.int .i64 a, .int .i64 b, .int .i64 c] w true [(false, [(.i .i64)]), (false, [.b])] R :=
  ok_of Tryz_follows Tryz.func104 (fun R => ref01_MulDiv.wp a b c w R) (ref01_MulDiv.eq a b c w) rfl h
/-! ### bits_LeadingZeros64 -/
set_option maxRecDepth 100000 in
def bits_LeadingZeros64.wp (x : Int) (w : World) (R : TR [(false, [(.i .i64)])] → World → Prop) : Prop :=
clS Tryz.prog F.bits_Len64 [.int .u64 x] w false [(false, [(.i .i64)])] fun r1 w2 =>
R ((IntKind.wrap .i64 (64 - r1.1.1), ()), ()) w2
set_option maxRecDepth 100000 in
theorem bits_LeadingZeros64.eq (x : Int) (w : World) (R : Value → World → Prop) : wpF Tryz.prog Tryz.f105 .n [.int .u64 x] w R = bits_LeadingZeros64.wp x w (fun r w => R (encR false [(false, [(.i .i64)])] r) w) := by kernel_rfl
theorem bits_LeadingZeros64.ok {x : Int} {w : World} {R : TR [(false, [(.i .i64)])] → World → Prop} (h : bits_LeadingZeros64.wp x w R) : clS Tryz.prog F.bits_LeadingZeros64 [.int .u64 x] w false [(false, [(.i .i64)])] R :=
  ok_of Tryz_follows Tryz.func105 (fun R => bits_LeadingZeros64.wp x w R) (bits_LeadingZeros64.eq x w) rfl h
end Go.Proofs.YtgpgdhopmifbpaaGreat
