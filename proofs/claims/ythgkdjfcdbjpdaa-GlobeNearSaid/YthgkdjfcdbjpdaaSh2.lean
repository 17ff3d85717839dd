import Derived.Test.YthgkdjfcdbjpdaaNm
namespace Go.Proofs.Ythgkdjfcdbjpdaa
open Go.Eng
set_option linter.unusedVariables false
/-! ### ref12_Hops -/
set_option maxRecDepth 100000 in
def ref12_Hops.wp (list : Option Addr × Nat × Nat) (w : World) (R : TR [(false, [(.i .i64)])] → World → Prop) : Prop :=
LoopT (fun (self1 : ((Int) × (Int) × Unit) → World → Prop) (z2 : (Int) × (Int) × Unit) w3 => ∀ _ : Nat → Value,
brB (decide (z2.2.1 < (list.2.1 : Int))) (
ixK list.1 list.2.1 z2.2.1 fun a4 =>
ldN [(.i .i64), (.i .i64), (.i .i64)] (a4.add (z2.2.1.toNat * 3)) 0 w3 fun x5 =>
alK [.int .i64 0, .int .i64 0, .int .i64 0] T.ref12_Entry w3 fun p6 w7 =>
stN [.int .i64 x5.1, .int .i64 x5.2.1, .int .i64 x5.2.2.1] p6 0 w7 fun w8 =>
ld1 (.i .i64) (p6.add 2) w8 fun x9 =>
self1 ((if x9 > z2.1 then x9 else z2.1), IntKind.wrap .i64 (z2.2.1 + 1), ()) w8) (
R ((z2.1, ()), ()) w3)) (0, 0, ()) w
set_option maxRecDepth 100000 in
theorem ref12_Hops.eq (list : Option Addr × Nat × Nat) (w : World) (R : Value → World → Prop) : wpF Try.prog Try.f30 (.s .n (.s .n (.s (.s .n (.lp [(3, (.i .i64)), (8, (.i .i64))] .n)) .n))) [.slice list.1 list.2.1 list.2.2] w R = ref12_Hops.wp list w (fun r w => R (encR false [(false, [(.i .i64)])] r) w) := by kernel_rfl
theorem ref12_Hops.ok {list : Option Addr × Nat × Nat} {w : World} {R : TR [(false, [(.i .i64)])] → World → Prop} (h : ref12_Hops.wp list w R) : clS Try.prog F.ref12_Hops [.slice list.1 list.2.1 list.2.2] w false [(false, [(.i .i64)])] R :=
  ok_of Try_follows Try.func30 (fun R => ref12_Hops.wp list w R) (ref12_Hops.eq list w) rfl h
/-! ### slope_Slope_Gain -/
set_option maxRecDepth 100000 in
def slope_Slope_Gain.wp (s0 : Int) (s1 : Int) (ticks : Int) (w : World) (R : TR [(false, [(.i .i64)])] → World → Prop) : Prop :=
alK [.int .i64 s0, .int .i64 s1] T.slope_Slope w fun p1 w2 =>
ld1 (.i .i64) p1 w2 fun x3 =>
ld1 (.i .i64) (p1.add 1) w2 fun x4 =>
clS Try.prog F.fix_MulDiv [.int .i64 x3, .int .i64 ticks, .int .i64 x4] w2 true [(false, [(.i .i64)]), (false, [.b])] fun r5 w6 =>
R ((r5.1.1, ()), ()) w6
set_option maxRecDepth 100000 in
theorem slope_Slope_Gain.eq (s0 : Int) (s1 : Int) (ticks : Int) (w : World) (R : Value → World → Prop) : wpF Try.prog Try.f31 .n [.agg #[.int .i64 s0, .int .i64 s1], .int .i64 ticks] w R = slope_Slope_Gain.wp s0 s1 ticks w (fun r w => R (encR false [(false, [(.i .i64)])] r) w) := by kernel_rfl
theorem slope_Slope_Gain.ok {s0 : Int} {s1 : Int} {ticks : Int} {w : World} {R : TR [(false, [(.i .i64)])] → World → Prop} (h : slope_Slope_Gain.wp s0 s1 ticks w R) : clS Try.prog F.slope_Slope_Gain [.agg #[.int .i64 s0, .int .i64 s1], .int .i64 ticks] w false [(false, [(.i .i64)])] R :=
  ok_of Try_follows Try.func31 (fun R => slope_Slope_Gain.wp s0 s1 ticks w R) (slope_Slope_Gain.eq s0 s1 ticks w) rfl h
/-! ### fix_Sat -/
set_option maxRecDepth 100000 in
def fix_Sat.wp (a : Int) (b : Int) (w : World) (R : TR [(false, [(.i .i64)])] → World → Prop) : Prop :=
clS Try.prog F.fix_Add [.int .i64 a, .int .i64 b] w true [(false, [(.i .i64)]), (false, [.b])] fun r1 w2 =>
brB r1.2.1.1 (
R ((r1.1.1, ()), ()) w2) (
brB (decide (b > 0)) (
R ((9223372036854775807, ()), ()) w2) (
R (((Int.negSucc 9223372036854775807), ()), ()) w2))
set_option maxRecDepth 100000 in
theorem fix_Sat.eq (a : Int) (b : Int) (w : World) (R : Value → World → Prop) : wpF Try.prog Try.f32 .n [.int .i64 a, .int .i64 b] w R = fix_Sat.wp a b w (fun r w => R (encR false [(false, [(.i .i64)])] r) w) := by kernel_rfl
theorem fix_Sat.ok {a : Int} {b : Int} {w : World} {R : TR [(false, [(.i .i64)])] → World → Prop} (h : fix_Sat.wp a b w R) : clS Try.prog F.fix_Sat [.int .i64 a, .int .i64 b] w false [(false, [(.i .i64)])] R :=
  ok_of Try_follows Try.func32 (fun R => fix_Sat.wp a b w R) (fix_Sat.eq a b w) rfl h
/-! ### fix_Clamp -/
set_option maxRecDepth 100000 in
def fix_Clamp.wp (x : Int) (low : Int) (high : Int) (w : World) (R : TR [(false, [(.i .i64)])] → World → Prop) : Prop :=
R (((if low > (if high < x then high else x) then low else (if high < x then high else x)), ()), ()) w
set_option maxRecDepth 100000 in
theorem fix_Clamp.eq (x : Int) (low : Int) (high : Int) (w : World) (R : Value → World → Prop) : wpF Try.prog Try.f33 .n [.int .i64 x, .int .i64 low, .int .i64 high] w R = fix_Clamp.wp x low high w (fun r w => R (encR false [(false, [(.i .i64)])] r) w) := by kernel_rfl
theorem fix_Clamp.ok {x : Int} {low : Int} {high : Int} {w : World} {R : TR [(false, [(.i .i64)])] → World → Prop} (h : fix_Clamp.wp x low high w R) : clS Try.prog F.fix_Clamp [.int .i64 x, .int .i64 low, .int .i64 high] w false [(false, [(.i .i64)])] R :=
  ok_of Try_follows Try.func33 (fun R => fix_Clamp.wp x low high w R) (fix_Clamp.eq x low high w) rfl h
/-! ### ref01_MulDiv -/
set_option maxRecDepth 100000 in
def ref01_MulDiv.wp (a : Int) (b : Int) (c : Int) (w : World) (R : TR [(false, [(.i .i64)]), (false, [.b])] → World → Prop) : Prop :=
brB (decide (c < 1)) (
R ((0, ()), (false, ()), ()) w) (
clS Try.prog F.ref01_Size [.int .i64 a] w false [(false, [(.i .u64)])] fun r1 w2 =>
clS Try.prog F.ref01_Size [.int .i64 b] w2 false [(false, [(.i .u64)])] fun r3 w4 =>
clS Try.prog F.ref01_Times [.int .u64 r1.1.1, .int .u64 r3.1.1] w4 false [(true, [(.i .u64), (.i .u64), (.i .u64), (.i .u64)])] fun r5 w6 =>
clS Try.prog F.ref01_Over [.agg #[.int .u64 r5.1.1, .int .u64 r5.1.2.1, .int .u64 r5.1.2.2.1, .int .u64 r5.1.2.2.2.1], .int .u64 (IntKind.wrap .u64 c)] w6 true [(false, [(.i .u64)]), (false, [(.i .u64)]), (false, [.b])] fun r7 w8 =>
brB (!r7.2.2.1.1) (
R ((0, ()), (false, ()), ()) w8) (
CutT (fun (J9 : ((Bool) × Unit) → World → Prop) =>
brB ((decide (a < 0)) == (decide (b < 0))) (
J9 (true, ()) w8) (
brB (r7.1.1 == 0) (
J9 ((r7.2.1.1 == 0), ()) w8) (
J9 (false, ()) w8))) (fun (z10 : (Bool) × Unit) w11 => ∀ _ : Nat → Value,
brB z10.1 (
brB (decide (r7.1.1 > 9223372036854775807)) (
R ((0, ()), (false, ()), ()) w11) (
R ((IntKind.wrap .i64 r7.1.1, ()), (true, ()), ()) w11)) (
CutT (fun (J12 : ((Int) × Unit) → World → Prop) =>
brB (decide (r7.2.1.1 > 0)) (
brB (decide (r7.1.1 ≥ 9223372036854775808)) (
R ((0, ()), (false, ()), ()) w11) (
J12 (IntKind.wrap .u64 (r7.1.1 + 1), ()) w11)) (
J12 (r7.1.1, ()) w11)) (fun (z13 : (Int) × Unit) w14 => ∀ _ : Nat → Value,
brB (decide (z13.1 > 9223372036854775808)) (
R ((0, ()), (false, ()), ()) w14) (
brB (z13.1 == 0) (
R ((0, ()), (true, ()), ()) w14) (
R ((IntKind.wrap .i64 ((IntKind.wrap .i64 (0 - (IntKind.wrap .i64 (IntKind.wrap .u64 (z13.1 - 1))))) - 1), ()), (true, ()), ()) w14)))))))
set_option maxRecDepth 100000 in
theorem ref01_MulDiv.eq (a : Int) (b : Int) (c : Int) (w : World) (R : Value → World → Prop) : wpF Try.prog Try.f34 (.s .n (.s .n (.s .n (.s .n (.s (.ct [(39, .b)] .n .n) (.ct [(8, (.i .u64))] .n .n)))))) [.int .i64 a, .int .i64 b, .int .i64 c] w R = ref01_MulDiv.wp a b c w (fun r w => R (encR true [(false, [(.i .i64)]), (false, [.b])] r) w) := by kernel_rfl
theorem ref01_MulDiv.ok {a : Int} {b : Int} {c : Int} {w : World} {R : TR [(false, [(.i .i64)]), (false, [.b])] → World → Prop} (h : ref01_MulDiv.wp a b c w R) : clS Try.prog F.ref01_MulDiv [.int .i64 a, .int .i64 b, .int .i64 c] w true [(false, [(.i .i64)]), (false, [.b])] R :=
  ok_of Try_follows Try.func34 (fun R => ref01_MulDiv.wp a b c w R) (ref01_MulDiv.eq a b c w) rfl h
/-! ### globe_Map_below -/
set_option maxRecDepth 100000 in
def globe_Map_below.wp (m0 : Int) (m1 : Int) (m2 : Int) (m3 : Int) (m4 : Int) (local_ : Int) (global : Int) (w : World) (R : TR [(false, [.b])] → World → Prop) : Prop :=
alK [.int .i64 m0, .int .i64 m1, .int .i64 m2, .int .i64 m3, .int .i64 m4] T.globe_Map w fun p1 w2 =>
ldN [(.i .i64), (.i .i64), (.i .i64), (.i .i64), (.i .i64)] p1 0 w2 fun x3 =>
clS Try.prog F.globe_Map_Global [.agg #[.int .i64 x3.1, .int .i64 x3.2.1, .int .i64 x3.2.2.1, .int .i64 x3.2.2.2.1, .int .i64 x3.2.2.2.2.1], .int .i64 local_] w2 true [(false, [(.i .i64)]), (false, [.b])] fun r4 w5 =>
brB r4.2.1.1 (
R ((decide (r4.1.1 < global), ()), ()) w5) (
drK w5 fun w6 =>
ld1 (.i .i64) (p1.add 1) w6 fun x7 =>
ldN [(.i .i64), (.i .i64)] (p1.add 2) 0 w6 fun x8 =>
ld1 (.i .i64) p1 w6 fun x9 =>
clS Try.prog F.fix_Clamp [.int .i64 x7, .int .i64 (Int.negSucc 1125899906842623), .int .i64 1125899906842624] w6 false [(false, [(.i .i64)])] fun r10 w11 =>
Hold [(9, p1, (w6.cell? p1).getD undef), (6, ((p1.add 2).add 0), (w6.cell? ((p1.add 2).add 0)).getD undef), (6, ((p1.add 2).add 1), (w6.cell? ((p1.add 2).add 1)).getD undef), (2, (p1.add 1), (w6.cell? (p1.add 1)).getD undef)] w11 ∧ (
clS Try.prog F.slope_Slope_Gain [.agg #[.int .i64 x8.1, .int .i64 x8.2.1], .int .i64 (IntKind.wrap .i64 (local_ - x9))] w11 false [(false, [(.i .i64)])] fun r12 w13 =>
Hold [(9, p1, (w6.cell? p1).getD undef), (6, ((p1.add 2).add 0), (w6.cell? ((p1.add 2).add 0)).getD undef), (6, ((p1.add 2).add 1), (w6.cell? ((p1.add 2).add 1)).getD undef), (2, (p1.add 1), (w6.cell? (p1.add 1)).getD undef)] w13 ∧ (
clS Try.prog F.fix_Clamp [.int .i64 r12.1.1, .int .i64 (Int.negSucc 1125899906842623), .int .i64 1125899906842624] w13 false [(false, [(.i .i64)])] fun r14 w15 =>
Hold [(9, p1, (w6.cell? p1).getD undef), (6, ((p1.add 2).add 0), (w6.cell? ((p1.add 2).add 0)).getD undef), (6, ((p1.add 2).add 1), (w6.cell? ((p1.add 2).add 1)).getD undef), (2, (p1.add 1), (w6.cell? (p1.add 1)).getD undef)] w15 ∧ (
R ((decide ((IntKind.wrap .i64 ((IntKind.wrap .i64 (local_ + r10.1.1)) + r14.1.1)) < 0), ()), ()) w15))))
set_option maxRecDepth 100000 in
theorem globe_Map_below.eq (m0 : Int) (m1 : Int) (m2 : Int) (m3 : Int) (m4 : Int) (local_ : Int) (global : Int) (w : World) (R : Value → World → Prop) : wpF Try.prog Try.f35 (.s .n (.s .n (.s (.pl (.tk 0 (.tk 1 (.tk 2 (.tk 5 (.tk 6 (.tk 7 (.tk 8 (.tk 9 (.tk 10 (.ef 3 [] (.tk 4 (.ef 11 [] (.ef 12 [] (.tk 13 (.tk 14 (.tk 15 .z))))))))))))))))) .n))) [.agg #[.int .i64 m0, .int .i64 m1, .int .i64 m2, .int .i64 m3, .int .i64 m4], .int .i64 local_, .int .i64 global] w R = globe_Map_below.wp m0 m1 m2 m3 m4 local_ global w (fun r w => R (encR false [(false, [.b])] r) w) := by kernel_rfl
theorem globe_Map_below.ok {m0 : Int} {m1 : Int} {m2 : Int} {m3 : Int} {m4 : Int} {local_ : Int} {global : Int} {w : World} {R : TR [(false, [.b])] → World → Prop} (h : globe_Map_below.wp m0 m1 m2 m3 m4 local_ global w R) : clS Try.prog F.globe_Map_below [.agg #[.int .i64 m0, .int .i64 m1, .int .i64 m2, .int .i64 m3, .int .i64 m4], .int .i64 local_, .int .i64 global] w false [(false, [.b])] R :=
  ok_of Try_follows Try.func35 (fun R => globe_Map_below.wp m0 m1 m2 m3 m4 local_ global w R) (globe_Map_below.eq m0 m1 m2 m3 m4 local_ global w) rfl h
/-! ### table_Table_Last -/
set_option maxRecDepth 100000 in
def table_Table_Last.wp (t : Option Addr) (w : World) (R : TR [(true, [(.i .i64), (.i .i64), (.i .i64)]), (false, [.b])] → World → Prop) : Prop :=
alK [.int .i64 0, .int .i64 0, .int .i64 0] T.table_Entry w fun p1 w2 =>
clS Try.prog F.table_Table_Len [.pointer t] w2 false [(false, [(.i .i64)])] fun r3 w4 =>
brB (r3.1.1 == 0) (
stN [.int .i64 0, .int .i64 0, .int .i64 0] p1 0 w4 fun w5 =>
ldN [(.i .i64), (.i .i64), (.i .i64)] p1 0 w5 fun x6 =>
R ((x6.1, x6.2.1, x6.2.2.1, ()), (false, ()), ()) w5) (
drK w4 fun w7 =>
ncK t fun a8 =>
ld1 .sl a8 w7 fun x9 =>
ncK t fun a10 =>
ld1 .sl a10 w7 fun x11 =>
ixK x9.1 x9.2.1 (IntKind.wrap .i64 ((x11.2.1 : Int) - 1)) fun a12 =>
ldN [(.i .i64), (.i .i64), (.i .i64)] (a12.add ((IntKind.wrap .i64 ((x11.2.1 : Int) - 1)).toNat * 3)) 0 w7 fun x13 =>
stN [.int .i64 x13.1, .int .i64 x13.2.1, .int .i64 x13.2.2.1] p1 0 w7 fun w14 =>
Hold [] w14 ∧ (
ldN [(.i .i64), (.i .i64), (.i .i64)] p1 0 w14 fun x15 =>
R ((x15.1, x15.2.1, x15.2.2.1, ()), (true, ()), ()) w14))
set_option maxRecDepth 100000 in
theorem table_Table_Last.eq (t : Option Addr) (w : World) (R : Value → World → Prop) : wpF Try.prog Try.f36 (.s .n (.s .n (.s (.pl (.tk 0 (.tk 1 (.tk 2 (.tk 3 (.tk 4 (.tk 5 (.tk 6 (.tk 7 (.tk 8 (.tk 9 (.tk 10 (.tk 11 (.ef 12 [3, 7, 11] (.tk 13 .z))))))))))))))) .n))) [.pointer t] w R = table_Table_Last.wp t w (fun r w => R (encR true [(true, [(.i .i64), (.i .i64), (.i .i64)]), (false, [.b])] r) w) := by kernel_rfl
theorem table_Table_Last.ok {t : Option Addr} {w : World} {R : TR [(true, [(.i .i64), (.i .i64), (.i .i64)]), (false, [.b])] → World → Prop} (h : table_Table_Last.wp t w R) : clS Try.prog F.table_Table_Last [.pointer t] w true [(true, [(.i .i64), (.i .i64), (.i .i64)]), (false, [.b])] R :=
  ok_of Try_follows Try.func36 (fun R => table_Table_Last.wp t w R) (table_Table_Last.eq t w) rfl h
/-! ### slices_Clone_table_Entry_table_Entry -/
set_option maxRecDepth 100000 in
def slices_Clone_table_Entry_table_Entry.wp (s : Option Addr × Nat × Nat) (w : World) (R : TR [(false, [.sl])] → World → Prop) : Prop :=
brB (Option.isNone s.1) (
R (((none, 0, 0), ()), ()) w) (
alK [] T.table_Entry w fun p1 w2 =>
slOf ((Builtin.append_ #[T.sl_table_Entry, T.sl_table_Entry] T.sl_table_Entry #[.slice (some p1) 0 0, .slice s.1 s.2.1 s.2.2]).run Try.prog w2) fun y3 w4 =>
R (((y3.1, y3.2.1, y3.2.2), ()), ()) w4)
set_option maxRecDepth 100000 in
theorem slices_Clone_table_Entry_table_Entry.eq (s : Option Addr × Nat × Nat) (w : World) (R : Value → World → Prop) : wpF Try.prog Try.f37 .n [.slice s.1 s.2.1 s.2.2] w R = slices_Clone_table_Entry_table_Entry.wp s w (fun r w => R (encR false [(false, [.sl])] r) w) := by kernel_rfl
theorem slices_Clone_table_Entry_table_Entry.ok {s : Option Addr × Nat × Nat} {w : World} {R : TR [(false, [.sl])] → World → Prop} (h : slices_Clone_table_Entry_table_Entry.wp s w R) : clS Try.prog F.slices_Clone_table_Entry_table_Entry [.slice s.1 s.2.1 s.2.2] w false [(false, [.sl])] R :=
  ok_of Try_follows Try.func37 (fun R => slices_Clone_table_Entry_table_Entry.wp s w R) (slices_Clone_table_Entry_table_Entry.eq s w) rfl h
/-! ### ref12_Good -/
set_option maxRecDepth 100000 in
def ref12_Good.wp (e0 : Int) (e1 : Int) (e2 : Int) (w : World) (R : TR [(false, [.b])] → World → Prop) : Prop :=
alK [.int .i64 e0, .int .i64 e1, .int .i64 e2] T.ref12_Entry w fun p1 w2 =>
ld1 (.i .i64) p1 w2 fun x3 =>
brB (decide (x3 ≥ 0)) (
ld1 (.i .i64) p1 w2 fun x4 =>
brB (decide (x4 ≤ 1125899906842624)) (
ld1 (.i .i64) (p1.add 1) w2 fun x5 =>
brB (decide (x5 ≥ (Int.negSucc 1125899906842623))) (
ld1 (.i .i64) (p1.add 1) w2 fun x6 =>
brB (decide (x6 ≤ 1125899906842624)) (
ld1 (.i .i64) (p1.add 2) w2 fun x7 =>
brB (decide (x7 ≥ 1)) (
ld1 (.i .i64) (p1.add 2) w2 fun x8 =>
R ((decide (x8 ≤ 63), ()), ()) w2) (
R ((false, ()), ()) w2)) (
R ((false, ()), ()) w2)) (
R ((false, ()), ()) w2)) (
R ((false, ()), ()) w2)) (
R ((false, ()), ()) w2)
set_option maxRecDepth 100000 in
theorem ref12_Good.eq (e0 : Int) (e1 : Int) (e2 : Int) (w : World) (R : Value → World → Prop) : wpF Try.prog Try.f38 .n [.agg #[.int .i64 e0, .int .i64 e1, .int .i64 e2]] w R = ref12_Good.wp e0 e1 e2 w (fun r w => R (encR false [(false, [.b])] r) w) := by kernel_rfl
theorem ref12_Good.ok {e0 : Int} {e1 : Int} {e2 : Int} {w : World} {R : TR [(false, [.b])] → World → Prop} (h : ref12_Good.wp e0 e1 e2 w R) : clS Try.prog F.ref12_Good [.agg #[.int .i64 e0, .int .i64 e1, .int .i64 e2]] w false [(false, [.b])] R :=
  ok_of Try_follows Try.func38 (fun R => ref12_Good.wp e0 e1 e2 w R) (ref12_Good.eq e0 e1 e2 w) rfl h
/-! ### table_Table_All_1 -/
set_option maxRecDepth 100000 in
def table_Table_All_1.wp (yield : Nat) (c_cap0 : Addr) (w : World) (R : TR [] → World → Prop) : Prop :=
ld1 .p c_cap0 w fun x1 =>
clS Try.prog F.table_Table_Len [.pointer x1] w false [(false, [(.i .i64)])] fun r2 w3 =>
LoopT (fun (self4 : ((Int) × Unit) → World → Prop) (z5 : (Int) × Unit) w6 => ∀ _ : Nat → Value,
brB (decide (z5.1 < r2.1.1)) (
ld1 .p c_cap0 w6 fun x7 =>
ncK x7 fun a8 =>
ld1 .sl a8 w6 fun x9 =>
ixK x9.1 x9.2.1 z5.1 fun a10 =>
ldN [(.i .i64), (.i .i64), (.i .i64)] (a10.add (z5.1.toNat * 3)) 0 w6 fun x11 =>
yiS Try.prog yield [.agg #[.int .i64 x11.1, .int .i64 x11.2.1, .int .i64 x11.2.2.1]] w6 fun b12 w13 =>
brB (!b12) (
R (()) w13) (
self4 (IntKind.wrap .i64 (z5.1 + 1), ()) w13)) (
R (()) w6)) (0, ()) w3
set_option maxRecDepth 100000 in
theorem table_Table_All_1.eq (yield : Nat) (c_cap0 : Addr) (w : World) (R : Value → World → Prop) : wpF Try.prog Try.f39 (.s .n (.lp [(6, (.i .i64))] .n)) [.func (.yield yield) #[] #[], .pointer (some c_cap0)] w R = table_Table_All_1.wp yield c_cap0 w (fun r w => R (encR true [] r) w) := by kernel_rfl
theorem table_Table_All_1.ok {yield : Nat} {c_cap0 : Addr} {w : World} {R : TR [] → World → Prop} (h : table_Table_All_1.wp yield c_cap0 w R) : clS Try.prog F.table_Table_All_1 [.func (.yield yield) #[] #[], .pointer (some c_cap0)] w true [] R :=
  ok_of Try_follows Try.func39 (fun R => table_Table_All_1.wp yield c_cap0 w R) (table_Table_All_1.eq yield c_cap0 w) rfl h
/-! ### slope_gather -/
set_option maxRecDepth 100000 in
def slope_gather.wp (list : Option Addr × Nat × Nat) (w : World) (R : TR [(true, [(.i .i64), (.i .i64), (.i .i64), (.i .i64), (.i .i64)]), (false, [.b])] → World → Prop) : Prop :=
alK [.int .i64 0, .int .i64 0, .int .i64 0, .int .i64 0, .int .i64 0] T.slope_sums w fun p1 w2 =>
alK [.int .i64 0, .int .i64 0, .int .i64 0, .int .i64 0, .int .i64 0] T.slope_sums w2 fun p3 w4 =>
LoopT (fun (self5 : ((Int) × Unit) → World → Prop) (z6 : (Int) × Unit) w7 => ∀ _ : Nat → Value,
brB (decide (z6.1 < (list.2.1 : Int))) (
ixK list.1 list.2.1 z6.1 fun a8 =>
ldN [(.i .i64), (.i .i64), (.i .i64)] (a8.add (z6.1.toNat * 3)) 0 w7 fun x9 =>
alK [.int .i64 0, .int .i64 0, .int .i64 0] T.table_Entry w7 fun p10 w11 =>
stN [.int .i64 x9.1, .int .i64 x9.2.1, .int .i64 x9.2.2.1] p10 0 w11 fun w12 =>
drK w12 fun w13 =>
ld1 (.i .i64) p10 w13 fun x14 =>
ixK list.1 list.2.1 0 fun a15 =>
ld1 (.i .i64) (a15.add ((0 : Int).toNat * 3)) w13 fun x16 =>
ld1 (.i .i64) (p10.add 1) w13 fun x17 =>
ixK list.1 list.2.1 0 fun a18 =>
ld1 (.i .i64) ((a18.add ((0 : Int).toNat * 3)).add 1) w13 fun x19 =>
brB (decide ((IntKind.wrap .i64 (x14 - x16)) < 0)) (
stN [.int .i64 0, .int .i64 0, .int .i64 0, .int .i64 0, .int .i64 0] p1 0 w13 fun w20 =>
ldN [(.i .i64), (.i .i64), (.i .i64), (.i .i64), (.i .i64)] p1 0 w20 fun x21 =>
R ((x21.1, x21.2.1, x21.2.2.1, x21.2.2.2.1, x21.2.2.2.2.1, ()), (false, ()), ()) w20) (
brB (decide ((IntKind.wrap .i64 (x14 - x16)) > 4194304)) (
stN [.int .i64 0, .int .i64 0, .int .i64 0, .int .i64 0, .int .i64 0] p1 0 w13 fun w22 =>
ldN [(.i .i64), (.i .i64), (.i .i64), (.i .i64), (.i .i64)] p1 0 w22 fun x23 =>
R ((x23.1, x23.2.1, x23.2.2.1, x23.2.2.2.1, x23.2.2.2.2.1, ()), (false, ()), ()) w22) (
brB (decide ((IntKind.wrap .i64 (x17 - x19)) < (Int.negSucc 4194303))) (
stN [.int .i64 0, .int .i64 0, .int .i64 0, .int .i64 0, .int .i64 0] p1 0 w13 fun w24 =>
ldN [(.i .i64), (.i .i64), (.i .i64), (.i .i64), (.i .i64)] p1 0 w24 fun x25 =>
R ((x25.1, x25.2.1, x25.2.2.1, x25.2.2.2.1, x25.2.2.2.2.1, ()), (false, ()), ()) w24) (
brB (decide ((IntKind.wrap .i64 (x17 - x19)) > 4194304)) (
stN [.int .i64 0, .int .i64 0, .int .i64 0, .int .i64 0, .int .i64 0] p1 0 w13 fun w26 =>
ldN [(.i .i64), (.i .i64), (.i .i64), (.i .i64), (.i .i64)] p1 0 w26 fun x27 =>
R ((x27.1, x27.2.1, x27.2.2.1, x27.2.2.2.1, x27.2.2.2.2.1, ()), (false, ()), ()) w26) (
clS Try.prog F.slope_sums_add [.pointer (some p3), .int .i64 (IntKind.wrap .i64 (x14 - x16)), .int .i64 (IntKind.wrap .i64 (x17 - x19))] w13 true [] fun r28 w29 =>
self5 (IntKind.wrap .i64 (z6.1 + 1), ()) w29))))) (
ldN [(.i .i64), (.i .i64), (.i .i64), (.i .i64), (.i .i64)] p3 0 w7 fun x30 =>
stN [.int .i64 x30.1, .int .i64 x30.2.1, .int .i64 x30.2.2.1, .int .i64 x30.2.2.2.1, .int .i64 x30.2.2.2.2.1] p1 0 w7 fun w31 =>
ldN [(.i .i64), (.i .i64), (.i .i64), (.i .i64), (.i .i64)] p1 0 w31 fun x32 =>
R ((x32.1, x32.2.1, x32.2.2.1, x32.2.2.2.1, x32.2.2.2.2.1, ()), (true, ()), ()) w31)) (0, ()) w4
set_option maxRecDepth 100000 in
theorem slope_gather.eq (list : Option Addr × Nat × Nat) (w : World) (R : Value → World → Prop) : wpF Try.prog Try.f40 (.s .n (.s .n (.s (.s .n (.lp [(11, (.i .i64))] (.s .n (.s .n (.s (.s .n (.s (.pl (.tk 0 (.tk 1 (.tk 2 (.tk 3 (.tk 4 (.tk 5 (.tk 6 (.tk 7 (.tk 8 (.tk 9 (.tk 10 (.tk 11 (.tk 12 (.tk 13 (.tk 14 (.tk 15 .z))))))))))))))))) .n)) .n))))) .n))) [.slice list.1 list.2.1 list.2.2] w R = slope_gather.wp list w (fun r w => R (encR true [(true, [(.i .i64), (.i .i64), (.i .i64), (.i .i64), (.i .i64)]), (false, [.b])] r) w) := by kernel_rfl
theorem slope_gather.ok {list : Option Addr × Nat × Nat} {w : World} {R : TR [(true, [(.i .i64), (.i .i64), (.i .i64), (.i .i64), (.i .i64)]), (false, [.b])] → World → Prop} (h : slope_gather.wp list w R) : clS Try.prog F.slope_gather [.slice list.1 list.2.1 list.2.2] w true [(true, [(.i .i64), (.i .i64), (.i .i64), (.i .i64), (.i .i64)]), (false, [.b])] R :=
  ok_of Try_follows Try.func40 (fun R => slope_gather.wp list w R) (slope_gather.eq list w) rfl h
/-! ### slope_Most -/
set_option maxRecDepth 100000 in
def slope_Most.wp (drift : Int) (w : World) (R : TR [(true, [(.i .i64), (.i .i64)])] → World → Prop) : Prop :=
alK [.int .i64 0, .int .i64 0] T.slope_Slope w fun p1 w2 =>
clS Try.prog F.fix_Clamp [.int .i64 drift, .int .i64 0, .int .i64 10] w2 false [(false, [(.i .i64)])] fun r3 w4 =>
stN [.int .i64 (IntKind.wrap .i64 (2 * r3.1.1)), .int .i64 (IntKind.wrap .i64 (1000 - r3.1.1))] p1 0 w4 fun w5 =>
ldN [(.i .i64), (.i .i64)] p1 0 w5 fun x6 =>
R ((x6.1, x6.2.1, ()), ()) w5
set_option maxRecDepth 100000 in
theorem slope_Most.eq (drift : Int) (w : World) (R : Value → World → Prop) : wpF Try.prog Try.f41 .n [.int .i64 drift] w R = slope_Most.wp drift w (fun r w => R (encR false [(true, [(.i .i64), (.i .i64)])] r) w) := by kernel_rfl
theorem slope_Most.ok {drift : Int} {w : World} {R : TR [(true, [(.i .i64), (.i .i64)])] → World → Prop} (h : slope_Most.wp drift w R) : clS Try.prog F.slope_Most [.int .i64 drift] w false [(true, [(.i .i64), (.i .i64)])] R :=
  ok_of Try_follows Try.func41 (fun R => slope_Most.wp drift w R) (slope_Most.eq drift w) rfl h
/-! ### slope_over -/
set_option maxRecDepth 100000 in
def slope_over.wp (a0 : Int) (a1 : Int) (b0 : Int) (b1 : Int) (w : World) (R : TR [(false, [.b])] → World → Prop) : Prop :=
alK [.int .i64 a0, .int .i64 a1] T.slope_Slope w fun p1 w2 =>
alK [.int .i64 b0, .int .i64 b1] T.slope_Slope w2 fun p3 w4 =>
ld1 (.i .i64) p1 w4 fun x5 =>
ld1 (.i .i64) (p3.add 1) w4 fun x6 =>
clS Try.prog F.bits_Mul64 [.int .u64 (IntKind.wrap .u64 x5), .int .u64 (IntKind.wrap .u64 x6)] w4 true [(false, [(.i .u64)]), (false, [(.i .u64)])] fun r7 w8 =>
ld1 (.i .i64) p3 w8 fun x9 =>
ld1 (.i .i64) (p1.add 1) w8 fun x10 =>
clS Try.prog F.bits_Mul64 [.int .u64 (IntKind.wrap .u64 x9), .int .u64 (IntKind.wrap .u64 x10)] w8 true [(false, [(.i .u64)]), (false, [(.i .u64)])] fun r11 w12 =>
brB (decide (r7.1.1 > r11.1.1)) (
R ((true, ()), ()) w12) (
brB (r7.1.1 == r11.1.1) (
R ((decide (r7.2.1.1 > r11.2.1.1), ()), ()) w12) (
R ((false, ()), ()) w12))
set_option maxRecDepth 100000 in
theorem slope_over.eq (a0 : Int) (a1 : Int) (b0 : Int) (b1 : Int) (w : World) (R : Value → World → Prop) : wpF Try.prog Try.f42 .n [.agg #[.int .i64 a0, .int .i64 a1], .agg #[.int .i64 b0, .int .i64 b1]] w R = slope_over.wp a0 a1 b0 b1 w (fun r w => R (encR false [(false, [.b])] r) w) := by kernel_rfl
theorem slope_over.ok {a0 : Int} {a1 : Int} {b0 : Int} {b1 : Int} {w : World} {R : TR [(false, [.b])] → World → Prop} (h : slope_over.wp a0 a1 b0 b1 w R) : clS Try.prog F.slope_over [.agg #[.int .i64 a0, .int .i64 a1], .agg #[.int .i64 b0, .int .i64 b1]] w false [(false, [.b])] R :=
  ok_of Try_follows Try.func42 (fun R => slope_over.wp a0 a1 b0 b1 w R) (slope_over.eq a0 a1 b0 b1 w) rfl h
/-! ### slices_Collect_table_Entry -/
set_option maxRecDepth 100000 in
def slices_Collect_table_Entry.wp (seq : Value) (w : World) (R : TR [(false, [.sl])] → World → Prop) : Prop :=
clS Try.prog F.slices_AppendSeq_table_Entry_table_Entry [.slice none 0 0, seq] w false [(false, [.sl])] fun r1 w2 =>
R (((r1.1.1.1, r1.1.1.2.1, r1.1.1.2.2), ()), ()) w2
set_option maxRecDepth 100000 in
theorem slices_Collect_table_Entry.eq (seq : Value) (w : World) (R : Value → World → Prop) : wpF Try.prog Try.f43 .n [seq] w R = slices_Collect_table_Entry.wp seq w (fun r w => R (encR false [(false, [.sl])] r) w) := by kernel_rfl
theorem slices_Collect_table_Entry.ok {seq : Value} {w : World} {R : TR [(false, [.sl])] → World → Prop} (h : slices_Collect_table_Entry.wp seq w R) : clS Try.prog F.slices_Collect_table_Entry [seq] w false [(false, [.sl])] R :=
  ok_of Try_follows Try.func43 (fun R => slices_Collect_table_Entry.wp seq w R) (slices_Collect_table_Entry.eq seq w) rfl h
/-! ### ref13_Over -/
set_option maxRecDepth 100000 in
def ref13_Over.wp (a : Int) (b : Int) (c : Int) (d : Int) (w : World) (R : TR [(false, [.b])] → World → Prop) : Prop :=
LoopT (fun (self1 : ((Int) × (Int) × (Int) × Unit) → World → Prop) (z2 : (Int) × (Int) × (Int) × Unit) w3 => ∀ _ : Nat → Value,
brB (decide (z2.2.2.1 ≥ 0)) (
CutT (fun (J4 : ((Int) × (Int) × Unit) → World → Prop) =>
brB (decide ((IntKind.wrap .i64 (2 * z2.2.1)) ≥ b)) (
J4 (IntKind.wrap .i64 ((IntKind.wrap .i64 (2 * z2.1)) + 1), IntKind.wrap .i64 ((IntKind.wrap .i64 (2 * z2.2.1)) - b), ()) w3) (
J4 (IntKind.wrap .i64 (2 * z2.1), IntKind.wrap .i64 (2 * z2.2.1), ()) w3)) (fun (z5 : (Int) × (Int) × Unit) w6 => ∀ _ : Nat → Value,
shK (IntKind.wrap .u64 z2.2.2.1) (
nzK 2 (
brB ((Int.tmod (shrX .i64 d (IntKind.wrap .u64 z2.2.2.1)) 2) == 1) (
nzK b (
nzK b (
brB (decide ((IntKind.wrap .i64 (z5.2.1 + (Int.tmod a b))) ≥ b)) (
self1 (IntKind.wrap .i64 ((IntKind.wrap .i64 (z5.1 + (IntKind.wrap .i64 (Int.tdiv a b)))) + 1), IntKind.wrap .i64 ((IntKind.wrap .i64 (z5.2.1 + (Int.tmod a b))) - b), IntKind.wrap .i64 (z2.2.2.1 - 1), ()) w6) (
self1 (IntKind.wrap .i64 (z5.1 + (IntKind.wrap .i64 (Int.tdiv a b))), IntKind.wrap .i64 (z5.2.1 + (Int.tmod a b)), IntKind.wrap .i64 (z2.2.2.1 - 1), ()) w6)))) (
self1 (z5.1, z5.2.1, IntKind.wrap .i64 (z2.2.2.1 - 1), ()) w6))))) (
brB (decide (z2.1 > c)) (
R ((true, ()), ()) w3) (
brB (z2.1 == c) (
R ((decide (z2.2.1 > 0), ()), ()) w3) (
R ((false, ()), ()) w3)))) (0, 0, 9, ()) w
set_option maxRecDepth 100000 in
theorem ref13_Over.eq (a : Int) (b : Int) (c : Int) (d : Int) (w : World) (R : Value → World → Prop) : wpF Try.prog Try.f44 (.s .n (.s .n (.s .n (.s (.s .n (.lp [(9, (.i .i64)), (10, (.i .i64)), (11, (.i .i64))] (.s .n (.s (.s .n (.s .n (.ct [(9, (.i .i64)), (10, (.i .i64))] .n .n))) .n)))) .n)))) [.int .i64 a, .int .i64 b, .int .i64 c, .int .i64 d] w R = ref13_Over.wp a b c d w (fun r w => R (encR false [(false, [.b])] r) w) := by kernel_rfl
theorem ref13_Over.ok {a : Int} {b : Int} {c : Int} {d : Int} {w : World} {R : TR [(false, [.b])] → World → Prop} (h : ref13_Over.wp a b c d w R) : clS Try.prog F.ref13_Over [.int .i64 a, .int .i64 b, .int .i64 c, .int .i64 d] w false [(false, [.b])] R :=
  ok_of Try_follows Try.func44 (fun R => ref13_Over.wp a b c d w R) (ref13_Over.eq a b c d w) rfl h
/-! ### fix_MulDiv -/
set_option maxRecDepth 100000 in
def fix_MulDiv.wp (a : Int) (b : Int) (c : Int) (w : World) (R : TR [(false, [(.i .i64)]), (false, [.b])] → World → Prop) : Prop :=
brB (decide (c < 1)) (
R ((0, ()), (false, ()), ()) w) (
clS Try.prog F.fix_Size [.int .i64 a] w false [(false, [(.i .u64)])] fun r1 w2 =>
clS Try.prog F.fix_Size [.int .i64 b] w2 false [(false, [(.i .u64)])] fun r3 w4 =>
clS Try.prog F.bits_Mul64 [.int .u64 r1.1.1, .int .u64 r3.1.1] w4 true [(false, [(.i .u64)]), (false, [(.i .u64)])] fun r5 w6 =>
brB (decide (r5.1.1 ≥ (IntKind.wrap .u64 c))) (
R ((0, ()), (false, ()), ()) w6) (
clS Try.prog F.bits_Div64 [.int .u64 r5.1.1, .int .u64 r5.2.1.1, .int .u64 (IntKind.wrap .u64 c)] w6 true [(false, [(.i .u64)]), (false, [(.i .u64)])] fun r7 w8 =>
brB ((decide (a < 0)) == (decide (b < 0))) (
brB (decide (r7.1.1 > 9223372036854775807)) (
R ((0, ()), (false, ()), ()) w8) (
R ((IntKind.wrap .i64 r7.1.1, ()), (true, ()), ()) w8)) (
CutT (fun (J9 : ((Int) × Unit) → World → Prop) =>
brB (decide (r7.2.1.1 > 0)) (
brB ((IntKind.wrap .u64 (r7.1.1 + 1)) == 0) (
R ((0, ()), (false, ()), ()) w8) (
J9 (IntKind.wrap .u64 (r7.1.1 + 1), ()) w8)) (
J9 (r7.1.1, ()) w8)) (fun (z10 : (Int) × Unit) w11 => ∀ _ : Nat → Value,
brB (decide (z10.1 > 9223372036854775808)) (
R ((0, ()), (false, ()), ()) w11) (
R ((IntKind.wrap .i64 (IntKind.wrap .u64 (0 - z10.1)), ()), (true, ()), ()) w11)))))
set_option maxRecDepth 100000 in
theorem fix_MulDiv.eq (a : Int) (b : Int) (c : Int) (w : World) (R : Value → World → Prop) : wpF Try.prog Try.f45 (.s .n (.s .n (.s .n (.s .n (.s .n (.s .n (.ct [(10, (.i .u64))] .n .n))))))) [.int .i64 a, .int .i64 b, .int .i64 c] w R = fix_MulDiv.wp a b c w (fun r w => R (encR true [(false, [(.i .i64)]), (false, [.b])] r) w) := by kernel_rfl
theorem fix_MulDiv.ok {a : Int} {b : Int} {c : Int} {w : World} {R : TR [(false, [(.i .i64)]), (false, [.b])] → World → Prop} (h : fix_MulDiv.wp a b c w R) : clS Try.prog F.fix_MulDiv [.int .i64 a, .int .i64 b, .int .i64 c] w true [(false, [(.i .i64)]), (false, [.b])] R :=
  ok_of Try_follows Try.func45 (fun R => fix_MulDiv.wp a b c w R) (fix_MulDiv.eq a b c w) rfl h
/-! ### fix_Add -/
set_option maxRecDepth 100000 in
def fix_Add.wp (a : Int) (b : Int) (w : World) (R : TR [(false, [(.i .i64)]), (false, [.b])] → World → Prop) : Prop :=
brB (!((decide ((IntKind.wrap .i64 (a + b)) > a)) == (decide (b > 0)))) (
brB (b != 0) (
R ((0, ()), (false, ()), ()) w) (
R ((IntKind.wrap .i64 (a + b), ()), (true, ()), ()) w)) (
R ((IntKind.wrap .i64 (a + b), ()), (true, ()), ()) w)
set_option maxRecDepth 100000 in
theorem fix_Add.eq (a : Int) (b : Int) (w : World) (R : Value → World → Prop) : wpF Try.prog Try.f46 .n [.int .i64 a, .int .i64 b] w R = fix_Add.wp a b w (fun r w => R (encR true [(false, [(.i .i64)]), (false, [.b])] r) w) := by kernel_rfl
theorem fix_Add.ok {a : Int} {b : Int} {w : World} {R : TR [(false, [(.i .i64)]), (false, [.b])] → World → Prop} (h : fix_Add.wp a b w R) : clS Try.prog F.fix_Add [.int .i64 a, .int .i64 b] w true [(false, [(.i .i64)]), (false, [.b])] R :=
  ok_of Try_follows Try.func46 (fun R => fix_Add.wp a b w R) (fix_Add.eq a b w) rfl h
/-! ### ref01_Over -/
set_option maxRecDepth 100000 in
def ref01_Over.wp (w_0 : Int) (w_1 : Int) (w_2 : Int) (w_3 : Int) (c : Int) (w : World) (R : TR [(false, [(.i .u64)]), (false, [(.i .u64)]), (false, [.b])] → World → Prop) : Prop :=
alK [.int .u64 w_0, .int .u64 w_1, .int .u64 w_2, .int .u64 w_3] T.ref01_Wide w fun p1 w2 =>
LoopT (fun (self3 : ((Int) × (Int) × (Bool) × (Int) × Unit) → World → Prop) (z4 : (Int) × (Int) × (Bool) × (Int) × Unit) w5 => ∀ _ : Nat → Value,
brB (decide (z4.2.2.2.1 ≥ 0)) (
nzK 32 (
ixK (some p1) 4 (IntKind.wrap .i64 (Int.tdiv z4.2.2.2.1 32)) fun a6 =>
ld1 (.i .u64) (a6.add ((IntKind.wrap .i64 (Int.tdiv z4.2.2.2.1 32)).toNat * 1)) w5 fun x7 =>
nzK 32 (
shK (IntKind.wrap .u64 (Int.tmod z4.2.2.2.1 32)) (
CutT (fun (J8 : ((Bool) × Unit) → World → Prop) =>
brB (decide (z4.1 ≥ 9223372036854775808)) (
J8 (false, ()) w5) (
J8 (z4.2.2.1, ()) w5)) (fun (z9 : (Bool) × Unit) w10 => ∀ _ : Nat → Value,
brB (decide ((IntKind.wrap .u64 ((IntKind.wrap .u64 (2 * z4.2.1)) + (bitsX .and .u64 (shrX .u64 x7 (IntKind.wrap .u64 (Int.tmod z4.2.2.2.1 32))) 1))) ≥ c)) (
self3 (IntKind.wrap .u64 ((IntKind.wrap .u64 (2 * z4.1)) + 1), IntKind.wrap .u64 ((IntKind.wrap .u64 ((IntKind.wrap .u64 (2 * z4.2.1)) + (bitsX .and .u64 (shrX .u64 x7 (IntKind.wrap .u64 (Int.tmod z4.2.2.2.1 32))) 1))) - c), z9.1, IntKind.wrap .i64 (z4.2.2.2.1 - 1), ()) w10) (
self3 (IntKind.wrap .u64 (2 * z4.1), IntKind.wrap .u64 ((IntKind.wrap .u64 (2 * z4.2.1)) + (bitsX .and .u64 (shrX .u64 x7 (IntKind.wrap .u64 (Int.tmod z4.2.2.2.1 32))) 1)), z9.1, IntKind.wrap .i64 (z4.2.2.2.1 - 1), ()) w10)))))) (
R ((z4.1, ()), (z4.2.1, ()), (z4.2.2.1, ()), ()) w5)) (0, 0, true, 127, ()) w2
set_option maxRecDepth 100000 in
theorem ref01_Over.eq (w_0 : Int) (w_1 : Int) (w_2 : Int) (w_3 : Int) (c : Int) (w : World) (R : Value → World → Prop) : wpF Try.prog Try.f47 (.s .n (.s .n (.s .n (.s .n (.s (.s .n (.lp [(7, (.i .u64)), (8, (.i .u64)), (9, .b), (10, (.i .i64))] (.s .n (.s (.s .n (.ct [(9, .b)] .n .n)) .n)))) .n))))) [.agg #[.int .u64 w_0, .int .u64 w_1, .int .u64 w_2, .int .u64 w_3], .int .u64 c] w R = ref01_Over.wp w_0 w_1 w_2 w_3 c w (fun r w => R (encR true [(false, [(.i .u64)]), (false, [(.i .u64)]), (false, [.b])] r) w) := by kernel_rfl
theorem ref01_Over.ok {w_0 : Int} {w_1 : Int} {w_2 : Int} {w_3 : Int} {c : Int} {w : World} {R : TR [(false, [(.i .u64)]), (false, [(.i .u64)]), (false, [.b])] → World → Prop} (h : ref01_Over.wp w_0 w_1 w_2 w_3 c w R) : clS Try.prog F.ref01_Over [.agg #[.int .u64 w_0, .int .u64 w_1, .int .u64 w_2, .int .u64 w_3], .int .u64 c] w true [(false, [(.i .u64)]), (false, [(.i .u64)]), (false, [.b])] R :=
  ok_of Try_follows Try.func47 (fun R => ref01_Over.wp w_0 w_1 w_2 w_3 c w R) (ref01_Over.eq w_0 w_1 w_2 w_3 c w) rfl h
/-! ### ref01_Times -/
set_option maxRecDepth 100000 in
def ref01_Times.wp (a : Int) (b : Int) (w : World) (R : TR [(true, [(.i .u64), (.i .u64), (.i .u64), (.i .u64)])] → World → Prop) : Prop :=
alK [.int .u64 0, .int .u64 0, .int .u64 0, .int .u64 0] T.ref01_Wide w fun p1 w2 =>
shK 32 (
alK [.int .u64 0, .int .u64 0] T.a2_uint64 w2 fun p3 w4 =>
stN [.int .u64 (bitsX .and .u64 a 4294967295), .int .u64 (shrX .u64 a 32)] p3 0 w4 fun w5 =>
shK 32 (
alK [.int .u64 0, .int .u64 0] T.a2_uint64 w5 fun p6 w7 =>
stN [.int .u64 (bitsX .and .u64 b 4294967295), .int .u64 (shrX .u64 b 32)] p6 0 w7 fun w8 =>
alK [.int .u64 0, .int .u64 0, .int .u64 0, .int .u64 0] T.ref01_Wide w8 fun p9 w10 =>
LoopT (fun (self11 : ((Int) × Unit) → World → Prop) (z12 : (Int) × Unit) w13 => ∀ _ : Nat → Value,
brB (decide (z12.1 < 2)) (
LoopT (fun (self14 : ((Int) × (Int) × Unit) → World → Prop) (z15 : (Int) × (Int) × Unit) w16 => ∀ _ : Nat → Value,
brB (decide (z15.2.1 < 2)) (
drK w16 fun w17 =>
ixK (some p9) 4 (IntKind.wrap .i64 (z12.1 + z15.2.1)) fun a18 =>
ld1 (.i .u64) (a18.add ((IntKind.wrap .i64 (z12.1 + z15.2.1)).toNat * 1)) w17 fun x19 =>
ixK (some p3) 2 z12.1 fun a20 =>
ld1 (.i .u64) (a20.add (z12.1.toNat * 1)) w17 fun x21 =>
ixK (some p6) 2 z15.2.1 fun a22 =>
ld1 (.i .u64) (a22.add (z15.2.1.toNat * 1)) w17 fun x23 =>
ixK (some p9) 4 (IntKind.wrap .i64 (z12.1 + z15.2.1)) fun a24 =>
stN [.int .u64 (bitsX .and .u64 (IntKind.wrap .u64 ((IntKind.wrap .u64 (x19 + (IntKind.wrap .u64 (x21 * x23)))) + z15.1)) 4294967295)] (a24.add ((IntKind.wrap .i64 (z12.1 + z15.2.1)).toNat * 1)) 0 w17 fun w25 =>
shK 32 (
self14 (shrX .u64 (IntKind.wrap .u64 ((IntKind.wrap .u64 (x19 + (IntKind.wrap .u64 (x21 * x23)))) + z15.1)) 32, IntKind.wrap .i64 (z15.2.1 + 1), ()) w25)) (
ixK (some p9) 4 (IntKind.wrap .i64 (z12.1 + 2)) fun a26 =>
ld1 (.i .u64) (a26.add ((IntKind.wrap .i64 (z12.1 + 2)).toNat * 1)) w16 fun x27 =>
ixK (some p9) 4 (IntKind.wrap .i64 (z12.1 + 2)) fun a28 =>
stN [.int .u64 (IntKind.wrap .u64 (x27 + z15.1))] (a28.add ((IntKind.wrap .i64 (z12.1 + 2)).toNat * 1)) 0 w16 fun w29 =>
self11 (IntKind.wrap .i64 (z12.1 + 1), ()) w29)) (0, 0, ()) w13) (
ldN [(.i .u64), (.i .u64), (.i .u64), (.i .u64)] p9 0 w13 fun x30 =>
stN [.int .u64 x30.1, .int .u64 x30.2.1, .int .u64 x30.2.2.1, .int .u64 x30.2.2.2.1] p1 0 w13 fun w31 =>
ldN [(.i .u64), (.i .u64), (.i .u64), (.i .u64)] p1 0 w31 fun x32 =>
R ((x32.1, x32.2.1, x32.2.2.1, x32.2.2.2.1, ()), ()) w31)) (0, ()) w10))
set_option maxRecDepth 100000 in
theorem ref01_Times.eq (a : Int) (b : Int) (w : World) (R : Value → World → Prop) : wpF Try.prog Try.f48 (.s .n (.s .n (.s .n (.s .n (.s (.s .n (.lp [(8, (.i .i64))] (.s .n (.s (.s .n (.s (.s .n (.lp [(9, (.i .u64)), (10, (.i .i64))] (.s .n (.s (.s (.pl (.tk 0 (.tk 1 (.tk 2 (.tk 3 (.tk 4 (.tk 5 (.tk 6 (.tk 7 (.tk 8 (.tk 9 (.tk 10 (.tk 11 (.tk 12 (.tk 13 (.tk 14 (.tk 15 .z))))))))))))))))) .n) .n)))) .n)) .n)))) .n))))) [.int .u64 a, .int .u64 b] w R = ref01_Times.wp a b w (fun r w => R (encR false [(true, [(.i .u64), (.i .u64), (.i .u64), (.i .u64)])] r) w) := by kernel_rfl
theorem ref01_Times.ok {a : Int} {b : Int} {w : World} {R : TR [(true, [(.i .u64), (.i .u64), (.i .u64), (.i .u64)])] → World → Prop} (h : ref01_Times.wp a b w R) : clS Try.prog F.ref01_Times [.int .u64 a, .int .u64 b] w false [(true, [(.i .u64), (.i .u64), (.i .u64), (.i .u64)])] R :=
  ok_of Try_follows Try.func48 (fun R => ref01_Times.wp a b w R) (ref01_Times.eq a b w) rfl h
/-! ### ref01_Size -/
set_option maxRecDepth 100000 in
def ref01_Size.wp (n : Int) (w : World) (R : TR [(false, [(.i .u64)])] → World → Prop) : Prop :=
brB (decide (n ≥ 0)) (
R ((IntKind.wrap .u64 n, ()), ()) w) (
R ((IntKind.wrap .u64 ((IntKind.wrap .u64 (IntKind.wrap .i64 (0 - (IntKind.wrap .i64 (n + 1))))) + 1), ()), ()) w)
set_option maxRecDepth 100000 in
theorem ref01_Size.eq (n : Int) (w : World) (R : Value → World → Prop) : wpF Try.prog Try.f49 .n [.int .i64 n] w R = ref01_Size.wp n w (fun r w => R (encR false [(false, [(.i .u64)])] r) w) := by kernel_rfl
theorem ref01_Size.ok {n : Int} {w : World} {R : TR [(false, [(.i .u64)])] → World → Prop} (h : ref01_Size.wp n w R) : clS Try.prog F.ref01_Size [.int .i64 n] w false [(false, [(.i .u64)])] R :=
  ok_of Try_follows Try.func49 (fun R => ref01_Size.wp n w R) (ref01_Size.eq n w) rfl h
/-! ### slope_sums_add -/
set_option maxRecDepth 100000 in
def slope_sums_add.wp (s : Option Addr) (x : Int) (y : Int) (w : World) (R : TR [] → World → Prop) : Prop :=
ncK s fun a1 =>
ld1 (.i .i64) a1 w fun x2 =>
ncK s fun a3 =>
stN [.int .i64 (IntKind.wrap .i64 (x2 + 1))] a3 0 w fun w4 =>
ncK s fun a5 =>
ld1 (.i .i64) (a5.add 1) w4 fun x6 =>
ncK s fun a7 =>
stN [.int .i64 (IntKind.wrap .i64 (x6 + x))] (a7.add 1) 0 w4 fun w8 =>
ncK s fun a9 =>
ld1 (.i .i64) (a9.add 2) w8 fun x10 =>
ncK s fun a11 =>
stN [.int .i64 (IntKind.wrap .i64 (x10 + y))] (a11.add 2) 0 w8 fun w12 =>
ncK s fun a13 =>
ld1 (.i .i64) (a13.add 3) w12 fun x14 =>
ncK s fun a15 =>
stN [.int .i64 (IntKind.wrap .i64 (x14 + (IntKind.wrap .i64 (x * y))))] (a15.add 3) 0 w12 fun w16 =>
ncK s fun a17 =>
ld1 (.i .i64) (a17.add 4) w16 fun x18 =>
ncK s fun a19 =>
stN [.int .i64 (IntKind.wrap .i64 (x18 + (IntKind.wrap .i64 (x * x))))] (a19.add 4) 0 w16 fun w20 =>
R (()) w20
set_option maxRecDepth 100000 in
theorem slope_sums_add.eq (s : Option Addr) (x : Int) (y : Int) (w : World) (R : Value → World → Prop) : wpF Try.prog Try.f50 .n [.pointer s, .int .i64 x, .int .i64 y] w R = slope_sums_add.wp s x y w (fun r w => R (encR true [] r) w) := by kernel_rfl
theorem slope_sums_add.ok {s : Option Addr} {x : Int} {y : Int} {w : World} {R : TR [] → World → Prop} (h : slope_sums_add.wp s x y w R) : clS Try.prog F.slope_sums_add [.pointer s, .int .i64 x, .int .i64 y] w true [] R :=
  ok_of Try_follows Try.func50 (fun R => slope_sums_add.wp s x y w R) (slope_sums_add.eq s x y w) rfl h
end Go.Proofs.Ythgkdjfcdbjpdaa
