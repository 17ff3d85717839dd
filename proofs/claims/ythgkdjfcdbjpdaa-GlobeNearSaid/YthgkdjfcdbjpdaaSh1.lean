import Derived.Test.YthgkdjfcdbjpdaaNm
namespace Go.Proofs.Ythgkdjfcdbjpdaa
open Go.Eng
set_option linter.unusedVariables false
/-! ### ref13_Most -/
set_option maxRecDepth 100000 in
def ref13_Most.wp (drift : Int) (w : World) (R : TR [(false, [(.i .i64)]), (false, [(.i .i64)])] → World → Prop) : Prop :=
R ((IntKind.wrap .i64 (2 * (if 10 < (if 0 > drift then 0 else drift) then 10 else (if 0 > drift then 0 else drift))), ()), (IntKind.wrap .i64 (1000 - (if 10 < (if 0 > drift then 0 else drift) then 10 else (if 0 > drift then 0 else drift))), ()), ()) w
set_option maxRecDepth 100000 in
theorem ref13_Most.eq (drift : Int) (w : World) (R : Value → World → Prop) : wpF Try.prog Try.f14 .n [.int .i64 drift] w R = ref13_Most.wp drift w (fun r w => R (encR true [(false, [(.i .i64)]), (false, [(.i .i64)])] r) w) := by kernel_rfl
theorem ref13_Most.ok {drift : Int} {w : World} {R : TR [(false, [(.i .i64)]), (false, [(.i .i64)])] → World → Prop} (h : ref13_Most.wp drift w R) : clS Try.prog F.ref13_Most [.int .i64 drift] w true [(false, [(.i .i64)]), (false, [(.i .i64)])] R :=
  ok_of Try_follows Try.func14 (fun R => ref13_Most.wp drift w R) (ref13_Most.eq drift w) rfl h
/-! ### ref13_Gain -/
set_option maxRecDepth 100000 in
def ref13_Gain.wp (num : Int) (den : Int) (ticks : Int) (w : World) (R : TR [(false, [(.i .i64)])] → World → Prop) : Prop :=
clS Try.prog F.ref01_MulDiv [.int .i64 num, .int .i64 ticks, .int .i64 den] w true [(false, [(.i .i64)]), (false, [.b])] fun r1 w2 =>
R ((r1.1.1, ()), ()) w2
set_option maxRecDepth 100000 in
theorem ref13_Gain.eq (num : Int) (den : Int) (ticks : Int) (w : World) (R : Value → World → Prop) : wpF Try.prog Try.f15 .n [.int .i64 num, .int .i64 den, .int .i64 ticks] w R = ref13_Gain.wp num den ticks w (fun r w => R (encR false [(false, [(.i .i64)])] r) w) := by kernel_rfl
theorem ref13_Gain.ok {num : Int} {den : Int} {ticks : Int} {w : World} {R : TR [(false, [(.i .i64)])] → World → Prop} (h : ref13_Gain.wp num den ticks w R) : clS Try.prog F.ref13_Gain [.int .i64 num, .int .i64 den, .int .i64 ticks] w false [(false, [(.i .i64)])] R :=
  ok_of Try_follows Try.func15 (fun R => ref13_Gain.wp num den ticks w R) (ref13_Gain.eq num den ticks w) rfl h
/-! ### globe_Map_Back -/
set_option maxRecDepth 100000 in
def globe_Map_Back.wp (m0 : Int) (m1 : Int) (m2 : Int) (m3 : Int) (m4 : Int) (global : Int) (w : World) (R : TR [(false, [(.i .i64)]), (false, [.b])] → World → Prop) : Prop :=
alK [.int .i64 m0, .int .i64 m1, .int .i64 m2, .int .i64 m3, .int .i64 m4] T.globe_Map w fun p1 w2 =>
brB (decide (global < 0)) (
R ((0, ()), (false, ()), ()) w2) (
brB (decide (global > 1125899906842624)) (
R ((0, ()), (false, ()), ()) w2) (
LoopT (fun (self3 : ((Int) × (Int) × Unit) → World → Prop) (z4 : (Int) × (Int) × Unit) w5 => ∀ _ : Nat → Value,
brB (decide (z4.1 < z4.2.1)) (
nzK 2 (
ldN [(.i .i64), (.i .i64), (.i .i64), (.i .i64), (.i .i64)] p1 0 w5 fun x6 =>
clS Try.prog F.globe_Map_below [.agg #[.int .i64 x6.1, .int .i64 x6.2.1, .int .i64 x6.2.2.1, .int .i64 x6.2.2.2.1, .int .i64 x6.2.2.2.2.1], .int .i64 (IntKind.wrap .i64 (Int.tdiv (IntKind.wrap .i64 (z4.1 + z4.2.1)) 2)), .int .i64 global] w5 false [(false, [.b])] fun r7 w8 =>
brB r7.1.1 (
self3 (IntKind.wrap .i64 ((IntKind.wrap .i64 (Int.tdiv (IntKind.wrap .i64 (z4.1 + z4.2.1)) 2)) + 1), z4.2.1, ()) w8) (
self3 (z4.1, IntKind.wrap .i64 (Int.tdiv (IntKind.wrap .i64 (z4.1 + z4.2.1)) 2), ()) w8))) (
ldN [(.i .i64), (.i .i64), (.i .i64), (.i .i64), (.i .i64)] p1 0 w5 fun x9 =>
clS Try.prog F.globe_Map_Global [.agg #[.int .i64 x9.1, .int .i64 x9.2.1, .int .i64 x9.2.2.1, .int .i64 x9.2.2.2.1, .int .i64 x9.2.2.2.2.1], .int .i64 z4.1] w5 true [(false, [(.i .i64)]), (false, [.b])] fun r10 w11 =>
brB (!r10.2.1.1) (
R ((0, ()), (false, ()), ()) w11) (
brB (decide (r10.1.1 < global)) (
R ((0, ()), (false, ()), ()) w11) (
R ((z4.1, ()), (true, ()), ()) w11)))) (0, 1125899906842624, ()) w2))
set_option maxRecDepth 100000 in
theorem globe_Map_Back.eq (m0 : Int) (m1 : Int) (m2 : Int) (m3 : Int) (m4 : Int) (global : Int) (w : World) (R : Value → World → Prop) : wpF Try.prog Try.f16 (.s .n (.s .n (.s .n (.s (.lp [(6, (.i .i64)), (7, (.i .i64))] .n) .n)))) [.agg #[.int .i64 m0, .int .i64 m1, .int .i64 m2, .int .i64 m3, .int .i64 m4], .int .i64 global] w R = globe_Map_Back.wp m0 m1 m2 m3 m4 global w (fun r w => R (encR true [(false, [(.i .i64)]), (false, [.b])] r) w) := by kernel_rfl
theorem globe_Map_Back.ok {m0 : Int} {m1 : Int} {m2 : Int} {m3 : Int} {m4 : Int} {global : Int} {w : World} {R : TR [(false, [(.i .i64)]), (false, [.b])] → World → Prop} (h : globe_Map_Back.wp m0 m1 m2 m3 m4 global w R) : clS Try.prog F.globe_Map_Back [.agg #[.int .i64 m0, .int .i64 m1, .int .i64 m2, .int .i64 m3, .int .i64 m4], .int .i64 global] w true [(false, [(.i .i64)]), (false, [.b])] R :=
  ok_of Try_follows Try.func16 (fun R => globe_Map_Back.wp m0 m1 m2 m3 m4 global w R) (globe_Map_Back.eq m0 m1 m2 m3 m4 global w) rfl h
/-! ### law14_reaches -/
set_option maxRecDepth 100000 in
def law14_reaches.wp (m0 : Int) (m1 : Int) (m2 : Int) (m3 : Int) (m4 : Int) (global : Int) (w : World) (R : TR [(false, [.b])] → World → Prop) : Prop :=
alK [.int .i64 m0, .int .i64 m1, .int .i64 m2, .int .i64 m3, .int .i64 m4] T.ref14_Map w fun p1 w2 =>
LoopT (fun (self3 : ((Int) × (Int) × Unit) → World → Prop) (z4 : (Int) × (Int) × Unit) w5 => ∀ _ : Nat → Value,
brB (decide (z4.1 < z4.2.1)) (
nzK 2 (
ldN [(.i .i64), (.i .i64), (.i .i64), (.i .i64), (.i .i64)] p1 0 w5 fun x6 =>
clS Try.prog F.ref14_Raw [.agg #[.int .i64 x6.1, .int .i64 x6.2.1, .int .i64 x6.2.2.1, .int .i64 x6.2.2.2.1, .int .i64 x6.2.2.2.2.1], .int .i64 (IntKind.wrap .i64 (Int.tdiv (IntKind.wrap .i64 (z4.1 + z4.2.1)) 2))] w5 false [(false, [(.i .i64)])] fun r7 w8 =>
brB (decide (r7.1.1 < global)) (
self3 (IntKind.wrap .i64 ((IntKind.wrap .i64 (Int.tdiv (IntKind.wrap .i64 (z4.1 + z4.2.1)) 2)) + 1), z4.2.1, ()) w8) (
self3 (z4.1, IntKind.wrap .i64 (Int.tdiv (IntKind.wrap .i64 (z4.1 + z4.2.1)) 2), ()) w8))) (
ldN [(.i .i64), (.i .i64), (.i .i64), (.i .i64), (.i .i64)] p1 0 w5 fun x9 =>
clS Try.prog F.ref14_Global [.agg #[.int .i64 x9.1, .int .i64 x9.2.1, .int .i64 x9.2.2.1, .int .i64 x9.2.2.2.1, .int .i64 x9.2.2.2.2.1], .int .i64 z4.1] w5 true [(false, [(.i .i64)]), (false, [.b])] fun r10 w11 =>
brB r10.2.1.1 (
R ((decide (r10.1.1 ≥ global), ()), ()) w11) (
R ((false, ()), ()) w11))) (0, 1125899906842624, ()) w2
set_option maxRecDepth 100000 in
theorem law14_reaches.eq (m0 : Int) (m1 : Int) (m2 : Int) (m3 : Int) (m4 : Int) (global : Int) (w : World) (R : Value → World → Prop) : wpF Try.prog Try.f17 (.s .n (.s .n (.s (.lp [(5, (.i .i64)), (6, (.i .i64))] .n) .n))) [.agg #[.int .i64 m0, .int .i64 m1, .int .i64 m2, .int .i64 m3, .int .i64 m4], .int .i64 global] w R = law14_reaches.wp m0 m1 m2 m3 m4 global w (fun r w => R (encR false [(false, [.b])] r) w) := by kernel_rfl
theorem law14_reaches.ok {m0 : Int} {m1 : Int} {m2 : Int} {m3 : Int} {m4 : Int} {global : Int} {w : World} {R : TR [(false, [.b])] → World → Prop} (h : law14_reaches.wp m0 m1 m2 m3 m4 global w R) : clS Try.prog F.law14_reaches [.agg #[.int .i64 m0, .int .i64 m1, .int .i64 m2, .int .i64 m3, .int .i64 m4], .int .i64 global] w false [(false, [.b])] R :=
  ok_of Try_follows Try.func17 (fun R => law14_reaches.wp m0 m1 m2 m3 m4 global w R) (law14_reaches.eq m0 m1 m2 m3 m4 global w) rfl h
/-! ### ref14_Raw -/
set_option maxRecDepth 100000 in
def ref14_Raw.wp (m0 : Int) (m1 : Int) (m2 : Int) (m3 : Int) (m4 : Int) (local_ : Int) (w : World) (R : TR [(false, [(.i .i64)])] → World → Prop) : Prop :=
alK [.int .i64 m0, .int .i64 m1, .int .i64 m2, .int .i64 m3, .int .i64 m4] T.ref14_Map w fun p1 w2 =>
drK w2 fun w3 =>
ld1 (.i .i64) (p1.add 1) w3 fun x4 =>
ld1 (.i .i64) (p1.add 2) w3 fun x5 =>
ld1 (.i .i64) (p1.add 3) w3 fun x6 =>
ld1 (.i .i64) p1 w3 fun x7 =>
clS Try.prog F.ref13_Gain [.int .i64 x5, .int .i64 x6, .int .i64 (IntKind.wrap .i64 (local_ - x7))] w3 false [(false, [(.i .i64)])] fun r8 w9 =>
Hold [(10, p1, (w3.cell? p1).getD undef), (2, (p1.add 1), (w3.cell? (p1.add 1)).getD undef)] w9 ∧ (
R ((IntKind.wrap .i64 ((IntKind.wrap .i64 (local_ + x4)) + r8.1.1), ()), ()) w9)
set_option maxRecDepth 100000 in
theorem ref14_Raw.eq (m0 : Int) (m1 : Int) (m2 : Int) (m3 : Int) (m4 : Int) (local_ : Int) (w : World) (R : Value → World → Prop) : wpF Try.prog Try.f18 (.s .n (.s (.pl (.tk 0 (.tk 1 (.tk 2 (.tk 3 (.tk 4 (.tk 5 (.tk 6 (.tk 7 (.tk 8 (.tk 9 (.tk 10 (.tk 11 (.ef 12 [5, 7] (.tk 13 (.tk 14 .z)))))))))))))))) .n)) [.agg #[.int .i64 m0, .int .i64 m1, .int .i64 m2, .int .i64 m3, .int .i64 m4], .int .i64 local_] w R = ref14_Raw.wp m0 m1 m2 m3 m4 local_ w (fun r w => R (encR false [(false, [(.i .i64)])] r) w) := by kernel_rfl
theorem ref14_Raw.ok {m0 : Int} {m1 : Int} {m2 : Int} {m3 : Int} {m4 : Int} {local_ : Int} {w : World} {R : TR [(false, [(.i .i64)])] → World → Prop} (h : ref14_Raw.wp m0 m1 m2 m3 m4 local_ w R) : clS Try.prog F.ref14_Raw [.agg #[.int .i64 m0, .int .i64 m1, .int .i64 m2, .int .i64 m3, .int .i64 m4], .int .i64 local_] w false [(false, [(.i .i64)])] R :=
  ok_of Try_follows Try.func18 (fun R => ref14_Raw.wp m0 m1 m2 m3 m4 local_ w R) (ref14_Raw.eq m0 m1 m2 m3 m4 local_ w) rfl h
/-! ### table_Table_Add -/
set_option maxRecDepth 100000 in
def table_Table_Add.wp (t : Option Addr) (e0 : Int) (e1 : Int) (e2 : Int) (w : World) (R : TR [(false, [(.i .i64)])] → World → Prop) : Prop :=
alK [.int .i64 e0, .int .i64 e1, .int .i64 e2] T.table_Entry w fun p1 w2 =>
CutT (fun (J3 : Unit → World → Prop) =>
clS Try.prog F.table_Table_Last [.pointer t] w2 true [(true, [(.i .i64), (.i .i64), (.i .i64)]), (false, [.b])] fun r6 w7 =>
alK [.int .i64 0, .int .i64 0, .int .i64 0] T.table_Entry w7 fun p8 w9 =>
stN [.int .i64 r6.1.1, .int .i64 r6.1.2.1, .int .i64 r6.1.2.2.1] p8 0 w9 fun w10 =>
brB (Option.isNone t) (
R ((2, ()), ()) w10) (
ldN [(.i .i64), (.i .i64), (.i .i64)] p1 0 w10 fun x11 =>
clS Try.prog F.table_Entry_Good [.agg #[.int .i64 x11.1, .int .i64 x11.2.1, .int .i64 x11.2.2.1]] w10 false [(false, [.b])] fun r12 w13 =>
brB (!r12.1.1) (
R ((1, ()), ()) w13) (
brB r6.2.1.1 (
ld1 (.i .i64) p1 w13 fun x14 =>
ld1 (.i .i64) p8 w13 fun x15 =>
brB (decide (x14 ≤ x15)) (
R ((12, ()), ()) w13) (
J3 (()) w13)) (
J3 (()) w13)))) (fun (z4 : Unit) w5 => ∀ _ : Nat → Value,
drK w5 fun w16 =>
ncK t fun a17 =>
ld1 .sl a17 w16 fun x18 =>
ldN [(.i .i64), (.i .i64), (.i .i64)] p1 0 w16 fun x19 =>
alK [.int .i64 x19.1, .int .i64 x19.2.1, .int .i64 x19.2.2.1] T.table_Entry w16 fun p20 w21 =>
Hold [(5, (p1.add 0), (w16.cell? (p1.add 0)).getD undef), (5, (p1.add 1), (w16.cell? (p1.add 1)).getD undef), (5, (p1.add 2), (w16.cell? (p1.add 2)).getD undef), (4, a17, (w16.cell? a17).getD undef)] w21 ∧ (
slOf ((Builtin.append_ #[T.sl_table_Entry, T.sl_table_Entry] T.sl_table_Entry #[.slice x18.1 x18.2.1 x18.2.2, .slice (some p20) 1 1]).run Try.prog w21) fun y22 w23 =>
Hold [(5, (p1.add 0), (w16.cell? (p1.add 0)).getD undef), (5, (p1.add 1), (w16.cell? (p1.add 1)).getD undef), (5, (p1.add 2), (w16.cell? (p1.add 2)).getD undef)] w23 ∧ (
ncK t fun a24 =>
stN [.slice y22.1 y22.2.1 y22.2.2] a24 0 w23 fun w25 =>
Hold [] w25 ∧ (
ncK t fun a26 =>
ld1 .sl a26 w25 fun x27 =>
brB (decide ((x27.2.1 : Int) > 8)) (
ncK t fun a28 =>
ld1 .sl a28 w25 fun x29 =>
slK 1 (x29.2.1 : Int) x29.2.2 (
clS Try.prog F.slices_Clone_table_Entry_table_Entry [.slice (slA x29.1 x29.2.2 (Int.toNat 1) 3) ((Int.toNat (x29.2.1 : Int)) - (Int.toNat 1)) (x29.2.2 - Int.toNat 1)] w25 false [(false, [.sl])] fun r30 w31 =>
ncK t fun a32 =>
stN [.slice r30.1.1.1 r30.1.1.2.1 r30.1.1.2.2] a32 0 w31 fun w33 =>
R ((0, ()), ()) w33)) (
R ((0, ()), ()) w25)))))
set_option maxRecDepth 100000 in
theorem table_Table_Add.eq (t : Option Addr) (e0 : Int) (e1 : Int) (e2 : Int) (w : World) (R : Value → World → Prop) : wpF Try.prog Try.f19 (.s .n (.ct [] .n (.s (.pl (.tk 0 (.tk 1 (.tk 2 (.tk 3 (.tk 4 (.tk 5 (.ef 6 [] (.ef 7 [4] (.tk 8 (.tk 9 (.ef 10 [5] .z)))))))))))) .n))) [.pointer t, .agg #[.int .i64 e0, .int .i64 e1, .int .i64 e2]] w R = table_Table_Add.wp t e0 e1 e2 w (fun r w => R (encR false [(false, [(.i .i64)])] r) w) := by kernel_rfl
theorem table_Table_Add.ok {t : Option Addr} {e0 : Int} {e1 : Int} {e2 : Int} {w : World} {R : TR [(false, [(.i .i64)])] → World → Prop} (h : table_Table_Add.wp t e0 e1 e2 w R) : clS Try.prog F.table_Table_Add [.pointer t, .agg #[.int .i64 e0, .int .i64 e1, .int .i64 e2]] w false [(false, [(.i .i64)])] R :=
  ok_of Try_follows Try.func19 (fun R => table_Table_Add.wp t e0 e1 e2 w R) (table_Table_Add.eq t e0 e1 e2 w) rfl h
/-! ### table_Entry_Good -/
set_option maxRecDepth 100000 in
def table_Entry_Good.wp (e0 : Int) (e1 : Int) (e2 : Int) (w : World) (R : TR [(false, [.b])] → World → Prop) : Prop :=
alK [.int .i64 e0, .int .i64 e1, .int .i64 e2] T.table_Entry w fun p1 w2 =>
ld1 (.i .i64) p1 w2 fun x3 =>
brB (decide (x3 ≥ 0)) (
ld1 (.i .i64) p1 w2 fun x4 =>
brB (decide (x4 ≤ 1125899906842624)) (
ld1 (.i .i64) (p1.add 1) w2 fun x5 =>
brB (decide (x5 ≥ (Int.negSucc 1125899906842623))) (
ld1 (.i .i64) (p1.add 1) w2 fun x6 =>
brB (decide (x6 ≤ 1125899906842624)) (
ld1 (.i .i64) (p1.add 2) w2 fun x7 =>
brB (decide (x7 ≥ 1)) (
ld1 (.i .i64) (p1.add 2) w2 fun x8 =>
R ((decide (x8 ≤ 63), ()), ()) w2) (
R ((false, ()), ()) w2)) (
R ((false, ()), ()) w2)) (
R ((false, ()), ()) w2)) (
R ((false, ()), ()) w2)) (
R ((false, ()), ()) w2)
set_option maxRecDepth 100000 in
theorem table_Entry_Good.eq (e0 : Int) (e1 : Int) (e2 : Int) (w : World) (R : Value → World → Prop) : wpF Try.prog Try.f20 .n [.agg #[.int .i64 e0, .int .i64 e1, .int .i64 e2]] w R = table_Entry_Good.wp e0 e1 e2 w (fun r w => R (encR false [(false, [.b])] r) w) := by kernel_rfl
theorem table_Entry_Good.ok {e0 : Int} {e1 : Int} {e2 : Int} {w : World} {R : TR [(false, [.b])] → World → Prop} (h : table_Entry_Good.wp e0 e1 e2 w R) : clS Try.prog F.table_Entry_Good [.agg #[.int .i64 e0, .int .i64 e1, .int .i64 e2]] w false [(false, [.b])] R :=
  ok_of Try_follows Try.func20 (fun R => table_Entry_Good.wp e0 e1 e2 w R) (table_Entry_Good.eq e0 e1 e2 w) rfl h
/-! ### ref12_Add -/
set_option maxRecDepth 100000 in
def ref12_Add.wp (list : Option Addr × Nat × Nat) (e0 : Int) (e1 : Int) (e2 : Int) (w : World) (R : TR [(false, [.sl]), (false, [(.i .i64)])] → World → Prop) : Prop :=
alK [.int .i64 e0, .int .i64 e1, .int .i64 e2] T.ref12_Entry w fun p1 w2 =>
ldN [(.i .i64), (.i .i64), (.i .i64)] p1 0 w2 fun x3 =>
clS Try.prog F.ref12_Good [.agg #[.int .i64 x3.1, .int .i64 x3.2.1, .int .i64 x3.2.2.1]] w2 false [(false, [.b])] fun r4 w5 =>
brB (!r4.1.1) (
R (((list.1, list.2.1, list.2.2), ()), (1, ()), ()) w5) (
CutT (fun (J6 : Unit → World → Prop) =>
drK w5 fun w9 =>
brB (decide ((list.2.1 : Int) > 0)) (
ld1 (.i .i64) p1 w9 fun x10 =>
ixK list.1 list.2.1 (IntKind.wrap .i64 ((list.2.1 : Int) - 1)) fun a11 =>
ld1 (.i .i64) (a11.add ((IntKind.wrap .i64 ((list.2.1 : Int) - 1)).toNat * 3)) w9 fun x12 =>
brB (decide (x10 ≤ x12)) (
R (((list.1, list.2.1, list.2.2), ()), (12, ()), ()) w9) (
J6 (()) w9)) (
J6 (()) w9)) (fun (z7 : Unit) w8 => ∀ _ : Nat → Value,
CutT (fun (J13 : ((Option Addr × Nat × Nat) × Unit) → World → Prop) =>
drK w8 fun w16 =>
ldN [(.i .i64), (.i .i64), (.i .i64)] p1 0 w16 fun x17 =>
(
alK [] T.ref12_Entry w16 fun p18 w19 =>
Hold [(3, (p1.add 0), (w16.cell? (p1.add 0)).getD undef), (3, (p1.add 1), (w16.cell? (p1.add 1)).getD undef), (3, (p1.add 2), (w16.cell? (p1.add 2)).getD undef)] w19 ∧ (
(
slOf ((Builtin.append_ #[T.sl_angelusref12_Entry, T.sl_angelusref12_Entry] T.sl_angelusref12_Entry #[.slice (some p18) 0 0, .slice list.1 list.2.1 list.2.2]).run Try.prog w19) fun y20 w21 =>
Hold [(3, (p1.add 0), (w16.cell? (p1.add 0)).getD undef), (3, (p1.add 1), (w16.cell? (p1.add 1)).getD undef), (3, (p1.add 2), (w16.cell? (p1.add 2)).getD undef)] w21 ∧ (
alK [.int .i64 x17.1, .int .i64 x17.2.1, .int .i64 x17.2.2.1] T.ref12_Entry w21 fun p22 w23 =>
Hold [(3, (p1.add 0), (w16.cell? (p1.add 0)).getD undef), (3, (p1.add 1), (w16.cell? (p1.add 1)).getD undef), (3, (p1.add 2), (w16.cell? (p1.add 2)).getD undef)] w23 ∧ (
slOf ((Builtin.append_ #[T.sl_angelusref12_Entry, T.sl_angelusref12_Entry] T.sl_angelusref12_Entry #[.slice y20.1 y20.2.1 y20.2.2, .slice (some p22) 1 1]).run Try.prog w23) fun y24 w25 =>
Hold [(3, (p1.add 0), (w16.cell? (p1.add 0)).getD undef), (3, (p1.add 1), (w16.cell? (p1.add 1)).getD undef), (3, (p1.add 2), (w16.cell? (p1.add 2)).getD undef)] w25 ∧ (
J13 ((y24.1, y24.2.1, y24.2.2), ()) w25)))) ∧ (
alK [.int .i64 x17.1, .int .i64 x17.2.1, .int .i64 x17.2.2.1] T.ref12_Entry w19 fun p26 w27 =>
Hold [(3, (p1.add 0), (w16.cell? (p1.add 0)).getD undef), (3, (p1.add 1), (w16.cell? (p1.add 1)).getD undef), (3, (p1.add 2), (w16.cell? (p1.add 2)).getD undef)] w27 ∧ (
slOf ((Builtin.append_ #[T.sl_angelusref12_Entry, T.sl_angelusref12_Entry] T.sl_angelusref12_Entry #[.slice (some p18) 0 0, .slice list.1 list.2.1 list.2.2]).run Try.prog w27) fun y28 w29 =>
Hold [(3, (p1.add 0), (w16.cell? (p1.add 0)).getD undef), (3, (p1.add 1), (w16.cell? (p1.add 1)).getD undef), (3, (p1.add 2), (w16.cell? (p1.add 2)).getD undef)] w29 ∧ (
slOf ((Builtin.append_ #[T.sl_angelusref12_Entry, T.sl_angelusref12_Entry] T.sl_angelusref12_Entry #[.slice y28.1 y28.2.1 y28.2.2, .slice (some p26) 1 1]).run Try.prog w29) fun y30 w31 =>
Hold [(3, (p1.add 0), (w16.cell? (p1.add 0)).getD undef), (3, (p1.add 1), (w16.cell? (p1.add 1)).getD undef), (3, (p1.add 2), (w16.cell? (p1.add 2)).getD undef)] w31 ∧ (
J13 ((y30.1, y30.2.1, y30.2.2), ()) w31)))))) ∧ (
alK [.int .i64 x17.1, .int .i64 x17.2.1, .int .i64 x17.2.2.1] T.ref12_Entry w16 fun p32 w33 =>
Hold [(3, (p1.add 0), (w16.cell? (p1.add 0)).getD undef), (3, (p1.add 1), (w16.cell? (p1.add 1)).getD undef), (3, (p1.add 2), (w16.cell? (p1.add 2)).getD undef)] w33 ∧ (
alK [] T.ref12_Entry w33 fun p34 w35 =>
Hold [(3, (p1.add 0), (w16.cell? (p1.add 0)).getD undef), (3, (p1.add 1), (w16.cell? (p1.add 1)).getD undef), (3, (p1.add 2), (w16.cell? (p1.add 2)).getD undef)] w35 ∧ (
slOf ((Builtin.append_ #[T.sl_angelusref12_Entry, T.sl_angelusref12_Entry] T.sl_angelusref12_Entry #[.slice (some p34) 0 0, .slice list.1 list.2.1 list.2.2]).run Try.prog w35) fun y36 w37 =>
Hold [(3, (p1.add 0), (w16.cell? (p1.add 0)).getD undef), (3, (p1.add 1), (w16.cell? (p1.add 1)).getD undef), (3, (p1.add 2), (w16.cell? (p1.add 2)).getD undef)] w37 ∧ (
slOf ((Builtin.append_ #[T.sl_angelusref12_Entry, T.sl_angelusref12_Entry] T.sl_angelusref12_Entry #[.slice y36.1 y36.2.1 y36.2.2, .slice (some p32) 1 1]).run Try.prog w37) fun y38 w39 =>
Hold [(3, (p1.add 0), (w16.cell? (p1.add 0)).getD undef), (3, (p1.add 1), (w16.cell? (p1.add 1)).getD undef), (3, (p1.add 2), (w16.cell? (p1.add 2)).getD undef)] w39 ∧ (
J13 ((y38.1, y38.2.1, y38.2.2), ()) w39)))))) (fun (z14 : (Option Addr × Nat × Nat) × Unit) w15 => ∀ _ : Nat → Value,
brB (decide ((z14.1.2.1 : Int) > 8)) (
slK (IntKind.wrap .i64 ((z14.1.2.1 : Int) - 8)) (z14.1.2.1 : Int) z14.1.2.2 (
R (((slA z14.1.1 z14.1.2.2 (Int.toNat (IntKind.wrap .i64 ((z14.1.2.1 : Int) - 8))) 3, (Int.toNat (z14.1.2.1 : Int)) - (Int.toNat (IntKind.wrap .i64 ((z14.1.2.1 : Int) - 8))), z14.1.2.2 - Int.toNat (IntKind.wrap .i64 ((z14.1.2.1 : Int) - 8))), ()), (0, ()), ()) w15)) (
R (((z14.1.1, z14.1.2.1, z14.1.2.2), ()), (0, ()), ()) w15))))
set_option maxRecDepth 100000 in
theorem ref12_Add.eq (list : Option Addr × Nat × Nat) (e0 : Int) (e1 : Int) (e2 : Int) (w : World) (R : Value → World → Prop) : wpF Try.prog Try.f21 (.s .n (.s .n (.s .n (.ct [] (.s (.pl (.tk 0 (.tk 1 (.tk 2 (.tk 3 (.tk 4 (.tk 5 (.tk 6 (.tk 7 (.tk 8 (.tk 9 (.tk 10 (.tk 11 (.tk 12 .z)))))))))))))) .n) (.ct [(7, .sl)] (.pl (.tk 1 (.tk 3 (.two 0 4 (.two 2 4 (.ef 4 [] (.ef 5 [] (.tk 6 .z))) (.ef 2 [] (.ef 5 [] (.tk 6 .z)))) (.ef 0 [] (.ef 2 [] (.ef 5 [] (.tk 6 .z)))))))) .n))))) [.slice list.1 list.2.1 list.2.2, .agg #[.int .i64 e0, .int .i64 e1, .int .i64 e2]] w R = ref12_Add.wp list e0 e1 e2 w (fun r w => R (encR true [(false, [.sl]), (false, [(.i .i64)])] r) w) := by kernel_rfl
theorem ref12_Add.ok {list : Option Addr × Nat × Nat} {e0 : Int} {e1 : Int} {e2 : Int} {w : World} {R : TR [(false, [.sl]), (false, [(.i .i64)])] → World → Prop} (h : ref12_Add.wp list e0 e1 e2 w R) : clS Try.prog F.ref12_Add [.slice list.1 list.2.1 list.2.2, .agg #[.int .i64 e0, .int .i64 e1, .int .i64 e2]] w true [(false, [.sl]), (false, [(.i .i64)])] R :=
  ok_of Try_follows Try.func21 (fun R => ref12_Add.wp list e0 e1 e2 w R) (ref12_Add.eq list e0 e1 e2 w) rfl h
/-! ### table_Table_Len -/
set_option maxRecDepth 100000 in
def table_Table_Len.wp (t : Option Addr) (w : World) (R : TR [(false, [(.i .i64)])] → World → Prop) : Prop :=
brB (Option.isNone t) (
R ((0, ()), ()) w) (
ncK t fun a1 =>
ld1 .sl a1 w fun x2 =>
R (((x2.2.1 : Int), ()), ()) w)
set_option maxRecDepth 100000 in
theorem table_Table_Len.eq (t : Option Addr) (w : World) (R : Value → World → Prop) : wpF Try.prog Try.f22 .n [.pointer t] w R = table_Table_Len.wp t w (fun r w => R (encR false [(false, [(.i .i64)])] r) w) := by kernel_rfl
theorem table_Table_Len.ok {t : Option Addr} {w : World} {R : TR [(false, [(.i .i64)])] → World → Prop} (h : table_Table_Len.wp t w R) : clS Try.prog F.table_Table_Len [.pointer t] w false [(false, [(.i .i64)])] R :=
  ok_of Try_follows Try.func22 (fun R => table_Table_Len.wp t w R) (table_Table_Len.eq t w) rfl h
/-! ### table_Table_All -/
set_option maxRecDepth 100000 in
def table_Table_All.wp (t : Option Addr) (w : World) (R : TR [(false, [.any])] → World → Prop) : Prop :=
alK [.pointer t] T.p_table_Table w fun p1 w2 =>
R ((.func (.func F.table_Table_All_1) #[] #[.pointer (some p1)], ()), ()) w2
set_option maxRecDepth 100000 in
theorem table_Table_All.eq (t : Option Addr) (w : World) (R : Value → World → Prop) : wpF Try.prog Try.f23 .n [.pointer t] w R = table_Table_All.wp t w (fun r w => R (encR false [(false, [.any])] r) w) := by kernel_rfl
theorem table_Table_All.ok {t : Option Addr} {w : World} {R : TR [(false, [.any])] → World → Prop} (h : table_Table_All.wp t w R) : clS Try.prog F.table_Table_All [.pointer t] w false [(false, [.any])] R :=
  ok_of Try_follows Try.func23 (fun R => table_Table_All.wp t w R) (table_Table_All.eq t w) rfl h
/-! ### fix_Floor -/
set_option maxRecDepth 100000 in
def fix_Floor.wp (a : Int) (b : Int) (w : World) (R : TR [(false, [(.i .i64)]), (false, [(.i .i64)]), (false, [.b])] → World → Prop) : Prop :=
brB (decide (b < 1)) (
R ((0, ()), (0, ()), (false, ()), ()) w) (
drK w fun w1 =>
nzK b (
nzK b (
brB (decide ((Int.tmod a b) < 0)) (
R ((IntKind.wrap .i64 ((IntKind.wrap .i64 (Int.tdiv a b)) - 1), ()), (IntKind.wrap .i64 ((Int.tmod a b) + b), ()), (true, ()), ()) w1) (
R ((IntKind.wrap .i64 (Int.tdiv a b), ()), (Int.tmod a b, ()), (true, ()), ()) w1))))
set_option maxRecDepth 100000 in
theorem fix_Floor.eq (a : Int) (b : Int) (w : World) (R : Value → World → Prop) : wpF Try.prog Try.f24 (.s .n (.s .n (.s (.pl (.tk 0 (.tk 1 (.tk 2 (.tk 3 (.tk 4 (.tk 5 (.tk 6 (.tk 7 .z))))))))) .n))) [.int .i64 a, .int .i64 b] w R = fix_Floor.wp a b w (fun r w => R (encR true [(false, [(.i .i64)]), (false, [(.i .i64)]), (false, [.b])] r) w) := by kernel_rfl
theorem fix_Floor.ok {a : Int} {b : Int} {w : World} {R : TR [(false, [(.i .i64)]), (false, [(.i .i64)]), (false, [.b])] → World → Prop} (h : fix_Floor.wp a b w R) : clS Try.prog F.fix_Floor [.int .i64 a, .int .i64 b] w true [(false, [(.i .i64)]), (false, [(.i .i64)]), (false, [.b])] R :=
  ok_of Try_follows Try.func24 (fun R => fix_Floor.wp a b w R) (fix_Floor.eq a b w) rfl h
/-! ### slope_Of -/
set_option maxRecDepth 100000 in
def slope_Of.wp (drift : Int) (list : Option Addr × Nat × Nat) (w : World) (R : TR [(true, [(.i .i64), (.i .i64)])] → World → Prop) : Prop :=
alK [.int .i64 0, .int .i64 0] T.slope_Slope w fun p1 w2 =>
alK [.int .i64 0, .int .i64 0] T.slope_Slope w2 fun p3 w4 =>
stN [.int .i64 0, .int .i64 1] p3 0 w4 fun w5 =>
brB (decide ((list.2.1 : Int) < 2)) (
ldN [(.i .i64), (.i .i64)] p3 0 w5 fun x6 =>
stN [.int .i64 x6.1, .int .i64 x6.2.1] p1 0 w5 fun w7 =>
ldN [(.i .i64), (.i .i64)] p1 0 w7 fun x8 =>
R ((x8.1, x8.2.1, ()), ()) w7) (
brB (decide ((list.2.1 : Int) > 8)) (
ldN [(.i .i64), (.i .i64)] p3 0 w5 fun x9 =>
stN [.int .i64 x9.1, .int .i64 x9.2.1] p1 0 w5 fun w10 =>
ldN [(.i .i64), (.i .i64)] p1 0 w10 fun x11 =>
R ((x11.1, x11.2.1, ()), ()) w10) (
LoopT (fun (self12 : ((Int) × Unit) → World → Prop) (z13 : (Int) × Unit) w14 => ∀ _ : Nat → Value,
brB (decide (z13.1 < (list.2.1 : Int))) (
ixK list.1 list.2.1 z13.1 fun a15 =>
ldN [(.i .i64), (.i .i64), (.i .i64)] (a15.add (z13.1.toNat * 3)) 0 w14 fun x16 =>
alK [.int .i64 0, .int .i64 0, .int .i64 0] T.table_Entry w14 fun p17 w18 =>
stN [.int .i64 x16.1, .int .i64 x16.2.1, .int .i64 x16.2.2.1] p17 0 w18 fun w19 =>
ldN [(.i .i64), (.i .i64), (.i .i64)] p17 0 w19 fun x20 =>
clS Try.prog F.table_Entry_Good [.agg #[.int .i64 x20.1, .int .i64 x20.2.1, .int .i64 x20.2.2.1]] w19 false [(false, [.b])] fun r21 w22 =>
brB (!r21.1.1) (
ldN [(.i .i64), (.i .i64)] p3 0 w22 fun x23 =>
stN [.int .i64 x23.1, .int .i64 x23.2.1] p1 0 w22 fun w24 =>
ldN [(.i .i64), (.i .i64)] p1 0 w24 fun x25 =>
R ((x25.1, x25.2.1, ()), ()) w24) (
self12 (IntKind.wrap .i64 (z13.1 + 1), ()) w22)) (
clS Try.prog F.slope_gather [.slice list.1 list.2.1 list.2.2] w14 true [(true, [(.i .i64), (.i .i64), (.i .i64), (.i .i64), (.i .i64)]), (false, [.b])] fun r26 w27 =>
alK [.int .i64 0, .int .i64 0, .int .i64 0, .int .i64 0, .int .i64 0] T.slope_sums w27 fun p28 w29 =>
stN [.int .i64 r26.1.1, .int .i64 r26.1.2.1, .int .i64 r26.1.2.2.1, .int .i64 r26.1.2.2.2.1, .int .i64 r26.1.2.2.2.2.1] p28 0 w29 fun w30 =>
ld1 (.i .i64) p28 w30 fun x31 =>
ld1 (.i .i64) (p28.add 4) w30 fun x32 =>
ld1 (.i .i64) (p28.add 1) w30 fun x33 =>
ld1 (.i .i64) (p28.add 1) w30 fun x34 =>
brB (!r26.2.1.1) (
ldN [(.i .i64), (.i .i64)] p3 0 w30 fun x35 =>
stN [.int .i64 x35.1, .int .i64 x35.2.1] p1 0 w30 fun w36 =>
ldN [(.i .i64), (.i .i64)] p1 0 w36 fun x37 =>
R ((x37.1, x37.2.1, ()), ()) w36) (
brB (decide ((IntKind.wrap .i64 ((IntKind.wrap .i64 (x31 * x32)) - (IntKind.wrap .i64 (x33 * x34)))) < 1)) (
ldN [(.i .i64), (.i .i64)] p3 0 w30 fun x38 =>
stN [.int .i64 x38.1, .int .i64 x38.2.1] p1 0 w30 fun w39 =>
ldN [(.i .i64), (.i .i64)] p1 0 w39 fun x40 =>
R ((x40.1, x40.2.1, ()), ()) w39) (
ld1 (.i .i64) p28 w30 fun x41 =>
ld1 (.i .i64) (p28.add 3) w30 fun x42 =>
ld1 (.i .i64) (p28.add 1) w30 fun x43 =>
ld1 (.i .i64) (p28.add 2) w30 fun x44 =>
clS Try.prog F.slope_Most [.int .i64 drift] w30 false [(true, [(.i .i64), (.i .i64)])] fun r45 w46 =>
alK [.int .i64 0, .int .i64 0] T.slope_Slope w46 fun p47 w48 =>
stN [.int .i64 r45.1.1, .int .i64 r45.1.2.1] p47 0 w48 fun w49 =>
CutT (fun (J50 : ((Bool) × Unit) → World → Prop) =>
brB (decide ((IntKind.wrap .i64 ((IntKind.wrap .i64 (x41 * x42)) - (IntKind.wrap .i64 (x43 * x44)))) > 0)) (
ldN [(.i .i64), (.i .i64)] p47 0 w49 fun x53 =>
clS Try.prog F.slope_over [.agg #[.int .i64 (IntKind.wrap .i64 ((IntKind.wrap .i64 (x41 * x42)) - (IntKind.wrap .i64 (x43 * x44)))), .int .i64 (IntKind.wrap .i64 ((IntKind.wrap .i64 (x31 * x32)) - (IntKind.wrap .i64 (x33 * x34))))], .agg #[.int .i64 x53.1, .int .i64 x53.2.1]] w49 false [(false, [.b])] fun r54 w55 =>
J50 (r54.1.1, ()) w55) (
J50 (false, ()) w49)) (fun (z51 : (Bool) × Unit) w52 => ∀ _ : Nat → Value,
brB z51.1 (
ldN [(.i .i64), (.i .i64)] p47 0 w52 fun x56 =>
stN [.int .i64 x56.1, .int .i64 x56.2.1] p1 0 w52 fun w57 =>
ldN [(.i .i64), (.i .i64)] p1 0 w57 fun x58 =>
R ((x58.1, x58.2.1, ()), ()) w57) (
CutT (fun (J59 : ((Bool) × Unit) → World → Prop) =>
brB (decide ((IntKind.wrap .i64 ((IntKind.wrap .i64 (x41 * x42)) - (IntKind.wrap .i64 (x43 * x44)))) < 0)) (
ldN [(.i .i64), (.i .i64)] p47 0 w52 fun x62 =>
clS Try.prog F.slope_over [.agg #[.int .i64 (IntKind.wrap .i64 (0 - (IntKind.wrap .i64 ((IntKind.wrap .i64 (x41 * x42)) - (IntKind.wrap .i64 (x43 * x44)))))), .int .i64 (IntKind.wrap .i64 ((IntKind.wrap .i64 (x31 * x32)) - (IntKind.wrap .i64 (x33 * x34))))], .agg #[.int .i64 x62.1, .int .i64 x62.2.1]] w52 false [(false, [.b])] fun r63 w64 =>
J59 (r63.1.1, ()) w64) (
J59 (false, ()) w52)) (fun (z60 : (Bool) × Unit) w61 => ∀ _ : Nat → Value,
brB z60.1 (
ld1 (.i .i64) p47 w61 fun x65 =>
ld1 (.i .i64) (p47.add 1) w61 fun x66 =>
stN [.int .i64 (IntKind.wrap .i64 (0 - x65)), .int .i64 x66] p1 0 w61 fun w67 =>
ldN [(.i .i64), (.i .i64)] p1 0 w67 fun x68 =>
R ((x68.1, x68.2.1, ()), ()) w67) (
stN [.int .i64 (IntKind.wrap .i64 ((IntKind.wrap .i64 (x41 * x42)) - (IntKind.wrap .i64 (x43 * x44)))), .int .i64 (IntKind.wrap .i64 ((IntKind.wrap .i64 (x31 * x32)) - (IntKind.wrap .i64 (x33 * x34))))] p1 0 w61 fun w69 =>
ldN [(.i .i64), (.i .i64)] p1 0 w69 fun x70 =>
R ((x70.1, x70.2.1, ()), ()) w69)))))))) (0, ()) w5))
set_option maxRecDepth 100000 in
theorem slope_Of.eq (drift : Int) (list : Option Addr × Nat × Nat) (w : World) (R : Value → World → Prop) : wpF Try.prog Try.f25 (.s .n (.s .n (.s .n (.s (.s .n (.lp [(25, (.i .i64))] .n)) (.s .n (.s .n (.s .n (.s .n (.s .n (.s (.ct [(70, .b)] .n (.s .n (.ct [(81, .b)] .n .n))) .n)))))))))) [.int .i64 drift, .slice list.1 list.2.1 list.2.2] w R = slope_Of.wp drift list w (fun r w => R (encR false [(true, [(.i .i64), (.i .i64)])] r) w) := by kernel_rfl
theorem slope_Of.ok {drift : Int} {list : Option Addr × Nat × Nat} {w : World} {R : TR [(true, [(.i .i64), (.i .i64)])] → World → Prop} (h : slope_Of.wp drift list w R) : clS Try.prog F.slope_Of [.int .i64 drift, .slice list.1 list.2.1 list.2.2] w false [(true, [(.i .i64), (.i .i64)])] R :=
  ok_of Try_follows Try.func25 (fun R => slope_Of.wp drift list w R) (slope_Of.eq drift list w) rfl h
/-! ### table_Table_List -/
set_option maxRecDepth 100000 in
def table_Table_List.wp (t : Option Addr) (w : World) (R : TR [(false, [.sl])] → World → Prop) : Prop :=
clS Try.prog F.table_Table_All [.pointer t] w false [(false, [.any])] fun r1 w2 =>
clS Try.prog F.slices_Collect_table_Entry [r1.1.1] w2 false [(false, [.sl])] fun r3 w4 =>
R (((r3.1.1.1, r3.1.1.2.1, r3.1.1.2.2), ()), ()) w4
set_option maxRecDepth 100000 in
theorem table_Table_List.eq (t : Option Addr) (w : World) (R : Value → World → Prop) : wpF Try.prog Try.f26 .n [.pointer t] w R = table_Table_List.wp t w (fun r w => R (encR false [(false, [.sl])] r) w) := by kernel_rfl
theorem table_Table_List.ok {t : Option Addr} {w : World} {R : TR [(false, [.sl])] → World → Prop} (h : table_Table_List.wp t w R) : clS Try.prog F.table_Table_List [.pointer t] w false [(false, [.sl])] R :=
  ok_of Try_follows Try.func26 (fun R => table_Table_List.wp t w R) (table_Table_List.eq t w) rfl h
/-! ### table_Table_Hops -/
set_option maxRecDepth 100000 in
def table_Table_Hops.wp (t : Option Addr) (w : World) (R : TR [(false, [(.i .i64)])] → World → Prop) : Prop :=
alK [.int .i64 0] T.int w fun p1 w2 =>
stN [.int .i64 0] p1 0 w2 fun w3 =>
clS Try.prog F.table_Table_All [.pointer t] w3 false [(false, [.any])] fun r4 w5 =>
RfT Try.prog r4.1.1 [(true, [(.i .i64), (.i .i64), (.i .i64)])] w5 (fun x6 k7 w8 =>
alK [.int .i64 0, .int .i64 0, .int .i64 0] T.table_Entry w8 fun p14 w15 =>
stN [.int .i64 x6.1.1, .int .i64 x6.1.2.1, .int .i64 x6.1.2.2.1] p14 0 w15 fun w16 =>
k7 w16 fun go9 lv10 w11 =>
ld1 (.i .i64) p1 w11 fun x17 =>
ld1 (.i .i64) (p14.add 2) w11 fun x18 =>
stN [.int .i64 (if x18 > x17 then x18 else x17)] p1 0 w11 fun w19 =>
go9 w19) (fun D12 w13 =>
ld1 (.i .i64) p1 w13 fun x20 =>
tkK D12 w13 fun w21 =>
R ((x20, ()), ()) w21) []
set_option maxRecDepth 100000 in
theorem table_Table_Hops.eq (t : Option Addr) (w : World) (R : Value → World → Prop) : wpF Try.prog Try.f27 (.s .n (.s .n (.s (.s .n (.rf [(true, [(.i .i64), (.i .i64), (.i .i64)])] .n .n)) .n))) [.pointer t] w R = table_Table_Hops.wp t w (fun r w => R (encR false [(false, [(.i .i64)])] r) w) := by kernel_rfl
theorem table_Table_Hops.ok {t : Option Addr} {w : World} {R : TR [(false, [(.i .i64)])] → World → Prop} (h : table_Table_Hops.wp t w R) : clS Try.prog F.table_Table_Hops [.pointer t] w false [(false, [(.i .i64)])] R :=
  ok_of Try_follows Try.func27 (fun R => table_Table_Hops.wp t w R) (table_Table_Hops.eq t w) rfl h
/-! ### ref01_Floor -/
set_option maxRecDepth 100000 in
def ref01_Floor.wp (a : Int) (b : Int) (w : World) (R : TR [(false, [(.i .i64)]), (false, [(.i .i64)])] → World → Prop) : Prop :=
nzK b (
CutT (fun (J1 : ((Bool) × Unit) → World → Prop) =>
nzK b (
brB ((Int.tmod a b) != 0) (
J1 (decide (a < 0), ()) w) (
J1 (false, ()) w))) (fun (z2 : (Bool) × Unit) w3 => ∀ _ : Nat → Value,
brB z2.1 (
drK w3 fun w4 =>
nzK b (
R ((IntKind.wrap .i64 ((IntKind.wrap .i64 (Int.tdiv a b)) - 1), ()), (IntKind.wrap .i64 ((Int.tmod a b) + b), ()), ()) w4)) (
drK w3 fun w5 =>
nzK b (
R ((IntKind.wrap .i64 (Int.tdiv a b), ()), (Int.tmod a b, ()), ()) w5))))
set_option maxRecDepth 100000 in
theorem ref01_Floor.eq (a : Int) (b : Int) (w : World) (R : Value → World → Prop) : wpF Try.prog Try.f28 (.s .n (.s .n (.s (.ct [(17, .b)] .n (.s (.s (.pl (.tk 0 (.tk 1 (.tk 2 (.tk 3 (.tk 4 (.tk 5 (.tk 6 (.tk 7 (.tk 8 .z)))))))))) .n) .n)) (.s (.pl (.tk 0 (.tk 1 (.tk 2 (.tk 3 (.tk 4 (.tk 5 .z))))))) .n)))) [.int .i64 a, .int .i64 b] w R = ref01_Floor.wp a b w (fun r w => R (encR true [(false, [(.i .i64)]), (false, [(.i .i64)])] r) w) := by kernel_rfl
theorem ref01_Floor.ok {a : Int} {b : Int} {w : World} {R : TR [(false, [(.i .i64)]), (false, [(.i .i64)])] → World → Prop} (h : ref01_Floor.wp a b w R) : clS Try.prog F.ref01_Floor [.int .i64 a, .int .i64 b] w true [(false, [(.i .i64)]), (false, [(.i .i64)])] R :=
  ok_of Try_follows Try.func28 (fun R => ref01_Floor.wp a b w R) (ref01_Floor.eq a b w) rfl h
/-! ### ref13_Of -/
set_option maxRecDepth 100000 in
def ref13_Of.wp (drift : Int) (list : Option Addr × Nat × Nat) (w : World) (R : TR [(false, [(.i .i64)]), (false, [(.i .i64)])] → World → Prop) : Prop :=
brB (decide ((list.2.1 : Int) < 2)) (
R ((0, ()), (1, ()), ()) w) (
brB (decide ((list.2.1 : Int) > 8)) (
R ((0, ()), (1, ()), ()) w) (
LoopT (fun (self1 : ((Int) × Unit) → World → Prop) (z2 : (Int) × Unit) w3 => ∀ _ : Nat → Value,
brB (decide (z2.1 < (list.2.1 : Int))) (
ixK list.1 list.2.1 z2.1 fun a4 =>
ldN [(.i .i64), (.i .i64), (.i .i64)] (a4.add (z2.1.toNat * 3)) 0 w3 fun x5 =>
alK [.int .i64 0, .int .i64 0, .int .i64 0] T.ref12_Entry w3 fun p6 w7 =>
stN [.int .i64 x5.1, .int .i64 x5.2.1, .int .i64 x5.2.2.1] p6 0 w7 fun w8 =>
ldN [(.i .i64), (.i .i64), (.i .i64)] p6 0 w8 fun x9 =>
clS Try.prog F.ref12_Good [.agg #[.int .i64 x9.1, .int .i64 x9.2.1, .int .i64 x9.2.2.1]] w8 false [(false, [.b])] fun r10 w11 =>
brB (!r10.1.1) (
R ((0, ()), (1, ()), ()) w11) (
self1 (IntKind.wrap .i64 (z2.1 + 1), ()) w11)) (
LoopT (fun (self12 : ((Int) × (Int) × (Int) × (Int) × (Int) × Unit) → World → Prop) (z13 : (Int) × (Int) × (Int) × (Int) × (Int) × Unit) w14 => ∀ _ : Nat → Value,
brB (decide (z13.2.2.2.2.1 < (list.2.1 : Int))) (
ixK list.1 list.2.1 z13.2.2.2.2.1 fun a15 =>
ldN [(.i .i64), (.i .i64), (.i .i64)] (a15.add (z13.2.2.2.2.1.toNat * 3)) 0 w14 fun x16 =>
alK [.int .i64 0, .int .i64 0, .int .i64 0] T.ref12_Entry w14 fun p17 w18 =>
stN [.int .i64 x16.1, .int .i64 x16.2.1, .int .i64 x16.2.2.1] p17 0 w18 fun w19 =>
drK w19 fun w20 =>
ld1 (.i .i64) p17 w20 fun x21 =>
ixK list.1 list.2.1 0 fun a22 =>
ld1 (.i .i64) (a22.add ((0 : Int).toNat * 3)) w20 fun x23 =>
drK w20 fun w24 =>
ld1 (.i .i64) (p17.add 1) w24 fun x25 =>
ixK list.1 list.2.1 0 fun a26 =>
ld1 (.i .i64) ((a26.add ((0 : Int).toNat * 3)).add 1) w24 fun x27 =>
brB (decide ((IntKind.wrap .i64 (x21 - x23)) < 0)) (
R ((0, ()), (1, ()), ()) w24) (
brB (decide ((IntKind.wrap .i64 (x21 - x23)) > 4194304)) (
R ((0, ()), (1, ()), ()) w24) (
brB (decide ((IntKind.wrap .i64 (x25 - x27)) < (Int.negSucc 4194303))) (
R ((0, ()), (1, ()), ()) w24) (
brB (decide ((IntKind.wrap .i64 (x25 - x27)) > 4194304)) (
R ((0, ()), (1, ()), ()) w24) (
self12 (IntKind.wrap .i64 (z13.1 + (IntKind.wrap .i64 (x21 - x23))), IntKind.wrap .i64 (z13.2.1 + (IntKind.wrap .i64 (x25 - x27))), IntKind.wrap .i64 (z13.2.2.1 + (IntKind.wrap .i64 ((IntKind.wrap .i64 (x21 - x23)) * (IntKind.wrap .i64 (x25 - x27))))), IntKind.wrap .i64 (z13.2.2.2.1 + (IntKind.wrap .i64 ((IntKind.wrap .i64 (x21 - x23)) * (IntKind.wrap .i64 (x21 - x23))))), IntKind.wrap .i64 (z13.2.2.2.2.1 + 1), ()) w24))))) (
brB (decide ((IntKind.wrap .i64 ((IntKind.wrap .i64 ((list.2.1 : Int) * z13.2.2.2.1)) - (IntKind.wrap .i64 (z13.1 * z13.1)))) ≤ 0)) (
R ((0, ()), (1, ()), ()) w14) (
clS Try.prog F.ref13_Most [.int .i64 drift] w14 true [(false, [(.i .i64)]), (false, [(.i .i64)])] fun r28 w29 =>
CutT (fun (J30 : Unit → World → Prop) =>
brB (decide ((IntKind.wrap .i64 ((IntKind.wrap .i64 ((list.2.1 : Int) * z13.2.2.1)) - (IntKind.wrap .i64 (z13.1 * z13.2.1)))) > 0)) (
clS Try.prog F.ref13_Over [.int .i64 (IntKind.wrap .i64 ((IntKind.wrap .i64 ((list.2.1 : Int) * z13.2.2.1)) - (IntKind.wrap .i64 (z13.1 * z13.2.1)))), .int .i64 (IntKind.wrap .i64 ((IntKind.wrap .i64 ((list.2.1 : Int) * z13.2.2.2.1)) - (IntKind.wrap .i64 (z13.1 * z13.1)))), .int .i64 r28.1.1, .int .i64 r28.2.1.1] w29 false [(false, [.b])] fun r33 w34 =>
brB r33.1.1 (
R ((r28.1.1, ()), (r28.2.1.1, ()), ()) w34) (
J30 (()) w34)) (
J30 (()) w29)) (fun (z31 : Unit) w32 => ∀ _ : Nat → Value,
brB (decide ((IntKind.wrap .i64 ((IntKind.wrap .i64 ((list.2.1 : Int) * z13.2.2.1)) - (IntKind.wrap .i64 (z13.1 * z13.2.1)))) < 0)) (
clS Try.prog F.ref13_Over [.int .i64 (IntKind.wrap .i64 (0 - (IntKind.wrap .i64 ((IntKind.wrap .i64 ((list.2.1 : Int) * z13.2.2.1)) - (IntKind.wrap .i64 (z13.1 * z13.2.1)))))), .int .i64 (IntKind.wrap .i64 ((IntKind.wrap .i64 ((list.2.1 : Int) * z13.2.2.2.1)) - (IntKind.wrap .i64 (z13.1 * z13.1)))), .int .i64 r28.1.1, .int .i64 r28.2.1.1] w32 false [(false, [.b])] fun r35 w36 =>
brB r35.1.1 (
R ((IntKind.wrap .i64 (0 - r28.1.1), ()), (r28.2.1.1, ()), ()) w36) (
R ((IntKind.wrap .i64 ((IntKind.wrap .i64 ((list.2.1 : Int) * z13.2.2.1)) - (IntKind.wrap .i64 (z13.1 * z13.2.1))), ()), (IntKind.wrap .i64 ((IntKind.wrap .i64 ((list.2.1 : Int) * z13.2.2.2.1)) - (IntKind.wrap .i64 (z13.1 * z13.1))), ()), ()) w36)) (
R ((IntKind.wrap .i64 ((IntKind.wrap .i64 ((list.2.1 : Int) * z13.2.2.1)) - (IntKind.wrap .i64 (z13.1 * z13.2.1))), ()), (IntKind.wrap .i64 ((IntKind.wrap .i64 ((list.2.1 : Int) * z13.2.2.2.1)) - (IntKind.wrap .i64 (z13.1 * z13.1))), ()), ()) w32))))) (0, 0, 0, 0, 0, ()) w3)) (0, ()) w))
set_option maxRecDepth 100000 in
theorem ref13_Of.eq (drift : Int) (list : Option Addr × Nat × Nat) (w : World) (R : Value → World → Prop) : wpF Try.prog Try.f29 (.s .n (.s .n (.s .n (.s .n (.s (.s .n (.lp [(31, (.i .i64))] .n)) (.s (.s .n (.lp [(7, (.i .i64)), (8, (.i .i64)), (9, (.i .i64)), (10, (.i .i64)), (41, (.i .i64))] (.s .n (.s .n (.s (.s .n (.s (.pl (.tk 0 (.tk 1 (.tk 2 (.tk 3 (.tk 4 (.tk 5 (.tk 6 (.tk 7 .z))))))))) (.s (.pl (.tk 0 (.tk 1 (.tk 2 (.tk 3 (.tk 4 (.tk 5 (.tk 6 (.tk 7 .z))))))))) .n))) .n))))) (.s .n (.s .n (.s .n (.s .n (.ct [] .n .n))))))))))) [.int .i64 drift, .slice list.1 list.2.1 list.2.2] w R = ref13_Of.wp drift list w (fun r w => R (encR true [(false, [(.i .i64)]), (false, [(.i .i64)])] r) w) := by kernel_rfl
theorem ref13_Of.ok {drift : Int} {list : Option Addr × Nat × Nat} {w : World} {R : TR [(false, [(.i .i64)]), (false, [(.i .i64)])] → World → Prop} (h : ref13_Of.wp drift list w R) : clS Try.prog F.ref13_Of [.int .i64 drift, .slice list.1 list.2.1 list.2.2] w true [(false, [(.i .i64)]), (false, [(.i .i64)])] R :=
  ok_of Try_follows Try.func29 (fun R => ref13_Of.wp drift list w R) (ref13_Of.eq drift list w) rfl h
end Go.Proofs.Ythgkdjfcdbjpdaa
