import Derived.Test.YtahojpppjpfjmaaGreatNm
namespace Go.Proofs.YtahojpppjpfjmaaGreat
open Go.Eng
set_option linter.unusedVariables false
/-! ### source_flooded -/
set_option maxRecDepth 100000 in
def source_flooded.wp (f : Option Addr) (local_ : Int) (w : World) (R : TR [(true, [(.i .i64), (.i .i64), (.i .i64), (.i .u16), (.i .i64)]), (false, [(.i .i64)])] → World → Prop) : Prop :=
alK [.int .i64 0, .int .i64 0, .int .i64 0, .int .u16 0, .int .i64 0] T.source_Answer w fun p1 w2 =>
clS Tryz.prog F.flood_Flood_Time [.pointer f, .int .i64 local_] w2 true [(false, [(.i .i64)]), (false, [(.i .i64)]), (false, [(.i .i64)])] fun r3 w4 =>
brB (r3.2.2.1.1 != 0) (
stN [.int .i64 0, .int .i64 0, .int .i64 0, .int .u16 0, .int .i64 0] p1 0 w4 fun w5 =>
ldN [(.i .i64), (.i .i64), (.i .i64), (.i .u16), (.i .i64)] p1 0 w5 fun x6 =>
R ((x6.1, x6.2.1, x6.2.2.1, x6.2.2.2.1, x6.2.2.2.2.1, ()), (r3.2.2.1.1, ()), ()) w5) (
ncK f fun a7 =>
ld1 .p a7 w4 fun x8 =>
clS Tryz.prog F.elect_Elect_Mark [.pointer x8] w4 true [(true, [(.i .u16), (.i .u16)]), (false, [.b])] fun r9 w10 =>
alK [.int .u16 0, .int .u16 0] T.elect_Mark w10 fun p11 w12 =>
stN [.int .u16 r9.1.1, .int .u16 r9.1.2.1] p11 0 w12 fun w13 =>
CutT (fun (J14 : ((Addr) × Unit) → World → Prop) =>
drK w13 fun w17 =>
ncK f fun a18 =>
ld1 .p a18 w17 fun x19 =>
ld1 (.i .u16) p11 w17 fun x20 =>
(
clS Tryz.prog F.elect_Elect_Root [.pointer x19] w17 false [(false, [(.i .i64)])] fun r21 w22 =>
Hold [(8, p11, (w17.cell? p11).getD undef), (5, a18, (w17.cell? a18).getD undef)] w22 ∧ (
alK [.int .i64 0, .int .i64 0, .int .i64 0, .int .u16 0, .int .i64 0] T.source_Answer w22 fun p23 w24 =>
Hold [(8, p11, (w17.cell? p11).getD undef), (5, a18, (w17.cell? a18).getD undef)] w24 ∧ (
stN [.int .i64 r3.1.1, .int .i64 r3.2.1.1, .int .i64 r21.1.1, .int .u16 x20, .int .i64 2] p23 0 w24 fun w25 =>
Hold [] w25 ∧ (
J14 (p23, ()) w25)))) ∧ (
alK [.int .i64 0, .int .i64 0, .int .i64 0, .int .u16 0, .int .i64 0] T.source_Answer w17 fun p26 w27 =>
Hold [(8, p11, (w17.cell? p11).getD undef), (5, a18, (w17.cell? a18).getD undef)] w27 ∧ (
clS Tryz.prog F.elect_Elect_Root [.pointer x19] w27 false [(false, [(.i .i64)])] fun r28 w29 =>
Hold [(8, p11, (w17.cell? p11).getD undef)] w29 ∧ (
stN [.int .i64 r3.1.1, .int .i64 r3.2.1.1, .int .i64 r28.1.1, .int .u16 x20, .int .i64 2] p26 0 w29 fun w30 =>
Hold [] w30 ∧ (
J14 (p26, ()) w30))))) (fun (z15 : (Addr) × Unit) w16 => ∀ _ : Nat → Value,
ncK f fun a31 =>
ld1 .p a31 w16 fun x32 =>
clS Tryz.prog F.elect_Elect_Mine [.pointer x32] w16 false [(false, [.b])] fun r33 w34 =>
brB r33.1.1 (
stN [.int .i64 1] (z15.1.add 4) 0 w34 fun w35 =>
ldN [(.i .i64), (.i .i64), (.i .i64), (.i .u16), (.i .i64)] z15.1 0 w35 fun x36 =>
stN [.int .i64 x36.1, .int .i64 x36.2.1, .int .i64 x36.2.2.1, .int .u16 x36.2.2.2.1, .int .i64 x36.2.2.2.2.1] p1 0 w35 fun w37 =>
ldN [(.i .i64), (.i .i64), (.i .i64), (.i .u16), (.i .i64)] p1 0 w37 fun x38 =>
R ((x38.1, x38.2.1, x38.2.2.1, x38.2.2.2.1, x38.2.2.2.2.1, ()), (0, ()), ()) w37) (
ldN [(.i .i64), (.i .i64), (.i .i64), (.i .u16), (.i .i64)] z15.1 0 w34 fun x39 =>
stN [.int .i64 x39.1, .int .i64 x39.2.1, .int .i64 x39.2.2.1, .int .u16 x39.2.2.2.1, .int .i64 x39.2.2.2.2.1] p1 0 w34 fun w40 =>
ldN [(.i .i64), (.i .i64), (.i .i64), (.i .u16), (.i .i64)] p1 0 w40 fun x41 =>
R ((x41.1, x41.2.1, x41.2.2.1, x41.2.2.2.1, x41.2.2.2.2.1, ()), (0, ()), ()) w40)))
set_option maxRecDepth 100000 in
theorem source_flooded.eq (f : Option Addr) (local_ : Int) (w : World) (R : Value → World → Prop) : wpF Tryz.prog Tryz.f27 (.s .n (.s .n (.s .n (.s .n (.ct [(11, .a)] (.pl (.tk 0 (.tk 1 (.tk 2 (.tk 3 (.tk 4 (.tk 5 (.tk 7 (.tk 8 (.two 6 11 (.tk 9 (.tk 10 (.ef 11 [] (.ef 12 [5, 8] .z)))) (.ef 6 [5] (.tk 9 (.tk 10 (.ef 12 [8] .z)))))))))))))) .n))))) [.pointer f, .int .i64 local_] w R = source_flooded.wp f local_ w (fun r w => R (encR true [(true, [(.i .i64), (.i .i64), (.i .i64), (.i .u16), (.i .i64)]), (false, [(.i .i64)])] r) w) := by kernel_rfl
theorem source_flooded.ok {f : Option Addr} {local_ : Int} {w : World} {R : TR [(true, [(.i .i64), (.i .i64), (.i .i64), (.i .u16), (.i .i64)]), (false, [(.i .i64)])] → World → Prop} (h : source_flooded.wp f local_ w R) : clS Tryz.prog F.source_flooded [.pointer f, .int .i64 local_] w true [(true, [(.i .i64), (.i .i64), (.i .i64), (.i .u16), (.i .i64)]), (false, [(.i .i64)])] R :=
  ok_of Tryz_follows Tryz.func27 (fun R => source_flooded.wp f local_ w R) (source_flooded.eq f local_ w) rfl h
/-! ### table_Entry_Good -/
set_option maxRecDepth 100000 in
def table_Entry_Good.wp (e0 : Int) (e1 : Int) (e2 : Int) (w : World) (R : TR [(false, [.b])] → World → Prop) : Prop :=
alK [.int .i64 e0, .int .i64 e1, .int .i64 e2] T.table_Entry w fun p1 w2 =>
ld1 (.i .i64) p1 w2 fun x3 =>
brB (decide (x3 ≥ 0)) (
ld1 (.i .i64) p1 w2 fun x4 =>
brB (decide (x4 ≤ 1125899906842624)) (
ld1 (.i .i64) (p1.add 1) w2 fun x5 =>
brB (decide (x5 ≥ (Int.negSucc 1125899906842623))) (
ld1 (.i .i64) (p1.add 1) w2 fun x6 =>
brB (decide (x6 ≤ 1125899906842624)) (
ld1 (.i .i64) (p1.add 2) w2 fun x7 =>
brB (decide (x7 ≥ 1)) (
ld1 (.i .i64) (p1.add 2) w2 fun x8 =>
R ((decide (x8 ≤ 63), ()), ()) w2) (
R ((false, ()), ()) w2)) (
R ((false, ()), ()) w2)) (
R ((false, ()), ()) w2)) (
R ((false, ()), ()) w2)) (
R ((false, ()), ()) w2)
set_option maxRecDepth 100000 in
theorem table_Entry_Good.eq (e0 : Int) (e1 : Int) (e2 : Int) (w : World) (R : Value → World → Prop) : wpF Tryz.prog Tryz.f28 .n [.agg #[.int .i64 e0, .int .i64 e1, .int .i64 e2]] w R = table_Entry_Good.wp e0 e1 e2 w (fun r w => R (encR false [(false, [.b])] r) w) := by kernel_rfl
theorem table_Entry_Good.ok {e0 : Int} {e1 : Int} {e2 : Int} {w : World} {R : TR [(false, [.b])] → World → Prop} (h : table_Entry_Good.wp e0 e1 e2 w R) : clS Tryz.prog F.table_Entry_Good [.agg #[.int .i64 e0, .int .i64 e1, .int .i64 e2]] w false [(false, [.b])] R :=
  ok_of Tryz_follows Tryz.func28 (fun R => table_Entry_Good.wp e0 e1 e2 w R) (table_Entry_Good.eq e0 e1 e2 w) rfl h
/-! ### ref15_New -/
set_option maxRecDepth 100000 in
def ref15_New.wp (me : Int) (timeout : Int) (ignore : Int) (boot : Int) (w : World) (R : TR [(false, [.p])] → World → Prop) : Prop :=
alK [.int .i64 me, .int .i64 timeout, .int .i64 ignore, .int .u16 boot, .int .u16 0, .int .i64 (Int.negSucc 0), .int .i64 0, .int .i64 0, .bool false, .bool false, .bool false, .bool false, .bool false, .bool false, .bool false, .bool false, .bool false, .bool false, .bool false, .bool false, .bool false, .bool false, .bool false, .bool false, .bool false, .bool false, .bool false, .bool false, .bool false, .bool false, .bool false, .bool false, .bool false, .bool false, .bool false, .bool false, .bool false, .bool false, .bool false, .bool false, .bool false, .bool false, .bool false, .bool false, .bool false, .bool false, .bool false, .bool false, .bool false, .bool false, .bool false, .bool false, .bool false, .bool false, .bool false, .bool false, .bool false, .bool false, .bool false, .bool false, .bool false, .bool false, .bool false, .bool false, .bool false, .bool false, .bool false, .bool false, .bool false, .bool false, .bool false, .bool false, .int .u16 0, .int .u16 0, .int .u16 0, .int .u16 0, .int .u16 0, .int .u16 0, .int .u16 0, .int .u16 0, .int .u16 0, .int .u16 0, .int .u16 0, .int .u16 0, .int .u16 0, .int .u16 0, .int .u16 0, .int .u16 0, .int .u16 0, .int .u16 0, .int .u16 0, .int .u16 0, .int .u16 0, .int .u16 0, .int .u16 0, .int .u16 0, .int .u16 0, .int .u16 0, .int .u16 0, .int .u16 0, .int .u16 0, .int .u16 0, .int .u16 0, .int .u16 0, .int .u16 0, .int .u16 0, .int .u16 0, .int .u16 0, .int .u16 0, .int .u16 0, .int .u16 0, .int .u16 0, .int .u16 0, .int .u16 0, .int .u16 0, .int .u16 0, .int .u16 0, .int .u16 0, .int .u16 0, .int .u16 0, .int .u16 0, .int .u16 0, .int .u16 0, .int .u16 0, .int .u16 0, .int .u16 0, .int .u16 0, .int .u16 0, .int .u16 0, .int .u16 0, .int .u16 0, .int .u16 0, .int .u16 0, .int .u16 0, .int .u16 0, .int .u16 0, .int .u16 0, .int .u16 0, .int .u16 0, .int .u16 0, .int .u16 0, .int .u16 0, .int .u16 0, .int .u16 0, .int .u16 0, .int .u16 0, .int .u16 0, .int .u16 0, .int .u16 0, .int .u16 0, .int .u16 0, .int .u16 0, .int .u16 0, .int .u16 0, .int .u16 0, .int .u16 0, .int .u16 0, .int .u16 0, .int .u16 0, .int .u16 0, .int .u16 0, .int .u16 0, .int .u16 0, .int .u16 0, .int .u16 0, .int .u16 0, .int .u16 0, .int .u16 0, .int .u16 0, .int .u16 0, .int .u16 0, .int .u16 0, .int .u16 0, .int .u16 0, .int .u16 0, .int .u16 0, .int .u16 0, .int .u16 0, .int .u16 0, .int .u16 0, .int .u16 0, .int .u16 0, .int .u16 0, .int .u16 0, .int .u16 0, .int .u16 0, .int .u16 0, .int .u16 0, .int .u16 0, .int .u16 0, .int .u16 0, .int .u16 0, .int .u16 0, .int .u16 0, .int .u16 0, .int .u16 0, .int .u16 0, .int .u16 0, .int .u16 0, .int .u16 0] T.ref15_Elect w fun p1 w2 =>
R ((some p1, ()), ()) w2
set_option maxRecDepth 100000 in
theorem ref15_New.eq (me : Int) (timeout : Int) (ignore : Int) (boot : Int) (w : World) (R : Value → World → Prop) : wpF Tryz.prog Tryz.f29 .n [.int .i64 me, .int .i64 timeout, .int .i64 ignore, .int .u16 boot] w R = ref15_New.wp me timeout ignore boot w (fun r w => R (encR false [(false, [.p])] r) w) := by kernel_rfl
theorem ref15_New.ok {me : Int} {timeout : Int} {ignore : Int} {boot : Int} {w : World} {R : TR [(false, [.p])] → World → Prop} (h : ref15_New.wp me timeout ignore boot w R) : clS Tryz.prog F.ref15_New [.int .i64 me, .int .i64 timeout, .int .i64 ignore, .int .u16 boot] w false [(false, [.p])] R :=
  ok_of Tryz_follows Tryz.func29 (fun R => ref15_New.wp me timeout ignore boot w R) (ref15_New.eq me timeout ignore boot w) rfl h
/-! ### elect_Elect_Hear -/
set_option maxRecDepth 100000 in
def elect_Elect_Hear.wp (e : Option Addr) (root : Int) (m0 : Int) (m1 : Int) (w : World) (R : TR [(false, [(.i .i64)])] → World → Prop) : Prop :=
alK [.int .u16 m0, .int .u16 m1] T.elect_Mark w fun p1 w2 =>
brB (Option.isNone e) (
R ((0, ()), ()) w2) (
clS Tryz.prog F.elect_Elect_may [.pointer e, .int .i64 root] w2 false [(false, [.b])] fun r3 w4 =>
brB (!r3.1.1) (
R ((0, ()), ()) w4) (
ncK e fun a5 =>
ld1 .m (a5.add 8) w4 fun x6 =>
lkO Tryz.prog T.map_int_elect_Mark (.map x6) (.int .i64 root) w4 true [(.i .u16), (.i .u16)] fun x7 b8 =>
alK [.int .u16 0, .int .u16 0] T.elect_Mark w4 fun p9 w10 =>
stN [.int .u16 x7.1, .int .u16 x7.2.1] p9 0 w10 fun w11 =>
CutT (fun (J12 : Unit → World → Prop) =>
brB b8 (
ldN [(.i .u16), (.i .u16)] p1 0 w11 fun x15 =>
ldN [(.i .u16), (.i .u16)] p9 0 w11 fun x16 =>
clS Tryz.prog F.elect_Mark_newer [.agg #[.int .u16 x15.1, .int .u16 x15.2.1], .agg #[.int .u16 x16.1, .int .u16 x16.2.1]] w11 false [(false, [.b])] fun r17 w18 =>
brB (!r17.1.1) (
R ((0, ()), ()) w18) (
J12 (()) w18)) (
J12 (()) w11)) (fun (z13 : Unit) w14 => ∀ _ : Nat → Value,
CutT (fun (J19 : ((Bool) × Unit) → World → Prop) =>
ncK e fun a22 =>
ld1 (.i .i64) (a22.add 5) w14 fun x23 =>
brB (x23 != root) (
J19 (true, ()) w14) (
ld1 (.i .u16) p9 w14 fun x24 =>
ld1 (.i .u16) p1 w14 fun x25 =>
J19 ((x24 != x25), ()) w14)) (fun (z20 : (Bool) × Unit) w21 => ∀ _ : Nat → Value,
drK w21 fun w26 =>
ncK e fun a27 =>
ld1 .m (a27.add 8) w26 fun x28 =>
ldN [(.i .u16), (.i .u16)] p1 0 w26 fun x29 =>
muK Tryz.prog T.map_int_elect_Mark (.map x28) (.int .i64 root) (.agg #[.int .u16 x29.1, .int .u16 x29.2.1]) w26 fun w30 =>
Hold [] w30 ∧ (
ncK e fun a31 =>
stN [.int .i64 root] (a31.add 5) 0 w30 fun w32 =>
ncK e fun a33 =>
stN [.int .i64 0] (a33.add 6) 0 w32 fun w34 =>
ncK e fun a35 =>
stN [.int .i64 0] (a35.add 7) 0 w34 fun w36 =>
brB z20.1 (
R ((2, ()), ()) w36) (
R ((1, ()), ()) w36))))))
set_option maxRecDepth 100000 in
theorem elect_Elect_Hear.eq (e : Option Addr) (root : Int) (m0 : Int) (m1 : Int) (w : World) (R : Value → World → Prop) : wpF Tryz.prog Tryz.f30 (.s .n (.s .n (.s .n (.ct [] .n (.ct [(9, .b)] .n (.s (.pl (.tk 0 (.tk 1 (.tk 2 (.tk 3 (.tk 4 (.tk 5 (.ef 6 [3, 5] .z)))))))) .n)))))) [.pointer e, .int .i64 root, .agg #[.int .u16 m0, .int .u16 m1]] w R = elect_Elect_Hear.wp e root m0 m1 w (fun r w => R (encR false [(false, [(.i .i64)])] r) w) := by kernel_rfl
theorem elect_Elect_Hear.ok {e : Option Addr} {root : Int} {m0 : Int} {m1 : Int} {w : World} {R : TR [(false, [(.i .i64)])] → World → Prop} (h : elect_Elect_Hear.wp e root m0 m1 w R) : clS Tryz.prog F.elect_Elect_Hear [.pointer e, .int .i64 root, .agg #[.int .u16 m0, .int .u16 m1]] w false [(false, [(.i .i64)])] R :=
  ok_of Tryz_follows Tryz.func30 (fun R => elect_Elect_Hear.wp e root m0 m1 w R) (elect_Elect_Hear.eq e root m0 m1 w) rfl h
/-! ### flood_Flood_forget -/
set_option maxRecDepth 100000 in
def flood_Flood_forget.wp (f : Option Addr) (w : World) (R : TR [] → World → Prop) : Prop :=
ncK f fun a1 =>
clS Tryz.prog F.table_Table_Clear [.pointer (some (a1.add 6))] w true [] fun r2 w3 =>
ncK f fun a4 =>
stN [.int .i64 0, .int .i64 0, .int .i64 0] (a4.add 7) 0 w3 fun w5 =>
R (()) w5
set_option maxRecDepth 100000 in
theorem flood_Flood_forget.eq (f : Option Addr) (w : World) (R : Value → World → Prop) : wpF Tryz.prog Tryz.f31 .n [.pointer f] w R = flood_Flood_forget.wp f w (fun r w => R (encR true [] r) w) := by kernel_rfl
theorem flood_Flood_forget.ok {f : Option Addr} {w : World} {R : TR [] → World → Prop} (h : flood_Flood_forget.wp f w R) : clS Tryz.prog F.flood_Flood_forget [.pointer f] w true [] R :=
  ok_of Tryz_follows Tryz.func31 (fun R => flood_Flood_forget.wp f w R) (flood_Flood_forget.eq f w) rfl h
/-! ### table_Table_Add -/
set_option maxRecDepth 100000 in
def table_Table_Add.wp (t : Option Addr) (e0 : Int) (e1 : Int) (e2 : Int) (w : World) (R : TR [(false, [(.i .i64)])] → World → Prop) : Prop :=
alK [.int .i64 e0, .int .i64 e1, .int .i64 e2] T.table_Entry w fun p1 w2 =>
CutT (fun (J3 : Unit → World → Prop) =>
clS Tryz.prog F.table_Table_Last [.pointer t] w2 true [(true, [(.i .i64), (.i .i64), (.i .i64)]), (false, [.b])] fun r6 w7 =>
alK [.int .i64 0, .int .i64 0, .int .i64 0] T.table_Entry w7 fun p8 w9 =>
stN [.int .i64 r6.1.1, .int .i64 r6.1.2.1, .int .i64 r6.1.2.2.1] p8 0 w9 fun w10 =>
brB (Option.isNone t) (
R ((2, ()), ()) w10) (
ldN [(.i .i64), (.i .i64), (.i .i64)] p1 0 w10 fun x11 =>
clS Tryz.prog F.table_Entry_Good [.agg #[.int .i64 x11.1, .int .i64 x11.2.1, .int .i64 x11.2.2.1]] w10 false [(false, [.b])] fun r12 w13 =>
brB (!r12.1.1) (
R ((1, ()), ()) w13) (
brB r6.2.1.1 (
ld1 (.i .i64) p1 w13 fun x14 =>
ld1 (.i .i64) p8 w13 fun x15 =>
brB (decide (x14 ≤ x15)) (
R ((12, ()), ()) w13) (
J3 (()) w13)) (
J3 (()) w13)))) (fun (z4 : Unit) w5 => ∀ _ : Nat → Value,
drK w5 fun w16 =>
ncK t fun a17 =>
ld1 .sl a17 w16 fun x18 =>
ldN [(.i .i64), (.i .i64), (.i .i64)] p1 0 w16 fun x19 =>
alK [.int .i64 x19.1, .int .i64 x19.2.1, .int .i64 x19.2.2.1] T.table_Entry w16 fun p20 w21 =>
Hold [(5, (p1.add 0), (w16.cell? (p1.add 0)).getD undef), (5, (p1.add 1), (w16.cell? (p1.add 1)).getD undef), (5, (p1.add 2), (w16.cell? (p1.add 2)).getD undef), (4, a17, (w16.cell? a17).getD undef)] w21 ∧ (
slOf ((Builtin.append_ #[T.sl_table_Entry, T.sl_table_Entry] T.sl_table_Entry #[.slice x18.1 x18.2.1 x18.2.2, .slice (some p20) 1 1]).run Tryz.prog w21) fun y22 w23 =>
Hold [(5, (p1.add 0), (w16.cell? (p1.add 0)).getD undef), (5, (p1.add 1), (w16.cell? (p1.add 1)).getD undef), (5, (p1.add 2), (w16.cell? (p1.add 2)).getD undef)] w23 ∧ (
ncK t fun a24 =>
stN [.slice y22.1 y22.2.1 y22.2.2] a24 0 w23 fun w25 =>
Hold [] w25 ∧ (
ncK t fun a26 =>
ld1 .sl a26 w25 fun x27 =>
brB (decide ((x27.2.1 : Int) > 8)) (
ncK t fun a28 =>
ld1 .sl a28 w25 fun x29 =>
slK 1 (x29.2.1 : Int) x29.2.2 (
clS Tryz.prog F.slices_Clone_table_Entry_table_Entry [.slice (slA x29.1 x29.2.2 (Int.toNat 1) 3) ((Int.toNat (x29.2.1 : Int)) - (Int.toNat 1)) (x29.2.2 - Int.toNat 1)] w25 false [(false, [.sl])] fun r30 w31 =>
ncK t fun a32 =>
stN [.slice r30.1.1.1 r30.1.1.2.1 r30.1.1.2.2] a32 0 w31 fun w33 =>
R ((0, ()), ()) w33)) (
R ((0, ()), ()) w25)))))
set_option maxRecDepth 100000 in
theorem table_Table_Add.eq (t : Option Addr) (e0 : Int) (e1 : Int) (e2 : Int) (w : World) (R : Value → World → Prop) : wpF Tryz.prog Tryz.f32 (.s .n (.ct [] .n (.s (.pl (.tk 0 (.tk 1 (.tk 2 (.tk 3 (.tk 4 (.tk 5 (.ef 6 [] (.ef 7 [4] (.tk 8 (.tk 9 (.ef 10 [5] .z)))))))))))) .n))) [.pointer t, .agg #[.int .i64 e0, .int .i64 e1, .int .i64 e2]] w R = table_Table_Add.wp t e0 e1 e2 w (fun r w => R (encR false [(false, [(.i .i64)])] r) w) := by kernel_rfl
theorem table_Table_Add.ok {t : Option Addr} {e0 : Int} {e1 : Int} {e2 : Int} {w : World} {R : TR [(false, [(.i .i64)])] → World → Prop} (h : table_Table_Add.wp t e0 e1 e2 w R) : clS Tryz.prog F.table_Table_Add [.pointer t, .agg #[.int .i64 e0, .int .i64 e1, .int .i64 e2]] w false [(false, [(.i .i64)])] R :=
  ok_of Tryz_follows Tryz.func32 (fun R => table_Table_Add.wp t e0 e1 e2 w R) (table_Table_Add.eq t e0 e1 e2 w) rfl h
/-! ### table_Table_Clear -/
set_option maxRecDepth 100000 in
def table_Table_Clear.wp (t : Option Addr) (w : World) (R : TR [] → World → Prop) : Prop :=
brB (!(Option.isNone t)) (
ncK t fun a1 =>
stN [.slice none 0 0] a1 0 w fun w2 =>
R (()) w2) (
R (()) w)
set_option maxRecDepth 100000 in
theorem table_Table_Clear.eq (t : Option Addr) (w : World) (R : Value → World → Prop) : wpF Tryz.prog Tryz.f33 .n [.pointer t] w R = table_Table_Clear.wp t w (fun r w => R (encR true [] r) w) := by kernel_rfl
theorem table_Table_Clear.ok {t : Option Addr} {w : World} {R : TR [] → World → Prop} (h : table_Table_Clear.wp t w R) : clS Tryz.prog F.table_Table_Clear [.pointer t] w true [] R :=
  ok_of Tryz_follows Tryz.func33 (fun R => table_Table_Clear.wp t w R) (table_Table_Clear.eq t w) rfl h
/-! ### ref16_time -/
set_option maxRecDepth 100000 in
def ref16_time.wp (t : Int) (w : World) (R : TR [(false, [.b])] → World → Prop) : Prop :=
brB (decide (t ≥ 0)) (
R ((decide (t ≤ 1125899906842624), ()), ()) w) (
R ((false, ()), ()) w)
set_option maxRecDepth 100000 in
theorem ref16_time.eq (t : Int) (w : World) (R : Value → World → Prop) : wpF Tryz.prog Tryz.f34 .n [.int .i64 t] w R = ref16_time.wp t w (fun r w => R (encR false [(false, [.b])] r) w) := by kernel_rfl
theorem ref16_time.ok {t : Int} {w : World} {R : TR [(false, [.b])] → World → Prop} (h : ref16_time.wp t w R) : clS Tryz.prog F.ref16_time [.int .i64 t] w false [(false, [.b])] R :=
  ok_of Tryz_follows Tryz.func34 (fun R => ref16_time.wp t w R) (ref16_time.eq t w) rfl h
/-! ### ref15_Elect_Hear -/
set_option maxRecDepth 100000 in
def ref15_Elect_Hear.wp (e : Option Addr) (root : Int) (boot : Int) (seq : Int) (w : World) (R : TR [(false, [(.i .i64)])] → World → Prop) : Prop :=
brB (decide (root < 0)) (
R ((0, ()), ()) w) (
ncK e fun a1 =>
ld1 (.i .i64) a1 w fun x2 =>
brB (decide (root ≥ x2)) (
R ((0, ()), ()) w) (
CutT (fun (J3 : Unit → World → Prop) =>
drK w fun w6 =>
ncK e fun a7 =>
ld1 (.i .i64) (a7.add 5) w6 fun x8 =>
ncK e fun a9 =>
ld1 (.i .i64) a9 w6 fun x10 =>
brB (x8 == x10) (
ncK e fun a11 =>
ld1 (.i .i64) (a11.add 7) w6 fun x12 =>
brB (decide (x12 > 0)) (
R ((0, ()), ()) w6) (
J3 (()) w6)) (
J3 (()) w6)) (fun (z4 : Unit) w5 => ∀ _ : Nat → Value,
CutT (fun (J13 : Unit → World → Prop) =>
drK w5 fun w16 =>
ncK e fun a17 =>
ld1 (.i .i64) (a17.add 5) w16 fun x18 =>
brB (decide (x18 ≥ 0)) (
ncK e fun a19 =>
ld1 (.i .i64) (a19.add 5) w16 fun x20 =>
ncK e fun a21 =>
ld1 (.i .i64) a21 w16 fun x22 =>
brB (x20 != x22) (
ncK e fun a23 =>
ld1 (.i .i64) (a23.add 5) w16 fun x24 =>
brB (decide (root > x24)) (
R ((0, ()), ()) w16) (
J13 (()) w16)) (
J13 (()) w16)) (
J13 (()) w16)) (fun (z14 : Unit) w15 => ∀ _ : Nat → Value,
CutT (fun (J25 : Unit → World → Prop) =>
drK w15 fun w28 =>
ncK e fun a29 =>
ixK (some (a29.add 8)) 64 root fun a30 =>
ld1 .b (a30.add (root.toNat * 1)) w28 fun x31 =>
brB x31 (
ncK e fun a32 =>
ixK (some (a32.add 72)) 64 root fun a33 =>
ld1 (.i .u16) (a33.add (root.toNat * 1)) w28 fun x34 =>
ncK e fun a35 =>
ixK (some (a35.add 136)) 64 root fun a36 =>
ld1 (.i .u16) (a36.add (root.toNat * 1)) w28 fun x37 =>
clS Tryz.prog F.ref15_Newer [.int .u16 boot, .int .u16 seq, .int .u16 x34, .int .u16 x37] w28 false [(false, [.b])] fun r38 w39 =>
Hold [(5, (a30.add (root.toNat * 1)), (w28.cell? (a30.add (root.toNat * 1))).getD undef)] w39 ∧ (
brB (!r38.1.1) (
R ((0, ()), ()) w39) (
J25 (()) w39))) (
J25 (()) w28)) (fun (z26 : Unit) w27 => ∀ _ : Nat → Value,
CutT (fun (J40 : ((Int) × Unit) → World → Prop) =>
ncK e fun a43 =>
ld1 (.i .i64) (a43.add 5) w27 fun x44 =>
brB (x44 != root) (
J40 (2, ()) w27) (
ncK e fun a45 =>
ixK (some (a45.add 8)) 64 root fun a46 =>
ld1 .b (a46.add (root.toNat * 1)) w27 fun x47 =>
brB (!x47) (
J40 (2, ()) w27) (
ncK e fun a48 =>
ixK (some (a48.add 72)) 64 root fun a49 =>
ld1 (.i .u16) (a49.add (root.toNat * 1)) w27 fun x50 =>
brB (x50 != boot) (
J40 (2, ()) w27) (
J40 (1, ()) w27)))) (fun (z41 : (Int) × Unit) w42 => ∀ _ : Nat → Value,
ncK e fun a51 =>
ixK (some (a51.add 8)) 64 root fun a52 =>
stN [.bool true] (a52.add (root.toNat * 1)) 0 w42 fun w53 =>
ncK e fun a54 =>
ixK (some (a54.add 72)) 64 root fun a55 =>
stN [.int .u16 boot] (a55.add (root.toNat * 1)) 0 w53 fun w56 =>
ncK e fun a57 =>
ixK (some (a57.add 136)) 64 root fun a58 =>
stN [.int .u16 seq] (a58.add (root.toNat * 1)) 0 w56 fun w59 =>
ncK e fun a60 =>
stN [.int .i64 root] (a60.add 5) 0 w59 fun w61 =>
ncK e fun a62 =>
stN [.int .i64 0] (a62.add 6) 0 w61 fun w63 =>
ncK e fun a64 =>
stN [.int .i64 0] (a64.add 7) 0 w63 fun w65 =>
R ((z41.1, ()), ()) w65))))))
set_option maxRecDepth 100000 in
theorem ref15_Elect_Hear.eq (e : Option Addr) (root : Int) (boot : Int) (seq : Int) (w : World) (R : Value → World → Prop) : wpF Tryz.prog Tryz.f35 (.s .n (.s .n (.ct [] (.s (.pl (.tk 0 (.tk 1 (.tk 2 (.tk 3 (.tk 4 (.tk 5 (.tk 6 (.tk 7 (.tk 8 (.tk 9 (.tk 10 (.tk 11 (.tk 12 (.tk 13 (.tk 14 (.tk 15 .z))))))))))))))))) .n) (.ct [] (.s (.pl (.tk 0 (.tk 1 (.tk 2 (.tk 3 (.tk 4 (.tk 5 (.tk 6 (.tk 7 (.tk 8 (.tk 9 (.tk 10 (.tk 11 (.tk 12 (.tk 13 (.tk 14 (.tk 15 (.tk 16 (.tk 17 (.tk 18 (.tk 19 (.tk 20 (.tk 21 (.tk 22 (.tk 23 .z))))))))))))))))))))))))) .n) (.ct [] (.s (.pl (.tk 0 (.tk 1 (.tk 2 (.tk 3 (.tk 4 (.tk 5 (.tk 6 (.tk 7 (.tk 8 (.tk 9 (.tk 10 (.tk 11 (.tk 12 (.tk 13 (.tk 14 (.tk 15 (.tk 16 (.tk 17 (.tk 18 (.tk 19 (.tk 20 (.ef 21 [14, 20] (.tk 22 (.tk 23 .z))))))))))))))))))))))))) .n) (.s .n (.ct [(9, (.i .i64))] .n .n))))))) [.pointer e, .int .i64 root, .int .u16 boot, .int .u16 seq] w R = ref15_Elect_Hear.wp e root boot seq w (fun r w => R (encR false [(false, [(.i .i64)])] r) w) := by kernel_rfl
theorem ref15_Elect_Hear.ok {e : Option Addr} {root : Int} {boot : Int} {seq : Int} {w : World} {R : TR [(false, [(.i .i64)])] → World → Prop} (h : ref15_Elect_Hear.wp e root boot seq w R) : clS Tryz.prog F.ref15_Elect_Hear [.pointer e, .int .i64 root, .int .u16 boot, .int .u16 seq] w false [(false, [(.i .i64)])] R :=
  ok_of Tryz_follows Tryz.func35 (fun R => ref15_Elect_Hear.wp e root boot seq w R) (ref15_Elect_Hear.eq e root boot seq w) rfl h
/-! ### ref16_Flood_forget -/
set_option maxRecDepth 100000 in
def ref16_Flood_forget.wp (f : Option Addr) (w : World) (R : TR [] → World → Prop) : Prop :=
ncK f fun a1 =>
stN [.slice none 0 0] (a1.add 3) 0 w fun w2 =>
ncK f fun a3 =>
stN [.int .i64 0] (a3.add 4) 0 w2 fun w4 =>
ncK f fun a5 =>
stN [.int .i64 0] (a5.add 5) 0 w4 fun w6 =>
ncK f fun a7 =>
stN [.int .i64 0] (a7.add 6) 0 w6 fun w8 =>
R (()) w8
set_option maxRecDepth 100000 in
theorem ref16_Flood_forget.eq (f : Option Addr) (w : World) (R : Value → World → Prop) : wpF Tryz.prog Tryz.f36 .n [.pointer f] w R = ref16_Flood_forget.wp f w (fun r w => R (encR true [] r) w) := by kernel_rfl
theorem ref16_Flood_forget.ok {f : Option Addr} {w : World} {R : TR [] → World → Prop} (h : ref16_Flood_forget.wp f w R) : clS Tryz.prog F.ref16_Flood_forget [.pointer f] w true [] R :=
  ok_of Tryz_follows Tryz.func36 (fun R => ref16_Flood_forget.wp f w R) (ref16_Flood_forget.eq f w) rfl h
/-! ### ref12_Add -/
set_option maxRecDepth 100000 in
def ref12_Add.wp (list : Option Addr × Nat × Nat) (e0 : Int) (e1 : Int) (e2 : Int) (w : World) (R : TR [(false, [.sl]), (false, [(.i .i64)])] → World → Prop) : Prop :=
alK [.int .i64 e0, .int .i64 e1, .int .i64 e2] T.ref12_Entry w fun p1 w2 =>
ldN [(.i .i64), (.i .i64), (.i .i64)] p1 0 w2 fun x3 =>
clS Tryz.prog F.ref12_Good [.agg #[.int .i64 x3.1, .int .i64 x3.2.1, .int .i64 x3.2.2.1]] w2 false [(false, [.b])] fun r4 w5 =>
brB (!r4.1.1) (
R (((list.1, list.2.1, list.2.2), ()), (1, ()), ()) w5) (
CutT (fun (J6 : Unit → World → Prop) =>
drK w5 fun w9 =>
brB (decide ((list.2.1 : Int) > 0)) (
ld1 (.i .i64) p1 w9 fun x10 =>
ixK list.1 list.2.1 (IntKind.wrap .i64 ((list.2.1 : Int) - 1)) fun a11 =>
ld1 (.i .i64) (a11.add ((IntKind.wrap .i64 ((list.2.1 : Int) - 1)).toNat * 3)) w9 fun x12 =>
brB (decide (x10 ≤ x12)) (
R (((list.1, list.2.1, list.2.2), ()), (12, ()), ()) w9) (
J6 (()) w9)) (
J6 (()) w9)) (fun (z7 : Unit) w8 => ∀ _ : Nat → Value,
CutT (fun (J13 : ((Option Addr × Nat × Nat) × Unit) → World → Prop) =>
drK w8 fun w16 =>
ldN [(.i .i64), (.i .i64), (.i .i64)] p1 0 w16 fun x17 =>
(
alK [] T.ref12_Entry w16 fun p18 w19 =>
Hold [(3, (p1.add 0), (w16.cell? (p1.add 0)).getD undef), (3, (p1.add 1), (w16.cell? (p1.add 1)).getD undef), (3, (p1.add 2), (w16.cell? (p1.add 2)).getD undef)] w19 ∧ (
(
slOf ((Builtin.append_ #[T.sl_angelusref12_Entry, T.sl_angelusref12_Entry] T.sl_angelusref12_Entry #[.slice (some p18) 0 0, .slice list.1 list.2.1 list.2.2]).run Tryz.prog w19) fun y20 w21 =>
Hold [(3, (p1.add 0), (w16.cell? (p1.add 0)).getD undef), (3, (p1.add 1), (w16.cell? (p1.add 1)).getD undef), (3, (p1.add 2), (w16.cell? (p1.add 2)).getD undef)] w21 ∧ (
alK [.int .i64 x17.1, .int .i64 x17.2.1, .int .i64 x17.2.2.1] T.ref12_Entry w21 fun p22 w23 =>
Hold [(3, (p1.add 0), (w16.cell? (p1.add 0)).getD undef), (3, (p1.add 1), (w16.cell? (p1.add 1)).getD undef), (3, (p1.add 2), (w16.cell? (p1.add 2)).getD undef)] w23 ∧ (
slOf ((Builtin.append_ #[T.sl_angelusref12_Entry, T.sl_angelusref12_Entry] T.sl_angelusref12_Entry #[.slice y20.1 y20.2.1 y20.2.2, .slice (some p22) 1 1]).run Tryz.prog w23) fun y24 w25 =>
Hold [(3, (p1.add 0), (w16.cell? (p1.add 0)).getD undef), (3, (p1.add 1), (w16.cell? (p1.add 1)).getD undef), (3, (p1.add 2), (w16.cell? (p1.add 2)).getD undef)] w25 ∧ (
J13 ((y24.1, y24.2.1, y24.2.2), ()) w25)))) ∧ (
alK [.int .i64 x17.1, .int .i64 x17.2.1, .int .i64 x17.2.2.1] T.ref12_Entry w19 fun p26 w27 =>
Hold [(3, (p1.add 0), (w16.cell? (p1.add 0)).getD undef), (3, (p1.add 1), (w16.cell? (p1.add 1)).getD undef), (3, (p1.add 2), (w16.cell? (p1.add 2)).getD undef)] w27 ∧ (
slOf ((Builtin.append_ #[T.sl_angelusref12_Entry, T.sl_angelusref12_Entry] T.sl_angelusref12_Entry #[.slice (some p18) 0 0, .slice list.1 list.2.1 list.2.2]).run Tryz.prog w27) fun y28 w29 =>
Hold [(3, (p1.add 0), (w16.cell? (p1.add 0)).getD undef), (3, (p1.add 1), (w16.cell? (p1.add 1)).getD undef), (3, (p1.add 2), (w16.cell? (p1.add 2)).getD undef)] w29 ∧ (
slOf ((Builtin.append_ #[T.sl_angelusref12_Entry, T.sl_angelusref12_Entry] T.sl_angelusref12_Entry #[.slice y28.1 y28.2.1 y28.2.2, .slice (some p26) 1 1]).run Tryz.prog w29) fun y30 w31 =>
Hold [(3, (p1.add 0), (w16.cell? (p1.add 0)).getD undef), (3, (p1.add 1), (w16.cell? (p1.add 1)).getD undef), (3, (p1.add 2), (w16.cell? (p1.add 2)).getD undef)] w31 ∧ (
J13 ((y30.1, y30.2.1, y30.2.2), ()) w31)))))) ∧ (
alK [.int .i64 x17.1, .int .i64 x17.2.1, .int .i64 x17.2.2.1] T.ref12_Entry w16 fun p32 w33 =>
Hold [(3, (p1.add 0), (w16.cell? (p1.add 0)).getD undef), (3, (p1.add 1), (w16.cell? (p1.add 1)).getD undef), (3, (p1.add 2), (w16.cell? (p1.add 2)).getD undef)] w33 ∧ (
alK [] T.ref12_Entry w33 fun p34 w35 =>
Hold [(3, (p1.add 0), (w16.cell? (p1.add 0)).getD undef), (3, (p1.add 1), (w16.cell? (p1.add 1)).getD undef), (3, (p1.add 2), (w16.cell? (p1.add 2)).getD undef)] w35 ∧ (
slOf ((Builtin.append_ #[T.sl_angelusref12_Entry, T.sl_angelusref12_Entry] T.sl_angelusref12_Entry #[.slice (some p34) 0 0, .slice list.1 list.2.1 list.2.2]).run Tryz.prog w35) fun y36 w37 =>
Hold [(3, (p1.add 0), (w16.cell? (p1.add 0)).getD undef), (3, (p1.add 1), (w16.cell? (p1.add 1)).getD undef), (3, (p1.add 2), (w16.cell? (p1.add 2)).getD undef)] w37 ∧ (
slOf ((Builtin.append_ #[T.sl_angelusref12_Entry, T.sl_angelusref12_Entry] T.sl_angelusref12_Entry #[.slice y36.1 y36.2.1 y36.2.2, .slice (some p32) 1 1]).run Tryz.prog w37) fun y38 w39 =>
Hold [(3, (p1.add 0), (w16.cell? (p1.add 0)).getD undef), (3, (p1.add 1), (w16.cell? (p1.add 1)).getD undef), (3, (p1.add 2), (w16.cell? (p1.add 2)).getD undef)] w39 ∧ (
J13 ((y38.1, y38.2.1, y38.2.2), ()) w39)))))) (fun (z14 : (Option Addr × Nat × Nat) × Unit) w15 => ∀ _ : Nat → Value,
brB (decide ((z14.1.2.1 : Int) > 8)) (
slK (IntKind.wrap .i64 ((z14.1.2.1 : Int) - 8)) (z14.1.2.1 : Int) z14.1.2.2 (
R (((slA z14.1.1 z14.1.2.2 (Int.toNat (IntKind.wrap .i64 ((z14.1.2.1 : Int) - 8))) 3, (Int.toNat (z14.1.2.1 : Int)) - (Int.toNat (IntKind.wrap .i64 ((z14.1.2.1 : Int) - 8))), z14.1.2.2 - Int.toNat (IntKind.wrap .i64 ((z14.1.2.1 : Int) - 8))), ()), (0, ()), ()) w15)) (
R (((z14.1.1, z14.1.2.1, z14.1.2.2), ()), (0, ()), ()) w15))))
set_option maxRecDepth 100000 in
theorem ref12_Add.eq (list : Option Addr × Nat × Nat) (e0 : Int) (e1 : Int) (e2 : Int) (w : World) (R : Value → World → Prop) : wpF Tryz.prog Tryz.f37 (.s .n (.s .n (.s .n (.ct [] (.s (.pl (.tk 0 (.tk 1 (.tk 2 (.tk 3 (.tk 4 (.tk 5 (.tk 6 (.tk 7 (.tk 8 (.tk 9 (.tk 10 (.tk 11 (.tk 12 .z)))))))))))))) .n) (.ct [(7, .sl)] (.pl (.tk 1 (.tk 3 (.two 0 4 (.two 2 4 (.ef 4 [] (.ef 5 [] (.tk 6 .z))) (.ef 2 [] (.ef 5 [] (.tk 6 .z)))) (.ef 0 [] (.ef 2 [] (.ef 5 [] (.tk 6 .z)))))))) .n))))) [.slice list.1 list.2.1 list.2.2, .agg #[.int .i64 e0, .int .i64 e1, .int .i64 e2]] w R = ref12_Add.wp list e0 e1 e2 w (fun r w => R (encR true [(false, [.sl]), (false, [(.i .i64)])] r) w) := by kernel_rfl
theorem ref12_Add.ok {list : Option Addr × Nat × Nat} {e0 : Int} {e1 : Int} {e2 : Int} {w : World} {R : TR [(false, [.sl]), (false, [(.i .i64)])] → World → Prop} (h : ref12_Add.wp list e0 e1 e2 w R) : clS Tryz.prog F.ref12_Add [.slice list.1 list.2.1 list.2.2, .agg #[.int .i64 e0, .int .i64 e1, .int .i64 e2]] w true [(false, [.sl]), (false, [(.i .i64)])] R :=
  ok_of Tryz_follows Tryz.func37 (fun R => ref12_Add.wp list e0 e1 e2 w R) (ref12_Add.eq list e0 e1 e2 w) rfl h
/-! ### elect_Elect_Beat -/
set_option maxRecDepth 100000 in
def elect_Elect_Beat.wp (e : Option Addr) (w : World) (R : TR [(false, [.b])] → World → Prop) : Prop :=
brB (Option.isNone e) (
R ((false, ()), ()) w) (
clS Tryz.prog F.elect_Elect_Mine [.pointer e] w false [(false, [.b])] fun r1 w2 =>
brB r1.1.1 (
ncK e fun a3 =>
ld1 (.i .i64) (a3.add 7) w2 fun x4 =>
ncK e fun a5 =>
stN [.int .i64 (if 0 > (IntKind.wrap .i64 (x4 - 1)) then 0 else (IntKind.wrap .i64 (x4 - 1)))] (a5.add 7) 0 w2 fun w6 =>
R ((false, ()), ()) w6) (
ncK e fun a7 =>
ld1 (.i .i64) (a7.add 6) w2 fun x8 =>
ncK e fun a9 =>
stN [.int .i64 (IntKind.wrap .i64 (x8 + 1))] (a9.add 6) 0 w2 fun w10 =>
drK w10 fun w11 =>
ncK e fun a12 =>
ld1 (.i .i64) (a12.add 6) w11 fun x13 =>
ncK e fun a14 =>
ld1 (.i .i64) (a14.add 1) w11 fun x15 =>
brB (decide (x13 < x15)) (
R ((false, ()), ()) w11) (
drK w11 fun w16 =>
ncK e fun a17 =>
ld1 (.i .i64) a17 w16 fun x18 =>
ncK e fun a19 =>
ld1 (.i .i64) ((a19.add 1).add 1) w16 fun x20 =>
ncK e fun a21 =>
stN [.int .i64 x18] (a21.add 5) 0 w16 fun w22 =>
Hold [] w22 ∧ (
ncK e fun a23 =>
stN [.int .i64 0] (a23.add 6) 0 w22 fun w24 =>
Hold [] w24 ∧ (
ncK e fun a25 =>
stN [.int .i64 x20] (a25.add 7) 0 w24 fun w26 =>
Hold [] w26 ∧ (
R ((true, ()), ()) w26))))))
set_option maxRecDepth 100000 in
theorem elect_Elect_Beat.eq (e : Option Addr) (w : World) (R : Value → World → Prop) : wpF Tryz.prog Tryz.f38 (.s .n (.s .n (.s .n (.s (.s (.pl (.tk 0 (.tk 1 (.tk 2 (.tk 3 (.tk 4 (.tk 5 (.tk 6 (.tk 7 (.tk 8 (.tk 9 .z))))))))))) .n) (.s (.pl (.tk 0 (.tk 1 (.tk 2 (.tk 3 (.tk 4 (.tk 5 (.tk 6 (.tk 7 (.tk 8 (.tk 9 (.tk 10 (.tk 11 (.tk 12 (.tk 13 (.ef 14 [6, 11] (.tk 15 (.tk 16 (.ef 17 [] (.tk 18 (.tk 19 (.ef 20 [] .z)))))))))))))))))))))) .n))))) [.pointer e] w R = elect_Elect_Beat.wp e w (fun r w => R (encR false [(false, [.b])] r) w) := by kernel_rfl
theorem elect_Elect_Beat.ok {e : Option Addr} {w : World} {R : TR [(false, [.b])] → World → Prop} (h : elect_Elect_Beat.wp e w R) : clS Tryz.prog F.elect_Elect_Beat [.pointer e] w false [(false, [.b])] R :=
  ok_of Tryz_follows Tryz.func38 (fun R => elect_Elect_Beat.wp e w R) (elect_Elect_Beat.eq e w) rfl h
end Go.Proofs.YtahojpppjpfjmaaGreat
