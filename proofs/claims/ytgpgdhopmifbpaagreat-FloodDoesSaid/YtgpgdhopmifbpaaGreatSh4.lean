import Derived.Test.YtgpgdhopmifbpaaGreatNm
namespace Go.Proofs.YtgpgdhopmifbpaaGreat
open Go.Eng
set_option linter.unusedVariables false
/-! ### ref15_Good -/
set_option maxRecDepth 100000 in
def ref15_Good.wp (me : Int) (timeout : Int) (ignore : Int) (w : World) (R : TR [(false, [.b])] → World → Prop) : Prop :=
brB (decide (me ≥ 0)) (
brB (decide (me < 64)) (
brB (decide (timeout ≥ 1)) (
brB (decide (timeout ≤ 1000)) (
brB (decide (ignore ≥ 0)) (
R ((decide (ignore ≤ 1000), ()), ()) w) (
R ((false, ()), ()) w)) (
R ((false, ()), ()) w)) (
R ((false, ()), ()) w)) (
R ((false, ()), ()) w)) (
R ((false, ()), ()) w)
set_option maxRecDepth 100000 in
theorem ref15_Good.eq (me : Int) (timeout : Int) (ignore : Int) (w : World) (R : Value → World → Prop) : wpF Tryz.prog Tryz.f50 .n [.int .i64 me, .int .i64 timeout, .int .i64 ignore] w R = ref15_Good.wp me timeout ignore w (fun r w => R (encR false [(false, [.b])] r) w) := by kernel_rfl
theorem ref15_Good.ok {me : Int} {timeout : Int} {ignore : Int} {w : World} {R : TR [(false, [.b])] → World → Prop} (h : ref15_Good.wp me timeout ignore w R) : clS Tryz.prog F.ref15_Good [.int .i64 me, .int .i64 timeout, .int .i64 ignore] w false [(false, [.b])] R :=
  ok_of Tryz_follows Tryz.func50 (fun R => ref15_Good.wp me timeout ignore w R) (ref15_Good.eq me timeout ignore w) rfl h
/-! ### elect_Rules_Good -/
set_option maxRecDepth 100000 in
def elect_Rules_Good.wp (r0 : Int) (r1 : Int) (w : World) (R : TR [(false, [.b])] → World → Prop) : Prop :=
alK [.int .i64 r0, .int .i64 r1] T.elect_Rules w fun p1 w2 =>
ld1 (.i .i64) p1 w2 fun x3 =>
brB (decide (x3 ≥ 1)) (
ld1 (.i .i64) p1 w2 fun x4 =>
brB (decide (x4 ≤ 1000)) (
ld1 (.i .i64) (p1.add 1) w2 fun x5 =>
brB (decide (x5 ≥ 0)) (
ld1 (.i .i64) (p1.add 1) w2 fun x6 =>
R ((decide (x6 ≤ 1000), ()), ()) w2) (
R ((false, ()), ()) w2)) (
R ((false, ()), ()) w2)) (
R ((false, ()), ()) w2)
set_option maxRecDepth 100000 in
theorem elect_Rules_Good.eq (r0 : Int) (r1 : Int) (w : World) (R : Value → World → Prop) : wpF Tryz.prog Tryz.f51 .n [.agg #[.int .i64 r0, .int .i64 r1]] w R = elect_Rules_Good.wp r0 r1 w (fun r w => R (encR false [(false, [.b])] r) w) := by kernel_rfl
theorem elect_Rules_Good.ok {r0 : Int} {r1 : Int} {w : World} {R : TR [(false, [.b])] → World → Prop} (h : elect_Rules_Good.wp r0 r1 w R) : clS Tryz.prog F.elect_Rules_Good [.agg #[.int .i64 r0, .int .i64 r1]] w false [(false, [.b])] R :=
  ok_of Tryz_follows Tryz.func51 (fun R => elect_Rules_Good.wp r0 r1 w R) (elect_Rules_Good.eq r0 r1 w) rfl h
/-! ### ref15_New -/
set_option maxRecDepth 100000 in
def ref15_New.wp (me : Int) (timeout : Int) (ignore : Int) (boot : Int) (w : World) (R : TR [(false, [.p])] → World → Prop) : Prop :=
alK [.int .i64 me, .int .i64 timeout, .int .i64 ignore, .int .u16 boot, .int .u16 0, .int .i64 (Int.negSucc 0), .int .i64 0, .int .i64 0, .bool false, .bool false, .bool false, .bool false, .bool false, .bool false, .bool false, .bool false, .bool false, .bool false, .bool false, .bool false, .bool false, .bool false, .bool false, .bool false, .bool false, .bool false, .bool false, .bool false, .bool false, .bool false, .bool false, .bool false, .bool false, .bool false, .bool false, .bool false, .bool false, .bool false, .bool false, .bool false, .bool false, .bool false, .bool false, .bool false, .bool false, .bool false, .bool false, .bool false, .bool false, .bool false, .bool false, .bool false, .bool false, .bool false, .bool false, .bool false, .bool false, .bool false, .bool false, .bool false, .bool false, .bool false, .bool false, .bool false, .bool false, .bool false, .bool false, .bool false, .bool false, .bool false, .bool false, .bool false, .int .u16 0, .int .u16 0, .int .u16 0, .int .u16 0, .int .u16 0, .int .u16 0, .int .u16 0, .int .u16 0, .int .u16 0, .int .u16 0, .int .u16 0, .int .u16 0, .int .u16 0, .int .u16 0, .int .u16 0, .int .u16 0, .int .u16 0, .int .u16 0, .int .u16 0, .int .u16 0, .int .u16 0, .int .u16 0, .int .u16 0, .int .u16 0, .int .u16 0, .int .u16 0, .int .u16 0, .int .u16 0, .int .u16 0, .int .u16 0, .int .u16 0, .int .u16 0, .int .u16 0, .int .u16 0, .int .u16 0, .int .u16 0, .int .u16 0, .int .u16 0, .int .u16 0, .int .u16 0, .int .u16 0, .int .u16 0, .int .u16 0, .int .u16 0, .int .u16 0, .int .u16 0, .int .u16 0, .int .u16 0, .int .u16 0, .int .u16 0, .int .u16 0, .int .u16 0, .int .u16 0, .int .u16 0, .int .u16 0, .int .u16 0, .int .u16 0, .int .u16 0, .int .u16 0, .int .u16 0, .int .u16 0, .int .u16 0, .int .u16 0, .int .u16 0, .int .u16 0, .int .u16 0, .int .u16 0, .int .u16 0, .int .u16 0, .int .u16 0, .int .u16 0, .int .u16 0, .int .u16 0, .int .u16 0, .int .u16 0, .int .u16 0, .int .u16 0, .int .u16 0, .int .u16 0, .int .u16 0, .int .u16 0, .int .u16 0, .int .u16 0, .int .u16 0, .int .u16 0, .int .u16 0, .int .u16 0, .int .u16 0, .int .u16 0, .int .u16 0, .int .u16 0, .int .u16 0, .int .u16 0, .int .u16 0, .int .u16 0, .int .u16 0, .int .u16 0, .int .u16 0, .int .u16 0, .int .u16 0, .int .u16 0, .int .u16 0, .int .u16 0, .int .u16 0, .int .u16 0, .int .u16 0, .int .u16 0, .int .u16 0, .int .u16 0, .int .u16 0, .int .u16 0, .int .u16 0, .int .u16 0, .int .u16 0, .int .u16 0, .int .u16 0, .int .u16 0, .int .u16 0, .int .u16 0, .int .u16 0, .int .u16 0, .int .u16 0, .int .u16 0, .int .u16 0, .int .u16 0, .int .u16 0, .int .u16 0, .int .u16 0] T.ref15_Elect w fun p1 w2 =>
R ((some p1, ()), ()) w2
set_option maxRecDepth 100000 in
theorem ref15_New.eq (me : Int) (timeout : Int) (ignore : Int) (boot : Int) (w : World) (R : Value → World → Prop) : wpF Tryz.prog Tryz.f52 .n [.int .i64 me, .int .i64 timeout, .int .i64 ignore, .int .u16 boot] w R = ref15_New.wp me timeout ignore boot w (fun r w => R (encR false [(false, [.p])] r) w) := by kernel_rfl
theorem ref15_New.ok {me : Int} {timeout : Int} {ignore : Int} {boot : Int} {w : World} {R : TR [(false, [.p])] → World → Prop} (h : ref15_New.wp me timeout ignore boot w R) : clS Tryz.prog F.ref15_New [.int .i64 me, .int .i64 timeout, .int .i64 ignore, .int .u16 boot] w false [(false, [.p])] R :=
  ok_of Tryz_follows Tryz.func52 (fun R => ref15_New.wp me timeout ignore boot w R) (ref15_New.eq me timeout ignore boot w) rfl h
/-! ### ref16_time -/
set_option maxRecDepth 100000 in
def ref16_time.wp (t : Int) (w : World) (R : TR [(false, [.b])] → World → Prop) : Prop :=
brB (decide (t ≥ 0)) (
R ((decide (t ≤ 1125899906842624), ()), ()) w) (
R ((false, ()), ()) w)
set_option maxRecDepth 100000 in
theorem ref16_time.eq (t : Int) (w : World) (R : Value → World → Prop) : wpF Tryz.prog Tryz.f53 .n [.int .i64 t] w R = ref16_time.wp t w (fun r w => R (encR false [(false, [.b])] r) w) := by kernel_rfl
theorem ref16_time.ok {t : Int} {w : World} {R : TR [(false, [.b])] → World → Prop} (h : ref16_time.wp t w R) : clS Tryz.prog F.ref16_time [.int .i64 t] w false [(false, [.b])] R :=
  ok_of Tryz_follows Tryz.func53 (fun R => ref16_time.wp t w R) (ref16_time.eq t w) rfl h
/-! ### ref15_Elect_Hear -/
set_option maxRecDepth 100000 in
def ref15_Elect_Hear.wp (e : Option Addr) (root : Int) (boot : Int) (seq : Int) (w : World) (R : TR [(false, [(.i .i64)])] → World → Prop) : Prop :=
brB (decide (root < 0)) (
R ((0, ()), ()) w) (
ncK e fun a1 =>
ld1 (.i .i64) a1 w fun x2 =>
brB (decide (root ≥ x2)) (
R ((0, ()), ()) w) (
CutT (fun (J3 : Unit → World → Prop) =>
drK w fun w6 =>
ncK e fun a7 =>
ld1 (.i .i64) (a7.add 5) w6 fun x8 =>
ncK e fun a9 =>
ld1 (.i .i64) a9 w6 fun x10 =>
brB (x8 == x10) (
ncK e fun a11 =>
ld1 (.i .i64) (a11.add 7) w6 fun x12 =>
brB (decide (x12 > 0)) (
R ((0, ()), ()) w6) (
J3 (()) w6)) (
J3 (()) w6)) (fun (z4 : Unit) w5 => ∀ _ : Nat → Value,
CutT (fun (J13 : Unit → World → Prop) =>
drK w5 fun w16 =>
ncK e fun a17 =>
ld1 (.i .i64) (a17.add 5) w16 fun x18 =>
brB (decide (x18 ≥ 0)) (
ncK e fun a19 =>
ld1 (.i .i64) (a19.add 5) w16 fun x20 =>
ncK e fun a21 =>
ld1 (.i .i64) a21 w16 fun x22 =>
brB (x20 != x22) (
ncK e fun a23 =>
ld1 (.i .i64) (a23.add 5) w16 fun x24 =>
brB (decide (root > x24)) (
R ((0, ()), ()) w16) (
J13 (()) w16)) (
J13 (()) w16)) (
J13 (()) w16)) (fun (z14 : Unit) w15 => ∀ _ : Nat → Value,
CutT (fun (J25 : Unit → World → Prop) =>
drK w15 fun w28 =>
ncK e fun a29 =>
ixK (some (a29.add 8)) 64 root fun a30 =>
ld1 .b (a30.add (root.toNat * 1)) w28 fun x31 =>
brB x31 (
ncK e fun a32 =>
ixK (some (a32.add 72)) 64 root fun a33 =>
ld1 (.i .u16) (a33.add (root.toNat * 1)) w28 fun x34 =>
ncK e fun a35 =>
ixK (some (a35.add 136)) 64 root fun a36 =>
ld1 (.i .u16) (a36.add (root.toNat * 1)) w28 fun x37 =>
clS Tryz.prog F.ref15_Newer [.int .u16 boot, .int .u16 seq, .int .u16 x34, .int .u16 x37] w28 false [(false, [.b])] fun r38 w39 =>
Hold [(5, (a30.add (root.toNat * 1)), (w28.cell? (a30.add (root.toNat * 1))).getD undef)] w39 ∧ (
brB (!r38.1.1) (
R ((0, ()), ()) w39) (
J25 (()) w39))) (
J25 (()) w28)) (fun (z26 : Unit) w27 => ∀ _ : Nat → Value,
CutT (fun (J40 : ((Int) × Unit) → World → Prop) =>
ncK e fun a43 =>
ld1 (.i .i64) (a43.add 5) w27 fun x44 =>
brB (x44 != root) (
J40 (2, ()) w27) (
ncK e fun a45 =>
ixK (some (a45.add 8)) 64 root fun a46 =>
ld1 .b (a46.add (root.toNat * 1)) w27 fun x47 =>
brB (!x47) (
J40 (2, ()) w27) (
ncK e fun a48 =>
ixK (some (a48.add 72)) 64 root fun a49 =>
ld1 (.i .u16) (a49.add (root.toNat * 1)) w27 fun x50 =>
brB (x50 != boot) (
J40 (2, ()) w27) (
J40 (1, ()) w27)))) (fun (z41 : (Int) × Unit) w42 => ∀ _ : Nat → Value,
ncK e fun a51 =>
ixK (some (a51.add 8)) 64 root fun a52 =>
stN [.bool true] (a52.add (root.toNat * 1)) 0 w42 fun w53 =>
ncK e fun a54 =>
ixK (some (a54.add 72)) 64 root fun a55 =>
stN [.int .u16 boot] (a55.add (root.toNat * 1)) 0 w53 fun w56 =>
ncK e fun a57 =>
ixK (some (a57.add 136)) 64 root fun a58 =>
stN [.int .u16 seq] (a58.add (root.toNat * 1)) 0 w56 fun w59 =>
ncK e fun a60 =>
stN [.int .i64 root] (a60.add 5) 0 w59 fun w61 =>
ncK e fun a62 =>
stN [.int .i64 0] (a62.add 6) 0 w61 fun w63 =>
ncK e fun a64 =>
stN [.int .i64 0] (a64.add 7) 0 w63 fun w65 =>
R ((z41.1, ()), ()) w65))))))
set_option maxRecDepth 100000 in
theorem ref15_Elect_Hear.eq (e : Option Addr) (root : Int) (boot : Int) (seq : Int) (w : World) (R : Value → World → Prop) : wpF Tryz.prog Tryz.f54 (.s .n (.s .n (.ct [] (.s (.pl (.tk 0 (.tk 1 (.tk 2 (.tk 3 (.tk 4 (.tk 5 (.tk 6 (.tk 7 (.tk 8 (.tk 9 (.tk 10 (.tk 11 (.tk 12 (.tk 13 (.tk 14 (.tk 15 .z))))))))))))))))) .n) (.ct [] (.s (.pl (.tk 0 (.tk 1 (.tk 2 (.tk 3 (.tk 4 (.tk 5 (.tk 6 (.tk 7 (.tk 8 (.tk 9 (.tk 10 (.tk 11 (.tk 12 (.tk 13 (.tk 14 (.tk 15 (.tk 16 (.tk 17 (.tk 18 (.tk 19 (.tk 20 (.tk 21 (.tk 22 (.tk 23 .z))))))))))))))))))))))))) .n) (.ct [] (.s (.pl (.tk 0 (.tk 1 (.tk 2 (.tk 3 (.tk 4 (.tk 5 (.tk 6 (.tk 7 (.tk 8 (.tk 9 (.tk 10 (.tk 11 (.tk 12 (.tk 13 (.tk 14 (.tk 15 (.tk 16 (.tk 17 (.tk 18 (.tk 19 (.tk 20 (.ef 21 [14, 20] (.tk 22 (.tk 23 .z))))))))))))))))))))))))) .n) (.s .n (.ct [(9, (.i .i64))] .n .n))))))) [.pointer e, .int .i64 root, .int .u16 boot, .int .u16 seq] w R = ref15_Elect_Hear.wp e root boot seq w (fun r w => R (encR false [(false, [(.i .i64)])] r) w) := by kernel_rfl
theorem ref15_Elect_Hear.ok {e : Option Addr} {root : Int} {boot : Int} {seq : Int} {w : World} {R : TR [(false, [(.i .i64)])] → World → Prop} (h : ref15_Elect_Hear.wp e root boot seq w R) : clS Tryz.prog F.ref15_Elect_Hear [.pointer e, .int .i64 root, .int .u16 boot, .int .u16 seq] w false [(false, [(.i .i64)])] R :=
  ok_of Tryz_follows Tryz.func54 (fun R => ref15_Elect_Hear.wp e root boot seq w R) (ref15_Elect_Hear.eq e root boot seq w) rfl h
/-! ### ref16_Flood_forget -/
set_option maxRecDepth 100000 in
def ref16_Flood_forget.wp (f : Option Addr) (w : World) (R : TR [] → World → Prop) : Prop :=
ncK f fun a1 =>
stN [.slice none 0 0] (a1.add 3) 0 w fun w2 =>
ncK f fun a3 =>
stN [.int .i64 0] (a3.add 4) 0 w2 fun w4 =>
ncK f fun a5 =>
stN [.int .i64 0] (a5.add 5) 0 w4 fun w6 =>
ncK f fun a7 =>
stN [.int .i64 0] (a7.add 6) 0 w6 fun w8 =>
R (()) w8
set_option maxRecDepth 100000 in
theorem ref16_Flood_forget.eq (f : Option Addr) (w : World) (R : Value → World → Prop) : wpF Tryz.prog Tryz.f55 .n [.pointer f] w R = ref16_Flood_forget.wp f w (fun r w => R (encR true [] r) w) := by kernel_rfl
theorem ref16_Flood_forget.ok {f : Option Addr} {w : World} {R : TR [] → World → Prop} (h : ref16_Flood_forget.wp f w R) : clS Tryz.prog F.ref16_Flood_forget [.pointer f] w true [] R :=
  ok_of Tryz_follows Tryz.func55 (fun R => ref16_Flood_forget.wp f w R) (ref16_Flood_forget.eq f w) rfl h
/-! ### ref12_Add -/
set_option maxRecDepth 100000 in
def ref12_Add.wp (list : Option Addr × Nat × Nat) (e0 : Int) (e1 : Int) (e2 : Int) (w : World) (R : TR [(false, [.sl]), (false, [(.i .i64)])] → World → Prop) : Prop :=
alK [.int .i64 e0, .int .i64 e1, .int .i64 e2] T.ref12_Entry w fun p1 w2 =>
ldN [(.i .i64), (.i .i64), (.i .i64)] p1 0 w2 fun x3 =>
clS Tryz.prog F.ref12_Good [.agg #[.int .i64 x3.1, .int .i64 x3.2.1, .int .i64 x3.2.2.1]] w2 false [(false, [.b])] fun r4 w5 =>
brB (!r4.1.1) (
R (((list.1, list.2.1, list.2.2), ()), (1, ()), ()) w5) (
CutT (fun (J6 : Unit → World → Prop) =>
drK w5 fun w9 =>
brB (decide ((list.2.1 : Int) > 0)) (
ld1 (.i .i64) p1 w9 fun x10 =>
ixK list.1 list.2.1 (IntKind.wrap .i64 ((list.2.1 : Int) - 1)) fun a11 =>
ld1 (.i .i64) (a11.add ((IntKind.wrap .i64 ((list.2.1 : Int) - 1)).toNat * 3)) w9 fun x12 =>
brB (decide (x10 ≤ x12)) (
R (((list.1, list.2.1, list.2.2), ()), (12, ()), ()) w9) (
J6 (()) w9)) (
J6 (()) w9)) (fun (z7 : Unit) w8 => ∀ _ : Nat → Value,
CutT (fun (J13 : ((Option Addr × Nat × Nat) × Unit) → World → Prop) =>
drK w8 fun w16 =>
ldN [(.i .i64), (.i .i64), (.i .i64)] p1 0 w16 fun x17 =>
(
alK [] T.ref12_Entry w16 fun p18 w19 =>
Hold [(3, (p1.add 0), (w16.cell? (p1.add 0)).getD undef), (3, (p1.add 1), (w16.cell? (p1.add 1)).getD undef), (3, (p1.add 2), (w16.cell? (p1.add 2)).getD undef)] w19 ∧ (
(
slOf ((Builtin.append_ #[T.sl_angelusref12_Entry, T.sl_angelusref12_Entry] T.sl_angelusref12_Entry #[.slice (some p18) 0 0, .slice list.1 list.2.1 list.2.2]).run Tryz.prog w19) fun y20 w21 =>
Hold [(3, (p1.add 0), (w16.cell? (p1.add 0)).getD undef), (3, (p1.add 1), (w16.cell? (p1.add 1)).getD undef), (3, (p1.add 2), (w16.cell? (p1.add 2)).getD undef)] w21 ∧ (
alK [.int .i64 x17.1, .int .i64 x17.2.1, .int .i64 x17.2.2.1] T.ref12_Entry w21 fun p22 w23 =>
Hold [(3, (p1.add 0), (w16.cell? (p1.add 0)).getD undef), (3, (p1.add 1), (w16.cell? (p1.add 1)).getD undef), (3, (p1.add 2), (w16.cell? (p1.add 2)).getD undef)] w23 ∧ (
slOf ((Builtin.append_ #[T.sl_angelusref12_Entry, T.sl_angelusref12_Entry] T.sl_angelusref12_Entry #[.slice y20.1 y20.2.1 y20.2.2, .slice (some p22) 1 1]).run Tryz.prog w23) fun y24 w25 =>
Hold [(3, (p1.add 0), (w16.cell? (p1.add 0)).getD undef), (3, (p1.add 1), (w16.cell? (p1.add 1)).getD undef), (3, (p1.add 2), (w16.cell? (p1.add 2)).getD undef)] w25 ∧ (
J13 ((y24.1, y24.2.1, y24.2.2), ()) w25)))) ∧ (
alK [.int .i64 x17.1, .int .i64 x17.2.1, .int .i64 x17.2.2.1] T.ref12_Entry w19 fun p26 w27 =>
Hold [(3, (p1.add 0), (w16.cell? (p1.add 0)).getD undef), (3, (p1.add 1), (w16.cell? (p1.add 1)).getD undef), (3, (p1.add 2), (w16.cell? (p1.add 2)).getD undef)] w27 ∧ (
slOf ((Builtin.append_ #[T.sl_angelusref12_Entry, T.sl_angelusref12_Entry] T.sl_angelusref12_Entry #[.slice (some p18) 0 0, .slice list.1 list.2.1 list.2.2]).run Tryz.prog w27) fun y28 w29 =>
Hold [(3, (p1.add 0), (w16.cell? (p1.add 0)).getD undef), (3, (p1.add 1), (w16.cell? (p1.add 1)).getD undef), (3, (p1.add 2), (w16.cell? (p1.add 2)).getD undef)] w29 ∧ (
slOf ((Builtin.append_ #[T.sl_angelusref12_Entry, T.sl_angelusref12_Entry] T.sl_angelusref12_Entry #[.slice y28.1 y28.2.1 y28.2.2, .slice (some p26) 1 1]).run Tryz.prog w29) fun y30 w31 =>
Hold [(3, (p1.add 0), (w16.cell? (p1.add 0)).getD undef), (3, (p1.add 1), (w16.cell? (p1.add 1)).getD undef), (3, (p1.add 2), (w16.cell? (p1.add 2)).getD undef)] w31 ∧ (
J13 ((y30.1, y30.2.1, y30.2.2), ()) w31)))))) ∧ (
alK [.int .i64 x17.1, .int .i64 x17.2.1, .int .i64 x17.2.2.1] T.ref12_Entry w16 fun p32 w33 =>
Hold [(3, (p1.add 0), (w16.cell? (p1.add 0)).getD undef), (3, (p1.add 1), (w16.cell? (p1.add 1)).getD undef), (3, (p1.add 2), (w16.cell? (p1.add 2)).getD undef)] w33 ∧ (
alK [] T.ref12_Entry w33 fun p34 w35 =>
Hold [(3, (p1.add 0), (w16.cell? (p1.add 0)).getD undef), (3, (p1.add 1), (w16.cell? (p1.add 1)).getD undef), (3, (p1.add 2), (w16.cell? (p1.add 2)).getD undef)] w35 ∧ (
slOf ((Builtin.append_ #[T.sl_angelusref12_Entry, T.sl_angelusref12_Entry] T.sl_angelusref12_Entry #[.slice (some p34) 0 0, .slice list.1 list.2.1 list.2.2]).run Tryz.prog w35) fun y36 w37 =>
Hold [(3, (p1.add 0), (w16.cell? (p1.add 0)).getD undef), (3, (p1.add 1), (w16.cell? (p1.add 1)).getD undef), (3, (p1.add 2), (w16.cell? (p1.add 2)).getD undef)] w37 ∧ (
slOf ((Builtin.append_ #[T.sl_angelusref12_Entry, T.sl_angelusref12_Entry] T.sl_angelusref12_Entry #[.slice y36.1 y36.2.1 y36.2.2, .slice (some p32) 1 1]).run Tryz.prog w37) fun y38 w39 =>
Hold [(3, (p1.add 0), (w16.cell? (p1.add 0)).getD undef), (3, (p1.add 1), (w16.cell? (p1.add 1)).getD undef), (3, (p1.add 2), (w16.cell? (p1.add 2)).getD undef)] w39 ∧ (
J13 ((y38.1, y38.2.1, y38.2.2), ()) w39)))))) (fun (z14 : (Option Addr × Nat × Nat) × Unit) w15 => ∀ _ : Nat → Value,
brB (decide ((z14.1.2.1 : Int) > 8)) (
slK (IntKind.wrap .i64 ((z14.1.2.1 : Int) - 8)) (z14.1.2.1 : Int) z14.1.2.2 (
R (((slA z14.1.1 z14.1.2.2 (Int.toNat (IntKind.wrap .i64 ((z14.1.2.1 : Int) - 8))) 3, (Int.toNat (z14.1.2.1 : Int)) - (Int.toNat (IntKind.wrap .i64 ((z14.1.2.1 : Int) - 8))), z14.1.2.2 - Int.toNat (IntKind.wrap .i64 ((z14.1.2.1 : Int) - 8))), ()), (0, ()), ()) w15)) (
R (((z14.1.1, z14.1.2.1, z14.1.2.2), ()), (0, ()), ()) w15))))
set_option maxRecDepth 100000 in
theorem ref12_Add.eq (list : Option Addr × Nat × Nat) (e0 : Int) (e1 : Int) (e2 : Int) (w : World) (R : Value → World → Prop) : wpF Tryz.prog Tryz.f56 (.s .n (.s .n (.s .n (.ct [] (.s (.pl (.tk 0 (.tk 1 (.tk 2 (.tk 3 (.tk 4 (.tk 5 (.tk 6 (.tk 7 (.tk 8 (.tk 9 (.tk 10 (.tk 11 (.tk 12 .z)))))))))))))) .n) (.ct [(7, .sl)] (.pl (.tk 1 (.tk 3 (.two 0 4 (.two 2 4 (.ef 4 [] (.ef 5 [] (.tk 6 .z))) (.ef 2 [] (.ef 5 [] (.tk 6 .z)))) (.ef 0 [] (.ef 2 [] (.ef 5 [] (.tk 6 .z)))))))) .n))))) [.slice list.1 list.2.1 list.2.2, .agg #[.int .i64 e0, .int .i64 e1, .int .i64 e2]] w R = ref12_Add.wp list e0 e1 e2 w (fun r w => R (encR true [(false, [.sl]), (false, [(.i .i64)])] r) w) := by kernel_rfl
theorem ref12_Add.ok {list : Option Addr × Nat × Nat} {e0 : Int} {e1 : Int} {e2 : Int} {w : World} {R : TR [(false, [.sl]), (false, [(.i .i64)])] → World → Prop} (h : ref12_Add.wp list e0 e1 e2 w R) : clS Tryz.prog F.ref12_Add [.slice list.1 list.2.1 list.2.2, .agg #[.int .i64 e0, .int .i64 e1, .int .i64 e2]] w true [(false, [.sl]), (false, [(.i .i64)])] R :=
  ok_of Tryz_follows Tryz.func56 (fun R => ref12_Add.wp list e0 e1 e2 w R) (ref12_Add.eq list e0 e1 e2 w) rfl h
/-! ### ref15_Elect_Beat -/
set_option maxRecDepth 100000 in
def ref15_Elect_Beat.wp (e : Option Addr) (w : World) (R : TR [(false, [.b])] → World → Prop) : Prop :=
drK w fun w1 =>
ncK e fun a2 =>
ld1 (.i .i64) (a2.add 5) w1 fun x3 =>
ncK e fun a4 =>
ld1 (.i .i64) a4 w1 fun x5 =>
brB (x3 == x5) (
ncK e fun a6 =>
ld1 (.i .i64) (a6.add 7) w1 fun x7 =>
brB (decide (x7 > 0)) (
ncK e fun a8 =>
ld1 (.i .i64) (a8.add 7) w1 fun x9 =>
ncK e fun a10 =>
stN [.int .i64 (IntKind.wrap .i64 (x9 - 1))] (a10.add 7) 0 w1 fun w11 =>
R ((false, ()), ()) w11) (
R ((false, ()), ()) w1)) (
ncK e fun a12 =>
ld1 (.i .i64) (a12.add 6) w1 fun x13 =>
ncK e fun a14 =>
stN [.int .i64 (IntKind.wrap .i64 (x13 + 1))] (a14.add 6) 0 w1 fun w15 =>
drK w15 fun w16 =>
ncK e fun a17 =>
ld1 (.i .i64) (a17.add 6) w16 fun x18 =>
ncK e fun a19 =>
ld1 (.i .i64) (a19.add 1) w16 fun x20 =>
brB (decide (x18 < x20)) (
R ((false, ()), ()) w16) (
ncK e fun a21 =>
ld1 (.i .i64) a21 w16 fun x22 =>
ncK e fun a23 =>
stN [.int .i64 x22] (a23.add 5) 0 w16 fun w24 =>
ncK e fun a25 =>
stN [.int .i64 0] (a25.add 6) 0 w24 fun w26 =>
ncK e fun a27 =>
ld1 (.i .i64) (a27.add 2) w26 fun x28 =>
ncK e fun a29 =>
stN [.int .i64 x28] (a29.add 7) 0 w26 fun w30 =>
R ((true, ()), ()) w30))
set_option maxRecDepth 100000 in
theorem ref15_Elect_Beat.eq (e : Option Addr) (w : World) (R : Value → World → Prop) : wpF Tryz.prog Tryz.f57 (.s .n (.s (.s (.pl (.tk 0 (.tk 1 (.tk 2 (.tk 3 (.tk 4 (.tk 5 (.tk 6 (.tk 7 (.tk 8 .z)))))))))) .n) (.s .n (.s (.s (.pl (.tk 0 (.tk 1 (.tk 2 (.tk 3 (.tk 4 (.tk 5 (.tk 6 (.tk 7 (.tk 8 .z)))))))))) .n) .n)))) [.pointer e] w R = ref15_Elect_Beat.wp e w (fun r w => R (encR false [(false, [.b])] r) w) := by kernel_rfl
theorem ref15_Elect_Beat.ok {e : Option Addr} {w : World} {R : TR [(false, [.b])] → World → Prop} (h : ref15_Elect_Beat.wp e w R) : clS Tryz.prog F.ref15_Elect_Beat [.pointer e] w false [(false, [.b])] R :=
  ok_of Tryz_follows Tryz.func57 (fun R => ref15_Elect_Beat.wp e w R) (ref15_Elect_Beat.eq e w) rfl h
/-! ### ref02_Next -/
set_option maxRecDepth 100000 in
def ref02_Next.wp (a : Int) (w : World) (R : TR [(false, [(.i .u16)])] → World → Prop) : Prop :=
nzK 65536 (
R ((IntKind.wrap .u16 (Int.tmod (IntKind.wrap .i64 ((IntKind.wrap .i64 a) + 1)) 65536), ()), ()) w)
set_option maxRecDepth 100000 in
theorem ref02_Next.eq (a : Int) (w : World) (R : Value → World → Prop) : wpF Tryz.prog Tryz.f58 .n [.int .u16 a] w R = ref02_Next.wp a w (fun r w => R (encR false [(false, [(.i .u16)])] r) w) := by kernel_rfl
theorem ref02_Next.ok {a : Int} {w : World} {R : TR [(false, [(.i .u16)])] → World → Prop} (h : ref02_Next.wp a w R) : clS Tryz.prog F.ref02_Next [.int .u16 a] w false [(false, [(.i .u16)])] R :=
  ok_of Tryz_follows Tryz.func58 (fun R => ref02_Next.wp a w R) (ref02_Next.eq a w) rfl h
/-! ### ref05_Good -/
set_option maxRecDepth 100000 in
def ref05_Good.wp (p0 : Int) (p1 : Int) (p2 : Int) (p3 : Int) (p4 : Int) (p5 : Int) (p6 : Int) (p7 : Int) (p8 : Int) (p9 : Int) (p10 : Int) (p11 : Int) (p12 : Int) (p13 : Int) (w : World) (R : TR [(false, [.b])] → World → Prop) : Prop :=
alK [.int .i64 p0, .int .i64 p1, .int .i64 p2, .int .i64 p3, .int .u16 p4, .int .u16 p5, .int .i64 p6, .int .i64 p7, .int .i64 p8, .int .i64 p9, .int .i64 p10, .int .i64 p11, .int .i64 p12, .int .i64 p13] T.ref05_Plain w fun p1 w2 =>
ldN [(.i .i64), (.i .i64), (.i .i64), (.i .i64), (.i .u16), (.i .u16), (.i .i64), (.i .i64), (.i .i64), (.i .i64), (.i .i64), (.i .i64), (.i .i64), (.i .i64)] p1 0 w2 fun x3 =>
clS Tryz.prog F.ref05_Fields [.agg #[.int .i64 x3.1, .int .i64 x3.2.1, .int .i64 x3.2.2.1, .int .i64 x3.2.2.2.1, .int .u16 x3.2.2.2.2.1, .int .u16 x3.2.2.2.2.2.1, .int .i64 x3.2.2.2.2.2.2.1, .int .i64 x3.2.2.2.2.2.2.2.1, .int .i64 x3.2.2.2.2.2.2.2.2.1, .int .i64 x3.2.2.2.2.2.2.2.2.2.1, .int .i64 x3.2.2.2.2.2.2.2.2.2.2.1, .int .i64 x3.2.2.2.2.2.2.2.2.2.2.2.1, .int .i64 x3.2.2.2.2.2.2.2.2.2.2.2.2.1, .int .i64 x3.2.2.2.2.2.2.2.2.2.2.2.2.2.1]] w2 false [(false, [.sl])] fun r4 w5 =>
LoopT (fun (self6 : ((Int) × Unit) → World → Prop) (z7 : (Int) × Unit) w8 => ∀ _ : Nat → Value,
brB (decide (z7.1 < (r4.1.1.2.1 : Int))) (
ixK r4.1.1.1 r4.1.1.2.1 z7.1 fun a9 =>
ldN [(.i .i64), (.i .i64), (.i .i64)] (a9.add (z7.1.toNat * 3)) 0 w8 fun x10 =>
alK [.int .i64 0, .int .i64 0, .int .i64 0] T.ref05_Field w8 fun p11 w12 =>
stN [.int .i64 x10.1, .int .i64 x10.2.1, .int .i64 x10.2.2.1] p11 0 w12 fun w13 =>
ld1 (.i .i64) (p11.add 1) w13 fun x14 =>
brB (decide (x14 < 0)) (
R ((false, ()), ()) w13) (
ld1 (.i .i64) (p11.add 1) w13 fun x15 =>
ld1 (.i .i64) (p11.add 2) w13 fun x16 =>
brB (decide (x15 > x16)) (
R ((false, ()), ()) w13) (
self6 (IntKind.wrap .i64 (z7.1 + 1), ()) w13))) (
R ((decide ((r4.1.1.2.1 : Int) > 0), ()), ()) w8)) (0, ()) w5
set_option maxRecDepth 100000 in
theorem ref05_Good.eq (p0 : Int) (p1 : Int) (p2 : Int) (p3 : Int) (p4 : Int) (p5 : Int) (p6 : Int) (p7 : Int) (p8 : Int) (p9 : Int) (p10 : Int) (p11 : Int) (p12 : Int) (p13 : Int) (w : World) (R : Value → World → Prop) : wpF Tryz.prog Tryz.f59 (.s .n (.s .n (.s (.s .n (.lp [(10, (.i .i64))] .n)) .n))) [.agg #[.int .i64 p0, .int .i64 p1, .int .i64 p2, .int .i64 p3, .int .u16 p4, .int .u16 p5, .int .i64 p6, .int .i64 p7, .int .i64 p8, .int .i64 p9, .int .i64 p10, .int .i64 p11, .int .i64 p12, .int .i64 p13]] w R = ref05_Good.wp p0 p1 p2 p3 p4 p5 p6 p7 p8 p9 p10 p11 p12 p13 w (fun r w => R (encR false [(false, [.b])] r) w) := by kernel_rfl
theorem ref05_Good.ok {p0 : Int} {p1 : Int} {p2 : Int} {p3 : Int} {p4 : Int} {p5 : Int} {p6 : Int} {p7 : Int} {p8 : Int} {p9 : Int} {p10 : Int} {p11 : Int} {p12 : Int} {p13 : Int} {w : World} {R : TR [(false, [.b])] → World → Prop} (h : ref05_Good.wp p0 p1 p2 p3 p4 p5 p6 p7 p8 p9 p10 p11 p12 p13 w R) : clS Tryz.prog F.ref05_Good [.agg #[.int .i64 p0, .int .i64 p1, .int .i64 p2, .int .i64 p3, .int .u16 p4, .int .u16 p5, .int .i64 p6, .int .i64 p7, .int .i64 p8, .int .i64 p9, .int .i64 p10, .int .i64 p11, .int .i64 p12, .int .i64 p13]] w false [(false, [.b])] R :=
  ok_of Tryz_follows Tryz.func59 (fun R => ref05_Good.wp p0 p1 p2 p3 p4 p5 p6 p7 p8 p9 p10 p11 p12 p13 w R) (ref05_Good.eq p0 p1 p2 p3 p4 p5 p6 p7 p8 p9 p10 p11 p12 p13 w) rfl h
/-! ### ref14_Of -/
set_option maxRecDepth 100000 in
def ref14_Of.wp (drift : Int) (list : Option Addr × Nat × Nat) (w : World) (R : TR [(true, [(.i .i64), (.i .i64), (.i .i64), (.i .i64), (.i .i64)]), (false, [.b])] → World → Prop) : Prop :=
alK [.int .i64 0, .int .i64 0, .int .i64 0, .int .i64 0, .int .i64 0] T.ref14_Map w fun p1 w2 =>
brB ((list.2.1 : Int) == 0) (
stN [.int .i64 0, .int .i64 0, .int .i64 0, .int .i64 0, .int .i64 0] p1 0 w2 fun w3 =>
ldN [(.i .i64), (.i .i64), (.i .i64), (.i .i64), (.i .i64)] p1 0 w3 fun x4 =>
R ((x4.1, x4.2.1, x4.2.2.1, x4.2.2.2.1, x4.2.2.2.2.1, ()), (false, ()), ()) w3) (
LoopT (fun (self5 : ((Int) × (Int) × (Int) × Unit) → World → Prop) (z6 : (Int) × (Int) × (Int) × Unit) w7 => ∀ _ : Nat → Value,
brB (decide (z6.2.2.1 < (list.2.1 : Int))) (
ixK list.1 list.2.1 z6.2.2.1 fun a8 =>
ldN [(.i .i64), (.i .i64), (.i .i64)] (a8.add (z6.2.2.1.toNat * 3)) 0 w7 fun x9 =>
alK [.int .i64 0, .int .i64 0, .int .i64 0] T.ref12_Entry w7 fun p10 w11 =>
stN [.int .i64 x9.1, .int .i64 x9.2.1, .int .i64 x9.2.2.1] p10 0 w11 fun w12 =>
ld1 (.i .i64) p10 w12 fun x13 =>
ld1 (.i .i64) (p10.add 1) w12 fun x14 =>
self5 (IntKind.wrap .i64 (z6.1 + x13), IntKind.wrap .i64 (z6.2.1 + x14), IntKind.wrap .i64 (z6.2.2.1 + 1), ()) w12) (
clS Tryz.prog F.ref01_Floor [.int .i64 z6.1, .int .i64 (list.2.1 : Int)] w7 true [(false, [(.i .i64)]), (false, [(.i .i64)])] fun r15 w16 =>
clS Tryz.prog F.ref01_Floor [.int .i64 z6.2.1, .int .i64 (list.2.1 : Int)] w16 true [(false, [(.i .i64)]), (false, [(.i .i64)])] fun r17 w18 =>
clS Tryz.prog F.ref13_Of [.int .i64 drift, .slice list.1 list.2.1 list.2.2] w18 true [(false, [(.i .i64)]), (false, [(.i .i64)])] fun r19 w20 =>
clS Tryz.prog F.ref12_Hops [.slice list.1 list.2.1 list.2.2] w20 false [(false, [(.i .i64)])] fun r21 w22 =>
stN [.int .i64 r15.1.1, .int .i64 r17.1.1, .int .i64 r19.1.1, .int .i64 r19.2.1.1, .int .i64 r21.1.1] p1 0 w22 fun w23 =>
ldN [(.i .i64), (.i .i64), (.i .i64), (.i .i64), (.i .i64)] p1 0 w23 fun x24 =>
R ((x24.1, x24.2.1, x24.2.2.1, x24.2.2.2.1, x24.2.2.2.2.1, ()), (true, ()), ()) w23)) (0, 0, 0, ()) w2)
set_option maxRecDepth 100000 in
theorem ref14_Of.eq (drift : Int) (list : Option Addr × Nat × Nat) (w : World) (R : Value → World → Prop) : wpF Tryz.prog Tryz.f60 (.s .n (.s .n (.s .n (.s .n (.s (.s .n (.lp [(7, (.i .i64)), (8, (.i .i64)), (24, (.i .i64))] .n)) .n))))) [.int .i64 drift, .slice list.1 list.2.1 list.2.2] w R = ref14_Of.wp drift list w (fun r w => R (encR true [(true, [(.i .i64), (.i .i64), (.i .i64), (.i .i64), (.i .i64)]), (false, [.b])] r) w) := by kernel_rfl
theorem ref14_Of.ok {drift : Int} {list : Option Addr × Nat × Nat} {w : World} {R : TR [(true, [(.i .i64), (.i .i64), (.i .i64), (.i .i64), (.i .i64)]), (false, [.b])] → World → Prop} (h : ref14_Of.wp drift list w R) : clS Tryz.prog F.ref14_Of [.int .i64 drift, .slice list.1 list.2.1 list.2.2] w true [(true, [(.i .i64), (.i .i64), (.i .i64), (.i .i64), (.i .i64)]), (false, [.b])] R :=
  ok_of Tryz_follows Tryz.func60 (fun R => ref14_Of.wp drift list w R) (ref14_Of.eq drift list w) rfl h
/-! ### ref14_Global -/
set_option maxRecDepth 100000 in
def ref14_Global.wp (m0 : Int) (m1 : Int) (m2 : Int) (m3 : Int) (m4 : Int) (local_ : Int) (w : World) (R : TR [(false, [(.i .i64)]), (false, [.b])] → World → Prop) : Prop :=
alK [.int .i64 m0, .int .i64 m1, .int .i64 m2, .int .i64 m3, .int .i64 m4] T.ref14_Map w fun p1 w2 =>
brB (decide (local_ < 0)) (
R ((0, ()), (false, ()), ()) w2) (
brB (decide (local_ > 1125899906842624)) (
R ((0, ()), (false, ()), ()) w2) (
ldN [(.i .i64), (.i .i64), (.i .i64), (.i .i64), (.i .i64)] p1 0 w2 fun x3 =>
clS Tryz.prog F.ref14_Raw [.agg #[.int .i64 x3.1, .int .i64 x3.2.1, .int .i64 x3.2.2.1, .int .i64 x3.2.2.2.1, .int .i64 x3.2.2.2.2.1], .int .i64 local_] w2 false [(false, [(.i .i64)])] fun r4 w5 =>
brB (decide (r4.1.1 < 0)) (
R ((0, ()), (false, ()), ()) w5) (
brB (decide (r4.1.1 > 1125899906842624)) (
R ((0, ()), (false, ()), ()) w5) (
R ((r4.1.1, ()), (true, ()), ()) w5))))
set_option maxRecDepth 100000 in
theorem ref14_Global.eq (m0 : Int) (m1 : Int) (m2 : Int) (m3 : Int) (m4 : Int) (local_ : Int) (w : World) (R : Value → World → Prop) : wpF Tryz.prog Tryz.f61 .n [.agg #[.int .i64 m0, .int .i64 m1, .int .i64 m2, .int .i64 m3, .int .i64 m4], .int .i64 local_] w R = ref14_Global.wp m0 m1 m2 m3 m4 local_ w (fun r w => R (encR true [(false, [(.i .i64)]), (false, [.b])] r) w) := by kernel_rfl
theorem ref14_Global.ok {m0 : Int} {m1 : Int} {m2 : Int} {m3 : Int} {m4 : Int} {local_ : Int} {w : World} {R : TR [(false, [(.i .i64)]), (false, [.b])] → World → Prop} (h : ref14_Global.wp m0 m1 m2 m3 m4 local_ w R) : clS Tryz.prog F.ref14_Global [.agg #[.int .i64 m0, .int .i64 m1, .int .i64 m2, .int .i64 m3, .int .i64 m4], .int .i64 local_] w true [(false, [(.i .i64)]), (false, [.b])] R :=
  ok_of Tryz_follows Tryz.func61 (fun R => ref14_Global.wp m0 m1 m2 m3 m4 local_ w R) (ref14_Global.eq m0 m1 m2 m3 m4 local_ w) rfl h
/-! ### source_flooded -/
set_option maxRecDepth 100000 in
def source_flooded.wp (f : Option Addr) (local_ : Int) (w : World) (R : TR [(true, [(.i .i64), (.i .i64), (.i .i64), (.i .u16), (.i .i64)]), (false, [(.i .i64)])] → World → Prop) : Prop :=
alK [.int .i64 0, .int .i64 0, .int .i64 0, .int .u16 0, .int .i64 0] T.source_Answer w fun p1 w2 =>
clS Tryz.prog F.flood_Flood_Time [.pointer f, .int .i64 local_] w2 true [(false, [(.i .i64)]), (false, [(.i .i64)]), (false, [(.i .i64)])] fun r3 w4 =>
brB (r3.2.2.1.1 != 0) (
stN [.int .i64 0, .int .i64 0, .int .i64 0, .int .u16 0, .int .i64 0] p1 0 w4 fun w5 =>
ldN [(.i .i64), (.i .i64), (.i .i64), (.i .u16), (.i .i64)] p1 0 w5 fun x6 =>
R ((x6.1, x6.2.1, x6.2.2.1, x6.2.2.2.1, x6.2.2.2.2.1, ()), (r3.2.2.1.1, ()), ()) w5) (
ncK f fun a7 =>
ld1 .p a7 w4 fun x8 =>
clS Tryz.prog F.elect_Elect_Mark [.pointer x8] w4 true [(true, [(.i .u16), (.i .u16)]), (false, [.b])] fun r9 w10 =>
alK [.int .u16 0, .int .u16 0] T.elect_Mark w10 fun p11 w12 =>
stN [.int .u16 r9.1.1, .int .u16 r9.1.2.1] p11 0 w12 fun w13 =>
CutT (fun (J14 : ((Addr) × Unit) → World → Prop) =>
drK w13 fun w17 =>
ncK f fun a18 =>
ld1 .p a18 w17 fun x19 =>
ld1 (.i .u16) p11 w17 fun x20 =>
(
clS Tryz.prog F.elect_Elect_Root [.pointer x19] w17 false [(false, [(.i .i64)])] fun r21 w22 =>
Hold [(8, p11, (w17.cell? p11).getD undef), (5, a18, (w17.cell? a18).getD undef)] w22 ∧ (
alK [.int .i64 0, .int .i64 0, .int .i64 0, .int .u16 0, .int .i64 0] T.source_Answer w22 fun p23 w24 =>
Hold [(8, p11, (w17.cell? p11).getD undef), (5, a18, (w17.cell? a18).getD undef)] w24 ∧ (
stN [.int .i64 r3.1.1, .int .i64 r3.2.1.1, .int .i64 r21.1.1, .int .u16 x20, .int .i64 2] p23 0 w24 fun w25 =>
Hold [] w25 ∧ (
J14 (p23, ()) w25)))) ∧ (
alK [.int .i64 0, .int .i64 0, .int .i64 0, .int .u16 0, .int .i64 0] T.source_Answer w17 fun p26 w27 =>
Hold [(8, p11, (w17.cell? p11).getD undef), (5, a18, (w17.cell? a18).getD undef)] w27 ∧ (
clS Tryz.prog F.elect_Elect_Root [.pointer x19] w27 false [(false, [(.i .i64)])] fun r28 w29 =>
Hold [(8, p11, (w17.cell? p11).getD undef)] w29 ∧ (
stN [.int .i64 r3.1.1, .int .i64 r3.2.1.1, .int .i64 r28.1.1, .int .u16 x20, .int .i64 2] p26 0 w29 fun w30 =>
Hold [] w30 ∧ (
J14 (p26, ()) w30))))) (fun (z15 : (Addr) × Unit) w16 => ∀ _ : Nat → Value,
ncK f fun a31 =>
ld1 .p a31 w16 fun x32 =>
clS Tryz.prog F.elect_Elect_Mine [.pointer x32] w16 false [(false, [.b])] fun r33 w34 =>
brB r33.1.1 (
stN [.int .i64 1] (z15.1.add 4) 0 w34 fun w35 =>
ldN [(.i .i64), (.i .i64), (.i .i64), (.i .u16), (.i .i64)] z15.1 0 w35 fun x36 =>
stN [.int .i64 x36.1, .int .i64 x36.2.1, .int .i64 x36.2.2.1, .int .u16 x36.2.2.2.1, .int .i64 x36.2.2.2.2.1] p1 0 w35 fun w37 =>
ldN [(.i .i64), (.i .i64), (.i .i64), (.i .u16), (.i .i64)] p1 0 w37 fun x38 =>
R ((x38.1, x38.2.1, x38.2.2.1, x38.2.2.2.1, x38.2.2.2.2.1, ()), (0, ()), ()) w37) (
ldN [(.i .i64), (.i .i64), (.i .i64), (.i .u16), (.i .i64)] z15.1 0 w34 fun x39 =>
stN [.int .i64 x39.1, .int .i64 x39.2.1, .int .i64 x39.2.2.1, .int .u16 x39.2.2.2.1, .int .i64 x39.2.2.2.2.1] p1 0 w34 fun w40 =>
ldN [(.i .i64), (.i .i64), (.i .i64), (.i .u16), (.i .i64)] p1 0 w40 fun x41 =>
R ((x41.1, x41.2.1, x41.2.2.1, x41.2.2.2.1, x41.2.2.2.2.1, ()), (0, ()), ()) w40)))
set_option maxRecDepth 100000 in
theorem source_flooded.eq (f : Option Addr) (local_ : Int) (w : World) (R : Value → World → Prop) : wpF Tryz.prog Tryz.f62 (.s .n (.s .n (.s .n (.s .n (.ct [(11, .a)] (.pl (.tk 0 (.tk 1 (.tk 2 (.tk 3 (.tk 4 (.tk 5 (.tk 7 (.tk 8 (.two 6 11 (.tk 9 (.tk 10 (.ef 11 [] (.ef 12 [5, 8] .z)))) (.ef 6 [5] (.tk 9 (.tk 10 (.ef 12 [8] .z)))))))))))))) .n))))) [.pointer f, .int .i64 local_] w R = source_flooded.wp f local_ w (fun r w => R (encR true [(true, [(.i .i64), (.i .i64), (.i .i64), (.i .u16), (.i .i64)]), (false, [(.i .i64)])] r) w) := by kernel_rfl
theorem source_flooded.ok {f : Option Addr} {local_ : Int} {w : World} {R : TR [(true, [(.i .i64), (.i .i64), (.i .i64), (.i .u16), (.i .i64)]), (false, [(.i .i64)])] → World → Prop} (h : source_flooded.wp f local_ w R) : clS Tryz.prog F.source_flooded [.pointer f, .int .i64 local_] w true [(true, [(.i .i64), (.i .i64), (.i .i64), (.i .u16), (.i .i64)]), (false, [(.i .i64)])] R :=
  ok_of Tryz_follows Tryz.func62 (fun R => source_flooded.wp f local_ w R) (source_flooded.eq f local_ w) rfl h
/-! ### table_Entry_Good -/
set_option maxRecDepth 100000 in
def table_Entry_Good.wp (e0 : Int) (e1 : Int) (e2 : Int) (w : World) (R : TR [(false, [.b])] → World → Prop) : Prop :=
alK [.int .i64 e0, .int .i64 e1, .int .i64 e2] T.table_Entry w fun p1 w2 =>
ld1 (.i .i64) p1 w2 fun x3 =>
brB (decide (x3 ≥ 0)) (
ld1 (.i .i64) p1 w2 fun x4 =>
brB (decide (x4 ≤ 1125899906842624)) (
ld1 (.i .i64) (p1.add 1) w2 fun x5 =>
brB (decide (x5 ≥ (Int.negSucc 1125899906842623))) (
ld1 (.i .i64) (p1.add 1) w2 fun x6 =>
brB (decide (x6 ≤ 1125899906842624)) (
ld1 (.i .i64) (p1.add 2) w2 fun x7 =>
brB (decide (x7 ≥ 1)) (
ld1 (.i .i64) (p1.add 2) w2 fun x8 =>
R ((decide (x8 ≤ 63), ()), ()) w2) (
R ((false, ()), ()) w2)) (
R ((false, ()), ()) w2)) (
R ((false, ()), ()) w2)) (
R ((false, ()), ()) w2)) (
R ((false, ()), ()) w2)
set_option maxRecDepth 100000 in
theorem table_Entry_Good.eq (e0 : Int) (e1 : Int) (e2 : Int) (w : World) (R : Value → World → Prop) : wpF Tryz.prog Tryz.f63 .n [.agg #[.int .i64 e0, .int .i64 e1, .int .i64 e2]] w R = table_Entry_Good.wp e0 e1 e2 w (fun r w => R (encR false [(false, [.b])] r) w) := by kernel_rfl
theorem table_Entry_Good.ok {e0 : Int} {e1 : Int} {e2 : Int} {w : World} {R : TR [(false, [.b])] → World → Prop} (h : table_Entry_Good.wp e0 e1 e2 w R) : clS Tryz.prog F.table_Entry_Good [.agg #[.int .i64 e0, .int .i64 e1, .int .i64 e2]] w false [(false, [.b])] R :=
  ok_of Tryz_follows Tryz.func63 (fun R => table_Entry_Good.wp e0 e1 e2 w R) (table_Entry_Good.eq e0 e1 e2 w) rfl h
/-! ### ref12_Good -/
set_option maxRecDepth 100000 in
def ref12_Good.wp (e0 : Int) (e1 : Int) (e2 : Int) (w : World) (R : TR [(false, [.b])] → World → Prop) : Prop :=
alK [.int .i64 e0, .int .i64 e1, .int .i64 e2] T.ref12_Entry w fun p1 w2 =>
ld1 (.i .i64) p1 w2 fun x3 =>
brB (decide (x3 ≥ 0)) (
ld1 (.i .i64) p1 w2 fun x4 =>
brB (decide (x4 ≤ 1125899906842624)) (
ld1 (.i .i64) (p1.add 1) w2 fun x5 =>
brB (decide (x5 ≥ (Int.negSucc 1125899906842623))) (
ld1 (.i .i64) (p1.add 1) w2 fun x6 =>
brB (decide (x6 ≤ 1125899906842624)) (
ld1 (.i .i64) (p1.add 2) w2 fun x7 =>
brB (decide (x7 ≥ 1)) (
ld1 (.i .i64) (p1.add 2) w2 fun x8 =>
R ((decide (x8 ≤ 63), ()), ()) w2) (
R ((false, ()), ()) w2)) (
R ((false, ()), ()) w2)) (
R ((false, ()), ()) w2)) (
R ((false, ()), ()) w2)) (
R ((false, ()), ()) w2)
set_option maxRecDepth 100000 in
theorem ref12_Good.eq (e0 : Int) (e1 : Int) (e2 : Int) (w : World) (R : Value → World → Prop) : wpF Tryz.prog Tryz.f64 .n [.agg #[.int .i64 e0, .int .i64 e1, .int .i64 e2]] w R = ref12_Good.wp e0 e1 e2 w (fun r w => R (encR false [(false, [.b])] r) w) := by kernel_rfl
theorem ref12_Good.ok {e0 : Int} {e1 : Int} {e2 : Int} {w : World} {R : TR [(false, [.b])] → World → Prop} (h : ref12_Good.wp e0 e1 e2 w R) : clS Tryz.prog F.ref12_Good [.agg #[.int .i64 e0, .int .i64 e1, .int .i64 e2]] w false [(false, [.b])] R :=
  ok_of Tryz_follows Tryz.func64 (fun R => ref12_Good.wp e0 e1 e2 w R) (ref12_Good.eq e0 e1 e2 w) rfl h
/-! ### elect_Elect_Issue -/
set_option maxRecDepth 100000 in
def elect_Elect_Issue.wp (e : Option Addr) (w : World) (R : TR [(true, [(.i .u16), (.i .u16)]), (false, [.b])] → World → Prop) : Prop :=
alK [.int .u16 0, .int .u16 0] T.elect_Mark w fun p1 w2 =>
clS Tryz.prog F.elect_Elect_Mine [.pointer e] w2 false [(false, [.b])] fun r3 w4 =>
brB (!r3.1.1) (
stN [.int .u16 0, .int .u16 0] p1 0 w4 fun w5 =>
ldN [(.i .u16), (.i .u16)] p1 0 w5 fun x6 =>
R ((x6.1, x6.2.1, ()), (false, ()), ()) w5) (
ncK e fun a7 =>
ld1 (.i .u16) (a7.add 4) w4 fun x8 =>
clS Tryz.prog F.wrap_Next [.int .u16 x8] w4 false [(false, [(.i .u16)])] fun r9 w10 =>
ncK e fun a11 =>
stN [.int .u16 r9.1.1] (a11.add 4) 0 w10 fun w12 =>
drK w12 fun w13 =>
ncK e fun a14 =>
ld1 (.i .u16) (a14.add 3) w13 fun x15 =>
ncK e fun a16 =>
ld1 (.i .u16) (a16.add 4) w13 fun x17 =>
stN [.int .u16 x15, .int .u16 x17] p1 0 w13 fun w18 =>
Hold [] w18 ∧ (
ldN [(.i .u16), (.i .u16)] p1 0 w18 fun x19 =>
R ((x19.1, x19.2.1, ()), (true, ()), ()) w18))
set_option maxRecDepth 100000 in
theorem elect_Elect_Issue.eq (e : Option Addr) (w : World) (R : Value → World → Prop) : wpF Tryz.prog Tryz.f65 (.s .n (.s .n (.s .n (.s (.pl (.tk 0 (.tk 1 (.tk 2 (.tk 3 (.tk 4 (.tk 5 (.tk 6 (.tk 7 (.tk 8 (.ef 9 [3, 7] (.tk 10 .z)))))))))))) .n)))) [.pointer e] w R = elect_Elect_Issue.wp e w (fun r w => R (encR true [(true, [(.i .u16), (.i .u16)]), (false, [.b])] r) w) := by kernel_rfl
theorem elect_Elect_Issue.ok {e : Option Addr} {w : World} {R : TR [(true, [(.i .u16), (.i .u16)]), (false, [.b])] → World → Prop} (h : elect_Elect_Issue.wp e w R) : clS Tryz.prog F.elect_Elect_Issue [.pointer e] w true [(true, [(.i .u16), (.i .u16)]), (false, [.b])] R :=
  ok_of Tryz_follows Tryz.func65 (fun R => elect_Elect_Issue.wp e w R) (elect_Elect_Issue.eq e w) rfl h
end Go.Proofs.YtgpgdhopmifbpaaGreat
