import Derived.Test.YtahojpppjpfjmaaGreatNm
namespace Go.Proofs.YtahojpppjpfjmaaGreat
open Go.Eng
set_option linter.unusedVariables false
/-! ### slices_AppendSeq_table_Entry_table_Entry -/
set_option maxRecDepth 100000 in
def slices_AppendSeq_table_Entry_table_Entry.wp (s : Option Addr × Nat × Nat) (seq : Value) (w : World) (R : TR [(false, [.sl])] → World → Prop) : Prop :=
alK [.slice s.1 s.2.1 s.2.2] T.sl_table_Entry w fun p1 w2 =>
RfT Tryz.prog seq [(true, [(.i .i64), (.i .i64), (.i .i64)])] w2 (fun x3 k4 w5 =>
alK [.int .i64 0, .int .i64 0, .int .i64 0] T.table_Entry w5 fun p11 w12 =>
stN [.int .i64 x3.1.1, .int .i64 x3.1.2.1, .int .i64 x3.1.2.2.1] p11 0 w12 fun w13 =>
k4 w13 fun go6 lv7 w8 =>
ld1 .sl p1 w8 fun x14 =>
ldN [(.i .i64), (.i .i64), (.i .i64)] p11 0 w8 fun x15 =>
alK [.int .i64 x15.1, .int .i64 x15.2.1, .int .i64 x15.2.2.1] T.table_Entry w8 fun p16 w17 =>
slOf ((Builtin.append_ #[T.sl_table_Entry, T.sl_table_Entry] T.sl_table_Entry #[.slice x14.1 x14.2.1 x14.2.2, .slice (some p16) 1 1]).run Tryz.prog w17) fun y18 w19 =>
stN [.slice y18.1 y18.2.1 y18.2.2] p1 0 w19 fun w20 =>
go6 w20) (fun D9 w10 =>
ld1 .sl p1 w10 fun x21 =>
tkK D9 w10 fun w22 =>
R (((x21.1, x21.2.1, x21.2.2), ()), ()) w22) []
set_option maxRecDepth 100000 in
theorem slices_AppendSeq_table_Entry_table_Entry.eq (s : Option Addr × Nat × Nat) (seq : Value) (w : World) (R : Value → World → Prop) : wpF Tryz.prog Tryz.f96 (.s .n (.s (.s .n (.rf [(true, [(.i .i64), (.i .i64), (.i .i64)])] .n .n)) .n)) [.slice s.1 s.2.1 s.2.2, seq] w R = slices_AppendSeq_table_Entry_table_Entry.wp s seq w (fun r w => R (encR false [(false, [.sl])] r) w) := by kernel_rfl
theorem slices_AppendSeq_table_Entry_table_Entry.ok {s : Option Addr × Nat × Nat} {seq : Value} {w : World} {R : TR [(false, [.sl])] → World → Prop} (h : slices_AppendSeq_table_Entry_table_Entry.wp s seq w R) : clS Tryz.prog F.slices_AppendSeq_table_Entry_table_Entry [.slice s.1 s.2.1 s.2.2, seq] w false [(false, [.sl])] R :=
  ok_of Tryz_follows Tryz.func96 (fun R => slices_AppendSeq_table_Entry_table_Entry.wp s seq w R) (slices_AppendSeq_table_Entry_table_Entry.eq s seq w) rfl h
/-! ### fix_Size -/
set_option maxRecDepth 100000 in
def fix_Size.wp (n : Int) (w : World) (R : TR [(false, [(.i .u64)])] → World → Prop) : Prop :=
brB (decide (n < 0)) (
R ((IntKind.wrap .u64 (0 - (IntKind.wrap .u64 n)), ()), ()) w) (
R ((IntKind.wrap .u64 n, ()), ()) w)
set_option maxRecDepth 100000 in
theorem fix_Size.eq (n : Int) (w : World) (R : Value → World → Prop) : wpF Tryz.prog Tryz.f97 .n [.int .i64 n] w R = fix_Size.wp n w (fun r w => R (encR false [(false, [(.i .u64)])] r) w) := by kernel_rfl
theorem fix_Size.ok {n : Int} {w : World} {R : TR [(false, [(.i .u64)])] → World → Prop} (h : fix_Size.wp n w R) : clS Tryz.prog F.fix_Size [.int .i64 n] w false [(false, [(.i .u64)])] R :=
  ok_of Tryz_follows Tryz.func97 (fun R => fix_Size.wp n w R) (fix_Size.eq n w) rfl h
/-! ### bits_Div64 -/
set_option maxRecDepth 100000 in
def bits_Div64.wp (hi : Int) (lo : Int) (y : Int) (w : World) (R : TR [(false, [(.i .u64)]), (false, [(.i .u64)])] → World → Prop) : Prop :=
brB (y == 0) (
ld1 .any ⟨0, 0, none⟩ w fun x1 =>
False) (
brB (decide (y ≤ hi)) (
ld1 .any ⟨1, 0, none⟩ w fun x2 =>
False) (
brB (hi == 0) (
drK w fun w3 =>
nzK y (
nzK y (
R ((IntKind.wrap .u64 (Int.tdiv lo y), ()), (Int.tmod lo y, ()), ()) w3))) (
clS Tryz.prog F.bits_LeadingZeros64 [.int .u64 y] w false [(false, [(.i .i64)])] fun r4 w5 =>
shK (IntKind.wrap .u64 r4.1.1) (
shK 32 (
shK (IntKind.wrap .u64 r4.1.1) (
shK (IntKind.wrap .u64 (64 - (IntKind.wrap .u64 r4.1.1))) (
shK (IntKind.wrap .u64 r4.1.1) (
shK 32 (
nzK (shrX .u64 (shlX .u64 y (IntKind.wrap .u64 r4.1.1)) 32) (
CutT (fun (J6 : ((Int) × Unit) → World → Prop) =>
LoopT (fun (self9 : ((Int) × (Int) × Unit) → World → Prop) (z10 : (Int) × (Int) × Unit) w11 => ∀ _ : Nat → Value,
CutT (fun (J12 : Unit → World → Prop) =>
brB (decide (z10.1 ≥ 4294967296)) (
J12 (()) w11) (
brB (decide ((IntKind.wrap .u64 (z10.1 * (bitsX .and .u64 (shlX .u64 y (IntKind.wrap .u64 r4.1.1)) 4294967295))) > (IntKind.wrap .u64 ((IntKind.wrap .u64 (4294967296 * z10.2.1)) + (shrX .u64 (shlX .u64 lo (IntKind.wrap .u64 r4.1.1)) 32))))) (
J12 (()) w11) (
J6 (z10.1, ()) w11))) (fun (z13 : Unit) w14 => ∀ _ : Nat → Value,
brB (decide ((IntKind.wrap .u64 (z10.2.1 + (shrX .u64 (shlX .u64 y (IntKind.wrap .u64 r4.1.1)) 32))) ≥ 4294967296)) (
J6 (IntKind.wrap .u64 (z10.1 - 1), ()) w14) (
self9 (IntKind.wrap .u64 (z10.1 - 1), IntKind.wrap .u64 (z10.2.1 + (shrX .u64 (shlX .u64 y (IntKind.wrap .u64 r4.1.1)) 32)), ()) w14))) (IntKind.wrap .u64 (Int.tdiv (bitsX .or .u64 (shlX .u64 hi (IntKind.wrap .u64 r4.1.1)) (shrX .u64 lo (IntKind.wrap .u64 (64 - (IntKind.wrap .u64 r4.1.1))))) (shrX .u64 (shlX .u64 y (IntKind.wrap .u64 r4.1.1)) 32)), IntKind.wrap .u64 ((bitsX .or .u64 (shlX .u64 hi (IntKind.wrap .u64 r4.1.1)) (shrX .u64 lo (IntKind.wrap .u64 (64 - (IntKind.wrap .u64 r4.1.1))))) - (IntKind.wrap .u64 ((IntKind.wrap .u64 (Int.tdiv (bitsX .or .u64 (shlX .u64 hi (IntKind.wrap .u64 r4.1.1)) (shrX .u64 lo (IntKind.wrap .u64 (64 - (IntKind.wrap .u64 r4.1.1))))) (shrX .u64 (shlX .u64 y (IntKind.wrap .u64 r4.1.1)) 32))) * (shrX .u64 (shlX .u64 y (IntKind.wrap .u64 r4.1.1)) 32)))), ()) w5) (fun (z7 : (Int) × Unit) w8 => ∀ _ : Nat → Value,
nzK (shrX .u64 (shlX .u64 y (IntKind.wrap .u64 r4.1.1)) 32) (
CutT (fun (J15 : ((Int) × Unit) → World → Prop) =>
LoopT (fun (self18 : ((Int) × (Int) × Unit) → World → Prop) (z19 : (Int) × (Int) × Unit) w20 => ∀ _ : Nat → Value,
CutT (fun (J21 : Unit → World → Prop) =>
brB (decide (z19.2.1 ≥ 4294967296)) (
J21 (()) w20) (
brB (decide ((IntKind.wrap .u64 (z19.2.1 * (bitsX .and .u64 (shlX .u64 y (IntKind.wrap .u64 r4.1.1)) 4294967295))) > (IntKind.wrap .u64 ((IntKind.wrap .u64 (4294967296 * z19.1)) + (bitsX .and .u64 (shlX .u64 lo (IntKind.wrap .u64 r4.1.1)) 4294967295))))) (
J21 (()) w20) (
J15 (z19.2.1, ()) w20))) (fun (z22 : Unit) w23 => ∀ _ : Nat → Value,
brB (decide ((IntKind.wrap .u64 (z19.1 + (shrX .u64 (shlX .u64 y (IntKind.wrap .u64 r4.1.1)) 32))) ≥ 4294967296)) (
J15 (IntKind.wrap .u64 (z19.2.1 - 1), ()) w23) (
self18 (IntKind.wrap .u64 (z19.1 + (shrX .u64 (shlX .u64 y (IntKind.wrap .u64 r4.1.1)) 32)), IntKind.wrap .u64 (z19.2.1 - 1), ()) w23))) (IntKind.wrap .u64 ((IntKind.wrap .u64 ((IntKind.wrap .u64 ((IntKind.wrap .u64 ((bitsX .or .u64 (shlX .u64 hi (IntKind.wrap .u64 r4.1.1)) (shrX .u64 lo (IntKind.wrap .u64 (64 - (IntKind.wrap .u64 r4.1.1))))) * 4294967296)) + (shrX .u64 (shlX .u64 lo (IntKind.wrap .u64 r4.1.1)) 32))) - (IntKind.wrap .u64 (z7.1 * (shlX .u64 y (IntKind.wrap .u64 r4.1.1)))))) - (IntKind.wrap .u64 ((IntKind.wrap .u64 (Int.tdiv (IntKind.wrap .u64 ((IntKind.wrap .u64 ((IntKind.wrap .u64 ((bitsX .or .u64 (shlX .u64 hi (IntKind.wrap .u64 r4.1.1)) (shrX .u64 lo (IntKind.wrap .u64 (64 - (IntKind.wrap .u64 r4.1.1))))) * 4294967296)) + (shrX .u64 (shlX .u64 lo (IntKind.wrap .u64 r4.1.1)) 32))) - (IntKind.wrap .u64 (z7.1 * (shlX .u64 y (IntKind.wrap .u64 r4.1.1)))))) (shrX .u64 (shlX .u64 y (IntKind.wrap .u64 r4.1.1)) 32))) * (shrX .u64 (shlX .u64 y (IntKind.wrap .u64 r4.1.1)) 32)))), IntKind.wrap .u64 (Int.tdiv (IntKind.wrap .u64 ((IntKind.wrap .u64 ((IntKind.wrap .u64 ((bitsX .or .u64 (shlX .u64 hi (IntKind.wrap .u64 r4.1.1)) (shrX .u64 lo (IntKind.wrap .u64 (64 - (IntKind.wrap .u64 r4.1.1))))) * 4294967296)) + (shrX .u64 (shlX .u64 lo (IntKind.wrap .u64 r4.1.1)) 32))) - (IntKind.wrap .u64 (z7.1 * (shlX .u64 y (IntKind.wrap .u64 r4.1.1)))))) (shrX .u64 (shlX .u64 y (IntKind.wrap .u64 r4.1.1)) 32)), ()) w8) (fun (z16 : (Int) × Unit) w17 => ∀ _ : Nat → Value,
shK (IntKind.wrap .u64 r4.1.1) (
R ((IntKind.wrap .u64 ((IntKind.wrap .u64 (z7.1 * 4294967296)) + z16.1), ()), (shrX .u64 (IntKind.wrap .u64 ((IntKind.wrap .u64 ((IntKind.wrap .u64 ((IntKind.wrap .u64 ((IntKind.wrap .u64 ((IntKind.wrap .u64 ((bitsX .or .u64 (shlX .u64 hi (IntKind.wrap .u64 r4.1.1)) (shrX .u64 lo (IntKind.wrap .u64 (64 - (IntKind.wrap .u64 r4.1.1))))) * 4294967296)) + (shrX .u64 (shlX .u64 lo (IntKind.wrap .u64 r4.1.1)) 32))) - (IntKind.wrap .u64 (z7.1 * (shlX .u64 y (IntKind.wrap .u64 r4.1.1)))))) * 4294967296)) + (bitsX .and .u64 (shlX .u64 lo (IntKind.wrap .u64 r4.1.1)) 4294967295))) - (IntKind.wrap .u64 (z16.1 * (shlX .u64 y (IntKind.wrap .u64 r4.1.1)))))) (IntKind.wrap .u64 r4.1.1), ()), ()) w17))))))))))))))
set_option maxRecDepth 100000 in
theorem bits_Div64.eq (hi : Int) (lo : Int) (y : Int) (w : World) (R : Value → World → Prop) : wpF Tryz.prog Tryz.f98 (.s .n (.s .n (.s .n (.s (.s .n (.s (.s (.pl (.tk 0 (.tk 1 (.tk 2 (.tk 3 (.tk 4 (.tk 5 (.tk 6 (.tk 7 .z))))))))) .n) .n)) (.s .n (.s .n (.s .n (.s .n (.s .n (.s .n (.s .n (.s .n (.s .n (.s .n (.ct [(15, (.i .u64))] (.lp [(15, (.i .u64)), (16, (.i .u64))] (.ct [] .n .n)) (.s .n (.s .n (.s .n (.ct [(18, (.i .u64))] (.lp [(16, (.i .u64)), (18, (.i .u64))] (.ct [] .n .n)) .n))))))))))))))))))) [.int .u64 hi, .int .u64 lo, .int .u64 y] w R = bits_Div64.wp hi lo y w (fun r w => R (encR true [(false, [(.i .u64)]), (false, [(.i .u64)])] r) w) := by kernel_rfl
theorem bits_Div64.ok {hi : Int} {lo : Int} {y : Int} {w : World} {R : TR [(false, [(.i .u64)]), (false, [(.i .u64)])] → World → Prop} (h : bits_Div64.wp hi lo y w R) : clS Tryz.prog F.bits_Div64 [.int .u64 hi, .int .u64 lo, .int .u64 y] w true [(false, [(.i .u64)]), (false, [(.i .u64)])] R :=
  ok_of Tryz_follows Tryz.func98 (fun R => bits_Div64.wp hi lo y w R) (bits_Div64.eq hi lo y w) rfl h
/-! ### ref01_Over -/
set_option maxRecDepth 100000 in
def ref01_Over.wp (w_0 : Int) (w_1 : Int) (w_2 : Int) (w_3 : Int) (c : Int) (w : World) (R : TR [(false, [(.i .u64)]), (false, [(.i .u64)]), (false, [.b])] → World → Prop) : Prop :=
alK [.int .u64 w_0, .int .u64 w_1, .int .u64 w_2, .int .u64 w_3] T.ref01_Wide w fun p1 w2 =>
LoopT (fun (self3 : ((Int) × (Int) × (Bool) × (Int) × Unit) → World → Prop) (z4 : (Int) × (Int) × (Bool) × (Int) × Unit) w5 => ∀ _ : Nat → Value,
brB (decide (z4.2.2.2.1 ≥ 0)) (
nzK 32 (
ixK (some p1) 4 (IntKind.wrap .i64 (Int.tdiv z4.2.2.2.1 32)) fun a6 =>
ld1 (.i .u64) (a6.add ((IntKind.wrap .i64 (Int.tdiv z4.2.2.2.1 32)).toNat * 1)) w5 fun x7 =>
nzK 32 (
shK (IntKind.wrap .u64 (Int.tmod z4.2.2.2.1 32)) (
CutT (fun (J8 : ((Bool) × Unit) → World → Prop) =>
brB (decide (z4.1 ≥ 9223372036854775808)) (
J8 (false, ()) w5) (
J8 (z4.2.2.1, ()) w5)) (fun (z9 : (Bool) × Unit) w10 => ∀ _ : Nat → Value,
brB (decide ((IntKind.wrap .u64 ((IntKind.wrap .u64 (2 * z4.2.1)) + (bitsX .and .u64 (shrX .u64 x7 (IntKind.wrap .u64 (Int.tmod z4.2.2.2.1 32))) 1))) ≥ c)) (
self3 (IntKind.wrap .u64 ((IntKind.wrap .u64 (2 * z4.1)) + 1), IntKind.wrap .u64 ((IntKind.wrap .u64 ((IntKind.wrap .u64 (2 * z4.2.1)) + (bitsX .and .u64 (shrX .u64 x7 (IntKind.wrap .u64 (Int.tmod z4.2.2.2.1 32))) 1))) - c), z9.1, IntKind.wrap .i64 (z4.2.2.2.1 - 1), ()) w10) (
self3 (IntKind.wrap .u64 (2 * z4.1), IntKind.wrap .u64 ((IntKind.wrap .u64 (2 * z4.2.1)) + (bitsX .and .u64 (shrX .u64 x7 (IntKind.wrap .u64 (Int.tmod z4.2.2.2.1 32))) 1)), z9.1, IntKind.wrap .i64 (z4.2.2.2.1 - 1), ()) w10)))))) (
R ((z4.1, ()), (z4.2.1, ()), (z4.2.2.1, ()), ()) w5)) (0, 0, true, 127, ()) w2
set_option maxRecDepth 100000 in
theorem ref01_Over.eq (w_0 : Int) (w_1 : Int) (w_2 : Int) (w_3 : Int) (c : Int) (w : World) (R : Value → World → Prop) : wpF Tryz.prog Tryz.f99 (.s .n (.s .n (.s .n (.s .n (.s (.s .n (.lp [(7, (.i .u64)), (8, (.i .u64)), (9, .b), (10, (.i .i64))] (.s .n (.s (.s .n (.ct [(9, .b)] .n .n)) .n)))) .n))))) [.agg #[.int .u64 w_0, .int .u64 w_1, .int .u64 w_2, .int .u64 w_3], .int .u64 c] w R = ref01_Over.wp w_0 w_1 w_2 w_3 c w (fun r w => R (encR true [(false, [(.i .u64)]), (false, [(.i .u64)]), (false, [.b])] r) w) := by kernel_rfl
theorem ref01_Over.ok {w_0 : Int} {w_1 : Int} {w_2 : Int} {w_3 : Int} {c : Int} {w : World} {R : TR [(false, [(.i .u64)]), (false, [(.i .u64)]), (false, [.b])] → World → Prop} (h : ref01_Over.wp w_0 w_1 w_2 w_3 c w R) : clS Tryz.prog F.ref01_Over [.agg #[.int .u64 w_0, .int .u64 w_1, .int .u64 w_2, .int .u64 w_3], .int .u64 c] w true [(false, [(.i .u64)]), (false, [(.i .u64)]), (false, [.b])] R :=
  ok_of Tryz_follows Tryz.func99 (fun R => ref01_Over.wp w_0 w_1 w_2 w_3 c w R) (ref01_Over.eq w_0 w_1 w_2 w_3 c w) rfl h
/-! ### ref01_Times -/
set_option maxRecDepth 100000 in
def ref01_Times.wp (a : Int) (b : Int) (w : World) (R : TR [(true, [(.i .u64), (.i .u64), (.i .u64), (.i .u64)])] → World → Prop) : Prop :=
alK [.int .u64 0, .int .u64 0, .int .u64 0, .int .u64 0] T.ref01_Wide w fun p1 w2 =>
shK 32 (
alK [.int .u64 0, .int .u64 0] T.a2_uint64 w2 fun p3 w4 =>
stN [.int .u64 (bitsX .and .u64 a 4294967295), .int .u64 (shrX .u64 a 32)] p3 0 w4 fun w5 =>
shK 32 (
alK [.int .u64 0, .int .u64 0] T.a2_uint64 w5 fun p6 w7 =>
stN [.int .u64 (bitsX .and .u64 b 4294967295), .int .u64 (shrX .u64 b 32)] p6 0 w7 fun w8 =>
alK [.int .u64 0, .int .u64 0, .int .u64 0, .int .u64 0] T.ref01_Wide w8 fun p9 w10 =>
LoopT (fun (self11 : ((Int) × Unit) → World → Prop) (z12 : (Int) × Unit) w13 => ∀ _ : Nat → Value,
brB (decide (z12.1 < 2)) (
LoopT (fun (self14 : ((Int) × (Int) × Unit) → World → Prop) (z15 : (Int) × (Int) × Unit) w16 => ∀ _ : Nat → Value,
brB (decide (z15.2.1 < 2)) (
drK w16 fun w17 =>
ixK (some p9) 4 (IntKind.wrap .i64 (z12.1 + z15.2.1)) fun a18 =>
ld1 (.i .u64) (a18.add ((IntKind.wrap .i64 (z12.1 + z15.2.1)).toNat * 1)) w17 fun x19 =>
ixK (some p3) 2 z12.1 fun a20 =>
ld1 (.i .u64) (a20.add (z12.1.toNat * 1)) w17 fun x21 =>
ixK (some p6) 2 z15.2.1 fun a22 =>
ld1 (.i .u64) (a22.add (z15.2.1.toNat * 1)) w17 fun x23 =>
ixK (some p9) 4 (IntKind.wrap .i64 (z12.1 + z15.2.1)) fun a24 =>
stN [.int .u64 (bitsX .and .u64 (IntKind.wrap .u64 ((IntKind.wrap .u64 (x19 + (IntKind.wrap .u64 (x21 * x23)))) + z15.1)) 4294967295)] (a24.add ((IntKind.wrap .i64 (z12.1 + z15.2.1)).toNat * 1)) 0 w17 fun w25 =>
shK 32 (
self14 (shrX .u64 (IntKind.wrap .u64 ((IntKind.wrap .u64 (x19 + (IntKind.wrap .u64 (x21 * x23)))) + z15.1)) 32, IntKind.wrap .i64 (z15.2.1 + 1), ()) w25)) (
ixK (some p9) 4 (IntKind.wrap .i64 (z12.1 + 2)) fun a26 =>
ld1 (.i .u64) (a26.add ((IntKind.wrap .i64 (z12.1 + 2)).toNat * 1)) w16 fun x27 =>
ixK (some p9) 4 (IntKind.wrap .i64 (z12.1 + 2)) fun a28 =>
stN [.int .u64 (IntKind.wrap .u64 (x27 + z15.1))] (a28.add ((IntKind.wrap .i64 (z12.1 + 2)).toNat * 1)) 0 w16 fun w29 =>
self11 (IntKind.wrap .i64 (z12.1 + 1), ()) w29)) (0, 0, ()) w13) (
ldN [(.i .u64), (.i .u64), (.i .u64), (.i .u64)] p9 0 w13 fun x30 =>
stN [.int .u64 x30.1, .int .u64 x30.2.1, .int .u64 x30.2.2.1, .int .u64 x30.2.2.2.1] p1 0 w13 fun w31 =>
ldN [(.i .u64), (.i .u64), (.i .u64), (.i .u64)] p1 0 w31 fun x32 =>
R ((x32.1, x32.2.1, x32.2.2.1, x32.2.2.2.1, ()), ()) w31)) (0, ()) w10))
set_option maxRecDepth 100000 in
theorem ref01_Times.eq (a : Int) (b : Int) (w : World) (R : Value → World → Prop) : wpF Tryz.prog Tryz.f100 (.s .n (.s .n (.s .n (.s .n (.s (.s .n (.lp [(8, (.i .i64))] (.s .n (.s (.s .n (.s (.s .n (.lp [(9, (.i .u64)), (10, (.i .i64))] (.s .n (.s (.s (.pl (.tk 0 (.tk 1 (.tk 2 (.tk 3 (.tk 4 (.tk 5 (.tk 6 (.tk 7 (.tk 8 (.tk 9 (.tk 10 (.tk 11 (.tk 12 (.tk 13 (.tk 14 (.tk 15 .z))))))))))))))))) .n) .n)))) .n)) .n)))) .n))))) [.int .u64 a, .int .u64 b] w R = ref01_Times.wp a b w (fun r w => R (encR false [(true, [(.i .u64), (.i .u64), (.i .u64), (.i .u64)])] r) w) := by kernel_rfl
theorem ref01_Times.ok {a : Int} {b : Int} {w : World} {R : TR [(true, [(.i .u64), (.i .u64), (.i .u64), (.i .u64)])] → World → Prop} (h : ref01_Times.wp a b w R) : clS Tryz.prog F.ref01_Times [.int .u64 a, .int .u64 b] w false [(true, [(.i .u64), (.i .u64), (.i .u64), (.i .u64)])] R :=
  ok_of Tryz_follows Tryz.func100 (fun R => ref01_Times.wp a b w R) (ref01_Times.eq a b w) rfl h
/-! ### ref01_Size -/
set_option maxRecDepth 100000 in
def ref01_Size.wp (n : Int) (w : World) (R : TR [(false, [(.i .u64)])] → World → Prop) : Prop :=
brB (decide (n ≥ 0)) (
R ((IntKind.wrap .u64 n, ()), ()) w) (
R ((IntKind.wrap .u64 ((IntKind.wrap .u64 (IntKind.wrap .i64 (0 - (IntKind.wrap .i64 (n + 1))))) + 1), ()), ()) w)
set_option maxRecDepth 100000 in
theorem ref01_Size.eq (n : Int) (w : World) (R : Value → World → Prop) : wpF Tryz.prog Tryz.f101 .n [.int .i64 n] w R = ref01_Size.wp n w (fun r w => R (encR false [(false, [(.i .u64)])] r) w) := by kernel_rfl
theorem ref01_Size.ok {n : Int} {w : World} {R : TR [(false, [(.i .u64)])] → World → Prop} (h : ref01_Size.wp n w R) : clS Tryz.prog F.ref01_Size [.int .i64 n] w false [(false, [(.i .u64)])] R :=
  ok_of Tryz_follows Tryz.func101 (fun R => ref01_Size.wp n w R) (ref01_Size.eq n w) rfl h
/-! ### bits_LeadingZeros64 -/
set_option maxRecDepth 100000 in
def bits_LeadingZeros64.wp (x : Int) (w : World) (R : TR [(false, [(.i .i64)])] → World → Prop) : Prop :=
clS Tryz.prog F.bits_Len64 [.int .u64 x] w false [(false, [(.i .i64)])] fun r1 w2 =>
R ((IntKind.wrap .i64 (64 - r1.1.1), ()), ()) w2
set_option maxRecDepth 100000 in
theorem bits_LeadingZeros64.eq (x : Int) (w : World) (R : Value → World → Prop) : wpF Tryz.prog Tryz.f102 .n [.int .u64 x] w R = bits_LeadingZeros64.wp x w (fun r w => R (encR false [(false, [(.i .i64)])] r) w) := by kernel_rfl
theorem bits_LeadingZeros64.ok {x : Int} {w : World} {R : TR [(false, [(.i .i64)])] → World → Prop} (h : bits_LeadingZeros64.wp x w R) : clS Tryz.prog F.bits_LeadingZeros64 [.int .u64 x] w false [(false, [(.i .i64)])] R :=
  ok_of Tryz_follows Tryz.func102 (fun R => bits_LeadingZeros64.wp x w R) (bits_LeadingZeros64.eq x w) rfl h
/-! ### bits_Len64 -/
set_option maxRecDepth 100000 in
def bits_Len64.wp (x : Int) (w : World) (R : TR [(false, [(.i .i64)])] → World → Prop) : Prop :=
CutT (fun (J1 : ((Int) × (Int) × Unit) → World → Prop) =>
brB (decide (x ≥ 4294967296)) (
shK 32 (
J1 (shrX .u64 x 32, 32, ()) w)) (
J1 (x, 0, ()) w)) (fun (z2 : (Int) × (Int) × Unit) w3 => ∀ _ : Nat → Value,
CutT (fun (J4 : ((Int) × (Int) × Unit) → World → Prop) =>
brB (decide (z2.1 ≥ 65536)) (
shK 16 (
J4 (shrX .u64 z2.1 16, IntKind.wrap .i64 (z2.2.1 + 16), ()) w3)) (
J4 (z2.1, z2.2.1, ()) w3)) (fun (z5 : (Int) × (Int) × Unit) w6 => ∀ _ : Nat → Value,
CutT (fun (J7 : ((Int) × (Int) × Unit) → World → Prop) =>
brB (decide (z5.1 ≥ 256)) (
shK 8 (
J7 (shrX .u64 z5.1 8, IntKind.wrap .i64 (z5.2.1 + 8), ()) w6)) (
J7 (z5.1, z5.2.1, ()) w6)) (fun (z8 : (Int) × (Int) × Unit) w9 => ∀ _ : Nat → Value,
siK ⟨#[0, 1, 2, 2, 3, 3, 3, 3, 4, 4, 4, 4, 4, 4, 4, 4, 5, 5, 5, 5, 5, 5, 5, 5, 5, 5, 5, 5, 5, 5, 5, 5, 6, 6, 6, 6, 6, 6, 6, 6, 6, 6, 6, 6, 6, 6, 6, 6, 6, 6, 6, 6, 6, 6, 6, 6, 6, 6, 6, 6, 6, 6, 6, 6, 7, 7, 7, 7, 7, 7, 7, 7, 7, 7, 7, 7, 7, 7, 7, 7, 7, 7, 7, 7, 7, 7, 7, 7, 7, 7, 7, 7, 7, 7, 7, 7, 7, 7, 7, 7, 7, 7, 7, 7, 7, 7, 7, 7, 7, 7, 7, 7, 7, 7, 7, 7, 7, 7, 7, 7, 7, 7, 7, 7, 7, 7, 7, 7, 8, 8, 8, 8, 8, 8, 8, 8, 8, 8, 8, 8, 8, 8, 8, 8, 8, 8, 8, 8, 8, 8, 8, 8, 8, 8, 8, 8, 8, 8, 8, 8, 8, 8, 8, 8, 8, 8, 8, 8, 8, 8, 8, 8, 8, 8, 8, 8, 8, 8, 8, 8, 8, 8, 8, 8, 8, 8, 8, 8, 8, 8, 8, 8, 8, 8, 8, 8, 8, 8, 8, 8, 8, 8, 8, 8, 8, 8, 8, 8, 8, 8, 8, 8, 8, 8, 8, 8, 8, 8, 8, 8, 8, 8, 8, 8, 8, 8, 8, 8, 8, 8, 8, 8, 8, 8, 8, 8, 8, 8, 8, 8, 8, 8, 8, 8, 8, 8, 8, 8, 8, 8, 8, 8, 8, 8, 8, 8]⟩ (IntKind.wrap .u8 z8.1) fun c10 =>
R ((IntKind.wrap .i64 (z8.2.1 + (IntKind.wrap .i64 c10)), ()), ()) w9)))
set_option maxRecDepth 100000 in
theorem bits_Len64.eq (x : Int) (w : World) (R : Value → World → Prop) : wpF Tryz.prog Tryz.f103 (.s .n (.ct [(0, (.i .u64)), (2, (.i .i64))] .n (.ct [(0, (.i .u64)), (2, (.i .i64))] .n (.ct [(0, (.i .u64)), (2, (.i .i64))] .n .n)))) [.int .u64 x] w R = bits_Len64.wp x w (fun r w => R (encR false [(false, [(.i .i64)])] r) w) := by kernel_rfl
theorem bits_Len64.ok {x : Int} {w : World} {R : TR [(false, [(.i .i64)])] → World → Prop} (h : bits_Len64.wp x w R) : clS Tryz.prog F.bits_Len64 [.int .u64 x] w false [(false, [(.i .i64)])] R :=
  ok_of Tryz_follows Tryz.func103 (fun R => bits_Len64.wp x w R) (bits_Len64.eq x w) rfl h
/-! ### frame_Sync_fields -/
set_option maxRecDepth 100000 in
def frame_Sync_fields.wp (f0 : Int) (f1 : Int) (f2 : Int) (f3 : Int) (f4 : Int) (f5 : Int) (w : World) (R : TR [(false, [.sl])] → World → Prop) : Prop :=
alK [.int .i64 f0, .int .i64 f1, .int .u16 f2, .int .u16 f3, .int .i64 f4, .int .i64 f5] T.frame_Sync w fun p1 w2 =>
drK w2 fun w3 =>
ld1 (.i .i64) p1 w3 fun x4 =>
ld1 (.i .i64) (p1.add 1) w3 fun x5 =>
ld1 (.i .u16) (p1.add 2) w3 fun x6 =>
ld1 (.i .u16) (p1.add 3) w3 fun x7 =>
ld1 (.i .i64) (p1.add 4) w3 fun x8 =>
ld1 (.i .i64) (p1.add 5) w3 fun x9 =>
clS Tryz.prog F.frame_node [.int .i64 x4] w3 false [(true, [(.i .i64), (.i .i64), (.i .i64)])] fun r10 w11 =>
Hold [(16, (p1.add 5), (w3.cell? (p1.add 5)).getD undef), (13, (p1.add 4), (w3.cell? (p1.add 4)).getD undef), (10, (p1.add 3), (w3.cell? (p1.add 3)).getD undef), (7, (p1.add 2), (w3.cell? (p1.add 2)).getD undef), (4, (p1.add 1), (w3.cell? (p1.add 1)).getD undef), (1, p1, (w3.cell? p1).getD undef)] w11 ∧ (
clS Tryz.prog F.frame_node [.int .i64 x5] w11 false [(true, [(.i .i64), (.i .i64), (.i .i64)])] fun r12 w13 =>
Hold [(16, (p1.add 5), (w3.cell? (p1.add 5)).getD undef), (13, (p1.add 4), (w3.cell? (p1.add 4)).getD undef), (10, (p1.add 3), (w3.cell? (p1.add 3)).getD undef), (7, (p1.add 2), (w3.cell? (p1.add 2)).getD undef), (4, (p1.add 1), (w3.cell? (p1.add 1)).getD undef), (1, p1, (w3.cell? p1).getD undef)] w13 ∧ (
clS Tryz.prog F.frame_short [.int .u16 x6] w13 false [(true, [(.i .i64), (.i .i64), (.i .i64)])] fun r14 w15 =>
Hold [(16, (p1.add 5), (w3.cell? (p1.add 5)).getD undef), (13, (p1.add 4), (w3.cell? (p1.add 4)).getD undef), (10, (p1.add 3), (w3.cell? (p1.add 3)).getD undef), (7, (p1.add 2), (w3.cell? (p1.add 2)).getD undef), (4, (p1.add 1), (w3.cell? (p1.add 1)).getD undef), (1, p1, (w3.cell? p1).getD undef)] w15 ∧ (
clS Tryz.prog F.frame_short [.int .u16 x7] w15 false [(true, [(.i .i64), (.i .i64), (.i .i64)])] fun r16 w17 =>
Hold [(16, (p1.add 5), (w3.cell? (p1.add 5)).getD undef), (13, (p1.add 4), (w3.cell? (p1.add 4)).getD undef), (10, (p1.add 3), (w3.cell? (p1.add 3)).getD undef), (7, (p1.add 2), (w3.cell? (p1.add 2)).getD undef), (4, (p1.add 1), (w3.cell? (p1.add 1)).getD undef), (1, p1, (w3.cell? p1).getD undef)] w17 ∧ (
clS Tryz.prog F.frame_hops [.int .i64 x8] w17 false [(true, [(.i .i64), (.i .i64), (.i .i64)])] fun r18 w19 =>
Hold [(16, (p1.add 5), (w3.cell? (p1.add 5)).getD undef), (13, (p1.add 4), (w3.cell? (p1.add 4)).getD undef), (10, (p1.add 3), (w3.cell? (p1.add 3)).getD undef), (7, (p1.add 2), (w3.cell? (p1.add 2)).getD undef), (4, (p1.add 1), (w3.cell? (p1.add 1)).getD undef), (1, p1, (w3.cell? p1).getD undef)] w19 ∧ (
clS Tryz.prog F.frame_time [.int .i64 x9] w19 false [(true, [(.i .i64), (.i .i64), (.i .i64)])] fun r20 w21 =>
Hold [(16, (p1.add 5), (w3.cell? (p1.add 5)).getD undef), (13, (p1.add 4), (w3.cell? (p1.add 4)).getD undef), (10, (p1.add 3), (w3.cell? (p1.add 3)).getD undef), (7, (p1.add 2), (w3.cell? (p1.add 2)).getD undef), (4, (p1.add 1), (w3.cell? (p1.add 1)).getD undef), (1, p1, (w3.cell? p1).getD undef)] w21 ∧ (
alK [.int .i64 r10.1.1, .int .i64 r10.1.2.1, .int .i64 r10.1.2.2.1, .int .i64 r12.1.1, .int .i64 r12.1.2.1, .int .i64 r12.1.2.2.1, .int .i64 r14.1.1, .int .i64 r14.1.2.1, .int .i64 r14.1.2.2.1, .int .i64 r16.1.1, .int .i64 r16.1.2.1, .int .i64 r16.1.2.2.1, .int .i64 r18.1.1, .int .i64 r18.1.2.1, .int .i64 r18.1.2.2.1, .int .i64 r20.1.1, .int .i64 r20.1.2.1, .int .i64 r20.1.2.2.1] T.frame_field w21 fun p22 w23 =>
Hold [(16, (p1.add 5), (w3.cell? (p1.add 5)).getD undef), (13, (p1.add 4), (w3.cell? (p1.add 4)).getD undef), (10, (p1.add 3), (w3.cell? (p1.add 3)).getD undef), (7, (p1.add 2), (w3.cell? (p1.add 2)).getD undef), (4, (p1.add 1), (w3.cell? (p1.add 1)).getD undef), (1, p1, (w3.cell? p1).getD undef)] w23 ∧ (
R (((some p22, 6, 6), ()), ()) w23)))))))
set_option maxRecDepth 100000 in
theorem frame_Sync_fields.eq (f0 : Int) (f1 : Int) (f2 : Int) (f3 : Int) (f4 : Int) (f5 : Int) (w : World) (R : Value → World → Prop) : wpF Tryz.prog Tryz.f120 (.s .n (.s (.pl (.tk 0 (.tk 1 (.tk 3 (.tk 4 (.tk 6 (.tk 7 (.tk 9 (.tk 10 (.tk 12 (.tk 13 (.tk 15 (.tk 16 (.ef 2 [] (.ef 5 [] (.ef 8 [] (.ef 11 [] (.ef 14 [] (.ef 17 [] (.ef 18 [] (.tk 19 .z))))))))))))))))))))) .n)) [.agg #[.int .i64 f0, .int .i64 f1, .int .u16 f2, .int .u16 f3, .int .i64 f4, .int .i64 f5]] w R = frame_Sync_fields.wp f0 f1 f2 f3 f4 f5 w (fun r w => R (encR false [(false, [.sl])] r) w) := by kernel_rfl
theorem frame_Sync_fields.ok {f0 : Int} {f1 : Int} {f2 : Int} {f3 : Int} {f4 : Int} {f5 : Int} {w : World} {R : TR [(false, [.sl])] → World → Prop} (h : frame_Sync_fields.wp f0 f1 f2 f3 f4 f5 w R) : clS Tryz.prog F.frame_Sync_fields [.agg #[.int .i64 f0, .int .i64 f1, .int .u16 f2, .int .u16 f3, .int .i64 f4, .int .i64 f5]] w false [(false, [.sl])] R :=
  ok_of Tryz_follows Tryz.func120 (fun R => frame_Sync_fields.wp f0 f1 f2 f3 f4 f5 w R) (frame_Sync_fields.eq f0 f1 f2 f3 f4 f5 w) rfl h
/-! ### frame_node -/
set_option maxRecDepth 100000 in
def frame_node.wp (n : Int) (w : World) (R : TR [(true, [(.i .i64), (.i .i64), (.i .i64)])] → World → Prop) : Prop :=
alK [.int .i64 0, .int .i64 0, .int .i64 0] T.frame_field w fun p1 w2 =>
stN [.int .i64 1, .int .i64 n, .int .i64 63] p1 0 w2 fun w3 =>
ldN [(.i .i64), (.i .i64), (.i .i64)] p1 0 w3 fun x4 =>
R ((x4.1, x4.2.1, x4.2.2.1, ()), ()) w3
set_option maxRecDepth 100000 in
theorem frame_node.eq (n : Int) (w : World) (R : Value → World → Prop) : wpF Tryz.prog Tryz.f121 .n [.int .i64 n] w R = frame_node.wp n w (fun r w => R (encR false [(true, [(.i .i64), (.i .i64), (.i .i64)])] r) w) := by kernel_rfl
theorem frame_node.ok {n : Int} {w : World} {R : TR [(true, [(.i .i64), (.i .i64), (.i .i64)])] → World → Prop} (h : frame_node.wp n w R) : clS Tryz.prog F.frame_node [.int .i64 n] w false [(true, [(.i .i64), (.i .i64), (.i .i64)])] R :=
  ok_of Tryz_follows Tryz.func121 (fun R => frame_node.wp n w R) (frame_node.eq n w) rfl h
/-! ### frame_short -/
set_option maxRecDepth 100000 in
def frame_short.wp (n : Int) (w : World) (R : TR [(true, [(.i .i64), (.i .i64), (.i .i64)])] → World → Prop) : Prop :=
alK [.int .i64 0, .int .i64 0, .int .i64 0] T.frame_field w fun p1 w2 =>
stN [.int .i64 2, .int .i64 (IntKind.wrap .i64 n), .int .i64 65535] p1 0 w2 fun w3 =>
ldN [(.i .i64), (.i .i64), (.i .i64)] p1 0 w3 fun x4 =>
R ((x4.1, x4.2.1, x4.2.2.1, ()), ()) w3
set_option maxRecDepth 100000 in
theorem frame_short.eq (n : Int) (w : World) (R : Value → World → Prop) : wpF Tryz.prog Tryz.f122 .n [.int .u16 n] w R = frame_short.wp n w (fun r w => R (encR false [(true, [(.i .i64), (.i .i64), (.i .i64)])] r) w) := by kernel_rfl
theorem frame_short.ok {n : Int} {w : World} {R : TR [(true, [(.i .i64), (.i .i64), (.i .i64)])] → World → Prop} (h : frame_short.wp n w R) : clS Tryz.prog F.frame_short [.int .u16 n] w false [(true, [(.i .i64), (.i .i64), (.i .i64)])] R :=
  ok_of Tryz_follows Tryz.func122 (fun R => frame_short.wp n w R) (frame_short.eq n w) rfl h
/-! ### frame_hops -/
set_option maxRecDepth 100000 in
def frame_hops.wp (n : Int) (w : World) (R : TR [(true, [(.i .i64), (.i .i64), (.i .i64)])] → World → Prop) : Prop :=
alK [.int .i64 0, .int .i64 0, .int .i64 0] T.frame_field w fun p1 w2 =>
stN [.int .i64 1, .int .i64 n, .int .i64 63] p1 0 w2 fun w3 =>
ldN [(.i .i64), (.i .i64), (.i .i64)] p1 0 w3 fun x4 =>
R ((x4.1, x4.2.1, x4.2.2.1, ()), ()) w3
set_option maxRecDepth 100000 in
theorem frame_hops.eq (n : Int) (w : World) (R : Value → World → Prop) : wpF Tryz.prog Tryz.f123 .n [.int .i64 n] w R = frame_hops.wp n w (fun r w => R (encR false [(true, [(.i .i64), (.i .i64), (.i .i64)])] r) w) := by kernel_rfl
theorem frame_hops.ok {n : Int} {w : World} {R : TR [(true, [(.i .i64), (.i .i64), (.i .i64)])] → World → Prop} (h : frame_hops.wp n w R) : clS Tryz.prog F.frame_hops [.int .i64 n] w false [(true, [(.i .i64), (.i .i64), (.i .i64)])] R :=
  ok_of Tryz_follows Tryz.func123 (fun R => frame_hops.wp n w R) (frame_hops.eq n w) rfl h
/-! ### frame_time -/
set_option maxRecDepth 100000 in
def frame_time.wp (n : Int) (w : World) (R : TR [(true, [(.i .i64), (.i .i64), (.i .i64)])] → World → Prop) : Prop :=
alK [.int .i64 0, .int .i64 0, .int .i64 0] T.frame_field w fun p1 w2 =>
stN [.int .i64 8, .int .i64 n, .int .i64 1125899906842624] p1 0 w2 fun w3 =>
ldN [(.i .i64), (.i .i64), (.i .i64)] p1 0 w3 fun x4 =>
R ((x4.1, x4.2.1, x4.2.2.1, ()), ()) w3
set_option maxRecDepth 100000 in
theorem frame_time.eq (n : Int) (w : World) (R : Value → World → Prop) : wpF Tryz.prog Tryz.f124 .n [.int .i64 n] w R = frame_time.wp n w (fun r w => R (encR false [(true, [(.i .i64), (.i .i64), (.i .i64)])] r) w) := by kernel_rfl
theorem frame_time.ok {n : Int} {w : World} {R : TR [(true, [(.i .i64), (.i .i64), (.i .i64)])] → World → Prop} (h : frame_time.wp n w R) : clS Tryz.prog F.frame_time [.int .i64 n] w false [(true, [(.i .i64), (.i .i64), (.i .i64)])] R :=
  ok_of Tryz_follows Tryz.func124 (fun R => frame_time.wp n w R) (frame_time.eq n w) rfl h
/-! ### frame_Find_fields -/
set_option maxRecDepth 100000 in
def frame_Find_fields.wp (f0 : Int) (f1 : Int) (w : World) (R : TR [(false, [.sl])] → World → Prop) : Prop :=
alK [.int .i64 f0, .int .i64 f1] T.frame_Find w fun p1 w2 =>
drK w2 fun w3 =>
ld1 (.i .i64) p1 w3 fun x4 =>
ld1 (.i .i64) (p1.add 1) w3 fun x5 =>
clS Tryz.prog F.frame_node [.int .i64 x4] w3 false [(true, [(.i .i64), (.i .i64), (.i .i64)])] fun r6 w7 =>
Hold [(4, (p1.add 1), (w3.cell? (p1.add 1)).getD undef), (1, p1, (w3.cell? p1).getD undef)] w7 ∧ (
clS Tryz.prog F.frame_hops [.int .i64 x5] w7 false [(true, [(.i .i64), (.i .i64), (.i .i64)])] fun r8 w9 =>
Hold [(4, (p1.add 1), (w3.cell? (p1.add 1)).getD undef), (1, p1, (w3.cell? p1).getD undef)] w9 ∧ (
alK [.int .i64 r6.1.1, .int .i64 r6.1.2.1, .int .i64 r6.1.2.2.1, .int .i64 r8.1.1, .int .i64 r8.1.2.1, .int .i64 r8.1.2.2.1] T.frame_field w9 fun p10 w11 =>
Hold [(4, (p1.add 1), (w3.cell? (p1.add 1)).getD undef), (1, p1, (w3.cell? p1).getD undef)] w11 ∧ (
R (((some p10, 2, 2), ()), ()) w11)))
set_option maxRecDepth 100000 in
theorem frame_Find_fields.eq (f0 : Int) (f1 : Int) (w : World) (R : Value → World → Prop) : wpF Tryz.prog Tryz.f127 (.s .n (.s (.pl (.tk 0 (.tk 1 (.tk 3 (.tk 4 (.ef 2 [] (.ef 5 [] (.ef 6 [] (.tk 7 .z))))))))) .n)) [.agg #[.int .i64 f0, .int .i64 f1]] w R = frame_Find_fields.wp f0 f1 w (fun r w => R (encR false [(false, [.sl])] r) w) := by kernel_rfl
theorem frame_Find_fields.ok {f0 : Int} {f1 : Int} {w : World} {R : TR [(false, [.sl])] → World → Prop} (h : frame_Find_fields.wp f0 f1 w R) : clS Tryz.prog F.frame_Find_fields [.agg #[.int .i64 f0, .int .i64 f1]] w false [(false, [.sl])] R :=
  ok_of Tryz_follows Tryz.func127 (fun R => frame_Find_fields.wp f0 f1 w R) (frame_Find_fields.eq f0 f1 w) rfl h
/-! ### frame_Want_fields -/
set_option maxRecDepth 100000 in
def frame_Want_fields.wp (f0 : Int) (w : World) (R : TR [(false, [.sl])] → World → Prop) : Prop :=
alK [.int .i64 f0] T.frame_Want w fun p1 w2 =>
ld1 (.i .i64) p1 w2 fun x3 =>
clS Tryz.prog F.frame_node [.int .i64 x3] w2 false [(true, [(.i .i64), (.i .i64), (.i .i64)])] fun r4 w5 =>
alK [.int .i64 r4.1.1, .int .i64 r4.1.2.1, .int .i64 r4.1.2.2.1] T.frame_field w5 fun p6 w7 =>
R (((some p6, 1, 1), ()), ()) w7
set_option maxRecDepth 100000 in
theorem frame_Want_fields.eq (f0 : Int) (w : World) (R : Value → World → Prop) : wpF Tryz.prog Tryz.f129 .n [.agg #[.int .i64 f0]] w R = frame_Want_fields.wp f0 w (fun r w => R (encR false [(false, [.sl])] r) w) := by kernel_rfl
theorem frame_Want_fields.ok {f0 : Int} {w : World} {R : TR [(false, [.sl])] → World → Prop} (h : frame_Want_fields.wp f0 w R) : clS Tryz.prog F.frame_Want_fields [.agg #[.int .i64 f0]] w false [(false, [.sl])] R :=
  ok_of Tryz_follows Tryz.func129 (fun R => frame_Want_fields.wp f0 w R) (frame_Want_fields.eq f0 w) rfl h
/-! ### frame_Pulse_fields -/
set_option maxRecDepth 100000 in
def frame_Pulse_fields.wp (f0 : Int) (f1 : Int) (f2 : Int) (w : World) (R : TR [(false, [.sl])] → World → Prop) : Prop :=
alK [.int .i64 f0, .int .i64 f1, .int .i64 f2] T.frame_Pulse w fun p1 w2 =>
drK w2 fun w3 =>
ld1 (.i .i64) p1 w3 fun x4 =>
ld1 (.i .i64) (p1.add 1) w3 fun x5 =>
ld1 (.i .i64) (p1.add 2) w3 fun x6 =>
clS Tryz.prog F.frame_node [.int .i64 x4] w3 false [(true, [(.i .i64), (.i .i64), (.i .i64)])] fun r7 w8 =>
Hold [(7, (p1.add 2), (w3.cell? (p1.add 2)).getD undef), (4, (p1.add 1), (w3.cell? (p1.add 1)).getD undef), (1, p1, (w3.cell? p1).getD undef)] w8 ∧ (
clS Tryz.prog F.frame_node [.int .i64 x5] w8 false [(true, [(.i .i64), (.i .i64), (.i .i64)])] fun r9 w10 =>
Hold [(7, (p1.add 2), (w3.cell? (p1.add 2)).getD undef), (4, (p1.add 1), (w3.cell? (p1.add 1)).getD undef), (1, p1, (w3.cell? p1).getD undef)] w10 ∧ (
clS Tryz.prog F.frame_time [.int .i64 x6] w10 false [(true, [(.i .i64), (.i .i64), (.i .i64)])] fun r11 w12 =>
Hold [(7, (p1.add 2), (w3.cell? (p1.add 2)).getD undef), (4, (p1.add 1), (w3.cell? (p1.add 1)).getD undef), (1, p1, (w3.cell? p1).getD undef)] w12 ∧ (
alK [.int .i64 r7.1.1, .int .i64 r7.1.2.1, .int .i64 r7.1.2.2.1, .int .i64 r9.1.1, .int .i64 r9.1.2.1, .int .i64 r9.1.2.2.1, .int .i64 r11.1.1, .int .i64 r11.1.2.1, .int .i64 r11.1.2.2.1] T.frame_field w12 fun p13 w14 =>
Hold [(7, (p1.add 2), (w3.cell? (p1.add 2)).getD undef), (4, (p1.add 1), (w3.cell? (p1.add 1)).getD undef), (1, p1, (w3.cell? p1).getD undef)] w14 ∧ (
R (((some p13, 3, 3), ()), ()) w14))))
set_option maxRecDepth 100000 in
theorem frame_Pulse_fields.eq (f0 : Int) (f1 : Int) (f2 : Int) (w : World) (R : Value → World → Prop) : wpF Tryz.prog Tryz.f131 (.s .n (.s (.pl (.tk 0 (.tk 1 (.tk 3 (.tk 4 (.tk 6 (.tk 7 (.ef 2 [] (.ef 5 [] (.ef 8 [] (.ef 9 [] (.tk 10 .z)))))))))))) .n)) [.agg #[.int .i64 f0, .int .i64 f1, .int .i64 f2]] w R = frame_Pulse_fields.wp f0 f1 f2 w (fun r w => R (encR false [(false, [.sl])] r) w) := by kernel_rfl
theorem frame_Pulse_fields.ok {f0 : Int} {f1 : Int} {f2 : Int} {w : World} {R : TR [(false, [.sl])] → World → Prop} (h : frame_Pulse_fields.wp f0 f1 f2 w R) : clS Tryz.prog F.frame_Pulse_fields [.agg #[.int .i64 f0, .int .i64 f1, .int .i64 f2]] w false [(false, [.sl])] R :=
  ok_of Tryz_follows Tryz.func131 (fun R => frame_Pulse_fields.wp f0 f1 f2 w R) (frame_Pulse_fields.eq f0 f1 f2 w) rfl h
end Go.Proofs.YtahojpppjpfjmaaGreat
