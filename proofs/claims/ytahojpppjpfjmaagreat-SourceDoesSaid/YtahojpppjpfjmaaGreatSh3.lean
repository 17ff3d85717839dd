import Derived.Test.YtahojpppjpfjmaaGreatNm
namespace Go.Proofs.YtahojpppjpfjmaaGreat
open Go.Eng
set_option linter.unusedVariables false
/-! ### flood_Flood_word -/
set_option maxRecDepth 100000 in
def flood_Flood_word.wp (f : Option Addr) (local_ : Int) (w : World) (R : TR [(true, [(.i .i64), (.i .i64), (.i .u16), (.i .u16), (.i .i64), (.i .i64)]), (false, [.b])] → World → Prop) : Prop :=
alK [.int .i64 0, .int .i64 0, .int .u16 0, .int .u16 0, .int .i64 0, .int .i64 0] T.frame_Sync w fun p1 w2 =>
ncK f fun a3 =>
ld1 .p a3 w2 fun x4 =>
clS Tryz.prog F.elect_Elect_Mine [.pointer x4] w2 false [(false, [.b])] fun r5 w6 =>
brB r5.1.1 (
ncK f fun a7 =>
ld1 .p a7 w6 fun x8 =>
clS Tryz.prog F.elect_Elect_Issue [.pointer x8] w6 true [(true, [(.i .u16), (.i .u16)]), (false, [.b])] fun r9 w10 =>
alK [.int .u16 0, .int .u16 0] T.elect_Mark w10 fun p11 w12 =>
stN [.int .u16 r9.1.1, .int .u16 r9.1.2.1] p11 0 w12 fun w13 =>
drK w13 fun w14 =>
ncK f fun a15 =>
ld1 (.i .i64) (a15.add 1) w14 fun x16 =>
ncK f fun a17 =>
ld1 (.i .i64) (a17.add 1) w14 fun x18 =>
ld1 (.i .u16) p11 w14 fun x19 =>
ld1 (.i .u16) (p11.add 1) w14 fun x20 =>
stN [.int .i64 x16, .int .i64 x18, .int .u16 x19, .int .u16 x20, .int .i64 0, .int .i64 local_] p1 0 w14 fun w21 =>
Hold [] w21 ∧ (
ldN [(.i .i64), (.i .i64), (.i .u16), (.i .u16), (.i .i64), (.i .i64)] p1 0 w21 fun x22 =>
R ((x22.1, x22.2.1, x22.2.2.1, x22.2.2.2.1, x22.2.2.2.2.1, x22.2.2.2.2.2.1, ()), (true, ()), ()) w21)) (
clS Tryz.prog F.flood_Flood_Synced [.pointer f] w6 false [(false, [.b])] fun r23 w24 =>
brB (!r23.1.1) (
stN [.int .i64 0, .int .i64 0, .int .u16 0, .int .u16 0, .int .i64 0, .int .i64 0] p1 0 w24 fun w25 =>
ldN [(.i .i64), (.i .i64), (.i .u16), (.i .u16), (.i .i64), (.i .i64)] p1 0 w25 fun x26 =>
R ((x26.1, x26.2.1, x26.2.2.1, x26.2.2.2.1, x26.2.2.2.2.1, x26.2.2.2.2.2.1, ()), (false, ()), ()) w25) (
ncK f fun a27 =>
ld1 .p a27 w24 fun x28 =>
clS Tryz.prog F.elect_Elect_Mark [.pointer x28] w24 true [(true, [(.i .u16), (.i .u16)]), (false, [.b])] fun r29 w30 =>
alK [.int .u16 0, .int .u16 0] T.elect_Mark w30 fun p31 w32 =>
stN [.int .u16 r29.1.1, .int .u16 r29.1.2.1] p31 0 w32 fun w33 =>
CutT (fun (J34 : ((Addr) × Unit) → World → Prop) =>
drK w33 fun w37 =>
ncK f fun a38 =>
ld1 (.i .i64) (a38.add 1) w37 fun x39 =>
ncK f fun a40 =>
ld1 .p a40 w37 fun x41 =>
ld1 (.i .u16) p31 w37 fun x42 =>
ld1 (.i .u16) (p31.add 1) w37 fun x43 =>
ncK f fun a44 =>
ld1 (.i .i64) ((a44.add 7).add 2) w37 fun x45 =>
ncK f fun a46 =>
ld1 (.i .i64) ((a46.add 7).add 1) w37 fun x47 =>
ncK f fun a48 =>
ld1 (.i .i64) (a48.add 7) w37 fun x49 =>
(
clS Tryz.prog F.elect_Elect_Root [.pointer x41] w37 false [(false, [(.i .i64)])] fun r50 w51 =>
Hold [(29, (a48.add 7), (w37.cell? (a48.add 7)).getD undef), (22, ((a46.add 7).add 1), (w37.cell? ((a46.add 7).add 1)).getD undef), (17, ((a44.add 7).add 2), (w37.cell? ((a44.add 7).add 2)).getD undef), (12, (p31.add 1), (w37.cell? (p31.add 1)).getD undef), (10, p31, (w37.cell? p31).getD undef), (7, a40, (w37.cell? a40).getD undef), (3, (a38.add 1), (w37.cell? (a38.add 1)).getD undef)] w51 ∧ (
alK [.int .i64 0, .int .i64 0, .int .u16 0, .int .u16 0, .int .i64 0, .int .i64 0] T.frame_Sync w51 fun p52 w53 =>
Hold [(29, (a48.add 7), (w37.cell? (a48.add 7)).getD undef), (22, ((a46.add 7).add 1), (w37.cell? ((a46.add 7).add 1)).getD undef), (17, ((a44.add 7).add 2), (w37.cell? ((a44.add 7).add 2)).getD undef), (12, (p31.add 1), (w37.cell? (p31.add 1)).getD undef), (10, p31, (w37.cell? p31).getD undef), (7, a40, (w37.cell? a40).getD undef), (3, (a38.add 1), (w37.cell? (a38.add 1)).getD undef)] w53 ∧ (
stN [.int .i64 x39, .int .i64 r50.1.1, .int .u16 x42, .int .u16 x43, .int .i64 x45, .int .i64 (IntKind.wrap .i64 ((IntKind.wrap .i64 (x47 + local_)) - x49))] p52 0 w53 fun w54 =>
Hold [] w54 ∧ (
J34 (p52, ()) w54)))) ∧ (
alK [.int .i64 0, .int .i64 0, .int .u16 0, .int .u16 0, .int .i64 0, .int .i64 0] T.frame_Sync w37 fun p55 w56 =>
Hold [(29, (a48.add 7), (w37.cell? (a48.add 7)).getD undef), (22, ((a46.add 7).add 1), (w37.cell? ((a46.add 7).add 1)).getD undef), (17, ((a44.add 7).add 2), (w37.cell? ((a44.add 7).add 2)).getD undef), (12, (p31.add 1), (w37.cell? (p31.add 1)).getD undef), (10, p31, (w37.cell? p31).getD undef), (7, a40, (w37.cell? a40).getD undef), (3, (a38.add 1), (w37.cell? (a38.add 1)).getD undef)] w56 ∧ (
clS Tryz.prog F.elect_Elect_Root [.pointer x41] w56 false [(false, [(.i .i64)])] fun r57 w58 =>
Hold [(29, (a48.add 7), (w37.cell? (a48.add 7)).getD undef), (22, ((a46.add 7).add 1), (w37.cell? ((a46.add 7).add 1)).getD undef), (17, ((a44.add 7).add 2), (w37.cell? ((a44.add 7).add 2)).getD undef), (12, (p31.add 1), (w37.cell? (p31.add 1)).getD undef), (10, p31, (w37.cell? p31).getD undef), (3, (a38.add 1), (w37.cell? (a38.add 1)).getD undef)] w58 ∧ (
stN [.int .i64 x39, .int .i64 r57.1.1, .int .u16 x42, .int .u16 x43, .int .i64 x45, .int .i64 (IntKind.wrap .i64 ((IntKind.wrap .i64 (x47 + local_)) - x49))] p55 0 w58 fun w59 =>
Hold [] w59 ∧ (
J34 (p55, ()) w59))))) (fun (z35 : (Addr) × Unit) w36 => ∀ _ : Nat → Value,
drK w36 fun w60 =>
ldN [(.i .i64), (.i .i64), (.i .u16), (.i .u16), (.i .i64), (.i .i64)] z35.1 0 w60 fun x61 =>
ldN [(.i .i64), (.i .i64), (.i .u16), (.i .u16), (.i .i64), (.i .i64)] z35.1 0 w60 fun x62 =>
clS Tryz.prog F.frame_Good [.iface T.frame_Sync (.agg #[.int .i64 x62.1, .int .i64 x62.2.1, .int .u16 x62.2.2.1, .int .u16 x62.2.2.2.1, .int .i64 x62.2.2.2.2.1, .int .i64 x62.2.2.2.2.2.1])] w60 false [(false, [.b])] fun r63 w64 =>
Hold [(1, (z35.1.add 0), (w60.cell? (z35.1.add 0)).getD undef), (1, (z35.1.add 1), (w60.cell? (z35.1.add 1)).getD undef), (1, (z35.1.add 2), (w60.cell? (z35.1.add 2)).getD undef), (1, (z35.1.add 3), (w60.cell? (z35.1.add 3)).getD undef), (1, (z35.1.add 4), (w60.cell? (z35.1.add 4)).getD undef), (1, (z35.1.add 5), (w60.cell? (z35.1.add 5)).getD undef), (0, (z35.1.add 0), (w60.cell? (z35.1.add 0)).getD undef), (0, (z35.1.add 1), (w60.cell? (z35.1.add 1)).getD undef), (0, (z35.1.add 2), (w60.cell? (z35.1.add 2)).getD undef), (0, (z35.1.add 3), (w60.cell? (z35.1.add 3)).getD undef), (0, (z35.1.add 4), (w60.cell? (z35.1.add 4)).getD undef), (0, (z35.1.add 5), (w60.cell? (z35.1.add 5)).getD undef)] w64 ∧ (
stN [.int .i64 x61.1, .int .i64 x61.2.1, .int .u16 x61.2.2.1, .int .u16 x61.2.2.2.1, .int .i64 x61.2.2.2.2.1, .int .i64 x61.2.2.2.2.2.1] p1 0 w64 fun w65 =>
Hold [(1, (z35.1.add 0), (w60.cell? (z35.1.add 0)).getD undef), (1, (z35.1.add 1), (w60.cell? (z35.1.add 1)).getD undef), (1, (z35.1.add 2), (w60.cell? (z35.1.add 2)).getD undef), (1, (z35.1.add 3), (w60.cell? (z35.1.add 3)).getD undef), (1, (z35.1.add 4), (w60.cell? (z35.1.add 4)).getD undef), (1, (z35.1.add 5), (w60.cell? (z35.1.add 5)).getD undef)] w65 ∧ (
ldN [(.i .i64), (.i .i64), (.i .u16), (.i .u16), (.i .i64), (.i .i64)] p1 0 w65 fun x66 =>
R ((x66.1, x66.2.1, x66.2.2.1, x66.2.2.2.1, x66.2.2.2.2.1, x66.2.2.2.2.2.1, ()), (r63.1.1, ()), ()) w65)))))
set_option maxRecDepth 100000 in
theorem flood_Flood_word.eq (f : Option Addr) (local_ : Int) (w : World) (R : Value → World → Prop) : wpF Tryz.prog Tryz.f39 (.s .n (.s (.s .n (.s (.s .n (.s (.pl (.tk 0 (.tk 1 (.tk 2 (.tk 3 (.tk 4 (.tk 5 (.tk 6 (.tk 7 (.tk 8 (.tk 9 (.tk 10 (.tk 11 (.tk 12 (.tk 13 (.ef 14 [3, 7, 9, 11] (.tk 15 .z))))))))))))))))) .n)) .n)) (.s .n (.s .n (.ct [(10, .a)] (.pl (.tk 0 (.tk 1 (.tk 2 (.tk 3 (.tk 4 (.tk 5 (.tk 6 (.tk 7 (.tk 9 (.tk 10 (.tk 11 (.tk 12 (.tk 13 (.tk 14 (.tk 15 (.tk 16 (.tk 17 (.tk 18 (.tk 19 (.tk 20 (.tk 21 (.tk 22 (.tk 23 (.tk 24 (.tk 25 (.tk 26 (.tk 27 (.tk 28 (.tk 29 (.tk 30 (.two 8 32 (.tk 31 (.ef 32 [] (.ef 33 [3, 7, 10, 12, 17, 22, 29] .z))) (.ef 8 [7] (.tk 31 (.ef 33 [3, 10, 12, 17, 22, 29] .z))))))))))))))))))))))))))))))))))) (.s (.pl (.tk 0 (.tk 1 (.tk 2 (.ef 3 [] (.ef 4 [0] (.tk 5 .z))))))) .n)))))) [.pointer f, .int .i64 local_] w R = flood_Flood_word.wp f local_ w (fun r w => R (encR true [(true, [(.i .i64), (.i .i64), (.i .u16), (.i .u16), (.i .i64), (.i .i64)]), (false, [.b])] r) w) := by kernel_rfl
theorem flood_Flood_word.ok {f : Option Addr} {local_ : Int} {w : World} {R : TR [(true, [(.i .i64), (.i .i64), (.i .u16), (.i .u16), (.i .i64), (.i .i64)]), (false, [.b])] → World → Prop} (h : flood_Flood_word.wp f local_ w R) : clS Tryz.prog F.flood_Flood_word [.pointer f, .int .i64 local_] w true [(true, [(.i .i64), (.i .i64), (.i .u16), (.i .u16), (.i .i64), (.i .i64)]), (false, [.b])] R :=
  ok_of Tryz_follows Tryz.func39 (fun R => flood_Flood_word.wp f local_ w R) (flood_Flood_word.eq f local_ w) rfl h
/-! ### ref15_Elect_Beat -/
set_option maxRecDepth 100000 in
def ref15_Elect_Beat.wp (e : Option Addr) (w : World) (R : TR [(false, [.b])] → World → Prop) : Prop :=
drK w fun w1 =>
ncK e fun a2 =>
ld1 (.i .i64) (a2.add 5) w1 fun x3 =>
ncK e fun a4 =>
ld1 (.i .i64) a4 w1 fun x5 =>
brB (x3 == x5) (
ncK e fun a6 =>
ld1 (.i .i64) (a6.add 7) w1 fun x7 =>
brB (decide (x7 > 0)) (
ncK e fun a8 =>
ld1 (.i .i64) (a8.add 7) w1 fun x9 =>
ncK e fun a10 =>
stN [.int .i64 (IntKind.wrap .i64 (x9 - 1))] (a10.add 7) 0 w1 fun w11 =>
R ((false, ()), ()) w11) (
R ((false, ()), ()) w1)) (
ncK e fun a12 =>
ld1 (.i .i64) (a12.add 6) w1 fun x13 =>
ncK e fun a14 =>
stN [.int .i64 (IntKind.wrap .i64 (x13 + 1))] (a14.add 6) 0 w1 fun w15 =>
drK w15 fun w16 =>
ncK e fun a17 =>
ld1 (.i .i64) (a17.add 6) w16 fun x18 =>
ncK e fun a19 =>
ld1 (.i .i64) (a19.add 1) w16 fun x20 =>
brB (decide (x18 < x20)) (
R ((false, ()), ()) w16) (
ncK e fun a21 =>
ld1 (.i .i64) a21 w16 fun x22 =>
ncK e fun a23 =>
stN [.int .i64 x22] (a23.add 5) 0 w16 fun w24 =>
ncK e fun a25 =>
stN [.int .i64 0] (a25.add 6) 0 w24 fun w26 =>
ncK e fun a27 =>
ld1 (.i .i64) (a27.add 2) w26 fun x28 =>
ncK e fun a29 =>
stN [.int .i64 x28] (a29.add 7) 0 w26 fun w30 =>
R ((true, ()), ()) w30))
set_option maxRecDepth 100000 in
theorem ref15_Elect_Beat.eq (e : Option Addr) (w : World) (R : Value → World → Prop) : wpF Tryz.prog Tryz.f40 (.s .n (.s (.s (.pl (.tk 0 (.tk 1 (.tk 2 (.tk 3 (.tk 4 (.tk 5 (.tk 6 (.tk 7 (.tk 8 .z)))))))))) .n) (.s .n (.s (.s (.pl (.tk 0 (.tk 1 (.tk 2 (.tk 3 (.tk 4 (.tk 5 (.tk 6 (.tk 7 (.tk 8 .z)))))))))) .n) .n)))) [.pointer e] w R = ref15_Elect_Beat.wp e w (fun r w => R (encR false [(false, [.b])] r) w) := by kernel_rfl
theorem ref15_Elect_Beat.ok {e : Option Addr} {w : World} {R : TR [(false, [.b])] → World → Prop} (h : ref15_Elect_Beat.wp e w R) : clS Tryz.prog F.ref15_Elect_Beat [.pointer e] w false [(false, [.b])] R :=
  ok_of Tryz_follows Tryz.func40 (fun R => ref15_Elect_Beat.wp e w R) (ref15_Elect_Beat.eq e w) rfl h
/-! ### ref16_Flood_Mine -/
set_option maxRecDepth 100000 in
def ref16_Flood_Mine.wp (f : Option Addr) (w : World) (R : TR [(false, [.b])] → World → Prop) : Prop :=
drK w fun w1 =>
ncK f fun a2 =>
ld1 .p a2 w1 fun x3 =>
ncK x3 fun a4 =>
ld1 (.i .i64) (a4.add 5) w1 fun x5 =>
ncK f fun a6 =>
ld1 .p a6 w1 fun x7 =>
ncK x7 fun a8 =>
ld1 (.i .i64) a8 w1 fun x9 =>
R (((x5 == x9), ()), ()) w1
set_option maxRecDepth 100000 in
theorem ref16_Flood_Mine.eq (f : Option Addr) (w : World) (R : Value → World → Prop) : wpF Tryz.prog Tryz.f41 (.s .n (.s (.pl (.tk 0 (.tk 1 (.tk 2 (.tk 3 (.tk 4 (.tk 5 (.tk 6 (.tk 7 (.tk 8 (.tk 9 (.tk 10 (.tk 11 (.tk 12 (.tk 13 (.tk 14 (.tk 15 .z))))))))))))))))) .n)) [.pointer f] w R = ref16_Flood_Mine.wp f w (fun r w => R (encR false [(false, [.b])] r) w) := by kernel_rfl
theorem ref16_Flood_Mine.ok {f : Option Addr} {w : World} {R : TR [(false, [.b])] → World → Prop} (h : ref16_Flood_Mine.wp f w R) : clS Tryz.prog F.ref16_Flood_Mine [.pointer f] w false [(false, [.b])] R :=
  ok_of Tryz_follows Tryz.func41 (fun R => ref16_Flood_Mine.wp f w R) (ref16_Flood_Mine.eq f w) rfl h
/-! ### ref02_Next -/
set_option maxRecDepth 100000 in
def ref02_Next.wp (a : Int) (w : World) (R : TR [(false, [(.i .u16)])] → World → Prop) : Prop :=
nzK 65536 (
R ((IntKind.wrap .u16 (Int.tmod (IntKind.wrap .i64 ((IntKind.wrap .i64 a) + 1)) 65536), ()), ()) w)
set_option maxRecDepth 100000 in
theorem ref02_Next.eq (a : Int) (w : World) (R : Value → World → Prop) : wpF Tryz.prog Tryz.f42 .n [.int .u16 a] w R = ref02_Next.wp a w (fun r w => R (encR false [(false, [(.i .u16)])] r) w) := by kernel_rfl
theorem ref02_Next.ok {a : Int} {w : World} {R : TR [(false, [(.i .u16)])] → World → Prop} (h : ref02_Next.wp a w R) : clS Tryz.prog F.ref02_Next [.int .u16 a] w false [(false, [(.i .u16)])] R :=
  ok_of Tryz_follows Tryz.func42 (fun R => ref02_Next.wp a w R) (ref02_Next.eq a w) rfl h
/-! ### ref16_Flood_Synced -/
set_option maxRecDepth 100000 in
def ref16_Flood_Synced.wp (f : Option Addr) (w : World) (R : TR [(false, [.b])] → World → Prop) : Prop :=
drK w fun w1 =>
clS Tryz.prog F.ref16_Flood_Mine [.pointer f] w1 false [(false, [.b])] fun r2 w3 =>
Hold [] w3 ∧ (
brB r2.1.1 (
R ((true, ()), ()) w3) (
ncK f fun a4 =>
ld1 .sl (a4.add 3) w3 fun x5 =>
ncK f fun a6 =>
ld1 (.i .i64) (a6.add 1) w3 fun x7 =>
R ((decide ((x5.2.1 : Int) ≥ x7), ()), ()) w3))
set_option maxRecDepth 100000 in
theorem ref16_Flood_Synced.eq (f : Option Addr) (w : World) (R : Value → World → Prop) : wpF Tryz.prog Tryz.f43 (.s .n (.s (.pl (.tk 0 (.ef 1 [] (.tk 2 (.tk 3 (.tk 4 (.tk 5 (.tk 6 (.tk 7 (.tk 8 (.tk 9 (.tk 10 (.tk 11 (.tk 12 (.tk 13 (.tk 14 .z)))))))))))))))) .n)) [.pointer f] w R = ref16_Flood_Synced.wp f w (fun r w => R (encR false [(false, [.b])] r) w) := by kernel_rfl
theorem ref16_Flood_Synced.ok {f : Option Addr} {w : World} {R : TR [(false, [.b])] → World → Prop} (h : ref16_Flood_Synced.wp f w R) : clS Tryz.prog F.ref16_Flood_Synced [.pointer f] w false [(false, [.b])] R :=
  ok_of Tryz_follows Tryz.func43 (fun R => ref16_Flood_Synced.wp f w R) (ref16_Flood_Synced.eq f w) rfl h
/-! ### ref15_Elect_Mark -/
set_option maxRecDepth 100000 in
def ref15_Elect_Mark.wp (e : Option Addr) (w : World) (R : TR [(false, [(.i .u16)]), (false, [(.i .u16)]), (false, [.b])] → World → Prop) : Prop :=
ncK e fun a1 =>
ld1 (.i .i64) (a1.add 5) w fun x2 =>
brB (decide (x2 < 0)) (
R ((0, ()), (0, ()), (false, ()), ()) w) (
drK w fun w3 =>
ncK e fun a4 =>
ld1 (.i .i64) (a4.add 5) w3 fun x5 =>
ncK e fun a6 =>
ld1 (.i .i64) a6 w3 fun x7 =>
brB (x5 == x7) (
drK w3 fun w8 =>
ncK e fun a9 =>
ld1 (.i .u16) (a9.add 3) w8 fun x10 =>
ncK e fun a11 =>
ld1 (.i .u16) (a11.add 4) w8 fun x12 =>
ncK e fun a13 =>
ld1 (.i .u16) (a13.add 4) w8 fun x14 =>
R ((x10, ()), (x12, ()), (decide (x14 > 0), ()), ()) w8) (
drK w3 fun w15 =>
ncK e fun a16 =>
ld1 (.i .i64) (a16.add 5) w15 fun x17 =>
ncK e fun a18 =>
ixK (some (a18.add 72)) 64 x17 fun a19 =>
ld1 (.i .u16) (a19.add (x17.toNat * 1)) w15 fun x20 =>
ncK e fun a21 =>
ld1 (.i .i64) (a21.add 5) w15 fun x22 =>
ncK e fun a23 =>
ixK (some (a23.add 136)) 64 x22 fun a24 =>
ld1 (.i .u16) (a24.add (x22.toNat * 1)) w15 fun x25 =>
R ((x20, ()), (x25, ()), (true, ()), ()) w15))
set_option maxRecDepth 100000 in
theorem ref15_Elect_Mark.eq (e : Option Addr) (w : World) (R : Value → World → Prop) : wpF Tryz.prog Tryz.f44 (.s .n (.s .n (.s (.s (.pl (.tk 0 (.tk 1 (.tk 2 (.tk 3 (.tk 4 (.tk 5 (.tk 6 (.tk 7 (.tk 8 .z)))))))))) (.s (.s (.pl (.tk 0 (.tk 1 (.tk 2 (.tk 3 (.tk 4 (.tk 5 (.tk 6 (.tk 7 (.tk 8 (.tk 9 (.tk 10 (.tk 11 (.tk 12 (.tk 13 (.tk 14 (.tk 15 .z))))))))))))))))) .n) .n)) (.s (.pl (.tk 0 (.tk 1 (.tk 2 (.tk 3 (.tk 4 (.tk 5 (.tk 6 (.tk 7 (.tk 8 (.tk 9 (.tk 10 (.tk 11 (.tk 12 (.tk 13 (.tk 14 (.tk 15 (.tk 16 (.tk 17 (.tk 18 (.tk 19 (.tk 20 .z)))))))))))))))))))))) .n)))) [.pointer e] w R = ref15_Elect_Mark.wp e w (fun r w => R (encR true [(false, [(.i .u16)]), (false, [(.i .u16)]), (false, [.b])] r) w) := by kernel_rfl
theorem ref15_Elect_Mark.ok {e : Option Addr} {w : World} {R : TR [(false, [(.i .u16)]), (false, [(.i .u16)]), (false, [.b])] → World → Prop} (h : ref15_Elect_Mark.wp e w R) : clS Tryz.prog F.ref15_Elect_Mark [.pointer e] w true [(false, [(.i .u16)]), (false, [(.i .u16)]), (false, [.b])] R :=
  ok_of Tryz_follows Tryz.func44 (fun R => ref15_Elect_Mark.wp e w R) (ref15_Elect_Mark.eq e w) rfl h
/-! ### ref05_Good -/
set_option maxRecDepth 100000 in
def ref05_Good.wp (p0 : Int) (p1 : Int) (p2 : Int) (p3 : Int) (p4 : Int) (p5 : Int) (p6 : Int) (p7 : Int) (p8 : Int) (p9 : Int) (p10 : Int) (p11 : Int) (p12 : Int) (p13 : Int) (w : World) (R : TR [(false, [.b])] → World → Prop) : Prop :=
alK [.int .i64 p0, .int .i64 p1, .int .i64 p2, .int .i64 p3, .int .u16 p4, .int .u16 p5, .int .i64 p6, .int .i64 p7, .int .i64 p8, .int .i64 p9, .int .i64 p10, .int .i64 p11, .int .i64 p12, .int .i64 p13] T.ref05_Plain w fun p1 w2 =>
ldN [(.i .i64), (.i .i64), (.i .i64), (.i .i64), (.i .u16), (.i .u16), (.i .i64), (.i .i64), (.i .i64), (.i .i64), (.i .i64), (.i .i64), (.i .i64), (.i .i64)] p1 0 w2 fun x3 =>
clS Tryz.prog F.ref05_Fields [.agg #[.int .i64 x3.1, .int .i64 x3.2.1, .int .i64 x3.2.2.1, .int .i64 x3.2.2.2.1, .int .u16 x3.2.2.2.2.1, .int .u16 x3.2.2.2.2.2.1, .int .i64 x3.2.2.2.2.2.2.1, .int .i64 x3.2.2.2.2.2.2.2.1, .int .i64 x3.2.2.2.2.2.2.2.2.1, .int .i64 x3.2.2.2.2.2.2.2.2.2.1, .int .i64 x3.2.2.2.2.2.2.2.2.2.2.1, .int .i64 x3.2.2.2.2.2.2.2.2.2.2.2.1, .int .i64 x3.2.2.2.2.2.2.2.2.2.2.2.2.1, .int .i64 x3.2.2.2.2.2.2.2.2.2.2.2.2.2.1]] w2 false [(false, [.sl])] fun r4 w5 =>
LoopT (fun (self6 : ((Int) × Unit) → World → Prop) (z7 : (Int) × Unit) w8 => ∀ _ : Nat → Value,
brB (decide (z7.1 < (r4.1.1.2.1 : Int))) (
ixK r4.1.1.1 r4.1.1.2.1 z7.1 fun a9 =>
ldN [(.i .i64), (.i .i64), (.i .i64)] (a9.add (z7.1.toNat * 3)) 0 w8 fun x10 =>
alK [.int .i64 0, .int .i64 0, .int .i64 0] T.ref05_Field w8 fun p11 w12 =>
stN [.int .i64 x10.1, .int .i64 x10.2.1, .int .i64 x10.2.2.1] p11 0 w12 fun w13 =>
ld1 (.i .i64) (p11.add 1) w13 fun x14 =>
brB (decide (x14 < 0)) (
R ((false, ()), ()) w13) (
ld1 (.i .i64) (p11.add 1) w13 fun x15 =>
ld1 (.i .i64) (p11.add 2) w13 fun x16 =>
brB (decide (x15 > x16)) (
R ((false, ()), ()) w13) (
self6 (IntKind.wrap .i64 (z7.1 + 1), ()) w13))) (
R ((decide ((r4.1.1.2.1 : Int) > 0), ()), ()) w8)) (0, ()) w5
set_option maxRecDepth 100000 in
theorem ref05_Good.eq (p0 : Int) (p1 : Int) (p2 : Int) (p3 : Int) (p4 : Int) (p5 : Int) (p6 : Int) (p7 : Int) (p8 : Int) (p9 : Int) (p10 : Int) (p11 : Int) (p12 : Int) (p13 : Int) (w : World) (R : Value → World → Prop) : wpF Tryz.prog Tryz.f45 (.s .n (.s .n (.s (.s .n (.lp [(10, (.i .i64))] .n)) .n))) [.agg #[.int .i64 p0, .int .i64 p1, .int .i64 p2, .int .i64 p3, .int .u16 p4, .int .u16 p5, .int .i64 p6, .int .i64 p7, .int .i64 p8, .int .i64 p9, .int .i64 p10, .int .i64 p11, .int .i64 p12, .int .i64 p13]] w R = ref05_Good.wp p0 p1 p2 p3 p4 p5 p6 p7 p8 p9 p10 p11 p12 p13 w (fun r w => R (encR false [(false, [.b])] r) w) := by kernel_rfl
theorem ref05_Good.ok {p0 : Int} {p1 : Int} {p2 : Int} {p3 : Int} {p4 : Int} {p5 : Int} {p6 : Int} {p7 : Int} {p8 : Int} {p9 : Int} {p10 : Int} {p11 : Int} {p12 : Int} {p13 : Int} {w : World} {R : TR [(false, [.b])] → World → Prop} (h : ref05_Good.wp p0 p1 p2 p3 p4 p5 p6 p7 p8 p9 p10 p11 p12 p13 w R) : clS Tryz.prog F.ref05_Good [.agg #[.int .i64 p0, .int .i64 p1, .int .i64 p2, .int .i64 p3, .int .u16 p4, .int .u16 p5, .int .i64 p6, .int .i64 p7, .int .i64 p8, .int .i64 p9, .int .i64 p10, .int .i64 p11, .int .i64 p12, .int .i64 p13]] w false [(false, [.b])] R :=
  ok_of Tryz_follows Tryz.func45 (fun R => ref05_Good.wp p0 p1 p2 p3 p4 p5 p6 p7 p8 p9 p10 p11 p12 p13 w R) (ref05_Good.eq p0 p1 p2 p3 p4 p5 p6 p7 p8 p9 p10 p11 p12 p13 w) rfl h
/-! ### ref12_Good -/
set_option maxRecDepth 100000 in
def ref12_Good.wp (e0 : Int) (e1 : Int) (e2 : Int) (w : World) (R : TR [(false, [.b])] → World → Prop) : Prop :=
alK [.int .i64 e0, .int .i64 e1, .int .i64 e2] T.ref12_Entry w fun p1 w2 =>
ld1 (.i .i64) p1 w2 fun x3 =>
brB (decide (x3 ≥ 0)) (
ld1 (.i .i64) p1 w2 fun x4 =>
brB (decide (x4 ≤ 1125899906842624)) (
ld1 (.i .i64) (p1.add 1) w2 fun x5 =>
brB (decide (x5 ≥ (Int.negSucc 1125899906842623))) (
ld1 (.i .i64) (p1.add 1) w2 fun x6 =>
brB (decide (x6 ≤ 1125899906842624)) (
ld1 (.i .i64) (p1.add 2) w2 fun x7 =>
brB (decide (x7 ≥ 1)) (
ld1 (.i .i64) (p1.add 2) w2 fun x8 =>
R ((decide (x8 ≤ 63), ()), ()) w2) (
R ((false, ()), ()) w2)) (
R ((false, ()), ()) w2)) (
R ((false, ()), ()) w2)) (
R ((false, ()), ()) w2)) (
R ((false, ()), ()) w2)
set_option maxRecDepth 100000 in
theorem ref12_Good.eq (e0 : Int) (e1 : Int) (e2 : Int) (w : World) (R : Value → World → Prop) : wpF Tryz.prog Tryz.f46 .n [.agg #[.int .i64 e0, .int .i64 e1, .int .i64 e2]] w R = ref12_Good.wp e0 e1 e2 w (fun r w => R (encR false [(false, [.b])] r) w) := by kernel_rfl
theorem ref12_Good.ok {e0 : Int} {e1 : Int} {e2 : Int} {w : World} {R : TR [(false, [.b])] → World → Prop} (h : ref12_Good.wp e0 e1 e2 w R) : clS Tryz.prog F.ref12_Good [.agg #[.int .i64 e0, .int .i64 e1, .int .i64 e2]] w false [(false, [.b])] R :=
  ok_of Tryz_follows Tryz.func46 (fun R => ref12_Good.wp e0 e1 e2 w R) (ref12_Good.eq e0 e1 e2 w) rfl h
/-! ### ref16_Flood_Time -/
set_option maxRecDepth 100000 in
def ref16_Flood_Time.wp (f : Option Addr) (local_ : Int) (w : World) (R : TR [(false, [(.i .i64)]), (false, [(.i .i64)]), (false, [(.i .i64)])] → World → Prop) : Prop :=
clS Tryz.prog F.ref16_Flood_Synced [.pointer f] w false [(false, [.b])] fun r1 w2 =>
brB (!r1.1.1) (
R ((0, ()), (0, ()), (9, ()), ()) w2) (
clS Tryz.prog F.ref16_time [.int .i64 local_] w2 false [(false, [.b])] fun r3 w4 =>
brB (!r3.1.1) (
R ((0, ()), (0, ()), (8, ()), ()) w4) (
clS Tryz.prog F.ref16_Flood_Mine [.pointer f] w4 false [(false, [.b])] fun r5 w6 =>
brB r5.1.1 (
R ((local_, ()), (0, ()), (0, ()), ()) w6) (
CutT (fun (J7 : ((Addr) × Unit) → World → Prop) =>
drK w6 fun w10 =>
ncK f fun a11 =>
ld1 (.i .i64) (a11.add 2) w10 fun x12 =>
ncK f fun a13 =>
ld1 .sl (a13.add 3) w10 fun x14 =>
(
clS Tryz.prog F.ref14_Of [.int .i64 x12, .slice x14.1 x14.2.1 x14.2.2] w10 true [(true, [(.i .i64), (.i .i64), (.i .i64), (.i .i64), (.i .i64)]), (false, [.b])] fun r15 w16 =>
Hold [(7, (a13.add 3), (w10.cell? (a13.add 3)).getD undef), (3, (a11.add 2), (w10.cell? (a11.add 2)).getD undef)] w16 ∧ (
alK [.int .i64 0, .int .i64 0, .int .i64 0, .int .i64 0, .int .i64 0] T.ref14_Map w16 fun p17 w18 =>
Hold [(7, (a13.add 3), (w10.cell? (a13.add 3)).getD undef), (3, (a11.add 2), (w10.cell? (a11.add 2)).getD undef)] w18 ∧ (
stN [.int .i64 r15.1.1, .int .i64 r15.1.2.1, .int .i64 r15.1.2.2.1, .int .i64 r15.1.2.2.2.1, .int .i64 r15.1.2.2.2.2.1] p17 0 w18 fun w19 =>
Hold [] w19 ∧ (
J7 (p17, ()) w19)))) ∧ (
alK [.int .i64 0, .int .i64 0, .int .i64 0, .int .i64 0, .int .i64 0] T.ref14_Map w10 fun p20 w21 =>
Hold [(7, (a13.add 3), (w10.cell? (a13.add 3)).getD undef), (3, (a11.add 2), (w10.cell? (a11.add 2)).getD undef)] w21 ∧ (
clS Tryz.prog F.ref14_Of [.int .i64 x12, .slice x14.1 x14.2.1 x14.2.2] w21 true [(true, [(.i .i64), (.i .i64), (.i .i64), (.i .i64), (.i .i64)]), (false, [.b])] fun r22 w23 =>
Hold [] w23 ∧ (
stN [.int .i64 r22.1.1, .int .i64 r22.1.2.1, .int .i64 r22.1.2.2.1, .int .i64 r22.1.2.2.2.1, .int .i64 r22.1.2.2.2.2.1] p20 0 w23 fun w24 =>
Hold [] w24 ∧ (
J7 (p20, ()) w24))))) (fun (z8 : (Addr) × Unit) w9 => ∀ _ : Nat → Value,
ldN [(.i .i64), (.i .i64), (.i .i64), (.i .i64), (.i .i64)] z8.1 0 w9 fun x25 =>
clS Tryz.prog F.ref14_Global [.agg #[.int .i64 x25.1, .int .i64 x25.2.1, .int .i64 x25.2.2.1, .int .i64 x25.2.2.2.1, .int .i64 x25.2.2.2.2.1], .int .i64 local_] w9 true [(false, [(.i .i64)]), (false, [.b])] fun r26 w27 =>
brB (!r26.2.1.1) (
R ((0, ()), (0, ()), (8, ()), ()) w27) (
drK w27 fun w28 =>
ld1 (.i .i64) (z8.1.add 4) w28 fun x29 =>
R ((r26.1.1, ()), (x29, ()), (0, ()), ()) w28)))))
set_option maxRecDepth 100000 in
theorem ref16_Flood_Time.eq (f : Option Addr) (local_ : Int) (w : World) (R : Value → World → Prop) : wpF Tryz.prog Tryz.f47 (.s .n (.s .n (.s .n (.s .n (.ct [(7, .a)] (.pl (.tk 0 (.tk 1 (.tk 2 (.tk 3 (.tk 4 (.tk 5 (.tk 6 (.tk 7 (.two 8 12 (.tk 9 (.tk 10 (.tk 11 (.ef 12 [] (.ef 13 [3, 7] (.tk 14 .z)))))) (.ef 8 [3, 7] (.tk 9 (.tk 10 (.tk 11 (.ef 13 [] (.tk 14 .z)))))))))))))))) (.s .n (.s .n (.s (.pl (.tk 0 (.tk 1 (.tk 2 (.tk 3 (.tk 4 (.tk 5 .z))))))) .n)))))))) [.pointer f, .int .i64 local_] w R = ref16_Flood_Time.wp f local_ w (fun r w => R (encR true [(false, [(.i .i64)]), (false, [(.i .i64)]), (false, [(.i .i64)])] r) w) := by kernel_rfl
theorem ref16_Flood_Time.ok {f : Option Addr} {local_ : Int} {w : World} {R : TR [(false, [(.i .i64)]), (false, [(.i .i64)]), (false, [(.i .i64)])] → World → Prop} (h : ref16_Flood_Time.wp f local_ w R) : clS Tryz.prog F.ref16_Flood_Time [.pointer f, .int .i64 local_] w true [(false, [(.i .i64)]), (false, [(.i .i64)]), (false, [(.i .i64)])] R :=
  ok_of Tryz_follows Tryz.func47 (fun R => ref16_Flood_Time.wp f local_ w R) (ref16_Flood_Time.eq f local_ w) rfl h
/-! ### elect_Rules_Good -/
set_option maxRecDepth 100000 in
def elect_Rules_Good.wp (r0 : Int) (r1 : Int) (w : World) (R : TR [(false, [.b])] → World → Prop) : Prop :=
alK [.int .i64 r0, .int .i64 r1] T.elect_Rules w fun p1 w2 =>
ld1 (.i .i64) p1 w2 fun x3 =>
brB (decide (x3 ≥ 1)) (
ld1 (.i .i64) p1 w2 fun x4 =>
brB (decide (x4 ≤ 1000)) (
ld1 (.i .i64) (p1.add 1) w2 fun x5 =>
brB (decide (x5 ≥ 0)) (
ld1 (.i .i64) (p1.add 1) w2 fun x6 =>
R ((decide (x6 ≤ 1000), ()), ()) w2) (
R ((false, ()), ()) w2)) (
R ((false, ()), ()) w2)) (
R ((false, ()), ()) w2)
set_option maxRecDepth 100000 in
theorem elect_Rules_Good.eq (r0 : Int) (r1 : Int) (w : World) (R : Value → World → Prop) : wpF Tryz.prog Tryz.f48 .n [.agg #[.int .i64 r0, .int .i64 r1]] w R = elect_Rules_Good.wp r0 r1 w (fun r w => R (encR false [(false, [.b])] r) w) := by kernel_rfl
theorem elect_Rules_Good.ok {r0 : Int} {r1 : Int} {w : World} {R : TR [(false, [.b])] → World → Prop} (h : elect_Rules_Good.wp r0 r1 w R) : clS Tryz.prog F.elect_Rules_Good [.agg #[.int .i64 r0, .int .i64 r1]] w false [(false, [.b])] R :=
  ok_of Tryz_follows Tryz.func48 (fun R => elect_Rules_Good.wp r0 r1 w R) (elect_Rules_Good.eq r0 r1 w) rfl h
/-! ### elect_Elect_Boot -/
set_option maxRecDepth 100000 in
def elect_Elect_Boot.wp (e : Option Addr) (boot : Int) (w : World) (R : TR [] → World → Prop) : Prop :=
brB (!(Option.isNone e)) (
drK w fun w1 =>
ncK e fun a2 =>
ld1 (.i .i64) a2 w1 fun x3 =>
ncK e fun a4 =>
ldN [(.i .i64), (.i .i64)] (a4.add 1) 0 w1 fun x5 =>
maK Tryz.prog T.map_int_elect_Mark w1 fun m6 w7 =>
Hold [(8, ((a4.add 1).add 0), (w1.cell? ((a4.add 1).add 0)).getD undef), (8, ((a4.add 1).add 1), (w1.cell? ((a4.add 1).add 1)).getD undef), (4, a2, (w1.cell? a2).getD undef)] w7 ∧ (
ncK e fun a8 =>
stN [.int .i64 x3, .int .i64 x5.1, .int .i64 x5.2.1, .int .u16 boot, .int .u16 0, .int .i64 (Int.negSucc 0), .int .i64 0, .int .i64 0, .map (some m6)] a8 0 w7 fun w9 =>
Hold [] w9 ∧ (
R (()) w9))) (
R (()) w)
set_option maxRecDepth 100000 in
theorem elect_Elect_Boot.eq (e : Option Addr) (boot : Int) (w : World) (R : Value → World → Prop) : wpF Tryz.prog Tryz.f49 (.s .n (.s (.pl (.tk 0 (.tk 1 (.tk 2 (.tk 3 (.tk 4 (.tk 5 (.tk 6 (.tk 7 (.tk 8 (.tk 9 (.ef 10 [] (.tk 11 (.tk 12 (.ef 13 [4, 8] .z))))))))))))))) .n)) [.pointer e, .int .u16 boot] w R = elect_Elect_Boot.wp e boot w (fun r w => R (encR true [] r) w) := by kernel_rfl
theorem elect_Elect_Boot.ok {e : Option Addr} {boot : Int} {w : World} {R : TR [] → World → Prop} (h : elect_Elect_Boot.wp e boot w R) : clS Tryz.prog F.elect_Elect_Boot [.pointer e, .int .u16 boot] w true [] R :=
  ok_of Tryz_follows Tryz.func49 (fun R => elect_Elect_Boot.wp e boot w R) (elect_Elect_Boot.eq e boot w) rfl h
/-! ### elect_Elect_Mine -/
set_option maxRecDepth 100000 in
def elect_Elect_Mine.wp (e : Option Addr) (w : World) (R : TR [(false, [.b])] → World → Prop) : Prop :=
drK w fun w1 =>
brB (!(Option.isNone e)) (
ncK e fun a2 =>
ld1 (.i .i64) (a2.add 5) w1 fun x3 =>
ncK e fun a4 =>
ld1 (.i .i64) a4 w1 fun x5 =>
R (((x3 == x5), ()), ()) w1) (
R ((false, ()), ()) w1)
set_option maxRecDepth 100000 in
theorem elect_Elect_Mine.eq (e : Option Addr) (w : World) (R : Value → World → Prop) : wpF Tryz.prog Tryz.f50 (.s .n (.s (.pl (.tk 0 (.tk 1 (.tk 2 (.tk 3 (.tk 4 (.tk 5 (.tk 6 (.tk 7 (.tk 8 (.tk 9 (.tk 10 (.tk 11 (.tk 12 (.tk 13 .z))))))))))))))) .n)) [.pointer e] w R = elect_Elect_Mine.wp e w (fun r w => R (encR false [(false, [.b])] r) w) := by kernel_rfl
theorem elect_Elect_Mine.ok {e : Option Addr} {w : World} {R : TR [(false, [.b])] → World → Prop} (h : elect_Elect_Mine.wp e w R) : clS Tryz.prog F.elect_Elect_Mine [.pointer e] w false [(false, [.b])] R :=
  ok_of Tryz_follows Tryz.func50 (fun R => elect_Elect_Mine.wp e w R) (elect_Elect_Mine.eq e w) rfl h
/-! ### table_Table_Len -/
set_option maxRecDepth 100000 in
def table_Table_Len.wp (t : Option Addr) (w : World) (R : TR [(false, [(.i .i64)])] → World → Prop) : Prop :=
brB (Option.isNone t) (
R ((0, ()), ()) w) (
ncK t fun a1 =>
ld1 .sl a1 w fun x2 =>
R (((x2.2.1 : Int), ()), ()) w)
set_option maxRecDepth 100000 in
theorem table_Table_Len.eq (t : Option Addr) (w : World) (R : Value → World → Prop) : wpF Tryz.prog Tryz.f51 .n [.pointer t] w R = table_Table_Len.wp t w (fun r w => R (encR false [(false, [(.i .i64)])] r) w) := by kernel_rfl
theorem table_Table_Len.ok {t : Option Addr} {w : World} {R : TR [(false, [(.i .i64)])] → World → Prop} (h : table_Table_Len.wp t w R) : clS Tryz.prog F.table_Table_Len [.pointer t] w false [(false, [(.i .i64)])] R :=
  ok_of Tryz_follows Tryz.func51 (fun R => table_Table_Len.wp t w R) (table_Table_Len.eq t w) rfl h
/-! ### flood_Flood_Time -/
set_option maxRecDepth 100000 in
def flood_Flood_Time.wp (f : Option Addr) (local_ : Int) (w : World) (R : TR [(false, [(.i .i64)]), (false, [(.i .i64)]), (false, [(.i .i64)])] → World → Prop) : Prop :=
brB (Option.isNone f) (
R ((0, ()), (0, ()), (2, ()), ()) w) (
clS Tryz.prog F.flood_Flood_Synced [.pointer f] w false [(false, [.b])] fun r1 w2 =>
brB (!r1.1.1) (
R ((0, ()), (0, ()), (9, ()), ()) w2) (
CutT (fun (J3 : ((Bool) × Unit) → World → Prop) =>
brB (decide (local_ < 0)) (
J3 (true, ()) w2) (
J3 (decide (local_ > 1125899906842624), ()) w2)) (fun (z4 : (Bool) × Unit) w5 => ∀ _ : Nat → Value,
brB z4.1 (
R ((0, ()), (0, ()), (8, ()), ()) w5) (
ncK f fun a6 =>
ld1 .p a6 w5 fun x7 =>
clS Tryz.prog F.elect_Elect_Mine [.pointer x7] w5 false [(false, [.b])] fun r8 w9 =>
brB r8.1.1 (
R ((local_, ()), (0, ()), (0, ()), ()) w9) (
CutT (fun (J10 : ((Addr) × Unit) → World → Prop) =>
drK w9 fun w13 =>
ncK f fun a14 =>
ld1 (.i .i64) ((a14.add 2).add 3) w13 fun x15 =>
ncK f fun a16 =>
(
clS Tryz.prog F.globe_Of [.int .i64 x15, .pointer (some (a16.add 6))] w13 true [(true, [(.i .i64), (.i .i64), (.i .i64), (.i .i64), (.i .i64)]), (false, [.b])] fun r17 w18 =>
Hold [(4, ((a14.add 2).add 3), (w13.cell? ((a14.add 2).add 3)).getD undef)] w18 ∧ (
alK [.int .i64 0, .int .i64 0, .int .i64 0, .int .i64 0, .int .i64 0] T.globe_Map w18 fun p19 w20 =>
Hold [(4, ((a14.add 2).add 3), (w13.cell? ((a14.add 2).add 3)).getD undef)] w20 ∧ (
stN [.int .i64 r17.1.1, .int .i64 r17.1.2.1, .int .i64 r17.1.2.2.1, .int .i64 r17.1.2.2.2.1, .int .i64 r17.1.2.2.2.2.1] p19 0 w20 fun w21 =>
Hold [] w21 ∧ (
J10 (p19, ()) w21)))) ∧ (
alK [.int .i64 0, .int .i64 0, .int .i64 0, .int .i64 0, .int .i64 0] T.globe_Map w13 fun p22 w23 =>
Hold [(4, ((a14.add 2).add 3), (w13.cell? ((a14.add 2).add 3)).getD undef)] w23 ∧ (
clS Tryz.prog F.globe_Of [.int .i64 x15, .pointer (some (a16.add 6))] w23 true [(true, [(.i .i64), (.i .i64), (.i .i64), (.i .i64), (.i .i64)]), (false, [.b])] fun r24 w25 =>
Hold [] w25 ∧ (
stN [.int .i64 r24.1.1, .int .i64 r24.1.2.1, .int .i64 r24.1.2.2.1, .int .i64 r24.1.2.2.2.1, .int .i64 r24.1.2.2.2.2.1] p22 0 w25 fun w26 =>
Hold [] w26 ∧ (
J10 (p22, ()) w26))))) (fun (z11 : (Addr) × Unit) w12 => ∀ _ : Nat → Value,
ldN [(.i .i64), (.i .i64), (.i .i64), (.i .i64), (.i .i64)] z11.1 0 w12 fun x27 =>
clS Tryz.prog F.globe_Map_Global [.agg #[.int .i64 x27.1, .int .i64 x27.2.1, .int .i64 x27.2.2.1, .int .i64 x27.2.2.2.1, .int .i64 x27.2.2.2.2.1], .int .i64 local_] w12 true [(false, [(.i .i64)]), (false, [.b])] fun r28 w29 =>
brB (!r28.2.1.1) (
R ((0, ()), (0, ()), (8, ()), ()) w29) (
drK w29 fun w30 =>
ld1 (.i .i64) (z11.1.add 4) w30 fun x31 =>
R ((r28.1.1, ()), (x31, ()), (0, ()), ()) w30)))))))
set_option maxRecDepth 100000 in
theorem flood_Flood_Time.eq (f : Option Addr) (local_ : Int) (w : World) (R : Value → World → Prop) : wpF Tryz.prog Tryz.f52 (.s .n (.s (.s .n (.s .n (.s .n (.s .n (.ct [(18, .b)] .n .n))))) (.ct [(7, .a)] (.pl (.tk 0 (.tk 1 (.tk 2 (.tk 3 (.tk 4 (.tk 5 (.tk 6 (.tk 7 (.two 8 12 (.tk 9 (.tk 10 (.tk 11 (.ef 12 [] (.ef 13 [4] (.tk 14 .z)))))) (.ef 8 [4] (.tk 9 (.tk 10 (.tk 11 (.ef 13 [] (.tk 14 .z)))))))))))))))) (.s .n (.s .n (.s (.pl (.tk 0 (.tk 1 (.tk 2 (.tk 3 (.tk 4 (.tk 5 .z))))))) .n)))))) [.pointer f, .int .i64 local_] w R = flood_Flood_Time.wp f local_ w (fun r w => R (encR true [(false, [(.i .i64)]), (false, [(.i .i64)]), (false, [(.i .i64)])] r) w) := by kernel_rfl
theorem flood_Flood_Time.ok {f : Option Addr} {local_ : Int} {w : World} {R : TR [(false, [(.i .i64)]), (false, [(.i .i64)]), (false, [(.i .i64)])] → World → Prop} (h : flood_Flood_Time.wp f local_ w R) : clS Tryz.prog F.flood_Flood_Time [.pointer f, .int .i64 local_] w true [(false, [(.i .i64)]), (false, [(.i .i64)]), (false, [(.i .i64)])] R :=
  ok_of Tryz_follows Tryz.func52 (fun R => flood_Flood_Time.wp f local_ w R) (flood_Flood_Time.eq f local_ w) rfl h
/-! ### elect_Elect_Mark -/
set_option maxRecDepth 100000 in
def elect_Elect_Mark.wp (e : Option Addr) (w : World) (R : TR [(true, [(.i .u16), (.i .u16)]), (false, [.b])] → World → Prop) : Prop :=
alK [.int .u16 0, .int .u16 0] T.elect_Mark w fun p1 w2 =>
CutT (fun (J3 : ((Bool) × Unit) → World → Prop) =>
brB (Option.isNone e) (
J3 (true, ()) w2) (
ncK e fun a6 =>
ld1 (.i .i64) (a6.add 5) w2 fun x7 =>
J3 (decide (x7 < 0), ()) w2)) (fun (z4 : (Bool) × Unit) w5 => ∀ _ : Nat → Value,
brB z4.1 (
stN [.int .u16 0, .int .u16 0] p1 0 w5 fun w8 =>
ldN [(.i .u16), (.i .u16)] p1 0 w8 fun x9 =>
R ((x9.1, x9.2.1, ()), (false, ()), ()) w8) (
clS Tryz.prog F.elect_Elect_Mine [.pointer e] w5 false [(false, [.b])] fun r10 w11 =>
brB r10.1.1 (
drK w11 fun w12 =>
ncK e fun a13 =>
ld1 (.i .u16) (a13.add 3) w12 fun x14 =>
ncK e fun a15 =>
ld1 (.i .u16) (a15.add 4) w12 fun x16 =>
ncK e fun a17 =>
ld1 (.i .u16) (a17.add 4) w12 fun x18 =>
stN [.int .u16 x14, .int .u16 x16] p1 0 w12 fun w19 =>
Hold [(12, (a17.add 4), (w12.cell? (a17.add 4)).getD undef)] w19 ∧ (
ldN [(.i .u16), (.i .u16)] p1 0 w19 fun x20 =>
R ((x20.1, x20.2.1, ()), (decide (x18 > 0), ()), ()) w19)) (
drK w11 fun w21 =>
ncK e fun a22 =>
ld1 .m (a22.add 8) w21 fun x23 =>
ncK e fun a24 =>
ld1 (.i .i64) (a24.add 5) w21 fun x25 =>
lkP Tryz.prog T.map_int_elect_Mark (.map x23) (.int .i64 x25) w21 true [(.i .u16), (.i .u16)] fun x26 =>
Hold [] w21 ∧ (
stN [.int .u16 x26.1, .int .u16 x26.2.1] p1 0 w21 fun w27 =>
Hold [] w27 ∧ (
ldN [(.i .u16), (.i .u16)] p1 0 w27 fun x28 =>
R ((x28.1, x28.2.1, ()), (true, ()), ()) w27)))))
set_option maxRecDepth 100000 in
theorem elect_Elect_Mark.eq (e : Option Addr) (w : World) (R : Value → World → Prop) : wpF Tryz.prog Tryz.f53 (.s .n (.s (.ct [(4, .b)] .n (.s .n (.s .n (.s (.s (.pl (.tk 0 (.tk 1 (.tk 2 (.tk 3 (.tk 4 (.tk 5 (.tk 6 (.tk 7 (.tk 8 (.tk 9 (.tk 10 (.tk 11 (.tk 12 (.tk 13 (.ef 14 [3, 7] (.tk 15 .z))))))))))))))))) .n) .n)))) (.s (.pl (.tk 0 (.tk 1 (.tk 2 (.tk 3 (.tk 4 (.tk 5 (.tk 6 (.tk 7 (.ef 8 [3, 7] (.ef 9 [] (.tk 10 .z)))))))))))) .n))) [.pointer e] w R = elect_Elect_Mark.wp e w (fun r w => R (encR true [(true, [(.i .u16), (.i .u16)]), (false, [.b])] r) w) := by kernel_rfl
theorem elect_Elect_Mark.ok {e : Option Addr} {w : World} {R : TR [(true, [(.i .u16), (.i .u16)]), (false, [.b])] → World → Prop} (h : elect_Elect_Mark.wp e w R) : clS Tryz.prog F.elect_Elect_Mark [.pointer e] w true [(true, [(.i .u16), (.i .u16)]), (false, [.b])] R :=
  ok_of Tryz_follows Tryz.func53 (fun R => elect_Elect_Mark.wp e w R) (elect_Elect_Mark.eq e w) rfl h
/-! ### elect_Elect_Root -/
set_option maxRecDepth 100000 in
def elect_Elect_Root.wp (e : Option Addr) (w : World) (R : TR [(false, [(.i .i64)])] → World → Prop) : Prop :=
brB (Option.isNone e) (
R (((Int.negSucc 0), ()), ()) w) (
ncK e fun a1 =>
ld1 (.i .i64) (a1.add 5) w fun x2 =>
R ((x2, ()), ()) w)
set_option maxRecDepth 100000 in
theorem elect_Elect_Root.eq (e : Option Addr) (w : World) (R : Value → World → Prop) : wpF Tryz.prog Tryz.f54 .n [.pointer e] w R = elect_Elect_Root.wp e w (fun r w => R (encR false [(false, [(.i .i64)])] r) w) := by kernel_rfl
theorem elect_Elect_Root.ok {e : Option Addr} {w : World} {R : TR [(false, [(.i .i64)])] → World → Prop} (h : elect_Elect_Root.wp e w R) : clS Tryz.prog F.elect_Elect_Root [.pointer e] w false [(false, [(.i .i64)])] R :=
  ok_of Tryz_follows Tryz.func54 (fun R => elect_Elect_Root.wp e w R) (elect_Elect_Root.eq e w) rfl h
/-! ### elect_Elect_may -/
set_option maxRecDepth 100000 in
def elect_Elect_may.wp (e : Option Addr) (root : Int) (w : World) (R : TR [(false, [.b])] → World → Prop) : Prop :=
CutT (fun (J1 : ((Bool) × Unit) → World → Prop) =>
brB (decide (root < 0)) (
J1 (true, ()) w) (
ncK e fun a4 =>
ld1 (.i .i64) a4 w fun x5 =>
J1 (decide (root ≥ x5), ()) w)) (fun (z2 : (Bool) × Unit) w3 => ∀ _ : Nat → Value,
brB z2.1 (
R ((false, ()), ()) w3) (
clS Tryz.prog F.elect_Elect_Mine [.pointer e] w3 false [(false, [.b])] fun r6 w7 =>
brB r6.1.1 (
ncK e fun a8 =>
ld1 (.i .i64) (a8.add 7) w7 fun x9 =>
R (((x9 == 0), ()), ()) w7) (
ncK e fun a10 =>
ld1 (.i .i64) (a10.add 5) w7 fun x11 =>
brB (decide (x11 < 0)) (
R ((true, ()), ()) w7) (
ncK e fun a12 =>
ld1 (.i .i64) (a12.add 5) w7 fun x13 =>
R ((decide (root ≤ x13), ()), ()) w7))))
set_option maxRecDepth 100000 in
theorem elect_Elect_may.eq (e : Option Addr) (root : Int) (w : World) (R : Value → World → Prop) : wpF Tryz.prog Tryz.f55 (.s .n (.s (.ct [(5, .b)] .n .n) .n)) [.pointer e, .int .i64 root] w R = elect_Elect_may.wp e root w (fun r w => R (encR false [(false, [.b])] r) w) := by kernel_rfl
theorem elect_Elect_may.ok {e : Option Addr} {root : Int} {w : World} {R : TR [(false, [.b])] → World → Prop} (h : elect_Elect_may.wp e root w R) : clS Tryz.prog F.elect_Elect_may [.pointer e, .int .i64 root] w false [(false, [.b])] R :=
  ok_of Tryz_follows Tryz.func55 (fun R => elect_Elect_may.wp e root w R) (elect_Elect_may.eq e root w) rfl h
/-! ### elect_Mark_newer -/
set_option maxRecDepth 100000 in
def elect_Mark_newer.wp (m0 : Int) (m1 : Int) (old0 : Int) (old1 : Int) (w : World) (R : TR [(false, [.b])] → World → Prop) : Prop :=
alK [.int .u16 m0, .int .u16 m1] T.elect_Mark w fun p1 w2 =>
alK [.int .u16 old0, .int .u16 old1] T.elect_Mark w2 fun p3 w4 =>
ld1 (.i .u16) p1 w4 fun x5 =>
ld1 (.i .u16) p3 w4 fun x6 =>
clS Tryz.prog F.wrap_Newer [.int .u16 x5, .int .u16 x6] w4 false [(false, [.b])] fun r7 w8 =>
brB r7.1.1 (
R ((true, ()), ()) w8) (
ld1 (.i .u16) p1 w8 fun x9 =>
ld1 (.i .u16) p3 w8 fun x10 =>
brB (x9 == x10) (
ld1 (.i .u16) (p1.add 1) w8 fun x11 =>
ld1 (.i .u16) (p3.add 1) w8 fun x12 =>
clS Tryz.prog F.wrap_Newer [.int .u16 x11, .int .u16 x12] w8 false [(false, [.b])] fun r13 w14 =>
R ((r13.1.1, ()), ()) w14) (
R ((false, ()), ()) w8))
set_option maxRecDepth 100000 in
theorem elect_Mark_newer.eq (m0 : Int) (m1 : Int) (old0 : Int) (old1 : Int) (w : World) (R : Value → World → Prop) : wpF Tryz.prog Tryz.f56 .n [.agg #[.int .u16 m0, .int .u16 m1], .agg #[.int .u16 old0, .int .u16 old1]] w R = elect_Mark_newer.wp m0 m1 old0 old1 w (fun r w => R (encR false [(false, [.b])] r) w) := by kernel_rfl
theorem elect_Mark_newer.ok {m0 : Int} {m1 : Int} {old0 : Int} {old1 : Int} {w : World} {R : TR [(false, [.b])] → World → Prop} (h : elect_Mark_newer.wp m0 m1 old0 old1 w R) : clS Tryz.prog F.elect_Mark_newer [.agg #[.int .u16 m0, .int .u16 m1], .agg #[.int .u16 old0, .int .u16 old1]] w false [(false, [.b])] R :=
  ok_of Tryz_follows Tryz.func56 (fun R => elect_Mark_newer.wp m0 m1 old0 old1 w R) (elect_Mark_newer.eq m0 m1 old0 old1 w) rfl h
end Go.Proofs.YtahojpppjpfjmaaGreat
