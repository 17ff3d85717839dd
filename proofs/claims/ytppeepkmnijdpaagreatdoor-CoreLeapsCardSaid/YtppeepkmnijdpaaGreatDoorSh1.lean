import Derived.Test.YtppeepkmnijdpaaGreatDoorNm
namespace Go.Proofs.YtppeepkmnijdpaaGreatDoor
open Go.Eng Tryz
open Go.IntKind (wrap)
set_option linter.unusedSimpArgs false
set_option linter.unusedVariables false
set_option maxRecDepth 100000
theorem Pz.ok{a0 a1:Int}{a2:Option Addr×Nat×Nat}{i near:Int}{w:World}: ∀⦃R:TR qQ→WP⦄,(
Bj [.int .u64 a0,.int .u64 a1,.slice a2.1 a2.2.1 a2.2.2] T.xW w λp1 w2=>
Bj [iV 0,iV 0] T.X3 w2 λp3 w4=>
Aj (near==0) (
Au [iV (Int.negSucc 0),iV 0] p3 0 w4 λw5=>
Bc [KI,KI] p3 0 w5 λx6=>
R ((x6.1,x6.2.1,()),()) w5) (
Bh (λ(J7:((Int)×Unit)→WP)=>
Aj ((Ez .and .u64 near (wrap .u64 (near-1)))==0) (
Ad prog F.bits_TrailingZeros64 [.int .u64 near] w4 false r3' λr10 w11=>
J7 (r10.1.1,()) w11) (
J7 ((Int.negSucc 0),()) w4)) (λ(z8:(Int)×Unit) w9=> ∀_:Nat→Value,
ld1 (.i .u64) p1 w9 λx12=>
Ad prog F.Qd [.int .u64 x12,iV i] w9 false r0' λr13 w14=>
Aj r13.1.1 (
Au [iV z8.1,iV 2] p3 0 w14 λw15=>
Bc [KI,KI] p3 0 w15 λx16=>
R ((x16.1,x16.2.1,()),()) w15) (
ld1 (.i .u64) (p1.add 1) w14 λx17=>
Ad prog F.Qd [.int .u64 x17,iV i] w14 false r0' λr18 w19=>
Aj (!r18.1.1) (
Au [iV z8.1,iV 3] p3 0 w19 λw20=>
Bc [KI,KI] p3 0 w20 λx21=>
R ((x21.1,x21.2.1,()),()) w20) (
Aj (decide (z8.1<0)) (
Au [iV z8.1,iV 4] p3 0 w19 λw22=>
Bc [KI,KI] p3 0 w22 λx23=>
R ((x23.1,x23.2.1,()),()) w22) (
ld1 .sl (p1.add 2) w19 λx24=>
Aj (decide (i<(x24.2.1:Int))) (
ld1 .sl (p1.add 2) w19 λx25=>
Hf x25.1 x25.2.1 i λa26=>
ld1 (.i .u64) (a26.add (i.toNat*1)) w19 λx27=>
Ad prog F.Qd [.int .u64 x27,iV z8.1] w19 false r0' λr28 w29=>
Aj r28.1.1 (
Au [iV z8.1,iV 5] p3 0 w29 λw30=>
Bc [KI,KI] p3 0 w30 λx31=>
R ((x31.1,x31.2.1,()),()) w30) (
Au [iV z8.1,iV 1] p3 0 w29 λw32=>
Bc [KI,KI] p3 0 w32 λx33=>
R ((x33.1,x33.2.1,()),()) w32)) (
Au [iV z8.1,iV 1] p3 0 w19 λw34=>
Bc [KI,KI] p3 0 w34 λx35=>
R ((x35.1,x35.2.1,()),()) w34)))))))→Ad prog F.Pz [.agg #[.int .u64 a0,.int .u64 a1,.slice a2.1 a2.2.1 a2.2.2],iV i,.int .u64 near] w false qQ R:=
 Cb Aa Tryz.func103 (hs 3 (.ct [(7,(.i .i64))] .n .n))
theorem Jt.ok{l:Option Addr}{i:Int}{w:World}: ∀⦃R:TR wC→WP⦄,(
Ad prog F.Gt [.pointer l,iV i] w false r0' λr1 w2=>
Aj (!r1.1.1) (
R ((0,()),()) w2) (
A7 l λa3=>
ld1 .sl (a3.add 1) w2 λx4=>
Hf x4.1 x4.2.1 i λa5=>
ld1 (.i .u64) (a5.add (i.toNat*1)) w2 λx6=>
R ((x6,()),()) w2))→Ad prog F.Jt [.pointer l,iV i] w false wC R:=
 Cb Aa Tryz.func104 .n
theorem Gu.ok{n:Option Addr}{w:World}: ∀⦃R:TR r0'→WP⦄,(
Ad prog F.D8 [.pointer n] w false r3' λr1 w2=>
Aj (r1.1.1 !=0) (
R ((false,()),()) w2) (
I8 w2 λw3=>
A7 n λa4=>
ld1 .p (a4.add 15) w3 λx5=>
A7 n λa6=>
ld1 .p (a6.add 14) w3 λx7=>
Ad prog F.Ew [.pointer x7] w3 false r3' λr8 w9=>
Ak [hd 7 (a6.add 14) w3,hd 3 (a4.add 15) w3] w9∧(
Ad prog F.Gv [.pointer x5,iV r8.1.1] w9 true Apv λr10 w11=>
Ak [hd 7 (a6.add 14) w3] w11∧(
Aj (r10.2.2.1.1 !=0) (
R ((true,()),()) w11) (
I8 w11 λw12=>
A7 n λa13=>
Bc k2' (a13.add 5) 0 w12 λx14=>
A7 n λa15=>
Bc eG (a15.add 1) 0 w12 λx16=>
A7 n λa17=>
Bc k2' (a17.add 5) 0 w12 λx18=>
A7 n λa19=>
ld1 KI (a19.add 9) w12 λx20=>
Ad prog F.Yi [Rl eG x16,Rl k2' x18,iV x20] w12 false Asy λr21 w22=>
Ak [hd 20 (a19.add 9) w12,hd 15 ((a17.add 5).add 0) w12,hd 15 ((a17.add 5).add 1) w12,hd 15 ((a17.add 5).add 2) w12,hd 10 ((a15.add 1).add 0) w12,hd 10 ((a15.add 1).add 1) w12,hd 10 ((a15.add 1).add 2) w12,hd 10 ((a15.add 1).add 3) w12,hd 4 ((a13.add 5).add 0) w12,hd 4 ((a13.add 5).add 1) w12,hd 4 ((a13.add 5).add 2) w12] w22∧(
Ad prog F.I4 [Rl eG r21.1,iV r10.2.1.1] w22 false r3' λr23 w24=>
Ak [hd 20 (a19.add 9) w12,hd 15 ((a17.add 5).add 0) w12,hd 15 ((a17.add 5).add 1) w12,hd 15 ((a17.add 5).add 2) w12,hd 10 ((a15.add 1).add 0) w12,hd 10 ((a15.add 1).add 1) w12,hd 10 ((a15.add 1).add 2) w12,hd 10 ((a15.add 1).add 3) w12,hd 4 ((a13.add 5).add 0) w12,hd 4 ((a13.add 5).add 1) w12,hd 4 ((a13.add 5).add 2) w12] w24∧(
Ad prog F.L9 [Rl k2' x14,iV r10.1.1,iV r23.1.1] w24 false r0' λr25 w26=>
Ak [hd 20 (a19.add 9) w12,hd 15 ((a17.add 5).add 0) w12,hd 15 ((a17.add 5).add 1) w12,hd 15 ((a17.add 5).add 2) w12,hd 10 ((a15.add 1).add 0) w12,hd 10 ((a15.add 1).add 1) w12,hd 10 ((a15.add 1).add 2) w12,hd 10 ((a15.add 1).add 3) w12] w26∧(
R ((r25.1.1,()),()) w26))))))))→Ad prog F.Gu [.pointer n] w false r0' R:=
 Cb Aa Tryz.func105 (hs 2 (.s (.pl (ks [0,1,2,3,4,5,6,7] (.ef 8 [] (.ef 9 [3] (ks [10,11,12,13,14,15,16] .z))))) (.s .n (.s (.pl (ks [0,1,2,3,4,5,6,7,8,9,10,11,12,13,14,15,16,17,18,19,20,22] (.ef 21 [] (.ef 23 [] (.ef 24 [4] (.tk 25 .z)))))) .n))))
theorem Hy.ok{n:Option Addr}{jitter:Int}{w:World}: ∀⦃R:TR r7'→WP⦄,(
Ad prog F.D8 [.pointer n] w false r3' λr1 w2=>
Aj (r1.1.1 !=0) (
R ((0,()),(r1.1.1,()),()) w2) (
A7 n λa3=>
ld1 KI (a3.add 9) w2 λx4=>
Aj (decide (jitter<(wrap .i64 (0-x4)))) (
R ((0,()),(1,()),()) w2) (
A7 n λa5=>
ld1 KI (a5.add 9) w2 λx6=>
Aj (decide (jitter>x6)) (
R ((0,()),(1,()),()) w2) (
A7 n λa7=>
ld1 .p (a7.add 14) w2 λx8=>
Ad prog F.Ew [.pointer x8] w2 false r3' λr9 w10=>
Ad prog F.Nw [iV (wrap .i64 (r9.1.1+jitter)),iV 0,iV 1125899906842624] w10 false r3' λr11 w12=>
R ((r11.1.1,()),(0,()),()) w12))))→Ad prog F.Hy [.pointer n,iV jitter] w true r7' R:=
 Cb Aa Tryz.func106 .n
theorem Rh.ok{b:Option Addr×Nat×Nat}{w:World}: ∀⦃R:TR Atl→WP⦄,(
Aj (decide ((b.2.1:Int)>64)) (
R ((.nilIface,()),(5,()),()) w) (
Ad prog F.Y2 [.slice b.1 b.2.1 b.2.2] w false Y6 λr1 w2=>
Ad prog F.Ku [.pointer r1.1.1,iV 1] w2 true Apb λr3 w4=>
Ad prog F.Qk [.int .u64 r3.1.1] w4 false Ub λr5 w6=>
nlK r5.1.1 λb7=>
Aj b7 (
R ((.nilIface,()),(3,()),()) w6) (
Ad prog F.Ii [r5.1.1] w6 false r3' λr8 w9=>
Aj ((b.2.1:Int) !=(wrap .i64 (r8.1.1+3))) (
R ((.nilIface,()),(3,()),()) w9) (
Ad prog F.Yl [.slice b.1 b.2.1 b.2.2] w9 true As1 λr10 w11=>
Aj (!r10.2.1.1) (
R ((.nilIface,()),(4,()),()) w11) (
ivK prog r5.1.1 "angelus/frame.fields" [] w11 false Gh λr12 w13=>
Aw (λ(self14:((Option Addr×Nat×Nat)×(Int)×Unit)→WP) (z15:(Option Addr×Nat×Nat)×(Int)×Unit) w16=> ∀_:Nat→Value,
Aj (decide (z15.2.1<(r12.1.1.2.1:Int))) (
Hf r12.1.1.1 r12.1.1.2.1 z15.2.1 λa17=>
Bc k2' (a17.add (z15.2.1.toNat*3)) 0 w16 λx18=>
Bj z3' T.Bf w16 λp19 w20=>
Au (encs k2' x18) p19 0 w20 λw21=>
ld1 KI p19 w21 λx22=>
Ad prog F.Ku [.pointer r1.1.1,iV x22] w21 true Apb λr23 w24=>
Bj [.int .u64 r23.1.1] T.uint64 w24 λp25 w26=>
Qj ((Builtin.append_ #[T.Qg,T.Qg] T.Qg #[.slice z15.1.1 z15.1.2.1 z15.1.2.2,.slice (some p25) 1 1]).run prog w26) λy27 w28=>
self14 ((y27.1,y27.2.1,y27.2.2),wrap .i64 (z15.2.1+1),()) w28) (
Ad prog F.Ir [r5.1.1,.slice z15.1.1 z15.1.2.1 z15.1.2.2] w16 false Ub λr29 w30=>
Ad prog F.Dw [r29.1.1] w30 false r0' λr31 w32=>
Aj (!r31.1.1) (
R ((.nilIface,()),(3,()),()) w32) (
R ((r29.1.1,()),(0,()),()) w32))) ((none,0,0),0,()) w13)))))→Ad prog F.Rh [.slice b.1 b.2.1 b.2.2] w true Atl R:=
 Cb Aa Tryz.func107 (hs 8 (.s (.s .n (.lp [(10,.sl),(47,(.i .i64))] .n)) .n))
theorem V5.ok{n:Option Addr}{f0 f1 f2 f3 f4 f5 stamp:Int}{w:World}: ∀⦃R:TR r3'→WP⦄,(
Bh (λ(J1:((Addr)×(Int)×Unit)→WP)=>
I8 w λw4=>
A7 n λa5=>
ld1 .p (a5.add 18) w4 λx6=>
A7 n λa7=>
ld1 .p (a7.add 15) w4 λx8=>
(
Ad prog F.Am [.pointer x6,.pointer x8,iV stamp] w4 true Vk λr9 w10=>
Ak [hd 7 (a7.add 15) w4,hd 3 (a5.add 18) w4] w10∧(
Bj z2' T.Bl w10 λp11 w12=>
Ak [hd 7 (a7.add 15) w4,hd 3 (a5.add 18) w4] w12∧(
Au (encs bI r9.1) p11 0 w12 λw13=>
Ak [] w13∧(
J1 (p11,r9.2.1.1,()) w13))))∧(
Bj z2' T.Bl w4 λp14 w15=>
Ak [hd 7 (a7.add 15) w4,hd 3 (a5.add 18) w4] w15∧(
Ad prog F.Am [.pointer x6,.pointer x8,iV stamp] w15 true Vk λr16 w17=>
Ak [] w17∧(
Au (encs bI r16.1) p14 0 w17 λw18=>
Ak [] w18∧(
J1 (p14,r16.2.1.1,()) w18))))) (λ(z2:(Addr)×(Int)×Unit) w3=> ∀_:Nat→Value,
Bj An9 T.Bv w3 λp19 w20=>
Au [iV f0,uV f1,iV f2,uV f3,iV f4,iV f5] p19 0 w20 λw21=>
I8 w21 λw22=>
A7 n λa23=>
Bc mV p19 0 w22 λx24=>
Ad prog F.Jg [.pointer (some (a23.add 19)),Rl mV x24] w22 false r0' λr25 w26=>
Ak [] w26∧(
Aj r25.1.1 (
Ad prog F.Oq [.pointer n] w26 false r3' λr27 w28=>
R ((r27.1.1,()),()) w28) (
R ((0,()),()) w26))))→Ad prog F.Dz [.pointer n,.iface T.Bv (.agg #[iV f0,uV f1,iV f2,uV f3,iV f4,iV f5]),iV stamp] w false r3' R:=
 Cb Aa Tryz.func108 (.s .n (.ct [(7,.a),(8,(.i .i64))] (.pl (ks [0,1,2,3,4,5,6,7,8] (.two 9 13 (ks [10,11,12] (.ef 13 [] (.ef 14 [3,7] (.tk 15 .z)))) (.ef 9 [3,7] (ks [10,11,12] (.ef 14 [] (.tk 15 .z))))))) (.s (hs 12 (.s (.s .n (.s (.pl (ks [0,1,2,3] (.ef 4 [3] .z))) .n)) .n)) .n)))
theorem Xk.ok{n:Option Addr}{f0 f1 f2 f3 f4 f5 stamp:Int}{w:World}: ∀⦃R:TR r3'→WP⦄,(
Bh (λ(J1:((Addr)×(Int)×Unit)→WP)=>
I8 w λw4=>
A7 n λa5=>
ld1 .p (a5.add 18) w4 λx6=>
A7 n λa7=>
ld1 .p (a7.add 15) w4 λx8=>
(
Ad prog F.Am [.pointer x6,.pointer x8,iV stamp] w4 true Vk λr9 w10=>
Ak [hd 7 (a7.add 15) w4,hd 3 (a5.add 18) w4] w10∧(
Bj z2' T.Bl w10 λp11 w12=>
Ak [hd 7 (a7.add 15) w4,hd 3 (a5.add 18) w4] w12∧(
Au (encs bI r9.1) p11 0 w12 λw13=>
Ak [] w13∧(
J1 (p11,r9.2.1.1,()) w13))))∧(
Bj z2' T.Bl w4 λp14 w15=>
Ak [hd 7 (a7.add 15) w4,hd 3 (a5.add 18) w4] w15∧(
Ad prog F.Am [.pointer x6,.pointer x8,iV stamp] w15 true Vk λr16 w17=>
Ak [] w17∧(
Au (encs bI r16.1) p14 0 w17 λw18=>
Ak [] w18∧(
J1 (p14,r16.2.1.1,()) w18))))) (λ(z2:(Addr)×(Int)×Unit) w3=> ∀_:Nat→Value,
Bj z9' T.Ci w3 λp19 w20=>
Au [iV f0,iV f1,uV f2,uV f3,iV f4,iV f5] p19 0 w20 λw21=>
I8 w21 λw22=>
A7 n λa23=>
ld1 .p (a23.add 15) w22 λx24=>
Bc aU p19 0 w22 λx25=>
Ad prog F.Jd [.pointer x24,Rl aU x25,iV stamp] w22 false r3' λr26 w27=>
Ak [] w27∧(
R ((0,()),()) w27)))→Ad prog F.Dz [.pointer n,.iface T.Ci (.agg #[iV f0,iV f1,uV f2,uV f3,iV f4,iV f5]),iV stamp] w false r3' R:=
 Cb Aa Tryz.func108 (.s .n (.ct [(7,.a),(8,(.i .i64))] (.pl (ks [0,1,2,3,4,5,6,7,8] (.two 9 13 (ks [10,11,12] (.ef 13 [] (.ef 14 [3,7] (.tk 15 .z)))) (.ef 9 [3,7] (ks [10,11,12] (.ef 14 [] (.tk 15 .z))))))) (.s (hs 2 (.s (.s .n (.pl (ks [0,1,2,3,4,5] (.ef 6 [3,4] .z)))) .n)) .n)))
theorem Xl.ok{n:Option Addr}{f0 f1 stamp:Int}{w:World}: ∀⦃R:TR r3'→WP⦄,(
Bh (λ(J1:((Addr)×(Int)×Unit)→WP)=>
I8 w λw4=>
A7 n λa5=>
ld1 .p (a5.add 18) w4 λx6=>
A7 n λa7=>
ld1 .p (a7.add 15) w4 λx8=>
(
Ad prog F.Am [.pointer x6,.pointer x8,iV stamp] w4 true Vk λr9 w10=>
Ak [hd 7 (a7.add 15) w4,hd 3 (a5.add 18) w4] w10∧(
Bj z2' T.Bl w10 λp11 w12=>
Ak [hd 7 (a7.add 15) w4,hd 3 (a5.add 18) w4] w12∧(
Au (encs bI r9.1) p11 0 w12 λw13=>
Ak [] w13∧(
J1 (p11,r9.2.1.1,()) w13))))∧(
Bj z2' T.Bl w4 λp14 w15=>
Ak [hd 7 (a7.add 15) w4,hd 3 (a5.add 18) w4] w15∧(
Ad prog F.Am [.pointer x6,.pointer x8,iV stamp] w15 true Vk λr16 w17=>
Ak [] w17∧(
Au (encs bI r16.1) p14 0 w17 λw18=>
Ak [] w18∧(
J1 (p14,r16.2.1.1,()) w18))))) (λ(z2:(Addr)×(Int)×Unit) w3=> ∀_:Nat→Value,
Bj [iV 0,iV 0] T.Du w3 λp19 w20=>
Au [iV f0,iV f1] p19 0 w20 λw21=>
A7 n λa22=>
ld1 .p (a22.add 15) w21 λx23=>
Ad prog F.Az [.pointer x23] w21 false r0' λr24 w25=>
Aj (!r24.1.1) (
I8 w25 λw26=>
A7 n λa27=>
ld1 .p (a27.add 16) w26 λx28=>
Bc [KI,KI] p19 0 w26 λx29=>
Ad prog F.Jj [.pointer x28,.agg #[iV x29.1,iV x29.2.1]] w26 false r0' λr30 w31=>
Ak [] w31∧(
R ((0,()),()) w31)) (
R ((0,()),()) w25)))→Ad prog F.Dz [.pointer n,.iface T.Du (.agg #[iV f0,iV f1]),iV stamp] w false r3' R:=
 Cb Aa Tryz.func108 (.s .n (.ct [(7,.a),(8,(.i .i64))] (.pl (ks [0,1,2,3,4,5,6,7,8] (.two 9 13 (ks [10,11,12] (.ef 13 [] (.ef 14 [3,7] (.tk 15 .z)))) (.ef 9 [3,7] (ks [10,11,12] (.ef 14 [] (.tk 15 .z))))))) (.s (hs 4 (.s (hs 2 (.s (.pl (ks [0,1,2,3,4] (.ef 5 [3,4] .z))) .n)) .n)) .n)))
theorem Xf.ok{n:Option Addr}{f0 stamp:Int}{w:World}: ∀⦃R:TR r3'→WP⦄,(
Bh (λ(J1:((Addr)×(Int)×Unit)→WP)=>
I8 w λw4=>
A7 n λa5=>
ld1 .p (a5.add 18) w4 λx6=>
A7 n λa7=>
ld1 .p (a7.add 15) w4 λx8=>
(
Ad prog F.Am [.pointer x6,.pointer x8,iV stamp] w4 true Vk λr9 w10=>
Ak [hd 7 (a7.add 15) w4,hd 3 (a5.add 18) w4] w10∧(
Bj z2' T.Bl w10 λp11 w12=>
Ak [hd 7 (a7.add 15) w4,hd 3 (a5.add 18) w4] w12∧(
Au (encs bI r9.1) p11 0 w12 λw13=>
Ak [] w13∧(
J1 (p11,r9.2.1.1,()) w13))))∧(
Bj z2' T.Bl w4 λp14 w15=>
Ak [hd 7 (a7.add 15) w4,hd 3 (a5.add 18) w4] w15∧(
Ad prog F.Am [.pointer x6,.pointer x8,iV stamp] w15 true Vk λr16 w17=>
Ak [] w17∧(
Au (encs bI r16.1) p14 0 w17 λw18=>
Ak [] w18∧(
J1 (p14,r16.2.1.1,()) w18))))) (λ(z2:(Addr)×(Int)×Unit) w3=> ∀_:Nat→Value,
Bj [iV 0] T.Ep w3 λp19 w20=>
Au [iV f0] p19 0 w20 λw21=>
Aj (z2.2.1==0) (
A7 n λa22=>
ld1 .p (a22.add 27) w21 λx23=>
Ad prog F.Cm [.pointer x23,.iface T.nI (.agg #[])] w21 false r3' λr24 w25=>
R ((r24.1.1,()),()) w25) (
R ((0,()),()) w21)))→Ad prog F.Dz [.pointer n,.iface T.Ep (.agg #[iV f0]),iV stamp] w false r3' R:=
 Cb Aa Tryz.func108 (.s .n (.ct [(7,.a),(8,(.i .i64))] (.pl (ks [0,1,2,3,4,5,6,7,8] (.two 9 13 (ks [10,11,12] (.ef 13 [] (.ef 14 [3,7] (.tk 15 .z)))) (.ef 9 [3,7] (ks [10,11,12] (.ef 14 [] (.tk 15 .z))))))) .n))
theorem Xa.ok{n:Option Addr}{f0 f1 f2 stamp:Int}{w:World}: ∀⦃R:TR r3'→WP⦄,(
Bh (λ(J1:((Addr)×(Int)×Unit)→WP)=>
I8 w λw4=>
A7 n λa5=>
ld1 .p (a5.add 18) w4 λx6=>
A7 n λa7=>
ld1 .p (a7.add 15) w4 λx8=>
(
Ad prog F.Am [.pointer x6,.pointer x8,iV stamp] w4 true Vk λr9 w10=>
Ak [hd 7 (a7.add 15) w4,hd 3 (a5.add 18) w4] w10∧(
Bj z2' T.Bl w10 λp11 w12=>
Ak [hd 7 (a7.add 15) w4,hd 3 (a5.add 18) w4] w12∧(
Au (encs bI r9.1) p11 0 w12 λw13=>
Ak [] w13∧(
J1 (p11,r9.2.1.1,()) w13))))∧(
Bj z2' T.Bl w4 λp14 w15=>
Ak [hd 7 (a7.add 15) w4,hd 3 (a5.add 18) w4] w15∧(
Ad prog F.Am [.pointer x6,.pointer x8,iV stamp] w15 true Vk λr16 w17=>
Ak [] w17∧(
Au (encs bI r16.1) p14 0 w17 λw18=>
Ak [] w18∧(
J1 (p14,r16.2.1.1,()) w18))))) (λ(z2:(Addr)×(Int)×Unit) w3=> ∀_:Nat→Value,
Bj z3' T.Dc w3 λp19 w20=>
Au [iV f0,iV f1,iV f2] p19 0 w20 λw21=>
Bh (λ(J22:((Bool)×Unit)→WP)=>
I8 w21 λw25=>
Aj (z2.2.1==0) (
ld1 KI (p19.add 1) w25 λx26=>
A7 n λa27=>
ld1 KI a27 w25 λx28=>
J22 ((x26==x28),()) w25) (
J22 (false,()) w25)) (λ(z23:(Bool)×Unit) w24=> ∀_:Nat→Value,
Aj z23.1 (
I8 w24 λw29=>
A7 n λa30=>
ld1 .p (a30.add 27) w29 λx31=>
ld1 KI p19 w29 λx32=>
ld1 KI (p19.add 2) w29 λx33=>
Bc bI z2.1 0 w29 λx34=>
Ad prog F.Cm [.pointer x31,.iface T.jR (.agg #[iV x32,iV x33,iV x34.1,iV x34.2.1,iV x34.2.2.1,uV x34.2.2.2.1,iV x34.2.2.2.2.1])] w29 false r3' λr35 w36=>
Ak [hd 8 (z2.1.add 0) w29,hd 8 (z2.1.add 1) w29,hd 8 (z2.1.add 2) w29,hd 8 (z2.1.add 3) w29,hd 8 (z2.1.add 4) w29,hd 7 (p19.add 2) w29,hd 5 p19 w29] w36∧(
R ((r35.1.1,()),()) w36)) (
R ((0,()),()) w24))))→Ad prog F.Dz [.pointer n,.iface T.Dc (.agg #[iV f0,iV f1,iV f2]),iV stamp] w false r3' R:=
 Cb Aa Tryz.func108 (.s .n (.ct [(7,.a),(8,(.i .i64))] (.pl (ks [0,1,2,3,4,5,6,7,8] (.two 9 13 (ks [10,11,12] (.ef 13 [] (.ef 14 [3,7] (.tk 15 .z)))) (.ef 9 [3,7] (ks [10,11,12] (.ef 14 [] (.tk 15 .z))))))) (.s (hs 8 (.s (.s .n (.ct [(82,.b)] (.pl (ks [0,1,2,3,4,5,6,7,8,9,10,11] .z)) (.s (.s (.pl (ks [0,1,2,3,4,5,6,7,8,9,10] (.ef 11 [3] (.tk 12 .z)))) .n) .n))) .n)) .n)))
theorem Wq.ok{n:Option Addr}{f0 f1 f2 f3 f4 f5 f6 f7 stamp:Int}{w:World}: ∀⦃R:TR r3'→WP⦄,(
Bh (λ(J1:((Addr)×(Int)×Unit)→WP)=>
I8 w λw4=>
A7 n λa5=>
ld1 .p (a5.add 18) w4 λx6=>
A7 n λa7=>
ld1 .p (a7.add 15) w4 λx8=>
(
Ad prog F.Am [.pointer x6,.pointer x8,iV stamp] w4 true Vk λr9 w10=>
Ak [hd 7 (a7.add 15) w4,hd 3 (a5.add 18) w4] w10∧(
Bj z2' T.Bl w10 λp11 w12=>
Ak [hd 7 (a7.add 15) w4,hd 3 (a5.add 18) w4] w12∧(
Au (encs bI r9.1) p11 0 w12 λw13=>
Ak [] w13∧(
J1 (p11,r9.2.1.1,()) w13))))∧(
Bj z2' T.Bl w4 λp14 w15=>
Ak [hd 7 (a7.add 15) w4,hd 3 (a5.add 18) w4] w15∧(
Ad prog F.Am [.pointer x6,.pointer x8,iV stamp] w15 true Vk λr16 w17=>
Ak [] w17∧(
Au (encs bI r16.1) p14 0 w17 λw18=>
Ak [] w18∧(
J1 (p14,r16.2.1.1,()) w18))))) (λ(z2:(Addr)×(Int)×Unit) w3=> ∀_:Nat→Value,
Bj Aw8 T.Dx w3 λp19 w20=>
Au [iV f0,iV f1,iV f2,iV f3,iV f4,iV f5,uV f6,iV f7] p19 0 w20 λw21=>
Bh (λ(J22:((Addr)×(Bool)×Unit)→WP)=>
I8 w21 λw25=>
A7 n λa26=>
ld1 .p (a26.add 17) w25 λx27=>
Bc Aru p19 0 w25 λx28=>
(
Ad prog F.Ij [.pointer x27,Rl Aru x28,iV stamp] w25 true aC λr29 w30=>
Ak [hd 4 (p19.add 0) w25,hd 4 (p19.add 1) w25,hd 4 (p19.add 2) w25,hd 4 (p19.add 3) w25,hd 4 (p19.add 4) w25,hd 4 (p19.add 5) w25,hd 4 (p19.add 6) w25,hd 4 (p19.add 7) w25,hd 3 (a26.add 17) w25] w30∧(
Bj z3' T.Bq w30 λp31 w32=>
Ak [hd 4 (p19.add 0) w25,hd 4 (p19.add 1) w25,hd 4 (p19.add 2) w25,hd 4 (p19.add 3) w25,hd 4 (p19.add 4) w25,hd 4 (p19.add 5) w25,hd 4 (p19.add 6) w25,hd 4 (p19.add 7) w25,hd 3 (a26.add 17) w25] w32∧(
Au (encs k2' r29.1) p31 0 w32 λw33=>
Ak [] w33∧(
J22 (p31,r29.2.1.1,()) w33))))∧(
Bj z3' T.Bq w25 λp34 w35=>
Ak [hd 4 (p19.add 0) w25,hd 4 (p19.add 1) w25,hd 4 (p19.add 2) w25,hd 4 (p19.add 3) w25,hd 4 (p19.add 4) w25,hd 4 (p19.add 5) w25,hd 4 (p19.add 6) w25,hd 4 (p19.add 7) w25,hd 3 (a26.add 17) w25] w35∧(
Ad prog F.Ij [.pointer x27,Rl Aru x28,iV stamp] w35 true aC λr36 w37=>
Ak [] w37∧(
Au (encs k2' r36.1) p34 0 w37 λw38=>
Ak [] w38∧(
J22 (p34,r36.2.1.1,()) w38))))) (λ(z23:(Addr)×(Bool)×Unit) w24=> ∀_:Nat→Value,
Aj z23.2.1 (
I8 w24 λw39=>
A7 n λa40=>
ld1 .p (a40.add 18) w39 λx41=>
Bc k2' z23.1 0 w39 λx42=>
ld1 KI (p19.add 5) w39 λx43=>
ld1 KU (p19.add 6) w39 λx44=>
Ad prog F.Iy [.pointer x41,Rl k2' x42,.agg #[iV x43,uV x44]] w39 false r3' λr45 w46=>
Ak [hd 8 (p19.add 6) w39,hd 6 (p19.add 5) w39] w46∧(
R ((0,()),()) w46)) (
R ((0,()),()) w24))))→Ad prog F.Dz [.pointer n,.iface T.Dx (.agg #[iV f0,iV f1,iV f2,iV f3,iV f4,iV f5,uV f6,iV f7]),iV stamp] w false r3' R:=
 Cb Aa Tryz.func108 (.s .n (.ct [(7,.a),(8,(.i .i64))] (.pl (ks [0,1,2,3,4,5,6,7,8] (.two 9 13 (ks [10,11,12] (.ef 13 [] (.ef 14 [3,7] (.tk 15 .z)))) (.ef 9 [3,7] (ks [10,11,12] (.ef 14 [] (.tk 15 .z))))))) (.s (hs 10 (.s (.s .n (.ct [(14,.a),(15,.b)] (.pl (ks [0,1,2,3,4,5] (.two 6 10 (ks [7,8,9] (.ef 10 [] (.ef 11 [3,4] (.tk 12 .z)))) (.ef 6 [3,4] (ks [7,8,9] (.ef 11 [] (.tk 12 .z))))))) (.s .n (.s (.pl (ks [0,1,2,3,4,5,6,7,8,9] (.ef 10 [3,4] .z))) .n)))) .n)) .n)))
theorem Am.ok{s f:Option Addr}{local_:Int}{w:World}: ∀⦃R:TR Vk→WP⦄,(
Bj z2' T.Bl w λp1 w2=>
Bh (λ(J3:((Bool)×Unit)→WP)=>
Aj (Option.isNone s) (
J3 (true,()) w2) (
J3 ((Option.isNone f),()) w2)) (λ(z4:(Bool)×Unit) w5=> ∀_:Nat→Value,
Aj z4.1 (
Au z2' p1 0 w5 λw6=>
Bc bI p1 0 w6 λx7=>
R (x7,(2,()),()) w6) (
Ad prog F.Az [.pointer f] w5 false r0' λr8 w9=>
Aj r8.1.1 (
Ad prog F.Ot [.pointer f,iV local_] w9 true Vk λr10 w11=>
Au (encs bI r10.1) p1 0 w11 λw12=>
Bc bI p1 0 w12 λx13=>
R (x13,(r10.2.1.1,()),()) w12) (
A7 s λa14=>
ld1 .b (a14.add 7) w9 λx15=>
Aj (!x15) (
Au z2' p1 0 w9 λw16=>
Bc bI p1 0 w16 λx17=>
R (x17,(9,()),()) w16) (
Aj (decide (local_<0)) (
Au z2' p1 0 w9 λw18=>
Bc bI p1 0 w18 λx19=>
R (x19,(8,()),()) w18) (
Aj (decide (local_>1125899906842624)) (
Au z2' p1 0 w9 λw20=>
Bc bI p1 0 w20 λx21=>
R (x21,(8,()),()) w20) (
A7 s λa22=>
ld1 KI ((a22.add 1).add 1) w9 λx23=>
Aj (decide ((wrap .i64 (local_+x23))<0)) (
Au z2' p1 0 w9 λw24=>
Bc bI p1 0 w24 λx25=>
R (x25,(8,()),()) w24) (
Aj (decide ((wrap .i64 (local_+x23))>1125899906842624)) (
Au z2' p1 0 w9 λw26=>
Bc bI p1 0 w26 λx27=>
R (x27,(8,()),()) w26) (
I8 w9 λw28=>
A7 s λa29=>
ld1 KI ((a29.add 1).add 2) w28 λx30=>
A7 s λa31=>
Bc [KI,KU] (a31.add 4) 0 w28 λx32=>
Au [iV (wrap .i64 (local_+x23)),iV x30,iV x32.1,uV x32.2.1,iV 3] p1 0 w28 λw33=>
Ak [] w33∧(
Bc bI p1 0 w33 λx34=>
R (x34,(0,()),()) w33))))))))))→Ad prog F.Am [.pointer s,.pointer f,iV local_] w true Vk R:=
 Cb Aa Tryz.func109 (.s .n (.s (.ct [(9,.b)] .n .n) (hs 2 (.s (.pl (ks [0,1,2,3,4,5,6,7,8,9,10] (.ef 11 [5,9] (.tk 12 .z)))) .n))))
theorem Ew.ok{c:Option Addr}{w:World}: ∀⦃R:TR r3'→WP⦄,(
Aj (Option.isNone c) (
R ((0,()),()) w) (
A7 c λa1=>
ld1 KI (a1.add 2) w λx2=>
R ((x2,()),()) w))→Ad prog F.Ew [.pointer c] w false r3' R:=
 Cb Aa Tryz.func110 .n
theorem Us.ok{s:ByteArray}{w:World}: ∀⦃R:TR r0'→WP⦄,(
rgK s w λit1 w2=>
Aw (λ(self3:Unit→WP) (z4:Unit) w5=> ∀_:Nat→Value,
nxK it1 w5 (λw6=>
Aj ((s.size:Int)==1) (
R ((true,()),()) w6) (
Aj ((s.size:Int)==2) (
siK s 0 λc10=>
R (((c10 !=48),()),()) w6) (
R ((false,()),()) w6))) λi8 c9 w7=>
Aj (decide (c9<48)) (
R ((false,()),()) w7) (
Aj (decide (c9>57)) (
R ((false,()),()) w7) (
self3 (()) w7))) (()) w2)→Ad prog F.Us [.string s] w false r0' R:=
 Cb Aa Tryz.func114 (.s .n (.s (.s .n (.lp [] .n)) .n))
theorem Eu.ok{r:Option Addr}{s:ByteArray}{w:World}: ∀⦃R:TR r3'→WP⦄⦃Z:Value→WP⦄,(
Ad prog F.Tc [.string s] w true aC λr1 w2=>
Bj z3' T.Qn w2 λp3 w4=>
Au (encs k2' r1.1) p3 0 w4 λw5=>
Bh (λ(J6:Unit→WP)=>
Aj (!r1.2.1.1) (
bV prog F.Ba [.pointer r,iV 3] w5 true [] (λr9 w10=>
J6 (()) w10) (λ(v11:Value) w12=>
Z v11 w12)) (
J6 (()) w5)) (λ(z7:Unit) w8=> ∀_:Nat→Value,
Bc k2' p3 0 w8 λx13=>
Ad prog F.F5 [Rl k2' x13] w8 true Wp λr14 w15=>
R ((r14.1.1,()),()) w15))→bV prog F.Eu [.pointer r,.string s] w false r3' R Z:=
 Ah1 Aa Tryz.func115 (hs 2 (.ct [] (.s .n (.s .pz .n)) .n))
theorem Dh.ok{s:ByteArray}{w:World}: ∀⦃R:TR r3'→WP⦄,(
Aw (λ(self1:((Int)×(Int)×Unit)→WP) (z2:(Int)×(Int)×Unit) w3=> ∀_:Nat→Value,
Aj (decide (z2.2.1<(s.size:Int))) (
siK s z2.2.1 λc4=>
Aj (decide (c4<48)) (
R (((Int.negSucc 0),()),()) w3) (
siK s z2.2.1 λc5=>
Aj (decide (c5>57)) (
R (((Int.negSucc 0),()),()) w3) (
siK s z2.2.1 λc6=>
self1 (wrap .i64 ((wrap .i64 (10*z2.1))+(wrap .i64 (wrap .u8 (c6-48)))),wrap .i64 (z2.2.1+1),()) w3))) (
R ((z2.1,()),()) w3)) (0,0,()) w)→Ad prog F.Dh [.string s] w false r3' R:=
 Cb Aa Tryz.func117 (hs 2 (.s (.s .n (.lp [(3,(.i .i64)),(4,(.i .i64))] .n)) .n))
theorem Q3.ok{d0 d1 d2:Int}{w:World}: ∀⦃R:TR r0'→WP⦄,(
Bj [iV d0,iV d1,iV d2] T.Ic w λp1 w2=>
I8 w2 λw3=>
ld1 KI p1 w3 λx4=>
Aj (decide (x4≥1)) (
ld1 KI p1 w3 λx5=>
Aj (decide (x5≤9999)) (
ld1 KI (p1.add 1) w3 λx6=>
Aj (decide (x6≥1)) (
ld1 KI (p1.add 1) w3 λx7=>
Aj (decide (x7≤12)) (
ld1 KI (p1.add 2) w3 λx8=>
Aj (decide (x8≥1)) (
ld1 KI (p1.add 2) w3 λx9=>
ld1 KI p1 w3 λx10=>
ld1 KI (p1.add 1) w3 λx11=>
Ad prog F.Ov [iV x10,iV x11] w3 false r3' λr12 w13=>
Ak [hd 25 (p1.add 2) w3,hd 20 (p1.add 2) w3,hd 15 (p1.add 1) w3,hd 10 (p1.add 1) w3,hd 5 p1 w3,hd 1 p1 w3] w13∧(
R ((decide (x9≤r12.1.1),()),()) w13)) (
R ((false,()),()) w3)) (
R ((false,()),()) w3)) (
R ((false,()),()) w3)) (
R ((false,()),()) w3)) (
R ((false,()),()) w3))→Ad prog F.Q3 [.agg #[iV d0,iV d1,iV d2]] w false r0' R:=
 Cb Aa Tryz.func118 (.s .n (.s (.pl (ks [0,1,2,3,4,5,6,7,8,9,10,11,12,13,14,15,16,17,18,19,20,21,22,23,24,25,26,27,28,29] (.ef 30 [27,29] (ks [31,32,33] .z)))) .n))
theorem Em.ok{n size:Int}{w:World}: ∀⦃R:TR dY→WP⦄,(
Qj ((Instr.makeSlice T.D6 (iV size) (iV size)).run prog w) λy1 w2=>
Aw (λ(self3:((Int)×(Int)×Unit)→WP) (z4:(Int)×(Int)×Unit) w5=> ∀_:Nat→Value,
Aj (decide (z4.2.1≥0)) (
Zm 10 (
Hf y1.1 y1.2.1 z4.2.1 λa6=>
Au [.int .u8 (wrap .u8 (wrap .i64 (48+(Int.tmod z4.1 10))))] (a6.add (z4.2.1.toNat*1)) 0 w5 λw7=>
Zm 10 (
self3 (wrap .i64 (Int.tdiv z4.1 10),wrap .i64 (z4.2.1-1),()) w7))) (
bsK prog (.slice y1.1 y1.2.1 y1.2.2) w5 λs8 w9=>
R ((s8,()),()) w9)) (n,wrap .i64 (size-1),()) w2)→Ad prog F.Em [iV n,iV size] w false dY R:=
 Cb Aa Tryz.func120 (hs 2 (.s (.s .n (.lp [(0,(.i .i64)),(6,(.i .i64))] .n)) .n))
theorem Cc.ok{yield:Nat}{c_cap0:Addr}{w:World}: ∀⦃R:TR []→WP⦄,(
ld1 .sl c_cap0 w λx1=>
Aw (λ(self2:((Int)×Unit)→WP) (z3:(Int)×Unit) w4=> ∀_:Nat→Value,
Aj (decide (z3.1<(x1.2.1:Int))) (
Hf x1.1 x1.2.1 z3.1 λa5=>
Bc [KI,KI] (a5.add (z3.1.toNat*2)) 0 w4 λx6=>
Bj [iV 0,iV 0] T.Ro w4 λp7 w8=>
Au [iV x6.1,iV x6.2.1] p7 0 w8 λw9=>
Bc [KI,KI] p7 0 w9 λx10=>
yiS prog yield [.agg #[iV x10.1,iV x10.2.1]] w9 λb11 w12=>
Aj (!b11) (
R (()) w12) (
self2 (wrap .i64 (z3.1+1),()) w12)) (
R (()) w4)) (0,()) w)→Ad prog F.Cc [.func (.yield yield) #[] #[],.pointer (some c_cap0)] w true [] R:=
 Cb Aa Tryz.func122 (.s .n (.lp [(7,(.i .i64))] .n))
theorem Qi.ok{n size:Int}{w:World}: ∀⦃R:TR dY→WP⦄,(
Aw (λ(self1:((Int)×(ByteArray)×(Int)×Unit)→WP) (z2:(Int)×(ByteArray)×(Int)×Unit) w3=> ∀_:Nat→Value,
Aj (decide (z2.2.2.1<size)) (
Zm 10 (
Bj [.int .u8 (wrap .u8 (wrap .i64 (48+(Int.tmod z2.1 10))))] T.uint8 w3 λp4 w5=>
bsK prog (.slice (some p4) 1 1) w5 λs6 w7=>
iF s6 z2.2.1 (
Zm 10 (
self1 (wrap .i64 (Int.tdiv z2.1 10),s6++z2.2.1,wrap .i64 (z2.2.2.1+1),()) w7)))) (
R ((z2.2.1,()),()) w3)) (n,⟨#[]⟩,0,()) w)→Ad prog F.Qi [iV n,iV size] w false dY R:=
 Cb Aa Tryz.func123 (hs 2 (.s (.s .n (.lp [(0,(.i .i64)),(5,.s),(6,(.i .i64))] .n)) .n))
theorem Uu.ok{year:Int}{w:World}: ∀⦃R:TR r0'→WP⦄,(
Zm 4 (
Aj ((Int.tmod year 4)==0) (
Zm 100 (
Aj ((Int.tmod year 100) !=0) (
R ((true,()),()) w) (
Zm 400 (
R ((((Int.tmod year 400)==0),()),()) w)))) (
R ((false,()),()) w)))→Ad prog F.Uu [iV year] w false r0' R:=
 Cb Aa Tryz.func124 .n
theorem Gz.ok{r0 r1 r2 r3:Int}{w:World}: ∀⦃R:TR r0'→WP⦄,(
Bj [iV r0,iV r1,iV r2,iV r3] T.gK w λp1 w2=>
Bc [KI,KI] p1 0 w2 λx3=>
Ad prog F.Gw [.agg #[iV x3.1,iV x3.2.1]] w2 false r0' λr4 w5=>
Aj r4.1.1 (
ld1 KI (p1.add 2) w5 λx6=>
Aj (decide (x6≥1)) (
ld1 KI (p1.add 2) w5 λx7=>
Aj (decide (x7≤8)) (
ld1 KI (p1.add 3) w5 λx8=>
Aj (decide (x8≥0)) (
ld1 KI (p1.add 3) w5 λx9=>
R ((decide (x9≤10),()),()) w5) (
R ((false,()),()) w5)) (
R ((false,()),()) w5)) (
R ((false,()),()) w5)) (
R ((false,()),()) w5))→Ad prog F.Gz [.agg #[iV r0,iV r1,iV r2,iV r3]] w false r0' R:=
 Cb Aa Tryz.func125 .n
theorem Gn.ok{p0 p1 p2:Int}{w:World}: ∀⦃R:TR r0'→WP⦄,(
Bj [iV p0,iV p1,iV p2] T.aS w λp3 w4=>
ld1 KI p3 w4 λx5=>
Aj (decide (x5≥1)) (
ld1 KI p3 w4 λx6=>
Aj (decide (x6≤64)) (
ld1 KI (p3.add 1) w4 λx7=>
Aj (decide (x7≥1)) (
ld1 KI (p3.add 1) w4 λx8=>
ld1 KI p3 w4 λx9=>
Aj (decide (x8≤x9)) (
ld1 KI (p3.add 2) w4 λx10=>
Aj (decide (x10≥0)) (
ld1 KI (p3.add 2) w4 λx11=>
ld1 KI p3 w4 λx12=>
R ((decide (x11<x12),()),()) w4) (
R ((false,()),()) w4)) (
R ((false,()),()) w4)) (
R ((false,()),()) w4)) (
R ((false,()),()) w4)) (
R ((false,()),()) w4))→Ad prog F.Gn [.agg #[iV p0,iV p1,iV p2]] w false r0' R:=
 Cb Aa Tryz.func126 .n
theorem Gp.ok{room:Int}{w:World}: ∀⦃R:TR iQ→WP⦄,(
Aj (decide (room<1)) (
R ((none,()),(1,()),()) w) (
Aj (decide (room>64)) (
R ((none,()),(1,()),()) w) (
Qj ((Instr.makeSlice T.Ve (iV room) (iV room)).run prog w) λy1 w2=>
Bj [.slice y1.1 y1.2.1 y1.2.2,iV 0,iV 0] T.dO w2 λp3 w4=>
R ((some p3,()),(0,()),()) w4)))→Ad prog F.Gp [iV room] w true iQ R:=
 Cb Aa Tryz.func127 .n
theorem V3.ok{me r0 r1:Int}{w:World}: ∀⦃R:TR iQ→WP⦄,(
Bj [iV r0,iV r1] T.oV w λp1 w2=>
Aj (decide (me<0)) (
R ((none,()),(1,()),()) w2) (
Aj (decide (me≥64)) (
R ((none,()),(1,()),()) w2) (
Bc [KI,KI] p1 0 w2 λx3=>
Ad prog F.Gw [.agg #[iV x3.1,iV x3.2.1]] w2 false r0' λr4 w5=>
Aj (!r4.1.1) (
R ((none,()),(1,()),()) w5) (
Bc [KI,KI] p1 0 w5 λx6=>
Bj [iV me,iV x6.1,iV x6.2.1,uV 0,uV 0,iV 0,iV 0,iV 0,.map none] T.Ab8 w5 λp7 w8=>
Ad prog F.Gy [.pointer (some p7),uV 0] w8 true [] λr9 w10=>
R ((some p7,()),(0,()),()) w10))))→Ad prog F.V3 [iV me,.agg #[iV r0,iV r1]] w true iQ R:=
 Cb Aa Tryz.func128 .n
theorem Gt.ok{l:Option Addr}{i:Int}{w:World}: ∀⦃R:TR r0'→WP⦄,(
Aj (decide (i≥0)) (
Ad prog F.Hr [.pointer l] w false r3' λr1 w2=>
R ((decide (i<r1.1.1),()),()) w2) (
R ((false,()),()) w))→Ad prog F.Gt [.pointer l,iV i] w false r0' R:=
 Cb Aa Tryz.func129 .n
theorem Gy.ok{e:Option Addr}{boot:Int}{w:World}: ∀⦃R:TR []→WP⦄,(
Aj (!(Option.isNone e)) (
I8 w λw1=>
A7 e λa2=>
ld1 KI a2 w1 λx3=>
A7 e λa4=>
Bc [KI,KI] (a4.add 1) 0 w1 λx5=>
maK prog T.Qp w1 λm6 w7=>
Ak [hd 8 ((a4.add 1).add 0) w1,hd 8 ((a4.add 1).add 1) w1,hd 4 a2 w1] w7∧(
A7 e λa8=>
Au [iV x3,iV x5.1,iV x5.2.1,uV boot,uV 0,iV (Int.negSucc 0),iV 0,iV 0,.map (some m6)] a8 0 w7 λw9=>
Ak [] w9∧(
R (()) w9))) (
R (()) w))→Ad prog F.Gy [.pointer e,uV boot] w true [] R:=
 Cb Aa Tryz.func130 (.s .n (.s (.pl (ks [0,1,2,3,4,5,6,7,8,9] (.ef 10 [] (.tk 11 (.tk 12 (.ef 13 [4,8] .z)))))) .n))
theorem Eb.ok{f:Option Addr}{w:World}: ∀⦃R:TR []→WP⦄,(
A7 f λa1=>
Ad prog F.Fa [.pointer (some (a1.add 6))] w true [] λr2 w3=>
A7 f λa4=>
Au z3' (a4.add 7) 0 w3 λw5=>
R (()) w5)→Ad prog F.Eb [.pointer f] w true [] R:=
 Cb Aa Tryz.func131 .n
theorem D5.ok{r:Option Addr}{w:World}: ∀⦃R:TR []→WP⦄,(
Aj (!(Option.isNone r)) (
A7 r λa1=>
ld1 .sl a1 w λx2=>
crK prog #[T.Ve] T.t0 (.slice x2.1 x2.2.1 x2.2.2) w λw3=>
A7 r λa4=>
Au [iV 0] (a4.add 1) 0 w3 λw5=>
A7 r λa6=>
Au [iV 0] (a6.add 2) 0 w5 λw7=>
R (()) w7) (
R (()) w))→Ad prog F.D5 [.pointer r] w true [] R:=
 Cb Aa Tryz.func132 .n
theorem Ht.ok{c:Option Addr}{ticks:Int}{w:World}: ∀⦃R:TR r0'→WP⦄,(
Aj (!(Option.isNone c)) (
A7 c λa1=>
ld1 KI a1 w λx2=>
Aj (decide (ticks≥(wrap .i64 (1000-x2)))) (
A7 c λa3=>
ld1 KI a3 w λx4=>
R ((decide (ticks≤(wrap .i64 (1000+x4))),()),()) w) (
R ((false,()),()) w)) (
R ((false,()),()) w))→Ad prog F.Ht [.pointer c,iV ticks] w false r0' R:=
 Cb Aa Tryz.func133 .n
theorem Bz.ok{e:Option Addr}{w:World}: ∀⦃R:TR r3'→WP⦄,(
Aj (Option.isNone e) (
R (((Int.negSucc 0),()),()) w) (
A7 e λa1=>
ld1 KI (a1.add 5) w λx2=>
R ((x2,()),()) w))→Ad prog F.Bz [.pointer e] w false r3' R:=
 Cb Aa Tryz.func134 .n
theorem A8.ok{e:Option Addr}{w:World}: ∀⦃R:TR r0'→WP⦄,(
I8 w λw1=>
Aj (!(Option.isNone e)) (
A7 e λa2=>
ld1 KI (a2.add 5) w1 λx3=>
A7 e λa4=>
ld1 KI a4 w1 λx5=>
R (((x3==x5),()),()) w1) (
R ((false,()),()) w1))→Ad prog F.A8 [.pointer e] w false r0' R:=
 Cb Aa Tryz.func135 (.s .n (.s (.pl (ks [0,1,2,3,4,5,6,7,8,9,10,11,12,13] .z)) .n))
theorem Az.ok{f:Option Addr}{w:World}: ∀⦃R:TR r0'→WP⦄,(
I8 w λw1=>
Aj (!(Option.isNone f)) (
A7 f λa2=>
ld1 .p a2 w1 λx3=>
Ad prog F.A8 [.pointer x3] w1 false r0' λr4 w5=>
Ak [hd 6 a2 w1] w5∧(
Aj r4.1.1 (
R ((true,()),()) w5) (
A7 f λa6=>
A7 f λa7=>
ld1 KI ((a7.add 2).add 2) w5 λx8=>
Ad prog F.C9 [.pointer (some (a6.add 6))] w5 false r3' λr9 w10=>
Ak [hd 17 ((a7.add 2).add 2) w5,hd 6 a2 w1] w10∧(
R ((decide (r9.1.1≥x8),()),()) w10)))) (
R ((false,()),()) w1))→Ad prog F.Az [.pointer f] w false r0' R:=
 Cb Aa Tryz.func136 (.s .n (.s (.pl (ks [0,1,2,3,4,5,6] (.ef 7 [] (ks [8,9,10,11,13,14,15,16,17] (.ef 12 [] (ks [18,19,20,21] .z)))))) .n))
theorem G8.ok{f:Option Addr}{w:World}: ∀⦃R:TR r3'→WP⦄,(
Aj (Option.isNone f) (
R ((0,()),()) w) (
A7 f λa1=>
Ad prog F.C9 [.pointer (some (a1.add 6))] w false r3' λr2 w3=>
R ((r2.1.1,()),()) w3))→Ad prog F.G8 [.pointer f] w false r3' R:=
 Cb Aa Tryz.func137 .n
theorem Ik.ok{l:Option Addr}{w:World}: ∀⦃R:TR r3'→WP⦄,(
Aj (Option.isNone l) (
R (((Int.negSucc 0),()),()) w) (
A7 l λa1=>
ld1 KI (a1.add 1) w λx2=>
R ((x2,()),()) w))→Ad prog F.Ik [.pointer l] w false r3' R:=
 Cb Aa Tryz.func138 .n
theorem Ea.ok{l:Option Addr}{w:World}: ∀⦃R:TR r3'→WP⦄,(
Aj (Option.isNone l) (
R (((Int.negSucc 0),()),()) w) (
A7 l λa1=>
ld1 KI (a1.add 2) w λx2=>
R ((x2,()),()) w))→Ad prog F.Ea [.pointer l] w false r3' R:=
 Cb Aa Tryz.func139 .n
theorem Nh.ok{p:Option Addr}{w:World}: ∀⦃R:TR r0'→WP⦄,(
Aj (!(Option.isNone p)) (
A7 p λa1=>
ld1 .b (a1.add 3) w λx2=>
R ((x2,()),()) w) (
R ((false,()),()) w))→Ad prog F.Nh [.pointer p] w false r0' R:=
 Cb Aa Tryz.func140 .n
theorem Dj.ok{r:Option Addr}{w:World}: ∀⦃R:TR r3'→WP⦄,(
Aj (Option.isNone r) (
R ((0,()),()) w) (
A7 r λa1=>
ld1 KI (a1.add 2) w λx2=>
R ((x2,()),()) w))→Ad prog F.Dj [.pointer r] w false r3' R:=
 Cb Aa Tryz.func141 .n
theorem P9.ok{l:Option Addr}{w:World}: ∀⦃R:TR r3'→WP⦄,(
Aj (Option.isNone l) (
R ((0,()),()) w) (
A7 l λa1=>
ld1 .p a1 w λx2=>
Ad prog F.Ee [.pointer x2] w false r3' λr3 w4=>
R ((r3.1.1,()),()) w4))→Ad prog F.P9 [.pointer l] w false r3' R:=
 Cb Aa Tryz.func142 .n
theorem Rz.ok{last raw:Int}{w:World}: ∀⦃R:TR Wp→WP⦄,(
Aj (decide (last<0)) (
R ((0,()),(false,()),()) w) (
Aj (decide (last>1125899906842624)) (
R ((0,()),(false,()),()) w) (
Aj (decide ((wrap .i64 (last+(wrap .i64 (wrap .u32 (raw-(wrap .u32 last))))))>1125899906842624)) (
R ((0,()),(false,()),()) w) (
R ((wrap .i64 (last+(wrap .i64 (wrap .u32 (raw-(wrap .u32 last))))),()),(true,()),()) w))))→Ad prog F.Rz [iV last,.int .u32 raw] w true Wp R:=
 Cb Aa Tryz.func143 .n
theorem Ou.ok{p0 p1 p2 step:Int}{w:World}: ∀⦃R:TR r0'→WP⦄,(
Bj [iV p0,iV p1,iV p2] T.aS w λp3 w4=>
I8 w4 λw5=>
Bc k2' p3 0 w5 λx6=>
Ad prog F.Gn [Rl k2' x6] w5 false r0' λr7 w8=>
Ak [] w8∧(
Aj r7.1.1 (
Aj (decide (step≥0)) (
ld1 KI p3 w8 λx9=>
Zm x9 (
ld1 KI (p3.add 2) w8 λx10=>
R ((((Int.tmod step x9)==x10),()),()) w8)) (
R ((false,()),()) w8)) (
R ((false,()),()) w8)))→Ad prog F.Ou [.agg #[iV p0,iV p1,iV p2],iV step] w false r0' R:=
 Cb Aa Tryz.func144 (.s .n (.s (.pl (.tk 0 (.ef 1 [0] (ks [2,3,4,5,6,7,8,9,10,11,12,13,14,15] .z)))) .n))
theorem Jw.ok{f:Option Addr}{local_:Int}{w:World}: ∀⦃R:TR Ah4→WP⦄,(
Bj z9' T.Ci w λp1 w2=>
Aj (Option.isNone f) (
Au z9' p1 0 w2 λw3=>
Bc aU p1 0 w3 λx4=>
R (x4,(false,()),()) w3) (
Bh (λ(J5:Unit→WP)=>
A7 f λa8=>
ld1 .p a8 w2 λx9=>
Ad prog F.Jr [.pointer x9] w2 false r0' λr10 w11=>
Aj r10.1.1 (
Ad prog F.Eb [.pointer f] w11 true [] λr12 w13=>
J5 (()) w13) (
J5 (()) w11)) (λ(z6:Unit) w7=> ∀_:Nat→Value,
Aj (decide (local_<0)) (
Au z9' p1 0 w7 λw14=>
Bc aU p1 0 w14 λx15=>
R (x15,(false,()),()) w14) (
Aj (decide (local_>1125899906842624)) (
Au z9' p1 0 w7 λw16=>
Bc aU p1 0 w16 λx17=>
R (x17,(false,()),()) w16) (
Ad prog F.Jo [.pointer f,iV local_] w7 true Ah4 λr18 w19=>
Bj z9' T.Ci w19 λp20 w21=>
Au (encs aU r18.1) p20 0 w21 λw22=>
Aj (!r18.2.1.1) (
Au z9' p1 0 w22 λw23=>
Bc aU p1 0 w23 λx24=>
R (x24,(false,()),()) w23) (
Bc aU p20 0 w22 λx25=>
Au (encs aU x25) p1 0 w22 λw26=>
Bc aU p1 0 w26 λx27=>
R (x27,(true,()),()) w26))))))→Ad prog F.Jw [.pointer f,iV local_] w true Ah4 R:=
 Cb Aa Tryz.func145 (hs 2 (.ct [] .n .n))
theorem Ie.ok{s:Option Addr}{w:World}: ∀⦃R:TR []→WP⦄,(
Aj (Option.isNone s) (
R (()) w) (
A7 s λa1=>
ld1 .b (a1.add 7) w λx2=>
Aj (!x2) (
R (()) w) (
A7 s λa3=>
ld1 KI (a3.add 6) w λx4=>
A7 s λa5=>
Au [iV (wrap .i64 (x4+1))] (a5.add 6) 0 w λw6=>
I8 w6 λw7=>
A7 s λa8=>
ld1 KI (a8.add 6) w7 λx9=>
A7 s λa10=>
ld1 KI a10 w7 λx11=>
Aj (decide (x9≥x11)) (
Ad prog F.Fh [.pointer s] w7 true [] λr12 w13=>
R (()) w13) (
R (()) w7))))→Ad prog F.Ie [.pointer s] w true [] R:=
 Cb Aa Tryz.func146 (hs 2 (.s (.pl (ks [0,1,2,3,4,5,6,7,8] .z)) .n))
theorem Oe.ok{p:Option Addr}{w:World}: ∀⦃R:TR r0'→WP⦄,(
Aj (Option.isNone p) (
R ((false,()),()) w) (
A7 p λa1=>
ld1 .b (a1.add 3) w λx2=>
Aj (!x2) (
A7 p λa3=>
ld1 KI (a3.add 6) w λx4=>
A7 p λa5=>
Au [iV (if 0>(wrap .i64 (x4-1)) then 0 else(wrap .i64 (x4-1)))] (a5.add 6) 0 w λw6=>
R ((false,()),()) w6) (
A7 p λa7=>
ld1 KI (a7.add 4) w λx8=>
A7 p λa9=>
Au [iV (wrap .i64 (x8+1))] (a9.add 4) 0 w λw10=>
A7 p λa11=>
ld1 KI (a11.add 4) w10 λx12=>
Aj (decide (x12<2)) (
R ((false,()),()) w10) (
A7 p λa13=>
Au [.bool false] (a13.add 3) 0 w10 λw14=>
A7 p λa15=>
ld1 KI (a15.add 5) w14 λx16=>
A7 p λa17=>
Au [iV (wrap .i64 (x16+1))] (a17.add 5) 0 w14 λw18=>
A7 p λa19=>
ld1 KI (a19.add 5) w18 λx20=>
dK x20 (
A7 p λa21=>
Au [iV (wrap .i64 ((Ib .i64 1 x20)-1))] (a21.add 6) 0 w18 λw22=>
A7 p λa23=>
ld1 KI (a23.add 5) w22 λx24=>
Aj (decide (x24<3)) (
R ((false,()),()) w22) (
A7 p λa25=>
Au [iV 0] (a25.add 5) 0 w22 λw26=>
A7 p λa27=>
Au [iV 0] (a27.add 6) 0 w26 λw28=>
R ((true,()),()) w28))))))→Ad prog F.Oe [.pointer p] w false r0' R:=
 Cb Aa Tryz.func147 .n
theorem Hz.ok{o:Option Addr}{f:Value}{ok:Bool}{w:World}: ∀⦃R:TR []→WP⦄,(
Aj (!ok) (
R (()) w) (
A7 o λa1=>
ld1 .sl a1 w λx2=>
Aj (decide ((x2.2.1:Int)≥3)) (
R (()) w) (
Ad prog F.Gf [f] w true iR λr3 w4=>
Aj (r3.2.1.1==0) (
A7 o λa5=>
ld1 .sl a5 w4 λx6=>
Bj [.slice r3.1.1.1 r3.1.1.2.1 r3.1.1.2.2] T.D6 w4 λp7 w8=>
Qj ((Builtin.append_ #[T.Zp,T.Zp] T.Zp #[.slice x6.1 x6.2.1 x6.2.2,.slice (some p7) 1 1]).run prog w8) λy9 w10=>
A7 o λa11=>
Au [.slice y9.1 y9.2.1 y9.2.2] a11 0 w10 λw12=>
R (()) w12) (
R (()) w4))))→Ad prog F.Hz [.pointer o,f,.bool ok] w true [] R:=
 Cb Aa Tryz.func148 .n
theorem Fg.ok{r:Option Addr}{w:World}: ∀⦃R:TR mZ→WP⦄,(
Ad prog F.Dj [.pointer r] w false r3' λr1 w2=>
Aj (r1.1.1==0) (
R ((.nilIface,()),(false,()),()) w2) (
I8 w2 λw3=>
A7 r λa4=>
ld1 .sl a4 w3 λx5=>
A7 r λa6=>
ld1 KI (a6.add 1) w3 λx7=>
Hf x5.1 x5.2.1 x7 λa8=>
ld1 .any (a8.add (x7.toNat*1)) w3 λx9=>
I8 w3 λw10=>
A7 r λa11=>
ld1 .sl a11 w10 λx12=>
A7 r λa13=>
ld1 KI (a13.add 1) w10 λx14=>
Hf x12.1 x12.2.1 x14 λa15=>
Au [.nilIface] (a15.add (x14.toNat*1)) 0 w10 λw16=>
Ak [] w16∧(
I8 w16 λw17=>
A7 r λa18=>
ld1 KI (a18.add 1) w17 λx19=>
A7 r λa20=>
ld1 .sl a20 w17 λx21=>
Zm (x21.2.1:Int) (
A7 r λa22=>
Au [iV (Int.tmod (wrap .i64 (x19+1)) (x21.2.1:Int))] (a22.add 1) 0 w17 λw23=>
Ak [] w23∧(
A7 r λa24=>
ld1 KI (a24.add 2) w23 λx25=>
A7 r λa26=>
Au [iV (wrap .i64 (x25-1))] (a26.add 2) 0 w23 λw27=>
R ((x9,()),(true,()),()) w27)))))→Ad prog F.Fg [.pointer r] w true mZ R:=
 Cb Aa Tryz.func149 (hs 3 (.s (.pl (ks [0,1,2,3,4,5,6,7,8,9,10] .z)) (.s (.pl (ks [0,1,2,3,4,5,6,7,8,9] (.ef 10 [3,7] .z))) (.s (.pl (ks [0,1,2,3,4,5,6,7,8,9,10,11,12,13] (.ef 14 [4,9] .z))) .n))))
theorem Oh.ok{n:Option Addr}{stamp:Int}{w:World}: ∀⦃R:TR mZ→WP⦄,(
A7 n λa1=>
ld1 .p (a1.add 16) w λx2=>
Ad prog F.Ea [.pointer x2] w false r3' λr3 w4=>
Aj (decide (r3.1.1<0)) (
A7 n λa5=>
ld1 KI a5 w4 λx6=>
R ((.iface T.Ep (.agg #[iV x6]),()),(true,()),()) w4) (
I8 w4 λw7=>
A7 n λa8=>
ld1 .p (a8.add 17) w7 λx9=>
A7 n λa10=>
ld1 .p (a10.add 16) w7 λx11=>
Ad prog F.Ea [.pointer x11] w7 false r3' λr12 w13=>
Ak [hd 7 (a10.add 16) w7,hd 3 (a8.add 17) w7] w13∧(
Ad prog F.P5 [.pointer x9,iV r12.1.1,iV stamp] w13 true aC λr14 w15=>
Ak [hd 7 (a10.add 16) w7] w15∧(
R ((.iface T.Dc (Rl k2' r14.1),()),(r14.2.1.1,()),()) w15))))→Ad prog F.Oh [.pointer n,iV stamp] w true mZ R:=
 Cb Aa Tryz.func150 (hs 2 (.s (.pl (ks [0,1,2,3,4,5,6,7,9] (.ef 8 [] (.ef 10 [3] (ks [11,12,13,14,15] .z))))) .n))
theorem Qd.ok{set_ i:Int}{w:World}: ∀⦃R:TR r0'→WP⦄,(
dK i (
R ((((Ez .and .u64 (I7 .u64 set_ i) 1)==1),()),()) w))→Ad prog F.Qd [.int .u64 set_,iV i] w false r0' R:=
 Cb Aa Tryz.func152 .n
theorem Gv.ok{f:Option Addr}{local_:Int}{w:World}: ∀⦃R:TR Apv→WP⦄,(
Aj (Option.isNone f) (
R ((0,()),(0,()),(2,()),()) w) (
Ad prog F.Az [.pointer f] w false r0' λr1 w2=>
Aj (!r1.1.1) (
R ((0,()),(0,()),(9,()),()) w2) (
Bh (λ(J3:((Bool)×Unit)→WP)=>
Aj (decide (local_<0)) (
J3 (true,()) w2) (
J3 (decide (local_>1125899906842624),()) w2)) (λ(z4:(Bool)×Unit) w5=> ∀_:Nat→Value,
Aj z4.1 (
R ((0,()),(0,()),(8,()),()) w5) (
A7 f λa6=>
ld1 .p a6 w5 λx7=>
Ad prog F.A8 [.pointer x7] w5 false r0' λr8 w9=>
Aj r8.1.1 (
R ((local_,()),(0,()),(0,()),()) w9) (
Bh (λ(J10:((Addr)×Unit)→WP)=>
I8 w9 λw13=>
A7 f λa14=>
ld1 KI ((a14.add 2).add 3) w13 λx15=>
A7 f λa16=>
(
Ad prog F.Va [iV x15,.pointer (some (a16.add 6))] w13 true Aep λr17 w18=>
Ak [hd 4 ((a14.add 2).add 3) w13] w18∧(
Bj rX T.iK w18 λp19 w20=>
Ak [hd 4 ((a14.add 2).add 3) w13] w20∧(
Au (encs mF r17.1) p19 0 w20 λw21=>
Ak [] w21∧(
J10 (p19,()) w21))))∧(
Bj rX T.iK w13 λp22 w23=>
Ak [hd 4 ((a14.add 2).add 3) w13] w23∧(
Ad prog F.Va [iV x15,.pointer (some (a16.add 6))] w23 true Aep λr24 w25=>
Ak [] w25∧(
Au (encs mF r24.1) p22 0 w25 λw26=>
Ak [] w26∧(
J10 (p22,()) w26))))) (λ(z11:(Addr)×Unit) w12=> ∀_:Nat→Value,
Bc mF z11.1 0 w12 λx27=>
Ad prog F.Jv [Rl mF x27,iV local_] w12 true Wp λr28 w29=>
Aj (!r28.2.1.1) (
R ((0,()),(0,()),(8,()),()) w29) (
I8 w29 λw30=>
ld1 KI (z11.1.add 4) w30 λx31=>
R ((r28.1.1,()),(x31,()),(0,()),()) w30))))))))→Ad prog F.Gv [.pointer f,iV local_] w true Apv R:=
 Cb Aa Tryz.func153 (.s .n (.s (hs 4 (.ct [(18,.b)] .n .n)) (.ct [(7,.a)] (.pl (ks [0,1,2,3,4,5,6,7] (.two 8 12 (ks [9,10,11] (.ef 12 [] (.ef 13 [4] (.tk 14 .z)))) (.ef 8 [4] (ks [9,10,11] (.ef 13 [] (.tk 14 .z))))))) (hs 2 (.s (.pl (ks [0,1,2,3,4,5] .z)) .n)))))
theorem L9.ok{p0 p1 p2 time guard:Int}{w:World}: ∀⦃R:TR r0'→WP⦄,(
Bj [iV p0,iV p1,iV p2] T.aS w λp3 w4=>
Bc k2' p3 0 w4 λx5=>
Ad prog F.Gn [Rl k2' x5] w4 false r0' λr6 w7=>
Aj (!r6.1.1) (
R ((true,()),()) w7) (
Aj (decide (guard<0)) (
R ((true,()),()) w7) (
Bc k2' p3 0 w7 λx8=>
Ad prog F.Fq [Rl k2' x8] w7 false r3' λr9 w10=>
Ad prog F.Jm [iV time,iV r9.1.1] w10 true Ad9 λr11 w12=>
Bc k2' p3 0 w12 λx13=>
Ad prog F.Fq [Rl k2' x13] w12 false r3' λr14 w15=>
ld1 KI (p3.add 1) w15 λx16=>
Aj (decide (r11.2.1.1<(wrap .i64 ((wrap .i64 (x16*1000))+(if r14.1.1<guard then r14.1.1 else guard))))) (
R ((true,()),()) w15) (
Bc k2' p3 0 w15 λx17=>
Ad prog F.Fq [Rl k2' x17] w15 false r3' λr18 w19=>
R ((decide (r11.2.1.1≥(wrap .i64 (r18.1.1-(if r14.1.1<guard then r14.1.1 else guard)))),()),()) w19))))→Ad prog F.L9 [.agg #[iV p0,iV p1,iV p2],iV time,iV guard] w false r0' R:=
 Cb Aa Tryz.func154 .n
theorem Yi.ok{r0 r1 r2 r3 p0 p1 p2 jitter:Int}{w:World}: ∀⦃R:TR Asy→WP⦄,(
Bj [iV r0,iV r1,iV r2,iV r3] T.gK w λp3 w4=>
Bj [iV p0,iV p1,iV p2] T.aS w4 λp5 w6=>
Bj Aur T.Sz w6 λp7 w8=>
ld1 KI (p3.add 3) w8 λx9=>
ld1 KI p3 w8 λx10=>
ld1 KI p5 w8 λx11=>
Au [iV x9,iV jitter,iV x10,iV x11] p7 0 w8 λw12=>
Bc eG p7 0 w12 λx13=>
R (x13,()) w12)→Ad prog F.Yi [.agg #[iV r0,iV r1,iV r2,iV r3],.agg #[iV p0,iV p1,iV p2],iV jitter] w false Asy R:=
 Cb Aa Tryz.func155 .n
theorem I4.ok{t0 t1 t2 t3 hops:Int}{w:World}: ∀⦃R:TR r3'→WP⦄,(
Bj [iV t0,iV t1,iV t2,iV t3] T.Sz w λp1 w2=>
Aj (decide (hops<0)) (
R ((0,()),()) w2) (
Aj (decide (hops>63)) (
R ((0,()),()) w2) (
I8 w2 λw3=>
Bc eG p1 0 w3 λx4=>
Bc eG p1 0 w3 λx5=>
Ad prog F.Me [Rl eG x4] w3 false r3' λr6 w7=>
Ak [hd 3 (p1.add 0) w3,hd 3 (p1.add 1) w3,hd 3 (p1.add 2) w3,hd 3 (p1.add 3) w3,hd 1 (p1.add 0) w3,hd 1 (p1.add 1) w3,hd 1 (p1.add 2) w3,hd 1 (p1.add 3) w3] w7∧(
Ad prog F.Jz [Rl eG x5] w7 false r3' λr8 w9=>
Ak [hd 1 (p1.add 0) w3,hd 1 (p1.add 1) w3,hd 1 (p1.add 2) w3,hd 1 (p1.add 3) w3] w9∧(
R ((wrap .i64 (hops*(wrap .i64 (r6.1.1+r8.1.1))),()),()) w9)))))→Ad prog F.I4 [.agg #[iV t0,iV t1,iV t2,iV t3],iV hops] w false r3' R:=
 Cb Aa Tryz.func156 (hs 2 (.s (.pl (ks [0,1,3] (.ef 2 [] (.ef 4 [3] (ks [5,6,7] .z))))) .n))
theorem Nw.ok{x low high:Int}{w:World}: ∀⦃R:TR r3'→WP⦄,(
R (((if low>(if high<x then high else x) then low else(if high<x then high else x)),()),()) w)→Ad prog F.Nw [iV x,iV low,iV high] w false r3' R:=
 Cb Aa Tryz.func157 .n
theorem Y2.ok{b:Option Addr×Nat×Nat}{w:World}: ∀⦃R:TR Y6→WP⦄,(
Qj ((Builtin.append_ #[T.D6,T.D6] T.D6 #[.slice none 0 0,.slice b.1 b.2.1 b.2.2]).run prog w) λy1 w2=>
Bj [.slice y1.1 y1.2.1 y1.2.2,iV 0] T.Agm w2 λp3 w4=>
R ((some p3,()),()) w4)→Ad prog F.Y2 [.slice b.1 b.2.1 b.2.2] w false Y6 R:=
 Cb Aa Tryz.func158 .n
theorem Ku.ok{e:Option Addr}{size:Int}{w:World}: ∀⦃R:TR Apb→WP⦄,(
Aj (decide (size<0)) (
R ((0,()),(false,()),()) w) (
Aj (decide (size>8)) (
R ((0,()),(false,()),()) w) (
Ad prog F.N7 [.pointer e] w false r3' λr1 w2=>
Aj (decide (size>r1.1.1)) (
R ((0,()),(false,()),()) w2) (
Aw (λ(self3:((Int)×(Int)×Unit)→WP) (z4:(Int)×(Int)×Unit) w5=> ∀_:Nat→Value,
Aj (decide (z4.2.1<size)) (
I8 w5 λw6=>
dK 8 (
A7 e λa7=>
ld1 .sl a7 w6 λx8=>
A7 e λa9=>
ld1 KI (a9.add 1) w6 λx10=>
Hf x8.1 x8.2.1 x10 λa11=>
ld1 (.i .u8) (a11.add (x10.toNat*1)) w6 λx12=>
A7 e λa13=>
ld1 KI (a13.add 1) w6 λx14=>
A7 e λa15=>
Au [iV (wrap .i64 (x14+1))] (a15.add 1) 0 w6 λw16=>
self3 (Ez .or .u64 (Ib .u64 z4.1 8) (wrap .u64 x12),wrap .i64 (z4.2.1+1),()) w16)) (
R ((z4.1,()),(true,()),()) w5)) (0,0,()) w2))))→Ad prog F.Ku [.pointer e,iV size] w true Apb R:=
 Cb Aa Tryz.func159 (hs 3 (.s (.s .n (.lp [(6,(.i .u64)),(20,(.i .i64))] (hs 2 (.s (.s (.pl (ks [0,1,2,3,4,5,6,7,8,9,10,11,12,13,14] .z)) .n) .n)))) .n))
theorem Qk.ok{k:Int}{w:World}: ∀⦃R:TR Ub→WP⦄,(
Aj (k==1) (
R ((.iface T.Ci (.agg #[iV 0,iV 0,uV 0,uV 0,iV 0,iV 0]),()),()) w) (
Aj (k==2) (
R ((.iface T.Du (.agg #[iV 0,iV 0]),()),()) w) (
Aj (k==3) (
R ((.iface T.Ep (.agg #[iV 0]),()),()) w) (
Aj (k==4) (
R ((.iface T.Dc (.agg #[iV 0,iV 0,iV 0]),()),()) w) (
Aj (k==5) (
R ((.iface T.Dx (.agg #[iV 0,iV 0,iV 0,iV 0,iV 0,iV 0,uV 0,iV 0]),()),()) w) (
Aj (k==6) (
R ((.iface T.Bv (.agg #[iV 0,uV 0,iV 0,uV 0,iV 0,iV 0]),()),()) w) (
R ((.nilIface,()),()) w)))))))→Ad prog F.Qk [.int .u64 k] w false Ub R:=
 Cb Aa Tryz.func160 .n
theorem Ye.ok{f0 f1 f2 f3 f4 f5:Int}{w:World}: ∀⦃R:TR r3'→WP⦄,(
Ad prog F.Fv [.agg #[iV f0,uV f1,iV f2,uV f3,iV f4,iV f5]] w false Gh λr1 w2=>
Aw (λ(self3:((Int)×(Int)×Unit)→WP) (z4:(Int)×(Int)×Unit) w5=> ∀_:Nat→Value,
Aj (decide (z4.2.1<(r1.1.1.2.1:Int))) (
Hf r1.1.1.1 r1.1.1.2.1 z4.2.1 λa6=>
Bc k2' (a6.add (z4.2.1.toNat*3)) 0 w5 λx7=>
Bj z3' T.Bf w5 λp8 w9=>
Au (encs k2' x7) p8 0 w9 λw10=>
ld1 KI p8 w10 λx11=>
self3 (wrap .i64 (z4.1+x11),wrap .i64 (z4.2.1+1),()) w10) (
R ((z4.1,()),()) w5)) (0,0,()) w2)→Ad prog F.Ii [.iface T.Bv (.agg #[iV f0,uV f1,iV f2,uV f3,iV f4,iV f5])] w false r3' R:=
 Cb Aa Tryz.func161 (hs 2 (.s (.s .n (.lp [(3,(.i .i64)),(9,(.i .i64))] .n)) .n))
theorem aF.ok{f0 f1 f2 f3 f4 f5:Int}{w:World}: ∀⦃R:TR r3'→WP⦄,(
Ad prog F.Df [.agg #[iV f0,iV f1,uV f2,uV f3,iV f4,iV f5]] w false Gh λr1 w2=>
Aw (λ(self3:((Int)×(Int)×Unit)→WP) (z4:(Int)×(Int)×Unit) w5=> ∀_:Nat→Value,
Aj (decide (z4.2.1<(r1.1.1.2.1:Int))) (
Hf r1.1.1.1 r1.1.1.2.1 z4.2.1 λa6=>
Bc k2' (a6.add (z4.2.1.toNat*3)) 0 w5 λx7=>
Bj z3' T.Bf w5 λp8 w9=>
Au (encs k2' x7) p8 0 w9 λw10=>
ld1 KI p8 w10 λx11=>
self3 (wrap .i64 (z4.1+x11),wrap .i64 (z4.2.1+1),()) w10) (
R ((z4.1,()),()) w5)) (0,0,()) w2)→Ad prog F.Ii [.iface T.Ci (.agg #[iV f0,iV f1,uV f2,uV f3,iV f4,iV f5])] w false r3' R:=
 Cb Aa Tryz.func161 (hs 2 (.s (.s .n (.lp [(3,(.i .i64)),(9,(.i .i64))] .n)) .n))
theorem Zy.ok{f0 f1:Int}{w:World}: ∀⦃R:TR r3'→WP⦄,(
Ad prog F.He [.agg #[iV f0,iV f1]] w false Gh λr1 w2=>
Aw (λ(self3:((Int)×(Int)×Unit)→WP) (z4:(Int)×(Int)×Unit) w5=> ∀_:Nat→Value,
Aj (decide (z4.2.1<(r1.1.1.2.1:Int))) (
Hf r1.1.1.1 r1.1.1.2.1 z4.2.1 λa6=>
Bc k2' (a6.add (z4.2.1.toNat*3)) 0 w5 λx7=>
Bj z3' T.Bf w5 λp8 w9=>
Au (encs k2' x7) p8 0 w9 λw10=>
ld1 KI p8 w10 λx11=>
self3 (wrap .i64 (z4.1+x11),wrap .i64 (z4.2.1+1),()) w10) (
R ((z4.1,()),()) w5)) (0,0,()) w2)→Ad prog F.Ii [.iface T.Du (.agg #[iV f0,iV f1])] w false r3' R:=
 Cb Aa Tryz.func161 (hs 2 (.s (.s .n (.lp [(3,(.i .i64)),(9,(.i .i64))] .n)) .n))
theorem Z9.ok{f0:Int}{w:World}: ∀⦃R:TR r3'→WP⦄,(
Ad prog F.Ej [.agg #[iV f0]] w false Gh λr1 w2=>
Aw (λ(self3:((Int)×(Int)×Unit)→WP) (z4:(Int)×(Int)×Unit) w5=> ∀_:Nat→Value,
Aj (decide (z4.2.1<(r1.1.1.2.1:Int))) (
Hf r1.1.1.1 r1.1.1.2.1 z4.2.1 λa6=>
Bc k2' (a6.add (z4.2.1.toNat*3)) 0 w5 λx7=>
Bj z3' T.Bf w5 λp8 w9=>
Au (encs k2' x7) p8 0 w9 λw10=>
ld1 KI p8 w10 λx11=>
self3 (wrap .i64 (z4.1+x11),wrap .i64 (z4.2.1+1),()) w10) (
R ((z4.1,()),()) w5)) (0,0,()) w2)→Ad prog F.Ii [.iface T.Ep (.agg #[iV f0])] w false r3' R:=
 Cb Aa Tryz.func161 (hs 2 (.s (.s .n (.lp [(3,(.i .i64)),(9,(.i .i64))] .n)) .n))
theorem Zd.ok{f0 f1 f2:Int}{w:World}: ∀⦃R:TR r3'→WP⦄,(
Ad prog F.Gi [.agg #[iV f0,iV f1,iV f2]] w false Gh λr1 w2=>
Aw (λ(self3:((Int)×(Int)×Unit)→WP) (z4:(Int)×(Int)×Unit) w5=> ∀_:Nat→Value,
Aj (decide (z4.2.1<(r1.1.1.2.1:Int))) (
Hf r1.1.1.1 r1.1.1.2.1 z4.2.1 λa6=>
Bc k2' (a6.add (z4.2.1.toNat*3)) 0 w5 λx7=>
Bj z3' T.Bf w5 λp8 w9=>
Au (encs k2' x7) p8 0 w9 λw10=>
ld1 KI p8 w10 λx11=>
self3 (wrap .i64 (z4.1+x11),wrap .i64 (z4.2.1+1),()) w10) (
R ((z4.1,()),()) w5)) (0,0,()) w2)→Ad prog F.Ii [.iface T.Dc (.agg #[iV f0,iV f1,iV f2])] w false r3' R:=
 Cb Aa Tryz.func161 (hs 2 (.s (.s .n (.lp [(3,(.i .i64)),(9,(.i .i64))] .n)) .n))
theorem Zj.ok{f0 f1 f2 f3 f4 f5 f6 f7:Int}{w:World}: ∀⦃R:TR r3'→WP⦄,(
Ad prog F.Gq [.agg #[iV f0,iV f1,iV f2,iV f3,iV f4,iV f5,uV f6,iV f7]] w false Gh λr1 w2=>
Aw (λ(self3:((Int)×(Int)×Unit)→WP) (z4:(Int)×(Int)×Unit) w5=> ∀_:Nat→Value,
Aj (decide (z4.2.1<(r1.1.1.2.1:Int))) (
Hf r1.1.1.1 r1.1.1.2.1 z4.2.1 λa6=>
Bc k2' (a6.add (z4.2.1.toNat*3)) 0 w5 λx7=>
Bj z3' T.Bf w5 λp8 w9=>
Au (encs k2' x7) p8 0 w9 λw10=>
ld1 KI p8 w10 λx11=>
self3 (wrap .i64 (z4.1+x11),wrap .i64 (z4.2.1+1),()) w10) (
R ((z4.1,()),()) w5)) (0,0,()) w2)→Ad prog F.Ii [.iface T.Dx (.agg #[iV f0,iV f1,iV f2,iV f3,iV f4,iV f5,uV f6,iV f7])] w false r3' R:=
 Cb Aa Tryz.func161 (hs 2 (.s (.s .n (.lp [(3,(.i .i64)),(9,(.i .i64))] .n)) .n))
theorem Yl.ok{b:Option Addr×Nat×Nat}{w:World}: ∀⦃R:TR As1→WP⦄,(
Aj (decide ((b.2.1:Int)<2)) (
R (((none,0,0),()),(false,()),()) w) (
Ad prog F.Xy [.slice b.1 b.2.1 b.2.2] w false aW λr1 w2=>
Aj (r1.1.1 !=0) (
R (((none,0,0),()),(false,()),()) w2) (
slK 0 (wrap .i64 ((b.2.1:Int)-2)) b.2.2 (
Qj ((Builtin.append_ #[T.D6,T.D6] T.D6 #[.slice none 0 0,.slice (slA b.1 b.2.2 (Int.toNat 0) 1) ((Int.toNat (wrap .i64 ((b.2.1:Int)-2)))-(Int.toNat 0)) (b.2.2-Int.toNat 0)]).run prog w2) λy3 w4=>
R (((y3.1,y3.2.1,y3.2.2),()),(true,()),()) w4))))→Ad prog F.Yl [.slice b.1 b.2.1 b.2.2] w true As1 R:=
 Cb Aa Tryz.func162 .n
theorem Yv.ok{f0 f1 f2 f3 f4 f5:Int}{n:Option Addr×Nat×Nat}{w:World}: ∀⦃R:TR Ub→WP⦄,(
Bj [.slice n.1 n.2.1 n.2.2] T.Qg w λp1 w2=>
Ad prog F.Ce [iV 0,.pointer (some p1)] w2 false r3' λr3 w4=>
Ad prog F.Np [iV 1,.pointer (some p1)] w4 false aW λr5 w6=>
Ad prog F.Ce [iV 2,.pointer (some p1)] w6 false r3' λr7 w8=>
Ad prog F.Np [iV 3,.pointer (some p1)] w8 false aW λr9 w10=>
Ad prog F.Ce [iV 4,.pointer (some p1)] w10 false r3' λr11 w12=>
Ad prog F.Ce [iV 5,.pointer (some p1)] w12 false r3' λr13 w14=>
R ((.iface T.Bv (.agg #[iV r3.1.1,uV r5.1.1,iV r7.1.1,uV r9.1.1,iV r11.1.1,iV r13.1.1]),()),()) w14)→Ad prog F.Ir [.iface T.Bv (.agg #[iV f0,uV f1,iV f2,uV f3,iV f4,iV f5]),.slice n.1 n.2.1 n.2.2] w false Ub R:=
 Cb Aa Tryz.func163 .n
theorem Zx.ok{f0 f1 f2 f3 f4 f5:Int}{n:Option Addr×Nat×Nat}{w:World}: ∀⦃R:TR Ub→WP⦄,(
Bj [.slice n.1 n.2.1 n.2.2] T.Qg w λp1 w2=>
Ad prog F.Ce [iV 0,.pointer (some p1)] w2 false r3' λr3 w4=>
Ad prog F.Ce [iV 1,.pointer (some p1)] w4 false r3' λr5 w6=>
Ad prog F.Np [iV 2,.pointer (some p1)] w6 false aW λr7 w8=>
Ad prog F.Np [iV 3,.pointer (some p1)] w8 false aW λr9 w10=>
Ad prog F.Ce [iV 4,.pointer (some p1)] w10 false r3' λr11 w12=>
Ad prog F.Ce [iV 5,.pointer (some p1)] w12 false r3' λr13 w14=>
R ((.iface T.Ci (.agg #[iV r3.1.1,iV r5.1.1,uV r7.1.1,uV r9.1.1,iV r11.1.1,iV r13.1.1]),()),()) w14)→Ad prog F.Ir [.iface T.Ci (.agg #[iV f0,iV f1,uV f2,uV f3,iV f4,iV f5]),.slice n.1 n.2.1 n.2.2] w false Ub R:=
 Cb Aa Tryz.func163 .n
theorem aA.ok{f0 f1:Int}{n:Option Addr×Nat×Nat}{w:World}: ∀⦃R:TR Ub→WP⦄,(
Bj [.slice n.1 n.2.1 n.2.2] T.Qg w λp1 w2=>
Ad prog F.Ce [iV 0,.pointer (some p1)] w2 false r3' λr3 w4=>
Ad prog F.Ce [iV 1,.pointer (some p1)] w4 false r3' λr5 w6=>
R ((.iface T.Du (.agg #[iV r3.1.1,iV r5.1.1]),()),()) w6)→Ad prog F.Ir [.iface T.Du (.agg #[iV f0,iV f1]),.slice n.1 n.2.1 n.2.2] w false Ub R:=
 Cb Aa Tryz.func163 .n
theorem Z5.ok{f0:Int}{n:Option Addr×Nat×Nat}{w:World}: ∀⦃R:TR Ub→WP⦄,(
Bj [.slice n.1 n.2.1 n.2.2] T.Qg w λp1 w2=>
Ad prog F.Ce [iV 0,.pointer (some p1)] w2 false r3' λr3 w4=>
R ((.iface T.Ep (.agg #[iV r3.1.1]),()),()) w4)→Ad prog F.Ir [.iface T.Ep (.agg #[iV f0]),.slice n.1 n.2.1 n.2.2] w false Ub R:=
 Cb Aa Tryz.func163 .n
theorem Ze.ok{f0 f1 f2:Int}{n:Option Addr×Nat×Nat}{w:World}: ∀⦃R:TR Ub→WP⦄,(
Bj [.slice n.1 n.2.1 n.2.2] T.Qg w λp1 w2=>
Ad prog F.Ce [iV 0,.pointer (some p1)] w2 false r3' λr3 w4=>
Ad prog F.Ce [iV 1,.pointer (some p1)] w4 false r3' λr5 w6=>
Ad prog F.Ce [iV 2,.pointer (some p1)] w6 false r3' λr7 w8=>
R ((.iface T.Dc (.agg #[iV r3.1.1,iV r5.1.1,iV r7.1.1]),()),()) w8)→Ad prog F.Ir [.iface T.Dc (.agg #[iV f0,iV f1,iV f2]),.slice n.1 n.2.1 n.2.2] w false Ub R:=
 Cb Aa Tryz.func163 .n
theorem Y9.ok{f0 f1 f2 f3 f4 f5 f6 f7:Int}{n:Option Addr×Nat×Nat}{w:World}: ∀⦃R:TR Ub→WP⦄,(
Bj [.slice n.1 n.2.1 n.2.2] T.Qg w λp1 w2=>
Ad prog F.Ce [iV 0,.pointer (some p1)] w2 false r3' λr3 w4=>
Ad prog F.Ce [iV 1,.pointer (some p1)] w4 false r3' λr5 w6=>
Ad prog F.Ce [iV 2,.pointer (some p1)] w6 false r3' λr7 w8=>
Ad prog F.Ce [iV 3,.pointer (some p1)] w8 false r3' λr9 w10=>
Ad prog F.Ce [iV 4,.pointer (some p1)] w10 false r3' λr11 w12=>
Ad prog F.Ce [iV 5,.pointer (some p1)] w12 false r3' λr13 w14=>
Ad prog F.Np [iV 6,.pointer (some p1)] w14 false aW λY7 w16=>
Ad prog F.Ce [iV 7,.pointer (some p1)] w16 false r3' λr17 w18=>
R ((.iface T.Dx (.agg #[iV r3.1.1,iV r5.1.1,iV r7.1.1,iV r9.1.1,iV r11.1.1,iV r13.1.1,uV Y7.1.1,iV r17.1.1]),()),()) w18)→Ad prog F.Ir [.iface T.Dx (.agg #[iV f0,iV f1,iV f2,iV f3,iV f4,iV f5,uV f6,iV f7]),.slice n.1 n.2.1 n.2.2] w false Ub R:=
 Cb Aa Tryz.func163 .n
theorem Yt.ok{f0 f1 f2 f3 f4 f5:Int}{w:World}: ∀⦃R:TR r0'→WP⦄,(
Ad prog F.Dv [.iface T.Bv (.agg #[iV f0,uV f1,iV f2,uV f3,iV f4,iV f5])] w false Xt λr1 w2=>
Aj (r1.1.1==0) (
R ((false,()),()) w2) (
Ad prog F.Fv [.agg #[iV f0,uV f1,iV f2,uV f3,iV f4,iV f5]] w2 false Gh λr3 w4=>
Aw (λ(self5:((Int)×Unit)→WP) (z6:(Int)×Unit) w7=> ∀_:Nat→Value,
Aj (decide (z6.1<(r3.1.1.2.1:Int))) (
Hf r3.1.1.1 r3.1.1.2.1 z6.1 λa8=>
Bc k2' (a8.add (z6.1.toNat*3)) 0 w7 λx9=>
Bj z3' T.Bf w7 λp10 w11=>
Au (encs k2' x9) p10 0 w11 λw12=>
ld1 KI (p10.add 1) w12 λx13=>
Aj (decide (x13<0)) (
R ((false,()),()) w12) (
ld1 KI (p10.add 1) w12 λx14=>
ld1 KI (p10.add 2) w12 λx15=>
Aj (decide (x14>x15)) (
R ((false,()),()) w12) (
self5 (wrap .i64 (z6.1+1),()) w12))) (
R ((true,()),()) w7)) (0,()) w4))→Ad prog F.Dw [.iface T.Bv (.agg #[iV f0,uV f1,iV f2,uV f3,iV f4,iV f5])] w false r0' R:=
 Cb Aa Tryz.func164 (hs 2 (.s (.s .n (.lp [(11,(.i .i64))] .n)) .n))
theorem Kv.ok{f0 f1 f2 f3 f4 f5:Int}{w:World}: ∀⦃R:TR r0'→WP⦄,(
Ad prog F.Dv [.iface T.Ci (.agg #[iV f0,iV f1,uV f2,uV f3,iV f4,iV f5])] w false Xt λr1 w2=>
Aj (r1.1.1==0) (
R ((false,()),()) w2) (
Ad prog F.Df [.agg #[iV f0,iV f1,uV f2,uV f3,iV f4,iV f5]] w2 false Gh λr3 w4=>
Aw (λ(self5:((Int)×Unit)→WP) (z6:(Int)×Unit) w7=> ∀_:Nat→Value,
Aj (decide (z6.1<(r3.1.1.2.1:Int))) (
Hf r3.1.1.1 r3.1.1.2.1 z6.1 λa8=>
Bc k2' (a8.add (z6.1.toNat*3)) 0 w7 λx9=>
Bj z3' T.Bf w7 λp10 w11=>
Au (encs k2' x9) p10 0 w11 λw12=>
ld1 KI (p10.add 1) w12 λx13=>
Aj (decide (x13<0)) (
R ((false,()),()) w12) (
ld1 KI (p10.add 1) w12 λx14=>
ld1 KI (p10.add 2) w12 λx15=>
Aj (decide (x14>x15)) (
R ((false,()),()) w12) (
self5 (wrap .i64 (z6.1+1),()) w12))) (
R ((true,()),()) w7)) (0,()) w4))→Ad prog F.Dw [.iface T.Ci (.agg #[iV f0,iV f1,uV f2,uV f3,iV f4,iV f5])] w false r0' R:=
 Cb Aa Tryz.func164 (hs 2 (.s (.s .n (.lp [(11,(.i .i64))] .n)) .n))
theorem Z7.ok{f0 f1:Int}{w:World}: ∀⦃R:TR r0'→WP⦄,(
Ad prog F.Dv [.iface T.Du (.agg #[iV f0,iV f1])] w false Xt λr1 w2=>
Aj (r1.1.1==0) (
R ((false,()),()) w2) (
Ad prog F.He [.agg #[iV f0,iV f1]] w2 false Gh λr3 w4=>
Aw (λ(self5:((Int)×Unit)→WP) (z6:(Int)×Unit) w7=> ∀_:Nat→Value,
Aj (decide (z6.1<(r3.1.1.2.1:Int))) (
Hf r3.1.1.1 r3.1.1.2.1 z6.1 λa8=>
Bc k2' (a8.add (z6.1.toNat*3)) 0 w7 λx9=>
Bj z3' T.Bf w7 λp10 w11=>
Au (encs k2' x9) p10 0 w11 λw12=>
ld1 KI (p10.add 1) w12 λx13=>
Aj (decide (x13<0)) (
R ((false,()),()) w12) (
ld1 KI (p10.add 1) w12 λx14=>
ld1 KI (p10.add 2) w12 λx15=>
Aj (decide (x14>x15)) (
R ((false,()),()) w12) (
self5 (wrap .i64 (z6.1+1),()) w12))) (
R ((true,()),()) w7)) (0,()) w4))→Ad prog F.Dw [.iface T.Du (.agg #[iV f0,iV f1])] w false r0' R:=
 Cb Aa Tryz.func164 (hs 2 (.s (.s .n (.lp [(11,(.i .i64))] .n)) .n))
theorem Zz.ok{f0:Int}{w:World}: ∀⦃R:TR r0'→WP⦄,(
Ad prog F.Dv [.iface T.Ep (.agg #[iV f0])] w false Xt λr1 w2=>
Aj (r1.1.1==0) (
R ((false,()),()) w2) (
Ad prog F.Ej [.agg #[iV f0]] w2 false Gh λr3 w4=>
Aw (λ(self5:((Int)×Unit)→WP) (z6:(Int)×Unit) w7=> ∀_:Nat→Value,
Aj (decide (z6.1<(r3.1.1.2.1:Int))) (
Hf r3.1.1.1 r3.1.1.2.1 z6.1 λa8=>
Bc k2' (a8.add (z6.1.toNat*3)) 0 w7 λx9=>
Bj z3' T.Bf w7 λp10 w11=>
Au (encs k2' x9) p10 0 w11 λw12=>
ld1 KI (p10.add 1) w12 λx13=>
Aj (decide (x13<0)) (
R ((false,()),()) w12) (
ld1 KI (p10.add 1) w12 λx14=>
ld1 KI (p10.add 2) w12 λx15=>
Aj (decide (x14>x15)) (
R ((false,()),()) w12) (
self5 (wrap .i64 (z6.1+1),()) w12))) (
R ((true,()),()) w7)) (0,()) w4))→Ad prog F.Dw [.iface T.Ep (.agg #[iV f0])] w false r0' R:=
 Cb Aa Tryz.func164 (hs 2 (.s (.s .n (.lp [(11,(.i .i64))] .n)) .n))
theorem Za.ok{f0 f1 f2:Int}{w:World}: ∀⦃R:TR r0'→WP⦄,(
Ad prog F.Dv [.iface T.Dc (.agg #[iV f0,iV f1,iV f2])] w false Xt λr1 w2=>
Aj (r1.1.1==0) (
R ((false,()),()) w2) (
Ad prog F.Gi [.agg #[iV f0,iV f1,iV f2]] w2 false Gh λr3 w4=>
Aw (λ(self5:((Int)×Unit)→WP) (z6:(Int)×Unit) w7=> ∀_:Nat→Value,
Aj (decide (z6.1<(r3.1.1.2.1:Int))) (
Hf r3.1.1.1 r3.1.1.2.1 z6.1 λa8=>
Bc k2' (a8.add (z6.1.toNat*3)) 0 w7 λx9=>
Bj z3' T.Bf w7 λp10 w11=>
Au (encs k2' x9) p10 0 w11 λw12=>
ld1 KI (p10.add 1) w12 λx13=>
Aj (decide (x13<0)) (
R ((false,()),()) w12) (
ld1 KI (p10.add 1) w12 λx14=>
ld1 KI (p10.add 2) w12 λx15=>
Aj (decide (x14>x15)) (
R ((false,()),()) w12) (
self5 (wrap .i64 (z6.1+1),()) w12))) (
R ((true,()),()) w7)) (0,()) w4))→Ad prog F.Dw [.iface T.Dc (.agg #[iV f0,iV f1,iV f2])] w false r0' R:=
 Cb Aa Tryz.func164 (hs 2 (.s (.s .n (.lp [(11,(.i .i64))] .n)) .n))
theorem Zg.ok{f0 f1 f2 f3 f4 f5 f6 f7:Int}{w:World}: ∀⦃R:TR r0'→WP⦄,(
Ad prog F.Dv [.iface T.Dx (.agg #[iV f0,iV f1,iV f2,iV f3,iV f4,iV f5,uV f6,iV f7])] w false Xt λr1 w2=>
Aj (r1.1.1==0) (
R ((false,()),()) w2) (
Ad prog F.Gq [.agg #[iV f0,iV f1,iV f2,iV f3,iV f4,iV f5,uV f6,iV f7]] w2 false Gh λr3 w4=>
Aw (λ(self5:((Int)×Unit)→WP) (z6:(Int)×Unit) w7=> ∀_:Nat→Value,
Aj (decide (z6.1<(r3.1.1.2.1:Int))) (
Hf r3.1.1.1 r3.1.1.2.1 z6.1 λa8=>
Bc k2' (a8.add (z6.1.toNat*3)) 0 w7 λx9=>
Bj z3' T.Bf w7 λp10 w11=>
Au (encs k2' x9) p10 0 w11 λw12=>
ld1 KI (p10.add 1) w12 λx13=>
Aj (decide (x13<0)) (
R ((false,()),()) w12) (
ld1 KI (p10.add 1) w12 λx14=>
ld1 KI (p10.add 2) w12 λx15=>
Aj (decide (x14>x15)) (
R ((false,()),()) w12) (
self5 (wrap .i64 (z6.1+1),()) w12))) (
R ((true,()),()) w7)) (0,()) w4))→Ad prog F.Dw [.iface T.Dx (.agg #[iV f0,iV f1,iV f2,iV f3,iV f4,iV f5,uV f6,iV f7])] w false r0' R:=
 Cb Aa Tryz.func164 (hs 2 (.s (.s .n (.lp [(11,(.i .i64))] .n)) .n))
theorem Jd.ok{f:Option Addr}{s0 s1 s2 s3 s4 s5 local_:Int}{w:World}: ∀⦃R:TR r3'→WP⦄,(
Bj [iV s0,iV s1,uV s2,uV s3,iV s4,iV s5] T.Ci w λp1 w2=>
Aj (Option.isNone f) (
R ((0,()),()) w2) (
ld1 KI (p1.add 4) w2 λx3=>
Aj (decide (x3<0)) (
R ((0,()),()) w2) (
ld1 KI (p1.add 4) w2 λx4=>
Aj (decide (x4≥63)) (
R ((0,()),()) w2) (
Aj (decide (local_<0)) (
R ((0,()),()) w2) (
Aj (decide (local_>1125899906842624)) (
R ((0,()),()) w2) (
ld1 KI (p1.add 5) w2 λx5=>
Aj (decide (x5<0)) (
R ((0,()),()) w2) (
ld1 KI (p1.add 5) w2 λx6=>
Aj (decide (x6>1125899906842624)) (
R ((0,()),()) w2) (
I8 w2 λw7=>
A7 f λa8=>
ld1 .p a8 w7 λx9=>
ld1 KI (p1.add 1) w7 λx10=>
ld1 KU (p1.add 2) w7 λx11=>
ld1 KU (p1.add 3) w7 λx12=>
Ad prog F.Jp [.pointer x9,iV x10,.agg #[uV x11,uV x12]] w7 false r3' λr13 w14=>
Ak [hd 9 (p1.add 3) w7,hd 7 (p1.add 2) w7] w14∧(
Aj (r13.1.1==0) (
R ((r13.1.1,()),()) w14) (
Bh (λ(J15:Unit→WP)=>
Aj (r13.1.1==2) (
Ad prog F.Eb [.pointer f] w14 true [] λr18 w19=>
J15 (()) w19) (
J15 (()) w14)) (λ(z16:Unit) w17=> ∀_:Nat→Value,
ld1 KI (p1.add 5) w17 λx20=>
ld1 KI (p1.add 4) w17 λx21=>
Bj z3' T.Bq w17 λp22 w23=>
Au [iV local_,iV (wrap .i64 (x20-local_)),iV (wrap .i64 (x21+1))] p22 0 w23 λw24=>
Bh (λ(J25:Unit→WP)=>
I8 w24 λw28=>
A7 f λa29=>
Bc k2' p22 0 w28 λx30=>
Ad prog F.Hu [.pointer (some (a29.add 6)),Rl k2' x30] w28 false r3' λr31 w32=>
Ak [] w32∧(
Aj (r31.1.1 !=0) (
A7 f λa33=>
Ad prog F.Fa [.pointer (some (a33.add 6))] w32 true [] λr34 w35=>
I8 w35 λw36=>
A7 f λa37=>
Bc k2' p22 0 w36 λx38=>
Ad prog F.Hu [.pointer (some (a37.add 6)),Rl k2' x38] w36 false r3' λr39 w40=>
Ak [] w40∧(
J25 (()) w40)) (
J25 (()) w32))) (λ(z26:Unit) w27=> ∀_:Nat→Value,
ld1 KI (p1.add 5) w27 λx41=>
ld1 KI (p1.add 4) w27 λx42=>
A7 f λa43=>
Au [iV local_,iV x41,iV (wrap .i64 (x42+1))] (a43.add 7) 0 w27 λw44=>
R ((r13.1.1,()),()) w44))))))))))))→Ad prog F.Jd [.pointer f,.agg #[iV s0,iV s1,uV s2,uV s3,iV s4,iV s5],iV local_] w false r3' R:=
 Cb Aa Tryz.func165 (hs 2 (.s (.pl (ks [0,1,2,3,4,5,6,7,8,9,10] (.ef 11 [3,5] (.tk 12 .z)))) (.s .n (.ct [] .n (.s .n (.ct [] (.s (.pl (ks [0,1,2,3] (.ef 4 [3] (.tk 5 .z)))) (.s (.s .n (.pl (ks [0,1,2,3] (.ef 4 [3] .z)))) .n)) .n))))))
theorem Jj.ok{l:Option Addr}{f0 f1:Int}{w:World}: ∀⦃R:TR r0'→WP⦄,(
Bj [iV f0,iV f1] T.Du w λp1 w2=>
I8 w2 λw3=>
Aj (Option.isNone l) (
R ((false,()),()) w3) (
Bc [KI,KI] p1 0 w3 λx4=>
Ad prog F.Dw [.iface T.Du (.agg #[iV x4.1,iV x4.2.1])] w3 false r0' λr5 w6=>
Ak [hd 3 (p1.add 0) w3,hd 3 (p1.add 1) w3] w6∧(
Aj (!r5.1.1) (
R ((false,()),()) w6) (
ld1 KI p1 w6 λx7=>
A7 l λa8=>
ld1 KI a8 w6 λx9=>
Aj (x7==x9) (
R ((false,()),()) w6) (
ld1 KI (p1.add 1) w6 λx10=>
Bh (λ(J11:Unit→WP)=>
Bh (λ(J14:((Bool)×Unit)→WP)=>
I8 w6 λw17=>
ld1 KI p1 w17 λx18=>
A7 l λa19=>
ld1 KI (a19.add 2) w17 λx20=>
Aj (x18==x20) (
J14 (decide ((wrap .i64 (x10+1))>63),()) w17) (
J14 (false,()) w17)) (λ(z15:(Bool)×Unit) w16=> ∀_:Nat→Value,
Aj z15.1 (
Ad prog F.Ey [.pointer l] w16 true [] λr21 w22=>
R ((true,()),()) w22) (
I8 w16 λw23=>
Aj (decide ((wrap .i64 (x10+1))>63)) (
R ((false,()),()) w23) (
ld1 KI p1 w23 λx24=>
A7 l λa25=>
ld1 KI (a25.add 2) w23 λx26=>
Aj (x24 !=x26) (
A7 l λa27=>
ld1 KI (a27.add 1) w23 λx28=>
Aj (decide (x28≥0)) (
A7 l λa29=>
ld1 KI (a29.add 1) w23 λx30=>
Aj (decide ((wrap .i64 (x10+1))≥x30)) (
R ((false,()),()) w23) (
ld1 KI p1 w23 λx31=>
A7 l λa32=>
ld1 KI (a32.add 2) w23 λx33=>
Aj (x31==x33) (
A7 l λa34=>
ld1 KI (a34.add 1) w23 λx35=>
Aj ((wrap .i64 (x10+1))==x35) (
R ((false,()),()) w23) (
J11 (()) w23)) (
J11 (()) w23))) (
ld1 KI p1 w23 λx36=>
A7 l λa37=>
ld1 KI (a37.add 2) w23 λx38=>
Aj (x36==x38) (
A7 l λa39=>
ld1 KI (a39.add 1) w23 λx40=>
Aj ((wrap .i64 (x10+1))==x40) (
R ((false,()),()) w23) (
J11 (()) w23)) (
J11 (()) w23))) (
ld1 KI p1 w23 λx41=>
A7 l λa42=>
ld1 KI (a42.add 2) w23 λx43=>
Aj (x41==x43) (
A7 l λa44=>
ld1 KI (a44.add 1) w23 λx45=>
Aj ((wrap .i64 (x10+1))==x45) (
R ((false,()),()) w23) (
J11 (()) w23)) (
J11 (()) w23)))))) (λ(z12:Unit) w13=> ∀_:Nat→Value,
I8 w13 λw46=>
ld1 KI p1 w46 λx47=>
A7 l λa48=>
Au [iV (wrap .i64 (x10+1))] (a48.add 1) 0 w46 λw49=>
Ak [hd 4 p1 w46] w49∧(
A7 l λa50=>
Au [iV x47] (a50.add 2) 0 w49 λw51=>
Ak [] w51∧(
R ((true,()),()) w51))))))))→Ad prog F.Jj [.pointer l,.agg #[iV f0,iV f1]] w false r0' R:=
 Cb Aa Tryz.func166 (.s .n (.s (.s (.pl (ks [0,1,2,3,4] (.ef 5 [] (ks [6,7,8,9,10,11,12,13,14,15,16] .z)))) .n) (.s .n (.ct [] (.ct [(26,.b)] (.pl (ks [0,1,2,3,4,5,6,7,8,9,10,11] .z)) (.s .n (.s (.pl (ks [0,1,2,3,4,5,6,7,8,9,10,11,12,13,14,15,16,17,18,19,20,21,22,23,24,25,26,27,28,29,30,31,32,33,34,35,36,37,38,39,40,41,42,43] .z)) .n))) (.s (.pl (ks [0,1,2,3,4,5,6] (.ef 7 [] (.tk 8 (.tk 9 (.ef 10 [4] .z)))))) .n)))))
theorem Cm.ok{r:Option Addr}{x:Value}{w:World}: ∀⦃R:TR r3'→WP⦄,(
Aj (Option.isNone r) (
R ((2,()),()) w) (
I8 w λw1=>
A7 r λa2=>
ld1 KI (a2.add 2) w1 λx3=>
A7 r λa4=>
ld1 .sl a4 w1 λx5=>
Aj (x3==(x5.2.1:Int)) (
R ((6,()),()) w1) (
I8 w1 λw6=>
A7 r λa7=>
ld1 .sl a7 w6 λx8=>
A7 r λa9=>
ld1 KI (a9.add 1) w6 λx10=>
A7 r λa11=>
ld1 KI (a11.add 2) w6 λx12=>
A7 r λa13=>
ld1 .sl a13 w6 λx14=>
Zm (x14.2.1:Int) (
Hf x8.1 x8.2.1 (Int.tmod (wrap .i64 (x10+x12)) (x14.2.1:Int)) λa15=>
Au [x] (a15.add ((Int.tmod (wrap .i64 (x10+x12)) (x14.2.1:Int)).toNat*1)) 0 w6 λw16=>
Ak [] w16∧(
A7 r λa17=>
ld1 KI (a17.add 2) w16 λx18=>
A7 r λa19=>
Au [iV (wrap .i64 (x18+1))] (a19.add 2) 0 w16 λw20=>
R ((0,()),()) w20)))))→Ad prog F.Cm [.pointer r,x] w false r3' R:=
 Cb Aa Tryz.func167 (.s .n (.s (hs 2 (.s (.pl (ks [0,1,2,3,4,5,6,7,8,9,10] .z)) .n)) (.s (.pl (ks [0,1,2,3,4,5,6,7,8,9,10,11,12,13,14,15,16,17,18,19,20] (.ef 21 [3,7,11,16] .z))) .n)))
theorem Ij.ok{p:Option Addr}{r0 r1 r2 r3 r4 r5 r6 r7 local_:Int}{w:World}: ∀⦃R:TR aC→WP⦄,(
Bj [iV r0,iV r1,iV r2,iV r3,iV r4,iV r5,uV r6,iV r7] T.Dx w λp1 w2=>
Bj z3' T.Bq w2 λp3 w4=>
I8 w4 λw5=>
Aj (Option.isNone p) (
Au z3' p3 0 w5 λw6=>
Bc k2' p3 0 w6 λx7=>
R (x7,(false,()),()) w6) (
A7 p λa8=>
ld1 .b (a8.add 3) w5 λx9=>
Aj (!x9) (
Au z3' p3 0 w5 λw10=>
Bc k2' p3 0 w10 λx11=>
R (x11,(false,()),()) w10) (
ld1 KI (p1.add 1) w5 λx12=>
A7 p λa13=>
ld1 KI a13 w5 λx14=>
Aj (x12 !=x14) (
Au z3' p3 0 w5 λw15=>
Bc k2' p3 0 w15 λx16=>
R (x16,(false,()),()) w15) (
ld1 KI p1 w5 λx17=>
A7 p λa18=>
ld1 KI (a18.add 1) w5 λx19=>
Aj (x17 !=x19) (
Au z3' p3 0 w5 λw20=>
Bc k2' p3 0 w20 λx21=>
R (x21,(false,()),()) w20) (
ld1 KI (p1.add 2) w5 λx22=>
A7 p λa23=>
ld1 KI (a23.add 2) w5 λx24=>
Aj (x22 !=x24) (
Au z3' p3 0 w5 λw25=>
Bc k2' p3 0 w25 λx26=>
R (x26,(false,()),()) w25) (
ld1 KI (p1.add 2) w5 λx27=>
ld1 KI (p1.add 3) w5 λx28=>
ld1 KI (p1.add 4) w5 λx29=>
Bj Aur T.kC w5 λp30 w31=>
Au [iV x27,iV x28,iV x29,iV local_] p30 0 w31 λw32=>
Bh (λ(J33:((Addr)×Unit)→WP)=>
I8 w32 λw36=>
Bc eG p30 0 w36 λx37=>
ld1 KI (p1.add 7) w36 λx38=>
(
Ad prog F.Gg [Rl eG x37] w36 false r3' λr39 w40=>
Ak [hd 4 (p1.add 7) w36,hd 1 (p30.add 0) w36,hd 1 (p30.add 1) w36,hd 1 (p30.add 2) w36,hd 1 (p30.add 3) w36] w40∧(
Bj z3' T.Bq w40 λp41 w42=>
Ak [hd 4 (p1.add 7) w36,hd 1 (p30.add 0) w36,hd 1 (p30.add 1) w36,hd 1 (p30.add 2) w36,hd 1 (p30.add 3) w36] w42∧(
Au [iV local_,iV r39.1.1,iV (wrap .i64 (x38+1))] p41 0 w42 λw43=>
Ak [] w43∧(
J33 (p41,()) w43))))∧(
Bj z3' T.Bq w36 λp44 w45=>
Ak [hd 4 (p1.add 7) w36,hd 1 (p30.add 0) w36,hd 1 (p30.add 1) w36,hd 1 (p30.add 2) w36,hd 1 (p30.add 3) w36] w45∧(
Ad prog F.Gg [Rl eG x37] w45 false r3' λr46 w47=>
Ak [hd 4 (p1.add 7) w36] w47∧(
Au [iV local_,iV r46.1.1,iV (wrap .i64 (x38+1))] p44 0 w47 λw48=>
Ak [] w48∧(
J33 (p44,()) w48))))) (λ(z34:(Addr)×Unit) w35=> ∀_:Nat→Value,
Bc eG p30 0 w35 λx49=>
Ad prog F.H5 [Rl eG x49] w35 false r0' λr50 w51=>
Aj (!r50.1.1) (
Au z3' p3 0 w51 λw52=>
Bc k2' p3 0 w52 λx53=>
R (x53,(false,()),()) w52) (
Bc k2' z34.1 0 w51 λx54=>
Ad prog F.Cj [Rl k2' x54] w51 false r0' λr55 w56=>
Aj (!r55.1.1) (
Au z3' p3 0 w56 λw57=>
Bc k2' p3 0 w57 λx58=>
R (x58,(false,()),()) w57) (
A7 p λa59=>
Au [.bool false] (a59.add 3) 0 w56 λw60=>
A7 p λa61=>
Au [iV 0] (a61.add 5) 0 w60 λw62=>
Bc k2' z34.1 0 w62 λx63=>
Au (encs k2' x63) p3 0 w62 λwR=>
Bc k2' p3 0 wR λx65=>
R (x65,(true,()),()) wR)))))))))→Ad prog F.Ij [.pointer p,.agg #[iV r0,iV r1,iV r2,iV r3,iV r4,iV r5,uV r6,iV r7],iV local_] w true aC R:=
 Cb Aa Tryz.func168 (.s .n (.s (.s (.pl (ks [0,1,2,3,4,5,6,7,8,9,10,11,12,13,14,15,16,17,18,19,20,21,22,23,24,25,26,27,28,29,30,31,32,33,34,35] .z)) .n) (.s .n (.ct [(9,.a)] (.pl (ks [0,1,3,4,5] (.two 2 7 (.tk 6 (.ef 7 [] (.ef 8 [1,4] .z))) (.ef 2 [1] (.tk 6 (.ef 8 [4] .z)))))) .n))))
theorem Iy.ok{s:Option Addr}{e0 e1 e2 w_0 w_1:Int}{w:World}: ∀⦃R:TR r3'→WP⦄,(
Bj [iV e0,iV e1,iV e2] T.Bq w λp1 w2=>
Bj [iV w_0,uV w_1] T.yX w2 λp3 w4=>
Aj (Option.isNone s) (
R ((2,()),()) w4) (
Bc k2' p1 0 w4 λx5=>
Ad prog F.Cj [Rl k2' x5] w4 false r0' λr6 w7=>
Aj (!r6.1.1) (
R ((1,()),()) w7) (
ld1 KI p3 w7 λx8=>
Aj (decide (x8<0)) (
R ((1,()),()) w7) (
ld1 KI p3 w7 λx9=>
Aj (decide (x9≥64)) (
R ((1,()),()) w7) (
I8 w7 λw10=>
Bc k2' p1 0 w10 λx11=>
Bc [KI,KU] p3 0 w10 λx12=>
A7 s λa13=>
Au (encs k2' x11) (a13.add 1) 0 w10 λw14=>
Ak [hd 5 (p3.add 0) w10,hd 5 (p3.add 1) w10] w14∧(
A7 s λa15=>
Au [iV x12.1,uV x12.2.1] (a15.add 4) 0 w14 λw16=>
Ak [] w16∧(
A7 s λa17=>
Au [iV 0] (a17.add 6) 0 w16 λw18=>
Ak [] w18∧(
A7 s λa19=>
Au [.bool true] (a19.add 7) 0 w18 λw20=>
Ak [] w20∧(
R ((0,()),()) w20)))))))))→Ad prog F.Iy [.pointer s,.agg #[iV e0,iV e1,iV e2],.agg #[iV w_0,uV w_1]] w false r3' R:=
 Cb Aa Tryz.func169 (hs 2 (.s (.pl (ks [0,1,2,3,4,5,6,7] (.ef 8 [4] (.tk 9 (.tk 10 (.ef 11 [5] (.tk 12 (.tk 13 (.ef 14 [] (.tk 15 (.tk 16 (.ef 17 [] .z)))))))))))) .n))
theorem Jg.ok{b:Option Addr}{a0 a1 a2 a3 a4 a5:Int}{w:World}: ∀⦃R:TR r0'→WP⦄,(
Bj [iV a0,uV a1,iV a2,uV a3,iV a4,iV a5] T.Bv w λp1 w2=>
Bh (λ(J3:Unit→WP)=>
I8 w2 λw6=>
Aj (Option.isNone b) (
R ((false,()),()) w6) (
Bc mV p1 0 w6 λx7=>
Ad prog F.Dw [.iface T.Bv (Rl mV x7)] w6 false r0' λr8 w9=>
Ak [hd 3 (p1.add 0) w6,hd 3 (p1.add 1) w6,hd 3 (p1.add 2) w6,hd 3 (p1.add 3) w6,hd 3 (p1.add 4) w6,hd 3 (p1.add 5) w6] w9∧(
Aj (!r8.1.1) (
R ((false,()),()) w9) (
A7 b λa10=>
ld1 .b a10 w9 λx11=>
Aj x11 (
ld1 KU (p1.add 1) w9 λx12=>
A7 b λa13=>
ld1 KU ((a13.add 1).add 1) w9 λx14=>
Ad prog F.Oa [uV x12,uV x14] w9 false r0' λY7 w16=>
Ak [hd 12 a10 w9,hd 3 (p1.add 0) w6,hd 3 (p1.add 1) w6,hd 3 (p1.add 2) w6,hd 3 (p1.add 3) w6,hd 3 (p1.add 4) w6,hd 3 (p1.add 5) w6] w16∧(
Aj (!Y7.1.1) (
R ((false,()),()) w16) (
J3 (()) w16))) (
J3 (()) w9))))) (λ(z4:Unit) w5=> ∀_:Nat→Value,
I8 w5 λw17=>
Bc mV p1 0 w17 λx18=>
A7 b λa19=>
Au [.bool true] a19 0 w17 λw20=>
Ak [hd 2 (p1.add 0) w17,hd 2 (p1.add 1) w17,hd 2 (p1.add 2) w17,hd 2 (p1.add 3) w17,hd 2 (p1.add 4) w17,hd 2 (p1.add 5) w17] w20∧(
A7 b λa21=>
Au (encs mV x18) (a21.add 1) 0 w20 λw22=>
Ak [] w22∧(
R ((true,()),()) w22))))→Ad prog F.Jg [.pointer b,.agg #[iV a0,uV a1,iV a2,uV a3,iV a4,iV a5]] w false r0' R:=
 Cb Aa Tryz.func170 (.s .n (.ct [] (.s (.pl (ks [0,1,2,3,4] (.ef 5 [] (ks [6,7,8,9,10,11,12,13,14,15,16,17,18,19,20] (.ef 21 [15,20] (ks [22,23,24] .z)))))) .n) (.s (.pl (ks [0,1,2,3,4] (.ef 5 [] (.tk 6 (.tk 7 (.ef 8 [2] .z)))))) .n)))
theorem Oq.ok{n:Option Addr}{w:World}: ∀⦃R:TR r3'→WP⦄,(
Ad prog F.Ol [.pointer n] w false r0' λr1 w2=>
Aj r1.1.1 (
R ((0,()),()) w2) (
A7 n λa3=>
ld1 .p (a3.add 27) w2 λx4=>
Ad prog F.Cm [.pointer x4,.iface T.Vd (.agg #[])] w2 false r3' λr5 w6=>
R ((r5.1.1,()),()) w6))→Ad prog F.Oq [.pointer n] w false r3' R:=
 Cb Aa Tryz.func171 .n
theorem Ot.ok{f:Option Addr}{local_:Int}{w:World}: ∀⦃R:TR Vk→WP⦄,(
Bj z2' T.Bl w λp1 w2=>
Ad prog F.Gv [.pointer f,iV local_] w2 true Apv λr3 w4=>
Aj (r3.2.2.1.1 !=0) (
Au z2' p1 0 w4 λw5=>
Bc bI p1 0 w5 λx6=>
R (x6,(r3.2.2.1.1,()),()) w5) (
A7 f λa7=>
ld1 .p a7 w4 λx8=>
Ad prog F.Gx [.pointer x8] w4 true Aex λr9 w10=>
Bj [uV 0,uV 0] T.Nc w10 λp11 w12=>
Au [uV r9.1.1,uV r9.1.2.1] p11 0 w12 λw13=>
Bh (λ(J14:((Addr)×Unit)→WP)=>
I8 w13 λw17=>
A7 f λa18=>
ld1 .p a18 w17 λx19=>
ld1 KU p11 w17 λx20=>
(
Ad prog F.Bz [.pointer x19] w17 false r3' λr21 w22=>
Ak [hd 8 p11 w17,hd 5 a18 w17] w22∧(
Bj z2' T.Bl w22 λp23 w24=>
Ak [hd 8 p11 w17,hd 5 a18 w17] w24∧(
Au [iV r3.1.1,iV r3.2.1.1,iV r21.1.1,uV x20,iV 2] p23 0 w24 λw25=>
Ak [] w25∧(
J14 (p23,()) w25))))∧(
Bj z2' T.Bl w17 λp26 w27=>
Ak [hd 8 p11 w17,hd 5 a18 w17] w27∧(
Ad prog F.Bz [.pointer x19] w27 false r3' λr28 w29=>
Ak [hd 8 p11 w17] w29∧(
Au [iV r3.1.1,iV r3.2.1.1,iV r28.1.1,uV x20,iV 2] p26 0 w29 λw30=>
Ak [] w30∧(
J14 (p26,()) w30))))) (λ(z15:(Addr)×Unit) w16=> ∀_:Nat→Value,
A7 f λa31=>
ld1 .p a31 w16 λx32=>
Ad prog F.A8 [.pointer x32] w16 false r0' λr33 w34=>
Aj r33.1.1 (
Au [iV 1] (z15.1.add 4) 0 w34 λw35=>
Bc bI z15.1 0 w35 λx36=>
Au (encs bI x36) p1 0 w35 λw37=>
Bc bI p1 0 w37 λx38=>
R (x38,(0,()),()) w37) (
Bc bI z15.1 0 w34 λx39=>
Au (encs bI x39) p1 0 w34 λw40=>
Bc bI p1 0 w40 λx41=>
R (x41,(0,()),()) w40))))→Ad prog F.Ot [.pointer f,iV local_] w true Vk R:=
 Cb Aa Tryz.func172 (hs 4 (.ct [(11,.a)] (.pl (ks [0,1,2,3,4,5,7,8] (.two 6 11 (.tk 9 (.tk 10 (.ef 11 [] (.ef 12 [5,8] .z)))) (.ef 6 [5] (.tk 9 (.tk 10 (.ef 12 [8] .z))))))) .n))
theorem Tc.ok{s:ByteArray}{w:World}: ∀⦃R:TR aC→WP⦄,(
Bj z3' T.Qn w λp1 w2=>
Bj z3' T.Att w2 λp3 w4=>
rgK s w4 λit5 w6=>
Aw (λ(self7:((Int)×(Int)×Unit)→WP) (z8:(Int)×(Int)×Unit) w9=> ∀_:Nat→Value,
nxK it5 w9 (λw10=>
Hf (some p3) 3 0 λa14=>
ld1 KI (a14.add ((0:Int).toNat*1)) w10 λx15=>
Hf (some p3) 3 1 λa16=>
ld1 KI (a16.add ((1:Int).toNat*1)) w10 λx17=>
Hf (some p3) 3 2 λa18=>
ld1 KI (a18.add ((2:Int).toNat*1)) w10 λx19=>
Bj z3' T.Qn w10 λp20 w21=>
Au [iV x15,iV x17,iV x19] p20 0 w21 λw22=>
Aj (z8.1 !=2) (
Au z3' p1 0 w22 λw23=>
Bc k2' p1 0 w23 λx24=>
R (x24,(false,()),()) w23) (
Aj (z8.2.1 !=2) (
Au z3' p1 0 w22 λw25=>
Bc k2' p1 0 w25 λx26=>
R (x26,(false,()),()) w25) (
Bc k2' p20 0 w22 λx27=>
Ad prog F.Ef [Rl k2' x27] w22 false r0' λr28 w29=>
Aj (!r28.1.1) (
Au z3' p1 0 w29 λw30=>
Bc k2' p1 0 w30 λx31=>
R (x31,(false,()),()) w30) (
Bc k2' p20 0 w29 λx32=>
Au (encs k2' x32) p1 0 w29 λw33=>
Bc k2' p1 0 w33 λx34=>
R (x34,(true,()),()) w33)))) λi12 c13 w11=>
Bh (λ(J35:((Bool)×Unit)→WP)=>
Aj (c13==45) (
Aj (decide (z8.1<2)) (
J35 ((z8.2.1==(wrap .i64 (4-(wrap .i64 (2*(if 1<z8.1 then 1 else z8.1)))))),()) w11) (
J35 (false,()) w11)) (
J35 (false,()) w11)) (λ(z36:(Bool)×Unit) w37=> ∀_:Nat→Value,
Aj z36.1 (
self7 (wrap .i64 (z8.1+1),0,()) w37) (
Bh (λ(J38:((Bool)×Unit)→WP)=>
Aj (decide (c13≥48)) (
Aj (decide (c13≤57)) (
J38 (decide (z8.2.1<(wrap .i64 (4-(wrap .i64 (2*(if 1<z8.1 then 1 else z8.1)))))),()) w37) (
J38 (false,()) w37)) (
J38 (false,()) w37)) (λ(z39:(Bool)×Unit) w40=> ∀_:Nat→Value,
Aj z39.1 (
Hf (some p3) 3 z8.1 λa41=>
ld1 KI (a41.add (z8.1.toNat*1)) w40 λx42=>
Hf (some p3) 3 z8.1 λa43=>
Au [iV (wrap .i64 ((wrap .i64 (10*x42))+(wrap .i64 (wrap .i32 (c13-48)))))] (a43.add (z8.1.toNat*1)) 0 w40 λw44=>
self7 (z8.1,wrap .i64 (z8.2.1+1),()) w44) (
Au z3' p1 0 w40 λw45=>
Bc k2' p1 0 w45 λx46=>
R (x46,(false,()),()) w45))))) (0,0,()) w6)→Ad prog F.Tc [.string s] w true aC R:=
 Cb Aa Tryz.func177 (hs 3 (.s (.s .n (.lp [(5,(.i .i64)),(6,(.i .i64))] (hs 3 (.ct [(16,.b)] .n (.s .n (.ct [(33,.b)] .n .n)))))) .n))
theorem Gw.ok{r0 r1:Int}{w:World}: ∀⦃R:TR r0'→WP⦄,(
Bj [iV r0,iV r1] T.oV w λp1 w2=>
ld1 KI p1 w2 λx3=>
Aj (decide (x3≥1)) (
ld1 KI p1 w2 λx4=>
Aj (decide (x4≤1000)) (
ld1 KI (p1.add 1) w2 λx5=>
Aj (decide (x5≥0)) (
ld1 KI (p1.add 1) w2 λx6=>
R ((decide (x6≤1000),()),()) w2) (
R ((false,()),()) w2)) (
R ((false,()),()) w2)) (
R ((false,()),()) w2))→Ad prog F.Gw [.agg #[iV r0,iV r1]] w false r0' R:=
 Cb Aa Tryz.func184 .n
theorem Fa.ok{t:Option Addr}{w:World}: ∀⦃R:TR []→WP⦄,(
Aj (!(Option.isNone t)) (
A7 t λa1=>
Au [.slice none 0 0] a1 0 w λw2=>
R (()) w2) (
R (()) w))→Ad prog F.Fa [.pointer t] w true [] R:=
 Cb Aa Tryz.func185 .n
theorem C9.ok{t:Option Addr}{w:World}: ∀⦃R:TR r3'→WP⦄,(
Aj (Option.isNone t) (
R ((0,()),()) w) (
A7 t λa1=>
ld1 .sl a1 w λx2=>
R (((x2.2.1:Int),()),()) w))→Ad prog F.C9 [.pointer t] w false r3' R:=
 Cb Aa Tryz.func186 .n
theorem Ee.ok{r:Option Addr}{w:World}: ∀⦃R:TR r3'→WP⦄,(
Aj (Option.isNone r) (
R ((0,()),()) w) (
A7 r λa1=>
ld1 KI (a1.add 2) w λx2=>
R ((x2,()),()) w))→Ad prog F.Ee [.pointer r] w false r3' R:=
 Cb Aa Tryz.func187 .n
theorem Jr.ok{e:Option Addr}{w:World}: ∀⦃R:TR r0'→WP⦄,(
Aj (Option.isNone e) (
R ((false,()),()) w) (
Ad prog F.A8 [.pointer e] w false r0' λr1 w2=>
Aj r1.1.1 (
A7 e λa3=>
ld1 KI (a3.add 7) w2 λx4=>
A7 e λa5=>
Au [iV (if 0>(wrap .i64 (x4-1)) then 0 else(wrap .i64 (x4-1)))] (a5.add 7) 0 w2 λw6=>
R ((false,()),()) w6) (
A7 e λa7=>
ld1 KI (a7.add 6) w2 λx8=>
A7 e λa9=>
Au [iV (wrap .i64 (x8+1))] (a9.add 6) 0 w2 λw10=>
I8 w10 λw11=>
A7 e λa12=>
ld1 KI (a12.add 6) w11 λx13=>
A7 e λa14=>
ld1 KI (a14.add 1) w11 λx15=>
Aj (decide (x13<x15)) (
R ((false,()),()) w11) (
I8 w11 λw16=>
A7 e λa17=>
ld1 KI a17 w16 λx18=>
A7 e λa19=>
ld1 KI ((a19.add 1).add 1) w16 λx20=>
A7 e λa21=>
Au [iV x18] (a21.add 5) 0 w16 λw22=>
Ak [] w22∧(
A7 e λa23=>
Au [iV 0] (a23.add 6) 0 w22 λw24=>
Ak [] w24∧(
A7 e λa25=>
Au [iV x20] (a25.add 7) 0 w24 λw26=>
Ak [] w26∧(
R ((true,()),()) w26)))))))→Ad prog F.Jr [.pointer e] w false r0' R:=
 Cb Aa Tryz.func188 (hs 3 (.s (.s (.pl (ks [0,1,2,3,4,5,6,7,8,9] .z)) .n) (.s (.pl (ks [0,1,2,3,4,5,6,7,8,9,10,11,12,13] (.ef 14 [6,11] (.tk 15 (.tk 16 (.ef 17 [] (.tk 18 (.tk 19 (.ef 20 [] .z))))))))) .n)))
theorem Jo.ok{f:Option Addr}{local_:Int}{w:World}: ∀⦃R:TR Ah4→WP⦄,(
Bj z9' T.Ci w λp1 w2=>
A7 f λa3=>
ld1 .p a3 w2 λx4=>
Ad prog F.A8 [.pointer x4] w2 false r0' λr5 w6=>
Aj r5.1.1 (
A7 f λa7=>
ld1 .p a7 w6 λx8=>
Ad prog F.Iu [.pointer x8] w6 true Aex λr9 w10=>
Bj [uV 0,uV 0] T.Nc w10 λp11 w12=>
Au [uV r9.1.1,uV r9.1.2.1] p11 0 w12 λw13=>
I8 w13 λw14=>
A7 f λa15=>
ld1 KI (a15.add 1) w14 λx16=>
A7 f λa17=>
ld1 KI (a17.add 1) w14 λx18=>
ld1 KU p11 w14 λx19=>
ld1 KU (p11.add 1) w14 λx20=>
Au [iV x16,iV x18,uV x19,uV x20,iV 0,iV local_] p1 0 w14 λw21=>
Ak [] w21∧(
Bc aU p1 0 w21 λx22=>
R (x22,(true,()),()) w21)) (
Ad prog F.Az [.pointer f] w6 false r0' λr23 w24=>
Aj (!r23.1.1) (
Au z9' p1 0 w24 λw25=>
Bc aU p1 0 w25 λx26=>
R (x26,(false,()),()) w25) (
A7 f λa27=>
ld1 .p a27 w24 λx28=>
Ad prog F.Gx [.pointer x28] w24 true Aex λr29 w30=>
Bj [uV 0,uV 0] T.Nc w30 λp31 w32=>
Au [uV r29.1.1,uV r29.1.2.1] p31 0 w32 λw33=>
Bh (λ(J34:((Addr)×Unit)→WP)=>
I8 w33 λw37=>
A7 f λa38=>
ld1 KI (a38.add 1) w37 λx39=>
A7 f λa40=>
ld1 .p a40 w37 λx41=>
ld1 KU p31 w37 λx42=>
ld1 KU (p31.add 1) w37 λx43=>
A7 f λa44=>
ld1 KI ((a44.add 7).add 2) w37 λx45=>
A7 f λa46=>
ld1 KI ((a46.add 7).add 1) w37 λx47=>
A7 f λa48=>
ld1 KI (a48.add 7) w37 λx49=>
(
Ad prog F.Bz [.pointer x41] w37 false r3' λr50 w51=>
Ak [hd 29 (a48.add 7) w37,hd 22 ((a46.add 7).add 1) w37,hd 17 ((a44.add 7).add 2) w37,hd 12 (p31.add 1) w37,hd 10 p31 w37,hd 7 a40 w37,hd 3 (a38.add 1) w37] w51∧(
Bj z9' T.Ci w51 λp52 w53=>
Ak [hd 29 (a48.add 7) w37,hd 22 ((a46.add 7).add 1) w37,hd 17 ((a44.add 7).add 2) w37,hd 12 (p31.add 1) w37,hd 10 p31 w37,hd 7 a40 w37,hd 3 (a38.add 1) w37] w53∧(
Au [iV x39,iV r50.1.1,uV x42,uV x43,iV x45,iV (wrap .i64 ((wrap .i64 (x47+local_))-x49))] p52 0 w53 λw54=>
Ak [] w54∧(
J34 (p52,()) w54))))∧(
Bj z9' T.Ci w37 λp55 w56=>
Ak [hd 29 (a48.add 7) w37,hd 22 ((a46.add 7).add 1) w37,hd 17 ((a44.add 7).add 2) w37,hd 12 (p31.add 1) w37,hd 10 p31 w37,hd 7 a40 w37,hd 3 (a38.add 1) w37] w56∧(
Ad prog F.Bz [.pointer x41] w56 false r3' λr57 w58=>
Ak [hd 29 (a48.add 7) w37,hd 22 ((a46.add 7).add 1) w37,hd 17 ((a44.add 7).add 2) w37,hd 12 (p31.add 1) w37,hd 10 p31 w37,hd 3 (a38.add 1) w37] w58∧(
Au [iV x39,iV r57.1.1,uV x42,uV x43,iV x45,iV (wrap .i64 ((wrap .i64 (x47+local_))-x49))] p55 0 w58 λw59=>
Ak [] w59∧(
J34 (p55,()) w59))))) (λ(z35:(Addr)×Unit) w36=> ∀_:Nat→Value,
I8 w36 λw60=>
Bc aU z35.1 0 w60 λx61=>
Bc aU z35.1 0 w60 λx62=>
Ad prog F.Dw [.iface T.Ci (Rl aU x62)] w60 false r0' λr63 wR=>
Ak [hd 1 (z35.1.add 0) w60,hd 1 (z35.1.add 1) w60,hd 1 (z35.1.add 2) w60,hd 1 (z35.1.add 3) w60,hd 1 (z35.1.add 4) w60,hd 1 (z35.1.add 5) w60,hd 0 (z35.1.add 0) w60,hd 0 (z35.1.add 1) w60,hd 0 (z35.1.add 2) w60,hd 0 (z35.1.add 3) w60,hd 0 (z35.1.add 4) w60,hd 0 (z35.1.add 5) w60] wR∧(
Au (encs aU x61) p1 0 wR λw65=>
Ak [hd 1 (z35.1.add 0) w60,hd 1 (z35.1.add 1) w60,hd 1 (z35.1.add 2) w60,hd 1 (z35.1.add 3) w60,hd 1 (z35.1.add 4) w60,hd 1 (z35.1.add 5) w60] w65∧(
Bc aU p1 0 w65 λx66=>
R (x66,(r63.1.1,()),()) w65))))))→Ad prog F.Jo [.pointer f,iV local_] w true Ah4 R:=
 Cb Aa Tryz.func189 (.s .n (.s (.s .n (.s (.s .n (.s (.pl (ks [0,1,2,3,4,5,6,7,8,9,10,11,12,13] (.ef 14 [3,7,9,11] (.tk 15 .z)))) .n)) .n)) (hs 2 (.ct [(10,.a)] (.pl (ks [0,1,2,3,4,5,6,7,9,10,11,12,13,14,15,16,17,18,19,20,21,22,23,24,25,26,27,28,29,30] (.two 8 32 (.tk 31 (.ef 32 [] (.ef 33 [3,7,10,12,17,22,29] .z))) (.ef 8 [7] (.tk 31 (.ef 33 [3,10,12,17,22,29] .z)))))) (.s (.pl (ks [0,1,2] (.ef 3 [] (.ef 4 [0] (.tk 5 .z))))) .n)))))
theorem Xg.ok{f0 f1 f2 f3 f4 f5:Int}{w:World}: ∀⦃R:TR iR→WP⦄,(
Ad prog F.Dw [.iface T.Bv (.agg #[iV f0,uV f1,iV f2,uV f3,iV f4,iV f5])] w false r0' λr1 w2=>
Aj (!r1.1.1) (
R (((none,0,0),()),(1,()),()) w2) (
Bj [.slice none 0 0] T.X0 w2 λp3 w4=>
Ad prog F.Dv [.iface T.Bv (.agg #[iV f0,uV f1,iV f2,uV f3,iV f4,iV f5])] w4 false Xt λr5 w6=>
Ad prog F.Bo [.pointer (some p3),iV 1,.int .u64 (wrap .u64 r5.1.1)] w6 false Y6 λr7 w8=>
Ad prog F.Fv [.agg #[iV f0,uV f1,iV f2,uV f3,iV f4,iV f5]] w8 false Gh λr9 w10=>
Aw (λ(self11:((Int)×Unit)→WP) (z12:(Int)×Unit) w13=> ∀_:Nat→Value,
Aj (decide (z12.1<(r9.1.1.2.1:Int))) (
Hf r9.1.1.1 r9.1.1.2.1 z12.1 λa14=>
Bc k2' (a14.add (z12.1.toNat*3)) 0 w13 λx15=>
Bj z3' T.Bf w13 λp16 w17=>
Au (encs k2' x15) p16 0 w17 λw18=>
ld1 KI p16 w18 λx19=>
ld1 KI (p16.add 1) w18 λx20=>
Ad prog F.Bo [.pointer (some p3),iV x19,.int .u64 (wrap .u64 x20)] w18 false Y6 λr21 w22=>
self11 (wrap .i64 (z12.1+1),()) w22) (
Ad prog F.Eg [.pointer (some p3)] w13 false Gh λr23 w24=>
Ad prog F.Qh [.slice r23.1.1.1 r23.1.1.2.1 r23.1.1.2.2] w24 false Gh λr25 w26=>
R (((r25.1.1.1,r25.1.1.2.1,r25.1.1.2.2),()),(0,()),()) w26)) (0,()) w10))→Ad prog F.Gf [.iface T.Bv (.agg #[iV f0,uV f1,iV f2,uV f3,iV f4,iV f5])] w true iR R:=
 Cb Aa Tryz.func190 (hs 4 (.s (.s .n (.lp [(17,(.i .i64))] .n)) .n))
theorem Yw.ok{f0 f1 f2 f3 f4 f5:Int}{w:World}: ∀⦃R:TR iR→WP⦄,(
Ad prog F.Dw [.iface T.Ci (.agg #[iV f0,iV f1,uV f2,uV f3,iV f4,iV f5])] w false r0' λr1 w2=>
Aj (!r1.1.1) (
R (((none,0,0),()),(1,()),()) w2) (
Bj [.slice none 0 0] T.X0 w2 λp3 w4=>
Ad prog F.Dv [.iface T.Ci (.agg #[iV f0,iV f1,uV f2,uV f3,iV f4,iV f5])] w4 false Xt λr5 w6=>
Ad prog F.Bo [.pointer (some p3),iV 1,.int .u64 (wrap .u64 r5.1.1)] w6 false Y6 λr7 w8=>
Ad prog F.Df [.agg #[iV f0,iV f1,uV f2,uV f3,iV f4,iV f5]] w8 false Gh λr9 w10=>
Aw (λ(self11:((Int)×Unit)→WP) (z12:(Int)×Unit) w13=> ∀_:Nat→Value,
Aj (decide (z12.1<(r9.1.1.2.1:Int))) (
Hf r9.1.1.1 r9.1.1.2.1 z12.1 λa14=>
Bc k2' (a14.add (z12.1.toNat*3)) 0 w13 λx15=>
Bj z3' T.Bf w13 λp16 w17=>
Au (encs k2' x15) p16 0 w17 λw18=>
ld1 KI p16 w18 λx19=>
ld1 KI (p16.add 1) w18 λx20=>
Ad prog F.Bo [.pointer (some p3),iV x19,.int .u64 (wrap .u64 x20)] w18 false Y6 λr21 w22=>
self11 (wrap .i64 (z12.1+1),()) w22) (
Ad prog F.Eg [.pointer (some p3)] w13 false Gh λr23 w24=>
Ad prog F.Qh [.slice r23.1.1.1 r23.1.1.2.1 r23.1.1.2.2] w24 false Gh λr25 w26=>
R (((r25.1.1.1,r25.1.1.2.1,r25.1.1.2.2),()),(0,()),()) w26)) (0,()) w10))→Ad prog F.Gf [.iface T.Ci (.agg #[iV f0,iV f1,uV f2,uV f3,iV f4,iV f5])] w true iR R:=
 Cb Aa Tryz.func190 (hs 4 (.s (.s .n (.lp [(17,(.i .i64))] .n)) .n))
theorem Yc.ok{f0 f1:Int}{w:World}: ∀⦃R:TR iR→WP⦄,(
Ad prog F.Dw [.iface T.Du (.agg #[iV f0,iV f1])] w false r0' λr1 w2=>
Aj (!r1.1.1) (
R (((none,0,0),()),(1,()),()) w2) (
Bj [.slice none 0 0] T.X0 w2 λp3 w4=>
Ad prog F.Dv [.iface T.Du (.agg #[iV f0,iV f1])] w4 false Xt λr5 w6=>
Ad prog F.Bo [.pointer (some p3),iV 1,.int .u64 (wrap .u64 r5.1.1)] w6 false Y6 λr7 w8=>
Ad prog F.He [.agg #[iV f0,iV f1]] w8 false Gh λr9 w10=>
Aw (λ(self11:((Int)×Unit)→WP) (z12:(Int)×Unit) w13=> ∀_:Nat→Value,
Aj (decide (z12.1<(r9.1.1.2.1:Int))) (
Hf r9.1.1.1 r9.1.1.2.1 z12.1 λa14=>
Bc k2' (a14.add (z12.1.toNat*3)) 0 w13 λx15=>
Bj z3' T.Bf w13 λp16 w17=>
Au (encs k2' x15) p16 0 w17 λw18=>
ld1 KI p16 w18 λx19=>
ld1 KI (p16.add 1) w18 λx20=>
Ad prog F.Bo [.pointer (some p3),iV x19,.int .u64 (wrap .u64 x20)] w18 false Y6 λr21 w22=>
self11 (wrap .i64 (z12.1+1),()) w22) (
Ad prog F.Eg [.pointer (some p3)] w13 false Gh λr23 w24=>
Ad prog F.Qh [.slice r23.1.1.1 r23.1.1.2.1 r23.1.1.2.2] w24 false Gh λr25 w26=>
R (((r25.1.1.1,r25.1.1.2.1,r25.1.1.2.2),()),(0,()),()) w26)) (0,()) w10))→Ad prog F.Gf [.iface T.Du (.agg #[iV f0,iV f1])] w true iR R:=
 Cb Aa Tryz.func190 (hs 4 (.s (.s .n (.lp [(17,(.i .i64))] .n)) .n))
theorem Yq.ok{f0:Int}{w:World}: ∀⦃R:TR iR→WP⦄,(
Ad prog F.Dw [.iface T.Ep (.agg #[iV f0])] w false r0' λr1 w2=>
Aj (!r1.1.1) (
R (((none,0,0),()),(1,()),()) w2) (
Bj [.slice none 0 0] T.X0 w2 λp3 w4=>
Ad prog F.Dv [.iface T.Ep (.agg #[iV f0])] w4 false Xt λr5 w6=>
Ad prog F.Bo [.pointer (some p3),iV 1,.int .u64 (wrap .u64 r5.1.1)] w6 false Y6 λr7 w8=>
Ad prog F.Ej [.agg #[iV f0]] w8 false Gh λr9 w10=>
Aw (λ(self11:((Int)×Unit)→WP) (z12:(Int)×Unit) w13=> ∀_:Nat→Value,
Aj (decide (z12.1<(r9.1.1.2.1:Int))) (
Hf r9.1.1.1 r9.1.1.2.1 z12.1 λa14=>
Bc k2' (a14.add (z12.1.toNat*3)) 0 w13 λx15=>
Bj z3' T.Bf w13 λp16 w17=>
Au (encs k2' x15) p16 0 w17 λw18=>
ld1 KI p16 w18 λx19=>
ld1 KI (p16.add 1) w18 λx20=>
Ad prog F.Bo [.pointer (some p3),iV x19,.int .u64 (wrap .u64 x20)] w18 false Y6 λr21 w22=>
self11 (wrap .i64 (z12.1+1),()) w22) (
Ad prog F.Eg [.pointer (some p3)] w13 false Gh λr23 w24=>
Ad prog F.Qh [.slice r23.1.1.1 r23.1.1.2.1 r23.1.1.2.2] w24 false Gh λr25 w26=>
R (((r25.1.1.1,r25.1.1.2.1,r25.1.1.2.2),()),(0,()),()) w26)) (0,()) w10))→Ad prog F.Gf [.iface T.Ep (.agg #[iV f0])] w true iR R:=
 Cb Aa Tryz.func190 (hs 4 (.s (.s .n (.lp [(17,(.i .i64))] .n)) .n))
theorem Xr.ok{f0 f1 f2:Int}{w:World}: ∀⦃R:TR iR→WP⦄,(
Ad prog F.Dw [.iface T.Dc (.agg #[iV f0,iV f1,iV f2])] w false r0' λr1 w2=>
Aj (!r1.1.1) (
R (((none,0,0),()),(1,()),()) w2) (
Bj [.slice none 0 0] T.X0 w2 λp3 w4=>
Ad prog F.Dv [.iface T.Dc (.agg #[iV f0,iV f1,iV f2])] w4 false Xt λr5 w6=>
Ad prog F.Bo [.pointer (some p3),iV 1,.int .u64 (wrap .u64 r5.1.1)] w6 false Y6 λr7 w8=>
Ad prog F.Gi [.agg #[iV f0,iV f1,iV f2]] w8 false Gh λr9 w10=>
Aw (λ(self11:((Int)×Unit)→WP) (z12:(Int)×Unit) w13=> ∀_:Nat→Value,
Aj (decide (z12.1<(r9.1.1.2.1:Int))) (
Hf r9.1.1.1 r9.1.1.2.1 z12.1 λa14=>
Bc k2' (a14.add (z12.1.toNat*3)) 0 w13 λx15=>
Bj z3' T.Bf w13 λp16 w17=>
Au (encs k2' x15) p16 0 w17 λw18=>
ld1 KI p16 w18 λx19=>
ld1 KI (p16.add 1) w18 λx20=>
Ad prog F.Bo [.pointer (some p3),iV x19,.int .u64 (wrap .u64 x20)] w18 false Y6 λr21 w22=>
self11 (wrap .i64 (z12.1+1),()) w22) (
Ad prog F.Eg [.pointer (some p3)] w13 false Gh λr23 w24=>
Ad prog F.Qh [.slice r23.1.1.1 r23.1.1.2.1 r23.1.1.2.2] w24 false Gh λr25 w26=>
R (((r25.1.1.1,r25.1.1.2.1,r25.1.1.2.2),()),(0,()),()) w26)) (0,()) w10))→Ad prog F.Gf [.iface T.Dc (.agg #[iV f0,iV f1,iV f2])] w true iR R:=
 Cb Aa Tryz.func190 (hs 4 (.s (.s .n (.lp [(17,(.i .i64))] .n)) .n))
theorem Xu.ok{f0 f1 f2 f3 f4 f5 f6 f7:Int}{w:World}: ∀⦃R:TR iR→WP⦄,(
Ad prog F.Dw [.iface T.Dx (.agg #[iV f0,iV f1,iV f2,iV f3,iV f4,iV f5,uV f6,iV f7])] w false r0' λr1 w2=>
Aj (!r1.1.1) (
R (((none,0,0),()),(1,()),()) w2) (
Bj [.slice none 0 0] T.X0 w2 λp3 w4=>
Ad prog F.Dv [.iface T.Dx (.agg #[iV f0,iV f1,iV f2,iV f3,iV f4,iV f5,uV f6,iV f7])] w4 false Xt λr5 w6=>
Ad prog F.Bo [.pointer (some p3),iV 1,.int .u64 (wrap .u64 r5.1.1)] w6 false Y6 λr7 w8=>
Ad prog F.Gq [.agg #[iV f0,iV f1,iV f2,iV f3,iV f4,iV f5,uV f6,iV f7]] w8 false Gh λr9 w10=>
Aw (λ(self11:((Int)×Unit)→WP) (z12:(Int)×Unit) w13=> ∀_:Nat→Value,
Aj (decide (z12.1<(r9.1.1.2.1:Int))) (
Hf r9.1.1.1 r9.1.1.2.1 z12.1 λa14=>
Bc k2' (a14.add (z12.1.toNat*3)) 0 w13 λx15=>
Bj z3' T.Bf w13 λp16 w17=>
Au (encs k2' x15) p16 0 w17 λw18=>
ld1 KI p16 w18 λx19=>
ld1 KI (p16.add 1) w18 λx20=>
Ad prog F.Bo [.pointer (some p3),iV x19,.int .u64 (wrap .u64 x20)] w18 false Y6 λr21 w22=>
self11 (wrap .i64 (z12.1+1),()) w22) (
Ad prog F.Eg [.pointer (some p3)] w13 false Gh λr23 w24=>
Ad prog F.Qh [.slice r23.1.1.1 r23.1.1.2.1 r23.1.1.2.2] w24 false Gh λr25 w26=>
R (((r25.1.1.1,r25.1.1.2.1,r25.1.1.2.2),()),(0,()),()) w26)) (0,()) w10))→Ad prog F.Gf [.iface T.Dx (.agg #[iV f0,iV f1,iV f2,iV f3,iV f4,iV f5,uV f6,iV f7])] w true iR R:=
 Cb Aa Tryz.func190 (hs 4 (.s (.s .n (.lp [(17,(.i .i64))] .n)) .n))
theorem P5.ok{p:Option Addr}{to local_:Int}{w:World}: ∀⦃R:TR aC→WP⦄,(
Bj z3' T.Dc w λp1 w2=>
Aj (Option.isNone p) (
Au z3' p1 0 w2 λw3=>
Bc k2' p1 0 w3 λx4=>
R (x4,(false,()),()) w3) (
A7 p λa5=>
ld1 KI a5 w2 λx6=>
Bj z3' T.Dc w2 λp7 w8=>
Au [iV x6,iV to,iV local_] p7 0 w8 λw9=>
A7 p λa10=>
ld1 .b (a10.add 3) w9 λx11=>
Aj x11 (
Au z3' p1 0 w9 λw12=>
Bc k2' p1 0 w12 λx13=>
R (x13,(false,()),()) w12) (
A7 p λa14=>
ld1 KI (a14.add 6) w9 λx15=>
Aj (decide (x15>0)) (
Au z3' p1 0 w9 λw16=>
Bc k2' p1 0 w16 λx17=>
R (x17,(false,()),()) w16) (
A7 p λa18=>
ld1 KI a18 w9 λx19=>
Aj (to==x19) (
Au z3' p1 0 w9 λw20=>
Bc k2' p1 0 w20 λx21=>
R (x21,(false,()),()) w20) (
Bc k2' p7 0 w9 λx22=>
Ad prog F.Dw [.iface T.Dc (Rl k2' x22)] w9 false r0' λr23 w24=>
Aj (!r23.1.1) (
Au z3' p1 0 w24 λw25=>
Bc k2' p1 0 w25 λx26=>
R (x26,(false,()),()) w25) (
A7 p λa27=>
Au [.bool true] (a27.add 3) 0 w24 λw28=>
A7 p λa29=>
Au [iV 0] (a29.add 4) 0 w28 λw30=>
A7 p λa31=>
Au [iV to] (a31.add 1) 0 w30 λw32=>
A7 p λa33=>
Au [iV local_] (a33.add 2) 0 w32 λw34=>
Bc k2' p7 0 w34 λx35=>
Au (encs k2' x35) p1 0 w34 λw36=>
Bc k2' p1 0 w36 λx37=>
R (x37,(true,()),()) w36))))))→Ad prog F.P5 [.pointer p,iV to,iV local_] w true aC R:=
 Cb Aa Tryz.func191 .n
theorem Va.ok{drift:Int}{t:Option Addr}{w:World}: ∀⦃R:TR Aep→WP⦄,(
Bj rX T.iK w λp1 w2=>
Ad prog F.C9 [.pointer t] w2 false r3' λr3 w4=>
Aj (r3.1.1==0) (
Au rX p1 0 w4 λw5=>
Bc mF p1 0 w5 λx6=>
R (x6,(false,()),()) w5) (
Bj [iV 0] T.int w4 λp7 w8=>
Bj [iV 0] T.int w8 λp9 w10=>
Au [iV 0] p7 0 w10 λw11=>
Au [iV 0] p9 0 w11 λw12=>
Ad prog F.Fp [.pointer t] w12 false Ub λr13 w14=>
RfT prog r13.1.1 Py w14 (λx15 k16 w17=>
Bj z3' T.Bq w17 λp23 w24=>
Au [iV x15.1.1,iV x15.1.2.1,iV x15.1.2.2.1] p23 0 w24 λw25=>
k16 w25 λgo18 lv19 w20=>
ld1 KI p7 w20 λx26=>
ld1 KI p23 w20 λx27=>
Au [iV (wrap .i64 (x26+x27))] p7 0 w20 λw28=>
ld1 KI p9 w28 λx29=>
ld1 KI (p23.add 1) w28 λx30=>
Au [iV (wrap .i64 (x29+x30))] p9 0 w28 λw31=>
go18 w31) (λD21 w22=>
ld1 KI p7 w22 λx32=>
Ad prog F.Jm [iV x32,iV r3.1.1] w22 true Ad9 λr33 w34=>
Au [iV r33.1.1] p7 0 w34 λw35=>
ld1 KI p9 w35 λx36=>
Ad prog F.Jm [iV x36,iV r3.1.1] w35 true Ad9 λr37 w38=>
Au [iV r37.1.1] p9 0 w38 λw39=>
I8 w39 λw40=>
ld1 KI p7 w40 λx41=>
ld1 KI p9 w40 λx42=>
Ad prog F.Jl [.pointer t] w40 false Gh λr43 w44=>
Ak [hd 1 p9 w40,hd 0 p7 w40] w44∧(
Ad prog F.Y4 [iV drift,.slice r43.1.1.1 r43.1.1.2.1 r43.1.1.2.2] w44 false qQ λr45 w46=>
Ak [hd 1 p9 w40,hd 0 p7 w40] w46∧(
Ad prog F.Ji [.pointer t] w46 false r3' λr47 w48=>
Ak [hd 1 p9 w40,hd 0 p7 w40] w48∧(
Au [iV x41,iV x42,iV r45.1.1,iV r45.1.2.1,iV r47.1.1] p1 0 w48 λw49=>
Ak [] w49∧(
tkK D21 w49 λw50=>
Bc mF p1 0 w50 λx51=>
R (x51,(true,()),()) w50))))) []))→Ad prog F.Va [iV drift,.pointer t] w true Aep R:=
 Cb Aa Tryz.func192 (hs 4 (.s (.s .n (.rf [(true,[(.i .i64),(.i .i64),(.i .i64)])] .n .n)) (hs 2 (.s (.pl (ks [0,1,2,3,6] (.ef 4 [] (.ef 5 [] (.ef 7 [] (.tk 8 (.ef 9 [0,1] (.tk 10 .z)))))))) .n))))
theorem Jv.ok{m0 m1 m2 m3 m4 local_:Int}{w:World}: ∀⦃R:TR Wp→WP⦄,(
Bj [iV m0,iV m1,iV m2,iV m3,iV m4] T.iK w λp1 w2=>
Aj (decide (local_<0)) (
R ((0,()),(false,()),()) w2) (
Aj (decide (local_>1125899906842624)) (
R ((0,()),(false,()),()) w2) (
ld1 KI p1 w2 λx3=>
Aj (decide (x3<0)) (
R ((0,()),(false,()),()) w2) (
ld1 KI p1 w2 λx4=>
Aj (decide (x4>1125899906842624)) (
R ((0,()),(false,()),()) w2) (
Bc [KI,KI] (p1.add 2) 0 w2 λx5=>
ld1 KI p1 w2 λx6=>
Ad prog F.Jq [.agg #[iV x5.1,iV x5.2.1],iV (wrap .i64 (local_-x6))] w2 false r3' λr7 w8=>
ld1 KI (p1.add 1) w8 λx9=>
Ad prog F.Nw [iV x9,iV (Int.negSucc 1125899906842623),iV 1125899906842624] w8 false r3' λr10 w11=>
Ad prog F.Xw [iV local_,iV r10.1.1] w11 false r3' λr12 w13=>
Ad prog F.Nw [iV r7.1.1,iV (Int.negSucc 1125899906842623),iV 1125899906842624] w13 false r3' λr14 w15=>
Ad prog F.Xw [iV r12.1.1,iV r14.1.1] w15 false r3' λr16 w17=>
Aj (decide (r16.1.1<0)) (
R ((0,()),(false,()),()) w17) (
Aj (decide (r16.1.1>1125899906842624)) (
R ((0,()),(false,()),()) w17) (
R ((r16.1.1,()),(true,()),()) w17)))))))→Ad prog F.Jv [.agg #[iV m0,iV m1,iV m2,iV m3,iV m4],iV local_] w true Wp R:=
 Cb Aa Tryz.func193 .n
theorem Fq.ok{p0 p1 p2:Int}{w:World}: ∀⦃R:TR r3'→WP⦄,(
Bj [iV p0,iV p1,iV p2] T.aS w λp3 w4=>
ld1 KI p3 w4 λx5=>
R ((wrap .i64 (x5*1000),()),()) w4)→Ad prog F.Fq [.agg #[iV p0,iV p1,iV p2]] w false r3' R:=
 Cb Aa Tryz.func194 .n
theorem Me.ok{t0 t1 t2 t3:Int}{w:World}: ∀⦃R:TR r3'→WP⦄,(
Bj [iV t0,iV t1,iV t2,iV t3] T.Sz w λp1 w2=>
Bc eG p1 0 w2 λx3=>
Ad prog F.D7 [Rl eG x3] w2 false r0' λr4 w5=>
Aj (!r4.1.1) (
R ((0,()),()) w5) (
I8 w5 λw6=>
ld1 KI (p1.add 1) w6 λx7=>
Bc eG p1 0 w6 λx8=>
ld1 KI (p1.add 2) w6 λx9=>
Ad prog F.H9 [Rl eG x8,iV (wrap .i64 (x9+1))] w6 false r3' λr10 w11=>
Ak [hd 5 (p1.add 2) w6,hd 1 (p1.add 1) w6] w11∧(
R ((wrap .i64 ((wrap .i64 ((wrap .i64 (2*x7))+r10.1.1))+2),()),()) w11)))→Ad prog F.Me [.agg #[iV t0,iV t1,iV t2,iV t3]] w false r3' R:=
 Cb Aa Tryz.func195 (hs 2 (.s (.pl (ks [0,1,2,3,4,5,6] (.ef 7 [3] (ks [8,9,10] .z)))) .n))
theorem Jz.ok{t0 t1 t2 t3:Int}{w:World}: ∀⦃R:TR r3'→WP⦄,(
Bj [iV t0,iV t1,iV t2,iV t3] T.Sz w λp1 w2=>
Bc eG p1 0 w2 λx3=>
Ad prog F.D7 [Rl eG x3] w2 false r0' λr4 w5=>
Aj (!r4.1.1) (
R ((0,()),()) w5) (
I8 w5 λw6=>
ld1 KI (p1.add 1) w6 λx7=>
Bc eG p1 0 w6 λx8=>
ld1 KI (p1.add 2) w6 λx9=>
Ad prog F.H9 [Rl eG x8,iV (wrap .i64 (8*(wrap .i64 (x9+1))))] w6 false r3' λr10 w11=>
Ak [hd 5 (p1.add 2) w6,hd 1 (p1.add 1) w6] w11∧(
R ((wrap .i64 ((wrap .i64 ((wrap .i64 (2*x7))+(wrap .i64 (2*r10.1.1))))+6),()),()) w11)))→Ad prog F.Jz [.agg #[iV t0,iV t1,iV t2,iV t3]] w false r3' R:=
 Cb Aa Tryz.func196 (hs 2 (.s (.pl (ks [0,1,2,3,4,5,6,7] (.ef 8 [3] (ks [9,10,11,12] .z)))) .n))
theorem N7.ok{e:Option Addr}{w:World}: ∀⦃R:TR r3'→WP⦄,(
Aj (Option.isNone e) (
R ((0,()),()) w) (
I8 w λw1=>
A7 e λa2=>
ld1 .sl a2 w1 λx3=>
A7 e λa4=>
ld1 KI (a4.add 1) w1 λx5=>
R ((wrap .i64 ((x3.2.1:Int)-x5),()),()) w1))→Ad prog F.N7 [.pointer e] w false r3' R:=
 Cb Aa Tryz.func197 (hs 2 (.s (.pl (ks [0,1,2,3,4,5,6,7,8,9,10] .z)) .n))
theorem Xy.ok{b:Option Addr×Nat×Nat}{w:World}: ∀⦃R:TR aW→WP⦄,(
Ad prog F.Y5 [uV 65535,.slice b.1 b.2.1 b.2.2] w false aW λr1 w2=>
R ((r1.1.1,()),()) w2)→Ad prog F.Xy [.slice b.1 b.2.1 b.2.2] w false aW R:=
 Cb Aa Tryz.func198 .n
theorem Ce.ok{i:Int}{c_cap0:Addr}{w:World}: ∀⦃R:TR r3'→WP⦄,(
ld1 .sl c_cap0 w λx1=>
Hf x1.1 x1.2.1 i λa2=>
ld1 (.i .u64) (a2.add (i.toNat*1)) w λx3=>
R ((wrap .i64 x3,()),()) w)→Ad prog F.Ce [iV i,.pointer (some c_cap0)] w false r3' R:=
 Cb Aa Tryz.func199 .n
theorem Np.ok{i:Int}{c_cap0:Addr}{w:World}: ∀⦃R:TR aW→WP⦄,(
ld1 .sl c_cap0 w λx1=>
Hf x1.1 x1.2.1 i λa2=>
ld1 (.i .u64) (a2.add (i.toNat*1)) w λx3=>
R ((wrap .u16 x3,()),()) w)→Ad prog F.Np [iV i,.pointer (some c_cap0)] w false aW R:=
 Cb Aa Tryz.func200 .n
theorem Yr.ok{f0 f1 f2 f3 f4 f5:Int}{w:World}: ∀⦃R:TR Xt→WP⦄,(
R ((6,()),()) w)→Ad prog F.Dv [.iface T.Bv (.agg #[iV f0,uV f1,iV f2,uV f3,iV f4,iV f5])] w false Xt R:=
 Cb Aa Tryz.func201 .n
theorem Kw.ok{f0 f1 f2 f3 f4 f5:Int}{w:World}: ∀⦃R:TR Xt→WP⦄,(
R ((1,()),()) w)→Ad prog F.Dv [.iface T.Ci (.agg #[iV f0,iV f1,uV f2,uV f3,iV f4,iV f5])] w false Xt R:=
 Cb Aa Tryz.func201 .n
theorem aH.ok{f0 f1:Int}{w:World}: ∀⦃R:TR Xt→WP⦄,(
R ((2,()),()) w)→Ad prog F.Dv [.iface T.Du (.agg #[iV f0,iV f1])] w false Xt R:=
 Cb Aa Tryz.func201 .n
theorem Z4.ok{f0:Int}{w:World}: ∀⦃R:TR Xt→WP⦄,(
R ((3,()),()) w)→Ad prog F.Dv [.iface T.Ep (.agg #[iV f0])] w false Xt R:=
 Cb Aa Tryz.func201 .n
theorem Zk.ok{f0 f1 f2:Int}{w:World}: ∀⦃R:TR Xt→WP⦄,(
R ((4,()),()) w)→Ad prog F.Dv [.iface T.Dc (.agg #[iV f0,iV f1,iV f2])] w false Xt R:=
 Cb Aa Tryz.func201 .n
theorem Zh.ok{f0 f1 f2 f3 f4 f5 f6 f7:Int}{w:World}: ∀⦃R:TR Xt→WP⦄,(
R ((5,()),()) w)→Ad prog F.Dv [.iface T.Dx (.agg #[iV f0,iV f1,iV f2,iV f3,iV f4,iV f5,uV f6,iV f7])] w false Xt R:=
 Cb Aa Tryz.func201 .n
theorem Jp.ok{e:Option Addr}{root m0 m1:Int}{w:World}: ∀⦃R:TR r3'→WP⦄,(
Bj [uV m0,uV m1] T.Nc w λp1 w2=>
Aj (Option.isNone e) (
R ((0,()),()) w2) (
Ad prog F.Nk [.pointer e,iV root] w2 false r0' λr3 w4=>
Aj (!r3.1.1) (
R ((0,()),()) w4) (
A7 e λa5=>
ld1 .m (a5.add 8) w4 λx6=>
lkO prog T.Qp (.map x6) (iV root) w4 true [KU,KU] λx7 b8=>
Bj [uV 0,uV 0] T.Nc w4 λp9 w10=>
Au [uV x7.1,uV x7.2.1] p9 0 w10 λw11=>
Bh (λ(J12:Unit→WP)=>
Aj b8 (
Bc [KU,KU] p1 0 w11 λx15=>
Bc [KU,KU] p9 0 w11 λx16=>
Ad prog F.Jf [.agg #[uV x15.1,uV x15.2.1],.agg #[uV x16.1,uV x16.2.1]] w11 false r0' λr17 w18=>
Aj (!r17.1.1) (
R ((0,()),()) w18) (
J12 (()) w18)) (
J12 (()) w11)) (λ(z13:Unit) w14=> ∀_:Nat→Value,
Bh (λ(J19:((Bool)×Unit)→WP)=>
A7 e λa22=>
ld1 KI (a22.add 5) w14 λx23=>
Aj (x23 !=root) (
J19 (true,()) w14) (
ld1 KU p9 w14 λx24=>
ld1 KU p1 w14 λx25=>
J19 ((x24 !=x25),()) w14)) (λ(z20:(Bool)×Unit) w21=> ∀_:Nat→Value,
I8 w21 λw26=>
A7 e λa27=>
ld1 .m (a27.add 8) w26 λx28=>
Bc [KU,KU] p1 0 w26 λx29=>
muK prog T.Qp (.map x28) (iV root) (.agg #[uV x29.1,uV x29.2.1]) w26 λw30=>
Ak [] w30∧(
A7 e λa31=>
Au [iV root] (a31.add 5) 0 w30 λw32=>
A7 e λa33=>
Au [iV 0] (a33.add 6) 0 w32 λw34=>
A7 e λa35=>
Au [iV 0] (a35.add 7) 0 w34 λw36=>
Aj z20.1 (
R ((2,()),()) w36) (
R ((1,()),()) w36)))))))→Ad prog F.Jp [.pointer e,iV root,.agg #[uV m0,uV m1]] w false r3' R:=
 Cb Aa Tryz.func202 (hs 3 (.ct [] .n (.ct [(9,.b)] .n (.s (.pl (ks [0,1,2,3,4,5] (.ef 6 [3,5] .z))) .n))))
theorem Hu.ok{t:Option Addr}{e0 e1 e2:Int}{w:World}: ∀⦃R:TR r3'→WP⦄,(
Bj [iV e0,iV e1,iV e2] T.Bq w λp1 w2=>
Bh (λ(J3:Unit→WP)=>
Ad prog F.Jh [.pointer t] w2 true aC λr6 w7=>
Bj z3' T.Bq w7 λp8 w9=>
Au (encs k2' r6.1) p8 0 w9 λw10=>
Aj (Option.isNone t) (
R ((2,()),()) w10) (
Bc k2' p1 0 w10 λx11=>
Ad prog F.Cj [Rl k2' x11] w10 false r0' λr12 w13=>
Aj (!r12.1.1) (
R ((1,()),()) w13) (
Aj r6.2.1.1 (
ld1 KI p1 w13 λx14=>
ld1 KI p8 w13 λx15=>
Aj (decide (x14≤x15)) (
R ((12,()),()) w13) (
J3 (()) w13)) (
J3 (()) w13)))) (λ(z4:Unit) w5=> ∀_:Nat→Value,
I8 w5 λw16=>
A7 t λa17=>
ld1 .sl a17 w16 λx18=>
Bc k2' p1 0 w16 λx19=>
Bj (encs k2' x19) T.Bq w16 λp20 w21=>
Ak [hd 5 (p1.add 0) w16,hd 5 (p1.add 1) w16,hd 5 (p1.add 2) w16,hd 4 a17 w16] w21∧(
Qj ((Builtin.append_ #[T.Ho,T.Ho] T.Ho #[.slice x18.1 x18.2.1 x18.2.2,.slice (some p20) 1 1]).run prog w21) λy22 w23=>
Ak [hd 5 (p1.add 0) w16,hd 5 (p1.add 1) w16,hd 5 (p1.add 2) w16] w23∧(
A7 t λa24=>
Au [.slice y22.1 y22.2.1 y22.2.2] a24 0 w23 λw25=>
Ak [] w25∧(
A7 t λa26=>
ld1 .sl a26 w25 λx27=>
Aj (decide ((x27.2.1:Int)>8)) (
A7 t λa28=>
ld1 .sl a28 w25 λx29=>
slK 1 (x29.2.1:Int) x29.2.2 (
Ad prog F.Dy [.slice (slA x29.1 x29.2.2 (Int.toNat 1) 3) ((Int.toNat (x29.2.1:Int))-(Int.toNat 1)) (x29.2.2-Int.toNat 1)] w25 false Gh λr30 w31=>
A7 t λa32=>
Au [.slice r30.1.1.1 r30.1.1.2.1 r30.1.1.2.2] a32 0 w31 λw33=>
R ((0,()),()) w33)) (
R ((0,()),()) w25))))))→Ad prog F.Hu [.pointer t,.agg #[iV e0,iV e1,iV e2]] w false r3' R:=
 Cb Aa Tryz.func203 (.s .n (.ct [] .n (.s (.pl (ks [0,1,2,3,4,5] (.ef 6 [] (.ef 7 [4] (.tk 8 (.tk 9 (.ef 10 [5] .z))))))) .n)))
theorem Gg.ok{t0 t1 t2 t3:Int}{w:World}: ∀⦃R:TR r3'→WP⦄,(
Bj [iV t0,iV t1,iV t2,iV t3] T.kC w λp1 w2=>
Bc eG p1 0 w2 λx3=>
Ad prog F.H5 [Rl eG x3] w2 false r0' λr4 w5=>
Aj (!r4.1.1) (
R ((0,()),()) w5) (
ld1 KI (p1.add 1) w5 λx6=>
ld1 KI p1 w5 λx7=>
ld1 KI (p1.add 2) w5 λx8=>
ld1 KI (p1.add 3) w5 λx9=>
Ad prog F.Jm [iV (wrap .i64 ((wrap .i64 ((wrap .i64 (x6-x7))+x8))-x9)),iV 2] w5 true Ad9 λr10 w11=>
R ((r10.1.1,()),()) w11))→Ad prog F.Gg [.agg #[iV t0,iV t1,iV t2,iV t3]] w false r3' R:=
 Cb Aa Tryz.func204 .n
theorem H5.ok{t0 t1 t2 t3:Int}{w:World}: ∀⦃R:TR r0'→WP⦄,(
Bj [iV t0,iV t1,iV t2,iV t3] T.kC w λp1 w2=>
ld1 KI p1 w2 λx3=>
ld1 KI (p1.add 1) w2 λx4=>
ld1 KI (p1.add 2) w2 λx5=>
ld1 KI (p1.add 3) w2 λx6=>
Aw (λ(self7:((Int)×Unit)→WP) (z8:(Int)×Unit) w9=> ∀_:Nat→Value,
Aj (decide (z8.1<4)) (
aiK [x3,x4,x5,x6] 4 z8.1 λc10=>
Aj (decide (c10<0)) (
R ((false,()),()) w9) (
Aj (decide (c10>1125899906842624)) (
R ((false,()),()) w9) (
self7 (wrap .i64 (z8.1+1),()) w9))) (
ld1 KI (p1.add 3) w9 λx11=>
ld1 KI p1 w9 λx12=>
R ((decide (x11≥x12),()),()) w9)) (0,()) w2)→Ad prog F.H5 [.agg #[iV t0,iV t1,iV t2,iV t3]] w false r0' R:=
 Cb Aa Tryz.func205 (.s .n (.s (.s .n (.lp [(14,(.i .i64))] .n)) .n))
theorem Cj.ok{e0 e1 e2:Int}{w:World}: ∀⦃R:TR r0'→WP⦄,(
Bj [iV e0,iV e1,iV e2] T.Bq w λp1 w2=>
ld1 KI p1 w2 λx3=>
Aj (decide (x3≥0)) (
ld1 KI p1 w2 λx4=>
Aj (decide (x4≤1125899906842624)) (
ld1 KI (p1.add 1) w2 λx5=>
Aj (decide (x5≥(Int.negSucc 1125899906842623))) (
ld1 KI (p1.add 1) w2 λx6=>
Aj (decide (x6≤1125899906842624)) (
ld1 KI (p1.add 2) w2 λx7=>
Aj (decide (x7≥1)) (
ld1 KI (p1.add 2) w2 λx8=>
R ((decide (x8≤63),()),()) w2) (
R ((false,()),()) w2)) (
R ((false,()),()) w2)) (
R ((false,()),()) w2)) (
R ((false,()),()) w2)) (
R ((false,()),()) w2))→Ad prog F.Cj [.agg #[iV e0,iV e1,iV e2]] w false r0' R:=
 Cb Aa Tryz.func206 .n
theorem Oa.ok{a b:Int}{w:World}: ∀⦃R:TR r0'→WP⦄,(
R ((decide ((wrap .i16 (wrap .u16 (a-b)))>0),()),()) w)→Ad prog F.Oa [uV a,uV b] w false r0' R:=
 Cb Aa Tryz.func207 .n
theorem Ol.ok{n:Option Addr}{w:World}: ∀⦃R:TR r0'→WP⦄,(
Bj [.bool false] T.bool w λp1 w2=>
A7 n λa3=>
ld1 .p (a3.add 27) w2 λx4=>
Ad prog F.Nq [.pointer x4] w2 false Ub λr5 w6=>
RfT prog r5.1.1 Ub w6 (λx7 k8 w9=>
k8 w9 λgo10 lv11 w12=>
taV prog x7.1.1 T.Vd true true [] λx15 b16=>
Bj [] T.Vd w12 λp17 w18=>
Au [] p17 0 w18 λw19=>
Aj b16 (
Au [.bool true] p1 0 w19 λw20=>
lv11 0 w20) (
go10 w19)) (λD13 w14=>
Au [.bool false] p1 0 w14 λw21=>
tkK D13 w21 λw22=>
ld1 .b p1 w22 λx23=>
R ((x23,()),()) w22) [(0,λD13 w14=>
tkK D13 w14 λw24=>
ld1 .b p1 w24 λx25=>
R ((x25,()),()) w24)])→Ad prog F.Ol [.pointer n] w false r0' R:=
 Cb Aa Tryz.func208 (.s .n (.s (.s .n (.rf [(false,[.any])] .n .n)) .n))
end Go.Proofs.YtppeepkmnijdpaaGreatDoor
