import Derived.Test.YtppeepkmnijdpaaGreatDoorNm
namespace Go.Proofs.YtppeepkmnijdpaaGreatDoor
open Go.Eng Tryz
open Go.IntKind (wrap)
set_option linter.unusedSimpArgs false
set_option linter.unusedVariables false
set_option maxRecDepth 100000
theorem Gx.ok{e:Option Addr}{w:World}: ∀⦃R:TR Aex→WP⦄,(
Bj [uV 0,uV 0] T.Nc w λp1 w2=>
Bh (λ(J3:((Bool)×Unit)→WP)=>
Aj (Option.isNone e) (
J3 (true,()) w2) (
A7 e λa6=>
ld1 KI (a6.add 5) w2 λx7=>
J3 (decide (x7<0),()) w2)) (λ(z4:(Bool)×Unit) w5=> ∀_:Nat→Value,
Aj z4.1 (
Au [uV 0,uV 0] p1 0 w5 λw8=>
Bc [KU,KU] p1 0 w8 λx9=>
R ((x9.1,x9.2.1,()),(false,()),()) w8) (
Ad prog F.A8 [.pointer e] w5 false r0' λr10 w11=>
Aj r10.1.1 (
I8 w11 λw12=>
A7 e λa13=>
ld1 KU (a13.add 3) w12 λx14=>
A7 e λa15=>
ld1 KU (a15.add 4) w12 λx16=>
A7 e λa17=>
ld1 KU (a17.add 4) w12 λx18=>
Au [uV x14,uV x16] p1 0 w12 λw19=>
Ak [hd 12 (a17.add 4) w12] w19∧(
Bc [KU,KU] p1 0 w19 λx20=>
R ((x20.1,x20.2.1,()),(decide (x18>0),()),()) w19)) (
I8 w11 λw21=>
A7 e λa22=>
ld1 .m (a22.add 8) w21 λx23=>
A7 e λa24=>
ld1 KI (a24.add 5) w21 λx25=>
lkP prog T.Qp (.map x23) (iV x25) w21 true [KU,KU] λx26=>
Ak [] w21∧(
Au [uV x26.1,uV x26.2.1] p1 0 w21 λw27=>
Ak [] w27∧(
Bc [KU,KU] p1 0 w27 λx28=>
R ((x28.1,x28.2.1,()),(true,()),()) w27))))))→Ad prog F.Gx [.pointer e] w true Aex R:=
 Cb Aa Tryz.func209 (.s .n (.s (.ct [(4,.b)] .n (hs 2 (.s (.s (.pl (ks [0,1,2,3,4,5,6,7,8,9,10,11,12,13] (.ef 14 [3,7] (.tk 15 .z)))) .n) .n))) (.s (.pl (ks [0,1,2,3,4,5,6,7] (.ef 8 [3,7] (.ef 9 [] (.tk 10 .z))))) .n)))
theorem bits_Len64.ok{x:Int}{w:World}: ∀⦃R:TR r3'→WP⦄,(
Bh (λ(J1:((Int)×(Int)×Unit)→WP)=>
Aj (decide (x≥4294967296)) (
dK 32 (
J1 (I7 .u64 x 32,32,()) w)) (
J1 (x,0,()) w)) (λ(z2:(Int)×(Int)×Unit) w3=> ∀_:Nat→Value,
Bh (λ(J4:((Int)×(Int)×Unit)→WP)=>
Aj (decide (z2.1≥65536)) (
dK 16 (
J4 (I7 .u64 z2.1 16,wrap .i64 (z2.2.1+16),()) w3)) (
J4 (z2.1,z2.2.1,()) w3)) (λ(z5:(Int)×(Int)×Unit) w6=> ∀_:Nat→Value,
Bh (λ(J7:((Int)×(Int)×Unit)→WP)=>
Aj (decide (z5.1≥256)) (
dK 8 (
J7 (I7 .u64 z5.1 8,wrap .i64 (z5.2.1+8),()) w6)) (
J7 (z5.1,z5.2.1,()) w6)) (λ(z8:(Int)×(Int)×Unit) w9=> ∀_:Nat→Value,
siK ⟨#[0,1,2,2,3,3,3,3,4,4,4,4,4,4,4,4,5,5,5,5,5,5,5,5,5,5,5,5,5,5,5,5,6,6,6,6,6,6,6,6,6,6,6,6,6,6,6,6,6,6,6,6,6,6,6,6,6,6,6,6,6,6,6,6,7,7,7,7,7,7,7,7,7,7,7,7,7,7,7,7,7,7,7,7,7,7,7,7,7,7,7,7,7,7,7,7,7,7,7,7,7,7,7,7,7,7,7,7,7,7,7,7,7,7,7,7,7,7,7,7,7,7,7,7,7,7,7,7,8,8,8,8,8,8,8,8,8,8,8,8,8,8,8,8,8,8,8,8,8,8,8,8,8,8,8,8,8,8,8,8,8,8,8,8,8,8,8,8,8,8,8,8,8,8,8,8,8,8,8,8,8,8,8,8,8,8,8,8,8,8,8,8,8,8,8,8,8,8,8,8,8,8,8,8,8,8,8,8,8,8,8,8,8,8,8,8,8,8,8,8,8,8,8,8,8,8,8,8,8,8,8,8,8,8,8,8,8,8,8,8,8,8,8,8,8,8,8,8,8,8,8,8,8,8,8,8]⟩ (wrap .u8 z8.1) λc10=>
R ((wrap .i64 (z8.2.1+(wrap .i64 c10)),()),()) w9))))→Ad prog F.bits_Len64 [.int .u64 x] w false r3' R:=
 Cb Aa Tryz.func221 (.s .n (.ct [(0,(.i .u64)),(2,(.i .i64))] .n (.ct [(0,(.i .u64)),(2,(.i .i64))] .n (.ct [(0,(.i .u64)),(2,(.i .i64))] .n .n))))
theorem Iu.ok{e:Option Addr}{w:World}: ∀⦃R:TR Aex→WP⦄,(
Bj [uV 0,uV 0] T.Nc w λp1 w2=>
Ad prog F.A8 [.pointer e] w2 false r0' λr3 w4=>
Aj (!r3.1.1) (
Au [uV 0,uV 0] p1 0 w4 λw5=>
Bc [KU,KU] p1 0 w5 λx6=>
R ((x6.1,x6.2.1,()),(false,()),()) w5) (
A7 e λa7=>
ld1 KU (a7.add 4) w4 λx8=>
Ad prog F.V6 [uV x8] w4 false aW λr9 w10=>
A7 e λa11=>
Au [uV r9.1.1] (a11.add 4) 0 w10 λw12=>
I8 w12 λw13=>
A7 e λa14=>
ld1 KU (a14.add 3) w13 λx15=>
A7 e λa16=>
ld1 KU (a16.add 4) w13 λx17=>
Au [uV x15,uV x17] p1 0 w13 λw18=>
Ak [] w18∧(
Bc [KU,KU] p1 0 w18 λx19=>
R ((x19.1,x19.2.1,()),(true,()),()) w18)))→Ad prog F.Iu [.pointer e] w true Aex R:=
 Cb Aa Tryz.func225 (hs 3 (.s (.pl (ks [0,1,2,3,4,5,6,7,8] (.ef 9 [3,7] (.tk 10 .z)))) .n))
theorem Bo.ok{p:Option Addr}{size n:Int}{w:World}: ∀⦃R:TR Y6→WP⦄,(
Aj (Option.isNone p) (
R ((none,()),()) w) (
Aw (λ(self1:((Int)×Unit)→WP) (z2:(Int)×Unit) w3=> ∀_:Nat→Value,
Aj (decide (z2.1≥0)) (
I8 w3 λw4=>
A7 p λa5=>
ld1 .sl a5 w4 λx6=>
dK (wrap .i64 (8*z2.1)) (
Bj [.int .u8 (wrap .u8 (I7 .u64 n (wrap .i64 (8*z2.1))))] T.uint8 w4 λp7 w8=>
Ak [hd 4 a5 w4] w8∧(
Qj ((Builtin.append_ #[T.D6,T.D6] T.D6 #[.slice x6.1 x6.2.1 x6.2.2,.slice (some p7) 1 1]).run prog w8) λy9 w10=>
Ak [] w10∧(
A7 p λa11=>
Au [.slice y9.1 y9.2.1 y9.2.2] a11 0 w10 λw12=>
Ak [] w12∧(
self1 (wrap .i64 (z2.1-1),()) w12))))) (
R ((p,()),()) w3)) (wrap .i64 ((if 8<(if 0>size then 0 else size) then 8 else(if 0>size then 0 else size))-1),()) w))→Ad prog F.Bo [.pointer p,iV size,.int .u64 n] w false Y6 R:=
 Cb Aa Tryz.func226 (hs 2 (.s (.s .n (.lp [(7,(.i .i64))] (.s .n (.s (.pl (ks [0,1,2,3,4,5,6,7,8,9] (.ef 10 [] (.ef 11 [4] (.tk 12 (.tk 13 (.ef 14 [] .z))))))) .n)))) .n))
theorem Qh.ok{b:Option Addr×Nat×Nat}{w:World}: ∀⦃R:TR Gh→WP⦄,(
Ad prog F.Xy [.slice b.1 b.2.1 b.2.2] w false aW λr1 w2=>
Qj ((Instr.makeSlice T.D6 (iV 0) (iV (wrap .i64 ((b.2.1:Int)+2)))).run prog w2) λy3 w4=>
Qj ((Builtin.append_ #[T.D6,T.D6] T.D6 #[.slice y3.1 y3.2.1 y3.2.2,.slice b.1 b.2.1 b.2.2]).run prog w4) λy5 w6=>
dK 8 (
Bj [.int .u8 (wrap .u8 (I7 .u16 r1.1.1 8)),.int .u8 (wrap .u8 r1.1.1)] T.uint8 w6 λp7 w8=>
Qj ((Builtin.append_ #[T.D6,T.D6] T.D6 #[.slice y5.1 y5.2.1 y5.2.2,.slice (some p7) 2 2]).run prog w8) λy9 w10=>
R (((y9.1,y9.2.1,y9.2.2),()),()) w10))→Ad prog F.Qh [.slice b.1 b.2.1 b.2.2] w false Gh R:=
 Cb Aa Tryz.func227 .n
theorem Eg.ok{p:Option Addr}{w:World}: ∀⦃R:TR Gh→WP⦄,(
Aj (Option.isNone p) (
R (((none,0,0),()),()) w) (
A7 p λa1=>
ld1 .sl a1 w λx2=>
Qj ((Builtin.append_ #[T.D6,T.D6] T.D6 #[.slice none 0 0,.slice x2.1 x2.2.1 x2.2.2]).run prog w) λy3 w4=>
R (((y3.1,y3.2.1,y3.2.2),()),()) w4))→Ad prog F.Eg [.pointer p] w false Gh R:=
 Cb Aa Tryz.func228 .n
theorem Fp.ok{t:Option Addr}{w:World}: ∀⦃R:TR Ub→WP⦄,(
Bj [.pointer t] T.vM w λp1 w2=>
R ((.func (.func F.Dq) #[] #[.pointer (some p1)],()),()) w2)→Ad prog F.Fp [.pointer t] w false Ub R:=
 Cb Aa Tryz.func229 .n
theorem Y4.ok{drift:Int}{list:Option Addr×Nat×Nat}{w:World}: ∀⦃R:TR qQ→WP⦄,(
Bj [iV 0,iV 0] T.Su w λp1 w2=>
Bj [iV 0,iV 0] T.Su w2 λp3 w4=>
Au [iV 0,iV 1] p3 0 w4 λw5=>
Aj (decide ((list.2.1:Int)<2)) (
Bc [KI,KI] p3 0 w5 λx6=>
Au [iV x6.1,iV x6.2.1] p1 0 w5 λw7=>
Bc [KI,KI] p1 0 w7 λx8=>
R ((x8.1,x8.2.1,()),()) w7) (
Aj (decide ((list.2.1:Int)>8)) (
Bc [KI,KI] p3 0 w5 λx9=>
Au [iV x9.1,iV x9.2.1] p1 0 w5 λw10=>
Bc [KI,KI] p1 0 w10 λx11=>
R ((x11.1,x11.2.1,()),()) w10) (
Aw (λ(self12:((Int)×Unit)→WP) (z13:(Int)×Unit) w14=> ∀_:Nat→Value,
Aj (decide (z13.1<(list.2.1:Int))) (
Hf list.1 list.2.1 z13.1 λa15=>
Bc k2' (a15.add (z13.1.toNat*3)) 0 w14 λx16=>
Bj z3' T.Bq w14 λp17 w18=>
Au (encs k2' x16) p17 0 w18 λw19=>
Bc k2' p17 0 w19 λx20=>
Ad prog F.Cj [Rl k2' x20] w19 false r0' λr21 w22=>
Aj (!r21.1.1) (
Bc [KI,KI] p3 0 w22 λx23=>
Au [iV x23.1,iV x23.2.1] p1 0 w22 λw24=>
Bc [KI,KI] p1 0 w24 λx25=>
R ((x25.1,x25.2.1,()),()) w24) (
self12 (wrap .i64 (z13.1+1),()) w22)) (
Ad prog F.Qq [.slice list.1 list.2.1 list.2.2] w14 true Aep λr26 w27=>
Bj rX T.jF w27 λp28 w29=>
Au (encs mF r26.1) p28 0 w29 λw30=>
ld1 KI p28 w30 λx31=>
ld1 KI (p28.add 4) w30 λx32=>
ld1 KI (p28.add 1) w30 λx33=>
ld1 KI (p28.add 1) w30 λx34=>
Aj (!r26.2.1.1) (
Bc [KI,KI] p3 0 w30 λx35=>
Au [iV x35.1,iV x35.2.1] p1 0 w30 λw36=>
Bc [KI,KI] p1 0 w36 λx37=>
R ((x37.1,x37.2.1,()),()) w36) (
Aj (decide ((wrap .i64 ((wrap .i64 (x31*x32))-(wrap .i64 (x33*x34))))<1)) (
Bc [KI,KI] p3 0 w30 λx38=>
Au [iV x38.1,iV x38.2.1] p1 0 w30 λw39=>
Bc [KI,KI] p1 0 w39 λx40=>
R ((x40.1,x40.2.1,()),()) w39) (
ld1 KI p28 w30 λx41=>
ld1 KI (p28.add 3) w30 λx42=>
ld1 KI (p28.add 1) w30 λx43=>
ld1 KI (p28.add 2) w30 λx44=>
Ad prog F.Ut [iV drift] w30 false qQ λr45 w46=>
Bj [iV 0,iV 0] T.Su w46 λp47 w48=>
Au [iV r45.1.1,iV r45.1.2.1] p47 0 w48 λw49=>
Bh (λ(J50:((Bool)×Unit)→WP)=>
Aj (decide ((wrap .i64 ((wrap .i64 (x41*x42))-(wrap .i64 (x43*x44))))>0)) (
Bc [KI,KI] p47 0 w49 λx53=>
Ad prog F.Qo [.agg #[iV (wrap .i64 ((wrap .i64 (x41*x42))-(wrap .i64 (x43*x44)))),iV (wrap .i64 ((wrap .i64 (x31*x32))-(wrap .i64 (x33*x34))))],.agg #[iV x53.1,iV x53.2.1]] w49 false r0' λr54 w55=>
J50 (r54.1.1,()) w55) (
J50 (false,()) w49)) (λ(z51:(Bool)×Unit) w52=> ∀_:Nat→Value,
Aj z51.1 (
Bc [KI,KI] p47 0 w52 λx56=>
Au [iV x56.1,iV x56.2.1] p1 0 w52 λw57=>
Bc [KI,KI] p1 0 w57 λx58=>
R ((x58.1,x58.2.1,()),()) w57) (
Bh (λ(J59:((Bool)×Unit)→WP)=>
Aj (decide ((wrap .i64 ((wrap .i64 (x41*x42))-(wrap .i64 (x43*x44))))<0)) (
Bc [KI,KI] p47 0 w52 λx62=>
Ad prog F.Qo [.agg #[iV (wrap .i64 (0-(wrap .i64 ((wrap .i64 (x41*x42))-(wrap .i64 (x43*x44)))))),iV (wrap .i64 ((wrap .i64 (x31*x32))-(wrap .i64 (x33*x34))))],.agg #[iV x62.1,iV x62.2.1]] w52 false r0' λr63 wR=>
J59 (r63.1.1,()) wR) (
J59 (false,()) w52)) (λ(z60:(Bool)×Unit) w61=> ∀_:Nat→Value,
Aj z60.1 (
ld1 KI p47 w61 λx65=>
ld1 KI (p47.add 1) w61 λx66=>
Au [iV (wrap .i64 (0-x65)),iV x66] p1 0 w61 λw67=>
Bc [KI,KI] p1 0 w67 λx68=>
R ((x68.1,x68.2.1,()),()) w67) (
Au [iV (wrap .i64 ((wrap .i64 (x41*x42))-(wrap .i64 (x43*x44)))),iV (wrap .i64 ((wrap .i64 (x31*x32))-(wrap .i64 (x33*x34))))] p1 0 w61 λw69=>
Bc [KI,KI] p1 0 w69 λx70=>
R ((x70.1,x70.2.1,()),()) w69)))))))) (0,()) w5)))→Ad prog F.Y4 [iV drift,.slice list.1 list.2.1 list.2.2] w false qQ R:=
 Cb Aa Tryz.func230 (hs 3 (.s (.s .n (.lp [(25,(.i .i64))] .n)) (hs 5 (.s (.ct [(70,.b)] .n (.s .n (.ct [(81,.b)] .n .n))) .n))))
theorem Jl.ok{t:Option Addr}{w:World}: ∀⦃R:TR Gh→WP⦄,(
Ad prog F.Fp [.pointer t] w false Ub λr1 w2=>
Ad prog F.Gs [r1.1.1] w2 false Gh λr3 w4=>
R (((r3.1.1.1,r3.1.1.2.1,r3.1.1.2.2),()),()) w4)→Ad prog F.Jl [.pointer t] w false Gh R:=
 Cb Aa Tryz.func231 .n
theorem Ji.ok{t:Option Addr}{w:World}: ∀⦃R:TR r3'→WP⦄,(
Bj [iV 0] T.int w λp1 w2=>
Au [iV 0] p1 0 w2 λw3=>
Ad prog F.Fp [.pointer t] w3 false Ub λr4 w5=>
RfT prog r4.1.1 Py w5 (λx6 k7 w8=>
Bj z3' T.Bq w8 λp14 w15=>
Au [iV x6.1.1,iV x6.1.2.1,iV x6.1.2.2.1] p14 0 w15 λw16=>
k7 w16 λgo9 lv10 w11=>
ld1 KI p1 w11 λx17=>
ld1 KI (p14.add 2) w11 λx18=>
Au [iV (if x18>x17 then x18 else x17)] p1 0 w11 λw19=>
go9 w19) (λD12 w13=>
ld1 KI p1 w13 λx20=>
tkK D12 w13 λw21=>
R ((x20,()),()) w21) [])→Ad prog F.Ji [.pointer t] w false r3' R:=
 Cb Aa Tryz.func232 (hs 2 (.s (.s .n (.rf [(true,[(.i .i64),(.i .i64),(.i .i64)])] .n .n)) .n))
theorem Jq.ok{s0 s1 ticks:Int}{w:World}: ∀⦃R:TR r3'→WP⦄,(
Bj [iV s0,iV s1] T.Su w λp1 w2=>
ld1 KI p1 w2 λx3=>
ld1 KI (p1.add 1) w2 λx4=>
Ad prog F.Uw [iV x3,iV ticks,iV x4] w2 true Wp λr5 w6=>
R ((r5.1.1,()),()) w6)→Ad prog F.Jq [.agg #[iV s0,iV s1],iV ticks] w false r3' R:=
 Cb Aa Tryz.func233 .n
theorem Xw.ok{a b:Int}{w:World}: ∀⦃R:TR r3'→WP⦄,(
Ad prog F.cO [iV a,iV b] w true Wp λr1 w2=>
Aj r1.2.1.1 (
R ((r1.1.1,()),()) w2) (
Aj (decide (b>0)) (
R ((9223372036854775807,()),()) w2) (
R (((Int.negSucc 9223372036854775807),()),()) w2)))→Ad prog F.Xw [iV a,iV b] w false r3' R:=
 Cb Aa Tryz.func234 .n
theorem D7.ok{t0 t1 t2 t3:Int}{w:World}: ∀⦃R:TR r0'→WP⦄,(
Bj [iV t0,iV t1,iV t2,iV t3] T.Sz w λp1 w2=>
ld1 KI p1 w2 λx3=>
Aj (decide (x3≥0)) (
ld1 KI p1 w2 λx4=>
Aj (decide (x4≤10)) (
ld1 KI (p1.add 1) w2 λx5=>
Aj (decide (x5≥0)) (
ld1 KI (p1.add 1) w2 λx6=>
Aj (decide (x6≤20)) (
ld1 KI (p1.add 2) w2 λx7=>
Aj (decide (x7≥1)) (
ld1 KI (p1.add 2) w2 λx8=>
Aj (decide (x8≤1000)) (
ld1 KI (p1.add 3) w2 λx9=>
Aj (decide (x9≥1)) (
ld1 KI (p1.add 3) w2 λx10=>
R ((decide (x10≤64),()),()) w2) (
R ((false,()),()) w2)) (
R ((false,()),()) w2)) (
R ((false,()),()) w2)) (
R ((false,()),()) w2)) (
R ((false,()),()) w2)) (
R ((false,()),()) w2)) (
R ((false,()),()) w2))→Ad prog F.D7 [.agg #[iV t0,iV t1,iV t2,iV t3]] w false r0' R:=
 Cb Aa Tryz.func235 .n
theorem H9.ok{t0 t1 t2 t3 rounds:Int}{w:World}: ∀⦃R:TR r3'→WP⦄,(
Bj [iV t0,iV t1,iV t2,iV t3] T.Sz w λp1 w2=>
I8 w2 λw3=>
ld1 KI p1 w3 λx4=>
Bc eG p1 0 w3 λx5=>
Ad prog F.Iq [Rl eG x5,iV rounds] w3 false r3' λr6 w7=>
Ak [hd 1 p1 w3] w7∧(
ld1 KI p1 w7 λx8=>
Bc eG p1 0 w7 λx9=>
Ad prog F.D7 [Rl eG x9] w7 false r0' λr10 w11=>
Aj (!r10.1.1) (
R ((0,()),()) w11) (
Zm (wrap .i64 (1000-x8)) (
R ((wrap .i64 (Int.tdiv (wrap .i64 ((wrap .i64 ((wrap .i64 ((wrap .i64 (2*x4))*r6.1.1))+(wrap .i64 (1000-x8))))-1)) (wrap .i64 (1000-x8))),()),()) w11))))→Ad prog F.H9 [.agg #[iV t0,iV t1,iV t2,iV t3],iV rounds] w false r3' R:=
 Cb Aa Tryz.func236 (.s .n (.s (.pl (ks [0,1,2,3,4] (.ef 5 [3] (.tk 6 (.tk 7 .z))))) .n))
theorem Y5.ok{sum:Int}{b:Option Addr×Nat×Nat}{w:World}: ∀⦃R:TR aW→WP⦄,(
Aw (λ(self1:((Int)×(Int)×Unit)→WP) (z2:(Int)×(Int)×Unit) w3=> ∀_:Nat→Value,
Aj (decide (z2.2.1<(b.2.1:Int))) (
Hf b.1 b.2.1 z2.2.1 λa4=>
ld1 (.i .u8) (a4.add (z2.2.1.toNat*1)) w3 λx5=>
Ad prog F.Yg [uV z2.1,.int .u8 x5] w3 false aW λr6 w7=>
self1 (r6.1.1,wrap .i64 (z2.2.1+1),()) w7) (
R ((z2.1,()),()) w3)) (sum,0,()) w)→Ad prog F.Y5 [uV sum,.slice b.1 b.2.1 b.2.2] w false aW R:=
 Cb Aa Tryz.func237 (.s .n (.s (.s .n (.lp [(0,(.i .u16)),(9,(.i .i64))] .n)) .n))
theorem Nk.ok{e:Option Addr}{root:Int}{w:World}: ∀⦃R:TR r0'→WP⦄,(
Bh (λ(J1:((Bool)×Unit)→WP)=>
Aj (decide (root<0)) (
J1 (true,()) w) (
A7 e λa4=>
ld1 KI a4 w λx5=>
J1 (decide (root≥x5),()) w)) (λ(z2:(Bool)×Unit) w3=> ∀_:Nat→Value,
Aj z2.1 (
R ((false,()),()) w3) (
Ad prog F.A8 [.pointer e] w3 false r0' λr6 w7=>
Aj r6.1.1 (
A7 e λa8=>
ld1 KI (a8.add 7) w7 λx9=>
R (((x9==0),()),()) w7) (
A7 e λa10=>
ld1 KI (a10.add 5) w7 λx11=>
Aj (decide (x11<0)) (
R ((true,()),()) w7) (
A7 e λa12=>
ld1 KI (a12.add 5) w7 λx13=>
R ((decide (root≤x13),()),()) w7)))))→Ad prog F.Nk [.pointer e,iV root] w false r0' R:=
 Cb Aa Tryz.func238 (.s .n (.s (.ct [(5,.b)] .n .n) .n))
theorem Jf.ok{m0 m1 old0 old1:Int}{w:World}: ∀⦃R:TR r0'→WP⦄,(
Bj [uV m0,uV m1] T.Nc w λp1 w2=>
Bj [uV old0,uV old1] T.Nc w2 λp3 w4=>
ld1 KU p1 w4 λx5=>
ld1 KU p3 w4 λx6=>
Ad prog F.Oa [uV x5,uV x6] w4 false r0' λr7 w8=>
Aj r7.1.1 (
R ((true,()),()) w8) (
ld1 KU p1 w8 λx9=>
ld1 KU p3 w8 λx10=>
Aj (x9==x10) (
ld1 KU (p1.add 1) w8 λx11=>
ld1 KU (p3.add 1) w8 λx12=>
Ad prog F.Oa [uV x11,uV x12] w8 false r0' λr13 w14=>
R ((r13.1.1,()),()) w14) (
R ((false,()),()) w8)))→Ad prog F.Jf [.agg #[uV m0,uV m1],.agg #[uV old0,uV old1]] w false r0' R:=
 Cb Aa Tryz.func239 .n
theorem Jh.ok{t:Option Addr}{w:World}: ∀⦃R:TR aC→WP⦄,(
Bj z3' T.Bq w λp1 w2=>
Ad prog F.C9 [.pointer t] w2 false r3' λr3 w4=>
Aj (r3.1.1==0) (
Au z3' p1 0 w4 λw5=>
Bc k2' p1 0 w5 λx6=>
R (x6,(false,()),()) w5) (
I8 w4 λw7=>
A7 t λa8=>
ld1 .sl a8 w7 λx9=>
A7 t λa10=>
ld1 .sl a10 w7 λx11=>
Hf x9.1 x9.2.1 (wrap .i64 ((x11.2.1:Int)-1)) λa12=>
Bc k2' (a12.add ((wrap .i64 ((x11.2.1:Int)-1)).toNat*3)) 0 w7 λx13=>
Au (encs k2' x13) p1 0 w7 λw14=>
Ak [] w14∧(
Bc k2' p1 0 w14 λx15=>
R (x15,(true,()),()) w14)))→Ad prog F.Jh [.pointer t] w true aC R:=
 Cb Aa Tryz.func240 (hs 2 (.s (.pl (ks [0,1,2,3,4,5,6,7,8,9,10,11] (.ef 12 [3,7,11] (.tk 13 .z)))) .n))
theorem Dy.ok{s:Option Addr×Nat×Nat}{w:World}: ∀⦃R:TR Gh→WP⦄,(
Aj (Option.isNone s.1) (
R (((none,0,0),()),()) w) (
Bj [] T.Bq w λp1 w2=>
Qj ((Builtin.append_ #[T.Ho,T.Ho] T.Ho #[.slice (some p1) 0 0,.slice s.1 s.2.1 s.2.2]).run prog w2) λy3 w4=>
R (((y3.1,y3.2.1,y3.2.2),()),()) w4))→Ad prog F.Dy [.slice s.1 s.2.1 s.2.2] w false Gh R:=
 Cb Aa Tryz.func241 .n
theorem Nq.ok{r:Option Addr}{w:World}: ∀⦃R:TR Ub→WP⦄,(
Bj [.pointer r] T.fM w λp1 w2=>
R ((.func (.func F.Eo) #[] #[.pointer (some p1)],()),()) w2)→Ad prog F.Nq [.pointer r] w false Ub R:=
 Cb Aa Tryz.func242 .n
theorem V6.ok{a:Int}{w:World}: ∀⦃R:TR aW→WP⦄,(
R ((wrap .u16 (a+1),()),()) w)→Ad prog F.V6 [uV a] w false aW R:=
 Cb Aa Tryz.func249 .n
theorem Dq.ok{yield:Nat}{c_cap0:Addr}{w:World}: ∀⦃R:TR []→WP⦄,(
ld1 .p c_cap0 w λx1=>
Ad prog F.C9 [.pointer x1] w false r3' λr2 w3=>
Aw (λ(self4:((Int)×Unit)→WP) (z5:(Int)×Unit) w6=> ∀_:Nat→Value,
Aj (decide (z5.1<r2.1.1)) (
ld1 .p c_cap0 w6 λx7=>
A7 x7 λa8=>
ld1 .sl a8 w6 λx9=>
Hf x9.1 x9.2.1 z5.1 λa10=>
Bc k2' (a10.add (z5.1.toNat*3)) 0 w6 λx11=>
yiS prog yield [Rl k2' x11] w6 λb12 w13=>
Aj (!b12) (
R (()) w13) (
self4 (wrap .i64 (z5.1+1),()) w13)) (
R (()) w6)) (0,()) w3)→Ad prog F.Dq [.func (.yield yield) #[] #[],.pointer (some c_cap0)] w true [] R:=
 Cb Aa Tryz.func250 (.s .n (.lp [(6,(.i .i64))] .n))
theorem Qq.ok{list:Option Addr×Nat×Nat}{w:World}: ∀⦃R:TR Aep→WP⦄,(
Bj rX T.jF w λp1 w2=>
Bj rX T.jF w2 λp3 w4=>
Aw (λ(self5:((Int)×Unit)→WP) (z6:(Int)×Unit) w7=> ∀_:Nat→Value,
Aj (decide (z6.1<(list.2.1:Int))) (
Hf list.1 list.2.1 z6.1 λa8=>
Bc k2' (a8.add (z6.1.toNat*3)) 0 w7 λx9=>
Bj z3' T.Bq w7 λp10 w11=>
Au (encs k2' x9) p10 0 w11 λw12=>
I8 w12 λw13=>
ld1 KI p10 w13 λx14=>
Hf list.1 list.2.1 0 λa15=>
ld1 KI (a15.add ((0:Int).toNat*3)) w13 λx16=>
ld1 KI (p10.add 1) w13 λx17=>
Hf list.1 list.2.1 0 λa18=>
ld1 KI ((a18.add ((0:Int).toNat*3)).add 1) w13 λx19=>
Aj (decide ((wrap .i64 (x14-x16))<0)) (
Au rX p1 0 w13 λw20=>
Bc mF p1 0 w20 λx21=>
R (x21,(false,()),()) w20) (
Aj (decide ((wrap .i64 (x14-x16))>4194304)) (
Au rX p1 0 w13 λw22=>
Bc mF p1 0 w22 λx23=>
R (x23,(false,()),()) w22) (
Aj (decide ((wrap .i64 (x17-x19))<(Int.negSucc 4194303))) (
Au rX p1 0 w13 λw24=>
Bc mF p1 0 w24 λx25=>
R (x25,(false,()),()) w24) (
Aj (decide ((wrap .i64 (x17-x19))>4194304)) (
Au rX p1 0 w13 λw26=>
Bc mF p1 0 w26 λx27=>
R (x27,(false,()),()) w26) (
Ad prog F.Nz [.pointer (some p3),iV (wrap .i64 (x14-x16)),iV (wrap .i64 (x17-x19))] w13 true [] λr28 w29=>
self5 (wrap .i64 (z6.1+1),()) w29))))) (
Bc mF p3 0 w7 λx30=>
Au (encs mF x30) p1 0 w7 λw31=>
Bc mF p1 0 w31 λx32=>
R (x32,(true,()),()) w31)) (0,()) w4)→Ad prog F.Qq [.slice list.1 list.2.1 list.2.2] w true Aep R:=
 Cb Aa Tryz.func251 (hs 2 (.s (.s .n (.lp [(11,(.i .i64))] (hs 2 (.s (.s .n (.s (.pl (ks [0,1,2,3,4,5,6,7,8,9,10,11,12,13,14,15] .z)) .n)) .n)))) .n))
theorem Ut.ok{drift:Int}{w:World}: ∀⦃R:TR qQ→WP⦄,(
Bj [iV 0,iV 0] T.Su w λp1 w2=>
Ad prog F.Nw [iV drift,iV 0,iV 10] w2 false r3' λr3 w4=>
Au [iV (wrap .i64 (2*r3.1.1)),iV (wrap .i64 (1000-r3.1.1))] p1 0 w4 λw5=>
Bc [KI,KI] p1 0 w5 λx6=>
R ((x6.1,x6.2.1,()),()) w5)→Ad prog F.Ut [iV drift] w false qQ R:=
 Cb Aa Tryz.func252 .n
theorem Qo.ok{a0 a1 b0 b1:Int}{w:World}: ∀⦃R:TR r0'→WP⦄,(
Bj [iV a0,iV a1] T.Su w λp1 w2=>
Bj [iV b0,iV b1] T.Su w2 λp3 w4=>
ld1 KI p1 w4 λx5=>
ld1 KI (p3.add 1) w4 λx6=>
Ad prog F.bits_Mul64 [.int .u64 (wrap .u64 x5),.int .u64 (wrap .u64 x6)] w4 true Abn λr7 w8=>
ld1 KI p3 w8 λx9=>
ld1 KI (p1.add 1) w8 λx10=>
Ad prog F.bits_Mul64 [.int .u64 (wrap .u64 x9),.int .u64 (wrap .u64 x10)] w8 true Abn λr11 w12=>
Aj (decide (r7.1.1>r11.1.1)) (
R ((true,()),()) w12) (
Aj (r7.1.1==r11.1.1) (
R ((decide (r7.2.1.1>r11.2.1.1),()),()) w12) (
R ((false,()),()) w12)))→Ad prog F.Qo [.agg #[iV a0,iV a1],.agg #[iV b0,iV b1]] w false r0' R:=
 Cb Aa Tryz.func253 .n
theorem Gs.ok{seq:Value}{w:World}: ∀⦃R:TR Gh→WP⦄,(
Ad prog F.Dl [.slice none 0 0,seq] w false Gh λr1 w2=>
R (((r1.1.1.1,r1.1.1.2.1,r1.1.1.2.2),()),()) w2)→Ad prog F.Gs [seq] w false Gh R:=
 Cb Aa Tryz.func254 .n
theorem Uw.ok{a b c:Int}{w:World}: ∀⦃R:TR Wp→WP⦄,(
Aj (decide (c<1)) (
R ((0,()),(false,()),()) w) (
Ad prog F.U9 [iV a] w false wC λr1 w2=>
Ad prog F.U9 [iV b] w2 false wC λr3 w4=>
Ad prog F.bits_Mul64 [.int .u64 r1.1.1,.int .u64 r3.1.1] w4 true Abn λr5 w6=>
Aj (decide (r5.1.1≥(wrap .u64 c))) (
R ((0,()),(false,()),()) w6) (
Ad prog F.Uj [.int .u64 r5.1.1,.int .u64 r5.2.1.1,.int .u64 (wrap .u64 c)] w6 true Abn λr7 w8=>
Aj ((decide (a<0))==(decide (b<0))) (
Aj (decide (r7.1.1>9223372036854775807)) (
R ((0,()),(false,()),()) w8) (
R ((wrap .i64 r7.1.1,()),(true,()),()) w8)) (
Bh (λ(J9:((Int)×Unit)→WP)=>
Aj (decide (r7.2.1.1>0)) (
Aj ((wrap .u64 (r7.1.1+1))==0) (
R ((0,()),(false,()),()) w8) (
J9 (wrap .u64 (r7.1.1+1),()) w8)) (
J9 (r7.1.1,()) w8)) (λ(z10:(Int)×Unit) w11=> ∀_:Nat→Value,
Aj (decide (z10.1>9223372036854775808)) (
R ((0,()),(false,()),()) w11) (
R ((wrap .i64 (wrap .u64 (0-z10.1)),()),(true,()),()) w11))))))→Ad prog F.Uw [iV a,iV b,iV c] w true Wp R:=
 Cb Aa Tryz.func255 (hs 6 (.ct [(10,(.i .u64))] .n .n))
theorem cO.ok{a b:Int}{w:World}: ∀⦃R:TR Wp→WP⦄,(
Aj (!((decide ((wrap .i64 (a+b))>a))==(decide (b>0)))) (
Aj (b !=0) (
R ((0,()),(false,()),()) w) (
R ((wrap .i64 (a+b),()),(true,()),()) w)) (
R ((wrap .i64 (a+b),()),(true,()),()) w))→Ad prog F.cO [iV a,iV b] w true Wp R:=
 Cb Aa Tryz.func256 .n
theorem Iq.ok{t0 t1 t2 t3 rounds:Int}{w:World}: ∀⦃R:TR r3'→WP⦄,(
Bj [iV t0,iV t1,iV t2,iV t3] T.Sz w λp1 w2=>
Bc eG p1 0 w2 λx3=>
Ad prog F.D7 [Rl eG x3] w2 false r0' λr4 w5=>
Aj (!r4.1.1) (
R ((0,()),()) w5) (
Aj (decide (rounds<0)) (
R ((0,()),()) w5) (
Aj (decide (rounds>1073741824)) (
R ((0,()),()) w5) (
ld1 KI (p1.add 3) w5 λx6=>
ld1 KI p1 w5 λx7=>
R ((wrap .i64 ((wrap .i64 (rounds*x6))*(wrap .i64 (1000+x7))),()),()) w5))))→Ad prog F.Iq [.agg #[iV t0,iV t1,iV t2,iV t3],iV rounds] w false r3' R:=
 Cb Aa Tryz.func257 .n
theorem Yg.ok{sum b:Int}{w:World}: ∀⦃R:TR aW→WP⦄,(
dK 8 (
Aw (λ(self1:((Int)×(Int)×Unit)→WP) (z2:(Int)×(Int)×Unit) w3=> ∀_:Nat→Value,
Aj (decide (z2.2.1<8)) (
dK 1 (
Aj ((Ez .and .u16 z2.1 32768) !=0) (
self1 (Ez .xor .u16 (Ib .u16 z2.1 1) 4129,wrap .i64 (z2.2.1+1),()) w3) (
self1 (Ib .u16 z2.1 1,wrap .i64 (z2.2.1+1),()) w3))) (
R ((z2.1,()),()) w3)) (Ez .xor .u16 sum (Ib .u16 (wrap .u16 b) 8),0,()) w))→Ad prog F.Yg [uV sum,.int .u8 b] w false aW R:=
 Cb Aa Tryz.func258 (hs 2 (.s (.s .n (.lp [(0,(.i .u16)),(11,(.i .i64))] .n)) .n))
theorem Eo.ok{yield:Nat}{c_cap0:Addr}{w:World}: ∀⦃R:TR []→WP⦄,(
ld1 .p c_cap0 w λx1=>
Ad prog F.Dj [.pointer x1] w false r3' λr2 w3=>
Aw (λ(self4:((Int)×Unit)→WP) (z5:(Int)×Unit) w6=> ∀_:Nat→Value,
Aj (decide (z5.1<r2.1.1)) (
I8 w6 λw7=>
ld1 .p c_cap0 w7 λx8=>
A7 x8 λa9=>
ld1 .sl a9 w7 λx10=>
ld1 .p c_cap0 w7 λx11=>
A7 x11 λa12=>
ld1 KI (a12.add 1) w7 λx13=>
ld1 .p c_cap0 w7 λx14=>
A7 x14 λa15=>
ld1 .sl a15 w7 λx16=>
Zm (x16.2.1:Int) (
Hf x10.1 x10.2.1 (Int.tmod (wrap .i64 (x13+z5.1)) (x16.2.1:Int)) λa17=>
ld1 .any (a17.add ((Int.tmod (wrap .i64 (x13+z5.1)) (x16.2.1:Int)).toNat*1)) w7 λx18=>
yiS prog yield [x18] w7 λb19 w20=>
Aj (!b19) (
R (()) w20) (
self4 (wrap .i64 (z5.1+1),()) w20))) (
R (()) w6)) (0,()) w3)→Ad prog F.Eo [.func (.yield yield) #[] #[],.pointer (some c_cap0)] w true [] R:=
 Cb Aa Tryz.func259 (.s .n (.lp [(6,(.i .i64))] (hs 2 (.s (.s .n (.s (.py 19 (ks [0,1,2,3,4,5,6,7,8,9,10,11,12,13,14,15,16,17,18] .z)) .n)) .n))))
theorem Nz.ok{s:Option Addr}{x y:Int}{w:World}: ∀⦃R:TR []→WP⦄,(
A7 s λa1=>
ld1 KI a1 w λx2=>
A7 s λa3=>
Au [iV (wrap .i64 (x2+1))] a3 0 w λw4=>
A7 s λa5=>
ld1 KI (a5.add 1) w4 λx6=>
A7 s λa7=>
Au [iV (wrap .i64 (x6+x))] (a7.add 1) 0 w4 λw8=>
A7 s λa9=>
ld1 KI (a9.add 2) w8 λx10=>
A7 s λa11=>
Au [iV (wrap .i64 (x10+y))] (a11.add 2) 0 w8 λw12=>
A7 s λa13=>
ld1 KI (a13.add 3) w12 λx14=>
A7 s λa15=>
Au [iV (wrap .i64 (x14+(wrap .i64 (x*y))))] (a15.add 3) 0 w12 λw16=>
A7 s λa17=>
ld1 KI (a17.add 4) w16 λx18=>
A7 s λa19=>
Au [iV (wrap .i64 (x18+(wrap .i64 (x*x))))] (a19.add 4) 0 w16 λw20=>
R (()) w20)→Ad prog F.Nz [.pointer s,iV x,iV y] w true [] R:=
 Cb Aa Tryz.func262 .n
theorem bits_Mul64.ok{x y:Int}{w:World}: ∀⦃R:TR Abn→WP⦄,(
dK 32 (
dK 32 (
dK 32 (
dK 32 (
dK 32 (
R ((wrap .u64 ((wrap .u64 ((wrap .u64 ((I7 .u64 x 32)*(I7 .u64 y 32)))+(I7 .u64 (wrap .u64 ((wrap .u64 ((I7 .u64 x 32)*(Ez .and .u64 y 4294967295)))+(I7 .u64 (wrap .u64 ((Ez .and .u64 x 4294967295)*(Ez .and .u64 y 4294967295))) 32))) 32)))+(I7 .u64 (wrap .u64 ((Ez .and .u64 (wrap .u64 ((wrap .u64 ((I7 .u64 x 32)*(Ez .and .u64 y 4294967295)))+(I7 .u64 (wrap .u64 ((Ez .and .u64 x 4294967295)*(Ez .and .u64 y 4294967295))) 32))) 4294967295)+(wrap .u64 ((Ez .and .u64 x 4294967295)*(I7 .u64 y 32))))) 32)),()),(wrap .u64 (x*y),()),()) w))))))→Ad prog F.bits_Mul64 [.int .u64 x,.int .u64 y] w true Abn R:=
 Cb Aa Tryz.func263 .n
theorem Dl.ok{s:Option Addr×Nat×Nat}{seq:Value}{w:World}: ∀⦃R:TR Gh→WP⦄,(
Bj [.slice s.1 s.2.1 s.2.2] T.Ho w λp1 w2=>
RfT prog seq Py w2 (λx3 k4 w5=>
Bj z3' T.Bq w5 λp11 w12=>
Au [iV x3.1.1,iV x3.1.2.1,iV x3.1.2.2.1] p11 0 w12 λw13=>
k4 w13 λgo6 lv7 w8=>
ld1 .sl p1 w8 λx14=>
Bc k2' p11 0 w8 λx15=>
Bj (encs k2' x15) T.Bq w8 λp16 w17=>
Qj ((Builtin.append_ #[T.Ho,T.Ho] T.Ho #[.slice x14.1 x14.2.1 x14.2.2,.slice (some p16) 1 1]).run prog w17) λy18 w19=>
Au [.slice y18.1 y18.2.1 y18.2.2] p1 0 w19 λw20=>
go6 w20) (λD9 w10=>
ld1 .sl p1 w10 λx21=>
tkK D9 w10 λw22=>
R (((x21.1,x21.2.1,x21.2.2),()),()) w22) [])→Ad prog F.Dl [.slice s.1 s.2.1 s.2.2,seq] w false Gh R:=
 Cb Aa Tryz.func264 (.s .n (.s (.s .n (.rf [(true,[(.i .i64),(.i .i64),(.i .i64)])] .n .n)) .n))
theorem U9.ok{n:Int}{w:World}: ∀⦃R:TR wC→WP⦄,(
Aj (decide (n<0)) (
R ((wrap .u64 (0-(wrap .u64 n)),()),()) w) (
R ((wrap .u64 n,()),()) w))→Ad prog F.U9 [iV n] w false wC R:=
 Cb Aa Tryz.func265 .n
theorem Uj.ok{hi lo y:Int}{w:World}: ∀⦃R:TR Abn→WP⦄,(
Aj (y==0) (
ld1 .any ⟨8,0,none⟩ w λx1=>
False) (
Aj (decide (y≤hi)) (
ld1 .any ⟨9,0,none⟩ w λx2=>
False) (
Aj (hi==0) (
I8 w λw3=>
Zm y (
Zm y (
R ((wrap .u64 (Int.tdiv lo y),()),(Int.tmod lo y,()),()) w3))) (
Ad prog F.bits_LeadingZeros64 [.int .u64 y] w false r3' λr4 w5=>
dK (wrap .u64 r4.1.1) (
dK 32 (
dK (wrap .u64 r4.1.1) (
dK (wrap .u64 (64-(wrap .u64 r4.1.1))) (
dK (wrap .u64 r4.1.1) (
dK 32 (
Zm (I7 .u64 (Ib .u64 y (wrap .u64 r4.1.1)) 32) (
Bh (λ(J6:((Int)×Unit)→WP)=>
Aw (λ(self9:((Int)×(Int)×Unit)→WP) (z10:(Int)×(Int)×Unit) w11=> ∀_:Nat→Value,
Bh (λ(J12:Unit→WP)=>
Aj (decide (z10.1≥4294967296)) (
J12 (()) w11) (
Aj (decide ((wrap .u64 (z10.1*(Ez .and .u64 (Ib .u64 y (wrap .u64 r4.1.1)) 4294967295)))>(wrap .u64 ((wrap .u64 (4294967296*z10.2.1))+(I7 .u64 (Ib .u64 lo (wrap .u64 r4.1.1)) 32))))) (
J12 (()) w11) (
J6 (z10.1,()) w11))) (λ(z13:Unit) w14=> ∀_:Nat→Value,
Aj (decide ((wrap .u64 (z10.2.1+(I7 .u64 (Ib .u64 y (wrap .u64 r4.1.1)) 32)))≥4294967296)) (
J6 (wrap .u64 (z10.1-1),()) w14) (
self9 (wrap .u64 (z10.1-1),wrap .u64 (z10.2.1+(I7 .u64 (Ib .u64 y (wrap .u64 r4.1.1)) 32)),()) w14))) (wrap .u64 (Int.tdiv (Ez .or .u64 (Ib .u64 hi (wrap .u64 r4.1.1)) (I7 .u64 lo (wrap .u64 (64-(wrap .u64 r4.1.1))))) (I7 .u64 (Ib .u64 y (wrap .u64 r4.1.1)) 32)),wrap .u64 ((Ez .or .u64 (Ib .u64 hi (wrap .u64 r4.1.1)) (I7 .u64 lo (wrap .u64 (64-(wrap .u64 r4.1.1)))))-(wrap .u64 ((wrap .u64 (Int.tdiv (Ez .or .u64 (Ib .u64 hi (wrap .u64 r4.1.1)) (I7 .u64 lo (wrap .u64 (64-(wrap .u64 r4.1.1))))) (I7 .u64 (Ib .u64 y (wrap .u64 r4.1.1)) 32)))*(I7 .u64 (Ib .u64 y (wrap .u64 r4.1.1)) 32)))),()) w5) (λ(z7:(Int)×Unit) w8=> ∀_:Nat→Value,
Zm (I7 .u64 (Ib .u64 y (wrap .u64 r4.1.1)) 32) (
Bh (λ(J15:((Int)×Unit)→WP)=>
Aw (λ(self18:((Int)×(Int)×Unit)→WP) (z19:(Int)×(Int)×Unit) w20=> ∀_:Nat→Value,
Bh (λ(J21:Unit→WP)=>
Aj (decide (z19.2.1≥4294967296)) (
J21 (()) w20) (
Aj (decide ((wrap .u64 (z19.2.1*(Ez .and .u64 (Ib .u64 y (wrap .u64 r4.1.1)) 4294967295)))>(wrap .u64 ((wrap .u64 (4294967296*z19.1))+(Ez .and .u64 (Ib .u64 lo (wrap .u64 r4.1.1)) 4294967295))))) (
J21 (()) w20) (
J15 (z19.2.1,()) w20))) (λ(z22:Unit) w23=> ∀_:Nat→Value,
Aj (decide ((wrap .u64 (z19.1+(I7 .u64 (Ib .u64 y (wrap .u64 r4.1.1)) 32)))≥4294967296)) (
J15 (wrap .u64 (z19.2.1-1),()) w23) (
self18 (wrap .u64 (z19.1+(I7 .u64 (Ib .u64 y (wrap .u64 r4.1.1)) 32)),wrap .u64 (z19.2.1-1),()) w23))) (wrap .u64 ((wrap .u64 ((wrap .u64 ((wrap .u64 ((Ez .or .u64 (Ib .u64 hi (wrap .u64 r4.1.1)) (I7 .u64 lo (wrap .u64 (64-(wrap .u64 r4.1.1)))))*4294967296))+(I7 .u64 (Ib .u64 lo (wrap .u64 r4.1.1)) 32)))-(wrap .u64 (z7.1*(Ib .u64 y (wrap .u64 r4.1.1))))))-(wrap .u64 ((wrap .u64 (Int.tdiv (wrap .u64 ((wrap .u64 ((wrap .u64 ((Ez .or .u64 (Ib .u64 hi (wrap .u64 r4.1.1)) (I7 .u64 lo (wrap .u64 (64-(wrap .u64 r4.1.1)))))*4294967296))+(I7 .u64 (Ib .u64 lo (wrap .u64 r4.1.1)) 32)))-(wrap .u64 (z7.1*(Ib .u64 y (wrap .u64 r4.1.1)))))) (I7 .u64 (Ib .u64 y (wrap .u64 r4.1.1)) 32)))*(I7 .u64 (Ib .u64 y (wrap .u64 r4.1.1)) 32)))),wrap .u64 (Int.tdiv (wrap .u64 ((wrap .u64 ((wrap .u64 ((Ez .or .u64 (Ib .u64 hi (wrap .u64 r4.1.1)) (I7 .u64 lo (wrap .u64 (64-(wrap .u64 r4.1.1)))))*4294967296))+(I7 .u64 (Ib .u64 lo (wrap .u64 r4.1.1)) 32)))-(wrap .u64 (z7.1*(Ib .u64 y (wrap .u64 r4.1.1)))))) (I7 .u64 (Ib .u64 y (wrap .u64 r4.1.1)) 32)),()) w8) (λ(z16:(Int)×Unit) w17=> ∀_:Nat→Value,
dK (wrap .u64 r4.1.1) (
R ((wrap .u64 ((wrap .u64 (z7.1*4294967296))+z16.1),()),(I7 .u64 (wrap .u64 ((wrap .u64 ((wrap .u64 ((wrap .u64 ((wrap .u64 ((wrap .u64 ((Ez .or .u64 (Ib .u64 hi (wrap .u64 r4.1.1)) (I7 .u64 lo (wrap .u64 (64-(wrap .u64 r4.1.1)))))*4294967296))+(I7 .u64 (Ib .u64 lo (wrap .u64 r4.1.1)) 32)))-(wrap .u64 (z7.1*(Ib .u64 y (wrap .u64 r4.1.1))))))*4294967296))+(Ez .and .u64 (Ib .u64 lo (wrap .u64 r4.1.1)) 4294967295)))-(wrap .u64 (z16.1*(Ib .u64 y (wrap .u64 r4.1.1)))))) (wrap .u64 r4.1.1),()),()) w17)))))))))))))))→Ad prog F.Uj [.int .u64 hi,.int .u64 lo,.int .u64 y] w true Abn R:=
 Cb Aa Tryz.func266 (hs 3 (.s (.s .n (.s (.s (.pl (ks [0,1,2,3,4,5,6,7] .z)) .n) .n)) (hs 10 (.ct [(15,(.i .u64))] (.lp [(15,(.i .u64)),(16,(.i .u64))] (.ct [] .n .n)) (hs 3 (.ct [(18,(.i .u64))] (.lp [(16,(.i .u64)),(18,(.i .u64))] (.ct [] .n .n)) .n))))))
theorem bits_LeadingZeros64.ok{x:Int}{w:World}: ∀⦃R:TR r3'→WP⦄,(
Ad prog F.bits_Len64 [.int .u64 x] w false r3' λr1 w2=>
R ((wrap .i64 (64-r1.1.1),()),()) w2)→Ad prog F.bits_LeadingZeros64 [.int .u64 x] w false r3' R:=
 Cb Aa Tryz.func267 .n
theorem Nl.ok{f0 f1 f2 f3 f4 f5:Int}{w:World}: ∀⦃R:TR r3'→WP⦄,(
Bj [iV f0,uV f1,iV f2,uV f3,iV f4,iV f5] T.Bv w λp1 w2=>
ld1 KI p1 w2 λx3=>
R ((x3,()),()) w2)→Ad prog F.Nl [.agg #[iV f0,uV f1,iV f2,uV f3,iV f4,iV f5]] w false r3' R:=
 Cb Aa Tryz.func285 .n
theorem Fv.ok{f0 f1 f2 f3 f4 f5:Int}{w:World}: ∀⦃R:TR Gh→WP⦄,(
Bj [iV f0,uV f1,iV f2,uV f3,iV f4,iV f5] T.Bv w λp1 w2=>
I8 w2 λw3=>
ld1 KI p1 w3 λx4=>
ld1 KU (p1.add 1) w3 λx5=>
ld1 KI (p1.add 2) w3 λx6=>
ld1 KU (p1.add 3) w3 λx7=>
ld1 KI (p1.add 4) w3 λx8=>
ld1 KI (p1.add 5) w3 λx9=>
Ad prog F.Dn [iV x4] w3 false Py λr10 w11=>
Ak [hd 16 (p1.add 5) w3,hd 13 (p1.add 4) w3,hd 10 (p1.add 3) w3,hd 7 (p1.add 2) w3,hd 4 (p1.add 1) w3,hd 1 p1 w3] w11∧(
Ad prog F.Gl [uV x5] w11 false Py λr12 w13=>
Ak [hd 16 (p1.add 5) w3,hd 13 (p1.add 4) w3,hd 10 (p1.add 3) w3,hd 7 (p1.add 2) w3,hd 4 (p1.add 1) w3,hd 1 p1 w3] w13∧(
Ad prog F.Dn [iV x6] w13 false Py λr14 w15=>
Ak [hd 16 (p1.add 5) w3,hd 13 (p1.add 4) w3,hd 10 (p1.add 3) w3,hd 7 (p1.add 2) w3,hd 4 (p1.add 1) w3,hd 1 p1 w3] w15∧(
Ad prog F.Gl [uV x7] w15 false Py λr16 w17=>
Ak [hd 16 (p1.add 5) w3,hd 13 (p1.add 4) w3,hd 10 (p1.add 3) w3,hd 7 (p1.add 2) w3,hd 4 (p1.add 1) w3,hd 1 p1 w3] w17∧(
Ad prog F.Ff [iV x8] w17 false Py λr18 w19=>
Ak [hd 16 (p1.add 5) w3,hd 13 (p1.add 4) w3,hd 10 (p1.add 3) w3,hd 7 (p1.add 2) w3,hd 4 (p1.add 1) w3,hd 1 p1 w3] w19∧(
Ad prog F.Ff [iV x9] w19 false Py λr20 w21=>
Ak [hd 16 (p1.add 5) w3,hd 13 (p1.add 4) w3,hd 10 (p1.add 3) w3,hd 7 (p1.add 2) w3,hd 4 (p1.add 1) w3,hd 1 p1 w3] w21∧(
Bj [iV r10.1.1,iV r10.1.2.1,iV r10.1.2.2.1,iV r12.1.1,iV r12.1.2.1,iV r12.1.2.2.1,iV r14.1.1,iV r14.1.2.1,iV r14.1.2.2.1,iV r16.1.1,iV r16.1.2.1,iV r16.1.2.2.1,iV r18.1.1,iV r18.1.2.1,iV r18.1.2.2.1,iV r20.1.1,iV r20.1.2.1,iV r20.1.2.2.1] T.Bf w21 λp22 w23=>
Ak [hd 16 (p1.add 5) w3,hd 13 (p1.add 4) w3,hd 10 (p1.add 3) w3,hd 7 (p1.add 2) w3,hd 4 (p1.add 1) w3,hd 1 p1 w3] w23∧(
R (((some p22,6,6),()),()) w23))))))))→Ad prog F.Fv [.agg #[iV f0,uV f1,iV f2,uV f3,iV f4,iV f5]] w false Gh R:=
 Cb Aa Tryz.func286 (.s .n (.s (.pl (ks [0,1,3,4,6,7,9,10,12,13,15,16] (.ef 2 [] (.ef 5 [] (.ef 8 [] (.ef 11 [] (.ef 14 [] (.ef 17 [] (.ef 18 [] (.tk 19 .z)))))))))) .n))
theorem Dn.ok{n:Int}{w:World}: ∀⦃R:TR Py→WP⦄,(
Bj z3' T.Bf w λp1 w2=>
Au [iV 1,iV n,iV 63] p1 0 w2 λw3=>
Bc k2' p1 0 w3 λx4=>
R (x4,()) w3)→Ad prog F.Dn [iV n] w false Py R:=
 Cb Aa Tryz.func287 .n
theorem Gl.ok{n:Int}{w:World}: ∀⦃R:TR Py→WP⦄,(
Bj z3' T.Bf w λp1 w2=>
Au [iV 2,iV (wrap .i64 n),iV 65535] p1 0 w2 λw3=>
Bc k2' p1 0 w3 λx4=>
R (x4,()) w3)→Ad prog F.Gl [uV n] w false Py R:=
 Cb Aa Tryz.func288 .n
theorem Ff.ok{n:Int}{w:World}: ∀⦃R:TR Py→WP⦄,(
Bj z3' T.Bf w λp1 w2=>
Au [iV 8,iV n,iV 1125899906842624] p1 0 w2 λw3=>
Bc k2' p1 0 w3 λx4=>
R (x4,()) w3)→Ad prog F.Ff [iV n] w false Py R:=
 Cb Aa Tryz.func289 .n
theorem Ph.ok{f0 f1 f2 f3 f4 f5:Int}{w:World}: ∀⦃R:TR r3'→WP⦄,(
Bj [iV f0,iV f1,uV f2,uV f3,iV f4,iV f5] T.Ci w λp1 w2=>
ld1 KI p1 w2 λx3=>
R ((x3,()),()) w2)→Ad prog F.Ph [.agg #[iV f0,iV f1,uV f2,uV f3,iV f4,iV f5]] w false r3' R:=
 Cb Aa Tryz.func293 .n
theorem Df.ok{f0 f1 f2 f3 f4 f5:Int}{w:World}: ∀⦃R:TR Gh→WP⦄,(
Bj [iV f0,iV f1,uV f2,uV f3,iV f4,iV f5] T.Ci w λp1 w2=>
I8 w2 λw3=>
ld1 KI p1 w3 λx4=>
ld1 KI (p1.add 1) w3 λx5=>
ld1 KU (p1.add 2) w3 λx6=>
ld1 KU (p1.add 3) w3 λx7=>
ld1 KI (p1.add 4) w3 λx8=>
ld1 KI (p1.add 5) w3 λx9=>
Ad prog F.Dn [iV x4] w3 false Py λr10 w11=>
Ak [hd 16 (p1.add 5) w3,hd 13 (p1.add 4) w3,hd 10 (p1.add 3) w3,hd 7 (p1.add 2) w3,hd 4 (p1.add 1) w3,hd 1 p1 w3] w11∧(
Ad prog F.Dn [iV x5] w11 false Py λr12 w13=>
Ak [hd 16 (p1.add 5) w3,hd 13 (p1.add 4) w3,hd 10 (p1.add 3) w3,hd 7 (p1.add 2) w3,hd 4 (p1.add 1) w3,hd 1 p1 w3] w13∧(
Ad prog F.Gl [uV x6] w13 false Py λr14 w15=>
Ak [hd 16 (p1.add 5) w3,hd 13 (p1.add 4) w3,hd 10 (p1.add 3) w3,hd 7 (p1.add 2) w3,hd 4 (p1.add 1) w3,hd 1 p1 w3] w15∧(
Ad prog F.Gl [uV x7] w15 false Py λr16 w17=>
Ak [hd 16 (p1.add 5) w3,hd 13 (p1.add 4) w3,hd 10 (p1.add 3) w3,hd 7 (p1.add 2) w3,hd 4 (p1.add 1) w3,hd 1 p1 w3] w17∧(
Ad prog F.Oi [iV x8] w17 false Py λr18 w19=>
Ak [hd 16 (p1.add 5) w3,hd 13 (p1.add 4) w3,hd 10 (p1.add 3) w3,hd 7 (p1.add 2) w3,hd 4 (p1.add 1) w3,hd 1 p1 w3] w19∧(
Ad prog F.Ff [iV x9] w19 false Py λr20 w21=>
Ak [hd 16 (p1.add 5) w3,hd 13 (p1.add 4) w3,hd 10 (p1.add 3) w3,hd 7 (p1.add 2) w3,hd 4 (p1.add 1) w3,hd 1 p1 w3] w21∧(
Bj [iV r10.1.1,iV r10.1.2.1,iV r10.1.2.2.1,iV r12.1.1,iV r12.1.2.1,iV r12.1.2.2.1,iV r14.1.1,iV r14.1.2.1,iV r14.1.2.2.1,iV r16.1.1,iV r16.1.2.1,iV r16.1.2.2.1,iV r18.1.1,iV r18.1.2.1,iV r18.1.2.2.1,iV r20.1.1,iV r20.1.2.1,iV r20.1.2.2.1] T.Bf w21 λp22 w23=>
Ak [hd 16 (p1.add 5) w3,hd 13 (p1.add 4) w3,hd 10 (p1.add 3) w3,hd 7 (p1.add 2) w3,hd 4 (p1.add 1) w3,hd 1 p1 w3] w23∧(
R (((some p22,6,6),()),()) w23))))))))→Ad prog F.Df [.agg #[iV f0,iV f1,uV f2,uV f3,iV f4,iV f5]] w false Gh R:=
 Cb Aa Tryz.func294 (.s .n (.s (.pl (ks [0,1,3,4,6,7,9,10,12,13,15,16] (.ef 2 [] (.ef 5 [] (.ef 8 [] (.ef 11 [] (.ef 14 [] (.ef 17 [] (.ef 18 [] (.tk 19 .z)))))))))) .n))
theorem Oi.ok{n:Int}{w:World}: ∀⦃R:TR Py→WP⦄,(
Bj z3' T.Bf w λp1 w2=>
Au [iV 1,iV n,iV 63] p1 0 w2 λw3=>
Bc k2' p1 0 w3 λx4=>
R (x4,()) w3)→Ad prog F.Oi [iV n] w false Py R:=
 Cb Aa Tryz.func295 .n
theorem Pi.ok{f0 f1:Int}{w:World}: ∀⦃R:TR r3'→WP⦄,(
Bj [iV f0,iV f1] T.Du w λp1 w2=>
ld1 KI p1 w2 λx3=>
R ((x3,()),()) w2)→Ad prog F.Pi [.agg #[iV f0,iV f1]] w false r3' R:=
 Cb Aa Tryz.func296 .n
theorem He.ok{f0 f1:Int}{w:World}: ∀⦃R:TR Gh→WP⦄,(
Bj [iV f0,iV f1] T.Du w λp1 w2=>
I8 w2 λw3=>
ld1 KI p1 w3 λx4=>
ld1 KI (p1.add 1) w3 λx5=>
Ad prog F.Dn [iV x4] w3 false Py λr6 w7=>
Ak [hd 4 (p1.add 1) w3,hd 1 p1 w3] w7∧(
Ad prog F.Oi [iV x5] w7 false Py λr8 w9=>
Ak [hd 4 (p1.add 1) w3,hd 1 p1 w3] w9∧(
Bj [iV r6.1.1,iV r6.1.2.1,iV r6.1.2.2.1,iV r8.1.1,iV r8.1.2.1,iV r8.1.2.2.1] T.Bf w9 λp10 w11=>
Ak [hd 4 (p1.add 1) w3,hd 1 p1 w3] w11∧(
R (((some p10,2,2),()),()) w11))))→Ad prog F.He [.agg #[iV f0,iV f1]] w false Gh R:=
 Cb Aa Tryz.func297 (.s .n (.s (.pl (ks [0,1,3,4] (.ef 2 [] (.ef 5 [] (.ef 6 [] (.tk 7 .z)))))) .n))
theorem Pj.ok{f0:Int}{w:World}: ∀⦃R:TR r3'→WP⦄,(
Bj [iV f0] T.Ep w λp1 w2=>
ld1 KI p1 w2 λx3=>
R ((x3,()),()) w2)→Ad prog F.Pj [.agg #[iV f0]] w false r3' R:=
 Cb Aa Tryz.func298 .n
theorem Ej.ok{f0:Int}{w:World}: ∀⦃R:TR Gh→WP⦄,(
Bj [iV f0] T.Ep w λp1 w2=>
ld1 KI p1 w2 λx3=>
Ad prog F.Dn [iV x3] w2 false Py λr4 w5=>
Bj (encs k2' r4.1) T.Bf w5 λp6 w7=>
R (((some p6,1,1),()),()) w7)→Ad prog F.Ej [.agg #[iV f0]] w false Gh R:=
 Cb Aa Tryz.func299 .n
theorem Oo.ok{n:Option Addr}{stamp:Int}{w:World}: ∀⦃R:TR mZ→WP⦄,(
Bj [] T.nI w λp1 w2=>
Bh (λ(J3:Unit→WP)=>
I8 w2 λw6=>
A7 n λa7=>
ld1 .p (a7.add 18) w6 λx8=>
A7 n λa9=>
ld1 .p (a9.add 15) w6 λx10=>
(
Ad prog F.Am [.pointer x8,.pointer x10,iV stamp] w6 true Vk λr11 w12=>
Ak [hd 7 (a9.add 15) w6,hd 3 (a7.add 18) w6] w12∧(
Bj z2' T.Bl w12 λp13 w14=>
Ak [hd 7 (a9.add 15) w6,hd 3 (a7.add 18) w6] w14∧(
Au (encs bI r11.1) p13 0 w14 λw15=>
Ak [] w15∧(
Aj (r11.2.1.1 !=0) (
R ((.nilIface,()),(false,()),()) w15) (
J3 (()) w15)))))∧(
Bj z2' T.Bl w6 λp16 w17=>
Ak [hd 7 (a9.add 15) w6,hd 3 (a7.add 18) w6] w17∧(
Ad prog F.Am [.pointer x8,.pointer x10,iV stamp] w17 true Vk λr18 w19=>
Ak [] w19∧(
Au (encs bI r18.1) p16 0 w19 λw20=>
Ak [] w20∧(
Aj (r18.2.1.1 !=0) (
R ((.nilIface,()),(false,()),()) w20) (
J3 (()) w20)))))) (λ(z4:Unit) w5=> ∀_:Nat→Value,
I8 w5 λw21=>
A7 n λa22=>
ld1 .p (a22.add 16) w21 λx23=>
A7 n λa24=>
ld1 .p (a24.add 15) w21 λx25=>
Ad prog F.Az [.pointer x25] w21 false r0' λr26 w27=>
Ak [hd 7 (a24.add 15) w21,hd 3 (a22.add 16) w21] w27∧(
Ad prog F.Js [.pointer x23,.bool r26.1.1] w27 true Asa λr28 w29=>
Ak [hd 7 (a24.add 15) w21] w29∧(
R ((.iface T.Du (.agg #[iV r28.1.1,iV r28.1.2.1]),()),(r28.2.1.1,()),()) w29))))→Ad prog F.Oo [.agg #[],.pointer n,iV stamp] w true mZ R:=
 Cb Aa Tryz.func300 (.s .n (.ct [] (.s (.pl (ks [0,1,2,3,4,5,6,7,8] (.two 9 13 (ks [10,11,12] (.ef 13 [] (.ef 14 [3,7] (.tk 15 .z)))) (.ef 9 [3,7] (ks [10,11,12] (.ef 14 [] (.tk 15 .z))))))) .n) (.s (.pl (ks [0,1,2,3,4,5,6,7] (.ef 8 [] (.ef 9 [3] (ks [10,11,12,13,14] .z))))) .n)))
theorem Js.ok{l:Option Addr}{itself:Bool}{w:World}: ∀⦃R:TR Asa→WP⦄,(
Bj [iV 0,iV 0] T.Du w λp1 w2=>
Aj (Option.isNone l) (
Au [iV 0,iV 0] p1 0 w2 λw3=>
Bc [KI,KI] p1 0 w3 λx4=>
R ((x4.1,x4.2.1,()),(false,()),()) w3) (
Aj itself (
A7 l λa5=>
ld1 KI a5 w2 λx6=>
Au [iV x6,iV 0] p1 0 w2 λw7=>
Bc [KI,KI] p1 0 w7 λx8=>
R ((x8.1,x8.2.1,()),(true,()),()) w7) (
A7 l λa9=>
ld1 KI (a9.add 1) w2 λx10=>
Aj (decide (x10<0)) (
Au [iV 0,iV 0] p1 0 w2 λw11=>
Bc [KI,KI] p1 0 w11 λx12=>
R ((x12.1,x12.2.1,()),(false,()),()) w11) (
I8 w2 λw13=>
A7 l λa14=>
ld1 KI a14 w13 λx15=>
A7 l λa16=>
ld1 KI (a16.add 1) w13 λx17=>
Au [iV x15,iV x17] p1 0 w13 λw18=>
Ak [] w18∧(
Bc [KI,KI] p1 0 w18 λx19=>
R ((x19.1,x19.2.1,()),(true,()),()) w18)))))→Ad prog F.Js [.pointer l,.bool itself] w true Asa R:=
 Cb Aa Tryz.func301 (hs 2 (.s (.pl (ks [0,1,2,3,4,5,6,7,8] (.ef 9 [3,7] (.tk 10 .z)))) .n))
theorem Oj.ok{f0 f1 f2:Int}{w:World}: ∀⦃R:TR r3'→WP⦄,(
Bj [iV f0,iV f1,iV f2] T.Dc w λp1 w2=>
ld1 KI p1 w2 λx3=>
R ((x3,()),()) w2)→Ad prog F.Oj [.agg #[iV f0,iV f1,iV f2]] w false r3' R:=
 Cb Aa Tryz.func302 .n
theorem Gi.ok{f0 f1 f2:Int}{w:World}: ∀⦃R:TR Gh→WP⦄,(
Bj [iV f0,iV f1,iV f2] T.Dc w λp1 w2=>
I8 w2 λw3=>
ld1 KI p1 w3 λx4=>
ld1 KI (p1.add 1) w3 λx5=>
ld1 KI (p1.add 2) w3 λx6=>
Ad prog F.Dn [iV x4] w3 false Py λr7 w8=>
Ak [hd 7 (p1.add 2) w3,hd 4 (p1.add 1) w3,hd 1 p1 w3] w8∧(
Ad prog F.Dn [iV x5] w8 false Py λr9 w10=>
Ak [hd 7 (p1.add 2) w3,hd 4 (p1.add 1) w3,hd 1 p1 w3] w10∧(
Ad prog F.Ff [iV x6] w10 false Py λr11 w12=>
Ak [hd 7 (p1.add 2) w3,hd 4 (p1.add 1) w3,hd 1 p1 w3] w12∧(
Bj [iV r7.1.1,iV r7.1.2.1,iV r7.1.2.2.1,iV r9.1.1,iV r9.1.2.1,iV r9.1.2.2.1,iV r11.1.1,iV r11.1.2.1,iV r11.1.2.2.1] T.Bf w12 λp13 w14=>
Ak [hd 7 (p1.add 2) w3,hd 4 (p1.add 1) w3,hd 1 p1 w3] w14∧(
R (((some p13,3,3),()),()) w14)))))→Ad prog F.Gi [.agg #[iV f0,iV f1,iV f2]] w false Gh R:=
 Cb Aa Tryz.func303 (.s .n (.s (.pl (ks [0,1,3,4,6,7] (.ef 2 [] (.ef 5 [] (.ef 8 [] (.ef 9 [] (.tk 10 .z))))))) .n))
theorem Nb.ok{r0 r1 r2 r3 r4 r5 r6:Int}{n:Option Addr}{stamp:Int}{w:World}: ∀⦃R:TR mZ→WP⦄,(
Bj [iV r0,iV r1,iV r2,iV r3,iV r4,uV r5,iV r6] T.jR w λp1 w2=>
Bh (λ(J3:((Addr)×(Int)×Unit)→WP)=>
I8 w2 λw6=>
A7 n λa7=>
ld1 .p (a7.add 18) w6 λx8=>
A7 n λa9=>
ld1 .p (a9.add 15) w6 λx10=>
(
Ad prog F.Am [.pointer x8,.pointer x10,iV stamp] w6 true Vk λr11 w12=>
Ak [hd 7 (a9.add 15) w6,hd 3 (a7.add 18) w6] w12∧(
Bj z2' T.Bl w12 λp13 w14=>
Ak [hd 7 (a9.add 15) w6,hd 3 (a7.add 18) w6] w14∧(
Au (encs bI r11.1) p13 0 w14 λw15=>
Ak [] w15∧(
J3 (p13,r11.2.1.1,()) w15))))∧(
Bj z2' T.Bl w6 λp16 w17=>
Ak [hd 7 (a9.add 15) w6,hd 3 (a7.add 18) w6] w17∧(
Ad prog F.Am [.pointer x8,.pointer x10,iV stamp] w17 true Vk λr18 w19=>
Ak [] w19∧(
Au (encs bI r18.1) p16 0 w19 λw20=>
Ak [] w20∧(
J3 (p16,r18.2.1.1,()) w20))))) (λ(z4:(Addr)×(Int)×Unit) w5=> ∀_:Nat→Value,
Aj (z4.2.1 !=0) (
R ((.nilIface,()),(false,()),()) w5) (
Bc [KI,KU] (z4.1.add 2) 0 w5 λx21=>
Bc [KI,KU] ((p1.add 2).add 2) 0 w5 λx22=>
Aj (!((x21.1==x22.1)&&((x21.2.1==x22.2.1)&&true))) (
R ((.nilIface,()),(false,()),()) w5) (
I8 w5 λw23=>
A7 n λa24=>
ld1 KI a24 w23 λx25=>
ld1 KI p1 w23 λx26=>
ld1 KI (p1.add 1) w23 λx27=>
ld1 KI (p1.add 2) w23 λx28=>
ld1 KI z4.1 w23 λx29=>
ld1 KI (z4.1.add 2) w23 λx30=>
ld1 KU ((z4.1.add 2).add 1) w23 λx31=>
ld1 KI (z4.1.add 1) w23 λx32=>
ld1 KI ((p1.add 2).add 1) w23 λx33=>
R ((.iface T.Dx (.agg #[iV x25,iV x26,iV x27,iV x28,iV x29,iV x30,uV x31,iV (if x33>x32 then x33 else x32)]),()),(true,()),()) w23))))→Ad prog F.Nb [.agg #[iV r0,iV r1,iV r2,iV r3,iV r4,uV r5,iV r6],.pointer n,iV stamp] w true mZ R:=
 Cb Aa Tryz.func304 (.s .n (.ct [(8,.a),(9,(.i .i64))] (.pl (ks [0,1,2,3,4,5,6,7,8] (.two 9 13 (ks [10,11,12] (.ef 13 [] (.ef 14 [3,7] (.tk 15 .z)))) (.ef 9 [3,7] (ks [10,11,12] (.ef 14 [] (.tk 15 .z))))))) (.s .n (.s (.pl (ks [0,1,2,3,4,5,6,7,8,9,10,11,12,13,14,15,16,17,18,19,20,21,22,23,24,25,26,27,28,29] .z)) .n))))
theorem Ny.ok{f0 f1 f2 f3 f4 f5 f6 f7:Int}{w:World}: ∀⦃R:TR r3'→WP⦄,(
Bj [iV f0,iV f1,iV f2,iV f3,iV f4,iV f5,uV f6,iV f7] T.Dx w λp1 w2=>
ld1 KI p1 w2 λx3=>
R ((x3,()),()) w2)→Ad prog F.Ny [.agg #[iV f0,iV f1,iV f2,iV f3,iV f4,iV f5,uV f6,iV f7]] w false r3' R:=
 Cb Aa Tryz.func305 .n
theorem Gq.ok{f0 f1 f2 f3 f4 f5 f6 f7:Int}{w:World}: ∀⦃R:TR Gh→WP⦄,(
Bj [iV f0,iV f1,iV f2,iV f3,iV f4,iV f5,uV f6,iV f7] T.Dx w λp1 w2=>
I8 w2 λw3=>
ld1 KI p1 w3 λx4=>
ld1 KI (p1.add 1) w3 λx5=>
ld1 KI (p1.add 2) w3 λx6=>
ld1 KI (p1.add 3) w3 λx7=>
ld1 KI (p1.add 4) w3 λx8=>
ld1 KI (p1.add 5) w3 λx9=>
ld1 KU (p1.add 6) w3 λx10=>
ld1 KI (p1.add 7) w3 λx11=>
Ad prog F.Dn [iV x4] w3 false Py λr12 w13=>
Ak [hd 22 (p1.add 7) w3,hd 19 (p1.add 6) w3,hd 16 (p1.add 5) w3,hd 13 (p1.add 4) w3,hd 10 (p1.add 3) w3,hd 7 (p1.add 2) w3,hd 4 (p1.add 1) w3,hd 1 p1 w3] w13∧(
Ad prog F.Dn [iV x5] w13 false Py λr14 w15=>
Ak [hd 22 (p1.add 7) w3,hd 19 (p1.add 6) w3,hd 16 (p1.add 5) w3,hd 13 (p1.add 4) w3,hd 10 (p1.add 3) w3,hd 7 (p1.add 2) w3,hd 4 (p1.add 1) w3,hd 1 p1 w3] w15∧(
Ad prog F.Ff [iV x6] w15 false Py λr16 w17=>
Ak [hd 22 (p1.add 7) w3,hd 19 (p1.add 6) w3,hd 16 (p1.add 5) w3,hd 13 (p1.add 4) w3,hd 10 (p1.add 3) w3,hd 7 (p1.add 2) w3,hd 4 (p1.add 1) w3,hd 1 p1 w3] w17∧(
Ad prog F.Ff [iV x7] w17 false Py λr18 w19=>
Ak [hd 22 (p1.add 7) w3,hd 19 (p1.add 6) w3,hd 16 (p1.add 5) w3,hd 13 (p1.add 4) w3,hd 10 (p1.add 3) w3,hd 7 (p1.add 2) w3,hd 4 (p1.add 1) w3,hd 1 p1 w3] w19∧(
Ad prog F.Ff [iV x8] w19 false Py λr20 w21=>
Ak [hd 22 (p1.add 7) w3,hd 19 (p1.add 6) w3,hd 16 (p1.add 5) w3,hd 13 (p1.add 4) w3,hd 10 (p1.add 3) w3,hd 7 (p1.add 2) w3,hd 4 (p1.add 1) w3,hd 1 p1 w3] w21∧(
Ad prog F.Dn [iV x9] w21 false Py λr22 w23=>
Ak [hd 22 (p1.add 7) w3,hd 19 (p1.add 6) w3,hd 16 (p1.add 5) w3,hd 13 (p1.add 4) w3,hd 10 (p1.add 3) w3,hd 7 (p1.add 2) w3,hd 4 (p1.add 1) w3,hd 1 p1 w3] w23∧(
Ad prog F.Gl [uV x10] w23 false Py λr24 w25=>
Ak [hd 22 (p1.add 7) w3,hd 19 (p1.add 6) w3,hd 16 (p1.add 5) w3,hd 13 (p1.add 4) w3,hd 10 (p1.add 3) w3,hd 7 (p1.add 2) w3,hd 4 (p1.add 1) w3,hd 1 p1 w3] w25∧(
Ad prog F.Oi [iV x11] w25 false Py λr26 w27=>
Ak [hd 22 (p1.add 7) w3,hd 19 (p1.add 6) w3,hd 16 (p1.add 5) w3,hd 13 (p1.add 4) w3,hd 10 (p1.add 3) w3,hd 7 (p1.add 2) w3,hd 4 (p1.add 1) w3,hd 1 p1 w3] w27∧(
Bj [iV r12.1.1,iV r12.1.2.1,iV r12.1.2.2.1,iV r14.1.1,iV r14.1.2.1,iV r14.1.2.2.1,iV r16.1.1,iV r16.1.2.1,iV r16.1.2.2.1,iV r18.1.1,iV r18.1.2.1,iV r18.1.2.2.1,iV r20.1.1,iV r20.1.2.1,iV r20.1.2.2.1,iV r22.1.1,iV r22.1.2.1,iV r22.1.2.2.1,iV r24.1.1,iV r24.1.2.1,iV r24.1.2.2.1,iV r26.1.1,iV r26.1.2.1,iV r26.1.2.2.1] T.Bf w27 λp28 w29=>
Ak [hd 22 (p1.add 7) w3,hd 19 (p1.add 6) w3,hd 16 (p1.add 5) w3,hd 13 (p1.add 4) w3,hd 10 (p1.add 3) w3,hd 7 (p1.add 2) w3,hd 4 (p1.add 1) w3,hd 1 p1 w3] w29∧(
R (((some p28,8,8),()),()) w29))))))))))→Ad prog F.Gq [.agg #[iV f0,iV f1,iV f2,iV f3,iV f4,iV f5,uV f6,iV f7]] w false Gh R:=
 Cb Aa Tryz.func306 (.s .n (.s (.pl (ks [0,1,3,4,6,7,9,10,12,13,15,16,18,19,21,22] (.ef 2 [] (.ef 5 [] (.ef 8 [] (.ef 11 [] (.ef 14 [] (.ef 17 [] (.ef 20 [] (.ef 23 [] (.ef 24 [] (.tk 25 .z)))))))))))) .n))
theorem P6.ok{n:Option Addr}{p2:Int}{w:World}: ∀⦃R:TR mZ→WP⦄,(
Bj [] T.Vd w λp1 w2=>
A7 n λa3=>
Ad prog F.Lp [.pointer (some (a3.add 19))] w2 true Asi λr4 w5=>
Bj An9 T.Bv w5 λp6 w7=>
Au (encs mV r4.1) p6 0 w7 λw8=>
A7 n λa9=>
ld1 KI a9 w8 λx10=>
Au [iV x10] p6 0 w8 λw11=>
Bc mV p6 0 w11 λx12=>
R ((.iface T.Bv (Rl mV x12),()),(r4.2.1.1,()),()) w11)→Ad prog F.P6 [.agg #[],.pointer n,iV p2] w true mZ R:=
 Cb Aa Tryz.func309 .n
theorem Lp.ok{b:Option Addr}{w:World}: ∀⦃R:TR Asi→WP⦄,(
Bj An9 T.Bv w λp1 w2=>
Aj (Option.isNone b) (
Au An9 p1 0 w2 λw3=>
Bc mV p1 0 w3 λx4=>
R (x4,(false,()),()) w3) (
I8 w2 λw5=>
A7 b λa6=>
Bc mV (a6.add 1) 0 w5 λx7=>
A7 b λa8=>
ld1 .b a8 w5 λx9=>
Au (encs mV x7) p1 0 w5 λw10=>
Ak [hd 7 a8 w5] w10∧(
Bc mV p1 0 w10 λx11=>
R (x11,(x9,()),()) w10)))→Ad prog F.Lp [.pointer b] w true Asi R:=
 Cb Aa Tryz.func310 (hs 2 (.s (.pl (ks [0,1,2,3,4,5,6,7] (.ef 8 [3] (.tk 9 .z)))) .n))
end Go.Proofs.YtppeepkmnijdpaaGreatDoor
