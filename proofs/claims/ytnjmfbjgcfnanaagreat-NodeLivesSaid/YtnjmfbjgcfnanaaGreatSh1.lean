import Derived.Test.YtnjmfbjgcfnanaaGreatNm
namespace Go.Proofs.YtnjmfbjgcfnanaaGreat
open Go.Eng Tryz
open Go.IntKind (wrap)
set_option linter.unusedSimpArgs false
set_option linter.unusedVariables false
set_option maxRecDepth 100000
def Ot.wp(n:Option Addr)(tai:Int)(w:World)(R:TR r3'→WP):Prop:=
Aq n fun a1=>
ld1 .b (a1.add 11) w fun x2=>
Aj (!x2) (
R ((10,()),()) w) (
Aq n fun a3=>
ld1 .b (a3.add 10) w fun x4=>
Aj (!x4) (
R ((7,()),()) w) (
Ae prog F.Iz [.pointer n] w true aT fun r5 w6=>
Bf z3' T.Ql w6 fun p7 w8=>
Au (encs Xf r5.1) p7 0 w8 fun w9=>
Aj (r5.2.1.1 !=0) (
R ((r5.2.1.1,()),()) w9) (
Jg w9 fun w10=>
Aq n fun a11=>
ld1 .p (a11.add 18) w10 fun x12=>
Aq n fun a13=>
ld1 KI a13 w10 fun x14=>
ld1 KI (p7.add 2) w10 fun x15=>
ld1 KU (p7.add 3) w10 fun x16=>
ld1 KI p7 w10 fun x17=>
(
Ae prog F.Ip [.pointer x12,iV x14,iV x15,uV x16,iV x17,iV tai] w10 false bF fun r18 w19=>
Hold [hd 14 p7 w10,hd 12 (p7.add 3) w10,hd 10 (p7.add 2) w10,hd 8 a13 w10,hd 3 (a11.add 18) w10] w19∧(
Bf z0' T.Dn w19 fun p20 w21=>
Hold [hd 14 p7 w10,hd 12 (p7.add 3) w10,hd 10 (p7.add 2) w10,hd 8 a13 w10,hd 3 (a11.add 18) w10] w21∧(
Au (encs k2' r18.1) p20 0 w21 fun w22=>
Hold [] w22∧(
ld1 KI p20 w22 fun x23=>
Aj (x23 !=6) (
R ((1,()),()) w22) (
Ae prog F.Gx [.pointer n] w22 false r3' fun r24 w25=>
R ((r24.1.1,()),()) w25)))))∧(
Bf z0' T.Dn w10 fun p26 w27=>
Hold [hd 14 p7 w10,hd 12 (p7.add 3) w10,hd 10 (p7.add 2) w10,hd 8 a13 w10,hd 3 (a11.add 18) w10] w27∧(
Ae prog F.Ip [.pointer x12,iV x14,iV x15,uV x16,iV x17,iV tai] w27 false bF fun r28 w29=>
Hold [] w29∧(
Au (encs k2' r28.1) p26 0 w29 fun w30=>
Hold [] w30∧(
ld1 KI p26 w30 fun x31=>
Aj (x31 !=6) (
R ((1,()),()) w30) (
Ae prog F.Gx [.pointer n] w30 false r3' fun r32 w33=>
R ((r32.1.1,()),()) w33))))))))
theorem Ot.ok{n:Option Addr}{tai:Int}{w:World}{R:TR r3'→WP}:Ot.wp n tai w R→Ae prog F.Ot [.pointer n,iV tai] w false r3' R:=
  oks Aa func79 (hs 5 (.s (.s (.pl (ks [0,1,2,3,4,5,6,7,8,9,10,11,12,13,14,15] (.two 16 17 (.ef 17 [] (.ef 18 [3,8,10,12,14] .z)) (.ef 16 [3,8,10,12,14] (.ef 18 [] .z))))) .n) .n))
def Dq.wp(p0 p1 p2 p3 p4 p5 p6 p7 p8 p9 p10 p11 p12 p13:Int)(w:World)(R:TR H7→WP):Prop:=
Bf [iV p0,iV p1,iV p2,iV p3,uV p4,uV p5,iV p6,iV p7,iV p8,iV p9,iV p10,iV p11,iV p12,iV p13] T.Dn w fun p14 w15=>
ld1 KI (p14.add 1) w15 fun x16=>
Bf Vy T.P6 w15 fun p17 w18=>
Au [iV 1,iV x16,iV 63] p17 0 w18 fun w19=>
ld1 KI p14 w19 fun x20=>
Aj (x20==1) (
A8 Ig p17 0 w19 fun x21=>
ld1 KI (p14.add 3) w19 fun x22=>
ld1 KU (p14.add 4) w19 fun x23=>
ld1 KU (p14.add 5) w19 fun x24=>
ld1 KI (p14.add 6) w19 fun x25=>
ld1 KI (p14.add 7) w19 fun x26=>
Bf [iV x21.1,iV x21.2.1,iV x21.2.2.1,iV 1,iV x22,iV 63,iV 2,iV (wrap .i64 x23),iV 65535,iV 2,iV (wrap .i64 x24),iV 65535,iV 1,iV x25,iV 63,iV 8,iV x26,iV 1125899906842624] T.P6 w19 fun p27 w28=>
R (((some p27,6,6),()),()) w28) (
Aj (x20==2) (
A8 Ig p17 0 w19 fun x29=>
ld1 KI (p14.add 8) w19 fun x30=>
Bf [iV x29.1,iV x29.2.1,iV x29.2.2.1,iV 1,iV x30,iV 63] T.P6 w19 fun p31 w32=>
R (((some p31,2,2),()),()) w32) (
Aj (x20==3) (
A8 Ig p17 0 w19 fun x33=>
Bf (encs Ig x33) T.P6 w19 fun p34 w35=>
R (((some p34,1,1),()),()) w35) (
Aj (x20==4) (
A8 Ig p17 0 w19 fun x36=>
ld1 KI (p14.add 2) w19 fun x37=>
ld1 KI (p14.add 9) w19 fun x38=>
Bf [iV x36.1,iV x36.2.1,iV x36.2.2.1,iV 1,iV x37,iV 63,iV 8,iV x38,iV 1125899906842624] T.P6 w19 fun p39 w40=>
R (((some p39,3,3),()),()) w40) (
Aj (x20==5) (
A8 Ig p17 0 w19 fun x41=>
ld1 KI (p14.add 2) w19 fun x42=>
ld1 KI (p14.add 9) w19 fun x43=>
ld1 KI (p14.add 10) w19 fun x44=>
ld1 KI (p14.add 11) w19 fun x45=>
ld1 KI (p14.add 3) w19 fun x46=>
ld1 KU (p14.add 4) w19 fun x47=>
ld1 KI (p14.add 6) w19 fun x48=>
Bf [iV x41.1,iV x41.2.1,iV x41.2.2.1,iV 1,iV x42,iV 63,iV 8,iV x43,iV 1125899906842624,iV 8,iV x44,iV 1125899906842624,iV 8,iV x45,iV 1125899906842624,iV 1,iV x46,iV 63,iV 2,iV (wrap .i64 x47),iV 65535,iV 1,iV x48,iV 63] T.P6 w19 fun p49 w50=>
R (((some p49,8,8),()),()) w50) (
Aj (x20==6) (
A8 Ig p17 0 w19 fun x51=>
ld1 KU (p14.add 5) w19 fun x52=>
ld1 KI (p14.add 3) w19 fun x53=>
ld1 KU (p14.add 4) w19 fun x54=>
ld1 KI (p14.add 12) w19 fun x55=>
ld1 KI (p14.add 13) w19 fun x56=>
Bf [iV x51.1,iV x51.2.1,iV x51.2.2.1,iV 2,iV (wrap .i64 x52),iV 65535,iV 1,iV x53,iV 63,iV 2,iV (wrap .i64 x54),iV 65535,iV 8,iV x55,iV 1125899906842624,iV 8,iV x56,iV 1125899906842624] T.P6 w19 fun p57 w58=>
R (((some p57,6,6),()),()) w58) (
R (((none,0,0),()),()) w19))))))
theorem Dq.ok{p0 p1 p2 p3 p4 p5 p6 p7 p8 p9 p10 p11 p12 p13:Int}{w:World}{R:TR H7→WP}:Dq.wp p0 p1 p2 p3 p4 p5 p6 p7 p8 p9 p10 p11 p12 p13 w R→Ae prog F.Dq [.agg #[iV p0,iV p1,iV p2,iV p3,uV p4,uV p5,iV p6,iV p7,iV p8,iV p9,iV p10,iV p11,iV p12,iV p13]] w false H7 R:=
  oks Aa func80 .n
def Uu.wp(b:Option Addr×Nat×Nat)(w:World)(R:TR Vw→WP):Prop:=
Ae prog F.U9 [uV 65535,.slice b.1 b.2.1 b.2.2] w false Vw fun r1 w2=>
R ((r1.1.1,()),()) w2
theorem Uu.ok{b:Option Addr×Nat×Nat}{w:World}{R:TR Vw→WP}:Uu.wp b w R→Ae prog F.Uu [.slice b.1 b.2.1 b.2.2] w false Vw R:=
  oks Aa func81 .n
def Ws.wp(b:Option Addr×Nat×Nat)(w:World)(R:TR kZ→WP):Prop:=
Ci (fun(self1:((Int)×(Int)×Unit)→WP) (z2:(Int)×(Int)×Unit) w3=> ∀_:Nat→Value,
Aj (decide (z2.2.1<(b.2.1:Int))) (
Ny b.1 b.2.1 z2.2.1 fun a4=>
ld1 (.i .u8) (a4.add (z2.2.1.toNat*1)) w3 fun x5=>
self1 (wrap .u64 ((wrap .u64 (256*z2.1))+(wrap .u64 x5)),wrap .i64 (z2.2.1+1),()) w3) (
R ((z2.1,()),()) w3)) (0,0,()) w
theorem Ws.ok{b:Option Addr×Nat×Nat}{w:World}{R:TR kZ→WP}:Ws.wp b w R→Ae prog F.Ws [.slice b.1 b.2.1 b.2.2] w false kZ R:=
  oks Aa func82 (hs 2 (.s (.s .n (.lp [(3,(.i .u64)),(8,(.i .i64))] .n)) .n))
def Ru.wp(b:Option Addr×Nat×Nat)(w:World)(R:TR Ajw→WP):Prop:=
Aj (decide ((b.2.1:Int)>64)) (
R ((.nilIface,()),(5,()),()) w) (
Ae prog F.Xu [.slice b.1 b.2.1 b.2.2] w false dB fun r1 w2=>
Ae prog F.Nj [.pointer r1.1.1,iV 1] w2 true Ag8 fun r3 w4=>
Ae prog F.Sr [.int .u64 r3.1.1] w4 false Xm fun r5 w6=>
nlK r5.1.1 fun b7=>
Aj b7 (
R ((.nilIface,()),(3,()),()) w6) (
Ae prog F.Qo [r5.1.1] w6 false r3' fun r8 w9=>
Aj ((b.2.1:Int) !=(wrap .i64 (r8.1.1+3))) (
R ((.nilIface,()),(3,()),()) w9) (
Ae prog F.Xy [.slice b.1 b.2.1 b.2.2] w9 true Ake fun r10 w11=>
Aj (!r10.2.1.1) (
R ((.nilIface,()),(4,()),()) w11) (
ivK prog r5.1.1 "angelus/frame.fields" [] w11 false H7 fun r12 w13=>
Ci (fun(self14:((Option Addr×Nat×Nat)×(Int)×Unit)→WP) (z15:(Option Addr×Nat×Nat)×(Int)×Unit) w16=> ∀_:Nat→Value,
Aj (decide (z15.2.1<(r12.1.1.2.1:Int))) (
Ny r12.1.1.1 r12.1.1.2.1 z15.2.1 fun a17=>
A8 Ig (a17.add (z15.2.1.toNat*3)) 0 w16 fun x18=>
Bf Vy T.Dl w16 fun p19 w20=>
Au (encs Ig x18) p19 0 w20 fun w21=>
ld1 KI p19 w21 fun x22=>
Ae prog F.Nj [.pointer r1.1.1,iV x22] w21 true Ag8 fun r23 w24=>
Bf [.int .u64 r23.1.1] T.uint64 w24 fun p25 w26=>
L9 ((Builtin.append_ #[T.Ux,T.Ux] T.Ux #[.slice z15.1.1 z15.1.2.1 z15.1.2.2,.slice (some p25) 1 1]).run prog w26) fun y27 w28=>
self14 ((y27.1,y27.2.1,y27.2.2),wrap .i64 (z15.2.1+1),()) w28) (
Ae prog F.Qn [r5.1.1,.slice z15.1.1 z15.1.2.1 z15.1.2.2] w16 false Xm fun r29 w30=>
Ae prog F.Ew [r29.1.1] w30 false r0' fun r31 w32=>
Aj (!r31.1.1) (
R ((.nilIface,()),(3,()),()) w32) (
R ((r29.1.1,()),(0,()),()) w32))) ((none,0,0),0,()) w13))))
theorem Ru.ok{b:Option Addr×Nat×Nat}{w:World}{R:TR Ajw→WP}:Ru.wp b w R→Ae prog F.Ru [.slice b.1 b.2.1 b.2.2] w true Ajw R:=
  oks Aa func83 (hs 8 (.s (.s .n (.lp [(10,.sl),(47,(.i .i64))] .n)) .n))
def Nw.wp(n:Option Addr)(f0 f1 f2 f3 f4 f5 stamp:Int)(w:World)(R:TR r3'→WP):Prop:=
Cc (fun(J1:((Addr)×(Int)×Unit)→WP)=>
Jg w fun w4=>
Aq n fun a5=>
ld1 .p (a5.add 18) w4 fun x6=>
Aq n fun a7=>
ld1 .p (a7.add 15) w4 fun x8=>
(
Ae prog F.Ar [.pointer x6,.pointer x8,iV stamp] w4 true aT fun r9 w10=>
Hold [hd 7 (a7.add 15) w4,hd 3 (a5.add 18) w4] w10∧(
Bf z3' T.Bg w10 fun p11 w12=>
Hold [hd 7 (a7.add 15) w4,hd 3 (a5.add 18) w4] w12∧(
Au (encs Xf r9.1) p11 0 w12 fun w13=>
Hold [] w13∧(
J1 (p11,r9.2.1.1,()) w13))))∧(
Bf z3' T.Bg w4 fun p14 w15=>
Hold [hd 7 (a7.add 15) w4,hd 3 (a5.add 18) w4] w15∧(
Ae prog F.Ar [.pointer x6,.pointer x8,iV stamp] w15 true aT fun r16 w17=>
Hold [] w17∧(
Au (encs Xf r16.1) p14 0 w17 fun w18=>
Hold [] w18∧(
J1 (p14,r16.2.1.1,()) w18))))) (fun(z2:(Addr)×(Int)×Unit) w3=> ∀_:Nat→Value,
Bf pY T.Bh w3 fun p19 w20=>
Au [iV f0,uV f1,iV f2,uV f3,iV f4,iV f5] p19 0 w20 fun w21=>
Jg w21 fun w22=>
Aq n fun a23=>
A8 Zy p19 0 w22 fun x24=>
Ae prog F.Gh [.pointer (some (a23.add 19)),Sv Zy x24] w22 false r0' fun r25 w26=>
Hold [] w26∧(
Aj r25.1.1 (
Ae prog F.Ib [.pointer n] w26 false r3' fun r27 w28=>
R ((r27.1.1,()),()) w28) (
R ((0,()),()) w26)))
theorem Nw.ok{n:Option Addr}{f0 f1 f2 f3 f4 f5 stamp:Int}{w:World}{R:TR r3'→WP}:Nw.wp n f0 f1 f2 f3 f4 f5 stamp w R→Ae prog F.Gm [.pointer n,.iface T.Bh (.agg #[iV f0,uV f1,iV f2,uV f3,iV f4,iV f5]),iV stamp] w false r3' R:=
  oks Aa func84 (.s .n (.ct [(7,.a),(8,(.i .i64))] (.pl (ks [0,1,2,3,4,5,6,7,8] (.two 9 13 (ks [10,11,12] (.ef 13 [] (.ef 14 [3,7] (.tk 15 .z)))) (.ef 9 [3,7] (ks [10,11,12] (.ef 14 [] (.tk 15 .z))))))) (.s (hs 12 (.s (.s .n (.s (.pl (ks [0,1,2,3] (.ef 4 [3] .z))) .n)) .n)) .n)))
def Px.wp(n:Option Addr)(f0 f1 f2 f3 f4 f5 stamp:Int)(w:World)(R:TR r3'→WP):Prop:=
Cc (fun(J1:((Addr)×(Int)×Unit)→WP)=>
Jg w fun w4=>
Aq n fun a5=>
ld1 .p (a5.add 18) w4 fun x6=>
Aq n fun a7=>
ld1 .p (a7.add 15) w4 fun x8=>
(
Ae prog F.Ar [.pointer x6,.pointer x8,iV stamp] w4 true aT fun r9 w10=>
Hold [hd 7 (a7.add 15) w4,hd 3 (a5.add 18) w4] w10∧(
Bf z3' T.Bg w10 fun p11 w12=>
Hold [hd 7 (a7.add 15) w4,hd 3 (a5.add 18) w4] w12∧(
Au (encs Xf r9.1) p11 0 w12 fun w13=>
Hold [] w13∧(
J1 (p11,r9.2.1.1,()) w13))))∧(
Bf z3' T.Bg w4 fun p14 w15=>
Hold [hd 7 (a7.add 15) w4,hd 3 (a5.add 18) w4] w15∧(
Ae prog F.Ar [.pointer x6,.pointer x8,iV stamp] w15 true aT fun r16 w17=>
Hold [] w17∧(
Au (encs Xf r16.1) p14 0 w17 fun w18=>
Hold [] w18∧(
J1 (p14,r16.2.1.1,()) w18))))) (fun(z2:(Addr)×(Int)×Unit) w3=> ∀_:Nat→Value,
Bf z7' T.Dy w3 fun p19 w20=>
Au [iV f0,iV f1,uV f2,uV f3,iV f4,iV f5] p19 0 w20 fun w21=>
Jg w21 fun w22=>
Aq n fun a23=>
ld1 .p (a23.add 15) w22 fun x24=>
A8 vY p19 0 w22 fun x25=>
Ae prog F.Le [.pointer x24,Sv vY x25,iV stamp] w22 false r3' fun r26 w27=>
Hold [] w27∧(
R ((0,()),()) w27))
theorem Px.ok{n:Option Addr}{f0 f1 f2 f3 f4 f5 stamp:Int}{w:World}{R:TR r3'→WP}:Px.wp n f0 f1 f2 f3 f4 f5 stamp w R→Ae prog F.Gm [.pointer n,.iface T.Dy (.agg #[iV f0,iV f1,uV f2,uV f3,iV f4,iV f5]),iV stamp] w false r3' R:=
  oks Aa func84 (.s .n (.ct [(7,.a),(8,(.i .i64))] (.pl (ks [0,1,2,3,4,5,6,7,8] (.two 9 13 (ks [10,11,12] (.ef 13 [] (.ef 14 [3,7] (.tk 15 .z)))) (.ef 9 [3,7] (ks [10,11,12] (.ef 14 [] (.tk 15 .z))))))) (.s (hs 2 (.s (.s .n (.pl (ks [0,1,2,3,4,5] (.ef 6 [3,4] .z)))) .n)) .n)))
def Pq.wp(n:Option Addr)(f0 stamp:Int)(w:World)(R:TR r3'→WP):Prop:=
Cc (fun(J1:((Addr)×(Int)×Unit)→WP)=>
Jg w fun w4=>
Aq n fun a5=>
ld1 .p (a5.add 18) w4 fun x6=>
Aq n fun a7=>
ld1 .p (a7.add 15) w4 fun x8=>
(
Ae prog F.Ar [.pointer x6,.pointer x8,iV stamp] w4 true aT fun r9 w10=>
Hold [hd 7 (a7.add 15) w4,hd 3 (a5.add 18) w4] w10∧(
Bf z3' T.Bg w10 fun p11 w12=>
Hold [hd 7 (a7.add 15) w4,hd 3 (a5.add 18) w4] w12∧(
Au (encs Xf r9.1) p11 0 w12 fun w13=>
Hold [] w13∧(
J1 (p11,r9.2.1.1,()) w13))))∧(
Bf z3' T.Bg w4 fun p14 w15=>
Hold [hd 7 (a7.add 15) w4,hd 3 (a5.add 18) w4] w15∧(
Ae prog F.Ar [.pointer x6,.pointer x8,iV stamp] w15 true aT fun r16 w17=>
Hold [] w17∧(
Au (encs Xf r16.1) p14 0 w17 fun w18=>
Hold [] w18∧(
J1 (p14,r16.2.1.1,()) w18))))) (fun(z2:(Addr)×(Int)×Unit) w3=> ∀_:Nat→Value,
Bf [iV 0] T.Gp w3 fun p19 w20=>
Au [iV f0] p19 0 w20 fun w21=>
Aj (z2.2.1==0) (
Aq n fun a22=>
ld1 .p (a22.add 27) w21 fun x23=>
Ae prog F.Cj [.pointer x23,.iface T.nH (.agg #[])] w21 false r3' fun r24 w25=>
R ((r24.1.1,()),()) w25) (
R ((0,()),()) w21))
theorem Pq.ok{n:Option Addr}{f0 stamp:Int}{w:World}{R:TR r3'→WP}:Pq.wp n f0 stamp w R→Ae prog F.Gm [.pointer n,.iface T.Gp (.agg #[iV f0]),iV stamp] w false r3' R:=
  oks Aa func84 (.s .n (.ct [(7,.a),(8,(.i .i64))] (.pl (ks [0,1,2,3,4,5,6,7,8] (.two 9 13 (ks [10,11,12] (.ef 13 [] (.ef 14 [3,7] (.tk 15 .z)))) (.ef 9 [3,7] (ks [10,11,12] (.ef 14 [] (.tk 15 .z))))))) .n))
def Oa.wp(n:Option Addr)(f0 f1 f2 stamp:Int)(w:World)(R:TR r3'→WP):Prop:=
Cc (fun(J1:((Addr)×(Int)×Unit)→WP)=>
Jg w fun w4=>
Aq n fun a5=>
ld1 .p (a5.add 18) w4 fun x6=>
Aq n fun a7=>
ld1 .p (a7.add 15) w4 fun x8=>
(
Ae prog F.Ar [.pointer x6,.pointer x8,iV stamp] w4 true aT fun r9 w10=>
Hold [hd 7 (a7.add 15) w4,hd 3 (a5.add 18) w4] w10∧(
Bf z3' T.Bg w10 fun p11 w12=>
Hold [hd 7 (a7.add 15) w4,hd 3 (a5.add 18) w4] w12∧(
Au (encs Xf r9.1) p11 0 w12 fun w13=>
Hold [] w13∧(
J1 (p11,r9.2.1.1,()) w13))))∧(
Bf z3' T.Bg w4 fun p14 w15=>
Hold [hd 7 (a7.add 15) w4,hd 3 (a5.add 18) w4] w15∧(
Ae prog F.Ar [.pointer x6,.pointer x8,iV stamp] w15 true aT fun r16 w17=>
Hold [] w17∧(
Au (encs Xf r16.1) p14 0 w17 fun w18=>
Hold [] w18∧(
J1 (p14,r16.2.1.1,()) w18))))) (fun(z2:(Addr)×(Int)×Unit) w3=> ∀_:Nat→Value,
Bf Vy T.Ef w3 fun p19 w20=>
Au [iV f0,iV f1,iV f2] p19 0 w20 fun w21=>
Cc (fun(J22:((Bool)×Unit)→WP)=>
Jg w21 fun w25=>
Aj (z2.2.1==0) (
ld1 KI (p19.add 1) w25 fun x26=>
Aq n fun a27=>
ld1 KI a27 w25 fun x28=>
J22 ((x26==x28),()) w25) (
J22 (false,()) w25)) (fun(z23:(Bool)×Unit) w24=> ∀_:Nat→Value,
Aj z23.1 (
Jg w24 fun w29=>
Aq n fun a30=>
ld1 .p (a30.add 27) w29 fun x31=>
ld1 KI p19 w29 fun x32=>
ld1 KI (p19.add 2) w29 fun x33=>
A8 Xf z2.1 0 w29 fun x34=>
Ae prog F.Cj [.pointer x31,.iface T.jZ (.agg #[iV x32,iV x33,iV x34.1,iV x34.2.1,iV x34.2.2.1,uV x34.2.2.2.1,iV x34.2.2.2.2.1])] w29 false r3' fun r35 w36=>
Hold [hd 8 (z2.1.add 0) w29,hd 8 (z2.1.add 1) w29,hd 8 (z2.1.add 2) w29,hd 8 (z2.1.add 3) w29,hd 8 (z2.1.add 4) w29,hd 7 (p19.add 2) w29,hd 5 p19 w29] w36∧(
R ((r35.1.1,()),()) w36)) (
R ((0,()),()) w24)))
theorem Oa.ok{n:Option Addr}{f0 f1 f2 stamp:Int}{w:World}{R:TR r3'→WP}:Oa.wp n f0 f1 f2 stamp w R→Ae prog F.Gm [.pointer n,.iface T.Ef (.agg #[iV f0,iV f1,iV f2]),iV stamp] w false r3' R:=
  oks Aa func84 (.s .n (.ct [(7,.a),(8,(.i .i64))] (.pl (ks [0,1,2,3,4,5,6,7,8] (.two 9 13 (ks [10,11,12] (.ef 13 [] (.ef 14 [3,7] (.tk 15 .z)))) (.ef 9 [3,7] (ks [10,11,12] (.ef 14 [] (.tk 15 .z))))))) (.s (hs 8 (.s (.s .n (.ct [(82,.b)] (.pl (ks [0,1,2,3,4,5,6,7,8,9,10,11] .z)) (.s (.s (.pl (ks [0,1,2,3,4,5,6,7,8,9,10] (.ef 11 [3] (.tk 12 .z)))) .n) .n))) .n)) .n)))
def Pm.wp(n:Option Addr)(f0 f1 stamp:Int)(w:World)(R:TR r3'→WP):Prop:=
Cc (fun(J1:((Addr)×(Int)×Unit)→WP)=>
Jg w fun w4=>
Aq n fun a5=>
ld1 .p (a5.add 18) w4 fun x6=>
Aq n fun a7=>
ld1 .p (a7.add 15) w4 fun x8=>
(
Ae prog F.Ar [.pointer x6,.pointer x8,iV stamp] w4 true aT fun r9 w10=>
Hold [hd 7 (a7.add 15) w4,hd 3 (a5.add 18) w4] w10∧(
Bf z3' T.Bg w10 fun p11 w12=>
Hold [hd 7 (a7.add 15) w4,hd 3 (a5.add 18) w4] w12∧(
Au (encs Xf r9.1) p11 0 w12 fun w13=>
Hold [] w13∧(
J1 (p11,r9.2.1.1,()) w13))))∧(
Bf z3' T.Bg w4 fun p14 w15=>
Hold [hd 7 (a7.add 15) w4,hd 3 (a5.add 18) w4] w15∧(
Ae prog F.Ar [.pointer x6,.pointer x8,iV stamp] w15 true aT fun r16 w17=>
Hold [] w17∧(
Au (encs Xf r16.1) p14 0 w17 fun w18=>
Hold [] w18∧(
J1 (p14,r16.2.1.1,()) w18))))) (fun(z2:(Addr)×(Int)×Unit) w3=> ∀_:Nat→Value,
Bf [iV 0,iV 0] T.Gj w3 fun p19 w20=>
Au [iV f0,iV f1] p19 0 w20 fun w21=>
Aq n fun a22=>
ld1 .p (a22.add 15) w21 fun x23=>
Ae prog F.Ba [.pointer x23] w21 false r0' fun r24 w25=>
Aj (!r24.1.1) (
Jg w25 fun w26=>
Aq n fun a27=>
ld1 .p (a27.add 16) w26 fun x28=>
A8 [KI,KI] p19 0 w26 fun x29=>
Ae prog F.Kv [.pointer x28,.agg #[iV x29.1,iV x29.2.1]] w26 false r0' fun r30 w31=>
Hold [] w31∧(
R ((0,()),()) w31)) (
R ((0,()),()) w25))
theorem Pm.ok{n:Option Addr}{f0 f1 stamp:Int}{w:World}{R:TR r3'→WP}:Pm.wp n f0 f1 stamp w R→Ae prog F.Gm [.pointer n,.iface T.Gj (.agg #[iV f0,iV f1]),iV stamp] w false r3' R:=
  oks Aa func84 (.s .n (.ct [(7,.a),(8,(.i .i64))] (.pl (ks [0,1,2,3,4,5,6,7,8] (.two 9 13 (ks [10,11,12] (.ef 13 [] (.ef 14 [3,7] (.tk 15 .z)))) (.ef 9 [3,7] (ks [10,11,12] (.ef 14 [] (.tk 15 .z))))))) (.s (hs 4 (.s (hs 2 (.s (.pl (ks [0,1,2,3,4] (.ef 5 [3,4] .z))) .n)) .n)) .n)))
def Og.wp(n:Option Addr)(f0 f1 f2 f3 f4 f5 f6 f7 stamp:Int)(w:World)(R:TR r3'→WP):Prop:=
Cc (fun(J1:((Addr)×(Int)×Unit)→WP)=>
Jg w fun w4=>
Aq n fun a5=>
ld1 .p (a5.add 18) w4 fun x6=>
Aq n fun a7=>
ld1 .p (a7.add 15) w4 fun x8=>
(
Ae prog F.Ar [.pointer x6,.pointer x8,iV stamp] w4 true aT fun r9 w10=>
Hold [hd 7 (a7.add 15) w4,hd 3 (a5.add 18) w4] w10∧(
Bf z3' T.Bg w10 fun p11 w12=>
Hold [hd 7 (a7.add 15) w4,hd 3 (a5.add 18) w4] w12∧(
Au (encs Xf r9.1) p11 0 w12 fun w13=>
Hold [] w13∧(
J1 (p11,r9.2.1.1,()) w13))))∧(
Bf z3' T.Bg w4 fun p14 w15=>
Hold [hd 7 (a7.add 15) w4,hd 3 (a5.add 18) w4] w15∧(
Ae prog F.Ar [.pointer x6,.pointer x8,iV stamp] w15 true aT fun r16 w17=>
Hold [] w17∧(
Au (encs Xf r16.1) p14 0 w17 fun w18=>
Hold [] w18∧(
J1 (p14,r16.2.1.1,()) w18))))) (fun(z2:(Addr)×(Int)×Unit) w3=> ∀_:Nat→Value,
Bf Anm T.Gl w3 fun p19 w20=>
Au [iV f0,iV f1,iV f2,iV f3,iV f4,iV f5,uV f6,iV f7] p19 0 w20 fun w21=>
Cc (fun(J22:((Addr)×(Bool)×Unit)→WP)=>
Jg w21 fun w25=>
Aq n fun a26=>
ld1 .p (a26.add 17) w25 fun x27=>
A8 mP p19 0 w25 fun x28=>
(
Ae prog F.Jo [.pointer x27,Sv mP x28,iV stamp] w25 true fC fun r29 w30=>
Hold [hd 4 (p19.add 0) w25,hd 4 (p19.add 1) w25,hd 4 (p19.add 2) w25,hd 4 (p19.add 3) w25,hd 4 (p19.add 4) w25,hd 4 (p19.add 5) w25,hd 4 (p19.add 6) w25,hd 4 (p19.add 7) w25,hd 3 (a26.add 17) w25] w30∧(
Bf Vy T.Du w30 fun p31 w32=>
Hold [hd 4 (p19.add 0) w25,hd 4 (p19.add 1) w25,hd 4 (p19.add 2) w25,hd 4 (p19.add 3) w25,hd 4 (p19.add 4) w25,hd 4 (p19.add 5) w25,hd 4 (p19.add 6) w25,hd 4 (p19.add 7) w25,hd 3 (a26.add 17) w25] w32∧(
Au (encs Ig r29.1) p31 0 w32 fun w33=>
Hold [] w33∧(
J22 (p31,r29.2.1.1,()) w33))))∧(
Bf Vy T.Du w25 fun p34 w35=>
Hold [hd 4 (p19.add 0) w25,hd 4 (p19.add 1) w25,hd 4 (p19.add 2) w25,hd 4 (p19.add 3) w25,hd 4 (p19.add 4) w25,hd 4 (p19.add 5) w25,hd 4 (p19.add 6) w25,hd 4 (p19.add 7) w25,hd 3 (a26.add 17) w25] w35∧(
Ae prog F.Jo [.pointer x27,Sv mP x28,iV stamp] w35 true fC fun r36 w37=>
Hold [] w37∧(
Au (encs Ig r36.1) p34 0 w37 fun w38=>
Hold [] w38∧(
J22 (p34,r36.2.1.1,()) w38))))) (fun(z23:(Addr)×(Bool)×Unit) w24=> ∀_:Nat→Value,
Aj z23.2.1 (
Jg w24 fun w39=>
Aq n fun a40=>
ld1 .p (a40.add 18) w39 fun x41=>
A8 Ig z23.1 0 w39 fun x42=>
ld1 KI (p19.add 5) w39 fun x43=>
ld1 KU (p19.add 6) w39 fun x44=>
Ae prog F.Je [.pointer x41,Sv Ig x42,.agg #[iV x43,uV x44]] w39 false r3' fun r45 w46=>
Hold [hd 8 (p19.add 6) w39,hd 6 (p19.add 5) w39] w46∧(
R ((0,()),()) w46)) (
R ((0,()),()) w24)))
theorem Og.ok{n:Option Addr}{f0 f1 f2 f3 f4 f5 f6 f7 stamp:Int}{w:World}{R:TR r3'→WP}:Og.wp n f0 f1 f2 f3 f4 f5 f6 f7 stamp w R→Ae prog F.Gm [.pointer n,.iface T.Gl (.agg #[iV f0,iV f1,iV f2,iV f3,iV f4,iV f5,uV f6,iV f7]),iV stamp] w false r3' R:=
  oks Aa func84 (.s .n (.ct [(7,.a),(8,(.i .i64))] (.pl (ks [0,1,2,3,4,5,6,7,8] (.two 9 13 (ks [10,11,12] (.ef 13 [] (.ef 14 [3,7] (.tk 15 .z)))) (.ef 9 [3,7] (ks [10,11,12] (.ef 14 [] (.tk 15 .z))))))) (.s (hs 10 (.s (.s .n (.ct [(14,.a),(15,.b)] (.pl (ks [0,1,2,3,4,5] (.two 6 10 (ks [7,8,9] (.ef 10 [] (.ef 11 [3,4] (.tk 12 .z)))) (.ef 6 [3,4] (ks [7,8,9] (.ef 11 [] (.tk 12 .z))))))) (.s .n (.s (.pl (ks [0,1,2,3,4,5,6,7,8,9] (.ef 10 [3,4] .z))) .n)))) .n)) .n)))
def Hw.wp(f:Option Addr)(local_:Int)(w:World)(R:TR xA→WP):Prop:=
Aj (Option.isNone f) (
R ((0,()),(0,()),(2,()),()) w) (
Ae prog F.Ba [.pointer f] w false r0' fun r1 w2=>
Aj (!r1.1.1) (
R ((0,()),(0,()),(9,()),()) w2) (
Cc (fun(J3:((Bool)×Unit)→WP)=>
Aj (decide (local_<0)) (
J3 (true,()) w2) (
J3 (decide (local_>1125899906842624),()) w2)) (fun(z4:(Bool)×Unit) w5=> ∀_:Nat→Value,
Aj z4.1 (
R ((0,()),(0,()),(8,()),()) w5) (
Aq f fun a6=>
ld1 .p a6 w5 fun x7=>
Ae prog F.Bc [.pointer x7] w5 false r0' fun r8 w9=>
Aj r8.1.1 (
R ((local_,()),(0,()),(0,()),()) w9) (
Cc (fun(J10:((Addr)×Unit)→WP)=>
Jg w9 fun w13=>
Aq f fun a14=>
ld1 KI ((a14.add 2).add 3) w13 fun x15=>
Aq f fun a16=>
(
Ae prog F.V7 [iV x15,.pointer (some (a16.add 6))] w13 true lU fun r17 w18=>
Hold [hd 4 ((a14.add 2).add 3) w13] w18∧(
Bf jR T.iO w18 fun p19 w20=>
Hold [hd 4 ((a14.add 2).add 3) w13] w20∧(
Au (encs aU r17.1) p19 0 w20 fun w21=>
Hold [] w21∧(
J10 (p19,()) w21))))∧(
Bf jR T.iO w13 fun p22 w23=>
Hold [hd 4 ((a14.add 2).add 3) w13] w23∧(
Ae prog F.V7 [iV x15,.pointer (some (a16.add 6))] w23 true lU fun r24 w25=>
Hold [] w25∧(
Au (encs aU r24.1) p22 0 w25 fun w26=>
Hold [] w26∧(
J10 (p22,()) w26))))) (fun(z11:(Addr)×Unit) w12=> ∀_:Nat→Value,
A8 aU z11.1 0 w12 fun x27=>
Ae prog F.Jp [Sv aU x27,iV local_] w12 true Zz fun r28 w29=>
Aj (!r28.2.1.1) (
R ((0,()),(0,()),(8,()),()) w29) (
Jg w29 fun w30=>
ld1 KI (z11.1.add 4) w30 fun x31=>
R ((r28.1.1,()),(x31,()),(0,()),()) w30)))))))
theorem Hw.ok{f:Option Addr}{local_:Int}{w:World}{R:TR xA→WP}:Hw.wp f local_ w R→Ae prog F.Hw [.pointer f,iV local_] w true xA R:=
  oks Aa func85 (.s .n (.s (hs 4 (.ct [(18,.b)] .n .n)) (.ct [(7,.a)] (.pl (ks [0,1,2,3,4,5,6,7] (.two 8 12 (ks [9,10,11] (.ef 12 [] (.ef 13 [4] (.tk 14 .z)))) (.ef 8 [4] (ks [9,10,11] (.ef 13 [] (.tk 14 .z))))))) (hs 2 (.s (.pl (ks [0,1,2,3,4,5] .z)) .n)))))
def Nb.wp(p0 p1 p2 time guard:Int)(w:World)(R:TR r0'→WP):Prop:=
Bf [iV p0,iV p1,iV p2] T.bU w fun p3 w4=>
A8 Ig p3 0 w4 fun x5=>
Ae prog F.Ie [Sv Ig x5] w4 false r0' fun r6 w7=>
Aj (!r6.1.1) (
R ((true,()),()) w7) (
Aj (decide (guard<0)) (
R ((true,()),()) w7) (
A8 Ig p3 0 w7 fun x8=>
Ae prog F.Gu [Sv Ig x8] w7 false r3' fun r9 w10=>
Ae prog F.Oi [iV time,iV r9.1.1] w10 true zB fun r11 w12=>
A8 Ig p3 0 w12 fun x13=>
Ae prog F.Gu [Sv Ig x13] w12 false r3' fun r14 w15=>
ld1 KI (p3.add 1) w15 fun x16=>
Aj (decide (r11.2.1.1<(wrap .i64 ((wrap .i64 (x16*1000))+(if r14.1.1<guard then r14.1.1 else guard))))) (
R ((true,()),()) w15) (
A8 Ig p3 0 w15 fun x17=>
Ae prog F.Gu [Sv Ig x17] w15 false r3' fun r18 w19=>
R ((decide (r11.2.1.1≥(wrap .i64 (r18.1.1-(if r14.1.1<guard then r14.1.1 else guard)))),()),()) w19)))
theorem Nb.ok{p0 p1 p2 time guard:Int}{w:World}{R:TR r0'→WP}:Nb.wp p0 p1 p2 time guard w R→Ae prog F.Nb [.agg #[iV p0,iV p1,iV p2],iV time,iV guard] w false r0' R:=
  oks Aa func86 .n
def Xw.wp(r0 r1 r2 r3 p0 p1 p2 jitter:Int)(w:World)(R:TR Aj7→WP):Prop:=
Bf [iV r0,iV r1,iV r2,iV r3] T.fQ w fun p3 w4=>
Bf [iV p0,iV p1,iV p2] T.bU w4 fun p5 w6=>
Bf Aph T.Xh w6 fun p7 w8=>
ld1 KI (p3.add 3) w8 fun x9=>
ld1 KI p3 w8 fun x10=>
ld1 KI p5 w8 fun x11=>
Au [iV x9,iV jitter,iV x10,iV x11] p7 0 w8 fun w12=>
A8 fH p7 0 w12 fun x13=>
R (x13,()) w12
theorem Xw.ok{r0 r1 r2 r3 p0 p1 p2 jitter:Int}{w:World}{R:TR Aj7→WP}:Xw.wp r0 r1 r2 r3 p0 p1 p2 jitter w R→Ae prog F.Xw [.agg #[iV r0,iV r1,iV r2,iV r3],.agg #[iV p0,iV p1,iV p2],iV jitter] w false Aj7 R:=
  oks Aa func87 .n
def I9.wp(t0 t1 t2 t3 hops:Int)(w:World)(R:TR r3'→WP):Prop:=
Bf [iV t0,iV t1,iV t2,iV t3] T.Xh w fun p1 w2=>
Aj (decide (hops<0)) (
R ((0,()),()) w2) (
Aj (decide (hops>63)) (
R ((0,()),()) w2) (
Jg w2 fun w3=>
A8 fH p1 0 w3 fun x4=>
A8 fH p1 0 w3 fun x5=>
Ae prog F.Nh [Sv fH x4] w3 false r3' fun r6 w7=>
Hold [hd 3 (p1.add 0) w3,hd 3 (p1.add 1) w3,hd 3 (p1.add 2) w3,hd 3 (p1.add 3) w3,hd 1 (p1.add 0) w3,hd 1 (p1.add 1) w3,hd 1 (p1.add 2) w3,hd 1 (p1.add 3) w3] w7∧(
Ae prog F.Kz [Sv fH x5] w7 false r3' fun r8 w9=>
Hold [hd 1 (p1.add 0) w3,hd 1 (p1.add 1) w3,hd 1 (p1.add 2) w3,hd 1 (p1.add 3) w3] w9∧(
R ((wrap .i64 (hops*(wrap .i64 (r6.1.1+r8.1.1))),()),()) w9))))
theorem I9.ok{t0 t1 t2 t3 hops:Int}{w:World}{R:TR r3'→WP}:I9.wp t0 t1 t2 t3 hops w R→Ae prog F.I9 [.agg #[iV t0,iV t1,iV t2,iV t3],iV hops] w false r3' R:=
  oks Aa func88 (hs 2 (.s (.pl (ks [0,1,3] (.ef 2 [] (.ef 4 [3] (ks [5,6,7] .z))))) .n))
def Ar.wp(s f:Option Addr)(local_:Int)(w:World)(R:TR aT→WP):Prop:=
Bf z3' T.Bg w fun p1 w2=>
Cc (fun(J3:((Bool)×Unit)→WP)=>
Aj (Option.isNone s) (
J3 (true,()) w2) (
J3 ((Option.isNone f),()) w2)) (fun(z4:(Bool)×Unit) w5=> ∀_:Nat→Value,
Aj z4.1 (
Au z3' p1 0 w5 fun w6=>
A8 Xf p1 0 w6 fun x7=>
R (x7,(2,()),()) w6) (
Ae prog F.Ba [.pointer f] w5 false r0' fun r8 w9=>
Aj r8.1.1 (
Ae prog F.Oo [.pointer f,iV local_] w9 true aT fun r10 w11=>
Au (encs Xf r10.1) p1 0 w11 fun w12=>
A8 Xf p1 0 w12 fun x13=>
R (x13,(r10.2.1.1,()),()) w12) (
Aq s fun a14=>
ld1 .b (a14.add 7) w9 fun x15=>
Aj (!x15) (
Au z3' p1 0 w9 fun w16=>
A8 Xf p1 0 w16 fun x17=>
R (x17,(9,()),()) w16) (
Aj (decide (local_<0)) (
Au z3' p1 0 w9 fun w18=>
A8 Xf p1 0 w18 fun x19=>
R (x19,(8,()),()) w18) (
Aj (decide (local_>1125899906842624)) (
Au z3' p1 0 w9 fun w20=>
A8 Xf p1 0 w20 fun x21=>
R (x21,(8,()),()) w20) (
Aq s fun a22=>
ld1 KI ((a22.add 1).add 1) w9 fun x23=>
Aj (decide ((wrap .i64 (local_+x23))<0)) (
Au z3' p1 0 w9 fun w24=>
A8 Xf p1 0 w24 fun x25=>
R (x25,(8,()),()) w24) (
Aj (decide ((wrap .i64 (local_+x23))>1125899906842624)) (
Au z3' p1 0 w9 fun w26=>
A8 Xf p1 0 w26 fun x27=>
R (x27,(8,()),()) w26) (
Jg w9 fun w28=>
Aq s fun a29=>
ld1 KI ((a29.add 1).add 2) w28 fun x30=>
Aq s fun a31=>
A8 [KI,KU] (a31.add 4) 0 w28 fun x32=>
Au [iV (wrap .i64 (local_+x23)),iV x30,iV x32.1,uV x32.2.1,iV 3] p1 0 w28 fun w33=>
Hold [] w33∧(
A8 Xf p1 0 w33 fun x34=>
R (x34,(0,()),()) w33)))))))))
theorem Ar.ok{s f:Option Addr}{local_:Int}{w:World}{R:TR aT→WP}:Ar.wp s f local_ w R→Ae prog F.Ar [.pointer s,.pointer f,iV local_] w true aT R:=
  oks Aa func89 (.s .n (.s (.ct [(9,.b)] .n .n) (hs 2 (.s (.pl (ks [0,1,2,3,4,5,6,7,8,9,10] (.ef 11 [5,9] (.tk 12 .z)))) .n))))
def Qk.wp(l:Option Addr)(label:ByteArray)(local_ when0 when1 when2 when3 when4:Int)(w:World)(R:TR dH→WP):Prop:=
Bf [iV when0,iV when1,iV when2,uV when3,iV when4] T.Bg w fun p1 w2=>
Aj (Option.isNone l) (
R ((0,()),(2,()),()) w2) (
Ae prog F.Vo [.string label] w2 false r0' fun r3 w4=>
Aj (!r3.1.1) (
R ((0,()),(1,()),()) w4) (
Jg w4 fun w5=>
Aq l fun a6=>
ld1 .p a6 w5 fun x7=>
Aq l fun a8=>
ld1 KI (a8.add 1) w5 fun x9=>
A8 Xf p1 0 w5 fun x10=>
Ae prog F.Dz [.pointer x7,.agg #[iV (wrap .i64 (x9+1)),.string label,iV local_,iV x10.1,iV x10.2.1,iV x10.2.2.1,uV x10.2.2.2.1,iV x10.2.2.2.2.1]] w5 false r3' fun r11 w12=>
Hold [hd 11 (p1.add 0) w5,hd 11 (p1.add 1) w5,hd 11 (p1.add 2) w5,hd 11 (p1.add 3) w5,hd 11 (p1.add 4) w5,hd 7 (a8.add 1) w5] w12∧(
Aj (r11.1.1 !=0) (
R ((0,()),(r11.1.1,()),()) w12) (
Aq l fun a13=>
ld1 KI (a13.add 1) w12 fun x14=>
Aq l fun a15=>
Au [iV (wrap .i64 (x14+1))] (a15.add 1) 0 w12 fun w16=>
Aq l fun a17=>
ld1 KI (a17.add 1) w16 fun x18=>
R ((x18,()),(0,()),()) w16))))
theorem Qk.ok{l:Option Addr}{label:ByteArray}{local_ when0 when1 when2 when3 when4:Int}{w:World}{R:TR dH→WP}:Qk.wp l label local_ when0 when1 when2 when3 when4 w R→Ae prog F.Qk [.pointer l,.string label,iV local_,.agg #[iV when0,iV when1,iV when2,uV when3,iV when4]] w true dH R:=
  oks Aa func90 (hs 2 (.s (.s (.pl (ks [0,1,2,3,4,5,6,7,8,9,10,11,12] (.ef 13 [3] (.tk 14 .z)))) .n) .n))
def Ou.wp(l:Option Addr)(w:World)(R:TR oI→WP):Prop:=
Bf z4' T.U1 w fun p1 w2=>
Aj (Option.isNone l) (
Au z4' p1 0 w2 fun w3=>
A8 xP p1 0 w3 fun x4=>
R (x4,(false,()),()) w3) (
Aq l fun a5=>
ld1 .p a5 w2 fun x6=>
Ae prog F.Eb [.pointer x6] w2 true oI fun r7 w8=>
Au (encs xP r7.1) p1 0 w8 fun w9=>
A8 xP p1 0 w9 fun x10=>
R (x10,(r7.2.1.1,()),()) w9)
theorem Ou.ok{l:Option Addr}{w:World}{R:TR oI→WP}:Ou.wp l w R→Ae prog F.Ou [.pointer l] w true oI R:=
  oks Aa func91 .n
def Hl.wp(e:Option Addr)(w:World)(R:TR xB→WP):Prop:=
Bf [uV 0,uV 0] T.Ti w fun p1 w2=>
Cc (fun(J3:((Bool)×Unit)→WP)=>
Aj (Option.isNone e) (
J3 (true,()) w2) (
Aq e fun a6=>
ld1 KI (a6.add 5) w2 fun x7=>
J3 (decide (x7<0),()) w2)) (fun(z4:(Bool)×Unit) w5=> ∀_:Nat→Value,
Aj z4.1 (
Au [uV 0,uV 0] p1 0 w5 fun w8=>
A8 [KU,KU] p1 0 w8 fun x9=>
R ((x9.1,x9.2.1,()),(false,()),()) w8) (
Ae prog F.Bc [.pointer e] w5 false r0' fun r10 w11=>
Aj r10.1.1 (
Jg w11 fun w12=>
Aq e fun a13=>
ld1 KU (a13.add 3) w12 fun x14=>
Aq e fun a15=>
ld1 KU (a15.add 4) w12 fun x16=>
Aq e fun a17=>
ld1 KU (a17.add 4) w12 fun x18=>
Au [uV x14,uV x16] p1 0 w12 fun w19=>
Hold [hd 12 (a17.add 4) w12] w19∧(
A8 [KU,KU] p1 0 w19 fun x20=>
R ((x20.1,x20.2.1,()),(decide (x18>0),()),()) w19)) (
Jg w11 fun w21=>
Aq e fun a22=>
ld1 .m (a22.add 8) w21 fun x23=>
Aq e fun a24=>
ld1 KI (a24.add 5) w21 fun x25=>
lkP prog T.V3 (.map x23) (iV x25) w21 true [KU,KU] fun x26=>
Hold [] w21∧(
Au [uV x26.1,uV x26.2.1] p1 0 w21 fun w27=>
Hold [] w27∧(
A8 [KU,KU] p1 0 w27 fun x28=>
R ((x28.1,x28.2.1,()),(true,()),()) w27)))))
theorem Hl.ok{e:Option Addr}{w:World}{R:TR xB→WP}:Hl.wp e w R→Ae prog F.Hl [.pointer e] w true xB R:=
  oks Aa func93 (.s .n (.s (.ct [(4,.b)] .n (hs 2 (.s (.s (.pl (ks [0,1,2,3,4,5,6,7,8,9,10,11,12,13] (.ef 14 [3,7] (.tk 15 .z)))) .n) .n))) (.s (.pl (ks [0,1,2,3,4,5,6,7] (.ef 8 [3,7] (.ef 9 [] (.tk 10 .z))))) .n)))
def Iq.wp(c:Option Addr)(ticks:Int)(w:World)(R:TR r0'→WP):Prop:=
Aj (!(Option.isNone c)) (
Aq c fun a1=>
ld1 KI a1 w fun x2=>
Aj (decide (ticks≥(wrap .i64 (1000-x2)))) (
Aq c fun a3=>
ld1 KI a3 w fun x4=>
R ((decide (ticks≤(wrap .i64 (1000+x4))),()),()) w) (
R ((false,()),()) w)) (
R ((false,()),()) w)
theorem Iq.ok{c:Option Addr}{ticks:Int}{w:World}{R:TR r0'→WP}:Iq.wp c ticks w R→Ae prog F.Iq [.pointer c,iV ticks] w false r0' R:=
  oks Aa func94 .n
def Et.wp(b:Option Addr)(me t0 t1 t2 t3 t4 tai:Int)(w:World)(R:TR Aii→WP):Prop:=
Bf [iV t0,iV t1,iV t2,uV t3,iV t4] T.Bg w fun p1 w2=>
Bf pY T.Bh w2 fun p3 w4=>
Aj (Option.isNone b) (
Au pY p3 0 w4 fun w5=>
A8 Zy p3 0 w5 fun x6=>
R (x6,(2,()),()) w5) (
Cc (fun(J7:((Addr)×Unit)→WP)=>
Jg w4 fun w10=>
Aq b fun a11=>
ld1 KU ((a11.add 1).add 1) w10 fun x12=>
ld1 KI (p1.add 2) w10 fun x13=>
ld1 KU ((p1.add 2).add 1) w10 fun x14=>
ld1 KI p1 w10 fun x15=>
(
Ae prog F.Qu [uV x12] w10 false Vw fun r16 w17=>
Hold [hd 14 p1 w10,hd 12 ((p1.add 2).add 1) w10,hd 9 (p1.add 2) w10,hd 5 ((a11.add 1).add 1) w10] w17∧(
Bf pY T.Bh w17 fun p18 w19=>
Hold [hd 14 p1 w10,hd 12 ((p1.add 2).add 1) w10,hd 9 (p1.add 2) w10,hd 5 ((a11.add 1).add 1) w10] w19∧(
Au [iV me,uV r16.1.1,iV x13,uV x14,iV x15,iV tai] p18 0 w19 fun w20=>
Hold [] w20∧(
J7 (p18,()) w20))))∧(
Bf pY T.Bh w10 fun p21 w22=>
Hold [hd 14 p1 w10,hd 12 ((p1.add 2).add 1) w10,hd 9 (p1.add 2) w10,hd 5 ((a11.add 1).add 1) w10] w22∧(
Ae prog F.Qu [uV x12] w22 false Vw fun r23 w24=>
Hold [hd 14 p1 w10,hd 12 ((p1.add 2).add 1) w10,hd 9 (p1.add 2) w10] w24∧(
Au [iV me,uV r23.1.1,iV x13,uV x14,iV x15,iV tai] p21 0 w24 fun w25=>
Hold [] w25∧(
J7 (p21,()) w25))))) (fun(z8:(Addr)×Unit) w9=> ∀_:Nat→Value,
A8 Zy z8.1 0 w9 fun x26=>
Ae prog F.Ew [.iface T.Bh (Sv Zy x26)] w9 false r0' fun r27 w28=>
Aj (!r27.1.1) (
Au pY p3 0 w28 fun w29=>
A8 Zy p3 0 w29 fun x30=>
R (x30,(1,()),()) w29) (
Jg w28 fun w31=>
A8 Zy z8.1 0 w31 fun x32=>
Aq b fun a33=>
Au [.bool true] a33 0 w31 fun w34=>
Hold [hd 2 (z8.1.add 0) w31,hd 2 (z8.1.add 1) w31,hd 2 (z8.1.add 2) w31,hd 2 (z8.1.add 3) w31,hd 2 (z8.1.add 4) w31,hd 2 (z8.1.add 5) w31] w34∧(
Aq b fun a35=>
Au (encs Zy x32) (a35.add 1) 0 w34 fun w36=>
Hold [] w36∧(
A8 Zy z8.1 0 w36 fun x37=>
Au (encs Zy x37) p3 0 w36 fun w38=>
A8 Zy p3 0 w38 fun x39=>
R (x39,(0,()),()) w38)))))
theorem Et.ok{b:Option Addr}{me t0 t1 t2 t3 t4 tai:Int}{w:World}{R:TR Aii→WP}:Et.wp b me t0 t1 t2 t3 t4 tai w R→Ae prog F.Et [.pointer b,iV me,.agg #[iV t0,iV t1,iV t2,uV t3,iV t4],iV tai] w true Aii R:=
  oks Aa func95 (hs 2 (.ct [(10,.a)] (.pl (ks [0,1,2,3,4,5,7,8,9,10,11,12,13,14,15] (.two 6 17 (.tk 16 (.ef 17 [] (.ef 18 [5,9,12,14] .z))) (.ef 6 [5] (.tk 16 (.ef 18 [9,12,14] .z)))))) (.s .n (.s (.pl (ks [0,1,2,3,4] (.ef 5 [] (.tk 6 (.tk 7 (.ef 8 [2] .z)))))) .n))))
def Ib.wp(n:Option Addr)(w:World)(R:TR r3'→WP):Prop:=
Ae prog F.O7 [.pointer n] w false r0' fun r1 w2=>
Aj r1.1.1 (
R ((0,()),()) w2) (
Aq n fun a3=>
ld1 .p (a3.add 27) w2 fun x4=>
Ae prog F.Cj [.pointer x4,.iface T.Yr (.agg #[])] w2 false r3' fun r5 w6=>
R ((r5.1.1,()),()) w6)
theorem Ib.ok{n:Option Addr}{w:World}{R:TR r3'→WP}:Ib.wp n w R→Ae prog F.Ib [.pointer n] w false r3' R:=
  oks Aa func96 .n
def Ve.wp(me timeout ignore:Int)(w:World)(R:TR r0'→WP):Prop:=
Aj (decide (me≥0)) (
Aj (decide (me<64)) (
Aj (decide (timeout≥1)) (
Aj (decide (timeout≤1000)) (
Aj (decide (ignore≥0)) (
R ((decide (ignore≤1000),()),()) w) (
R ((false,()),()) w)) (
R ((false,()),()) w)) (
R ((false,()),()) w)) (
R ((false,()),()) w)) (
R ((false,()),()) w)
theorem Ve.ok{me timeout ignore:Int}{w:World}{R:TR r0'→WP}:Ve.wp me timeout ignore w R→Ae prog F.Ve [iV me,iV timeout,iV ignore] w false r0' R:=
  oks Aa func97 .n
def Hu.wp(r0 r1 r2 r3:Int)(w:World)(R:TR r0'→WP):Prop:=
Bf [iV r0,iV r1,iV r2,iV r3] T.fQ w fun p1 w2=>
A8 [KI,KI] p1 0 w2 fun x3=>
Ae prog F.Hq [.agg #[iV x3.1,iV x3.2.1]] w2 false r0' fun r4 w5=>
Aj r4.1.1 (
ld1 KI (p1.add 2) w5 fun x6=>
Aj (decide (x6≥1)) (
ld1 KI (p1.add 2) w5 fun x7=>
Aj (decide (x7≤8)) (
ld1 KI (p1.add 3) w5 fun x8=>
Aj (decide (x8≥0)) (
ld1 KI (p1.add 3) w5 fun x9=>
R ((decide (x9≤10),()),()) w5) (
R ((false,()),()) w5)) (
R ((false,()),()) w5)) (
R ((false,()),()) w5)) (
R ((false,()),()) w5)
theorem Hu.ok{r0 r1 r2 r3:Int}{w:World}{R:TR r0'→WP}:Hu.wp r0 r1 r2 r3 w R→Ae prog F.Hu [.agg #[iV r0,iV r1,iV r2,iV r3]] w false r0' R:=
  oks Aa func98 .n
def Ie.wp(p0 p1 p2:Int)(w:World)(R:TR r0'→WP):Prop:=
Bf [iV p0,iV p1,iV p2] T.bU w fun p3 w4=>
ld1 KI p3 w4 fun x5=>
Aj (decide (x5≥1)) (
ld1 KI p3 w4 fun x6=>
Aj (decide (x6≤64)) (
ld1 KI (p3.add 1) w4 fun x7=>
Aj (decide (x7≥1)) (
ld1 KI (p3.add 1) w4 fun x8=>
ld1 KI p3 w4 fun x9=>
Aj (decide (x8≤x9)) (
ld1 KI (p3.add 2) w4 fun x10=>
Aj (decide (x10≥0)) (
ld1 KI (p3.add 2) w4 fun x11=>
ld1 KI p3 w4 fun x12=>
R ((decide (x11<x12),()),()) w4) (
R ((false,()),()) w4)) (
R ((false,()),()) w4)) (
R ((false,()),()) w4)) (
R ((false,()),()) w4)) (
R ((false,()),()) w4)
theorem Ie.ok{p0 p1 p2:Int}{w:World}{R:TR r0'→WP}:Ie.wp p0 p1 p2 w R→Ae prog F.Ie [.agg #[iV p0,iV p1,iV p2]] w false r0' R:=
  oks Aa func99 .n
def Gt.wp(room:Int)(w:World)(R:TR r2'→WP):Prop:=
Aj (decide (room<1)) (
R ((none,()),(1,()),()) w) (
Aj (decide (room>64)) (
R ((none,()),(1,()),()) w) (
L9 ((Instr.makeSlice T.Yo (iV room) (iV room)).run prog w) fun y1 w2=>
Bf [.slice y1.1 y1.2.1 y1.2.2,iV 0,iV 0] T.fB w2 fun p3 w4=>
R ((some p3,()),(0,()),()) w4))
theorem Gt.ok{room:Int}{w:World}{R:TR r2'→WP}:Gt.wp room w R→Ae prog F.Gt [iV room] w true r2' R:=
  oks Aa func100 .n
def Wv.wp(me r0 r1:Int)(w:World)(R:TR r2'→WP):Prop:=
Bf [iV r0,iV r1] T.nU w fun p1 w2=>
Aj (decide (me<0)) (
R ((none,()),(1,()),()) w2) (
Aj (decide (me≥64)) (
R ((none,()),(1,()),()) w2) (
A8 [KI,KI] p1 0 w2 fun x3=>
Ae prog F.Hq [.agg #[iV x3.1,iV x3.2.1]] w2 false r0' fun r4 w5=>
Aj (!r4.1.1) (
R ((none,()),(1,()),()) w5) (
A8 [KI,KI] p1 0 w5 fun x6=>
Bf [iV me,iV x6.1,iV x6.2.1,uV 0,uV 0,iV 0,iV 0,iV 0,.map none] T.Aaw w5 fun p7 w8=>
Ae prog F.Hr [.pointer (some p7),uV 0] w8 true [] fun r9 w10=>
R ((some p7,()),(0,()),()) w10)))
theorem Wv.ok{me r0 r1:Int}{w:World}{R:TR r2'→WP}:Wv.wp me r0 r1 w R→Ae prog F.Wv [iV me,.agg #[iV r0,iV r1]] w true r2' R:=
  oks Aa func101 .n
def Hr.wp(e:Option Addr)(boot:Int)(w:World)(R:TR []→WP):Prop:=
Aj (!(Option.isNone e)) (
Jg w fun w1=>
Aq e fun a2=>
ld1 KI a2 w1 fun x3=>
Aq e fun a4=>
A8 [KI,KI] (a4.add 1) 0 w1 fun x5=>
maK prog T.V3 w1 fun m6 w7=>
Hold [hd 8 ((a4.add 1).add 0) w1,hd 8 ((a4.add 1).add 1) w1,hd 4 a2 w1] w7∧(
Aq e fun a8=>
Au [iV x3,iV x5.1,iV x5.2.1,uV boot,uV 0,iV (Int.negSucc 0),iV 0,iV 0,.map (some m6)] a8 0 w7 fun w9=>
Hold [] w9∧(
R (()) w9))) (
R (()) w)
theorem Hr.ok{e:Option Addr}{boot:Int}{w:World}{R:TR []→WP}:Hr.wp e boot w R→Ae prog F.Hr [.pointer e,uV boot] w true [] R:=
  oks Aa func102 (.s .n (.s (.pl (ks [0,1,2,3,4,5,6,7,8,9] (.ef 10 [] (.tk 11 (.tk 12 (.ef 13 [4,8] .z)))))) .n))
def Em.wp(f:Option Addr)(w:World)(R:TR []→WP):Prop:=
Aq f fun a1=>
Ae prog F.Gg [.pointer (some (a1.add 6))] w true [] fun r2 w3=>
Aq f fun a4=>
Au Vy (a4.add 7) 0 w3 fun w5=>
R (()) w5
theorem Em.ok{f:Option Addr}{w:World}{R:TR []→WP}:Em.wp f w R→Ae prog F.Em [.pointer f] w true [] R:=
  oks Aa func103 .n
def Dw.wp(r:Option Addr)(w:World)(R:TR []→WP):Prop:=
Aj (!(Option.isNone r)) (
Aq r fun a1=>
ld1 .sl a1 w fun x2=>
crK prog #[T.Yo] T.t0 (.slice x2.1 x2.2.1 x2.2.2) w fun w3=>
Aq r fun a4=>
Au [iV 0] (a4.add 1) 0 w3 fun w5=>
Aq r fun a6=>
Au [iV 0] (a6.add 2) 0 w5 fun w7=>
R (()) w7) (
R (()) w)
theorem Dw.ok{r:Option Addr}{w:World}{R:TR []→WP}:Dw.wp r w R→Ae prog F.Dw [.pointer r] w true [] R:=
  oks Aa func104 .n
def Ug.wp(last raw:Int)(w:World)(R:TR Zz→WP):Prop:=
Aj (decide (last<0)) (
R ((0,()),(false,()),()) w) (
Aj (decide (last>1125899906842624)) (
R ((0,()),(false,()),()) w) (
Aj (decide ((wrap .i64 (last+(wrap .i64 (wrap .u32 (raw-(wrap .u32 last))))))>1125899906842624)) (
R ((0,()),(false,()),()) w) (
R ((wrap .i64 (last+(wrap .i64 (wrap .u32 (raw-(wrap .u32 last))))),()),(true,()),()) w)))
theorem Ug.ok{last raw:Int}{w:World}{R:TR Zz→WP}:Ug.wp last raw w R→Ae prog F.Ug [iV last,.int .u32 raw] w true Zz R:=
  oks Aa func105 .n
def Qs.wp(x low high:Int)(w:World)(R:TR r3'→WP):Prop:=
R (((if low>(if high<x then high else x) then low else(if high<x then high else x)),()),()) w
theorem Qs.ok{x low high:Int}{w:World}{R:TR r3'→WP}:Qs.wp x low high w R→Ae prog F.Qs [iV x,iV low,iV high] w false r3' R:=
  oks Aa func106 .n
def Jt.wp(e:Option Addr)(w:World)(R:TR r0'→WP):Prop:=
Aj (Option.isNone e) (
R ((false,()),()) w) (
Ae prog F.Bc [.pointer e] w false r0' fun r1 w2=>
Aj r1.1.1 (
Aq e fun a3=>
ld1 KI (a3.add 7) w2 fun x4=>
Aq e fun a5=>
Au [iV (if 0>(wrap .i64 (x4-1)) then 0 else(wrap .i64 (x4-1)))] (a5.add 7) 0 w2 fun w6=>
R ((false,()),()) w6) (
Aq e fun a7=>
ld1 KI (a7.add 6) w2 fun x8=>
Aq e fun a9=>
Au [iV (wrap .i64 (x8+1))] (a9.add 6) 0 w2 fun w10=>
Jg w10 fun w11=>
Aq e fun a12=>
ld1 KI (a12.add 6) w11 fun x13=>
Aq e fun a14=>
ld1 KI (a14.add 1) w11 fun x15=>
Aj (decide (x13<x15)) (
R ((false,()),()) w11) (
Jg w11 fun w16=>
Aq e fun a17=>
ld1 KI a17 w16 fun x18=>
Aq e fun a19=>
ld1 KI ((a19.add 1).add 1) w16 fun x20=>
Aq e fun a21=>
Au [iV x18] (a21.add 5) 0 w16 fun w22=>
Hold [] w22∧(
Aq e fun a23=>
Au [iV 0] (a23.add 6) 0 w22 fun w24=>
Hold [] w24∧(
Aq e fun a25=>
Au [iV x20] (a25.add 7) 0 w24 fun w26=>
Hold [] w26∧(
R ((true,()),()) w26))))))
theorem Jt.ok{e:Option Addr}{w:World}{R:TR r0'→WP}:Jt.wp e w R→Ae prog F.Jt [.pointer e] w false r0' R:=
  oks Aa func107 (hs 3 (.s (.s (.pl (ks [0,1,2,3,4,5,6,7,8,9] .z)) .n) (.s (.pl (ks [0,1,2,3,4,5,6,7,8,9,10,11,12,13] (.ef 14 [6,11] (.tk 15 (.tk 16 (.ef 17 [] (.tk 18 (.tk 19 (.ef 20 [] .z))))))))) .n)))
def La.wp(f:Option Addr)(local_:Int)(w:World)(R:TR Aa9→WP):Prop:=
Bf z7' T.Dy w fun p1 w2=>
Aq f fun a3=>
ld1 .p a3 w2 fun x4=>
Ae prog F.Bc [.pointer x4] w2 false r0' fun r5 w6=>
Aj r5.1.1 (
Aq f fun a7=>
ld1 .p a7 w6 fun x8=>
Ae prog F.I5 [.pointer x8] w6 true xB fun r9 w10=>
Bf [uV 0,uV 0] T.Ti w10 fun p11 w12=>
Au [uV r9.1.1,uV r9.1.2.1] p11 0 w12 fun w13=>
Jg w13 fun w14=>
Aq f fun a15=>
ld1 KI (a15.add 1) w14 fun x16=>
Aq f fun a17=>
ld1 KI (a17.add 1) w14 fun x18=>
ld1 KU p11 w14 fun x19=>
ld1 KU (p11.add 1) w14 fun x20=>
Au [iV x16,iV x18,uV x19,uV x20,iV 0,iV local_] p1 0 w14 fun w21=>
Hold [] w21∧(
A8 vY p1 0 w21 fun x22=>
R (x22,(true,()),()) w21)) (
Ae prog F.Ba [.pointer f] w6 false r0' fun r23 w24=>
Aj (!r23.1.1) (
Au z7' p1 0 w24 fun w25=>
A8 vY p1 0 w25 fun x26=>
R (x26,(false,()),()) w25) (
Aq f fun a27=>
ld1 .p a27 w24 fun x28=>
Ae prog F.Hl [.pointer x28] w24 true xB fun r29 w30=>
Bf [uV 0,uV 0] T.Ti w30 fun p31 w32=>
Au [uV r29.1.1,uV r29.1.2.1] p31 0 w32 fun w33=>
Cc (fun(J34:((Addr)×Unit)→WP)=>
Jg w33 fun w37=>
Aq f fun a38=>
ld1 KI (a38.add 1) w37 fun x39=>
Aq f fun a40=>
ld1 .p a40 w37 fun x41=>
ld1 KU p31 w37 fun x42=>
ld1 KU (p31.add 1) w37 fun x43=>
Aq f fun a44=>
ld1 KI ((a44.add 7).add 2) w37 fun x45=>
Aq f fun a46=>
ld1 KI ((a46.add 7).add 1) w37 fun x47=>
Aq f fun a48=>
ld1 KI (a48.add 7) w37 fun x49=>
(
Ae prog F.Dc [.pointer x41] w37 false r3' fun r50 w51=>
Hold [hd 29 (a48.add 7) w37,hd 22 ((a46.add 7).add 1) w37,hd 17 ((a44.add 7).add 2) w37,hd 12 (p31.add 1) w37,hd 10 p31 w37,hd 7 a40 w37,hd 3 (a38.add 1) w37] w51∧(
Bf z7' T.Dy w51 fun p52 w53=>
Hold [hd 29 (a48.add 7) w37,hd 22 ((a46.add 7).add 1) w37,hd 17 ((a44.add 7).add 2) w37,hd 12 (p31.add 1) w37,hd 10 p31 w37,hd 7 a40 w37,hd 3 (a38.add 1) w37] w53∧(
Au [iV x39,iV r50.1.1,uV x42,uV x43,iV x45,iV (wrap .i64 ((wrap .i64 (x47+local_))-x49))] p52 0 w53 fun w54=>
Hold [] w54∧(
J34 (p52,()) w54))))∧(
Bf z7' T.Dy w37 fun p55 w56=>
Hold [hd 29 (a48.add 7) w37,hd 22 ((a46.add 7).add 1) w37,hd 17 ((a44.add 7).add 2) w37,hd 12 (p31.add 1) w37,hd 10 p31 w37,hd 7 a40 w37,hd 3 (a38.add 1) w37] w56∧(
Ae prog F.Dc [.pointer x41] w56 false r3' fun r57 w58=>
Hold [hd 29 (a48.add 7) w37,hd 22 ((a46.add 7).add 1) w37,hd 17 ((a44.add 7).add 2) w37,hd 12 (p31.add 1) w37,hd 10 p31 w37,hd 3 (a38.add 1) w37] w58∧(
Au [iV x39,iV r57.1.1,uV x42,uV x43,iV x45,iV (wrap .i64 ((wrap .i64 (x47+local_))-x49))] p55 0 w58 fun w59=>
Hold [] w59∧(
J34 (p55,()) w59))))) (fun(z35:(Addr)×Unit) w36=> ∀_:Nat→Value,
Jg w36 fun w60=>
A8 vY z35.1 0 w60 fun x61=>
A8 vY z35.1 0 w60 fun x62=>
Ae prog F.Ew [.iface T.Dy (Sv vY x62)] w60 false r0' fun r63 kJ=>
Hold [hd 1 (z35.1.add 0) w60,hd 1 (z35.1.add 1) w60,hd 1 (z35.1.add 2) w60,hd 1 (z35.1.add 3) w60,hd 1 (z35.1.add 4) w60,hd 1 (z35.1.add 5) w60,hd 0 (z35.1.add 0) w60,hd 0 (z35.1.add 1) w60,hd 0 (z35.1.add 2) w60,hd 0 (z35.1.add 3) w60,hd 0 (z35.1.add 4) w60,hd 0 (z35.1.add 5) w60] kJ∧(
Au (encs vY x61) p1 0 kJ fun w65=>
Hold [hd 1 (z35.1.add 0) w60,hd 1 (z35.1.add 1) w60,hd 1 (z35.1.add 2) w60,hd 1 (z35.1.add 3) w60,hd 1 (z35.1.add 4) w60,hd 1 (z35.1.add 5) w60] w65∧(
A8 vY p1 0 w65 fun x66=>
R (x66,(r63.1.1,()),()) w65)))))
theorem La.ok{f:Option Addr}{local_:Int}{w:World}{R:TR Aa9→WP}:La.wp f local_ w R→Ae prog F.La [.pointer f,iV local_] w true Aa9 R:=
  oks Aa func108 (.s .n (.s (.s .n (.s (.s .n (.s (.pl (ks [0,1,2,3,4,5,6,7,8,9,10,11,12,13] (.ef 14 [3,7,9,11] (.tk 15 .z)))) .n)) .n)) (hs 2 (.ct [(10,.a)] (.pl (ks [0,1,2,3,4,5,6,7,9,10,11,12,13,14,15,16,17,18,19,20,21,22,23,24,25,26,27,28,29,30] (.two 8 32 (.tk 31 (.ef 32 [] (.ef 33 [3,7,10,12,17,22,29] .z))) (.ef 8 [7] (.tk 31 (.ef 33 [3,10,12,17,22,29] .z)))))) (.s (.pl (ks [0,1,2] (.ef 3 [] (.ef 4 [0] (.tk 5 .z))))) .n)))))
def Pn.wp(f0 f1 f2 f3 f4 f5:Int)(w:World)(R:TR iT→WP):Prop:=
Ae prog F.Ew [.iface T.Bh (.agg #[iV f0,uV f1,iV f2,uV f3,iV f4,iV f5])] w false r0' fun r1 w2=>
Aj (!r1.1.1) (
R (((none,0,0),()),(1,()),()) w2) (
Bf [.slice none 0 0] T.aF w2 fun p3 w4=>
Ae prog F.Fa [.iface T.Bh (.agg #[iV f0,uV f1,iV f2,uV f3,iV f4,iV f5])] w4 false Yk fun r5 w6=>
Ae prog F.Bv [.pointer (some p3),iV 1,.int .u64 (wrap .u64 r5.1.1)] w6 false dB fun r7 w8=>
Ae prog F.Dt [.agg #[iV f0,uV f1,iV f2,uV f3,iV f4,iV f5]] w8 false H7 fun r9 w10=>
Ci (fun(self11:((Int)×Unit)→WP) (z12:(Int)×Unit) w13=> ∀_:Nat→Value,
Aj (decide (z12.1<(r9.1.1.2.1:Int))) (
Ny r9.1.1.1 r9.1.1.2.1 z12.1 fun a14=>
A8 Ig (a14.add (z12.1.toNat*3)) 0 w13 fun x15=>
Bf Vy T.Dl w13 fun p16 w17=>
Au (encs Ig x15) p16 0 w17 fun w18=>
ld1 KI p16 w18 fun x19=>
ld1 KI (p16.add 1) w18 fun x20=>
Ae prog F.Bv [.pointer (some p3),iV x19,.int .u64 (wrap .u64 x20)] w18 false dB fun r21 w22=>
self11 (wrap .i64 (z12.1+1),()) w22) (
Ae prog F.Fj [.pointer (some p3)] w13 false H7 fun r23 w24=>
Ae prog F.Tz [.slice r23.1.1.1 r23.1.1.2.1 r23.1.1.2.2] w24 false H7 fun r25 w26=>
R (((r25.1.1.1,r25.1.1.2.1,r25.1.1.2.2),()),(0,()),()) w26)) (0,()) w10)
theorem Pn.ok{f0 f1 f2 f3 f4 f5:Int}{w:World}{R:TR iT→WP}:Pn.wp f0 f1 f2 f3 f4 f5 w R→Ae prog F.Il [.iface T.Bh (.agg #[iV f0,uV f1,iV f2,uV f3,iV f4,iV f5])] w true iT R:=
  oks Aa func109 (hs 4 (.s (.s .n (.lp [(17,(.i .i64))] .n)) .n))
def G8.wp(f0 f1 f2 f3 f4 f5:Int)(w:World)(R:TR iT→WP):Prop:=
Ae prog F.Ew [.iface T.Dy (.agg #[iV f0,iV f1,uV f2,uV f3,iV f4,iV f5])] w false r0' fun r1 w2=>
Aj (!r1.1.1) (
R (((none,0,0),()),(1,()),()) w2) (
Bf [.slice none 0 0] T.aF w2 fun p3 w4=>
Ae prog F.Fa [.iface T.Dy (.agg #[iV f0,iV f1,uV f2,uV f3,iV f4,iV f5])] w4 false Yk fun r5 w6=>
Ae prog F.Bv [.pointer (some p3),iV 1,.int .u64 (wrap .u64 r5.1.1)] w6 false dB fun r7 w8=>
Ae prog F.Dh [.agg #[iV f0,iV f1,uV f2,uV f3,iV f4,iV f5]] w8 false H7 fun r9 w10=>
Ci (fun(self11:((Int)×Unit)→WP) (z12:(Int)×Unit) w13=> ∀_:Nat→Value,
Aj (decide (z12.1<(r9.1.1.2.1:Int))) (
Ny r9.1.1.1 r9.1.1.2.1 z12.1 fun a14=>
A8 Ig (a14.add (z12.1.toNat*3)) 0 w13 fun x15=>
Bf Vy T.Dl w13 fun p16 w17=>
Au (encs Ig x15) p16 0 w17 fun w18=>
ld1 KI p16 w18 fun x19=>
ld1 KI (p16.add 1) w18 fun x20=>
Ae prog F.Bv [.pointer (some p3),iV x19,.int .u64 (wrap .u64 x20)] w18 false dB fun r21 w22=>
self11 (wrap .i64 (z12.1+1),()) w22) (
Ae prog F.Fj [.pointer (some p3)] w13 false H7 fun r23 w24=>
Ae prog F.Tz [.slice r23.1.1.1 r23.1.1.2.1 r23.1.1.2.2] w24 false H7 fun r25 w26=>
R (((r25.1.1.1,r25.1.1.2.1,r25.1.1.2.2),()),(0,()),()) w26)) (0,()) w10)
theorem G8.ok{f0 f1 f2 f3 f4 f5:Int}{w:World}{R:TR iT→WP}:G8.wp f0 f1 f2 f3 f4 f5 w R→Ae prog F.Il [.iface T.Dy (.agg #[iV f0,iV f1,uV f2,uV f3,iV f4,iV f5])] w true iT R:=
  oks Aa func109 (hs 4 (.s (.s .n (.lp [(17,(.i .i64))] .n)) .n))
def G9.wp(f0:Int)(w:World)(R:TR iT→WP):Prop:=
Ae prog F.Ew [.iface T.Gp (.agg #[iV f0])] w false r0' fun r1 w2=>
Aj (!r1.1.1) (
R (((none,0,0),()),(1,()),()) w2) (
Bf [.slice none 0 0] T.aF w2 fun p3 w4=>
Ae prog F.Fa [.iface T.Gp (.agg #[iV f0])] w4 false Yk fun r5 w6=>
Ae prog F.Bv [.pointer (some p3),iV 1,.int .u64 (wrap .u64 r5.1.1)] w6 false dB fun r7 w8=>
Ae prog F.D8 [.agg #[iV f0]] w8 false H7 fun r9 w10=>
Ci (fun(self11:((Int)×Unit)→WP) (z12:(Int)×Unit) w13=> ∀_:Nat→Value,
Aj (decide (z12.1<(r9.1.1.2.1:Int))) (
Ny r9.1.1.1 r9.1.1.2.1 z12.1 fun a14=>
A8 Ig (a14.add (z12.1.toNat*3)) 0 w13 fun x15=>
Bf Vy T.Dl w13 fun p16 w17=>
Au (encs Ig x15) p16 0 w17 fun w18=>
ld1 KI p16 w18 fun x19=>
ld1 KI (p16.add 1) w18 fun x20=>
Ae prog F.Bv [.pointer (some p3),iV x19,.int .u64 (wrap .u64 x20)] w18 false dB fun r21 w22=>
self11 (wrap .i64 (z12.1+1),()) w22) (
Ae prog F.Fj [.pointer (some p3)] w13 false H7 fun r23 w24=>
Ae prog F.Tz [.slice r23.1.1.1 r23.1.1.2.1 r23.1.1.2.2] w24 false H7 fun r25 w26=>
R (((r25.1.1.1,r25.1.1.2.1,r25.1.1.2.2),()),(0,()),()) w26)) (0,()) w10)
theorem G9.ok{f0:Int}{w:World}{R:TR iT→WP}:G9.wp f0 w R→Ae prog F.Il [.iface T.Gp (.agg #[iV f0])] w true iT R:=
  oks Aa func109 (hs 4 (.s (.s .n (.lp [(17,(.i .i64))] .n)) .n))
def Qa.wp(f0 f1 f2:Int)(w:World)(R:TR iT→WP):Prop:=
Ae prog F.Ew [.iface T.Ef (.agg #[iV f0,iV f1,iV f2])] w false r0' fun r1 w2=>
Aj (!r1.1.1) (
R (((none,0,0),()),(1,()),()) w2) (
Bf [.slice none 0 0] T.aF w2 fun p3 w4=>
Ae prog F.Fa [.iface T.Ef (.agg #[iV f0,iV f1,iV f2])] w4 false Yk fun r5 w6=>
Ae prog F.Bv [.pointer (some p3),iV 1,.int .u64 (wrap .u64 r5.1.1)] w6 false dB fun r7 w8=>
Ae prog F.He [.agg #[iV f0,iV f1,iV f2]] w8 false H7 fun r9 w10=>
Ci (fun(self11:((Int)×Unit)→WP) (z12:(Int)×Unit) w13=> ∀_:Nat→Value,
Aj (decide (z12.1<(r9.1.1.2.1:Int))) (
Ny r9.1.1.1 r9.1.1.2.1 z12.1 fun a14=>
A8 Ig (a14.add (z12.1.toNat*3)) 0 w13 fun x15=>
Bf Vy T.Dl w13 fun p16 w17=>
Au (encs Ig x15) p16 0 w17 fun w18=>
ld1 KI p16 w18 fun x19=>
ld1 KI (p16.add 1) w18 fun x20=>
Ae prog F.Bv [.pointer (some p3),iV x19,.int .u64 (wrap .u64 x20)] w18 false dB fun r21 w22=>
self11 (wrap .i64 (z12.1+1),()) w22) (
Ae prog F.Fj [.pointer (some p3)] w13 false H7 fun r23 w24=>
Ae prog F.Tz [.slice r23.1.1.1 r23.1.1.2.1 r23.1.1.2.2] w24 false H7 fun r25 w26=>
R (((r25.1.1.1,r25.1.1.2.1,r25.1.1.2.2),()),(0,()),()) w26)) (0,()) w10)
theorem Qa.ok{f0 f1 f2:Int}{w:World}{R:TR iT→WP}:Qa.wp f0 f1 f2 w R→Ae prog F.Il [.iface T.Ef (.agg #[iV f0,iV f1,iV f2])] w true iT R:=
  oks Aa func109 (hs 4 (.s (.s .n (.lp [(17,(.i .i64))] .n)) .n))
def Qm.wp(f0 f1:Int)(w:World)(R:TR iT→WP):Prop:=
Ae prog F.Ew [.iface T.Gj (.agg #[iV f0,iV f1])] w false r0' fun r1 w2=>
Aj (!r1.1.1) (
R (((none,0,0),()),(1,()),()) w2) (
Bf [.slice none 0 0] T.aF w2 fun p3 w4=>
Ae prog F.Fa [.iface T.Gj (.agg #[iV f0,iV f1])] w4 false Yk fun r5 w6=>
Ae prog F.Bv [.pointer (some p3),iV 1,.int .u64 (wrap .u64 r5.1.1)] w6 false dB fun r7 w8=>
Ae prog F.Ic [.agg #[iV f0,iV f1]] w8 false H7 fun r9 w10=>
Ci (fun(self11:((Int)×Unit)→WP) (z12:(Int)×Unit) w13=> ∀_:Nat→Value,
Aj (decide (z12.1<(r9.1.1.2.1:Int))) (
Ny r9.1.1.1 r9.1.1.2.1 z12.1 fun a14=>
A8 Ig (a14.add (z12.1.toNat*3)) 0 w13 fun x15=>
Bf Vy T.Dl w13 fun p16 w17=>
Au (encs Ig x15) p16 0 w17 fun w18=>
ld1 KI p16 w18 fun x19=>
ld1 KI (p16.add 1) w18 fun x20=>
Ae prog F.Bv [.pointer (some p3),iV x19,.int .u64 (wrap .u64 x20)] w18 false dB fun r21 w22=>
self11 (wrap .i64 (z12.1+1),()) w22) (
Ae prog F.Fj [.pointer (some p3)] w13 false H7 fun r23 w24=>
Ae prog F.Tz [.slice r23.1.1.1 r23.1.1.2.1 r23.1.1.2.2] w24 false H7 fun r25 w26=>
R (((r25.1.1.1,r25.1.1.2.1,r25.1.1.2.2),()),(0,()),()) w26)) (0,()) w10)
theorem Qm.ok{f0 f1:Int}{w:World}{R:TR iT→WP}:Qm.wp f0 f1 w R→Ae prog F.Il [.iface T.Gj (.agg #[iV f0,iV f1])] w true iT R:=
  oks Aa func109 (hs 4 (.s (.s .n (.lp [(17,(.i .i64))] .n)) .n))
def P9.wp(f0 f1 f2 f3 f4 f5 f6 f7:Int)(w:World)(R:TR iT→WP):Prop:=
Ae prog F.Ew [.iface T.Gl (.agg #[iV f0,iV f1,iV f2,iV f3,iV f4,iV f5,uV f6,iV f7])] w false r0' fun r1 w2=>
Aj (!r1.1.1) (
R (((none,0,0),()),(1,()),()) w2) (
Bf [.slice none 0 0] T.aF w2 fun p3 w4=>
Ae prog F.Fa [.iface T.Gl (.agg #[iV f0,iV f1,iV f2,iV f3,iV f4,iV f5,uV f6,iV f7])] w4 false Yk fun r5 w6=>
Ae prog F.Bv [.pointer (some p3),iV 1,.int .u64 (wrap .u64 r5.1.1)] w6 false dB fun r7 w8=>
Ae prog F.G7 [.agg #[iV f0,iV f1,iV f2,iV f3,iV f4,iV f5,uV f6,iV f7]] w8 false H7 fun r9 w10=>
Ci (fun(self11:((Int)×Unit)→WP) (z12:(Int)×Unit) w13=> ∀_:Nat→Value,
Aj (decide (z12.1<(r9.1.1.2.1:Int))) (
Ny r9.1.1.1 r9.1.1.2.1 z12.1 fun a14=>
A8 Ig (a14.add (z12.1.toNat*3)) 0 w13 fun x15=>
Bf Vy T.Dl w13 fun p16 w17=>
Au (encs Ig x15) p16 0 w17 fun w18=>
ld1 KI p16 w18 fun x19=>
ld1 KI (p16.add 1) w18 fun x20=>
Ae prog F.Bv [.pointer (some p3),iV x19,.int .u64 (wrap .u64 x20)] w18 false dB fun r21 w22=>
self11 (wrap .i64 (z12.1+1),()) w22) (
Ae prog F.Fj [.pointer (some p3)] w13 false H7 fun r23 w24=>
Ae prog F.Tz [.slice r23.1.1.1 r23.1.1.2.1 r23.1.1.2.2] w24 false H7 fun r25 w26=>
R (((r25.1.1.1,r25.1.1.2.1,r25.1.1.2.2),()),(0,()),()) w26)) (0,()) w10)
theorem P9.ok{f0 f1 f2 f3 f4 f5 f6 f7:Int}{w:World}{R:TR iT→WP}:P9.wp f0 f1 f2 f3 f4 f5 f6 f7 w R→Ae prog F.Il [.iface T.Gl (.agg #[iV f0,iV f1,iV f2,iV f3,iV f4,iV f5,uV f6,iV f7])] w true iT R:=
  oks Aa func109 (hs 4 (.s (.s .n (.lp [(17,(.i .i64))] .n)) .n))
def Dk.wp(t:Option Addr)(w:World)(R:TR r3'→WP):Prop:=
Aj (Option.isNone t) (
R ((0,()),()) w) (
Aq t fun a1=>
ld1 .sl a1 w fun x2=>
R (((x2.2.1:Int),()),()) w)
theorem Dk.ok{t:Option Addr}{w:World}{R:TR r3'→WP}:Dk.wp t w R→Ae prog F.Dk [.pointer t] w false r3' R:=
  oks Aa func110 .n
def Qb.wp(p:Option Addr)(to local_:Int)(w:World)(R:TR fC→WP):Prop:=
Bf Vy T.Ef w fun p1 w2=>
Aj (Option.isNone p) (
Au Vy p1 0 w2 fun w3=>
A8 Ig p1 0 w3 fun x4=>
R (x4,(false,()),()) w3) (
Aq p fun a5=>
ld1 KI a5 w2 fun x6=>
Bf Vy T.Ef w2 fun p7 w8=>
Au [iV x6,iV to,iV local_] p7 0 w8 fun w9=>
Aq p fun a10=>
ld1 .b (a10.add 3) w9 fun x11=>
Aj x11 (
Au Vy p1 0 w9 fun w12=>
A8 Ig p1 0 w12 fun x13=>
R (x13,(false,()),()) w12) (
Aq p fun a14=>
ld1 KI (a14.add 6) w9 fun x15=>
Aj (decide (x15>0)) (
Au Vy p1 0 w9 fun w16=>
A8 Ig p1 0 w16 fun x17=>
R (x17,(false,()),()) w16) (
Aq p fun a18=>
ld1 KI a18 w9 fun x19=>
Aj (to==x19) (
Au Vy p1 0 w9 fun w20=>
A8 Ig p1 0 w20 fun x21=>
R (x21,(false,()),()) w20) (
A8 Ig p7 0 w9 fun x22=>
Ae prog F.Ew [.iface T.Ef (Sv Ig x22)] w9 false r0' fun r23 w24=>
Aj (!r23.1.1) (
Au Vy p1 0 w24 fun w25=>
A8 Ig p1 0 w25 fun x26=>
R (x26,(false,()),()) w25) (
Aq p fun a27=>
Au [.bool true] (a27.add 3) 0 w24 fun w28=>
Aq p fun a29=>
Au [iV 0] (a29.add 4) 0 w28 fun w30=>
Aq p fun a31=>
Au [iV to] (a31.add 1) 0 w30 fun w32=>
Aq p fun a33=>
Au [iV local_] (a33.add 2) 0 w32 fun w34=>
A8 Ig p7 0 w34 fun x35=>
Au (encs Ig x35) p1 0 w34 fun w36=>
A8 Ig p1 0 w36 fun x37=>
R (x37,(true,()),()) w36)))))
theorem Qb.ok{p:Option Addr}{to local_:Int}{w:World}{R:TR fC→WP}:Qb.wp p to local_ w R→Ae prog F.Qb [.pointer p,iV to,iV local_] w true fC R:=
  oks Aa func111 .n
def Dj.wp(r:Option Addr)(w:World)(R:TR r3'→WP):Prop:=
Aj (Option.isNone r) (
R ((0,()),()) w) (
Aq r fun a1=>
ld1 KI (a1.add 2) w fun x2=>
R ((x2,()),()) w)
theorem Dj.ok{r:Option Addr}{w:World}{R:TR r3'→WP}:Dj.wp r w R→Ae prog F.Dj [.pointer r] w false r3' R:=
  oks Aa func112 .n
def Wu.wp(size n:Int)(w:World)(R:TR H7→WP):Prop:=
Ci (fun(self1:((Int)×(Option Addr×Nat×Nat)×(Int)×Unit)→WP) (z2:(Int)×(Option Addr×Nat×Nat)×(Int)×Unit) w3=> ∀_:Nat→Value,
Aj (decide (z2.2.2.1<size)) (
Aj (decide (z2.2.2.1<8)) (
dF 256 (
Bf [.int .u8 (wrap .u8 (Int.tmod z2.1 256))] T.uint8 w3 fun p4 w5=>
L9 ((Builtin.append_ #[T.Fh,T.Fh] T.Fh #[.slice (some p4) 1 1,.slice z2.2.1.1 z2.2.1.2.1 z2.2.1.2.2]).run prog w5) fun y6 w7=>
dF 256 (
self1 (wrap .u64 (Int.tdiv z2.1 256),(y6.1,y6.2.1,y6.2.2),wrap .i64 (z2.2.2.1+1),()) w7))) (
R (((z2.2.1.1,z2.2.1.2.1,z2.2.1.2.2),()),()) w3)) (
R (((z2.2.1.1,z2.2.1.2.1,z2.2.1.2.2),()),()) w3)) (n,(none,0,0),0,()) w
theorem Wu.ok{size n:Int}{w:World}{R:TR H7→WP}:Wu.wp size n w R→Ae prog F.Wu [iV size,.int .u64 n] w false H7 R:=
  oks Aa func113 (hs 2 (.s (.s .n (.lp [(1,(.i .u64)),(5,.sl),(6,(.i .i64))] .n)) .n))
def Wn.wp(me timeout ignore need drift boot:Int)(w:World)(R:TR dB→WP):Prop:=
Ae prog F.Wj [iV me,iV timeout,iV ignore,uV boot] w false dB fun r1 w2=>
Bf [.pointer r1.1.1,iV need,iV drift,.slice none 0 0,iV 0,iV 0,iV 0] T.yS w2 fun p3 w4=>
R ((some p3,()),()) w4
theorem Wn.ok{me timeout ignore need drift boot:Int}{w:World}{R:TR dB→WP}:Wn.wp me timeout ignore need drift boot w R→Ae prog F.Wn [iV me,iV timeout,iV ignore,iV need,iV drift,uV boot] w false dB R:=
  oks Aa func114 .n
def Wq.wp(me:Int)(w:World)(R:TR dB→WP):Prop:=
Bf [iV me,iV (Int.negSucc 0),iV (Int.negSucc 0)] T.nX w fun p1 w2=>
R ((some p1,()),()) w2
theorem Wq.ok{me:Int}{w:World}{R:TR dB→WP}:Wq.wp me w R→Ae prog F.Wq [iV me] w false dB R:=
  oks Aa func115 .n
def Ht.wp(n:Option Addr)(jitter:Int)(w:World)(R:TR dH→WP):Prop:=
Aq n fun a1=>
ld1 .b (a1.add 11) w fun x2=>
Aj (!x2) (
R ((0,()),(10,()),()) w) (
Aq n fun a3=>
ld1 KI (a3.add 9) w fun x4=>
Aj (decide (jitter<(wrap .i64 (0-x4)))) (
R ((0,()),(1,()),()) w) (
Aq n fun a5=>
ld1 KI (a5.add 9) w fun x6=>
Aj (decide (jitter>x6)) (
R ((0,()),(1,()),()) w) (
Aq n fun a7=>
ld1 .p (a7.add 13) w fun x8=>
Aq x8 fun a9=>
ld1 KI (a9.add 1) w fun x10=>
R (((if 1125899906842624<(if 0>(wrap .i64 (x10+jitter)) then 0 else(wrap .i64 (x10+jitter))) then 1125899906842624 else(if 0>(wrap .i64 (x10+jitter)) then 0 else(wrap .i64 (x10+jitter)))),()),(0,()),()) w)))
theorem Ht.ok{n:Option Addr}{jitter:Int}{w:World}{R:TR dH→WP}:Ht.wp n jitter w R→Ae prog F.Ht [.pointer n,iV jitter] w true dH R:=
  oks Aa func116 .n
def Jz.wp(f:Option Addr)(local_:Int)(w:World)(R:TR bF→WP):Prop:=
Bf z0' T.Dn w fun p1 w2=>
Cc (fun(J3:Unit→WP)=>
Aq f fun a6=>
ld1 .p a6 w2 fun x7=>
Ae prog F.Jv [.pointer x7] w2 false r0' fun r8 w9=>
Aj r8.1.1 (
Ae prog F.Gi [.pointer f] w9 true [] fun r10 w11=>
J3 (()) w11) (
J3 (()) w9)) (fun(z4:Unit) w5=> ∀_:Nat→Value,
Ae prog F.N8 [iV local_] w5 false r0' fun r12 w13=>
Aj (!r12.1.1) (
Au z0' p1 0 w13 fun w14=>
A8 k2' p1 0 w14 fun x15=>
R (x15,()) w14) (
Ae prog F.Eu [.pointer f] w13 false r0' fun r16 w17=>
Aj r16.1.1 (
Jg w17 fun w18=>
Aq f fun a19=>
ld1 .p a19 w18 fun x20=>
Aq f fun a21=>
ld1 .p a21 w18 fun x22=>
Aq x22 fun a23=>
ld1 KU (a23.add 4) w18 fun x24=>
Ae prog F.Tj [uV x24] w18 false Vw fun r25 w26=>
Hold [hd 7 a21 w18,hd 3 a19 w18] w26∧(
Aq x20 fun a27=>
Au [uV r25.1.1] (a27.add 4) 0 w26 fun w28=>
Hold [] w28∧(
Jg w28 fun w29=>
Aq f fun a30=>
ld1 .p a30 w29 fun x31=>
Aq x31 fun a32=>
ld1 KI a32 w29 fun x33=>
Aq f fun a34=>
ld1 .p a34 w29 fun x35=>
Aq x35 fun a36=>
ld1 KI a36 w29 fun x37=>
Aq f fun a38=>
ld1 .p a38 w29 fun x39=>
Aq x39 fun a40=>
ld1 KU (a40.add 3) w29 fun x41=>
Aq f fun a42=>
ld1 .p a42 w29 fun x43=>
Aq x43 fun a44=>
ld1 KU (a44.add 4) w29 fun x45=>
Au [iV 1,iV x33,iV 0,iV x37,uV x41,uV x45,iV 0,iV local_,iV 0,iV 0,iV 0,iV 0,iV 0,iV 0] p1 0 w29 fun w46=>
Hold [] w46∧(
A8 k2' p1 0 w46 fun x47=>
R (x47,()) w46)))) (
Ae prog F.Bz [.pointer f] w17 false r0' fun r48 w49=>
Aj (!r48.1.1) (
Au z0' p1 0 w49 fun w50=>
A8 k2' p1 0 w50 fun x51=>
R (x51,()) w50) (
Aq f fun a52=>
ld1 .p a52 w49 fun x53=>
Ae prog F.Ho [.pointer x53] w49 true Af4 fun r54 w55=>
Jg w55 fun w56=>
Aq f fun a57=>
ld1 .p a57 w56 fun x58=>
Aq x58 fun a59=>
ld1 KI a59 w56 fun x60=>
Aq f fun a61=>
ld1 .p a61 w56 fun x62=>
Aq x62 fun a63=>
ld1 KI (a63.add 5) w56 fun x64=>
Aq f fun a65=>
ld1 KI (a65.add 6) w56 fun x66=>
Aq f fun a67=>
ld1 KI (a67.add 5) w56 fun x68=>
Aq f fun a69=>
ld1 KI (a69.add 4) w56 fun x70=>
Bf z0' T.Dn w56 fun p71 w72=>
Hold [hd 29 (a69.add 4) w56,hd 23 (a67.add 5) w56,hd 19 (a65.add 6) w56,hd 13 (a63.add 5) w56,hd 10 a61 w56,hd 6 a59 w56,hd 3 a57 w56] w72∧(
Au [iV 1,iV x60,iV 0,iV x64,uV r54.1.1,uV r54.2.1.1,iV x66,iV (wrap .i64 ((wrap .i64 (x68+local_))-x70)),iV 0,iV 0,iV 0,iV 0,iV 0,iV 0] p71 0 w72 fun w73=>
Hold [] w73∧(
A8 k2' p71 0 w73 fun x74=>
Ae prog F.Fb [Sv k2' x74] w73 false r0' fun r75 w76=>
Aj (!r75.1.1) (
Au z0' p1 0 w76 fun w77=>
A8 k2' p1 0 w77 fun x78=>
R (x78,()) w77) (
A8 k2' p71 0 w76 fun x79=>
Au (encs k2' x79) p1 0 w76 fun w80=>
A8 k2' p1 0 w80 fun x81=>
R (x81,()) w80)))))))
theorem Jz.ok{f:Option Addr}{local_:Int}{w:World}{R:TR bF→WP}:Jz.wp f local_ w R→Ae prog F.Jz [.pointer f,iV local_] w false bF R:=
  oks Aa func117 (.s .n (.ct [] .n (.s .n (.s (.s .n (.s (.s (.pl (ks [0,1,2,3,4,5,6,7,8,9,10] (.ef 11 [10] (.tk 12 (.tk 13 (.ef 14 [3,7] .z)))))) (.s (.pl (ks [0,1,2,3,4,5,6,7,8,9,10,11,12,13,14,15,16,17,18,19,20,21,22,23,24,25,26,27,28,29] (.ef 30 [3,6,10,13,17,20,24,27] .z))) .n)) .n)) (hs 2 (.s (.pl (ks [0,1,2,3,4,5,6,7,8,9,10,11,12,13,14,15,16,17,18,19,20,21,22,23,24,25,26,27,28,29,30,31] (.ef 32 [] (.ef 33 [3,6,10,13,19,23,29] .z)))) .n))))))
def Jd.wp(s:Option Addr)(w:World)(R:TR []→WP):Prop:=
Aq s fun a1=>
ld1 .b (a1.add 7) w fun x2=>
Aj (!x2) (
R (()) w) (
Aq s fun a3=>
ld1 KI (a3.add 6) w fun x4=>
Aq s fun a5=>
Au [iV (wrap .i64 (x4+1))] (a5.add 6) 0 w fun w6=>
Jg w6 fun w7=>
Aq s fun a8=>
ld1 KI (a8.add 6) w7 fun x9=>
Aq s fun a10=>
ld1 KI a10 w7 fun x11=>
Aj (decide (x9≥x11)) (
Aq s fun a12=>
Au [.bool false] (a12.add 7) 0 w7 fun w13=>
R (()) w13) (
R (()) w7))
theorem Jd.ok{s:Option Addr}{w:World}{R:TR []→WP}:Jd.wp s w R→Ae prog F.Jd [.pointer s] w true [] R:=
  oks Aa func118 (hs 2 (.s (.pl (ks [0,1,2,3,4,5,6,7,8] .z)) .n))
def Nl.wp(p:Option Addr)(w:World)(R:TR r0'→WP):Prop:=
Aq p fun a1=>
ld1 .b (a1.add 3) w fun x2=>
Aj (!x2) (
Aq p fun a3=>
ld1 KI (a3.add 6) w fun x4=>
Aq p fun a5=>
Au [iV (if 0>(wrap .i64 (x4-1)) then 0 else(wrap .i64 (x4-1)))] (a5.add 6) 0 w fun w6=>
R ((false,()),()) w6) (
Aq p fun a7=>
ld1 KI (a7.add 4) w fun x8=>
Aq p fun a9=>
Au [iV (wrap .i64 (x8+1))] (a9.add 4) 0 w fun w10=>
Aq p fun a11=>
ld1 KI (a11.add 4) w10 fun x12=>
Aj (decide (x12<2)) (
R ((false,()),()) w10) (
Aq p fun a13=>
Au [.bool false] (a13.add 3) 0 w10 fun w14=>
Aq p fun a15=>
ld1 KI (a15.add 5) w14 fun x16=>
Aq p fun a17=>
Au [iV (wrap .i64 (x16+1))] (a17.add 5) 0 w14 fun w18=>
Aq p fun a19=>
ld1 KI (a19.add 5) w18 fun x20=>
Aj (x20==3) (
Aq p fun a21=>
Au [iV 0] (a21.add 5) 0 w18 fun w22=>
Aq p fun a23=>
Au [iV 0] (a23.add 6) 0 w22 fun w24=>
R ((true,()),()) w24) (
Aq p fun a25=>
Au [iV 1] (a25.add 6) 0 w18 fun w26=>
Aq p fun a27=>
ld1 KI (a27.add 5) w26 fun x28=>
Aj (x28==2) (
Aq p fun a29=>
Au [iV 3] (a29.add 6) 0 w26 fun w30=>
R ((false,()),()) w30) (
R ((false,()),()) w26))))
theorem Nl.ok{p:Option Addr}{w:World}{R:TR r0'→WP}:Nl.wp p w R→Ae prog F.Nl [.pointer p] w false r0' R:=
  oks Aa func119 .n
def Na.wp(n:Option Addr)(j0 j1 j2 j3 j4 j5 j6 j7 stamp:Int)(w:World)(R:TR bF→WP):Prop:=
Bf [iV j0,iV j1,iV j2,iV j3,iV j4,iV j5,uV j6,iV j7] T.Xl w fun p1 w2=>
Bf z0' T.Dn w2 fun p3 w4=>
Cc (fun(J5:((Addr)×(Int)×Unit)→WP)=>
Jg w4 fun w8=>
Aq n fun a9=>
ld1 .p (a9.add 17) w8 fun x10=>
Aq n fun a11=>
ld1 .p (a11.add 14) w8 fun x12=>
(
Ae prog F.Dv [.pointer x10,.pointer x12,iV stamp] w8 true aT fun r13 w14=>
Hold [hd 7 (a11.add 14) w8,hd 3 (a9.add 17) w8] w14∧(
Bf z3' T.Ql w14 fun p15 w16=>
Hold [hd 7 (a11.add 14) w8,hd 3 (a9.add 17) w8] w16∧(
Au (encs Xf r13.1) p15 0 w16 fun w17=>
Hold [] w17∧(
J5 (p15,r13.2.1.1,()) w17))))∧(
Bf z3' T.Ql w8 fun p18 w19=>
Hold [hd 7 (a11.add 14) w8,hd 3 (a9.add 17) w8] w19∧(
Ae prog F.Dv [.pointer x10,.pointer x12,iV stamp] w19 true aT fun r20 w21=>
Hold [] w21∧(
Au (encs Xf r20.1) p18 0 w21 fun w22=>
Hold [] w22∧(
J5 (p18,r20.2.1.1,()) w22))))) (fun(z6:(Addr)×(Int)×Unit) w7=> ∀_:Nat→Value,
ld1 KI p1 w7 fun x23=>
Aj (x23==1) (
Aj (z6.2.1 !=0) (
Au z0' p3 0 w7 fun w24=>
A8 k2' p3 0 w24 fun x25=>
R (x25,()) w24) (
Aq n fun a26=>
ld1 .p (a26.add 14) w7 fun x27=>
Ae prog F.Bz [.pointer x27] w7 false r0' fun r28 w29=>
Aj r28.1.1 (
Aq n fun a30=>
ld1 KI a30 w29 fun x31=>
Au [iV 2,iV x31,iV 0,iV 0,uV 0,uV 0,iV 0,iV 0,iV 0,iV 0,iV 0,iV 0,iV 0,iV 0] p3 0 w29 fun w32=>
A8 k2' p3 0 w32 fun x33=>
R (x33,()) w32) (
Aq n fun a34=>
ld1 .p (a34.add 15) w29 fun x35=>
Aq x35 fun a36=>
ld1 KI (a36.add 1) w29 fun x37=>
Aj (decide (x37<0)) (
Au z0' p3 0 w29 fun w38=>
A8 k2' p3 0 w38 fun x39=>
R (x39,()) w38) (
Jg w29 fun w40=>
Aq n fun a41=>
ld1 KI a41 w40 fun x42=>
Aq n fun a43=>
ld1 .p (a43.add 15) w40 fun x44=>
Aq x44 fun a45=>
ld1 KI (a45.add 1) w40 fun x46=>
Au [iV 2,iV x42,iV 0,iV 0,uV 0,uV 0,iV 0,iV 0,iV x46,iV 0,iV 0,iV 0,iV 0,iV 0] p3 0 w40 fun w47=>
Hold [] w47∧(
A8 k2' p3 0 w47 fun x48=>
R (x48,()) w47))))) (
Aj (x23==2) (
Aq n fun a49=>
ld1 .p (a49.add 18) w7 fun x50=>
Aq x50 fun a51=>
A8 k2' a51 0 w7 fun x52=>
Bf z0' T.Dn w7 fun p53 w54=>
Au (encs k2' x52) p53 0 w54 fun w55=>
Aq n fun a56=>
ld1 KI a56 w55 fun x57=>
Au [iV x57] (p53.add 1) 0 w55 fun w58=>
ld1 KI p53 w58 fun x59=>
Aj (x59 !=6) (
Au z0' p3 0 w58 fun w60=>
A8 k2' p3 0 w60 fun x61=>
R (x61,()) w60) (
A8 k2' p53 0 w58 fun x62=>
Au (encs k2' x62) p3 0 w58 fun w63=>
A8 k2' p3 0 w63 fun x64=>
R (x64,()) w63)) (
Aj (z6.2.1 !=0) (
Au z0' p3 0 w7 fun w65=>
A8 k2' p3 0 w65 fun x66=>
R (x66,()) w65) (
ld1 KI (z6.1.add 2) w7 fun x67=>
ld1 KI ((p1.add 3).add 2) w7 fun x68=>
Aj (x67 !=x68) (
Au z0' p3 0 w7 fun w69=>
A8 k2' p3 0 w69 fun x70=>
R (x70,()) w69) (
ld1 KU (z6.1.add 3) w7 fun x71=>
ld1 KU ((p1.add 3).add 3) w7 fun x72=>
Aj (x71 !=x72) (
Au z0' p3 0 w7 fun w73=>
A8 k2' p3 0 w73 fun x74=>
R (x74,()) w73) (
Jg w7 fun w75=>
Aq n fun a76=>
ld1 KI a76 w75 fun x77=>
ld1 KI (p1.add 1) w75 fun x78=>
ld1 KI (p1.add 2) w75 fun x79=>
ld1 KI (p1.add 3) w75 fun x80=>
ld1 KI z6.1 w75 fun x81=>
ld1 KI (z6.1.add 2) w75 fun x82=>
ld1 KU (z6.1.add 3) w75 fun x83=>
ld1 KI (z6.1.add 1) w75 fun x84=>
ld1 KI ((p1.add 3).add 1) w75 fun x85=>
Au [iV 5,iV x77,iV x78,iV x82,uV x83,uV 0,iV (if x85>x84 then x85 else x84),iV 0,iV 0,iV x79,iV x80,iV x81,iV 0,iV 0] p3 0 w75 fun w86=>
Hold [] w86∧(
A8 k2' p3 0 w86 fun x87=>
R (x87,()) w86)))))))
theorem Na.ok{n:Option Addr}{j0 j1 j2 j3 j4 j5 j6 j7 stamp:Int}{w:World}{R:TR bF→WP}:Na.wp n j0 j1 j2 j3 j4 j5 j6 j7 stamp w R→Ae prog F.Na [.pointer n,.agg #[iV j0,iV j1,iV j2,iV j3,iV j4,iV j5,uV j6,iV j7],iV stamp] w false bF R:=
  oks Aa func120 (.s .n (.ct [(7,.a),(8,(.i .i64))] (.pl (ks [0,1,2,3,4,5,6,7,8] (.two 9 13 (ks [10,11,12] (.ef 13 [] (.ef 14 [3,7] (.tk 15 .z)))) (.ef 9 [3,7] (ks [10,11,12] (.ef 14 [] (.tk 15 .z))))))) (.s (hs 2 (.s (hs 3 (.s (.pl (ks [0,1,2,3,4,5,6,7,8,9,10,11,12] (.ef 13 [4,8,11] .z))) .n)) .n)) (.s .n (.s (.pl (ks [0,1,2,3,4,5,6,7,8,9,10,11,12,13,14,15,16,17,18,19,20,21,22,23,24] (.ef 25 [4,6,8,11,13,15,17,19,22] .z))) .n)))))
def Bz.wp(f:Option Addr)(w:World)(R:TR r0'→WP):Prop:=
Jg w fun w1=>
Ae prog F.Eu [.pointer f] w1 false r0' fun r2 w3=>
Hold [] w3∧(
Aj r2.1.1 (
R ((true,()),()) w3) (
Aq f fun a4=>
ld1 .sl (a4.add 3) w3 fun x5=>
Aq f fun a6=>
ld1 KI (a6.add 1) w3 fun x7=>
R ((decide ((x5.2.1:Int)≥x7),()),()) w3))
theorem Bz.ok{f:Option Addr}{w:World}{R:TR r0'→WP}:Bz.wp f w R→Ae prog F.Bz [.pointer f] w false r0' R:=
  oks Aa func121 (.s .n (.s (.pl (.tk 0 (.ef 1 [] (ks [2,3,4,5,6,7,8,9,10,11,12,13,14] .z)))) .n))
def Ov.wp(p:Option Addr)(to local_:Int)(w:World)(R:TR bF→WP):Prop:=
Bf z0' T.Dn w fun p1 w2=>
Aq p fun a3=>
ld1 KI a3 w2 fun x4=>
Bf z0' T.Dn w2 fun p5 w6=>
Au [iV 4,iV x4,iV to,iV 0,uV 0,uV 0,iV 0,iV 0,iV 0,iV local_,iV 0,iV 0,iV 0,iV 0] p5 0 w6 fun w7=>
Aq p fun a8=>
ld1 .b (a8.add 3) w7 fun x9=>
Aj x9 (
Au z0' p1 0 w7 fun w10=>
A8 k2' p1 0 w10 fun x11=>
R (x11,()) w10) (
Aq p fun a12=>
ld1 KI (a12.add 6) w7 fun x13=>
Aj (decide (x13>0)) (
Au z0' p1 0 w7 fun w14=>
A8 k2' p1 0 w14 fun x15=>
R (x15,()) w14) (
Aq p fun a16=>
ld1 KI a16 w7 fun x17=>
Aj (to==x17) (
Au z0' p1 0 w7 fun w18=>
A8 k2' p1 0 w18 fun x19=>
R (x19,()) w18) (
A8 k2' p5 0 w7 fun x20=>
Ae prog F.Fb [Sv k2' x20] w7 false r0' fun r21 w22=>
Aj (!r21.1.1) (
Au z0' p1 0 w22 fun w23=>
A8 k2' p1 0 w23 fun x24=>
R (x24,()) w23) (
Aq p fun a25=>
Au [.bool true] (a25.add 3) 0 w22 fun w26=>
Aq p fun a27=>
Au [iV 0] (a27.add 4) 0 w26 fun w28=>
Aq p fun a29=>
Au [iV to] (a29.add 1) 0 w28 fun w30=>
Aq p fun a31=>
Au [iV local_] (a31.add 2) 0 w30 fun w32=>
A8 k2' p5 0 w32 fun x33=>
Au (encs k2' x33) p1 0 w32 fun w34=>
A8 k2' p1 0 w34 fun x35=>
R (x35,()) w34))))
theorem Ov.ok{p:Option Addr}{to local_:Int}{w:World}{R:TR bF→WP}:Ov.wp p to local_ w R→Ae prog F.Ov [.pointer p,iV to,iV local_] w false bF R:=
  oks Aa func122 .n
def Mc.wp(n:Option Addr)(p0 p1 p2 p3 p4 p5 p6 p7 p8 p9 p10 p11 p12 p13 stamp:Int)(w:World)(R:TR r3'→WP):Prop:=
Bf [iV p0,iV p1,iV p2,iV p3,uV p4,uV p5,iV p6,iV p7,iV p8,iV p9,iV p10,iV p11,iV p12,iV p13] T.Dn w fun p14 w15=>
Jg w15 fun w16=>
ld1 KI (p14.add 1) w16 fun x17=>
Aq n fun a18=>
ld1 KI a18 w16 fun x19=>
Aj (x17==x19) (
R ((0,()),()) w16) (
Cc (fun(J20:((Addr)×(Int)×Unit)→WP)=>
Jg w16 fun w23=>
Aq n fun a24=>
ld1 .p (a24.add 17) w23 fun x25=>
Aq n fun a26=>
ld1 .p (a26.add 14) w23 fun x27=>
(
Ae prog F.Dv [.pointer x25,.pointer x27,iV stamp] w23 true aT fun r28 w29=>
Hold [hd 7 (a26.add 14) w23,hd 3 (a24.add 17) w23] w29∧(
Bf z3' T.Ql w29 fun p30 w31=>
Hold [hd 7 (a26.add 14) w23,hd 3 (a24.add 17) w23] w31∧(
Au (encs Xf r28.1) p30 0 w31 fun w32=>
Hold [] w32∧(
J20 (p30,r28.2.1.1,()) w32))))∧(
Bf z3' T.Ql w23 fun p33 w34=>
Hold [hd 7 (a26.add 14) w23,hd 3 (a24.add 17) w23] w34∧(
Ae prog F.Dv [.pointer x25,.pointer x27,iV stamp] w34 true aT fun r35 w36=>
Hold [] w36∧(
Au (encs Xf r35.1) p33 0 w36 fun w37=>
Hold [] w37∧(
J20 (p33,r35.2.1.1,()) w37))))) (fun(z21:(Addr)×(Int)×Unit) w22=> ∀_:Nat→Value,
ld1 KI p14 w22 fun x38=>
Aj (x38==1) (
Jg w22 fun w39=>
Aq n fun a40=>
ld1 .p (a40.add 14) w39 fun x41=>
A8 k2' p14 0 w39 fun x42=>
Ae prog F.Ku [.pointer x41,Sv k2' x42,iV stamp] w39 false r3' fun r43 w44=>
Hold [] w44∧(
R ((0,()),()) w44)) (
Aj (x38==2) (
Aq n fun a45=>
ld1 .p (a45.add 14) w22 fun x46=>
Ae prog F.Bz [.pointer x46] w22 false r0' fun r47 w48=>
Aj (!r47.1.1) (
Jg w48 fun w49=>
Aq n fun a50=>
ld1 .p (a50.add 15) w49 fun x51=>
ld1 KI (p14.add 1) w49 fun x52=>
ld1 KI (p14.add 8) w49 fun x53=>
Ae prog F.Jw [.pointer x51,iV x52,iV x53] w49 false r0' fun r54 w55=>
Hold [] w55∧(
R ((0,()),()) w55)) (
R ((0,()),()) w48)) (
Aj (x38==3) (
Aj (z21.2.1==0) (
Ae prog F.Gy [.pointer n,.agg #[iV 1,iV 0,iV 0,iV 0,iV 0,iV 0,uV 0,iV 0]] w22 false r3' fun r56 w57=>
R ((r56.1.1,()),()) w57) (
R ((0,()),()) w22)) (
Aj (x38==4) (
Cc (fun(J58:((Bool)×Unit)→WP)=>
Jg w22 fun w61=>
Aj (z21.2.1==0) (
ld1 KI (p14.add 2) w61 fun x62=>
Aq n fun a63=>
ld1 KI a63 w61 fun x64=>
J58 ((x62==x64),()) w61) (
J58 (false,()) w61)) (fun(z59:(Bool)×Unit) w60=> ∀_:Nat→Value,
Aj z59.1 (
ld1 KI (p14.add 1) w60 fun x65=>
ld1 KI (p14.add 9) w60 fun x66=>
A8 Xf z21.1 0 w60 fun x67=>
Ae prog F.Gy [.pointer n,.agg #[iV 3,iV x65,iV x66,iV x67.1,iV x67.2.1,iV x67.2.2.1,uV x67.2.2.2.1,iV x67.2.2.2.2.1]] w60 false r3' fun r68 w69=>
R ((r68.1.1,()),()) w69) (
R ((0,()),()) w60))) (
Aj (x38==5) (
Cc (fun(J70:((Addr)×(Bool)×Unit)→WP)=>
Jg w22 fun w73=>
Aq n fun a74=>
ld1 .p (a74.add 16) w73 fun x75=>
A8 k2' p14 0 w73 fun x76=>
(
Ae prog F.I4 [.pointer x75,Sv k2' x76,iV stamp] w73 true fC fun r77 w78=>
Hold [hd 4 (p14.add 0) w73,hd 4 (p14.add 1) w73,hd 4 (p14.add 2) w73,hd 4 (p14.add 3) w73,hd 4 (p14.add 4) w73,hd 4 (p14.add 5) w73,hd 4 (p14.add 6) w73,hd 4 (p14.add 7) w73,hd 4 (p14.add 8) w73,hd 4 (p14.add 9) w73,hd 4 (p14.add 10) w73,hd 4 (p14.add 11) w73,hd 4 (p14.add 12) w73,hd 4 (p14.add 13) w73,hd 3 (a74.add 16) w73] w78∧(
Bf Vy T.D7 w78 fun p79 w80=>
Hold [hd 4 (p14.add 0) w73,hd 4 (p14.add 1) w73,hd 4 (p14.add 2) w73,hd 4 (p14.add 3) w73,hd 4 (p14.add 4) w73,hd 4 (p14.add 5) w73,hd 4 (p14.add 6) w73,hd 4 (p14.add 7) w73,hd 4 (p14.add 8) w73,hd 4 (p14.add 9) w73,hd 4 (p14.add 10) w73,hd 4 (p14.add 11) w73,hd 4 (p14.add 12) w73,hd 4 (p14.add 13) w73,hd 3 (a74.add 16) w73] w80∧(
Au (encs Ig r77.1) p79 0 w80 fun w81=>
Hold [] w81∧(
J70 (p79,r77.2.1.1,()) w81))))∧(
Bf Vy T.D7 w73 fun p82 w83=>
Hold [hd 4 (p14.add 0) w73,hd 4 (p14.add 1) w73,hd 4 (p14.add 2) w73,hd 4 (p14.add 3) w73,hd 4 (p14.add 4) w73,hd 4 (p14.add 5) w73,hd 4 (p14.add 6) w73,hd 4 (p14.add 7) w73,hd 4 (p14.add 8) w73,hd 4 (p14.add 9) w73,hd 4 (p14.add 10) w73,hd 4 (p14.add 11) w73,hd 4 (p14.add 12) w73,hd 4 (p14.add 13) w73,hd 3 (a74.add 16) w73] w83∧(
Ae prog F.I4 [.pointer x75,Sv k2' x76,iV stamp] w83 true fC fun r84 w85=>
Hold [] w85∧(
Au (encs Ig r84.1) p82 0 w85 fun w86=>
Hold [] w86∧(
J70 (p82,r84.2.1.1,()) w86))))) (fun(z71:(Addr)×(Bool)×Unit) w72=> ∀_:Nat→Value,
Aj z71.2.1 (
Jg w72 fun w87=>
Aq n fun a88=>
ld1 .p (a88.add 17) w87 fun x89=>
A8 Ig z71.1 0 w87 fun x90=>
ld1 KI (p14.add 3) w87 fun x91=>
ld1 KU (p14.add 4) w87 fun x92=>
Ae prog F.Ko [.pointer x89,Sv Ig x90,iV x91,uV x92] w87 false r3' fun r93 w94=>
Hold [] w94∧(
R ((0,()),()) w94)) (
R ((0,()),()) w72))) (
Aj (x38==6) (
Jg w22 fun w95=>
Aq n fun a96=>
ld1 .p (a96.add 18) w95 fun x97=>
A8 k2' p14 0 w95 fun x98=>
Ae prog F.Np [.pointer x97,Sv k2' x98] w95 false r0' fun r99 w100=>
Hold [] w100∧(
Aj r99.1.1 (
Ae prog F.Gx [.pointer n] w100 false r3' fun r101 w102=>
R ((r101.1.1,()),()) w102) (
R ((0,()),()) w100))) (
R ((0,()),()) w22))))))))
theorem Mc.ok{n:Option Addr}{p0 p1 p2 p3 p4 p5 p6 p7 p8 p9 p10 p11 p12 p13 stamp:Int}{w:World}{R:TR r3'→WP}:Mc.wp n p0 p1 p2 p3 p4 p5 p6 p7 p8 p9 p10 p11 p12 p13 stamp w R→Ae prog F.Mc [.pointer n,.agg #[iV p0,iV p1,iV p2,iV p3,uV p4,uV p5,iV p6,iV p7,iV p8,iV p9,iV p10,iV p11,iV p12,iV p13],iV stamp] w false r3' R:=
  oks Aa func123 (.s .n (.s (.s (.pl (ks [0,1,2,3,4,5,6,7] .z)) .n) (.ct [(7,.a),(8,(.i .i64))] (.pl (ks [0,1,2,3,4,5,6,7,8] (.two 9 13 (ks [10,11,12] (.ef 13 [] (.ef 14 [3,7] (.tk 15 .z)))) (.ef 9 [3,7] (ks [10,11,12] (.ef 14 [] (.tk 15 .z))))))) (.s (hs 2 (.s (.pl (ks [0,1,2,3,4,5] (.ef 6 [3,4] .z))) (.s .n (.s (.s .n (.s (.pl (ks [0,1,2,3,4,5,6,7] (.ef 8 [3,5,7] .z))) .n)) (hs 3 (.s (.ct [(80,.b)] (.pl (ks [0,1,2,3,4,5,6,7,8,9,10,11] .z)) .n) (.s .n (.s (.ct [(9,.a),(10,.b)] (.pl (ks [0,1,2,3,4,5] (.two 6 10 (ks [7,8,9] (.ef 10 [] (.ef 11 [3,4] (.tk 12 .z)))) (.ef 6 [3,4] (ks [7,8,9] (.ef 11 [] (.tk 12 .z))))))) (.s .n (.s (.pl (ks [0,1,2,3,4,5,6,7,8] (.ef 9 [3,4,6,8] .z))) .n))) (.s .n (.s (.s (.pl (ks [0,1,2,3,4] (.ef 5 [3,4] .z))) .n) .n)))))))))) .n))))
def Iz.wp(n:Option Addr)(w:World)(R:TR aT→WP):Prop:=
Bf z3' T.Ql w fun p1 w2=>
Aq n fun a3=>
ld1 .b (a3.add 11) w2 fun x4=>
Aj (!x4) (
Au z3' p1 0 w2 fun w5=>
A8 Xf p1 0 w5 fun x6=>
R (x6,(10,()),()) w5) (
Jg w2 fun w7=>
Aq n fun a8=>
ld1 .p (a8.add 17) w7 fun x9=>
Aq n fun a10=>
ld1 .p (a10.add 14) w7 fun x11=>
Aq n fun a12=>
ld1 .p (a12.add 13) w7 fun x13=>
Aq x13 fun a14=>
ld1 KI (a14.add 1) w7 fun x15=>
Ae prog F.Dv [.pointer x9,.pointer x11,iV x15] w7 true aT fun r16 w17=>
Hold [hd 11 (a12.add 13) w7] w17∧(
Au (encs Xf r16.1) p1 0 w17 fun w18=>
Hold [] w18∧(
A8 Xf p1 0 w18 fun x19=>
R (x19,(r16.2.1.1,()),()) w18)))
theorem Iz.ok{n:Option Addr}{w:World}{R:TR aT→WP}:Iz.wp n w R→Ae prog F.Iz [.pointer n] w true aT R:=
  oks Aa func124 (hs 2 (.s (.pl (ks [0,1,2,3,4,5,6,7,8,9,10,11,12,13,14] (.ef 15 [3,7,14] (.tk 16 (.tk 17 (.ef 18 [11] (.tk 19 .z))))))) .n))
def Qe.wp(l:Option Addr)(label:ByteArray)(w:World)(R:TR dH→WP):Prop:=
Ae prog F.U7 [.string label] w false r0' fun r1 w2=>
Aj (!r1.1.1) (
R ((0,()),(1,()),()) w2) (
Aq l fun a3=>
ld1 .sl a3 w2 fun x4=>
Aj (decide ((x4.2.1:Int)≥16)) (
R ((0,()),(6,()),()) w2) (
Aq l fun a5=>
ld1 KI (a5.add 2) w2 fun x6=>
Aq l fun a7=>
Au [iV (wrap .i64 (x6+1))] (a7.add 2) 0 w2 fun w8=>
Cc (fun(J9:Unit→WP)=>
Jg w8 fun w12=>
Aq l fun a13=>
ld1 .sl a13 w12 fun x14=>
Aq l fun a15=>
ld1 KI (a15.add 2) w12 fun x16=>
(
Bf [] T.int w12 fun p17 w18=>
Hold [hd 10 (a15.add 2) w12,hd 5 a13 w12] w18∧(
(
L9 ((Builtin.append_ #[T.V5,T.V5] T.V5 #[.slice (some p17) 0 0,.slice x14.1 x14.2.1 x14.2.2]).run prog w18) fun y19 w20=>
Hold [hd 10 (a15.add 2) w12,hd 5 a13 w12] w20∧(
Bf [iV x16] T.int w20 fun p21 w22=>
Hold [hd 10 (a15.add 2) w12,hd 5 a13 w12] w22∧(
L9 ((Builtin.append_ #[T.V5,T.V5] T.V5 #[.slice y19.1 y19.2.1 y19.2.2,.slice (some p21) 1 1]).run prog w22) fun y23 w24=>
Hold [hd 10 (a15.add 2) w12,hd 5 a13 w12] w24∧(
Aq l fun a25=>
Au [.slice y23.1 y23.2.1 y23.2.2] a25 0 w24 fun w26=>
Hold [] w26∧(
J9 (()) w26)))))∧(
Bf [iV x16] T.int w18 fun p27 w28=>
Hold [hd 10 (a15.add 2) w12,hd 5 a13 w12] w28∧(
L9 ((Builtin.append_ #[T.V5,T.V5] T.V5 #[.slice (some p17) 0 0,.slice x14.1 x14.2.1 x14.2.2]).run prog w28) fun y29 w30=>
Hold [hd 10 (a15.add 2) w12,hd 5 a13 w12] w30∧(
L9 ((Builtin.append_ #[T.V5,T.V5] T.V5 #[.slice y29.1 y29.2.1 y29.2.2,.slice (some p27) 1 1]).run prog w30) fun y31 w32=>
Hold [hd 10 (a15.add 2) w12,hd 5 a13 w12] w32∧(
Aq l fun a33=>
Au [.slice y31.1 y31.2.1 y31.2.2] a33 0 w32 fun w34=>
Hold [] w34∧(
J9 (()) w34)))))))∧(
Bf [iV x16] T.int w12 fun p35 w36=>
Hold [hd 10 (a15.add 2) w12,hd 5 a13 w12] w36∧(
Bf [] T.int w36 fun p37 w38=>
Hold [hd 10 (a15.add 2) w12,hd 5 a13 w12] w38∧(
L9 ((Builtin.append_ #[T.V5,T.V5] T.V5 #[.slice (some p37) 0 0,.slice x14.1 x14.2.1 x14.2.2]).run prog w38) fun y39 w40=>
Hold [hd 10 (a15.add 2) w12,hd 5 a13 w12] w40∧(
L9 ((Builtin.append_ #[T.V5,T.V5] T.V5 #[.slice y39.1 y39.2.1 y39.2.2,.slice (some p35) 1 1]).run prog w40) fun y41 w42=>
Hold [hd 10 (a15.add 2) w12,hd 5 a13 w12] w42∧(
Aq l fun a43=>
Au [.slice y41.1 y41.2.1 y41.2.2] a43 0 w42 fun w44=>
Hold [] w44∧(
J9 (()) w44))))))) (fun(z10:Unit) w11=> ∀_:Nat→Value,
Bf [] T.string w11 fun p45 w46=>
Aq l fun a47=>
ld1 .sl (a47.add 1) w46 fun x48=>
L9 ((Builtin.append_ #[T.Z9,T.Z9] T.Z9 #[.slice (some p45) 0 0,.slice x48.1 x48.2.1 x48.2.2]).run prog w46) fun y49 w50=>
Bf [.string label] T.string w50 fun p51 w52=>
L9 ((Builtin.append_ #[T.Z9,T.Z9] T.Z9 #[.slice y49.1 y49.2.1 y49.2.2,.slice (some p51) 1 1]).run prog w52) fun y53 w54=>
Aq l fun a55=>
Au [.slice y53.1 y53.2.1 y53.2.2] (a55.add 1) 0 w54 fun w56=>
Aq l fun a57=>
ld1 KI (a57.add 2) w56 fun x58=>
R ((x58,()),(0,()),()) w56)))
theorem Qe.ok{l:Option Addr}{label:ByteArray}{w:World}{R:TR dH→WP}:Qe.wp l label w R→Ae prog F.Qe [.pointer l,.string label] w true dH R:=
  oks Aa func125 (hs 4 (.ct [] (.pl (ks [0,2,3,4,5,7,8,9,10] (.two 1 11 (.two 6 11 (.ef 11 [] (.ef 12 [] (.tk 13 (.tk 14 (.ef 15 [5,10] .z))))) (.ef 6 [] (.ef 12 [] (.tk 13 (.tk 14 (.ef 15 [5,10] .z)))))) (.ef 1 [] (.ef 6 [] (.ef 12 [] (.tk 13 (.tk 14 (.ef 15 [5,10] .z))))))))) .n))
def Oy.wp(l:Option Addr)(w:World)(R:TR Ajr→WP):Prop:=
Aq l fun a1=>
ld1 .sl a1 w fun x2=>
Aj ((x2.2.1:Int)==0) (
R ((0,()),(⟨#[]⟩,()),(false,()),()) w) (
Jg w fun w3=>
Aq l fun a4=>
ld1 .sl a4 w3 fun x5=>
Ny x5.1 x5.2.1 0 fun a6=>
ld1 KI (a6.add ((0:Int).toNat*1)) w3 fun x7=>
Aq l fun a8=>
ld1 .sl (a8.add 1) w3 fun x9=>
Ny x9.1 x9.2.1 0 fun a10=>
ld1 .s (a10.add ((0:Int).toNat*1)) w3 fun x11=>
Aq l fun a12=>
ld1 .sl a12 w3 fun x13=>
sQ 1 (x13.2.1:Int) x13.2.2 (
Aq l fun a14=>
Au [.slice (dG x13.1 x13.2.2 (Int.toNat 1) 1) ((Int.toNat (x13.2.1:Int))-(Int.toNat 1)) (x13.2.2-Int.toNat 1)] a14 0 w3 fun w15=>
Aq l fun a16=>
ld1 .sl (a16.add 1) w15 fun x17=>
sQ 1 (x17.2.1:Int) x17.2.2 (
Aq l fun a18=>
Au [.slice (dG x17.1 x17.2.2 (Int.toNat 1) 1) ((Int.toNat (x17.2.1:Int))-(Int.toNat 1)) (x17.2.2-Int.toNat 1)] (a18.add 1) 0 w15 fun w19=>
R ((x7,()),(x11,()),(true,()),()) w19)))
theorem Oy.ok{l:Option Addr}{w:World}{R:TR Ajr→WP}:Oy.wp l w R→Ae prog F.Oy [.pointer l] w true Ajr R:=
  oks Aa func126 (hs 2 (.s (.pl (ks [0,1,2,3,4,5,6,7,8,9,10,11,12,13] .z)) .n))
def Ip.wp(b:Option Addr)(me root boot global tai:Int)(w:World)(R:TR bF→WP):Prop:=
Bf z0' T.Dn w fun p1 w2=>
Aq b fun a3=>
ld1 KU (a3.add 5) w2 fun x4=>
Ae prog F.Tj [uV x4] w2 false Vw fun r5 w6=>
Bf z0' T.Dn w6 fun p7 w8=>
Au [iV 6,iV me,iV 0,iV root,uV boot,uV r5.1.1,iV 0,iV 0,iV 0,iV 0,iV 0,iV 0,iV global,iV tai] p7 0 w8 fun w9=>
A8 k2' p7 0 w9 fun x10=>
Ae prog F.Fb [Sv k2' x10] w9 false r0' fun r11 w12=>
Aj (!r11.1.1) (
Au z0' p1 0 w12 fun w13=>
A8 k2' p1 0 w13 fun x14=>
R (x14,()) w13) (
A8 k2' p7 0 w12 fun x15=>
Aq b fun a16=>
Au (encs k2' x15) a16 0 w12 fun w17=>
A8 k2' p7 0 w17 fun x18=>
Au (encs k2' x18) p1 0 w17 fun w19=>
A8 k2' p1 0 w19 fun x20=>
R (x20,()) w19)
theorem Ip.ok{b:Option Addr}{me root boot global tai:Int}{w:World}{R:TR bF→WP}:Ip.wp b me root boot global tai w R→Ae prog F.Ip [.pointer b,iV me,iV root,uV boot,iV global,iV tai] w false bF R:=
  oks Aa func127 .n
def Gx.wp(n:Option Addr)(w:World)(R:TR r3'→WP):Prop:=
Aq n fun a1=>
ld1 .sl (a1.add 21) w fun x2=>
Ci (fun(self3:((Int)×Unit)→WP) (z4:(Int)×Unit) w5=> ∀_:Nat→Value,
Aj (decide (z4.1<(x2.2.1:Int))) (
Ny x2.1 x2.2.1 z4.1 fun a6=>
A8 mP (a6.add (z4.1.toNat*8)) 0 w5 fun x7=>
Bf Anm T.Xl w5 fun p8 w9=>
Au (encs mP x7) p8 0 w9 fun w10=>
ld1 KI p8 w10 fun x11=>
Aj (x11==2) (
R ((0,()),()) w10) (
self3 (wrap .i64 (z4.1+1),()) w10)) (
Ae prog F.Gy [.pointer n,.agg #[iV 2,iV 0,iV 0,iV 0,iV 0,iV 0,uV 0,iV 0]] w5 false r3' fun r12 w13=>
R ((r12.1.1,()),()) w13)) (0,()) w
theorem Gx.ok{n:Option Addr}{w:World}{R:TR r3'→WP}:Gx.wp n w R→Ae prog F.Gx [.pointer n] w false r3' R:=
  oks Aa func128 (.s .n (.s (.s .n (.lp [(10,(.i .i64))] .n)) .n))
def U9.wp(sum:Int)(b:Option Addr×Nat×Nat)(w:World)(R:TR Vw→WP):Prop:=
Ci (fun(self1:((Int)×(Int)×Unit)→WP) (z2:(Int)×(Int)×Unit) w3=> ∀_:Nat→Value,
Aj (decide (z2.2.1<(b.2.1:Int))) (
Ny b.1 b.2.1 z2.2.1 fun a4=>
ld1 (.i .u8) (a4.add (z2.2.1.toNat*1)) w3 fun x5=>
Ci (fun(self6:((Int)×(Int)×Unit)→WP) (z7:(Int)×(Int)×Unit) w8=> ∀_:Nat→Value,
Aj (decide (z7.2.1≥0)) (
fJ (wrap .u64 z7.2.1) (
dF 32768 (
dF 65536 (
Aj ((wrap .i64 (Int.tdiv z7.1 32768)) !=(Lm .and .i64 (Qv .i64 (wrap .i64 x5) (wrap .u64 z7.2.1)) 1)) (
self6 (Lm .xor .i64 (Int.tmod (wrap .i64 (z7.1*2)) 65536) 4129,wrap .i64 (z7.2.1-1),()) w8) (
self6 (Int.tmod (wrap .i64 (z7.1*2)) 65536,wrap .i64 (z7.2.1-1),()) w8))))) (
self1 (z7.1,wrap .i64 (z2.2.1+1),()) w8)) (z2.1,7,()) w3) (
R ((wrap .u16 z2.1,()),()) w3)) (wrap .i64 sum,0,()) w
theorem U9.ok{sum:Int}{b:Option Addr×Nat×Nat}{w:World}{R:TR Vw→WP}:U9.wp sum b w R→Ae prog F.U9 [uV sum,.slice b.1 b.2.1 b.2.2] w false Vw R:=
  oks Aa func129 (hs 2 (.s (.s .n (.lp [(5,(.i .i64)),(15,(.i .i64))] (hs 2 (.s (hs 2 (.lp [(5,(.i .i64)),(8,(.i .i64))] .n)) .n)))) .n))
def Xu.wp(b:Option Addr×Nat×Nat)(w:World)(R:TR dB→WP):Prop:=
L9 ((Builtin.append_ #[T.Fh,T.Fh] T.Fh #[.slice none 0 0,.slice b.1 b.2.1 b.2.2]).run prog w) fun y1 w2=>
Bf [.slice y1.1 y1.2.1 y1.2.2,iV 0] T.Adv w2 fun p3 w4=>
R ((some p3,()),()) w4
theorem Xu.ok{b:Option Addr×Nat×Nat}{w:World}{R:TR dB→WP}:Xu.wp b w R→Ae prog F.Xu [.slice b.1 b.2.1 b.2.2] w false dB R:=
  oks Aa func130 .n
def Nj.wp(e:Option Addr)(size:Int)(w:World)(R:TR Ag8→WP):Prop:=
Aj (decide (size<0)) (
R ((0,()),(false,()),()) w) (
Aj (decide (size>8)) (
R ((0,()),(false,()),()) w) (
Ae prog F.Oj [.pointer e] w false r3' fun r1 w2=>
Aj (decide (size>r1.1.1)) (
R ((0,()),(false,()),()) w2) (
Ci (fun(self3:((Int)×(Int)×Unit)→WP) (z4:(Int)×(Int)×Unit) w5=> ∀_:Nat→Value,
Aj (decide (z4.2.1<size)) (
Jg w5 fun w6=>
fJ 8 (
Aq e fun a7=>
ld1 .sl a7 w6 fun x8=>
Aq e fun a9=>
ld1 KI (a9.add 1) w6 fun x10=>
Ny x8.1 x8.2.1 x10 fun a11=>
ld1 (.i .u8) (a11.add (x10.toNat*1)) w6 fun x12=>
Aq e fun a13=>
ld1 KI (a13.add 1) w6 fun x14=>
Aq e fun a15=>
Au [iV (wrap .i64 (x14+1))] (a15.add 1) 0 w6 fun w16=>
self3 (Lm .or .u64 (Sz .u64 z4.1 8) (wrap .u64 x12),wrap .i64 (z4.2.1+1),()) w16)) (
R ((z4.1,()),(true,()),()) w5)) (0,0,()) w2)))
theorem Nj.ok{e:Option Addr}{size:Int}{w:World}{R:TR Ag8→WP}:Nj.wp e size w R→Ae prog F.Nj [.pointer e,iV size] w true Ag8 R:=
  oks Aa func131 (hs 3 (.s (.s .n (.lp [(6,(.i .u64)),(20,(.i .i64))] (hs 2 (.s (.s (.pl (ks [0,1,2,3,4,5,6,7,8,9,10,11,12,13,14] .z)) .n) .n)))) .n))
def Sr.wp(k:Int)(w:World)(R:TR Xm→WP):Prop:=
Aj (k==1) (
R ((.iface T.Dy (.agg #[iV 0,iV 0,uV 0,uV 0,iV 0,iV 0]),()),()) w) (
Aj (k==2) (
R ((.iface T.Gj (.agg #[iV 0,iV 0]),()),()) w) (
Aj (k==3) (
R ((.iface T.Gp (.agg #[iV 0]),()),()) w) (
Aj (k==4) (
R ((.iface T.Ef (.agg #[iV 0,iV 0,iV 0]),()),()) w) (
Aj (k==5) (
R ((.iface T.Gl (.agg #[iV 0,iV 0,iV 0,iV 0,iV 0,iV 0,uV 0,iV 0]),()),()) w) (
Aj (k==6) (
R ((.iface T.Bh (.agg #[iV 0,uV 0,iV 0,uV 0,iV 0,iV 0]),()),()) w) (
R ((.nilIface,()),()) w))))))
theorem Sr.ok{k:Int}{w:World}{R:TR Xm→WP}:Sr.wp k w R→Ae prog F.Sr [.int .u64 k] w false Xm R:=
  oks Aa func132 .n
def Qr.wp(f0 f1 f2 f3 f4 f5:Int)(w:World)(R:TR r3'→WP):Prop:=
Ae prog F.Dt [.agg #[iV f0,uV f1,iV f2,uV f3,iV f4,iV f5]] w false H7 fun r1 w2=>
Ci (fun(self3:((Int)×(Int)×Unit)→WP) (z4:(Int)×(Int)×Unit) w5=> ∀_:Nat→Value,
Aj (decide (z4.2.1<(r1.1.1.2.1:Int))) (
Ny r1.1.1.1 r1.1.1.2.1 z4.2.1 fun a6=>
A8 Ig (a6.add (z4.2.1.toNat*3)) 0 w5 fun x7=>
Bf Vy T.Dl w5 fun p8 w9=>
Au (encs Ig x7) p8 0 w9 fun w10=>
ld1 KI p8 w10 fun x11=>
self3 (wrap .i64 (z4.1+x11),wrap .i64 (z4.2.1+1),()) w10) (
R ((z4.1,()),()) w5)) (0,0,()) w2
theorem Qr.ok{f0 f1 f2 f3 f4 f5:Int}{w:World}{R:TR r3'→WP}:Qr.wp f0 f1 f2 f3 f4 f5 w R→Ae prog F.Qo [.iface T.Bh (.agg #[iV f0,uV f1,iV f2,uV f3,iV f4,iV f5])] w false r3' R:=
  oks Aa func133 (hs 2 (.s (.s .n (.lp [(3,(.i .i64)),(9,(.i .i64))] .n)) .n))
def Ry.wp(f0 f1 f2 f3 f4 f5:Int)(w:World)(R:TR r3'→WP):Prop:=
Ae prog F.Dh [.agg #[iV f0,iV f1,uV f2,uV f3,iV f4,iV f5]] w false H7 fun r1 w2=>
Ci (fun(self3:((Int)×(Int)×Unit)→WP) (z4:(Int)×(Int)×Unit) w5=> ∀_:Nat→Value,
Aj (decide (z4.2.1<(r1.1.1.2.1:Int))) (
Ny r1.1.1.1 r1.1.1.2.1 z4.2.1 fun a6=>
A8 Ig (a6.add (z4.2.1.toNat*3)) 0 w5 fun x7=>
Bf Vy T.Dl w5 fun p8 w9=>
Au (encs Ig x7) p8 0 w9 fun w10=>
ld1 KI p8 w10 fun x11=>
self3 (wrap .i64 (z4.1+x11),wrap .i64 (z4.2.1+1),()) w10) (
R ((z4.1,()),()) w5)) (0,0,()) w2
theorem Ry.ok{f0 f1 f2 f3 f4 f5:Int}{w:World}{R:TR r3'→WP}:Ry.wp f0 f1 f2 f3 f4 f5 w R→Ae prog F.Qo [.iface T.Dy (.agg #[iV f0,iV f1,uV f2,uV f3,iV f4,iV f5])] w false r3' R:=
  oks Aa func133 (hs 2 (.s (.s .n (.lp [(3,(.i .i64)),(9,(.i .i64))] .n)) .n))
def Sj.wp(f0:Int)(w:World)(R:TR r3'→WP):Prop:=
Ae prog F.D8 [.agg #[iV f0]] w false H7 fun r1 w2=>
Ci (fun(self3:((Int)×(Int)×Unit)→WP) (z4:(Int)×(Int)×Unit) w5=> ∀_:Nat→Value,
Aj (decide (z4.2.1<(r1.1.1.2.1:Int))) (
Ny r1.1.1.1 r1.1.1.2.1 z4.2.1 fun a6=>
A8 Ig (a6.add (z4.2.1.toNat*3)) 0 w5 fun x7=>
Bf Vy T.Dl w5 fun p8 w9=>
Au (encs Ig x7) p8 0 w9 fun w10=>
ld1 KI p8 w10 fun x11=>
self3 (wrap .i64 (z4.1+x11),wrap .i64 (z4.2.1+1),()) w10) (
R ((z4.1,()),()) w5)) (0,0,()) w2
theorem Sj.ok{f0:Int}{w:World}{R:TR r3'→WP}:Sj.wp f0 w R→Ae prog F.Qo [.iface T.Gp (.agg #[iV f0])] w false r3' R:=
  oks Aa func133 (hs 2 (.s (.s .n (.lp [(3,(.i .i64)),(9,(.i .i64))] .n)) .n))
def Rh.wp(f0 f1 f2:Int)(w:World)(R:TR r3'→WP):Prop:=
Ae prog F.He [.agg #[iV f0,iV f1,iV f2]] w false H7 fun r1 w2=>
Ci (fun(self3:((Int)×(Int)×Unit)→WP) (z4:(Int)×(Int)×Unit) w5=> ∀_:Nat→Value,
Aj (decide (z4.2.1<(r1.1.1.2.1:Int))) (
Ny r1.1.1.1 r1.1.1.2.1 z4.2.1 fun a6=>
A8 Ig (a6.add (z4.2.1.toNat*3)) 0 w5 fun x7=>
Bf Vy T.Dl w5 fun p8 w9=>
Au (encs Ig x7) p8 0 w9 fun w10=>
ld1 KI p8 w10 fun x11=>
self3 (wrap .i64 (z4.1+x11),wrap .i64 (z4.2.1+1),()) w10) (
R ((z4.1,()),()) w5)) (0,0,()) w2
theorem Rh.ok{f0 f1 f2:Int}{w:World}{R:TR r3'→WP}:Rh.wp f0 f1 f2 w R→Ae prog F.Qo [.iface T.Ef (.agg #[iV f0,iV f1,iV f2])] w false r3' R:=
  oks Aa func133 (hs 2 (.s (.s .n (.lp [(3,(.i .i64)),(9,(.i .i64))] .n)) .n))
def Rn.wp(f0 f1:Int)(w:World)(R:TR r3'→WP):Prop:=
Ae prog F.Ic [.agg #[iV f0,iV f1]] w false H7 fun r1 w2=>
Ci (fun(self3:((Int)×(Int)×Unit)→WP) (z4:(Int)×(Int)×Unit) w5=> ∀_:Nat→Value,
Aj (decide (z4.2.1<(r1.1.1.2.1:Int))) (
Ny r1.1.1.1 r1.1.1.2.1 z4.2.1 fun a6=>
A8 Ig (a6.add (z4.2.1.toNat*3)) 0 w5 fun x7=>
Bf Vy T.Dl w5 fun p8 w9=>
Au (encs Ig x7) p8 0 w9 fun w10=>
ld1 KI p8 w10 fun x11=>
self3 (wrap .i64 (z4.1+x11),wrap .i64 (z4.2.1+1),()) w10) (
R ((z4.1,()),()) w5)) (0,0,()) w2
theorem Rn.ok{f0 f1:Int}{w:World}{R:TR r3'→WP}:Rn.wp f0 f1 w R→Ae prog F.Qo [.iface T.Gj (.agg #[iV f0,iV f1])] w false r3' R:=
  oks Aa func133 (hs 2 (.s (.s .n (.lp [(3,(.i .i64)),(9,(.i .i64))] .n)) .n))
def Rf.wp(f0 f1 f2 f3 f4 f5 f6 f7:Int)(w:World)(R:TR r3'→WP):Prop:=
Ae prog F.G7 [.agg #[iV f0,iV f1,iV f2,iV f3,iV f4,iV f5,uV f6,iV f7]] w false H7 fun r1 w2=>
Ci (fun(self3:((Int)×(Int)×Unit)→WP) (z4:(Int)×(Int)×Unit) w5=> ∀_:Nat→Value,
Aj (decide (z4.2.1<(r1.1.1.2.1:Int))) (
Ny r1.1.1.1 r1.1.1.2.1 z4.2.1 fun a6=>
A8 Ig (a6.add (z4.2.1.toNat*3)) 0 w5 fun x7=>
Bf Vy T.Dl w5 fun p8 w9=>
Au (encs Ig x7) p8 0 w9 fun w10=>
ld1 KI p8 w10 fun x11=>
self3 (wrap .i64 (z4.1+x11),wrap .i64 (z4.2.1+1),()) w10) (
R ((z4.1,()),()) w5)) (0,0,()) w2
theorem Rf.ok{f0 f1 f2 f3 f4 f5 f6 f7:Int}{w:World}{R:TR r3'→WP}:Rf.wp f0 f1 f2 f3 f4 f5 f6 f7 w R→Ae prog F.Qo [.iface T.Gl (.agg #[iV f0,iV f1,iV f2,iV f3,iV f4,iV f5,uV f6,iV f7])] w false r3' R:=
  oks Aa func133 (hs 2 (.s (.s .n (.lp [(3,(.i .i64)),(9,(.i .i64))] .n)) .n))
def Xy.wp(b:Option Addr×Nat×Nat)(w:World)(R:TR Ake→WP):Prop:=
Aj (decide ((b.2.1:Int)<2)) (
R (((none,0,0),()),(false,()),()) w) (
Ae prog F.X5 [.slice b.1 b.2.1 b.2.2] w false Vw fun r1 w2=>
Aj (r1.1.1 !=0) (
R (((none,0,0),()),(false,()),()) w2) (
sQ 0 (wrap .i64 ((b.2.1:Int)-2)) b.2.2 (
L9 ((Builtin.append_ #[T.Fh,T.Fh] T.Fh #[.slice none 0 0,.slice (dG b.1 b.2.2 (Int.toNat 0) 1) ((Int.toNat (wrap .i64 ((b.2.1:Int)-2)))-(Int.toNat 0)) (b.2.2-Int.toNat 0)]).run prog w2) fun y3 w4=>
R (((y3.1,y3.2.1,y3.2.2),()),(true,()),()) w4)))
theorem Xy.ok{b:Option Addr×Nat×Nat}{w:World}{R:TR Ake→WP}:Xy.wp b w R→Ae prog F.Xy [.slice b.1 b.2.1 b.2.2] w true Ake R:=
  oks Aa func134 .n
def Qq.wp(f0 f1 f2 f3 f4 f5:Int)(n:Option Addr×Nat×Nat)(w:World)(R:TR Xm→WP):Prop:=
Bf [.slice n.1 n.2.1 n.2.2] T.Ux w fun p1 w2=>
Ae prog F.Dp [iV 0,.pointer (some p1)] w2 false r3' fun r3 w4=>
Ae prog F.Po [iV 1,.pointer (some p1)] w4 false Vw fun r5 w6=>
Ae prog F.Dp [iV 2,.pointer (some p1)] w6 false r3' fun r7 w8=>
Ae prog F.Po [iV 3,.pointer (some p1)] w8 false Vw fun r9 w10=>
Ae prog F.Dp [iV 4,.pointer (some p1)] w10 false r3' fun r11 w12=>
Ae prog F.Dp [iV 5,.pointer (some p1)] w12 false r3' fun r13 w14=>
R ((.iface T.Bh (.agg #[iV r3.1.1,uV r5.1.1,iV r7.1.1,uV r9.1.1,iV r11.1.1,iV r13.1.1]),()),()) w14
theorem Qq.ok{f0 f1 f2 f3 f4 f5:Int}{n:Option Addr×Nat×Nat}{w:World}{R:TR Xm→WP}:Qq.wp f0 f1 f2 f3 f4 f5 n w R→Ae prog F.Qn [.iface T.Bh (.agg #[iV f0,uV f1,iV f2,uV f3,iV f4,iV f5]),.slice n.1 n.2.1 n.2.2] w false Xm R:=
  oks Aa func135 .n
def Rj.wp(f0 f1 f2 f3 f4 f5:Int)(n:Option Addr×Nat×Nat)(w:World)(R:TR Xm→WP):Prop:=
Bf [.slice n.1 n.2.1 n.2.2] T.Ux w fun p1 w2=>
Ae prog F.Dp [iV 0,.pointer (some p1)] w2 false r3' fun r3 w4=>
Ae prog F.Dp [iV 1,.pointer (some p1)] w4 false r3' fun r5 w6=>
Ae prog F.Po [iV 2,.pointer (some p1)] w6 false Vw fun r7 w8=>
Ae prog F.Po [iV 3,.pointer (some p1)] w8 false Vw fun r9 w10=>
Ae prog F.Dp [iV 4,.pointer (some p1)] w10 false r3' fun r11 w12=>
Ae prog F.Dp [iV 5,.pointer (some p1)] w12 false r3' fun r13 w14=>
R ((.iface T.Dy (.agg #[iV r3.1.1,iV r5.1.1,uV r7.1.1,uV r9.1.1,iV r11.1.1,iV r13.1.1]),()),()) w14
theorem Rj.ok{f0 f1 f2 f3 f4 f5:Int}{n:Option Addr×Nat×Nat}{w:World}{R:TR Xm→WP}:Rj.wp f0 f1 f2 f3 f4 f5 n w R→Ae prog F.Qn [.iface T.Dy (.agg #[iV f0,iV f1,uV f2,uV f3,iV f4,iV f5]),.slice n.1 n.2.1 n.2.2] w false Xm R:=
  oks Aa func135 .n
def Ro.wp(f0:Int)(n:Option Addr×Nat×Nat)(w:World)(R:TR Xm→WP):Prop:=
Bf [.slice n.1 n.2.1 n.2.2] T.Ux w fun p1 w2=>
Ae prog F.Dp [iV 0,.pointer (some p1)] w2 false r3' fun r3 w4=>
R ((.iface T.Gp (.agg #[iV r3.1.1]),()),()) w4
theorem Ro.ok{f0:Int}{n:Option Addr×Nat×Nat}{w:World}{R:TR Xm→WP}:Ro.wp f0 n w R→Ae prog F.Qn [.iface T.Gp (.agg #[iV f0]),.slice n.1 n.2.1 n.2.2] w false Xm R:=
  oks Aa func135 .n
def Q7.wp(f0 f1 f2:Int)(n:Option Addr×Nat×Nat)(w:World)(R:TR Xm→WP):Prop:=
Bf [.slice n.1 n.2.1 n.2.2] T.Ux w fun p1 w2=>
Ae prog F.Dp [iV 0,.pointer (some p1)] w2 false r3' fun r3 w4=>
Ae prog F.Dp [iV 1,.pointer (some p1)] w4 false r3' fun r5 w6=>
Ae prog F.Dp [iV 2,.pointer (some p1)] w6 false r3' fun r7 w8=>
R ((.iface T.Ef (.agg #[iV r3.1.1,iV r5.1.1,iV r7.1.1]),()),()) w8
theorem Q7.ok{f0 f1 f2:Int}{n:Option Addr×Nat×Nat}{w:World}{R:TR Xm→WP}:Q7.wp f0 f1 f2 n w R→Ae prog F.Qn [.iface T.Ef (.agg #[iV f0,iV f1,iV f2]),.slice n.1 n.2.1 n.2.2] w false Xm R:=
  oks Aa func135 .n
def Rz.wp(f0 f1:Int)(n:Option Addr×Nat×Nat)(w:World)(R:TR Xm→WP):Prop:=
Bf [.slice n.1 n.2.1 n.2.2] T.Ux w fun p1 w2=>
Ae prog F.Dp [iV 0,.pointer (some p1)] w2 false r3' fun r3 w4=>
Ae prog F.Dp [iV 1,.pointer (some p1)] w4 false r3' fun r5 w6=>
R ((.iface T.Gj (.agg #[iV r3.1.1,iV r5.1.1]),()),()) w6
theorem Rz.ok{f0 f1:Int}{n:Option Addr×Nat×Nat}{w:World}{R:TR Xm→WP}:Rz.wp f0 f1 n w R→Ae prog F.Qn [.iface T.Gj (.agg #[iV f0,iV f1]),.slice n.1 n.2.1 n.2.2] w false Xm R:=
  oks Aa func135 .n
def Qz.wp(f0 f1 f2 f3 f4 f5 f6 f7:Int)(n:Option Addr×Nat×Nat)(w:World)(R:TR Xm→WP):Prop:=
Bf [.slice n.1 n.2.1 n.2.2] T.Ux w fun p1 w2=>
Ae prog F.Dp [iV 0,.pointer (some p1)] w2 false r3' fun r3 w4=>
Ae prog F.Dp [iV 1,.pointer (some p1)] w4 false r3' fun r5 w6=>
Ae prog F.Dp [iV 2,.pointer (some p1)] w6 false r3' fun r7 w8=>
Ae prog F.Dp [iV 3,.pointer (some p1)] w8 false r3' fun r9 w10=>
Ae prog F.Dp [iV 4,.pointer (some p1)] w10 false r3' fun r11 w12=>
Ae prog F.Dp [iV 5,.pointer (some p1)] w12 false r3' fun r13 w14=>
Ae prog F.Po [iV 6,.pointer (some p1)] w14 false Vw fun Zb w16=>
Ae prog F.Dp [iV 7,.pointer (some p1)] w16 false r3' fun r17 w18=>
R ((.iface T.Gl (.agg #[iV r3.1.1,iV r5.1.1,iV r7.1.1,iV r9.1.1,iV r11.1.1,iV r13.1.1,uV Zb.1.1,iV r17.1.1]),()),()) w18
theorem Qz.ok{f0 f1 f2 f3 f4 f5 f6 f7:Int}{n:Option Addr×Nat×Nat}{w:World}{R:TR Xm→WP}:Qz.wp f0 f1 f2 f3 f4 f5 f6 f7 n w R→Ae prog F.Qn [.iface T.Gl (.agg #[iV f0,iV f1,iV f2,iV f3,iV f4,iV f5,uV f6,iV f7]),.slice n.1 n.2.1 n.2.2] w false Xm R:=
  oks Aa func135 .n
def Ej.wp(f0 f1 f2 f3 f4 f5:Int)(w:World)(R:TR r0'→WP):Prop:=
Ae prog F.Fa [.iface T.Bh (.agg #[iV f0,uV f1,iV f2,uV f3,iV f4,iV f5])] w false Yk fun r1 w2=>
Aj (r1.1.1==0) (
R ((false,()),()) w2) (
Ae prog F.Dt [.agg #[iV f0,uV f1,iV f2,uV f3,iV f4,iV f5]] w2 false H7 fun r3 w4=>
Ci (fun(self5:((Int)×Unit)→WP) (z6:(Int)×Unit) w7=> ∀_:Nat→Value,
Aj (decide (z6.1<(r3.1.1.2.1:Int))) (
Ny r3.1.1.1 r3.1.1.2.1 z6.1 fun a8=>
A8 Ig (a8.add (z6.1.toNat*3)) 0 w7 fun x9=>
Bf Vy T.Dl w7 fun p10 w11=>
Au (encs Ig x9) p10 0 w11 fun w12=>
ld1 KI (p10.add 1) w12 fun x13=>
Aj (decide (x13<0)) (
R ((false,()),()) w12) (
ld1 KI (p10.add 1) w12 fun x14=>
ld1 KI (p10.add 2) w12 fun x15=>
Aj (decide (x14>x15)) (
R ((false,()),()) w12) (
self5 (wrap .i64 (z6.1+1),()) w12))) (
R ((true,()),()) w7)) (0,()) w4)
theorem Ej.ok{f0 f1 f2 f3 f4 f5:Int}{w:World}{R:TR r0'→WP}:Ej.wp f0 f1 f2 f3 f4 f5 w R→Ae prog F.Ew [.iface T.Bh (.agg #[iV f0,uV f1,iV f2,uV f3,iV f4,iV f5])] w false r0' R:=
  oks Aa func136 (hs 2 (.s (.s .n (.lp [(11,(.i .i64))] .n)) .n))
def Fp.wp(f0 f1 f2 f3 f4 f5:Int)(w:World)(R:TR r0'→WP):Prop:=
Ae prog F.Fa [.iface T.Dy (.agg #[iV f0,iV f1,uV f2,uV f3,iV f4,iV f5])] w false Yk fun r1 w2=>
Aj (r1.1.1==0) (
R ((false,()),()) w2) (
Ae prog F.Dh [.agg #[iV f0,iV f1,uV f2,uV f3,iV f4,iV f5]] w2 false H7 fun r3 w4=>
Ci (fun(self5:((Int)×Unit)→WP) (z6:(Int)×Unit) w7=> ∀_:Nat→Value,
Aj (decide (z6.1<(r3.1.1.2.1:Int))) (
Ny r3.1.1.1 r3.1.1.2.1 z6.1 fun a8=>
A8 Ig (a8.add (z6.1.toNat*3)) 0 w7 fun x9=>
Bf Vy T.Dl w7 fun p10 w11=>
Au (encs Ig x9) p10 0 w11 fun w12=>
ld1 KI (p10.add 1) w12 fun x13=>
Aj (decide (x13<0)) (
R ((false,()),()) w12) (
ld1 KI (p10.add 1) w12 fun x14=>
ld1 KI (p10.add 2) w12 fun x15=>
Aj (decide (x14>x15)) (
R ((false,()),()) w12) (
self5 (wrap .i64 (z6.1+1),()) w12))) (
R ((true,()),()) w7)) (0,()) w4)
theorem Fp.ok{f0 f1 f2 f3 f4 f5:Int}{w:World}{R:TR r0'→WP}:Fp.wp f0 f1 f2 f3 f4 f5 w R→Ae prog F.Ew [.iface T.Dy (.agg #[iV f0,iV f1,uV f2,uV f3,iV f4,iV f5])] w false r0' R:=
  oks Aa func136 (hs 2 (.s (.s .n (.lp [(11,(.i .i64))] .n)) .n))
def Gq.wp(f0:Int)(w:World)(R:TR r0'→WP):Prop:=
Ae prog F.Fa [.iface T.Gp (.agg #[iV f0])] w false Yk fun r1 w2=>
Aj (r1.1.1==0) (
R ((false,()),()) w2) (
Ae prog F.D8 [.agg #[iV f0]] w2 false H7 fun r3 w4=>
Ci (fun(self5:((Int)×Unit)→WP) (z6:(Int)×Unit) w7=> ∀_:Nat→Value,
Aj (decide (z6.1<(r3.1.1.2.1:Int))) (
Ny r3.1.1.1 r3.1.1.2.1 z6.1 fun a8=>
A8 Ig (a8.add (z6.1.toNat*3)) 0 w7 fun x9=>
Bf Vy T.Dl w7 fun p10 w11=>
Au (encs Ig x9) p10 0 w11 fun w12=>
ld1 KI (p10.add 1) w12 fun x13=>
Aj (decide (x13<0)) (
R ((false,()),()) w12) (
ld1 KI (p10.add 1) w12 fun x14=>
ld1 KI (p10.add 2) w12 fun x15=>
Aj (decide (x14>x15)) (
R ((false,()),()) w12) (
self5 (wrap .i64 (z6.1+1),()) w12))) (
R ((true,()),()) w7)) (0,()) w4)
theorem Gq.ok{f0:Int}{w:World}{R:TR r0'→WP}:Gq.wp f0 w R→Ae prog F.Ew [.iface T.Gp (.agg #[iV f0])] w false r0' R:=
  oks Aa func136 (hs 2 (.s (.s .n (.lp [(11,(.i .i64))] .n)) .n))
def Qx.wp(f0 f1 f2:Int)(w:World)(R:TR r0'→WP):Prop:=
Ae prog F.Fa [.iface T.Ef (.agg #[iV f0,iV f1,iV f2])] w false Yk fun r1 w2=>
Aj (r1.1.1==0) (
R ((false,()),()) w2) (
Ae prog F.He [.agg #[iV f0,iV f1,iV f2]] w2 false H7 fun r3 w4=>
Ci (fun(self5:((Int)×Unit)→WP) (z6:(Int)×Unit) w7=> ∀_:Nat→Value,
Aj (decide (z6.1<(r3.1.1.2.1:Int))) (
Ny r3.1.1.1 r3.1.1.2.1 z6.1 fun a8=>
A8 Ig (a8.add (z6.1.toNat*3)) 0 w7 fun x9=>
Bf Vy T.Dl w7 fun p10 w11=>
Au (encs Ig x9) p10 0 w11 fun w12=>
ld1 KI (p10.add 1) w12 fun x13=>
Aj (decide (x13<0)) (
R ((false,()),()) w12) (
ld1 KI (p10.add 1) w12 fun x14=>
ld1 KI (p10.add 2) w12 fun x15=>
Aj (decide (x14>x15)) (
R ((false,()),()) w12) (
self5 (wrap .i64 (z6.1+1),()) w12))) (
R ((true,()),()) w7)) (0,()) w4)
theorem Qx.ok{f0 f1 f2:Int}{w:World}{R:TR r0'→WP}:Qx.wp f0 f1 f2 w R→Ae prog F.Ew [.iface T.Ef (.agg #[iV f0,iV f1,iV f2])] w false r0' R:=
  oks Aa func136 (hs 2 (.s (.s .n (.lp [(11,(.i .i64))] .n)) .n))
def Rw.wp(f0 f1:Int)(w:World)(R:TR r0'→WP):Prop:=
Ae prog F.Fa [.iface T.Gj (.agg #[iV f0,iV f1])] w false Yk fun r1 w2=>
Aj (r1.1.1==0) (
R ((false,()),()) w2) (
Ae prog F.Ic [.agg #[iV f0,iV f1]] w2 false H7 fun r3 w4=>
Ci (fun(self5:((Int)×Unit)→WP) (z6:(Int)×Unit) w7=> ∀_:Nat→Value,
Aj (decide (z6.1<(r3.1.1.2.1:Int))) (
Ny r3.1.1.1 r3.1.1.2.1 z6.1 fun a8=>
A8 Ig (a8.add (z6.1.toNat*3)) 0 w7 fun x9=>
Bf Vy T.Dl w7 fun p10 w11=>
Au (encs Ig x9) p10 0 w11 fun w12=>
ld1 KI (p10.add 1) w12 fun x13=>
Aj (decide (x13<0)) (
R ((false,()),()) w12) (
ld1 KI (p10.add 1) w12 fun x14=>
ld1 KI (p10.add 2) w12 fun x15=>
Aj (decide (x14>x15)) (
R ((false,()),()) w12) (
self5 (wrap .i64 (z6.1+1),()) w12))) (
R ((true,()),()) w7)) (0,()) w4)
theorem Rw.ok{f0 f1:Int}{w:World}{R:TR r0'→WP}:Rw.wp f0 f1 w R→Ae prog F.Ew [.iface T.Gj (.agg #[iV f0,iV f1])] w false r0' R:=
  oks Aa func136 (hs 2 (.s (.s .n (.lp [(11,(.i .i64))] .n)) .n))
def Qy.wp(f0 f1 f2 f3 f4 f5 f6 f7:Int)(w:World)(R:TR r0'→WP):Prop:=
Ae prog F.Fa [.iface T.Gl (.agg #[iV f0,iV f1,iV f2,iV f3,iV f4,iV f5,uV f6,iV f7])] w false Yk fun r1 w2=>
Aj (r1.1.1==0) (
R ((false,()),()) w2) (
Ae prog F.G7 [.agg #[iV f0,iV f1,iV f2,iV f3,iV f4,iV f5,uV f6,iV f7]] w2 false H7 fun r3 w4=>
Ci (fun(self5:((Int)×Unit)→WP) (z6:(Int)×Unit) w7=> ∀_:Nat→Value,
Aj (decide (z6.1<(r3.1.1.2.1:Int))) (
Ny r3.1.1.1 r3.1.1.2.1 z6.1 fun a8=>
A8 Ig (a8.add (z6.1.toNat*3)) 0 w7 fun x9=>
Bf Vy T.Dl w7 fun p10 w11=>
Au (encs Ig x9) p10 0 w11 fun w12=>
ld1 KI (p10.add 1) w12 fun x13=>
Aj (decide (x13<0)) (
R ((false,()),()) w12) (
ld1 KI (p10.add 1) w12 fun x14=>
ld1 KI (p10.add 2) w12 fun x15=>
Aj (decide (x14>x15)) (
R ((false,()),()) w12) (
self5 (wrap .i64 (z6.1+1),()) w12))) (
R ((true,()),()) w7)) (0,()) w4)
theorem Qy.ok{f0 f1 f2 f3 f4 f5 f6 f7:Int}{w:World}{R:TR r0'→WP}:Qy.wp f0 f1 f2 f3 f4 f5 f6 f7 w R→Ae prog F.Ew [.iface T.Gl (.agg #[iV f0,iV f1,iV f2,iV f3,iV f4,iV f5,uV f6,iV f7])] w false r0' R:=
  oks Aa func136 (hs 2 (.s (.s .n (.lp [(11,(.i .i64))] .n)) .n))
end Go.Proofs.YtnjmfbjgcfnanaaGreat
