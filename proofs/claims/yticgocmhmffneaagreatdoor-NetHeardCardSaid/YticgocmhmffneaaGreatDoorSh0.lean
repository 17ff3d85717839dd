import Derived.Test.YticgocmhmffneaaGreatDoorNm
namespace Go.Proofs.YticgocmhmffneaaGreatDoor
open Go.Eng Tryz
open Go.IntKind (wrap)
set_option linter.unusedSimpArgs false
set_option linter.unusedVariables false
set_option maxRecDepth 100000
def law27_NetHeard.wp(s0 s1 s2 s3 s4 s5 s6 s7 s8 s9:Int)(s10 script:Option Addr×Nat×Nat)(w:World)(R:TR r0'→WP):Prop:=
Bf [iV s0,iV s1,iV s2,iV s3,iV s4,iV s5,iV s6,iV s7,iV s8,iV s9,.slice s10.1 s10.2.1 s10.2.2] T.J8 w fun p1 w2=>
Ae prog F.law27_alive [] w2 false r0' fun r3 w4=>
Aj (!r3.1.1) (
R ((false,()),()) w4) (
ld1 KI p1 w4 fun x5=>
Aj (decide (x5>6)) (
R ((true,()),()) w4) (
ld1 .sl (p1.add 10) w4 fun x6=>
Aj (decide ((x6.2.1:Int)>100)) (
R ((true,()),()) w4) (
Aj (decide ((script.2.1:Int)>120)) (
R ((true,()),()) w4) (
A8 k0' p1 0 w4 fun x7=>
Ae prog F.Ff [Sv k0' x7] w4 false r0' fun r8 w9=>
Aj (!r8.1.1) (
R ((true,()),()) w9) (
A8 k0' p1 0 w9 fun x10=>
Ae prog F.law27_setup [Sv k0' x10] w9 false r1' fun r11 w12=>
Ae prog F.Io [Sv k0' r11.1,.pointer none] w12 true r2' fun r13 w14=>
A8 k0' p1 0 w14 fun x15=>
Ae prog F.law27_setup [Sv k0' x15] w14 false r1' fun r16 w17=>
Ae prog F.Io [Sv k0' r16.1,.pointer none] w17 true r2' fun r18 w19=>
A8 k0' p1 0 w19 fun x20=>
Ae prog F.Amb [Sv k0' x20] w19 false Arw fun r21 w22=>
Aj (r13.2.1.1 !=0) (
R ((false,()),()) w22) (
Aj (r18.2.1.1 !=0) (
R ((false,()),()) w22) (
Ci (fun(self23:((Int)×Unit)→WP) (z24:(Int)×Unit) w25=> ∀_:Nat→Value,
Aj (decide (z24.1<(script.2.1:Int))) (
Ny script.1 script.2.1 z24.1 fun a26=>
A8 uU (a26.add (z24.1.toNat*11)) 0 w25 fun x27=>
Bf z0' T.law27_Act w25 fun p28 w29=>
Au (encs uU x27) p28 0 w29 fun w30=>
A8 uU p28 0 w30 fun x31=>
Ae prog F.law27_great [Sv uU x31] w30 false r0' fun r32 w33=>
Aj r32.1.1 (
R ((true,()),()) w33) (
Ae prog F.Bq [.pointer r13.1.1] w33 false iT fun r34 w35=>
A8 uU p28 0 w35 fun x36=>
Ae prog F.law27_twice [.pointer r13.1.1,.pointer r18.1.1,Sv uU x36] w35 false r0' fun r37 w38=>
Aj (!r37.1.1) (
R ((false,()),()) w38) (
Cc (fun(J39:Unit→WP)=>
ld1 KI p28 w38 fun x42=>
Aj (x42==0) (
Jg w38 fun w43=>
Aq r21.1.1 fun a44=>
ld1 .p (a44.add 11) w43 fun x45=>
ld1 KI (p28.add 1) w43 fun x46=>
ld1 KI (p28.add 2) w43 fun x47=>
ld1 .b (p28.add 3) w43 fun x48=>
Ae prog F.Aak [.pointer x45,iV x46,iV x47,.bool x48] w43 false iT fun r49 w50=>
A7 [] w50∧(
J39 (()) w50)) (
J39 (()) w38)) (fun(z40:Unit) w41=> ∀_:Nat→Value,
ld1 KI p28 w41 fun x51=>
Aj (decide (x51<3)) (
self23 (wrap .i64 (z24.1+1),()) w41) (
ld1 KI p28 w41 fun x52=>
Aj (decide (x52>6)) (
self23 (wrap .i64 (z24.1+1),()) w41) (
Ae prog F.Bq [.pointer r13.1.1] w41 false iT fun r53 w54=>
Aj (r53.1.1==r34.1.1) (
self23 (wrap .i64 (z24.1+1),()) w54) (
Ae prog F.Jv [.pointer r13.1.1] w54 false dH fun r55 w56=>
ld1 KI p1 w56 fun x57=>
Aj ((r55.1.1.2.1:Int) !=x57) (
R ((false,()),()) w56) (
Ci (fun(self58:((Int)×Unit)→WP) (z59:(Int)×Unit) w60=> ∀_:Nat→Value,
ld1 KI p1 w60 fun x61=>
Aj (decide (z59.1<x61)) (
Ae prog F.Dv [.pointer r13.1.1] w60 false aT fun r62 w63=>
fJ (wrap .u64 z59.1) (
dF 2 (
Cc (fun(J64:Unit→WP)=>
Jg w63 fun w67=>
Aj ((Int.tmod (Qv .u64 r62.1.1 (wrap .u64 z59.1)) 2)==1) (
Ae prog F.Bo [.pointer r13.1.1,iV z59.1] w67 false r3' fun r68 w69=>
A7 [] w69∧(
Aj (!r68.1.1) (
R ((false,()),()) w69) (
ld1 KI (p1.add 5) w69 fun x70=>
dF x70 (
A8 k0' p1 0 w69 fun x71=>
Ae prog F.Oy [Sv k0' x71,iV z59.1] w69 false r5' fun r72 w73=>
A7 [hd 10 (p1.add 5) w69] w73∧(
Aj ((Int.tmod r34.1.1 x70) !=r72.1.2.2.2.2.2.2.2.1) (
R ((false,()),()) w73) (
J64 (()) w73)))))) (
J64 (()) w67)) (fun(z65:Unit) w66=> ∀_:Nat→Value,
Ny r55.1.1.1 r55.1.1.2.1 z59.1 fun a74=>
ld1 KI ((a74.add (z59.1.toNat*2)).add 1) w66 fun x75=>
Aj (x75 !=1) (
self58 (wrap .i64 (z59.1+1),()) w66) (
Ny r55.1.1.1 r55.1.1.2.1 z59.1 fun a76=>
ld1 KI (a76.add (z59.1.toNat*2)) w66 fun x77=>
Aj ((Int.tmod (Qv .u64 r62.1.1 (wrap .u64 z59.1)) 2)==1) (
R ((false,()),()) w66) (
Ae prog F.Bo [.pointer r13.1.1,iV z59.1] w66 false r3' fun r78 w79=>
Aj (!r78.1.1) (
R ((false,()),()) w79) (
Aj (decide (x77<0)) (
R ((false,()),()) w79) (
ld1 KI p1 w79 fun x80=>
Aj (decide (x77≥x80)) (
R ((false,()),()) w79) (
Aq r21.1.1 fun a81=>
ld1 .p (a81.add 11) w79 fun x82=>
Aq x82 fun a83=>
Ny (some (a83.add 1)) 64 z59.1 fun a84=>
Ny (some (a84.add (z59.1.toNat*64))) 64 x77 fun a85=>
ld1 .b (a85.add (x77.toNat*1)) w79 fun x86=>
Aj (!x86) (
R ((false,()),()) w79) (
Ae prog F.Dv [.pointer r13.1.1] w79 false aT fun r87 w88=>
fJ (wrap .u64 x77) (
dF 2 (
Aj ((Int.tmod (Qv .u64 r87.1.1 (wrap .u64 x77)) 2) !=1) (
R ((false,()),()) w88) (
Ae prog F.Bo [.pointer r13.1.1,iV x77] w88 false r3' fun r89 w90=>
Aj (!r89.1.1) (
R ((false,()),()) w90) (
self58 (wrap .i64 (z59.1+1),()) w90)))))))))))))) (
self23 (wrap .i64 (z24.1+1),()) w60)) (0,()) w56)))))))) (
R ((true,()),()) w25)) (0,()) w22)))))))
theorem law27_NetHeard.ok{s0 s1 s2 s3 s4 s5 s6 s7 s8 s9:Int}{s10 script:Option Addr×Nat×Nat}{w:World}{R:TR r0'→WP}:law27_NetHeard.wp s0 s1 s2 s3 s4 s5 s6 s7 s8 s9 s10 script w R→Ae prog F.law27_NetHeard [.agg #[iV s0,iV s1,iV s2,iV s3,iV s4,iV s5,iV s6,iV s7,iV s8,iV s9,.slice s10.1 s10.2.1 s10.2.2],.slice script.1 script.2.1 script.2.2] w false r0' R:=
  oks Aa Tryz.func9 (hs 7 (.s (.s .n (.lp [(60,(.i .i64))] (hs 2 (.s (hs 4 (.ct [] (.s .n (.s (.pl (ks [0,1,2,3,4,5,6,7,8,9] (.ef 10 [3,5,7,9] .z))) .n)) (hs 4 (.lp [(14,(.i .i64))] (.s .n (.s (.s .n (.ct [] (.s (.pl (ks [0,1,2,3] (.ef 4 [] (ks [5,6,7,8,9,10,11,12,13] (.ef 14 [12] (ks [15,16,17,18] .z)))))) .n) .n)) .n)))))) .n)))) .n))
def Ff.wp(s0 s1 s2 s3 s4 s5 s6 s7 s8 s9:Int)(s10:Option Addr×Nat×Nat)(w:World)(R:TR r0'→WP):Prop:=
Bf [iV s0,iV s1,iV s2,iV s3,iV s4,iV s5,iV s6,iV s7,iV s8,iV s9,.slice s10.1 s10.2.1 s10.2.2] T.J8 w fun p1 w2=>
ld1 KI p1 w2 fun x3=>
Aj (decide (x3<1)) (
R ((false,()),()) w2) (
ld1 KI p1 w2 fun x4=>
Aj (decide (x4>64)) (
R ((false,()),()) w2) (
Ci (fun(self5:((Int)×Unit)→WP) (z6:(Int)×Unit) w7=> ∀_:Nat→Value,
ld1 KI p1 w7 fun x8=>
Aj (decide (z6.1<x8)) (
A8 k0' p1 0 w7 fun x9=>
Ae prog F.Oy [Sv k0' x9,iV z6.1] w7 false r5' fun r10 w11=>
Ae prog F.Ot [Sv k2' r10.1] w11 false r0' fun r12 w13=>
Aj (!r12.1.1) (
R ((false,()),()) w13) (
self5 (wrap .i64 (z6.1+1),()) w13)) (
R ((true,()),()) w7)) (0,()) w2))
theorem Ff.ok{s0 s1 s2 s3 s4 s5 s6 s7 s8 s9:Int}{s10:Option Addr×Nat×Nat}{w:World}{R:TR r0'→WP}:Ff.wp s0 s1 s2 s3 s4 s5 s6 s7 s8 s9 s10 w R→Ae prog F.Ff [.agg #[iV s0,iV s1,iV s2,iV s3,iV s4,iV s5,iV s6,iV s7,iV s8,iV s9,.slice s10.1 s10.2.1 s10.2.2]] w false r0' R:=
  oks Aa Tryz.func16 (hs 2 (.s (.s .n (.lp [(3,(.i .i64))] .n)) .n))
def Io.wp(s0 s1 s2 s3 s4 s5 s6 s7 s8 s9:Int)(s10:Option Addr×Nat×Nat)(leaps:Option Addr)(w:World)(R:TR r2'→WP):Prop:=
Bf [iV s0,iV s1,iV s2,iV s3,iV s4,iV s5,iV s6,iV s7,iV s8,iV s9,.slice s10.1 s10.2.1 s10.2.2] T.mQ w fun p1 w2=>
ld1 KI p1 w2 fun x3=>
Ae prog F.Pi [iV x3] w2 true r2' fun r4 w5=>
Aj (r4.2.1.1 !=0) (
R ((none,()),(r4.2.1.1,()),()) w5) (
ld1 .sl (p1.add 10) w5 fun x6=>
L9 ((Builtin.append_ #[T.V5,T.V5] T.V5 #[.slice none 0 0,.slice x6.1 x6.2.1 x6.2.2]).run prog w5) fun y7 w8=>
Au [.slice y7.1 y7.2.1 y7.2.2] (p1.add 10) 0 w8 fun w9=>
A8 k0' p1 0 w9 fun x10=>
Bf [iV x10.1,iV x10.2.1,iV x10.2.2.1,iV x10.2.2.2.1,iV x10.2.2.2.2.1,iV x10.2.2.2.2.2.1,iV x10.2.2.2.2.2.2.1,iV x10.2.2.2.2.2.2.2.1,iV x10.2.2.2.2.2.2.2.2.1,iV x10.2.2.2.2.2.2.2.2.2.1,.slice x10.2.2.2.2.2.2.2.2.2.2.1.1 x10.2.2.2.2.2.2.2.2.2.2.1.2.1 x10.2.2.2.2.2.2.2.2.2.2.1.2.2,.pointer r4.1.1,.slice none 0 0,iV 0,.int .u64 0,.slice none 0 0] T.As1 w9 fun p11 w12=>
ld1 KI p1 w12 fun x13=>
Ci (fun(self14:((Int)×Unit)→WP) (z15:(Int)×Unit) w16=> ∀_:Nat→Value,
Aj (decide (z15.1<x13)) (
A8 k0' p1 0 w16 fun x17=>
Ae prog F.Lj [Sv k0' x17,iV z15.1] w16 false r5' fun r18 w19=>
Ae prog F.Uz [Sv k2' r18.1,.pointer leaps] w19 true r2' fun r20 w21=>
Aj (r20.2.1.1 !=0) (
R ((none,()),(r20.2.1.1,()),()) w21) (
ld1 .sl (p11.add 12) w21 fun x22=>
Bf [.pointer r20.1.1] T.Uf w21 fun p23 w24=>
L9 ((Builtin.append_ #[T.Vp,T.Vp] T.Vp #[.slice x22.1 x22.2.1 x22.2.2,.slice (some p23) 1 1]).run prog w24) fun y25 w26=>
Au [.slice y25.1 y25.2.1 y25.2.2] (p11.add 12) 0 w26 fun w27=>
self14 (wrap .i64 (z15.1+1),()) w27)) (
R ((some p11,()),(0,()),()) w16)) (0,()) w12)
theorem Io.ok{s0 s1 s2 s3 s4 s5 s6 s7 s8 s9:Int}{s10:Option Addr×Nat×Nat}{leaps:Option Addr}{w:World}{R:TR r2'→WP}:Io.wp s0 s1 s2 s3 s4 s5 s6 s7 s8 s9 s10 leaps w R→Ae prog F.Io [.agg #[iV s0,iV s1,iV s2,iV s3,iV s4,iV s5,iV s6,iV s7,iV s8,iV s9,.slice s10.1 s10.2.1 s10.2.2],.pointer leaps] w true r2' R:=
  oks Aa Tryz.func17 (hs 5 (.s (.s .n (.lp [(31,(.i .i64))] .n)) .n))
def Bo.wp(n:Option Addr)(i:Int)(w:World)(R:TR r3'→WP):Prop:=
Bf z2' T.nK w fun p1 w2=>
Ae prog F.Eu [.pointer n,iV i] w2 false Arw fun r3 w4=>
Ae prog F.Cb [.pointer r3.1.1] w4 false r3' fun r5 w6=>
Au (encs k1' r5.1) p1 0 w6 fun w7=>
A8 k1' p1 0 w7 fun x8=>
R (x8,()) w7
theorem Bo.ok{n:Option Addr}{i:Int}{w:World}{R:TR r3'→WP}:Bo.wp n i w R→Ae prog F.Bo [.pointer n,iV i] w false r3' R:=
  oks Aa Tryz.func19 .n
def Bq.wp(n:Option Addr)(w:World)(R:TR iT→WP):Prop:=
Aj (Option.isNone n) (
R ((0,()),()) w) (
Aq n fun a1=>
ld1 KI (a1.add 13) w fun x2=>
R ((x2,()),()) w)
theorem Bq.ok{n:Option Addr}{w:World}{R:TR iT→WP}:Bq.wp n w R→Ae prog F.Bq [.pointer n] w false iT R:=
  oks Aa Tryz.func20 .n
def Oy.wp(s0 s1 s2 s3 s4 s5 s6 s7 s8 s9:Int)(s10:Option Addr×Nat×Nat)(i:Int)(w:World)(R:TR r5'→WP):Prop:=
Bf [iV s0,iV s1,iV s2,iV s3,iV s4,iV s5,iV s6,iV s7,iV s8,iV s9,.slice s10.1 s10.2.1 s10.2.2] T.J8 w fun p1 w2=>
Bf Aqn T.Xj w2 fun p3 w4=>
Cc (fun(J5:((Int)×Unit)→WP)=>
ld1 KI (p1.add 5) w4 fun x8=>
Aj (decide (x8>0)) (
ld1 KI (p1.add 5) w4 fun x9=>
dF x9 (
J5 (Int.tmod i x9,()) w4)) (
J5 (0,()) w4)) (fun(z6:(Int)×Unit) w7=> ∀_:Nat→Value,
Cc (fun(J10:((Int)×Unit)→WP)=>
ld1 .sl (p1.add 10) w7 fun x13=>
Aj (decide (i<(x13.2.1:Int))) (
ld1 .sl (p1.add 10) w7 fun x14=>
Ny x14.1 x14.2.1 i fun a15=>
ld1 KI (a15.add (i.toNat*1)) w7 fun x16=>
J10 (x16,()) w7) (
J10 (z6.1,()) w7)) (fun(z11:(Int)×Unit) w12=> ∀_:Nat→Value,
ld1 KI (p1.add 1) w12 fun x17=>
ld1 KI (p1.add 2) w12 fun x18=>
ld1 KI (p1.add 3) w12 fun x19=>
ld1 KI (p1.add 4) w12 fun x20=>
ld1 KI (p1.add 5) w12 fun x21=>
ld1 KI (p1.add 6) w12 fun x22=>
ld1 KI (p1.add 7) w12 fun x23=>
ld1 KI (p1.add 8) w12 fun x24=>
ld1 KI (p1.add 9) w12 fun x25=>
Au [iV i,iV x17,iV x18,iV x19,iV x20,iV x21,iV x22,iV z11.1,iV x23,iV x24,.bool (i==x25)] p3 0 w12 fun w26=>
A8 k2' p3 0 w26 fun x27=>
R (x27,()) w26))
theorem Oy.ok{s0 s1 s2 s3 s4 s5 s6 s7 s8 s9:Int}{s10:Option Addr×Nat×Nat}{i:Int}{w:World}{R:TR r5'→WP}:Oy.wp s0 s1 s2 s3 s4 s5 s6 s7 s8 s9 s10 i w R→Ae prog F.Oy [.agg #[iV s0,iV s1,iV s2,iV s3,iV s4,iV s5,iV s6,iV s7,iV s8,iV s9,.slice s10.1 s10.2.1 s10.2.2],iV i] w false r5' R:=
  oks Aa Tryz.func22 (hs 2 (.ct [(5,(.i .i64))] .n (.ct [(5,(.i .i64))] .n .n)))
def law27_alive.wp(w:World)(R:TR r0'→WP):Prop:=
Ae prog F.law27_setup [.agg #[iV 2,iV 1,iV 0,iV 1,iV 0,iV 2,iV 2,iV 1,iV 0,iV (Int.negSucc 0),.slice none 0 0]] w false r1' fun r1 w2=>
Ae prog F.Io [Sv k0' r1.1,.pointer none] w2 true r2' fun r3 w4=>
Ae prog F.Cf [.pointer r3.1.1,iV 0,iV 1,.bool true] w4 false iT fun r5 w6=>
Ae prog F.D7 [.pointer r3.1.1,iV 0,.int .u32 5] w6 false iT fun r7 w8=>
Ae prog F.D7 [.pointer r3.1.1,iV 1,.int .u32 700] w8 false iT fun r9 w10=>
Ci (fun(self11:((Int)×Unit)→WP) (z12:(Int)×Unit) w13=> ∀_:Nat→Value,
Aj (decide (z12.1<3)) (
Bf [iV 1000,iV 1000] T.int w13 fun p14 w15=>
Bf [iV 0,iV 0] T.int w15 fun p16 w17=>
Bf [iV 0,iV 0] T.int w17 fun p18 w19=>
Ae prog F.Ce [.pointer r3.1.1,.agg #[.slice (some p14) 2 2,.slice (some p16) 2 2,.slice (some p18) 2 2,.slice none 0 0]] w19 false iT fun r20 w21=>
Aj (r20.1.1 !=0) (
R ((false,()),()) w21) (
self11 (wrap .i64 (z12.1+1),()) w21)) (
Ae prog F.Dq [.pointer r3.1.1,iV 1] w13 true oI fun r22 w23=>
Bf dE T.Bg w23 fun p24 w25=>
Au (encs Tu r22.1) p24 0 w25 fun w26=>
Aj (r3.2.1.1==0) (
Aj (r5.1.1==0) (
Aj (r7.1.1==0) (
Aj (r9.1.1==0) (
Aj (r22.2.1.1==0) (
ld1 KI (p24.add 2) w26 fun x27=>
Aj (x27==0) (
ld1 KI p24 w26 fun x28=>
Aj (x28==3005) (
Ae prog F.Bq [.pointer r3.1.1] w26 false iT fun r29 w30=>
R (((r29.1.1==3),()),()) w30) (
R ((false,()),()) w26)) (
R ((false,()),()) w26)) (
R ((false,()),()) w26)) (
R ((false,()),()) w26)) (
R ((false,()),()) w26)) (
R ((false,()),()) w26)) (
R ((false,()),()) w26))) (0,()) w10
theorem law27_alive.ok{w:World}{R:TR r0'→WP}:law27_alive.wp w R→Ae prog F.law27_alive [] w false r0' R:=
  oks Aa Tryz.func25 (hs 3 (.s (.s .n (.lp [(6,(.i .i64))] .n)) .n))
def law27_setup.wp(s0 s1 s2 s3 s4 s5 s6 s7 s8 s9:Int)(s10:Option Addr×Nat×Nat)(w:World)(R:TR r1'→WP):Prop:=
Bf [iV s0,iV s1,iV s2,iV s3,iV s4,iV s5,iV s6,iV s7,iV s8,iV s9,.slice s10.1 s10.2.1 s10.2.2] T.J8 w fun p1 w2=>
Bf pY T.mQ w2 fun p3 w4=>
Jg w4 fun w5=>
ld1 KI p1 w5 fun x6=>
ld1 KI (p1.add 1) w5 fun x7=>
ld1 KI (p1.add 2) w5 fun x8=>
ld1 KI (p1.add 3) w5 fun x9=>
ld1 KI (p1.add 4) w5 fun x10=>
ld1 KI (p1.add 5) w5 fun x11=>
ld1 KI (p1.add 6) w5 fun x12=>
ld1 KI (p1.add 7) w5 fun x13=>
ld1 KI (p1.add 8) w5 fun x14=>
ld1 KI (p1.add 9) w5 fun x15=>
ld1 .sl (p1.add 10) w5 fun x16=>
Bf [] T.int w5 fun p17 w18=>
A7 [hd 24 (p1.add 10) w5,hd 21 (p1.add 9) w5,hd 19 (p1.add 8) w5,hd 17 (p1.add 7) w5,hd 15 (p1.add 6) w5,hd 13 (p1.add 5) w5,hd 10 (p1.add 4) w5,hd 8 (p1.add 3) w5,hd 5 (p1.add 2) w5,hd 3 (p1.add 1) w5,hd 1 p1 w5] w18∧(
L9 ((Builtin.append_ #[T.V5,T.V5] T.V5 #[.slice (some p17) 0 0,.slice x16.1 x16.2.1 x16.2.2]).run prog w18) fun y19 w20=>
A7 [hd 21 (p1.add 9) w5,hd 19 (p1.add 8) w5,hd 17 (p1.add 7) w5,hd 15 (p1.add 6) w5,hd 13 (p1.add 5) w5,hd 10 (p1.add 4) w5,hd 8 (p1.add 3) w5,hd 5 (p1.add 2) w5,hd 3 (p1.add 1) w5,hd 1 p1 w5] w20∧(
Au [iV x6,iV x7,iV x8,iV x9,iV x10,iV x11,iV x12,iV x13,iV x14,iV x15,.slice y19.1 y19.2.1 y19.2.2] p3 0 w20 fun w21=>
A7 [] w21∧(
A8 k0' p3 0 w21 fun x22=>
R ((x22.1,x22.2.1,x22.2.2.1,x22.2.2.2.1,x22.2.2.2.2.1,x22.2.2.2.2.2.1,x22.2.2.2.2.2.2.1,x22.2.2.2.2.2.2.2.1,x22.2.2.2.2.2.2.2.2.1,x22.2.2.2.2.2.2.2.2.2.1,(x22.2.2.2.2.2.2.2.2.2.2.1.1,x22.2.2.2.2.2.2.2.2.2.2.1.2.1,x22.2.2.2.2.2.2.2.2.2.2.1.2.2),()),()) w21)))
theorem law27_setup.ok{s0 s1 s2 s3 s4 s5 s6 s7 s8 s9:Int}{s10:Option Addr×Nat×Nat}{w:World}{R:TR r1'→WP}:law27_setup.wp s0 s1 s2 s3 s4 s5 s6 s7 s8 s9 s10 w R→Ae prog F.law27_setup [.agg #[iV s0,iV s1,iV s2,iV s3,iV s4,iV s5,iV s6,iV s7,iV s8,iV s9,.slice s10.1 s10.2.1 s10.2.2]] w false r1' R:=
  oks Aa Tryz.func26 (.s .n (.s (.pl (ks [0,1,2,3,4,5,6,7,8,9,10,11,12,13,14,15,16,17,18,19,20,21,23,24] (.ef 22 [] (.ef 25 [24] (.tk 26 (.ef 27 [1,3,5,8,10,13,15,17,19,21] .z)))))) .n))
def law27_great.wp(a0 a1 a2:Int)(a3:Bool)(a4:Int)(a5:ByteArray)(a6 a7 a8 a9 a10:Option Addr×Nat×Nat)(w:World)(R:TR r0'→WP):Prop:=
Bf [iV a0,iV a1,iV a2,.bool a3,.int .u32 a4,.string a5,.slice a6.1 a6.2.1 a6.2.2,.slice a7.1 a7.2.1 a7.2.2,.slice a8.1 a8.2.1 a8.2.2,.slice a9.1 a9.2.1 a9.2.2,.slice a10.1 a10.2.1 a10.2.2] T.law27_Act w fun p1 w2=>
A8 xP (p1.add 7) 0 w2 fun x3=>
Bf Vy T.U0 w2 fun p4 w5=>
Au (encs xP x3) p4 0 w5 fun w6=>
ld1 .sl (p1.add 6) w6 fun x7=>
Aj (decide ((x7.2.1:Int)>200)) (
R ((true,()),()) w6) (
ld1 .s (p1.add 5) w6 fun x8=>
Aj (decide ((x8.size:Int)>100)) (
R ((true,()),()) w6) (
ld1 .sl p4 w6 fun x9=>
Aj (decide ((x9.2.1:Int)>100)) (
R ((true,()),()) w6) (
ld1 .sl (p4.add 1) w6 fun x10=>
Aj (decide ((x10.2.1:Int)>100)) (
R ((true,()),()) w6) (
ld1 .sl (p4.add 2) w6 fun x11=>
Aj (decide ((x11.2.1:Int)>100)) (
R ((true,()),()) w6) (
ld1 .sl (p4.add 3) w6 fun x12=>
R ((decide ((x12.2.1:Int)>100),()),()) w6)))))
theorem law27_great.ok{a0 a1 a2:Int}{a3:Bool}{a4:Int}{a5:ByteArray}{a6 a7 a8 a9 a10:Option Addr×Nat×Nat}{w:World}{R:TR r0'→WP}:law27_great.wp a0 a1 a2 a3 a4 a5 a6 a7 a8 a9 a10 w R→Ae prog F.law27_great [.agg #[iV a0,iV a1,iV a2,.bool a3,.int .u32 a4,.string a5,.slice a6.1 a6.2.1 a6.2.2,.slice a7.1 a7.2.1 a7.2.2,.slice a8.1 a8.2.1 a8.2.2,.slice a9.1 a9.2.1 a9.2.2,.slice a10.1 a10.2.1 a10.2.2]] w false r0' R:=
  oks Aa Tryz.func27 .n
def Cf.wp(n:Option Addr)(i k:Int)(on_:Bool)(w:World)(R:TR iT→WP):Prop:=
Aj (Option.isNone n) (
R ((2,()),()) w) (
Aq n fun a1=>
ld1 .p (a1.add 11) w fun x2=>
Ae prog F.Ht [.pointer x2,iV i,iV k,.bool on_] w false iT fun r3 w4=>
R ((r3.1.1,()),()) w4)
theorem Cf.ok{n:Option Addr}{i k:Int}{on_:Bool}{w:World}{R:TR iT→WP}:Cf.wp n i k on_ w R→Ae prog F.Cf [.pointer n,iV i,iV k,.bool on_] w false iT R:=
  oks Aa Tryz.func28 .n
def Ce.wp(n:Option Addr)(c0 c1 c2 c3:Option Addr×Nat×Nat)(w:World)(R:TR iT→WP):Prop:=
Bf [.slice c0.1 c0.2.1 c0.2.2,.slice c1.1 c1.2.1 c1.2.2,.slice c2.1 c2.2.1 c2.2.2,.slice c3.1 c3.2.1 c3.2.2] T.V4 w fun p1 w2=>
A8 xP p1 0 w2 fun x3=>
Ae prog F.Iz [.pointer n,Sv xP x3] w2 false iT fun r4 w5=>
Aj (r4.1.1 !=0) (
R ((r4.1.1,()),()) w5) (
Aq n fun a6=>
ld1 .sl (a6.add 12) w5 fun x7=>
Ci (fun(self8:((Int)×Unit)→WP) (z9:(Int)×Unit) w10=> ∀_:Nat→Value,
Aj (decide (z9.1<(x7.2.1:Int))) (
Ny x7.1 x7.2.1 z9.1 fun a11=>
ld1 .p (a11.add (z9.1.toNat*1)) w10 fun x12=>
ld1 .sl p1 w10 fun x13=>
Ny x13.1 x13.2.1 z9.1 fun a14=>
ld1 KI (a14.add (z9.1.toNat*1)) w10 fun x15=>
Ae prog F.Lr [.pointer x12,iV x15] w10 false iT fun r16 w17=>
self8 (wrap .i64 (z9.1+1),()) w17) (
A8 xP p1 0 w10 fun x18=>
Ae prog F.Mc [.pointer n,Sv xP x18] w10 false dH fun r19 w20=>
Jg w20 fun w21=>
Aq n fun a22=>
ld1 .p (a22.add 11) w21 fun x23=>
Aq n fun a24=>
ld1 (.i .u64) (a24.add 14) w21 fun x25=>
ld1 .sl (p1.add 3) w21 fun x26=>
Ae prog F.Jd [.pointer n] w21 false aT fun r27 w28=>
A7 [hd 12 (p1.add 3) w21,hd 8 (a24.add 14) w21,hd 4 (a22.add 11) w21] w28∧(
Ae prog F.Ov [.pointer x23,.int .u64 x25,.int .u64 r27.1.1,.slice x26.1 x26.2.1 x26.2.2] w28 false dH fun r29 w30=>
A7 [] w30∧(
Aq n fun a31=>
Au [.slice r29.1.1.1 r29.1.1.2.1 r29.1.1.2.2] (a31.add 15) 0 w30 fun w32=>
A7 [] w32∧(
Aq n fun a33=>
ld1 .sl (a33.add 15) w32 fun x34=>
Ci (fun(self35:((Int)×Unit)→WP) (z36:(Int)×Unit) w37=> ∀_:Nat→Value,
Aj (decide (z36.1<(x34.2.1:Int))) (
Ny x34.1 x34.2.1 z36.1 fun a38=>
A8 [KI,KI] (a38.add (z36.1.toNat*2)) 0 w37 fun x39=>
Bf [iV 0,iV 0] T.P6 w37 fun p40 w41=>
Au [iV x39.1,iV x39.2.1] p40 0 w41 fun w42=>
ld1 KI (p40.add 1) w42 fun x43=>
Aj (x43 !=1) (
self35 (wrap .i64 (z36.1+1),()) w42) (
ld1 KI p40 w42 fun x44=>
Ny r19.1.1.1 r19.1.1.2.1 x44 fun a45=>
ld1 .sl (a45.add (x44.toNat*1)) w42 fun x46=>
Ci (fun(self47:((Int)×Unit)→WP) (z48:(Int)×Unit) w49=> ∀_:Nat→Value,
Aj (decide (z48.1<(x46.2.1:Int))) (
Ny x46.1 x46.2.1 z48.1 fun a50=>
ld1 .sl (a50.add (z48.1.toNat*1)) w49 fun x51=>
Jg w49 fun w52=>
Aq n fun a53=>
ld1 .sl (a53.add 12) w52 fun x54=>
Ny x54.1 x54.2.1 z36.1 fun a55=>
ld1 .p (a55.add (z36.1.toNat*1)) w52 fun x56=>
ld1 .sl (p1.add 2) w52 fun x57=>
Ny x57.1 x57.2.1 z36.1 fun a58=>
ld1 KI (a58.add (z36.1.toNat*1)) w52 fun x59=>
Ae prog F.Ia [.pointer x56,iV x59,.slice x51.1 x51.2.1 x51.2.2] w52 false iT fun r60 w61=>
A7 [hd 8 (p1.add 2) w52,hd 3 (a53.add 12) w52] w61∧(
self47 (wrap .i64 (z48.1+1),()) w61)) (
self35 (wrap .i64 (z36.1+1),()) w49)) (0,()) w42)) (
Aq n fun a62=>
ld1 KI (a62.add 13) w37 fun x63=>
Aq n fun a64=>
Au [iV (wrap .i64 (x63+1))] (a64.add 13) 0 w37 fun w65=>
R ((0,()),()) w65)) (0,()) w32))))) (0,()) w5)
theorem Ce.ok{n:Option Addr}{c0 c1 c2 c3:Option Addr×Nat×Nat}{w:World}{R:TR iT→WP}:Ce.wp n c0 c1 c2 c3 w R→Ae prog F.Ce [.pointer n,.agg #[.slice c0.1 c0.2.1 c0.2.2,.slice c1.1 c1.2.1 c1.2.2,.slice c2.1 c2.2.1 c2.2.2,.slice c3.1 c3.2.1 c3.2.2]] w false iT R:=
  oks Aa Tryz.func29 (hs 2 (.s (.s .n (.lp [(24,(.i .i64))] .n)) (.s .n (.s (.pl (ks [0,1,2,3,4,5,6,7,8,9,11,12] (.ef 10 [] (.ef 13 [4,8,12] (.tk 14 (.tk 15 (.ef 16 [] .z))))))) (.s (.s .n (.lp [(61,(.i .i64))] (hs 2 (.s (hs 3 (.lp [(75,(.i .i64))] (hs 2 (.s (.s .n (.pl (ks [0,1,2,3,4,5,6,7,8,9,10,11,12] (.ef 13 [6,11] .z)))) .n)))) .n)))) .n)))))
def Dv.wp(n:Option Addr)(w:World)(R:TR aT→WP):Prop:=
Aj (Option.isNone n) (
R ((0,()),()) w) (
Aq n fun a1=>
ld1 (.i .u64) (a1.add 14) w fun x2=>
R ((x2,()),()) w)
theorem Dv.ok{n:Option Addr}{w:World}{R:TR aT→WP}:Dv.wp n w R→Ae prog F.Dv [.pointer n] w false aT R:=
  oks Aa Tryz.func31 .n
def Jv.wp(n:Option Addr)(w:World)(R:TR dH→WP):Prop:=
Aj (Option.isNone n) (
R (((none,0,0),()),()) w) (
Aq n fun a1=>
ld1 .sl (a1.add 15) w fun x2=>
L9 ((Builtin.append_ #[T.O5,T.O5] T.O5 #[.slice none 0 0,.slice x2.1 x2.2.1 x2.2.2]).run prog w) fun y3 w4=>
R (((y3.1,y3.2.1,y3.2.2),()),()) w4)
theorem Jv.ok{n:Option Addr}{w:World}{R:TR dH→WP}:Jv.wp n w R→Ae prog F.Jv [.pointer n] w false dH R:=
  oks Aa Tryz.func32 .n
def Dq.wp(n:Option Addr)(i:Int)(w:World)(R:TR oI→WP):Prop:=
Bf dE T.Bg w fun p1 w2=>
Ae prog F.Ec [.pointer n,iV i] w2 false iT fun r3 w4=>
Aj (r3.1.1 !=0) (
Au dE p1 0 w4 fun w5=>
A8 Tu p1 0 w5 fun x6=>
R (x6,(r3.1.1,()),()) w5) (
Aq n fun a7=>
ld1 .sl (a7.add 12) w4 fun x8=>
Ny x8.1 x8.2.1 i fun a9=>
ld1 .p (a9.add (i.toNat*1)) w4 fun x10=>
Ae prog F.D6 [.pointer x10] w4 true oI fun r11 w12=>
Au (encs Tu r11.1) p1 0 w12 fun w13=>
A8 Tu p1 0 w13 fun x14=>
R (x14,(r11.2.1.1,()),()) w13)
theorem Dq.ok{n:Option Addr}{i:Int}{w:World}{R:TR oI→WP}:Dq.wp n i w R→Ae prog F.Dq [.pointer n,iV i] w true oI R:=
  oks Aa Tryz.func33 .n
def D7.wp(n:Option Addr)(i raw:Int)(w:World)(R:TR iT→WP):Prop:=
Ae prog F.Ec [.pointer n,iV i] w false iT fun r1 w2=>
Aj (r1.1.1 !=0) (
R ((r1.1.1,()),()) w2) (
Aq n fun a3=>
ld1 .sl (a3.add 12) w2 fun x4=>
Ny x4.1 x4.2.1 i fun a5=>
ld1 .p (a5.add (i.toNat*1)) w2 fun x6=>
Ae prog F.Ji [.pointer x6,.int .u32 raw] w2 false iT fun r7 w8=>
R ((r7.1.1,()),()) w8)
theorem D7.ok{n:Option Addr}{i raw:Int}{w:World}{R:TR iT→WP}:D7.wp n i raw w R→Ae prog F.D7 [.pointer n,iV i,.int .u32 raw] w false iT R:=
  oks Aa Tryz.func34 .n
def Gy.wp(n:Option Addr)(i:Int)(w:World)(R:TR iT→WP):Prop:=
Ae prog F.Ec [.pointer n,iV i] w false iT fun r1 w2=>
Aj (r1.1.1 !=0) (
R ((r1.1.1,()),()) w2) (
Aq n fun a3=>
ld1 .sl (a3.add 12) w2 fun x4=>
Ny x4.1 x4.2.1 i fun a5=>
ld1 .p (a5.add (i.toNat*1)) w2 fun x6=>
Ae prog F.Qg [.pointer x6] w2 false iT fun r7 w8=>
R ((r7.1.1,()),()) w8)
theorem Gy.ok{n:Option Addr}{i:Int}{w:World}{R:TR iT→WP}:Gy.wp n i w R→Ae prog F.Gy [.pointer n,iV i] w false iT R:=
  oks Aa Tryz.func35 .n
def Gz.wp(n:Option Addr)(i tai:Int)(w:World)(R:TR iT→WP):Prop:=
Ae prog F.Ec [.pointer n,iV i] w false iT fun r1 w2=>
Aj (r1.1.1 !=0) (
R ((r1.1.1,()),()) w2) (
Aq n fun a3=>
ld1 .sl (a3.add 12) w2 fun x4=>
Ny x4.1 x4.2.1 i fun a5=>
ld1 .p (a5.add (i.toNat*1)) w2 fun x6=>
Ae prog F.Qc [.pointer x6,iV tai] w2 false iT fun r7 w8=>
R ((r7.1.1,()),()) w8)
theorem Gz.ok{n:Option Addr}{i tai:Int}{w:World}{R:TR iT→WP}:Gz.wp n i tai w R→Ae prog F.Gz [.pointer n,iV i,iV tai] w false iT R:=
  oks Aa Tryz.func36 .n
def Eg.wp(n:Option Addr)(i:Int)(b:Option Addr×Nat×Nat)(w:World)(R:TR iT→WP):Prop:=
Ae prog F.Ec [.pointer n,iV i] w false iT fun r1 w2=>
Aj (r1.1.1 !=0) (
R ((r1.1.1,()),()) w2) (
Ae prog F.Ru [.slice b.1 b.2.1 b.2.2] w2 true Ajz fun r3 w4=>
Aj (r3.2.1.1==0) (
R ((1,()),()) w4) (
Aq n fun a5=>
ld1 .sl (a5.add 12) w4 fun x6=>
Ny x6.1 x6.2.1 i fun a7=>
ld1 .p (a7.add (i.toNat*1)) w4 fun x8=>
Ae prog F.Ia [.pointer x8,iV 0,.slice b.1 b.2.1 b.2.2] w4 false iT fun r9 w10=>
R ((r9.1.1,()),()) w10))
theorem Eg.ok{n:Option Addr}{i:Int}{b:Option Addr×Nat×Nat}{w:World}{R:TR iT→WP}:Eg.wp n i b w R→Ae prog F.Eg [.pointer n,iV i,.slice b.1 b.2.1 b.2.2] w false iT R:=
  oks Aa Tryz.func37 .n
def law27_twice.wp(a b:Option Addr)(x0 x1 x2:Int)(x3:Bool)(x4:Int)(x5:ByteArray)(x6 x7 x8 x9 x10:Option Addr×Nat×Nat)(w:World)(R:TR r0'→WP):Prop:=
Bf [iV x0,iV x1,iV x2,.bool x3,.int .u32 x4,.string x5,.slice x6.1 x6.2.1 x6.2.2,.slice x7.1 x7.2.1 x7.2.2,.slice x8.1 x8.2.1 x8.2.2,.slice x9.1 x9.2.1 x9.2.2,.slice x10.1 x10.2.1 x10.2.2] T.law27_Act w fun p1 w2=>
ld1 KI p1 w2 fun x11=>
Aj (x11==0) (
Jg w2 fun w12=>
ld1 KI (p1.add 1) w12 fun x13=>
ld1 KI (p1.add 2) w12 fun x14=>
ld1 .b (p1.add 3) w12 fun x15=>
ld1 KI (p1.add 1) w12 fun x16=>
ld1 KI (p1.add 2) w12 fun x17=>
ld1 .b (p1.add 3) w12 fun x18=>
Ae prog F.Cf [.pointer a,iV x13,iV x14,.bool x15] w12 false iT fun r19 w20=>
A7 [hd 14 (p1.add 3) w12,hd 12 (p1.add 2) w12,hd 10 (p1.add 1) w12,hd 6 (p1.add 3) w12,hd 4 (p1.add 2) w12,hd 2 (p1.add 1) w12] w20∧(
Ae prog F.Cf [.pointer b,iV x16,iV x17,.bool x18] w20 false iT fun r21 w22=>
A7 [hd 6 (p1.add 3) w12,hd 4 (p1.add 2) w12,hd 2 (p1.add 1) w12] w22∧(
R (((r19.1.1==r21.1.1),()),()) w22))) (
Aj (x11==1) (
Jg w2 fun w23=>
ld1 KI (p1.add 1) w23 fun x24=>
ld1 (.i .u32) (p1.add 4) w23 fun x25=>
ld1 KI (p1.add 1) w23 fun x26=>
ld1 (.i .u32) (p1.add 4) w23 fun x27=>
Ae prog F.D7 [.pointer a,iV x24,.int .u32 x25] w23 false iT fun r28 w29=>
A7 [hd 10 (p1.add 4) w23,hd 8 (p1.add 1) w23,hd 4 (p1.add 4) w23,hd 2 (p1.add 1) w23] w29∧(
Ae prog F.D7 [.pointer b,iV x26,.int .u32 x27] w29 false iT fun r30 w31=>
A7 [hd 4 (p1.add 4) w23,hd 2 (p1.add 1) w23] w31∧(
R (((r28.1.1==r30.1.1),()),()) w31))) (
Aj (x11==2) (
Jg w2 fun w32=>
ld1 KI (p1.add 1) w32 fun x33=>
ld1 KI (p1.add 1) w32 fun x34=>
Ae prog F.Gy [.pointer a,iV x33] w32 false iT fun r35 w36=>
A7 [hd 6 (p1.add 1) w32,hd 2 (p1.add 1) w32] w36∧(
Ae prog F.Gy [.pointer b,iV x34] w36 false iT fun r37 w38=>
A7 [hd 2 (p1.add 1) w32] w38∧(
R (((r35.1.1==r37.1.1),()),()) w38))) (
Cc (fun(J39:((Bool)×Unit)→WP)=>
Aj (x11==3) (
J39 ((x11==3),()) w2) (
Aj (x11==4) (
J39 ((x11==4),()) w2) (
Aj (x11==5) (
J39 ((x11==5),()) w2) (
J39 ((x11==6),()) w2)))) (fun(z40:(Bool)×Unit) w41=> ∀_:Nat→Value,
Aj z40.1 (
Jg w41 fun w42=>
A8 xP (p1.add 7) 0 w42 fun x43=>
A8 xP (p1.add 7) 0 w42 fun x44=>
Ae prog F.law27_choice [Sv xP x43] w42 false r7' fun r45 w46=>
A7 [hd 7 ((p1.add 7).add 0) w42,hd 7 ((p1.add 7).add 1) w42,hd 7 ((p1.add 7).add 2) w42,hd 7 ((p1.add 7).add 3) w42,hd 2 ((p1.add 7).add 0) w42,hd 2 ((p1.add 7).add 1) w42,hd 2 ((p1.add 7).add 2) w42,hd 2 ((p1.add 7).add 3) w42] w46∧(
Ae prog F.Ce [.pointer a,Sv xP r45.1] w46 false iT fun r47 w48=>
A7 [hd 7 ((p1.add 7).add 0) w42,hd 7 ((p1.add 7).add 1) w42,hd 7 ((p1.add 7).add 2) w42,hd 7 ((p1.add 7).add 3) w42,hd 2 ((p1.add 7).add 0) w42,hd 2 ((p1.add 7).add 1) w42,hd 2 ((p1.add 7).add 2) w42,hd 2 ((p1.add 7).add 3) w42] w48∧(
Ae prog F.law27_choice [Sv xP x44] w48 false r7' fun r49 w50=>
A7 [hd 7 ((p1.add 7).add 0) w42,hd 7 ((p1.add 7).add 1) w42,hd 7 ((p1.add 7).add 2) w42,hd 7 ((p1.add 7).add 3) w42,hd 2 ((p1.add 7).add 0) w42,hd 2 ((p1.add 7).add 1) w42,hd 2 ((p1.add 7).add 2) w42,hd 2 ((p1.add 7).add 3) w42] w50∧(
Ae prog F.Ce [.pointer b,Sv xP r49.1] w50 false iT fun r51 w52=>
A7 [hd 7 ((p1.add 7).add 0) w42,hd 7 ((p1.add 7).add 1) w42,hd 7 ((p1.add 7).add 2) w42,hd 7 ((p1.add 7).add 3) w42,hd 2 ((p1.add 7).add 0) w42,hd 2 ((p1.add 7).add 1) w42,hd 2 ((p1.add 7).add 2) w42,hd 2 ((p1.add 7).add 3) w42] w52∧(
R (((r47.1.1==r51.1.1),()),()) w52))))) (
Aj (x11==9) (
Jg w41 fun w53=>
ld1 KI (p1.add 1) w53 fun x54=>
ld1 KI (p1.add 2) w53 fun x55=>
ld1 KI (p1.add 1) w53 fun x56=>
ld1 KI (p1.add 2) w53 fun x57=>
Ae prog F.Gz [.pointer a,iV x54,iV x55] w53 false iT fun r58 w59=>
A7 [hd 10 (p1.add 2) w53,hd 8 (p1.add 1) w53,hd 4 (p1.add 2) w53,hd 2 (p1.add 1) w53] w59∧(
Ae prog F.Gz [.pointer b,iV x56,iV x57] w59 false iT fun r60 w61=>
A7 [hd 4 (p1.add 2) w53,hd 2 (p1.add 1) w53] w61∧(
R (((r58.1.1==r60.1.1),()),()) w61))) (
Aj (x11==10) (
Jg w41 fun w62=>
ld1 KI (p1.add 1) w62 fun x63=>
ld1 .sl (p1.add 6) w62 fun x64=>
ld1 KI (p1.add 1) w62 fun x65=>
ld1 .sl (p1.add 6) w62 fun x66=>
Ae prog F.Eg [.pointer a,iV x63,.slice x64.1 x64.2.1 x64.2.2] w62 false iT fun r67 w68=>
A7 [hd 10 (p1.add 6) w62,hd 8 (p1.add 1) w62,hd 4 (p1.add 6) w62,hd 2 (p1.add 1) w62] w68∧(
Ae prog F.Eg [.pointer b,iV x65,.slice x66.1 x66.2.1 x66.2.2] w68 false iT fun r69 w70=>
A7 [hd 4 (p1.add 6) w62,hd 2 (p1.add 1) w62] w70∧(
R (((r67.1.1==r69.1.1),()),()) w70))) (
R ((true,()),()) w41)))))))
theorem law27_twice.ok{a b:Option Addr}{x0 x1 x2:Int}{x3:Bool}{x4:Int}{x5:ByteArray}{x6 x7 x8 x9 x10:Option Addr×Nat×Nat}{w:World}{R:TR r0'→WP}:law27_twice.wp a b x0 x1 x2 x3 x4 x5 x6 x7 x8 x9 x10 w R→Ae prog F.law27_twice [.pointer a,.pointer b,.agg #[iV x0,iV x1,iV x2,.bool x3,.int .u32 x4,.string x5,.slice x6.1 x6.2.1 x6.2.2,.slice x7.1 x7.2.1 x7.2.2,.slice x8.1 x8.2.1 x8.2.2,.slice x9.1 x9.2.1 x9.2.2,.slice x10.1 x10.2.1 x10.2.2]] w false r0' R:=
  oks Aa Tryz.func38 (.s .n (.s (hs 2 (.s (.s (.pl (ks [0,1,2,3,4,5,6,8,9,10,11,12,13,14] (.ef 7 [] (.ef 15 [10,12,14] (.tk 16 (.tk 17 .z)))))) .n) (.s .n (.s (.s (.pl (ks [0,1,2,3,4,6,7,8,9,10] (.ef 5 [] (.ef 11 [8,10] (.tk 12 (.tk 13 .z)))))) .n) (.s .n (.s (.s (.pl (ks [0,1,2,4,5,6] (.ef 3 [] (.ef 7 [6] (.tk 8 (.tk 9 .z)))))) .n) (.ct [(54,.b)] .n (.s (.s (.pl (ks [0,1,2,5,6,7] (.ef 3 [] (.ef 4 [] (.ef 8 [] (.ef 9 [] (.tk 10 (.tk 11 .z)))))))) .n) (.s .n (.s (.s (.pl (ks [0,1,2,3,4,6,7,8,9,10] (.ef 5 [] (.ef 11 [8,10] (.tk 12 (.tk 13 .z)))))) .n) (.s .n (.s (.s (.pl (ks [0,1,2,3,4,6,7,8,9,10] (.ef 5 [] (.ef 11 [8,10] (.tk 12 (.tk 13 .z)))))) .n) .n)))))))))))) .n))
def Amb.wp(s0 s1 s2 s3 s4 s5 s6 s7 s8 s9:Int)(s10:Option Addr×Nat×Nat)(w:World)(R:TR Arw→WP):Prop:=
Bf [iV s0,iV s1,iV s2,iV s3,iV s4,iV s5,iV s6,iV s7,iV s8,iV s9,.slice s10.1 s10.2.1 s10.2.2] T.J8 w fun p1 w2=>
A8 k0' p1 0 w2 fun x3=>
ld1 KI p1 w2 fun x4=>
Bf ([iV x4]++List.replicate 4096 (.bool false)) T.lH w2 fun p5 w6=>
Bf [iV x3.1,iV x3.2.1,iV x3.2.2.1,iV x3.2.2.2.1,iV x3.2.2.2.2.1,iV x3.2.2.2.2.2.1,iV x3.2.2.2.2.2.2.1,iV x3.2.2.2.2.2.2.2.1,iV x3.2.2.2.2.2.2.2.2.1,iV x3.2.2.2.2.2.2.2.2.2.1,.slice x3.2.2.2.2.2.2.2.2.2.2.1.1 x3.2.2.2.2.2.2.2.2.2.2.1.2.1 x3.2.2.2.2.2.2.2.2.2.2.1.2.2,.pointer (some p5),.slice none 0 0,iV 0,.int .u64 0,.slice none 0 0,.slice none 0 0] T.Ae6 w6 fun p7 w8=>
Ci (fun(self9:((Int)×Unit)→WP) (z10:(Int)×Unit) w11=> ∀_:Nat→Value,
ld1 KI p1 w11 fun x12=>
Aj (decide (z10.1<x12)) (
Jg w11 fun w13=>
ld1 .sl (p7.add 12) w13 fun x14=>
A8 k0' p1 0 w13 fun x15=>
Ae prog F.Oy [Sv k0' x15,iV z10.1] w13 false r5' fun r16 w17=>
A7 [hd 5 (p1.add 0) w13,hd 5 (p1.add 1) w13,hd 5 (p1.add 2) w13,hd 5 (p1.add 3) w13,hd 5 (p1.add 4) w13,hd 5 (p1.add 5) w13,hd 5 (p1.add 6) w13,hd 5 (p1.add 7) w13,hd 5 (p1.add 8) w13,hd 5 (p1.add 9) w13,hd 5 (p1.add 10) w13,hd 4 (p7.add 12) w13] w17∧(
Ae prog F.Hm [Sv k2' r16.1] w17 false Arw fun r18 w19=>
A7 [hd 5 (p1.add 0) w13,hd 5 (p1.add 1) w13,hd 5 (p1.add 2) w13,hd 5 (p1.add 3) w13,hd 5 (p1.add 4) w13,hd 5 (p1.add 5) w13,hd 5 (p1.add 6) w13,hd 5 (p1.add 7) w13,hd 5 (p1.add 8) w13,hd 5 (p1.add 9) w13,hd 5 (p1.add 10) w13,hd 4 (p7.add 12) w13] w19∧(
Bf [.pointer r18.1.1] T.Bz w19 fun p20 w21=>
A7 [hd 5 (p1.add 0) w13,hd 5 (p1.add 1) w13,hd 5 (p1.add 2) w13,hd 5 (p1.add 3) w13,hd 5 (p1.add 4) w13,hd 5 (p1.add 5) w13,hd 5 (p1.add 6) w13,hd 5 (p1.add 7) w13,hd 5 (p1.add 8) w13,hd 5 (p1.add 9) w13,hd 5 (p1.add 10) w13,hd 4 (p7.add 12) w13] w21∧(
L9 ((Builtin.append_ #[T.Dn,T.Dn] T.Dn #[.slice x14.1 x14.2.1 x14.2.2,.slice (some p20) 1 1]).run prog w21) fun y22 w23=>
A7 [hd 5 (p1.add 0) w13,hd 5 (p1.add 1) w13,hd 5 (p1.add 2) w13,hd 5 (p1.add 3) w13,hd 5 (p1.add 4) w13,hd 5 (p1.add 5) w13,hd 5 (p1.add 6) w13,hd 5 (p1.add 7) w13,hd 5 (p1.add 8) w13,hd 5 (p1.add 9) w13,hd 5 (p1.add 10) w13] w23∧(
Au [.slice y22.1 y22.2.1 y22.2.2] (p7.add 12) 0 w23 fun w24=>
A7 [] w24∧(
self9 (wrap .i64 (z10.1+1),()) w24)))))) (
R ((some p7,()),()) w11)) (0,()) w8
theorem Amb.ok{s0 s1 s2 s3 s4 s5 s6 s7 s8 s9:Int}{s10:Option Addr×Nat×Nat}{w:World}{R:TR Arw→WP}:Amb.wp s0 s1 s2 s3 s4 s5 s6 s7 s8 s9 s10 w R→Ae prog F.Amb [.agg #[iV s0,iV s1,iV s2,iV s3,iV s4,iV s5,iV s6,iV s7,iV s8,iV s9,.slice s10.1 s10.2.1 s10.2.2]] w false Arw R:=
  oks Aa Tryz.func39 (hs 2 (.s (.s .n (.lp [(4,(.i .i64))] (.s .n (.s (.pl (ks [0,1,2,3,4,5,6] (.ef 7 [] (.ef 8 [] (.ef 9 [] (.ef 10 [4] (.tk 11 (.tk 12 (.ef 13 [5] .z))))))))) .n)))) .n))
def Aak.wp(l:Option Addr)(i k:Int)(on_:Bool)(w:World)(R:TR iT→WP):Prop:=
Aj (decide (i<0)) (
R ((1,()),()) w) (
Aj (decide (k<0)) (
R ((1,()),()) w) (
Aq l fun a1=>
ld1 KI a1 w fun x2=>
Aj (decide (i≥x2)) (
R ((1,()),()) w) (
Aq l fun a3=>
ld1 KI a3 w fun x4=>
Aj (decide (k≥x4)) (
R ((1,()),()) w) (
Aj (i==k) (
R ((1,()),()) w) (
Aq l fun a5=>
Ny (some (a5.add 1)) 64 i fun a6=>
Ny (some (a6.add (i.toNat*64))) 64 k fun a7=>
Au [.bool on_] (a7.add (k.toNat*1)) 0 w fun w8=>
Aq l fun a9=>
Ny (some (a9.add 1)) 64 k fun a10=>
Ny (some (a10.add (k.toNat*64))) 64 i fun a11=>
Au [.bool on_] (a11.add (i.toNat*1)) 0 w8 fun w12=>
R ((0,()),()) w12)))))
theorem Aak.ok{l:Option Addr}{i k:Int}{on_:Bool}{w:World}{R:TR iT→WP}:Aak.wp l i k on_ w R→Ae prog F.Aak [.pointer l,iV i,iV k,.bool on_] w false iT R:=
  oks Aa Tryz.func40 .n
def Jz.wp(n:Option Addr)(i:Int)(label:ByteArray)(w:World)(R:TR xB→WP):Prop:=
Ae prog F.Ec [.pointer n,iV i] w false iT fun r1 w2=>
Aj (r1.1.1 !=0) (
R ((0,()),(r1.1.1,()),()) w2) (
Aq n fun a3=>
ld1 .sl (a3.add 12) w2 fun x4=>
Ny x4.1 x4.2.1 i fun a5=>
ld1 .p (a5.add (i.toNat*1)) w2 fun x6=>
Ae prog F.Qj [.pointer x6,.string label] w2 true xB fun r7 w8=>
R ((r7.1.1,()),(r7.2.1.1,()),()) w8)
theorem Jz.ok{n:Option Addr}{i:Int}{label:ByteArray}{w:World}{R:TR xB→WP}:Jz.wp n i label w R→Ae prog F.Jz [.pointer n,iV i,.string label] w true xB R:=
  oks Aa Tryz.func41 .n
def Ot.wp(s0 s1 s2 s3 s4 s5 s6 s7 s8 s9:Int)(s10:Bool)(w:World)(R:TR r0'→WP):Prop:=
Bf [iV s0,iV s1,iV s2,iV s3,iV s4,iV s5,iV s6,iV s7,iV s8,iV s9,.bool s10] T.Xj w fun p1 w2=>
ld1 KI p1 w2 fun x3=>
ld1 KI (p1.add 1) w2 fun x4=>
ld1 KI (p1.add 2) w2 fun x5=>
ld1 KI (p1.add 3) w2 fun x6=>
ld1 KI (p1.add 4) w2 fun x7=>
Ae prog F.Vq [iV x3,iV x4,iV x5,iV x6,iV x7] w2 false r0' fun r8 w9=>
Aj r8.1.1 (
A8 k2' p1 0 w9 fun x10=>
Ae prog F.Jy [Sv k2' x10] w9 false Ajw fun r11 w12=>
Ae prog F.U3 [Sv Aab r11.1] w12 false r0' fun r13 w14=>
Aj r13.1.1 (
ld1 KI (p1.add 8) w14 fun x15=>
Aj (decide (x15≥1)) (
ld1 KI (p1.add 8) w14 fun x16=>
ld1 KI (p1.add 1) w14 fun x17=>
Aj (decide (x16≤x17)) (
ld1 KI (p1.add 9) w14 fun x18=>
Aj (decide (x18≥0)) (
ld1 KI (p1.add 9) w14 fun x19=>
R ((decide (x19≤20),()),()) w14) (
R ((false,()),()) w14)) (
R ((false,()),()) w14)) (
R ((false,()),()) w14)) (
R ((false,()),()) w14)) (
R ((false,()),()) w9)
theorem Ot.ok{s0 s1 s2 s3 s4 s5 s6 s7 s8 s9:Int}{s10:Bool}{w:World}{R:TR r0'→WP}:Ot.wp s0 s1 s2 s3 s4 s5 s6 s7 s8 s9 s10 w R→Ae prog F.Ot [.agg #[iV s0,iV s1,iV s2,iV s3,iV s4,iV s5,iV s6,iV s7,iV s8,iV s9,.bool s10]] w false r0' R:=
  oks Aa Tryz.func50 .n
def Pi.wp(n:Int)(w:World)(R:TR r2'→WP):Prop:=
Aj (decide (n<1)) (
R ((none,()),(1,()),()) w) (
Aj (decide (n>64)) (
R ((none,()),(1,()),()) w) (
L9 ((Instr.makeSlice T.Ux (iV n) (iV n)).run prog w) fun y1 w2=>
Bf [iV n,.slice y1.1 y1.2.1 y1.2.2] T.Ahf w2 fun p3 w4=>
R ((some p3,()),(0,()),()) w4))
theorem Pi.ok{n:Int}{w:World}{R:TR r2'→WP}:Pi.wp n w R→Ae prog F.Pi [iV n] w true r2' R:=
  oks Aa Tryz.func51 .n
def Uz.wp(s0 s1 s2 s3 s4 s5 s6 s7 s8 s9:Int)(s10:Bool)(leaps:Option Addr)(w:World)(R:TR r2'→WP):Prop:=
Bf [iV s0,iV s1,iV s2,iV s3,iV s4,iV s5,iV s6,iV s7,iV s8,iV s9,.bool s10] T.jP w fun p1 w2=>
A8 k2' p1 0 w2 fun x3=>
Ae prog F.Nq [Sv k2' x3] w2 false r0' fun r4 w5=>
Aj (!r4.1.1) (
R ((none,()),(1,()),()) w5) (
Jg w5 fun w6=>
A8 k2' p1 0 w6 fun x7=>
Ae prog F.Wl [] w6 false Arw fun r8 w9=>
A7 [hd 0 (p1.add 0) w6,hd 0 (p1.add 1) w6,hd 0 (p1.add 2) w6,hd 0 (p1.add 3) w6,hd 0 (p1.add 4) w6,hd 0 (p1.add 5) w6,hd 0 (p1.add 6) w6,hd 0 (p1.add 7) w6,hd 0 (p1.add 8) w6,hd 0 (p1.add 9) w6,hd 0 (p1.add 10) w6] w9∧(
Bf [iV x7.1,iV x7.2.1,iV x7.2.2.1,iV x7.2.2.2.1,iV x7.2.2.2.2.1,iV x7.2.2.2.2.2.1,iV x7.2.2.2.2.2.2.1,iV x7.2.2.2.2.2.2.2.1,iV x7.2.2.2.2.2.2.2.2.1,iV x7.2.2.2.2.2.2.2.2.2.1,.bool x7.2.2.2.2.2.2.2.2.2.2.1,.pointer leaps,.bool false,uV 0,.pointer none,.pointer none,.pointer none,.pointer none,.pointer none,.bool false,iV 0,uV 0,iV 0,uV 0,iV 0,iV 0,.pointer r8.1.1,.pointer none] T.Ad6 w9 fun p10 w11=>
A7 [hd 0 (p1.add 0) w6,hd 0 (p1.add 1) w6,hd 0 (p1.add 2) w6,hd 0 (p1.add 3) w6,hd 0 (p1.add 4) w6,hd 0 (p1.add 5) w6,hd 0 (p1.add 6) w6,hd 0 (p1.add 7) w6,hd 0 (p1.add 8) w6,hd 0 (p1.add 9) w6,hd 0 (p1.add 10) w6] w11∧(
ld1 KI ((p1.add 1).add 3) w11 fun x12=>
Ae prog F.Xz [iV x12] w11 true r2' fun r13 w14=>
Au [.pointer r13.1.1] (p10.add 14) 0 w14 fun w15=>
ld1 KI p1 w15 fun x16=>
A8 aU (p1.add 1) 0 w15 fun x17=>
Ae prog F.Ui [iV x16,Sv aU x17] w15 true r2' fun r18 w19=>
Au [.pointer r18.1.1] (p10.add 15) 0 w19 fun w20=>
ld1 KI p1 w20 fun x21=>
Ae prog F.Wp [iV x21] w20 true r2' fun r22 w23=>
Au [.pointer r22.1.1] (p10.add 16) 0 w23 fun w24=>
ld1 KI p1 w24 fun x25=>
Ae prog F.Xq [iV x25] w24 true r2' fun r26 w27=>
Au [.pointer r26.1.1] (p10.add 17) 0 w27 fun w28=>
ld1 KI (p1.add 8) w28 fun x29=>
Ae prog F.Vm [iV x29] w28 true r2' fun r30 w31=>
Au [.pointer r30.1.1] (p10.add 18) 0 w31 fun w32=>
Ae prog F.Jc [iV 8] w32 true r2' fun r33 w34=>
Au [.pointer r33.1.1] (p10.add 27) 0 w34 fun w35=>
R ((some p10,()),(0,()),()) w35)))
theorem Uz.ok{s0 s1 s2 s3 s4 s5 s6 s7 s8 s9:Int}{s10:Bool}{leaps:Option Addr}{w:World}{R:TR r2'→WP}:Uz.wp s0 s1 s2 s3 s4 s5 s6 s7 s8 s9 s10 leaps w R→Ae prog F.Uz [.agg #[iV s0,iV s1,iV s2,iV s3,iV s4,iV s5,iV s6,iV s7,iV s8,iV s9,.bool s10],.pointer leaps] w true r2' R:=
  oks Aa Tryz.func52 (hs 2 (.s (.pl (.tk 0 (.tk 1 (.ef 2 [] (.tk 3 (.ef 4 [] (.tk 5 .z))))))) .n))
def Lj.wp(s0 s1 s2 s3 s4 s5 s6 s7 s8 s9:Int)(s10:Option Addr×Nat×Nat)(i:Int)(w:World)(R:TR r5'→WP):Prop:=
Bf [iV s0,iV s1,iV s2,iV s3,iV s4,iV s5,iV s6,iV s7,iV s8,iV s9,.slice s10.1 s10.2.1 s10.2.2] T.mQ w fun p1 w2=>
Bf Aqn T.jP w2 fun p3 w4=>
ld1 KI (p1.add 5) w4 fun x5=>
dF (if 1>x5 then 1 else x5) (
Cc (fun(J6:((Int)×Unit)→WP)=>
ld1 .sl (p1.add 10) w4 fun x9=>
Aj (decide (i<(x9.2.1:Int))) (
ld1 .sl (p1.add 10) w4 fun x10=>
Ny x10.1 x10.2.1 i fun a11=>
ld1 KI (a11.add (i.toNat*1)) w4 fun x12=>
J6 (x12,()) w4) (
J6 (Int.tmod i (if 1>x5 then 1 else x5),()) w4)) (fun(z7:(Int)×Unit) w8=> ∀_:Nat→Value,
A8 aU (p1.add 1) 0 w8 fun x13=>
ld1 KI (p1.add 5) w8 fun x14=>
ld1 KI (p1.add 6) w8 fun x15=>
ld1 KI (p1.add 7) w8 fun x16=>
ld1 KI (p1.add 8) w8 fun x17=>
ld1 KI (p1.add 9) w8 fun x18=>
Au [iV i,iV x13.1,iV x13.2.1,iV x13.2.2.1,iV x13.2.2.2.1,iV x14,iV x15,iV z7.1,iV x16,iV x17,.bool (i==x18)] p3 0 w8 fun w19=>
A8 k2' p3 0 w19 fun x20=>
R (x20,()) w19))
theorem Lj.ok{s0 s1 s2 s3 s4 s5 s6 s7 s8 s9:Int}{s10:Option Addr×Nat×Nat}{i:Int}{w:World}{R:TR r5'→WP}:Lj.wp s0 s1 s2 s3 s4 s5 s6 s7 s8 s9 s10 i w R→Ae prog F.Lj [.agg #[iV s0,iV s1,iV s2,iV s3,iV s4,iV s5,iV s6,iV s7,iV s8,iV s9,.slice s10.1 s10.2.1 s10.2.2],iV i] w false r5' R:=
  oks Aa Tryz.func53 (hs 2 (.ct [(5,(.i .i64))] .n .n))
def Eu.wp(n:Option Addr)(i:Int)(w:World)(R:TR Arw→WP):Prop:=
Aj (Option.isNone n) (
R ((none,()),()) w) (
Aj (decide (i<0)) (
R ((none,()),()) w) (
Aq n fun a1=>
ld1 .sl (a1.add 12) w fun x2=>
Aj (decide (i≥(x2.2.1:Int))) (
R ((none,()),()) w) (
Aq n fun a3=>
ld1 .sl (a3.add 12) w fun x4=>
Ny x4.1 x4.2.1 i fun a5=>
ld1 .p (a5.add (i.toNat*1)) w fun x6=>
R ((x6,()),()) w)))
theorem Eu.ok{n:Option Addr}{i:Int}{w:World}{R:TR Arw→WP}:Eu.wp n i w R→Ae prog F.Eu [.pointer n,iV i] w false Arw R:=
  oks Aa Tryz.func54 .n
def Cb.wp(n:Option Addr)(w:World)(R:TR r3'→WP):Prop:=
Bf z2' T.nK w fun p1 w2=>
Aj (Option.isNone n) (
Au z2' p1 0 w2 fun w3=>
A8 k1' p1 0 w3 fun x4=>
R (x4,()) w3) (
Aq n fun a5=>
ld1 .b (a5.add 12) w2 fun x6=>
Aj (!x6) (
Aq n fun a7=>
ld1 KU (a7.add 13) w2 fun x8=>
Au [.bool false,uV x8,iV 0,iV 0,.bool false,.bool false,iV 0,iV 0,iV 0,.bool false,iV 0,iV 0] p1 0 w2 fun w9=>
A8 k1' p1 0 w9 fun x10=>
R (x10,()) w9) (
Jg w2 fun w11=>
Aq n fun a12=>
ld1 KU (a12.add 13) w11 fun x13=>
Aq n fun a14=>
ld1 .p (a14.add 14) w11 fun x15=>
Aq n fun a16=>
ld1 .p (a16.add 15) w11 fun x17=>
Aq x17 fun a18=>
ld1 .p a18 w11 fun x19=>
Aq n fun a20=>
ld1 .p (a20.add 15) w11 fun x21=>
Aq x21 fun a22=>
ld1 .p a22 w11 fun x23=>
Aq n fun a24=>
ld1 .p (a24.add 15) w11 fun x25=>
Aq n fun a26=>
ld1 .p (a26.add 15) w11 fun x27=>
Aq n fun a28=>
ld1 .p (a28.add 16) w11 fun x29=>
Aq n fun a30=>
ld1 .p (a30.add 16) w11 fun x31=>
Aq n fun a32=>
ld1 .p (a32.add 17) w11 fun x33=>
Aq n fun a34=>
ld1 .p (a34.add 27) w11 fun x35=>
Aq n fun a36=>
ld1 .p (a36.add 26) w11 fun x37=>
Ae prog F.Ez [.pointer x15] w11 false iT fun r38 w39=>
A7 [hd 58 (a36.add 26) w11,hd 53 (a34.add 27) w11,hd 48 (a32.add 17) w11,hd 43 (a30.add 16) w11,hd 38 (a28.add 16) w11,hd 33 (a26.add 15) w11,hd 28 (a24.add 15) w11,hd 23 a22 w11,hd 20 (a20.add 15) w11,hd 15 a18 w11,hd 12 (a16.add 15) w11,hd 7 (a14.add 14) w11,hd 3 (a12.add 13) w11] w39∧(
Ae prog F.Dc [.pointer x19] w39 false iT fun r40 w41=>
A7 [hd 58 (a36.add 26) w11,hd 53 (a34.add 27) w11,hd 48 (a32.add 17) w11,hd 43 (a30.add 16) w11,hd 38 (a28.add 16) w11,hd 33 (a26.add 15) w11,hd 28 (a24.add 15) w11,hd 23 a22 w11,hd 20 (a20.add 15) w11,hd 15 a18 w11,hd 12 (a16.add 15) w11,hd 7 (a14.add 14) w11,hd 3 (a12.add 13) w11] w41∧(
Ae prog F.Bc [.pointer x23] w41 false r0' fun r42 w43=>
A7 [hd 58 (a36.add 26) w11,hd 53 (a34.add 27) w11,hd 48 (a32.add 17) w11,hd 43 (a30.add 16) w11,hd 38 (a28.add 16) w11,hd 33 (a26.add 15) w11,hd 28 (a24.add 15) w11,hd 23 a22 w11,hd 20 (a20.add 15) w11,hd 15 a18 w11,hd 12 (a16.add 15) w11,hd 7 (a14.add 14) w11,hd 3 (a12.add 13) w11] w43∧(
Ae prog F.Ba [.pointer x25] w43 false r0' fun r44 w45=>
A7 [hd 58 (a36.add 26) w11,hd 53 (a34.add 27) w11,hd 48 (a32.add 17) w11,hd 43 (a30.add 16) w11,hd 38 (a28.add 16) w11,hd 33 (a26.add 15) w11,hd 28 (a24.add 15) w11,hd 23 a22 w11,hd 20 (a20.add 15) w11,hd 15 a18 w11,hd 12 (a16.add 15) w11,hd 7 (a14.add 14) w11,hd 3 (a12.add 13) w11] w45∧(
Ae prog F.Hg [.pointer x27] w45 false iT fun r46 w47=>
A7 [hd 58 (a36.add 26) w11,hd 53 (a34.add 27) w11,hd 48 (a32.add 17) w11,hd 43 (a30.add 16) w11,hd 38 (a28.add 16) w11,hd 33 (a26.add 15) w11,hd 28 (a24.add 15) w11,hd 23 a22 w11,hd 20 (a20.add 15) w11,hd 15 a18 w11,hd 12 (a16.add 15) w11,hd 7 (a14.add 14) w11,hd 3 (a12.add 13) w11] w47∧(
Ae prog F.Ja [.pointer x29] w47 false iT fun r48 w49=>
A7 [hd 58 (a36.add 26) w11,hd 53 (a34.add 27) w11,hd 48 (a32.add 17) w11,hd 43 (a30.add 16) w11,hd 38 (a28.add 16) w11,hd 33 (a26.add 15) w11,hd 28 (a24.add 15) w11,hd 23 a22 w11,hd 20 (a20.add 15) w11,hd 15 a18 w11,hd 12 (a16.add 15) w11,hd 7 (a14.add 14) w11,hd 3 (a12.add 13) w11] w49∧(
Ae prog F.En [.pointer x31] w49 false iT fun r50 w51=>
A7 [hd 58 (a36.add 26) w11,hd 53 (a34.add 27) w11,hd 48 (a32.add 17) w11,hd 43 (a30.add 16) w11,hd 38 (a28.add 16) w11,hd 33 (a26.add 15) w11,hd 28 (a24.add 15) w11,hd 23 a22 w11,hd 20 (a20.add 15) w11,hd 15 a18 w11,hd 12 (a16.add 15) w11,hd 7 (a14.add 14) w11,hd 3 (a12.add 13) w11] w51∧(
Ae prog F.Nv [.pointer x33] w51 false r0' fun r52 w53=>
A7 [hd 58 (a36.add 26) w11,hd 53 (a34.add 27) w11,hd 48 (a32.add 17) w11,hd 43 (a30.add 16) w11,hd 38 (a28.add 16) w11,hd 33 (a26.add 15) w11,hd 28 (a24.add 15) w11,hd 23 a22 w11,hd 20 (a20.add 15) w11,hd 15 a18 w11,hd 12 (a16.add 15) w11,hd 7 (a14.add 14) w11,hd 3 (a12.add 13) w11] w53∧(
Ae prog F.Di [.pointer x35] w53 false iT fun r54 w55=>
A7 [hd 58 (a36.add 26) w11,hd 53 (a34.add 27) w11,hd 48 (a32.add 17) w11,hd 43 (a30.add 16) w11,hd 38 (a28.add 16) w11,hd 33 (a26.add 15) w11,hd 28 (a24.add 15) w11,hd 23 a22 w11,hd 20 (a20.add 15) w11,hd 15 a18 w11,hd 12 (a16.add 15) w11,hd 7 (a14.add 14) w11,hd 3 (a12.add 13) w11] w55∧(
Ae prog F.Qh [.pointer x37] w55 false iT fun r56 w57=>
A7 [hd 53 (a34.add 27) w11,hd 48 (a32.add 17) w11,hd 43 (a30.add 16) w11,hd 38 (a28.add 16) w11,hd 33 (a26.add 15) w11,hd 28 (a24.add 15) w11,hd 23 a22 w11,hd 20 (a20.add 15) w11,hd 15 a18 w11,hd 12 (a16.add 15) w11,hd 7 (a14.add 14) w11,hd 3 (a12.add 13) w11] w57∧(
Au [.bool true,uV x13,iV r38.1.1,iV r40.1.1,.bool r42.1.1,.bool r44.1.1,iV r46.1.1,iV r48.1.1,iV r50.1.1,.bool r52.1.1,iV r54.1.1,iV r56.1.1] p1 0 w57 fun w58=>
A7 [] w58∧(
A8 k1' p1 0 w58 fun x59=>
R (x59,()) w58)))))))))))))
theorem Cb.ok{n:Option Addr}{w:World}{R:TR r3'→WP}:Cb.wp n w R→Ae prog F.Cb [.pointer n] w false r3' R:=
  oks Aa Tryz.func55 (hs 3 (.s (.pl (ks [0,1,2,3,4,5,6,7,9,10,11,12,13,14,15,17,18,19,20,21,22,23,25,26,27,28,30,31,32,33,35,36,37,38,40,41,42,43,45,46,47,48,50,51,52,53,55,56,57,58] (.ef 8 [] (.ef 16 [] (.ef 24 [] (.ef 29 [] (.ef 34 [] (.ef 39 [] (.ef 44 [] (.ef 49 [] (.ef 54 [] (.ef 59 [58] (.tk 60 (.ef 61 [3,7,12,15,20,23,28,33,38,43,48,53] .z)))))))))))))) .n))
def Ht.wp(l:Option Addr)(i k:Int)(on_:Bool)(w:World)(R:TR iT→WP):Prop:=
Aj (Option.isNone l) (
R ((2,()),()) w) (
Ae prog F.Ho [.pointer l,iV i,iV k] w false r0' fun r1 w2=>
Aj (!r1.1.1) (
R ((1,()),()) w2) (
Jg w2 fun w3=>
Aq l fun a4=>
ld1 .sl (a4.add 1) w3 fun x5=>
Ny x5.1 x5.2.1 i fun a6=>
ld1 (.i .u64) (a6.add (i.toNat*1)) w3 fun x7=>
fJ k (
Ny x5.1 x5.2.1 i fun a8=>
Au [.int .u64 (Lm .andNot .u64 x7 (Sz .u64 1 k))] (a8.add (i.toNat*1)) 0 w3 fun w9=>
A7 [] w9∧(
Jg w9 fun w10=>
Aq l fun a11=>
ld1 .sl (a11.add 1) w10 fun x12=>
Ny x12.1 x12.2.1 k fun a13=>
ld1 (.i .u64) (a13.add (k.toNat*1)) w10 fun x14=>
fJ i (
Ny x12.1 x12.2.1 k fun a15=>
Au [.int .u64 (Lm .andNot .u64 x14 (Sz .u64 1 i))] (a15.add (k.toNat*1)) 0 w10 fun w16=>
A7 [] w16∧(
Aj on_ (
Jg w16 fun w17=>
Aq l fun a18=>
ld1 .sl (a18.add 1) w17 fun x19=>
Ny x19.1 x19.2.1 i fun a20=>
ld1 (.i .u64) (a20.add (i.toNat*1)) w17 fun x21=>
fJ k (
Ny x19.1 x19.2.1 i fun a22=>
Au [.int .u64 (Lm .or .u64 x21 (Sz .u64 1 k))] (a22.add (i.toNat*1)) 0 w17 fun w23=>
A7 [] w23∧(
Jg w23 fun w24=>
Aq l fun a25=>
ld1 .sl (a25.add 1) w24 fun x26=>
Ny x26.1 x26.2.1 k fun a27=>
ld1 (.i .u64) (a27.add (k.toNat*1)) w24 fun x28=>
fJ i (
Ny x26.1 x26.2.1 k fun a29=>
Au [.int .u64 (Lm .or .u64 x28 (Sz .u64 1 i))] (a29.add (k.toNat*1)) 0 w24 fun w30=>
A7 [] w30∧(
R ((0,()),()) w30))))) (
R ((0,()),()) w16)))))))
theorem Ht.ok{l:Option Addr}{i k:Int}{on_:Bool}{w:World}{R:TR iT→WP}:Ht.wp l i k on_ w R→Ae prog F.Ht [.pointer l,iV i,iV k,.bool on_] w false iT R:=
  oks Aa Tryz.func58 (hs 2 (.s (.pl (ks [0,1,2,3,4,5,6,7,8,9,10] (.ef 11 [3,6] .z))) (.s (.pl (ks [0,1,2,3,4,5,6,7,8,9,10] (.ef 11 [3,6] .z))) (.s (.s .n (.s (.s (.pl (ks [0,1,2,3,4,5,6,7,8,9,10] (.ef 11 [3,6] .z))) (.pl (ks [0,1,2,3,4,5,6,7,8,9,10] (.ef 11 [3,6] .z)))) .n)) .n))))
def Iz.wp(n:Option Addr)(c0 c1 c2 c3:Option Addr×Nat×Nat)(w:World)(R:TR iT→WP):Prop:=
Bf [.slice c0.1 c0.2.1 c0.2.2,.slice c1.1 c1.2.1 c1.2.2,.slice c2.1 c2.2.1 c2.2.2,.slice c3.1 c3.2.1 c3.2.2] T.V4 w fun p1 w2=>
Aj (Option.isNone n) (
R ((2,()),()) w2) (
Jg w2 fun w3=>
ld1 .sl p1 w3 fun x4=>
Aq n fun a5=>
ld1 .sl (a5.add 12) w3 fun x6=>
Aj ((x4.2.1:Int) !=(x6.2.1:Int)) (
R ((1,()),()) w3) (
ld1 .sl (p1.add 3) w3 fun x7=>
Aq n fun a8=>
ld1 .sl (a8.add 12) w3 fun x9=>
Aj (decide ((x7.2.1:Int)>(x9.2.1:Int))) (
R ((1,()),()) w3) (
ld1 .sl (p1.add 1) w3 fun x10=>
Ae prog F.Ip [.pointer n,.slice x10.1 x10.2.1 x10.2.2] w3 false r0' fun r11 w12=>
A7 [hd 23 (p1.add 1) w3,hd 16 (a8.add 12) w3,hd 11 (p1.add 3) w3,hd 6 (a5.add 12) w3,hd 1 p1 w3] w12∧(
Aj (!r11.1.1) (
R ((1,()),()) w12) (
ld1 .sl (p1.add 2) w12 fun x13=>
Ae prog F.Ip [.pointer n,.slice x13.1 x13.2.1 x13.2.2] w12 false r0' fun r14 w15=>
A7 [hd 23 (p1.add 1) w3,hd 16 (a8.add 12) w3,hd 11 (p1.add 3) w3,hd 6 (a5.add 12) w3,hd 1 p1 w3] w15∧(
Aj (!r14.1.1) (
R ((1,()),()) w15) (
Aq n fun a16=>
ld1 .sl (a16.add 12) w15 fun x17=>
Ci (fun(self18:((Int)×Unit)→WP) (z19:(Int)×Unit) w20=> ∀_:Nat→Value,
Aj (decide (z19.1<(x17.2.1:Int))) (
Ny x17.1 x17.2.1 z19.1 fun a21=>
ld1 .p (a21.add (z19.1.toNat*1)) w20 fun x22=>
ld1 .sl p1 w20 fun x23=>
Ny x23.1 x23.2.1 z19.1 fun a24=>
ld1 KI (a24.add (z19.1.toNat*1)) w20 fun x25=>
Ae prog F.Sm [.pointer x22,iV x25] w20 false r0' fun r26 w27=>
Aj (!r26.1.1) (
R ((1,()),()) w27) (
self18 (wrap .i64 (z19.1+1),()) w27)) (
Aq n fun a28=>
ld1 .sl (a28.add 12) w20 fun x29=>
Ci (fun(self30:((Int)×Unit)→WP) (z31:(Int)×Unit) w32=> ∀_:Nat→Value,
Aj (decide (z31.1<(x29.2.1:Int))) (
Ny x29.1 x29.2.1 z31.1 fun a33=>
ld1 .p (a33.add (z31.1.toNat*1)) w32 fun x34=>
Ae prog F.Cb [.pointer x34] w32 false r3' fun r35 w36=>
Bf z2' T.nK w36 fun p37 w38=>
Au (encs k1' r35.1) p37 0 w38 fun w39=>
Jg w39 fun w40=>
ld1 .b p37 w40 fun x41=>
Aj x41 (
ld1 KI (p37.add 2) w40 fun x42=>
ld1 .sl p1 w40 fun x43=>
Ny x43.1 x43.2.1 z31.1 fun a44=>
ld1 KI (a44.add (z31.1.toNat*1)) w40 fun x45=>
Aj (decide ((wrap .i64 (x42+x45))>1125899906842624)) (
R ((8,()),()) w40) (
self30 (wrap .i64 (z31.1+1),()) w40)) (
self30 (wrap .i64 (z31.1+1),()) w40)) (
R ((0,()),()) w32)) (0,()) w20)) (0,()) w15)))))))
theorem Iz.ok{n:Option Addr}{c0 c1 c2 c3:Option Addr×Nat×Nat}{w:World}{R:TR iT→WP}:Iz.wp n c0 c1 c2 c3 w R→Ae prog F.Iz [.pointer n,.agg #[.slice c0.1 c0.2.1 c0.2.2,.slice c1.1 c1.2.1 c1.2.2,.slice c2.1 c2.2.1 c2.2.2,.slice c3.1 c3.2.1 c3.2.2]] w false iT R:=
  oks Aa Tryz.func59 (hs 2 (.s (.s (.pl (ks [0,1,2,3,4,5,6,7,8,9,10,11,12,13,14,15,16,17,18,19,20,21,22,23] (.ef 24 [] (ks [25,26,27,28,29,30] (.ef 31 [30] (.tk 32 (.tk 33 .z))))))) .n) (.s (.s .n (.lp [(51,(.i .i64))] .n)) (.s (.s .n (.lp [(70,(.i .i64))] (hs 2 (.s (hs 2 (.s (.pl (ks [0,1,2,3,4,5,6,7,8,9,10,11,12] .z)) .n)) .n)))) .n))))
def Lr.wp(n:Option Addr)(ticks:Int)(w:World)(R:TR iT→WP):Prop:=
Ae prog F.Cm [.pointer n] w false iT fun r1 w2=>
Aj (r1.1.1 !=0) (
R ((r1.1.1,()),()) w2) (
Aq n fun a3=>
ld1 .p (a3.add 14) w2 fun x4=>
Ae prog F.Qd [.pointer x4,iV ticks] w2 false iT fun r5 w6=>
R ((r5.1.1,()),()) w6)
theorem Lr.ok{n:Option Addr}{ticks:Int}{w:World}{R:TR iT→WP}:Lr.wp n ticks w R→Ae prog F.Lr [.pointer n,iV ticks] w false iT R:=
  oks Aa Tryz.func60 .n
def Mc.wp(n:Option Addr)(c0 c1 c2 c3:Option Addr×Nat×Nat)(w:World)(R:TR dH→WP):Prop:=
Bf [.slice c0.1 c0.2.1 c0.2.2,.slice c1.1 c1.2.1 c1.2.2,.slice c2.1 c2.2.1 c2.2.2,.slice c3.1 c3.2.1 c3.2.2] T.V4 w fun p1 w2=>
Aq n fun a3=>
ld1 .sl (a3.add 12) w2 fun x4=>
L9 ((Instr.makeSlice T.jU (iV (x4.2.1:Int)) (iV (x4.2.1:Int))).run prog w2) fun y5 w6=>
Aq n fun a7=>
Au [.int .u64 0] (a7.add 14) 0 w6 fun w8=>
Aq n fun a9=>
ld1 .sl (a9.add 12) w8 fun x10=>
Ci (fun(self11:((Int)×Unit)→WP) (z12:(Int)×Unit) w13=> ∀_:Nat→Value,
Aj (decide (z12.1<(x10.2.1:Int))) (
Ny x10.1 x10.2.1 z12.1 fun a14=>
ld1 .p (a14.add (z12.1.toNat*1)) w13 fun x15=>
Jg w13 fun w16=>
Aq n fun a17=>
ld1 KI (a17.add 13) w16 fun x18=>
ld1 .sl (p1.add 1) w16 fun x19=>
Ny x19.1 x19.2.1 z12.1 fun a20=>
ld1 KI (a20.add (z12.1.toNat*1)) w16 fun x21=>
Ae prog F.Hy [.pointer x15,iV x18,iV x21] w16 true xA fun r22 w23=>
A7 [hd 8 (p1.add 1) w16] w23∧(
Ny y5.1 y5.2.1 z12.1 fun a24=>
Au [.slice r22.1.1.1 r22.1.1.2.1 r22.1.1.2.2] (a24.add (z12.1.toNat*1)) 0 w23 fun w25=>
A7 [] w25∧(
Ny y5.1 y5.2.1 z12.1 fun a26=>
ld1 .sl (a26.add (z12.1.toNat*1)) w25 fun x27=>
Aj (decide ((x27.2.1:Int)>0)) (
Jg w25 fun w28=>
Aq n fun a29=>
ld1 (.i .u64) (a29.add 14) w28 fun x30=>
fJ z12.1 (
Aq n fun a31=>
Au [.int .u64 (Lm .or .u64 x30 (Sz .u64 1 z12.1))] (a31.add 14) 0 w28 fun w32=>
A7 [] w32∧(
self11 (wrap .i64 (z12.1+1),()) w32))) (
self11 (wrap .i64 (z12.1+1),()) w25)))) (
R (((y5.1,y5.2.1,y5.2.2),()),()) w13)) (0,()) w8
theorem Mc.ok{n:Option Addr}{c0 c1 c2 c3:Option Addr×Nat×Nat}{w:World}{R:TR dH→WP}:Mc.wp n c0 c1 c2 c3 w R→Ae prog F.Mc [.pointer n,.agg #[.slice c0.1 c0.2.1 c0.2.2,.slice c1.1 c1.2.1 c1.2.2,.slice c2.1 c2.2.1 c2.2.2,.slice c3.1 c3.2.1 c3.2.2]] w false dH R:=
  oks Aa Tryz.func61 (hs 3 (.s (.s .n (.lp [(22,(.i .i64))] (hs 2 (.s (.s .n (.s (.pl (ks [0,1,2,3,4,5,6,7,8,9,10,11] (.ef 12 [6,11] (ks [13,14,15,16] (.ef 17 [8] .z))))) (.s .n (.s (.pl (ks [0,1,2,3,4,5,6,7,8] (.ef 9 [3] .z))) .n)))) .n)))) .n))
def Ov.wp(l:Option Addr)(send awake:Int)(lost:Option Addr×Nat×Nat)(w:World)(R:TR dH→WP):Prop:=
Bf jR T.Adx w fun p1 w2=>
Au [.int .u64 send,.int .u64 awake,.slice lost.1 lost.2.1 lost.2.2] p1 0 w2 fun w3=>
Ae prog F.Fb [.pointer l] w3 false iT fun r4 w5=>
Ci (fun(self6:((Option Addr×Nat×Nat)×(Int)×Unit)→WP) (z7:(Option Addr×Nat×Nat)×(Int)×Unit) w8=> ∀_:Nat→Value,
Aj (decide (z7.2.1<r4.1.1)) (
Jg w8 fun w9=>
A8 Aku p1 0 w9 fun x10=>
Ae prog F.Gx [.pointer l,iV z7.2.1] w9 false aT fun r11 w12=>
A7 [hd 1 (p1.add 0) w9,hd 1 (p1.add 1) w9,hd 1 (p1.add 2) w9] w12∧(
Ae prog F.I4 [Sv Aku x10,iV z7.2.1,.int .u64 (Lm .and .u64 r11.1.1 send)] w12 false Aj7 fun r13 w14=>
A7 [hd 1 (p1.add 0) w9,hd 1 (p1.add 1) w9,hd 1 (p1.add 2) w9] w14∧(
Bf [iV r13.1.1,iV r13.1.2.1] T.P6 w14 fun p15 w16=>
A7 [hd 1 (p1.add 0) w9,hd 1 (p1.add 1) w9,hd 1 (p1.add 2) w9] w16∧(
L9 ((Builtin.append_ #[T.O5,T.O5] T.O5 #[.slice z7.1.1 z7.1.2.1 z7.1.2.2,.slice (some p15) 1 1]).run prog w16) fun y17 w18=>
A7 [hd 1 (p1.add 0) w9,hd 1 (p1.add 1) w9,hd 1 (p1.add 2) w9] w18∧(
self6 ((y17.1,y17.2.1,y17.2.2),wrap .i64 (z7.2.1+1),()) w18))))) (
R (((z7.1.1,z7.1.2.1,z7.1.2.2),()),()) w8)) ((none,0,0),0,()) w5
theorem Ov.ok{l:Option Addr}{send awake:Int}{lost:Option Addr×Nat×Nat}{w:World}{R:TR dH→WP}:Ov.wp l send awake lost w R→Ae prog F.Ov [.pointer l,.int .u64 send,.int .u64 awake,.slice lost.1 lost.2.1 lost.2.2] w false dH R:=
  oks Aa Tryz.func62 (hs 3 (.s (.s .n (.lp [(9,.sl),(18,(.i .i64))] (hs 2 (.s (.s .n (.pl (ks [0,1,2,3,4,6] (.ef 5 [] (.tk 7 (.ef 8 [] (.ef 9 [] (.ef 10 [] (.tk 11 .z))))))))) .n)))) .n))
def Jd.wp(n:Option Addr)(w:World)(R:TR aT→WP):Prop:=
Aq n fun a1=>
ld1 .sl (a1.add 12) w fun x2=>
Ci (fun(self3:((Int)×(Int)×Unit)→WP) (z4:(Int)×(Int)×Unit) w5=> ∀_:Nat→Value,
Aj (decide (z4.2.1<(x2.2.1:Int))) (
Ny x2.1 x2.2.1 z4.2.1 fun a6=>
ld1 .p (a6.add (z4.2.1.toNat*1)) w5 fun x7=>
Ae prog F.Iy [.pointer x7] w5 false r0' fun r8 w9=>
Aj r8.1.1 (
fJ z4.2.1 (
self3 (Lm .or .u64 z4.1 (Sz .u64 1 z4.2.1),wrap .i64 (z4.2.1+1),()) w9)) (
self3 (z4.1,wrap .i64 (z4.2.1+1),()) w9)) (
R ((z4.1,()),()) w5)) (0,0,()) w
theorem Jd.ok{n:Option Addr}{w:World}{R:TR aT→WP}:Jd.wp n w R→Ae prog F.Jd [.pointer n] w false aT R:=
  oks Aa Tryz.func63 (hs 2 (.s (.s .n (.lp [(3,(.i .u64)),(11,(.i .i64))] .n)) .n))
def Ia.wp(n:Option Addr)(jitter:Int)(b:Option Addr×Nat×Nat)(w:World)(R:TR iT→WP):Prop:=
Ae prog F.Iu [.pointer n,iV jitter] w true xB fun r1 w2=>
Aj (r1.2.1.1 !=0) (
R ((r1.2.1.1,()),()) w2) (
Ae prog F.Ru [.slice b.1 b.2.1 b.2.2] w2 true Ajz fun r3 w4=>
Jg w4 fun w5=>
Aj (r3.2.1.1 !=0) (
R ((r3.2.1.1,()),()) w5) (
Aq n fun a6=>
ld1 KI a6 w5 fun x7=>
ivK prog r3.1.1 "Sender" [] w5 false iT fun r8 w9=>
A7 [hd 9 a6 w5] w9∧(
Aj (r8.1.1==x7) (
R ((r3.2.1.1,()),()) w9) (
Ae prog F.Gm [.pointer n,r3.1.1,iV r1.1.1] w9 false iT fun r10 w11=>
R ((r10.1.1,()),()) w11))))
theorem Ia.ok{n:Option Addr}{jitter:Int}{b:Option Addr×Nat×Nat}{w:World}{R:TR iT→WP}:Ia.wp n jitter b w R→Ae prog F.Ia [.pointer n,iV jitter,.slice b.1 b.2.1 b.2.2] w false iT R:=
  oks Aa Tryz.func64 (hs 4 (.s (.s (.pl (ks [0,1,2,3,5,6,7,8,9] (.ef 4 [] (.tk 10 (.tk 11 .z))))) .n) .n))
def Ec.wp(n:Option Addr)(i:Int)(w:World)(R:TR iT→WP):Prop:=
Aj (Option.isNone n) (
R ((2,()),()) w) (
Ae prog F.Eu [.pointer n,iV i] w false Arw fun r1 w2=>
Aj (Option.isNone r1.1.1) (
R ((7,()),()) w2) (
R ((0,()),()) w2))
theorem Ec.ok{n:Option Addr}{i:Int}{w:World}{R:TR iT→WP}:Ec.wp n i w R→Ae prog F.Ec [.pointer n,iV i] w false iT R:=
  oks Aa Tryz.func65 .n
def D6.wp(n:Option Addr)(w:World)(R:TR oI→WP):Prop:=
Bf dE T.Bg w fun p1 w2=>
Ae prog F.Cm [.pointer n] w2 false iT fun r3 w4=>
Aj (r3.1.1 !=0) (
Au dE p1 0 w4 fun w5=>
A8 Tu p1 0 w5 fun x6=>
R (x6,(r3.1.1,()),()) w5) (
Jg w4 fun w7=>
Aq n fun a8=>
ld1 .p (a8.add 18) w7 fun x9=>
Aq n fun a10=>
ld1 .p (a10.add 15) w7 fun x11=>
Aq n fun a12=>
ld1 .p (a12.add 14) w7 fun x13=>
Ae prog F.Ez [.pointer x13] w7 false iT fun r14 w15=>
A7 [hd 11 (a12.add 14) w7,hd 7 (a10.add 15) w7,hd 3 (a8.add 18) w7] w15∧(
Ae prog F.Ar [.pointer x9,.pointer x11,iV r14.1.1] w15 true oI fun r16 w17=>
A7 [hd 11 (a12.add 14) w7] w17∧(
Au (encs Tu r16.1) p1 0 w17 fun w18=>
A7 [] w18∧(
A8 Tu p1 0 w18 fun x19=>
R (x19,(r16.2.1.1,()),()) w18))))
theorem D6.ok{n:Option Addr}{w:World}{R:TR oI→WP}:D6.wp n w R→Ae prog F.D6 [.pointer n] w true oI R:=
  oks Aa Tryz.func66 (hs 2 (.s (.pl (ks [0,1,2,3,4,5,6,7,8,9,10,11] (.ef 12 [] (.ef 13 [3,7] (.tk 14 (.tk 15 (.ef 16 [11] (.tk 17 .z)))))))) .n))
def Ji.wp(n:Option Addr)(raw:Int)(w:World)(R:TR iT→WP):Prop:=
Aj (Option.isNone n) (
R ((2,()),()) w) (
Aq n fun a1=>
Au [.bool true] (a1.add 12) 0 w fun w2=>
Aq n fun a3=>
ld1 KU (a3.add 13) w2 fun x4=>
Aq n fun a5=>
Au [uV (wrap .u16 (x4+1))] (a5.add 13) 0 w2 fun w6=>
Aq n fun a7=>
ld1 .p (a7.add 14) w6 fun x8=>
Ae prog F.Nr [.pointer x8,.int .u32 raw] w6 true [] fun r9 w10=>
Jg w10 fun w11=>
Aq n fun a12=>
ld1 .p (a12.add 15) w11 fun x13=>
Aq n fun a14=>
ld1 KU (a14.add 13) w11 fun x15=>
Ae prog F.Lh [.pointer x13,uV x15] w11 true [] fun r16 w17=>
A7 [] w17∧(
Aq n fun a18=>
ld1 .p (a18.add 16) w17 fun x19=>
Ae prog F.Gf [.pointer x19] w17 true [] fun r20 w21=>
Aq n fun a22=>
ld1 .p (a22.add 17) w21 fun x23=>
Ae prog F.Pe [.pointer x23] w21 true [] fun r24 w25=>
Aq n fun a26=>
ld1 .p (a26.add 18) w25 fun x27=>
Ae prog F.Fe [.pointer x27] w25 true [] fun r28 w29=>
Aq n fun a30=>
Ae prog F.Js [.pointer (some (a30.add 19))] w29 true [] fun r31 w32=>
Aq n fun a33=>
ld1 .p (a33.add 26) w32 fun x34=>
Ae prog F.Md [.pointer x34] w32 true [] fun r35 w36=>
Aq n fun a37=>
ld1 .p (a37.add 27) w36 fun x38=>
Ae prog F.Eh [.pointer x38] w36 true [] fun r39 w40=>
R ((0,()),()) w40))
theorem Ji.ok{n:Option Addr}{raw:Int}{w:World}{R:TR iT→WP}:Ji.wp n raw w R→Ae prog F.Ji [.pointer n,.int .u32 raw] w false iT R:=
  oks Aa Tryz.func67 (hs 5 (.s (.pl (ks [0,1,2,3,4,5,6,7] (.ef 8 [3,7] .z))) .n))
def Qg.wp(n:Option Addr)(w:World)(R:TR iT→WP):Prop:=
Ae prog F.Cm [.pointer n] w false iT fun r1 w2=>
Aj (r1.1.1==0) (
Aq n fun a3=>
Au [.bool false] (a3.add 12) 0 w2 fun w4=>
R ((r1.1.1,()),()) w4) (
R ((r1.1.1,()),()) w2)
theorem Qg.ok{n:Option Addr}{w:World}{R:TR iT→WP}:Qg.wp n w R→Ae prog F.Qg [.pointer n] w false iT R:=
  oks Aa Tryz.func68 .n
def Qc.wp(n:Option Addr)(tai:Int)(w:World)(R:TR iT→WP):Prop:=
Ae prog F.Cm [.pointer n] w false iT fun r1 w2=>
Aj (r1.1.1 !=0) (
R ((r1.1.1,()),()) w2) (
Aq n fun a3=>
ld1 .b (a3.add 10) w2 fun x4=>
Aj (!x4) (
R ((7,()),()) w2) (
Ae prog F.D6 [.pointer n] w2 true oI fun r5 w6=>
Bf dE T.Bg w6 fun p7 w8=>
Au (encs Tu r5.1) p7 0 w8 fun w9=>
Aj (r5.2.1.1 !=0) (
R ((r5.2.1.1,()),()) w9) (
Jg w9 fun w10=>
Aq n fun a11=>
Aq n fun a12=>
ld1 KI a12 w10 fun x13=>
A8 Tu p7 0 w10 fun x14=>
(
Ae prog F.Et [.pointer (some (a11.add 19)),iV x13,Sv Tu x14,iV tai] w10 true Aii fun Zb w16=>
A7 [hd 8 (p7.add 0) w10,hd 8 (p7.add 1) w10,hd 8 (p7.add 2) w10,hd 8 (p7.add 3) w10,hd 8 (p7.add 4) w10,hd 7 a12 w10] w16∧(
Bf Aph T.Bh w16 fun p17 w18=>
A7 [hd 8 (p7.add 0) w10,hd 8 (p7.add 1) w10,hd 8 (p7.add 2) w10,hd 8 (p7.add 3) w10,hd 8 (p7.add 4) w10,hd 7 a12 w10] w18∧(
Au (encs U9 Zb.1) p17 0 w18 fun w19=>
A7 [] w19∧(
Aj (Zb.2.1.1 !=0) (
R ((Zb.2.1.1,()),()) w19) (
Ae prog F.Ib [.pointer n] w19 false iT fun r20 w21=>
R ((r20.1.1,()),()) w21)))))∧(
Bf Aph T.Bh w10 fun p22 w23=>
A7 [hd 8 (p7.add 0) w10,hd 8 (p7.add 1) w10,hd 8 (p7.add 2) w10,hd 8 (p7.add 3) w10,hd 8 (p7.add 4) w10,hd 7 a12 w10] w23∧(
Ae prog F.Et [.pointer (some (a11.add 19)),iV x13,Sv Tu x14,iV tai] w23 true Aii fun r24 w25=>
A7 [] w25∧(
Au (encs U9 r24.1) p22 0 w25 fun w26=>
A7 [] w26∧(
Aj (r24.2.1.1 !=0) (
R ((r24.2.1.1,()),()) w26) (
Ae prog F.Ib [.pointer n] w26 false iT fun r27 w28=>
R ((r27.1.1,()),()) w28))))))))
theorem Qc.ok{n:Option Addr}{tai:Int}{w:World}{R:TR iT→WP}:Qc.wp n tai w R→Ae prog F.Qc [.pointer n,iV tai] w false iT R:=
  oks Aa Tryz.func69 (hs 5 (.s (.s (.pl (ks [0,1,2,3,4,5,6,7,8,9] (.two 10 14 (ks [11,12,13] (.ef 14 [] (.ef 15 [7,8] (.tk 16 .z)))) (.ef 10 [7,8] (ks [11,12,13] (.ef 15 [] (.tk 16 .z))))))) .n) .n))
def Ru.wp(b:Option Addr×Nat×Nat)(w:World)(R:TR Ajz→WP):Prop:=
Aj (decide ((b.2.1:Int)>64)) (
R ((.nilIface,()),(5,()),()) w) (
Ae prog F.Xu [.slice b.1 b.2.1 b.2.2] w false Arw fun r1 w2=>
Ae prog F.Nj [.pointer r1.1.1,iV 1] w2 true Zz fun r3 w4=>
Ae prog F.Sr [.int .u64 r3.1.1] w4 false fC fun r5 w6=>
nlK r5.1.1 fun b7=>
Aj b7 (
R ((.nilIface,()),(3,()),()) w6) (
Ae prog F.Qo [r5.1.1] w6 false iT fun r8 w9=>
Aj ((b.2.1:Int) !=(wrap .i64 (r8.1.1+3))) (
R ((.nilIface,()),(3,()),()) w9) (
Ae prog F.Xy [.slice b.1 b.2.1 b.2.2] w9 true bF fun r10 w11=>
Aj (!r10.2.1.1) (
R ((.nilIface,()),(4,()),()) w11) (
ivK prog r5.1.1 "angelus/frame.fields" [] w11 false dH fun r12 w13=>
Ci (fun(self14:((Option Addr×Nat×Nat)×(Int)×Unit)→WP) (z15:(Option Addr×Nat×Nat)×(Int)×Unit) w16=> ∀_:Nat→Value,
Aj (decide (z15.2.1<(r12.1.1.2.1:Int))) (
Ny r12.1.1.1 r12.1.1.2.1 z15.2.1 fun a17=>
A8 Aab (a17.add (z15.2.1.toNat*3)) 0 w16 fun x18=>
Bf Ao4 T.Dl w16 fun p19 w20=>
Au (encs Aab x18) p19 0 w20 fun w21=>
ld1 KI p19 w21 fun x22=>
Ae prog F.Nj [.pointer r1.1.1,iV x22] w21 true Zz fun r23 w24=>
Bf [.int .u64 r23.1.1] T.uint64 w24 fun p25 w26=>
L9 ((Builtin.append_ #[T.Ux,T.Ux] T.Ux #[.slice z15.1.1 z15.1.2.1 z15.1.2.2,.slice (some p25) 1 1]).run prog w26) fun y27 w28=>
self14 ((y27.1,y27.2.1,y27.2.2),wrap .i64 (z15.2.1+1),()) w28) (
Ae prog F.Qn [r5.1.1,.slice z15.1.1 z15.1.2.1 z15.1.2.2] w16 false fC fun r29 w30=>
Ae prog F.Ew [r29.1.1] w30 false r0' fun r31 w32=>
Aj (!r31.1.1) (
R ((.nilIface,()),(3,()),()) w32) (
R ((r29.1.1,()),(0,()),()) w32))) ((none,0,0),0,()) w13))))
theorem Ru.ok{b:Option Addr×Nat×Nat}{w:World}{R:TR Ajz→WP}:Ru.wp b w R→Ae prog F.Ru [.slice b.1 b.2.1 b.2.2] w true Ajz R:=
  oks Aa Tryz.func70 (hs 8 (.s (.s .n (.lp [(10,.sl),(47,(.i .i64))] .n)) .n))
def Hm.wp(s0 s1 s2 s3 s4 s5 s6 s7 s8 s9:Int)(s10:Bool)(w:World)(R:TR Arw→WP):Prop:=
Bf [iV s0,iV s1,iV s2,iV s3,iV s4,iV s5,iV s6,iV s7,iV s8,iV s9,.bool s10] T.Xj w fun p1 w2=>
A8 k2' p1 0 w2 fun x3=>
Bf [iV x3.1,iV x3.2.1,iV x3.2.2.1,iV x3.2.2.2.1,iV x3.2.2.2.2.1,iV x3.2.2.2.2.2.1,iV x3.2.2.2.2.2.2.1,iV x3.2.2.2.2.2.2.2.1,iV x3.2.2.2.2.2.2.2.2.1,iV x3.2.2.2.2.2.2.2.2.2.1,.bool x3.2.2.2.2.2.2.2.2.2.2.1,.bool false,uV 0,.pointer none,.pointer none,.pointer none,.pointer none,.pointer none,.pointer none,.pointer none,.slice none 0 0,.slice none 0 0] T.Aco w2 fun p4 w5=>
Ae prog F.Aw [.pointer (some p4),iV 0] w5 true [] fun r6 w7=>
R ((some p4,()),()) w7
theorem Hm.ok{s0 s1 s2 s3 s4 s5 s6 s7 s8 s9:Int}{s10:Bool}{w:World}{R:TR Arw→WP}:Hm.wp s0 s1 s2 s3 s4 s5 s6 s7 s8 s9 s10 w R→Ae prog F.Hm [.agg #[iV s0,iV s1,iV s2,iV s3,iV s4,iV s5,iV s6,iV s7,iV s8,iV s9,.bool s10]] w false Arw R:=
  oks Aa Tryz.func71 .n
def Qj.wp(n:Option Addr)(label:ByteArray)(w:World)(R:TR xB→WP):Prop:=
Ae prog F.D6 [.pointer n] w true oI fun r1 w2=>
Bf dE T.Bg w2 fun p3 w4=>
Au (encs Tu r1.1) p3 0 w4 fun w5=>
Aj (r1.2.1.1 !=0) (
R ((0,()),(r1.2.1.1,()),()) w5) (
Jg w5 fun w6=>
Aq n fun a7=>
ld1 .p (a7.add 26) w6 fun x8=>
Aq n fun a9=>
ld1 .p (a9.add 14) w6 fun x10=>
A8 Tu p3 0 w6 fun x11=>
Ae prog F.Ez [.pointer x10] w6 false iT fun r12 w13=>
A7 [hd 10 (p3.add 0) w6,hd 10 (p3.add 1) w6,hd 10 (p3.add 2) w6,hd 10 (p3.add 3) w6,hd 10 (p3.add 4) w6,hd 8 (a9.add 14) w6,hd 3 (a7.add 26) w6] w13∧(
Ae prog F.Qk [.pointer x8,.string label,iV r12.1.1,Sv Tu x11] w13 true xB fun r14 w15=>
A7 [hd 8 (a9.add 14) w6] w15∧(
R ((r14.1.1,()),(r14.2.1.1,()),()) w15)))
theorem Qj.ok{n:Option Addr}{label:ByteArray}{w:World}{R:TR xB→WP}:Qj.wp n label w R→Ae prog F.Qj [.pointer n,.string label] w true xB R:=
  oks Aa Tryz.func72 (hs 3 (.s (.pl (ks [0,1,2,3,4,5,6,7,8,10] (.ef 9 [] (.ef 11 [3,10] (ks [12,13,14,15] .z))))) .n))
def Oq.wp(n:Option Addr)(w:World)(R:TR Us→WP):Prop:=
Bf z7' T.U1 w fun p1 w2=>
Ae prog F.Cm [.pointer n] w2 false iT fun r3 w4=>
Aj (r3.1.1 !=0) (
Au z7' p1 0 w4 fun w5=>
A8 Ig p1 0 w5 fun x6=>
R (x6,(false,()),()) w5) (
Aq n fun a7=>
ld1 .p (a7.add 26) w4 fun x8=>
Ae prog F.Ou [.pointer x8] w4 true Us fun r9 w10=>
Au (encs Ig r9.1) p1 0 w10 fun w11=>
A8 Ig p1 0 w11 fun x12=>
R (x12,(r9.2.1.1,()),()) w11)
theorem Oq.ok{n:Option Addr}{w:World}{R:TR Us→WP}:Oq.wp n w R→Ae prog F.Oq [.pointer n] w true Us R:=
  oks Aa Tryz.func73 .n
def Vq.wp(me timeout ignore need drift:Int)(w:World)(R:TR r0'→WP):Prop:=
Ae prog F.Ve [iV me,iV timeout,iV ignore] w false r0' fun r1 w2=>
Aj r1.1.1 (
Aj (decide (need≥1)) (
Aj (decide (need≤8)) (
Aj (decide (drift≥0)) (
R ((decide (drift≤10),()),()) w2) (
R ((false,()),()) w2)) (
R ((false,()),()) w2)) (
R ((false,()),()) w2)) (
R ((false,()),()) w2)
theorem Vq.ok{me timeout ignore need drift:Int}{w:World}{R:TR r0'→WP}:Vq.wp me timeout ignore need drift w R→Ae prog F.Vq [iV me,iV timeout,iV ignore,iV need,iV drift] w false r0' R:=
  oks Aa Tryz.func93 .n
def U3.wp(p0 p1 p2:Int)(w:World)(R:TR r0'→WP):Prop:=
Bf [iV p0,iV p1,iV p2] T.rU w fun p3 w4=>
ld1 KI p3 w4 fun x5=>
Aj (decide (x5≥1)) (
ld1 KI p3 w4 fun x6=>
Aj (decide (x6≤64)) (
ld1 KI (p3.add 1) w4 fun x7=>
Aj (decide (x7≥1)) (
ld1 KI (p3.add 1) w4 fun x8=>
ld1 KI p3 w4 fun x9=>
Aj (decide (x8≤x9)) (
ld1 KI (p3.add 2) w4 fun x10=>
Aj (decide (x10≥0)) (
ld1 KI (p3.add 2) w4 fun x11=>
ld1 KI p3 w4 fun x12=>
R ((decide (x11<x12),()),()) w4) (
R ((false,()),()) w4)) (
R ((false,()),()) w4)) (
R ((false,()),()) w4)) (
R ((false,()),()) w4)) (
R ((false,()),()) w4)
theorem U3.ok{p0 p1 p2:Int}{w:World}{R:TR r0'→WP}:U3.wp p0 p1 p2 w R→Ae prog F.U3 [.agg #[iV p0,iV p1,iV p2]] w false r0' R:=
  oks Aa Tryz.func94 .n
def Jy.wp(s0 s1 s2 s3 s4 s5 s6 s7 s8 s9:Int)(s10:Bool)(w:World)(R:TR Ajw→WP):Prop:=
Bf [iV s0,iV s1,iV s2,iV s3,iV s4,iV s5,iV s6,iV s7,iV s8,iV s9,.bool s10] T.Xj w fun p1 w2=>
Bf Ao4 T.rU w2 fun p3 w4=>
ld1 KI (p1.add 5) w4 fun x5=>
ld1 KI (p1.add 6) w4 fun x6=>
ld1 KI (p1.add 7) w4 fun x7=>
Au [iV x5,iV x6,iV x7] p3 0 w4 fun w8=>
A8 Aab p3 0 w8 fun x9=>
R (x9,()) w8
theorem Jy.ok{s0 s1 s2 s3 s4 s5 s6 s7 s8 s9:Int}{s10:Bool}{w:World}{R:TR Ajw→WP}:Jy.wp s0 s1 s2 s3 s4 s5 s6 s7 s8 s9 s10 w R→Ae prog F.Jy [.agg #[iV s0,iV s1,iV s2,iV s3,iV s4,iV s5,iV s6,iV s7,iV s8,iV s9,.bool s10]] w false Ajw R:=
  oks Aa Tryz.func95 .n
def Nq.wp(s0 s1 s2 s3 s4 s5 s6 s7 s8 s9:Int)(s10:Bool)(w:World)(R:TR r0'→WP):Prop:=
Bf [iV s0,iV s1,iV s2,iV s3,iV s4,iV s5,iV s6,iV s7,iV s8,iV s9,.bool s10] T.jP w fun p1 w2=>
ld1 KI p1 w2 fun x3=>
Aj (decide (x3≥0)) (
ld1 KI p1 w2 fun x4=>
Aj (decide (x4<64)) (
A8 aU (p1.add 1) 0 w2 fun x5=>
Ae prog F.Hu [Sv aU x5] w2 false r0' fun r6 w7=>
Aj r6.1.1 (
A8 Aab (p1.add 5) 0 w7 fun x8=>
Ae prog F.Ie [Sv Aab x8] w7 false r0' fun r9 w10=>
Aj r9.1.1 (
ld1 KI (p1.add 8) w10 fun x11=>
Aj (decide (x11≥1)) (
ld1 KI (p1.add 8) w10 fun x12=>
ld1 KI (p1.add 1) w10 fun x13=>
Aj (decide (x12≤x13)) (
ld1 KI (p1.add 9) w10 fun x14=>
Aj (decide (x14≥0)) (
ld1 KI (p1.add 9) w10 fun x15=>
R ((decide (x15≤20),()),()) w10) (
R ((false,()),()) w10)) (
R ((false,()),()) w10)) (
R ((false,()),()) w10)) (
R ((false,()),()) w10)) (
R ((false,()),()) w7)) (
R ((false,()),()) w2)) (
R ((false,()),()) w2)
theorem Nq.ok{s0 s1 s2 s3 s4 s5 s6 s7 s8 s9:Int}{s10:Bool}{w:World}{R:TR r0'→WP}:Nq.wp s0 s1 s2 s3 s4 s5 s6 s7 s8 s9 s10 w R→Ae prog F.Nq [.agg #[iV s0,iV s1,iV s2,iV s3,iV s4,iV s5,iV s6,iV s7,iV s8,iV s9,.bool s10]] w false r0' R:=
  oks Aa Tryz.func96 .n
def Wl.wp(w:World)(R:TR Arw→WP):Prop:=
Ae prog F.Gt [iV 16] w true r2' fun r1 w2=>
Bf [.pointer r1.1.1,iV 0] T.Aef w2 fun p3 w4=>
R ((some p3,()),()) w4
theorem Wl.ok{w:World}{R:TR Arw→WP}:Wl.wp w R→Ae prog F.Wl [] w false Arw R:=
  oks Aa Tryz.func97 .n
def Xz.wp(drift:Int)(w:World)(R:TR r2'→WP):Prop:=
Aj (decide (drift<0)) (
R ((none,()),(1,()),()) w) (
Aj (decide (drift>10)) (
R ((none,()),(1,()),()) w) (
Bf [iV drift,.int .u32 0,iV 0] T.Acm w fun p1 w2=>
R ((some p1,()),(0,()),()) w2))
theorem Xz.ok{drift:Int}{w:World}{R:TR r2'→WP}:Xz.wp drift w R→Ae prog F.Xz [iV drift] w true r2' R:=
  oks Aa Tryz.func98 .n
def Ui.wp(me r0 r1 r2 r3:Int)(w:World)(R:TR r2'→WP):Prop:=
Bf [iV r0,iV r1,iV r2,iV r3] T.fQ w fun p1 w2=>
A8 aU p1 0 w2 fun x3=>
Ae prog F.Hu [Sv aU x3] w2 false r0' fun r4 w5=>
Aj (!r4.1.1) (
R ((none,()),(1,()),()) w5) (
A8 [KI,KI] p1 0 w5 fun x6=>
Ae prog F.Wv [iV me,.agg #[iV x6.1,iV x6.2.1]] w5 true r2' fun r7 w8=>
Aj (r7.2.1.1 !=0) (
R ((none,()),(r7.2.1.1,()),()) w8) (
A8 aU p1 0 w8 fun x9=>
Bf [.pointer r7.1.1,iV me,iV x9.1,iV x9.2.1,iV x9.2.2.1,iV x9.2.2.2.1,.slice none 0 0,iV 0,iV 0,iV 0] T.Aaa w8 fun p10 w11=>
R ((some p10,()),(0,()),()) w11))
theorem Ui.ok{me r0 r1 r2 r3:Int}{w:World}{R:TR r2'→WP}:Ui.wp me r0 r1 r2 r3 w R→Ae prog F.Ui [iV me,.agg #[iV r0,iV r1,iV r2,iV r3]] w true r2' R:=
  oks Aa Tryz.func99 .n
def Wp.wp(me:Int)(w:World)(R:TR r2'→WP):Prop:=
Aj (decide (me<0)) (
R ((none,()),(1,()),()) w) (
Aj (decide (me≥64)) (
R ((none,()),(1,()),()) w) (
Bf [iV me,iV (Int.negSucc 0),iV (Int.negSucc 0)] T.Aao w fun p1 w2=>
R ((some p1,()),(0,()),()) w2))
theorem Wp.ok{me:Int}{w:World}{R:TR r2'→WP}:Wp.wp me w R→Ae prog F.Wp [iV me] w true r2' R:=
  oks Aa Tryz.func100 .n
def Xq.wp(me:Int)(w:World)(R:TR r2'→WP):Prop:=
Aj (decide (me<0)) (
R ((none,()),(1,()),()) w) (
Aj (decide (me≥64)) (
R ((none,()),(1,()),()) w) (
Bf [iV me,iV 0,iV 0,.bool false,iV 0,iV 0,iV 0] T.Ad3 w fun p1 w2=>
R ((some p1,()),(0,()),()) w2))
theorem Xq.ok{me:Int}{w:World}{R:TR r2'→WP}:Xq.wp me w R→Ae prog F.Xq [iV me] w true r2' R:=
  oks Aa Tryz.func101 .n
def Vm.wp(limit:Int)(w:World)(R:TR r2'→WP):Prop:=
Aj (decide (limit<1)) (
R ((none,()),(1,()),()) w) (
Aj (decide (limit>1000)) (
R ((none,()),(1,()),()) w) (
Bf [iV limit,iV 0,iV 0,iV 0,iV 0,uV 0,iV 0,.bool false] T.uJ w fun p1 w2=>
R ((some p1,()),(0,()),()) w2))
theorem Vm.ok{limit:Int}{w:World}{R:TR r2'→WP}:Vm.wp limit w R→Ae prog F.Vm [iV limit] w true r2' R:=
  oks Aa Tryz.func102 .n
def Jc.wp(room:Int)(w:World)(R:TR r2'→WP):Prop:=
Aj (decide (room<1)) (
R ((none,()),(1,()),()) w) (
Aj (decide (room>64)) (
R ((none,()),(1,()),()) w) (
L9 ((Instr.makeSlice T.Zh (iV room) (iV room)).run prog w) fun y1 w2=>
Bf [.slice y1.1 y1.2.1 y1.2.2,iV 0,iV 0] T.jJ w2 fun p3 w4=>
R ((some p3,()),(0,()),()) w4))
theorem Jc.ok{room:Int}{w:World}{R:TR r2'→WP}:Jc.wp room w R→Ae prog F.Jc [iV room] w true r2' R:=
  oks Aa Tryz.func103 .n
def Ez.wp(c:Option Addr)(w:World)(R:TR iT→WP):Prop:=
Aj (Option.isNone c) (
R ((0,()),()) w) (
Aq c fun a1=>
ld1 KI (a1.add 2) w fun x2=>
R ((x2,()),()) w)
theorem Ez.ok{c:Option Addr}{w:World}{R:TR iT→WP}:Ez.wp c w R→Ae prog F.Ez [.pointer c] w false iT R:=
  oks Aa Tryz.func104 .n
def Dc.wp(e:Option Addr)(w:World)(R:TR iT→WP):Prop:=
Aj (Option.isNone e) (
R (((Int.negSucc 0),()),()) w) (
Aq e fun a1=>
ld1 KI (a1.add 5) w fun x2=>
R ((x2,()),()) w)
theorem Dc.ok{e:Option Addr}{w:World}{R:TR iT→WP}:Dc.wp e w R→Ae prog F.Dc [.pointer e] w false iT R:=
  oks Aa Tryz.func105 .n
def Bc.wp(e:Option Addr)(w:World)(R:TR r0'→WP):Prop:=
Jg w fun w1=>
Aj (!(Option.isNone e)) (
Aq e fun a2=>
ld1 KI (a2.add 5) w1 fun x3=>
Aq e fun a4=>
ld1 KI a4 w1 fun x5=>
R (((x3==x5),()),()) w1) (
R ((false,()),()) w1)
theorem Bc.ok{e:Option Addr}{w:World}{R:TR r0'→WP}:Bc.wp e w R→Ae prog F.Bc [.pointer e] w false r0' R:=
  oks Aa Tryz.func106 (.s .n (.s (.pl (ks [0,1,2,3,4,5,6,7,8,9,10,11,12,13] .z)) .n))
def Ba.wp(f:Option Addr)(w:World)(R:TR r0'→WP):Prop:=
Jg w fun w1=>
Aj (!(Option.isNone f)) (
Aq f fun a2=>
ld1 .p a2 w1 fun x3=>
Ae prog F.Bc [.pointer x3] w1 false r0' fun r4 w5=>
A7 [hd 6 a2 w1] w5∧(
Aj r4.1.1 (
R ((true,()),()) w5) (
Aq f fun a6=>
Aq f fun a7=>
ld1 KI ((a7.add 2).add 2) w5 fun x8=>
Ae prog F.Dk [.pointer (some (a6.add 6))] w5 false iT fun r9 w10=>
A7 [hd 17 ((a7.add 2).add 2) w5,hd 6 a2 w1] w10∧(
R ((decide (r9.1.1≥x8),()),()) w10)))) (
R ((false,()),()) w1)
theorem Ba.ok{f:Option Addr}{w:World}{R:TR r0'→WP}:Ba.wp f w R→Ae prog F.Ba [.pointer f] w false r0' R:=
  oks Aa Tryz.func107 (.s .n (.s (.pl (ks [0,1,2,3,4,5,6] (.ef 7 [] (ks [8,9,10,11,13,14,15,16,17] (.ef 12 [] (ks [18,19,20,21] .z)))))) .n))
def Hg.wp(f:Option Addr)(w:World)(R:TR iT→WP):Prop:=
Aj (Option.isNone f) (
R ((0,()),()) w) (
Aq f fun a1=>
Ae prog F.Dk [.pointer (some (a1.add 6))] w false iT fun r2 w3=>
R ((r2.1.1,()),()) w3)
theorem Hg.ok{f:Option Addr}{w:World}{R:TR iT→WP}:Hg.wp f w R→Ae prog F.Hg [.pointer f] w false iT R:=
  oks Aa Tryz.func108 .n
def Ja.wp(l:Option Addr)(w:World)(R:TR iT→WP):Prop:=
Aj (Option.isNone l) (
R (((Int.negSucc 0),()),()) w) (
Aq l fun a1=>
ld1 KI (a1.add 1) w fun x2=>
R ((x2,()),()) w)
theorem Ja.ok{l:Option Addr}{w:World}{R:TR iT→WP}:Ja.wp l w R→Ae prog F.Ja [.pointer l] w false iT R:=
  oks Aa Tryz.func109 .n
def En.wp(l:Option Addr)(w:World)(R:TR iT→WP):Prop:=
Aj (Option.isNone l) (
R (((Int.negSucc 0),()),()) w) (
Aq l fun a1=>
ld1 KI (a1.add 2) w fun x2=>
R ((x2,()),()) w)
theorem En.ok{l:Option Addr}{w:World}{R:TR iT→WP}:En.wp l w R→Ae prog F.En [.pointer l] w false iT R:=
  oks Aa Tryz.func110 .n
def Nv.wp(p:Option Addr)(w:World)(R:TR r0'→WP):Prop:=
Aj (!(Option.isNone p)) (
Aq p fun a1=>
ld1 .b (a1.add 3) w fun x2=>
R ((x2,()),()) w) (
R ((false,()),()) w)
theorem Nv.ok{p:Option Addr}{w:World}{R:TR r0'→WP}:Nv.wp p w R→Ae prog F.Nv [.pointer p] w false r0' R:=
  oks Aa Tryz.func111 .n
def Di.wp(r:Option Addr)(w:World)(R:TR iT→WP):Prop:=
Aj (Option.isNone r) (
R ((0,()),()) w) (
Aq r fun a1=>
ld1 KI (a1.add 2) w fun x2=>
R ((x2,()),()) w)
theorem Di.ok{r:Option Addr}{w:World}{R:TR iT→WP}:Di.wp r w R→Ae prog F.Di [.pointer r] w false iT R:=
  oks Aa Tryz.func112 .n
def Qh.wp(l:Option Addr)(w:World)(R:TR iT→WP):Prop:=
Aj (Option.isNone l) (
R ((0,()),()) w) (
Aq l fun a1=>
ld1 .p a1 w fun x2=>
Ae prog F.Dj [.pointer x2] w false iT fun r3 w4=>
R ((r3.1.1,()),()) w4)
theorem Qh.ok{l:Option Addr}{w:World}{R:TR iT→WP}:Qh.wp l w R→Ae prog F.Qh [.pointer l] w false iT R:=
  oks Aa Tryz.func113 .n
def Cm.wp(n:Option Addr)(w:World)(R:TR iT→WP):Prop:=
Aj (Option.isNone n) (
R ((2,()),()) w) (
Aq n fun a1=>
ld1 .b (a1.add 12) w fun x2=>
Aj (!x2) (
R ((10,()),()) w) (
R ((0,()),()) w))
theorem Cm.ok{n:Option Addr}{w:World}{R:TR iT→WP}:Cm.wp n w R→Ae prog F.Cm [.pointer n] w false iT R:=
  oks Aa Tryz.func114 .n
def Hl.wp(e:Option Addr)(w:World)(R:TR dB→WP):Prop:=
Bf [uV 0,uV 0] T.Ti w fun p1 w2=>
Cc (fun(J3:((Bool)×Unit)→WP)=>
Aj (Option.isNone e) (
J3 (true,()) w2) (
Aq e fun a6=>
ld1 KI (a6.add 5) w2 fun x7=>
J3 (decide (x7<0),()) w2)) (fun(z4:(Bool)×Unit) w5=> ∀_:Nat→Value,
Aj z4.1 (
Au [uV 0,uV 0] p1 0 w5 fun w8=>
A8 [KU,KU] p1 0 w8 fun x9=>
R ((x9.1,x9.2.1,()),(false,()),()) w8) (
Ae prog F.Bc [.pointer e] w5 false r0' fun r10 w11=>
Aj r10.1.1 (
Jg w11 fun w12=>
Aq e fun a13=>
ld1 KU (a13.add 3) w12 fun x14=>
Aq e fun a15=>
ld1 KU (a15.add 4) w12 fun x16=>
Aq e fun a17=>
ld1 KU (a17.add 4) w12 fun x18=>
Au [uV x14,uV x16] p1 0 w12 fun w19=>
A7 [hd 12 (a17.add 4) w12] w19∧(
A8 [KU,KU] p1 0 w19 fun x20=>
R ((x20.1,x20.2.1,()),(decide (x18>0),()),()) w19)) (
Jg w11 fun w21=>
Aq e fun a22=>
ld1 .m (a22.add 8) w21 fun x23=>
Aq e fun a24=>
ld1 KI (a24.add 5) w21 fun x25=>
lkP prog T.O9 (.map x23) (iV x25) w21 true [KU,KU] fun x26=>
A7 [] w21∧(
Au [uV x26.1,uV x26.2.1] p1 0 w21 fun w27=>
A7 [] w27∧(
A8 [KU,KU] p1 0 w27 fun x28=>
R ((x28.1,x28.2.1,()),(true,()),()) w27)))))
theorem Hl.ok{e:Option Addr}{w:World}{R:TR dB→WP}:Hl.wp e w R→Ae prog F.Hl [.pointer e] w true dB R:=
  oks Aa Tryz.func115 (.s .n (.s (.ct [(4,.b)] .n (hs 2 (.s (.s (.pl (ks [0,1,2,3,4,5,6,7,8,9,10,11,12,13] (.ef 14 [3,7] (.tk 15 .z)))) .n) .n))) (.s (.pl (ks [0,1,2,3,4,5,6,7] (.ef 8 [3,7] (.ef 9 [] (.tk 10 .z))))) .n)))
def Ho.wp(l:Option Addr)(i k:Int)(w:World)(R:TR r0'→WP):Prop:=
Ae prog F.Ep [.pointer l,iV i] w false r0' fun r1 w2=>
Aj r1.1.1 (
Ae prog F.Ep [.pointer l,iV k] w2 false r0' fun r3 w4=>
Aj r3.1.1 (
R (((i !=k),()),()) w4) (
R ((false,()),()) w4)) (
R ((false,()),()) w2)
theorem Ho.ok{l:Option Addr}{i k:Int}{w:World}{R:TR r0'→WP}:Ho.wp l i k w R→Ae prog F.Ho [.pointer l,iV i,iV k] w false r0' R:=
  oks Aa Tryz.func116 .n
def Ip.wp(n:Option Addr)(list:Option Addr×Nat×Nat)(w:World)(R:TR r0'→WP):Prop:=
Aq n fun a1=>
ld1 .sl (a1.add 12) w fun x2=>
Aj ((list.2.1:Int) !=(x2.2.1:Int)) (
R ((false,()),()) w) (
Ci (fun(self3:((Int)×Unit)→WP) (z4:(Int)×Unit) w5=> ∀_:Nat→Value,
Aj (decide (z4.1<(list.2.1:Int))) (
Ny list.1 list.2.1 z4.1 fun a6=>
ld1 KI (a6.add (z4.1.toNat*1)) w5 fun x7=>
Aq n fun a8=>
ld1 KI (a8.add 8) w5 fun x9=>
Aj (decide (x7<(wrap .i64 (0-x9)))) (
R ((false,()),()) w5) (
Aq n fun a10=>
ld1 KI (a10.add 8) w5 fun x11=>
Aj (decide (x7>x11)) (
R ((false,()),()) w5) (
self3 (wrap .i64 (z4.1+1),()) w5))) (
R ((true,()),()) w5)) (0,()) w)
theorem Ip.ok{n:Option Addr}{list:Option Addr×Nat×Nat}{w:World}{R:TR r0'→WP}:Ip.wp n list w R→Ae prog F.Ip [.pointer n,.slice list.1 list.2.1 list.2.2] w false r0' R:=
  oks Aa Tryz.func117 (hs 2 (.s (.s .n (.lp [(17,(.i .i64))] .n)) .n))
def Sm.wp(n:Option Addr)(ticks:Int)(w:World)(R:TR r0'→WP):Prop:=
Aj (!(Option.isNone n)) (
Aq n fun a1=>
ld1 .p (a1.add 14) w fun x2=>
Ae prog F.Iq [.pointer x2,iV ticks] w false r0' fun r3 w4=>
R ((r3.1.1,()),()) w4) (
R ((false,()),()) w)
theorem Sm.ok{n:Option Addr}{ticks:Int}{w:World}{R:TR r0'→WP}:Sm.wp n ticks w R→Ae prog F.Sm [.pointer n,iV ticks] w false r0' R:=
  oks Aa Tryz.func118 .n
def Qd.wp(c:Option Addr)(ticks:Int)(w:World)(R:TR iT→WP):Prop:=
Aj (Option.isNone c) (
R ((2,()),()) w) (
Ae prog F.Iq [.pointer c,iV ticks] w false r0' fun r1 w2=>
Aj (!r1.1.1) (
R ((1,()),()) w2) (
Jg w2 fun w3=>
Aq c fun a4=>
ld1 KI (a4.add 2) w3 fun x5=>
Aq c fun a6=>
ld1 (.i .u32) (a6.add 1) w3 fun x7=>
Ae prog F.Ug [iV x5,.int .u32 (wrap .u32 (x7+(wrap .u32 ticks)))] w3 true fE fun r8 w9=>
A7 [hd 7 (a6.add 1) w3] w9∧(
Aj (!r8.2.1.1) (
R ((8,()),()) w9) (
Aq c fun a10=>
ld1 (.i .u32) (a10.add 1) w9 fun x11=>
Aq c fun a12=>
Au [.int .u32 (wrap .u32 (x11+(wrap .u32 ticks)))] (a12.add 1) 0 w9 fun w13=>
Aq c fun a14=>
Au [iV r8.1.1] (a14.add 2) 0 w13 fun w15=>
R ((0,()),()) w15))))
theorem Qd.ok{c:Option Addr}{ticks:Int}{w:World}{R:TR iT→WP}:Qd.wp c ticks w R→Ae prog F.Qd [.pointer c,iV ticks] w false iT R:=
  oks Aa Tryz.func119 (hs 2 (.s (.pl (ks [0,1,2,3,4,5,6,7,8,9,10] (.ef 11 [3] (ks [12,13,14,15,16] .z)))) .n))
def Hy.wp(n:Option Addr)(step jitter:Int)(w:World)(R:TR xA→WP):Prop:=
Ae prog F.Iu [.pointer n,iV jitter] w true xB fun r1 w2=>
Aj (r1.2.1.1 !=0) (
R (((none,0,0),()),(r1.2.1.1,()),()) w2) (
Aq n fun a3=>
A8 Aab (a3.add 5) 0 w2 fun x4=>
Ae prog F.Om [Sv Aab x4,iV step] w2 false r0' fun r5 w6=>
Aj (!r5.1.1) (
R (((none,0,0),()),(r1.2.1.1,()),()) w6) (
Bf [.slice none 0 0] T.Ah2 w6 fun p7 w8=>
Aq n fun a9=>
ld1 .p (a9.add 15) w8 fun x10=>
Ae prog F.Kt [.pointer x10,iV r1.1.1] w8 true Arv fun r11 w12=>
Bf Aae T.Dy w12 fun p13 w14=>
Au (encs Xx r11.1) p13 0 w14 fun w15=>
Aq n fun a16=>
ld1 .p (a16.add 18) w15 fun x17=>
Ae prog F.Eo [.pointer x17] w15 true [] fun r18 w19=>
Cc (fun(J20:Unit→WP)=>
Aq n fun a23=>
ld1 .p (a23.add 17) w19 fun x24=>
Ae prog F.Hz [.pointer x24] w19 false r0' fun r25 w26=>
Aj r25.1.1 (
Aq n fun a27=>
ld1 .p (a27.add 16) w26 fun x28=>
Ae prog F.Gf [.pointer x28] w26 true [] fun r29 w30=>
J20 (()) w30) (
J20 (()) w26)) (fun(z21:Unit) w22=> ∀_:Nat→Value,
A8 Xx p13 0 w22 fun x31=>
Ae prog F.Jh [.pointer (some p7),.iface T.Dy (Sv Xx x31),.bool r11.2.1.1] w22 true [] fun r32 w33=>
Cc (fun(J34:Unit→WP)=>
Ci (fun(self37:Unit→WP) (z38:Unit) w39=> ∀_:Nat→Value,
ld1 .sl p7 w39 fun x40=>
Aj (decide ((x40.2.1:Int)<3)) (
Aq n fun a41=>
ld1 .p (a41.add 27) w39 fun x42=>
Ae prog F.Fq [.pointer x42] w39 true Yk fun r43 w44=>
Aj (!r43.2.1.1) (
J34 (()) w44) (
ivK prog r43.1.1 "angelus/node.made" [.pointer n,iV r1.1.1] w44 true Yk fun r45 w46=>
Ae prog F.Jh [.pointer (some p7),r45.1.1,.bool r45.2.1.1] w46 true [] fun r47 w48=>
self37 (()) w48)) (
J34 (()) w39)) (()) w33) (fun(z35:Unit) w36=> ∀_:Nat→Value,
Cc (fun(J49:((Bool)×Unit)→WP)=>
Aq n fun a52=>
ld1 .p (a52.add 15) w36 fun x53=>
Ae prog F.Ba [.pointer x53] w36 false r0' fun r54 w55=>
Aj (!r54.1.1) (
ld1 .sl p7 w55 fun x56=>
J49 (decide ((x56.2.1:Int)<3),()) w55) (
J49 (false,()) w55)) (fun(z50:(Bool)×Unit) w51=> ∀_:Nat→Value,
Aj z50.1 (
Ae prog F.Oz [.pointer n,iV r1.1.1] w51 true Yk fun r57 w58=>
Ae prog F.Jh [.pointer (some p7),r57.1.1,.bool r57.2.1.1] w58 true [] fun r59 w60=>
ld1 .sl p7 w60 fun x61=>
R (((x61.1,x61.2.1,x61.2.2),()),(0,()),()) w60) (
ld1 .sl p7 w51 fun x62=>
R (((x62.1,x62.2.1,x62.2.2),()),(0,()),()) w51))))))
theorem Hy.ok{n:Option Addr}{step jitter:Int}{w:World}{R:TR xA→WP}:Hy.wp n step jitter w R→Ae prog F.Hy [.pointer n,iV step,iV jitter] w true xA R:=
  oks Aa Tryz.func120 (hs 6 (.ct [] .n (.s .n (.ct [] (.lp [] .n) (.s (.ct [(94,.b)] .n .n) .n)))))
def Fb.wp(l:Option Addr)(w:World)(R:TR iT→WP):Prop:=
Aj (Option.isNone l) (
R ((0,()),()) w) (
Aq l fun a1=>
ld1 KI a1 w fun x2=>
R ((x2,()),()) w)
theorem Fb.ok{l:Option Addr}{w:World}{R:TR iT→WP}:Fb.wp l w R→Ae prog F.Fb [.pointer l] w false iT R:=
  oks Aa Tryz.func121 .n
def I4.wp(a0 a1:Int)(a2:Option Addr×Nat×Nat)(i near:Int)(w:World)(R:TR Aj7→WP):Prop:=
Bf [.int .u64 a0,.int .u64 a1,.slice a2.1 a2.2.1 a2.2.2] T.Adx w fun p1 w2=>
Bf [iV 0,iV 0] T.P6 w2 fun p3 w4=>
Aj (near==0) (
Au [iV (Int.negSucc 0),iV 0] p3 0 w4 fun w5=>
A8 [KI,KI] p3 0 w5 fun x6=>
R ((x6.1,x6.2.1,()),()) w5) (
Cc (fun(J7:((Int)×Unit)→WP)=>
Aj ((Lm .and .u64 near (wrap .u64 (near-1)))==0) (
Ae prog F.bits_TrailingZeros64 [.int .u64 near] w4 false iT fun r10 w11=>
J7 (r10.1.1,()) w11) (
J7 ((Int.negSucc 0),()) w4)) (fun(z8:(Int)×Unit) w9=> ∀_:Nat→Value,
ld1 (.i .u64) p1 w9 fun x12=>
Ae prog F.Np [.int .u64 x12,iV i] w9 false r0' fun r13 w14=>
Aj r13.1.1 (
Au [iV z8.1,iV 2] p3 0 w14 fun w15=>
A8 [KI,KI] p3 0 w15 fun x16=>
R ((x16.1,x16.2.1,()),()) w15) (
ld1 (.i .u64) (p1.add 1) w14 fun x17=>
Ae prog F.Np [.int .u64 x17,iV i] w14 false r0' fun r18 w19=>
Aj (!r18.1.1) (
Au [iV z8.1,iV 3] p3 0 w19 fun w20=>
A8 [KI,KI] p3 0 w20 fun x21=>
R ((x21.1,x21.2.1,()),()) w20) (
Aj (decide (z8.1<0)) (
Au [iV z8.1,iV 4] p3 0 w19 fun w22=>
A8 [KI,KI] p3 0 w22 fun x23=>
R ((x23.1,x23.2.1,()),()) w22) (
ld1 .sl (p1.add 2) w19 fun x24=>
Aj (decide (i<(x24.2.1:Int))) (
ld1 .sl (p1.add 2) w19 fun x25=>
Ny x25.1 x25.2.1 i fun a26=>
ld1 (.i .u64) (a26.add (i.toNat*1)) w19 fun x27=>
Ae prog F.Np [.int .u64 x27,iV z8.1] w19 false r0' fun r28 w29=>
Aj r28.1.1 (
Au [iV z8.1,iV 5] p3 0 w29 fun w30=>
A8 [KI,KI] p3 0 w30 fun x31=>
R ((x31.1,x31.2.1,()),()) w30) (
Au [iV z8.1,iV 1] p3 0 w29 fun w32=>
A8 [KI,KI] p3 0 w32 fun x33=>
R ((x33.1,x33.2.1,()),()) w32)) (
Au [iV z8.1,iV 1] p3 0 w19 fun w34=>
A8 [KI,KI] p3 0 w34 fun x35=>
R ((x35.1,x35.2.1,()),()) w34))))))
theorem I4.ok{a0 a1:Int}{a2:Option Addr×Nat×Nat}{i near:Int}{w:World}{R:TR Aj7→WP}:I4.wp a0 a1 a2 i near w R→Ae prog F.I4 [.agg #[.int .u64 a0,.int .u64 a1,.slice a2.1 a2.2.1 a2.2.2],iV i,.int .u64 near] w false Aj7 R:=
  oks Aa Tryz.func122 (hs 3 (.ct [(7,(.i .i64))] .n .n))
def Gx.wp(l:Option Addr)(i:Int)(w:World)(R:TR aT→WP):Prop:=
Ae prog F.Ep [.pointer l,iV i] w false r0' fun r1 w2=>
Aj (!r1.1.1) (
R ((0,()),()) w2) (
Aq l fun a3=>
ld1 .sl (a3.add 1) w2 fun x4=>
Ny x4.1 x4.2.1 i fun a5=>
ld1 (.i .u64) (a5.add (i.toNat*1)) w2 fun x6=>
R ((x6,()),()) w2)
theorem Gx.ok{l:Option Addr}{i:Int}{w:World}{R:TR aT→WP}:Gx.wp l i w R→Ae prog F.Gx [.pointer l,iV i] w false aT R:=
  oks Aa Tryz.func123 .n
def Iy.wp(n:Option Addr)(w:World)(R:TR r0'→WP):Prop:=
Ae prog F.Cm [.pointer n] w false iT fun r1 w2=>
Aj (r1.1.1 !=0) (
R ((false,()),()) w2) (
Jg w2 fun w3=>
Aq n fun a4=>
ld1 .p (a4.add 15) w3 fun x5=>
Aq n fun a6=>
ld1 .p (a6.add 14) w3 fun x7=>
Ae prog F.Ez [.pointer x7] w3 false iT fun r8 w9=>
A7 [hd 7 (a6.add 14) w3,hd 3 (a4.add 15) w3] w9∧(
Ae prog F.Hw [.pointer x5,iV r8.1.1] w9 true Ajr fun r10 w11=>
A7 [hd 7 (a6.add 14) w3] w11∧(
Aj (r10.2.2.1.1 !=0) (
R ((true,()),()) w11) (
Jg w11 fun w12=>
Aq n fun a13=>
A8 Aab (a13.add 5) 0 w12 fun x14=>
Aq n fun a15=>
A8 aU (a15.add 1) 0 w12 fun x16=>
Aq n fun a17=>
A8 Aab (a17.add 5) 0 w12 fun x18=>
Aq n fun a19=>
ld1 KI (a19.add 9) w12 fun x20=>
Ae prog F.Xw [Sv aU x16,Sv Aab x18,iV x20] w12 false Af4 fun r21 w22=>
A7 [hd 20 (a19.add 9) w12,hd 15 ((a17.add 5).add 0) w12,hd 15 ((a17.add 5).add 1) w12,hd 15 ((a17.add 5).add 2) w12,hd 10 ((a15.add 1).add 0) w12,hd 10 ((a15.add 1).add 1) w12,hd 10 ((a15.add 1).add 2) w12,hd 10 ((a15.add 1).add 3) w12,hd 4 ((a13.add 5).add 0) w12,hd 4 ((a13.add 5).add 1) w12,hd 4 ((a13.add 5).add 2) w12] w22∧(
Ae prog F.I9 [Sv aU r21.1,iV r10.2.1.1] w22 false iT fun r23 w24=>
A7 [hd 20 (a19.add 9) w12,hd 15 ((a17.add 5).add 0) w12,hd 15 ((a17.add 5).add 1) w12,hd 15 ((a17.add 5).add 2) w12,hd 10 ((a15.add 1).add 0) w12,hd 10 ((a15.add 1).add 1) w12,hd 10 ((a15.add 1).add 2) w12,hd 10 ((a15.add 1).add 3) w12,hd 4 ((a13.add 5).add 0) w12,hd 4 ((a13.add 5).add 1) w12,hd 4 ((a13.add 5).add 2) w12] w24∧(
Ae prog F.Nb [Sv Aab x14,iV r10.1.1,iV r23.1.1] w24 false r0' fun r25 w26=>
A7 [hd 20 (a19.add 9) w12,hd 15 ((a17.add 5).add 0) w12,hd 15 ((a17.add 5).add 1) w12,hd 15 ((a17.add 5).add 2) w12,hd 10 ((a15.add 1).add 0) w12,hd 10 ((a15.add 1).add 1) w12,hd 10 ((a15.add 1).add 2) w12,hd 10 ((a15.add 1).add 3) w12] w26∧(
R ((r25.1.1,()),()) w26)))))))
theorem Iy.ok{n:Option Addr}{w:World}{R:TR r0'→WP}:Iy.wp n w R→Ae prog F.Iy [.pointer n] w false r0' R:=
  oks Aa Tryz.func124 (hs 2 (.s (.pl (ks [0,1,2,3,4,5,6,7] (.ef 8 [] (.ef 9 [3] (ks [10,11,12,13,14,15,16] .z))))) (.s .n (.s (.pl (ks [0,1,2,3,4,5,6,7,8,9,10,11,12,13,14,15,16,17,18,19,20,22] (.ef 21 [] (.ef 23 [] (.ef 24 [4] (.tk 25 .z)))))) .n))))
def Iu.wp(n:Option Addr)(jitter:Int)(w:World)(R:TR xB→WP):Prop:=
Ae prog F.Cm [.pointer n] w false iT fun r1 w2=>
Aj (r1.1.1 !=0) (
R ((0,()),(r1.1.1,()),()) w2) (
Aq n fun a3=>
ld1 KI (a3.add 9) w2 fun x4=>
Aj (decide (jitter<(wrap .i64 (0-x4)))) (
R ((0,()),(1,()),()) w2) (
Aq n fun a5=>
ld1 KI (a5.add 9) w2 fun x6=>
Aj (decide (jitter>x6)) (
R ((0,()),(1,()),()) w2) (
Aq n fun a7=>
ld1 .p (a7.add 14) w2 fun x8=>
Ae prog F.Ez [.pointer x8] w2 false iT fun r9 w10=>
Ae prog F.Qs [iV (wrap .i64 (r9.1.1+jitter)),iV 0,iV 1125899906842624] w10 false iT fun r11 w12=>
R ((r11.1.1,()),(0,()),()) w12)))
theorem Iu.ok{n:Option Addr}{jitter:Int}{w:World}{R:TR xB→WP}:Iu.wp n jitter w R→Ae prog F.Iu [.pointer n,iV jitter] w true xB R:=
  oks Aa Tryz.func125 .n
def Ii.wp(n:Option Addr)(f0 f1 f2 f3 f4 f5 stamp:Int)(w:World)(R:TR iT→WP):Prop:=
Cc (fun(J1:((Addr)×(Int)×Unit)→WP)=>
Jg w fun w4=>
Aq n fun a5=>
ld1 .p (a5.add 18) w4 fun x6=>
Aq n fun a7=>
ld1 .p (a7.add 15) w4 fun x8=>
(
Ae prog F.Ar [.pointer x6,.pointer x8,iV stamp] w4 true oI fun r9 w10=>
A7 [hd 7 (a7.add 15) w4,hd 3 (a5.add 18) w4] w10∧(
Bf dE T.Bg w10 fun p11 w12=>
A7 [hd 7 (a7.add 15) w4,hd 3 (a5.add 18) w4] w12∧(
Au (encs Tu r9.1) p11 0 w12 fun w13=>
A7 [] w13∧(
J1 (p11,r9.2.1.1,()) w13))))∧(
Bf dE T.Bg w4 fun p14 w15=>
A7 [hd 7 (a7.add 15) w4,hd 3 (a5.add 18) w4] w15∧(
Ae prog F.Ar [.pointer x6,.pointer x8,iV stamp] w15 true oI fun r16 w17=>
A7 [] w17∧(
Au (encs Tu r16.1) p14 0 w17 fun w18=>
A7 [] w18∧(
J1 (p14,r16.2.1.1,()) w18))))) (fun(z2:(Addr)×(Int)×Unit) w3=> ∀_:Nat→Value,
Bf Aph T.Bh w3 fun p19 w20=>
Au [iV f0,uV f1,iV f2,uV f3,iV f4,iV f5] p19 0 w20 fun w21=>
Jg w21 fun w22=>
Aq n fun a23=>
A8 U9 p19 0 w22 fun x24=>
Ae prog F.Gh [.pointer (some (a23.add 19)),Sv U9 x24] w22 false r0' fun r25 w26=>
A7 [] w26∧(
Aj r25.1.1 (
Ae prog F.Ib [.pointer n] w26 false iT fun r27 w28=>
R ((r27.1.1,()),()) w28) (
R ((0,()),()) w26)))
theorem Ii.ok{n:Option Addr}{f0 f1 f2 f3 f4 f5 stamp:Int}{w:World}{R:TR iT→WP}:Ii.wp n f0 f1 f2 f3 f4 f5 stamp w R→Ae prog F.Gm [.pointer n,.iface T.Bh (.agg #[iV f0,uV f1,iV f2,uV f3,iV f4,iV f5]),iV stamp] w false iT R:=
  oks Aa Tryz.func126 (.s .n (.ct [(7,.a),(8,(.i .i64))] (.pl (ks [0,1,2,3,4,5,6,7,8] (.two 9 13 (ks [10,11,12] (.ef 13 [] (.ef 14 [3,7] (.tk 15 .z)))) (.ef 9 [3,7] (ks [10,11,12] (.ef 14 [] (.tk 15 .z))))))) (.s (hs 12 (.s (.s .n (.s (.pl (ks [0,1,2,3] (.ef 4 [3] .z))) .n)) .n)) .n)))
def Px.wp(n:Option Addr)(f0 f1 f2 f3 f4 f5 stamp:Int)(w:World)(R:TR iT→WP):Prop:=
Cc (fun(J1:((Addr)×(Int)×Unit)→WP)=>
Jg w fun w4=>
Aq n fun a5=>
ld1 .p (a5.add 18) w4 fun x6=>
Aq n fun a7=>
ld1 .p (a7.add 15) w4 fun x8=>
(
Ae prog F.Ar [.pointer x6,.pointer x8,iV stamp] w4 true oI fun r9 w10=>
A7 [hd 7 (a7.add 15) w4,hd 3 (a5.add 18) w4] w10∧(
Bf dE T.Bg w10 fun p11 w12=>
A7 [hd 7 (a7.add 15) w4,hd 3 (a5.add 18) w4] w12∧(
Au (encs Tu r9.1) p11 0 w12 fun w13=>
A7 [] w13∧(
J1 (p11,r9.2.1.1,()) w13))))∧(
Bf dE T.Bg w4 fun p14 w15=>
A7 [hd 7 (a7.add 15) w4,hd 3 (a5.add 18) w4] w15∧(
Ae prog F.Ar [.pointer x6,.pointer x8,iV stamp] w15 true oI fun r16 w17=>
A7 [] w17∧(
Au (encs Tu r16.1) p14 0 w17 fun w18=>
A7 [] w18∧(
J1 (p14,r16.2.1.1,()) w18))))) (fun(z2:(Addr)×(Int)×Unit) w3=> ∀_:Nat→Value,
Bf Aae T.Dy w3 fun p19 w20=>
Au [iV f0,iV f1,uV f2,uV f3,iV f4,iV f5] p19 0 w20 fun w21=>
Jg w21 fun w22=>
Aq n fun a23=>
ld1 .p (a23.add 15) w22 fun x24=>
A8 Xx p19 0 w22 fun x25=>
Ae prog F.Le [.pointer x24,Sv Xx x25,iV stamp] w22 false iT fun r26 w27=>
A7 [] w27∧(
R ((0,()),()) w27))
theorem Px.ok{n:Option Addr}{f0 f1 f2 f3 f4 f5 stamp:Int}{w:World}{R:TR iT→WP}:Px.wp n f0 f1 f2 f3 f4 f5 stamp w R→Ae prog F.Gm [.pointer n,.iface T.Dy (.agg #[iV f0,iV f1,uV f2,uV f3,iV f4,iV f5]),iV stamp] w false iT R:=
  oks Aa Tryz.func126 (.s .n (.ct [(7,.a),(8,(.i .i64))] (.pl (ks [0,1,2,3,4,5,6,7,8] (.two 9 13 (ks [10,11,12] (.ef 13 [] (.ef 14 [3,7] (.tk 15 .z)))) (.ef 9 [3,7] (ks [10,11,12] (.ef 14 [] (.tk 15 .z))))))) (.s (hs 2 (.s (.s .n (.pl (ks [0,1,2,3,4,5] (.ef 6 [3,4] .z)))) .n)) .n)))
def Pm.wp(n:Option Addr)(f0 f1 stamp:Int)(w:World)(R:TR iT→WP):Prop:=
Cc (fun(J1:((Addr)×(Int)×Unit)→WP)=>
Jg w fun w4=>
Aq n fun a5=>
ld1 .p (a5.add 18) w4 fun x6=>
Aq n fun a7=>
ld1 .p (a7.add 15) w4 fun x8=>
(
Ae prog F.Ar [.pointer x6,.pointer x8,iV stamp] w4 true oI fun r9 w10=>
A7 [hd 7 (a7.add 15) w4,hd 3 (a5.add 18) w4] w10∧(
Bf dE T.Bg w10 fun p11 w12=>
A7 [hd 7 (a7.add 15) w4,hd 3 (a5.add 18) w4] w12∧(
Au (encs Tu r9.1) p11 0 w12 fun w13=>
A7 [] w13∧(
J1 (p11,r9.2.1.1,()) w13))))∧(
Bf dE T.Bg w4 fun p14 w15=>
A7 [hd 7 (a7.add 15) w4,hd 3 (a5.add 18) w4] w15∧(
Ae prog F.Ar [.pointer x6,.pointer x8,iV stamp] w15 true oI fun r16 w17=>
A7 [] w17∧(
Au (encs Tu r16.1) p14 0 w17 fun w18=>
A7 [] w18∧(
J1 (p14,r16.2.1.1,()) w18))))) (fun(z2:(Addr)×(Int)×Unit) w3=> ∀_:Nat→Value,
Bf [iV 0,iV 0] T.Gj w3 fun p19 w20=>
Au [iV f0,iV f1] p19 0 w20 fun w21=>
Aq n fun a22=>
ld1 .p (a22.add 15) w21 fun x23=>
Ae prog F.Ba [.pointer x23] w21 false r0' fun r24 w25=>
Aj (!r24.1.1) (
Jg w25 fun w26=>
Aq n fun a27=>
ld1 .p (a27.add 16) w26 fun x28=>
A8 [KI,KI] p19 0 w26 fun x29=>
Ae prog F.Kv [.pointer x28,.agg #[iV x29.1,iV x29.2.1]] w26 false r0' fun r30 w31=>
A7 [] w31∧(
R ((0,()),()) w31)) (
R ((0,()),()) w25))
theorem Pm.ok{n:Option Addr}{f0 f1 stamp:Int}{w:World}{R:TR iT→WP}:Pm.wp n f0 f1 stamp w R→Ae prog F.Gm [.pointer n,.iface T.Gj (.agg #[iV f0,iV f1]),iV stamp] w false iT R:=
  oks Aa Tryz.func126 (.s .n (.ct [(7,.a),(8,(.i .i64))] (.pl (ks [0,1,2,3,4,5,6,7,8] (.two 9 13 (ks [10,11,12] (.ef 13 [] (.ef 14 [3,7] (.tk 15 .z)))) (.ef 9 [3,7] (ks [10,11,12] (.ef 14 [] (.tk 15 .z))))))) (.s (hs 4 (.s (hs 2 (.s (.pl (ks [0,1,2,3,4] (.ef 5 [3,4] .z))) .n)) .n)) .n)))
def Pq.wp(n:Option Addr)(f0 stamp:Int)(w:World)(R:TR iT→WP):Prop:=
Cc (fun(J1:((Addr)×(Int)×Unit)→WP)=>
Jg w fun w4=>
Aq n fun a5=>
ld1 .p (a5.add 18) w4 fun x6=>
Aq n fun a7=>
ld1 .p (a7.add 15) w4 fun x8=>
(
Ae prog F.Ar [.pointer x6,.pointer x8,iV stamp] w4 true oI fun r9 w10=>
A7 [hd 7 (a7.add 15) w4,hd 3 (a5.add 18) w4] w10∧(
Bf dE T.Bg w10 fun p11 w12=>
A7 [hd 7 (a7.add 15) w4,hd 3 (a5.add 18) w4] w12∧(
Au (encs Tu r9.1) p11 0 w12 fun w13=>
A7 [] w13∧(
J1 (p11,r9.2.1.1,()) w13))))∧(
Bf dE T.Bg w4 fun p14 w15=>
A7 [hd 7 (a7.add 15) w4,hd 3 (a5.add 18) w4] w15∧(
Ae prog F.Ar [.pointer x6,.pointer x8,iV stamp] w15 true oI fun r16 w17=>
A7 [] w17∧(
Au (encs Tu r16.1) p14 0 w17 fun w18=>
A7 [] w18∧(
J1 (p14,r16.2.1.1,()) w18))))) (fun(z2:(Addr)×(Int)×Unit) w3=> ∀_:Nat→Value,
Bf [iV 0] T.Gp w3 fun p19 w20=>
Au [iV f0] p19 0 w20 fun w21=>
Aj (z2.2.1==0) (
Aq n fun a22=>
ld1 .p (a22.add 27) w21 fun x23=>
Ae prog F.Cj [.pointer x23,.iface T.nH (.agg #[])] w21 false iT fun r24 w25=>
R ((r24.1.1,()),()) w25) (
R ((0,()),()) w21))
theorem Pq.ok{n:Option Addr}{f0 stamp:Int}{w:World}{R:TR iT→WP}:Pq.wp n f0 stamp w R→Ae prog F.Gm [.pointer n,.iface T.Gp (.agg #[iV f0]),iV stamp] w false iT R:=
  oks Aa Tryz.func126 (.s .n (.ct [(7,.a),(8,(.i .i64))] (.pl (ks [0,1,2,3,4,5,6,7,8] (.two 9 13 (ks [10,11,12] (.ef 13 [] (.ef 14 [3,7] (.tk 15 .z)))) (.ef 9 [3,7] (ks [10,11,12] (.ef 14 [] (.tk 15 .z))))))) .n))
def Oa.wp(n:Option Addr)(f0 f1 f2 stamp:Int)(w:World)(R:TR iT→WP):Prop:=
Cc (fun(J1:((Addr)×(Int)×Unit)→WP)=>
Jg w fun w4=>
Aq n fun a5=>
ld1 .p (a5.add 18) w4 fun x6=>
Aq n fun a7=>
ld1 .p (a7.add 15) w4 fun x8=>
(
Ae prog F.Ar [.pointer x6,.pointer x8,iV stamp] w4 true oI fun r9 w10=>
A7 [hd 7 (a7.add 15) w4,hd 3 (a5.add 18) w4] w10∧(
Bf dE T.Bg w10 fun p11 w12=>
A7 [hd 7 (a7.add 15) w4,hd 3 (a5.add 18) w4] w12∧(
Au (encs Tu r9.1) p11 0 w12 fun w13=>
A7 [] w13∧(
J1 (p11,r9.2.1.1,()) w13))))∧(
Bf dE T.Bg w4 fun p14 w15=>
A7 [hd 7 (a7.add 15) w4,hd 3 (a5.add 18) w4] w15∧(
Ae prog F.Ar [.pointer x6,.pointer x8,iV stamp] w15 true oI fun r16 w17=>
A7 [] w17∧(
Au (encs Tu r16.1) p14 0 w17 fun w18=>
A7 [] w18∧(
J1 (p14,r16.2.1.1,()) w18))))) (fun(z2:(Addr)×(Int)×Unit) w3=> ∀_:Nat→Value,
Bf Ao4 T.Ef w3 fun p19 w20=>
Au [iV f0,iV f1,iV f2] p19 0 w20 fun w21=>
Cc (fun(J22:((Bool)×Unit)→WP)=>
Jg w21 fun w25=>
Aj (z2.2.1==0) (
ld1 KI (p19.add 1) w25 fun x26=>
Aq n fun a27=>
ld1 KI a27 w25 fun x28=>
J22 ((x26==x28),()) w25) (
J22 (false,()) w25)) (fun(z23:(Bool)×Unit) w24=> ∀_:Nat→Value,
Aj z23.1 (
Jg w24 fun w29=>
Aq n fun a30=>
ld1 .p (a30.add 27) w29 fun x31=>
ld1 KI p19 w29 fun x32=>
ld1 KI (p19.add 2) w29 fun x33=>
A8 Tu z2.1 0 w29 fun x34=>
Ae prog F.Cj [.pointer x31,.iface T.jZ (.agg #[iV x32,iV x33,iV x34.1,iV x34.2.1,iV x34.2.2.1,uV x34.2.2.2.1,iV x34.2.2.2.2.1])] w29 false iT fun r35 w36=>
A7 [hd 8 (z2.1.add 0) w29,hd 8 (z2.1.add 1) w29,hd 8 (z2.1.add 2) w29,hd 8 (z2.1.add 3) w29,hd 8 (z2.1.add 4) w29,hd 7 (p19.add 2) w29,hd 5 p19 w29] w36∧(
R ((r35.1.1,()),()) w36)) (
R ((0,()),()) w24)))
theorem Oa.ok{n:Option Addr}{f0 f1 f2 stamp:Int}{w:World}{R:TR iT→WP}:Oa.wp n f0 f1 f2 stamp w R→Ae prog F.Gm [.pointer n,.iface T.Ef (.agg #[iV f0,iV f1,iV f2]),iV stamp] w false iT R:=
  oks Aa Tryz.func126 (.s .n (.ct [(7,.a),(8,(.i .i64))] (.pl (ks [0,1,2,3,4,5,6,7,8] (.two 9 13 (ks [10,11,12] (.ef 13 [] (.ef 14 [3,7] (.tk 15 .z)))) (.ef 9 [3,7] (ks [10,11,12] (.ef 14 [] (.tk 15 .z))))))) (.s (hs 8 (.s (.s .n (.ct [(82,.b)] (.pl (ks [0,1,2,3,4,5,6,7,8,9,10,11] .z)) (.s (.s (.pl (ks [0,1,2,3,4,5,6,7,8,9,10] (.ef 11 [3] (.tk 12 .z)))) .n) .n))) .n)) .n)))
def Og.wp(n:Option Addr)(f0 f1 f2 f3 f4 f5 f6 f7 stamp:Int)(w:World)(R:TR iT→WP):Prop:=
Cc (fun(J1:((Addr)×(Int)×Unit)→WP)=>
Jg w fun w4=>
Aq n fun a5=>
ld1 .p (a5.add 18) w4 fun x6=>
Aq n fun a7=>
ld1 .p (a7.add 15) w4 fun x8=>
(
Ae prog F.Ar [.pointer x6,.pointer x8,iV stamp] w4 true oI fun r9 w10=>
A7 [hd 7 (a7.add 15) w4,hd 3 (a5.add 18) w4] w10∧(
Bf dE T.Bg w10 fun p11 w12=>
A7 [hd 7 (a7.add 15) w4,hd 3 (a5.add 18) w4] w12∧(
Au (encs Tu r9.1) p11 0 w12 fun w13=>
A7 [] w13∧(
J1 (p11,r9.2.1.1,()) w13))))∧(
Bf dE T.Bg w4 fun p14 w15=>
A7 [hd 7 (a7.add 15) w4,hd 3 (a5.add 18) w4] w15∧(
Ae prog F.Ar [.pointer x6,.pointer x8,iV stamp] w15 true oI fun r16 w17=>
A7 [] w17∧(
Au (encs Tu r16.1) p14 0 w17 fun w18=>
A7 [] w18∧(
J1 (p14,r16.2.1.1,()) w18))))) (fun(z2:(Addr)×(Int)×Unit) w3=> ∀_:Nat→Value,
Bf Axh T.Gl w3 fun p19 w20=>
Au [iV f0,iV f1,iV f2,iV f3,iV f4,iV f5,uV f6,iV f7] p19 0 w20 fun w21=>
Cc (fun(J22:((Addr)×(Bool)×Unit)→WP)=>
Jg w21 fun w25=>
Aq n fun a26=>
ld1 .p (a26.add 17) w25 fun x27=>
A8 Aue p19 0 w25 fun x28=>
(
Ae prog F.Jo [.pointer x27,Sv Aue x28,iV stamp] w25 true Aar fun r29 w30=>
A7 [hd 4 (p19.add 0) w25,hd 4 (p19.add 1) w25,hd 4 (p19.add 2) w25,hd 4 (p19.add 3) w25,hd 4 (p19.add 4) w25,hd 4 (p19.add 5) w25,hd 4 (p19.add 6) w25,hd 4 (p19.add 7) w25,hd 3 (a26.add 17) w25] w30∧(
Bf Ao4 T.Du w30 fun p31 w32=>
A7 [hd 4 (p19.add 0) w25,hd 4 (p19.add 1) w25,hd 4 (p19.add 2) w25,hd 4 (p19.add 3) w25,hd 4 (p19.add 4) w25,hd 4 (p19.add 5) w25,hd 4 (p19.add 6) w25,hd 4 (p19.add 7) w25,hd 3 (a26.add 17) w25] w32∧(
Au (encs Aab r29.1) p31 0 w32 fun w33=>
A7 [] w33∧(
J22 (p31,r29.2.1.1,()) w33))))∧(
Bf Ao4 T.Du w25 fun p34 w35=>
A7 [hd 4 (p19.add 0) w25,hd 4 (p19.add 1) w25,hd 4 (p19.add 2) w25,hd 4 (p19.add 3) w25,hd 4 (p19.add 4) w25,hd 4 (p19.add 5) w25,hd 4 (p19.add 6) w25,hd 4 (p19.add 7) w25,hd 3 (a26.add 17) w25] w35∧(
Ae prog F.Jo [.pointer x27,Sv Aue x28,iV stamp] w35 true Aar fun r36 w37=>
A7 [] w37∧(
Au (encs Aab r36.1) p34 0 w37 fun w38=>
A7 [] w38∧(
J22 (p34,r36.2.1.1,()) w38))))) (fun(z23:(Addr)×(Bool)×Unit) w24=> ∀_:Nat→Value,
Aj z23.2.1 (
Jg w24 fun w39=>
Aq n fun a40=>
ld1 .p (a40.add 18) w39 fun x41=>
A8 Aab z23.1 0 w39 fun x42=>
ld1 KI (p19.add 5) w39 fun x43=>
ld1 KU (p19.add 6) w39 fun x44=>
Ae prog F.Je [.pointer x41,Sv Aab x42,.agg #[iV x43,uV x44]] w39 false iT fun r45 w46=>
A7 [hd 8 (p19.add 6) w39,hd 6 (p19.add 5) w39] w46∧(
R ((0,()),()) w46)) (
R ((0,()),()) w24)))
theorem Og.ok{n:Option Addr}{f0 f1 f2 f3 f4 f5 f6 f7 stamp:Int}{w:World}{R:TR iT→WP}:Og.wp n f0 f1 f2 f3 f4 f5 f6 f7 stamp w R→Ae prog F.Gm [.pointer n,.iface T.Gl (.agg #[iV f0,iV f1,iV f2,iV f3,iV f4,iV f5,uV f6,iV f7]),iV stamp] w false iT R:=
  oks Aa Tryz.func126 (.s .n (.ct [(7,.a),(8,(.i .i64))] (.pl (ks [0,1,2,3,4,5,6,7,8] (.two 9 13 (ks [10,11,12] (.ef 13 [] (.ef 14 [3,7] (.tk 15 .z)))) (.ef 9 [3,7] (ks [10,11,12] (.ef 14 [] (.tk 15 .z))))))) (.s (hs 10 (.s (.s .n (.ct [(14,.a),(15,.b)] (.pl (ks [0,1,2,3,4,5] (.two 6 10 (ks [7,8,9] (.ef 10 [] (.ef 11 [3,4] (.tk 12 .z)))) (.ef 6 [3,4] (ks [7,8,9] (.ef 11 [] (.tk 12 .z))))))) (.s .n (.s (.pl (ks [0,1,2,3,4,5,6,7,8,9] (.ef 10 [3,4] .z))) .n)))) .n)) .n)))
def Ar.wp(s f:Option Addr)(local_:Int)(w:World)(R:TR oI→WP):Prop:=
Bf dE T.Bg w fun p1 w2=>
Cc (fun(J3:((Bool)×Unit)→WP)=>
Aj (Option.isNone s) (
J3 (true,()) w2) (
J3 ((Option.isNone f),()) w2)) (fun(z4:(Bool)×Unit) w5=> ∀_:Nat→Value,
Aj z4.1 (
Au dE p1 0 w5 fun w6=>
A8 Tu p1 0 w6 fun x7=>
R (x7,(2,()),()) w6) (
Ae prog F.Ba [.pointer f] w5 false r0' fun r8 w9=>
Aj r8.1.1 (
Ae prog F.Oo [.pointer f,iV local_] w9 true oI fun r10 w11=>
Au (encs Tu r10.1) p1 0 w11 fun w12=>
A8 Tu p1 0 w12 fun x13=>
R (x13,(r10.2.1.1,()),()) w12) (
Aq s fun a14=>
ld1 .b (a14.add 7) w9 fun x15=>
Aj (!x15) (
Au dE p1 0 w9 fun w16=>
A8 Tu p1 0 w16 fun x17=>
R (x17,(9,()),()) w16) (
Aj (decide (local_<0)) (
Au dE p1 0 w9 fun w18=>
A8 Tu p1 0 w18 fun x19=>
R (x19,(8,()),()) w18) (
Aj (decide (local_>1125899906842624)) (
Au dE p1 0 w9 fun w20=>
A8 Tu p1 0 w20 fun x21=>
R (x21,(8,()),()) w20) (
Aq s fun a22=>
ld1 KI ((a22.add 1).add 1) w9 fun x23=>
Aj (decide ((wrap .i64 (local_+x23))<0)) (
Au dE p1 0 w9 fun w24=>
A8 Tu p1 0 w24 fun x25=>
R (x25,(8,()),()) w24) (
Aj (decide ((wrap .i64 (local_+x23))>1125899906842624)) (
Au dE p1 0 w9 fun w26=>
A8 Tu p1 0 w26 fun x27=>
R (x27,(8,()),()) w26) (
Jg w9 fun w28=>
Aq s fun a29=>
ld1 KI ((a29.add 1).add 2) w28 fun x30=>
Aq s fun a31=>
A8 [KI,KU] (a31.add 4) 0 w28 fun x32=>
Au [iV (wrap .i64 (local_+x23)),iV x30,iV x32.1,uV x32.2.1,iV 3] p1 0 w28 fun w33=>
A7 [] w33∧(
A8 Tu p1 0 w33 fun x34=>
R (x34,(0,()),()) w33)))))))))
theorem Ar.ok{s f:Option Addr}{local_:Int}{w:World}{R:TR oI→WP}:Ar.wp s f local_ w R→Ae prog F.Ar [.pointer s,.pointer f,iV local_] w true oI R:=
  oks Aa Tryz.func127 (.s .n (.s (.ct [(9,.b)] .n .n) (hs 2 (.s (.pl (ks [0,1,2,3,4,5,6,7,8,9,10] (.ef 11 [5,9] (.tk 12 .z)))) .n))))
def Nr.wp(c:Option Addr)(raw:Int)(w:World)(R:TR []→WP):Prop:=
Aj (!(Option.isNone c)) (
Aq c fun a1=>
Au [.int .u32 raw] (a1.add 1) 0 w fun w2=>
Aq c fun a3=>
Au [iV (wrap .i64 raw)] (a3.add 2) 0 w2 fun w4=>
R (()) w4) (
R (()) w)
theorem Nr.ok{c:Option Addr}{raw:Int}{w:World}{R:TR []→WP}:Nr.wp c raw w R→Ae prog F.Nr [.pointer c,.int .u32 raw] w true [] R:=
  oks Aa Tryz.func128 .n
def Lh.wp(f:Option Addr)(boot:Int)(w:World)(R:TR []→WP):Prop:=
Aj (!(Option.isNone f)) (
Aq f fun a1=>
ld1 .p a1 w fun x2=>
Ae prog F.Hr [.pointer x2,uV boot] w true [] fun r3 w4=>
Ae prog F.Em [.pointer f] w4 true [] fun r5 w6=>
R (()) w6) (
R (()) w)
theorem Lh.ok{f:Option Addr}{boot:Int}{w:World}{R:TR []→WP}:Lh.wp f boot w R→Ae prog F.Lh [.pointer f,uV boot] w true [] R:=
  oks Aa Tryz.func129 .n
def Gf.wp(l:Option Addr)(w:World)(R:TR []→WP):Prop:=
Aj (!(Option.isNone l)) (
Aq l fun a1=>
Au [iV (Int.negSucc 0)] (a1.add 1) 0 w fun w2=>
Aq l fun a3=>
Au [iV (Int.negSucc 0)] (a3.add 2) 0 w2 fun w4=>
R (()) w4) (
R (()) w)
theorem Gf.ok{l:Option Addr}{w:World}{R:TR []→WP}:Gf.wp l w R→Ae prog F.Gf [.pointer l] w true [] R:=
  oks Aa Tryz.func130 .n
def Pe.wp(p:Option Addr)(w:World)(R:TR []→WP):Prop:=
Aj (!(Option.isNone p)) (
Aq p fun a1=>
ld1 KI a1 w fun x2=>
Aq p fun a3=>
Au [iV x2,iV 0,iV 0,.bool false,iV 0,iV 0,iV 0] a3 0 w fun w4=>
R (()) w4) (
R (()) w)
theorem Pe.ok{p:Option Addr}{w:World}{R:TR []→WP}:Pe.wp p w R→Ae prog F.Pe [.pointer p] w true [] R:=
  oks Aa Tryz.func131 .n
def Fe.wp(s:Option Addr)(w:World)(R:TR []→WP):Prop:=
Aj (!(Option.isNone s)) (
Aq s fun a1=>
ld1 KI a1 w fun x2=>
Aq s fun a3=>
Au [iV x2,iV 0,iV 0,iV 0,iV 0,uV 0,iV 0,.bool false] a3 0 w fun w4=>
R (()) w4) (
R (()) w)
theorem Fe.ok{s:Option Addr}{w:World}{R:TR []→WP}:Fe.wp s w R→Ae prog F.Fe [.pointer s] w true [] R:=
  oks Aa Tryz.func132 .n
def Js.wp(b:Option Addr)(w:World)(R:TR []→WP):Prop:=
Aj (!(Option.isNone b)) (
Aq b fun a1=>
Au Axy a1 0 w fun w2=>
R (()) w2) (
R (()) w)
theorem Js.ok{b:Option Addr}{w:World}{R:TR []→WP}:Js.wp b w R→Ae prog F.Js [.pointer b] w true [] R:=
  oks Aa Tryz.func133 .n
def Md.wp(l:Option Addr)(w:World)(R:TR []→WP):Prop:=
Aj (!(Option.isNone l)) (
Aq l fun a1=>
ld1 .p a1 w fun x2=>
Ae prog F.Dw [.pointer x2] w true [] fun r3 w4=>
Aq l fun a5=>
Au [iV 0] (a5.add 1) 0 w4 fun w6=>
R (()) w6) (
R (()) w)
theorem Md.ok{l:Option Addr}{w:World}{R:TR []→WP}:Md.wp l w R→Ae prog F.Md [.pointer l] w true [] R:=
  oks Aa Tryz.func134 .n
def Eh.wp(r:Option Addr)(w:World)(R:TR []→WP):Prop:=
Aj (!(Option.isNone r)) (
Aq r fun a1=>
ld1 .sl a1 w fun x2=>
crK prog #[T.Zh] T.t0 (.slice x2.1 x2.2.1 x2.2.2) w fun w3=>
Aq r fun a4=>
Au [iV 0] (a4.add 1) 0 w3 fun w5=>
Aq r fun a6=>
Au [iV 0] (a6.add 2) 0 w5 fun w7=>
R (()) w7) (
R (()) w)
theorem Eh.ok{r:Option Addr}{w:World}{R:TR []→WP}:Eh.wp r w R→Ae prog F.Eh [.pointer r] w true [] R:=
  oks Aa Tryz.func135 .n
def Et.wp(b:Option Addr)(me t0 t1 t2 t3 t4 tai:Int)(w:World)(R:TR Aii→WP):Prop:=
Bf [iV t0,iV t1,iV t2,uV t3,iV t4] T.Bg w fun p1 w2=>
Bf Aph T.Bh w2 fun p3 w4=>
Aj (Option.isNone b) (
Au Aph p3 0 w4 fun w5=>
A8 U9 p3 0 w5 fun x6=>
R (x6,(2,()),()) w5) (
Cc (fun(J7:((Addr)×Unit)→WP)=>
Jg w4 fun w10=>
Aq b fun a11=>
ld1 KU ((a11.add 1).add 1) w10 fun x12=>
ld1 KI (p1.add 2) w10 fun x13=>
ld1 KU ((p1.add 2).add 1) w10 fun x14=>
ld1 KI p1 w10 fun x15=>
(
Ae prog F.Qu [uV x12] w10 false Ar0 fun r16 w17=>
A7 [hd 14 p1 w10,hd 12 ((p1.add 2).add 1) w10,hd 9 (p1.add 2) w10,hd 5 ((a11.add 1).add 1) w10] w17∧(
Bf Aph T.Bh w17 fun p18 w19=>
A7 [hd 14 p1 w10,hd 12 ((p1.add 2).add 1) w10,hd 9 (p1.add 2) w10,hd 5 ((a11.add 1).add 1) w10] w19∧(
Au [iV me,uV r16.1.1,iV x13,uV x14,iV x15,iV tai] p18 0 w19 fun w20=>
A7 [] w20∧(
J7 (p18,()) w20))))∧(
Bf Aph T.Bh w10 fun p21 w22=>
A7 [hd 14 p1 w10,hd 12 ((p1.add 2).add 1) w10,hd 9 (p1.add 2) w10,hd 5 ((a11.add 1).add 1) w10] w22∧(
Ae prog F.Qu [uV x12] w22 false Ar0 fun r23 w24=>
A7 [hd 14 p1 w10,hd 12 ((p1.add 2).add 1) w10,hd 9 (p1.add 2) w10] w24∧(
Au [iV me,uV r23.1.1,iV x13,uV x14,iV x15,iV tai] p21 0 w24 fun w25=>
A7 [] w25∧(
J7 (p21,()) w25))))) (fun(z8:(Addr)×Unit) w9=> ∀_:Nat→Value,
A8 U9 z8.1 0 w9 fun x26=>
Ae prog F.Ew [.iface T.Bh (Sv U9 x26)] w9 false r0' fun r27 w28=>
Aj (!r27.1.1) (
Au Aph p3 0 w28 fun w29=>
A8 U9 p3 0 w29 fun x30=>
R (x30,(1,()),()) w29) (
Jg w28 fun w31=>
A8 U9 z8.1 0 w31 fun x32=>
Aq b fun a33=>
Au [.bool true] a33 0 w31 fun w34=>
A7 [hd 2 (z8.1.add 0) w31,hd 2 (z8.1.add 1) w31,hd 2 (z8.1.add 2) w31,hd 2 (z8.1.add 3) w31,hd 2 (z8.1.add 4) w31,hd 2 (z8.1.add 5) w31] w34∧(
Aq b fun a35=>
Au (encs U9 x32) (a35.add 1) 0 w34 fun w36=>
A7 [] w36∧(
A8 U9 z8.1 0 w36 fun x37=>
Au (encs U9 x37) p3 0 w36 fun w38=>
A8 U9 p3 0 w38 fun x39=>
R (x39,(0,()),()) w38)))))
theorem Et.ok{b:Option Addr}{me t0 t1 t2 t3 t4 tai:Int}{w:World}{R:TR Aii→WP}:Et.wp b me t0 t1 t2 t3 t4 tai w R→Ae prog F.Et [.pointer b,iV me,.agg #[iV t0,iV t1,iV t2,uV t3,iV t4],iV tai] w true Aii R:=
  oks Aa Tryz.func136 (hs 2 (.ct [(10,.a)] (.pl (ks [0,1,2,3,4,5,7,8,9,10,11,12,13,14,15] (.two 6 17 (.tk 16 (.ef 17 [] (.ef 18 [5,9,12,14] .z))) (.ef 6 [5] (.tk 16 (.ef 18 [9,12,14] .z)))))) (.s .n (.s (.pl (ks [0,1,2,3,4] (.ef 5 [] (.tk 6 (.tk 7 (.ef 8 [2] .z)))))) .n))))
def Ib.wp(n:Option Addr)(w:World)(R:TR iT→WP):Prop:=
Ae prog F.O7 [.pointer n] w false r0' fun r1 w2=>
Aj r1.1.1 (
R ((0,()),()) w2) (
Aq n fun a3=>
ld1 .p (a3.add 27) w2 fun x4=>
Ae prog F.Cj [.pointer x4,.iface T.Yr (.agg #[])] w2 false iT fun r5 w6=>
R ((r5.1.1,()),()) w6)
theorem Ib.ok{n:Option Addr}{w:World}{R:TR iT→WP}:Ib.wp n w R→Ae prog F.Ib [.pointer n] w false iT R:=
  oks Aa Tryz.func137 .n
end Go.Proofs.YticgocmhmffneaaGreatDoor
