import Derived.Test.YtnjmfbjgcfnanaaGreatNm
namespace Go.Proofs.YtnjmfbjgcfnanaaGreat
open Go.Eng Tryz
open Go.IntKind (wrap)
set_option linter.unusedSimpArgs false
set_option linter.unusedVariables false
set_option maxRecDepth 100000
def Le.wp(f:Option Addr)(s0 s1 s2 s3 s4 s5 local_:Int)(w:World)(R:TR r3'→WP):Prop:=
Bf [iV s0,iV s1,uV s2,uV s3,iV s4,iV s5] T.Dy w fun p1 w2=>
Aj (Option.isNone f) (
R ((0,()),()) w2) (
ld1 KI (p1.add 4) w2 fun x3=>
Aj (decide (x3<0)) (
R ((0,()),()) w2) (
ld1 KI (p1.add 4) w2 fun x4=>
Aj (decide (x4≥63)) (
R ((0,()),()) w2) (
Aj (decide (local_<0)) (
R ((0,()),()) w2) (
Aj (decide (local_>1125899906842624)) (
R ((0,()),()) w2) (
ld1 KI (p1.add 5) w2 fun x5=>
Aj (decide (x5<0)) (
R ((0,()),()) w2) (
ld1 KI (p1.add 5) w2 fun x6=>
Aj (decide (x6>1125899906842624)) (
R ((0,()),()) w2) (
Jg w2 fun w7=>
Aq f fun a8=>
ld1 .p a8 w7 fun x9=>
ld1 KI (p1.add 1) w7 fun x10=>
ld1 KU (p1.add 2) w7 fun x11=>
ld1 KU (p1.add 3) w7 fun x12=>
Ae prog F.Lc [.pointer x9,iV x10,.agg #[uV x11,uV x12]] w7 false r3' fun r13 w14=>
Hold [hd 9 (p1.add 3) w7,hd 7 (p1.add 2) w7] w14∧(
Aj (r13.1.1==0) (
R ((r13.1.1,()),()) w14) (
Cc (fun(J15:Unit→WP)=>
Aj (r13.1.1==2) (
Ae prog F.Em [.pointer f] w14 true [] fun r18 w19=>
J15 (()) w19) (
J15 (()) w14)) (fun(z16:Unit) w17=> ∀_:Nat→Value,
ld1 KI (p1.add 5) w17 fun x20=>
ld1 KI (p1.add 4) w17 fun x21=>
Bf Vy T.Du w17 fun p22 w23=>
Au [iV local_,iV (wrap .i64 (x20-local_)),iV (wrap .i64 (x21+1))] p22 0 w23 fun w24=>
Cc (fun(J25:Unit→WP)=>
Jg w24 fun w28=>
Aq f fun a29=>
A8 Ig p22 0 w28 fun x30=>
Ae prog F.Ed [.pointer (some (a29.add 6)),Sv Ig x30] w28 false r3' fun r31 w32=>
Hold [] w32∧(
Aj (r31.1.1 !=0) (
Aq f fun a33=>
Ae prog F.Gg [.pointer (some (a33.add 6))] w32 true [] fun r34 w35=>
Jg w35 fun w36=>
Aq f fun a37=>
A8 Ig p22 0 w36 fun x38=>
Ae prog F.Ed [.pointer (some (a37.add 6)),Sv Ig x38] w36 false r3' fun r39 w40=>
Hold [] w40∧(
J25 (()) w40)) (
J25 (()) w32))) (fun(z26:Unit) w27=> ∀_:Nat→Value,
ld1 KI (p1.add 5) w27 fun x41=>
ld1 KI (p1.add 4) w27 fun x42=>
Aq f fun a43=>
Au [iV local_,iV x41,iV (wrap .i64 (x42+1))] (a43.add 7) 0 w27 fun w44=>
R ((r13.1.1,()),()) w44)))))))))))
theorem Le.ok{f:Option Addr}{s0 s1 s2 s3 s4 s5 local_:Int}{w:World}{R:TR r3'→WP}:Le.wp f s0 s1 s2 s3 s4 s5 local_ w R→Ae prog F.Le [.pointer f,.agg #[iV s0,iV s1,uV s2,uV s3,iV s4,iV s5],iV local_] w false r3' R:=
  oks Aa func137 (hs 2 (.s (.pl (ks [0,1,2,3,4,5,6,7,8,9,10] (.ef 11 [3,5] (.tk 12 .z)))) (.s .n (.ct [] .n (.s .n (.ct [] (.s (.pl (ks [0,1,2,3] (.ef 4 [3] (.tk 5 .z)))) (.s (.s .n (.pl (ks [0,1,2,3] (.ef 4 [3] .z)))) .n)) .n))))))
def Kv.wp(l:Option Addr)(f0 f1:Int)(w:World)(R:TR r0'→WP):Prop:=
Bf [iV f0,iV f1] T.Gj w fun p1 w2=>
Jg w2 fun w3=>
Aj (Option.isNone l) (
R ((false,()),()) w3) (
A8 [KI,KI] p1 0 w3 fun x4=>
Ae prog F.Ew [.iface T.Gj (.agg #[iV x4.1,iV x4.2.1])] w3 false r0' fun r5 w6=>
Hold [hd 3 (p1.add 0) w3,hd 3 (p1.add 1) w3] w6∧(
Aj (!r5.1.1) (
R ((false,()),()) w6) (
ld1 KI p1 w6 fun x7=>
Aq l fun a8=>
ld1 KI a8 w6 fun x9=>
Aj (x7==x9) (
R ((false,()),()) w6) (
ld1 KI (p1.add 1) w6 fun x10=>
Cc (fun(J11:Unit→WP)=>
Cc (fun(J14:((Bool)×Unit)→WP)=>
Jg w6 fun w17=>
ld1 KI p1 w17 fun x18=>
Aq l fun a19=>
ld1 KI (a19.add 2) w17 fun x20=>
Aj (x18==x20) (
J14 (decide ((wrap .i64 (x10+1))>63),()) w17) (
J14 (false,()) w17)) (fun(z15:(Bool)×Unit) w16=> ∀_:Nat→Value,
Aj z15.1 (
Ae prog F.Gf [.pointer l] w16 true [] fun r21 w22=>
R ((true,()),()) w22) (
Jg w16 fun w23=>
Aj (decide ((wrap .i64 (x10+1))>63)) (
R ((false,()),()) w23) (
ld1 KI p1 w23 fun x24=>
Aq l fun a25=>
ld1 KI (a25.add 2) w23 fun x26=>
Aj (x24 !=x26) (
Aq l fun a27=>
ld1 KI (a27.add 1) w23 fun x28=>
Aj (decide (x28≥0)) (
Aq l fun a29=>
ld1 KI (a29.add 1) w23 fun x30=>
Aj (decide ((wrap .i64 (x10+1))≥x30)) (
R ((false,()),()) w23) (
ld1 KI p1 w23 fun x31=>
Aq l fun a32=>
ld1 KI (a32.add 2) w23 fun x33=>
Aj (x31==x33) (
Aq l fun a34=>
ld1 KI (a34.add 1) w23 fun x35=>
Aj ((wrap .i64 (x10+1))==x35) (
R ((false,()),()) w23) (
J11 (()) w23)) (
J11 (()) w23))) (
ld1 KI p1 w23 fun x36=>
Aq l fun a37=>
ld1 KI (a37.add 2) w23 fun x38=>
Aj (x36==x38) (
Aq l fun a39=>
ld1 KI (a39.add 1) w23 fun x40=>
Aj ((wrap .i64 (x10+1))==x40) (
R ((false,()),()) w23) (
J11 (()) w23)) (
J11 (()) w23))) (
ld1 KI p1 w23 fun x41=>
Aq l fun a42=>
ld1 KI (a42.add 2) w23 fun x43=>
Aj (x41==x43) (
Aq l fun a44=>
ld1 KI (a44.add 1) w23 fun x45=>
Aj ((wrap .i64 (x10+1))==x45) (
R ((false,()),()) w23) (
J11 (()) w23)) (
J11 (()) w23)))))) (fun(z12:Unit) w13=> ∀_:Nat→Value,
Jg w13 fun w46=>
ld1 KI p1 w46 fun x47=>
Aq l fun a48=>
Au [iV (wrap .i64 (x10+1))] (a48.add 1) 0 w46 fun w49=>
Hold [hd 4 p1 w46] w49∧(
Aq l fun a50=>
Au [iV x47] (a50.add 2) 0 w49 fun w51=>
Hold [] w51∧(
R ((true,()),()) w51)))))))
theorem Kv.ok{l:Option Addr}{f0 f1:Int}{w:World}{R:TR r0'→WP}:Kv.wp l f0 f1 w R→Ae prog F.Kv [.pointer l,.agg #[iV f0,iV f1]] w false r0' R:=
  oks Aa func138 (.s .n (.s (.s (.pl (ks [0,1,2,3,4] (.ef 5 [] (ks [6,7,8,9,10,11,12,13,14,15,16] .z)))) .n) (.s .n (.ct [] (.ct [(26,.b)] (.pl (ks [0,1,2,3,4,5,6,7,8,9,10,11] .z)) (.s .n (.s (.pl (ks [0,1,2,3,4,5,6,7,8,9,10,11,12,13,14,15,16,17,18,19,20,21,22,23,24,25,26,27,28,29,30,31,32,33,34,35,36,37,38,39,40,41,42,43] .z)) .n))) (.s (.pl (ks [0,1,2,3,4,5,6] (.ef 7 [] (.tk 8 (.tk 9 (.ef 10 [4] .z)))))) .n)))))
def Cj.wp(r:Option Addr)(x:Value)(w:World)(R:TR r3'→WP):Prop:=
Aj (Option.isNone r) (
R ((2,()),()) w) (
Jg w fun w1=>
Aq r fun a2=>
ld1 KI (a2.add 2) w1 fun x3=>
Aq r fun a4=>
ld1 .sl a4 w1 fun x5=>
Aj (x3==(x5.2.1:Int)) (
R ((6,()),()) w1) (
Jg w1 fun w6=>
Aq r fun a7=>
ld1 .sl a7 w6 fun x8=>
Aq r fun a9=>
ld1 KI (a9.add 1) w6 fun x10=>
Aq r fun a11=>
ld1 KI (a11.add 2) w6 fun x12=>
Aq r fun a13=>
ld1 .sl a13 w6 fun x14=>
dF (x14.2.1:Int) (
Ny x8.1 x8.2.1 (Int.tmod (wrap .i64 (x10+x12)) (x14.2.1:Int)) fun a15=>
Au [x] (a15.add ((Int.tmod (wrap .i64 (x10+x12)) (x14.2.1:Int)).toNat*1)) 0 w6 fun w16=>
Hold [] w16∧(
Aq r fun a17=>
ld1 KI (a17.add 2) w16 fun x18=>
Aq r fun a19=>
Au [iV (wrap .i64 (x18+1))] (a19.add 2) 0 w16 fun w20=>
R ((0,()),()) w20))))
theorem Cj.ok{r:Option Addr}{x:Value}{w:World}{R:TR r3'→WP}:Cj.wp r x w R→Ae prog F.Cj [.pointer r,x] w false r3' R:=
  oks Aa func139 (.s .n (.s (hs 2 (.s (.pl (ks [0,1,2,3,4,5,6,7,8,9,10] .z)) .n)) (.s (.pl (ks [0,1,2,3,4,5,6,7,8,9,10,11,12,13,14,15,16,17,18,19,20] (.ef 21 [3,7,11,16] .z))) .n)))
def Jo.wp(p:Option Addr)(r0 r1 r2 r3 r4 r5 r6 r7 local_:Int)(w:World)(R:TR fC→WP):Prop:=
Bf [iV r0,iV r1,iV r2,iV r3,iV r4,iV r5,uV r6,iV r7] T.Gl w fun p1 w2=>
Bf Vy T.Du w2 fun p3 w4=>
Jg w4 fun w5=>
Aj (Option.isNone p) (
Au Vy p3 0 w5 fun w6=>
A8 Ig p3 0 w6 fun x7=>
R (x7,(false,()),()) w6) (
Aq p fun a8=>
ld1 .b (a8.add 3) w5 fun x9=>
Aj (!x9) (
Au Vy p3 0 w5 fun w10=>
A8 Ig p3 0 w10 fun x11=>
R (x11,(false,()),()) w10) (
ld1 KI (p1.add 1) w5 fun x12=>
Aq p fun a13=>
ld1 KI a13 w5 fun x14=>
Aj (x12 !=x14) (
Au Vy p3 0 w5 fun w15=>
A8 Ig p3 0 w15 fun x16=>
R (x16,(false,()),()) w15) (
ld1 KI p1 w5 fun x17=>
Aq p fun a18=>
ld1 KI (a18.add 1) w5 fun x19=>
Aj (x17 !=x19) (
Au Vy p3 0 w5 fun w20=>
A8 Ig p3 0 w20 fun x21=>
R (x21,(false,()),()) w20) (
ld1 KI (p1.add 2) w5 fun x22=>
Aq p fun a23=>
ld1 KI (a23.add 2) w5 fun x24=>
Aj (x22 !=x24) (
Au Vy p3 0 w5 fun w25=>
A8 Ig p3 0 w25 fun x26=>
R (x26,(false,()),()) w25) (
ld1 KI (p1.add 2) w5 fun x27=>
ld1 KI (p1.add 3) w5 fun x28=>
ld1 KI (p1.add 4) w5 fun x29=>
Bf Aph T.jL w5 fun p30 w31=>
Au [iV x27,iV x28,iV x29,iV local_] p30 0 w31 fun w32=>
Cc (fun(J33:((Addr)×Unit)→WP)=>
Jg w32 fun w36=>
A8 fH p30 0 w36 fun x37=>
ld1 KI (p1.add 7) w36 fun x38=>
(
Ae prog F.Gw [Sv fH x37] w36 false r3' fun r39 w40=>
Hold [hd 4 (p1.add 7) w36,hd 1 (p30.add 0) w36,hd 1 (p30.add 1) w36,hd 1 (p30.add 2) w36,hd 1 (p30.add 3) w36] w40∧(
Bf Vy T.Du w40 fun p41 w42=>
Hold [hd 4 (p1.add 7) w36,hd 1 (p30.add 0) w36,hd 1 (p30.add 1) w36,hd 1 (p30.add 2) w36,hd 1 (p30.add 3) w36] w42∧(
Au [iV local_,iV r39.1.1,iV (wrap .i64 (x38+1))] p41 0 w42 fun w43=>
Hold [] w43∧(
J33 (p41,()) w43))))∧(
Bf Vy T.Du w36 fun p44 w45=>
Hold [hd 4 (p1.add 7) w36,hd 1 (p30.add 0) w36,hd 1 (p30.add 1) w36,hd 1 (p30.add 2) w36,hd 1 (p30.add 3) w36] w45∧(
Ae prog F.Gw [Sv fH x37] w45 false r3' fun r46 w47=>
Hold [hd 4 (p1.add 7) w36] w47∧(
Au [iV local_,iV r46.1.1,iV (wrap .i64 (x38+1))] p44 0 w47 fun w48=>
Hold [] w48∧(
J33 (p44,()) w48))))) (fun(z34:(Addr)×Unit) w35=> ∀_:Nat→Value,
A8 fH p30 0 w35 fun x49=>
Ae prog F.Iw [Sv fH x49] w35 false r0' fun r50 w51=>
Aj (!r50.1.1) (
Au Vy p3 0 w51 fun w52=>
A8 Ig p3 0 w52 fun x53=>
R (x53,(false,()),()) w52) (
A8 Ig z34.1 0 w51 fun x54=>
Ae prog F.C9 [Sv Ig x54] w51 false r0' fun r55 w56=>
Aj (!r55.1.1) (
Au Vy p3 0 w56 fun w57=>
A8 Ig p3 0 w57 fun x58=>
R (x58,(false,()),()) w57) (
Aq p fun a59=>
Au [.bool false] (a59.add 3) 0 w56 fun w60=>
Aq p fun a61=>
Au [iV 0] (a61.add 5) 0 w60 fun w62=>
A8 Ig z34.1 0 w62 fun x63=>
Au (encs Ig x63) p3 0 w62 fun kJ=>
A8 Ig p3 0 kJ fun x65=>
R (x65,(true,()),()) kJ))))))))
theorem Jo.ok{p:Option Addr}{r0 r1 r2 r3 r4 r5 r6 r7 local_:Int}{w:World}{R:TR fC→WP}:Jo.wp p r0 r1 r2 r3 r4 r5 r6 r7 local_ w R→Ae prog F.Jo [.pointer p,.agg #[iV r0,iV r1,iV r2,iV r3,iV r4,iV r5,uV r6,iV r7],iV local_] w true fC R:=
  oks Aa func140 (.s .n (.s (.s (.pl (ks [0,1,2,3,4,5,6,7,8,9,10,11,12,13,14,15,16,17,18,19,20,21,22,23,24,25,26,27,28,29,30,31,32,33,34,35] .z)) .n) (.s .n (.ct [(9,.a)] (.pl (ks [0,1,3,4,5] (.two 2 7 (.tk 6 (.ef 7 [] (.ef 8 [1,4] .z))) (.ef 2 [1] (.tk 6 (.ef 8 [4] .z)))))) .n))))
def Je.wp(s:Option Addr)(e0 e1 e2 w_0 w_1:Int)(w:World)(R:TR r3'→WP):Prop:=
Bf [iV e0,iV e1,iV e2] T.Du w fun p1 w2=>
Bf [iV w_0,uV w_1] T.lK w2 fun p3 w4=>
Aj (Option.isNone s) (
R ((2,()),()) w4) (
A8 Ig p1 0 w4 fun x5=>
Ae prog F.C9 [Sv Ig x5] w4 false r0' fun r6 w7=>
Aj (!r6.1.1) (
R ((1,()),()) w7) (
ld1 KI p3 w7 fun x8=>
Aj (decide (x8<0)) (
R ((1,()),()) w7) (
ld1 KI p3 w7 fun x9=>
Aj (decide (x9≥64)) (
R ((1,()),()) w7) (
Jg w7 fun w10=>
A8 Ig p1 0 w10 fun x11=>
A8 [KI,KU] p3 0 w10 fun x12=>
Aq s fun a13=>
Au (encs Ig x11) (a13.add 1) 0 w10 fun w14=>
Hold [hd 5 (p3.add 0) w10,hd 5 (p3.add 1) w10] w14∧(
Aq s fun a15=>
Au [iV x12.1,uV x12.2.1] (a15.add 4) 0 w14 fun w16=>
Hold [] w16∧(
Aq s fun a17=>
Au [iV 0] (a17.add 6) 0 w16 fun w18=>
Hold [] w18∧(
Aq s fun a19=>
Au [.bool true] (a19.add 7) 0 w18 fun w20=>
Hold [] w20∧(
R ((0,()),()) w20))))))))
theorem Je.ok{s:Option Addr}{e0 e1 e2 w_0 w_1:Int}{w:World}{R:TR r3'→WP}:Je.wp s e0 e1 e2 w_0 w_1 w R→Ae prog F.Je [.pointer s,.agg #[iV e0,iV e1,iV e2],.agg #[iV w_0,uV w_1]] w false r3' R:=
  oks Aa func141 (hs 2 (.s (.pl (ks [0,1,2,3,4,5,6,7] (.ef 8 [4] (.tk 9 (.tk 10 (.ef 11 [5] (.tk 12 (.tk 13 (.ef 14 [] (.tk 15 (.tk 16 (.ef 17 [] .z)))))))))))) .n))
def Gh.wp(b:Option Addr)(a0 a1 a2 a3 a4 a5:Int)(w:World)(R:TR r0'→WP):Prop:=
Bf [iV a0,uV a1,iV a2,uV a3,iV a4,iV a5] T.Bh w fun p1 w2=>
Cc (fun(J3:Unit→WP)=>
Jg w2 fun w6=>
Aj (Option.isNone b) (
R ((false,()),()) w6) (
A8 Zy p1 0 w6 fun x7=>
Ae prog F.Ew [.iface T.Bh (Sv Zy x7)] w6 false r0' fun r8 w9=>
Hold [hd 3 (p1.add 0) w6,hd 3 (p1.add 1) w6,hd 3 (p1.add 2) w6,hd 3 (p1.add 3) w6,hd 3 (p1.add 4) w6,hd 3 (p1.add 5) w6] w9∧(
Aj (!r8.1.1) (
R ((false,()),()) w9) (
Aq b fun a10=>
ld1 .b a10 w9 fun x11=>
Aj x11 (
ld1 KU (p1.add 1) w9 fun x12=>
Aq b fun a13=>
ld1 KU ((a13.add 1).add 1) w9 fun x14=>
Ae prog F.Pz [uV x12,uV x14] w9 false r0' fun Zb w16=>
Hold [hd 12 a10 w9,hd 3 (p1.add 0) w6,hd 3 (p1.add 1) w6,hd 3 (p1.add 2) w6,hd 3 (p1.add 3) w6,hd 3 (p1.add 4) w6,hd 3 (p1.add 5) w6] w16∧(
Aj (!Zb.1.1) (
R ((false,()),()) w16) (
J3 (()) w16))) (
J3 (()) w9))))) (fun(z4:Unit) w5=> ∀_:Nat→Value,
Jg w5 fun w17=>
A8 Zy p1 0 w17 fun x18=>
Aq b fun a19=>
Au [.bool true] a19 0 w17 fun w20=>
Hold [hd 2 (p1.add 0) w17,hd 2 (p1.add 1) w17,hd 2 (p1.add 2) w17,hd 2 (p1.add 3) w17,hd 2 (p1.add 4) w17,hd 2 (p1.add 5) w17] w20∧(
Aq b fun a21=>
Au (encs Zy x18) (a21.add 1) 0 w20 fun w22=>
Hold [] w22∧(
R ((true,()),()) w22)))
theorem Gh.ok{b:Option Addr}{a0 a1 a2 a3 a4 a5:Int}{w:World}{R:TR r0'→WP}:Gh.wp b a0 a1 a2 a3 a4 a5 w R→Ae prog F.Gh [.pointer b,.agg #[iV a0,uV a1,iV a2,uV a3,iV a4,iV a5]] w false r0' R:=
  oks Aa func142 (.s .n (.ct [] (.s (.pl (ks [0,1,2,3,4] (.ef 5 [] (ks [6,7,8,9,10,11,12,13,14,15,16,17,18,19,20] (.ef 21 [15,20] (ks [22,23,24] .z)))))) .n) (.s (.pl (ks [0,1,2,3,4] (.ef 5 [] (.tk 6 (.tk 7 (.ef 8 [2] .z)))))) .n)))
def V7.wp(drift:Int)(t:Option Addr)(w:World)(R:TR lU→WP):Prop:=
Bf jR T.iO w fun p1 w2=>
Ae prog F.Dk [.pointer t] w2 false r3' fun r3 w4=>
Aj (r3.1.1==0) (
Au jR p1 0 w4 fun w5=>
A8 aU p1 0 w5 fun x6=>
R (x6,(false,()),()) w5) (
Bf [iV 0] T.int w4 fun p7 w8=>
Bf [iV 0] T.int w8 fun p9 w10=>
Au [iV 0] p7 0 w10 fun w11=>
Au [iV 0] p9 0 w11 fun w12=>
Ae prog F.Gv [.pointer t] w12 false Xm fun r13 w14=>
RfT prog r13.1.1 Us w14 (fun x15 k16 w17=>
Bf Vy T.Du w17 fun p23 w24=>
Au [iV x15.1.1,iV x15.1.2.1,iV x15.1.2.2.1] p23 0 w24 fun w25=>
k16 w25 fun go18 lv19 w20=>
ld1 KI p7 w20 fun x26=>
ld1 KI p23 w20 fun x27=>
Au [iV (wrap .i64 (x26+x27))] p7 0 w20 fun w28=>
ld1 KI p9 w28 fun x29=>
ld1 KI (p23.add 1) w28 fun x30=>
Au [iV (wrap .i64 (x29+x30))] p9 0 w28 fun w31=>
go18 w31) (fun D21 w22=>
ld1 KI p7 w22 fun x32=>
Ae prog F.Oi [iV x32,iV r3.1.1] w22 true zB fun r33 w34=>
Au [iV r33.1.1] p7 0 w34 fun w35=>
ld1 KI p9 w35 fun x36=>
Ae prog F.Oi [iV x36,iV r3.1.1] w35 true zB fun r37 w38=>
Au [iV r37.1.1] p9 0 w38 fun w39=>
Jg w39 fun w40=>
ld1 KI p7 w40 fun x41=>
ld1 KI p9 w40 fun x42=>
Ae prog F.Jr [.pointer t] w40 false H7 fun r43 w44=>
Hold [hd 1 p9 w40,hd 0 p7 w40] w44∧(
Ae prog F.Xt [iV drift,.slice r43.1.1.1 r43.1.1.2.1 r43.1.1.2.2] w44 false Aar fun r45 w46=>
Hold [hd 1 p9 w40,hd 0 p7 w40] w46∧(
Ae prog F.Ky [.pointer t] w46 false r3' fun r47 w48=>
Hold [hd 1 p9 w40,hd 0 p7 w40] w48∧(
Au [iV x41,iV x42,iV r45.1.1,iV r45.1.2.1,iV r47.1.1] p1 0 w48 fun w49=>
Hold [] w49∧(
tkK D21 w49 fun w50=>
A8 aU p1 0 w50 fun x51=>
R (x51,(true,()),()) w50))))) [])
theorem V7.ok{drift:Int}{t:Option Addr}{w:World}{R:TR lU→WP}:V7.wp drift t w R→Ae prog F.V7 [iV drift,.pointer t] w true lU R:=
  oks Aa func143 (hs 4 (.s (.s .n (.rf [(true,[(.i .i64),(.i .i64),(.i .i64)])] .n .n)) (hs 2 (.s (.pl (ks [0,1,2,3,6] (.ef 4 [] (.ef 5 [] (.ef 7 [] (.tk 8 (.ef 9 [0,1] (.tk 10 .z)))))))) .n))))
def Jp.wp(m0 m1 m2 m3 m4 local_:Int)(w:World)(R:TR Zz→WP):Prop:=
Bf [iV m0,iV m1,iV m2,iV m3,iV m4] T.iO w fun p1 w2=>
Aj (decide (local_<0)) (
R ((0,()),(false,()),()) w2) (
Aj (decide (local_>1125899906842624)) (
R ((0,()),(false,()),()) w2) (
ld1 KI p1 w2 fun x3=>
Aj (decide (x3<0)) (
R ((0,()),(false,()),()) w2) (
ld1 KI p1 w2 fun x4=>
Aj (decide (x4>1125899906842624)) (
R ((0,()),(false,()),()) w2) (
A8 [KI,KI] (p1.add 2) 0 w2 fun x5=>
ld1 KI p1 w2 fun x6=>
Ae prog F.Jq [.agg #[iV x5.1,iV x5.2.1],iV (wrap .i64 (local_-x6))] w2 false r3' fun r7 w8=>
ld1 KI (p1.add 1) w8 fun x9=>
Ae prog F.Qs [iV x9,iV (Int.negSucc 1125899906842623),iV 1125899906842624] w8 false r3' fun r10 w11=>
Ae prog F.Yb [iV local_,iV r10.1.1] w11 false r3' fun r12 w13=>
Ae prog F.Qs [iV r7.1.1,iV (Int.negSucc 1125899906842623),iV 1125899906842624] w13 false r3' fun r14 w15=>
Ae prog F.Yb [iV r12.1.1,iV r14.1.1] w15 false r3' fun r16 w17=>
Aj (decide (r16.1.1<0)) (
R ((0,()),(false,()),()) w17) (
Aj (decide (r16.1.1>1125899906842624)) (
R ((0,()),(false,()),()) w17) (
R ((r16.1.1,()),(true,()),()) w17))))))
theorem Jp.ok{m0 m1 m2 m3 m4 local_:Int}{w:World}{R:TR Zz→WP}:Jp.wp m0 m1 m2 m3 m4 local_ w R→Ae prog F.Jp [.agg #[iV m0,iV m1,iV m2,iV m3,iV m4],iV local_] w true Zz R:=
  oks Aa func144 .n
def Oi.wp(a b:Int)(w:World)(R:TR zB→WP):Prop:=
Aj (decide (b<1)) (
R ((0,()),(0,()),(false,()),()) w) (
Jg w fun w1=>
dF b (
dF b (
Aj (decide ((Int.tmod a b)<0)) (
R ((wrap .i64 ((wrap .i64 (Int.tdiv a b))-1),()),(wrap .i64 ((Int.tmod a b)+b),()),(true,()),()) w1) (
R ((wrap .i64 (Int.tdiv a b),()),(Int.tmod a b,()),(true,()),()) w1))))
theorem Oi.ok{a b:Int}{w:World}{R:TR zB→WP}:Oi.wp a b w R→Ae prog F.Oi [iV a,iV b] w true zB R:=
  oks Aa func145 (hs 2 (.s (.pl (ks [0,1,2,3,4,5,6,7] .z)) .n))
def Gu.wp(p0 p1 p2:Int)(w:World)(R:TR r3'→WP):Prop:=
Bf [iV p0,iV p1,iV p2] T.bU w fun p3 w4=>
ld1 KI p3 w4 fun x5=>
R ((wrap .i64 (x5*1000),()),()) w4
theorem Gu.ok{p0 p1 p2:Int}{w:World}{R:TR r3'→WP}:Gu.wp p0 p1 p2 w R→Ae prog F.Gu [.agg #[iV p0,iV p1,iV p2]] w false r3' R:=
  oks Aa func146 .n
def Nh.wp(t0 t1 t2 t3:Int)(w:World)(R:TR r3'→WP):Prop:=
Bf [iV t0,iV t1,iV t2,iV t3] T.Xh w fun p1 w2=>
A8 fH p1 0 w2 fun x3=>
Ae prog F.Es [Sv fH x3] w2 false r0' fun r4 w5=>
Aj (!r4.1.1) (
R ((0,()),()) w5) (
Jg w5 fun w6=>
ld1 KI (p1.add 1) w6 fun x7=>
A8 fH p1 0 w6 fun x8=>
ld1 KI (p1.add 2) w6 fun x9=>
Ae prog F.Ir [Sv fH x8,iV (wrap .i64 (x9+1))] w6 false r3' fun r10 w11=>
Hold [hd 5 (p1.add 2) w6,hd 1 (p1.add 1) w6] w11∧(
R ((wrap .i64 ((wrap .i64 ((wrap .i64 (2*x7))+r10.1.1))+2),()),()) w11))
theorem Nh.ok{t0 t1 t2 t3:Int}{w:World}{R:TR r3'→WP}:Nh.wp t0 t1 t2 t3 w R→Ae prog F.Nh [.agg #[iV t0,iV t1,iV t2,iV t3]] w false r3' R:=
  oks Aa func147 (hs 2 (.s (.pl (ks [0,1,2,3,4,5,6] (.ef 7 [3] (ks [8,9,10] .z)))) .n))
def Kz.wp(t0 t1 t2 t3:Int)(w:World)(R:TR r3'→WP):Prop:=
Bf [iV t0,iV t1,iV t2,iV t3] T.Xh w fun p1 w2=>
A8 fH p1 0 w2 fun x3=>
Ae prog F.Es [Sv fH x3] w2 false r0' fun r4 w5=>
Aj (!r4.1.1) (
R ((0,()),()) w5) (
Jg w5 fun w6=>
ld1 KI (p1.add 1) w6 fun x7=>
A8 fH p1 0 w6 fun x8=>
ld1 KI (p1.add 2) w6 fun x9=>
Ae prog F.Ir [Sv fH x8,iV (wrap .i64 (8*(wrap .i64 (x9+1))))] w6 false r3' fun r10 w11=>
Hold [hd 5 (p1.add 2) w6,hd 1 (p1.add 1) w6] w11∧(
R ((wrap .i64 ((wrap .i64 ((wrap .i64 (2*x7))+(wrap .i64 (2*r10.1.1))))+6),()),()) w11))
theorem Kz.ok{t0 t1 t2 t3:Int}{w:World}{R:TR r3'→WP}:Kz.wp t0 t1 t2 t3 w R→Ae prog F.Kz [.agg #[iV t0,iV t1,iV t2,iV t3]] w false r3' R:=
  oks Aa func148 (hs 2 (.s (.pl (ks [0,1,2,3,4,5,6,7] (.ef 8 [3] (ks [9,10,11,12] .z)))) .n))
def Oo.wp(f:Option Addr)(local_:Int)(w:World)(R:TR aT→WP):Prop:=
Bf z3' T.Bg w fun p1 w2=>
Ae prog F.Hw [.pointer f,iV local_] w2 true xA fun r3 w4=>
Aj (r3.2.2.1.1 !=0) (
Au z3' p1 0 w4 fun w5=>
A8 Xf p1 0 w5 fun x6=>
R (x6,(r3.2.2.1.1,()),()) w5) (
Aq f fun a7=>
ld1 .p a7 w4 fun x8=>
Ae prog F.Hl [.pointer x8] w4 true xB fun r9 w10=>
Bf [uV 0,uV 0] T.Ti w10 fun p11 w12=>
Au [uV r9.1.1,uV r9.1.2.1] p11 0 w12 fun w13=>
Cc (fun(J14:((Addr)×Unit)→WP)=>
Jg w13 fun w17=>
Aq f fun a18=>
ld1 .p a18 w17 fun x19=>
ld1 KU p11 w17 fun x20=>
(
Ae prog F.Dc [.pointer x19] w17 false r3' fun r21 w22=>
Hold [hd 8 p11 w17,hd 5 a18 w17] w22∧(
Bf z3' T.Bg w22 fun p23 w24=>
Hold [hd 8 p11 w17,hd 5 a18 w17] w24∧(
Au [iV r3.1.1,iV r3.2.1.1,iV r21.1.1,uV x20,iV 2] p23 0 w24 fun w25=>
Hold [] w25∧(
J14 (p23,()) w25))))∧(
Bf z3' T.Bg w17 fun p26 w27=>
Hold [hd 8 p11 w17,hd 5 a18 w17] w27∧(
Ae prog F.Dc [.pointer x19] w27 false r3' fun r28 w29=>
Hold [hd 8 p11 w17] w29∧(
Au [iV r3.1.1,iV r3.2.1.1,iV r28.1.1,uV x20,iV 2] p26 0 w29 fun w30=>
Hold [] w30∧(
J14 (p26,()) w30))))) (fun(z15:(Addr)×Unit) w16=> ∀_:Nat→Value,
Aq f fun a31=>
ld1 .p a31 w16 fun x32=>
Ae prog F.Bc [.pointer x32] w16 false r0' fun r33 w34=>
Aj r33.1.1 (
Au [iV 1] (z15.1.add 4) 0 w34 fun w35=>
A8 Xf z15.1 0 w35 fun x36=>
Au (encs Xf x36) p1 0 w35 fun w37=>
A8 Xf p1 0 w37 fun x38=>
R (x38,(0,()),()) w37) (
A8 Xf z15.1 0 w34 fun x39=>
Au (encs Xf x39) p1 0 w34 fun w40=>
A8 Xf p1 0 w40 fun x41=>
R (x41,(0,()),()) w40)))
theorem Oo.ok{f:Option Addr}{local_:Int}{w:World}{R:TR aT→WP}:Oo.wp f local_ w R→Ae prog F.Oo [.pointer f,iV local_] w true aT R:=
  oks Aa func149 (hs 4 (.ct [(11,.a)] (.pl (ks [0,1,2,3,4,5,7,8] (.two 6 11 (.tk 9 (.tk 10 (.ef 11 [] (.ef 12 [5,8] .z)))) (.ef 6 [5] (.tk 9 (.tk 10 (.ef 12 [8] .z))))))) .n))
def Vo.wp(label:ByteArray)(w:World)(R:TR r0'→WP):Prop:=
rgK label w fun it1 w2=>
Ci (fun(self3:((Int)×Unit)→WP) (z4:(Int)×Unit) w5=> ∀_:Nat→Value,
nxK it1 w5 (fun w6=>
Aj (decide (z4.1≥1)) (
R ((decide (z4.1≤12),()),()) w6) (
R ((false,()),()) w6)) fun i8 c9 w7=>
Aj (c9 !=95) (
Aj (decide (c9<97)) (
Aj (decide (c9<48)) (
R ((false,()),()) w7) (
Aj (decide (c9>57)) (
R ((false,()),()) w7) (
self3 (wrap .i64 (z4.1+1),()) w7))) (
Aj (decide (c9>122)) (
Aj (decide (c9<48)) (
R ((false,()),()) w7) (
Aj (decide (c9>57)) (
R ((false,()),()) w7) (
self3 (wrap .i64 (z4.1+1),()) w7))) (
self3 (wrap .i64 (z4.1+1),()) w7))) (
self3 (wrap .i64 (z4.1+1),()) w7)) (0,()) w2
theorem Vo.ok{label:ByteArray}{w:World}{R:TR r0'→WP}:Vo.wp label w R→Ae prog F.Vo [.string label] w false r0' R:=
  oks Aa func150 (hs 2 (.s (.s .n (.lp [(3,(.i .i64))] .n)) .n))
def Dz.wp(r:Option Addr)(x0:Int)(x1:ByteArray)(x2 x3 x4 x5 x6 x7:Int)(w:World)(R:TR r3'→WP):Prop:=
Bf [iV x0,.string x1,iV x2,iV x3,iV x4,iV x5,uV x6,iV x7] T.U1 w fun p1 w2=>
Aj (Option.isNone r) (
R ((2,()),()) w2) (
Jg w2 fun w3=>
Aq r fun a4=>
ld1 KI (a4.add 2) w3 fun x8=>
Aq r fun a9=>
ld1 .sl a9 w3 fun x10=>
Aj (x8==(x10.2.1:Int)) (
R ((6,()),()) w3) (
Jg w3 fun w11=>
Aq r fun a12=>
ld1 .sl a12 w11 fun x13=>
Aq r fun a14=>
ld1 KI (a14.add 1) w11 fun x15=>
Aq r fun a16=>
ld1 KI (a16.add 2) w11 fun x17=>
Aq r fun a18=>
ld1 .sl a18 w11 fun x19=>
dF (x19.2.1:Int) (
A8 xP p1 0 w11 fun x20=>
Ny x13.1 x13.2.1 (Int.tmod (wrap .i64 (x15+x17)) (x19.2.1:Int)) fun a21=>
Au (encs xP x20) (a21.add ((Int.tmod (wrap .i64 (x15+x17)) (x19.2.1:Int)).toNat*8)) 0 w11 fun w22=>
Hold [] w22∧(
Aq r fun a23=>
ld1 KI (a23.add 2) w22 fun x24=>
Aq r fun a25=>
Au [iV (wrap .i64 (x24+1))] (a25.add 2) 0 w22 fun w26=>
R ((0,()),()) w26))))
theorem Dz.ok{r:Option Addr}{x0:Int}{x1:ByteArray}{x2 x3 x4 x5 x6 x7:Int}{w:World}{R:TR r3'→WP}:Dz.wp r x0 x1 x2 x3 x4 x5 x6 x7 w R→Ae prog F.Dz [.pointer r,.agg #[iV x0,.string x1,iV x2,iV x3,iV x4,iV x5,uV x6,iV x7]] w false r3' R:=
  oks Aa func151 (.s .n (.s (hs 2 (.s (.pl (ks [0,1,2,3,4,5,6,7,8,9,10] .z)) .n)) (.s (.pl (ks [0,1,2,3,4,5,6,7,8,9,10,11,12,13,14,15,16,17,18,19,20] (.ef 21 [3,7,11,16,19] .z))) .n)))
def Eb.wp(r:Option Addr)(w:World)(R:TR oI→WP):Prop:=
Bf z4' T.U1 w fun p1 w2=>
Bf z4' T.U1 w2 fun p3 w4=>
Ae prog F.Dj [.pointer r] w4 false r3' fun r5 w6=>
Aj (r5.1.1==0) (
A8 xP p3 0 w6 fun x7=>
Au (encs xP x7) p1 0 w6 fun w8=>
A8 xP p1 0 w8 fun x9=>
R (x9,(false,()),()) w8) (
Jg w6 fun w10=>
Aq r fun a11=>
ld1 .sl a11 w10 fun x12=>
Aq r fun a13=>
ld1 KI (a13.add 1) w10 fun x14=>
Ny x12.1 x12.2.1 x14 fun a15=>
A8 xP (a15.add (x14.toNat*8)) 0 w10 fun x16=>
Bf z4' T.U1 w10 fun p17 w18=>
Hold [(9,((a15.add (x14.toNat*8)).add 0),(w10.cell? ((a15.add (x14.toNat*8)).add 0)).getD undef),(9,((a15.add (x14.toNat*8)).add 1),(w10.cell? ((a15.add (x14.toNat*8)).add 1)).getD undef),(9,((a15.add (x14.toNat*8)).add 2),(w10.cell? ((a15.add (x14.toNat*8)).add 2)).getD undef),(9,((a15.add (x14.toNat*8)).add 3),(w10.cell? ((a15.add (x14.toNat*8)).add 3)).getD undef),(9,((a15.add (x14.toNat*8)).add 4),(w10.cell? ((a15.add (x14.toNat*8)).add 4)).getD undef),(9,((a15.add (x14.toNat*8)).add 5),(w10.cell? ((a15.add (x14.toNat*8)).add 5)).getD undef),(9,((a15.add (x14.toNat*8)).add 6),(w10.cell? ((a15.add (x14.toNat*8)).add 6)).getD undef),(9,((a15.add (x14.toNat*8)).add 7),(w10.cell? ((a15.add (x14.toNat*8)).add 7)).getD undef),hd 7 (a13.add 1) w10,hd 3 a11 w10] w18∧(
Au (encs xP x16) p17 0 w18 fun w19=>
Hold [] w19∧(
Jg w19 fun w20=>
Aq r fun a21=>
ld1 .sl a21 w20 fun x22=>
Aq r fun a23=>
ld1 KI (a23.add 1) w20 fun x24=>
A8 xP p3 0 w20 fun x25=>
Ny x22.1 x22.2.1 x24 fun a26=>
Au (encs xP x25) (a26.add (x24.toNat*8)) 0 w20 fun w27=>
Hold [] w27∧(
Jg w27 fun w28=>
Aq r fun a29=>
ld1 KI (a29.add 1) w28 fun x30=>
Aq r fun a31=>
ld1 .sl a31 w28 fun x32=>
dF (x32.2.1:Int) (
Aq r fun a33=>
Au [iV (Int.tmod (wrap .i64 (x30+1)) (x32.2.1:Int))] (a33.add 1) 0 w28 fun w34=>
Hold [] w34∧(
Aq r fun a35=>
ld1 KI (a35.add 2) w34 fun x36=>
Aq r fun a37=>
Au [iV (wrap .i64 (x36-1))] (a37.add 2) 0 w34 fun w38=>
A8 xP p17 0 w38 fun x39=>
Au (encs xP x39) p1 0 w38 fun w40=>
A8 xP p1 0 w40 fun x41=>
R (x41,(true,()),()) w40))))))
theorem Eb.ok{r:Option Addr}{w:World}{R:TR oI→WP}:Eb.wp r w R→Ae prog F.Eb [.pointer r] w true oI R:=
  oks Aa func152 (hs 3 (.s (.pl (ks [0,1,2,3,4,5,6,7,8,9] (.ef 10 [] (.ef 11 [3,7,9] .z)))) (.s (.pl (ks [0,1,2,3,4,5,6,7,8,9] (.ef 10 [3,7,8] .z))) (.s (.pl (ks [0,1,2,3,4,5,6,7,8,9,10,11,12,13] (.ef 14 [4,9] .z))) .n))))
def Qw.wp(b:Option Addr)(w_0 w_1 time:Int)(w:World)(R:TR Amg→WP):Prop:=
Bf [iV w_0,uV w_1] T.lK w fun p1 w2=>
Bf [iV 0,iV 0] T.uF w2 fun p3 w4=>
Aj (Option.isNone b) (
Au [iV 0,iV 0] p3 0 w4 fun w5=>
A8 [KI,KI] p3 0 w5 fun x6=>
R ((x6.1,x6.2.1,()),(2,()),()) w5) (
Aq b fun a7=>
ld1 .b a7 w4 fun x8=>
Aj (!x8) (
Au [iV 0,iV 0] p3 0 w4 fun w9=>
A8 [KI,KI] p3 0 w9 fun x10=>
R ((x10.1,x10.2.1,()),(7,()),()) w9) (
Cc (fun(J11:((Bool)×Unit)→WP)=>
Jg w4 fun w14=>
Aq b fun a15=>
ld1 KI ((a15.add 1).add 2) w14 fun x16=>
ld1 KI p1 w14 fun x17=>
Aj (x16 !=x17) (
J11 (true,()) w14) (
Aq b fun a18=>
ld1 KU ((a18.add 1).add 3) w14 fun x19=>
ld1 KU (p1.add 1) w14 fun x20=>
J11 ((x19 !=x20),()) w14)) (fun(z12:(Bool)×Unit) w13=> ∀_:Nat→Value,
Aj z12.1 (
Au [iV 0,iV 0] p3 0 w13 fun w21=>
A8 [KI,KI] p3 0 w21 fun x22=>
R ((x22.1,x22.2.1,()),(9,()),()) w21) (
Aj (decide (time<0)) (
Au [iV 0,iV 0] p3 0 w13 fun w23=>
A8 [KI,KI] p3 0 w23 fun x24=>
R ((x24.1,x24.2.1,()),(8,()),()) w23) (
Aj (decide (time>1125899906842624)) (
Au [iV 0,iV 0] p3 0 w13 fun w25=>
A8 [KI,KI] p3 0 w25 fun x26=>
R ((x26.1,x26.2.1,()),(8,()),()) w25) (
Aq b fun a27=>
ld1 KI ((a27.add 1).add 4) w13 fun x28=>
Ae prog F.Oi [iV (wrap .i64 (time-x28)),iV 1000] w13 true zB fun r29 w30=>
Aq b fun a31=>
ld1 KI ((a31.add 1).add 5) w30 fun x32=>
Au [iV (wrap .i64 (x32+r29.1.1)),iV r29.2.1.1] p3 0 w30 fun w33=>
A8 [KI,KI] p3 0 w33 fun x34=>
R ((x34.1,x34.2.1,()),(0,()),()) w33))))))
theorem Qw.ok{b:Option Addr}{w_0 w_1 time:Int}{w:World}{R:TR Amg→WP}:Qw.wp b w_0 w_1 time w R→Ae prog F.Qw [.pointer b,.agg #[iV w_0,uV w_1],iV time] w true Amg R:=
  oks Aa func153 (.s .n (.s (hs 4 (.ct [(22,.b)] (.pl (ks [0,1,2,3,4,5,6,7,8,9,10,11,12,13,14,15,16,17,18] .z)) .n)) .n))
def Qu.wp(a:Int)(w:World)(R:TR Vw→WP):Prop:=
R ((wrap .u16 (a+1),()),()) w
theorem Qu.ok{a:Int}{w:World}{R:TR Vw→WP}:Qu.wp a w R→Ae prog F.Qu [uV a] w false Vw R:=
  oks Aa func155 .n
def O7.wp(n:Option Addr)(w:World)(R:TR r0'→WP):Prop:=
Bf [.bool false] T.bool w fun p1 w2=>
Aq n fun a3=>
ld1 .p (a3.add 27) w2 fun x4=>
Ae prog F.Jj [.pointer x4] w2 false Xm fun r5 w6=>
RfT prog r5.1.1 Xm w6 (fun x7 k8 w9=>
k8 w9 fun go10 lv11 w12=>
taV prog x7.1.1 T.Yr true true [] fun x15 b16=>
Bf [] T.Yr w12 fun p17 w18=>
Au [] p17 0 w18 fun w19=>
Aj b16 (
Au [.bool true] p1 0 w19 fun w20=>
lv11 0 w20) (
go10 w19)) (fun D13 w14=>
Au [.bool false] p1 0 w14 fun w21=>
tkK D13 w21 fun w22=>
ld1 .b p1 w22 fun x23=>
R ((x23,()),()) w22) [(0,fun D13 w14=>
tkK D13 w14 fun w24=>
ld1 .b p1 w24 fun x25=>
R ((x25,()),()) w24)]
theorem O7.ok{n:Option Addr}{w:World}{R:TR r0'→WP}:O7.wp n w R→Ae prog F.O7 [.pointer n] w false r0' R:=
  oks Aa func156 (.s .n (.s (.s .n (.rf [(false,[.any])] .n .n)) .n))
def Hq.wp(r0 r1:Int)(w:World)(R:TR r0'→WP):Prop:=
Bf [iV r0,iV r1] T.nU w fun p1 w2=>
ld1 KI p1 w2 fun x3=>
Aj (decide (x3≥1)) (
ld1 KI p1 w2 fun x4=>
Aj (decide (x4≤1000)) (
ld1 KI (p1.add 1) w2 fun x5=>
Aj (decide (x5≥0)) (
ld1 KI (p1.add 1) w2 fun x6=>
R ((decide (x6≤1000),()),()) w2) (
R ((false,()),()) w2)) (
R ((false,()),()) w2)) (
R ((false,()),()) w2)
theorem Hq.ok{r0 r1:Int}{w:World}{R:TR r0'→WP}:Hq.wp r0 r1 w R→Ae prog F.Hq [.agg #[iV r0,iV r1]] w false r0' R:=
  oks Aa func157 .n
def Gg.wp(t:Option Addr)(w:World)(R:TR []→WP):Prop:=
Aj (!(Option.isNone t)) (
Aq t fun a1=>
Au [.slice none 0 0] a1 0 w fun w2=>
R (()) w2) (
R (()) w)
theorem Gg.ok{t:Option Addr}{w:World}{R:TR []→WP}:Gg.wp t w R→Ae prog F.Gg [.pointer t] w true [] R:=
  oks Aa func158 .n
def I5.wp(e:Option Addr)(w:World)(R:TR xB→WP):Prop:=
Bf [uV 0,uV 0] T.Ti w fun p1 w2=>
Ae prog F.Bc [.pointer e] w2 false r0' fun r3 w4=>
Aj (!r3.1.1) (
Au [uV 0,uV 0] p1 0 w4 fun w5=>
A8 [KU,KU] p1 0 w5 fun x6=>
R ((x6.1,x6.2.1,()),(false,()),()) w5) (
Aq e fun a7=>
ld1 KU (a7.add 4) w4 fun x8=>
Ae prog F.Qu [uV x8] w4 false Vw fun r9 w10=>
Aq e fun a11=>
Au [uV r9.1.1] (a11.add 4) 0 w10 fun w12=>
Jg w12 fun w13=>
Aq e fun a14=>
ld1 KU (a14.add 3) w13 fun x15=>
Aq e fun a16=>
ld1 KU (a16.add 4) w13 fun x17=>
Au [uV x15,uV x17] p1 0 w13 fun w18=>
Hold [] w18∧(
A8 [KU,KU] p1 0 w18 fun x19=>
R ((x19.1,x19.2.1,()),(true,()),()) w18))
theorem I5.ok{e:Option Addr}{w:World}{R:TR xB→WP}:I5.wp e w R→Ae prog F.I5 [.pointer e] w true xB R:=
  oks Aa func159 (hs 3 (.s (.pl (ks [0,1,2,3,4,5,6,7,8] (.ef 9 [3,7] (.tk 10 .z)))) .n))
def Bv.wp(p:Option Addr)(size n:Int)(w:World)(R:TR dB→WP):Prop:=
Aj (Option.isNone p) (
R ((none,()),()) w) (
Ci (fun(self1:((Int)×Unit)→WP) (z2:(Int)×Unit) w3=> ∀_:Nat→Value,
Aj (decide (z2.1≥0)) (
Jg w3 fun w4=>
Aq p fun a5=>
ld1 .sl a5 w4 fun x6=>
fJ (wrap .i64 (8*z2.1)) (
Bf [.int .u8 (wrap .u8 (Qv .u64 n (wrap .i64 (8*z2.1))))] T.uint8 w4 fun p7 w8=>
Hold [hd 4 a5 w4] w8∧(
L9 ((Builtin.append_ #[T.Fh,T.Fh] T.Fh #[.slice x6.1 x6.2.1 x6.2.2,.slice (some p7) 1 1]).run prog w8) fun y9 w10=>
Hold [] w10∧(
Aq p fun a11=>
Au [.slice y9.1 y9.2.1 y9.2.2] a11 0 w10 fun w12=>
Hold [] w12∧(
self1 (wrap .i64 (z2.1-1),()) w12))))) (
R ((p,()),()) w3)) (wrap .i64 ((if 8<(if 0>size then 0 else size) then 8 else(if 0>size then 0 else size))-1),()) w)
theorem Bv.ok{p:Option Addr}{size n:Int}{w:World}{R:TR dB→WP}:Bv.wp p size n w R→Ae prog F.Bv [.pointer p,iV size,.int .u64 n] w false dB R:=
  oks Aa func160 (hs 2 (.s (.s .n (.lp [(7,(.i .i64))] (.s .n (.s (.pl (ks [0,1,2,3,4,5,6,7,8,9] (.ef 10 [] (.ef 11 [4] (.tk 12 (.tk 13 (.ef 14 [] .z))))))) .n)))) .n))
def F5.wp(f0 f1 f2 f3 f4 f5:Int)(w:World)(R:TR Yk→WP):Prop:=
R ((6,()),()) w
theorem F5.ok{f0 f1 f2 f3 f4 f5:Int}{w:World}{R:TR Yk→WP}:F5.wp f0 f1 f2 f3 f4 f5 w R→Ae prog F.Fa [.iface T.Bh (.agg #[iV f0,uV f1,iV f2,uV f3,iV f4,iV f5])] w false Yk R:=
  oks Aa func161 .n
def Fv.wp(f0 f1 f2 f3 f4 f5:Int)(w:World)(R:TR Yk→WP):Prop:=
R ((1,()),()) w
theorem Fv.ok{f0 f1 f2 f3 f4 f5:Int}{w:World}{R:TR Yk→WP}:Fv.wp f0 f1 f2 f3 f4 f5 w R→Ae prog F.Fa [.iface T.Dy (.agg #[iV f0,iV f1,uV f2,uV f3,iV f4,iV f5])] w false Yk R:=
  oks Aa func161 .n
def Fz.wp(f0:Int)(w:World)(R:TR Yk→WP):Prop:=
R ((3,()),()) w
theorem Fz.ok{f0:Int}{w:World}{R:TR Yk→WP}:Fz.wp f0 w R→Ae prog F.Fa [.iface T.Gp (.agg #[iV f0])] w false Yk R:=
  oks Aa func161 .n
def Q5.wp(f0 f1 f2:Int)(w:World)(R:TR Yk→WP):Prop:=
R ((4,()),()) w
theorem Q5.ok{f0 f1 f2:Int}{w:World}{R:TR Yk→WP}:Q5.wp f0 f1 f2 w R→Ae prog F.Fa [.iface T.Ef (.agg #[iV f0,iV f1,iV f2])] w false Yk R:=
  oks Aa func161 .n
def Rx.wp(f0 f1:Int)(w:World)(R:TR Yk→WP):Prop:=
R ((2,()),()) w
theorem Rx.ok{f0 f1:Int}{w:World}{R:TR Yk→WP}:Rx.wp f0 f1 w R→Ae prog F.Fa [.iface T.Gj (.agg #[iV f0,iV f1])] w false Yk R:=
  oks Aa func161 .n
def Q9.wp(f0 f1 f2 f3 f4 f5 f6 f7:Int)(w:World)(R:TR Yk→WP):Prop:=
R ((5,()),()) w
theorem Q9.ok{f0 f1 f2 f3 f4 f5 f6 f7:Int}{w:World}{R:TR Yk→WP}:Q9.wp f0 f1 f2 f3 f4 f5 f6 f7 w R→Ae prog F.Fa [.iface T.Gl (.agg #[iV f0,iV f1,iV f2,iV f3,iV f4,iV f5,uV f6,iV f7])] w false Yk R:=
  oks Aa func161 .n
def Tz.wp(b:Option Addr×Nat×Nat)(w:World)(R:TR H7→WP):Prop:=
Ae prog F.X5 [.slice b.1 b.2.1 b.2.2] w false Vw fun r1 w2=>
L9 ((Instr.makeSlice T.Fh (iV 0) (iV (wrap .i64 ((b.2.1:Int)+2)))).run prog w2) fun y3 w4=>
L9 ((Builtin.append_ #[T.Fh,T.Fh] T.Fh #[.slice y3.1 y3.2.1 y3.2.2,.slice b.1 b.2.1 b.2.2]).run prog w4) fun y5 w6=>
fJ 8 (
Bf [.int .u8 (wrap .u8 (Qv .u16 r1.1.1 8)),.int .u8 (wrap .u8 r1.1.1)] T.uint8 w6 fun p7 w8=>
L9 ((Builtin.append_ #[T.Fh,T.Fh] T.Fh #[.slice y5.1 y5.2.1 y5.2.2,.slice (some p7) 2 2]).run prog w8) fun y9 w10=>
R (((y9.1,y9.2.1,y9.2.2),()),()) w10)
theorem Tz.ok{b:Option Addr×Nat×Nat}{w:World}{R:TR H7→WP}:Tz.wp b w R→Ae prog F.Tz [.slice b.1 b.2.1 b.2.2] w false H7 R:=
  oks Aa func162 .n
def Fj.wp(p:Option Addr)(w:World)(R:TR H7→WP):Prop:=
Aj (Option.isNone p) (
R (((none,0,0),()),()) w) (
Aq p fun a1=>
ld1 .sl a1 w fun x2=>
L9 ((Builtin.append_ #[T.Fh,T.Fh] T.Fh #[.slice none 0 0,.slice x2.1 x2.2.1 x2.2.2]).run prog w) fun y3 w4=>
R (((y3.1,y3.2.1,y3.2.2),()),()) w4)
theorem Fj.ok{p:Option Addr}{w:World}{R:TR H7→WP}:Fj.wp p w R→Ae prog F.Fj [.pointer p] w false H7 R:=
  oks Aa func163 .n
def Wj.wp(me timeout ignore boot:Int)(w:World)(R:TR dB→WP):Prop:=
Bf [iV me,iV timeout,iV ignore,uV boot,uV 0,iV (Int.negSucc 0),iV 0,iV 0,.bool false,.bool false,.bool false,.bool false,.bool false,.bool false,.bool false,.bool false,.bool false,.bool false,.bool false,.bool false,.bool false,.bool false,.bool false,.bool false,.bool false,.bool false,.bool false,.bool false,.bool false,.bool false,.bool false,.bool false,.bool false,.bool false,.bool false,.bool false,.bool false,.bool false,.bool false,.bool false,.bool false,.bool false,.bool false,.bool false,.bool false,.bool false,.bool false,.bool false,.bool false,.bool false,.bool false,.bool false,.bool false,.bool false,.bool false,.bool false,.bool false,.bool false,.bool false,.bool false,.bool false,.bool false,.bool false,.bool false,.bool false,.bool false,.bool false,.bool false,.bool false,.bool false,.bool false,.bool false,uV 0,uV 0,uV 0,uV 0,uV 0,uV 0,uV 0,uV 0,uV 0,uV 0,uV 0,uV 0,uV 0,uV 0,uV 0,uV 0,uV 0,uV 0,uV 0,uV 0,uV 0,uV 0,uV 0,uV 0,uV 0,uV 0,uV 0,uV 0,uV 0,uV 0,uV 0,uV 0,uV 0,uV 0,uV 0,uV 0,uV 0,uV 0,uV 0,uV 0,uV 0,uV 0,uV 0,uV 0,uV 0,uV 0,uV 0,uV 0,uV 0,uV 0,uV 0,uV 0,uV 0,uV 0,uV 0,uV 0,uV 0,uV 0,uV 0,uV 0,uV 0,uV 0,uV 0,uV 0,uV 0,uV 0,uV 0,uV 0,uV 0,uV 0,uV 0,uV 0,uV 0,uV 0,uV 0,uV 0,uV 0,uV 0,uV 0,uV 0,uV 0,uV 0,uV 0,uV 0,uV 0,uV 0,uV 0,uV 0,uV 0,uV 0,uV 0,uV 0,uV 0,uV 0,uV 0,uV 0,uV 0,uV 0,uV 0,uV 0,uV 0,uV 0,uV 0,uV 0,uV 0,uV 0,uV 0,uV 0,uV 0,uV 0,uV 0,uV 0,uV 0,uV 0,uV 0,uV 0,uV 0,uV 0,uV 0,uV 0,uV 0,uV 0,uV 0,uV 0,uV 0,uV 0,uV 0,uV 0] T.Aaz w fun p1 w2=>
R ((some p1,()),()) w2
theorem Wj.ok{me timeout ignore boot:Int}{w:World}{R:TR dB→WP}:Wj.wp me timeout ignore boot w R→Ae prog F.Wj [iV me,iV timeout,iV ignore,uV boot] w false dB R:=
  oks Aa func164 .n
def Jv.wp(e:Option Addr)(w:World)(R:TR r0'→WP):Prop:=
Jg w fun w1=>
Aq e fun a2=>
ld1 KI (a2.add 5) w1 fun x3=>
Aq e fun a4=>
ld1 KI a4 w1 fun x5=>
Aj (x3==x5) (
Aq e fun a6=>
ld1 KI (a6.add 7) w1 fun x7=>
Aj (decide (x7>0)) (
Aq e fun a8=>
ld1 KI (a8.add 7) w1 fun x9=>
Aq e fun a10=>
Au [iV (wrap .i64 (x9-1))] (a10.add 7) 0 w1 fun w11=>
R ((false,()),()) w11) (
R ((false,()),()) w1)) (
Aq e fun a12=>
ld1 KI (a12.add 6) w1 fun x13=>
Aq e fun a14=>
Au [iV (wrap .i64 (x13+1))] (a14.add 6) 0 w1 fun w15=>
Jg w15 fun w16=>
Aq e fun a17=>
ld1 KI (a17.add 6) w16 fun x18=>
Aq e fun a19=>
ld1 KI (a19.add 1) w16 fun x20=>
Aj (decide (x18<x20)) (
R ((false,()),()) w16) (
Aq e fun a21=>
ld1 KI a21 w16 fun x22=>
Aq e fun a23=>
Au [iV x22] (a23.add 5) 0 w16 fun w24=>
Aq e fun a25=>
Au [iV 0] (a25.add 6) 0 w24 fun w26=>
Aq e fun a27=>
ld1 KI (a27.add 2) w26 fun x28=>
Aq e fun a29=>
Au [iV x28] (a29.add 7) 0 w26 fun w30=>
R ((true,()),()) w30))
theorem Jv.ok{e:Option Addr}{w:World}{R:TR r0'→WP}:Jv.wp e w R→Ae prog F.Jv [.pointer e] w false r0' R:=
  oks Aa func165 (.s .n (.s (.s (.pl (ks [0,1,2,3,4,5,6,7,8] .z)) .n) (.s .n (.s (.s (.pl (ks [0,1,2,3,4,5,6,7,8] .z)) .n) .n))))
def Gi.wp(f:Option Addr)(w:World)(R:TR []→WP):Prop:=
Aq f fun a1=>
Au [.slice none 0 0] (a1.add 3) 0 w fun w2=>
Aq f fun a3=>
Au [iV 0] (a3.add 4) 0 w2 fun w4=>
Aq f fun a5=>
Au [iV 0] (a5.add 5) 0 w4 fun w6=>
Aq f fun a7=>
Au [iV 0] (a7.add 6) 0 w6 fun w8=>
R (()) w8
theorem Gi.ok{f:Option Addr}{w:World}{R:TR []→WP}:Gi.wp f w R→Ae prog F.Gi [.pointer f] w true [] R:=
  oks Aa func166 .n
def N8.wp(t:Int)(w:World)(R:TR r0'→WP):Prop:=
Aj (decide (t≥0)) (
R ((decide (t≤1125899906842624),()),()) w) (
R ((false,()),()) w)
theorem N8.ok{t:Int}{w:World}{R:TR r0'→WP}:N8.wp t w R→Ae prog F.N8 [iV t] w false r0' R:=
  oks Aa func167 .n
def Eu.wp(f:Option Addr)(w:World)(R:TR r0'→WP):Prop:=
Jg w fun w1=>
Aq f fun a2=>
ld1 .p a2 w1 fun x3=>
Aq x3 fun a4=>
ld1 KI (a4.add 5) w1 fun x5=>
Aq f fun a6=>
ld1 .p a6 w1 fun x7=>
Aq x7 fun a8=>
ld1 KI a8 w1 fun x9=>
R (((x5==x9),()),()) w1
theorem Eu.ok{f:Option Addr}{w:World}{R:TR r0'→WP}:Eu.wp f w R→Ae prog F.Eu [.pointer f] w false r0' R:=
  oks Aa func168 (.s .n (.s (.pl (ks [0,1,2,3,4,5,6,7,8,9,10,11,12,13,14,15] .z)) .n))
def Tj.wp(a:Int)(w:World)(R:TR Vw→WP):Prop:=
dF 65536 (
R ((wrap .u16 (Int.tmod (wrap .i64 ((wrap .i64 a)+1)) 65536),()),()) w)
theorem Tj.ok{a:Int}{w:World}{R:TR Vw→WP}:Tj.wp a w R→Ae prog F.Tj [uV a] w false Vw R:=
  oks Aa func169 .n
def Ho.wp(e:Option Addr)(w:World)(R:TR Af4→WP):Prop:=
Aq e fun a1=>
ld1 KI (a1.add 5) w fun x2=>
Aj (decide (x2<0)) (
R ((0,()),(0,()),(false,()),()) w) (
Jg w fun w3=>
Aq e fun a4=>
ld1 KI (a4.add 5) w3 fun x5=>
Aq e fun a6=>
ld1 KI a6 w3 fun x7=>
Aj (x5==x7) (
Jg w3 fun w8=>
Aq e fun a9=>
ld1 KU (a9.add 3) w8 fun x10=>
Aq e fun a11=>
ld1 KU (a11.add 4) w8 fun x12=>
Aq e fun a13=>
ld1 KU (a13.add 4) w8 fun x14=>
R ((x10,()),(x12,()),(decide (x14>0),()),()) w8) (
Jg w3 fun w15=>
Aq e fun a16=>
ld1 KI (a16.add 5) w15 fun x17=>
Aq e fun a18=>
Ny (some (a18.add 72)) 64 x17 fun a19=>
ld1 KU (a19.add (x17.toNat*1)) w15 fun x20=>
Aq e fun a21=>
ld1 KI (a21.add 5) w15 fun x22=>
Aq e fun a23=>
Ny (some (a23.add 136)) 64 x22 fun a24=>
ld1 KU (a24.add (x22.toNat*1)) w15 fun x25=>
R ((x20,()),(x25,()),(true,()),()) w15))
theorem Ho.ok{e:Option Addr}{w:World}{R:TR Af4→WP}:Ho.wp e w R→Ae prog F.Ho [.pointer e] w true Af4 R:=
  oks Aa func170 (hs 2 (.s (.s (.pl (ks [0,1,2,3,4,5,6,7,8] .z)) (.s (.s (.pl (ks [0,1,2,3,4,5,6,7,8,9,10,11,12,13,14,15] .z)) .n) .n)) (.s (.pl (ks [0,1,2,3,4,5,6,7,8,9,10,11,12,13,14,15,16,17,18,19,20] .z)) .n)))
def Dv.wp(s f:Option Addr)(local_:Int)(w:World)(R:TR aT→WP):Prop:=
Bf z3' T.Ql w fun p1 w2=>
Ae prog F.Bz [.pointer f] w2 false r0' fun r3 w4=>
Aj r3.1.1 (
Ae prog F.Lj [.pointer f,iV local_] w4 true xA fun r5 w6=>
Aj (r5.2.2.1.1 !=0) (
Au z3' p1 0 w6 fun w7=>
A8 Xf p1 0 w7 fun x8=>
R (x8,(r5.2.2.1.1,()),()) w7) (
Aq f fun a9=>
ld1 .p a9 w6 fun x10=>
Ae prog F.Ho [.pointer x10] w6 true Af4 fun r11 w12=>
Ae prog F.Eu [.pointer f] w12 false r0' fun r13 w14=>
Aj r13.1.1 (
Aq f fun a15=>
ld1 .p a15 w14 fun x16=>
Aq x16 fun a17=>
ld1 KI (a17.add 5) w14 fun x18=>
Au [iV r5.1.1,iV r5.2.1.1,iV x18,uV r11.1.1,iV 1] p1 0 w14 fun w19=>
A8 Xf p1 0 w19 fun x20=>
R (x20,(0,()),()) w19) (
Aq f fun a21=>
ld1 .p a21 w14 fun x22=>
Aq x22 fun a23=>
ld1 KI (a23.add 5) w14 fun x24=>
Au [iV r5.1.1,iV r5.2.1.1,iV x24,uV r11.1.1,iV 2] p1 0 w14 fun w25=>
A8 Xf p1 0 w25 fun x26=>
R (x26,(0,()),()) w25))) (
Aq s fun a27=>
ld1 .b (a27.add 7) w4 fun x28=>
Aj (!x28) (
Au z3' p1 0 w4 fun w29=>
A8 Xf p1 0 w29 fun x30=>
R (x30,(9,()),()) w29) (
Aj (decide (local_<0)) (
Au z3' p1 0 w4 fun w31=>
A8 Xf p1 0 w31 fun x32=>
R (x32,(8,()),()) w31) (
Aj (decide (local_>1125899906842624)) (
Au z3' p1 0 w4 fun w33=>
A8 Xf p1 0 w33 fun x34=>
R (x34,(8,()),()) w33) (
Aq s fun a35=>
ld1 KI ((a35.add 1).add 1) w4 fun x36=>
Aj (decide ((wrap .i64 (local_+x36))<0)) (
Au z3' p1 0 w4 fun w37=>
A8 Xf p1 0 w37 fun x38=>
R (x38,(8,()),()) w37) (
Aq s fun a39=>
ld1 KI ((a39.add 1).add 1) w4 fun x40=>
Aj (decide ((wrap .i64 (local_+x40))>1125899906842624)) (
Au z3' p1 0 w4 fun w41=>
A8 Xf p1 0 w41 fun x42=>
R (x42,(8,()),()) w41) (
Jg w4 fun w43=>
Aq s fun a44=>
ld1 KI ((a44.add 1).add 1) w43 fun x45=>
Aq s fun a46=>
ld1 KI ((a46.add 1).add 2) w43 fun x47=>
Aq s fun a48=>
ld1 KI (a48.add 4) w43 fun x49=>
Aq s fun a50=>
ld1 KU (a50.add 5) w43 fun x51=>
Au [iV (wrap .i64 (local_+x45)),iV x47,iV x49,uV x51,iV 3] p1 0 w43 fun w52=>
Hold [] w52∧(
A8 Xf p1 0 w52 fun x53=>
R (x53,(0,()),()) w52)))))))
theorem Dv.ok{s f:Option Addr}{local_:Int}{w:World}{R:TR aT→WP}:Dv.wp s f local_ w R→Ae prog F.Dv [.pointer s,.pointer f,iV local_] w true aT R:=
  oks Aa func171 (hs 4 (.s (.pl (ks [0,1,2,3,4,5,6,7,8,9,10,11,12,13,14,15,16,17,18,19,20] (.ef 21 [5,11,15,19] (.tk 22 .z)))) .n))
def Ku.wp(f:Option Addr)(p0 p1 p2 p3 p4 p5 p6 p7 p8 p9 p10 p11 p12 p13 local_:Int)(w:World)(R:TR r3'→WP):Prop:=
Bf [iV p0,iV p1,iV p2,iV p3,uV p4,uV p5,iV p6,iV p7,iV p8,iV p9,iV p10,iV p11,iV p12,iV p13] T.Dn w fun p14 w15=>
ld1 KI (p14.add 6) w15 fun x16=>
Aj (decide (x16<0)) (
R ((0,()),()) w15) (
ld1 KI (p14.add 6) w15 fun x17=>
Aj (decide (x17>62)) (
R ((0,()),()) w15) (
Ae prog F.N8 [iV local_] w15 false r0' fun r18 w19=>
Aj (!r18.1.1) (
R ((0,()),()) w19) (
ld1 KI (p14.add 7) w19 fun x20=>
Ae prog F.N8 [iV x20] w19 false r0' fun r21 w22=>
Aj (!r21.1.1) (
R ((0,()),()) w22) (
Jg w22 fun w23=>
Aq f fun a24=>
ld1 .p a24 w23 fun x25=>
ld1 KI (p14.add 3) w23 fun x26=>
ld1 KU (p14.add 4) w23 fun x27=>
ld1 KU (p14.add 5) w23 fun x28=>
Ae prog F.Ju [.pointer x25,iV x26,uV x27,uV x28] w23 false r3' fun r29 w30=>
Hold [] w30∧(
Aj (r29.1.1==0) (
R ((0,()),()) w30) (
Cc (fun(J31:Unit→WP)=>
Aj (r29.1.1==2) (
Ae prog F.Gi [.pointer f] w30 true [] fun r34 w35=>
J31 (()) w35) (
J31 (()) w30)) (fun(z32:Unit) w33=> ∀_:Nat→Value,
ld1 KI (p14.add 7) w33 fun x36=>
ld1 KI (p14.add 6) w33 fun x37=>
Bf Vy T.D7 w33 fun p38 w39=>
Au [iV local_,iV (wrap .i64 (x36-local_)),iV (wrap .i64 (x37+1))] p38 0 w39 fun w40=>
Jg w40 fun w41=>
Aq f fun a42=>
ld1 .sl (a42.add 3) w41 fun x43=>
A8 Ig p38 0 w41 fun x44=>
Ae prog F.Uw [.slice x43.1 x43.2.1 x43.2.2,Sv Ig x44] w41 true iT fun r45 w46=>
Hold [] w46∧(
Cc (fun(J47:((Option Addr×Nat×Nat)×Unit)→WP)=>
Aj (r45.2.1.1 !=0) (
A8 Ig p38 0 w46 fun x50=>
Ae prog F.Uw [.slice none 0 0,Sv Ig x50] w46 true iT fun r51 w52=>
J47 ((r51.1.1.1,r51.1.1.2.1,r51.1.1.2.2),()) w52) (
J47 ((r45.1.1.1,r45.1.1.2.1,r45.1.1.2.2),()) w46)) (fun(z48:(Option Addr×Nat×Nat)×Unit) w49=> ∀_:Nat→Value,
Aq f fun a53=>
Au [.slice z48.1.1 z48.1.2.1 z48.1.2.2] (a53.add 3) 0 w49 fun w54=>
Aq f fun a55=>
Au [iV local_] (a55.add 4) 0 w54 fun w56=>
ld1 KI (p14.add 7) w56 fun x57=>
Aq f fun a58=>
Au [iV x57] (a58.add 5) 0 w56 fun w59=>
ld1 KI (p14.add 6) w59 fun x60=>
Aq f fun a61=>
Au [iV (wrap .i64 (x60+1))] (a61.add 6) 0 w59 fun w62=>
R ((r29.1.1,()),()) w62)))))))))
theorem Ku.ok{f:Option Addr}{p0 p1 p2 p3 p4 p5 p6 p7 p8 p9 p10 p11 p12 p13 local_:Int}{w:World}{R:TR r3'→WP}:Ku.wp f p0 p1 p2 p3 p4 p5 p6 p7 p8 p9 p10 p11 p12 p13 local_ w R→Ae prog F.Ku [.pointer f,.agg #[iV p0,iV p1,iV p2,iV p3,uV p4,uV p5,iV p6,iV p7,iV p8,iV p9,iV p10,iV p11,iV p12,iV p13],iV local_] w false r3' R:=
  oks Aa func172 (hs 2 (.s (.pl (ks [0,1,2,3,4,5,6,7,8,9] (.ef 10 [3,5,7,9] (.tk 11 .z)))) (.s .n (.ct [] .n (.s .n (.s (.pl (ks [0,1,2,3,4] (.ef 5 [3,4] (ks [6,7,8,9,10] .z)))) (.ct [(9,.sl)] .n .n)))))))
def Jw.wp(l:Option Addr)(from_ level:Int)(w:World)(R:TR r0'→WP):Prop:=
Aj (decide (from_<0)) (
R ((false,()),()) w) (
Aj (decide (from_>63)) (
R ((false,()),()) w) (
Aj (decide (level<0)) (
R ((false,()),()) w) (
Aj (decide (level>63)) (
R ((false,()),()) w) (
Aq l fun a1=>
ld1 KI a1 w fun x2=>
Aj (from_==x2) (
R ((false,()),()) w) (
Aq l fun a3=>
A8 Ig a3 0 w fun x4=>
Bf Vy T.nX w fun p5 w6=>
Au (encs Ig x4) p5 0 w6 fun w7=>
Cc (fun(J8:Unit→WP)=>
Aq l fun a11=>
ld1 KI (a11.add 2) w7 fun x12=>
Aj (from_==x12) (
Aq l fun a13=>
Au [iV (wrap .i64 (level+1))] (a13.add 1) 0 w7 fun w14=>
Aj (level==63) (
Aq l fun a15=>
Au [iV (Int.negSucc 0)] (a15.add 1) 0 w14 fun w16=>
Aq l fun a17=>
Au [iV (Int.negSucc 0)] (a17.add 2) 0 w16 fun w18=>
J8 (()) w18) (
J8 (()) w14)) (
Cc (fun(J19:((Bool)×Unit)→WP)=>
Aj (decide (level<63)) (
Aq l fun a22=>
ld1 KI (a22.add 1) w7 fun x23=>
Aj (decide (x23<0)) (
J19 (true,()) w7) (
Aq l fun a24=>
ld1 KI (a24.add 1) w7 fun x25=>
J19 (decide ((wrap .i64 (level+1))<x25),()) w7)) (
J19 (false,()) w7)) (fun(z20:(Bool)×Unit) w21=> ∀_:Nat→Value,
Aj z20.1 (
Aq l fun a26=>
Au [iV (wrap .i64 (level+1))] (a26.add 1) 0 w21 fun w27=>
Aq l fun a28=>
Au [iV from_] (a28.add 2) 0 w27 fun w29=>
J8 (()) w29) (
J8 (()) w21)))) (fun(z9:Unit) w10=> ∀_:Nat→Value,
Jg w10 fun w30=>
Aq l fun a31=>
ld1 KI (a31.add 1) w30 fun x32=>
ld1 KI (p5.add 1) w30 fun x33=>
Aj (x32 !=x33) (
R ((true,()),()) w30) (
Aq l fun a34=>
ld1 KI (a34.add 2) w30 fun x35=>
ld1 KI (p5.add 2) w30 fun x36=>
R (((x35 !=x36),()),()) w30)))))))
theorem Jw.ok{l:Option Addr}{from_ level:Int}{w:World}{R:TR r0'→WP}:Jw.wp l from_ level w R→Ae prog F.Jw [.pointer l,iV from_,iV level] w false r0' R:=
  oks Aa func173 (hs 3 (.ct [] (hs 2 (.ct [(69,.b)] .n .n)) (.s (.pl (ks [0,1,2,3,4,5,6,7,8,9,10,11,12,13,14,15,16] .z)) .n)))
def Gy.wp(n:Option Addr)(j0 j1 j2 j3 j4 j5 j6 j7:Int)(w:World)(R:TR r3'→WP):Prop:=
Bf [iV j0,iV j1,iV j2,iV j3,iV j4,iV j5,uV j6,iV j7] T.Xl w fun p1 w2=>
Aq n fun a3=>
ld1 .sl (a3.add 21) w2 fun x4=>
Aj (decide ((x4.2.1:Int)≥8)) (
R ((6,()),()) w2) (
Jg w2 fun w5=>
Aq n fun a6=>
ld1 .sl (a6.add 21) w5 fun x7=>
A8 mP p1 0 w5 fun x8=>
(
Bf [] T.Xl w5 fun p9 w10=>
Hold [hd 7 (p1.add 0) w5,hd 7 (p1.add 1) w5,hd 7 (p1.add 2) w5,hd 7 (p1.add 3) w5,hd 7 (p1.add 4) w5,hd 7 (p1.add 5) w5,hd 7 (p1.add 6) w5,hd 7 (p1.add 7) w5,hd 5 (a6.add 21) w5] w10∧(
(
L9 ((Builtin.append_ #[T.Ce,T.Ce] T.Ce #[.slice (some p9) 0 0,.slice x7.1 x7.2.1 x7.2.2]).run prog w10) fun y11 w12=>
Hold [hd 7 (p1.add 0) w5,hd 7 (p1.add 1) w5,hd 7 (p1.add 2) w5,hd 7 (p1.add 3) w5,hd 7 (p1.add 4) w5,hd 7 (p1.add 5) w5,hd 7 (p1.add 6) w5,hd 7 (p1.add 7) w5,hd 5 (a6.add 21) w5] w12∧(
Bf (encs mP x8) T.Xl w12 fun p13 w14=>
Hold [hd 7 (p1.add 0) w5,hd 7 (p1.add 1) w5,hd 7 (p1.add 2) w5,hd 7 (p1.add 3) w5,hd 7 (p1.add 4) w5,hd 7 (p1.add 5) w5,hd 7 (p1.add 6) w5,hd 7 (p1.add 7) w5,hd 5 (a6.add 21) w5] w14∧(
L9 ((Builtin.append_ #[T.Ce,T.Ce] T.Ce #[.slice y11.1 y11.2.1 y11.2.2,.slice (some p13) 1 1]).run prog w14) fun y15 w16=>
Hold [hd 7 (p1.add 0) w5,hd 7 (p1.add 1) w5,hd 7 (p1.add 2) w5,hd 7 (p1.add 3) w5,hd 7 (p1.add 4) w5,hd 7 (p1.add 5) w5,hd 7 (p1.add 6) w5,hd 7 (p1.add 7) w5,hd 5 (a6.add 21) w5] w16∧(
Aq n fun a17=>
Au [.slice y15.1 y15.2.1 y15.2.2] (a17.add 21) 0 w16 fun w18=>
Hold [] w18∧(
R ((0,()),()) w18)))))∧(
Bf (encs mP x8) T.Xl w10 fun p19 w20=>
Hold [hd 7 (p1.add 0) w5,hd 7 (p1.add 1) w5,hd 7 (p1.add 2) w5,hd 7 (p1.add 3) w5,hd 7 (p1.add 4) w5,hd 7 (p1.add 5) w5,hd 7 (p1.add 6) w5,hd 7 (p1.add 7) w5,hd 5 (a6.add 21) w5] w20∧(
L9 ((Builtin.append_ #[T.Ce,T.Ce] T.Ce #[.slice (some p9) 0 0,.slice x7.1 x7.2.1 x7.2.2]).run prog w20) fun y21 w22=>
Hold [hd 7 (p1.add 0) w5,hd 7 (p1.add 1) w5,hd 7 (p1.add 2) w5,hd 7 (p1.add 3) w5,hd 7 (p1.add 4) w5,hd 7 (p1.add 5) w5,hd 7 (p1.add 6) w5,hd 7 (p1.add 7) w5,hd 5 (a6.add 21) w5] w22∧(
L9 ((Builtin.append_ #[T.Ce,T.Ce] T.Ce #[.slice y21.1 y21.2.1 y21.2.2,.slice (some p19) 1 1]).run prog w22) fun y23 w24=>
Hold [hd 7 (p1.add 0) w5,hd 7 (p1.add 1) w5,hd 7 (p1.add 2) w5,hd 7 (p1.add 3) w5,hd 7 (p1.add 4) w5,hd 7 (p1.add 5) w5,hd 7 (p1.add 6) w5,hd 7 (p1.add 7) w5,hd 5 (a6.add 21) w5] w24∧(
Aq n fun a25=>
Au [.slice y23.1 y23.2.1 y23.2.2] (a25.add 21) 0 w24 fun w26=>
Hold [] w26∧(
R ((0,()),()) w26)))))))∧(
Bf (encs mP x8) T.Xl w5 fun p27 w28=>
Hold [hd 7 (p1.add 0) w5,hd 7 (p1.add 1) w5,hd 7 (p1.add 2) w5,hd 7 (p1.add 3) w5,hd 7 (p1.add 4) w5,hd 7 (p1.add 5) w5,hd 7 (p1.add 6) w5,hd 7 (p1.add 7) w5,hd 5 (a6.add 21) w5] w28∧(
Bf [] T.Xl w28 fun p29 w30=>
Hold [hd 7 (p1.add 0) w5,hd 7 (p1.add 1) w5,hd 7 (p1.add 2) w5,hd 7 (p1.add 3) w5,hd 7 (p1.add 4) w5,hd 7 (p1.add 5) w5,hd 7 (p1.add 6) w5,hd 7 (p1.add 7) w5,hd 5 (a6.add 21) w5] w30∧(
L9 ((Builtin.append_ #[T.Ce,T.Ce] T.Ce #[.slice (some p29) 0 0,.slice x7.1 x7.2.1 x7.2.2]).run prog w30) fun y31 w32=>
Hold [hd 7 (p1.add 0) w5,hd 7 (p1.add 1) w5,hd 7 (p1.add 2) w5,hd 7 (p1.add 3) w5,hd 7 (p1.add 4) w5,hd 7 (p1.add 5) w5,hd 7 (p1.add 6) w5,hd 7 (p1.add 7) w5,hd 5 (a6.add 21) w5] w32∧(
L9 ((Builtin.append_ #[T.Ce,T.Ce] T.Ce #[.slice y31.1 y31.2.1 y31.2.2,.slice (some p27) 1 1]).run prog w32) fun y33 w34=>
Hold [hd 7 (p1.add 0) w5,hd 7 (p1.add 1) w5,hd 7 (p1.add 2) w5,hd 7 (p1.add 3) w5,hd 7 (p1.add 4) w5,hd 7 (p1.add 5) w5,hd 7 (p1.add 6) w5,hd 7 (p1.add 7) w5,hd 5 (a6.add 21) w5] w34∧(
Aq n fun a35=>
Au [.slice y33.1 y33.2.1 y33.2.2] (a35.add 21) 0 w34 fun w36=>
Hold [] w36∧(
R ((0,()),()) w36)))))))
theorem Gy.ok{n:Option Addr}{j0 j1 j2 j3 j4 j5 j6 j7:Int}{w:World}{R:TR r3'→WP}:Gy.wp n j0 j1 j2 j3 j4 j5 j6 j7 w R→Ae prog F.Gy [.pointer n,.agg #[iV j0,iV j1,iV j2,iV j3,iV j4,iV j5,uV j6,iV j7]] w false r3' R:=
  oks Aa func174 (hs 2 (.s (.pl (ks [0,2,3,4,5,7] (.two 1 8 (.two 6 8 (.ef 8 [] (.ef 9 [] (.tk 10 (.tk 11 (.ef 12 [5,7] .z))))) (.ef 6 [] (.ef 9 [] (.tk 10 (.tk 11 (.ef 12 [5,7] .z)))))) (.ef 1 [] (.ef 6 [] (.ef 9 [] (.tk 10 (.tk 11 (.ef 12 [5,7] .z))))))))) .n))
def I4.wp(p:Option Addr)(r0 r1 r2 r3 r4 r5 r6 r7 r8 r9 r10 r11 r12 r13 local_:Int)(w:World)(R:TR fC→WP):Prop:=
Bf [iV r0,iV r1,iV r2,iV r3,uV r4,uV r5,iV r6,iV r7,iV r8,iV r9,iV r10,iV r11,iV r12,iV r13] T.Dn w fun p1 w2=>
Bf Vy T.D7 w2 fun p3 w4=>
Jg w4 fun w5=>
Aq p fun a6=>
ld1 .b (a6.add 3) w5 fun x7=>
Aj (!x7) (
Au Vy p3 0 w5 fun w8=>
A8 Ig p3 0 w8 fun x9=>
R (x9,(false,()),()) w8) (
ld1 KI (p1.add 2) w5 fun x10=>
Aq p fun a11=>
ld1 KI a11 w5 fun x12=>
Aj (x10 !=x12) (
Au Vy p3 0 w5 fun w13=>
A8 Ig p3 0 w13 fun x14=>
R (x14,(false,()),()) w13) (
ld1 KI (p1.add 1) w5 fun x15=>
Aq p fun a16=>
ld1 KI (a16.add 1) w5 fun x17=>
Aj (x15 !=x17) (
Au Vy p3 0 w5 fun w18=>
A8 Ig p3 0 w18 fun x19=>
R (x19,(false,()),()) w18) (
ld1 KI (p1.add 9) w5 fun x20=>
Aq p fun a21=>
ld1 KI (a21.add 2) w5 fun x22=>
Aj (x20 !=x22) (
Au Vy p3 0 w5 fun w23=>
A8 Ig p3 0 w23 fun x24=>
R (x24,(false,()),()) w23) (
ld1 KI (p1.add 9) w5 fun x25=>
ld1 KI (p1.add 10) w5 fun x26=>
ld1 KI (p1.add 11) w5 fun x27=>
Ae prog F.Va [iV x25,iV x26,iV x27,iV local_] w5 false r0' fun r28 w29=>
Hold [hd 29 (a21.add 2) w5,hd 25 (p1.add 9) w5,hd 20 (a16.add 1) w5,hd 16 (p1.add 1) w5,hd 11 a11 w5,hd 7 (p1.add 2) w5,hd 3 (a6.add 3) w5] w29∧(
Aj (!r28.1.1) (
Au Vy p3 0 w29 fun w30=>
A8 Ig p3 0 w30 fun x31=>
R (x31,(false,()),()) w30) (
ld1 KI (p1.add 6) w29 fun x32=>
Aj (decide (x32<0)) (
Au Vy p3 0 w29 fun w33=>
A8 Ig p3 0 w33 fun x34=>
R (x34,(false,()),()) w33) (
ld1 KI (p1.add 6) w29 fun x35=>
Aj (decide (x35>62)) (
Au Vy p3 0 w29 fun w36=>
A8 Ig p3 0 w36 fun x37=>
R (x37,(false,()),()) w36) (
Cc (fun(J38:((Addr)×Unit)→WP)=>
Jg w29 fun w41=>
ld1 KI (p1.add 9) w41 fun x42=>
ld1 KI (p1.add 10) w41 fun x43=>
ld1 KI (p1.add 11) w41 fun x44=>
ld1 KI (p1.add 6) w41 fun x45=>
(
Ae prog F.Pv [iV x42,iV x43,iV x44,iV local_] w41 false r3' fun r46 w47=>
Hold [hd 10 (p1.add 6) w41,hd 6 (p1.add 11) w41,hd 4 (p1.add 10) w41,hd 2 (p1.add 9) w41] w47∧(
Bf Vy T.D7 w47 fun p48 w49=>
Hold [hd 10 (p1.add 6) w41,hd 6 (p1.add 11) w41,hd 4 (p1.add 10) w41,hd 2 (p1.add 9) w41] w49∧(
Au [iV local_,iV r46.1.1,iV (wrap .i64 (x45+1))] p48 0 w49 fun w50=>
Hold [] w50∧(
J38 (p48,()) w50))))∧(
Bf Vy T.D7 w41 fun p51 w52=>
Hold [hd 10 (p1.add 6) w41,hd 6 (p1.add 11) w41,hd 4 (p1.add 10) w41,hd 2 (p1.add 9) w41] w52∧(
Ae prog F.Pv [iV x42,iV x43,iV x44,iV local_] w52 false r3' fun r53 w54=>
Hold [hd 10 (p1.add 6) w41] w54∧(
Au [iV local_,iV r53.1.1,iV (wrap .i64 (x45+1))] p51 0 w54 fun w55=>
Hold [] w55∧(
J38 (p51,()) w55))))) (fun(z39:(Addr)×Unit) w40=> ∀_:Nat→Value,
A8 Ig z39.1 0 w40 fun x56=>
Ae prog F.Nz [Sv Ig x56] w40 false r0' fun r57 w58=>
Aj (!r57.1.1) (
Au Vy p3 0 w58 fun w59=>
A8 Ig p3 0 w59 fun x60=>
R (x60,(false,()),()) w59) (
Aq p fun a61=>
Au [.bool false] (a61.add 3) 0 w58 fun w62=>
Aq p fun a63=>
Au [iV 0] (a63.add 5) 0 w62 fun kJ=>
A8 Ig z39.1 0 kJ fun x65=>
Au (encs Ig x65) p3 0 kJ fun w66=>
A8 Ig p3 0 w66 fun x67=>
R (x67,(true,()),()) w66))))))))))
theorem I4.ok{p:Option Addr}{r0 r1 r2 r3 r4 r5 r6 r7 r8 r9 r10 r11 r12 r13 local_:Int}{w:World}{R:TR fC→WP}:I4.wp p r0 r1 r2 r3 r4 r5 r6 r7 r8 r9 r10 r11 r12 r13 local_ w R→Ae prog F.I4 [.pointer p,.agg #[iV r0,iV r1,iV r2,iV r3,uV r4,uV r5,iV r6,iV r7,iV r8,iV r9,iV r10,iV r11,iV r12,iV r13],iV local_] w true fC R:=
  oks Aa func175 (.s .n (.s (.s (.pl (ks [0,1,2,3,4,5,6,7,8,9,10,11,12,13,14,15,16,17,18,19,20,21,22,23,24,25,26,27,28,29,30,31,32,33,34,35,36,37,38,39] (.ef 40 [34,36,38] (ks [41,42,43,44,45,46,47,48,49,50,51,52] .z)))) .n) (.ct [(8,.a)] (.pl (ks [0,1,2,3,4,5,6,7,9,10,11] (.two 8 13 (.tk 12 (.ef 13 [] (.ef 14 [2,4,6,10] .z))) (.ef 8 [2,4,6] (.tk 12 (.ef 14 [10] .z)))))) .n)))
def Ko.wp(s:Option Addr)(e0 e1 e2 root boot:Int)(w:World)(R:TR r3'→WP):Prop:=
Bf [iV e0,iV e1,iV e2] T.D7 w fun p1 w2=>
A8 Ig p1 0 w2 fun x3=>
Ae prog F.Nz [Sv Ig x3] w2 false r0' fun r4 w5=>
Aj (!r4.1.1) (
R ((1,()),()) w5) (
Aj (decide (root<0)) (
R ((1,()),()) w5) (
Aj (decide (root>63)) (
R ((1,()),()) w5) (
A8 Ig p1 0 w5 fun x6=>
Aq s fun a7=>
Au (encs Ig x6) (a7.add 1) 0 w5 fun w8=>
Aq s fun a9=>
Au [iV root] (a9.add 4) 0 w8 fun w10=>
Aq s fun a11=>
Au [uV boot] (a11.add 5) 0 w10 fun w12=>
Aq s fun a13=>
Au [iV 0] (a13.add 6) 0 w12 fun w14=>
Aq s fun a15=>
Au [.bool true] (a15.add 7) 0 w14 fun w16=>
R ((0,()),()) w16)))
theorem Ko.ok{s:Option Addr}{e0 e1 e2 root boot:Int}{w:World}{R:TR r3'→WP}:Ko.wp s e0 e1 e2 root boot w R→Ae prog F.Ko [.pointer s,.agg #[iV e0,iV e1,iV e2],iV root,uV boot] w false r3' R:=
  oks Aa func176 .n
def Np.wp(b:Option Addr)(a0 a1 a2 a3 a4 a5 a6 a7 a8 a9 a10 a11 a12 a13:Int)(w:World)(R:TR r0'→WP):Prop:=
Bf [iV a0,iV a1,iV a2,iV a3,uV a4,uV a5,iV a6,iV a7,iV a8,iV a9,iV a10,iV a11,iV a12,iV a13] T.Dn w fun p1 w2=>
Cc (fun(J3:Unit→WP)=>
Jg w2 fun w6=>
ld1 KI p1 w6 fun x7=>
Aj (x7 !=6) (
R ((false,()),()) w6) (
A8 k2' p1 0 w6 fun x8=>
Ae prog F.Fb [Sv k2' x8] w6 false r0' fun r9 w10=>
Hold [hd 4 (p1.add 0) w6,hd 4 (p1.add 1) w6,hd 4 (p1.add 2) w6,hd 4 (p1.add 3) w6,hd 4 (p1.add 4) w6,hd 4 (p1.add 5) w6,hd 4 (p1.add 6) w6,hd 4 (p1.add 7) w6,hd 4 (p1.add 8) w6,hd 4 (p1.add 9) w6,hd 4 (p1.add 10) w6,hd 4 (p1.add 11) w6,hd 4 (p1.add 12) w6,hd 4 (p1.add 13) w6,hd 1 p1 w6] w10∧(
Aj (!r9.1.1) (
R ((false,()),()) w10) (
Aq b fun a14=>
ld1 KI a14 w10 fun x15=>
Aj (x15==6) (
ld1 KU (p1.add 5) w10 fun x16=>
Aq b fun a17=>
ld1 KU (a17.add 5) w10 fun x18=>
Ae prog F.Oc [uV x16,uV x18] w10 false r0' fun r19 w20=>
Hold [hd 13 a14 w10,hd 4 (p1.add 0) w6,hd 4 (p1.add 1) w6,hd 4 (p1.add 2) w6,hd 4 (p1.add 3) w6,hd 4 (p1.add 4) w6,hd 4 (p1.add 5) w6,hd 4 (p1.add 6) w6,hd 4 (p1.add 7) w6,hd 4 (p1.add 8) w6,hd 4 (p1.add 9) w6,hd 4 (p1.add 10) w6,hd 4 (p1.add 11) w6,hd 4 (p1.add 12) w6,hd 4 (p1.add 13) w6,hd 1 p1 w6] w20∧(
Aj (!r19.1.1) (
R ((false,()),()) w20) (
J3 (()) w20))) (
J3 (()) w10))))) (fun(z4:Unit) w5=> ∀_:Nat→Value,
A8 k2' p1 0 w5 fun x21=>
Ae prog F.Vj [Sv k2' x21] w5 false bF fun r22 w23=>
Aq b fun a24=>
Au (encs k2' r22.1) a24 0 w23 fun w25=>
R ((true,()),()) w25)
theorem Np.ok{b:Option Addr}{a0 a1 a2 a3 a4 a5 a6 a7 a8 a9 a10 a11 a12 a13:Int}{w:World}{R:TR r0'→WP}:Np.wp b a0 a1 a2 a3 a4 a5 a6 a7 a8 a9 a10 a11 a12 a13 w R→Ae prog F.Np [.pointer b,.agg #[iV a0,iV a1,iV a2,iV a3,uV a4,uV a5,iV a6,iV a7,iV a8,iV a9,iV a10,iV a11,iV a12,iV a13]] w false r0' R:=
  oks Aa func177 (.s .n (.ct [] (.s (.pl (ks [0,1,2,3,4] (.ef 5 [] (ks [6,7,8,9,10,11,12,13,14,15,16,17,18,19,20,21,22] (.ef 23 [17,22] (ks [24,25,26] .z)))))) .n) .n))
def U7.wp(s:ByteArray)(w:World)(R:TR r0'→WP):Prop:=
Ci (fun(self1:((Int)×Unit)→WP) (z2:(Int)×Unit) w3=> ∀_:Nat→Value,
Aj (decide (z2.1<(s.size:Int))) (
siK s z2.1 fun c4=>
Aj (c4==95) (
self1 (wrap .i64 (z2.1+1),()) w3) (
Aj (decide (c4≥97)) (
Aj (decide (c4≤122)) (
self1 (wrap .i64 (z2.1+1),()) w3) (
Aj (decide (c4≥48)) (
Aj (decide (c4≤57)) (
self1 (wrap .i64 (z2.1+1),()) w3) (
R ((false,()),()) w3)) (
R ((false,()),()) w3))) (
Aj (decide (c4≥48)) (
Aj (decide (c4≤57)) (
self1 (wrap .i64 (z2.1+1),()) w3) (
R ((false,()),()) w3)) (
R ((false,()),()) w3)))) (
Aj (decide ((s.size:Int)≥1)) (
R ((decide ((s.size:Int)≤12),()),()) w3) (
R ((false,()),()) w3))) (0,()) w
theorem U7.ok{s:ByteArray}{w:World}{R:TR r0'→WP}:U7.wp s w R→Ae prog F.U7 [.string s] w false r0' R:=
  oks Aa func178 (.s .n (.s (.s .n (.lp [(3,(.i .i64))] .n)) .n))
def Oj.wp(e:Option Addr)(w:World)(R:TR r3'→WP):Prop:=
Aj (Option.isNone e) (
R ((0,()),()) w) (
Jg w fun w1=>
Aq e fun a2=>
ld1 .sl a2 w1 fun x3=>
Aq e fun a4=>
ld1 KI (a4.add 1) w1 fun x5=>
R ((wrap .i64 ((x3.2.1:Int)-x5),()),()) w1)
theorem Oj.ok{e:Option Addr}{w:World}{R:TR r3'→WP}:Oj.wp e w R→Ae prog F.Oj [.pointer e] w false r3' R:=
  oks Aa func179 (hs 2 (.s (.pl (ks [0,1,2,3,4,5,6,7,8,9,10] .z)) .n))
def X5.wp(b:Option Addr×Nat×Nat)(w:World)(R:TR Vw→WP):Prop:=
Ae prog F.X0 [uV 65535,.slice b.1 b.2.1 b.2.2] w false Vw fun r1 w2=>
R ((r1.1.1,()),()) w2
theorem X5.ok{b:Option Addr×Nat×Nat}{w:World}{R:TR Vw→WP}:X5.wp b w R→Ae prog F.X5 [.slice b.1 b.2.1 b.2.2] w false Vw R:=
  oks Aa func180 .n
def Dp.wp(i:Int)(c_cap0:Addr)(w:World)(R:TR r3'→WP):Prop:=
ld1 .sl c_cap0 w fun x1=>
Ny x1.1 x1.2.1 i fun a2=>
ld1 (.i .u64) (a2.add (i.toNat*1)) w fun x3=>
R ((wrap .i64 x3,()),()) w
theorem Dp.ok{i:Int}{c_cap0:Addr}{w:World}{R:TR r3'→WP}:Dp.wp i c_cap0 w R→Ae prog F.Dp [iV i,.pointer (some c_cap0)] w false r3' R:=
  oks Aa func181 .n
def Po.wp(i:Int)(c_cap0:Addr)(w:World)(R:TR Vw→WP):Prop:=
ld1 .sl c_cap0 w fun x1=>
Ny x1.1 x1.2.1 i fun a2=>
ld1 (.i .u64) (a2.add (i.toNat*1)) w fun x3=>
R ((wrap .u16 x3,()),()) w
theorem Po.ok{i:Int}{c_cap0:Addr}{w:World}{R:TR Vw→WP}:Po.wp i c_cap0 w R→Ae prog F.Po [iV i,.pointer (some c_cap0)] w false Vw R:=
  oks Aa func182 .n
def Lc.wp(e:Option Addr)(root m0 m1:Int)(w:World)(R:TR r3'→WP):Prop:=
Bf [uV m0,uV m1] T.Ti w fun p1 w2=>
Aj (Option.isNone e) (
R ((0,()),()) w2) (
Ae prog F.Ns [.pointer e,iV root] w2 false r0' fun r3 w4=>
Aj (!r3.1.1) (
R ((0,()),()) w4) (
Aq e fun a5=>
ld1 .m (a5.add 8) w4 fun x6=>
lkO prog T.V3 (.map x6) (iV root) w4 true [KU,KU] fun x7 b8=>
Bf [uV 0,uV 0] T.Ti w4 fun p9 w10=>
Au [uV x7.1,uV x7.2.1] p9 0 w10 fun w11=>
Cc (fun(J12:Unit→WP)=>
Aj b8 (
A8 [KU,KU] p1 0 w11 fun x15=>
A8 [KU,KU] p9 0 w11 fun x16=>
Ae prog F.Kw [.agg #[uV x15.1,uV x15.2.1],.agg #[uV x16.1,uV x16.2.1]] w11 false r0' fun r17 w18=>
Aj (!r17.1.1) (
R ((0,()),()) w18) (
J12 (()) w18)) (
J12 (()) w11)) (fun(z13:Unit) w14=> ∀_:Nat→Value,
Cc (fun(J19:((Bool)×Unit)→WP)=>
Aq e fun a22=>
ld1 KI (a22.add 5) w14 fun x23=>
Aj (x23 !=root) (
J19 (true,()) w14) (
ld1 KU p9 w14 fun x24=>
ld1 KU p1 w14 fun x25=>
J19 ((x24 !=x25),()) w14)) (fun(z20:(Bool)×Unit) w21=> ∀_:Nat→Value,
Jg w21 fun w26=>
Aq e fun a27=>
ld1 .m (a27.add 8) w26 fun x28=>
A8 [KU,KU] p1 0 w26 fun x29=>
muK prog T.V3 (.map x28) (iV root) (.agg #[uV x29.1,uV x29.2.1]) w26 fun w30=>
Hold [] w30∧(
Aq e fun a31=>
Au [iV root] (a31.add 5) 0 w30 fun w32=>
Aq e fun a33=>
Au [iV 0] (a33.add 6) 0 w32 fun w34=>
Aq e fun a35=>
Au [iV 0] (a35.add 7) 0 w34 fun w36=>
Aj z20.1 (
R ((2,()),()) w36) (
R ((1,()),()) w36))))))
theorem Lc.ok{e:Option Addr}{root m0 m1:Int}{w:World}{R:TR r3'→WP}:Lc.wp e root m0 m1 w R→Ae prog F.Lc [.pointer e,iV root,.agg #[uV m0,uV m1]] w false r3' R:=
  oks Aa func183 (hs 3 (.ct [] .n (.ct [(9,.b)] .n (.s (.pl (ks [0,1,2,3,4,5] (.ef 6 [3,5] .z))) .n))))
def Ed.wp(t:Option Addr)(e0 e1 e2:Int)(w:World)(R:TR r3'→WP):Prop:=
Bf [iV e0,iV e1,iV e2] T.Du w fun p1 w2=>
Cc (fun(J3:Unit→WP)=>
Ae prog F.Ld [.pointer t] w2 true fC fun r6 w7=>
Bf Vy T.Du w7 fun p8 w9=>
Au (encs Ig r6.1) p8 0 w9 fun w10=>
Aj (Option.isNone t) (
R ((2,()),()) w10) (
A8 Ig p1 0 w10 fun x11=>
Ae prog F.C9 [Sv Ig x11] w10 false r0' fun r12 w13=>
Aj (!r12.1.1) (
R ((1,()),()) w13) (
Aj r6.2.1.1 (
ld1 KI p1 w13 fun x14=>
ld1 KI p8 w13 fun x15=>
Aj (decide (x14≤x15)) (
R ((12,()),()) w13) (
J3 (()) w13)) (
J3 (()) w13)))) (fun(z4:Unit) w5=> ∀_:Nat→Value,
Jg w5 fun w16=>
Aq t fun a17=>
ld1 .sl a17 w16 fun x18=>
A8 Ig p1 0 w16 fun x19=>
Bf (encs Ig x19) T.Du w16 fun p20 w21=>
Hold [hd 5 (p1.add 0) w16,hd 5 (p1.add 1) w16,hd 5 (p1.add 2) w16,hd 4 a17 w16] w21∧(
L9 ((Builtin.append_ #[T.Ox,T.Ox] T.Ox #[.slice x18.1 x18.2.1 x18.2.2,.slice (some p20) 1 1]).run prog w21) fun y22 w23=>
Hold [hd 5 (p1.add 0) w16,hd 5 (p1.add 1) w16,hd 5 (p1.add 2) w16] w23∧(
Aq t fun a24=>
Au [.slice y22.1 y22.2.1 y22.2.2] a24 0 w23 fun w25=>
Hold [] w25∧(
Aq t fun a26=>
ld1 .sl a26 w25 fun x27=>
Aj (decide ((x27.2.1:Int)>8)) (
Aq t fun a28=>
ld1 .sl a28 w25 fun x29=>
sQ 1 (x29.2.1:Int) x29.2.2 (
Ae prog F.Df [.slice (dG x29.1 x29.2.2 (Int.toNat 1) 3) ((Int.toNat (x29.2.1:Int))-(Int.toNat 1)) (x29.2.2-Int.toNat 1)] w25 false H7 fun r30 w31=>
Aq t fun a32=>
Au [.slice r30.1.1.1 r30.1.1.2.1 r30.1.1.2.2] a32 0 w31 fun w33=>
R ((0,()),()) w33)) (
R ((0,()),()) w25)))))
theorem Ed.ok{t:Option Addr}{e0 e1 e2:Int}{w:World}{R:TR r3'→WP}:Ed.wp t e0 e1 e2 w R→Ae prog F.Ed [.pointer t,.agg #[iV e0,iV e1,iV e2]] w false r3' R:=
  oks Aa func184 (.s .n (.ct [] .n (.s (.pl (ks [0,1,2,3,4,5] (.ef 6 [] (.ef 7 [4] (.tk 8 (.tk 9 (.ef 10 [5] .z))))))) .n)))
def Gw.wp(t0 t1 t2 t3:Int)(w:World)(R:TR r3'→WP):Prop:=
Bf [iV t0,iV t1,iV t2,iV t3] T.jL w fun p1 w2=>
A8 fH p1 0 w2 fun x3=>
Ae prog F.Iw [Sv fH x3] w2 false r0' fun r4 w5=>
Aj (!r4.1.1) (
R ((0,()),()) w5) (
ld1 KI (p1.add 1) w5 fun x6=>
ld1 KI p1 w5 fun x7=>
ld1 KI (p1.add 2) w5 fun x8=>
ld1 KI (p1.add 3) w5 fun x9=>
Ae prog F.Oi [iV (wrap .i64 ((wrap .i64 ((wrap .i64 (x6-x7))+x8))-x9)),iV 2] w5 true zB fun r10 w11=>
R ((r10.1.1,()),()) w11)
theorem Gw.ok{t0 t1 t2 t3:Int}{w:World}{R:TR r3'→WP}:Gw.wp t0 t1 t2 t3 w R→Ae prog F.Gw [.agg #[iV t0,iV t1,iV t2,iV t3]] w false r3' R:=
  oks Aa func185 .n
def Iw.wp(t0 t1 t2 t3:Int)(w:World)(R:TR r0'→WP):Prop:=
Bf [iV t0,iV t1,iV t2,iV t3] T.jL w fun p1 w2=>
ld1 KI p1 w2 fun x3=>
ld1 KI (p1.add 1) w2 fun x4=>
ld1 KI (p1.add 2) w2 fun x5=>
ld1 KI (p1.add 3) w2 fun x6=>
Ci (fun(self7:((Int)×Unit)→WP) (z8:(Int)×Unit) w9=> ∀_:Nat→Value,
Aj (decide (z8.1<4)) (
aiK [x3,x4,x5,x6] 4 z8.1 fun c10=>
Aj (decide (c10<0)) (
R ((false,()),()) w9) (
Aj (decide (c10>1125899906842624)) (
R ((false,()),()) w9) (
self7 (wrap .i64 (z8.1+1),()) w9))) (
ld1 KI (p1.add 3) w9 fun x11=>
ld1 KI p1 w9 fun x12=>
R ((decide (x11≥x12),()),()) w9)) (0,()) w2
theorem Iw.ok{t0 t1 t2 t3:Int}{w:World}{R:TR r0'→WP}:Iw.wp t0 t1 t2 t3 w R→Ae prog F.Iw [.agg #[iV t0,iV t1,iV t2,iV t3]] w false r0' R:=
  oks Aa func186 (.s .n (.s (.s .n (.lp [(14,(.i .i64))] .n)) .n))
def C9.wp(e0 e1 e2:Int)(w:World)(R:TR r0'→WP):Prop:=
Bf [iV e0,iV e1,iV e2] T.Du w fun p1 w2=>
ld1 KI p1 w2 fun x3=>
Aj (decide (x3≥0)) (
ld1 KI p1 w2 fun x4=>
Aj (decide (x4≤1125899906842624)) (
ld1 KI (p1.add 1) w2 fun x5=>
Aj (decide (x5≥(Int.negSucc 1125899906842623))) (
ld1 KI (p1.add 1) w2 fun x6=>
Aj (decide (x6≤1125899906842624)) (
ld1 KI (p1.add 2) w2 fun x7=>
Aj (decide (x7≥1)) (
ld1 KI (p1.add 2) w2 fun x8=>
R ((decide (x8≤63),()),()) w2) (
R ((false,()),()) w2)) (
R ((false,()),()) w2)) (
R ((false,()),()) w2)) (
R ((false,()),()) w2)) (
R ((false,()),()) w2)
theorem C9.ok{e0 e1 e2:Int}{w:World}{R:TR r0'→WP}:C9.wp e0 e1 e2 w R→Ae prog F.C9 [.agg #[iV e0,iV e1,iV e2]] w false r0' R:=
  oks Aa func187 .n
def Pz.wp(a b:Int)(w:World)(R:TR r0'→WP):Prop:=
R ((decide ((wrap .i16 (wrap .u16 (a-b)))>0),()),()) w
theorem Pz.ok{a b:Int}{w:World}{R:TR r0'→WP}:Pz.wp a b w R→Ae prog F.Pz [uV a,uV b] w false r0' R:=
  oks Aa func188 .n
def Gv.wp(t:Option Addr)(w:World)(R:TR Xm→WP):Prop:=
Bf [.pointer t] T.tH w fun p1 w2=>
R ((.func (.func F.Ea) #[] #[.pointer (some p1)],()),()) w2
theorem Gv.ok{t:Option Addr}{w:World}{R:TR Xm→WP}:Gv.wp t w R→Ae prog F.Gv [.pointer t] w false Xm R:=
  oks Aa func189 .n
def Xt.wp(drift:Int)(list:Option Addr×Nat×Nat)(w:World)(R:TR Aar→WP):Prop:=
Bf [iV 0,iV 0] T.Xi w fun p1 w2=>
Bf [iV 0,iV 0] T.Xi w2 fun p3 w4=>
Au [iV 0,iV 1] p3 0 w4 fun w5=>
Aj (decide ((list.2.1:Int)<2)) (
A8 [KI,KI] p3 0 w5 fun x6=>
Au [iV x6.1,iV x6.2.1] p1 0 w5 fun w7=>
A8 [KI,KI] p1 0 w7 fun x8=>
R ((x8.1,x8.2.1,()),()) w7) (
Aj (decide ((list.2.1:Int)>8)) (
A8 [KI,KI] p3 0 w5 fun x9=>
Au [iV x9.1,iV x9.2.1] p1 0 w5 fun w10=>
A8 [KI,KI] p1 0 w10 fun x11=>
R ((x11.1,x11.2.1,()),()) w10) (
Ci (fun(self12:((Int)×Unit)→WP) (z13:(Int)×Unit) w14=> ∀_:Nat→Value,
Aj (decide (z13.1<(list.2.1:Int))) (
Ny list.1 list.2.1 z13.1 fun a15=>
A8 Ig (a15.add (z13.1.toNat*3)) 0 w14 fun x16=>
Bf Vy T.Du w14 fun p17 w18=>
Au (encs Ig x16) p17 0 w18 fun w19=>
A8 Ig p17 0 w19 fun x20=>
Ae prog F.C9 [Sv Ig x20] w19 false r0' fun r21 w22=>
Aj (!r21.1.1) (
A8 [KI,KI] p3 0 w22 fun x23=>
Au [iV x23.1,iV x23.2.1] p1 0 w22 fun w24=>
A8 [KI,KI] p1 0 w24 fun x25=>
R ((x25.1,x25.2.1,()),()) w24) (
self12 (wrap .i64 (z13.1+1),()) w22)) (
Ae prog F.Rt [.slice list.1 list.2.1 list.2.2] w14 true lU fun r26 w27=>
Bf jR T.jS w27 fun p28 w29=>
Au (encs aU r26.1) p28 0 w29 fun w30=>
ld1 KI p28 w30 fun x31=>
ld1 KI (p28.add 4) w30 fun x32=>
ld1 KI (p28.add 1) w30 fun x33=>
ld1 KI (p28.add 1) w30 fun x34=>
Aj (!r26.2.1.1) (
A8 [KI,KI] p3 0 w30 fun x35=>
Au [iV x35.1,iV x35.2.1] p1 0 w30 fun w36=>
A8 [KI,KI] p1 0 w36 fun x37=>
R ((x37.1,x37.2.1,()),()) w36) (
Aj (decide ((wrap .i64 ((wrap .i64 (x31*x32))-(wrap .i64 (x33*x34))))<1)) (
A8 [KI,KI] p3 0 w30 fun x38=>
Au [iV x38.1,iV x38.2.1] p1 0 w30 fun w39=>
A8 [KI,KI] p1 0 w39 fun x40=>
R ((x40.1,x40.2.1,()),()) w39) (
ld1 KI p28 w30 fun x41=>
ld1 KI (p28.add 3) w30 fun x42=>
ld1 KI (p28.add 1) w30 fun x43=>
ld1 KI (p28.add 2) w30 fun x44=>
Ae prog F.Vr [iV drift] w30 false Aar fun r45 w46=>
Bf [iV 0,iV 0] T.Xi w46 fun p47 w48=>
Au [iV r45.1.1,iV r45.1.2.1] p47 0 w48 fun w49=>
Cc (fun(J50:((Bool)×Unit)→WP)=>
Aj (decide ((wrap .i64 ((wrap .i64 (x41*x42))-(wrap .i64 (x43*x44))))>0)) (
A8 [KI,KI] p47 0 w49 fun x53=>
Ae prog F.Td [.agg #[iV (wrap .i64 ((wrap .i64 (x41*x42))-(wrap .i64 (x43*x44)))),iV (wrap .i64 ((wrap .i64 (x31*x32))-(wrap .i64 (x33*x34))))],.agg #[iV x53.1,iV x53.2.1]] w49 false r0' fun r54 w55=>
J50 (r54.1.1,()) w55) (
J50 (false,()) w49)) (fun(z51:(Bool)×Unit) w52=> ∀_:Nat→Value,
Aj z51.1 (
A8 [KI,KI] p47 0 w52 fun x56=>
Au [iV x56.1,iV x56.2.1] p1 0 w52 fun w57=>
A8 [KI,KI] p1 0 w57 fun x58=>
R ((x58.1,x58.2.1,()),()) w57) (
Cc (fun(J59:((Bool)×Unit)→WP)=>
Aj (decide ((wrap .i64 ((wrap .i64 (x41*x42))-(wrap .i64 (x43*x44))))<0)) (
A8 [KI,KI] p47 0 w52 fun x62=>
Ae prog F.Td [.agg #[iV (wrap .i64 (0-(wrap .i64 ((wrap .i64 (x41*x42))-(wrap .i64 (x43*x44)))))),iV (wrap .i64 ((wrap .i64 (x31*x32))-(wrap .i64 (x33*x34))))],.agg #[iV x62.1,iV x62.2.1]] w52 false r0' fun r63 kJ=>
J59 (r63.1.1,()) kJ) (
J59 (false,()) w52)) (fun(z60:(Bool)×Unit) w61=> ∀_:Nat→Value,
Aj z60.1 (
ld1 KI p47 w61 fun x65=>
ld1 KI (p47.add 1) w61 fun x66=>
Au [iV (wrap .i64 (0-x65)),iV x66] p1 0 w61 fun w67=>
A8 [KI,KI] p1 0 w67 fun x68=>
R ((x68.1,x68.2.1,()),()) w67) (
Au [iV (wrap .i64 ((wrap .i64 (x41*x42))-(wrap .i64 (x43*x44)))),iV (wrap .i64 ((wrap .i64 (x31*x32))-(wrap .i64 (x33*x34))))] p1 0 w61 fun w69=>
A8 [KI,KI] p1 0 w69 fun x70=>
R ((x70.1,x70.2.1,()),()) w69)))))))) (0,()) w5))
theorem Xt.ok{drift:Int}{list:Option Addr×Nat×Nat}{w:World}{R:TR Aar→WP}:Xt.wp drift list w R→Ae prog F.Xt [iV drift,.slice list.1 list.2.1 list.2.2] w false Aar R:=
  oks Aa func190 (hs 3 (.s (.s .n (.lp [(25,(.i .i64))] .n)) (hs 5 (.s (.ct [(70,.b)] .n (.s .n (.ct [(81,.b)] .n .n))) .n))))
def Jr.wp(t:Option Addr)(w:World)(R:TR H7→WP):Prop:=
Ae prog F.Gv [.pointer t] w false Xm fun r1 w2=>
Ae prog F.F8 [r1.1.1] w2 false H7 fun r3 w4=>
R (((r3.1.1.1,r3.1.1.2.1,r3.1.1.2.2),()),()) w4
theorem Jr.ok{t:Option Addr}{w:World}{R:TR H7→WP}:Jr.wp t w R→Ae prog F.Jr [.pointer t] w false H7 R:=
  oks Aa func191 .n
def Ky.wp(t:Option Addr)(w:World)(R:TR r3'→WP):Prop:=
Bf [iV 0] T.int w fun p1 w2=>
Au [iV 0] p1 0 w2 fun w3=>
Ae prog F.Gv [.pointer t] w3 false Xm fun r4 w5=>
RfT prog r4.1.1 Us w5 (fun x6 k7 w8=>
Bf Vy T.Du w8 fun p14 w15=>
Au [iV x6.1.1,iV x6.1.2.1,iV x6.1.2.2.1] p14 0 w15 fun w16=>
k7 w16 fun go9 lv10 w11=>
ld1 KI p1 w11 fun x17=>
ld1 KI (p14.add 2) w11 fun x18=>
Au [iV (if x18>x17 then x18 else x17)] p1 0 w11 fun w19=>
go9 w19) (fun D12 w13=>
ld1 KI p1 w13 fun x20=>
tkK D12 w13 fun w21=>
R ((x20,()),()) w21) []
theorem Ky.ok{t:Option Addr}{w:World}{R:TR r3'→WP}:Ky.wp t w R→Ae prog F.Ky [.pointer t] w false r3' R:=
  oks Aa func192 (hs 2 (.s (.s .n (.rf [(true,[(.i .i64),(.i .i64),(.i .i64)])] .n .n)) .n))
def Jq.wp(s0 s1 ticks:Int)(w:World)(R:TR r3'→WP):Prop:=
Bf [iV s0,iV s1] T.Xi w fun p1 w2=>
ld1 KI p1 w2 fun x3=>
ld1 KI (p1.add 1) w2 fun x4=>
Ae prog F.Vl [iV x3,iV ticks,iV x4] w2 true Zz fun r5 w6=>
R ((r5.1.1,()),()) w6
theorem Jq.ok{s0 s1 ticks:Int}{w:World}{R:TR r3'→WP}:Jq.wp s0 s1 ticks w R→Ae prog F.Jq [.agg #[iV s0,iV s1],iV ticks] w false r3' R:=
  oks Aa func193 .n
def Yb.wp(a b:Int)(w:World)(R:TR r3'→WP):Prop:=
Ae prog F.Y7 [iV a,iV b] w true Zz fun r1 w2=>
Aj r1.2.1.1 (
R ((r1.1.1,()),()) w2) (
Aj (decide (b>0)) (
R ((9223372036854775807,()),()) w2) (
R (((Int.negSucc 9223372036854775807),()),()) w2))
theorem Yb.ok{a b:Int}{w:World}{R:TR r3'→WP}:Yb.wp a b w R→Ae prog F.Yb [iV a,iV b] w false r3' R:=
  oks Aa func194 .n
def Es.wp(t0 t1 t2 t3:Int)(w:World)(R:TR r0'→WP):Prop:=
Bf [iV t0,iV t1,iV t2,iV t3] T.Xh w fun p1 w2=>
ld1 KI p1 w2 fun x3=>
Aj (decide (x3≥0)) (
ld1 KI p1 w2 fun x4=>
Aj (decide (x4≤10)) (
ld1 KI (p1.add 1) w2 fun x5=>
Aj (decide (x5≥0)) (
ld1 KI (p1.add 1) w2 fun x6=>
Aj (decide (x6≤20)) (
ld1 KI (p1.add 2) w2 fun x7=>
Aj (decide (x7≥1)) (
ld1 KI (p1.add 2) w2 fun x8=>
Aj (decide (x8≤1000)) (
ld1 KI (p1.add 3) w2 fun x9=>
Aj (decide (x9≥1)) (
ld1 KI (p1.add 3) w2 fun x10=>
R ((decide (x10≤64),()),()) w2) (
R ((false,()),()) w2)) (
R ((false,()),()) w2)) (
R ((false,()),()) w2)) (
R ((false,()),()) w2)) (
R ((false,()),()) w2)) (
R ((false,()),()) w2)) (
R ((false,()),()) w2)
theorem Es.ok{t0 t1 t2 t3:Int}{w:World}{R:TR r0'→WP}:Es.wp t0 t1 t2 t3 w R→Ae prog F.Es [.agg #[iV t0,iV t1,iV t2,iV t3]] w false r0' R:=
  oks Aa func195 .n
def Ir.wp(t0 t1 t2 t3 rounds:Int)(w:World)(R:TR r3'→WP):Prop:=
Bf [iV t0,iV t1,iV t2,iV t3] T.Xh w fun p1 w2=>
Jg w2 fun w3=>
ld1 KI p1 w3 fun x4=>
A8 fH p1 0 w3 fun x5=>
Ae prog F.I7 [Sv fH x5,iV rounds] w3 false r3' fun r6 w7=>
Hold [hd 1 p1 w3] w7∧(
ld1 KI p1 w7 fun x8=>
A8 fH p1 0 w7 fun x9=>
Ae prog F.Es [Sv fH x9] w7 false r0' fun r10 w11=>
Aj (!r10.1.1) (
R ((0,()),()) w11) (
dF (wrap .i64 (1000-x8)) (
R ((wrap .i64 (Int.tdiv (wrap .i64 ((wrap .i64 ((wrap .i64 ((wrap .i64 (2*x4))*r6.1.1))+(wrap .i64 (1000-x8))))-1)) (wrap .i64 (1000-x8))),()),()) w11)))
theorem Ir.ok{t0 t1 t2 t3 rounds:Int}{w:World}{R:TR r3'→WP}:Ir.wp t0 t1 t2 t3 rounds w R→Ae prog F.Ir [.agg #[iV t0,iV t1,iV t2,iV t3],iV rounds] w false r3' R:=
  oks Aa func196 (.s .n (.s (.pl (ks [0,1,2,3,4] (.ef 5 [3] (.tk 6 (.tk 7 .z))))) .n))
def Jj.wp(r:Option Addr)(w:World)(R:TR Xm→WP):Prop:=
Bf [.pointer r] T.gJ w fun p1 w2=>
R ((.func (.func F.Ei) #[] #[.pointer (some p1)],()),()) w2
theorem Jj.ok{r:Option Addr}{w:World}{R:TR Xm→WP}:Jj.wp r w R→Ae prog F.Jj [.pointer r] w false Xm R:=
  oks Aa func200 .n
def Lj.wp(f:Option Addr)(local_:Int)(w:World)(R:TR xA→WP):Prop:=
Ae prog F.Bz [.pointer f] w false r0' fun r1 w2=>
Aj (!r1.1.1) (
R ((0,()),(0,()),(9,()),()) w2) (
Ae prog F.N8 [iV local_] w2 false r0' fun r3 w4=>
Aj (!r3.1.1) (
R ((0,()),(0,()),(8,()),()) w4) (
Ae prog F.Eu [.pointer f] w4 false r0' fun r5 w6=>
Aj r5.1.1 (
R ((local_,()),(0,()),(0,()),()) w6) (
Cc (fun(J7:((Addr)×Unit)→WP)=>
Jg w6 fun w10=>
Aq f fun a11=>
ld1 KI (a11.add 2) w10 fun x12=>
Aq f fun a13=>
ld1 .sl (a13.add 3) w10 fun x14=>
(
Ae prog F.V9 [iV x12,.slice x14.1 x14.2.1 x14.2.2] w10 true lU fun Zb w16=>
Hold [hd 7 (a13.add 3) w10,hd 3 (a11.add 2) w10] w16∧(
Bf jR T.bW w16 fun p17 w18=>
Hold [hd 7 (a13.add 3) w10,hd 3 (a11.add 2) w10] w18∧(
Au (encs aU Zb.1) p17 0 w18 fun w19=>
Hold [] w19∧(
J7 (p17,()) w19))))∧(
Bf jR T.bW w10 fun p20 w21=>
Hold [hd 7 (a13.add 3) w10,hd 3 (a11.add 2) w10] w21∧(
Ae prog F.V9 [iV x12,.slice x14.1 x14.2.1 x14.2.2] w21 true lU fun r22 w23=>
Hold [] w23∧(
Au (encs aU r22.1) p20 0 w23 fun w24=>
Hold [] w24∧(
J7 (p20,()) w24))))) (fun(z8:(Addr)×Unit) w9=> ∀_:Nat→Value,
A8 aU z8.1 0 w9 fun x25=>
Ae prog F.Rl [Sv aU x25,iV local_] w9 true Zz fun r26 w27=>
Aj (!r26.2.1.1) (
R ((0,()),(0,()),(8,()),()) w27) (
Jg w27 fun w28=>
ld1 KI (z8.1.add 4) w28 fun x29=>
R ((r26.1.1,()),(x29,()),(0,()),()) w28)))))
theorem Lj.ok{f:Option Addr}{local_:Int}{w:World}{R:TR xA→WP}:Lj.wp f local_ w R→Ae prog F.Lj [.pointer f,iV local_] w true xA R:=
  oks Aa func201 (hs 4 (.ct [(7,.a)] (.pl (ks [0,1,2,3,4,5,6,7] (.two 8 12 (ks [9,10,11] (.ef 12 [] (.ef 13 [3,7] (.tk 14 .z)))) (.ef 8 [3,7] (ks [9,10,11] (.ef 13 [] (.tk 14 .z))))))) (hs 2 (.s (.pl (ks [0,1,2,3,4,5] .z)) .n))))
def Ju.wp(e:Option Addr)(root boot seq:Int)(w:World)(R:TR r3'→WP):Prop:=
Aj (decide (root<0)) (
R ((0,()),()) w) (
Aq e fun a1=>
ld1 KI a1 w fun x2=>
Aj (decide (root≥x2)) (
R ((0,()),()) w) (
Cc (fun(J3:Unit→WP)=>
Jg w fun w6=>
Aq e fun a7=>
ld1 KI (a7.add 5) w6 fun x8=>
Aq e fun a9=>
ld1 KI a9 w6 fun x10=>
Aj (x8==x10) (
Aq e fun a11=>
ld1 KI (a11.add 7) w6 fun x12=>
Aj (decide (x12>0)) (
R ((0,()),()) w6) (
J3 (()) w6)) (
J3 (()) w6)) (fun(z4:Unit) w5=> ∀_:Nat→Value,
Cc (fun(J13:Unit→WP)=>
Jg w5 fun w16=>
Aq e fun a17=>
ld1 KI (a17.add 5) w16 fun x18=>
Aj (decide (x18≥0)) (
Aq e fun a19=>
ld1 KI (a19.add 5) w16 fun x20=>
Aq e fun a21=>
ld1 KI a21 w16 fun x22=>
Aj (x20 !=x22) (
Aq e fun a23=>
ld1 KI (a23.add 5) w16 fun x24=>
Aj (decide (root>x24)) (
R ((0,()),()) w16) (
J13 (()) w16)) (
J13 (()) w16)) (
J13 (()) w16)) (fun(z14:Unit) w15=> ∀_:Nat→Value,
Cc (fun(J25:Unit→WP)=>
Jg w15 fun w28=>
Aq e fun a29=>
Ny (some (a29.add 8)) 64 root fun a30=>
ld1 .b (a30.add (root.toNat*1)) w28 fun x31=>
Aj x31 (
Aq e fun a32=>
Ny (some (a32.add 72)) 64 root fun a33=>
ld1 KU (a33.add (root.toNat*1)) w28 fun x34=>
Aq e fun a35=>
Ny (some (a35.add 136)) 64 root fun a36=>
ld1 KU (a36.add (root.toNat*1)) w28 fun x37=>
Ae prog F.Uf [uV boot,uV seq,uV x34,uV x37] w28 false r0' fun r38 w39=>
Hold [hd 5 (a30.add (root.toNat*1)) w28] w39∧(
Aj (!r38.1.1) (
R ((0,()),()) w39) (
J25 (()) w39))) (
J25 (()) w28)) (fun(z26:Unit) w27=> ∀_:Nat→Value,
Cc (fun(J40:((Int)×Unit)→WP)=>
Aq e fun a43=>
ld1 KI (a43.add 5) w27 fun x44=>
Aj (x44 !=root) (
J40 (2,()) w27) (
Aq e fun a45=>
Ny (some (a45.add 8)) 64 root fun a46=>
ld1 .b (a46.add (root.toNat*1)) w27 fun x47=>
Aj (!x47) (
J40 (2,()) w27) (
Aq e fun a48=>
Ny (some (a48.add 72)) 64 root fun a49=>
ld1 KU (a49.add (root.toNat*1)) w27 fun x50=>
Aj (x50 !=boot) (
J40 (2,()) w27) (
J40 (1,()) w27)))) (fun(z41:(Int)×Unit) w42=> ∀_:Nat→Value,
Aq e fun a51=>
Ny (some (a51.add 8)) 64 root fun a52=>
Au [.bool true] (a52.add (root.toNat*1)) 0 w42 fun w53=>
Aq e fun a54=>
Ny (some (a54.add 72)) 64 root fun a55=>
Au [uV boot] (a55.add (root.toNat*1)) 0 w53 fun w56=>
Aq e fun a57=>
Ny (some (a57.add 136)) 64 root fun a58=>
Au [uV seq] (a58.add (root.toNat*1)) 0 w56 fun w59=>
Aq e fun a60=>
Au [iV root] (a60.add 5) 0 w59 fun w61=>
Aq e fun a62=>
Au [iV 0] (a62.add 6) 0 w61 fun w63=>
Aq e fun a64=>
Au [iV 0] (a64.add 7) 0 w63 fun w65=>
R ((z41.1,()),()) w65))))))
theorem Ju.ok{e:Option Addr}{root boot seq:Int}{w:World}{R:TR r3'→WP}:Ju.wp e root boot seq w R→Ae prog F.Ju [.pointer e,iV root,uV boot,uV seq] w false r3' R:=
  oks Aa func202 (hs 2 (.ct [] (.s (.pl (ks [0,1,2,3,4,5,6,7,8,9,10,11,12,13,14,15] .z)) .n) (.ct [] (.s (.pl (ks [0,1,2,3,4,5,6,7,8,9,10,11,12,13,14,15,16,17,18,19,20,21,22,23] .z)) .n) (.ct [] (.s (.pl (ks [0,1,2,3,4,5,6,7,8,9,10,11,12,13,14,15,16,17,18,19,20] (.ef 21 [14,20] (.tk 22 (.tk 23 .z))))) .n) (.s .n (.ct [(9,(.i .i64))] .n .n))))))
def Uw.wp(list:Option Addr×Nat×Nat)(e0 e1 e2:Int)(w:World)(R:TR iT→WP):Prop:=
Bf [iV e0,iV e1,iV e2] T.D7 w fun p1 w2=>
A8 Ig p1 0 w2 fun x3=>
Ae prog F.Nz [Sv Ig x3] w2 false r0' fun r4 w5=>
Aj (!r4.1.1) (
R (((list.1,list.2.1,list.2.2),()),(1,()),()) w5) (
Cc (fun(J6:Unit→WP)=>
Jg w5 fun w9=>
Aj (decide ((list.2.1:Int)>0)) (
ld1 KI p1 w9 fun x10=>
Ny list.1 list.2.1 (wrap .i64 ((list.2.1:Int)-1)) fun a11=>
ld1 KI (a11.add ((wrap .i64 ((list.2.1:Int)-1)).toNat*3)) w9 fun x12=>
Aj (decide (x10≤x12)) (
R (((list.1,list.2.1,list.2.2),()),(12,()),()) w9) (
J6 (()) w9)) (
J6 (()) w9)) (fun(z7:Unit) w8=> ∀_:Nat→Value,
Cc (fun(J13:((Option Addr×Nat×Nat)×Unit)→WP)=>
Jg w8 fun w16=>
A8 Ig p1 0 w16 fun x17=>
(
Bf [] T.D7 w16 fun p18 w19=>
Hold [hd 3 (p1.add 0) w16,hd 3 (p1.add 1) w16,hd 3 (p1.add 2) w16] w19∧(
(
L9 ((Builtin.append_ #[T.Aw,T.Aw] T.Aw #[.slice (some p18) 0 0,.slice list.1 list.2.1 list.2.2]).run prog w19) fun y20 w21=>
Hold [hd 3 (p1.add 0) w16,hd 3 (p1.add 1) w16,hd 3 (p1.add 2) w16] w21∧(
Bf (encs Ig x17) T.D7 w21 fun p22 w23=>
Hold [hd 3 (p1.add 0) w16,hd 3 (p1.add 1) w16,hd 3 (p1.add 2) w16] w23∧(
L9 ((Builtin.append_ #[T.Aw,T.Aw] T.Aw #[.slice y20.1 y20.2.1 y20.2.2,.slice (some p22) 1 1]).run prog w23) fun y24 w25=>
Hold [hd 3 (p1.add 0) w16,hd 3 (p1.add 1) w16,hd 3 (p1.add 2) w16] w25∧(
J13 ((y24.1,y24.2.1,y24.2.2),()) w25))))∧(
Bf (encs Ig x17) T.D7 w19 fun p26 w27=>
Hold [hd 3 (p1.add 0) w16,hd 3 (p1.add 1) w16,hd 3 (p1.add 2) w16] w27∧(
L9 ((Builtin.append_ #[T.Aw,T.Aw] T.Aw #[.slice (some p18) 0 0,.slice list.1 list.2.1 list.2.2]).run prog w27) fun y28 w29=>
Hold [hd 3 (p1.add 0) w16,hd 3 (p1.add 1) w16,hd 3 (p1.add 2) w16] w29∧(
L9 ((Builtin.append_ #[T.Aw,T.Aw] T.Aw #[.slice y28.1 y28.2.1 y28.2.2,.slice (some p26) 1 1]).run prog w29) fun y30 w31=>
Hold [hd 3 (p1.add 0) w16,hd 3 (p1.add 1) w16,hd 3 (p1.add 2) w16] w31∧(
J13 ((y30.1,y30.2.1,y30.2.2),()) w31))))))∧(
Bf (encs Ig x17) T.D7 w16 fun p32 w33=>
Hold [hd 3 (p1.add 0) w16,hd 3 (p1.add 1) w16,hd 3 (p1.add 2) w16] w33∧(
Bf [] T.D7 w33 fun p34 w35=>
Hold [hd 3 (p1.add 0) w16,hd 3 (p1.add 1) w16,hd 3 (p1.add 2) w16] w35∧(
L9 ((Builtin.append_ #[T.Aw,T.Aw] T.Aw #[.slice (some p34) 0 0,.slice list.1 list.2.1 list.2.2]).run prog w35) fun y36 w37=>
Hold [hd 3 (p1.add 0) w16,hd 3 (p1.add 1) w16,hd 3 (p1.add 2) w16] w37∧(
L9 ((Builtin.append_ #[T.Aw,T.Aw] T.Aw #[.slice y36.1 y36.2.1 y36.2.2,.slice (some p32) 1 1]).run prog w37) fun y38 w39=>
Hold [hd 3 (p1.add 0) w16,hd 3 (p1.add 1) w16,hd 3 (p1.add 2) w16] w39∧(
J13 ((y38.1,y38.2.1,y38.2.2),()) w39)))))) (fun(z14:(Option Addr×Nat×Nat)×Unit) w15=> ∀_:Nat→Value,
Aj (decide ((z14.1.2.1:Int)>8)) (
sQ (wrap .i64 ((z14.1.2.1:Int)-8)) (z14.1.2.1:Int) z14.1.2.2 (
R (((dG z14.1.1 z14.1.2.2 (Int.toNat (wrap .i64 ((z14.1.2.1:Int)-8))) 3,(Int.toNat (z14.1.2.1:Int))-(Int.toNat (wrap .i64 ((z14.1.2.1:Int)-8))),z14.1.2.2-Int.toNat (wrap .i64 ((z14.1.2.1:Int)-8))),()),(0,()),()) w15)) (
R (((z14.1.1,z14.1.2.1,z14.1.2.2),()),(0,()),()) w15))))
theorem Uw.ok{list:Option Addr×Nat×Nat}{e0 e1 e2:Int}{w:World}{R:TR iT→WP}:Uw.wp list e0 e1 e2 w R→Ae prog F.Uw [.slice list.1 list.2.1 list.2.2,.agg #[iV e0,iV e1,iV e2]] w true iT R:=
  oks Aa func203 (hs 3 (.ct [] (.s (.pl (ks [0,1,2,3,4,5,6,7,8,9,10,11,12] .z)) .n) (.ct [(7,.sl)] (.pl (.tk 1 (.tk 3 (.two 0 4 (.two 2 4 (.ef 4 [] (.ef 5 [] (.tk 6 .z))) (.ef 2 [] (.ef 5 [] (.tk 6 .z)))) (.ef 0 [] (.ef 2 [] (.ef 5 [] (.tk 6 .z)))))))) .n)))
def Va.wp(sent got back came:Int)(w:World)(R:TR r0'→WP):Prop:=
Aj (decide (sent≥0)) (
Aj (decide (sent≤1125899906842624)) (
Aj (decide (got≥0)) (
Aj (decide (got≤1125899906842624)) (
Aj (decide (back≥0)) (
Aj (decide (back≤1125899906842624)) (
Aj (decide (came≥0)) (
Aj (decide (came≤1125899906842624)) (
R ((decide (came≥sent),()),()) w) (
R ((false,()),()) w)) (
R ((false,()),()) w)) (
R ((false,()),()) w)) (
R ((false,()),()) w)) (
R ((false,()),()) w)) (
R ((false,()),()) w)) (
R ((false,()),()) w)) (
R ((false,()),()) w)
theorem Va.ok{sent got back came:Int}{w:World}{R:TR r0'→WP}:Va.wp sent got back came w R→Ae prog F.Va [iV sent,iV got,iV back,iV came] w false r0' R:=
  oks Aa func204 .n
def Pv.wp(sent got back came:Int)(w:World)(R:TR r3'→WP):Prop:=
Ae prog F.Oe [iV (wrap .i64 ((wrap .i64 ((wrap .i64 (got-sent))+back))-came)),iV 2] w true dH fun r1 w2=>
R ((r1.1.1,()),()) w2
theorem Pv.ok{sent got back came:Int}{w:World}{R:TR r3'→WP}:Pv.wp sent got back came w R→Ae prog F.Pv [iV sent,iV got,iV back,iV came] w false r3' R:=
  oks Aa func205 .n
def Nz.wp(e0 e1 e2:Int)(w:World)(R:TR r0'→WP):Prop:=
Bf [iV e0,iV e1,iV e2] T.D7 w fun p1 w2=>
ld1 KI p1 w2 fun x3=>
Aj (decide (x3≥0)) (
ld1 KI p1 w2 fun x4=>
Aj (decide (x4≤1125899906842624)) (
ld1 KI (p1.add 1) w2 fun x5=>
Aj (decide (x5≥(Int.negSucc 1125899906842623))) (
ld1 KI (p1.add 1) w2 fun x6=>
Aj (decide (x6≤1125899906842624)) (
ld1 KI (p1.add 2) w2 fun x7=>
Aj (decide (x7≥1)) (
ld1 KI (p1.add 2) w2 fun x8=>
R ((decide (x8≤63),()),()) w2) (
R ((false,()),()) w2)) (
R ((false,()),()) w2)) (
R ((false,()),()) w2)) (
R ((false,()),()) w2)) (
R ((false,()),()) w2)
theorem Nz.ok{e0 e1 e2:Int}{w:World}{R:TR r0'→WP}:Nz.wp e0 e1 e2 w R→Ae prog F.Nz [.agg #[iV e0,iV e1,iV e2]] w false r0' R:=
  oks Aa func206 .n
def Oc.wp(a b:Int)(w:World)(R:TR r0'→WP):Prop:=
dF 65536 (
Aj (decide ((Int.tmod (wrap .i64 ((wrap .i64 ((wrap .i64 a)+65536))-(wrap .i64 b))) 65536)≥1)) (
R ((decide ((Int.tmod (wrap .i64 ((wrap .i64 ((wrap .i64 a)+65536))-(wrap .i64 b))) 65536)≤32767),()),()) w) (
R ((false,()),()) w))
theorem Oc.ok{a b:Int}{w:World}{R:TR r0'→WP}:Oc.wp a b w R→Ae prog F.Oc [uV a,uV b] w false r0' R:=
  oks Aa func207 .n
def Vj.wp(p0 p1 p2 p3 p4 p5 p6 p7 p8 p9 p10 p11 p12 p13:Int)(w:World)(R:TR bF→WP):Prop:=
Bf [iV p0,iV p1,iV p2,iV p3,uV p4,uV p5,iV p6,iV p7,iV p8,iV p9,iV p10,iV p11,iV p12,iV p13] T.Dn w fun p14 w15=>
Bf z0' T.Dn w15 fun p16 w17=>
ld1 KI p14 w17 fun x18=>
Aj (x18==1) (
ld1 KI (p14.add 1) w17 fun x19=>
ld1 KI (p14.add 3) w17 fun x20=>
ld1 KU (p14.add 4) w17 fun x21=>
ld1 KU (p14.add 5) w17 fun x22=>
ld1 KI (p14.add 6) w17 fun x23=>
ld1 KI (p14.add 7) w17 fun x24=>
Au [iV 1,iV x19,iV 0,iV x20,uV x21,uV x22,iV x23,iV x24,iV 0,iV 0,iV 0,iV 0,iV 0,iV 0] p16 0 w17 fun w25=>
A8 k2' p16 0 w25 fun x26=>
R (x26,()) w25) (
Aj (x18==2) (
ld1 KI (p14.add 1) w17 fun x27=>
ld1 KI (p14.add 8) w17 fun x28=>
Au [iV 2,iV x27,iV 0,iV 0,uV 0,uV 0,iV 0,iV 0,iV x28,iV 0,iV 0,iV 0,iV 0,iV 0] p16 0 w17 fun w29=>
A8 k2' p16 0 w29 fun x30=>
R (x30,()) w29) (
Aj (x18==3) (
ld1 KI (p14.add 1) w17 fun x31=>
Au [iV 3,iV x31,iV 0,iV 0,uV 0,uV 0,iV 0,iV 0,iV 0,iV 0,iV 0,iV 0,iV 0,iV 0] p16 0 w17 fun w32=>
A8 k2' p16 0 w32 fun x33=>
R (x33,()) w32) (
Aj (x18==4) (
ld1 KI (p14.add 1) w17 fun x34=>
ld1 KI (p14.add 2) w17 fun x35=>
ld1 KI (p14.add 9) w17 fun x36=>
Au [iV 4,iV x34,iV x35,iV 0,uV 0,uV 0,iV 0,iV 0,iV 0,iV x36,iV 0,iV 0,iV 0,iV 0] p16 0 w17 fun w37=>
A8 k2' p16 0 w37 fun x38=>
R (x38,()) w37) (
Aj (x18==5) (
ld1 KI (p14.add 1) w17 fun x39=>
ld1 KI (p14.add 2) w17 fun x40=>
ld1 KI (p14.add 9) w17 fun x41=>
ld1 KI (p14.add 10) w17 fun x42=>
ld1 KI (p14.add 11) w17 fun x43=>
ld1 KI (p14.add 3) w17 fun x44=>
ld1 KU (p14.add 4) w17 fun x45=>
ld1 KI (p14.add 6) w17 fun x46=>
Au [iV 5,iV x39,iV x40,iV x44,uV x45,uV 0,iV x46,iV 0,iV 0,iV x41,iV x42,iV x43,iV 0,iV 0] p16 0 w17 fun w47=>
A8 k2' p16 0 w47 fun x48=>
R (x48,()) w47) (
Aj (x18==6) (
ld1 KI (p14.add 1) w17 fun x49=>
ld1 KU (p14.add 5) w17 fun x50=>
ld1 KI (p14.add 3) w17 fun x51=>
ld1 KU (p14.add 4) w17 fun x52=>
ld1 KI (p14.add 12) w17 fun x53=>
ld1 KI (p14.add 13) w17 fun x54=>
Au [iV 6,iV x49,iV 0,iV x51,uV x52,uV x50,iV 0,iV 0,iV 0,iV 0,iV 0,iV 0,iV x53,iV x54] p16 0 w17 fun w55=>
A8 k2' p16 0 w55 fun x56=>
R (x56,()) w55) (
Au z0' p16 0 w17 fun w57=>
A8 k2' p16 0 w57 fun x58=>
R (x58,()) w57))))))
theorem Vj.ok{p0 p1 p2 p3 p4 p5 p6 p7 p8 p9 p10 p11 p12 p13:Int}{w:World}{R:TR bF→WP}:Vj.wp p0 p1 p2 p3 p4 p5 p6 p7 p8 p9 p10 p11 p12 p13 w R→Ae prog F.Vj [.agg #[iV p0,iV p1,iV p2,iV p3,uV p4,uV p5,iV p6,iV p7,iV p8,iV p9,iV p10,iV p11,iV p12,iV p13]] w false bF R:=
  oks Aa func208 .n
def X0.wp(sum:Int)(b:Option Addr×Nat×Nat)(w:World)(R:TR Vw→WP):Prop:=
Ci (fun(self1:((Int)×(Int)×Unit)→WP) (z2:(Int)×(Int)×Unit) w3=> ∀_:Nat→Value,
Aj (decide (z2.2.1<(b.2.1:Int))) (
Ny b.1 b.2.1 z2.2.1 fun a4=>
ld1 (.i .u8) (a4.add (z2.2.1.toNat*1)) w3 fun x5=>
Ae prog F.Xr [uV z2.1,.int .u8 x5] w3 false Vw fun r6 w7=>
self1 (r6.1.1,wrap .i64 (z2.2.1+1),()) w7) (
R ((z2.1,()),()) w3)) (sum,0,()) w
theorem X0.ok{sum:Int}{b:Option Addr×Nat×Nat}{w:World}{R:TR Vw→WP}:X0.wp sum b w R→Ae prog F.X0 [uV sum,.slice b.1 b.2.1 b.2.2] w false Vw R:=
  oks Aa func209 (.s .n (.s (.s .n (.lp [(0,(.i .u16)),(9,(.i .i64))] .n)) .n))
def Ns.wp(e:Option Addr)(root:Int)(w:World)(R:TR r0'→WP):Prop:=
Cc (fun(J1:((Bool)×Unit)→WP)=>
Aj (decide (root<0)) (
J1 (true,()) w) (
Aq e fun a4=>
ld1 KI a4 w fun x5=>
J1 (decide (root≥x5),()) w)) (fun(z2:(Bool)×Unit) w3=> ∀_:Nat→Value,
Aj z2.1 (
R ((false,()),()) w3) (
Ae prog F.Bc [.pointer e] w3 false r0' fun r6 w7=>
Aj r6.1.1 (
Aq e fun a8=>
ld1 KI (a8.add 7) w7 fun x9=>
R (((x9==0),()),()) w7) (
Aq e fun a10=>
ld1 KI (a10.add 5) w7 fun x11=>
Aj (decide (x11<0)) (
R ((true,()),()) w7) (
Aq e fun a12=>
ld1 KI (a12.add 5) w7 fun x13=>
R ((decide (root≤x13),()),()) w7))))
theorem Ns.ok{e:Option Addr}{root:Int}{w:World}{R:TR r0'→WP}:Ns.wp e root w R→Ae prog F.Ns [.pointer e,iV root] w false r0' R:=
  oks Aa func210 (.s .n (.s (.ct [(5,.b)] .n .n) .n))
def Kw.wp(m0 m1 old0 old1:Int)(w:World)(R:TR r0'→WP):Prop:=
Bf [uV m0,uV m1] T.Ti w fun p1 w2=>
Bf [uV old0,uV old1] T.Ti w2 fun p3 w4=>
ld1 KU p1 w4 fun x5=>
ld1 KU p3 w4 fun x6=>
Ae prog F.Pz [uV x5,uV x6] w4 false r0' fun r7 w8=>
Aj r7.1.1 (
R ((true,()),()) w8) (
ld1 KU p1 w8 fun x9=>
ld1 KU p3 w8 fun x10=>
Aj (x9==x10) (
ld1 KU (p1.add 1) w8 fun x11=>
ld1 KU (p3.add 1) w8 fun x12=>
Ae prog F.Pz [uV x11,uV x12] w8 false r0' fun r13 w14=>
R ((r13.1.1,()),()) w14) (
R ((false,()),()) w8))
theorem Kw.ok{m0 m1 old0 old1:Int}{w:World}{R:TR r0'→WP}:Kw.wp m0 m1 old0 old1 w R→Ae prog F.Kw [.agg #[uV m0,uV m1],.agg #[uV old0,uV old1]] w false r0' R:=
  oks Aa func211 .n
def Ld.wp(t:Option Addr)(w:World)(R:TR fC→WP):Prop:=
Bf Vy T.Du w fun p1 w2=>
Ae prog F.Dk [.pointer t] w2 false r3' fun r3 w4=>
Aj (r3.1.1==0) (
Au Vy p1 0 w4 fun w5=>
A8 Ig p1 0 w5 fun x6=>
R (x6,(false,()),()) w5) (
Jg w4 fun w7=>
Aq t fun a8=>
ld1 .sl a8 w7 fun x9=>
Aq t fun a10=>
ld1 .sl a10 w7 fun x11=>
Ny x9.1 x9.2.1 (wrap .i64 ((x11.2.1:Int)-1)) fun a12=>
A8 Ig (a12.add ((wrap .i64 ((x11.2.1:Int)-1)).toNat*3)) 0 w7 fun x13=>
Au (encs Ig x13) p1 0 w7 fun w14=>
Hold [] w14∧(
A8 Ig p1 0 w14 fun x15=>
R (x15,(true,()),()) w14))
theorem Ld.ok{t:Option Addr}{w:World}{R:TR fC→WP}:Ld.wp t w R→Ae prog F.Ld [.pointer t] w true fC R:=
  oks Aa func212 (hs 2 (.s (.pl (ks [0,1,2,3,4,5,6,7,8,9,10,11] (.ef 12 [3,7,11] (.tk 13 .z)))) .n))
def Df.wp(s:Option Addr×Nat×Nat)(w:World)(R:TR H7→WP):Prop:=
Aj (Option.isNone s.1) (
R (((none,0,0),()),()) w) (
Bf [] T.Du w fun p1 w2=>
L9 ((Builtin.append_ #[T.Ox,T.Ox] T.Ox #[.slice (some p1) 0 0,.slice s.1 s.2.1 s.2.2]).run prog w2) fun y3 w4=>
R (((y3.1,y3.2.1,y3.2.2),()),()) w4)
theorem Df.ok{s:Option Addr×Nat×Nat}{w:World}{R:TR H7→WP}:Df.wp s w R→Ae prog F.Df [.slice s.1 s.2.1 s.2.2] w false H7 R:=
  oks Aa func213 .n
def Ea.wp(yield:Nat)(c_cap0:Addr)(w:World)(R:TR []→WP):Prop:=
ld1 .p c_cap0 w fun x1=>
Ae prog F.Dk [.pointer x1] w false r3' fun r2 w3=>
Ci (fun(self4:((Int)×Unit)→WP) (z5:(Int)×Unit) w6=> ∀_:Nat→Value,
Aj (decide (z5.1<r2.1.1)) (
ld1 .p c_cap0 w6 fun x7=>
Aq x7 fun a8=>
ld1 .sl a8 w6 fun x9=>
Ny x9.1 x9.2.1 z5.1 fun a10=>
A8 Ig (a10.add (z5.1.toNat*3)) 0 w6 fun x11=>
yiS prog yield [Sv Ig x11] w6 fun b12 w13=>
Aj (!b12) (
R (()) w13) (
self4 (wrap .i64 (z5.1+1),()) w13)) (
R (()) w6)) (0,()) w3
theorem Ea.ok{yield:Nat}{c_cap0:Addr}{w:World}{R:TR []→WP}:Ea.wp yield c_cap0 w R→Ae prog F.Ea [.func (.yield yield) #[] #[],.pointer (some c_cap0)] w true [] R:=
  oks Aa func214 (.s .n (.lp [(6,(.i .i64))] .n))
def Rt.wp(list:Option Addr×Nat×Nat)(w:World)(R:TR lU→WP):Prop:=
Bf jR T.jS w fun p1 w2=>
Bf jR T.jS w2 fun p3 w4=>
Ci (fun(self5:((Int)×Unit)→WP) (z6:(Int)×Unit) w7=> ∀_:Nat→Value,
Aj (decide (z6.1<(list.2.1:Int))) (
Ny list.1 list.2.1 z6.1 fun a8=>
A8 Ig (a8.add (z6.1.toNat*3)) 0 w7 fun x9=>
Bf Vy T.Du w7 fun p10 w11=>
Au (encs Ig x9) p10 0 w11 fun w12=>
Jg w12 fun w13=>
ld1 KI p10 w13 fun x14=>
Ny list.1 list.2.1 0 fun a15=>
ld1 KI (a15.add ((0:Int).toNat*3)) w13 fun x16=>
ld1 KI (p10.add 1) w13 fun x17=>
Ny list.1 list.2.1 0 fun a18=>
ld1 KI ((a18.add ((0:Int).toNat*3)).add 1) w13 fun x19=>
Aj (decide ((wrap .i64 (x14-x16))<0)) (
Au jR p1 0 w13 fun w20=>
A8 aU p1 0 w20 fun x21=>
R (x21,(false,()),()) w20) (
Aj (decide ((wrap .i64 (x14-x16))>4194304)) (
Au jR p1 0 w13 fun w22=>
A8 aU p1 0 w22 fun x23=>
R (x23,(false,()),()) w22) (
Aj (decide ((wrap .i64 (x17-x19))<(Int.negSucc 4194303))) (
Au jR p1 0 w13 fun w24=>
A8 aU p1 0 w24 fun x25=>
R (x25,(false,()),()) w24) (
Aj (decide ((wrap .i64 (x17-x19))>4194304)) (
Au jR p1 0 w13 fun w26=>
A8 aU p1 0 w26 fun x27=>
R (x27,(false,()),()) w26) (
Ae prog F.Ol [.pointer (some p3),iV (wrap .i64 (x14-x16)),iV (wrap .i64 (x17-x19))] w13 true [] fun r28 w29=>
self5 (wrap .i64 (z6.1+1),()) w29))))) (
A8 aU p3 0 w7 fun x30=>
Au (encs aU x30) p1 0 w7 fun w31=>
A8 aU p1 0 w31 fun x32=>
R (x32,(true,()),()) w31)) (0,()) w4
theorem Rt.ok{list:Option Addr×Nat×Nat}{w:World}{R:TR lU→WP}:Rt.wp list w R→Ae prog F.Rt [.slice list.1 list.2.1 list.2.2] w true lU R:=
  oks Aa func215 (hs 2 (.s (.s .n (.lp [(11,(.i .i64))] (hs 2 (.s (.s .n (.s (.pl (ks [0,1,2,3,4,5,6,7,8,9,10,11,12,13,14,15] .z)) .n)) .n)))) .n))
def Vr.wp(drift:Int)(w:World)(R:TR Aar→WP):Prop:=
Bf [iV 0,iV 0] T.Xi w fun p1 w2=>
Ae prog F.Qs [iV drift,iV 0,iV 10] w2 false r3' fun r3 w4=>
Au [iV (wrap .i64 (2*r3.1.1)),iV (wrap .i64 (1000-r3.1.1))] p1 0 w4 fun w5=>
A8 [KI,KI] p1 0 w5 fun x6=>
R ((x6.1,x6.2.1,()),()) w5
theorem Vr.ok{drift:Int}{w:World}{R:TR Aar→WP}:Vr.wp drift w R→Ae prog F.Vr [iV drift] w false Aar R:=
  oks Aa func216 .n
def Td.wp(a0 a1 b0 b1:Int)(w:World)(R:TR r0'→WP):Prop:=
Bf [iV a0,iV a1] T.Xi w fun p1 w2=>
Bf [iV b0,iV b1] T.Xi w2 fun p3 w4=>
ld1 KI p1 w4 fun x5=>
ld1 KI (p3.add 1) w4 fun x6=>
Ae prog F.bits_Mul64 [.int .u64 (wrap .u64 x5),.int .u64 (wrap .u64 x6)] w4 true uH fun r7 w8=>
ld1 KI p3 w8 fun x9=>
ld1 KI (p1.add 1) w8 fun x10=>
Ae prog F.bits_Mul64 [.int .u64 (wrap .u64 x9),.int .u64 (wrap .u64 x10)] w8 true uH fun r11 w12=>
Aj (decide (r7.1.1>r11.1.1)) (
R ((true,()),()) w12) (
Aj (r7.1.1==r11.1.1) (
R ((decide (r7.2.1.1>r11.2.1.1),()),()) w12) (
R ((false,()),()) w12))
theorem Td.ok{a0 a1 b0 b1:Int}{w:World}{R:TR r0'→WP}:Td.wp a0 a1 b0 b1 w R→Ae prog F.Td [.agg #[iV a0,iV a1],.agg #[iV b0,iV b1]] w false r0' R:=
  oks Aa func217 .n
def F8.wp(seq:Value)(w:World)(R:TR H7→WP):Prop:=
Ae prog F.Bl [.slice none 0 0,seq] w false H7 fun r1 w2=>
R (((r1.1.1.1,r1.1.1.2.1,r1.1.1.2.2),()),()) w2
theorem F8.ok{seq:Value}{w:World}{R:TR H7→WP}:F8.wp seq w R→Ae prog F.F8 [seq] w false H7 R:=
  oks Aa func218 .n
def Vl.wp(a b c:Int)(w:World)(R:TR Zz→WP):Prop:=
Aj (decide (c<1)) (
R ((0,()),(false,()),()) w) (
Ae prog F.V8 [iV a] w false kZ fun r1 w2=>
Ae prog F.V8 [iV b] w2 false kZ fun r3 w4=>
Ae prog F.bits_Mul64 [.int .u64 r1.1.1,.int .u64 r3.1.1] w4 true uH fun r5 w6=>
Aj (decide (r5.1.1≥(wrap .u64 c))) (
R ((0,()),(false,()),()) w6) (
Ae prog F.Vk [.int .u64 r5.1.1,.int .u64 r5.2.1.1,.int .u64 (wrap .u64 c)] w6 true uH fun r7 w8=>
Aj ((decide (a<0))==(decide (b<0))) (
Aj (decide (r7.1.1>9223372036854775807)) (
R ((0,()),(false,()),()) w8) (
R ((wrap .i64 r7.1.1,()),(true,()),()) w8)) (
Cc (fun(J9:((Int)×Unit)→WP)=>
Aj (decide (r7.2.1.1>0)) (
Aj ((wrap .u64 (r7.1.1+1))==0) (
R ((0,()),(false,()),()) w8) (
J9 (wrap .u64 (r7.1.1+1),()) w8)) (
J9 (r7.1.1,()) w8)) (fun(z10:(Int)×Unit) w11=> ∀_:Nat→Value,
Aj (decide (z10.1>9223372036854775808)) (
R ((0,()),(false,()),()) w11) (
R ((wrap .i64 (wrap .u64 (0-z10.1)),()),(true,()),()) w11)))))
theorem Vl.ok{a b c:Int}{w:World}{R:TR Zz→WP}:Vl.wp a b c w R→Ae prog F.Vl [iV a,iV b,iV c] w true Zz R:=
  oks Aa func219 (hs 6 (.ct [(10,(.i .u64))] .n .n))
def Y7.wp(a b:Int)(w:World)(R:TR Zz→WP):Prop:=
Aj (!((decide ((wrap .i64 (a+b))>a))==(decide (b>0)))) (
Aj (b !=0) (
R ((0,()),(false,()),()) w) (
R ((wrap .i64 (a+b),()),(true,()),()) w)) (
R ((wrap .i64 (a+b),()),(true,()),()) w)
theorem Y7.ok{a b:Int}{w:World}{R:TR Zz→WP}:Y7.wp a b w R→Ae prog F.Y7 [iV a,iV b] w true Zz R:=
  oks Aa func220 .n
def I7.wp(t0 t1 t2 t3 rounds:Int)(w:World)(R:TR r3'→WP):Prop:=
Bf [iV t0,iV t1,iV t2,iV t3] T.Xh w fun p1 w2=>
A8 fH p1 0 w2 fun x3=>
Ae prog F.Es [Sv fH x3] w2 false r0' fun r4 w5=>
Aj (!r4.1.1) (
R ((0,()),()) w5) (
Aj (decide (rounds<0)) (
R ((0,()),()) w5) (
Aj (decide (rounds>1073741824)) (
R ((0,()),()) w5) (
ld1 KI (p1.add 3) w5 fun x6=>
ld1 KI p1 w5 fun x7=>
R ((wrap .i64 ((wrap .i64 (rounds*x6))*(wrap .i64 (1000+x7))),()),()) w5)))
theorem I7.ok{t0 t1 t2 t3 rounds:Int}{w:World}{R:TR r3'→WP}:I7.wp t0 t1 t2 t3 rounds w R→Ae prog F.I7 [.agg #[iV t0,iV t1,iV t2,iV t3],iV rounds] w false r3' R:=
  oks Aa func221 .n
def Ei.wp(yield:Nat)(c_cap0:Addr)(w:World)(R:TR []→WP):Prop:=
ld1 .p c_cap0 w fun x1=>
Ae prog F.Di [.pointer x1] w false r3' fun r2 w3=>
Ci (fun(self4:((Int)×Unit)→WP) (z5:(Int)×Unit) w6=> ∀_:Nat→Value,
Aj (decide (z5.1<r2.1.1)) (
Jg w6 fun w7=>
ld1 .p c_cap0 w7 fun x8=>
Aq x8 fun a9=>
ld1 .sl a9 w7 fun x10=>
ld1 .p c_cap0 w7 fun x11=>
Aq x11 fun a12=>
ld1 KI (a12.add 1) w7 fun x13=>
ld1 .p c_cap0 w7 fun x14=>
Aq x14 fun a15=>
ld1 .sl a15 w7 fun x16=>
dF (x16.2.1:Int) (
Ny x10.1 x10.2.1 (Int.tmod (wrap .i64 (x13+z5.1)) (x16.2.1:Int)) fun a17=>
ld1 .any (a17.add ((Int.tmod (wrap .i64 (x13+z5.1)) (x16.2.1:Int)).toNat*1)) w7 fun x18=>
yiS prog yield [x18] w7 fun b19 w20=>
Aj (!b19) (
R (()) w20) (
self4 (wrap .i64 (z5.1+1),()) w20))) (
R (()) w6)) (0,()) w3
theorem Ei.ok{yield:Nat}{c_cap0:Addr}{w:World}{R:TR []→WP}:Ei.wp yield c_cap0 w R→Ae prog F.Ei [.func (.yield yield) #[] #[],.pointer (some c_cap0)] w true [] R:=
  oks Aa func226 (.s .n (.lp [(6,(.i .i64))] (hs 2 (.s (.s .n (.s (.py 19 (ks [0,1,2,3,4,5,6,7,8,9,10,11,12,13,14,15,16,17,18] .z)) .n)) .n))))
def V9.wp(drift:Int)(list:Option Addr×Nat×Nat)(w:World)(R:TR lU→WP):Prop:=
Bf jR T.bW w fun p1 w2=>
Aj ((list.2.1:Int)==0) (
Au jR p1 0 w2 fun w3=>
A8 aU p1 0 w3 fun x4=>
R (x4,(false,()),()) w3) (
Ci (fun(self5:((Int)×(Int)×(Int)×Unit)→WP) (z6:(Int)×(Int)×(Int)×Unit) w7=> ∀_:Nat→Value,
Aj (decide (z6.2.2.1<(list.2.1:Int))) (
Ny list.1 list.2.1 z6.2.2.1 fun a8=>
A8 Ig (a8.add (z6.2.2.1.toNat*3)) 0 w7 fun x9=>
Bf Vy T.D7 w7 fun p10 w11=>
Au (encs Ig x9) p10 0 w11 fun w12=>
ld1 KI p10 w12 fun x13=>
ld1 KI (p10.add 1) w12 fun x14=>
self5 (wrap .i64 (z6.1+x13),wrap .i64 (z6.2.1+x14),wrap .i64 (z6.2.2.1+1),()) w12) (
Ae prog F.Oe [iV z6.1,iV (list.2.1:Int)] w7 true dH fun Zb w16=>
Ae prog F.Oe [iV z6.2.1,iV (list.2.1:Int)] w16 true dH fun r17 w18=>
Ae prog F.Xv [iV drift,.slice list.1 list.2.1 list.2.2] w18 true dH fun r19 w20=>
Ae prog F.Vf [.slice list.1 list.2.1 list.2.2] w20 false r3' fun r21 w22=>
Au [iV Zb.1.1,iV r17.1.1,iV r19.1.1,iV r19.2.1.1,iV r21.1.1] p1 0 w22 fun w23=>
A8 aU p1 0 w23 fun x24=>
R (x24,(true,()),()) w23)) (0,0,0,()) w2)
theorem V9.ok{drift:Int}{list:Option Addr×Nat×Nat}{w:World}{R:TR lU→WP}:V9.wp drift list w R→Ae prog F.V9 [iV drift,.slice list.1 list.2.1 list.2.2] w true lU R:=
  oks Aa func227 (hs 4 (.s (.s .n (.lp [(7,(.i .i64)),(8,(.i .i64)),(24,(.i .i64))] .n)) .n))
def Rl.wp(m0 m1 m2 m3 m4 local_:Int)(w:World)(R:TR Zz→WP):Prop:=
Bf [iV m0,iV m1,iV m2,iV m3,iV m4] T.bW w fun p1 w2=>
Aj (decide (local_<0)) (
R ((0,()),(false,()),()) w2) (
Aj (decide (local_>1125899906842624)) (
R ((0,()),(false,()),()) w2) (
A8 aU p1 0 w2 fun x3=>
Ae prog F.Wx [Sv aU x3,iV local_] w2 false r3' fun r4 w5=>
Aj (decide (r4.1.1<0)) (
R ((0,()),(false,()),()) w5) (
Aj (decide (r4.1.1>1125899906842624)) (
R ((0,()),(false,()),()) w5) (
R ((r4.1.1,()),(true,()),()) w5))))
theorem Rl.ok{m0 m1 m2 m3 m4 local_:Int}{w:World}{R:TR Zz→WP}:Rl.wp m0 m1 m2 m3 m4 local_ w R→Ae prog F.Rl [.agg #[iV m0,iV m1,iV m2,iV m3,iV m4],iV local_] w true Zz R:=
  oks Aa func228 .n
def Uf.wp(b1 s1 b2 s2:Int)(w:World)(R:TR r0'→WP):Prop:=
Aj (b1==b2) (
Ae prog F.Oc [uV s1,uV s2] w false r0' fun r1 w2=>
R ((r1.1.1,()),()) w2) (
Ae prog F.Oc [uV b1,uV b2] w false r0' fun r3 w4=>
R ((r3.1.1,()),()) w4)
theorem Uf.ok{b1 s1 b2 s2:Int}{w:World}{R:TR r0'→WP}:Uf.wp b1 s1 b2 s2 w R→Ae prog F.Uf [uV b1,uV s1,uV b2,uV s2] w false r0' R:=
  oks Aa func229 .n
def Oe.wp(a b:Int)(w:World)(R:TR dH→WP):Prop:=
dF b (
Cc (fun(J1:((Bool)×Unit)→WP)=>
dF b (
Aj ((Int.tmod a b) !=0) (
J1 (decide (a<0),()) w) (
J1 (false,()) w))) (fun(z2:(Bool)×Unit) w3=> ∀_:Nat→Value,
Aj z2.1 (
Jg w3 fun w4=>
dF b (
R ((wrap .i64 ((wrap .i64 (Int.tdiv a b))-1),()),(wrap .i64 ((Int.tmod a b)+b),()),()) w4)) (
Jg w3 fun w5=>
dF b (
R ((wrap .i64 (Int.tdiv a b),()),(Int.tmod a b,()),()) w5))))
theorem Oe.ok{a b:Int}{w:World}{R:TR dH→WP}:Oe.wp a b w R→Ae prog F.Oe [iV a,iV b] w true dH R:=
  oks Aa func230 (hs 2 (.s (.ct [(17,.b)] .n (.s (.s (.pl (ks [0,1,2,3,4,5,6,7,8] .z)) .n) .n)) (.s (.pl (ks [0,1,2,3,4,5] .z)) .n)))
def Xr.wp(sum b:Int)(w:World)(R:TR Vw→WP):Prop:=
fJ 8 (
Ci (fun(self1:((Int)×(Int)×Unit)→WP) (z2:(Int)×(Int)×Unit) w3=> ∀_:Nat→Value,
Aj (decide (z2.2.1<8)) (
fJ 1 (
Aj ((Lm .and .u16 z2.1 32768) !=0) (
self1 (Lm .xor .u16 (Sz .u16 z2.1 1) 4129,wrap .i64 (z2.2.1+1),()) w3) (
self1 (Sz .u16 z2.1 1,wrap .i64 (z2.2.1+1),()) w3))) (
R ((z2.1,()),()) w3)) (Lm .xor .u16 sum (Sz .u16 (wrap .u16 b) 8),0,()) w)
theorem Xr.ok{sum b:Int}{w:World}{R:TR Vw→WP}:Xr.wp sum b w R→Ae prog F.Xr [uV sum,.int .u8 b] w false Vw R:=
  oks Aa func231 (hs 2 (.s (.s .n (.lp [(0,(.i .u16)),(11,(.i .i64))] .n)) .n))
end Go.Proofs.YtnjmfbjgcfnanaaGreat
