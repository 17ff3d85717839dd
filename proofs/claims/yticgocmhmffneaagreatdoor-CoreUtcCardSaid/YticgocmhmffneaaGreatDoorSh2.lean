import Derived.Test.YticgocmhmffneaaGreatDoorNm
namespace Go.Proofs.YticgocmhmffneaaGreatDoor
open Go.Eng Tryz
open Go.IntKind (wrap)
set_option linter.unusedSimpArgs false
set_option linter.unusedVariables false
set_option maxRecDepth 100000
def Qb.wp(p:Option Addr)(to local_:Int)(w:World)(R:TR Aar→WP):Prop:=
Bf Ao4 T.Ef w λp1 w2=>
Aj (Option.isNone p) (
Au Ao4 p1 0 w2 λw3=>
A8 Aab p1 0 w3 λx4=>
R (x4,(false,()),()) w3) (
Aq p λa5=>
ld1 KI a5 w2 λx6=>
Bf Ao4 T.Ef w2 λp7 w8=>
Au [iV x6,iV to,iV local_] p7 0 w8 λw9=>
Aq p λa10=>
ld1 .b (a10.add 3) w9 λx11=>
Aj x11 (
Au Ao4 p1 0 w9 λw12=>
A8 Aab p1 0 w12 λx13=>
R (x13,(false,()),()) w12) (
Aq p λa14=>
ld1 KI (a14.add 6) w9 λx15=>
Aj (decide (x15>0)) (
Au Ao4 p1 0 w9 λw16=>
A8 Aab p1 0 w16 λx17=>
R (x17,(false,()),()) w16) (
Aq p λa18=>
ld1 KI a18 w9 λx19=>
Aj (to==x19) (
Au Ao4 p1 0 w9 λw20=>
A8 Aab p1 0 w20 λx21=>
R (x21,(false,()),()) w20) (
A8 Aab p7 0 w9 λx22=>
Ae prog F.Ew [.iface T.Ef (Sv Aab x22)] w9 false r0' λr23 w24=>
Aj (!r23.1.1) (
Au Ao4 p1 0 w24 λw25=>
A8 Aab p1 0 w25 λx26=>
R (x26,(false,()),()) w25) (
Aq p λa27=>
Au [.bool true] (a27.add 3) 0 w24 λw28=>
Aq p λa29=>
Au [iV 0] (a29.add 4) 0 w28 λw30=>
Aq p λa31=>
Au [iV to] (a31.add 1) 0 w30 λw32=>
Aq p λa33=>
Au [iV local_] (a33.add 2) 0 w32 λw34=>
A8 Aab p7 0 w34 λx35=>
Au (encs Aab x35) p1 0 w34 λw36=>
A8 Aab p1 0 w36 λx37=>
R (x37,(true,()),()) w36)))))
theorem Qb.ok{p:Option Addr}{to local_:Int}{w:World}{R:TR Aar→WP}:Qb.wp p to local_ w R→Ae prog F.Qb [.pointer p,iV to,iV local_] w true Aar R:=
 oks Aa Tryz.func262 .n
def V7.wp(Aw:Int)(t:Option Addr)(w:World)(R:TR Ajx→WP):Prop:=
Bf z23' T.iO w λp1 w2=>
Ae prog F.Dk [.pointer t] w2 false iT λr3 w4=>
Aj (r3.1.1==0) (
Au z23' p1 0 w4 λw5=>
A8 vP p1 0 w5 λx6=>
R (x6,(false,()),()) w5) (
Bf [iV 0] T.int w4 λp7 w8=>
Bf [iV 0] T.int w8 λp9 w10=>
Au [iV 0] p7 0 w10 λw11=>
Au [iV 0] p9 0 w11 λw12=>
Ae prog F.Gv [.pointer t] w12 false fC λr13 w14=>
RfT prog r13.1.1 Ajw w14 (λx15 k16 w17=>
Bf Ao4 T.Du w17 λp23 w24=>
Au [iV x15.1.1,iV x15.1.2.1,iV x15.1.2.2.1] p23 0 w24 λw25=>
k16 w25 λgo18 lv19 w20=>
ld1 KI p7 w20 λx26=>
ld1 KI p23 w20 λx27=>
Au [iV (wrap .i64 (x26+x27))] p7 0 w20 λw28=>
ld1 KI p9 w28 λx29=>
ld1 KI (p23.add 1) w28 λx30=>
Au [iV (wrap .i64 (x29+x30))] p9 0 w28 λw31=>
go18 w31) (λD21 w22=>
ld1 KI p7 w22 λx32=>
Ae prog F.Oi [iV x32,iV r3.1.1] w22 true Aix λr33 w34=>
Au [iV r33.1.1] p7 0 w34 λw35=>
ld1 KI p9 w35 λx36=>
Ae prog F.Oi [iV x36,iV r3.1.1] w35 true Aix λr37 w38=>
Au [iV r37.1.1] p9 0 w38 λw39=>
Jg w39 λw40=>
ld1 KI p7 w40 λx41=>
ld1 KI p9 w40 λx42=>
Ae prog F.Jr [.pointer t] w40 false dH λr43 w44=>
A7 [hd 1 p9 w40,hd 0 p7 w40] w44∧(
Ae prog F.Xt [iV Aw,.slice r43.1.1.1 r43.1.1.2.1 r43.1.1.2.2] w44 false Aj7 λr45 w46=>
A7 [hd 1 p9 w40,hd 0 p7 w40] w46∧(
Ae prog F.Ky [.pointer t] w46 false iT λr47 w48=>
A7 [hd 1 p9 w40,hd 0 p7 w40] w48∧(
Au [iV x41,iV x42,iV r45.1.1,iV r45.1.2.1,iV r47.1.1] p1 0 w48 λw49=>
A7 [] w49∧(
tkK D21 w49 λw50=>
A8 vP p1 0 w50 λx51=>
R (x51,(true,()),()) w50))))) [])
theorem V7.ok{Aw:Int}{t:Option Addr}{w:World}{R:TR Ajx→WP}:V7.wp Aw t w R→Ae prog F.V7 [iV Aw,.pointer t] w true Ajx R:=
 oks Aa Tryz.func263 (hs 4 (.s (.s .n (.rf [(true,[(.i .i64),(.i .i64),(.i .i64)])] .n .n)) (hs 2 (.s (.pl (ks [0,1,2,3,6] (.ef 4 [] (.ef 5 [] (.ef 7 [] (.tk 8 (.ef 9 [0,1] (.tk 10 .z)))))))) .n))))
def Jp.wp(m0 m1 m2 m3 m4 local_:Int)(w:World)(R:TR fE→WP):Prop:=
Bf [iV m0,iV m1,iV m2,iV m3,iV m4] T.iO w λp1 w2=>
Aj (decide (local_<0)) (
R ((0,()),(false,()),()) w2) (
Aj (decide (local_>1125899906842624)) (
R ((0,()),(false,()),()) w2) (
ld1 KI p1 w2 λx3=>
Aj (decide (x3<0)) (
R ((0,()),(false,()),()) w2) (
ld1 KI p1 w2 λx4=>
Aj (decide (x4>1125899906842624)) (
R ((0,()),(false,()),()) w2) (
A8 [KI,KI] (p1.add 2) 0 w2 λx5=>
ld1 KI p1 w2 λx6=>
Ae prog F.Jq [.agg #[iV x5.1,iV x5.2.1],iV (wrap .i64 (local_-x6))] w2 false iT λr7 w8=>
ld1 KI (p1.add 1) w8 λx9=>
Ae prog F.Qs [iV x9,iV (Int.negSucc 1125899906842623),iV 1125899906842624] w8 false iT λr10 w11=>
Ae prog F.Yb [iV local_,iV r10.1.1] w11 false iT λr12 w13=>
Ae prog F.Qs [iV r7.1.1,iV (Int.negSucc 1125899906842623),iV 1125899906842624] w13 false iT λr14 w15=>
Ae prog F.Yb [iV r12.1.1,iV r14.1.1] w15 false iT λr16 w17=>
Aj (decide (r16.1.1<0)) (
R ((0,()),(false,()),()) w17) (
Aj (decide (r16.1.1>1125899906842624)) (
R ((0,()),(false,()),()) w17) (
R ((r16.1.1,()),(true,()),()) w17))))))
theorem Jp.ok{m0 m1 m2 m3 m4 local_:Int}{w:World}{R:TR fE→WP}:Jp.wp m0 m1 m2 m3 m4 local_ w R→Ae prog F.Jp [.agg #[iV m0,iV m1,iV m2,iV m3,iV m4],iV local_] w true fE R:=
 oks Aa Tryz.func264 .n
def Gu.wp(p0 p1 p2:Int)(w:World)(R:TR iT→WP):Prop:=
Bf [iV p0,iV p1,iV p2] T.bU w λp3 w4=>
ld1 KI p3 w4 λx5=>
R ((wrap .i64 (x5*1000),()),()) w4
theorem Gu.ok{p0 p1 p2:Int}{w:World}{R:TR iT→WP}:Gu.wp p0 p1 p2 w R→Ae prog F.Gu [.agg #[iV p0,iV p1,iV p2]] w false iT R:=
 oks Aa Tryz.func265 .n
def Nh.wp(t0 t1 t2 t3:Int)(w:World)(R:TR iT→WP):Prop:=
Bf [iV t0,iV t1,iV t2,iV t3] T.Xh w λp1 w2=>
A8 aU p1 0 w2 λx3=>
Ae prog F.Es [Sv aU x3] w2 false r0' λr4 w5=>
Aj (!r4.1.1) (
R ((0,()),()) w5) (
Jg w5 λw6=>
ld1 KI (p1.add 1) w6 λx7=>
A8 aU p1 0 w6 λx8=>
ld1 KI (p1.add 2) w6 λx9=>
Ae prog F.Ir [Sv aU x8,iV (wrap .i64 (x9+1))] w6 false iT λr10 w11=>
A7 [hd 5 (p1.add 2) w6,hd 1 (p1.add 1) w6] w11∧(
R ((wrap .i64 ((wrap .i64 ((wrap .i64 (2*x7))+r10.1.1))+2),()),()) w11))
theorem Nh.ok{t0 t1 t2 t3:Int}{w:World}{R:TR iT→WP}:Nh.wp t0 t1 t2 t3 w R→Ae prog F.Nh [.agg #[iV t0,iV t1,iV t2,iV t3]] w false iT R:=
 oks Aa Tryz.func266 (hs 2 (.s (.pl (ks [0,1,2,3,4,5,6] (.ef 7 [3] (ks [8,9,10] .z)))) .n))
def Kz.wp(t0 t1 t2 t3:Int)(w:World)(R:TR iT→WP):Prop:=
Bf [iV t0,iV t1,iV t2,iV t3] T.Xh w λp1 w2=>
A8 aU p1 0 w2 λx3=>
Ae prog F.Es [Sv aU x3] w2 false r0' λr4 w5=>
Aj (!r4.1.1) (
R ((0,()),()) w5) (
Jg w5 λw6=>
ld1 KI (p1.add 1) w6 λx7=>
A8 aU p1 0 w6 λx8=>
ld1 KI (p1.add 2) w6 λx9=>
Ae prog F.Ir [Sv aU x8,iV (wrap .i64 (8*(wrap .i64 (x9+1))))] w6 false iT λr10 w11=>
A7 [hd 5 (p1.add 2) w6,hd 1 (p1.add 1) w6] w11∧(
R ((wrap .i64 ((wrap .i64 ((wrap .i64 (2*x7))+(wrap .i64 (2*r10.1.1))))+6),()),()) w11))
theorem Kz.ok{t0 t1 t2 t3:Int}{w:World}{R:TR iT→WP}:Kz.wp t0 t1 t2 t3 w R→Ae prog F.Kz [.agg #[iV t0,iV t1,iV t2,iV t3]] w false iT R:=
 oks Aa Tryz.func267 (hs 2 (.s (.pl (ks [0,1,2,3,4,5,6,7] (.ef 8 [3] (ks [9,10,11,12] .z)))) .n))
def Lc.wp(e:Option Addr)(root m0 m1:Int)(w:World)(R:TR iT→WP):Prop:=
Bf [uV m0,uV m1] T.yB w λp1 w2=>
Aj (Option.isNone e) (
R ((0,()),()) w2) (
Ae prog F.Ns [.pointer e,iV root] w2 false r0' λr3 w4=>
Aj (!r3.1.1) (
R ((0,()),()) w4) (
Aq e λa5=>
ld1 .m (a5.add 8) w4 λx6=>
lkO prog T.O9 (.map x6) (iV root) w4 true [KU,KU] λx7 b8=>
Bf [uV 0,uV 0] T.yB w4 λp9 w10=>
Au [uV x7.1,uV x7.2.1] p9 0 w10 λw11=>
Cc (λ(J12:Unit→WP)=>
Aj b8 (
A8 [KU,KU] p1 0 w11 λx15=>
A8 [KU,KU] p9 0 w11 λx16=>
Ae prog F.Kw [.agg #[uV x15.1,uV x15.2.1],.agg #[uV x16.1,uV x16.2.1]] w11 false r0' λr17 w18=>
Aj (!r17.1.1) (
R ((0,()),()) w18) (
J12 (()) w18)) (
J12 (()) w11)) (λ(z13:Unit) w14=> ∀_:Nat→Value,
Cc (λ(J19:((Bool)×Unit)→WP)=>
Aq e λa22=>
ld1 KI (a22.add 5) w14 λx23=>
Aj (x23 !=root) (
J19 (true,()) w14) (
ld1 KU p9 w14 λx24=>
ld1 KU p1 w14 λx25=>
J19 ((x24 !=x25),()) w14)) (λ(z20:(Bool)×Unit) w21=> ∀_:Nat→Value,
Jg w21 λw26=>
Aq e λa27=>
ld1 .m (a27.add 8) w26 λx28=>
A8 [KU,KU] p1 0 w26 λx29=>
muK prog T.O9 (.map x28) (iV root) (.agg #[uV x29.1,uV x29.2.1]) w26 λw30=>
A7 [] w30∧(
Aq e λa31=>
Au [iV root] (a31.add 5) 0 w30 λw32=>
Aq e λa33=>
Au [iV 0] (a33.add 6) 0 w32 λw34=>
Aq e λa35=>
Au [iV 0] (a35.add 7) 0 w34 λw36=>
Aj z20.1 (
R ((2,()),()) w36) (
R ((1,()),()) w36))))))
theorem Lc.ok{e:Option Addr}{root m0 m1:Int}{w:World}{R:TR iT→WP}:Lc.wp e root m0 m1 w R→Ae prog F.Lc [.pointer e,iV root,.agg #[uV m0,uV m1]] w false iT R:=
 oks Aa Tryz.func268 (hs 3 (.ct [] .n (.ct [(9,.b)] .n (.s (.pl (ks [0,1,2,3,4,5] (.ef 6 [3,5] .z))) .n))))
def Ed.wp(t:Option Addr)(e0 e1 e2:Int)(w:World)(R:TR iT→WP):Prop:=
Bf [iV e0,iV e1,iV e2] T.Du w λp1 w2=>
Cc (λ(J3:Unit→WP)=>
Ae prog F.Ld [.pointer t] w2 true Aar λr6 w7=>
Bf Ao4 T.Du w7 λp8 w9=>
Au (encs Aab r6.1) p8 0 w9 λw10=>
Aj (Option.isNone t) (
R ((2,()),()) w10) (
A8 Aab p1 0 w10 λx11=>
Ae prog F.C9 [Sv Aab x11] w10 false r0' λr12 w13=>
Aj (!r12.1.1) (
R ((1,()),()) w13) (
Aj r6.2.1.1 (
ld1 KI p1 w13 λx14=>
ld1 KI p8 w13 λx15=>
Aj (decide (x14≤x15)) (
R ((12,()),()) w13) (
J3 (()) w13)) (
J3 (()) w13)))) (λ(z4:Unit) w5=> ∀_:Nat→Value,
Jg w5 λw16=>
Aq t λa17=>
ld1 .sl a17 w16 λx18=>
A8 Aab p1 0 w16 λx19=>
Bf (encs Aab x19) T.Du w16 λp20 w21=>
A7 [hd 5 (p1.add 0) w16,hd 5 (p1.add 1) w16,hd 5 (p1.add 2) w16,hd 4 a17 w16] w21∧(
L9 ((Builtin.append_ #[T.Ox,T.Ox] T.Ox #[.slice x18.1 x18.2.1 x18.2.2,.slice (some p20) 1 1]).run prog w21) λy22 w23=>
A7 [hd 5 (p1.add 0) w16,hd 5 (p1.add 1) w16,hd 5 (p1.add 2) w16] w23∧(
Aq t λa24=>
Au [.slice y22.1 y22.2.1 y22.2.2] a24 0 w23 λw25=>
A7 [] w25∧(
Aq t λa26=>
ld1 .sl a26 w25 λx27=>
Aj (decide ((x27.2.1:Int)>8)) (
Aq t λa28=>
ld1 .sl a28 w25 λx29=>
sQ 1 (x29.2.1:Int) x29.2.2 (
Ae prog F.Df [.slice (dG x29.1 x29.2.2 (Int.toNat 1) 3) ((Int.toNat (x29.2.1:Int))-(Int.toNat 1)) (x29.2.2-Int.toNat 1)] w25 false dH λr30 w31=>
Aq t λa32=>
Au [.slice r30.1.1.1 r30.1.1.2.1 r30.1.1.2.2] a32 0 w31 λw33=>
R ((0,()),()) w33)) (
R ((0,()),()) w25)))))
theorem Ed.ok{t:Option Addr}{e0 e1 e2:Int}{w:World}{R:TR iT→WP}:Ed.wp t e0 e1 e2 w R→Ae prog F.Ed [.pointer t,.agg #[iV e0,iV e1,iV e2]] w false iT R:=
 oks Aa Tryz.func269 (.s .n (.ct [] .n (.s (.pl (ks [0,1,2,3,4,5] (.ef 6 [] (.ef 7 [4] (.tk 8 (.tk 9 (.ef 10 [5] .z))))))) .n)))
def Gg.wp(t:Option Addr)(w:World)(R:TR []→WP):Prop:=
Aj (!(Option.isNone t)) (
Aq t λa1=>
Au [.slice none 0 0] a1 0 w λw2=>
R (()) w2) (
R (()) w)
theorem Gg.ok{t:Option Addr}{w:World}{R:TR []→WP}:Gg.wp t w R→Ae prog F.Gg [.pointer t] w true [] R:=
 oks Aa Tryz.func270 .n
def Gw.wp(t0 t1 t2 t3:Int)(w:World)(R:TR iT→WP):Prop:=
Bf [iV t0,iV t1,iV t2,iV t3] T.jL w λp1 w2=>
A8 aU p1 0 w2 λx3=>
Ae prog F.Iw [Sv aU x3] w2 false r0' λr4 w5=>
Aj (!r4.1.1) (
R ((0,()),()) w5) (
ld1 KI (p1.add 1) w5 λx6=>
ld1 KI p1 w5 λx7=>
ld1 KI (p1.add 2) w5 λx8=>
ld1 KI (p1.add 3) w5 λx9=>
Ae prog F.Oi [iV (wrap .i64 ((wrap .i64 ((wrap .i64 (x6-x7))+x8))-x9)),iV 2] w5 true Aix λr10 w11=>
R ((r10.1.1,()),()) w11)
theorem Gw.ok{t0 t1 t2 t3:Int}{w:World}{R:TR iT→WP}:Gw.wp t0 t1 t2 t3 w R→Ae prog F.Gw [.agg #[iV t0,iV t1,iV t2,iV t3]] w false iT R:=
 oks Aa Tryz.func271 .n
def Iw.wp(t0 t1 t2 t3:Int)(w:World)(R:TR r0'→WP):Prop:=
Bf [iV t0,iV t1,iV t2,iV t3] T.jL w λp1 w2=>
ld1 KI p1 w2 λx3=>
ld1 KI (p1.add 1) w2 λx4=>
ld1 KI (p1.add 2) w2 λx5=>
ld1 KI (p1.add 3) w2 λx6=>
Ci (λ(self7:((Int)×Unit)→WP) (z8:(Int)×Unit) w9=> ∀_:Nat→Value,
Aj (decide (z8.1<4)) (
aiK [x3,x4,x5,x6] 4 z8.1 λc10=>
Aj (decide (c10<0)) (
R ((false,()),()) w9) (
Aj (decide (c10>1125899906842624)) (
R ((false,()),()) w9) (
self7 (wrap .i64 (z8.1+1),()) w9))) (
ld1 KI (p1.add 3) w9 λx11=>
ld1 KI p1 w9 λx12=>
R ((decide (x11≥x12),()),()) w9)) (0,()) w2
theorem Iw.ok{t0 t1 t2 t3:Int}{w:World}{R:TR r0'→WP}:Iw.wp t0 t1 t2 t3 w R→Ae prog F.Iw [.agg #[iV t0,iV t1,iV t2,iV t3]] w false r0' R:=
 oks Aa Tryz.func272 (.s .n (.s (.s .n (.lp [(14,(.i .i64))] .n)) .n))
def C9.wp(e0 e1 e2:Int)(w:World)(R:TR r0'→WP):Prop:=
Bf [iV e0,iV e1,iV e2] T.Du w λp1 w2=>
ld1 KI p1 w2 λx3=>
Aj (decide (x3≥0)) (
ld1 KI p1 w2 λx4=>
Aj (decide (x4≤1125899906842624)) (
ld1 KI (p1.add 1) w2 λx5=>
Aj (decide (x5≥(Int.negSucc 1125899906842623))) (
ld1 KI (p1.add 1) w2 λx6=>
Aj (decide (x6≤1125899906842624)) (
ld1 KI (p1.add 2) w2 λx7=>
Aj (decide (x7≥1)) (
ld1 KI (p1.add 2) w2 λx8=>
R ((decide (x8≤63),()),()) w2) (
R ((false,()),()) w2)) (
R ((false,()),()) w2)) (
R ((false,()),()) w2)) (
R ((false,()),()) w2)) (
R ((false,()),()) w2)
theorem C9.ok{e0 e1 e2:Int}{w:World}{R:TR r0'→WP}:C9.wp e0 e1 e2 w R→Ae prog F.C9 [.agg #[iV e0,iV e1,iV e2]] w false r0' R:=
 oks Aa Tryz.func273 .n
def Pz.wp(a b:Int)(w:World)(R:TR r0'→WP):Prop:=
R ((decide ((wrap .i16 (wrap .u16 (a-b)))>0),()),()) w
theorem Pz.ok{a b:Int}{w:World}{R:TR r0'→WP}:Pz.wp a b w R→Ae prog F.Pz [uV a,uV b] w false r0' R:=
 oks Aa Tryz.func274 .n
def Jj.wp(r:Option Addr)(w:World)(R:TR fC→WP):Prop:=
Bf [.pointer r] T.gJ w λp1 w2=>
R ((.func (.func F.Ei) #[] #[.pointer (some p1)],()),()) w2
theorem Jj.ok{r:Option Addr}{w:World}{R:TR fC→WP}:Jj.wp r w R→Ae prog F.Jj [.pointer r] w false fC R:=
 oks Aa Tryz.func275 .n
def X0.wp(sum:Int)(b:Option Addr×Nat×Nat)(w:World)(R:TR Ar0→WP):Prop:=
Ci (λ(self1:((Int)×(Int)×Unit)→WP) (z2:(Int)×(Int)×Unit) w3=> ∀_:Nat→Value,
Aj (decide (z2.2.1<(b.2.1:Int))) (
Ny b.1 b.2.1 z2.2.1 λa4=>
ld1 (.i .u8) (a4.add (z2.2.1.toNat*1)) w3 λx5=>
Ae prog F.Xr [uV z2.1,.int .u8 x5] w3 false Ar0 λr6 w7=>
self1 (r6.1.1,wrap .i64 (z2.2.1+1),()) w7) (
R ((z2.1,()),()) w3)) (sum,0,()) w
theorem X0.ok{sum:Int}{b:Option Addr×Nat×Nat}{w:World}{R:TR Ar0→WP}:X0.wp sum b w R→Ae prog F.X0 [uV sum,.slice b.1 b.2.1 b.2.2] w false Ar0 R:=
 oks Aa Tryz.func276 (.s .n (.s (.s .n (.lp [(0,(.i .u16)),(9,(.i .i64))] .n)) .n))
def Abv.wp(t0 t1 t2:Int)(t3:Option Addr×Nat×Nat)(day:Int)(w:World)(R:TR iT→WP):Prop:=
Bf [iV t0,iV t1,iV t2,.slice t3.1 t3.2.1 t3.2.2] T.Ai1 w λp1 w2=>
ld1 KI (p1.add 1) w2 λx3=>
ld1 .sl (p1.add 3) w2 λx4=>
Ci (λ(self5:((Int)×(Int)×Unit)→WP) (z6:(Int)×(Int)×Unit) w7=> ∀_:Nat→Value,
Aj (decide (z6.2.1<(x4.2.1:Int))) (
Ny x4.1 x4.2.1 z6.2.1 λa8=>
A8 [KI,KI] (a8.add (z6.2.1.toNat*2)) 0 w7 λx9=>
Bf [iV 0,iV 0] T.Alg w7 λp10 w11=>
Au [iV x9.1,iV x9.2.1] p10 0 w11 λw12=>
ld1 KI p10 w12 λx13=>
Aj (decide (x13<day)) (
ld1 KI (p10.add 1) w12 λx14=>
self5 (wrap .i64 (z6.1+x14),wrap .i64 (z6.2.1+1),()) w12) (
self5 (z6.1,wrap .i64 (z6.2.1+1),()) w12)) (
R ((z6.1,()),()) w7)) (x3,0,()) w2
theorem Abv.ok{t0 t1 t2:Int}{t3:Option Addr×Nat×Nat}{day:Int}{w:World}{R:TR iT→WP}:Abv.wp t0 t1 t2 t3 day w R→Ae prog F.Abv [.agg #[iV t0,iV t1,iV t2,.slice t3.1 t3.2.1 t3.2.2],iV day] w false iT R:=
 oks Aa Tryz.func281 (hs 2 (.s (.s .n (.lp [(5,(.i .i64)),(13,(.i .i64))] .n)) .n))
def uO.wp(t:Option Addr)(w:World)(R:TR fC→WP):Prop:=
Aj (Option.isNone t) (
R ((.func (.func F.Amc) #[] #[],()),()) w) (
Aq t λa1=>
ld1 .sl (a1.add 3) w λx2=>
Ae prog F.U8 [.slice x2.1 x2.2.1 x2.2.2] w false fC λr3 w4=>
R ((r3.1.1,()),()) w4)
theorem uO.ok{t:Option Addr}{w:World}{R:TR fC→WP}:uO.wp t w R→Ae prog F.uO [.pointer t] w false fC R:=
 oks Aa Tryz.func297 .n
def Aac.wp(year:Int)(w:World)(R:TR iT→WP):Prop:=
dF 4 (
dF 100 (
dF 400 (
R ((wrap .i64 ((wrap .i64 ((wrap .i64 ((wrap .i64 (365*(wrap .i64 (year-1))))+(wrap .i64 (Int.tdiv (wrap .i64 (year-1)) 4))))-(wrap .i64 (Int.tdiv (wrap .i64 (year-1)) 100))))+(wrap .i64 (Int.tdiv (wrap .i64 (year-1)) 400))),()),()) w)))
theorem Aac.ok{year:Int}{w:World}{R:TR iT→WP}:Aac.wp year w R→Ae prog F.Aac [iV year] w false iT R:=
 oks Aa Tryz.func298 .n
def Aad.wp(year m:Int)(w:World)(R:TR iT→WP):Prop:=
Aj (m==2) (
Ae prog F.Acr [iV year] w false r0' λr1 w2=>
Aj r1.1.1 (
R ((29,()),()) w2) (
aiK [0,31,28,31,30,31,30,31,31,30,31,30,31] 13 m λc3=>
R ((c3,()),()) w2)) (
aiK [0,31,28,31,30,31,30,31,31,30,31,30,31] 13 m λc4=>
R ((c4,()),()) w)
theorem Aad.ok{year m:Int}{w:World}{R:TR iT→WP}:Aad.wp year m w R→Ae prog F.Aad [iV year,iV m] w false iT R:=
 oks Aa Tryz.func299 .n
def I5.wp(e:Option Addr)(w:World)(R:TR dB→WP):Prop:=
Bf [uV 0,uV 0] T.yB w λp1 w2=>
Ae prog F.Bc [.pointer e] w2 false r0' λr3 w4=>
Aj (!r3.1.1) (
Au [uV 0,uV 0] p1 0 w4 λw5=>
A8 [KU,KU] p1 0 w5 λx6=>
R ((x6.1,x6.2.1,()),(false,()),()) w5) (
Aq e λa7=>
ld1 KU (a7.add 4) w4 λx8=>
Ae prog F.Qu [uV x8] w4 false Ar0 λr9 w10=>
Aq e λa11=>
Au [uV r9.1.1] (a11.add 4) 0 w10 λw12=>
Jg w12 λw13=>
Aq e λa14=>
ld1 KU (a14.add 3) w13 λx15=>
Aq e λa16=>
ld1 KU (a16.add 4) w13 λx17=>
Au [uV x15,uV x17] p1 0 w13 λw18=>
A7 [] w18∧(
A8 [KU,KU] p1 0 w18 λx19=>
R ((x19.1,x19.2.1,()),(true,()),()) w18))
theorem I5.ok{e:Option Addr}{w:World}{R:TR dB→WP}:I5.wp e w R→Ae prog F.I5 [.pointer e] w true dB R:=
 oks Aa Tryz.func300 (hs 3 (.s (.pl (ks [0,1,2,3,4,5,6,7,8] (.ef 9 [3,7] (.tk 10 .z)))) .n))
def Bv.wp(p:Option Addr)(size n:Int)(w:World)(R:TR Arw→WP):Prop:=
Aj (Option.isNone p) (
R ((none,()),()) w) (
Ci (λ(self1:((Int)×Unit)→WP) (z2:(Int)×Unit) w3=> ∀_:Nat→Value,
Aj (decide (z2.1≥0)) (
Jg w3 λw4=>
Aq p λa5=>
ld1 .sl a5 w4 λx6=>
fJ (wrap .i64 (8*z2.1)) (
Bf [.int .u8 (wrap .u8 (Qv .u64 n (wrap .i64 (8*z2.1))))] T.uint8 w4 λp7 w8=>
A7 [hd 4 a5 w4] w8∧(
L9 ((Builtin.append_ #[T.Fh,T.Fh] T.Fh #[.slice x6.1 x6.2.1 x6.2.2,.slice (some p7) 1 1]).run prog w8) λy9 w10=>
A7 [] w10∧(
Aq p λa11=>
Au [.slice y9.1 y9.2.1 y9.2.2] a11 0 w10 λw12=>
A7 [] w12∧(
self1 (wrap .i64 (z2.1-1),()) w12))))) (
R ((p,()),()) w3)) (wrap .i64 ((if 8<(if 0>size then 0 else size) then 8 else(if 0>size then 0 else size))-1),()) w)
theorem Bv.ok{p:Option Addr}{size n:Int}{w:World}{R:TR Arw→WP}:Bv.wp p size n w R→Ae prog F.Bv [.pointer p,iV size,.int .u64 n] w false Arw R:=
 oks Aa Tryz.func301 (hs 2 (.s (.s .n (.lp [(7,(.i .i64))] (.s .n (.s (.pl (ks [0,1,2,3,4,5,6,7,8,9] (.ef 10 [] (.ef 11 [4] (.tk 12 (.tk 13 (.ef 14 [] .z))))))) .n)))) .n))
def Tz.wp(b:Option Addr×Nat×Nat)(w:World)(R:TR dH→WP):Prop:=
Ae prog F.Rl [.slice b.1 b.2.1 b.2.2] w false Ar0 λr1 w2=>
L9 ((Instr.makeSlice T.Fh (iV 0) (iV (wrap .i64 ((b.2.1:Int)+2)))).run prog w2) λy3 w4=>
L9 ((Builtin.append_ #[T.Fh,T.Fh] T.Fh #[.slice y3.1 y3.2.1 y3.2.2,.slice b.1 b.2.1 b.2.2]).run prog w4) λy5 w6=>
fJ 8 (
Bf [.int .u8 (wrap .u8 (Qv .u16 r1.1.1 8)),.int .u8 (wrap .u8 r1.1.1)] T.uint8 w6 λp7 w8=>
L9 ((Builtin.append_ #[T.Fh,T.Fh] T.Fh #[.slice y5.1 y5.2.1 y5.2.2,.slice (some p7) 2 2]).run prog w8) λy9 w10=>
R (((y9.1,y9.2.1,y9.2.2),()),()) w10)
theorem Tz.ok{b:Option Addr×Nat×Nat}{w:World}{R:TR dH→WP}:Tz.wp b w R→Ae prog F.Tz [.slice b.1 b.2.1 b.2.2] w false dH R:=
 oks Aa Tryz.func302 .n
def Fj.wp(p:Option Addr)(w:World)(R:TR dH→WP):Prop:=
Aj (Option.isNone p) (
R (((none,0,0),()),()) w) (
Aq p λa1=>
ld1 .sl a1 w λx2=>
L9 ((Builtin.append_ #[T.Fh,T.Fh] T.Fh #[.slice none 0 0,.slice x2.1 x2.2.1 x2.2.2]).run prog w) λy3 w4=>
R (((y3.1,y3.2.1,y3.2.2),()),()) w4)
theorem Fj.ok{p:Option Addr}{w:World}{R:TR dH→WP}:Fj.wp p w R→Ae prog F.Fj [.pointer p] w false dH R:=
 oks Aa Tryz.func303 .n
def Gv.wp(t:Option Addr)(w:World)(R:TR fC→WP):Prop:=
Bf [.pointer t] T.tH w λp1 w2=>
R ((.func (.func F.Ea) #[] #[.pointer (some p1)],()),()) w2
theorem Gv.ok{t:Option Addr}{w:World}{R:TR fC→WP}:Gv.wp t w R→Ae prog F.Gv [.pointer t] w false fC R:=
 oks Aa Tryz.func304 .n
def Xt.wp(Aw:Int)(list:Option Addr×Nat×Nat)(w:World)(R:TR Aj7→WP):Prop:=
Bf [iV 0,iV 0] T.Xi w λp1 w2=>
Bf [iV 0,iV 0] T.Xi w2 λp3 w4=>
Au [iV 0,iV 1] p3 0 w4 λw5=>
Aj (decide ((list.2.1:Int)<2)) (
A8 [KI,KI] p3 0 w5 λx6=>
Au [iV x6.1,iV x6.2.1] p1 0 w5 λw7=>
A8 [KI,KI] p1 0 w7 λx8=>
R ((x8.1,x8.2.1,()),()) w7) (
Aj (decide ((list.2.1:Int)>8)) (
A8 [KI,KI] p3 0 w5 λx9=>
Au [iV x9.1,iV x9.2.1] p1 0 w5 λw10=>
A8 [KI,KI] p1 0 w10 λx11=>
R ((x11.1,x11.2.1,()),()) w10) (
Ci (λ(self12:((Int)×Unit)→WP) (z13:(Int)×Unit) w14=> ∀_:Nat→Value,
Aj (decide (z13.1<(list.2.1:Int))) (
Ny list.1 list.2.1 z13.1 λa15=>
A8 Aab (a15.add (z13.1.toNat*3)) 0 w14 λx16=>
Bf Ao4 T.Du w14 λp17 w18=>
Au (encs Aab x16) p17 0 w18 λw19=>
A8 Aab p17 0 w19 λx20=>
Ae prog F.C9 [Sv Aab x20] w19 false r0' λr21 w22=>
Aj (!r21.1.1) (
A8 [KI,KI] p3 0 w22 λx23=>
Au [iV x23.1,iV x23.2.1] p1 0 w22 λw24=>
A8 [KI,KI] p1 0 w24 λx25=>
R ((x25.1,x25.2.1,()),()) w24) (
self12 (wrap .i64 (z13.1+1),()) w22)) (
Ae prog F.Rt [.slice list.1 list.2.1 list.2.2] w14 true Ajx λr26 w27=>
Bf z23' T.jS w27 λp28 w29=>
Au (encs vP r26.1) p28 0 w29 λw30=>
ld1 KI p28 w30 λx31=>
ld1 KI (p28.add 4) w30 λx32=>
ld1 KI (p28.add 1) w30 λx33=>
ld1 KI (p28.add 1) w30 λx34=>
Aj (!r26.2.1.1) (
A8 [KI,KI] p3 0 w30 λx35=>
Au [iV x35.1,iV x35.2.1] p1 0 w30 λw36=>
A8 [KI,KI] p1 0 w36 λx37=>
R ((x37.1,x37.2.1,()),()) w36) (
Aj (decide ((wrap .i64 ((wrap .i64 (x31*x32))-(wrap .i64 (x33*x34))))<1)) (
A8 [KI,KI] p3 0 w30 λx38=>
Au [iV x38.1,iV x38.2.1] p1 0 w30 λw39=>
A8 [KI,KI] p1 0 w39 λx40=>
R ((x40.1,x40.2.1,()),()) w39) (
ld1 KI p28 w30 λx41=>
ld1 KI (p28.add 3) w30 λx42=>
ld1 KI (p28.add 1) w30 λx43=>
ld1 KI (p28.add 2) w30 λx44=>
Ae prog F.Vr [iV Aw] w30 false Aj7 λr45 w46=>
Bf [iV 0,iV 0] T.Xi w46 λp47 w48=>
Au [iV r45.1.1,iV r45.1.2.1] p47 0 w48 λw49=>
Cc (λ(J50:((Bool)×Unit)→WP)=>
Aj (decide ((wrap .i64 ((wrap .i64 (x41*x42))-(wrap .i64 (x43*x44))))>0)) (
A8 [KI,KI] p47 0 w49 λx53=>
Ae prog F.Td [.agg #[iV (wrap .i64 ((wrap .i64 (x41*x42))-(wrap .i64 (x43*x44)))),iV (wrap .i64 ((wrap .i64 (x31*x32))-(wrap .i64 (x33*x34))))],.agg #[iV x53.1,iV x53.2.1]] w49 false r0' λr54 w55=>
J50 (r54.1.1,()) w55) (
J50 (false,()) w49)) (λ(z51:(Bool)×Unit) w52=> ∀_:Nat→Value,
Aj z51.1 (
A8 [KI,KI] p47 0 w52 λx56=>
Au [iV x56.1,iV x56.2.1] p1 0 w52 λw57=>
A8 [KI,KI] p1 0 w57 λx58=>
R ((x58.1,x58.2.1,()),()) w57) (
Cc (λ(J59:((Bool)×Unit)→WP)=>
Aj (decide ((wrap .i64 ((wrap .i64 (x41*x42))-(wrap .i64 (x43*x44))))<0)) (
A8 [KI,KI] p47 0 w52 λx62=>
Ae prog F.Td [.agg #[iV (wrap .i64 (0-(wrap .i64 ((wrap .i64 (x41*x42))-(wrap .i64 (x43*x44)))))),iV (wrap .i64 ((wrap .i64 (x31*x32))-(wrap .i64 (x33*x34))))],.agg #[iV x62.1,iV x62.2.1]] w52 false r0' λr63 kJ=>
J59 (r63.1.1,()) kJ) (
J59 (false,()) w52)) (λ(z60:(Bool)×Unit) w61=> ∀_:Nat→Value,
Aj z60.1 (
ld1 KI p47 w61 λx65=>
ld1 KI (p47.add 1) w61 λx66=>
Au [iV (wrap .i64 (0-x65)),iV x66] p1 0 w61 λw67=>
A8 [KI,KI] p1 0 w67 λx68=>
R ((x68.1,x68.2.1,()),()) w67) (
Au [iV (wrap .i64 ((wrap .i64 (x41*x42))-(wrap .i64 (x43*x44)))),iV (wrap .i64 ((wrap .i64 (x31*x32))-(wrap .i64 (x33*x34))))] p1 0 w61 λw69=>
A8 [KI,KI] p1 0 w69 λx70=>
R ((x70.1,x70.2.1,()),()) w69)))))))) (0,()) w5))
theorem Xt.ok{Aw:Int}{list:Option Addr×Nat×Nat}{w:World}{R:TR Aj7→WP}:Xt.wp Aw list w R→Ae prog F.Xt [iV Aw,.slice list.1 list.2.1 list.2.2] w false Aj7 R:=
 oks Aa Tryz.func305 (hs 3 (.s (.s .n (.lp [(25,(.i .i64))] .n)) (hs 5 (.s (.ct [(70,.b)] .n (.s .n (.ct [(81,.b)] .n .n))) .n))))
def Jr.wp(t:Option Addr)(w:World)(R:TR dH→WP):Prop:=
Ae prog F.Gv [.pointer t] w false fC λr1 w2=>
Ae prog F.F8 [r1.1.1] w2 false dH λr3 w4=>
R (((r3.1.1.1,r3.1.1.2.1,r3.1.1.2.2),()),()) w4
theorem Jr.ok{t:Option Addr}{w:World}{R:TR dH→WP}:Jr.wp t w R→Ae prog F.Jr [.pointer t] w false dH R:=
 oks Aa Tryz.func306 .n
def Ky.wp(t:Option Addr)(w:World)(R:TR iT→WP):Prop:=
Bf [iV 0] T.int w λp1 w2=>
Au [iV 0] p1 0 w2 λw3=>
Ae prog F.Gv [.pointer t] w3 false fC λr4 w5=>
RfT prog r4.1.1 Ajw w5 (λx6 k7 w8=>
Bf Ao4 T.Du w8 λp14 w15=>
Au [iV x6.1.1,iV x6.1.2.1,iV x6.1.2.2.1] p14 0 w15 λw16=>
k7 w16 λgo9 lv10 w11=>
ld1 KI p1 w11 λx17=>
ld1 KI (p14.add 2) w11 λx18=>
Au [iV (if x18>x17 then x18 else x17)] p1 0 w11 λw19=>
go9 w19) (λD12 w13=>
ld1 KI p1 w13 λx20=>
tkK D12 w13 λw21=>
R ((x20,()),()) w21) []
theorem Ky.ok{t:Option Addr}{w:World}{R:TR iT→WP}:Ky.wp t w R→Ae prog F.Ky [.pointer t] w false iT R:=
 oks Aa Tryz.func307 (hs 2 (.s (.s .n (.rf [(true,[(.i .i64),(.i .i64),(.i .i64)])] .n .n)) .n))
def Jq.wp(s0 s1 ticks:Int)(w:World)(R:TR iT→WP):Prop:=
Bf [iV s0,iV s1] T.Xi w λp1 w2=>
ld1 KI p1 w2 λx3=>
ld1 KI (p1.add 1) w2 λx4=>
Ae prog F.Vl [iV x3,iV ticks,iV x4] w2 true fE λr5 w6=>
R ((r5.1.1,()),()) w6
theorem Jq.ok{s0 s1 ticks:Int}{w:World}{R:TR iT→WP}:Jq.wp s0 s1 ticks w R→Ae prog F.Jq [.agg #[iV s0,iV s1],iV ticks] w false iT R:=
 oks Aa Tryz.func308 .n
def Yb.wp(a b:Int)(w:World)(R:TR iT→WP):Prop:=
Ae prog F.Y7 [iV a,iV b] w true fE λr1 w2=>
Aj r1.2.1.1 (
R ((r1.1.1,()),()) w2) (
Aj (decide (b>0)) (
R ((9223372036854775807,()),()) w2) (
R (((Int.negSucc 9223372036854775807),()),()) w2))
theorem Yb.ok{a b:Int}{w:World}{R:TR iT→WP}:Yb.wp a b w R→Ae prog F.Yb [iV a,iV b] w false iT R:=
 oks Aa Tryz.func309 .n
def Es.wp(t0 t1 t2 t3:Int)(w:World)(R:TR r0'→WP):Prop:=
Bf [iV t0,iV t1,iV t2,iV t3] T.Xh w λp1 w2=>
ld1 KI p1 w2 λx3=>
Aj (decide (x3≥0)) (
ld1 KI p1 w2 λx4=>
Aj (decide (x4≤10)) (
ld1 KI (p1.add 1) w2 λx5=>
Aj (decide (x5≥0)) (
ld1 KI (p1.add 1) w2 λx6=>
Aj (decide (x6≤20)) (
ld1 KI (p1.add 2) w2 λx7=>
Aj (decide (x7≥1)) (
ld1 KI (p1.add 2) w2 λx8=>
Aj (decide (x8≤1000)) (
ld1 KI (p1.add 3) w2 λx9=>
Aj (decide (x9≥1)) (
ld1 KI (p1.add 3) w2 λx10=>
R ((decide (x10≤64),()),()) w2) (
R ((false,()),()) w2)) (
R ((false,()),()) w2)) (
R ((false,()),()) w2)) (
R ((false,()),()) w2)) (
R ((false,()),()) w2)) (
R ((false,()),()) w2)) (
R ((false,()),()) w2)
theorem Es.ok{t0 t1 t2 t3:Int}{w:World}{R:TR r0'→WP}:Es.wp t0 t1 t2 t3 w R→Ae prog F.Es [.agg #[iV t0,iV t1,iV t2,iV t3]] w false r0' R:=
 oks Aa Tryz.func310 .n
def Ir.wp(t0 t1 t2 t3 rounds:Int)(w:World)(R:TR iT→WP):Prop:=
Bf [iV t0,iV t1,iV t2,iV t3] T.Xh w λp1 w2=>
Jg w2 λw3=>
ld1 KI p1 w3 λx4=>
A8 aU p1 0 w3 λx5=>
Ae prog F.I7 [Sv aU x5,iV rounds] w3 false iT λr6 w7=>
A7 [hd 1 p1 w3] w7∧(
ld1 KI p1 w7 λx8=>
A8 aU p1 0 w7 λx9=>
Ae prog F.Es [Sv aU x9] w7 false r0' λr10 w11=>
Aj (!r10.1.1) (
R ((0,()),()) w11) (
dF (wrap .i64 (1000-x8)) (
R ((wrap .i64 (Int.tdiv (wrap .i64 ((wrap .i64 ((wrap .i64 ((wrap .i64 (2*x4))*r6.1.1))+(wrap .i64 (1000-x8))))-1)) (wrap .i64 (1000-x8))),()),()) w11)))
theorem Ir.ok{t0 t1 t2 t3 rounds:Int}{w:World}{R:TR iT→WP}:Ir.wp t0 t1 t2 t3 rounds w R→Ae prog F.Ir [.agg #[iV t0,iV t1,iV t2,iV t3],iV rounds] w false iT R:=
 oks Aa Tryz.func311 (.s .n (.s (.pl (ks [0,1,2,3,4] (.ef 5 [3] (.tk 6 (.tk 7 .z))))) .n))
def Ns.wp(e:Option Addr)(root:Int)(w:World)(R:TR r0'→WP):Prop:=
Cc (λ(J1:((Bool)×Unit)→WP)=>
Aj (decide (root<0)) (
J1 (true,()) w) (
Aq e λa4=>
ld1 KI a4 w λx5=>
J1 (decide (root≥x5),()) w)) (λ(z2:(Bool)×Unit) w3=> ∀_:Nat→Value,
Aj z2.1 (
R ((false,()),()) w3) (
Ae prog F.Bc [.pointer e] w3 false r0' λr6 w7=>
Aj r6.1.1 (
Aq e λa8=>
ld1 KI (a8.add 7) w7 λx9=>
R (((x9==0),()),()) w7) (
Aq e λa10=>
ld1 KI (a10.add 5) w7 λx11=>
Aj (decide (x11<0)) (
R ((true,()),()) w7) (
Aq e λa12=>
ld1 KI (a12.add 5) w7 λx13=>
R ((decide (root≤x13),()),()) w7))))
theorem Ns.ok{e:Option Addr}{root:Int}{w:World}{R:TR r0'→WP}:Ns.wp e root w R→Ae prog F.Ns [.pointer e,iV root] w false r0' R:=
 oks Aa Tryz.func312 (.s .n (.s (.ct [(5,.b)] .n .n) .n))
def Kw.wp(m0 m1 old0 old1:Int)(w:World)(R:TR r0'→WP):Prop:=
Bf [uV m0,uV m1] T.yB w λp1 w2=>
Bf [uV old0,uV old1] T.yB w2 λp3 w4=>
ld1 KU p1 w4 λx5=>
ld1 KU p3 w4 λx6=>
Ae prog F.Pz [uV x5,uV x6] w4 false r0' λr7 w8=>
Aj r7.1.1 (
R ((true,()),()) w8) (
ld1 KU p1 w8 λx9=>
ld1 KU p3 w8 λx10=>
Aj (x9==x10) (
ld1 KU (p1.add 1) w8 λx11=>
ld1 KU (p3.add 1) w8 λx12=>
Ae prog F.Pz [uV x11,uV x12] w8 false r0' λr13 w14=>
R ((r13.1.1,()),()) w14) (
R ((false,()),()) w8))
theorem Kw.ok{m0 m1 old0 old1:Int}{w:World}{R:TR r0'→WP}:Kw.wp m0 m1 old0 old1 w R→Ae prog F.Kw [.agg #[uV m0,uV m1],.agg #[uV old0,uV old1]] w false r0' R:=
 oks Aa Tryz.func313 .n
def Ld.wp(t:Option Addr)(w:World)(R:TR Aar→WP):Prop:=
Bf Ao4 T.Du w λp1 w2=>
Ae prog F.Dk [.pointer t] w2 false iT λr3 w4=>
Aj (r3.1.1==0) (
Au Ao4 p1 0 w4 λw5=>
A8 Aab p1 0 w5 λx6=>
R (x6,(false,()),()) w5) (
Jg w4 λw7=>
Aq t λa8=>
ld1 .sl a8 w7 λx9=>
Aq t λa10=>
ld1 .sl a10 w7 λx11=>
Ny x9.1 x9.2.1 (wrap .i64 ((x11.2.1:Int)-1)) λa12=>
A8 Aab (a12.add ((wrap .i64 ((x11.2.1:Int)-1)).toNat*3)) 0 w7 λx13=>
Au (encs Aab x13) p1 0 w7 λw14=>
A7 [] w14∧(
A8 Aab p1 0 w14 λx15=>
R (x15,(true,()),()) w14))
theorem Ld.ok{t:Option Addr}{w:World}{R:TR Aar→WP}:Ld.wp t w R→Ae prog F.Ld [.pointer t] w true Aar R:=
 oks Aa Tryz.func314 (hs 2 (.s (.pl (ks [0,1,2,3,4,5,6,7,8,9,10,11] (.ef 12 [3,7,11] (.tk 13 .z)))) .n))
def Df.wp(s:Option Addr×Nat×Nat)(w:World)(R:TR dH→WP):Prop:=
Aj (Option.isNone s.1) (
R (((none,0,0),()),()) w) (
Bf [] T.Du w λp1 w2=>
L9 ((Builtin.append_ #[T.Ox,T.Ox] T.Ox #[.slice (some p1) 0 0,.slice s.1 s.2.1 s.2.2]).run prog w2) λy3 w4=>
R (((y3.1,y3.2.1,y3.2.2),()),()) w4)
theorem Df.ok{s:Option Addr×Nat×Nat}{w:World}{R:TR dH→WP}:Df.wp s w R→Ae prog F.Df [.slice s.1 s.2.1 s.2.2] w false dH R:=
 oks Aa Tryz.func315 .n
def Ei.wp(yield:Nat)(c_cap0:Addr)(w:World)(R:TR []→WP):Prop:=
ld1 .p c_cap0 w λx1=>
Ae prog F.Di [.pointer x1] w false iT λr2 w3=>
Ci (λ(self4:((Int)×Unit)→WP) (z5:(Int)×Unit) w6=> ∀_:Nat→Value,
Aj (decide (z5.1<r2.1.1)) (
Jg w6 λw7=>
ld1 .p c_cap0 w7 λx8=>
Aq x8 λa9=>
ld1 .sl a9 w7 λx10=>
ld1 .p c_cap0 w7 λx11=>
Aq x11 λa12=>
ld1 KI (a12.add 1) w7 λx13=>
ld1 .p c_cap0 w7 λx14=>
Aq x14 λa15=>
ld1 .sl a15 w7 λx16=>
dF (x16.2.1:Int) (
Ny x10.1 x10.2.1 (Int.tmod (wrap .i64 (x13+z5.1)) (x16.2.1:Int)) λa17=>
ld1 .any (a17.add ((Int.tmod (wrap .i64 (x13+z5.1)) (x16.2.1:Int)).toNat*1)) w7 λx18=>
yiS prog yield [x18] w7 λb19 w20=>
Aj (!b19) (
R (()) w20) (
self4 (wrap .i64 (z5.1+1),()) w20))) (
R (()) w6)) (0,()) w3
theorem Ei.ok{yield:Nat}{c_cap0:Addr}{w:World}{R:TR []→WP}:Ei.wp yield c_cap0 w R→Ae prog F.Ei [.func (.yield yield) #[] #[],.pointer (some c_cap0)] w true [] R:=
 oks Aa Tryz.func316 (.s .n (.lp [(6,(.i .i64))] (hs 2 (.s (.s .n (.s (.py 19 (ks [0,1,2,3,4,5,6,7,8,9,10,11,12,13,14,15,16,17,18] .z)) .n)) .n))))
def Xr.wp(sum b:Int)(w:World)(R:TR Ar0→WP):Prop:=
fJ 8 (
Ci (λ(self1:((Int)×(Int)×Unit)→WP) (z2:(Int)×(Int)×Unit) w3=> ∀_:Nat→Value,
Aj (decide (z2.2.1<8)) (
fJ 1 (
Aj ((Lm .and .u16 z2.1 32768) !=0) (
self1 (Lm .xor .u16 (Sz .u16 z2.1 1) 4129,wrap .i64 (z2.2.1+1),()) w3) (
self1 (Sz .u16 z2.1 1,wrap .i64 (z2.2.1+1),()) w3))) (
R ((z2.1,()),()) w3)) (Lm .xor .u16 sum (Sz .u16 (wrap .u16 b) 8),0,()) w)
theorem Xr.ok{sum b:Int}{w:World}{R:TR Ar0→WP}:Xr.wp sum b w R→Ae prog F.Xr [uV sum,.int .u8 b] w false Ar0 R:=
 oks Aa Tryz.func317 (hs 2 (.s (.s .n (.lp [(0,(.i .u16)),(11,(.i .i64))] .n)) .n))
def Afs.wp(d0 d1 d2:Int)(w:World)(R:TR r0'→WP):Prop:=
Bf [iV d0,iV d1,iV d2] T.Asn w λp1 w2=>
Jg w2 λw3=>
ld1 KI p1 w3 λx4=>
Aj (decide (x4≥1)) (
ld1 KI p1 w3 λx5=>
Aj (decide (x5≤9999)) (
ld1 KI (p1.add 1) w3 λx6=>
Aj (decide (x6≥1)) (
ld1 KI (p1.add 1) w3 λx7=>
Aj (decide (x7≤12)) (
ld1 KI (p1.add 2) w3 λx8=>
Aj (decide (x8≥1)) (
ld1 KI (p1.add 2) w3 λx9=>
ld1 KI p1 w3 λx10=>
ld1 KI (p1.add 1) w3 λx11=>
Ae prog F.Acp [iV x10,iV x11] w3 false iT λr12 w13=>
A7 [hd 25 (p1.add 2) w3,hd 20 (p1.add 2) w3,hd 15 (p1.add 1) w3,hd 10 (p1.add 1) w3,hd 5 p1 w3,hd 1 p1 w3] w13∧(
R ((decide (x9≤r12.1.1),()),()) w13)) (
R ((false,()),()) w3)) (
R ((false,()),()) w3)) (
R ((false,()),()) w3)) (
R ((false,()),()) w3)) (
R ((false,()),()) w3)
theorem Afs.ok{d0 d1 d2:Int}{w:World}{R:TR r0'→WP}:Afs.wp d0 d1 d2 w R→Ae prog F.Afs [.agg #[iV d0,iV d1,iV d2]] w false r0' R:=
 oks Aa Tryz.func322 (.s .n (.s (.pl (ks [0,1,2,3,4,5,6,7,8,9,10,11,12,13,14,15,16,17,18,19,20,21,22,23,24,25,26,27,28,29] (.ef 30 [27,29] (ks [31,32,33] .z)))) .n))
def Acz.wp(year:Int)(w:World)(R:TR r0'→WP):Prop:=
dF 400 (
Aj ((Int.tmod year 400)==0) (
R ((true,()),()) w) (
dF 4 (
Aj ((Int.tmod year 4)==0) (
dF 100 (
R ((((Int.tmod year 100) !=0),()),()) w)) (
R ((false,()),()) w))))
theorem Acz.ok{year:Int}{w:World}{R:TR r0'→WP}:Acz.wp year w R→Ae prog F.Acz [iV year] w false r0' R:=
 oks Aa Tryz.func323 .n
def U8.wp(s:Option Addr×Nat×Nat)(w:World)(R:TR fC→WP):Prop:=
Bf [.slice s.1 s.2.1 s.2.2] T.Aen w λp1 w2=>
R ((.func (.func F.Hm) #[] #[.pointer (some p1)],()),()) w2
theorem U8.ok{s:Option Addr×Nat×Nat}{w:World}{R:TR fC→WP}:U8.wp s w R→Ae prog F.U8 [.slice s.1 s.2.1 s.2.2] w false fC R:=
 oks Aa Tryz.func330 .n
def Acr.wp(year:Int)(w:World)(R:TR r0'→WP):Prop:=
dF 4 (
Aj ((Int.tmod year 4)==0) (
dF 100 (
Aj ((Int.tmod year 100) !=0) (
R ((true,()),()) w) (
dF 400 (
R ((((Int.tmod year 400)==0),()),()) w)))) (
R ((false,()),()) w))
theorem Acr.ok{year:Int}{w:World}{R:TR r0'→WP}:Acr.wp year w R→Ae prog F.Acr [iV year] w false r0' R:=
 oks Aa Tryz.func331 .n
def Ea.wp(yield:Nat)(c_cap0:Addr)(w:World)(R:TR []→WP):Prop:=
ld1 .p c_cap0 w λx1=>
Ae prog F.Dk [.pointer x1] w false iT λr2 w3=>
Ci (λ(self4:((Int)×Unit)→WP) (z5:(Int)×Unit) w6=> ∀_:Nat→Value,
Aj (decide (z5.1<r2.1.1)) (
ld1 .p c_cap0 w6 λx7=>
Aq x7 λa8=>
ld1 .sl a8 w6 λx9=>
Ny x9.1 x9.2.1 z5.1 λa10=>
A8 Aab (a10.add (z5.1.toNat*3)) 0 w6 λx11=>
yiS prog yield [Sv Aab x11] w6 λb12 w13=>
Aj (!b12) (
R (()) w13) (
self4 (wrap .i64 (z5.1+1),()) w13)) (
R (()) w6)) (0,()) w3
theorem Ea.ok{yield:Nat}{c_cap0:Addr}{w:World}{R:TR []→WP}:Ea.wp yield c_cap0 w R→Ae prog F.Ea [.func (.yield yield) #[] #[],.pointer (some c_cap0)] w true [] R:=
 oks Aa Tryz.func332 (.s .n (.lp [(6,(.i .i64))] .n))
def Rt.wp(list:Option Addr×Nat×Nat)(w:World)(R:TR Ajx→WP):Prop:=
Bf z23' T.jS w λp1 w2=>
Bf z23' T.jS w2 λp3 w4=>
Ci (λ(self5:((Int)×Unit)→WP) (z6:(Int)×Unit) w7=> ∀_:Nat→Value,
Aj (decide (z6.1<(list.2.1:Int))) (
Ny list.1 list.2.1 z6.1 λa8=>
A8 Aab (a8.add (z6.1.toNat*3)) 0 w7 λx9=>
Bf Ao4 T.Du w7 λp10 w11=>
Au (encs Aab x9) p10 0 w11 λw12=>
Jg w12 λw13=>
ld1 KI p10 w13 λx14=>
Ny list.1 list.2.1 0 λa15=>
ld1 KI (a15.add ((0:Int).toNat*3)) w13 λx16=>
ld1 KI (p10.add 1) w13 λx17=>
Ny list.1 list.2.1 0 λa18=>
ld1 KI ((a18.add ((0:Int).toNat*3)).add 1) w13 λx19=>
Aj (decide ((wrap .i64 (x14-x16))<0)) (
Au z23' p1 0 w13 λw20=>
A8 vP p1 0 w20 λx21=>
R (x21,(false,()),()) w20) (
Aj (decide ((wrap .i64 (x14-x16))>4194304)) (
Au z23' p1 0 w13 λw22=>
A8 vP p1 0 w22 λx23=>
R (x23,(false,()),()) w22) (
Aj (decide ((wrap .i64 (x17-x19))<(Int.negSucc 4194303))) (
Au z23' p1 0 w13 λw24=>
A8 vP p1 0 w24 λx25=>
R (x25,(false,()),()) w24) (
Aj (decide ((wrap .i64 (x17-x19))>4194304)) (
Au z23' p1 0 w13 λw26=>
A8 vP p1 0 w26 λx27=>
R (x27,(false,()),()) w26) (
Ae prog F.Ol [.pointer (some p3),iV (wrap .i64 (x14-x16)),iV (wrap .i64 (x17-x19))] w13 true [] λr28 w29=>
self5 (wrap .i64 (z6.1+1),()) w29))))) (
A8 vP p3 0 w7 λx30=>
Au (encs vP x30) p1 0 w7 λw31=>
A8 vP p1 0 w31 λx32=>
R (x32,(true,()),()) w31)) (0,()) w4
theorem Rt.ok{list:Option Addr×Nat×Nat}{w:World}{R:TR Ajx→WP}:Rt.wp list w R→Ae prog F.Rt [.slice list.1 list.2.1 list.2.2] w true Ajx R:=
 oks Aa Tryz.func333 (hs 2 (.s (.s .n (.lp [(11,(.i .i64))] (hs 2 (.s (.s .n (.s (.pl (ks [0,1,2,3,4,5,6,7,8,9,10,11,12,13,14,15] .z)) .n)) .n)))) .n))
def Vr.wp(Aw:Int)(w:World)(R:TR Aj7→WP):Prop:=
Bf [iV 0,iV 0] T.Xi w λp1 w2=>
Ae prog F.Qs [iV Aw,iV 0,iV 10] w2 false iT λr3 w4=>
Au [iV (wrap .i64 (2*r3.1.1)),iV (wrap .i64 (1000-r3.1.1))] p1 0 w4 λw5=>
A8 [KI,KI] p1 0 w5 λx6=>
R ((x6.1,x6.2.1,()),()) w5
theorem Vr.ok{Aw:Int}{w:World}{R:TR Aj7→WP}:Vr.wp Aw w R→Ae prog F.Vr [iV Aw] w false Aj7 R:=
 oks Aa Tryz.func334 .n
def Td.wp(a0 a1 b0 b1:Int)(w:World)(R:TR r0'→WP):Prop:=
Bf [iV a0,iV a1] T.Xi w λp1 w2=>
Bf [iV b0,iV b1] T.Xi w2 λp3 w4=>
ld1 KI p1 w4 λx5=>
ld1 KI (p3.add 1) w4 λx6=>
Ae prog F.bits_Mul64 [.int .u64 (wrap .u64 x5),.int .u64 (wrap .u64 x6)] w4 true Ak4 λr7 w8=>
ld1 KI p3 w8 λx9=>
ld1 KI (p1.add 1) w8 λx10=>
Ae prog F.bits_Mul64 [.int .u64 (wrap .u64 x9),.int .u64 (wrap .u64 x10)] w8 true Ak4 λr11 w12=>
Aj (decide (r7.1.1>r11.1.1)) (
R ((true,()),()) w12) (
Aj (r7.1.1==r11.1.1) (
R ((decide (r7.2.1.1>r11.2.1.1),()),()) w12) (
R ((false,()),()) w12))
theorem Td.ok{a0 a1 b0 b1:Int}{w:World}{R:TR r0'→WP}:Td.wp a0 a1 b0 b1 w R→Ae prog F.Td [.agg #[iV a0,iV a1],.agg #[iV b0,iV b1]] w false r0' R:=
 oks Aa Tryz.func335 .n
def F8.wp(seq:Value)(w:World)(R:TR dH→WP):Prop:=
Ae prog F.Bl [.slice none 0 0,seq] w false dH λr1 w2=>
R (((r1.1.1.1,r1.1.1.2.1,r1.1.1.2.2),()),()) w2
theorem F8.ok{seq:Value}{w:World}{R:TR dH→WP}:F8.wp seq w R→Ae prog F.F8 [seq] w false dH R:=
 oks Aa Tryz.func336 .n
def Vl.wp(a b c:Int)(w:World)(R:TR fE→WP):Prop:=
Aj (decide (c<1)) (
R ((0,()),(false,()),()) w) (
Ae prog F.V8 [iV a] w false aT λr1 w2=>
Ae prog F.V8 [iV b] w2 false aT λr3 w4=>
Ae prog F.bits_Mul64 [.int .u64 r1.1.1,.int .u64 r3.1.1] w4 true Ak4 λr5 w6=>
Aj (decide (r5.1.1≥(wrap .u64 c))) (
R ((0,()),(false,()),()) w6) (
Ae prog F.Vk [.int .u64 r5.1.1,.int .u64 r5.2.1.1,.int .u64 (wrap .u64 c)] w6 true Ak4 λr7 w8=>
Aj ((decide (a<0))==(decide (b<0))) (
Aj (decide (r7.1.1>9223372036854775807)) (
R ((0,()),(false,()),()) w8) (
R ((wrap .i64 r7.1.1,()),(true,()),()) w8)) (
Cc (λ(J9:((Int)×Unit)→WP)=>
Aj (decide (r7.2.1.1>0)) (
Aj ((wrap .u64 (r7.1.1+1))==0) (
R ((0,()),(false,()),()) w8) (
J9 (wrap .u64 (r7.1.1+1),()) w8)) (
J9 (r7.1.1,()) w8)) (λ(z10:(Int)×Unit) w11=> ∀_:Nat→Value,
Aj (decide (z10.1>9223372036854775808)) (
R ((0,()),(false,()),()) w11) (
R ((wrap .i64 (wrap .u64 (0-z10.1)),()),(true,()),()) w11)))))
theorem Vl.ok{a b c:Int}{w:World}{R:TR fE→WP}:Vl.wp a b c w R→Ae prog F.Vl [iV a,iV b,iV c] w true fE R:=
 oks Aa Tryz.func337 (hs 6 (.ct [(10,(.i .u64))] .n .n))
def Y7.wp(a b:Int)(w:World)(R:TR fE→WP):Prop:=
Aj (!((decide ((wrap .i64 (a+b))>a))==(decide (b>0)))) (
Aj (b !=0) (
R ((0,()),(false,()),()) w) (
R ((wrap .i64 (a+b),()),(true,()),()) w)) (
R ((wrap .i64 (a+b),()),(true,()),()) w)
theorem Y7.ok{a b:Int}{w:World}{R:TR fE→WP}:Y7.wp a b w R→Ae prog F.Y7 [iV a,iV b] w true fE R:=
 oks Aa Tryz.func338 .n
def I7.wp(t0 t1 t2 t3 rounds:Int)(w:World)(R:TR iT→WP):Prop:=
Bf [iV t0,iV t1,iV t2,iV t3] T.Xh w λp1 w2=>
A8 aU p1 0 w2 λx3=>
Ae prog F.Es [Sv aU x3] w2 false r0' λr4 w5=>
Aj (!r4.1.1) (
R ((0,()),()) w5) (
Aj (decide (rounds<0)) (
R ((0,()),()) w5) (
Aj (decide (rounds>1073741824)) (
R ((0,()),()) w5) (
ld1 KI (p1.add 3) w5 λx6=>
ld1 KI p1 w5 λx7=>
R ((wrap .i64 ((wrap .i64 (rounds*x6))*(wrap .i64 (1000+x7))),()),()) w5)))
theorem I7.ok{t0 t1 t2 t3 rounds:Int}{w:World}{R:TR iT→WP}:I7.wp t0 t1 t2 t3 rounds w R→Ae prog F.I7 [.agg #[iV t0,iV t1,iV t2,iV t3],iV rounds] w false iT R:=
 oks Aa Tryz.func339 .n
def Acp.wp(year month:Int)(w:World)(R:TR iT→WP):Prop:=
Cc (λ(J1:((Bool)×Unit)→WP)=>
Aj (month==4) (
J1 ((month==4),()) w) (
Aj (month==6) (
J1 ((month==6),()) w) (
Aj (month==9) (
J1 ((month==9),()) w) (
J1 ((month==11),()) w)))) (λ(z2:(Bool)×Unit) w3=> ∀_:Nat→Value,
Aj z2.1 (
R ((30,()),()) w3) (
Aj (month==2) (
Ae prog F.Acz [iV year] w3 false r0' λr4 w5=>
Aj r4.1.1 (
R ((29,()),()) w5) (
R ((28,()),()) w5)) (
R ((31,()),()) w3)))
theorem Acp.ok{year month:Int}{w:World}{R:TR iT→WP}:Acp.wp year month w R→Ae prog F.Acp [iV year,iV month] w false iT R:=
 oks Aa Tryz.func343 (.s .n (.s (.s .n (.ct [(6,.b)] .n .n)) .n))
def Hm.wp(yield:Nat)(c_cap0:Addr)(w:World)(R:TR []→WP):Prop:=
ld1 .sl c_cap0 w λx1=>
Ci (λ(self2:((Int)×Unit)→WP) (z3:(Int)×Unit) w4=> ∀_:Nat→Value,
Aj (decide (z3.1<(x1.2.1:Int))) (
Ny x1.1 x1.2.1 z3.1 λa5=>
A8 [KI,KI] (a5.add (z3.1.toNat*2)) 0 w4 λx6=>
Bf [iV 0,iV 0] T.Ags w4 λp7 w8=>
Au [iV x6.1,iV x6.2.1] p7 0 w8 λw9=>
A8 [KI,KI] p7 0 w9 λx10=>
yiS prog yield [.agg #[iV x10.1,iV x10.2.1]] w9 λb11 w12=>
Aj (!b11) (
R (()) w12) (
self2 (wrap .i64 (z3.1+1),()) w12)) (
R (()) w4)) (0,()) w
theorem Hm.ok{yield:Nat}{c_cap0:Addr}{w:World}{R:TR []→WP}:Hm.wp yield c_cap0 w R→Ae prog F.Hm [.func (.yield yield) #[] #[],.pointer (some c_cap0)] w true [] R:=
 oks Aa Tryz.func346 (.s .n (.lp [(7,(.i .i64))] .n))
def Ol.wp(s:Option Addr)(x y:Int)(w:World)(R:TR []→WP):Prop:=
Aq s λa1=>
ld1 KI a1 w λx2=>
Aq s λa3=>
Au [iV (wrap .i64 (x2+1))] a3 0 w λw4=>
Aq s λa5=>
ld1 KI (a5.add 1) w4 λx6=>
Aq s λa7=>
Au [iV (wrap .i64 (x6+x))] (a7.add 1) 0 w4 λw8=>
Aq s λa9=>
ld1 KI (a9.add 2) w8 λx10=>
Aq s λa11=>
Au [iV (wrap .i64 (x10+y))] (a11.add 2) 0 w8 λw12=>
Aq s λa13=>
ld1 KI (a13.add 3) w12 λx14=>
Aq s λa15=>
Au [iV (wrap .i64 (x14+(wrap .i64 (x*y))))] (a15.add 3) 0 w12 λw16=>
Aq s λa17=>
ld1 KI (a17.add 4) w16 λx18=>
Aq s λa19=>
Au [iV (wrap .i64 (x18+(wrap .i64 (x*x))))] (a19.add 4) 0 w16 λw20=>
R (()) w20
theorem Ol.ok{s:Option Addr}{x y:Int}{w:World}{R:TR []→WP}:Ol.wp s x y w R→Ae prog F.Ol [.pointer s,iV x,iV y] w true [] R:=
 oks Aa Tryz.func347 .n
def bits_Mul64.wp(x y:Int)(w:World)(R:TR Ak4→WP):Prop:=
fJ 32 (
fJ 32 (
fJ 32 (
fJ 32 (
fJ 32 (
R ((wrap .u64 ((wrap .u64 ((wrap .u64 ((Qv .u64 x 32)*(Qv .u64 y 32)))+(Qv .u64 (wrap .u64 ((wrap .u64 ((Qv .u64 x 32)*(Lm .and .u64 y 4294967295)))+(Qv .u64 (wrap .u64 ((Lm .and .u64 x 4294967295)*(Lm .and .u64 y 4294967295))) 32))) 32)))+(Qv .u64 (wrap .u64 ((Lm .and .u64 (wrap .u64 ((wrap .u64 ((Qv .u64 x 32)*(Lm .and .u64 y 4294967295)))+(Qv .u64 (wrap .u64 ((Lm .and .u64 x 4294967295)*(Lm .and .u64 y 4294967295))) 32))) 4294967295)+(wrap .u64 ((Lm .and .u64 x 4294967295)*(Qv .u64 y 32))))) 32)),()),(wrap .u64 (x*y),()),()) w)))))
theorem bits_Mul64.ok{x y:Int}{w:World}{R:TR Ak4→WP}:bits_Mul64.wp x y w R→Ae prog F.bits_Mul64 [.int .u64 x,.int .u64 y] w true Ak4 R:=
 oks Aa Tryz.func348 .n
def Bl.wp(s:Option Addr×Nat×Nat)(seq:Value)(w:World)(R:TR dH→WP):Prop:=
Bf [.slice s.1 s.2.1 s.2.2] T.Ox w λp1 w2=>
RfT prog seq Ajw w2 (λx3 k4 w5=>
Bf Ao4 T.Du w5 λp11 w12=>
Au [iV x3.1.1,iV x3.1.2.1,iV x3.1.2.2.1] p11 0 w12 λw13=>
k4 w13 λgo6 lv7 w8=>
ld1 .sl p1 w8 λx14=>
A8 Aab p11 0 w8 λx15=>
Bf (encs Aab x15) T.Du w8 λp16 w17=>
L9 ((Builtin.append_ #[T.Ox,T.Ox] T.Ox #[.slice x14.1 x14.2.1 x14.2.2,.slice (some p16) 1 1]).run prog w17) λy18 w19=>
Au [.slice y18.1 y18.2.1 y18.2.2] p1 0 w19 λw20=>
go6 w20) (λD9 w10=>
ld1 .sl p1 w10 λx21=>
tkK D9 w10 λw22=>
R (((x21.1,x21.2.1,x21.2.2),()),()) w22) []
theorem Bl.ok{s:Option Addr×Nat×Nat}{seq:Value}{w:World}{R:TR dH→WP}:Bl.wp s seq w R→Ae prog F.Bl [.slice s.1 s.2.1 s.2.2,seq] w false dH R:=
 oks Aa Tryz.func349 (.s .n (.s (.s .n (.rf [(true,[(.i .i64),(.i .i64),(.i .i64)])] .n .n)) .n))
def V8.wp(n:Int)(w:World)(R:TR aT→WP):Prop:=
Aj (decide (n<0)) (
R ((wrap .u64 (0-(wrap .u64 n)),()),()) w) (
R ((wrap .u64 n,()),()) w)
theorem V8.ok{n:Int}{w:World}{R:TR aT→WP}:V8.wp n w R→Ae prog F.V8 [iV n] w false aT R:=
 oks Aa Tryz.func350 .n
def Vk.wp(hi lo y:Int)(w:World)(R:TR Ak4→WP):Prop:=
Aj (y==0) (
ld1 .any ⟨1,0,none⟩ w λx1=>
False) (
Aj (decide (y≤hi)) (
ld1 .any ⟨2,0,none⟩ w λx2=>
False) (
Aj (hi==0) (
Jg w λw3=>
dF y (
dF y (
R ((wrap .u64 (Int.tdiv lo y),()),(Int.tmod lo y,()),()) w3))) (
Ae prog F.bits_LeadingZeros64 [.int .u64 y] w false iT λr4 w5=>
fJ (wrap .u64 r4.1.1) (
fJ 32 (
fJ (wrap .u64 r4.1.1) (
fJ (wrap .u64 (64-(wrap .u64 r4.1.1))) (
fJ (wrap .u64 r4.1.1) (
fJ 32 (
dF (Qv .u64 (Sz .u64 y (wrap .u64 r4.1.1)) 32) (
Cc (λ(J6:((Int)×Unit)→WP)=>
Ci (λ(self9:((Int)×(Int)×Unit)→WP) (z10:(Int)×(Int)×Unit) w11=> ∀_:Nat→Value,
Cc (λ(J12:Unit→WP)=>
Aj (decide (z10.1≥4294967296)) (
J12 (()) w11) (
Aj (decide ((wrap .u64 (z10.1*(Lm .and .u64 (Sz .u64 y (wrap .u64 r4.1.1)) 4294967295)))>(wrap .u64 ((wrap .u64 (4294967296*z10.2.1))+(Qv .u64 (Sz .u64 lo (wrap .u64 r4.1.1)) 32))))) (
J12 (()) w11) (
J6 (z10.1,()) w11))) (λ(z13:Unit) w14=> ∀_:Nat→Value,
Aj (decide ((wrap .u64 (z10.2.1+(Qv .u64 (Sz .u64 y (wrap .u64 r4.1.1)) 32)))≥4294967296)) (
J6 (wrap .u64 (z10.1-1),()) w14) (
self9 (wrap .u64 (z10.1-1),wrap .u64 (z10.2.1+(Qv .u64 (Sz .u64 y (wrap .u64 r4.1.1)) 32)),()) w14))) (wrap .u64 (Int.tdiv (Lm .or .u64 (Sz .u64 hi (wrap .u64 r4.1.1)) (Qv .u64 lo (wrap .u64 (64-(wrap .u64 r4.1.1))))) (Qv .u64 (Sz .u64 y (wrap .u64 r4.1.1)) 32)),wrap .u64 ((Lm .or .u64 (Sz .u64 hi (wrap .u64 r4.1.1)) (Qv .u64 lo (wrap .u64 (64-(wrap .u64 r4.1.1)))))-(wrap .u64 ((wrap .u64 (Int.tdiv (Lm .or .u64 (Sz .u64 hi (wrap .u64 r4.1.1)) (Qv .u64 lo (wrap .u64 (64-(wrap .u64 r4.1.1))))) (Qv .u64 (Sz .u64 y (wrap .u64 r4.1.1)) 32)))*(Qv .u64 (Sz .u64 y (wrap .u64 r4.1.1)) 32)))),()) w5) (λ(z7:(Int)×Unit) w8=> ∀_:Nat→Value,
dF (Qv .u64 (Sz .u64 y (wrap .u64 r4.1.1)) 32) (
Cc (λ(J15:((Int)×Unit)→WP)=>
Ci (λ(self18:((Int)×(Int)×Unit)→WP) (z19:(Int)×(Int)×Unit) w20=> ∀_:Nat→Value,
Cc (λ(J21:Unit→WP)=>
Aj (decide (z19.2.1≥4294967296)) (
J21 (()) w20) (
Aj (decide ((wrap .u64 (z19.2.1*(Lm .and .u64 (Sz .u64 y (wrap .u64 r4.1.1)) 4294967295)))>(wrap .u64 ((wrap .u64 (4294967296*z19.1))+(Lm .and .u64 (Sz .u64 lo (wrap .u64 r4.1.1)) 4294967295))))) (
J21 (()) w20) (
J15 (z19.2.1,()) w20))) (λ(z22:Unit) w23=> ∀_:Nat→Value,
Aj (decide ((wrap .u64 (z19.1+(Qv .u64 (Sz .u64 y (wrap .u64 r4.1.1)) 32)))≥4294967296)) (
J15 (wrap .u64 (z19.2.1-1),()) w23) (
self18 (wrap .u64 (z19.1+(Qv .u64 (Sz .u64 y (wrap .u64 r4.1.1)) 32)),wrap .u64 (z19.2.1-1),()) w23))) (wrap .u64 ((wrap .u64 ((wrap .u64 ((wrap .u64 ((Lm .or .u64 (Sz .u64 hi (wrap .u64 r4.1.1)) (Qv .u64 lo (wrap .u64 (64-(wrap .u64 r4.1.1)))))*4294967296))+(Qv .u64 (Sz .u64 lo (wrap .u64 r4.1.1)) 32)))-(wrap .u64 (z7.1*(Sz .u64 y (wrap .u64 r4.1.1))))))-(wrap .u64 ((wrap .u64 (Int.tdiv (wrap .u64 ((wrap .u64 ((wrap .u64 ((Lm .or .u64 (Sz .u64 hi (wrap .u64 r4.1.1)) (Qv .u64 lo (wrap .u64 (64-(wrap .u64 r4.1.1)))))*4294967296))+(Qv .u64 (Sz .u64 lo (wrap .u64 r4.1.1)) 32)))-(wrap .u64 (z7.1*(Sz .u64 y (wrap .u64 r4.1.1)))))) (Qv .u64 (Sz .u64 y (wrap .u64 r4.1.1)) 32)))*(Qv .u64 (Sz .u64 y (wrap .u64 r4.1.1)) 32)))),wrap .u64 (Int.tdiv (wrap .u64 ((wrap .u64 ((wrap .u64 ((Lm .or .u64 (Sz .u64 hi (wrap .u64 r4.1.1)) (Qv .u64 lo (wrap .u64 (64-(wrap .u64 r4.1.1)))))*4294967296))+(Qv .u64 (Sz .u64 lo (wrap .u64 r4.1.1)) 32)))-(wrap .u64 (z7.1*(Sz .u64 y (wrap .u64 r4.1.1)))))) (Qv .u64 (Sz .u64 y (wrap .u64 r4.1.1)) 32)),()) w8) (λ(z16:(Int)×Unit) w17=> ∀_:Nat→Value,
fJ (wrap .u64 r4.1.1) (
R ((wrap .u64 ((wrap .u64 (z7.1*4294967296))+z16.1),()),(Qv .u64 (wrap .u64 ((wrap .u64 ((wrap .u64 ((wrap .u64 ((wrap .u64 ((wrap .u64 ((Lm .or .u64 (Sz .u64 hi (wrap .u64 r4.1.1)) (Qv .u64 lo (wrap .u64 (64-(wrap .u64 r4.1.1)))))*4294967296))+(Qv .u64 (Sz .u64 lo (wrap .u64 r4.1.1)) 32)))-(wrap .u64 (z7.1*(Sz .u64 y (wrap .u64 r4.1.1))))))*4294967296))+(Lm .and .u64 (Sz .u64 lo (wrap .u64 r4.1.1)) 4294967295)))-(wrap .u64 (z16.1*(Sz .u64 y (wrap .u64 r4.1.1)))))) (wrap .u64 r4.1.1),()),()) w17))))))))))))))
theorem Vk.ok{hi lo y:Int}{w:World}{R:TR Ak4→WP}:Vk.wp hi lo y w R→Ae prog F.Vk [.int .u64 hi,.int .u64 lo,.int .u64 y] w true Ak4 R:=
 oks Aa Tryz.func351 (hs 3 (.s (.s .n (.s (.s (.pl (ks [0,1,2,3,4,5,6,7] .z)) .n) .n)) (hs 10 (.ct [(15,(.i .u64))] (.lp [(15,(.i .u64)),(16,(.i .u64))] (.ct [] .n .n)) (hs 3 (.ct [(18,(.i .u64))] (.lp [(16,(.i .u64)),(18,(.i .u64))] (.ct [] .n .n)) .n))))))
def bits_LeadingZeros64.wp(x:Int)(w:World)(R:TR iT→WP):Prop:=
Ae prog F.bits_Len64 [.int .u64 x] w false iT λr1 w2=>
R ((wrap .i64 (64-r1.1.1),()),()) w2
theorem bits_LeadingZeros64.ok{x:Int}{w:World}{R:TR iT→WP}:bits_LeadingZeros64.wp x w R→Ae prog F.bits_LeadingZeros64 [.int .u64 x] w false iT R:=
 oks Aa Tryz.func353 .n
def bits_Len64.wp(x:Int)(w:World)(R:TR iT→WP):Prop:=
Cc (λ(J1:((Int)×(Int)×Unit)→WP)=>
Aj (decide (x≥4294967296)) (
fJ 32 (
J1 (Qv .u64 x 32,32,()) w)) (
J1 (x,0,()) w)) (λ(z2:(Int)×(Int)×Unit) w3=> ∀_:Nat→Value,
Cc (λ(J4:((Int)×(Int)×Unit)→WP)=>
Aj (decide (z2.1≥65536)) (
fJ 16 (
J4 (Qv .u64 z2.1 16,wrap .i64 (z2.2.1+16),()) w3)) (
J4 (z2.1,z2.2.1,()) w3)) (λ(z5:(Int)×(Int)×Unit) w6=> ∀_:Nat→Value,
Cc (λ(J7:((Int)×(Int)×Unit)→WP)=>
Aj (decide (z5.1≥256)) (
fJ 8 (
J7 (Qv .u64 z5.1 8,wrap .i64 (z5.2.1+8),()) w6)) (
J7 (z5.1,z5.2.1,()) w6)) (λ(z8:(Int)×(Int)×Unit) w9=> ∀_:Nat→Value,
siK ⟨#[0,1,2,2,3,3,3,3,4,4,4,4,4,4,4,4,5,5,5,5,5,5,5,5,5,5,5,5,5,5,5,5,6,6,6,6,6,6,6,6,6,6,6,6,6,6,6,6,6,6,6,6,6,6,6,6,6,6,6,6,6,6,6,6,7,7,7,7,7,7,7,7,7,7,7,7,7,7,7,7,7,7,7,7,7,7,7,7,7,7,7,7,7,7,7,7,7,7,7,7,7,7,7,7,7,7,7,7,7,7,7,7,7,7,7,7,7,7,7,7,7,7,7,7,7,7,7,7,8,8,8,8,8,8,8,8,8,8,8,8,8,8,8,8,8,8,8,8,8,8,8,8,8,8,8,8,8,8,8,8,8,8,8,8,8,8,8,8,8,8,8,8,8,8,8,8,8,8,8,8,8,8,8,8,8,8,8,8,8,8,8,8,8,8,8,8,8,8,8,8,8,8,8,8,8,8,8,8,8,8,8,8,8,8,8,8,8,8,8,8,8,8,8,8,8,8,8,8,8,8,8,8,8,8,8,8,8,8,8,8,8,8,8,8,8,8,8,8,8,8,8,8,8,8,8,8]⟩ (wrap .u8 z8.1) λc10=>
R ((wrap .i64 (z8.2.1+(wrap .i64 c10)),()),()) w9)))
theorem bits_Len64.ok{x:Int}{w:World}{R:TR iT→WP}:bits_Len64.wp x w R→Ae prog F.bits_Len64 [.int .u64 x] w false iT R:=
 oks Aa Tryz.func357 (.s .n (.ct [(0,(.i .u64)),(2,(.i .i64))] .n (.ct [(0,(.i .u64)),(2,(.i .i64))] .n (.ct [(0,(.i .u64)),(2,(.i .i64))] .n .n))))
def Ll.wp(f0 f1 f2 f3 f4 f5:Int)(w:World)(R:TR iT→WP):Prop:=
Bf [iV f0,uV f1,iV f2,uV f3,iV f4,iV f5] T.Bh w λp1 w2=>
ld1 KI p1 w2 λx3=>
R ((x3,()),()) w2
theorem Ll.ok{f0 f1 f2 f3 f4 f5:Int}{w:World}{R:TR iT→WP}:Ll.wp f0 f1 f2 f3 f4 f5 w R→Ae prog F.Ll [.agg #[iV f0,uV f1,iV f2,uV f3,iV f4,iV f5]] w false iT R:=
 oks Aa Tryz.func378 .n
def Dt.wp(f0 f1 f2 f3 f4 f5:Int)(w:World)(R:TR dH→WP):Prop:=
Bf [iV f0,uV f1,iV f2,uV f3,iV f4,iV f5] T.Bh w λp1 w2=>
Jg w2 λw3=>
ld1 KI p1 w3 λx4=>
ld1 KU (p1.add 1) w3 λx5=>
ld1 KI (p1.add 2) w3 λx6=>
ld1 KU (p1.add 3) w3 λx7=>
ld1 KI (p1.add 4) w3 λx8=>
ld1 KI (p1.add 5) w3 λx9=>
Ae prog F.D5 [iV x4] w3 false Ajw λr10 w11=>
A7 [hd 16 (p1.add 5) w3,hd 13 (p1.add 4) w3,hd 10 (p1.add 3) w3,hd 7 (p1.add 2) w3,hd 4 (p1.add 1) w3,hd 1 p1 w3] w11∧(
Ae prog F.E5 [uV x5] w11 false Ajw λr12 w13=>
A7 [hd 16 (p1.add 5) w3,hd 13 (p1.add 4) w3,hd 10 (p1.add 3) w3,hd 7 (p1.add 2) w3,hd 4 (p1.add 1) w3,hd 1 p1 w3] w13∧(
Ae prog F.D5 [iV x6] w13 false Ajw λr14 w15=>
A7 [hd 16 (p1.add 5) w3,hd 13 (p1.add 4) w3,hd 10 (p1.add 3) w3,hd 7 (p1.add 2) w3,hd 4 (p1.add 1) w3,hd 1 p1 w3] w15∧(
Ae prog F.E5 [uV x7] w15 false Ajw λr16 w17=>
A7 [hd 16 (p1.add 5) w3,hd 13 (p1.add 4) w3,hd 10 (p1.add 3) w3,hd 7 (p1.add 2) w3,hd 4 (p1.add 1) w3,hd 1 p1 w3] w17∧(
Ae prog F.Gn [iV x8] w17 false Ajw λr18 w19=>
A7 [hd 16 (p1.add 5) w3,hd 13 (p1.add 4) w3,hd 10 (p1.add 3) w3,hd 7 (p1.add 2) w3,hd 4 (p1.add 1) w3,hd 1 p1 w3] w19∧(
Ae prog F.Gn [iV x9] w19 false Ajw λr20 w21=>
A7 [hd 16 (p1.add 5) w3,hd 13 (p1.add 4) w3,hd 10 (p1.add 3) w3,hd 7 (p1.add 2) w3,hd 4 (p1.add 1) w3,hd 1 p1 w3] w21∧(
Bf [iV r10.1.1,iV r10.1.2.1,iV r10.1.2.2.1,iV r12.1.1,iV r12.1.2.1,iV r12.1.2.2.1,iV r14.1.1,iV r14.1.2.1,iV r14.1.2.2.1,iV r16.1.1,iV r16.1.2.1,iV r16.1.2.2.1,iV r18.1.1,iV r18.1.2.1,iV r18.1.2.2.1,iV r20.1.1,iV r20.1.2.1,iV r20.1.2.2.1] T.Dl w21 λp22 w23=>
A7 [hd 16 (p1.add 5) w3,hd 13 (p1.add 4) w3,hd 10 (p1.add 3) w3,hd 7 (p1.add 2) w3,hd 4 (p1.add 1) w3,hd 1 p1 w3] w23∧(
R (((some p22,6,6),()),()) w23)))))))
theorem Dt.ok{f0 f1 f2 f3 f4 f5:Int}{w:World}{R:TR dH→WP}:Dt.wp f0 f1 f2 f3 f4 f5 w R→Ae prog F.Dt [.agg #[iV f0,uV f1,iV f2,uV f3,iV f4,iV f5]] w false dH R:=
 oks Aa Tryz.func379 (.s .n (.s (.pl (ks [0,1,3,4,6,7,9,10,12,13,15,16] (.ef 2 [] (.ef 5 [] (.ef 8 [] (.ef 11 [] (.ef 14 [] (.ef 17 [] (.ef 18 [] (.tk 19 .z)))))))))) .n))
def D5.wp(n:Int)(w:World)(R:TR Ajw→WP):Prop:=
Bf Ao4 T.Dl w λp1 w2=>
Au [iV 1,iV n,iV 63] p1 0 w2 λw3=>
A8 Aab p1 0 w3 λx4=>
R (x4,()) w3
theorem D5.ok{n:Int}{w:World}{R:TR Ajw→WP}:D5.wp n w R→Ae prog F.D5 [iV n] w false Ajw R:=
 oks Aa Tryz.func380 .n
def E5.wp(n:Int)(w:World)(R:TR Ajw→WP):Prop:=
Bf Ao4 T.Dl w λp1 w2=>
Au [iV 2,iV (wrap .i64 n),iV 65535] p1 0 w2 λw3=>
A8 Aab p1 0 w3 λx4=>
R (x4,()) w3
theorem E5.ok{n:Int}{w:World}{R:TR Ajw→WP}:E5.wp n w R→Ae prog F.E5 [uV n] w false Ajw R:=
 oks Aa Tryz.func381 .n
def Gn.wp(n:Int)(w:World)(R:TR Ajw→WP):Prop:=
Bf Ao4 T.Dl w λp1 w2=>
Au [iV 8,iV n,iV 1125899906842624] p1 0 w2 λw3=>
A8 Aab p1 0 w3 λx4=>
R (x4,()) w3
theorem Gn.ok{n:Int}{w:World}{R:TR Ajw→WP}:Gn.wp n w R→Ae prog F.Gn [iV n] w false Ajw R:=
 oks Aa Tryz.func382 .n
def Ob.wp(f0 f1 f2 f3 f4 f5:Int)(w:World)(R:TR iT→WP):Prop:=
Bf [iV f0,iV f1,uV f2,uV f3,iV f4,iV f5] T.Dy w λp1 w2=>
ld1 KI p1 w2 λx3=>
R ((x3,()),()) w2
theorem Ob.ok{f0 f1 f2 f3 f4 f5:Int}{w:World}{R:TR iT→WP}:Ob.wp f0 f1 f2 f3 f4 f5 w R→Ae prog F.Ob [.agg #[iV f0,iV f1,uV f2,uV f3,iV f4,iV f5]] w false iT R:=
 oks Aa Tryz.func384 .n
def Dh.wp(f0 f1 f2 f3 f4 f5:Int)(w:World)(R:TR dH→WP):Prop:=
Bf [iV f0,iV f1,uV f2,uV f3,iV f4,iV f5] T.Dy w λp1 w2=>
Jg w2 λw3=>
ld1 KI p1 w3 λx4=>
ld1 KI (p1.add 1) w3 λx5=>
ld1 KU (p1.add 2) w3 λx6=>
ld1 KU (p1.add 3) w3 λx7=>
ld1 KI (p1.add 4) w3 λx8=>
ld1 KI (p1.add 5) w3 λx9=>
Ae prog F.D5 [iV x4] w3 false Ajw λr10 w11=>
A7 [hd 16 (p1.add 5) w3,hd 13 (p1.add 4) w3,hd 10 (p1.add 3) w3,hd 7 (p1.add 2) w3,hd 4 (p1.add 1) w3,hd 1 p1 w3] w11∧(
Ae prog F.D5 [iV x5] w11 false Ajw λr12 w13=>
A7 [hd 16 (p1.add 5) w3,hd 13 (p1.add 4) w3,hd 10 (p1.add 3) w3,hd 7 (p1.add 2) w3,hd 4 (p1.add 1) w3,hd 1 p1 w3] w13∧(
Ae prog F.E5 [uV x6] w13 false Ajw λr14 w15=>
A7 [hd 16 (p1.add 5) w3,hd 13 (p1.add 4) w3,hd 10 (p1.add 3) w3,hd 7 (p1.add 2) w3,hd 4 (p1.add 1) w3,hd 1 p1 w3] w15∧(
Ae prog F.E5 [uV x7] w15 false Ajw λr16 w17=>
A7 [hd 16 (p1.add 5) w3,hd 13 (p1.add 4) w3,hd 10 (p1.add 3) w3,hd 7 (p1.add 2) w3,hd 4 (p1.add 1) w3,hd 1 p1 w3] w17∧(
Ae prog F.Qp [iV x8] w17 false Ajw λr18 w19=>
A7 [hd 16 (p1.add 5) w3,hd 13 (p1.add 4) w3,hd 10 (p1.add 3) w3,hd 7 (p1.add 2) w3,hd 4 (p1.add 1) w3,hd 1 p1 w3] w19∧(
Ae prog F.Gn [iV x9] w19 false Ajw λr20 w21=>
A7 [hd 16 (p1.add 5) w3,hd 13 (p1.add 4) w3,hd 10 (p1.add 3) w3,hd 7 (p1.add 2) w3,hd 4 (p1.add 1) w3,hd 1 p1 w3] w21∧(
Bf [iV r10.1.1,iV r10.1.2.1,iV r10.1.2.2.1,iV r12.1.1,iV r12.1.2.1,iV r12.1.2.2.1,iV r14.1.1,iV r14.1.2.1,iV r14.1.2.2.1,iV r16.1.1,iV r16.1.2.1,iV r16.1.2.2.1,iV r18.1.1,iV r18.1.2.1,iV r18.1.2.2.1,iV r20.1.1,iV r20.1.2.1,iV r20.1.2.2.1] T.Dl w21 λp22 w23=>
A7 [hd 16 (p1.add 5) w3,hd 13 (p1.add 4) w3,hd 10 (p1.add 3) w3,hd 7 (p1.add 2) w3,hd 4 (p1.add 1) w3,hd 1 p1 w3] w23∧(
R (((some p22,6,6),()),()) w23)))))))
theorem Dh.ok{f0 f1 f2 f3 f4 f5:Int}{w:World}{R:TR dH→WP}:Dh.wp f0 f1 f2 f3 f4 f5 w R→Ae prog F.Dh [.agg #[iV f0,iV f1,uV f2,uV f3,iV f4,iV f5]] w false dH R:=
 oks Aa Tryz.func385 (.s .n (.s (.pl (ks [0,1,3,4,6,7,9,10,12,13,15,16] (.ef 2 [] (.ef 5 [] (.ef 8 [] (.ef 11 [] (.ef 14 [] (.ef 17 [] (.ef 18 [] (.tk 19 .z)))))))))) .n))
def Qp.wp(n:Int)(w:World)(R:TR Ajw→WP):Prop:=
Bf Ao4 T.Dl w λp1 w2=>
Au [iV 1,iV n,iV 63] p1 0 w2 λw3=>
A8 Aab p1 0 w3 λx4=>
R (x4,()) w3
theorem Qp.ok{n:Int}{w:World}{R:TR Ajw→WP}:Qp.wp n w R→Ae prog F.Qp [iV n] w false Ajw R:=
 oks Aa Tryz.func386 .n
def N9.wp(f0 f1:Int)(w:World)(R:TR iT→WP):Prop:=
Bf [iV f0,iV f1] T.Gj w λp1 w2=>
ld1 KI p1 w2 λx3=>
R ((x3,()),()) w2
theorem N9.ok{f0 f1:Int}{w:World}{R:TR iT→WP}:N9.wp f0 f1 w R→Ae prog F.N9 [.agg #[iV f0,iV f1]] w false iT R:=
 oks Aa Tryz.func387 .n
def Ic.wp(f0 f1:Int)(w:World)(R:TR dH→WP):Prop:=
Bf [iV f0,iV f1] T.Gj w λp1 w2=>
Jg w2 λw3=>
ld1 KI p1 w3 λx4=>
ld1 KI (p1.add 1) w3 λx5=>
Ae prog F.D5 [iV x4] w3 false Ajw λr6 w7=>
A7 [hd 4 (p1.add 1) w3,hd 1 p1 w3] w7∧(
Ae prog F.Qp [iV x5] w7 false Ajw λr8 w9=>
A7 [hd 4 (p1.add 1) w3,hd 1 p1 w3] w9∧(
Bf [iV r6.1.1,iV r6.1.2.1,iV r6.1.2.2.1,iV r8.1.1,iV r8.1.2.1,iV r8.1.2.2.1] T.Dl w9 λp10 w11=>
A7 [hd 4 (p1.add 1) w3,hd 1 p1 w3] w11∧(
R (((some p10,2,2),()),()) w11)))
theorem Ic.ok{f0 f1:Int}{w:World}{R:TR dH→WP}:Ic.wp f0 f1 w R→Ae prog F.Ic [.agg #[iV f0,iV f1]] w false dH R:=
 oks Aa Tryz.func388 (.s .n (.s (.pl (ks [0,1,3,4] (.ef 2 [] (.ef 5 [] (.ef 6 [] (.tk 7 .z)))))) .n))
def Oh.wp(f0:Int)(w:World)(R:TR iT→WP):Prop:=
Bf [iV f0] T.Gp w λp1 w2=>
ld1 KI p1 w2 λx3=>
R ((x3,()),()) w2
theorem Oh.ok{f0:Int}{w:World}{R:TR iT→WP}:Oh.wp f0 w R→Ae prog F.Oh [.agg #[iV f0]] w false iT R:=
 oks Aa Tryz.func389 .n
def D8.wp(f0:Int)(w:World)(R:TR dH→WP):Prop:=
Bf [iV f0] T.Gp w λp1 w2=>
ld1 KI p1 w2 λx3=>
Ae prog F.D5 [iV x3] w2 false Ajw λr4 w5=>
Bf (encs Aab r4.1) T.Dl w5 λp6 w7=>
R (((some p6,1,1),()),()) w7
theorem D8.ok{f0:Int}{w:World}{R:TR dH→WP}:D8.wp f0 w R→Ae prog F.D8 [.agg #[iV f0]] w false dH R:=
 oks Aa Tryz.func390 .n
def Pj.wp(n:Option Addr)(stamp:Int)(w:World)(R:TR Yk→WP):Prop:=
Bf [] T.nH w λp1 w2=>
Cc (λ(J3:Unit→WP)=>
Jg w2 λw6=>
Aq n λa7=>
ld1 .p (a7.add 18) w6 λx8=>
Aq n λa9=>
ld1 .p (a9.add 15) w6 λx10=>
(
Ae prog F.Ar [.pointer x8,.pointer x10,iV stamp] w6 true oI λr11 w12=>
A7 [hd 7 (a9.add 15) w6,hd 3 (a7.add 18) w6] w12∧(
Bf dE T.Bg w12 λp13 w14=>
A7 [hd 7 (a9.add 15) w6,hd 3 (a7.add 18) w6] w14∧(
Au (encs Tu r11.1) p13 0 w14 λw15=>
A7 [] w15∧(
Aj (r11.2.1.1 !=0) (
R ((.nilIface,()),(false,()),()) w15) (
J3 (()) w15)))))∧(
Bf dE T.Bg w6 λp16 w17=>
A7 [hd 7 (a9.add 15) w6,hd 3 (a7.add 18) w6] w17∧(
Ae prog F.Ar [.pointer x8,.pointer x10,iV stamp] w17 true oI λr18 w19=>
A7 [] w19∧(
Au (encs Tu r18.1) p16 0 w19 λw20=>
A7 [] w20∧(
Aj (r18.2.1.1 !=0) (
R ((.nilIface,()),(false,()),()) w20) (
J3 (()) w20)))))) (λ(z4:Unit) w5=> ∀_:Nat→Value,
Jg w5 λw21=>
Aq n λa22=>
ld1 .p (a22.add 16) w21 λx23=>
Aq n λa24=>
ld1 .p (a24.add 15) w21 λx25=>
Ae prog F.Ba [.pointer x25] w21 false r0' λr26 w27=>
A7 [hd 7 (a24.add 15) w21,hd 3 (a22.add 16) w21] w27∧(
Ae prog F.Kr [.pointer x23,.bool r26.1.1] w27 true Asi λr28 w29=>
A7 [hd 7 (a24.add 15) w21] w29∧(
R ((.iface T.Gj (.agg #[iV r28.1.1,iV r28.1.2.1]),()),(r28.2.1.1,()),()) w29)))
theorem Pj.ok{n:Option Addr}{stamp:Int}{w:World}{R:TR Yk→WP}:Pj.wp n stamp w R→Ae prog F.Pj [.agg #[],.pointer n,iV stamp] w true Yk R:=
 oks Aa Tryz.func391 (.s .n (.ct [] (.s (.pl (ks [0,1,2,3,4,5,6,7,8] (.two 9 13 (ks [10,11,12] (.ef 13 [] (.ef 14 [3,7] (.tk 15 .z)))) (.ef 9 [3,7] (ks [10,11,12] (.ef 14 [] (.tk 15 .z))))))) .n) (.s (.pl (ks [0,1,2,3,4,5,6,7] (.ef 8 [] (.ef 9 [3] (ks [10,11,12,13,14] .z))))) .n)))
def Kr.wp(l:Option Addr)(itself:Bool)(w:World)(R:TR Asi→WP):Prop:=
Bf [iV 0,iV 0] T.Gj w λp1 w2=>
Aj (Option.isNone l) (
Au [iV 0,iV 0] p1 0 w2 λw3=>
A8 [KI,KI] p1 0 w3 λx4=>
R ((x4.1,x4.2.1,()),(false,()),()) w3) (
Aj itself (
Aq l λa5=>
ld1 KI a5 w2 λx6=>
Au [iV x6,iV 0] p1 0 w2 λw7=>
A8 [KI,KI] p1 0 w7 λx8=>
R ((x8.1,x8.2.1,()),(true,()),()) w7) (
Aq l λa9=>
ld1 KI (a9.add 1) w2 λx10=>
Aj (decide (x10<0)) (
Au [iV 0,iV 0] p1 0 w2 λw11=>
A8 [KI,KI] p1 0 w11 λx12=>
R ((x12.1,x12.2.1,()),(false,()),()) w11) (
Jg w2 λw13=>
Aq l λa14=>
ld1 KI a14 w13 λx15=>
Aq l λa16=>
ld1 KI (a16.add 1) w13 λx17=>
Au [iV x15,iV x17] p1 0 w13 λw18=>
A7 [] w18∧(
A8 [KI,KI] p1 0 w18 λx19=>
R ((x19.1,x19.2.1,()),(true,()),()) w18))))
theorem Kr.ok{l:Option Addr}{itself:Bool}{w:World}{R:TR Asi→WP}:Kr.wp l itself w R→Ae prog F.Kr [.pointer l,.bool itself] w true Asi R:=
 oks Aa Tryz.func392 (hs 2 (.s (.pl (ks [0,1,2,3,4,5,6,7,8] (.ef 9 [3,7] (.tk 10 .z)))) .n))
def Hf.wp(f0 f1 f2:Int)(w:World)(R:TR iT→WP):Prop:=
Bf [iV f0,iV f1,iV f2] T.Ef w λp1 w2=>
ld1 KI p1 w2 λx3=>
R ((x3,()),()) w2
theorem Hf.ok{f0 f1 f2:Int}{w:World}{R:TR iT→WP}:Hf.wp f0 f1 f2 w R→Ae prog F.Hf [.agg #[iV f0,iV f1,iV f2]] w false iT R:=
 oks Aa Tryz.func393 .n
def He.wp(f0 f1 f2:Int)(w:World)(R:TR dH→WP):Prop:=
Bf [iV f0,iV f1,iV f2] T.Ef w λp1 w2=>
Jg w2 λw3=>
ld1 KI p1 w3 λx4=>
ld1 KI (p1.add 1) w3 λx5=>
ld1 KI (p1.add 2) w3 λx6=>
Ae prog F.D5 [iV x4] w3 false Ajw λr7 w8=>
A7 [hd 7 (p1.add 2) w3,hd 4 (p1.add 1) w3,hd 1 p1 w3] w8∧(
Ae prog F.D5 [iV x5] w8 false Ajw λr9 w10=>
A7 [hd 7 (p1.add 2) w3,hd 4 (p1.add 1) w3,hd 1 p1 w3] w10∧(
Ae prog F.Gn [iV x6] w10 false Ajw λr11 w12=>
A7 [hd 7 (p1.add 2) w3,hd 4 (p1.add 1) w3,hd 1 p1 w3] w12∧(
Bf [iV r7.1.1,iV r7.1.2.1,iV r7.1.2.2.1,iV r9.1.1,iV r9.1.2.1,iV r9.1.2.2.1,iV r11.1.1,iV r11.1.2.1,iV r11.1.2.2.1] T.Dl w12 λp13 w14=>
A7 [hd 7 (p1.add 2) w3,hd 4 (p1.add 1) w3,hd 1 p1 w3] w14∧(
R (((some p13,3,3),()),()) w14))))
theorem He.ok{f0 f1 f2:Int}{w:World}{R:TR dH→WP}:He.wp f0 f1 f2 w R→Ae prog F.He [.agg #[iV f0,iV f1,iV f2]] w false dH R:=
 oks Aa Tryz.func394 (.s .n (.s (.pl (ks [0,1,3,4,6,7] (.ef 2 [] (.ef 5 [] (.ef 8 [] (.ef 9 [] (.tk 10 .z))))))) .n))
def Nk.wp(r0 r1 r2 r3 r4 r5 r6:Int)(n:Option Addr)(stamp:Int)(w:World)(R:TR Yk→WP):Prop:=
Bf [iV r0,iV r1,iV r2,iV r3,iV r4,uV r5,iV r6] T.jZ w λp1 w2=>
Cc (λ(J3:((Addr)×(Int)×Unit)→WP)=>
Jg w2 λw6=>
Aq n λa7=>
ld1 .p (a7.add 18) w6 λx8=>
Aq n λa9=>
ld1 .p (a9.add 15) w6 λx10=>
(
Ae prog F.Ar [.pointer x8,.pointer x10,iV stamp] w6 true oI λr11 w12=>
A7 [hd 7 (a9.add 15) w6,hd 3 (a7.add 18) w6] w12∧(
Bf dE T.Bg w12 λp13 w14=>
A7 [hd 7 (a9.add 15) w6,hd 3 (a7.add 18) w6] w14∧(
Au (encs Tu r11.1) p13 0 w14 λw15=>
A7 [] w15∧(
J3 (p13,r11.2.1.1,()) w15))))∧(
Bf dE T.Bg w6 λp16 w17=>
A7 [hd 7 (a9.add 15) w6,hd 3 (a7.add 18) w6] w17∧(
Ae prog F.Ar [.pointer x8,.pointer x10,iV stamp] w17 true oI λr18 w19=>
A7 [] w19∧(
Au (encs Tu r18.1) p16 0 w19 λw20=>
A7 [] w20∧(
J3 (p16,r18.2.1.1,()) w20))))) (λ(z4:(Addr)×(Int)×Unit) w5=> ∀_:Nat→Value,
Aj (z4.2.1 !=0) (
R ((.nilIface,()),(false,()),()) w5) (
A8 [KI,KU] (z4.1.add 2) 0 w5 λx21=>
A8 [KI,KU] ((p1.add 2).add 2) 0 w5 λx22=>
Aj (!((x21.1==x22.1)&&((x21.2.1==x22.2.1)&&true))) (
R ((.nilIface,()),(false,()),()) w5) (
Jg w5 λw23=>
Aq n λa24=>
ld1 KI a24 w23 λx25=>
ld1 KI p1 w23 λx26=>
ld1 KI (p1.add 1) w23 λx27=>
ld1 KI (p1.add 2) w23 λx28=>
ld1 KI z4.1 w23 λx29=>
ld1 KI (z4.1.add 2) w23 λx30=>
ld1 KU ((z4.1.add 2).add 1) w23 λx31=>
ld1 KI (z4.1.add 1) w23 λx32=>
ld1 KI ((p1.add 2).add 1) w23 λx33=>
R ((.iface T.Gl (.agg #[iV x25,iV x26,iV x27,iV x28,iV x29,iV x30,uV x31,iV (if x33>x32 then x33 else x32)]),()),(true,()),()) w23)))
theorem Nk.ok{r0 r1 r2 r3 r4 r5 r6:Int}{n:Option Addr}{stamp:Int}{w:World}{R:TR Yk→WP}:Nk.wp r0 r1 r2 r3 r4 r5 r6 n stamp w R→Ae prog F.Nk [.agg #[iV r0,iV r1,iV r2,iV r3,iV r4,uV r5,iV r6],.pointer n,iV stamp] w true Yk R:=
 oks Aa Tryz.func395 (.s .n (.ct [(8,.a),(9,(.i .i64))] (.pl (ks [0,1,2,3,4,5,6,7,8] (.two 9 13 (ks [10,11,12] (.ef 13 [] (.ef 14 [3,7] (.tk 15 .z)))) (.ef 9 [3,7] (ks [10,11,12] (.ef 14 [] (.tk 15 .z))))))) (.s .n (.s (.pl (ks [0,1,2,3,4,5,6,7,8,9,10,11,12,13,14,15,16,17,18,19,20,21,22,23,24,25,26,27,28,29] .z)) .n))))
def Lu.wp(f0 f1 f2 f3 f4 f5 f6 f7:Int)(w:World)(R:TR iT→WP):Prop:=
Bf [iV f0,iV f1,iV f2,iV f3,iV f4,iV f5,uV f6,iV f7] T.Gl w λp1 w2=>
ld1 KI p1 w2 λx3=>
R ((x3,()),()) w2
theorem Lu.ok{f0 f1 f2 f3 f4 f5 f6 f7:Int}{w:World}{R:TR iT→WP}:Lu.wp f0 f1 f2 f3 f4 f5 f6 f7 w R→Ae prog F.Lu [.agg #[iV f0,iV f1,iV f2,iV f3,iV f4,iV f5,uV f6,iV f7]] w false iT R:=
 oks Aa Tryz.func396 .n
def G7.wp(f0 f1 f2 f3 f4 f5 f6 f7:Int)(w:World)(R:TR dH→WP):Prop:=
Bf [iV f0,iV f1,iV f2,iV f3,iV f4,iV f5,uV f6,iV f7] T.Gl w λp1 w2=>
Jg w2 λw3=>
ld1 KI p1 w3 λx4=>
ld1 KI (p1.add 1) w3 λx5=>
ld1 KI (p1.add 2) w3 λx6=>
ld1 KI (p1.add 3) w3 λx7=>
ld1 KI (p1.add 4) w3 λx8=>
ld1 KI (p1.add 5) w3 λx9=>
ld1 KU (p1.add 6) w3 λx10=>
ld1 KI (p1.add 7) w3 λx11=>
Ae prog F.D5 [iV x4] w3 false Ajw λr12 w13=>
A7 [hd 22 (p1.add 7) w3,hd 19 (p1.add 6) w3,hd 16 (p1.add 5) w3,hd 13 (p1.add 4) w3,hd 10 (p1.add 3) w3,hd 7 (p1.add 2) w3,hd 4 (p1.add 1) w3,hd 1 p1 w3] w13∧(
Ae prog F.D5 [iV x5] w13 false Ajw λr14 w15=>
A7 [hd 22 (p1.add 7) w3,hd 19 (p1.add 6) w3,hd 16 (p1.add 5) w3,hd 13 (p1.add 4) w3,hd 10 (p1.add 3) w3,hd 7 (p1.add 2) w3,hd 4 (p1.add 1) w3,hd 1 p1 w3] w15∧(
Ae prog F.Gn [iV x6] w15 false Ajw λr16 w17=>
A7 [hd 22 (p1.add 7) w3,hd 19 (p1.add 6) w3,hd 16 (p1.add 5) w3,hd 13 (p1.add 4) w3,hd 10 (p1.add 3) w3,hd 7 (p1.add 2) w3,hd 4 (p1.add 1) w3,hd 1 p1 w3] w17∧(
Ae prog F.Gn [iV x7] w17 false Ajw λr18 w19=>
A7 [hd 22 (p1.add 7) w3,hd 19 (p1.add 6) w3,hd 16 (p1.add 5) w3,hd 13 (p1.add 4) w3,hd 10 (p1.add 3) w3,hd 7 (p1.add 2) w3,hd 4 (p1.add 1) w3,hd 1 p1 w3] w19∧(
Ae prog F.Gn [iV x8] w19 false Ajw λr20 w21=>
A7 [hd 22 (p1.add 7) w3,hd 19 (p1.add 6) w3,hd 16 (p1.add 5) w3,hd 13 (p1.add 4) w3,hd 10 (p1.add 3) w3,hd 7 (p1.add 2) w3,hd 4 (p1.add 1) w3,hd 1 p1 w3] w21∧(
Ae prog F.D5 [iV x9] w21 false Ajw λr22 w23=>
A7 [hd 22 (p1.add 7) w3,hd 19 (p1.add 6) w3,hd 16 (p1.add 5) w3,hd 13 (p1.add 4) w3,hd 10 (p1.add 3) w3,hd 7 (p1.add 2) w3,hd 4 (p1.add 1) w3,hd 1 p1 w3] w23∧(
Ae prog F.E5 [uV x10] w23 false Ajw λr24 w25=>
A7 [hd 22 (p1.add 7) w3,hd 19 (p1.add 6) w3,hd 16 (p1.add 5) w3,hd 13 (p1.add 4) w3,hd 10 (p1.add 3) w3,hd 7 (p1.add 2) w3,hd 4 (p1.add 1) w3,hd 1 p1 w3] w25∧(
Ae prog F.Qp [iV x11] w25 false Ajw λr26 w27=>
A7 [hd 22 (p1.add 7) w3,hd 19 (p1.add 6) w3,hd 16 (p1.add 5) w3,hd 13 (p1.add 4) w3,hd 10 (p1.add 3) w3,hd 7 (p1.add 2) w3,hd 4 (p1.add 1) w3,hd 1 p1 w3] w27∧(
Bf [iV r12.1.1,iV r12.1.2.1,iV r12.1.2.2.1,iV r14.1.1,iV r14.1.2.1,iV r14.1.2.2.1,iV r16.1.1,iV r16.1.2.1,iV r16.1.2.2.1,iV r18.1.1,iV r18.1.2.1,iV r18.1.2.2.1,iV r20.1.1,iV r20.1.2.1,iV r20.1.2.2.1,iV r22.1.1,iV r22.1.2.1,iV r22.1.2.2.1,iV r24.1.1,iV r24.1.2.1,iV r24.1.2.2.1,iV r26.1.1,iV r26.1.2.1,iV r26.1.2.2.1] T.Dl w27 λp28 w29=>
A7 [hd 22 (p1.add 7) w3,hd 19 (p1.add 6) w3,hd 16 (p1.add 5) w3,hd 13 (p1.add 4) w3,hd 10 (p1.add 3) w3,hd 7 (p1.add 2) w3,hd 4 (p1.add 1) w3,hd 1 p1 w3] w29∧(
R (((some p28,8,8),()),()) w29)))))))))
theorem G7.ok{f0 f1 f2 f3 f4 f5 f6 f7:Int}{w:World}{R:TR dH→WP}:G7.wp f0 f1 f2 f3 f4 f5 f6 f7 w R→Ae prog F.G7 [.agg #[iV f0,iV f1,iV f2,iV f3,iV f4,iV f5,uV f6,iV f7]] w false dH R:=
 oks Aa Tryz.func397 (.s .n (.s (.pl (ks [0,1,3,4,6,7,9,10,12,13,15,16,18,19,21,22] (.ef 2 [] (.ef 5 [] (.ef 8 [] (.ef 11 [] (.ef 14 [] (.ef 17 [] (.ef 20 [] (.ef 23 [] (.ef 24 [] (.tk 25 .z)))))))))))) .n))
def Qi.wp(n:Option Addr)(p2:Int)(w:World)(R:TR Yk→WP):Prop:=
Bf [] T.Yr w λp1 w2=>
Aq n λa3=>
Ae prog F.Nc [.pointer (some (a3.add 19))] w2 true Asv λr4 w5=>
Bf Aph T.Bh w5 λp6 w7=>
Au (encs U9 r4.1) p6 0 w7 λw8=>
Aq n λa9=>
ld1 KI a9 w8 λx10=>
Au [iV x10] p6 0 w8 λw11=>
A8 U9 p6 0 w11 λx12=>
R ((.iface T.Bh (Sv U9 x12),()),(r4.2.1.1,()),()) w11
theorem Qi.ok{n:Option Addr}{p2:Int}{w:World}{R:TR Yk→WP}:Qi.wp n p2 w R→Ae prog F.Qi [.agg #[],.pointer n,iV p2] w true Yk R:=
 oks Aa Tryz.func398 .n
def Nc.wp(b:Option Addr)(w:World)(R:TR Asv→WP):Prop:=
Bf Aph T.Bh w λp1 w2=>
Aj (Option.isNone b) (
Au Aph p1 0 w2 λw3=>
A8 U9 p1 0 w3 λx4=>
R (x4,(false,()),()) w3) (
Jg w2 λw5=>
Aq b λa6=>
A8 U9 (a6.add 1) 0 w5 λx7=>
Aq b λa8=>
ld1 .b a8 w5 λx9=>
Au (encs U9 x7) p1 0 w5 λw10=>
A7 [hd 7 a8 w5] w10∧(
A8 U9 p1 0 w10 λx11=>
R (x11,(x9,()),()) w10))
theorem Nc.ok{b:Option Addr}{w:World}{R:TR Asv→WP}:Nc.wp b w R→Ae prog F.Nc [.pointer b] w true Asv R:=
 oks Aa Tryz.func399 (hs 2 (.s (.pl (ks [0,1,2,3,4,5,6,7] (.ef 8 [3] (.tk 9 .z)))) .n))
end Go.Proofs.YticgocmhmffneaaGreatDoor
