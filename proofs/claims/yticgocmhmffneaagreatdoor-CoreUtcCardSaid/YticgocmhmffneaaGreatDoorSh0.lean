import Derived.Test.YticgocmhmffneaaGreatDoorNm
namespace Go.Proofs.YticgocmhmffneaaGreatDoor
open Go.Eng Tryz
open Go.IntKind (wrap)
set_option linter.unusedSimpArgs false
set_option linter.unusedVariables false
set_option maxRecDepth 100000
def Aak.wp(s0 s1 s2 s3 s4 s5 s6 s7 s8 s9:Int)(s10:Option Addr×Nat×Nat)(m0 m1 m2:Int)(m3 script:Option Addr×Nat×Nat)(w:World)(R:TR r0'→WP):Prop:=
Bf [iV s0,iV s1,iV s2,iV s3,iV s4,iV s5,iV s6,iV s7,iV s8,iV s9,.slice s10.1 s10.2.1 s10.2.2] T.J8 w λp1 w2=>
Bf [iV m0,iV m1,iV m2,.slice m3.1 m3.2.1 m3.2.2] T.Ai1 w2 λp3 w4=>
Ae prog F.Oe [] w4 false r0' λr5 w6=>
Aj (!r5.1.1) (
R ((false,()),()) w6) (
A8 k0' p1 0 w6 λx7=>
Ae prog F.Oc [Sv k0' x7,.slice script.1 script.2.1 script.2.2,iV 120] w6 false r0' λr8 w9=>
Aj r8.1.1 (
R ((true,()),()) w9) (
ld1 .sl (p3.add 3) w9 λx10=>
Aj (decide ((x10.2.1:Int)>64)) (
R ((true,()),()) w9) (
A8 k0' p1 0 w9 λx11=>
Ae prog F.Ff [Sv k0' x11] w9 false r0' λr12 w13=>
Aj (!r12.1.1) (
R ((true,()),()) w13) (
A8 vY p3 0 w13 λx14=>
Ae prog F.Aiz [Sv vY x14] w13 false Arw λZb w16=>
A8 k0' p1 0 w16 λx17=>
Ae prog F.Nl [Sv k0' x17] w16 false r1' λr18 w19=>
Ae prog F.Io [Sv k0' r18.1,.pointer Zb.1.1] w19 true r2' λr20 w21=>
Aj (r20.2.1.1 !=0) (
R ((false,()),()) w21) (
Ci (λ(self22:((Option Addr×Nat×Nat)×(Int)×Unit)→WP) (z23:(Option Addr×Nat×Nat)×(Int)×Unit) w24=> ∀_:Nat→Value,
Aj (decide (z23.2.1<(script.2.1:Int))) (
Ny script.1 script.2.1 z23.2.1 λa25=>
A8 uU (a25.add (z23.2.1.toNat*11)) 0 w24 λx26=>
Bf z0' T.uM w24 λp27 w28=>
Au (encs uU x26) p27 0 w28 λw29=>
ld1 KI (p27.add 1) w29 λx30=>
Ae prog F.Dq [.pointer r20.1.1,iV x30] w29 true oI λr31 w32=>
Bf dE T.Bg w32 λp33 w34=>
Au (encs Tu r31.1) p33 0 w34 λw35=>
A8 uU p27 0 w35 λx36=>
Ae prog F.Uw [.pointer r20.1.1,Sv uU x36] w35 false iT λr37 w38=>
Cc (λ(J39:((Option Addr×Nat×Nat)×Unit)→WP)=>
Cc (λ(J42:((Bool)×Unit)→WP)=>
ld1 KI p27 w38 λx45=>
Aj (x45==9) (
ld1 KI (p27.add 1) w38 λx46=>
ld1 KI (p1.add 9) w38 λx47=>
Aj (x46==x47) (
Aj (r31.2.1.1==0) (
Aj (r37.1.1==0) (
J42 (true,()) w38) (
J42 ((r37.1.1==6),()) w38)) (
J42 (false,()) w38)) (
J42 (false,()) w38)) (
J42 (false,()) w38)) (λ(z43:(Bool)×Unit) w44=> ∀_:Nat→Value,
Aj z43.1 (
A8 [KI,KU] (p33.add 2) 0 w44 λx48=>
ld1 KI p33 w44 λx49=>
ld1 KI (p27.add 2) w44 λx50=>
Bf [iV x48.1,uV x48.2.1,iV x49,iV x50] T.Al7 w44 λp51 w52=>
L9 ((Builtin.append_ #[T.Abj,T.Abj] T.Abj #[.slice z23.1.1 z23.1.2.1 z23.1.2.2,.slice (some p51) 1 1]).run prog w52) λy53 w54=>
J39 ((y53.1,y53.2.1,y53.2.2),()) w54) (
J39 ((z23.1.1,z23.1.2.1,z23.1.2.2),()) w44))) (λ(z40:(Option Addr×Nat×Nat)×Unit) w41=> ∀_:Nat→Value,
Ci (λ(self55:((Int)×Unit)→WP) (z56:(Int)×Unit) w57=> ∀_:Nat→Value,
ld1 KI p1 w57 λx58=>
Aj (decide (z56.1<x58)) (
Ae prog F.Aco [.pointer r20.1.1,iV z56.1] w57 true Aa9 λr59 w60=>
Bf Vy T.Ajc w60 λp61 w62=>
Au (encs fH r59.1) p61 0 w62 λw63=>
Ae prog F.Dq [.pointer r20.1.1,iV z56.1] w63 true oI λr64 w65=>
Bf dE T.Bg w65 λp66 w67=>
Au (encs Tu r64.1) p66 0 w67 λw68=>
Aj (r59.2.2.1.1==0) (
A8 Tu p66 0 w68 λx69=>
A8 fH p61 0 w68 λx70=>
Ae prog F.Aiw [.pointer Zb.1.1,.slice z40.1.1 z40.1.2.1 z40.1.2.2,Sv Tu x69,Sv fH x70,iV r59.2.1.1] w68 false r0' λr71 w72=>
Aj (!r71.1.1) (
R ((false,()),()) w72) (
self55 (wrap .i64 (z56.1+1),()) w72)) (
self55 (wrap .i64 (z56.1+1),()) w68)) (
self22 ((z40.1.1,z40.1.2.1,z40.1.2.2),wrap .i64 (z23.2.1+1),()) w57)) (0,()) w41)) (
R ((true,()),()) w24)) ((none,0,0),0,()) w21)))))
theorem Aak.ok{s0 s1 s2 s3 s4 s5 s6 s7 s8 s9:Int}{s10:Option Addr×Nat×Nat}{m0 m1 m2:Int}{m3 script:Option Addr×Nat×Nat}{w:World}{R:TR r0'→WP}:Aak.wp s0 s1 s2 s3 s4 s5 s6 s7 s8 s9 s10 m0 m1 m2 m3 script w R→Ae prog F.Aak [.agg #[iV s0,iV s1,iV s2,iV s3,iV s4,iV s5,iV s6,iV s7,iV s8,iV s9,.slice s10.1 s10.2.1 s10.2.2],.agg #[iV m0,iV m1,iV m2,.slice m3.1 m3.2.1 m3.2.2],.slice script.1 script.2.1 script.2.2] w false r0' R:=
 oks Aa Tryz.func13 (hs 7 (.s (.s .n (.lp [(10,.sl),(51,(.i .i64))] (hs 2 (.s (hs 3 (.ct [(10,.sl)] (.ct [(86,.b)] .n .n) (.s .n (.lp [(16,(.i .i64))] .n)))) .n)))) .n))
def Oe.wp(w:World)(R:TR r0'→WP):Prop:=
Ae prog F.Nl [.agg #[iV 2,iV 1,iV 0,iV 1,iV 0,iV 2,iV 2,iV 1,iV 0,iV (Int.negSucc 0),.slice none 0 0]] w false r1' λr1 w2=>
Ae prog F.Io [Sv k0' r1.1,.pointer none] w2 true r2' λr3 w4=>
Ae prog F.Cf [.pointer r3.1.1,iV 0,iV 1,.bool true] w4 false iT λr5 w6=>
Ae prog F.D7 [.pointer r3.1.1,iV 0,.int .u32 5] w6 false iT λr7 w8=>
Ae prog F.D7 [.pointer r3.1.1,iV 1,.int .u32 700] w8 false iT λr9 w10=>
Ci (λ(self11:((Int)×Unit)→WP) (z12:(Int)×Unit) w13=> ∀_:Nat→Value,
Aj (decide (z12.1<3)) (
Bf [iV 1000,iV 1000] T.int w13 λp14 w15=>
Bf [iV 0,iV 0] T.int w15 λp16 w17=>
Bf [iV 0,iV 0] T.int w17 λp18 w19=>
Ae prog F.Ce [.pointer r3.1.1,.agg #[.slice (some p14) 2 2,.slice (some p16) 2 2,.slice (some p18) 2 2,.slice none 0 0]] w19 false iT λr20 w21=>
Aj (r20.1.1 !=0) (
R ((false,()),()) w21) (
self11 (wrap .i64 (z12.1+1),()) w21)) (
Ae prog F.Dq [.pointer r3.1.1,iV 1] w13 true oI λr22 w23=>
Bf dE T.Bg w23 λp24 w25=>
Au (encs Tu r22.1) p24 0 w25 λw26=>
Aj (r3.2.1.1==0) (
Aj (r22.2.1.1==0) (
ld1 KI (p24.add 2) w26 λx27=>
Aj (x27==0) (
ld1 KI p24 w26 λx28=>
R (((x28==3005),()),()) w26) (
R ((false,()),()) w26)) (
R ((false,()),()) w26)) (
R ((false,()),()) w26))) (0,()) w10
theorem Oe.ok{w:World}{R:TR r0'→WP}:Oe.wp w R→Ae prog F.Oe [] w false r0' R:=
 oks Aa Tryz.func14 (hs 5 (.s (.s .n (.lp [(3,(.i .i64))] .n)) .n))
def Oc.wp(s0 s1 s2 s3 s4 s5 s6 s7 s8 s9:Int)(s10 script:Option Addr×Nat×Nat)(most:Int)(w:World)(R:TR r0'→WP):Prop:=
Bf [iV s0,iV s1,iV s2,iV s3,iV s4,iV s5,iV s6,iV s7,iV s8,iV s9,.slice s10.1 s10.2.1 s10.2.2] T.J8 w λp1 w2=>
ld1 KI p1 w2 λx3=>
Aj (decide (x3>6)) (
R ((true,()),()) w2) (
ld1 .sl (p1.add 10) w2 λx4=>
Aj (decide ((x4.2.1:Int)>100)) (
R ((true,()),()) w2) (
Aj (decide ((script.2.1:Int)>most)) (
R ((true,()),()) w2) (
Ci (λ(self5:((Int)×Unit)→WP) (z6:(Int)×Unit) w7=> ∀_:Nat→Value,
Aj (decide (z6.1<(script.2.1:Int))) (
Ny script.1 script.2.1 z6.1 λa8=>
A8 uU (a8.add (z6.1.toNat*11)) 0 w7 λx9=>
Bf z0' T.uM w7 λp10 w11=>
Au (encs uU x9) p10 0 w11 λw12=>
A8 xP (p10.add 7) 0 w12 λx13=>
Bf z7' T.U0 w12 λp14 w15=>
Au (encs xP x13) p14 0 w15 λw16=>
ld1 .sl (p10.add 6) w16 λx17=>
Aj (decide ((x17.2.1:Int)>200)) (
R ((true,()),()) w16) (
ld1 .s (p10.add 5) w16 λx18=>
Aj (decide ((x18.size:Int)>100)) (
R ((true,()),()) w16) (
ld1 .sl p14 w16 λx19=>
Aj (decide ((x19.2.1:Int)>100)) (
R ((true,()),()) w16) (
ld1 .sl (p14.add 1) w16 λx20=>
Aj (decide ((x20.2.1:Int)>100)) (
R ((true,()),()) w16) (
ld1 .sl (p14.add 2) w16 λx21=>
Aj (decide ((x21.2.1:Int)>100)) (
R ((true,()),()) w16) (
ld1 .sl (p14.add 3) w16 λx22=>
Aj (decide ((x22.2.1:Int)>100)) (
R ((true,()),()) w16) (
self5 (wrap .i64 (z6.1+1),()) w16))))))) (
R ((false,()),()) w7)) (0,()) w2)))
theorem Oc.ok{s0 s1 s2 s3 s4 s5 s6 s7 s8 s9:Int}{s10 script:Option Addr×Nat×Nat}{most:Int}{w:World}{R:TR r0'→WP}:Oc.wp s0 s1 s2 s3 s4 s5 s6 s7 s8 s9 s10 script most w R→Ae prog F.Oc [.agg #[iV s0,iV s1,iV s2,iV s3,iV s4,iV s5,iV s6,iV s7,iV s8,iV s9,.slice s10.1 s10.2.1 s10.2.2],.slice script.1 script.2.1 script.2.2,iV most] w false r0' R:=
 oks Aa Tryz.func15 (hs 2 (.s (.s .n (.lp [(27,(.i .i64))] .n)) .n))
def Ff.wp(s0 s1 s2 s3 s4 s5 s6 s7 s8 s9:Int)(s10:Option Addr×Nat×Nat)(w:World)(R:TR r0'→WP):Prop:=
Bf [iV s0,iV s1,iV s2,iV s3,iV s4,iV s5,iV s6,iV s7,iV s8,iV s9,.slice s10.1 s10.2.1 s10.2.2] T.J8 w λp1 w2=>
ld1 KI p1 w2 λx3=>
Aj (decide (x3<1)) (
R ((false,()),()) w2) (
ld1 KI p1 w2 λx4=>
Aj (decide (x4>64)) (
R ((false,()),()) w2) (
Ci (λ(self5:((Int)×Unit)→WP) (z6:(Int)×Unit) w7=> ∀_:Nat→Value,
ld1 KI p1 w7 λx8=>
Aj (decide (z6.1<x8)) (
A8 k0' p1 0 w7 λx9=>
Ae prog F.Oy [Sv k0' x9,iV z6.1] w7 false r5' λr10 w11=>
Ae prog F.Ot [Sv k2' r10.1] w11 false r0' λr12 w13=>
Aj (!r12.1.1) (
R ((false,()),()) w13) (
self5 (wrap .i64 (z6.1+1),()) w13)) (
R ((true,()),()) w7)) (0,()) w2))
theorem Ff.ok{s0 s1 s2 s3 s4 s5 s6 s7 s8 s9:Int}{s10:Option Addr×Nat×Nat}{w:World}{R:TR r0'→WP}:Ff.wp s0 s1 s2 s3 s4 s5 s6 s7 s8 s9 s10 w R→Ae prog F.Ff [.agg #[iV s0,iV s1,iV s2,iV s3,iV s4,iV s5,iV s6,iV s7,iV s8,iV s9,.slice s10.1 s10.2.1 s10.2.2]] w false r0' R:=
 oks Aa Tryz.func16 (hs 2 (.s (.s .n (.lp [(3,(.i .i64))] .n)) .n))
def Io.wp(s0 s1 s2 s3 s4 s5 s6 s7 s8 s9:Int)(s10:Option Addr×Nat×Nat)(leaps:Option Addr)(w:World)(R:TR r2'→WP):Prop:=
Bf [iV s0,iV s1,iV s2,iV s3,iV s4,iV s5,iV s6,iV s7,iV s8,iV s9,.slice s10.1 s10.2.1 s10.2.2] T.mQ w λp1 w2=>
ld1 KI p1 w2 λx3=>
Ae prog F.Pi [iV x3] w2 true r2' λr4 w5=>
Aj (r4.2.1.1 !=0) (
R ((none,()),(r4.2.1.1,()),()) w5) (
ld1 .sl (p1.add 10) w5 λx6=>
L9 ((Builtin.append_ #[T.V5,T.V5] T.V5 #[.slice none 0 0,.slice x6.1 x6.2.1 x6.2.2]).run prog w5) λy7 w8=>
Au [.slice y7.1 y7.2.1 y7.2.2] (p1.add 10) 0 w8 λw9=>
A8 k0' p1 0 w9 λx10=>
Bf [iV x10.1,iV x10.2.1,iV x10.2.2.1,iV x10.2.2.2.1,iV x10.2.2.2.2.1,iV x10.2.2.2.2.2.1,iV x10.2.2.2.2.2.2.1,iV x10.2.2.2.2.2.2.2.1,iV x10.2.2.2.2.2.2.2.2.1,iV x10.2.2.2.2.2.2.2.2.2.1,.slice x10.2.2.2.2.2.2.2.2.2.2.1.1 x10.2.2.2.2.2.2.2.2.2.2.1.2.1 x10.2.2.2.2.2.2.2.2.2.2.1.2.2,.pointer r4.1.1,.slice none 0 0,iV 0,.int .u64 0,.slice none 0 0] T.As1 w9 λp11 w12=>
ld1 KI p1 w12 λx13=>
Ci (λ(self14:((Int)×Unit)→WP) (z15:(Int)×Unit) w16=> ∀_:Nat→Value,
Aj (decide (z15.1<x13)) (
A8 k0' p1 0 w16 λx17=>
Ae prog F.Lj [Sv k0' x17,iV z15.1] w16 false r5' λr18 w19=>
Ae prog F.Uz [Sv k2' r18.1,.pointer leaps] w19 true r2' λr20 w21=>
Aj (r20.2.1.1 !=0) (
R ((none,()),(r20.2.1.1,()),()) w21) (
ld1 .sl (p11.add 12) w21 λx22=>
Bf [.pointer r20.1.1] T.Uf w21 λp23 w24=>
L9 ((Builtin.append_ #[T.Vp,T.Vp] T.Vp #[.slice x22.1 x22.2.1 x22.2.2,.slice (some p23) 1 1]).run prog w24) λy25 w26=>
Au [.slice y25.1 y25.2.1 y25.2.2] (p11.add 12) 0 w26 λw27=>
self14 (wrap .i64 (z15.1+1),()) w27)) (
R ((some p11,()),(0,()),()) w16)) (0,()) w12)
theorem Io.ok{s0 s1 s2 s3 s4 s5 s6 s7 s8 s9:Int}{s10:Option Addr×Nat×Nat}{leaps:Option Addr}{w:World}{R:TR r2'→WP}:Io.wp s0 s1 s2 s3 s4 s5 s6 s7 s8 s9 s10 leaps w R→Ae prog F.Io [.agg #[iV s0,iV s1,iV s2,iV s3,iV s4,iV s5,iV s6,iV s7,iV s8,iV s9,.slice s10.1 s10.2.1 s10.2.2],.pointer leaps] w true r2' R:=
 oks Aa Tryz.func17 (hs 5 (.s (.s .n (.lp [(31,(.i .i64))] .n)) .n))
def Nl.wp(s0 s1 s2 s3 s4 s5 s6 s7 s8 s9:Int)(s10:Option Addr×Nat×Nat)(w:World)(R:TR r1'→WP):Prop:=
Bf [iV s0,iV s1,iV s2,iV s3,iV s4,iV s5,iV s6,iV s7,iV s8,iV s9,.slice s10.1 s10.2.1 s10.2.2] T.J8 w λp1 w2=>
Bf pY T.mQ w2 λp3 w4=>
Jg w4 λw5=>
ld1 KI p1 w5 λx6=>
ld1 KI (p1.add 1) w5 λx7=>
ld1 KI (p1.add 2) w5 λx8=>
ld1 KI (p1.add 3) w5 λx9=>
ld1 KI (p1.add 4) w5 λx10=>
ld1 KI (p1.add 5) w5 λx11=>
ld1 KI (p1.add 6) w5 λx12=>
ld1 KI (p1.add 7) w5 λx13=>
ld1 KI (p1.add 8) w5 λx14=>
ld1 KI (p1.add 9) w5 λx15=>
ld1 .sl (p1.add 10) w5 λx16=>
Bf [] T.int w5 λp17 w18=>
A7 [hd 24 (p1.add 10) w5,hd 21 (p1.add 9) w5,hd 19 (p1.add 8) w5,hd 17 (p1.add 7) w5,hd 15 (p1.add 6) w5,hd 13 (p1.add 5) w5,hd 10 (p1.add 4) w5,hd 8 (p1.add 3) w5,hd 5 (p1.add 2) w5,hd 3 (p1.add 1) w5,hd 1 p1 w5] w18∧(
L9 ((Builtin.append_ #[T.V5,T.V5] T.V5 #[.slice (some p17) 0 0,.slice x16.1 x16.2.1 x16.2.2]).run prog w18) λy19 w20=>
A7 [hd 21 (p1.add 9) w5,hd 19 (p1.add 8) w5,hd 17 (p1.add 7) w5,hd 15 (p1.add 6) w5,hd 13 (p1.add 5) w5,hd 10 (p1.add 4) w5,hd 8 (p1.add 3) w5,hd 5 (p1.add 2) w5,hd 3 (p1.add 1) w5,hd 1 p1 w5] w20∧(
Au [iV x6,iV x7,iV x8,iV x9,iV x10,iV x11,iV x12,iV x13,iV x14,iV x15,.slice y19.1 y19.2.1 y19.2.2] p3 0 w20 λw21=>
A7 [] w21∧(
A8 k0' p3 0 w21 λx22=>
R ((x22.1,x22.2.1,x22.2.2.1,x22.2.2.2.1,x22.2.2.2.2.1,x22.2.2.2.2.2.1,x22.2.2.2.2.2.2.1,x22.2.2.2.2.2.2.2.1,x22.2.2.2.2.2.2.2.2.1,x22.2.2.2.2.2.2.2.2.2.1,(x22.2.2.2.2.2.2.2.2.2.2.1.1,x22.2.2.2.2.2.2.2.2.2.2.1.2.1,x22.2.2.2.2.2.2.2.2.2.2.1.2.2),()),()) w21)))
theorem Nl.ok{s0 s1 s2 s3 s4 s5 s6 s7 s8 s9:Int}{s10:Option Addr×Nat×Nat}{w:World}{R:TR r1'→WP}:Nl.wp s0 s1 s2 s3 s4 s5 s6 s7 s8 s9 s10 w R→Ae prog F.Nl [.agg #[iV s0,iV s1,iV s2,iV s3,iV s4,iV s5,iV s6,iV s7,iV s8,iV s9,.slice s10.1 s10.2.1 s10.2.2]] w false r1' R:=
 oks Aa Tryz.func18 (.s .n (.s (.pl (ks [0,1,2,3,4,5,6,7,8,9,10,11,12,13,14,15,16,17,18,19,20,21,23,24] (.ef 22 [] (.ef 25 [24] (.tk 26 (.ef 27 [1,3,5,8,10,13,15,17,19,21] .z)))))) .n))
def Bo.wp(n:Option Addr)(i:Int)(w:World)(R:TR r3'→WP):Prop:=
Bf z2' T.nK w λp1 w2=>
Ae prog F.Eu [.pointer n,iV i] w2 false Arw λr3 w4=>
Ae prog F.Cb [.pointer r3.1.1] w4 false r3' λr5 w6=>
Au (encs k1' r5.1) p1 0 w6 λw7=>
A8 k1' p1 0 w7 λx8=>
R (x8,()) w7
theorem Bo.ok{n:Option Addr}{i:Int}{w:World}{R:TR r3'→WP}:Bo.wp n i w R→Ae prog F.Bo [.pointer n,iV i] w false r3' R:=
 oks Aa Tryz.func19 .n
def Bq.wp(n:Option Addr)(w:World)(R:TR iT→WP):Prop:=
Aj (Option.isNone n) (
R ((0,()),()) w) (
Aq n λa1=>
ld1 KI (a1.add 13) w λx2=>
R ((x2,()),()) w)
theorem Bq.ok{n:Option Addr}{w:World}{R:TR iT→WP}:Bq.wp n w R→Ae prog F.Bq [.pointer n] w false iT R:=
 oks Aa Tryz.func20 .n
def Uw.wp(n:Option Addr)(a0 a1 a2:Int)(a3:Bool)(a4:Int)(a5:ByteArray)(a6 a7 a8 a9 a10:Option Addr×Nat×Nat)(w:World)(R:TR iT→WP):Prop:=
Bf [iV a0,iV a1,iV a2,.bool a3,.int .u32 a4,.string a5,.slice a6.1 a6.2.1 a6.2.2,.slice a7.1 a7.2.1 a7.2.2,.slice a8.1 a8.2.1 a8.2.2,.slice a9.1 a9.2.1 a9.2.2,.slice a10.1 a10.2.1 a10.2.2] T.uM w λp1 w2=>
ld1 KI p1 w2 λx3=>
Aj (x3==0) (
ld1 KI (p1.add 1) w2 λx4=>
ld1 KI (p1.add 2) w2 λx5=>
ld1 .b (p1.add 3) w2 λx6=>
Ae prog F.Cf [.pointer n,iV x4,iV x5,.bool x6] w2 false iT λr7 w8=>
R ((r7.1.1,()),()) w8) (
Aj (x3==1) (
ld1 KI (p1.add 1) w2 λx9=>
ld1 (.i .u32) (p1.add 4) w2 λx10=>
Ae prog F.D7 [.pointer n,iV x9,.int .u32 x10] w2 false iT λr11 w12=>
R ((r11.1.1,()),()) w12) (
Aj (x3==2) (
ld1 KI (p1.add 1) w2 λx13=>
Ae prog F.Gy [.pointer n,iV x13] w2 false iT λr14 w15=>
R ((r14.1.1,()),()) w15) (
Cc (λ(J16:((Bool)×Unit)→WP)=>
Aj (x3==3) (
J16 ((x3==3),()) w2) (
Aj (x3==4) (
J16 ((x3==4),()) w2) (
Aj (x3==5) (
J16 ((x3==5),()) w2) (
J16 ((x3==6),()) w2)))) (λ(z17:(Bool)×Unit) w18=> ∀_:Nat→Value,
Aj z17.1 (
A8 xP (p1.add 7) 0 w18 λx19=>
Ae prog F.Zw [Sv xP x19] w18 false r7' λr20 w21=>
Ae prog F.Ce [.pointer n,Sv xP r20.1] w21 false iT λr22 w23=>
R ((r22.1.1,()),()) w23) (
Aj (x3==7) (
ld1 KI (p1.add 1) w18 λx24=>
ld1 .s (p1.add 5) w18 λx25=>
Ae prog F.Jz [.pointer n,iV x24,.string x25] w18 true xB λr26 w27=>
R ((r26.2.1.1,()),()) w27) (
Aj (x3==8) (
ld1 KI (p1.add 1) w18 λx28=>
Ae prog F.Ls [.pointer n,iV x28] w18 true Us λr29 w30=>
R ((0,()),()) w30) (
Aj (x3==9) (
ld1 KI (p1.add 1) w18 λx31=>
ld1 KI (p1.add 2) w18 λx32=>
Ae prog F.Gz [.pointer n,iV x31,iV x32] w18 false iT λr33 w34=>
R ((r33.1.1,()),()) w34) (
Aj (x3==10) (
ld1 KI (p1.add 1) w18 λx35=>
ld1 .sl (p1.add 6) w18 λx36=>
Ae prog F.Eg [.pointer n,iV x35,.slice x36.1 x36.2.1 x36.2.2] w18 false iT λr37 w38=>
R ((r37.1.1,()),()) w38) (
R ((0,()),()) w18)))))))))
theorem Uw.ok{n:Option Addr}{a0 a1 a2:Int}{a3:Bool}{a4:Int}{a5:ByteArray}{a6 a7 a8 a9 a10:Option Addr×Nat×Nat}{w:World}{R:TR iT→WP}:Uw.wp n a0 a1 a2 a3 a4 a5 a6 a7 a8 a9 a10 w R→Ae prog F.Uw [.pointer n,.agg #[iV a0,iV a1,iV a2,.bool a3,.int .u32 a4,.string a5,.slice a6.1 a6.2.1 a6.2.2,.slice a7.1 a7.2.1 a7.2.2,.slice a8.1 a8.2.1 a8.2.2,.slice a9.1 a9.2.1 a9.2.2,.slice a10.1 a10.2.1 a10.2.2]] w false iT R:=
 oks Aa Tryz.func21 (.s .n (.s (hs 7 (.ct [(33,.b)] .n .n)) .n))
def Oy.wp(s0 s1 s2 s3 s4 s5 s6 s7 s8 s9:Int)(s10:Option Addr×Nat×Nat)(i:Int)(w:World)(R:TR r5'→WP):Prop:=
Bf [iV s0,iV s1,iV s2,iV s3,iV s4,iV s5,iV s6,iV s7,iV s8,iV s9,.slice s10.1 s10.2.1 s10.2.2] T.J8 w λp1 w2=>
Bf Aqn T.Xj w2 λp3 w4=>
Cc (λ(J5:((Int)×Unit)→WP)=>
ld1 KI (p1.add 5) w4 λx8=>
Aj (decide (x8>0)) (
ld1 KI (p1.add 5) w4 λx9=>
dF x9 (
J5 (Int.tmod i x9,()) w4)) (
J5 (0,()) w4)) (λ(z6:(Int)×Unit) w7=> ∀_:Nat→Value,
Cc (λ(J10:((Int)×Unit)→WP)=>
ld1 .sl (p1.add 10) w7 λx13=>
Aj (decide (i<(x13.2.1:Int))) (
ld1 .sl (p1.add 10) w7 λx14=>
Ny x14.1 x14.2.1 i λa15=>
ld1 KI (a15.add (i.toNat*1)) w7 λx16=>
J10 (x16,()) w7) (
J10 (z6.1,()) w7)) (λ(z11:(Int)×Unit) w12=> ∀_:Nat→Value,
ld1 KI (p1.add 1) w12 λx17=>
ld1 KI (p1.add 2) w12 λx18=>
ld1 KI (p1.add 3) w12 λx19=>
ld1 KI (p1.add 4) w12 λx20=>
ld1 KI (p1.add 5) w12 λx21=>
ld1 KI (p1.add 6) w12 λx22=>
ld1 KI (p1.add 7) w12 λx23=>
ld1 KI (p1.add 8) w12 λx24=>
ld1 KI (p1.add 9) w12 λx25=>
Au [iV i,iV x17,iV x18,iV x19,iV x20,iV x21,iV x22,iV z11.1,iV x23,iV x24,.bool (i==x25)] p3 0 w12 λw26=>
A8 k2' p3 0 w26 λx27=>
R (x27,()) w26))
theorem Oy.ok{s0 s1 s2 s3 s4 s5 s6 s7 s8 s9:Int}{s10:Option Addr×Nat×Nat}{i:Int}{w:World}{R:TR r5'→WP}:Oy.wp s0 s1 s2 s3 s4 s5 s6 s7 s8 s9 s10 i w R→Ae prog F.Oy [.agg #[iV s0,iV s1,iV s2,iV s3,iV s4,iV s5,iV s6,iV s7,iV s8,iV s9,.slice s10.1 s10.2.1 s10.2.2],iV i] w false r5' R:=
 oks Aa Tryz.func22 (hs 2 (.ct [(5,(.i .i64))] .n (.ct [(5,(.i .i64))] .n .n)))
def Ju.wp(n:Option Addr)(i:Int)(w:World)(R:TR dB→WP):Prop:=
Bf [uV 0,uV 0] T.yB w λp1 w2=>
Ae prog F.Eu [.pointer n,iV i] w2 false Arw λr3 w4=>
Ae prog F.Dn [.pointer r3.1.1] w4 true dB λr5 w6=>
Au [uV r5.1.1,uV r5.1.2.1] p1 0 w6 λw7=>
A8 [KU,KU] p1 0 w7 λx8=>
R ((x8.1,x8.2.1,()),(r5.2.1.1,()),()) w7
theorem Ju.ok{n:Option Addr}{i:Int}{w:World}{R:TR dB→WP}:Ju.wp n i w R→Ae prog F.Ju [.pointer n,iV i] w true dB R:=
 oks Aa Tryz.func23 .n
def law27_alive.wp(w:World)(R:TR r0'→WP):Prop:=
Ae prog F.law27_setup [.agg #[iV 2,iV 1,iV 0,iV 1,iV 0,iV 2,iV 2,iV 1,iV 0,iV (Int.negSucc 0),.slice none 0 0]] w false r1' λr1 w2=>
Ae prog F.Io [Sv k0' r1.1,.pointer none] w2 true r2' λr3 w4=>
Ae prog F.Cf [.pointer r3.1.1,iV 0,iV 1,.bool true] w4 false iT λr5 w6=>
Ae prog F.D7 [.pointer r3.1.1,iV 0,.int .u32 5] w6 false iT λr7 w8=>
Ae prog F.D7 [.pointer r3.1.1,iV 1,.int .u32 700] w8 false iT λr9 w10=>
Ci (λ(self11:((Int)×Unit)→WP) (z12:(Int)×Unit) w13=> ∀_:Nat→Value,
Aj (decide (z12.1<3)) (
Bf [iV 1000,iV 1000] T.int w13 λp14 w15=>
Bf [iV 0,iV 0] T.int w15 λp16 w17=>
Bf [iV 0,iV 0] T.int w17 λp18 w19=>
Ae prog F.Ce [.pointer r3.1.1,.agg #[.slice (some p14) 2 2,.slice (some p16) 2 2,.slice (some p18) 2 2,.slice none 0 0]] w19 false iT λr20 w21=>
Aj (r20.1.1 !=0) (
R ((false,()),()) w21) (
self11 (wrap .i64 (z12.1+1),()) w21)) (
Ae prog F.Dq [.pointer r3.1.1,iV 1] w13 true oI λr22 w23=>
Bf dE T.Bg w23 λp24 w25=>
Au (encs Tu r22.1) p24 0 w25 λw26=>
Aj (r3.2.1.1==0) (
Aj (r5.1.1==0) (
Aj (r7.1.1==0) (
Aj (r9.1.1==0) (
Aj (r22.2.1.1==0) (
ld1 KI (p24.add 2) w26 λx27=>
Aj (x27==0) (
ld1 KI p24 w26 λx28=>
Aj (x28==3005) (
Ae prog F.Bq [.pointer r3.1.1] w26 false iT λr29 w30=>
R (((r29.1.1==3),()),()) w30) (
R ((false,()),()) w26)) (
R ((false,()),()) w26)) (
R ((false,()),()) w26)) (
R ((false,()),()) w26)) (
R ((false,()),()) w26)) (
R ((false,()),()) w26)) (
R ((false,()),()) w26))) (0,()) w10
theorem law27_alive.ok{w:World}{R:TR r0'→WP}:law27_alive.wp w R→Ae prog F.law27_alive [] w false r0' R:=
 oks Aa Tryz.func25 (hs 3 (.s (.s .n (.lp [(6,(.i .i64))] .n)) .n))
def law27_setup.wp(s0 s1 s2 s3 s4 s5 s6 s7 s8 s9:Int)(s10:Option Addr×Nat×Nat)(w:World)(R:TR r1'→WP):Prop:=
Bf [iV s0,iV s1,iV s2,iV s3,iV s4,iV s5,iV s6,iV s7,iV s8,iV s9,.slice s10.1 s10.2.1 s10.2.2] T.J8 w λp1 w2=>
Bf pY T.mQ w2 λp3 w4=>
Jg w4 λw5=>
ld1 KI p1 w5 λx6=>
ld1 KI (p1.add 1) w5 λx7=>
ld1 KI (p1.add 2) w5 λx8=>
ld1 KI (p1.add 3) w5 λx9=>
ld1 KI (p1.add 4) w5 λx10=>
ld1 KI (p1.add 5) w5 λx11=>
ld1 KI (p1.add 6) w5 λx12=>
ld1 KI (p1.add 7) w5 λx13=>
ld1 KI (p1.add 8) w5 λx14=>
ld1 KI (p1.add 9) w5 λx15=>
ld1 .sl (p1.add 10) w5 λx16=>
Bf [] T.int w5 λp17 w18=>
A7 [hd 24 (p1.add 10) w5,hd 21 (p1.add 9) w5,hd 19 (p1.add 8) w5,hd 17 (p1.add 7) w5,hd 15 (p1.add 6) w5,hd 13 (p1.add 5) w5,hd 10 (p1.add 4) w5,hd 8 (p1.add 3) w5,hd 5 (p1.add 2) w5,hd 3 (p1.add 1) w5,hd 1 p1 w5] w18∧(
L9 ((Builtin.append_ #[T.V5,T.V5] T.V5 #[.slice (some p17) 0 0,.slice x16.1 x16.2.1 x16.2.2]).run prog w18) λy19 w20=>
A7 [hd 21 (p1.add 9) w5,hd 19 (p1.add 8) w5,hd 17 (p1.add 7) w5,hd 15 (p1.add 6) w5,hd 13 (p1.add 5) w5,hd 10 (p1.add 4) w5,hd 8 (p1.add 3) w5,hd 5 (p1.add 2) w5,hd 3 (p1.add 1) w5,hd 1 p1 w5] w20∧(
Au [iV x6,iV x7,iV x8,iV x9,iV x10,iV x11,iV x12,iV x13,iV x14,iV x15,.slice y19.1 y19.2.1 y19.2.2] p3 0 w20 λw21=>
A7 [] w21∧(
A8 k0' p3 0 w21 λx22=>
R ((x22.1,x22.2.1,x22.2.2.1,x22.2.2.2.1,x22.2.2.2.2.1,x22.2.2.2.2.2.1,x22.2.2.2.2.2.2.1,x22.2.2.2.2.2.2.2.1,x22.2.2.2.2.2.2.2.2.1,x22.2.2.2.2.2.2.2.2.2.1,(x22.2.2.2.2.2.2.2.2.2.2.1.1,x22.2.2.2.2.2.2.2.2.2.2.1.2.1,x22.2.2.2.2.2.2.2.2.2.2.1.2.2),()),()) w21)))
theorem law27_setup.ok{s0 s1 s2 s3 s4 s5 s6 s7 s8 s9:Int}{s10:Option Addr×Nat×Nat}{w:World}{R:TR r1'→WP}:law27_setup.wp s0 s1 s2 s3 s4 s5 s6 s7 s8 s9 s10 w R→Ae prog F.law27_setup [.agg #[iV s0,iV s1,iV s2,iV s3,iV s4,iV s5,iV s6,iV s7,iV s8,iV s9,.slice s10.1 s10.2.1 s10.2.2]] w false r1' R:=
 oks Aa Tryz.func26 (.s .n (.s (.pl (ks [0,1,2,3,4,5,6,7,8,9,10,11,12,13,14,15,16,17,18,19,20,21,23,24] (.ef 22 [] (.ef 25 [24] (.tk 26 (.ef 27 [1,3,5,8,10,13,15,17,19,21] .z)))))) .n))
def law27_great.wp(a0 a1 a2:Int)(a3:Bool)(a4:Int)(a5:ByteArray)(a6 a7 a8 a9 a10:Option Addr×Nat×Nat)(w:World)(R:TR r0'→WP):Prop:=
Bf [iV a0,iV a1,iV a2,.bool a3,.int .u32 a4,.string a5,.slice a6.1 a6.2.1 a6.2.2,.slice a7.1 a7.2.1 a7.2.2,.slice a8.1 a8.2.1 a8.2.2,.slice a9.1 a9.2.1 a9.2.2,.slice a10.1 a10.2.1 a10.2.2] T.law27_Act w λp1 w2=>
A8 xP (p1.add 7) 0 w2 λx3=>
Bf z7' T.U0 w2 λp4 w5=>
Au (encs xP x3) p4 0 w5 λw6=>
ld1 .sl (p1.add 6) w6 λx7=>
Aj (decide ((x7.2.1:Int)>200)) (
R ((true,()),()) w6) (
ld1 .s (p1.add 5) w6 λx8=>
Aj (decide ((x8.size:Int)>100)) (
R ((true,()),()) w6) (
ld1 .sl p4 w6 λx9=>
Aj (decide ((x9.2.1:Int)>100)) (
R ((true,()),()) w6) (
ld1 .sl (p4.add 1) w6 λx10=>
Aj (decide ((x10.2.1:Int)>100)) (
R ((true,()),()) w6) (
ld1 .sl (p4.add 2) w6 λx11=>
Aj (decide ((x11.2.1:Int)>100)) (
R ((true,()),()) w6) (
ld1 .sl (p4.add 3) w6 λx12=>
R ((decide ((x12.2.1:Int)>100),()),()) w6)))))
theorem law27_great.ok{a0 a1 a2:Int}{a3:Bool}{a4:Int}{a5:ByteArray}{a6 a7 a8 a9 a10:Option Addr×Nat×Nat}{w:World}{R:TR r0'→WP}:law27_great.wp a0 a1 a2 a3 a4 a5 a6 a7 a8 a9 a10 w R→Ae prog F.law27_great [.agg #[iV a0,iV a1,iV a2,.bool a3,.int .u32 a4,.string a5,.slice a6.1 a6.2.1 a6.2.2,.slice a7.1 a7.2.1 a7.2.2,.slice a8.1 a8.2.1 a8.2.2,.slice a9.1 a9.2.1 a9.2.2,.slice a10.1 a10.2.1 a10.2.2]] w false r0' R:=
 oks Aa Tryz.func27 .n
def Cf.wp(n:Option Addr)(i k:Int)(on_:Bool)(w:World)(R:TR iT→WP):Prop:=
Aj (Option.isNone n) (
R ((2,()),()) w) (
Aq n λa1=>
ld1 .p (a1.add 11) w λx2=>
Ae prog F.Ht [.pointer x2,iV i,iV k,.bool on_] w false iT λr3 w4=>
R ((r3.1.1,()),()) w4)
theorem Cf.ok{n:Option Addr}{i k:Int}{on_:Bool}{w:World}{R:TR iT→WP}:Cf.wp n i k on_ w R→Ae prog F.Cf [.pointer n,iV i,iV k,.bool on_] w false iT R:=
 oks Aa Tryz.func28 .n
def Ce.wp(n:Option Addr)(c0 c1 c2 c3:Option Addr×Nat×Nat)(w:World)(R:TR iT→WP):Prop:=
Bf [.slice c0.1 c0.2.1 c0.2.2,.slice c1.1 c1.2.1 c1.2.2,.slice c2.1 c2.2.1 c2.2.2,.slice c3.1 c3.2.1 c3.2.2] T.V4 w λp1 w2=>
A8 xP p1 0 w2 λx3=>
Ae prog F.Iz [.pointer n,Sv xP x3] w2 false iT λr4 w5=>
Aj (r4.1.1 !=0) (
R ((r4.1.1,()),()) w5) (
Aq n λa6=>
ld1 .sl (a6.add 12) w5 λx7=>
Ci (λ(self8:((Int)×Unit)→WP) (z9:(Int)×Unit) w10=> ∀_:Nat→Value,
Aj (decide (z9.1<(x7.2.1:Int))) (
Ny x7.1 x7.2.1 z9.1 λa11=>
ld1 .p (a11.add (z9.1.toNat*1)) w10 λx12=>
ld1 .sl p1 w10 λx13=>
Ny x13.1 x13.2.1 z9.1 λa14=>
ld1 KI (a14.add (z9.1.toNat*1)) w10 λx15=>
Ae prog F.Lr [.pointer x12,iV x15] w10 false iT λr16 w17=>
self8 (wrap .i64 (z9.1+1),()) w17) (
A8 xP p1 0 w10 λx18=>
Ae prog F.Mc [.pointer n,Sv xP x18] w10 false dH λr19 w20=>
Jg w20 λw21=>
Aq n λa22=>
ld1 .p (a22.add 11) w21 λx23=>
Aq n λa24=>
ld1 (.i .u64) (a24.add 14) w21 λx25=>
ld1 .sl (p1.add 3) w21 λx26=>
Ae prog F.Jd [.pointer n] w21 false aT λr27 w28=>
A7 [hd 12 (p1.add 3) w21,hd 8 (a24.add 14) w21,hd 4 (a22.add 11) w21] w28∧(
Ae prog F.Ov [.pointer x23,.int .u64 x25,.int .u64 r27.1.1,.slice x26.1 x26.2.1 x26.2.2] w28 false dH λr29 w30=>
A7 [] w30∧(
Aq n λa31=>
Au [.slice r29.1.1.1 r29.1.1.2.1 r29.1.1.2.2] (a31.add 15) 0 w30 λw32=>
A7 [] w32∧(
Aq n λa33=>
ld1 .sl (a33.add 15) w32 λx34=>
Ci (λ(self35:((Int)×Unit)→WP) (z36:(Int)×Unit) w37=> ∀_:Nat→Value,
Aj (decide (z36.1<(x34.2.1:Int))) (
Ny x34.1 x34.2.1 z36.1 λa38=>
A8 [KI,KI] (a38.add (z36.1.toNat*2)) 0 w37 λx39=>
Bf [iV 0,iV 0] T.P6 w37 λp40 w41=>
Au [iV x39.1,iV x39.2.1] p40 0 w41 λw42=>
ld1 KI (p40.add 1) w42 λx43=>
Aj (x43 !=1) (
self35 (wrap .i64 (z36.1+1),()) w42) (
ld1 KI p40 w42 λx44=>
Ny r19.1.1.1 r19.1.1.2.1 x44 λa45=>
ld1 .sl (a45.add (x44.toNat*1)) w42 λx46=>
Ci (λ(self47:((Int)×Unit)→WP) (z48:(Int)×Unit) w49=> ∀_:Nat→Value,
Aj (decide (z48.1<(x46.2.1:Int))) (
Ny x46.1 x46.2.1 z48.1 λa50=>
ld1 .sl (a50.add (z48.1.toNat*1)) w49 λx51=>
Jg w49 λw52=>
Aq n λa53=>
ld1 .sl (a53.add 12) w52 λx54=>
Ny x54.1 x54.2.1 z36.1 λa55=>
ld1 .p (a55.add (z36.1.toNat*1)) w52 λx56=>
ld1 .sl (p1.add 2) w52 λx57=>
Ny x57.1 x57.2.1 z36.1 λa58=>
ld1 KI (a58.add (z36.1.toNat*1)) w52 λx59=>
Ae prog F.Ia [.pointer x56,iV x59,.slice x51.1 x51.2.1 x51.2.2] w52 false iT λr60 w61=>
A7 [hd 8 (p1.add 2) w52,hd 3 (a53.add 12) w52] w61∧(
self47 (wrap .i64 (z48.1+1),()) w61)) (
self35 (wrap .i64 (z36.1+1),()) w49)) (0,()) w42)) (
Aq n λa62=>
ld1 KI (a62.add 13) w37 λx63=>
Aq n λa64=>
Au [iV (wrap .i64 (x63+1))] (a64.add 13) 0 w37 λw65=>
R ((0,()),()) w65)) (0,()) w32))))) (0,()) w5)
theorem Ce.ok{n:Option Addr}{c0 c1 c2 c3:Option Addr×Nat×Nat}{w:World}{R:TR iT→WP}:Ce.wp n c0 c1 c2 c3 w R→Ae prog F.Ce [.pointer n,.agg #[.slice c0.1 c0.2.1 c0.2.2,.slice c1.1 c1.2.1 c1.2.2,.slice c2.1 c2.2.1 c2.2.2,.slice c3.1 c3.2.1 c3.2.2]] w false iT R:=
 oks Aa Tryz.func29 (hs 2 (.s (.s .n (.lp [(24,(.i .i64))] .n)) (.s .n (.s (.pl (ks [0,1,2,3,4,5,6,7,8,9,11,12] (.ef 10 [] (.ef 13 [4,8,12] (.tk 14 (.tk 15 (.ef 16 [] .z))))))) (.s (.s .n (.lp [(61,(.i .i64))] (hs 2 (.s (hs 3 (.lp [(75,(.i .i64))] (hs 2 (.s (.s .n (.pl (ks [0,1,2,3,4,5,6,7,8,9,10,11,12] (.ef 13 [6,11] .z)))) .n)))) .n)))) .n)))))
def Dv.wp(n:Option Addr)(w:World)(R:TR aT→WP):Prop:=
Aj (Option.isNone n) (
R ((0,()),()) w) (
Aq n λa1=>
ld1 (.i .u64) (a1.add 14) w λx2=>
R ((x2,()),()) w)
theorem Dv.ok{n:Option Addr}{w:World}{R:TR aT→WP}:Dv.wp n w R→Ae prog F.Dv [.pointer n] w false aT R:=
 oks Aa Tryz.func31 .n
def Jv.wp(n:Option Addr)(w:World)(R:TR dH→WP):Prop:=
Aj (Option.isNone n) (
R (((none,0,0),()),()) w) (
Aq n λa1=>
ld1 .sl (a1.add 15) w λx2=>
L9 ((Builtin.append_ #[T.O5,T.O5] T.O5 #[.slice none 0 0,.slice x2.1 x2.2.1 x2.2.2]).run prog w) λy3 w4=>
R (((y3.1,y3.2.1,y3.2.2),()),()) w4)
theorem Jv.ok{n:Option Addr}{w:World}{R:TR dH→WP}:Jv.wp n w R→Ae prog F.Jv [.pointer n] w false dH R:=
 oks Aa Tryz.func32 .n
def Dq.wp(n:Option Addr)(i:Int)(w:World)(R:TR oI→WP):Prop:=
Bf dE T.Bg w λp1 w2=>
Ae prog F.Ec [.pointer n,iV i] w2 false iT λr3 w4=>
Aj (r3.1.1 !=0) (
Au dE p1 0 w4 λw5=>
A8 Tu p1 0 w5 λx6=>
R (x6,(r3.1.1,()),()) w5) (
Aq n λa7=>
ld1 .sl (a7.add 12) w4 λx8=>
Ny x8.1 x8.2.1 i λa9=>
ld1 .p (a9.add (i.toNat*1)) w4 λx10=>
Ae prog F.D6 [.pointer x10] w4 true oI λr11 w12=>
Au (encs Tu r11.1) p1 0 w12 λw13=>
A8 Tu p1 0 w13 λx14=>
R (x14,(r11.2.1.1,()),()) w13)
theorem Dq.ok{n:Option Addr}{i:Int}{w:World}{R:TR oI→WP}:Dq.wp n i w R→Ae prog F.Dq [.pointer n,iV i] w true oI R:=
 oks Aa Tryz.func33 .n
def D7.wp(n:Option Addr)(i raw:Int)(w:World)(R:TR iT→WP):Prop:=
Ae prog F.Ec [.pointer n,iV i] w false iT λr1 w2=>
Aj (r1.1.1 !=0) (
R ((r1.1.1,()),()) w2) (
Aq n λa3=>
ld1 .sl (a3.add 12) w2 λx4=>
Ny x4.1 x4.2.1 i λa5=>
ld1 .p (a5.add (i.toNat*1)) w2 λx6=>
Ae prog F.Ji [.pointer x6,.int .u32 raw] w2 false iT λr7 w8=>
R ((r7.1.1,()),()) w8)
theorem D7.ok{n:Option Addr}{i raw:Int}{w:World}{R:TR iT→WP}:D7.wp n i raw w R→Ae prog F.D7 [.pointer n,iV i,.int .u32 raw] w false iT R:=
 oks Aa Tryz.func34 .n
def Gy.wp(n:Option Addr)(i:Int)(w:World)(R:TR iT→WP):Prop:=
Ae prog F.Ec [.pointer n,iV i] w false iT λr1 w2=>
Aj (r1.1.1 !=0) (
R ((r1.1.1,()),()) w2) (
Aq n λa3=>
ld1 .sl (a3.add 12) w2 λx4=>
Ny x4.1 x4.2.1 i λa5=>
ld1 .p (a5.add (i.toNat*1)) w2 λx6=>
Ae prog F.Qg [.pointer x6] w2 false iT λr7 w8=>
R ((r7.1.1,()),()) w8)
theorem Gy.ok{n:Option Addr}{i:Int}{w:World}{R:TR iT→WP}:Gy.wp n i w R→Ae prog F.Gy [.pointer n,iV i] w false iT R:=
 oks Aa Tryz.func35 .n
def Gz.wp(n:Option Addr)(i tai:Int)(w:World)(R:TR iT→WP):Prop:=
Ae prog F.Ec [.pointer n,iV i] w false iT λr1 w2=>
Aj (r1.1.1 !=0) (
R ((r1.1.1,()),()) w2) (
Aq n λa3=>
ld1 .sl (a3.add 12) w2 λx4=>
Ny x4.1 x4.2.1 i λa5=>
ld1 .p (a5.add (i.toNat*1)) w2 λx6=>
Ae prog F.Qc [.pointer x6,iV tai] w2 false iT λr7 w8=>
R ((r7.1.1,()),()) w8)
theorem Gz.ok{n:Option Addr}{i tai:Int}{w:World}{R:TR iT→WP}:Gz.wp n i tai w R→Ae prog F.Gz [.pointer n,iV i,iV tai] w false iT R:=
 oks Aa Tryz.func36 .n
def Eg.wp(n:Option Addr)(i:Int)(b:Option Addr×Nat×Nat)(w:World)(R:TR iT→WP):Prop:=
Ae prog F.Ec [.pointer n,iV i] w false iT λr1 w2=>
Aj (r1.1.1 !=0) (
R ((r1.1.1,()),()) w2) (
Ae prog F.Ru [.slice b.1 b.2.1 b.2.2] w2 true H7 λr3 w4=>
Aj (r3.2.1.1==0) (
R ((1,()),()) w4) (
Aq n λa5=>
ld1 .sl (a5.add 12) w4 λx6=>
Ny x6.1 x6.2.1 i λa7=>
ld1 .p (a7.add (i.toNat*1)) w4 λx8=>
Ae prog F.Ia [.pointer x8,iV 0,.slice b.1 b.2.1 b.2.2] w4 false iT λr9 w10=>
R ((r9.1.1,()),()) w10))
theorem Eg.ok{n:Option Addr}{i:Int}{b:Option Addr×Nat×Nat}{w:World}{R:TR iT→WP}:Eg.wp n i b w R→Ae prog F.Eg [.pointer n,iV i,.slice b.1 b.2.1 b.2.2] w false iT R:=
 oks Aa Tryz.func37 .n
def law27_twice.wp(a b:Option Addr)(x0 x1 x2:Int)(x3:Bool)(x4:Int)(x5:ByteArray)(x6 x7 x8 x9 x10:Option Addr×Nat×Nat)(w:World)(R:TR r0'→WP):Prop:=
Bf [iV x0,iV x1,iV x2,.bool x3,.int .u32 x4,.string x5,.slice x6.1 x6.2.1 x6.2.2,.slice x7.1 x7.2.1 x7.2.2,.slice x8.1 x8.2.1 x8.2.2,.slice x9.1 x9.2.1 x9.2.2,.slice x10.1 x10.2.1 x10.2.2] T.law27_Act w λp1 w2=>
ld1 KI p1 w2 λx11=>
Aj (x11==0) (
Jg w2 λw12=>
ld1 KI (p1.add 1) w12 λx13=>
ld1 KI (p1.add 2) w12 λx14=>
ld1 .b (p1.add 3) w12 λx15=>
ld1 KI (p1.add 1) w12 λx16=>
ld1 KI (p1.add 2) w12 λx17=>
ld1 .b (p1.add 3) w12 λx18=>
Ae prog F.Cf [.pointer a,iV x13,iV x14,.bool x15] w12 false iT λr19 w20=>
A7 [hd 14 (p1.add 3) w12,hd 12 (p1.add 2) w12,hd 10 (p1.add 1) w12,hd 6 (p1.add 3) w12,hd 4 (p1.add 2) w12,hd 2 (p1.add 1) w12] w20∧(
Ae prog F.Cf [.pointer b,iV x16,iV x17,.bool x18] w20 false iT λr21 w22=>
A7 [hd 6 (p1.add 3) w12,hd 4 (p1.add 2) w12,hd 2 (p1.add 1) w12] w22∧(
R (((r19.1.1==r21.1.1),()),()) w22))) (
Aj (x11==1) (
Jg w2 λw23=>
ld1 KI (p1.add 1) w23 λx24=>
ld1 (.i .u32) (p1.add 4) w23 λx25=>
ld1 KI (p1.add 1) w23 λx26=>
ld1 (.i .u32) (p1.add 4) w23 λx27=>
Ae prog F.D7 [.pointer a,iV x24,.int .u32 x25] w23 false iT λr28 w29=>
A7 [hd 10 (p1.add 4) w23,hd 8 (p1.add 1) w23,hd 4 (p1.add 4) w23,hd 2 (p1.add 1) w23] w29∧(
Ae prog F.D7 [.pointer b,iV x26,.int .u32 x27] w29 false iT λr30 w31=>
A7 [hd 4 (p1.add 4) w23,hd 2 (p1.add 1) w23] w31∧(
R (((r28.1.1==r30.1.1),()),()) w31))) (
Aj (x11==2) (
Jg w2 λw32=>
ld1 KI (p1.add 1) w32 λx33=>
ld1 KI (p1.add 1) w32 λx34=>
Ae prog F.Gy [.pointer a,iV x33] w32 false iT λr35 w36=>
A7 [hd 6 (p1.add 1) w32,hd 2 (p1.add 1) w32] w36∧(
Ae prog F.Gy [.pointer b,iV x34] w36 false iT λr37 w38=>
A7 [hd 2 (p1.add 1) w32] w38∧(
R (((r35.1.1==r37.1.1),()),()) w38))) (
Cc (λ(J39:((Bool)×Unit)→WP)=>
Aj (x11==3) (
J39 ((x11==3),()) w2) (
Aj (x11==4) (
J39 ((x11==4),()) w2) (
Aj (x11==5) (
J39 ((x11==5),()) w2) (
J39 ((x11==6),()) w2)))) (λ(z40:(Bool)×Unit) w41=> ∀_:Nat→Value,
Aj z40.1 (
Jg w41 λw42=>
A8 xP (p1.add 7) 0 w42 λx43=>
A8 xP (p1.add 7) 0 w42 λx44=>
Ae prog F.law27_choice [Sv xP x43] w42 false r7' λr45 w46=>
A7 [hd 7 ((p1.add 7).add 0) w42,hd 7 ((p1.add 7).add 1) w42,hd 7 ((p1.add 7).add 2) w42,hd 7 ((p1.add 7).add 3) w42,hd 2 ((p1.add 7).add 0) w42,hd 2 ((p1.add 7).add 1) w42,hd 2 ((p1.add 7).add 2) w42,hd 2 ((p1.add 7).add 3) w42] w46∧(
Ae prog F.Ce [.pointer a,Sv xP r45.1] w46 false iT λr47 w48=>
A7 [hd 7 ((p1.add 7).add 0) w42,hd 7 ((p1.add 7).add 1) w42,hd 7 ((p1.add 7).add 2) w42,hd 7 ((p1.add 7).add 3) w42,hd 2 ((p1.add 7).add 0) w42,hd 2 ((p1.add 7).add 1) w42,hd 2 ((p1.add 7).add 2) w42,hd 2 ((p1.add 7).add 3) w42] w48∧(
Ae prog F.law27_choice [Sv xP x44] w48 false r7' λr49 w50=>
A7 [hd 7 ((p1.add 7).add 0) w42,hd 7 ((p1.add 7).add 1) w42,hd 7 ((p1.add 7).add 2) w42,hd 7 ((p1.add 7).add 3) w42,hd 2 ((p1.add 7).add 0) w42,hd 2 ((p1.add 7).add 1) w42,hd 2 ((p1.add 7).add 2) w42,hd 2 ((p1.add 7).add 3) w42] w50∧(
Ae prog F.Ce [.pointer b,Sv xP r49.1] w50 false iT λr51 w52=>
A7 [hd 7 ((p1.add 7).add 0) w42,hd 7 ((p1.add 7).add 1) w42,hd 7 ((p1.add 7).add 2) w42,hd 7 ((p1.add 7).add 3) w42,hd 2 ((p1.add 7).add 0) w42,hd 2 ((p1.add 7).add 1) w42,hd 2 ((p1.add 7).add 2) w42,hd 2 ((p1.add 7).add 3) w42] w52∧(
R (((r47.1.1==r51.1.1),()),()) w52))))) (
Aj (x11==9) (
Jg w41 λw53=>
ld1 KI (p1.add 1) w53 λx54=>
ld1 KI (p1.add 2) w53 λx55=>
ld1 KI (p1.add 1) w53 λx56=>
ld1 KI (p1.add 2) w53 λx57=>
Ae prog F.Gz [.pointer a,iV x54,iV x55] w53 false iT λr58 w59=>
A7 [hd 10 (p1.add 2) w53,hd 8 (p1.add 1) w53,hd 4 (p1.add 2) w53,hd 2 (p1.add 1) w53] w59∧(
Ae prog F.Gz [.pointer b,iV x56,iV x57] w59 false iT λr60 w61=>
A7 [hd 4 (p1.add 2) w53,hd 2 (p1.add 1) w53] w61∧(
R (((r58.1.1==r60.1.1),()),()) w61))) (
Aj (x11==10) (
Jg w41 λw62=>
ld1 KI (p1.add 1) w62 λx63=>
ld1 .sl (p1.add 6) w62 λx64=>
ld1 KI (p1.add 1) w62 λx65=>
ld1 .sl (p1.add 6) w62 λx66=>
Ae prog F.Eg [.pointer a,iV x63,.slice x64.1 x64.2.1 x64.2.2] w62 false iT λr67 w68=>
A7 [hd 10 (p1.add 6) w62,hd 8 (p1.add 1) w62,hd 4 (p1.add 6) w62,hd 2 (p1.add 1) w62] w68∧(
Ae prog F.Eg [.pointer b,iV x65,.slice x66.1 x66.2.1 x66.2.2] w68 false iT λr69 w70=>
A7 [hd 4 (p1.add 6) w62,hd 2 (p1.add 1) w62] w70∧(
R (((r67.1.1==r69.1.1),()),()) w70))) (
R ((true,()),()) w41)))))))
theorem law27_twice.ok{a b:Option Addr}{x0 x1 x2:Int}{x3:Bool}{x4:Int}{x5:ByteArray}{x6 x7 x8 x9 x10:Option Addr×Nat×Nat}{w:World}{R:TR r0'→WP}:law27_twice.wp a b x0 x1 x2 x3 x4 x5 x6 x7 x8 x9 x10 w R→Ae prog F.law27_twice [.pointer a,.pointer b,.agg #[iV x0,iV x1,iV x2,.bool x3,.int .u32 x4,.string x5,.slice x6.1 x6.2.1 x6.2.2,.slice x7.1 x7.2.1 x7.2.2,.slice x8.1 x8.2.1 x8.2.2,.slice x9.1 x9.2.1 x9.2.2,.slice x10.1 x10.2.1 x10.2.2]] w false r0' R:=
 oks Aa Tryz.func38 (.s .n (.s (hs 2 (.s (.s (.pl (ks [0,1,2,3,4,5,6,8,9,10,11,12,13,14] (.ef 7 [] (.ef 15 [10,12,14] (.tk 16 (.tk 17 .z)))))) .n) (.s .n (.s (.s (.pl (ks [0,1,2,3,4,6,7,8,9,10] (.ef 5 [] (.ef 11 [8,10] (.tk 12 (.tk 13 .z)))))) .n) (.s .n (.s (.s (.pl (ks [0,1,2,4,5,6] (.ef 3 [] (.ef 7 [6] (.tk 8 (.tk 9 .z)))))) .n) (.ct [(54,.b)] .n (.s (.s (.pl (ks [0,1,2,5,6,7] (.ef 3 [] (.ef 4 [] (.ef 8 [] (.ef 9 [] (.tk 10 (.tk 11 .z)))))))) .n) (.s .n (.s (.s (.pl (ks [0,1,2,3,4,6,7,8,9,10] (.ef 5 [] (.ef 11 [8,10] (.tk 12 (.tk 13 .z)))))) .n) (.s .n (.s (.s (.pl (ks [0,1,2,3,4,6,7,8,9,10] (.ef 5 [] (.ef 11 [8,10] (.tk 12 (.tk 13 .z)))))) .n) .n)))))))))))) .n))
def Jz.wp(n:Option Addr)(i:Int)(label:ByteArray)(w:World)(R:TR xB→WP):Prop:=
Ae prog F.Ec [.pointer n,iV i] w false iT λr1 w2=>
Aj (r1.1.1 !=0) (
R ((0,()),(r1.1.1,()),()) w2) (
Aq n λa3=>
ld1 .sl (a3.add 12) w2 λx4=>
Ny x4.1 x4.2.1 i λa5=>
ld1 .p (a5.add (i.toNat*1)) w2 λx6=>
Ae prog F.Qj [.pointer x6,.string label] w2 true xB λr7 w8=>
R ((r7.1.1,()),(r7.2.1.1,()),()) w8)
theorem Jz.ok{n:Option Addr}{i:Int}{label:ByteArray}{w:World}{R:TR xB→WP}:Jz.wp n i label w R→Ae prog F.Jz [.pointer n,iV i,.string label] w true xB R:=
 oks Aa Tryz.func41 .n
def Ls.wp(n:Option Addr)(i:Int)(w:World)(R:TR Us→WP):Prop:=
Bf z8' T.U1 w λp1 w2=>
Ae prog F.Eu [.pointer n,iV i] w2 false Arw λr3 w4=>
Ae prog F.Oq [.pointer r3.1.1] w4 true Us λr5 w6=>
Au (encs Ig r5.1) p1 0 w6 λw7=>
A8 Ig p1 0 w7 λx8=>
R (x8,(r5.2.1.1,()),()) w7
theorem Ls.ok{n:Option Addr}{i:Int}{w:World}{R:TR Us→WP}:Ls.wp n i w R→Ae prog F.Ls [.pointer n,iV i] w true Us R:=
 oks Aa Tryz.func42 .n
def Aco.wp(n:Option Addr)(i:Int)(w:World)(R:TR Aa9→WP):Prop:=
Bf Vy T.Ajc w λp1 w2=>
Ae prog F.Ec [.pointer n,iV i] w2 false iT λr3 w4=>
Aj (r3.1.1 !=0) (
Au Vy p1 0 w4 λw5=>
A8 fH p1 0 w5 λx6=>
R (x6,(0,()),(r3.1.1,()),()) w5) (
Aq n λa7=>
ld1 .sl (a7.add 12) w4 λx8=>
Ny x8.1 x8.2.1 i λa9=>
ld1 .p (a9.add (i.toNat*1)) w4 λx10=>
Ae prog F.aN [.pointer x10] w4 true Aa9 λr11 w12=>
Au (encs fH r11.1) p1 0 w12 λw13=>
A8 fH p1 0 w13 λx14=>
R (x14,(r11.2.1.1,()),(r11.2.2.1.1,()),()) w13)
theorem Aco.ok{n:Option Addr}{i:Int}{w:World}{R:TR Aa9→WP}:Aco.wp n i w R→Ae prog F.Aco [.pointer n,iV i] w true Aa9 R:=
 oks Aa Tryz.func43 .n
def Aiz.wp(m0 m1 m2:Int)(m3:Option Addr×Nat×Nat)(w:World)(R:TR Arw→WP):Prop:=
Bf [iV m0,iV m1,iV m2,.slice m3.1 m3.2.1 m3.2.2] T.Ai1 w λp1 w2=>
ld1 .sl (p1.add 3) w2 λx3=>
Ci (λ(self4:((Option Addr×Nat×Nat)×(Int)×Unit)→WP) (z5:(Option Addr×Nat×Nat)×(Int)×Unit) w6=> ∀_:Nat→Value,
Aj (decide (z5.2.1<(x3.2.1:Int))) (
Ny x3.1 x3.2.1 z5.2.1 λa7=>
A8 [KI,KI] (a7.add (z5.2.1.toNat*2)) 0 w6 λx8=>
Bf [iV 0,iV 0] T.Alg w6 λp9 w10=>
Au [iV x8.1,iV x8.2.1] p9 0 w10 λw11=>
A8 [KI,KI] p9 0 w11 λx12=>
Bf [iV x12.1,iV x12.2.1] T.Ags w11 λp13 w14=>
L9 ((Builtin.append_ #[T.Aen,T.Aen] T.Aen #[.slice z5.1.1 z5.1.2.1 z5.1.2.2,.slice (some p13) 1 1]).run prog w14) λy15 w16=>
self4 ((y15.1,y15.2.1,y15.2.2),wrap .i64 (z5.2.1+1),()) w16) (
ld1 KI p1 w6 λx17=>
ld1 KI (p1.add 1) w6 λx18=>
ld1 KI (p1.add 2) w6 λx19=>
Ae prog F.Ae8 [iV x17,iV x18,iV x19,.slice z5.1.1 z5.1.2.1 z5.1.2.2] w6 true r2' λr20 w21=>
R ((r20.1.1,()),()) w21)) ((none,0,0),0,()) w2
theorem Aiz.ok{m0 m1 m2:Int}{m3:Option Addr×Nat×Nat}{w:World}{R:TR Arw→WP}:Aiz.wp m0 m1 m2 m3 w R→Ae prog F.Aiz [.agg #[iV m0,iV m1,iV m2,.slice m3.1 m3.2.1 m3.2.2]] w false Arw R:=
 oks Aa Tryz.func48 (hs 2 (.s (.s .n (.lp [(3,.sl),(11,(.i .i64))] .n)) .n))
def Aiw.wp(t:Option Addr)(ties:Option Addr×Nat×Nat)(a0 a1 a2 a3 a4 u0 u1 u2 u3 u4 u5 ticks:Int)(w:World)(R:TR r0'→WP):Prop:=
Bf [iV a0,iV a1,iV a2,uV a3,iV a4] T.Bg w λp1 w2=>
Bf [iV u0,iV u1,iV u2,iV u3,iV u4,iV u5] T.Ajc w2 λp3 w4=>
Ci (λ(self5:((Int)×Unit)→WP) (z6:(Int)×Unit) w7=> ∀_:Nat→Value,
Aj (decide (z6.1<(ties.2.1:Int))) (
Ny ties.1 ties.2.1 z6.1 λa8=>
A8 mP (a8.add (z6.1.toNat*4)) 0 w7 λx9=>
Bf Anm T.Al7 w7 λp10 w11=>
Au (encs mP x9) p10 0 w11 λw12=>
A8 [KI,KU] p10 0 w12 λx13=>
A8 [KI,KU] (p1.add 2) 0 w12 λx14=>
Aj (!((x13.1==x14.1)&&((x13.2.1==x14.2.1)&&true))) (
self5 (wrap .i64 (z6.1+1),()) w12) (
ld1 KI p1 w12 λx15=>
ld1 KI (p10.add 2) w12 λx16=>
dF 1000 (
dF 1000 (
Cc (λ(J17:((Int)×(Int)×Unit)→WP)=>
Aj (decide ((Int.tmod (wrap .i64 (x15-x16)) 1000)<0)) (
J17 (wrap .i64 ((wrap .i64 (Int.tdiv (wrap .i64 (x15-x16)) 1000))-1),wrap .i64 ((Int.tmod (wrap .i64 (x15-x16)) 1000)+1000),()) w12) (
J17 (wrap .i64 (Int.tdiv (wrap .i64 (x15-x16)) 1000),Int.tmod (wrap .i64 (x15-x16)) 1000,()) w12)) (λ(z18:(Int)×(Int)×Unit) w19=> ∀_:Nat→Value,
ld1 KI (p10.add 3) w19 λx20=>
Ae prog F.Adc [.pointer t,iV (wrap .i64 (x20+z18.1))] w19 true kZ λr21 w22=>
Bf Vy T.Ajc w22 λp23 w24=>
Au (encs fH r21.1) p23 0 w24 λw25=>
Aj (r21.2.1.1==0) (
A8 fH p23 0 w25 λx26=>
A8 fH p3 0 w25 λx27=>
Aj (((x26.1==x27.1)&&((x26.2.1==x27.2.1)&&((x26.2.2.1==x27.2.2.1)&&true)))&&((x26.2.2.2.1==x27.2.2.2.1)&&((x26.2.2.2.2.1==x27.2.2.2.2.1)&&((x26.2.2.2.2.2.1==x27.2.2.2.2.2.1)&&true)))) (
Aj (z18.2.1==ticks) (
R ((true,()),()) w25) (
self5 (wrap .i64 (z6.1+1),()) w25)) (
self5 (wrap .i64 (z6.1+1),()) w25)) (
self5 (wrap .i64 (z6.1+1),()) w25)))))) (
R ((false,()),()) w7)) (0,()) w4
theorem Aiw.ok{t:Option Addr}{ties:Option Addr×Nat×Nat}{a0 a1 a2 a3 a4 u0 u1 u2 u3 u4 u5 ticks:Int}{w:World}{R:TR r0'→WP}:Aiw.wp t ties a0 a1 a2 a3 a4 u0 u1 u2 u3 u4 u5 ticks w R→Ae prog F.Aiw [.pointer t,.slice ties.1 ties.2.1 ties.2.2,.agg #[iV a0,iV a1,iV a2,uV a3,iV a4],.agg #[iV u0,iV u1,iV u2,iV u3,iV u4,iV u5],iV ticks] w false r0' R:=
 oks Aa Tryz.func49 (.s .n (.s (.s .n (.lp [(20,(.i .i64))] (hs 2 (.s (hs 4 (.ct [(14,(.i .i64)),(15,(.i .i64))] .n .n)) .n)))) .n))
def Ot.wp(s0 s1 s2 s3 s4 s5 s6 s7 s8 s9:Int)(s10:Bool)(w:World)(R:TR r0'→WP):Prop:=
Bf [iV s0,iV s1,iV s2,iV s3,iV s4,iV s5,iV s6,iV s7,iV s8,iV s9,.bool s10] T.Xj w λp1 w2=>
ld1 KI p1 w2 λx3=>
ld1 KI (p1.add 1) w2 λx4=>
ld1 KI (p1.add 2) w2 λx5=>
ld1 KI (p1.add 3) w2 λx6=>
ld1 KI (p1.add 4) w2 λx7=>
Ae prog F.Vq [iV x3,iV x4,iV x5,iV x6,iV x7] w2 false r0' λr8 w9=>
Aj r8.1.1 (
A8 k2' p1 0 w9 λx10=>
Ae prog F.Jy [Sv k2' x10] w9 false Ajw λr11 w12=>
Ae prog F.U3 [Sv Aab r11.1] w12 false r0' λr13 w14=>
Aj r13.1.1 (
ld1 KI (p1.add 8) w14 λx15=>
Aj (decide (x15≥1)) (
ld1 KI (p1.add 8) w14 λx16=>
ld1 KI (p1.add 1) w14 λx17=>
Aj (decide (x16≤x17)) (
ld1 KI (p1.add 9) w14 λx18=>
Aj (decide (x18≥0)) (
ld1 KI (p1.add 9) w14 λx19=>
R ((decide (x19≤20),()),()) w14) (
R ((false,()),()) w14)) (
R ((false,()),()) w14)) (
R ((false,()),()) w14)) (
R ((false,()),()) w14)) (
R ((false,()),()) w9)
theorem Ot.ok{s0 s1 s2 s3 s4 s5 s6 s7 s8 s9:Int}{s10:Bool}{w:World}{R:TR r0'→WP}:Ot.wp s0 s1 s2 s3 s4 s5 s6 s7 s8 s9 s10 w R→Ae prog F.Ot [.agg #[iV s0,iV s1,iV s2,iV s3,iV s4,iV s5,iV s6,iV s7,iV s8,iV s9,.bool s10]] w false r0' R:=
 oks Aa Tryz.func50 .n
def Pi.wp(n:Int)(w:World)(R:TR r2'→WP):Prop:=
Aj (decide (n<1)) (
R ((none,()),(1,()),()) w) (
Aj (decide (n>64)) (
R ((none,()),(1,()),()) w) (
L9 ((Instr.makeSlice T.Ux (iV n) (iV n)).run prog w) λy1 w2=>
Bf [iV n,.slice y1.1 y1.2.1 y1.2.2] T.Ahf w2 λp3 w4=>
R ((some p3,()),(0,()),()) w4))
theorem Pi.ok{n:Int}{w:World}{R:TR r2'→WP}:Pi.wp n w R→Ae prog F.Pi [iV n] w true r2' R:=
 oks Aa Tryz.func51 .n
def Uz.wp(s0 s1 s2 s3 s4 s5 s6 s7 s8 s9:Int)(s10:Bool)(leaps:Option Addr)(w:World)(R:TR r2'→WP):Prop:=
Bf [iV s0,iV s1,iV s2,iV s3,iV s4,iV s5,iV s6,iV s7,iV s8,iV s9,.bool s10] T.jP w λp1 w2=>
A8 k2' p1 0 w2 λx3=>
Ae prog F.Nq [Sv k2' x3] w2 false r0' λr4 w5=>
Aj (!r4.1.1) (
R ((none,()),(1,()),()) w5) (
Jg w5 λw6=>
A8 k2' p1 0 w6 λx7=>
Ae prog F.Wl [] w6 false Arw λr8 w9=>
A7 [hd 0 (p1.add 0) w6,hd 0 (p1.add 1) w6,hd 0 (p1.add 2) w6,hd 0 (p1.add 3) w6,hd 0 (p1.add 4) w6,hd 0 (p1.add 5) w6,hd 0 (p1.add 6) w6,hd 0 (p1.add 7) w6,hd 0 (p1.add 8) w6,hd 0 (p1.add 9) w6,hd 0 (p1.add 10) w6] w9∧(
Bf [iV x7.1,iV x7.2.1,iV x7.2.2.1,iV x7.2.2.2.1,iV x7.2.2.2.2.1,iV x7.2.2.2.2.2.1,iV x7.2.2.2.2.2.2.1,iV x7.2.2.2.2.2.2.2.1,iV x7.2.2.2.2.2.2.2.2.1,iV x7.2.2.2.2.2.2.2.2.2.1,.bool x7.2.2.2.2.2.2.2.2.2.2.1,.pointer leaps,.bool false,uV 0,.pointer none,.pointer none,.pointer none,.pointer none,.pointer none,.bool false,iV 0,uV 0,iV 0,uV 0,iV 0,iV 0,.pointer r8.1.1,.pointer none] T.Ad6 w9 λp10 w11=>
A7 [hd 0 (p1.add 0) w6,hd 0 (p1.add 1) w6,hd 0 (p1.add 2) w6,hd 0 (p1.add 3) w6,hd 0 (p1.add 4) w6,hd 0 (p1.add 5) w6,hd 0 (p1.add 6) w6,hd 0 (p1.add 7) w6,hd 0 (p1.add 8) w6,hd 0 (p1.add 9) w6,hd 0 (p1.add 10) w6] w11∧(
ld1 KI ((p1.add 1).add 3) w11 λx12=>
Ae prog F.Xz [iV x12] w11 true r2' λr13 w14=>
Au [.pointer r13.1.1] (p10.add 14) 0 w14 λw15=>
ld1 KI p1 w15 λx16=>
A8 aU (p1.add 1) 0 w15 λx17=>
Ae prog F.Ui [iV x16,Sv aU x17] w15 true r2' λr18 w19=>
Au [.pointer r18.1.1] (p10.add 15) 0 w19 λw20=>
ld1 KI p1 w20 λx21=>
Ae prog F.Wp [iV x21] w20 true r2' λr22 w23=>
Au [.pointer r22.1.1] (p10.add 16) 0 w23 λw24=>
ld1 KI p1 w24 λx25=>
Ae prog F.Xq [iV x25] w24 true r2' λr26 w27=>
Au [.pointer r26.1.1] (p10.add 17) 0 w27 λw28=>
ld1 KI (p1.add 8) w28 λx29=>
Ae prog F.Vm [iV x29] w28 true r2' λr30 w31=>
Au [.pointer r30.1.1] (p10.add 18) 0 w31 λw32=>
Ae prog F.Jc [iV 8] w32 true r2' λr33 w34=>
Au [.pointer r33.1.1] (p10.add 27) 0 w34 λw35=>
R ((some p10,()),(0,()),()) w35)))
theorem Uz.ok{s0 s1 s2 s3 s4 s5 s6 s7 s8 s9:Int}{s10:Bool}{leaps:Option Addr}{w:World}{R:TR r2'→WP}:Uz.wp s0 s1 s2 s3 s4 s5 s6 s7 s8 s9 s10 leaps w R→Ae prog F.Uz [.agg #[iV s0,iV s1,iV s2,iV s3,iV s4,iV s5,iV s6,iV s7,iV s8,iV s9,.bool s10],.pointer leaps] w true r2' R:=
 oks Aa Tryz.func52 (hs 2 (.s (.pl (.tk 0 (.tk 1 (.ef 2 [] (.tk 3 (.ef 4 [] (.tk 5 .z))))))) .n))
def Lj.wp(s0 s1 s2 s3 s4 s5 s6 s7 s8 s9:Int)(s10:Option Addr×Nat×Nat)(i:Int)(w:World)(R:TR r5'→WP):Prop:=
Bf [iV s0,iV s1,iV s2,iV s3,iV s4,iV s5,iV s6,iV s7,iV s8,iV s9,.slice s10.1 s10.2.1 s10.2.2] T.mQ w λp1 w2=>
Bf Aqn T.jP w2 λp3 w4=>
ld1 KI (p1.add 5) w4 λx5=>
dF (if 1>x5 then 1 else x5) (
Cc (λ(J6:((Int)×Unit)→WP)=>
ld1 .sl (p1.add 10) w4 λx9=>
Aj (decide (i<(x9.2.1:Int))) (
ld1 .sl (p1.add 10) w4 λx10=>
Ny x10.1 x10.2.1 i λa11=>
ld1 KI (a11.add (i.toNat*1)) w4 λx12=>
J6 (x12,()) w4) (
J6 (Int.tmod i (if 1>x5 then 1 else x5),()) w4)) (λ(z7:(Int)×Unit) w8=> ∀_:Nat→Value,
A8 aU (p1.add 1) 0 w8 λx13=>
ld1 KI (p1.add 5) w8 λx14=>
ld1 KI (p1.add 6) w8 λx15=>
ld1 KI (p1.add 7) w8 λx16=>
ld1 KI (p1.add 8) w8 λx17=>
ld1 KI (p1.add 9) w8 λx18=>
Au [iV i,iV x13.1,iV x13.2.1,iV x13.2.2.1,iV x13.2.2.2.1,iV x14,iV x15,iV z7.1,iV x16,iV x17,.bool (i==x18)] p3 0 w8 λw19=>
A8 k2' p3 0 w19 λx20=>
R (x20,()) w19))
theorem Lj.ok{s0 s1 s2 s3 s4 s5 s6 s7 s8 s9:Int}{s10:Option Addr×Nat×Nat}{i:Int}{w:World}{R:TR r5'→WP}:Lj.wp s0 s1 s2 s3 s4 s5 s6 s7 s8 s9 s10 i w R→Ae prog F.Lj [.agg #[iV s0,iV s1,iV s2,iV s3,iV s4,iV s5,iV s6,iV s7,iV s8,iV s9,.slice s10.1 s10.2.1 s10.2.2],iV i] w false r5' R:=
 oks Aa Tryz.func53 (hs 2 (.ct [(5,(.i .i64))] .n .n))
def Eu.wp(n:Option Addr)(i:Int)(w:World)(R:TR Arw→WP):Prop:=
Aj (Option.isNone n) (
R ((none,()),()) w) (
Aj (decide (i<0)) (
R ((none,()),()) w) (
Aq n λa1=>
ld1 .sl (a1.add 12) w λx2=>
Aj (decide (i≥(x2.2.1:Int))) (
R ((none,()),()) w) (
Aq n λa3=>
ld1 .sl (a3.add 12) w λx4=>
Ny x4.1 x4.2.1 i λa5=>
ld1 .p (a5.add (i.toNat*1)) w λx6=>
R ((x6,()),()) w)))
theorem Eu.ok{n:Option Addr}{i:Int}{w:World}{R:TR Arw→WP}:Eu.wp n i w R→Ae prog F.Eu [.pointer n,iV i] w false Arw R:=
 oks Aa Tryz.func54 .n
def Cb.wp(n:Option Addr)(w:World)(R:TR r3'→WP):Prop:=
Bf z2' T.nK w λp1 w2=>
Aj (Option.isNone n) (
Au z2' p1 0 w2 λw3=>
A8 k1' p1 0 w3 λx4=>
R (x4,()) w3) (
Aq n λa5=>
ld1 .b (a5.add 12) w2 λx6=>
Aj (!x6) (
Aq n λa7=>
ld1 KU (a7.add 13) w2 λx8=>
Au [.bool false,uV x8,iV 0,iV 0,.bool false,.bool false,iV 0,iV 0,iV 0,.bool false,iV 0,iV 0] p1 0 w2 λw9=>
A8 k1' p1 0 w9 λx10=>
R (x10,()) w9) (
Jg w2 λw11=>
Aq n λa12=>
ld1 KU (a12.add 13) w11 λx13=>
Aq n λa14=>
ld1 .p (a14.add 14) w11 λx15=>
Aq n λa16=>
ld1 .p (a16.add 15) w11 λx17=>
Aq x17 λa18=>
ld1 .p a18 w11 λx19=>
Aq n λa20=>
ld1 .p (a20.add 15) w11 λx21=>
Aq x21 λa22=>
ld1 .p a22 w11 λx23=>
Aq n λa24=>
ld1 .p (a24.add 15) w11 λx25=>
Aq n λa26=>
ld1 .p (a26.add 15) w11 λx27=>
Aq n λa28=>
ld1 .p (a28.add 16) w11 λx29=>
Aq n λa30=>
ld1 .p (a30.add 16) w11 λx31=>
Aq n λa32=>
ld1 .p (a32.add 17) w11 λx33=>
Aq n λa34=>
ld1 .p (a34.add 27) w11 λx35=>
Aq n λa36=>
ld1 .p (a36.add 26) w11 λx37=>
Ae prog F.Ez [.pointer x15] w11 false iT λr38 w39=>
A7 [hd 58 (a36.add 26) w11,hd 53 (a34.add 27) w11,hd 48 (a32.add 17) w11,hd 43 (a30.add 16) w11,hd 38 (a28.add 16) w11,hd 33 (a26.add 15) w11,hd 28 (a24.add 15) w11,hd 23 a22 w11,hd 20 (a20.add 15) w11,hd 15 a18 w11,hd 12 (a16.add 15) w11,hd 7 (a14.add 14) w11,hd 3 (a12.add 13) w11] w39∧(
Ae prog F.Dc [.pointer x19] w39 false iT λr40 w41=>
A7 [hd 58 (a36.add 26) w11,hd 53 (a34.add 27) w11,hd 48 (a32.add 17) w11,hd 43 (a30.add 16) w11,hd 38 (a28.add 16) w11,hd 33 (a26.add 15) w11,hd 28 (a24.add 15) w11,hd 23 a22 w11,hd 20 (a20.add 15) w11,hd 15 a18 w11,hd 12 (a16.add 15) w11,hd 7 (a14.add 14) w11,hd 3 (a12.add 13) w11] w41∧(
Ae prog F.Bc [.pointer x23] w41 false r0' λr42 w43=>
A7 [hd 58 (a36.add 26) w11,hd 53 (a34.add 27) w11,hd 48 (a32.add 17) w11,hd 43 (a30.add 16) w11,hd 38 (a28.add 16) w11,hd 33 (a26.add 15) w11,hd 28 (a24.add 15) w11,hd 23 a22 w11,hd 20 (a20.add 15) w11,hd 15 a18 w11,hd 12 (a16.add 15) w11,hd 7 (a14.add 14) w11,hd 3 (a12.add 13) w11] w43∧(
Ae prog F.Ba [.pointer x25] w43 false r0' λr44 w45=>
A7 [hd 58 (a36.add 26) w11,hd 53 (a34.add 27) w11,hd 48 (a32.add 17) w11,hd 43 (a30.add 16) w11,hd 38 (a28.add 16) w11,hd 33 (a26.add 15) w11,hd 28 (a24.add 15) w11,hd 23 a22 w11,hd 20 (a20.add 15) w11,hd 15 a18 w11,hd 12 (a16.add 15) w11,hd 7 (a14.add 14) w11,hd 3 (a12.add 13) w11] w45∧(
Ae prog F.Hg [.pointer x27] w45 false iT λr46 w47=>
A7 [hd 58 (a36.add 26) w11,hd 53 (a34.add 27) w11,hd 48 (a32.add 17) w11,hd 43 (a30.add 16) w11,hd 38 (a28.add 16) w11,hd 33 (a26.add 15) w11,hd 28 (a24.add 15) w11,hd 23 a22 w11,hd 20 (a20.add 15) w11,hd 15 a18 w11,hd 12 (a16.add 15) w11,hd 7 (a14.add 14) w11,hd 3 (a12.add 13) w11] w47∧(
Ae prog F.Ja [.pointer x29] w47 false iT λr48 w49=>
A7 [hd 58 (a36.add 26) w11,hd 53 (a34.add 27) w11,hd 48 (a32.add 17) w11,hd 43 (a30.add 16) w11,hd 38 (a28.add 16) w11,hd 33 (a26.add 15) w11,hd 28 (a24.add 15) w11,hd 23 a22 w11,hd 20 (a20.add 15) w11,hd 15 a18 w11,hd 12 (a16.add 15) w11,hd 7 (a14.add 14) w11,hd 3 (a12.add 13) w11] w49∧(
Ae prog F.En [.pointer x31] w49 false iT λr50 w51=>
A7 [hd 58 (a36.add 26) w11,hd 53 (a34.add 27) w11,hd 48 (a32.add 17) w11,hd 43 (a30.add 16) w11,hd 38 (a28.add 16) w11,hd 33 (a26.add 15) w11,hd 28 (a24.add 15) w11,hd 23 a22 w11,hd 20 (a20.add 15) w11,hd 15 a18 w11,hd 12 (a16.add 15) w11,hd 7 (a14.add 14) w11,hd 3 (a12.add 13) w11] w51∧(
Ae prog F.Nv [.pointer x33] w51 false r0' λr52 w53=>
A7 [hd 58 (a36.add 26) w11,hd 53 (a34.add 27) w11,hd 48 (a32.add 17) w11,hd 43 (a30.add 16) w11,hd 38 (a28.add 16) w11,hd 33 (a26.add 15) w11,hd 28 (a24.add 15) w11,hd 23 a22 w11,hd 20 (a20.add 15) w11,hd 15 a18 w11,hd 12 (a16.add 15) w11,hd 7 (a14.add 14) w11,hd 3 (a12.add 13) w11] w53∧(
Ae prog F.Di [.pointer x35] w53 false iT λr54 w55=>
A7 [hd 58 (a36.add 26) w11,hd 53 (a34.add 27) w11,hd 48 (a32.add 17) w11,hd 43 (a30.add 16) w11,hd 38 (a28.add 16) w11,hd 33 (a26.add 15) w11,hd 28 (a24.add 15) w11,hd 23 a22 w11,hd 20 (a20.add 15) w11,hd 15 a18 w11,hd 12 (a16.add 15) w11,hd 7 (a14.add 14) w11,hd 3 (a12.add 13) w11] w55∧(
Ae prog F.Qh [.pointer x37] w55 false iT λr56 w57=>
A7 [hd 53 (a34.add 27) w11,hd 48 (a32.add 17) w11,hd 43 (a30.add 16) w11,hd 38 (a28.add 16) w11,hd 33 (a26.add 15) w11,hd 28 (a24.add 15) w11,hd 23 a22 w11,hd 20 (a20.add 15) w11,hd 15 a18 w11,hd 12 (a16.add 15) w11,hd 7 (a14.add 14) w11,hd 3 (a12.add 13) w11] w57∧(
Au [.bool true,uV x13,iV r38.1.1,iV r40.1.1,.bool r42.1.1,.bool r44.1.1,iV r46.1.1,iV r48.1.1,iV r50.1.1,.bool r52.1.1,iV r54.1.1,iV r56.1.1] p1 0 w57 λw58=>
A7 [] w58∧(
A8 k1' p1 0 w58 λx59=>
R (x59,()) w58)))))))))))))
theorem Cb.ok{n:Option Addr}{w:World}{R:TR r3'→WP}:Cb.wp n w R→Ae prog F.Cb [.pointer n] w false r3' R:=
 oks Aa Tryz.func55 (hs 3 (.s (.pl (ks [0,1,2,3,4,5,6,7,9,10,11,12,13,14,15,17,18,19,20,21,22,23,25,26,27,28,30,31,32,33,35,36,37,38,40,41,42,43,45,46,47,48,50,51,52,53,55,56,57,58] (.ef 8 [] (.ef 16 [] (.ef 24 [] (.ef 29 [] (.ef 34 [] (.ef 39 [] (.ef 44 [] (.ef 49 [] (.ef 54 [] (.ef 59 [58] (.tk 60 (.ef 61 [3,7,12,15,20,23,28,33,38,43,48,53] .z)))))))))))))) .n))
def Dn.wp(n:Option Addr)(w:World)(R:TR dB→WP):Prop:=
Bf [uV 0,uV 0] T.yB w λp1 w2=>
Ae prog F.Cm [.pointer n] w2 false iT λr3 w4=>
Aj (r3.1.1 !=0) (
Au [uV 0,uV 0] p1 0 w4 λw5=>
A8 [KU,KU] p1 0 w5 λx6=>
R ((x6.1,x6.2.1,()),(false,()),()) w5) (
Aq n λa7=>
ld1 .p (a7.add 15) w4 λx8=>
Aq x8 λa9=>
ld1 .p a9 w4 λx10=>
Ae prog F.Hl [.pointer x10] w4 true dB λr11 w12=>
Au [uV r11.1.1,uV r11.1.2.1] p1 0 w12 λw13=>
A8 [KU,KU] p1 0 w13 λx14=>
R ((x14.1,x14.2.1,()),(r11.2.1.1,()),()) w13)
theorem Dn.ok{n:Option Addr}{w:World}{R:TR dB→WP}:Dn.wp n w R→Ae prog F.Dn [.pointer n] w true dB R:=
 oks Aa Tryz.func57 .n
def Ht.wp(l:Option Addr)(i k:Int)(on_:Bool)(w:World)(R:TR iT→WP):Prop:=
Aj (Option.isNone l) (
R ((2,()),()) w) (
Ae prog F.Ho [.pointer l,iV i,iV k] w false r0' λr1 w2=>
Aj (!r1.1.1) (
R ((1,()),()) w2) (
Jg w2 λw3=>
Aq l λa4=>
ld1 .sl (a4.add 1) w3 λx5=>
Ny x5.1 x5.2.1 i λa6=>
ld1 (.i .u64) (a6.add (i.toNat*1)) w3 λx7=>
fJ k (
Ny x5.1 x5.2.1 i λa8=>
Au [.int .u64 (Lm .andNot .u64 x7 (Sz .u64 1 k))] (a8.add (i.toNat*1)) 0 w3 λw9=>
A7 [] w9∧(
Jg w9 λw10=>
Aq l λa11=>
ld1 .sl (a11.add 1) w10 λx12=>
Ny x12.1 x12.2.1 k λa13=>
ld1 (.i .u64) (a13.add (k.toNat*1)) w10 λx14=>
fJ i (
Ny x12.1 x12.2.1 k λa15=>
Au [.int .u64 (Lm .andNot .u64 x14 (Sz .u64 1 i))] (a15.add (k.toNat*1)) 0 w10 λw16=>
A7 [] w16∧(
Aj on_ (
Jg w16 λw17=>
Aq l λa18=>
ld1 .sl (a18.add 1) w17 λx19=>
Ny x19.1 x19.2.1 i λa20=>
ld1 (.i .u64) (a20.add (i.toNat*1)) w17 λx21=>
fJ k (
Ny x19.1 x19.2.1 i λa22=>
Au [.int .u64 (Lm .or .u64 x21 (Sz .u64 1 k))] (a22.add (i.toNat*1)) 0 w17 λw23=>
A7 [] w23∧(
Jg w23 λw24=>
Aq l λa25=>
ld1 .sl (a25.add 1) w24 λx26=>
Ny x26.1 x26.2.1 k λa27=>
ld1 (.i .u64) (a27.add (k.toNat*1)) w24 λx28=>
fJ i (
Ny x26.1 x26.2.1 k λa29=>
Au [.int .u64 (Lm .or .u64 x28 (Sz .u64 1 i))] (a29.add (k.toNat*1)) 0 w24 λw30=>
A7 [] w30∧(
R ((0,()),()) w30))))) (
R ((0,()),()) w16)))))))
theorem Ht.ok{l:Option Addr}{i k:Int}{on_:Bool}{w:World}{R:TR iT→WP}:Ht.wp l i k on_ w R→Ae prog F.Ht [.pointer l,iV i,iV k,.bool on_] w false iT R:=
 oks Aa Tryz.func58 (hs 2 (.s (.pl (ks [0,1,2,3,4,5,6,7,8,9,10] (.ef 11 [3,6] .z))) (.s (.pl (ks [0,1,2,3,4,5,6,7,8,9,10] (.ef 11 [3,6] .z))) (.s (.s .n (.s (.s (.pl (ks [0,1,2,3,4,5,6,7,8,9,10] (.ef 11 [3,6] .z))) (.pl (ks [0,1,2,3,4,5,6,7,8,9,10] (.ef 11 [3,6] .z)))) .n)) .n))))
def Iz.wp(n:Option Addr)(c0 c1 c2 c3:Option Addr×Nat×Nat)(w:World)(R:TR iT→WP):Prop:=
Bf [.slice c0.1 c0.2.1 c0.2.2,.slice c1.1 c1.2.1 c1.2.2,.slice c2.1 c2.2.1 c2.2.2,.slice c3.1 c3.2.1 c3.2.2] T.V4 w λp1 w2=>
Aj (Option.isNone n) (
R ((2,()),()) w2) (
Jg w2 λw3=>
ld1 .sl p1 w3 λx4=>
Aq n λa5=>
ld1 .sl (a5.add 12) w3 λx6=>
Aj ((x4.2.1:Int) !=(x6.2.1:Int)) (
R ((1,()),()) w3) (
ld1 .sl (p1.add 3) w3 λx7=>
Aq n λa8=>
ld1 .sl (a8.add 12) w3 λx9=>
Aj (decide ((x7.2.1:Int)>(x9.2.1:Int))) (
R ((1,()),()) w3) (
ld1 .sl (p1.add 1) w3 λx10=>
Ae prog F.Ip [.pointer n,.slice x10.1 x10.2.1 x10.2.2] w3 false r0' λr11 w12=>
A7 [hd 23 (p1.add 1) w3,hd 16 (a8.add 12) w3,hd 11 (p1.add 3) w3,hd 6 (a5.add 12) w3,hd 1 p1 w3] w12∧(
Aj (!r11.1.1) (
R ((1,()),()) w12) (
ld1 .sl (p1.add 2) w12 λx13=>
Ae prog F.Ip [.pointer n,.slice x13.1 x13.2.1 x13.2.2] w12 false r0' λr14 w15=>
A7 [hd 23 (p1.add 1) w3,hd 16 (a8.add 12) w3,hd 11 (p1.add 3) w3,hd 6 (a5.add 12) w3,hd 1 p1 w3] w15∧(
Aj (!r14.1.1) (
R ((1,()),()) w15) (
Aq n λa16=>
ld1 .sl (a16.add 12) w15 λx17=>
Ci (λ(self18:((Int)×Unit)→WP) (z19:(Int)×Unit) w20=> ∀_:Nat→Value,
Aj (decide (z19.1<(x17.2.1:Int))) (
Ny x17.1 x17.2.1 z19.1 λa21=>
ld1 .p (a21.add (z19.1.toNat*1)) w20 λx22=>
ld1 .sl p1 w20 λx23=>
Ny x23.1 x23.2.1 z19.1 λa24=>
ld1 KI (a24.add (z19.1.toNat*1)) w20 λx25=>
Ae prog F.Sm [.pointer x22,iV x25] w20 false r0' λr26 w27=>
Aj (!r26.1.1) (
R ((1,()),()) w27) (
self18 (wrap .i64 (z19.1+1),()) w27)) (
Aq n λa28=>
ld1 .sl (a28.add 12) w20 λx29=>
Ci (λ(self30:((Int)×Unit)→WP) (z31:(Int)×Unit) w32=> ∀_:Nat→Value,
Aj (decide (z31.1<(x29.2.1:Int))) (
Ny x29.1 x29.2.1 z31.1 λa33=>
ld1 .p (a33.add (z31.1.toNat*1)) w32 λx34=>
Ae prog F.Cb [.pointer x34] w32 false r3' λr35 w36=>
Bf z2' T.nK w36 λp37 w38=>
Au (encs k1' r35.1) p37 0 w38 λw39=>
Jg w39 λw40=>
ld1 .b p37 w40 λx41=>
Aj x41 (
ld1 KI (p37.add 2) w40 λx42=>
ld1 .sl p1 w40 λx43=>
Ny x43.1 x43.2.1 z31.1 λa44=>
ld1 KI (a44.add (z31.1.toNat*1)) w40 λx45=>
Aj (decide ((wrap .i64 (x42+x45))>1125899906842624)) (
R ((8,()),()) w40) (
self30 (wrap .i64 (z31.1+1),()) w40)) (
self30 (wrap .i64 (z31.1+1),()) w40)) (
R ((0,()),()) w32)) (0,()) w20)) (0,()) w15)))))))
theorem Iz.ok{n:Option Addr}{c0 c1 c2 c3:Option Addr×Nat×Nat}{w:World}{R:TR iT→WP}:Iz.wp n c0 c1 c2 c3 w R→Ae prog F.Iz [.pointer n,.agg #[.slice c0.1 c0.2.1 c0.2.2,.slice c1.1 c1.2.1 c1.2.2,.slice c2.1 c2.2.1 c2.2.2,.slice c3.1 c3.2.1 c3.2.2]] w false iT R:=
 oks Aa Tryz.func59 (hs 2 (.s (.s (.pl (ks [0,1,2,3,4,5,6,7,8,9,10,11,12,13,14,15,16,17,18,19,20,21,22,23] (.ef 24 [] (ks [25,26,27,28,29,30] (.ef 31 [30] (.tk 32 (.tk 33 .z))))))) .n) (.s (.s .n (.lp [(51,(.i .i64))] .n)) (.s (.s .n (.lp [(70,(.i .i64))] (hs 2 (.s (hs 2 (.s (.pl (ks [0,1,2,3,4,5,6,7,8,9,10,11,12] .z)) .n)) .n)))) .n))))
def Lr.wp(n:Option Addr)(ticks:Int)(w:World)(R:TR iT→WP):Prop:=
Ae prog F.Cm [.pointer n] w false iT λr1 w2=>
Aj (r1.1.1 !=0) (
R ((r1.1.1,()),()) w2) (
Aq n λa3=>
ld1 .p (a3.add 14) w2 λx4=>
Ae prog F.Qd [.pointer x4,iV ticks] w2 false iT λr5 w6=>
R ((r5.1.1,()),()) w6)
theorem Lr.ok{n:Option Addr}{ticks:Int}{w:World}{R:TR iT→WP}:Lr.wp n ticks w R→Ae prog F.Lr [.pointer n,iV ticks] w false iT R:=
 oks Aa Tryz.func60 .n
def Mc.wp(n:Option Addr)(c0 c1 c2 c3:Option Addr×Nat×Nat)(w:World)(R:TR dH→WP):Prop:=
Bf [.slice c0.1 c0.2.1 c0.2.2,.slice c1.1 c1.2.1 c1.2.2,.slice c2.1 c2.2.1 c2.2.2,.slice c3.1 c3.2.1 c3.2.2] T.V4 w λp1 w2=>
Aq n λa3=>
ld1 .sl (a3.add 12) w2 λx4=>
L9 ((Instr.makeSlice T.jU (iV (x4.2.1:Int)) (iV (x4.2.1:Int))).run prog w2) λy5 w6=>
Aq n λa7=>
Au [.int .u64 0] (a7.add 14) 0 w6 λw8=>
Aq n λa9=>
ld1 .sl (a9.add 12) w8 λx10=>
Ci (λ(self11:((Int)×Unit)→WP) (z12:(Int)×Unit) w13=> ∀_:Nat→Value,
Aj (decide (z12.1<(x10.2.1:Int))) (
Ny x10.1 x10.2.1 z12.1 λa14=>
ld1 .p (a14.add (z12.1.toNat*1)) w13 λx15=>
Jg w13 λw16=>
Aq n λa17=>
ld1 KI (a17.add 13) w16 λx18=>
ld1 .sl (p1.add 1) w16 λx19=>
Ny x19.1 x19.2.1 z12.1 λa20=>
ld1 KI (a20.add (z12.1.toNat*1)) w16 λx21=>
Ae prog F.Hy [.pointer x15,iV x18,iV x21] w16 true xA λr22 w23=>
A7 [hd 8 (p1.add 1) w16] w23∧(
Ny y5.1 y5.2.1 z12.1 λa24=>
Au [.slice r22.1.1.1 r22.1.1.2.1 r22.1.1.2.2] (a24.add (z12.1.toNat*1)) 0 w23 λw25=>
A7 [] w25∧(
Ny y5.1 y5.2.1 z12.1 λa26=>
ld1 .sl (a26.add (z12.1.toNat*1)) w25 λx27=>
Aj (decide ((x27.2.1:Int)>0)) (
Jg w25 λw28=>
Aq n λa29=>
ld1 (.i .u64) (a29.add 14) w28 λx30=>
fJ z12.1 (
Aq n λa31=>
Au [.int .u64 (Lm .or .u64 x30 (Sz .u64 1 z12.1))] (a31.add 14) 0 w28 λw32=>
A7 [] w32∧(
self11 (wrap .i64 (z12.1+1),()) w32))) (
self11 (wrap .i64 (z12.1+1),()) w25)))) (
R (((y5.1,y5.2.1,y5.2.2),()),()) w13)) (0,()) w8
theorem Mc.ok{n:Option Addr}{c0 c1 c2 c3:Option Addr×Nat×Nat}{w:World}{R:TR dH→WP}:Mc.wp n c0 c1 c2 c3 w R→Ae prog F.Mc [.pointer n,.agg #[.slice c0.1 c0.2.1 c0.2.2,.slice c1.1 c1.2.1 c1.2.2,.slice c2.1 c2.2.1 c2.2.2,.slice c3.1 c3.2.1 c3.2.2]] w false dH R:=
 oks Aa Tryz.func61 (hs 3 (.s (.s .n (.lp [(22,(.i .i64))] (hs 2 (.s (.s .n (.s (.pl (ks [0,1,2,3,4,5,6,7,8,9,10,11] (.ef 12 [6,11] (ks [13,14,15,16] (.ef 17 [8] .z))))) (.s .n (.s (.pl (ks [0,1,2,3,4,5,6,7,8] (.ef 9 [3] .z))) .n)))) .n)))) .n))
def Ov.wp(l:Option Addr)(send awake:Int)(lost:Option Addr×Nat×Nat)(w:World)(R:TR dH→WP):Prop:=
Bf jR T.Adx w λp1 w2=>
Au [.int .u64 send,.int .u64 awake,.slice lost.1 lost.2.1 lost.2.2] p1 0 w2 λw3=>
Ae prog F.Fb [.pointer l] w3 false iT λr4 w5=>
Ci (λ(self6:((Option Addr×Nat×Nat)×(Int)×Unit)→WP) (z7:(Option Addr×Nat×Nat)×(Int)×Unit) w8=> ∀_:Nat→Value,
Aj (decide (z7.2.1<r4.1.1)) (
Jg w8 λw9=>
A8 Aku p1 0 w9 λx10=>
Ae prog F.Gx [.pointer l,iV z7.2.1] w9 false aT λr11 w12=>
A7 [hd 1 (p1.add 0) w9,hd 1 (p1.add 1) w9,hd 1 (p1.add 2) w9] w12∧(
Ae prog F.I4 [Sv Aku x10,iV z7.2.1,.int .u64 (Lm .and .u64 r11.1.1 send)] w12 false Aj7 λr13 w14=>
A7 [hd 1 (p1.add 0) w9,hd 1 (p1.add 1) w9,hd 1 (p1.add 2) w9] w14∧(
Bf [iV r13.1.1,iV r13.1.2.1] T.P6 w14 λp15 w16=>
A7 [hd 1 (p1.add 0) w9,hd 1 (p1.add 1) w9,hd 1 (p1.add 2) w9] w16∧(
L9 ((Builtin.append_ #[T.O5,T.O5] T.O5 #[.slice z7.1.1 z7.1.2.1 z7.1.2.2,.slice (some p15) 1 1]).run prog w16) λy17 w18=>
A7 [hd 1 (p1.add 0) w9,hd 1 (p1.add 1) w9,hd 1 (p1.add 2) w9] w18∧(
self6 ((y17.1,y17.2.1,y17.2.2),wrap .i64 (z7.2.1+1),()) w18))))) (
R (((z7.1.1,z7.1.2.1,z7.1.2.2),()),()) w8)) ((none,0,0),0,()) w5
theorem Ov.ok{l:Option Addr}{send awake:Int}{lost:Option Addr×Nat×Nat}{w:World}{R:TR dH→WP}:Ov.wp l send awake lost w R→Ae prog F.Ov [.pointer l,.int .u64 send,.int .u64 awake,.slice lost.1 lost.2.1 lost.2.2] w false dH R:=
 oks Aa Tryz.func62 (hs 3 (.s (.s .n (.lp [(9,.sl),(18,(.i .i64))] (hs 2 (.s (.s .n (.pl (ks [0,1,2,3,4,6] (.ef 5 [] (.tk 7 (.ef 8 [] (.ef 9 [] (.ef 10 [] (.tk 11 .z))))))))) .n)))) .n))
def Jd.wp(n:Option Addr)(w:World)(R:TR aT→WP):Prop:=
Aq n λa1=>
ld1 .sl (a1.add 12) w λx2=>
Ci (λ(self3:((Int)×(Int)×Unit)→WP) (z4:(Int)×(Int)×Unit) w5=> ∀_:Nat→Value,
Aj (decide (z4.2.1<(x2.2.1:Int))) (
Ny x2.1 x2.2.1 z4.2.1 λa6=>
ld1 .p (a6.add (z4.2.1.toNat*1)) w5 λx7=>
Ae prog F.Iy [.pointer x7] w5 false r0' λr8 w9=>
Aj r8.1.1 (
fJ z4.2.1 (
self3 (Lm .or .u64 z4.1 (Sz .u64 1 z4.2.1),wrap .i64 (z4.2.1+1),()) w9)) (
self3 (z4.1,wrap .i64 (z4.2.1+1),()) w9)) (
R ((z4.1,()),()) w5)) (0,0,()) w
theorem Jd.ok{n:Option Addr}{w:World}{R:TR aT→WP}:Jd.wp n w R→Ae prog F.Jd [.pointer n] w false aT R:=
 oks Aa Tryz.func63 (hs 2 (.s (.s .n (.lp [(3,(.i .u64)),(11,(.i .i64))] .n)) .n))
def Ia.wp(n:Option Addr)(jitter:Int)(b:Option Addr×Nat×Nat)(w:World)(R:TR iT→WP):Prop:=
Ae prog F.Iu [.pointer n,iV jitter] w true xB λr1 w2=>
Aj (r1.2.1.1 !=0) (
R ((r1.2.1.1,()),()) w2) (
Ae prog F.Ru [.slice b.1 b.2.1 b.2.2] w2 true H7 λr3 w4=>
Jg w4 λw5=>
Aj (r3.2.1.1 !=0) (
R ((r3.2.1.1,()),()) w5) (
Aq n λa6=>
ld1 KI a6 w5 λx7=>
ivK prog r3.1.1 "Sender" [] w5 false iT λr8 w9=>
A7 [hd 9 a6 w5] w9∧(
Aj (r8.1.1==x7) (
R ((r3.2.1.1,()),()) w9) (
Ae prog F.Gm [.pointer n,r3.1.1,iV r1.1.1] w9 false iT λr10 w11=>
R ((r10.1.1,()),()) w11))))
theorem Ia.ok{n:Option Addr}{jitter:Int}{b:Option Addr×Nat×Nat}{w:World}{R:TR iT→WP}:Ia.wp n jitter b w R→Ae prog F.Ia [.pointer n,iV jitter,.slice b.1 b.2.1 b.2.2] w false iT R:=
 oks Aa Tryz.func64 (hs 4 (.s (.s (.pl (ks [0,1,2,3,5,6,7,8,9] (.ef 4 [] (.tk 10 (.tk 11 .z))))) .n) .n))
def Ec.wp(n:Option Addr)(i:Int)(w:World)(R:TR iT→WP):Prop:=
Aj (Option.isNone n) (
R ((2,()),()) w) (
Ae prog F.Eu [.pointer n,iV i] w false Arw λr1 w2=>
Aj (Option.isNone r1.1.1) (
R ((7,()),()) w2) (
R ((0,()),()) w2))
theorem Ec.ok{n:Option Addr}{i:Int}{w:World}{R:TR iT→WP}:Ec.wp n i w R→Ae prog F.Ec [.pointer n,iV i] w false iT R:=
 oks Aa Tryz.func65 .n
def D6.wp(n:Option Addr)(w:World)(R:TR oI→WP):Prop:=
Bf dE T.Bg w λp1 w2=>
Ae prog F.Cm [.pointer n] w2 false iT λr3 w4=>
Aj (r3.1.1 !=0) (
Au dE p1 0 w4 λw5=>
A8 Tu p1 0 w5 λx6=>
R (x6,(r3.1.1,()),()) w5) (
Jg w4 λw7=>
Aq n λa8=>
ld1 .p (a8.add 18) w7 λx9=>
Aq n λa10=>
ld1 .p (a10.add 15) w7 λx11=>
Aq n λa12=>
ld1 .p (a12.add 14) w7 λx13=>
Ae prog F.Ez [.pointer x13] w7 false iT λr14 w15=>
A7 [hd 11 (a12.add 14) w7,hd 7 (a10.add 15) w7,hd 3 (a8.add 18) w7] w15∧(
Ae prog F.Ar [.pointer x9,.pointer x11,iV r14.1.1] w15 true oI λr16 w17=>
A7 [hd 11 (a12.add 14) w7] w17∧(
Au (encs Tu r16.1) p1 0 w17 λw18=>
A7 [] w18∧(
A8 Tu p1 0 w18 λx19=>
R (x19,(r16.2.1.1,()),()) w18))))
theorem D6.ok{n:Option Addr}{w:World}{R:TR oI→WP}:D6.wp n w R→Ae prog F.D6 [.pointer n] w true oI R:=
 oks Aa Tryz.func66 (hs 2 (.s (.pl (ks [0,1,2,3,4,5,6,7,8,9,10,11] (.ef 12 [] (.ef 13 [3,7] (.tk 14 (.tk 15 (.ef 16 [11] (.tk 17 .z)))))))) .n))
def Ji.wp(n:Option Addr)(raw:Int)(w:World)(R:TR iT→WP):Prop:=
Aj (Option.isNone n) (
R ((2,()),()) w) (
Aq n λa1=>
Au [.bool true] (a1.add 12) 0 w λw2=>
Aq n λa3=>
ld1 KU (a3.add 13) w2 λx4=>
Aq n λa5=>
Au [uV (wrap .u16 (x4+1))] (a5.add 13) 0 w2 λw6=>
Aq n λa7=>
ld1 .p (a7.add 14) w6 λx8=>
Ae prog F.Nr [.pointer x8,.int .u32 raw] w6 true [] λr9 w10=>
Jg w10 λw11=>
Aq n λa12=>
ld1 .p (a12.add 15) w11 λx13=>
Aq n λa14=>
ld1 KU (a14.add 13) w11 λx15=>
Ae prog F.Lh [.pointer x13,uV x15] w11 true [] λr16 w17=>
A7 [] w17∧(
Aq n λa18=>
ld1 .p (a18.add 16) w17 λx19=>
Ae prog F.Gf [.pointer x19] w17 true [] λr20 w21=>
Aq n λa22=>
ld1 .p (a22.add 17) w21 λx23=>
Ae prog F.Pe [.pointer x23] w21 true [] λr24 w25=>
Aq n λa26=>
ld1 .p (a26.add 18) w25 λx27=>
Ae prog F.Fe [.pointer x27] w25 true [] λr28 w29=>
Aq n λa30=>
Ae prog F.Js [.pointer (some (a30.add 19))] w29 true [] λr31 w32=>
Aq n λa33=>
ld1 .p (a33.add 26) w32 λx34=>
Ae prog F.Md [.pointer x34] w32 true [] λr35 w36=>
Aq n λa37=>
ld1 .p (a37.add 27) w36 λx38=>
Ae prog F.Eh [.pointer x38] w36 true [] λr39 w40=>
R ((0,()),()) w40))
theorem Ji.ok{n:Option Addr}{raw:Int}{w:World}{R:TR iT→WP}:Ji.wp n raw w R→Ae prog F.Ji [.pointer n,.int .u32 raw] w false iT R:=
 oks Aa Tryz.func67 (hs 5 (.s (.pl (ks [0,1,2,3,4,5,6,7] (.ef 8 [3,7] .z))) .n))
def Qg.wp(n:Option Addr)(w:World)(R:TR iT→WP):Prop:=
Ae prog F.Cm [.pointer n] w false iT λr1 w2=>
Aj (r1.1.1==0) (
Aq n λa3=>
Au [.bool false] (a3.add 12) 0 w2 λw4=>
R ((r1.1.1,()),()) w4) (
R ((r1.1.1,()),()) w2)
theorem Qg.ok{n:Option Addr}{w:World}{R:TR iT→WP}:Qg.wp n w R→Ae prog F.Qg [.pointer n] w false iT R:=
 oks Aa Tryz.func68 .n
def Qc.wp(n:Option Addr)(tai:Int)(w:World)(R:TR iT→WP):Prop:=
Ae prog F.Cm [.pointer n] w false iT λr1 w2=>
Aj (r1.1.1 !=0) (
R ((r1.1.1,()),()) w2) (
Aq n λa3=>
ld1 .b (a3.add 10) w2 λx4=>
Aj (!x4) (
R ((7,()),()) w2) (
Ae prog F.D6 [.pointer n] w2 true oI λr5 w6=>
Bf dE T.Bg w6 λp7 w8=>
Au (encs Tu r5.1) p7 0 w8 λw9=>
Aj (r5.2.1.1 !=0) (
R ((r5.2.1.1,()),()) w9) (
Jg w9 λw10=>
Aq n λa11=>
Aq n λa12=>
ld1 KI a12 w10 λx13=>
A8 Tu p7 0 w10 λx14=>
(
Ae prog F.Et [.pointer (some (a11.add 19)),iV x13,Sv Tu x14,iV tai] w10 true Aii λZb w16=>
A7 [hd 8 (p7.add 0) w10,hd 8 (p7.add 1) w10,hd 8 (p7.add 2) w10,hd 8 (p7.add 3) w10,hd 8 (p7.add 4) w10,hd 7 a12 w10] w16∧(
Bf Aph T.Bh w16 λp17 w18=>
A7 [hd 8 (p7.add 0) w10,hd 8 (p7.add 1) w10,hd 8 (p7.add 2) w10,hd 8 (p7.add 3) w10,hd 8 (p7.add 4) w10,hd 7 a12 w10] w18∧(
Au (encs U9 Zb.1) p17 0 w18 λw19=>
A7 [] w19∧(
Aj (Zb.2.1.1 !=0) (
R ((Zb.2.1.1,()),()) w19) (
Ae prog F.Ib [.pointer n] w19 false iT λr20 w21=>
R ((r20.1.1,()),()) w21)))))∧(
Bf Aph T.Bh w10 λp22 w23=>
A7 [hd 8 (p7.add 0) w10,hd 8 (p7.add 1) w10,hd 8 (p7.add 2) w10,hd 8 (p7.add 3) w10,hd 8 (p7.add 4) w10,hd 7 a12 w10] w23∧(
Ae prog F.Et [.pointer (some (a11.add 19)),iV x13,Sv Tu x14,iV tai] w23 true Aii λr24 w25=>
A7 [] w25∧(
Au (encs U9 r24.1) p22 0 w25 λw26=>
A7 [] w26∧(
Aj (r24.2.1.1 !=0) (
R ((r24.2.1.1,()),()) w26) (
Ae prog F.Ib [.pointer n] w26 false iT λr27 w28=>
R ((r27.1.1,()),()) w28))))))))
theorem Qc.ok{n:Option Addr}{tai:Int}{w:World}{R:TR iT→WP}:Qc.wp n tai w R→Ae prog F.Qc [.pointer n,iV tai] w false iT R:=
 oks Aa Tryz.func69 (hs 5 (.s (.s (.pl (ks [0,1,2,3,4,5,6,7,8,9] (.two 10 14 (ks [11,12,13] (.ef 14 [] (.ef 15 [7,8] (.tk 16 .z)))) (.ef 10 [7,8] (ks [11,12,13] (.ef 15 [] (.tk 16 .z))))))) .n) .n))
def Ru.wp(b:Option Addr×Nat×Nat)(w:World)(R:TR H7→WP):Prop:=
Aj (decide ((b.2.1:Int)>64)) (
R ((.nilIface,()),(5,()),()) w) (
Ae prog F.Xu [.slice b.1 b.2.1 b.2.2] w false Arw λr1 w2=>
Ae prog F.Nj [.pointer r1.1.1,iV 1] w2 true Zz λr3 w4=>
Ae prog F.Sr [.int .u64 r3.1.1] w4 false fC λr5 w6=>
nlK r5.1.1 λb7=>
Aj b7 (
R ((.nilIface,()),(3,()),()) w6) (
Ae prog F.Qo [r5.1.1] w6 false iT λr8 w9=>
Aj ((b.2.1:Int) !=(wrap .i64 (r8.1.1+3))) (
R ((.nilIface,()),(3,()),()) w9) (
Ae prog F.Xy [.slice b.1 b.2.1 b.2.2] w9 true bF λr10 w11=>
Aj (!r10.2.1.1) (
R ((.nilIface,()),(4,()),()) w11) (
ivK prog r5.1.1 "angelus/frame.fields" [] w11 false dH λr12 w13=>
Ci (λ(self14:((Option Addr×Nat×Nat)×(Int)×Unit)→WP) (z15:(Option Addr×Nat×Nat)×(Int)×Unit) w16=> ∀_:Nat→Value,
Aj (decide (z15.2.1<(r12.1.1.2.1:Int))) (
Ny r12.1.1.1 r12.1.1.2.1 z15.2.1 λa17=>
A8 Aab (a17.add (z15.2.1.toNat*3)) 0 w16 λx18=>
Bf Ao4 T.Dl w16 λp19 w20=>
Au (encs Aab x18) p19 0 w20 λw21=>
ld1 KI p19 w21 λx22=>
Ae prog F.Nj [.pointer r1.1.1,iV x22] w21 true Zz λr23 w24=>
Bf [.int .u64 r23.1.1] T.uint64 w24 λp25 w26=>
L9 ((Builtin.append_ #[T.Ux,T.Ux] T.Ux #[.slice z15.1.1 z15.1.2.1 z15.1.2.2,.slice (some p25) 1 1]).run prog w26) λy27 w28=>
self14 ((y27.1,y27.2.1,y27.2.2),wrap .i64 (z15.2.1+1),()) w28) (
Ae prog F.Qn [r5.1.1,.slice z15.1.1 z15.1.2.1 z15.1.2.2] w16 false fC λr29 w30=>
Ae prog F.Ew [r29.1.1] w30 false r0' λr31 w32=>
Aj (!r31.1.1) (
R ((.nilIface,()),(3,()),()) w32) (
R ((r29.1.1,()),(0,()),()) w32))) ((none,0,0),0,()) w13))))
theorem Ru.ok{b:Option Addr×Nat×Nat}{w:World}{R:TR H7→WP}:Ru.wp b w R→Ae prog F.Ru [.slice b.1 b.2.1 b.2.2] w true H7 R:=
 oks Aa Tryz.func70 (hs 8 (.s (.s .n (.lp [(10,.sl),(47,(.i .i64))] .n)) .n))
def Qj.wp(n:Option Addr)(label:ByteArray)(w:World)(R:TR xB→WP):Prop:=
Ae prog F.D6 [.pointer n] w true oI λr1 w2=>
Bf dE T.Bg w2 λp3 w4=>
Au (encs Tu r1.1) p3 0 w4 λw5=>
Aj (r1.2.1.1 !=0) (
R ((0,()),(r1.2.1.1,()),()) w5) (
Jg w5 λw6=>
Aq n λa7=>
ld1 .p (a7.add 26) w6 λx8=>
Aq n λa9=>
ld1 .p (a9.add 14) w6 λx10=>
A8 Tu p3 0 w6 λx11=>
Ae prog F.Ez [.pointer x10] w6 false iT λr12 w13=>
A7 [hd 10 (p3.add 0) w6,hd 10 (p3.add 1) w6,hd 10 (p3.add 2) w6,hd 10 (p3.add 3) w6,hd 10 (p3.add 4) w6,hd 8 (a9.add 14) w6,hd 3 (a7.add 26) w6] w13∧(
Ae prog F.Qk [.pointer x8,.string label,iV r12.1.1,Sv Tu x11] w13 true xB λr14 w15=>
A7 [hd 8 (a9.add 14) w6] w15∧(
R ((r14.1.1,()),(r14.2.1.1,()),()) w15)))
theorem Qj.ok{n:Option Addr}{label:ByteArray}{w:World}{R:TR xB→WP}:Qj.wp n label w R→Ae prog F.Qj [.pointer n,.string label] w true xB R:=
 oks Aa Tryz.func72 (hs 3 (.s (.pl (ks [0,1,2,3,4,5,6,7,8,10] (.ef 9 [] (.ef 11 [3,10] (ks [12,13,14,15] .z))))) .n))
def Oq.wp(n:Option Addr)(w:World)(R:TR Us→WP):Prop:=
Bf z8' T.U1 w λp1 w2=>
Ae prog F.Cm [.pointer n] w2 false iT λr3 w4=>
Aj (r3.1.1 !=0) (
Au z8' p1 0 w4 λw5=>
A8 Ig p1 0 w5 λx6=>
R (x6,(false,()),()) w5) (
Aq n λa7=>
ld1 .p (a7.add 26) w4 λx8=>
Ae prog F.Ou [.pointer x8] w4 true Us λr9 w10=>
Au (encs Ig r9.1) p1 0 w10 λw11=>
A8 Ig p1 0 w11 λx12=>
R (x12,(r9.2.1.1,()),()) w11)
theorem Oq.ok{n:Option Addr}{w:World}{R:TR Us→WP}:Oq.wp n w R→Ae prog F.Oq [.pointer n] w true Us R:=
 oks Aa Tryz.func73 .n
def aN.wp(n:Option Addr)(w:World)(R:TR Aa9→WP):Prop:=
Bf Vy T.Ajc w λp1 w2=>
Ae prog F.D6 [.pointer n] w2 true oI λr3 w4=>
Bf dE T.Bg w4 λp5 w6=>
Au (encs Tu r3.1) p5 0 w6 λw7=>
Aj (r3.2.1.1 !=0) (
Au Vy p1 0 w7 λw8=>
A8 fH p1 0 w8 λx9=>
R (x9,(0,()),(r3.2.1.1,()),()) w8) (
Jg w7 λw10=>
Aq n λa11=>
Aq n λa12=>
ld1 .p (a12.add 11) w10 λx13=>
A8 [KI,KU] (p5.add 2) 0 w10 λx14=>
ld1 KI p5 w10 λx15=>
Ae prog F.oQ [.pointer (some (a11.add 19)),.pointer x13,.agg #[iV x14.1,uV x14.2.1],iV x15] w10 true Aa9 λr16 w17=>
A7 [] w17∧(
Au (encs fH r16.1) p1 0 w17 λw18=>
A7 [] w18∧(
A8 fH p1 0 w18 λx19=>
R (x19,(r16.2.1.1,()),(r16.2.2.1.1,()),()) w18)))
theorem aN.ok{n:Option Addr}{w:World}{R:TR Aa9→WP}:aN.wp n w R→Ae prog F.aN [.pointer n] w true Aa9 R:=
 oks Aa Tryz.func74 (hs 3 (.s (.pl (ks [0,1,2,3,4,5,6,7,8,9,10] (.ef 11 [6,8,10] (ks [12,13,14] (.ef 15 [] (.tk 16 (.tk 17 .z))))))) .n))
def Ae8.wp(start ahead end_:Int)(leaps:Option Addr×Nat×Nat)(w:World)(R:TR r2'→WP):Prop:=
Ae prog F.Ae5 [iV start] w false r0' λr1 w2=>
Aj (!r1.1.1) (
R ((none,()),(1,()),()) w2) (
Ae prog F.Ae5 [iV end_] w2 false r0' λr3 w4=>
Aj (!r3.1.1) (
R ((none,()),(1,()),()) w4) (
Aj (decide (start≥end_)) (
R ((none,()),(1,()),()) w4) (
Aj (decide (ahead<0)) (
R ((none,()),(1,()),()) w4) (
Aj (decide (ahead>99)) (
R ((none,()),(1,()),()) w4) (
Ae prog F.lI [.slice leaps.1 leaps.2.1 leaps.2.2,.func (.func F.dJ) #[] #[]] w4 false r0' λr5 w6=>
Aj r5.1.1 (
R ((none,()),(1,()),()) w6) (
Aj (decide ((leaps.2.1:Int)>64)) (
R ((none,()),(6,()),()) w6) (
Ci (λ(self7:((Int)×(Int)×Unit)→WP) (z8:(Int)×(Int)×Unit) w9=> ∀_:Nat→Value,
Aj (decide (z8.2.1<(leaps.2.1:Int))) (
Ny leaps.1 leaps.2.1 z8.2.1 λa10=>
A8 [KI,KI] (a10.add (z8.2.1.toNat*2)) 0 w9 λx11=>
Bf [iV 0,iV 0] T.Ags w9 λp12 w13=>
Au [iV x11.1,iV x11.2.1] p12 0 w13 λw14=>
ld1 KI p12 w14 λx15=>
Aj (decide (x15≤z8.1)) (
R ((none,()),(12,()),()) w14) (
ld1 KI p12 w14 λx16=>
Aj (decide (x16≥end_)) (
R ((none,()),(12,()),()) w14) (
ld1 KI p12 w14 λx17=>
self7 (x17,wrap .i64 (z8.2.1+1),()) w14))) (
Ae prog F.Kq [.slice leaps.1 leaps.2.1 leaps.2.2] w9 false dH λr18 w19=>
Bf [iV start,iV ahead,iV end_,.slice r18.1.1.1 r18.1.1.2.1 r18.1.1.2.2] T.Atc w19 λp20 w21=>
R ((some p20,()),(0,()),()) w21)) (wrap .i64 (start-1),0,()) w6)))))))
theorem Ae8.ok{start ahead end_:Int}{leaps:Option Addr×Nat×Nat}{w:World}{R:TR r2'→WP}:Ae8.wp start ahead end_ leaps w R→Ae prog F.Ae8 [iV start,iV ahead,iV end_,.slice leaps.1 leaps.2.1 leaps.2.2] w true r2' R:=
 oks Aa Tryz.func76 (hs 5 (.s (.s .n (.lp [(10,(.i .i64)),(43,(.i .i64))] .n)) .n))
def Adc.wp(t:Option Addr)(tai:Int)(w:World)(R:TR kZ→WP):Prop:=
Bf Vy T.Ajc w λp1 w2=>
Aj (Option.isNone t) (
Au Vy p1 0 w2 λw3=>
A8 fH p1 0 w3 λx4=>
R (x4,(2,()),()) w3) (
Ae prog F.Oi [iV tai,iV 86400] w2 true Aix λr5 w6=>
Ci (λ(self7:((Int)×Unit)→WP) (z8:(Int)×Unit) w9=> ∀_:Nat→Value,
Aj (decide (z8.1<3)) (
aiK [wrap .i64 (r5.1.1-1),r5.1.1,wrap .i64 (r5.1.1+1)] 3 z8.1 λc10=>
Ae prog F.Ae6 [.pointer t,iV c10] w9 true fE λr11 w12=>
Aj r11.2.1.1 (
Aj (decide ((wrap .i64 (tai-r11.1.1))≥0)) (
Ae prog F.rE [.pointer t,iV c10] w12 false iT λr13 w14=>
Aj (decide ((wrap .i64 (tai-r11.1.1))<(wrap .i64 (86400+r13.1.1)))) (
Ae prog F.Ajk [iV c10,iV (wrap .i64 (tai-r11.1.1))] w14 false Amg λZb w16=>
Au (encs fH Zb.1) p1 0 w16 λw17=>
A8 fH p1 0 w17 λx18=>
R (x18,(0,()),()) w17) (
self7 (wrap .i64 (z8.1+1),()) w14)) (
self7 (wrap .i64 (z8.1+1),()) w12)) (
self7 (wrap .i64 (z8.1+1),()) w12)) (
Au Vy p1 0 w9 λw19=>
A8 fH p1 0 w19 λx20=>
R (x20,(11,()),()) w19)) (0,()) w6)
theorem Adc.ok{t:Option Addr}{tai:Int}{w:World}{R:TR kZ→WP}:Adc.wp t tai w R→Ae prog F.Adc [.pointer t,iV tai] w true kZ R:=
 oks Aa Tryz.func92 (hs 3 (.s (.s .n (.lp [(29,(.i .i64))] .n)) .n))
def Vq.wp(me timeout ignore need Aw:Int)(w:World)(R:TR r0'→WP):Prop:=
Ae prog F.Ve [iV me,iV timeout,iV ignore] w false r0' λr1 w2=>
Aj r1.1.1 (
Aj (decide (need≥1)) (
Aj (decide (need≤8)) (
Aj (decide (Aw≥0)) (
R ((decide (Aw≤10),()),()) w2) (
R ((false,()),()) w2)) (
R ((false,()),()) w2)) (
R ((false,()),()) w2)) (
R ((false,()),()) w2)
theorem Vq.ok{me timeout ignore need Aw:Int}{w:World}{R:TR r0'→WP}:Vq.wp me timeout ignore need Aw w R→Ae prog F.Vq [iV me,iV timeout,iV ignore,iV need,iV Aw] w false r0' R:=
 oks Aa Tryz.func93 .n
def U3.wp(p0 p1 p2:Int)(w:World)(R:TR r0'→WP):Prop:=
Bf [iV p0,iV p1,iV p2] T.rU w λp3 w4=>
ld1 KI p3 w4 λx5=>
Aj (decide (x5≥1)) (
ld1 KI p3 w4 λx6=>
Aj (decide (x6≤64)) (
ld1 KI (p3.add 1) w4 λx7=>
Aj (decide (x7≥1)) (
ld1 KI (p3.add 1) w4 λx8=>
ld1 KI p3 w4 λx9=>
Aj (decide (x8≤x9)) (
ld1 KI (p3.add 2) w4 λx10=>
Aj (decide (x10≥0)) (
ld1 KI (p3.add 2) w4 λx11=>
ld1 KI p3 w4 λx12=>
R ((decide (x11<x12),()),()) w4) (
R ((false,()),()) w4)) (
R ((false,()),()) w4)) (
R ((false,()),()) w4)) (
R ((false,()),()) w4)) (
R ((false,()),()) w4)
theorem U3.ok{p0 p1 p2:Int}{w:World}{R:TR r0'→WP}:U3.wp p0 p1 p2 w R→Ae prog F.U3 [.agg #[iV p0,iV p1,iV p2]] w false r0' R:=
 oks Aa Tryz.func94 .n
def Jy.wp(s0 s1 s2 s3 s4 s5 s6 s7 s8 s9:Int)(s10:Bool)(w:World)(R:TR Ajw→WP):Prop:=
Bf [iV s0,iV s1,iV s2,iV s3,iV s4,iV s5,iV s6,iV s7,iV s8,iV s9,.bool s10] T.Xj w λp1 w2=>
Bf Ao4 T.rU w2 λp3 w4=>
ld1 KI (p1.add 5) w4 λx5=>
ld1 KI (p1.add 6) w4 λx6=>
ld1 KI (p1.add 7) w4 λx7=>
Au [iV x5,iV x6,iV x7] p3 0 w4 λw8=>
A8 Aab p3 0 w8 λx9=>
R (x9,()) w8
theorem Jy.ok{s0 s1 s2 s3 s4 s5 s6 s7 s8 s9:Int}{s10:Bool}{w:World}{R:TR Ajw→WP}:Jy.wp s0 s1 s2 s3 s4 s5 s6 s7 s8 s9 s10 w R→Ae prog F.Jy [.agg #[iV s0,iV s1,iV s2,iV s3,iV s4,iV s5,iV s6,iV s7,iV s8,iV s9,.bool s10]] w false Ajw R:=
 oks Aa Tryz.func95 .n
def Nq.wp(s0 s1 s2 s3 s4 s5 s6 s7 s8 s9:Int)(s10:Bool)(w:World)(R:TR r0'→WP):Prop:=
Bf [iV s0,iV s1,iV s2,iV s3,iV s4,iV s5,iV s6,iV s7,iV s8,iV s9,.bool s10] T.jP w λp1 w2=>
ld1 KI p1 w2 λx3=>
Aj (decide (x3≥0)) (
ld1 KI p1 w2 λx4=>
Aj (decide (x4<64)) (
A8 aU (p1.add 1) 0 w2 λx5=>
Ae prog F.Hu [Sv aU x5] w2 false r0' λr6 w7=>
Aj r6.1.1 (
A8 Aab (p1.add 5) 0 w7 λx8=>
Ae prog F.Ie [Sv Aab x8] w7 false r0' λr9 w10=>
Aj r9.1.1 (
ld1 KI (p1.add 8) w10 λx11=>
Aj (decide (x11≥1)) (
ld1 KI (p1.add 8) w10 λx12=>
ld1 KI (p1.add 1) w10 λx13=>
Aj (decide (x12≤x13)) (
ld1 KI (p1.add 9) w10 λx14=>
Aj (decide (x14≥0)) (
ld1 KI (p1.add 9) w10 λx15=>
R ((decide (x15≤20),()),()) w10) (
R ((false,()),()) w10)) (
R ((false,()),()) w10)) (
R ((false,()),()) w10)) (
R ((false,()),()) w10)) (
R ((false,()),()) w7)) (
R ((false,()),()) w2)) (
R ((false,()),()) w2)
theorem Nq.ok{s0 s1 s2 s3 s4 s5 s6 s7 s8 s9:Int}{s10:Bool}{w:World}{R:TR r0'→WP}:Nq.wp s0 s1 s2 s3 s4 s5 s6 s7 s8 s9 s10 w R→Ae prog F.Nq [.agg #[iV s0,iV s1,iV s2,iV s3,iV s4,iV s5,iV s6,iV s7,iV s8,iV s9,.bool s10]] w false r0' R:=
 oks Aa Tryz.func96 .n
def Wl.wp(w:World)(R:TR Arw→WP):Prop:=
Ae prog F.Gt [iV 16] w true r2' λr1 w2=>
Bf [.pointer r1.1.1,iV 0] T.Aef w2 λp3 w4=>
R ((some p3,()),()) w4
theorem Wl.ok{w:World}{R:TR Arw→WP}:Wl.wp w R→Ae prog F.Wl [] w false Arw R:=
 oks Aa Tryz.func97 .n
def Xz.wp(Aw:Int)(w:World)(R:TR r2'→WP):Prop:=
Aj (decide (Aw<0)) (
R ((none,()),(1,()),()) w) (
Aj (decide (Aw>10)) (
R ((none,()),(1,()),()) w) (
Bf [iV Aw,.int .u32 0,iV 0] T.Acm w λp1 w2=>
R ((some p1,()),(0,()),()) w2))
theorem Xz.ok{Aw:Int}{w:World}{R:TR r2'→WP}:Xz.wp Aw w R→Ae prog F.Xz [iV Aw] w true r2' R:=
 oks Aa Tryz.func98 .n
def Ui.wp(me r0 r1 r2 r3:Int)(w:World)(R:TR r2'→WP):Prop:=
Bf [iV r0,iV r1,iV r2,iV r3] T.fQ w λp1 w2=>
A8 aU p1 0 w2 λx3=>
Ae prog F.Hu [Sv aU x3] w2 false r0' λr4 w5=>
Aj (!r4.1.1) (
R ((none,()),(1,()),()) w5) (
A8 [KI,KI] p1 0 w5 λx6=>
Ae prog F.Wv [iV me,.agg #[iV x6.1,iV x6.2.1]] w5 true r2' λr7 w8=>
Aj (r7.2.1.1 !=0) (
R ((none,()),(r7.2.1.1,()),()) w8) (
A8 aU p1 0 w8 λx9=>
Bf [.pointer r7.1.1,iV me,iV x9.1,iV x9.2.1,iV x9.2.2.1,iV x9.2.2.2.1,.slice none 0 0,iV 0,iV 0,iV 0] T.Aaa w8 λp10 w11=>
R ((some p10,()),(0,()),()) w11))
theorem Ui.ok{me r0 r1 r2 r3:Int}{w:World}{R:TR r2'→WP}:Ui.wp me r0 r1 r2 r3 w R→Ae prog F.Ui [iV me,.agg #[iV r0,iV r1,iV r2,iV r3]] w true r2' R:=
 oks Aa Tryz.func99 .n
def Wp.wp(me:Int)(w:World)(R:TR r2'→WP):Prop:=
Aj (decide (me<0)) (
R ((none,()),(1,()),()) w) (
Aj (decide (me≥64)) (
R ((none,()),(1,()),()) w) (
Bf [iV me,iV (Int.negSucc 0),iV (Int.negSucc 0)] T.Aao w λp1 w2=>
R ((some p1,()),(0,()),()) w2))
theorem Wp.ok{me:Int}{w:World}{R:TR r2'→WP}:Wp.wp me w R→Ae prog F.Wp [iV me] w true r2' R:=
 oks Aa Tryz.func100 .n
def Xq.wp(me:Int)(w:World)(R:TR r2'→WP):Prop:=
Aj (decide (me<0)) (
R ((none,()),(1,()),()) w) (
Aj (decide (me≥64)) (
R ((none,()),(1,()),()) w) (
Bf [iV me,iV 0,iV 0,.bool false,iV 0,iV 0,iV 0] T.Ad3 w λp1 w2=>
R ((some p1,()),(0,()),()) w2))
theorem Xq.ok{me:Int}{w:World}{R:TR r2'→WP}:Xq.wp me w R→Ae prog F.Xq [iV me] w true r2' R:=
 oks Aa Tryz.func101 .n
def Vm.wp(limit:Int)(w:World)(R:TR r2'→WP):Prop:=
Aj (decide (limit<1)) (
R ((none,()),(1,()),()) w) (
Aj (decide (limit>1000)) (
R ((none,()),(1,()),()) w) (
Bf [iV limit,iV 0,iV 0,iV 0,iV 0,uV 0,iV 0,.bool false] T.uJ w λp1 w2=>
R ((some p1,()),(0,()),()) w2))
theorem Vm.ok{limit:Int}{w:World}{R:TR r2'→WP}:Vm.wp limit w R→Ae prog F.Vm [iV limit] w true r2' R:=
 oks Aa Tryz.func102 .n
def Jc.wp(room:Int)(w:World)(R:TR r2'→WP):Prop:=
Aj (decide (room<1)) (
R ((none,()),(1,()),()) w) (
Aj (decide (room>64)) (
R ((none,()),(1,()),()) w) (
L9 ((Instr.makeSlice T.Zh (iV room) (iV room)).run prog w) λy1 w2=>
Bf [.slice y1.1 y1.2.1 y1.2.2,iV 0,iV 0] T.jJ w2 λp3 w4=>
R ((some p3,()),(0,()),()) w4))
theorem Jc.ok{room:Int}{w:World}{R:TR r2'→WP}:Jc.wp room w R→Ae prog F.Jc [iV room] w true r2' R:=
 oks Aa Tryz.func103 .n
def Ez.wp(c:Option Addr)(w:World)(R:TR iT→WP):Prop:=
Aj (Option.isNone c) (
R ((0,()),()) w) (
Aq c λa1=>
ld1 KI (a1.add 2) w λx2=>
R ((x2,()),()) w)
theorem Ez.ok{c:Option Addr}{w:World}{R:TR iT→WP}:Ez.wp c w R→Ae prog F.Ez [.pointer c] w false iT R:=
 oks Aa Tryz.func104 .n
def Dc.wp(e:Option Addr)(w:World)(R:TR iT→WP):Prop:=
Aj (Option.isNone e) (
R (((Int.negSucc 0),()),()) w) (
Aq e λa1=>
ld1 KI (a1.add 5) w λx2=>
R ((x2,()),()) w)
theorem Dc.ok{e:Option Addr}{w:World}{R:TR iT→WP}:Dc.wp e w R→Ae prog F.Dc [.pointer e] w false iT R:=
 oks Aa Tryz.func105 .n
def Bc.wp(e:Option Addr)(w:World)(R:TR r0'→WP):Prop:=
Jg w λw1=>
Aj (!(Option.isNone e)) (
Aq e λa2=>
ld1 KI (a2.add 5) w1 λx3=>
Aq e λa4=>
ld1 KI a4 w1 λx5=>
R (((x3==x5),()),()) w1) (
R ((false,()),()) w1)
theorem Bc.ok{e:Option Addr}{w:World}{R:TR r0'→WP}:Bc.wp e w R→Ae prog F.Bc [.pointer e] w false r0' R:=
 oks Aa Tryz.func106 (.s .n (.s (.pl (ks [0,1,2,3,4,5,6,7,8,9,10,11,12,13] .z)) .n))
def Ba.wp(f:Option Addr)(w:World)(R:TR r0'→WP):Prop:=
Jg w λw1=>
Aj (!(Option.isNone f)) (
Aq f λa2=>
ld1 .p a2 w1 λx3=>
Ae prog F.Bc [.pointer x3] w1 false r0' λr4 w5=>
A7 [hd 6 a2 w1] w5∧(
Aj r4.1.1 (
R ((true,()),()) w5) (
Aq f λa6=>
Aq f λa7=>
ld1 KI ((a7.add 2).add 2) w5 λx8=>
Ae prog F.Dk [.pointer (some (a6.add 6))] w5 false iT λr9 w10=>
A7 [hd 17 ((a7.add 2).add 2) w5,hd 6 a2 w1] w10∧(
R ((decide (r9.1.1≥x8),()),()) w10)))) (
R ((false,()),()) w1)
theorem Ba.ok{f:Option Addr}{w:World}{R:TR r0'→WP}:Ba.wp f w R→Ae prog F.Ba [.pointer f] w false r0' R:=
 oks Aa Tryz.func107 (.s .n (.s (.pl (ks [0,1,2,3,4,5,6] (.ef 7 [] (ks [8,9,10,11,13,14,15,16,17] (.ef 12 [] (ks [18,19,20,21] .z)))))) .n))
def Hg.wp(f:Option Addr)(w:World)(R:TR iT→WP):Prop:=
Aj (Option.isNone f) (
R ((0,()),()) w) (
Aq f λa1=>
Ae prog F.Dk [.pointer (some (a1.add 6))] w false iT λr2 w3=>
R ((r2.1.1,()),()) w3)
theorem Hg.ok{f:Option Addr}{w:World}{R:TR iT→WP}:Hg.wp f w R→Ae prog F.Hg [.pointer f] w false iT R:=
 oks Aa Tryz.func108 .n
def Ja.wp(l:Option Addr)(w:World)(R:TR iT→WP):Prop:=
Aj (Option.isNone l) (
R (((Int.negSucc 0),()),()) w) (
Aq l λa1=>
ld1 KI (a1.add 1) w λx2=>
R ((x2,()),()) w)
theorem Ja.ok{l:Option Addr}{w:World}{R:TR iT→WP}:Ja.wp l w R→Ae prog F.Ja [.pointer l] w false iT R:=
 oks Aa Tryz.func109 .n
def En.wp(l:Option Addr)(w:World)(R:TR iT→WP):Prop:=
Aj (Option.isNone l) (
R (((Int.negSucc 0),()),()) w) (
Aq l λa1=>
ld1 KI (a1.add 2) w λx2=>
R ((x2,()),()) w)
theorem En.ok{l:Option Addr}{w:World}{R:TR iT→WP}:En.wp l w R→Ae prog F.En [.pointer l] w false iT R:=
 oks Aa Tryz.func110 .n
def Nv.wp(p:Option Addr)(w:World)(R:TR r0'→WP):Prop:=
Aj (!(Option.isNone p)) (
Aq p λa1=>
ld1 .b (a1.add 3) w λx2=>
R ((x2,()),()) w) (
R ((false,()),()) w)
theorem Nv.ok{p:Option Addr}{w:World}{R:TR r0'→WP}:Nv.wp p w R→Ae prog F.Nv [.pointer p] w false r0' R:=
 oks Aa Tryz.func111 .n
def Di.wp(r:Option Addr)(w:World)(R:TR iT→WP):Prop:=
Aj (Option.isNone r) (
R ((0,()),()) w) (
Aq r λa1=>
ld1 KI (a1.add 2) w λx2=>
R ((x2,()),()) w)
theorem Di.ok{r:Option Addr}{w:World}{R:TR iT→WP}:Di.wp r w R→Ae prog F.Di [.pointer r] w false iT R:=
 oks Aa Tryz.func112 .n
def Qh.wp(l:Option Addr)(w:World)(R:TR iT→WP):Prop:=
Aj (Option.isNone l) (
R ((0,()),()) w) (
Aq l λa1=>
ld1 .p a1 w λx2=>
Ae prog F.Dj [.pointer x2] w false iT λr3 w4=>
R ((r3.1.1,()),()) w4)
theorem Qh.ok{l:Option Addr}{w:World}{R:TR iT→WP}:Qh.wp l w R→Ae prog F.Qh [.pointer l] w false iT R:=
 oks Aa Tryz.func113 .n
def Cm.wp(n:Option Addr)(w:World)(R:TR iT→WP):Prop:=
Aj (Option.isNone n) (
R ((2,()),()) w) (
Aq n λa1=>
ld1 .b (a1.add 12) w λx2=>
Aj (!x2) (
R ((10,()),()) w) (
R ((0,()),()) w))
theorem Cm.ok{n:Option Addr}{w:World}{R:TR iT→WP}:Cm.wp n w R→Ae prog F.Cm [.pointer n] w false iT R:=
 oks Aa Tryz.func114 .n
def Hl.wp(e:Option Addr)(w:World)(R:TR dB→WP):Prop:=
Bf [uV 0,uV 0] T.yB w λp1 w2=>
Cc (λ(J3:((Bool)×Unit)→WP)=>
Aj (Option.isNone e) (
J3 (true,()) w2) (
Aq e λa6=>
ld1 KI (a6.add 5) w2 λx7=>
J3 (decide (x7<0),()) w2)) (λ(z4:(Bool)×Unit) w5=> ∀_:Nat→Value,
Aj z4.1 (
Au [uV 0,uV 0] p1 0 w5 λw8=>
A8 [KU,KU] p1 0 w8 λx9=>
R ((x9.1,x9.2.1,()),(false,()),()) w8) (
Ae prog F.Bc [.pointer e] w5 false r0' λr10 w11=>
Aj r10.1.1 (
Jg w11 λw12=>
Aq e λa13=>
ld1 KU (a13.add 3) w12 λx14=>
Aq e λa15=>
ld1 KU (a15.add 4) w12 λx16=>
Aq e λa17=>
ld1 KU (a17.add 4) w12 λx18=>
Au [uV x14,uV x16] p1 0 w12 λw19=>
A7 [hd 12 (a17.add 4) w12] w19∧(
A8 [KU,KU] p1 0 w19 λx20=>
R ((x20.1,x20.2.1,()),(decide (x18>0),()),()) w19)) (
Jg w11 λw21=>
Aq e λa22=>
ld1 .m (a22.add 8) w21 λx23=>
Aq e λa24=>
ld1 KI (a24.add 5) w21 λx25=>
lkP prog T.O9 (.map x23) (iV x25) w21 true [KU,KU] λx26=>
A7 [] w21∧(
Au [uV x26.1,uV x26.2.1] p1 0 w21 λw27=>
A7 [] w27∧(
A8 [KU,KU] p1 0 w27 λx28=>
R ((x28.1,x28.2.1,()),(true,()),()) w27)))))
theorem Hl.ok{e:Option Addr}{w:World}{R:TR dB→WP}:Hl.wp e w R→Ae prog F.Hl [.pointer e] w true dB R:=
 oks Aa Tryz.func115 (.s .n (.s (.ct [(4,.b)] .n (hs 2 (.s (.s (.pl (ks [0,1,2,3,4,5,6,7,8,9,10,11,12,13] (.ef 14 [3,7] (.tk 15 .z)))) .n) .n))) (.s (.pl (ks [0,1,2,3,4,5,6,7] (.ef 8 [3,7] (.ef 9 [] (.tk 10 .z))))) .n)))
def Ho.wp(l:Option Addr)(i k:Int)(w:World)(R:TR r0'→WP):Prop:=
Ae prog F.Ep [.pointer l,iV i] w false r0' λr1 w2=>
Aj r1.1.1 (
Ae prog F.Ep [.pointer l,iV k] w2 false r0' λr3 w4=>
Aj r3.1.1 (
R (((i !=k),()),()) w4) (
R ((false,()),()) w4)) (
R ((false,()),()) w2)
theorem Ho.ok{l:Option Addr}{i k:Int}{w:World}{R:TR r0'→WP}:Ho.wp l i k w R→Ae prog F.Ho [.pointer l,iV i,iV k] w false r0' R:=
 oks Aa Tryz.func116 .n
def Ip.wp(n:Option Addr)(list:Option Addr×Nat×Nat)(w:World)(R:TR r0'→WP):Prop:=
Aq n λa1=>
ld1 .sl (a1.add 12) w λx2=>
Aj ((list.2.1:Int) !=(x2.2.1:Int)) (
R ((false,()),()) w) (
Ci (λ(self3:((Int)×Unit)→WP) (z4:(Int)×Unit) w5=> ∀_:Nat→Value,
Aj (decide (z4.1<(list.2.1:Int))) (
Ny list.1 list.2.1 z4.1 λa6=>
ld1 KI (a6.add (z4.1.toNat*1)) w5 λx7=>
Aq n λa8=>
ld1 KI (a8.add 8) w5 λx9=>
Aj (decide (x7<(wrap .i64 (0-x9)))) (
R ((false,()),()) w5) (
Aq n λa10=>
ld1 KI (a10.add 8) w5 λx11=>
Aj (decide (x7>x11)) (
R ((false,()),()) w5) (
self3 (wrap .i64 (z4.1+1),()) w5))) (
R ((true,()),()) w5)) (0,()) w)
theorem Ip.ok{n:Option Addr}{list:Option Addr×Nat×Nat}{w:World}{R:TR r0'→WP}:Ip.wp n list w R→Ae prog F.Ip [.pointer n,.slice list.1 list.2.1 list.2.2] w false r0' R:=
 oks Aa Tryz.func117 (hs 2 (.s (.s .n (.lp [(17,(.i .i64))] .n)) .n))
def Sm.wp(n:Option Addr)(ticks:Int)(w:World)(R:TR r0'→WP):Prop:=
Aj (!(Option.isNone n)) (
Aq n λa1=>
ld1 .p (a1.add 14) w λx2=>
Ae prog F.Iq [.pointer x2,iV ticks] w false r0' λr3 w4=>
R ((r3.1.1,()),()) w4) (
R ((false,()),()) w)
theorem Sm.ok{n:Option Addr}{ticks:Int}{w:World}{R:TR r0'→WP}:Sm.wp n ticks w R→Ae prog F.Sm [.pointer n,iV ticks] w false r0' R:=
 oks Aa Tryz.func118 .n
def Qd.wp(c:Option Addr)(ticks:Int)(w:World)(R:TR iT→WP):Prop:=
Aj (Option.isNone c) (
R ((2,()),()) w) (
Ae prog F.Iq [.pointer c,iV ticks] w false r0' λr1 w2=>
Aj (!r1.1.1) (
R ((1,()),()) w2) (
Jg w2 λw3=>
Aq c λa4=>
ld1 KI (a4.add 2) w3 λx5=>
Aq c λa6=>
ld1 (.i .u32) (a6.add 1) w3 λx7=>
Ae prog F.Ug [iV x5,.int .u32 (wrap .u32 (x7+(wrap .u32 ticks)))] w3 true fE λr8 w9=>
A7 [hd 7 (a6.add 1) w3] w9∧(
Aj (!r8.2.1.1) (
R ((8,()),()) w9) (
Aq c λa10=>
ld1 (.i .u32) (a10.add 1) w9 λx11=>
Aq c λa12=>
Au [.int .u32 (wrap .u32 (x11+(wrap .u32 ticks)))] (a12.add 1) 0 w9 λw13=>
Aq c λa14=>
Au [iV r8.1.1] (a14.add 2) 0 w13 λw15=>
R ((0,()),()) w15))))
theorem Qd.ok{c:Option Addr}{ticks:Int}{w:World}{R:TR iT→WP}:Qd.wp c ticks w R→Ae prog F.Qd [.pointer c,iV ticks] w false iT R:=
 oks Aa Tryz.func119 (hs 2 (.s (.pl (ks [0,1,2,3,4,5,6,7,8,9,10] (.ef 11 [3] (ks [12,13,14,15,16] .z)))) .n))
def Hy.wp(n:Option Addr)(step jitter:Int)(w:World)(R:TR xA→WP):Prop:=
Ae prog F.Iu [.pointer n,iV jitter] w true xB λr1 w2=>
Aj (r1.2.1.1 !=0) (
R (((none,0,0),()),(r1.2.1.1,()),()) w2) (
Aq n λa3=>
A8 Aab (a3.add 5) 0 w2 λx4=>
Ae prog F.Om [Sv Aab x4,iV step] w2 false r0' λr5 w6=>
Aj (!r5.1.1) (
R (((none,0,0),()),(r1.2.1.1,()),()) w6) (
Bf [.slice none 0 0] T.Ah2 w6 λp7 w8=>
Aq n λa9=>
ld1 .p (a9.add 15) w8 λx10=>
Ae prog F.Kt [.pointer x10,iV r1.1.1] w8 true Arv λr11 w12=>
Bf Aae T.Dy w12 λp13 w14=>
Au (encs Xx r11.1) p13 0 w14 λw15=>
Aq n λa16=>
ld1 .p (a16.add 18) w15 λx17=>
Ae prog F.Eo [.pointer x17] w15 true [] λr18 w19=>
Cc (λ(J20:Unit→WP)=>
Aq n λa23=>
ld1 .p (a23.add 17) w19 λx24=>
Ae prog F.Hz [.pointer x24] w19 false r0' λr25 w26=>
Aj r25.1.1 (
Aq n λa27=>
ld1 .p (a27.add 16) w26 λx28=>
Ae prog F.Gf [.pointer x28] w26 true [] λr29 w30=>
J20 (()) w30) (
J20 (()) w26)) (λ(z21:Unit) w22=> ∀_:Nat→Value,
A8 Xx p13 0 w22 λx31=>
Ae prog F.Jh [.pointer (some p7),.iface T.Dy (Sv Xx x31),.bool r11.2.1.1] w22 true [] λr32 w33=>
Cc (λ(J34:Unit→WP)=>
Ci (λ(self37:Unit→WP) (z38:Unit) w39=> ∀_:Nat→Value,
ld1 .sl p7 w39 λx40=>
Aj (decide ((x40.2.1:Int)<3)) (
Aq n λa41=>
ld1 .p (a41.add 27) w39 λx42=>
Ae prog F.Fq [.pointer x42] w39 true Yk λr43 w44=>
Aj (!r43.2.1.1) (
J34 (()) w44) (
ivK prog r43.1.1 "angelus/node.made" [.pointer n,iV r1.1.1] w44 true Yk λr45 w46=>
Ae prog F.Jh [.pointer (some p7),r45.1.1,.bool r45.2.1.1] w46 true [] λr47 w48=>
self37 (()) w48)) (
J34 (()) w39)) (()) w33) (λ(z35:Unit) w36=> ∀_:Nat→Value,
Cc (λ(J49:((Bool)×Unit)→WP)=>
Aq n λa52=>
ld1 .p (a52.add 15) w36 λx53=>
Ae prog F.Ba [.pointer x53] w36 false r0' λr54 w55=>
Aj (!r54.1.1) (
ld1 .sl p7 w55 λx56=>
J49 (decide ((x56.2.1:Int)<3),()) w55) (
J49 (false,()) w55)) (λ(z50:(Bool)×Unit) w51=> ∀_:Nat→Value,
Aj z50.1 (
Ae prog F.Oz [.pointer n,iV r1.1.1] w51 true Yk λr57 w58=>
Ae prog F.Jh [.pointer (some p7),r57.1.1,.bool r57.2.1.1] w58 true [] λr59 w60=>
ld1 .sl p7 w60 λx61=>
R (((x61.1,x61.2.1,x61.2.2),()),(0,()),()) w60) (
ld1 .sl p7 w51 λx62=>
R (((x62.1,x62.2.1,x62.2.2),()),(0,()),()) w51))))))
theorem Hy.ok{n:Option Addr}{step jitter:Int}{w:World}{R:TR xA→WP}:Hy.wp n step jitter w R→Ae prog F.Hy [.pointer n,iV step,iV jitter] w true xA R:=
 oks Aa Tryz.func120 (hs 6 (.ct [] .n (.s .n (.ct [] (.lp [] .n) (.s (.ct [(94,.b)] .n .n) .n)))))
def Fb.wp(l:Option Addr)(w:World)(R:TR iT→WP):Prop:=
Aj (Option.isNone l) (
R ((0,()),()) w) (
Aq l λa1=>
ld1 KI a1 w λx2=>
R ((x2,()),()) w)
theorem Fb.ok{l:Option Addr}{w:World}{R:TR iT→WP}:Fb.wp l w R→Ae prog F.Fb [.pointer l] w false iT R:=
 oks Aa Tryz.func121 .n
def I4.wp(a0 a1:Int)(a2:Option Addr×Nat×Nat)(i near:Int)(w:World)(R:TR Aj7→WP):Prop:=
Bf [.int .u64 a0,.int .u64 a1,.slice a2.1 a2.2.1 a2.2.2] T.Adx w λp1 w2=>
Bf [iV 0,iV 0] T.P6 w2 λp3 w4=>
Aj (near==0) (
Au [iV (Int.negSucc 0),iV 0] p3 0 w4 λw5=>
A8 [KI,KI] p3 0 w5 λx6=>
R ((x6.1,x6.2.1,()),()) w5) (
Cc (λ(J7:((Int)×Unit)→WP)=>
Aj ((Lm .and .u64 near (wrap .u64 (near-1)))==0) (
Ae prog F.bits_TrailingZeros64 [.int .u64 near] w4 false iT λr10 w11=>
J7 (r10.1.1,()) w11) (
J7 ((Int.negSucc 0),()) w4)) (λ(z8:(Int)×Unit) w9=> ∀_:Nat→Value,
ld1 (.i .u64) p1 w9 λx12=>
Ae prog F.Np [.int .u64 x12,iV i] w9 false r0' λr13 w14=>
Aj r13.1.1 (
Au [iV z8.1,iV 2] p3 0 w14 λw15=>
A8 [KI,KI] p3 0 w15 λx16=>
R ((x16.1,x16.2.1,()),()) w15) (
ld1 (.i .u64) (p1.add 1) w14 λx17=>
Ae prog F.Np [.int .u64 x17,iV i] w14 false r0' λr18 w19=>
Aj (!r18.1.1) (
Au [iV z8.1,iV 3] p3 0 w19 λw20=>
A8 [KI,KI] p3 0 w20 λx21=>
R ((x21.1,x21.2.1,()),()) w20) (
Aj (decide (z8.1<0)) (
Au [iV z8.1,iV 4] p3 0 w19 λw22=>
A8 [KI,KI] p3 0 w22 λx23=>
R ((x23.1,x23.2.1,()),()) w22) (
ld1 .sl (p1.add 2) w19 λx24=>
Aj (decide (i<(x24.2.1:Int))) (
ld1 .sl (p1.add 2) w19 λx25=>
Ny x25.1 x25.2.1 i λa26=>
ld1 (.i .u64) (a26.add (i.toNat*1)) w19 λx27=>
Ae prog F.Np [.int .u64 x27,iV z8.1] w19 false r0' λr28 w29=>
Aj r28.1.1 (
Au [iV z8.1,iV 5] p3 0 w29 λw30=>
A8 [KI,KI] p3 0 w30 λx31=>
R ((x31.1,x31.2.1,()),()) w30) (
Au [iV z8.1,iV 1] p3 0 w29 λw32=>
A8 [KI,KI] p3 0 w32 λx33=>
R ((x33.1,x33.2.1,()),()) w32)) (
Au [iV z8.1,iV 1] p3 0 w19 λw34=>
A8 [KI,KI] p3 0 w34 λx35=>
R ((x35.1,x35.2.1,()),()) w34))))))
theorem I4.ok{a0 a1:Int}{a2:Option Addr×Nat×Nat}{i near:Int}{w:World}{R:TR Aj7→WP}:I4.wp a0 a1 a2 i near w R→Ae prog F.I4 [.agg #[.int .u64 a0,.int .u64 a1,.slice a2.1 a2.2.1 a2.2.2],iV i,.int .u64 near] w false Aj7 R:=
 oks Aa Tryz.func122 (hs 3 (.ct [(7,(.i .i64))] .n .n))
def Gx.wp(l:Option Addr)(i:Int)(w:World)(R:TR aT→WP):Prop:=
Ae prog F.Ep [.pointer l,iV i] w false r0' λr1 w2=>
Aj (!r1.1.1) (
R ((0,()),()) w2) (
Aq l λa3=>
ld1 .sl (a3.add 1) w2 λx4=>
Ny x4.1 x4.2.1 i λa5=>
ld1 (.i .u64) (a5.add (i.toNat*1)) w2 λx6=>
R ((x6,()),()) w2)
theorem Gx.ok{l:Option Addr}{i:Int}{w:World}{R:TR aT→WP}:Gx.wp l i w R→Ae prog F.Gx [.pointer l,iV i] w false aT R:=
 oks Aa Tryz.func123 .n
def Iy.wp(n:Option Addr)(w:World)(R:TR r0'→WP):Prop:=
Ae prog F.Cm [.pointer n] w false iT λr1 w2=>
Aj (r1.1.1 !=0) (
R ((false,()),()) w2) (
Jg w2 λw3=>
Aq n λa4=>
ld1 .p (a4.add 15) w3 λx5=>
Aq n λa6=>
ld1 .p (a6.add 14) w3 λx7=>
Ae prog F.Ez [.pointer x7] w3 false iT λr8 w9=>
A7 [hd 7 (a6.add 14) w3,hd 3 (a4.add 15) w3] w9∧(
Ae prog F.Hw [.pointer x5,iV r8.1.1] w9 true Ajr λr10 w11=>
A7 [hd 7 (a6.add 14) w3] w11∧(
Aj (r10.2.2.1.1 !=0) (
R ((true,()),()) w11) (
Jg w11 λw12=>
Aq n λa13=>
A8 Aab (a13.add 5) 0 w12 λx14=>
Aq n λa15=>
A8 aU (a15.add 1) 0 w12 λx16=>
Aq n λa17=>
A8 Aab (a17.add 5) 0 w12 λx18=>
Aq n λa19=>
ld1 KI (a19.add 9) w12 λx20=>
Ae prog F.Xw [Sv aU x16,Sv Aab x18,iV x20] w12 false Af4 λr21 w22=>
A7 [hd 20 (a19.add 9) w12,hd 15 ((a17.add 5).add 0) w12,hd 15 ((a17.add 5).add 1) w12,hd 15 ((a17.add 5).add 2) w12,hd 10 ((a15.add 1).add 0) w12,hd 10 ((a15.add 1).add 1) w12,hd 10 ((a15.add 1).add 2) w12,hd 10 ((a15.add 1).add 3) w12,hd 4 ((a13.add 5).add 0) w12,hd 4 ((a13.add 5).add 1) w12,hd 4 ((a13.add 5).add 2) w12] w22∧(
Ae prog F.I9 [Sv aU r21.1,iV r10.2.1.1] w22 false iT λr23 w24=>
A7 [hd 20 (a19.add 9) w12,hd 15 ((a17.add 5).add 0) w12,hd 15 ((a17.add 5).add 1) w12,hd 15 ((a17.add 5).add 2) w12,hd 10 ((a15.add 1).add 0) w12,hd 10 ((a15.add 1).add 1) w12,hd 10 ((a15.add 1).add 2) w12,hd 10 ((a15.add 1).add 3) w12,hd 4 ((a13.add 5).add 0) w12,hd 4 ((a13.add 5).add 1) w12,hd 4 ((a13.add 5).add 2) w12] w24∧(
Ae prog F.Nb [Sv Aab x14,iV r10.1.1,iV r23.1.1] w24 false r0' λr25 w26=>
A7 [hd 20 (a19.add 9) w12,hd 15 ((a17.add 5).add 0) w12,hd 15 ((a17.add 5).add 1) w12,hd 15 ((a17.add 5).add 2) w12,hd 10 ((a15.add 1).add 0) w12,hd 10 ((a15.add 1).add 1) w12,hd 10 ((a15.add 1).add 2) w12,hd 10 ((a15.add 1).add 3) w12] w26∧(
R ((r25.1.1,()),()) w26)))))))
theorem Iy.ok{n:Option Addr}{w:World}{R:TR r0'→WP}:Iy.wp n w R→Ae prog F.Iy [.pointer n] w false r0' R:=
 oks Aa Tryz.func124 (hs 2 (.s (.pl (ks [0,1,2,3,4,5,6,7] (.ef 8 [] (.ef 9 [3] (ks [10,11,12,13,14,15,16] .z))))) (.s .n (.s (.pl (ks [0,1,2,3,4,5,6,7,8,9,10,11,12,13,14,15,16,17,18,19,20,22] (.ef 21 [] (.ef 23 [] (.ef 24 [4] (.tk 25 .z)))))) .n))))
def Iu.wp(n:Option Addr)(jitter:Int)(w:World)(R:TR xB→WP):Prop:=
Ae prog F.Cm [.pointer n] w false iT λr1 w2=>
Aj (r1.1.1 !=0) (
R ((0,()),(r1.1.1,()),()) w2) (
Aq n λa3=>
ld1 KI (a3.add 9) w2 λx4=>
Aj (decide (jitter<(wrap .i64 (0-x4)))) (
R ((0,()),(1,()),()) w2) (
Aq n λa5=>
ld1 KI (a5.add 9) w2 λx6=>
Aj (decide (jitter>x6)) (
R ((0,()),(1,()),()) w2) (
Aq n λa7=>
ld1 .p (a7.add 14) w2 λx8=>
Ae prog F.Ez [.pointer x8] w2 false iT λr9 w10=>
Ae prog F.Qs [iV (wrap .i64 (r9.1.1+jitter)),iV 0,iV 1125899906842624] w10 false iT λr11 w12=>
R ((r11.1.1,()),(0,()),()) w12)))
theorem Iu.ok{n:Option Addr}{jitter:Int}{w:World}{R:TR xB→WP}:Iu.wp n jitter w R→Ae prog F.Iu [.pointer n,iV jitter] w true xB R:=
 oks Aa Tryz.func125 .n
def Ii.wp(n:Option Addr)(f0 f1 f2 f3 f4 f5 stamp:Int)(w:World)(R:TR iT→WP):Prop:=
Cc (λ(J1:((Addr)×(Int)×Unit)→WP)=>
Jg w λw4=>
Aq n λa5=>
ld1 .p (a5.add 18) w4 λx6=>
Aq n λa7=>
ld1 .p (a7.add 15) w4 λx8=>
(
Ae prog F.Ar [.pointer x6,.pointer x8,iV stamp] w4 true oI λr9 w10=>
A7 [hd 7 (a7.add 15) w4,hd 3 (a5.add 18) w4] w10∧(
Bf dE T.Bg w10 λp11 w12=>
A7 [hd 7 (a7.add 15) w4,hd 3 (a5.add 18) w4] w12∧(
Au (encs Tu r9.1) p11 0 w12 λw13=>
A7 [] w13∧(
J1 (p11,r9.2.1.1,()) w13))))∧(
Bf dE T.Bg w4 λp14 w15=>
A7 [hd 7 (a7.add 15) w4,hd 3 (a5.add 18) w4] w15∧(
Ae prog F.Ar [.pointer x6,.pointer x8,iV stamp] w15 true oI λr16 w17=>
A7 [] w17∧(
Au (encs Tu r16.1) p14 0 w17 λw18=>
A7 [] w18∧(
J1 (p14,r16.2.1.1,()) w18))))) (λ(z2:(Addr)×(Int)×Unit) w3=> ∀_:Nat→Value,
Bf Aph T.Bh w3 λp19 w20=>
Au [iV f0,uV f1,iV f2,uV f3,iV f4,iV f5] p19 0 w20 λw21=>
Jg w21 λw22=>
Aq n λa23=>
A8 U9 p19 0 w22 λx24=>
Ae prog F.Gh [.pointer (some (a23.add 19)),Sv U9 x24] w22 false r0' λr25 w26=>
A7 [] w26∧(
Aj r25.1.1 (
Ae prog F.Ib [.pointer n] w26 false iT λr27 w28=>
R ((r27.1.1,()),()) w28) (
R ((0,()),()) w26)))
theorem Ii.ok{n:Option Addr}{f0 f1 f2 f3 f4 f5 stamp:Int}{w:World}{R:TR iT→WP}:Ii.wp n f0 f1 f2 f3 f4 f5 stamp w R→Ae prog F.Gm [.pointer n,.iface T.Bh (.agg #[iV f0,uV f1,iV f2,uV f3,iV f4,iV f5]),iV stamp] w false iT R:=
 oks Aa Tryz.func126 (.s .n (.ct [(7,.a),(8,(.i .i64))] (.pl (ks [0,1,2,3,4,5,6,7,8] (.two 9 13 (ks [10,11,12] (.ef 13 [] (.ef 14 [3,7] (.tk 15 .z)))) (.ef 9 [3,7] (ks [10,11,12] (.ef 14 [] (.tk 15 .z))))))) (.s (hs 12 (.s (.s .n (.s (.pl (ks [0,1,2,3] (.ef 4 [3] .z))) .n)) .n)) .n)))
def Px.wp(n:Option Addr)(f0 f1 f2 f3 f4 f5 stamp:Int)(w:World)(R:TR iT→WP):Prop:=
Cc (λ(J1:((Addr)×(Int)×Unit)→WP)=>
Jg w λw4=>
Aq n λa5=>
ld1 .p (a5.add 18) w4 λx6=>
Aq n λa7=>
ld1 .p (a7.add 15) w4 λx8=>
(
Ae prog F.Ar [.pointer x6,.pointer x8,iV stamp] w4 true oI λr9 w10=>
A7 [hd 7 (a7.add 15) w4,hd 3 (a5.add 18) w4] w10∧(
Bf dE T.Bg w10 λp11 w12=>
A7 [hd 7 (a7.add 15) w4,hd 3 (a5.add 18) w4] w12∧(
Au (encs Tu r9.1) p11 0 w12 λw13=>
A7 [] w13∧(
J1 (p11,r9.2.1.1,()) w13))))∧(
Bf dE T.Bg w4 λp14 w15=>
A7 [hd 7 (a7.add 15) w4,hd 3 (a5.add 18) w4] w15∧(
Ae prog F.Ar [.pointer x6,.pointer x8,iV stamp] w15 true oI λr16 w17=>
A7 [] w17∧(
Au (encs Tu r16.1) p14 0 w17 λw18=>
A7 [] w18∧(
J1 (p14,r16.2.1.1,()) w18))))) (λ(z2:(Addr)×(Int)×Unit) w3=> ∀_:Nat→Value,
Bf Aae T.Dy w3 λp19 w20=>
Au [iV f0,iV f1,uV f2,uV f3,iV f4,iV f5] p19 0 w20 λw21=>
Jg w21 λw22=>
Aq n λa23=>
ld1 .p (a23.add 15) w22 λx24=>
A8 Xx p19 0 w22 λx25=>
Ae prog F.Le [.pointer x24,Sv Xx x25,iV stamp] w22 false iT λr26 w27=>
A7 [] w27∧(
R ((0,()),()) w27))
theorem Px.ok{n:Option Addr}{f0 f1 f2 f3 f4 f5 stamp:Int}{w:World}{R:TR iT→WP}:Px.wp n f0 f1 f2 f3 f4 f5 stamp w R→Ae prog F.Gm [.pointer n,.iface T.Dy (.agg #[iV f0,iV f1,uV f2,uV f3,iV f4,iV f5]),iV stamp] w false iT R:=
 oks Aa Tryz.func126 (.s .n (.ct [(7,.a),(8,(.i .i64))] (.pl (ks [0,1,2,3,4,5,6,7,8] (.two 9 13 (ks [10,11,12] (.ef 13 [] (.ef 14 [3,7] (.tk 15 .z)))) (.ef 9 [3,7] (ks [10,11,12] (.ef 14 [] (.tk 15 .z))))))) (.s (hs 2 (.s (.s .n (.pl (ks [0,1,2,3,4,5] (.ef 6 [3,4] .z)))) .n)) .n)))
def Pm.wp(n:Option Addr)(f0 f1 stamp:Int)(w:World)(R:TR iT→WP):Prop:=
Cc (λ(J1:((Addr)×(Int)×Unit)→WP)=>
Jg w λw4=>
Aq n λa5=>
ld1 .p (a5.add 18) w4 λx6=>
Aq n λa7=>
ld1 .p (a7.add 15) w4 λx8=>
(
Ae prog F.Ar [.pointer x6,.pointer x8,iV stamp] w4 true oI λr9 w10=>
A7 [hd 7 (a7.add 15) w4,hd 3 (a5.add 18) w4] w10∧(
Bf dE T.Bg w10 λp11 w12=>
A7 [hd 7 (a7.add 15) w4,hd 3 (a5.add 18) w4] w12∧(
Au (encs Tu r9.1) p11 0 w12 λw13=>
A7 [] w13∧(
J1 (p11,r9.2.1.1,()) w13))))∧(
Bf dE T.Bg w4 λp14 w15=>
A7 [hd 7 (a7.add 15) w4,hd 3 (a5.add 18) w4] w15∧(
Ae prog F.Ar [.pointer x6,.pointer x8,iV stamp] w15 true oI λr16 w17=>
A7 [] w17∧(
Au (encs Tu r16.1) p14 0 w17 λw18=>
A7 [] w18∧(
J1 (p14,r16.2.1.1,()) w18))))) (λ(z2:(Addr)×(Int)×Unit) w3=> ∀_:Nat→Value,
Bf [iV 0,iV 0] T.Gj w3 λp19 w20=>
Au [iV f0,iV f1] p19 0 w20 λw21=>
Aq n λa22=>
ld1 .p (a22.add 15) w21 λx23=>
Ae prog F.Ba [.pointer x23] w21 false r0' λr24 w25=>
Aj (!r24.1.1) (
Jg w25 λw26=>
Aq n λa27=>
ld1 .p (a27.add 16) w26 λx28=>
A8 [KI,KI] p19 0 w26 λx29=>
Ae prog F.Kv [.pointer x28,.agg #[iV x29.1,iV x29.2.1]] w26 false r0' λr30 w31=>
A7 [] w31∧(
R ((0,()),()) w31)) (
R ((0,()),()) w25))
theorem Pm.ok{n:Option Addr}{f0 f1 stamp:Int}{w:World}{R:TR iT→WP}:Pm.wp n f0 f1 stamp w R→Ae prog F.Gm [.pointer n,.iface T.Gj (.agg #[iV f0,iV f1]),iV stamp] w false iT R:=
 oks Aa Tryz.func126 (.s .n (.ct [(7,.a),(8,(.i .i64))] (.pl (ks [0,1,2,3,4,5,6,7,8] (.two 9 13 (ks [10,11,12] (.ef 13 [] (.ef 14 [3,7] (.tk 15 .z)))) (.ef 9 [3,7] (ks [10,11,12] (.ef 14 [] (.tk 15 .z))))))) (.s (hs 4 (.s (hs 2 (.s (.pl (ks [0,1,2,3,4] (.ef 5 [3,4] .z))) .n)) .n)) .n)))
def Pq.wp(n:Option Addr)(f0 stamp:Int)(w:World)(R:TR iT→WP):Prop:=
Cc (λ(J1:((Addr)×(Int)×Unit)→WP)=>
Jg w λw4=>
Aq n λa5=>
ld1 .p (a5.add 18) w4 λx6=>
Aq n λa7=>
ld1 .p (a7.add 15) w4 λx8=>
(
Ae prog F.Ar [.pointer x6,.pointer x8,iV stamp] w4 true oI λr9 w10=>
A7 [hd 7 (a7.add 15) w4,hd 3 (a5.add 18) w4] w10∧(
Bf dE T.Bg w10 λp11 w12=>
A7 [hd 7 (a7.add 15) w4,hd 3 (a5.add 18) w4] w12∧(
Au (encs Tu r9.1) p11 0 w12 λw13=>
A7 [] w13∧(
J1 (p11,r9.2.1.1,()) w13))))∧(
Bf dE T.Bg w4 λp14 w15=>
A7 [hd 7 (a7.add 15) w4,hd 3 (a5.add 18) w4] w15∧(
Ae prog F.Ar [.pointer x6,.pointer x8,iV stamp] w15 true oI λr16 w17=>
A7 [] w17∧(
Au (encs Tu r16.1) p14 0 w17 λw18=>
A7 [] w18∧(
J1 (p14,r16.2.1.1,()) w18))))) (λ(z2:(Addr)×(Int)×Unit) w3=> ∀_:Nat→Value,
Bf [iV 0] T.Gp w3 λp19 w20=>
Au [iV f0] p19 0 w20 λw21=>
Aj (z2.2.1==0) (
Aq n λa22=>
ld1 .p (a22.add 27) w21 λx23=>
Ae prog F.Cj [.pointer x23,.iface T.nH (.agg #[])] w21 false iT λr24 w25=>
R ((r24.1.1,()),()) w25) (
R ((0,()),()) w21))
theorem Pq.ok{n:Option Addr}{f0 stamp:Int}{w:World}{R:TR iT→WP}:Pq.wp n f0 stamp w R→Ae prog F.Gm [.pointer n,.iface T.Gp (.agg #[iV f0]),iV stamp] w false iT R:=
 oks Aa Tryz.func126 (.s .n (.ct [(7,.a),(8,(.i .i64))] (.pl (ks [0,1,2,3,4,5,6,7,8] (.two 9 13 (ks [10,11,12] (.ef 13 [] (.ef 14 [3,7] (.tk 15 .z)))) (.ef 9 [3,7] (ks [10,11,12] (.ef 14 [] (.tk 15 .z))))))) .n))
end Go.Proofs.YticgocmhmffneaaGreatDoor
