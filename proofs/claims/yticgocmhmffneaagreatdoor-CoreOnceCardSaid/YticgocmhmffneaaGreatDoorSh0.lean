import Derived.Test.YticgocmhmffneaaGreatDoorNm
namespace Go.Proofs.YticgocmhmffneaaGreatDoor
open Go.Eng Tryz
open Go.IntKind (wrap)
set_option linter.unusedSimpArgs false
set_option linter.unusedVariables false
set_option maxRecDepth 100000
def Hm.wp(s0 s1 s2 s3 s4 s5 s6 s7 s8 s9:Int)(s10 script:Option Addr×Nat×Nat)(w:World)(R:TR r0'→WP):Prop:=
Bf [iV s0,iV s1,iV s2,iV s3,iV s4,iV s5,iV s6,iV s7,iV s8,iV s9,.slice s10.1 s10.2.1 s10.2.2] T.J8 w fun p1 w2=>
Ae prog F.Oe [] w2 false r0' fun r3 w4=>
Aj (!r3.1.1) (
R ((false,()),()) w4) (
A8 k0' p1 0 w4 fun x5=>
Ae prog F.Oc [Sv k0' x5,.slice script.1 script.2.1 script.2.2,iV 120] w4 false r0' fun r6 w7=>
Aj r6.1.1 (
R ((true,()),()) w7) (
A8 k0' p1 0 w7 fun x8=>
Ae prog F.Ff [Sv k0' x8] w7 false r0' fun r9 w10=>
Aj (!r9.1.1) (
R ((true,()),()) w10) (
A8 k0' p1 0 w10 fun x11=>
Ae prog F.Nl [Sv k0' x11] w10 false r1' fun r12 w13=>
Ae prog F.Io [Sv k0' r12.1,.pointer none] w13 true r2' fun r14 w15=>
Aj (r14.2.1.1 !=0) (
R ((false,()),()) w15) (
Ci (fun(self16:((Int)×Unit)→WP) (z17:(Int)×Unit) w18=> ∀_:Nat→Value,
Aj (decide (z17.1<(script.2.1:Int))) (
Ny script.1 script.2.1 z17.1 fun a19=>
A8 uU (a19.add (z17.1.toNat*11)) 0 w18 fun x20=>
Bf z0' T.uM w18 fun p21 w22=>
Au (encs uU x20) p21 0 w22 fun w23=>
Bf z1' T.Vj w23 fun p24 w25=>
Ci (fun(self26:((Int)×Unit)→WP) (z27:(Int)×Unit) w28=> ∀_:Nat→Value,
ld1 KI p1 w28 fun x29=>
Aj (decide (z27.1<x29)) (
Ae prog F.Bo [.pointer r14.1.1,iV z27.1] w28 false r3' fun r30 w31=>
Ny (some p24) 6 z27.1 fun a32=>
Au (encs k1' r30.1) (a32.add (z27.1.toNat*12)) 0 w31 fun w33=>
self26 (wrap .i64 (z27.1+1),()) w33) (
Ae prog F.Bq [.pointer r14.1.1] w28 false iT fun r34 w35=>
A8 uU p21 0 w35 fun x36=>
Ae prog F.Uw [.pointer r14.1.1,Sv uU x36] w35 false iT fun r37 w38=>
Ci (fun(self39:((Int)×Unit)→WP) (z40:(Int)×Unit) w41=> ∀_:Nat→Value,
ld1 KI p1 w41 fun x42=>
Aj (decide (z40.1<x42)) (
Ae prog F.Bo [.pointer r14.1.1,iV z40.1] w41 false r3' fun r43 w44=>
Bf z2' T.nK w44 fun p45 w46=>
Au (encs k1' r43.1) p45 0 w46 fun w47=>
Jg w47 fun w48=>
ld1 .b p45 w48 fun x49=>
Aj (!x49) (
self39 (wrap .i64 (z40.1+1),()) w48) (
Ny (some p24) 6 z40.1 fun a50=>
ld1 .b (a50.add (z40.1.toNat*12)) w48 fun x51=>
Aj (!x51) (
self39 (wrap .i64 (z40.1+1),()) w48) (
ld1 KU (p45.add 1) w48 fun x52=>
Ny (some p24) 6 z40.1 fun a53=>
ld1 KU ((a53.add (z40.1.toNat*12)).add 1) w48 fun x54=>
Aj (x52 !=x54) (
self39 (wrap .i64 (z40.1+1),()) w48) (
ld1 KI (p45.add 3) w48 fun x55=>
Aj (decide (x55>z40.1)) (
R ((false,()),()) w48) (
ld1 .b (p45.add 4) w48 fun x56=>
ld1 KI (p45.add 3) w48 fun x57=>
Aj (!(x56==(x57==z40.1))) (
R ((false,()),()) w48) (
Jg w48 fun w58=>
Ny (some p24) 6 z40.1 fun a59=>
ld1 KI ((a59.add (z40.1.toNat*12)).add 3) w58 fun x60=>
Aj (decide (x60≥0)) (
ld1 KI (p45.add 3) w58 fun x61=>
Ny (some p24) 6 z40.1 fun a62=>
ld1 KI ((a62.add (z40.1.toNat*12)).add 3) w58 fun x63=>
Aj (decide (x61>x63)) (
ld1 KI (p45.add 3) w58 fun x64=>
Aj (x64 !=z40.1) (
R ((false,()),()) w58) (
ld1 KI (p1.add 5) w58 fun x65=>
dF x65 (
A8 k0' p1 0 w58 fun x66=>
Ae prog F.Oy [Sv k0' x66,iV z40.1] w58 false r5' fun r67 w68=>
A7 [hd 22 (p1.add 5) w58,hd 16 (p45.add 3) w58,(11,((a62.add (z40.1.toNat*12)).add 3),(w58.cell? ((a62.add (z40.1.toNat*12)).add 3)).getD undef),hd 7 (p45.add 3) w58,(3,((a59.add (z40.1.toNat*12)).add 3),(w58.cell? ((a59.add (z40.1.toNat*12)).add 3)).getD undef)] w68∧(
Aj ((Int.tmod r34.1.1 x65) !=r67.1.2.2.2.2.2.2.2.1) (
R ((false,()),()) w68) (
self39 (wrap .i64 (z40.1+1),()) w68))))) (
self39 (wrap .i64 (z40.1+1),()) w58)) (
self39 (wrap .i64 (z40.1+1),()) w58))))))) (
self16 (wrap .i64 (z17.1+1),()) w41)) (0,()) w38)) (0,()) w25) (
R ((true,()),()) w18)) (0,()) w15))))
theorem Hm.ok{s0 s1 s2 s3 s4 s5 s6 s7 s8 s9:Int}{s10 script:Option Addr×Nat×Nat}{w:World}{R:TR r0'→WP}:Hm.wp s0 s1 s2 s3 s4 s5 s6 s7 s8 s9 s10 script w R→Ae prog F.Hm [.agg #[iV s0,iV s1,iV s2,iV s3,iV s4,iV s5,iV s6,iV s7,iV s8,iV s9,.slice s10.1 s10.2.1 s10.2.2],.slice script.1 script.2.1 script.2.2] w false r0' R:=
  oks Aa Tryz.func3 (hs 5 (.s (.s .n (.lp [(34,(.i .i64))] (hs 2 (.s (hs 2 (.s (.s .n (.lp [(10,(.i .i64))] .n)) (hs 3 (.lp [(12,(.i .i64))] (.s .n (.s (.s .n (.s (.s (.pl (ks [0,1,2,3,4,5,6,7,8,9,10,11,12,13,14,15,16,17,18] .z)) .n) (.s .n (.s (.pl (ks [0,1,2,3,4,5,6,7,8,9,10,11,12,13,14,15,16,17,18,19,20,21,22,23,24,25] (.ef 26 [24] (ks [27,28,29,30] .z)))) .n)))) .n)))))) .n)))) .n))
def Tf.wp(s0 s1 s2 s3 s4 s5 s6 s7 s8 s9:Int)(s10 script:Option Addr×Nat×Nat)(w:World)(R:TR r0'→WP):Prop:=
Bf [iV s0,iV s1,iV s2,iV s3,iV s4,iV s5,iV s6,iV s7,iV s8,iV s9,.slice s10.1 s10.2.1 s10.2.2] T.J8 w fun p1 w2=>
Ae prog F.Oe [] w2 false r0' fun r3 w4=>
Aj (!r3.1.1) (
R ((false,()),()) w4) (
A8 k0' p1 0 w4 fun x5=>
Ae prog F.Oc [Sv k0' x5,.slice script.1 script.2.1 script.2.2,iV 120] w4 false r0' fun r6 w7=>
Aj r6.1.1 (
R ((true,()),()) w7) (
A8 k0' p1 0 w7 fun x8=>
Ae prog F.Ff [Sv k0' x8] w7 false r0' fun r9 w10=>
Aj (!r9.1.1) (
R ((true,()),()) w10) (
A8 k0' p1 0 w10 fun x11=>
Ae prog F.Nl [Sv k0' x11] w10 false r1' fun r12 w13=>
Ae prog F.Io [Sv k0' r12.1,.pointer none] w13 true r2' fun r14 w15=>
Aj (r14.2.1.1 !=0) (
R ((false,()),()) w15) (
Ci (fun(self16:((Option Addr×Nat×Nat)×(Int)×Unit)→WP) (z17:(Option Addr×Nat×Nat)×(Int)×Unit) w18=> ∀_:Nat→Value,
Aj (decide (z17.2.1<(script.2.1:Int))) (
Ny script.1 script.2.1 z17.2.1 fun a19=>
A8 uU (a19.add (z17.2.1.toNat*11)) 0 w18 fun x20=>
Bf z0' T.uM w18 fun p21 w22=>
Au (encs uU x20) p21 0 w22 fun w23=>
A8 uU p21 0 w23 fun x24=>
Ae prog F.Uw [.pointer r14.1.1,Sv uU x24] w23 false iT fun r25 w26=>
Ci (fun(self27:((Option Addr×Nat×Nat)×(Int)×Unit)→WP) (z28:(Option Addr×Nat×Nat)×(Int)×Unit) w29=> ∀_:Nat→Value,
ld1 KI p1 w29 fun x30=>
Aj (decide (z28.2.1<x30)) (
Ae prog F.Ju [.pointer r14.1.1,iV z28.2.1] w29 true dB fun r31 w32=>
Bf [uV 0,uV 0] T.Ti w32 fun p33 w34=>
Au [uV r31.1.1,uV r31.1.2.1] p33 0 w34 fun w35=>
Cc (fun(J36:((Bool)×Unit)→WP)=>
Aj r31.2.1.1 (
Ae prog F.Bo [.pointer r14.1.1,iV z28.2.1] w35 false r3' fun r39 w40=>
J36 (r39.1.2.2.2.2.1,()) w40) (
J36 (false,()) w35)) (fun(z37:(Bool)×Unit) w38=> ∀_:Nat→Value,
Aj z37.1 (
A8 [KU,KU] p33 0 w38 fun x41=>
Bf [iV z28.2.1,uV x41.1,uV x41.2.1] T.kE w38 fun p42 w43=>
L9 ((Builtin.append_ #[T.Kq,T.Kq] T.Kq #[.slice z28.1.1 z28.1.2.1 z28.1.2.2,.slice (some p42) 1 1]).run prog w43) fun y44 w45=>
self27 ((y44.1,y44.2.1,y44.2.2),wrap .i64 (z28.2.1+1),()) w45) (
self27 ((z28.1.1,z28.1.2.1,z28.1.2.2),wrap .i64 (z28.2.1+1),()) w38))) (
Ci (fun(self46:((Int)×Unit)→WP) (z47:(Int)×Unit) w48=> ∀_:Nat→Value,
ld1 KI p1 w48 fun x49=>
Aj (decide (z47.1<x49)) (
Ae prog F.Ju [.pointer r14.1.1,iV z47.1] w48 true dB fun r50 w51=>
Bf [uV 0,uV 0] T.Ti w51 fun p52 w53=>
Au [uV r50.1.1,uV r50.1.2.1] p52 0 w53 fun w54=>
Ae prog F.Bo [.pointer r14.1.1,iV z47.1] w54 false r3' fun r55 w56=>
Aj r50.2.1.1 (
Aj (r55.1.2.2.2.1 !=z47.1) (
A8 [KU,KU] p52 0 w56 fun x57=>
Ae prog F.lI [.slice z28.1.1 z28.1.2.1 z28.1.2.2,.agg #[iV r55.1.2.2.2.1,uV x57.1,uV x57.2.1]] w56 false r0' fun r58 w59=>
Aj (!r58.1.1) (
R ((false,()),()) w59) (
self46 (wrap .i64 (z47.1+1),()) w59)) (
self46 (wrap .i64 (z47.1+1),()) w56)) (
self46 (wrap .i64 (z47.1+1),()) w56)) (
self16 ((z28.1.1,z28.1.2.1,z28.1.2.2),wrap .i64 (z17.2.1+1),()) w48)) (0,()) w29)) ((z17.1.1,z17.1.2.1,z17.1.2.2),0,()) w26) (
R ((true,()),()) w18)) ((none,0,0),0,()) w15))))
theorem Tf.ok{s0 s1 s2 s3 s4 s5 s6 s7 s8 s9:Int}{s10 script:Option Addr×Nat×Nat}{w:World}{R:TR r0'→WP}:Tf.wp s0 s1 s2 s3 s4 s5 s6 s7 s8 s9 s10 script w R→Ae prog F.Tf [.agg #[iV s0,iV s1,iV s2,iV s3,iV s4,iV s5,iV s6,iV s7,iV s8,iV s9,.slice s10.1 s10.2.1 s10.2.2],.slice script.1 script.2.1 script.2.2] w false r0' R:=
  oks Aa Tryz.func4 (hs 6 (.s (.s .n (.lp [(7,.sl),(37,(.i .i64))] (hs 2 (.s (hs 2 (.s (.s .n (.lp [(7,.sl),(10,(.i .i64))] (.s .n (.s (.s .n (.ct [(62,.b)] .n .n)) .n)))) (.s .n (.lp [(13,(.i .i64))] .n)))) .n)))) .n))
def U8.wp(s0 s1 s2 s3 s4 s5 s6 s7 s8 s9:Int)(s10 script:Option Addr×Nat×Nat)(w:World)(R:TR r0'→WP):Prop:=
Bf [iV s0,iV s1,iV s2,iV s3,iV s4,iV s5,iV s6,iV s7,iV s8,iV s9,.slice s10.1 s10.2.1 s10.2.2] T.J8 w fun p1 w2=>
Ae prog F.Oe [] w2 false r0' fun r3 w4=>
Aj (!r3.1.1) (
R ((false,()),()) w4) (
A8 k0' p1 0 w4 fun x5=>
Ae prog F.Oc [Sv k0' x5,.slice script.1 script.2.1 script.2.2,iV 120] w4 false r0' fun r6 w7=>
Aj r6.1.1 (
R ((true,()),()) w7) (
A8 k0' p1 0 w7 fun x8=>
Ae prog F.Ff [Sv k0' x8] w7 false r0' fun r9 w10=>
Aj (!r9.1.1) (
R ((true,()),()) w10) (
A8 k0' p1 0 w10 fun x11=>
Ae prog F.Nl [Sv k0' x11] w10 false r1' fun r12 w13=>
Ae prog F.Io [Sv k0' r12.1,.pointer none] w13 true r2' fun r14 w15=>
Aj (r14.2.1.1 !=0) (
R ((false,()),()) w15) (
Bf z3' T.dJ w15 fun p16 w17=>
Bf z4' T.oQ w17 fun p18 w19=>
Ci (fun(self20:((Int)×Unit)→WP) (z21:(Int)×Unit) w22=> ∀_:Nat→Value,
Aj (decide (z21.1<(script.2.1:Int))) (
Ny script.1 script.2.1 z21.1 fun a23=>
A8 uU (a23.add (z21.1.toNat*11)) 0 w22 fun x24=>
Bf z0' T.uM w22 fun p25 w26=>
Au (encs uU x24) p25 0 w26 fun w27=>
Bf z1' T.Vj w27 fun p28 w29=>
Ci (fun(self30:((Int)×Unit)→WP) (z31:(Int)×Unit) w32=> ∀_:Nat→Value,
ld1 KI p1 w32 fun x33=>
Aj (decide (z31.1<x33)) (
Ae prog F.Bo [.pointer r14.1.1,iV z31.1] w32 false r3' fun r34 w35=>
Ny (some p28) 6 z31.1 fun a36=>
Au (encs k1' r34.1) (a36.add (z31.1.toNat*12)) 0 w35 fun w37=>
self30 (wrap .i64 (z31.1+1),()) w37) (
A8 uU p25 0 w32 fun x38=>
Ae prog F.Uw [.pointer r14.1.1,Sv uU x38] w32 false iT fun r39 w40=>
Ci (fun(self41:((Int)×Unit)→WP) (z42:(Int)×Unit) w43=> ∀_:Nat→Value,
ld1 KI p1 w43 fun x44=>
Aj (decide (z42.1<x44)) (
Ae prog F.Bo [.pointer r14.1.1,iV z42.1] w43 false r3' fun r45 w46=>
Bf z2' T.nK w46 fun p47 w48=>
Au (encs k1' r45.1) p47 0 w48 fun w49=>
Cc (fun(J50:((Bool)×Unit)→WP)=>
Jg w49 fun w53=>
ld1 .b p47 w53 fun x54=>
Aj (!x54) (
J50 (true,()) w53) (
ld1 KU (p47.add 1) w53 fun x55=>
Ny (some p28) 6 z42.1 fun a56=>
ld1 KU ((a56.add (z42.1.toNat*12)).add 1) w53 fun x57=>
Aj (x55 !=x57) (
J50 (true,()) w53) (
Ny (some p28) 6 z42.1 fun a58=>
ld1 .b (a58.add (z42.1.toNat*12)) w53 fun x59=>
J50 (!x59,()) w53))) (fun(z51:(Bool)×Unit) w52=> ∀_:Nat→Value,
Aj z51.1 (
Ny (some p16) 6 z42.1 fun a60=>
Au [.slice none 0 0] (a60.add (z42.1.toNat*1)) 0 w52 fun w61=>
Ny (some p18) 6 z42.1 fun a62=>
Au [iV (Int.negSucc 0),uV 0,uV 0] (a62.add (z42.1.toNat*3)) 0 w61 fun w63=>
self41 (wrap .i64 (z42.1+1),()) w63) (
Ae prog F.Ju [.pointer r14.1.1,iV z42.1] w52 true dB fun r64 w65=>
Bf [uV 0,uV 0] T.Ti w65 fun p66 w67=>
Au [uV r64.1.1,uV r64.1.2.1] p66 0 w67 fun w68=>
ld1 KI (p47.add 3) w68 fun x69=>
A8 [KU,KU] p66 0 w68 fun x70=>
Bf z5' T.kE w68 fun p71 w72=>
Au [iV x69,uV x70.1,uV x70.2.1] p71 0 w72 fun w73=>
Aj (!r64.2.1.1) (
Ny (some p18) 6 z42.1 fun a74=>
Au [iV (Int.negSucc 0),uV 0,uV 0] (a74.add (z42.1.toNat*3)) 0 w73 fun w75=>
self41 (wrap .i64 (z42.1+1),()) w75) (
ld1 .b (p47.add 4) w73 fun x76=>
Aj x76 (
Ny (some p18) 6 z42.1 fun a77=>
Au [iV (Int.negSucc 0),uV 0,uV 0] (a77.add (z42.1.toNat*3)) 0 w73 fun w78=>
self41 (wrap .i64 (z42.1+1),()) w78) (
Jg w73 fun w79=>
A8 Xf p71 0 w79 fun x80=>
Ny (some p18) 6 z42.1 fun a81=>
A8 Xf (a81.add (z42.1.toNat*3)) 0 w79 fun x82=>
Aj (!((x80.1==x82.1)&&(((x80.2.1==x82.2.1)&&((x80.2.2.1==x82.2.2.1)&&true))&&true))) (
Jg w79 fun w83=>
Ny (some p16) 6 z42.1 fun a84=>
ld1 .sl (a84.add (z42.1.toNat*1)) w83 fun x85=>
A8 Xf p71 0 w83 fun x86=>
Ae prog F.lI [.slice x85.1 x85.2.1 x85.2.2,Sv Xf x86] w83 false r0' fun r87 w88=>
A7 [] w88∧(
Aj r87.1.1 (
R ((false,()),()) w88) (
Jg w88 fun w89=>
Ny (some p16) 6 z42.1 fun a90=>
ld1 .sl (a90.add (z42.1.toNat*1)) w89 fun x91=>
A8 Xf p71 0 w89 fun x92=>
Bf (encs Xf x92) T.kE w89 fun p93 w94=>
A7 [hd 4 (p71.add 0) w89,hd 4 (p71.add 1) w89,hd 4 (p71.add 2) w89,hd 3 (a90.add (z42.1.toNat*1)) w89] w94∧(
L9 ((Builtin.append_ #[T.Kq,T.Kq] T.Kq #[.slice x91.1 x91.2.1 x91.2.2,.slice (some p93) 1 1]).run prog w94) fun y95 w96=>
A7 [hd 4 (p71.add 0) w89,hd 4 (p71.add 1) w89,hd 4 (p71.add 2) w89] w96∧(
Ny (some p16) 6 z42.1 fun a97=>
Au [.slice y95.1 y95.2.1 y95.2.2] (a97.add (z42.1.toNat*1)) 0 w96 fun w98=>
A7 [] w98∧(
A8 Xf p71 0 w98 fun x99=>
Ny (some p18) 6 z42.1 fun a100=>
Au (encs Xf x99) (a100.add (z42.1.toNat*3)) 0 w98 fun w101=>
self41 (wrap .i64 (z42.1+1),()) w101)))))) (
Jg w79 fun w102=>
ld1 KI (p47.add 6) w102 fun x103=>
Ny (some p28) 6 z42.1 fun a104=>
ld1 KI ((a104.add (z42.1.toNat*12)).add 6) w102 fun x105=>
Aj (decide (x103>x105)) (
R ((false,()),()) w102) (
A8 Xf p71 0 w102 fun x106=>
Ny (some p18) 6 z42.1 fun a107=>
Au (encs Xf x106) (a107.add (z42.1.toNat*3)) 0 w102 fun w108=>
self41 (wrap .i64 (z42.1+1),()) w108))))))) (
self20 (wrap .i64 (z21.1+1),()) w43)) (0,()) w40)) (0,()) w29) (
R ((true,()),()) w22)) (0,()) w19))))
theorem U8.ok{s0 s1 s2 s3 s4 s5 s6 s7 s8 s9:Int}{s10 script:Option Addr×Nat×Nat}{w:World}{R:TR r0'→WP}:U8.wp s0 s1 s2 s3 s4 s5 s6 s7 s8 s9 s10 script w R→Ae prog F.U8 [.agg #[iV s0,iV s1,iV s2,iV s3,iV s4,iV s5,iV s6,iV s7,iV s8,iV s9,.slice s10.1 s10.2.1 s10.2.2],.slice script.1 script.2.1 script.2.2] w false r0' R:=
  oks Aa Tryz.func5 (hs 7 (.s (.s .n (.lp [(38,(.i .i64))] (hs 2 (.s (hs 2 (.s (.s .n (.lp [(12,(.i .i64))] .n)) (hs 2 (.lp [(13,(.i .i64))] (.s .n (.s (.s .n (.s (.ct [(83,.b)] (.pl (ks [0,1,2,3,4,5,6,7,8,9,10,11,12,13,14,15,16,17,18] .z)) .n) (hs 3 (.s (.s (.pl (ks [0,1,2,3,4] .z)) (.s (.s (.s (.pl (ks [0,1,2,3] (.ef 4 [2,3] .z))) .n) (.pl (ks [0,1,2,3,4] (.ef 5 [] (.ef 6 [3] (.tk 7 (.ef 8 [4] .z))))))) (.s (.pl (ks [0,1,2,3,4,5,6] .z)) .n))) .n)))) .n)))))) .n)))) .n))
def law27_NetIdle.wp(s0 s1 s2 s3 s4 s5 s6 s7 s8 s9:Int)(s10 script:Option Addr×Nat×Nat)(w:World)(R:TR r0'→WP):Prop:=
Bf [iV s0,iV s1,iV s2,iV s3,iV s4,iV s5,iV s6,iV s7,iV s8,iV s9,.slice s10.1 s10.2.1 s10.2.2] T.J8 w fun p1 w2=>
Ae prog F.law27_alive [] w2 false r0' fun r3 w4=>
Aj (!r3.1.1) (
R ((false,()),()) w4) (
ld1 KI p1 w4 fun x5=>
Aj (decide (x5>6)) (
R ((true,()),()) w4) (
ld1 .sl (p1.add 10) w4 fun x6=>
Aj (decide ((x6.2.1:Int)>100)) (
R ((true,()),()) w4) (
Aj (decide ((script.2.1:Int)>100)) (
R ((true,()),()) w4) (
A8 k0' p1 0 w4 fun x7=>
Ae prog F.Ff [Sv k0' x7] w4 false r0' fun r8 w9=>
Aj (!r8.1.1) (
R ((true,()),()) w9) (
A8 k0' p1 0 w9 fun x10=>
Ae prog F.law27_setup [Sv k0' x10] w9 false r1' fun r11 w12=>
Ae prog F.Io [Sv k0' r11.1,.pointer none] w12 true r2' fun r13 w14=>
Aj (r13.2.1.1 !=0) (
R ((false,()),()) w14) (
Ci (fun(self15:((Int)×(Int)×Unit)→WP) (z16:(Int)×(Int)×Unit) w17=> ∀_:Nat→Value,
Aj (decide (z16.2.1<(script.2.1:Int))) (
Ny script.1 script.2.1 z16.2.1 fun a18=>
A8 uU (a18.add (z16.2.1.toNat*11)) 0 w17 fun x19=>
Bf z0' T.law27_Act w17 fun p20 w21=>
Au (encs uU x19) p20 0 w21 fun w22=>
A8 uU p20 0 w22 fun x23=>
Ae prog F.law27_great [Sv uU x23] w22 false r0' fun r24 w25=>
Aj r24.1.1 (
R ((true,()),()) w25) (
Cc (fun(J26:Unit→WP)=>
ld1 KI p20 w25 fun x29=>
Aj (x29==0) (
ld1 KI (p20.add 1) w25 fun x30=>
ld1 KI (p20.add 2) w25 fun x31=>
ld1 .b (p20.add 3) w25 fun x32=>
Ae prog F.Cf [.pointer r13.1.1,iV x30,iV x31,.bool x32] w25 false iT fun r33 w34=>
J26 (()) w34) (
J26 (()) w25)) (fun(z27:Unit) w28=> ∀_:Nat→Value,
Cc (fun(J35:((Int)×Unit)→WP)=>
ld1 KI p20 w28 fun x38=>
Aj (decide (x38≥3)) (
ld1 KI p20 w28 fun x39=>
Aj (decide (x39≤6)) (
A8 xP (p20.add 7) 0 w28 fun x40=>
Ae prog F.law27_choice [Sv xP x40] w28 false r7' fun r41 w42=>
Ae prog F.Ce [.pointer r13.1.1,Sv xP r41.1] w42 false iT fun r43 w44=>
Aj (r43.1.1==0) (
J35 (wrap .i64 (z16.1+1),()) w44) (
J35 (z16.1,()) w44)) (
J35 (z16.1,()) w28)) (
J35 (z16.1,()) w28)) (fun(z36:(Int)×Unit) w37=> ∀_:Nat→Value,
Ae prog F.Dv [.pointer r13.1.1] w37 false aT fun r45 w46=>
Aj (r45.1.1 !=0) (
R ((false,()),()) w46) (
Ae prog F.Bq [.pointer r13.1.1] w46 false iT fun r47 w48=>
Aj (r47.1.1 !=z36.1) (
R ((false,()),()) w48) (
Ae prog F.Jv [.pointer r13.1.1] w48 false dH fun r49 w50=>
Ci (fun(self51:((Int)×Unit)→WP) (z52:(Int)×Unit) w53=> ∀_:Nat→Value,
Aj (decide (z52.1<(r49.1.1.2.1:Int))) (
Ny r49.1.1.1 r49.1.1.2.1 z52.1 fun a54=>
A8 [KI,KI] (a54.add (z52.1.toNat*2)) 0 w53 fun x55=>
Bf [iV 0,iV 0] T.P6 w53 fun p56 w57=>
Au [iV x55.1,iV x55.2.1] p56 0 w57 fun w58=>
ld1 KI p56 w58 fun x59=>
Aj (x59 !=(Int.negSucc 0)) (
R ((false,()),()) w58) (
ld1 KI (p56.add 1) w58 fun x60=>
Aj (x60 !=0) (
R ((false,()),()) w58) (
self51 (wrap .i64 (z52.1+1),()) w58))) (
Ci (fun(self61:((Int)×Unit)→WP) (z62:(Int)×Unit) w63=> ∀_:Nat→Value,
ld1 KI p1 w63 fun x64=>
Aj (decide (z62.1<x64)) (
Ae prog F.Dq [.pointer r13.1.1,iV z62.1] w63 true oI fun r65 w66=>
Bf dE T.Bg w66 fun p67 w68=>
Au (encs Tu r65.1) p67 0 w68 fun w69=>
Aj (r65.2.1.1 !=10) (
R ((false,()),()) w69) (
Ae prog F.Bo [.pointer r13.1.1,iV z62.1] w69 false r3' fun r70 w71=>
Aj (!((r70.1.1==false)&&((r70.1.2.1==0)&&((r70.1.2.2.1==0)&&((r70.1.2.2.2.1==0)&&((r70.1.2.2.2.2.1==false)&&((r70.1.2.2.2.2.2.1==false)&&((r70.1.2.2.2.2.2.2.1==0)&&((r70.1.2.2.2.2.2.2.2.1==0)&&((r70.1.2.2.2.2.2.2.2.2.1==0)&&((r70.1.2.2.2.2.2.2.2.2.2.1==false)&&((r70.1.2.2.2.2.2.2.2.2.2.2.1==0)&&((r70.1.2.2.2.2.2.2.2.2.2.2.2.1==0)&&true))))))))))))) (
R ((false,()),()) w71) (
self61 (wrap .i64 (z62.1+1),()) w71))) (
self15 (z36.1,wrap .i64 (z16.2.1+1),()) w63)) (0,()) w53)) (0,()) w50)))))) (
R ((true,()),()) w17)) (0,0,()) w14))))))
theorem law27_NetIdle.ok{s0 s1 s2 s3 s4 s5 s6 s7 s8 s9:Int}{s10 script:Option Addr×Nat×Nat}{w:World}{R:TR r0'→WP}:law27_NetIdle.wp s0 s1 s2 s3 s4 s5 s6 s7 s8 s9 s10 script w R→Ae prog F.law27_NetIdle [.agg #[iV s0,iV s1,iV s2,iV s3,iV s4,iV s5,iV s6,iV s7,iV s8,iV s9,.slice s10.1 s10.2.1 s10.2.2],.slice script.1 script.2.1 script.2.2] w false r0' R:=
  oks Aa Tryz.func6 (hs 6 (.s (.s .n (.lp [(7,(.i .i64)),(46,(.i .i64))] (hs 2 (.s (hs 2 (.ct [] .n (.ct [(7,(.i .i64))] .n (.s .n (.s (.s .n (.lp [(93,(.i .i64))] .n)) (.s .n (.lp [(12,(.i .i64))] .n))))))) .n)))) .n))
def law27_NetTwice.wp(s0 s1 s2 s3 s4 s5 s6 s7 s8 s9:Int)(s10 script:Option Addr×Nat×Nat)(w:World)(R:TR r0'→WP):Prop:=
Bf [iV s0,iV s1,iV s2,iV s3,iV s4,iV s5,iV s6,iV s7,iV s8,iV s9,.slice s10.1 s10.2.1 s10.2.2] T.J8 w fun p1 w2=>
Ae prog F.law27_alive [] w2 false r0' fun r3 w4=>
Aj (!r3.1.1) (
R ((false,()),()) w4) (
ld1 KI p1 w4 fun x5=>
Aj (decide (x5>6)) (
R ((true,()),()) w4) (
ld1 .sl (p1.add 10) w4 fun x6=>
Aj (decide ((x6.2.1:Int)>100)) (
R ((true,()),()) w4) (
Aj (decide ((script.2.1:Int)>120)) (
R ((true,()),()) w4) (
A8 k0' p1 0 w4 fun x7=>
Ae prog F.Ff [Sv k0' x7] w4 false r0' fun r8 w9=>
Aj (!r8.1.1) (
R ((true,()),()) w9) (
A8 k0' p1 0 w9 fun x10=>
Ae prog F.law27_setup [Sv k0' x10] w9 false r1' fun r11 w12=>
Ae prog F.Io [Sv k0' r11.1,.pointer none] w12 true r2' fun r13 w14=>
A8 k0' p1 0 w14 fun x15=>
Ae prog F.law27_setup [Sv k0' x15] w14 false r1' fun r16 w17=>
Ae prog F.Io [Sv k0' r16.1,.pointer none] w17 true r2' fun r18 w19=>
Aj (r13.2.1.1 !=0) (
R ((false,()),()) w19) (
Aj (r18.2.1.1 !=0) (
R ((false,()),()) w19) (
Ci (fun(self20:((Int)×Unit)→WP) (z21:(Int)×Unit) w22=> ∀_:Nat→Value,
Aj (decide (z21.1<(script.2.1:Int))) (
Ny script.1 script.2.1 z21.1 fun a23=>
A8 uU (a23.add (z21.1.toNat*11)) 0 w22 fun x24=>
Bf z0' T.law27_Act w22 fun p25 w26=>
Au (encs uU x24) p25 0 w26 fun w27=>
A8 uU p25 0 w27 fun x28=>
Ae prog F.law27_great [Sv uU x28] w27 false r0' fun r29 w30=>
Aj r29.1.1 (
R ((true,()),()) w30) (
A8 uU p25 0 w30 fun x31=>
Ae prog F.law27_twice [.pointer r13.1.1,.pointer r18.1.1,Sv uU x31] w30 false r0' fun r32 w33=>
Aj (!r32.1.1) (
R ((false,()),()) w33) (
Ae prog F.Dv [.pointer r13.1.1] w33 false aT fun r34 w35=>
Ae prog F.Dv [.pointer r18.1.1] w35 false aT fun r36 w37=>
Aj (r34.1.1 !=r36.1.1) (
R ((false,()),()) w37) (
Ae prog F.Bq [.pointer r13.1.1] w37 false iT fun r38 w39=>
Ae prog F.Bq [.pointer r18.1.1] w39 false iT fun r40 w41=>
Aj (r38.1.1 !=r40.1.1) (
R ((false,()),()) w41) (
Ci (fun(self42:((Int)×Unit)→WP) (z43:(Int)×Unit) w44=> ∀_:Nat→Value,
ld1 KI p1 w44 fun x45=>
Aj (decide (z43.1<x45)) (
Ae prog F.Dq [.pointer r13.1.1,iV z43.1] w44 true oI fun r46 w47=>
Bf dE T.Bg w47 fun p48 w49=>
Au (encs Tu r46.1) p48 0 w49 fun w50=>
Ae prog F.Dq [.pointer r18.1.1,iV z43.1] w50 true oI fun r51 w52=>
Bf dE T.Bg w52 fun p53 w54=>
Au (encs Tu r51.1) p53 0 w54 fun w55=>
Ae prog F.Bo [.pointer r13.1.1,iV z43.1] w55 false r3' fun r56 w57=>
Ae prog F.Bo [.pointer r18.1.1,iV z43.1] w57 false r3' fun r58 w59=>
Aj (!((r56.1.1==r58.1.1)&&((r56.1.2.1==r58.1.2.1)&&((r56.1.2.2.1==r58.1.2.2.1)&&((r56.1.2.2.2.1==r58.1.2.2.2.1)&&((r56.1.2.2.2.2.1==r58.1.2.2.2.2.1)&&((r56.1.2.2.2.2.2.1==r58.1.2.2.2.2.2.1)&&((r56.1.2.2.2.2.2.2.1==r58.1.2.2.2.2.2.2.1)&&((r56.1.2.2.2.2.2.2.2.1==r58.1.2.2.2.2.2.2.2.1)&&((r56.1.2.2.2.2.2.2.2.2.1==r58.1.2.2.2.2.2.2.2.2.1)&&((r56.1.2.2.2.2.2.2.2.2.2.1==r58.1.2.2.2.2.2.2.2.2.2.1)&&((r56.1.2.2.2.2.2.2.2.2.2.2.1==r58.1.2.2.2.2.2.2.2.2.2.2.1)&&((r56.1.2.2.2.2.2.2.2.2.2.2.2.1==r58.1.2.2.2.2.2.2.2.2.2.2.2.1)&&true))))))))))))) (
R ((false,()),()) w59) (
A8 Tu p48 0 w59 fun x60=>
A8 Tu p53 0 w59 fun x61=>
Aj (!((x60.1==x61.1)&&((x60.2.1==x61.2.1)&&(((x60.2.2.1==x61.2.2.1)&&((x60.2.2.2.1==x61.2.2.2.1)&&true))&&((x60.2.2.2.2.1==x61.2.2.2.2.1)&&true))))) (
R ((false,()),()) w59) (
Aj (r46.2.1.1 !=r51.2.1.1) (
R ((false,()),()) w59) (
self42 (wrap .i64 (z43.1+1),()) w59)))) (
self20 (wrap .i64 (z21.1+1),()) w44)) (0,()) w41))))) (
R ((true,()),()) w22)) (0,()) w19)))))))
theorem law27_NetTwice.ok{s0 s1 s2 s3 s4 s5 s6 s7 s8 s9:Int}{s10 script:Option Addr×Nat×Nat}{w:World}{R:TR r0'→WP}:law27_NetTwice.wp s0 s1 s2 s3 s4 s5 s6 s7 s8 s9 s10 script w R→Ae prog F.law27_NetTwice [.agg #[iV s0,iV s1,iV s2,iV s3,iV s4,iV s5,iV s6,iV s7,iV s8,iV s9,.slice s10.1 s10.2.1 s10.2.2],.slice script.1 script.2.1 script.2.2] w false r0' R:=
  oks Aa Tryz.func8 (hs 6 (.s (.s .n (.lp [(57,(.i .i64))] (hs 2 (.s (hs 4 (.lp [(11,(.i .i64))] .n)) .n)))) .n))
def law27_NetHeard.wp(s0 s1 s2 s3 s4 s5 s6 s7 s8 s9:Int)(s10 script:Option Addr×Nat×Nat)(w:World)(R:TR r0'→WP):Prop:=
Bf [iV s0,iV s1,iV s2,iV s3,iV s4,iV s5,iV s6,iV s7,iV s8,iV s9,.slice s10.1 s10.2.1 s10.2.2] T.J8 w fun p1 w2=>
Ae prog F.law27_alive [] w2 false r0' fun r3 w4=>
Aj (!r3.1.1) (
R ((false,()),()) w4) (
ld1 KI p1 w4 fun x5=>
Aj (decide (x5>6)) (
R ((true,()),()) w4) (
ld1 .sl (p1.add 10) w4 fun x6=>
Aj (decide ((x6.2.1:Int)>100)) (
R ((true,()),()) w4) (
Aj (decide ((script.2.1:Int)>120)) (
R ((true,()),()) w4) (
A8 k0' p1 0 w4 fun x7=>
Ae prog F.Ff [Sv k0' x7] w4 false r0' fun r8 w9=>
Aj (!r8.1.1) (
R ((true,()),()) w9) (
A8 k0' p1 0 w9 fun x10=>
Ae prog F.law27_setup [Sv k0' x10] w9 false r1' fun r11 w12=>
Ae prog F.Io [Sv k0' r11.1,.pointer none] w12 true r2' fun r13 w14=>
A8 k0' p1 0 w14 fun x15=>
Ae prog F.law27_setup [Sv k0' x15] w14 false r1' fun r16 w17=>
Ae prog F.Io [Sv k0' r16.1,.pointer none] w17 true r2' fun r18 w19=>
A8 k0' p1 0 w19 fun x20=>
Ae prog F.Amb [Sv k0' x20] w19 false Arw fun r21 w22=>
Aj (r13.2.1.1 !=0) (
R ((false,()),()) w22) (
Aj (r18.2.1.1 !=0) (
R ((false,()),()) w22) (
Ci (fun(self23:((Int)×Unit)→WP) (z24:(Int)×Unit) w25=> ∀_:Nat→Value,
Aj (decide (z24.1<(script.2.1:Int))) (
Ny script.1 script.2.1 z24.1 fun a26=>
A8 uU (a26.add (z24.1.toNat*11)) 0 w25 fun x27=>
Bf z0' T.law27_Act w25 fun p28 w29=>
Au (encs uU x27) p28 0 w29 fun w30=>
A8 uU p28 0 w30 fun x31=>
Ae prog F.law27_great [Sv uU x31] w30 false r0' fun r32 w33=>
Aj r32.1.1 (
R ((true,()),()) w33) (
Ae prog F.Bq [.pointer r13.1.1] w33 false iT fun r34 w35=>
A8 uU p28 0 w35 fun x36=>
Ae prog F.law27_twice [.pointer r13.1.1,.pointer r18.1.1,Sv uU x36] w35 false r0' fun r37 w38=>
Aj (!r37.1.1) (
R ((false,()),()) w38) (
Cc (fun(J39:Unit→WP)=>
ld1 KI p28 w38 fun x42=>
Aj (x42==0) (
Jg w38 fun w43=>
Aq r21.1.1 fun a44=>
ld1 .p (a44.add 11) w43 fun x45=>
ld1 KI (p28.add 1) w43 fun x46=>
ld1 KI (p28.add 2) w43 fun x47=>
ld1 .b (p28.add 3) w43 fun x48=>
Ae prog F.Aak [.pointer x45,iV x46,iV x47,.bool x48] w43 false iT fun r49 w50=>
A7 [] w50∧(
J39 (()) w50)) (
J39 (()) w38)) (fun(z40:Unit) w41=> ∀_:Nat→Value,
ld1 KI p28 w41 fun x51=>
Aj (decide (x51<3)) (
self23 (wrap .i64 (z24.1+1),()) w41) (
ld1 KI p28 w41 fun x52=>
Aj (decide (x52>6)) (
self23 (wrap .i64 (z24.1+1),()) w41) (
Ae prog F.Bq [.pointer r13.1.1] w41 false iT fun r53 w54=>
Aj (r53.1.1==r34.1.1) (
self23 (wrap .i64 (z24.1+1),()) w54) (
Ae prog F.Jv [.pointer r13.1.1] w54 false dH fun r55 w56=>
ld1 KI p1 w56 fun x57=>
Aj ((r55.1.1.2.1:Int) !=x57) (
R ((false,()),()) w56) (
Ci (fun(self58:((Int)×Unit)→WP) (z59:(Int)×Unit) w60=> ∀_:Nat→Value,
ld1 KI p1 w60 fun x61=>
Aj (decide (z59.1<x61)) (
Ae prog F.Dv [.pointer r13.1.1] w60 false aT fun r62 w63=>
fJ (wrap .u64 z59.1) (
dF 2 (
Cc (fun(J64:Unit→WP)=>
Jg w63 fun w67=>
Aj ((Int.tmod (Qv .u64 r62.1.1 (wrap .u64 z59.1)) 2)==1) (
Ae prog F.Bo [.pointer r13.1.1,iV z59.1] w67 false r3' fun r68 w69=>
A7 [] w69∧(
Aj (!r68.1.1) (
R ((false,()),()) w69) (
ld1 KI (p1.add 5) w69 fun x70=>
dF x70 (
A8 k0' p1 0 w69 fun x71=>
Ae prog F.Oy [Sv k0' x71,iV z59.1] w69 false r5' fun r72 w73=>
A7 [hd 10 (p1.add 5) w69] w73∧(
Aj ((Int.tmod r34.1.1 x70) !=r72.1.2.2.2.2.2.2.2.1) (
R ((false,()),()) w73) (
J64 (()) w73)))))) (
J64 (()) w67)) (fun(z65:Unit) w66=> ∀_:Nat→Value,
Ny r55.1.1.1 r55.1.1.2.1 z59.1 fun a74=>
ld1 KI ((a74.add (z59.1.toNat*2)).add 1) w66 fun x75=>
Aj (x75 !=1) (
self58 (wrap .i64 (z59.1+1),()) w66) (
Ny r55.1.1.1 r55.1.1.2.1 z59.1 fun a76=>
ld1 KI (a76.add (z59.1.toNat*2)) w66 fun x77=>
Aj ((Int.tmod (Qv .u64 r62.1.1 (wrap .u64 z59.1)) 2)==1) (
R ((false,()),()) w66) (
Ae prog F.Bo [.pointer r13.1.1,iV z59.1] w66 false r3' fun r78 w79=>
Aj (!r78.1.1) (
R ((false,()),()) w79) (
Aj (decide (x77<0)) (
R ((false,()),()) w79) (
ld1 KI p1 w79 fun x80=>
Aj (decide (x77≥x80)) (
R ((false,()),()) w79) (
Aq r21.1.1 fun a81=>
ld1 .p (a81.add 11) w79 fun x82=>
Aq x82 fun a83=>
Ny (some (a83.add 1)) 64 z59.1 fun a84=>
Ny (some (a84.add (z59.1.toNat*64))) 64 x77 fun a85=>
ld1 .b (a85.add (x77.toNat*1)) w79 fun x86=>
Aj (!x86) (
R ((false,()),()) w79) (
Ae prog F.Dv [.pointer r13.1.1] w79 false aT fun r87 w88=>
fJ (wrap .u64 x77) (
dF 2 (
Aj ((Int.tmod (Qv .u64 r87.1.1 (wrap .u64 x77)) 2) !=1) (
R ((false,()),()) w88) (
Ae prog F.Bo [.pointer r13.1.1,iV x77] w88 false r3' fun r89 w90=>
Aj (!r89.1.1) (
R ((false,()),()) w90) (
self58 (wrap .i64 (z59.1+1),()) w90)))))))))))))) (
self23 (wrap .i64 (z24.1+1),()) w60)) (0,()) w56)))))))) (
R ((true,()),()) w25)) (0,()) w22)))))))
theorem law27_NetHeard.ok{s0 s1 s2 s3 s4 s5 s6 s7 s8 s9:Int}{s10 script:Option Addr×Nat×Nat}{w:World}{R:TR r0'→WP}:law27_NetHeard.wp s0 s1 s2 s3 s4 s5 s6 s7 s8 s9 s10 script w R→Ae prog F.law27_NetHeard [.agg #[iV s0,iV s1,iV s2,iV s3,iV s4,iV s5,iV s6,iV s7,iV s8,iV s9,.slice s10.1 s10.2.1 s10.2.2],.slice script.1 script.2.1 script.2.2] w false r0' R:=
  oks Aa Tryz.func9 (hs 7 (.s (.s .n (.lp [(60,(.i .i64))] (hs 2 (.s (hs 4 (.ct [] (.s .n (.s (.pl (ks [0,1,2,3,4,5,6,7,8,9] (.ef 10 [3,5,7,9] .z))) .n)) (hs 4 (.lp [(14,(.i .i64))] (.s .n (.s (.s .n (.ct [] (.s (.pl (ks [0,1,2,3] (.ef 4 [] (ks [5,6,7,8,9,10,11,12,13] (.ef 14 [12] (ks [15,16,17,18] .z)))))) .n) .n)) .n)))))) .n)))) .n))
def law27_NetKeeps.wp(s0 s1 s2 s3 s4 s5 s6 s7 s8 s9:Int)(s10 script:Option Addr×Nat×Nat)(w:World)(R:TR r0'→WP):Prop:=
Bf [iV s0,iV s1,iV s2,iV s3,iV s4,iV s5,iV s6,iV s7,iV s8,iV s9,.slice s10.1 s10.2.1 s10.2.2] T.J8 w fun p1 w2=>
Ae prog F.law27_alive [] w2 false r0' fun r3 w4=>
Aj (!r3.1.1) (
R ((false,()),()) w4) (
ld1 KI p1 w4 fun x5=>
Aj (decide (x5>6)) (
R ((true,()),()) w4) (
ld1 .sl (p1.add 10) w4 fun x6=>
Aj (decide ((x6.2.1:Int)>100)) (
R ((true,()),()) w4) (
Aj (decide ((script.2.1:Int)>150)) (
R ((true,()),()) w4) (
A8 k0' p1 0 w4 fun x7=>
Ae prog F.Ff [Sv k0' x7] w4 false r0' fun r8 w9=>
Aj (!r8.1.1) (
R ((true,()),()) w9) (
A8 k0' p1 0 w9 fun x10=>
Ae prog F.law27_setup [Sv k0' x10] w9 false r1' fun r11 w12=>
Ae prog F.Io [Sv k0' r11.1,.pointer none] w12 true r2' fun r13 w14=>
Aj (r13.2.1.1 !=0) (
R ((false,()),()) w14) (
Ci (fun(self15:((Int)×Unit)→WP) (z16:(Int)×Unit) w17=> ∀_:Nat→Value,
Aj (decide (z16.1<(script.2.1:Int))) (
Ny script.1 script.2.1 z16.1 fun a18=>
A8 uU (a18.add (z16.1.toNat*11)) 0 w17 fun x19=>
Bf z0' T.law27_Act w17 fun p20 w21=>
Au (encs uU x19) p20 0 w21 fun w22=>
A8 uU p20 0 w22 fun x23=>
Ae prog F.law27_great [Sv uU x23] w22 false r0' fun r24 w25=>
Aj r24.1.1 (
R ((true,()),()) w25) (
Bf z1' T.Vj w25 fun p26 w27=>
Ci (fun(self28:((Int)×Unit)→WP) (z29:(Int)×Unit) w30=> ∀_:Nat→Value,
ld1 KI p1 w30 fun x31=>
Aj (decide (z29.1<x31)) (
Ae prog F.Bo [.pointer r13.1.1,iV z29.1] w30 false r3' fun r32 w33=>
Ny (some p26) 6 z29.1 fun a34=>
Au (encs k1' r32.1) (a34.add (z29.1.toNat*12)) 0 w33 fun w35=>
self28 (wrap .i64 (z29.1+1),()) w35) (
Ae prog F.Bq [.pointer r13.1.1] w30 false iT fun r36 w37=>
Ae prog F.Dv [.pointer r13.1.1] w37 false aT fun r38 w39=>
Cc (fun(J40:((Int)×Unit)→WP)=>
ld1 KI p20 w39 fun x43=>
Aj (x43==0) (
ld1 KI (p20.add 1) w39 fun x44=>
ld1 KI (p20.add 2) w39 fun x45=>
ld1 .b (p20.add 3) w39 fun x46=>
Ae prog F.Cf [.pointer r13.1.1,iV x44,iV x45,.bool x46] w39 false iT fun r47 w48=>
J40 (r47.1.1,()) w48) (
Aj (x43==1) (
ld1 KI (p20.add 1) w39 fun x49=>
ld1 (.i .u32) (p20.add 4) w39 fun x50=>
Ae prog F.D7 [.pointer r13.1.1,iV x49,.int .u32 x50] w39 false iT fun r51 w52=>
J40 (r51.1.1,()) w52) (
Aj (x43==2) (
ld1 KI (p20.add 1) w39 fun x53=>
Ae prog F.Gy [.pointer r13.1.1,iV x53] w39 false iT fun r54 w55=>
J40 (r54.1.1,()) w55) (
Cc (fun(J56:((Bool)×Unit)→WP)=>
Aj (x43==3) (
J56 ((x43==3),()) w39) (
Aj (x43==4) (
J56 ((x43==4),()) w39) (
Aj (x43==5) (
J56 ((x43==5),()) w39) (
J56 ((x43==6),()) w39)))) (fun(z57:(Bool)×Unit) w58=> ∀_:Nat→Value,
Aj z57.1 (
A8 xP (p20.add 7) 0 w58 fun x59=>
Ae prog F.law27_choice [Sv xP x59] w58 false r7' fun r60 w61=>
Ae prog F.Ce [.pointer r13.1.1,Sv xP r60.1] w61 false iT fun r62 w63=>
J40 (r62.1.1,()) w63) (
Aj (x43==7) (
ld1 KI (p20.add 1) w58 fun x64=>
ld1 .s (p20.add 5) w58 fun x65=>
Ae prog F.Jz [.pointer r13.1.1,iV x64,.string x65] w58 true xB fun r66 w67=>
J40 (r66.2.1.1,()) w67) (
Aj (x43==9) (
ld1 KI (p20.add 1) w58 fun x68=>
ld1 KI (p20.add 2) w58 fun x69=>
Ae prog F.Gz [.pointer r13.1.1,iV x68,iV x69] w58 false iT fun r70 w71=>
J40 (r70.1.1,()) w71) (
Aj (x43==10) (
ld1 KI (p20.add 1) w58 fun x72=>
ld1 .sl (p20.add 6) w58 fun x73=>
Ae prog F.Eg [.pointer r13.1.1,iV x72,.slice x73.1 x73.2.1 x73.2.2] w58 false iT fun r74 w75=>
Aj (r74.1.1==0) (
R ((false,()),()) w75) (
J40 (1,()) w75)) (
J40 (0,()) w58))))))))) (fun(z41:(Int)×Unit) w42=> ∀_:Nat→Value,
Cc (fun(J76:Unit→WP)=>
Aj (z41.1==0) (
self15 (wrap .i64 (z16.1+1),()) w42) (
ld1 KI p20 w42 fun x79=>
Aj (x79==9) (
Aj (z41.1==6) (
self15 (wrap .i64 (z16.1+1),()) w42) (
J76 (()) w42)) (
J76 (()) w42))) (fun(z77:Unit) w78=> ∀_:Nat→Value,
Ci (fun(self80:((Int)×Unit)→WP) (z81:(Int)×Unit) w82=> ∀_:Nat→Value,
ld1 KI p1 w82 fun x83=>
Aj (decide (z81.1<x83)) (
Jg w82 fun w84=>
Ny (some p26) 6 z81.1 fun a85=>
A8 k1' (a85.add (z81.1.toNat*12)) 0 w84 fun x86=>
Ae prog F.Bo [.pointer r13.1.1,iV z81.1] w84 false r3' fun r87 w88=>
A7 [(5,((a85.add (z81.1.toNat*12)).add 0),(w84.cell? ((a85.add (z81.1.toNat*12)).add 0)).getD undef),(5,((a85.add (z81.1.toNat*12)).add 1),(w84.cell? ((a85.add (z81.1.toNat*12)).add 1)).getD undef),(5,((a85.add (z81.1.toNat*12)).add 2),(w84.cell? ((a85.add (z81.1.toNat*12)).add 2)).getD undef),(5,((a85.add (z81.1.toNat*12)).add 3),(w84.cell? ((a85.add (z81.1.toNat*12)).add 3)).getD undef),(5,((a85.add (z81.1.toNat*12)).add 4),(w84.cell? ((a85.add (z81.1.toNat*12)).add 4)).getD undef),(5,((a85.add (z81.1.toNat*12)).add 5),(w84.cell? ((a85.add (z81.1.toNat*12)).add 5)).getD undef),(5,((a85.add (z81.1.toNat*12)).add 6),(w84.cell? ((a85.add (z81.1.toNat*12)).add 6)).getD undef),(5,((a85.add (z81.1.toNat*12)).add 7),(w84.cell? ((a85.add (z81.1.toNat*12)).add 7)).getD undef),(5,((a85.add (z81.1.toNat*12)).add 8),(w84.cell? ((a85.add (z81.1.toNat*12)).add 8)).getD undef),(5,((a85.add (z81.1.toNat*12)).add 9),(w84.cell? ((a85.add (z81.1.toNat*12)).add 9)).getD undef),(5,((a85.add (z81.1.toNat*12)).add 10),(w84.cell? ((a85.add (z81.1.toNat*12)).add 10)).getD undef),(5,((a85.add (z81.1.toNat*12)).add 11),(w84.cell? ((a85.add (z81.1.toNat*12)).add 11)).getD undef)] w88∧(
Aj (!((r87.1.1==x86.1)&&((r87.1.2.1==x86.2.1)&&((r87.1.2.2.1==x86.2.2.1)&&((r87.1.2.2.2.1==x86.2.2.2.1)&&((r87.1.2.2.2.2.1==x86.2.2.2.2.1)&&((r87.1.2.2.2.2.2.1==x86.2.2.2.2.2.1)&&((r87.1.2.2.2.2.2.2.1==x86.2.2.2.2.2.2.1)&&((r87.1.2.2.2.2.2.2.2.1==x86.2.2.2.2.2.2.2.1)&&((r87.1.2.2.2.2.2.2.2.2.1==x86.2.2.2.2.2.2.2.2.1)&&((r87.1.2.2.2.2.2.2.2.2.2.1==x86.2.2.2.2.2.2.2.2.2.1)&&((r87.1.2.2.2.2.2.2.2.2.2.2.1==x86.2.2.2.2.2.2.2.2.2.2.1)&&((r87.1.2.2.2.2.2.2.2.2.2.2.2.1==x86.2.2.2.2.2.2.2.2.2.2.2.1)&&true))))))))))))) (
R ((false,()),()) w88) (
self80 (wrap .i64 (z81.1+1),()) w88))) (
Ae prog F.Bq [.pointer r13.1.1] w82 false iT fun r89 w90=>
Aj (r89.1.1 !=r36.1.1) (
R ((false,()),()) w90) (
Ae prog F.Dv [.pointer r13.1.1] w90 false aT fun r91 w92=>
Aj (r91.1.1 !=r38.1.1) (
R ((false,()),()) w92) (
self15 (wrap .i64 (z16.1+1),()) w92)))) (0,()) w78)))) (0,()) w27)) (
R ((true,()),()) w17)) (0,()) w14))))))
theorem law27_NetKeeps.ok{s0 s1 s2 s3 s4 s5 s6 s7 s8 s9:Int}{s10 script:Option Addr×Nat×Nat}{w:World}{R:TR r0'→WP}:law27_NetKeeps.wp s0 s1 s2 s3 s4 s5 s6 s7 s8 s9 s10 script w R→Ae prog F.law27_NetKeeps [.agg #[iV s0,iV s1,iV s2,iV s3,iV s4,iV s5,iV s6,iV s7,iV s8,iV s9,.slice s10.1 s10.2.1 s10.2.2],.slice script.1 script.2.1 script.2.2] w false r0' R:=
  oks Aa Tryz.func10 (hs 5 (.s (.s .n (.lp [(46,(.i .i64))] (hs 2 (.s (hs 3 (.s (.s .n (.lp [(10,(.i .i64))] .n)) (hs 2 (.ct [(13,(.i .i64))] (hs 7 (.ct [(93,.b)] .n .n)) (.ct [] .n (.s (.s .n (.lp [(14,(.i .i64))] (.s .n (.s (.s (.pl (ks [0,1,3,4,5] (.ef 2 [] (.tk 6 .z)))) .n) .n)))) .n)))))) .n)))) .n))
def Oe.wp(w:World)(R:TR r0'→WP):Prop:=
Ae prog F.Nl [.agg #[iV 2,iV 1,iV 0,iV 1,iV 0,iV 2,iV 2,iV 1,iV 0,iV (Int.negSucc 0),.slice none 0 0]] w false r1' fun r1 w2=>
Ae prog F.Io [Sv k0' r1.1,.pointer none] w2 true r2' fun r3 w4=>
Ae prog F.Cf [.pointer r3.1.1,iV 0,iV 1,.bool true] w4 false iT fun r5 w6=>
Ae prog F.D7 [.pointer r3.1.1,iV 0,.int .u32 5] w6 false iT fun r7 w8=>
Ae prog F.D7 [.pointer r3.1.1,iV 1,.int .u32 700] w8 false iT fun r9 w10=>
Ci (fun(self11:((Int)×Unit)→WP) (z12:(Int)×Unit) w13=> ∀_:Nat→Value,
Aj (decide (z12.1<3)) (
Bf [iV 1000,iV 1000] T.int w13 fun p14 w15=>
Bf [iV 0,iV 0] T.int w15 fun p16 w17=>
Bf [iV 0,iV 0] T.int w17 fun p18 w19=>
Ae prog F.Ce [.pointer r3.1.1,.agg #[.slice (some p14) 2 2,.slice (some p16) 2 2,.slice (some p18) 2 2,.slice none 0 0]] w19 false iT fun r20 w21=>
Aj (r20.1.1 !=0) (
R ((false,()),()) w21) (
self11 (wrap .i64 (z12.1+1),()) w21)) (
Ae prog F.Dq [.pointer r3.1.1,iV 1] w13 true oI fun r22 w23=>
Bf dE T.Bg w23 fun p24 w25=>
Au (encs Tu r22.1) p24 0 w25 fun w26=>
Aj (r3.2.1.1==0) (
Aj (r22.2.1.1==0) (
ld1 KI (p24.add 2) w26 fun x27=>
Aj (x27==0) (
ld1 KI p24 w26 fun x28=>
R (((x28==3005),()),()) w26) (
R ((false,()),()) w26)) (
R ((false,()),()) w26)) (
R ((false,()),()) w26))) (0,()) w10
theorem Oe.ok{w:World}{R:TR r0'→WP}:Oe.wp w R→Ae prog F.Oe [] w false r0' R:=
  oks Aa Tryz.func14 (hs 5 (.s (.s .n (.lp [(3,(.i .i64))] .n)) .n))
def Oc.wp(s0 s1 s2 s3 s4 s5 s6 s7 s8 s9:Int)(s10 script:Option Addr×Nat×Nat)(most:Int)(w:World)(R:TR r0'→WP):Prop:=
Bf [iV s0,iV s1,iV s2,iV s3,iV s4,iV s5,iV s6,iV s7,iV s8,iV s9,.slice s10.1 s10.2.1 s10.2.2] T.J8 w fun p1 w2=>
ld1 KI p1 w2 fun x3=>
Aj (decide (x3>6)) (
R ((true,()),()) w2) (
ld1 .sl (p1.add 10) w2 fun x4=>
Aj (decide ((x4.2.1:Int)>100)) (
R ((true,()),()) w2) (
Aj (decide ((script.2.1:Int)>most)) (
R ((true,()),()) w2) (
Ci (fun(self5:((Int)×Unit)→WP) (z6:(Int)×Unit) w7=> ∀_:Nat→Value,
Aj (decide (z6.1<(script.2.1:Int))) (
Ny script.1 script.2.1 z6.1 fun a8=>
A8 uU (a8.add (z6.1.toNat*11)) 0 w7 fun x9=>
Bf z0' T.uM w7 fun p10 w11=>
Au (encs uU x9) p10 0 w11 fun w12=>
A8 xP (p10.add 7) 0 w12 fun x13=>
Bf Vy T.U0 w12 fun p14 w15=>
Au (encs xP x13) p14 0 w15 fun w16=>
ld1 .sl (p10.add 6) w16 fun x17=>
Aj (decide ((x17.2.1:Int)>200)) (
R ((true,()),()) w16) (
ld1 .s (p10.add 5) w16 fun x18=>
Aj (decide ((x18.size:Int)>100)) (
R ((true,()),()) w16) (
ld1 .sl p14 w16 fun x19=>
Aj (decide ((x19.2.1:Int)>100)) (
R ((true,()),()) w16) (
ld1 .sl (p14.add 1) w16 fun x20=>
Aj (decide ((x20.2.1:Int)>100)) (
R ((true,()),()) w16) (
ld1 .sl (p14.add 2) w16 fun x21=>
Aj (decide ((x21.2.1:Int)>100)) (
R ((true,()),()) w16) (
ld1 .sl (p14.add 3) w16 fun x22=>
Aj (decide ((x22.2.1:Int)>100)) (
R ((true,()),()) w16) (
self5 (wrap .i64 (z6.1+1),()) w16))))))) (
R ((false,()),()) w7)) (0,()) w2)))
theorem Oc.ok{s0 s1 s2 s3 s4 s5 s6 s7 s8 s9:Int}{s10 script:Option Addr×Nat×Nat}{most:Int}{w:World}{R:TR r0'→WP}:Oc.wp s0 s1 s2 s3 s4 s5 s6 s7 s8 s9 s10 script most w R→Ae prog F.Oc [.agg #[iV s0,iV s1,iV s2,iV s3,iV s4,iV s5,iV s6,iV s7,iV s8,iV s9,.slice s10.1 s10.2.1 s10.2.2],.slice script.1 script.2.1 script.2.2,iV most] w false r0' R:=
  oks Aa Tryz.func15 (hs 2 (.s (.s .n (.lp [(27,(.i .i64))] .n)) .n))
def Ff.wp(s0 s1 s2 s3 s4 s5 s6 s7 s8 s9:Int)(s10:Option Addr×Nat×Nat)(w:World)(R:TR r0'→WP):Prop:=
Bf [iV s0,iV s1,iV s2,iV s3,iV s4,iV s5,iV s6,iV s7,iV s8,iV s9,.slice s10.1 s10.2.1 s10.2.2] T.J8 w fun p1 w2=>
ld1 KI p1 w2 fun x3=>
Aj (decide (x3<1)) (
R ((false,()),()) w2) (
ld1 KI p1 w2 fun x4=>
Aj (decide (x4>64)) (
R ((false,()),()) w2) (
Ci (fun(self5:((Int)×Unit)→WP) (z6:(Int)×Unit) w7=> ∀_:Nat→Value,
ld1 KI p1 w7 fun x8=>
Aj (decide (z6.1<x8)) (
A8 k0' p1 0 w7 fun x9=>
Ae prog F.Oy [Sv k0' x9,iV z6.1] w7 false r5' fun r10 w11=>
Ae prog F.Ot [Sv k2' r10.1] w11 false r0' fun r12 w13=>
Aj (!r12.1.1) (
R ((false,()),()) w13) (
self5 (wrap .i64 (z6.1+1),()) w13)) (
R ((true,()),()) w7)) (0,()) w2))
theorem Ff.ok{s0 s1 s2 s3 s4 s5 s6 s7 s8 s9:Int}{s10:Option Addr×Nat×Nat}{w:World}{R:TR r0'→WP}:Ff.wp s0 s1 s2 s3 s4 s5 s6 s7 s8 s9 s10 w R→Ae prog F.Ff [.agg #[iV s0,iV s1,iV s2,iV s3,iV s4,iV s5,iV s6,iV s7,iV s8,iV s9,.slice s10.1 s10.2.1 s10.2.2]] w false r0' R:=
  oks Aa Tryz.func16 (hs 2 (.s (.s .n (.lp [(3,(.i .i64))] .n)) .n))
def Io.wp(s0 s1 s2 s3 s4 s5 s6 s7 s8 s9:Int)(s10:Option Addr×Nat×Nat)(leaps:Option Addr)(w:World)(R:TR r2'→WP):Prop:=
Bf [iV s0,iV s1,iV s2,iV s3,iV s4,iV s5,iV s6,iV s7,iV s8,iV s9,.slice s10.1 s10.2.1 s10.2.2] T.mQ w fun p1 w2=>
ld1 KI p1 w2 fun x3=>
Ae prog F.Pi [iV x3] w2 true r2' fun r4 w5=>
Aj (r4.2.1.1 !=0) (
R ((none,()),(r4.2.1.1,()),()) w5) (
ld1 .sl (p1.add 10) w5 fun x6=>
L9 ((Builtin.append_ #[T.V5,T.V5] T.V5 #[.slice none 0 0,.slice x6.1 x6.2.1 x6.2.2]).run prog w5) fun y7 w8=>
Au [.slice y7.1 y7.2.1 y7.2.2] (p1.add 10) 0 w8 fun w9=>
A8 k0' p1 0 w9 fun x10=>
Bf [iV x10.1,iV x10.2.1,iV x10.2.2.1,iV x10.2.2.2.1,iV x10.2.2.2.2.1,iV x10.2.2.2.2.2.1,iV x10.2.2.2.2.2.2.1,iV x10.2.2.2.2.2.2.2.1,iV x10.2.2.2.2.2.2.2.2.1,iV x10.2.2.2.2.2.2.2.2.2.1,.slice x10.2.2.2.2.2.2.2.2.2.2.1.1 x10.2.2.2.2.2.2.2.2.2.2.1.2.1 x10.2.2.2.2.2.2.2.2.2.2.1.2.2,.pointer r4.1.1,.slice none 0 0,iV 0,.int .u64 0,.slice none 0 0] T.As1 w9 fun p11 w12=>
ld1 KI p1 w12 fun x13=>
Ci (fun(self14:((Int)×Unit)→WP) (z15:(Int)×Unit) w16=> ∀_:Nat→Value,
Aj (decide (z15.1<x13)) (
A8 k0' p1 0 w16 fun x17=>
Ae prog F.Lj [Sv k0' x17,iV z15.1] w16 false r5' fun r18 w19=>
Ae prog F.Uz [Sv k2' r18.1,.pointer leaps] w19 true r2' fun r20 w21=>
Aj (r20.2.1.1 !=0) (
R ((none,()),(r20.2.1.1,()),()) w21) (
ld1 .sl (p11.add 12) w21 fun x22=>
Bf [.pointer r20.1.1] T.Uf w21 fun p23 w24=>
L9 ((Builtin.append_ #[T.Vp,T.Vp] T.Vp #[.slice x22.1 x22.2.1 x22.2.2,.slice (some p23) 1 1]).run prog w24) fun y25 w26=>
Au [.slice y25.1 y25.2.1 y25.2.2] (p11.add 12) 0 w26 fun w27=>
self14 (wrap .i64 (z15.1+1),()) w27)) (
R ((some p11,()),(0,()),()) w16)) (0,()) w12)
theorem Io.ok{s0 s1 s2 s3 s4 s5 s6 s7 s8 s9:Int}{s10:Option Addr×Nat×Nat}{leaps:Option Addr}{w:World}{R:TR r2'→WP}:Io.wp s0 s1 s2 s3 s4 s5 s6 s7 s8 s9 s10 leaps w R→Ae prog F.Io [.agg #[iV s0,iV s1,iV s2,iV s3,iV s4,iV s5,iV s6,iV s7,iV s8,iV s9,.slice s10.1 s10.2.1 s10.2.2],.pointer leaps] w true r2' R:=
  oks Aa Tryz.func17 (hs 5 (.s (.s .n (.lp [(31,(.i .i64))] .n)) .n))
def Nl.wp(s0 s1 s2 s3 s4 s5 s6 s7 s8 s9:Int)(s10:Option Addr×Nat×Nat)(w:World)(R:TR r1'→WP):Prop:=
Bf [iV s0,iV s1,iV s2,iV s3,iV s4,iV s5,iV s6,iV s7,iV s8,iV s9,.slice s10.1 s10.2.1 s10.2.2] T.J8 w fun p1 w2=>
Bf pY T.mQ w2 fun p3 w4=>
Jg w4 fun w5=>
ld1 KI p1 w5 fun x6=>
ld1 KI (p1.add 1) w5 fun x7=>
ld1 KI (p1.add 2) w5 fun x8=>
ld1 KI (p1.add 3) w5 fun x9=>
ld1 KI (p1.add 4) w5 fun x10=>
ld1 KI (p1.add 5) w5 fun x11=>
ld1 KI (p1.add 6) w5 fun x12=>
ld1 KI (p1.add 7) w5 fun x13=>
ld1 KI (p1.add 8) w5 fun x14=>
ld1 KI (p1.add 9) w5 fun x15=>
ld1 .sl (p1.add 10) w5 fun x16=>
Bf [] T.int w5 fun p17 w18=>
A7 [hd 24 (p1.add 10) w5,hd 21 (p1.add 9) w5,hd 19 (p1.add 8) w5,hd 17 (p1.add 7) w5,hd 15 (p1.add 6) w5,hd 13 (p1.add 5) w5,hd 10 (p1.add 4) w5,hd 8 (p1.add 3) w5,hd 5 (p1.add 2) w5,hd 3 (p1.add 1) w5,hd 1 p1 w5] w18∧(
L9 ((Builtin.append_ #[T.V5,T.V5] T.V5 #[.slice (some p17) 0 0,.slice x16.1 x16.2.1 x16.2.2]).run prog w18) fun y19 w20=>
A7 [hd 21 (p1.add 9) w5,hd 19 (p1.add 8) w5,hd 17 (p1.add 7) w5,hd 15 (p1.add 6) w5,hd 13 (p1.add 5) w5,hd 10 (p1.add 4) w5,hd 8 (p1.add 3) w5,hd 5 (p1.add 2) w5,hd 3 (p1.add 1) w5,hd 1 p1 w5] w20∧(
Au [iV x6,iV x7,iV x8,iV x9,iV x10,iV x11,iV x12,iV x13,iV x14,iV x15,.slice y19.1 y19.2.1 y19.2.2] p3 0 w20 fun w21=>
A7 [] w21∧(
A8 k0' p3 0 w21 fun x22=>
R ((x22.1,x22.2.1,x22.2.2.1,x22.2.2.2.1,x22.2.2.2.2.1,x22.2.2.2.2.2.1,x22.2.2.2.2.2.2.1,x22.2.2.2.2.2.2.2.1,x22.2.2.2.2.2.2.2.2.1,x22.2.2.2.2.2.2.2.2.2.1,(x22.2.2.2.2.2.2.2.2.2.2.1.1,x22.2.2.2.2.2.2.2.2.2.2.1.2.1,x22.2.2.2.2.2.2.2.2.2.2.1.2.2),()),()) w21)))
theorem Nl.ok{s0 s1 s2 s3 s4 s5 s6 s7 s8 s9:Int}{s10:Option Addr×Nat×Nat}{w:World}{R:TR r1'→WP}:Nl.wp s0 s1 s2 s3 s4 s5 s6 s7 s8 s9 s10 w R→Ae prog F.Nl [.agg #[iV s0,iV s1,iV s2,iV s3,iV s4,iV s5,iV s6,iV s7,iV s8,iV s9,.slice s10.1 s10.2.1 s10.2.2]] w false r1' R:=
  oks Aa Tryz.func18 (.s .n (.s (.pl (ks [0,1,2,3,4,5,6,7,8,9,10,11,12,13,14,15,16,17,18,19,20,21,23,24] (.ef 22 [] (.ef 25 [24] (.tk 26 (.ef 27 [1,3,5,8,10,13,15,17,19,21] .z)))))) .n))
def Bo.wp(n:Option Addr)(i:Int)(w:World)(R:TR r3'→WP):Prop:=
Bf z2' T.nK w fun p1 w2=>
Ae prog F.Eu [.pointer n,iV i] w2 false Arw fun r3 w4=>
Ae prog F.Cb [.pointer r3.1.1] w4 false r3' fun r5 w6=>
Au (encs k1' r5.1) p1 0 w6 fun w7=>
A8 k1' p1 0 w7 fun x8=>
R (x8,()) w7
theorem Bo.ok{n:Option Addr}{i:Int}{w:World}{R:TR r3'→WP}:Bo.wp n i w R→Ae prog F.Bo [.pointer n,iV i] w false r3' R:=
  oks Aa Tryz.func19 .n
def Bq.wp(n:Option Addr)(w:World)(R:TR iT→WP):Prop:=
Aj (Option.isNone n) (
R ((0,()),()) w) (
Aq n fun a1=>
ld1 KI (a1.add 13) w fun x2=>
R ((x2,()),()) w)
theorem Bq.ok{n:Option Addr}{w:World}{R:TR iT→WP}:Bq.wp n w R→Ae prog F.Bq [.pointer n] w false iT R:=
  oks Aa Tryz.func20 .n
def Uw.wp(n:Option Addr)(a0 a1 a2:Int)(a3:Bool)(a4:Int)(a5:ByteArray)(a6 a7 a8 a9 a10:Option Addr×Nat×Nat)(w:World)(R:TR iT→WP):Prop:=
Bf [iV a0,iV a1,iV a2,.bool a3,.int .u32 a4,.string a5,.slice a6.1 a6.2.1 a6.2.2,.slice a7.1 a7.2.1 a7.2.2,.slice a8.1 a8.2.1 a8.2.2,.slice a9.1 a9.2.1 a9.2.2,.slice a10.1 a10.2.1 a10.2.2] T.uM w fun p1 w2=>
ld1 KI p1 w2 fun x3=>
Aj (x3==0) (
ld1 KI (p1.add 1) w2 fun x4=>
ld1 KI (p1.add 2) w2 fun x5=>
ld1 .b (p1.add 3) w2 fun x6=>
Ae prog F.Cf [.pointer n,iV x4,iV x5,.bool x6] w2 false iT fun r7 w8=>
R ((r7.1.1,()),()) w8) (
Aj (x3==1) (
ld1 KI (p1.add 1) w2 fun x9=>
ld1 (.i .u32) (p1.add 4) w2 fun x10=>
Ae prog F.D7 [.pointer n,iV x9,.int .u32 x10] w2 false iT fun r11 w12=>
R ((r11.1.1,()),()) w12) (
Aj (x3==2) (
ld1 KI (p1.add 1) w2 fun x13=>
Ae prog F.Gy [.pointer n,iV x13] w2 false iT fun r14 w15=>
R ((r14.1.1,()),()) w15) (
Cc (fun(J16:((Bool)×Unit)→WP)=>
Aj (x3==3) (
J16 ((x3==3),()) w2) (
Aj (x3==4) (
J16 ((x3==4),()) w2) (
Aj (x3==5) (
J16 ((x3==5),()) w2) (
J16 ((x3==6),()) w2)))) (fun(z17:(Bool)×Unit) w18=> ∀_:Nat→Value,
Aj z17.1 (
A8 xP (p1.add 7) 0 w18 fun x19=>
Ae prog F.Zw [Sv xP x19] w18 false r7' fun r20 w21=>
Ae prog F.Ce [.pointer n,Sv xP r20.1] w21 false iT fun r22 w23=>
R ((r22.1.1,()),()) w23) (
Aj (x3==7) (
ld1 KI (p1.add 1) w18 fun x24=>
ld1 .s (p1.add 5) w18 fun x25=>
Ae prog F.Jz [.pointer n,iV x24,.string x25] w18 true xB fun r26 w27=>
R ((r26.2.1.1,()),()) w27) (
Aj (x3==8) (
ld1 KI (p1.add 1) w18 fun x28=>
Ae prog F.Ls [.pointer n,iV x28] w18 true Us fun r29 w30=>
R ((0,()),()) w30) (
Aj (x3==9) (
ld1 KI (p1.add 1) w18 fun x31=>
ld1 KI (p1.add 2) w18 fun x32=>
Ae prog F.Gz [.pointer n,iV x31,iV x32] w18 false iT fun r33 w34=>
R ((r33.1.1,()),()) w34) (
Aj (x3==10) (
ld1 KI (p1.add 1) w18 fun x35=>
ld1 .sl (p1.add 6) w18 fun x36=>
Ae prog F.Eg [.pointer n,iV x35,.slice x36.1 x36.2.1 x36.2.2] w18 false iT fun r37 w38=>
R ((r37.1.1,()),()) w38) (
R ((0,()),()) w18)))))))))
theorem Uw.ok{n:Option Addr}{a0 a1 a2:Int}{a3:Bool}{a4:Int}{a5:ByteArray}{a6 a7 a8 a9 a10:Option Addr×Nat×Nat}{w:World}{R:TR iT→WP}:Uw.wp n a0 a1 a2 a3 a4 a5 a6 a7 a8 a9 a10 w R→Ae prog F.Uw [.pointer n,.agg #[iV a0,iV a1,iV a2,.bool a3,.int .u32 a4,.string a5,.slice a6.1 a6.2.1 a6.2.2,.slice a7.1 a7.2.1 a7.2.2,.slice a8.1 a8.2.1 a8.2.2,.slice a9.1 a9.2.1 a9.2.2,.slice a10.1 a10.2.1 a10.2.2]] w false iT R:=
  oks Aa Tryz.func21 (.s .n (.s (hs 7 (.ct [(33,.b)] .n .n)) .n))
def Oy.wp(s0 s1 s2 s3 s4 s5 s6 s7 s8 s9:Int)(s10:Option Addr×Nat×Nat)(i:Int)(w:World)(R:TR r5'→WP):Prop:=
Bf [iV s0,iV s1,iV s2,iV s3,iV s4,iV s5,iV s6,iV s7,iV s8,iV s9,.slice s10.1 s10.2.1 s10.2.2] T.J8 w fun p1 w2=>
Bf Aqn T.Xj w2 fun p3 w4=>
Cc (fun(J5:((Int)×Unit)→WP)=>
ld1 KI (p1.add 5) w4 fun x8=>
Aj (decide (x8>0)) (
ld1 KI (p1.add 5) w4 fun x9=>
dF x9 (
J5 (Int.tmod i x9,()) w4)) (
J5 (0,()) w4)) (fun(z6:(Int)×Unit) w7=> ∀_:Nat→Value,
Cc (fun(J10:((Int)×Unit)→WP)=>
ld1 .sl (p1.add 10) w7 fun x13=>
Aj (decide (i<(x13.2.1:Int))) (
ld1 .sl (p1.add 10) w7 fun x14=>
Ny x14.1 x14.2.1 i fun a15=>
ld1 KI (a15.add (i.toNat*1)) w7 fun x16=>
J10 (x16,()) w7) (
J10 (z6.1,()) w7)) (fun(z11:(Int)×Unit) w12=> ∀_:Nat→Value,
ld1 KI (p1.add 1) w12 fun x17=>
ld1 KI (p1.add 2) w12 fun x18=>
ld1 KI (p1.add 3) w12 fun x19=>
ld1 KI (p1.add 4) w12 fun x20=>
ld1 KI (p1.add 5) w12 fun x21=>
ld1 KI (p1.add 6) w12 fun x22=>
ld1 KI (p1.add 7) w12 fun x23=>
ld1 KI (p1.add 8) w12 fun x24=>
ld1 KI (p1.add 9) w12 fun x25=>
Au [iV i,iV x17,iV x18,iV x19,iV x20,iV x21,iV x22,iV z11.1,iV x23,iV x24,.bool (i==x25)] p3 0 w12 fun w26=>
A8 k2' p3 0 w26 fun x27=>
R (x27,()) w26))
theorem Oy.ok{s0 s1 s2 s3 s4 s5 s6 s7 s8 s9:Int}{s10:Option Addr×Nat×Nat}{i:Int}{w:World}{R:TR r5'→WP}:Oy.wp s0 s1 s2 s3 s4 s5 s6 s7 s8 s9 s10 i w R→Ae prog F.Oy [.agg #[iV s0,iV s1,iV s2,iV s3,iV s4,iV s5,iV s6,iV s7,iV s8,iV s9,.slice s10.1 s10.2.1 s10.2.2],iV i] w false r5' R:=
  oks Aa Tryz.func22 (hs 2 (.ct [(5,(.i .i64))] .n (.ct [(5,(.i .i64))] .n .n)))
def Ju.wp(n:Option Addr)(i:Int)(w:World)(R:TR dB→WP):Prop:=
Bf [uV 0,uV 0] T.Ti w fun p1 w2=>
Ae prog F.Eu [.pointer n,iV i] w2 false Arw fun r3 w4=>
Ae prog F.Dn [.pointer r3.1.1] w4 true dB fun r5 w6=>
Au [uV r5.1.1,uV r5.1.2.1] p1 0 w6 fun w7=>
A8 [KU,KU] p1 0 w7 fun x8=>
R ((x8.1,x8.2.1,()),(r5.2.1.1,()),()) w7
theorem Ju.ok{n:Option Addr}{i:Int}{w:World}{R:TR dB→WP}:Ju.wp n i w R→Ae prog F.Ju [.pointer n,iV i] w true dB R:=
  oks Aa Tryz.func23 .n
def lI.wp(list:Option Addr×Nat×Nat)(w_0 w_1 w_2:Int)(w:World)(R:TR r0'→WP):Prop:=
Bf [iV w_0,uV w_1,uV w_2] T.kE w fun p1 w2=>
Ci (fun(self3:((Int)×Unit)→WP) (z4:(Int)×Unit) w5=> ∀_:Nat→Value,
Aj (decide (z4.1<(list.2.1:Int))) (
Ny list.1 list.2.1 z4.1 fun a6=>
A8 Xf (a6.add (z4.1.toNat*3)) 0 w5 fun x7=>
Bf z5' T.kE w5 fun p8 w9=>
Au (encs Xf x7) p8 0 w9 fun w10=>
A8 Xf p8 0 w10 fun x11=>
A8 Xf p1 0 w10 fun x12=>
Aj ((x11.1==x12.1)&&(((x11.2.1==x12.2.1)&&((x11.2.2.1==x12.2.2.1)&&true))&&true)) (
R ((true,()),()) w10) (
self3 (wrap .i64 (z4.1+1),()) w10)) (
R ((false,()),()) w5)) (0,()) w2
theorem lI.ok{list:Option Addr×Nat×Nat}{w_0 w_1 w_2:Int}{w:World}{R:TR r0'→WP}:lI.wp list w_0 w_1 w_2 w R→Ae prog F.lI [.slice list.1 list.2.1 list.2.2,.agg #[iV w_0,uV w_1,uV w_2]] w false r0' R:=
  oks Aa Tryz.func24 (.s .n (.s (.s .n (.lp [(9,(.i .i64))] .n)) .n))
def law27_alive.wp(w:World)(R:TR r0'→WP):Prop:=
Ae prog F.law27_setup [.agg #[iV 2,iV 1,iV 0,iV 1,iV 0,iV 2,iV 2,iV 1,iV 0,iV (Int.negSucc 0),.slice none 0 0]] w false r1' fun r1 w2=>
Ae prog F.Io [Sv k0' r1.1,.pointer none] w2 true r2' fun r3 w4=>
Ae prog F.Cf [.pointer r3.1.1,iV 0,iV 1,.bool true] w4 false iT fun r5 w6=>
Ae prog F.D7 [.pointer r3.1.1,iV 0,.int .u32 5] w6 false iT fun r7 w8=>
Ae prog F.D7 [.pointer r3.1.1,iV 1,.int .u32 700] w8 false iT fun r9 w10=>
Ci (fun(self11:((Int)×Unit)→WP) (z12:(Int)×Unit) w13=> ∀_:Nat→Value,
Aj (decide (z12.1<3)) (
Bf [iV 1000,iV 1000] T.int w13 fun p14 w15=>
Bf [iV 0,iV 0] T.int w15 fun p16 w17=>
Bf [iV 0,iV 0] T.int w17 fun p18 w19=>
Ae prog F.Ce [.pointer r3.1.1,.agg #[.slice (some p14) 2 2,.slice (some p16) 2 2,.slice (some p18) 2 2,.slice none 0 0]] w19 false iT fun r20 w21=>
Aj (r20.1.1 !=0) (
R ((false,()),()) w21) (
self11 (wrap .i64 (z12.1+1),()) w21)) (
Ae prog F.Dq [.pointer r3.1.1,iV 1] w13 true oI fun r22 w23=>
Bf dE T.Bg w23 fun p24 w25=>
Au (encs Tu r22.1) p24 0 w25 fun w26=>
Aj (r3.2.1.1==0) (
Aj (r5.1.1==0) (
Aj (r7.1.1==0) (
Aj (r9.1.1==0) (
Aj (r22.2.1.1==0) (
ld1 KI (p24.add 2) w26 fun x27=>
Aj (x27==0) (
ld1 KI p24 w26 fun x28=>
Aj (x28==3005) (
Ae prog F.Bq [.pointer r3.1.1] w26 false iT fun r29 w30=>
R (((r29.1.1==3),()),()) w30) (
R ((false,()),()) w26)) (
R ((false,()),()) w26)) (
R ((false,()),()) w26)) (
R ((false,()),()) w26)) (
R ((false,()),()) w26)) (
R ((false,()),()) w26)) (
R ((false,()),()) w26))) (0,()) w10
theorem law27_alive.ok{w:World}{R:TR r0'→WP}:law27_alive.wp w R→Ae prog F.law27_alive [] w false r0' R:=
  oks Aa Tryz.func25 (hs 3 (.s (.s .n (.lp [(6,(.i .i64))] .n)) .n))
def law27_setup.wp(s0 s1 s2 s3 s4 s5 s6 s7 s8 s9:Int)(s10:Option Addr×Nat×Nat)(w:World)(R:TR r1'→WP):Prop:=
Bf [iV s0,iV s1,iV s2,iV s3,iV s4,iV s5,iV s6,iV s7,iV s8,iV s9,.slice s10.1 s10.2.1 s10.2.2] T.J8 w fun p1 w2=>
Bf pY T.mQ w2 fun p3 w4=>
Jg w4 fun w5=>
ld1 KI p1 w5 fun x6=>
ld1 KI (p1.add 1) w5 fun x7=>
ld1 KI (p1.add 2) w5 fun x8=>
ld1 KI (p1.add 3) w5 fun x9=>
ld1 KI (p1.add 4) w5 fun x10=>
ld1 KI (p1.add 5) w5 fun x11=>
ld1 KI (p1.add 6) w5 fun x12=>
ld1 KI (p1.add 7) w5 fun x13=>
ld1 KI (p1.add 8) w5 fun x14=>
ld1 KI (p1.add 9) w5 fun x15=>
ld1 .sl (p1.add 10) w5 fun x16=>
Bf [] T.int w5 fun p17 w18=>
A7 [hd 24 (p1.add 10) w5,hd 21 (p1.add 9) w5,hd 19 (p1.add 8) w5,hd 17 (p1.add 7) w5,hd 15 (p1.add 6) w5,hd 13 (p1.add 5) w5,hd 10 (p1.add 4) w5,hd 8 (p1.add 3) w5,hd 5 (p1.add 2) w5,hd 3 (p1.add 1) w5,hd 1 p1 w5] w18∧(
L9 ((Builtin.append_ #[T.V5,T.V5] T.V5 #[.slice (some p17) 0 0,.slice x16.1 x16.2.1 x16.2.2]).run prog w18) fun y19 w20=>
A7 [hd 21 (p1.add 9) w5,hd 19 (p1.add 8) w5,hd 17 (p1.add 7) w5,hd 15 (p1.add 6) w5,hd 13 (p1.add 5) w5,hd 10 (p1.add 4) w5,hd 8 (p1.add 3) w5,hd 5 (p1.add 2) w5,hd 3 (p1.add 1) w5,hd 1 p1 w5] w20∧(
Au [iV x6,iV x7,iV x8,iV x9,iV x10,iV x11,iV x12,iV x13,iV x14,iV x15,.slice y19.1 y19.2.1 y19.2.2] p3 0 w20 fun w21=>
A7 [] w21∧(
A8 k0' p3 0 w21 fun x22=>
R ((x22.1,x22.2.1,x22.2.2.1,x22.2.2.2.1,x22.2.2.2.2.1,x22.2.2.2.2.2.1,x22.2.2.2.2.2.2.1,x22.2.2.2.2.2.2.2.1,x22.2.2.2.2.2.2.2.2.1,x22.2.2.2.2.2.2.2.2.2.1,(x22.2.2.2.2.2.2.2.2.2.2.1.1,x22.2.2.2.2.2.2.2.2.2.2.1.2.1,x22.2.2.2.2.2.2.2.2.2.2.1.2.2),()),()) w21)))
theorem law27_setup.ok{s0 s1 s2 s3 s4 s5 s6 s7 s8 s9:Int}{s10:Option Addr×Nat×Nat}{w:World}{R:TR r1'→WP}:law27_setup.wp s0 s1 s2 s3 s4 s5 s6 s7 s8 s9 s10 w R→Ae prog F.law27_setup [.agg #[iV s0,iV s1,iV s2,iV s3,iV s4,iV s5,iV s6,iV s7,iV s8,iV s9,.slice s10.1 s10.2.1 s10.2.2]] w false r1' R:=
  oks Aa Tryz.func26 (.s .n (.s (.pl (ks [0,1,2,3,4,5,6,7,8,9,10,11,12,13,14,15,16,17,18,19,20,21,23,24] (.ef 22 [] (.ef 25 [24] (.tk 26 (.ef 27 [1,3,5,8,10,13,15,17,19,21] .z)))))) .n))
def law27_great.wp(a0 a1 a2:Int)(a3:Bool)(a4:Int)(a5:ByteArray)(a6 a7 a8 a9 a10:Option Addr×Nat×Nat)(w:World)(R:TR r0'→WP):Prop:=
Bf [iV a0,iV a1,iV a2,.bool a3,.int .u32 a4,.string a5,.slice a6.1 a6.2.1 a6.2.2,.slice a7.1 a7.2.1 a7.2.2,.slice a8.1 a8.2.1 a8.2.2,.slice a9.1 a9.2.1 a9.2.2,.slice a10.1 a10.2.1 a10.2.2] T.law27_Act w fun p1 w2=>
A8 xP (p1.add 7) 0 w2 fun x3=>
Bf Vy T.U0 w2 fun p4 w5=>
Au (encs xP x3) p4 0 w5 fun w6=>
ld1 .sl (p1.add 6) w6 fun x7=>
Aj (decide ((x7.2.1:Int)>200)) (
R ((true,()),()) w6) (
ld1 .s (p1.add 5) w6 fun x8=>
Aj (decide ((x8.size:Int)>100)) (
R ((true,()),()) w6) (
ld1 .sl p4 w6 fun x9=>
Aj (decide ((x9.2.1:Int)>100)) (
R ((true,()),()) w6) (
ld1 .sl (p4.add 1) w6 fun x10=>
Aj (decide ((x10.2.1:Int)>100)) (
R ((true,()),()) w6) (
ld1 .sl (p4.add 2) w6 fun x11=>
Aj (decide ((x11.2.1:Int)>100)) (
R ((true,()),()) w6) (
ld1 .sl (p4.add 3) w6 fun x12=>
R ((decide ((x12.2.1:Int)>100),()),()) w6)))))
theorem law27_great.ok{a0 a1 a2:Int}{a3:Bool}{a4:Int}{a5:ByteArray}{a6 a7 a8 a9 a10:Option Addr×Nat×Nat}{w:World}{R:TR r0'→WP}:law27_great.wp a0 a1 a2 a3 a4 a5 a6 a7 a8 a9 a10 w R→Ae prog F.law27_great [.agg #[iV a0,iV a1,iV a2,.bool a3,.int .u32 a4,.string a5,.slice a6.1 a6.2.1 a6.2.2,.slice a7.1 a7.2.1 a7.2.2,.slice a8.1 a8.2.1 a8.2.2,.slice a9.1 a9.2.1 a9.2.2,.slice a10.1 a10.2.1 a10.2.2]] w false r0' R:=
  oks Aa Tryz.func27 .n
def Cf.wp(n:Option Addr)(i k:Int)(on_:Bool)(w:World)(R:TR iT→WP):Prop:=
Aj (Option.isNone n) (
R ((2,()),()) w) (
Aq n fun a1=>
ld1 .p (a1.add 11) w fun x2=>
Ae prog F.Ht [.pointer x2,iV i,iV k,.bool on_] w false iT fun r3 w4=>
R ((r3.1.1,()),()) w4)
theorem Cf.ok{n:Option Addr}{i k:Int}{on_:Bool}{w:World}{R:TR iT→WP}:Cf.wp n i k on_ w R→Ae prog F.Cf [.pointer n,iV i,iV k,.bool on_] w false iT R:=
  oks Aa Tryz.func28 .n
def Ce.wp(n:Option Addr)(c0 c1 c2 c3:Option Addr×Nat×Nat)(w:World)(R:TR iT→WP):Prop:=
Bf [.slice c0.1 c0.2.1 c0.2.2,.slice c1.1 c1.2.1 c1.2.2,.slice c2.1 c2.2.1 c2.2.2,.slice c3.1 c3.2.1 c3.2.2] T.V4 w fun p1 w2=>
A8 xP p1 0 w2 fun x3=>
Ae prog F.Iz [.pointer n,Sv xP x3] w2 false iT fun r4 w5=>
Aj (r4.1.1 !=0) (
R ((r4.1.1,()),()) w5) (
Aq n fun a6=>
ld1 .sl (a6.add 12) w5 fun x7=>
Ci (fun(self8:((Int)×Unit)→WP) (z9:(Int)×Unit) w10=> ∀_:Nat→Value,
Aj (decide (z9.1<(x7.2.1:Int))) (
Ny x7.1 x7.2.1 z9.1 fun a11=>
ld1 .p (a11.add (z9.1.toNat*1)) w10 fun x12=>
ld1 .sl p1 w10 fun x13=>
Ny x13.1 x13.2.1 z9.1 fun a14=>
ld1 KI (a14.add (z9.1.toNat*1)) w10 fun x15=>
Ae prog F.Lr [.pointer x12,iV x15] w10 false iT fun r16 w17=>
self8 (wrap .i64 (z9.1+1),()) w17) (
A8 xP p1 0 w10 fun x18=>
Ae prog F.Mc [.pointer n,Sv xP x18] w10 false dH fun r19 w20=>
Jg w20 fun w21=>
Aq n fun a22=>
ld1 .p (a22.add 11) w21 fun x23=>
Aq n fun a24=>
ld1 (.i .u64) (a24.add 14) w21 fun x25=>
ld1 .sl (p1.add 3) w21 fun x26=>
Ae prog F.Jd [.pointer n] w21 false aT fun r27 w28=>
A7 [hd 12 (p1.add 3) w21,hd 8 (a24.add 14) w21,hd 4 (a22.add 11) w21] w28∧(
Ae prog F.Ov [.pointer x23,.int .u64 x25,.int .u64 r27.1.1,.slice x26.1 x26.2.1 x26.2.2] w28 false dH fun r29 w30=>
A7 [] w30∧(
Aq n fun a31=>
Au [.slice r29.1.1.1 r29.1.1.2.1 r29.1.1.2.2] (a31.add 15) 0 w30 fun w32=>
A7 [] w32∧(
Aq n fun a33=>
ld1 .sl (a33.add 15) w32 fun x34=>
Ci (fun(self35:((Int)×Unit)→WP) (z36:(Int)×Unit) w37=> ∀_:Nat→Value,
Aj (decide (z36.1<(x34.2.1:Int))) (
Ny x34.1 x34.2.1 z36.1 fun a38=>
A8 [KI,KI] (a38.add (z36.1.toNat*2)) 0 w37 fun x39=>
Bf [iV 0,iV 0] T.P6 w37 fun p40 w41=>
Au [iV x39.1,iV x39.2.1] p40 0 w41 fun w42=>
ld1 KI (p40.add 1) w42 fun x43=>
Aj (x43 !=1) (
self35 (wrap .i64 (z36.1+1),()) w42) (
ld1 KI p40 w42 fun x44=>
Ny r19.1.1.1 r19.1.1.2.1 x44 fun a45=>
ld1 .sl (a45.add (x44.toNat*1)) w42 fun x46=>
Ci (fun(self47:((Int)×Unit)→WP) (z48:(Int)×Unit) w49=> ∀_:Nat→Value,
Aj (decide (z48.1<(x46.2.1:Int))) (
Ny x46.1 x46.2.1 z48.1 fun a50=>
ld1 .sl (a50.add (z48.1.toNat*1)) w49 fun x51=>
Jg w49 fun w52=>
Aq n fun a53=>
ld1 .sl (a53.add 12) w52 fun x54=>
Ny x54.1 x54.2.1 z36.1 fun a55=>
ld1 .p (a55.add (z36.1.toNat*1)) w52 fun x56=>
ld1 .sl (p1.add 2) w52 fun x57=>
Ny x57.1 x57.2.1 z36.1 fun a58=>
ld1 KI (a58.add (z36.1.toNat*1)) w52 fun x59=>
Ae prog F.Ia [.pointer x56,iV x59,.slice x51.1 x51.2.1 x51.2.2] w52 false iT fun r60 w61=>
A7 [hd 8 (p1.add 2) w52,hd 3 (a53.add 12) w52] w61∧(
self47 (wrap .i64 (z48.1+1),()) w61)) (
self35 (wrap .i64 (z36.1+1),()) w49)) (0,()) w42)) (
Aq n fun a62=>
ld1 KI (a62.add 13) w37 fun x63=>
Aq n fun a64=>
Au [iV (wrap .i64 (x63+1))] (a64.add 13) 0 w37 fun w65=>
R ((0,()),()) w65)) (0,()) w32))))) (0,()) w5)
theorem Ce.ok{n:Option Addr}{c0 c1 c2 c3:Option Addr×Nat×Nat}{w:World}{R:TR iT→WP}:Ce.wp n c0 c1 c2 c3 w R→Ae prog F.Ce [.pointer n,.agg #[.slice c0.1 c0.2.1 c0.2.2,.slice c1.1 c1.2.1 c1.2.2,.slice c2.1 c2.2.1 c2.2.2,.slice c3.1 c3.2.1 c3.2.2]] w false iT R:=
  oks Aa Tryz.func29 (hs 2 (.s (.s .n (.lp [(24,(.i .i64))] .n)) (.s .n (.s (.pl (ks [0,1,2,3,4,5,6,7,8,9,11,12] (.ef 10 [] (.ef 13 [4,8,12] (.tk 14 (.tk 15 (.ef 16 [] .z))))))) (.s (.s .n (.lp [(61,(.i .i64))] (hs 2 (.s (hs 3 (.lp [(75,(.i .i64))] (hs 2 (.s (.s .n (.pl (ks [0,1,2,3,4,5,6,7,8,9,10,11,12] (.ef 13 [6,11] .z)))) .n)))) .n)))) .n)))))
def Dv.wp(n:Option Addr)(w:World)(R:TR aT→WP):Prop:=
Aj (Option.isNone n) (
R ((0,()),()) w) (
Aq n fun a1=>
ld1 (.i .u64) (a1.add 14) w fun x2=>
R ((x2,()),()) w)
theorem Dv.ok{n:Option Addr}{w:World}{R:TR aT→WP}:Dv.wp n w R→Ae prog F.Dv [.pointer n] w false aT R:=
  oks Aa Tryz.func31 .n
def Jv.wp(n:Option Addr)(w:World)(R:TR dH→WP):Prop:=
Aj (Option.isNone n) (
R (((none,0,0),()),()) w) (
Aq n fun a1=>
ld1 .sl (a1.add 15) w fun x2=>
L9 ((Builtin.append_ #[T.O5,T.O5] T.O5 #[.slice none 0 0,.slice x2.1 x2.2.1 x2.2.2]).run prog w) fun y3 w4=>
R (((y3.1,y3.2.1,y3.2.2),()),()) w4)
theorem Jv.ok{n:Option Addr}{w:World}{R:TR dH→WP}:Jv.wp n w R→Ae prog F.Jv [.pointer n] w false dH R:=
  oks Aa Tryz.func32 .n
def Dq.wp(n:Option Addr)(i:Int)(w:World)(R:TR oI→WP):Prop:=
Bf dE T.Bg w fun p1 w2=>
Ae prog F.Ec [.pointer n,iV i] w2 false iT fun r3 w4=>
Aj (r3.1.1 !=0) (
Au dE p1 0 w4 fun w5=>
A8 Tu p1 0 w5 fun x6=>
R (x6,(r3.1.1,()),()) w5) (
Aq n fun a7=>
ld1 .sl (a7.add 12) w4 fun x8=>
Ny x8.1 x8.2.1 i fun a9=>
ld1 .p (a9.add (i.toNat*1)) w4 fun x10=>
Ae prog F.D6 [.pointer x10] w4 true oI fun r11 w12=>
Au (encs Tu r11.1) p1 0 w12 fun w13=>
A8 Tu p1 0 w13 fun x14=>
R (x14,(r11.2.1.1,()),()) w13)
theorem Dq.ok{n:Option Addr}{i:Int}{w:World}{R:TR oI→WP}:Dq.wp n i w R→Ae prog F.Dq [.pointer n,iV i] w true oI R:=
  oks Aa Tryz.func33 .n
def D7.wp(n:Option Addr)(i raw:Int)(w:World)(R:TR iT→WP):Prop:=
Ae prog F.Ec [.pointer n,iV i] w false iT fun r1 w2=>
Aj (r1.1.1 !=0) (
R ((r1.1.1,()),()) w2) (
Aq n fun a3=>
ld1 .sl (a3.add 12) w2 fun x4=>
Ny x4.1 x4.2.1 i fun a5=>
ld1 .p (a5.add (i.toNat*1)) w2 fun x6=>
Ae prog F.Ji [.pointer x6,.int .u32 raw] w2 false iT fun r7 w8=>
R ((r7.1.1,()),()) w8)
theorem D7.ok{n:Option Addr}{i raw:Int}{w:World}{R:TR iT→WP}:D7.wp n i raw w R→Ae prog F.D7 [.pointer n,iV i,.int .u32 raw] w false iT R:=
  oks Aa Tryz.func34 .n
def Gy.wp(n:Option Addr)(i:Int)(w:World)(R:TR iT→WP):Prop:=
Ae prog F.Ec [.pointer n,iV i] w false iT fun r1 w2=>
Aj (r1.1.1 !=0) (
R ((r1.1.1,()),()) w2) (
Aq n fun a3=>
ld1 .sl (a3.add 12) w2 fun x4=>
Ny x4.1 x4.2.1 i fun a5=>
ld1 .p (a5.add (i.toNat*1)) w2 fun x6=>
Ae prog F.Qg [.pointer x6] w2 false iT fun r7 w8=>
R ((r7.1.1,()),()) w8)
theorem Gy.ok{n:Option Addr}{i:Int}{w:World}{R:TR iT→WP}:Gy.wp n i w R→Ae prog F.Gy [.pointer n,iV i] w false iT R:=
  oks Aa Tryz.func35 .n
def Gz.wp(n:Option Addr)(i tai:Int)(w:World)(R:TR iT→WP):Prop:=
Ae prog F.Ec [.pointer n,iV i] w false iT fun r1 w2=>
Aj (r1.1.1 !=0) (
R ((r1.1.1,()),()) w2) (
Aq n fun a3=>
ld1 .sl (a3.add 12) w2 fun x4=>
Ny x4.1 x4.2.1 i fun a5=>
ld1 .p (a5.add (i.toNat*1)) w2 fun x6=>
Ae prog F.Qc [.pointer x6,iV tai] w2 false iT fun r7 w8=>
R ((r7.1.1,()),()) w8)
theorem Gz.ok{n:Option Addr}{i tai:Int}{w:World}{R:TR iT→WP}:Gz.wp n i tai w R→Ae prog F.Gz [.pointer n,iV i,iV tai] w false iT R:=
  oks Aa Tryz.func36 .n
def Eg.wp(n:Option Addr)(i:Int)(b:Option Addr×Nat×Nat)(w:World)(R:TR iT→WP):Prop:=
Ae prog F.Ec [.pointer n,iV i] w false iT fun r1 w2=>
Aj (r1.1.1 !=0) (
R ((r1.1.1,()),()) w2) (
Ae prog F.Ru [.slice b.1 b.2.1 b.2.2] w2 true H7 fun r3 w4=>
Aj (r3.2.1.1==0) (
R ((1,()),()) w4) (
Aq n fun a5=>
ld1 .sl (a5.add 12) w4 fun x6=>
Ny x6.1 x6.2.1 i fun a7=>
ld1 .p (a7.add (i.toNat*1)) w4 fun x8=>
Ae prog F.Ia [.pointer x8,iV 0,.slice b.1 b.2.1 b.2.2] w4 false iT fun r9 w10=>
R ((r9.1.1,()),()) w10))
theorem Eg.ok{n:Option Addr}{i:Int}{b:Option Addr×Nat×Nat}{w:World}{R:TR iT→WP}:Eg.wp n i b w R→Ae prog F.Eg [.pointer n,iV i,.slice b.1 b.2.1 b.2.2] w false iT R:=
  oks Aa Tryz.func37 .n
def law27_twice.wp(a b:Option Addr)(x0 x1 x2:Int)(x3:Bool)(x4:Int)(x5:ByteArray)(x6 x7 x8 x9 x10:Option Addr×Nat×Nat)(w:World)(R:TR r0'→WP):Prop:=
Bf [iV x0,iV x1,iV x2,.bool x3,.int .u32 x4,.string x5,.slice x6.1 x6.2.1 x6.2.2,.slice x7.1 x7.2.1 x7.2.2,.slice x8.1 x8.2.1 x8.2.2,.slice x9.1 x9.2.1 x9.2.2,.slice x10.1 x10.2.1 x10.2.2] T.law27_Act w fun p1 w2=>
ld1 KI p1 w2 fun x11=>
Aj (x11==0) (
Jg w2 fun w12=>
ld1 KI (p1.add 1) w12 fun x13=>
ld1 KI (p1.add 2) w12 fun x14=>
ld1 .b (p1.add 3) w12 fun x15=>
ld1 KI (p1.add 1) w12 fun x16=>
ld1 KI (p1.add 2) w12 fun x17=>
ld1 .b (p1.add 3) w12 fun x18=>
Ae prog F.Cf [.pointer a,iV x13,iV x14,.bool x15] w12 false iT fun r19 w20=>
A7 [hd 14 (p1.add 3) w12,hd 12 (p1.add 2) w12,hd 10 (p1.add 1) w12,hd 6 (p1.add 3) w12,hd 4 (p1.add 2) w12,hd 2 (p1.add 1) w12] w20∧(
Ae prog F.Cf [.pointer b,iV x16,iV x17,.bool x18] w20 false iT fun r21 w22=>
A7 [hd 6 (p1.add 3) w12,hd 4 (p1.add 2) w12,hd 2 (p1.add 1) w12] w22∧(
R (((r19.1.1==r21.1.1),()),()) w22))) (
Aj (x11==1) (
Jg w2 fun w23=>
ld1 KI (p1.add 1) w23 fun x24=>
ld1 (.i .u32) (p1.add 4) w23 fun x25=>
ld1 KI (p1.add 1) w23 fun x26=>
ld1 (.i .u32) (p1.add 4) w23 fun x27=>
Ae prog F.D7 [.pointer a,iV x24,.int .u32 x25] w23 false iT fun r28 w29=>
A7 [hd 10 (p1.add 4) w23,hd 8 (p1.add 1) w23,hd 4 (p1.add 4) w23,hd 2 (p1.add 1) w23] w29∧(
Ae prog F.D7 [.pointer b,iV x26,.int .u32 x27] w29 false iT fun r30 w31=>
A7 [hd 4 (p1.add 4) w23,hd 2 (p1.add 1) w23] w31∧(
R (((r28.1.1==r30.1.1),()),()) w31))) (
Aj (x11==2) (
Jg w2 fun w32=>
ld1 KI (p1.add 1) w32 fun x33=>
ld1 KI (p1.add 1) w32 fun x34=>
Ae prog F.Gy [.pointer a,iV x33] w32 false iT fun r35 w36=>
A7 [hd 6 (p1.add 1) w32,hd 2 (p1.add 1) w32] w36∧(
Ae prog F.Gy [.pointer b,iV x34] w36 false iT fun r37 w38=>
A7 [hd 2 (p1.add 1) w32] w38∧(
R (((r35.1.1==r37.1.1),()),()) w38))) (
Cc (fun(J39:((Bool)×Unit)→WP)=>
Aj (x11==3) (
J39 ((x11==3),()) w2) (
Aj (x11==4) (
J39 ((x11==4),()) w2) (
Aj (x11==5) (
J39 ((x11==5),()) w2) (
J39 ((x11==6),()) w2)))) (fun(z40:(Bool)×Unit) w41=> ∀_:Nat→Value,
Aj z40.1 (
Jg w41 fun w42=>
A8 xP (p1.add 7) 0 w42 fun x43=>
A8 xP (p1.add 7) 0 w42 fun x44=>
Ae prog F.law27_choice [Sv xP x43] w42 false r7' fun r45 w46=>
A7 [hd 7 ((p1.add 7).add 0) w42,hd 7 ((p1.add 7).add 1) w42,hd 7 ((p1.add 7).add 2) w42,hd 7 ((p1.add 7).add 3) w42,hd 2 ((p1.add 7).add 0) w42,hd 2 ((p1.add 7).add 1) w42,hd 2 ((p1.add 7).add 2) w42,hd 2 ((p1.add 7).add 3) w42] w46∧(
Ae prog F.Ce [.pointer a,Sv xP r45.1] w46 false iT fun r47 w48=>
A7 [hd 7 ((p1.add 7).add 0) w42,hd 7 ((p1.add 7).add 1) w42,hd 7 ((p1.add 7).add 2) w42,hd 7 ((p1.add 7).add 3) w42,hd 2 ((p1.add 7).add 0) w42,hd 2 ((p1.add 7).add 1) w42,hd 2 ((p1.add 7).add 2) w42,hd 2 ((p1.add 7).add 3) w42] w48∧(
Ae prog F.law27_choice [Sv xP x44] w48 false r7' fun r49 w50=>
A7 [hd 7 ((p1.add 7).add 0) w42,hd 7 ((p1.add 7).add 1) w42,hd 7 ((p1.add 7).add 2) w42,hd 7 ((p1.add 7).add 3) w42,hd 2 ((p1.add 7).add 0) w42,hd 2 ((p1.add 7).add 1) w42,hd 2 ((p1.add 7).add 2) w42,hd 2 ((p1.add 7).add 3) w42] w50∧(
Ae prog F.Ce [.pointer b,Sv xP r49.1] w50 false iT fun r51 w52=>
A7 [hd 7 ((p1.add 7).add 0) w42,hd 7 ((p1.add 7).add 1) w42,hd 7 ((p1.add 7).add 2) w42,hd 7 ((p1.add 7).add 3) w42,hd 2 ((p1.add 7).add 0) w42,hd 2 ((p1.add 7).add 1) w42,hd 2 ((p1.add 7).add 2) w42,hd 2 ((p1.add 7).add 3) w42] w52∧(
R (((r47.1.1==r51.1.1),()),()) w52))))) (
Aj (x11==9) (
Jg w41 fun w53=>
ld1 KI (p1.add 1) w53 fun x54=>
ld1 KI (p1.add 2) w53 fun x55=>
ld1 KI (p1.add 1) w53 fun x56=>
ld1 KI (p1.add 2) w53 fun x57=>
Ae prog F.Gz [.pointer a,iV x54,iV x55] w53 false iT fun r58 w59=>
A7 [hd 10 (p1.add 2) w53,hd 8 (p1.add 1) w53,hd 4 (p1.add 2) w53,hd 2 (p1.add 1) w53] w59∧(
Ae prog F.Gz [.pointer b,iV x56,iV x57] w59 false iT fun r60 w61=>
A7 [hd 4 (p1.add 2) w53,hd 2 (p1.add 1) w53] w61∧(
R (((r58.1.1==r60.1.1),()),()) w61))) (
Aj (x11==10) (
Jg w41 fun w62=>
ld1 KI (p1.add 1) w62 fun x63=>
ld1 .sl (p1.add 6) w62 fun x64=>
ld1 KI (p1.add 1) w62 fun x65=>
ld1 .sl (p1.add 6) w62 fun x66=>
Ae prog F.Eg [.pointer a,iV x63,.slice x64.1 x64.2.1 x64.2.2] w62 false iT fun r67 w68=>
A7 [hd 10 (p1.add 6) w62,hd 8 (p1.add 1) w62,hd 4 (p1.add 6) w62,hd 2 (p1.add 1) w62] w68∧(
Ae prog F.Eg [.pointer b,iV x65,.slice x66.1 x66.2.1 x66.2.2] w68 false iT fun r69 w70=>
A7 [hd 4 (p1.add 6) w62,hd 2 (p1.add 1) w62] w70∧(
R (((r67.1.1==r69.1.1),()),()) w70))) (
R ((true,()),()) w41)))))))
theorem law27_twice.ok{a b:Option Addr}{x0 x1 x2:Int}{x3:Bool}{x4:Int}{x5:ByteArray}{x6 x7 x8 x9 x10:Option Addr×Nat×Nat}{w:World}{R:TR r0'→WP}:law27_twice.wp a b x0 x1 x2 x3 x4 x5 x6 x7 x8 x9 x10 w R→Ae prog F.law27_twice [.pointer a,.pointer b,.agg #[iV x0,iV x1,iV x2,.bool x3,.int .u32 x4,.string x5,.slice x6.1 x6.2.1 x6.2.2,.slice x7.1 x7.2.1 x7.2.2,.slice x8.1 x8.2.1 x8.2.2,.slice x9.1 x9.2.1 x9.2.2,.slice x10.1 x10.2.1 x10.2.2]] w false r0' R:=
  oks Aa Tryz.func38 (.s .n (.s (hs 2 (.s (.s (.pl (ks [0,1,2,3,4,5,6,8,9,10,11,12,13,14] (.ef 7 [] (.ef 15 [10,12,14] (.tk 16 (.tk 17 .z)))))) .n) (.s .n (.s (.s (.pl (ks [0,1,2,3,4,6,7,8,9,10] (.ef 5 [] (.ef 11 [8,10] (.tk 12 (.tk 13 .z)))))) .n) (.s .n (.s (.s (.pl (ks [0,1,2,4,5,6] (.ef 3 [] (.ef 7 [6] (.tk 8 (.tk 9 .z)))))) .n) (.ct [(54,.b)] .n (.s (.s (.pl (ks [0,1,2,5,6,7] (.ef 3 [] (.ef 4 [] (.ef 8 [] (.ef 9 [] (.tk 10 (.tk 11 .z)))))))) .n) (.s .n (.s (.s (.pl (ks [0,1,2,3,4,6,7,8,9,10] (.ef 5 [] (.ef 11 [8,10] (.tk 12 (.tk 13 .z)))))) .n) (.s .n (.s (.s (.pl (ks [0,1,2,3,4,6,7,8,9,10] (.ef 5 [] (.ef 11 [8,10] (.tk 12 (.tk 13 .z)))))) .n) .n)))))))))))) .n))
def Jz.wp(n:Option Addr)(i:Int)(label:ByteArray)(w:World)(R:TR xB→WP):Prop:=
Ae prog F.Ec [.pointer n,iV i] w false iT fun r1 w2=>
Aj (r1.1.1 !=0) (
R ((0,()),(r1.1.1,()),()) w2) (
Aq n fun a3=>
ld1 .sl (a3.add 12) w2 fun x4=>
Ny x4.1 x4.2.1 i fun a5=>
ld1 .p (a5.add (i.toNat*1)) w2 fun x6=>
Ae prog F.Qj [.pointer x6,.string label] w2 true xB fun r7 w8=>
R ((r7.1.1,()),(r7.2.1.1,()),()) w8)
theorem Jz.ok{n:Option Addr}{i:Int}{label:ByteArray}{w:World}{R:TR xB→WP}:Jz.wp n i label w R→Ae prog F.Jz [.pointer n,iV i,.string label] w true xB R:=
  oks Aa Tryz.func41 .n
def Ls.wp(n:Option Addr)(i:Int)(w:World)(R:TR Us→WP):Prop:=
Bf z7' T.U1 w fun p1 w2=>
Ae prog F.Eu [.pointer n,iV i] w2 false Arw fun r3 w4=>
Ae prog F.Oq [.pointer r3.1.1] w4 true Us fun r5 w6=>
Au (encs Ig r5.1) p1 0 w6 fun w7=>
A8 Ig p1 0 w7 fun x8=>
R (x8,(r5.2.1.1,()),()) w7
theorem Ls.ok{n:Option Addr}{i:Int}{w:World}{R:TR Us→WP}:Ls.wp n i w R→Ae prog F.Ls [.pointer n,iV i] w true Us R:=
  oks Aa Tryz.func42 .n
def Ot.wp(s0 s1 s2 s3 s4 s5 s6 s7 s8 s9:Int)(s10:Bool)(w:World)(R:TR r0'→WP):Prop:=
Bf [iV s0,iV s1,iV s2,iV s3,iV s4,iV s5,iV s6,iV s7,iV s8,iV s9,.bool s10] T.Xj w fun p1 w2=>
ld1 KI p1 w2 fun x3=>
ld1 KI (p1.add 1) w2 fun x4=>
ld1 KI (p1.add 2) w2 fun x5=>
ld1 KI (p1.add 3) w2 fun x6=>
ld1 KI (p1.add 4) w2 fun x7=>
Ae prog F.Vq [iV x3,iV x4,iV x5,iV x6,iV x7] w2 false r0' fun r8 w9=>
Aj r8.1.1 (
A8 k2' p1 0 w9 fun x10=>
Ae prog F.Jy [Sv k2' x10] w9 false Ajw fun r11 w12=>
Ae prog F.U3 [Sv Aab r11.1] w12 false r0' fun r13 w14=>
Aj r13.1.1 (
ld1 KI (p1.add 8) w14 fun x15=>
Aj (decide (x15≥1)) (
ld1 KI (p1.add 8) w14 fun x16=>
ld1 KI (p1.add 1) w14 fun x17=>
Aj (decide (x16≤x17)) (
ld1 KI (p1.add 9) w14 fun x18=>
Aj (decide (x18≥0)) (
ld1 KI (p1.add 9) w14 fun x19=>
R ((decide (x19≤20),()),()) w14) (
R ((false,()),()) w14)) (
R ((false,()),()) w14)) (
R ((false,()),()) w14)) (
R ((false,()),()) w14)) (
R ((false,()),()) w9)
theorem Ot.ok{s0 s1 s2 s3 s4 s5 s6 s7 s8 s9:Int}{s10:Bool}{w:World}{R:TR r0'→WP}:Ot.wp s0 s1 s2 s3 s4 s5 s6 s7 s8 s9 s10 w R→Ae prog F.Ot [.agg #[iV s0,iV s1,iV s2,iV s3,iV s4,iV s5,iV s6,iV s7,iV s8,iV s9,.bool s10]] w false r0' R:=
  oks Aa Tryz.func50 .n
def Pi.wp(n:Int)(w:World)(R:TR r2'→WP):Prop:=
Aj (decide (n<1)) (
R ((none,()),(1,()),()) w) (
Aj (decide (n>64)) (
R ((none,()),(1,()),()) w) (
L9 ((Instr.makeSlice T.Ux (iV n) (iV n)).run prog w) fun y1 w2=>
Bf [iV n,.slice y1.1 y1.2.1 y1.2.2] T.Ahf w2 fun p3 w4=>
R ((some p3,()),(0,()),()) w4))
theorem Pi.ok{n:Int}{w:World}{R:TR r2'→WP}:Pi.wp n w R→Ae prog F.Pi [iV n] w true r2' R:=
  oks Aa Tryz.func51 .n
def Uz.wp(s0 s1 s2 s3 s4 s5 s6 s7 s8 s9:Int)(s10:Bool)(leaps:Option Addr)(w:World)(R:TR r2'→WP):Prop:=
Bf [iV s0,iV s1,iV s2,iV s3,iV s4,iV s5,iV s6,iV s7,iV s8,iV s9,.bool s10] T.jP w fun p1 w2=>
A8 k2' p1 0 w2 fun x3=>
Ae prog F.Nq [Sv k2' x3] w2 false r0' fun r4 w5=>
Aj (!r4.1.1) (
R ((none,()),(1,()),()) w5) (
Jg w5 fun w6=>
A8 k2' p1 0 w6 fun x7=>
Ae prog F.Wl [] w6 false Arw fun r8 w9=>
A7 [hd 0 (p1.add 0) w6,hd 0 (p1.add 1) w6,hd 0 (p1.add 2) w6,hd 0 (p1.add 3) w6,hd 0 (p1.add 4) w6,hd 0 (p1.add 5) w6,hd 0 (p1.add 6) w6,hd 0 (p1.add 7) w6,hd 0 (p1.add 8) w6,hd 0 (p1.add 9) w6,hd 0 (p1.add 10) w6] w9∧(
Bf [iV x7.1,iV x7.2.1,iV x7.2.2.1,iV x7.2.2.2.1,iV x7.2.2.2.2.1,iV x7.2.2.2.2.2.1,iV x7.2.2.2.2.2.2.1,iV x7.2.2.2.2.2.2.2.1,iV x7.2.2.2.2.2.2.2.2.1,iV x7.2.2.2.2.2.2.2.2.2.1,.bool x7.2.2.2.2.2.2.2.2.2.2.1,.pointer leaps,.bool false,uV 0,.pointer none,.pointer none,.pointer none,.pointer none,.pointer none,.bool false,iV 0,uV 0,iV 0,uV 0,iV 0,iV 0,.pointer r8.1.1,.pointer none] T.Ad6 w9 fun p10 w11=>
A7 [hd 0 (p1.add 0) w6,hd 0 (p1.add 1) w6,hd 0 (p1.add 2) w6,hd 0 (p1.add 3) w6,hd 0 (p1.add 4) w6,hd 0 (p1.add 5) w6,hd 0 (p1.add 6) w6,hd 0 (p1.add 7) w6,hd 0 (p1.add 8) w6,hd 0 (p1.add 9) w6,hd 0 (p1.add 10) w6] w11∧(
ld1 KI ((p1.add 1).add 3) w11 fun x12=>
Ae prog F.Xz [iV x12] w11 true r2' fun r13 w14=>
Au [.pointer r13.1.1] (p10.add 14) 0 w14 fun w15=>
ld1 KI p1 w15 fun x16=>
A8 aU (p1.add 1) 0 w15 fun x17=>
Ae prog F.Ui [iV x16,Sv aU x17] w15 true r2' fun r18 w19=>
Au [.pointer r18.1.1] (p10.add 15) 0 w19 fun w20=>
ld1 KI p1 w20 fun x21=>
Ae prog F.Wp [iV x21] w20 true r2' fun r22 w23=>
Au [.pointer r22.1.1] (p10.add 16) 0 w23 fun w24=>
ld1 KI p1 w24 fun x25=>
Ae prog F.Xq [iV x25] w24 true r2' fun r26 w27=>
Au [.pointer r26.1.1] (p10.add 17) 0 w27 fun w28=>
ld1 KI (p1.add 8) w28 fun x29=>
Ae prog F.Vm [iV x29] w28 true r2' fun r30 w31=>
Au [.pointer r30.1.1] (p10.add 18) 0 w31 fun w32=>
Ae prog F.Jc [iV 8] w32 true r2' fun r33 w34=>
Au [.pointer r33.1.1] (p10.add 27) 0 w34 fun w35=>
R ((some p10,()),(0,()),()) w35)))
theorem Uz.ok{s0 s1 s2 s3 s4 s5 s6 s7 s8 s9:Int}{s10:Bool}{leaps:Option Addr}{w:World}{R:TR r2'→WP}:Uz.wp s0 s1 s2 s3 s4 s5 s6 s7 s8 s9 s10 leaps w R→Ae prog F.Uz [.agg #[iV s0,iV s1,iV s2,iV s3,iV s4,iV s5,iV s6,iV s7,iV s8,iV s9,.bool s10],.pointer leaps] w true r2' R:=
  oks Aa Tryz.func52 (hs 2 (.s (.pl (.tk 0 (.tk 1 (.ef 2 [] (.tk 3 (.ef 4 [] (.tk 5 .z))))))) .n))
def Lj.wp(s0 s1 s2 s3 s4 s5 s6 s7 s8 s9:Int)(s10:Option Addr×Nat×Nat)(i:Int)(w:World)(R:TR r5'→WP):Prop:=
Bf [iV s0,iV s1,iV s2,iV s3,iV s4,iV s5,iV s6,iV s7,iV s8,iV s9,.slice s10.1 s10.2.1 s10.2.2] T.mQ w fun p1 w2=>
Bf Aqn T.jP w2 fun p3 w4=>
ld1 KI (p1.add 5) w4 fun x5=>
dF (if 1>x5 then 1 else x5) (
Cc (fun(J6:((Int)×Unit)→WP)=>
ld1 .sl (p1.add 10) w4 fun x9=>
Aj (decide (i<(x9.2.1:Int))) (
ld1 .sl (p1.add 10) w4 fun x10=>
Ny x10.1 x10.2.1 i fun a11=>
ld1 KI (a11.add (i.toNat*1)) w4 fun x12=>
J6 (x12,()) w4) (
J6 (Int.tmod i (if 1>x5 then 1 else x5),()) w4)) (fun(z7:(Int)×Unit) w8=> ∀_:Nat→Value,
A8 aU (p1.add 1) 0 w8 fun x13=>
ld1 KI (p1.add 5) w8 fun x14=>
ld1 KI (p1.add 6) w8 fun x15=>
ld1 KI (p1.add 7) w8 fun x16=>
ld1 KI (p1.add 8) w8 fun x17=>
ld1 KI (p1.add 9) w8 fun x18=>
Au [iV i,iV x13.1,iV x13.2.1,iV x13.2.2.1,iV x13.2.2.2.1,iV x14,iV x15,iV z7.1,iV x16,iV x17,.bool (i==x18)] p3 0 w8 fun w19=>
A8 k2' p3 0 w19 fun x20=>
R (x20,()) w19))
theorem Lj.ok{s0 s1 s2 s3 s4 s5 s6 s7 s8 s9:Int}{s10:Option Addr×Nat×Nat}{i:Int}{w:World}{R:TR r5'→WP}:Lj.wp s0 s1 s2 s3 s4 s5 s6 s7 s8 s9 s10 i w R→Ae prog F.Lj [.agg #[iV s0,iV s1,iV s2,iV s3,iV s4,iV s5,iV s6,iV s7,iV s8,iV s9,.slice s10.1 s10.2.1 s10.2.2],iV i] w false r5' R:=
  oks Aa Tryz.func53 (hs 2 (.ct [(5,(.i .i64))] .n .n))
def Eu.wp(n:Option Addr)(i:Int)(w:World)(R:TR Arw→WP):Prop:=
Aj (Option.isNone n) (
R ((none,()),()) w) (
Aj (decide (i<0)) (
R ((none,()),()) w) (
Aq n fun a1=>
ld1 .sl (a1.add 12) w fun x2=>
Aj (decide (i≥(x2.2.1:Int))) (
R ((none,()),()) w) (
Aq n fun a3=>
ld1 .sl (a3.add 12) w fun x4=>
Ny x4.1 x4.2.1 i fun a5=>
ld1 .p (a5.add (i.toNat*1)) w fun x6=>
R ((x6,()),()) w)))
theorem Eu.ok{n:Option Addr}{i:Int}{w:World}{R:TR Arw→WP}:Eu.wp n i w R→Ae prog F.Eu [.pointer n,iV i] w false Arw R:=
  oks Aa Tryz.func54 .n
def Cb.wp(n:Option Addr)(w:World)(R:TR r3'→WP):Prop:=
Bf z2' T.nK w fun p1 w2=>
Aj (Option.isNone n) (
Au z2' p1 0 w2 fun w3=>
A8 k1' p1 0 w3 fun x4=>
R (x4,()) w3) (
Aq n fun a5=>
ld1 .b (a5.add 12) w2 fun x6=>
Aj (!x6) (
Aq n fun a7=>
ld1 KU (a7.add 13) w2 fun x8=>
Au [.bool false,uV x8,iV 0,iV 0,.bool false,.bool false,iV 0,iV 0,iV 0,.bool false,iV 0,iV 0] p1 0 w2 fun w9=>
A8 k1' p1 0 w9 fun x10=>
R (x10,()) w9) (
Jg w2 fun w11=>
Aq n fun a12=>
ld1 KU (a12.add 13) w11 fun x13=>
Aq n fun a14=>
ld1 .p (a14.add 14) w11 fun x15=>
Aq n fun a16=>
ld1 .p (a16.add 15) w11 fun x17=>
Aq x17 fun a18=>
ld1 .p a18 w11 fun x19=>
Aq n fun a20=>
ld1 .p (a20.add 15) w11 fun x21=>
Aq x21 fun a22=>
ld1 .p a22 w11 fun x23=>
Aq n fun a24=>
ld1 .p (a24.add 15) w11 fun x25=>
Aq n fun a26=>
ld1 .p (a26.add 15) w11 fun x27=>
Aq n fun a28=>
ld1 .p (a28.add 16) w11 fun x29=>
Aq n fun a30=>
ld1 .p (a30.add 16) w11 fun x31=>
Aq n fun a32=>
ld1 .p (a32.add 17) w11 fun x33=>
Aq n fun a34=>
ld1 .p (a34.add 27) w11 fun x35=>
Aq n fun a36=>
ld1 .p (a36.add 26) w11 fun x37=>
Ae prog F.Ez [.pointer x15] w11 false iT fun r38 w39=>
A7 [hd 58 (a36.add 26) w11,hd 53 (a34.add 27) w11,hd 48 (a32.add 17) w11,hd 43 (a30.add 16) w11,hd 38 (a28.add 16) w11,hd 33 (a26.add 15) w11,hd 28 (a24.add 15) w11,hd 23 a22 w11,hd 20 (a20.add 15) w11,hd 15 a18 w11,hd 12 (a16.add 15) w11,hd 7 (a14.add 14) w11,hd 3 (a12.add 13) w11] w39∧(
Ae prog F.Dc [.pointer x19] w39 false iT fun r40 w41=>
A7 [hd 58 (a36.add 26) w11,hd 53 (a34.add 27) w11,hd 48 (a32.add 17) w11,hd 43 (a30.add 16) w11,hd 38 (a28.add 16) w11,hd 33 (a26.add 15) w11,hd 28 (a24.add 15) w11,hd 23 a22 w11,hd 20 (a20.add 15) w11,hd 15 a18 w11,hd 12 (a16.add 15) w11,hd 7 (a14.add 14) w11,hd 3 (a12.add 13) w11] w41∧(
Ae prog F.Bc [.pointer x23] w41 false r0' fun r42 w43=>
A7 [hd 58 (a36.add 26) w11,hd 53 (a34.add 27) w11,hd 48 (a32.add 17) w11,hd 43 (a30.add 16) w11,hd 38 (a28.add 16) w11,hd 33 (a26.add 15) w11,hd 28 (a24.add 15) w11,hd 23 a22 w11,hd 20 (a20.add 15) w11,hd 15 a18 w11,hd 12 (a16.add 15) w11,hd 7 (a14.add 14) w11,hd 3 (a12.add 13) w11] w43∧(
Ae prog F.Ba [.pointer x25] w43 false r0' fun r44 w45=>
A7 [hd 58 (a36.add 26) w11,hd 53 (a34.add 27) w11,hd 48 (a32.add 17) w11,hd 43 (a30.add 16) w11,hd 38 (a28.add 16) w11,hd 33 (a26.add 15) w11,hd 28 (a24.add 15) w11,hd 23 a22 w11,hd 20 (a20.add 15) w11,hd 15 a18 w11,hd 12 (a16.add 15) w11,hd 7 (a14.add 14) w11,hd 3 (a12.add 13) w11] w45∧(
Ae prog F.Hg [.pointer x27] w45 false iT fun r46 w47=>
A7 [hd 58 (a36.add 26) w11,hd 53 (a34.add 27) w11,hd 48 (a32.add 17) w11,hd 43 (a30.add 16) w11,hd 38 (a28.add 16) w11,hd 33 (a26.add 15) w11,hd 28 (a24.add 15) w11,hd 23 a22 w11,hd 20 (a20.add 15) w11,hd 15 a18 w11,hd 12 (a16.add 15) w11,hd 7 (a14.add 14) w11,hd 3 (a12.add 13) w11] w47∧(
Ae prog F.Ja [.pointer x29] w47 false iT fun r48 w49=>
A7 [hd 58 (a36.add 26) w11,hd 53 (a34.add 27) w11,hd 48 (a32.add 17) w11,hd 43 (a30.add 16) w11,hd 38 (a28.add 16) w11,hd 33 (a26.add 15) w11,hd 28 (a24.add 15) w11,hd 23 a22 w11,hd 20 (a20.add 15) w11,hd 15 a18 w11,hd 12 (a16.add 15) w11,hd 7 (a14.add 14) w11,hd 3 (a12.add 13) w11] w49∧(
Ae prog F.En [.pointer x31] w49 false iT fun r50 w51=>
A7 [hd 58 (a36.add 26) w11,hd 53 (a34.add 27) w11,hd 48 (a32.add 17) w11,hd 43 (a30.add 16) w11,hd 38 (a28.add 16) w11,hd 33 (a26.add 15) w11,hd 28 (a24.add 15) w11,hd 23 a22 w11,hd 20 (a20.add 15) w11,hd 15 a18 w11,hd 12 (a16.add 15) w11,hd 7 (a14.add 14) w11,hd 3 (a12.add 13) w11] w51∧(
Ae prog F.Nv [.pointer x33] w51 false r0' fun r52 w53=>
A7 [hd 58 (a36.add 26) w11,hd 53 (a34.add 27) w11,hd 48 (a32.add 17) w11,hd 43 (a30.add 16) w11,hd 38 (a28.add 16) w11,hd 33 (a26.add 15) w11,hd 28 (a24.add 15) w11,hd 23 a22 w11,hd 20 (a20.add 15) w11,hd 15 a18 w11,hd 12 (a16.add 15) w11,hd 7 (a14.add 14) w11,hd 3 (a12.add 13) w11] w53∧(
Ae prog F.Di [.pointer x35] w53 false iT fun r54 w55=>
A7 [hd 58 (a36.add 26) w11,hd 53 (a34.add 27) w11,hd 48 (a32.add 17) w11,hd 43 (a30.add 16) w11,hd 38 (a28.add 16) w11,hd 33 (a26.add 15) w11,hd 28 (a24.add 15) w11,hd 23 a22 w11,hd 20 (a20.add 15) w11,hd 15 a18 w11,hd 12 (a16.add 15) w11,hd 7 (a14.add 14) w11,hd 3 (a12.add 13) w11] w55∧(
Ae prog F.Qh [.pointer x37] w55 false iT fun r56 w57=>
A7 [hd 53 (a34.add 27) w11,hd 48 (a32.add 17) w11,hd 43 (a30.add 16) w11,hd 38 (a28.add 16) w11,hd 33 (a26.add 15) w11,hd 28 (a24.add 15) w11,hd 23 a22 w11,hd 20 (a20.add 15) w11,hd 15 a18 w11,hd 12 (a16.add 15) w11,hd 7 (a14.add 14) w11,hd 3 (a12.add 13) w11] w57∧(
Au [.bool true,uV x13,iV r38.1.1,iV r40.1.1,.bool r42.1.1,.bool r44.1.1,iV r46.1.1,iV r48.1.1,iV r50.1.1,.bool r52.1.1,iV r54.1.1,iV r56.1.1] p1 0 w57 fun w58=>
A7 [] w58∧(
A8 k1' p1 0 w58 fun x59=>
R (x59,()) w58)))))))))))))
theorem Cb.ok{n:Option Addr}{w:World}{R:TR r3'→WP}:Cb.wp n w R→Ae prog F.Cb [.pointer n] w false r3' R:=
  oks Aa Tryz.func55 (hs 3 (.s (.pl (ks [0,1,2,3,4,5,6,7,9,10,11,12,13,14,15,17,18,19,20,21,22,23,25,26,27,28,30,31,32,33,35,36,37,38,40,41,42,43,45,46,47,48,50,51,52,53,55,56,57,58] (.ef 8 [] (.ef 16 [] (.ef 24 [] (.ef 29 [] (.ef 34 [] (.ef 39 [] (.ef 44 [] (.ef 49 [] (.ef 54 [] (.ef 59 [58] (.tk 60 (.ef 61 [3,7,12,15,20,23,28,33,38,43,48,53] .z)))))))))))))) .n))
def Dn.wp(n:Option Addr)(w:World)(R:TR dB→WP):Prop:=
Bf [uV 0,uV 0] T.Ti w fun p1 w2=>
Ae prog F.Cm [.pointer n] w2 false iT fun r3 w4=>
Aj (r3.1.1 !=0) (
Au [uV 0,uV 0] p1 0 w4 fun w5=>
A8 [KU,KU] p1 0 w5 fun x6=>
R ((x6.1,x6.2.1,()),(false,()),()) w5) (
Aq n fun a7=>
ld1 .p (a7.add 15) w4 fun x8=>
Aq x8 fun a9=>
ld1 .p a9 w4 fun x10=>
Ae prog F.Hl [.pointer x10] w4 true dB fun r11 w12=>
Au [uV r11.1.1,uV r11.1.2.1] p1 0 w12 fun w13=>
A8 [KU,KU] p1 0 w13 fun x14=>
R ((x14.1,x14.2.1,()),(r11.2.1.1,()),()) w13)
theorem Dn.ok{n:Option Addr}{w:World}{R:TR dB→WP}:Dn.wp n w R→Ae prog F.Dn [.pointer n] w true dB R:=
  oks Aa Tryz.func57 .n
def Ht.wp(l:Option Addr)(i k:Int)(on_:Bool)(w:World)(R:TR iT→WP):Prop:=
Aj (Option.isNone l) (
R ((2,()),()) w) (
Ae prog F.Ho [.pointer l,iV i,iV k] w false r0' fun r1 w2=>
Aj (!r1.1.1) (
R ((1,()),()) w2) (
Jg w2 fun w3=>
Aq l fun a4=>
ld1 .sl (a4.add 1) w3 fun x5=>
Ny x5.1 x5.2.1 i fun a6=>
ld1 (.i .u64) (a6.add (i.toNat*1)) w3 fun x7=>
fJ k (
Ny x5.1 x5.2.1 i fun a8=>
Au [.int .u64 (Lm .andNot .u64 x7 (Sz .u64 1 k))] (a8.add (i.toNat*1)) 0 w3 fun w9=>
A7 [] w9∧(
Jg w9 fun w10=>
Aq l fun a11=>
ld1 .sl (a11.add 1) w10 fun x12=>
Ny x12.1 x12.2.1 k fun a13=>
ld1 (.i .u64) (a13.add (k.toNat*1)) w10 fun x14=>
fJ i (
Ny x12.1 x12.2.1 k fun a15=>
Au [.int .u64 (Lm .andNot .u64 x14 (Sz .u64 1 i))] (a15.add (k.toNat*1)) 0 w10 fun w16=>
A7 [] w16∧(
Aj on_ (
Jg w16 fun w17=>
Aq l fun a18=>
ld1 .sl (a18.add 1) w17 fun x19=>
Ny x19.1 x19.2.1 i fun a20=>
ld1 (.i .u64) (a20.add (i.toNat*1)) w17 fun x21=>
fJ k (
Ny x19.1 x19.2.1 i fun a22=>
Au [.int .u64 (Lm .or .u64 x21 (Sz .u64 1 k))] (a22.add (i.toNat*1)) 0 w17 fun w23=>
A7 [] w23∧(
Jg w23 fun w24=>
Aq l fun a25=>
ld1 .sl (a25.add 1) w24 fun x26=>
Ny x26.1 x26.2.1 k fun a27=>
ld1 (.i .u64) (a27.add (k.toNat*1)) w24 fun x28=>
fJ i (
Ny x26.1 x26.2.1 k fun a29=>
Au [.int .u64 (Lm .or .u64 x28 (Sz .u64 1 i))] (a29.add (k.toNat*1)) 0 w24 fun w30=>
A7 [] w30∧(
R ((0,()),()) w30))))) (
R ((0,()),()) w16)))))))
theorem Ht.ok{l:Option Addr}{i k:Int}{on_:Bool}{w:World}{R:TR iT→WP}:Ht.wp l i k on_ w R→Ae prog F.Ht [.pointer l,iV i,iV k,.bool on_] w false iT R:=
  oks Aa Tryz.func58 (hs 2 (.s (.pl (ks [0,1,2,3,4,5,6,7,8,9,10] (.ef 11 [3,6] .z))) (.s (.pl (ks [0,1,2,3,4,5,6,7,8,9,10] (.ef 11 [3,6] .z))) (.s (.s .n (.s (.s (.pl (ks [0,1,2,3,4,5,6,7,8,9,10] (.ef 11 [3,6] .z))) (.pl (ks [0,1,2,3,4,5,6,7,8,9,10] (.ef 11 [3,6] .z)))) .n)) .n))))
def Iz.wp(n:Option Addr)(c0 c1 c2 c3:Option Addr×Nat×Nat)(w:World)(R:TR iT→WP):Prop:=
Bf [.slice c0.1 c0.2.1 c0.2.2,.slice c1.1 c1.2.1 c1.2.2,.slice c2.1 c2.2.1 c2.2.2,.slice c3.1 c3.2.1 c3.2.2] T.V4 w fun p1 w2=>
Aj (Option.isNone n) (
R ((2,()),()) w2) (
Jg w2 fun w3=>
ld1 .sl p1 w3 fun x4=>
Aq n fun a5=>
ld1 .sl (a5.add 12) w3 fun x6=>
Aj ((x4.2.1:Int) !=(x6.2.1:Int)) (
R ((1,()),()) w3) (
ld1 .sl (p1.add 3) w3 fun x7=>
Aq n fun a8=>
ld1 .sl (a8.add 12) w3 fun x9=>
Aj (decide ((x7.2.1:Int)>(x9.2.1:Int))) (
R ((1,()),()) w3) (
ld1 .sl (p1.add 1) w3 fun x10=>
Ae prog F.Ip [.pointer n,.slice x10.1 x10.2.1 x10.2.2] w3 false r0' fun r11 w12=>
A7 [hd 23 (p1.add 1) w3,hd 16 (a8.add 12) w3,hd 11 (p1.add 3) w3,hd 6 (a5.add 12) w3,hd 1 p1 w3] w12∧(
Aj (!r11.1.1) (
R ((1,()),()) w12) (
ld1 .sl (p1.add 2) w12 fun x13=>
Ae prog F.Ip [.pointer n,.slice x13.1 x13.2.1 x13.2.2] w12 false r0' fun r14 w15=>
A7 [hd 23 (p1.add 1) w3,hd 16 (a8.add 12) w3,hd 11 (p1.add 3) w3,hd 6 (a5.add 12) w3,hd 1 p1 w3] w15∧(
Aj (!r14.1.1) (
R ((1,()),()) w15) (
Aq n fun a16=>
ld1 .sl (a16.add 12) w15 fun x17=>
Ci (fun(self18:((Int)×Unit)→WP) (z19:(Int)×Unit) w20=> ∀_:Nat→Value,
Aj (decide (z19.1<(x17.2.1:Int))) (
Ny x17.1 x17.2.1 z19.1 fun a21=>
ld1 .p (a21.add (z19.1.toNat*1)) w20 fun x22=>
ld1 .sl p1 w20 fun x23=>
Ny x23.1 x23.2.1 z19.1 fun a24=>
ld1 KI (a24.add (z19.1.toNat*1)) w20 fun x25=>
Ae prog F.Sm [.pointer x22,iV x25] w20 false r0' fun r26 w27=>
Aj (!r26.1.1) (
R ((1,()),()) w27) (
self18 (wrap .i64 (z19.1+1),()) w27)) (
Aq n fun a28=>
ld1 .sl (a28.add 12) w20 fun x29=>
Ci (fun(self30:((Int)×Unit)→WP) (z31:(Int)×Unit) w32=> ∀_:Nat→Value,
Aj (decide (z31.1<(x29.2.1:Int))) (
Ny x29.1 x29.2.1 z31.1 fun a33=>
ld1 .p (a33.add (z31.1.toNat*1)) w32 fun x34=>
Ae prog F.Cb [.pointer x34] w32 false r3' fun r35 w36=>
Bf z2' T.nK w36 fun p37 w38=>
Au (encs k1' r35.1) p37 0 w38 fun w39=>
Jg w39 fun w40=>
ld1 .b p37 w40 fun x41=>
Aj x41 (
ld1 KI (p37.add 2) w40 fun x42=>
ld1 .sl p1 w40 fun x43=>
Ny x43.1 x43.2.1 z31.1 fun a44=>
ld1 KI (a44.add (z31.1.toNat*1)) w40 fun x45=>
Aj (decide ((wrap .i64 (x42+x45))>1125899906842624)) (
R ((8,()),()) w40) (
self30 (wrap .i64 (z31.1+1),()) w40)) (
self30 (wrap .i64 (z31.1+1),()) w40)) (
R ((0,()),()) w32)) (0,()) w20)) (0,()) w15)))))))
theorem Iz.ok{n:Option Addr}{c0 c1 c2 c3:Option Addr×Nat×Nat}{w:World}{R:TR iT→WP}:Iz.wp n c0 c1 c2 c3 w R→Ae prog F.Iz [.pointer n,.agg #[.slice c0.1 c0.2.1 c0.2.2,.slice c1.1 c1.2.1 c1.2.2,.slice c2.1 c2.2.1 c2.2.2,.slice c3.1 c3.2.1 c3.2.2]] w false iT R:=
  oks Aa Tryz.func59 (hs 2 (.s (.s (.pl (ks [0,1,2,3,4,5,6,7,8,9,10,11,12,13,14,15,16,17,18,19,20,21,22,23] (.ef 24 [] (ks [25,26,27,28,29,30] (.ef 31 [30] (.tk 32 (.tk 33 .z))))))) .n) (.s (.s .n (.lp [(51,(.i .i64))] .n)) (.s (.s .n (.lp [(70,(.i .i64))] (hs 2 (.s (hs 2 (.s (.pl (ks [0,1,2,3,4,5,6,7,8,9,10,11,12] .z)) .n)) .n)))) .n))))
def Lr.wp(n:Option Addr)(ticks:Int)(w:World)(R:TR iT→WP):Prop:=
Ae prog F.Cm [.pointer n] w false iT fun r1 w2=>
Aj (r1.1.1 !=0) (
R ((r1.1.1,()),()) w2) (
Aq n fun a3=>
ld1 .p (a3.add 14) w2 fun x4=>
Ae prog F.Qd [.pointer x4,iV ticks] w2 false iT fun r5 w6=>
R ((r5.1.1,()),()) w6)
theorem Lr.ok{n:Option Addr}{ticks:Int}{w:World}{R:TR iT→WP}:Lr.wp n ticks w R→Ae prog F.Lr [.pointer n,iV ticks] w false iT R:=
  oks Aa Tryz.func60 .n
def Mc.wp(n:Option Addr)(c0 c1 c2 c3:Option Addr×Nat×Nat)(w:World)(R:TR dH→WP):Prop:=
Bf [.slice c0.1 c0.2.1 c0.2.2,.slice c1.1 c1.2.1 c1.2.2,.slice c2.1 c2.2.1 c2.2.2,.slice c3.1 c3.2.1 c3.2.2] T.V4 w fun p1 w2=>
Aq n fun a3=>
ld1 .sl (a3.add 12) w2 fun x4=>
L9 ((Instr.makeSlice T.jU (iV (x4.2.1:Int)) (iV (x4.2.1:Int))).run prog w2) fun y5 w6=>
Aq n fun a7=>
Au [.int .u64 0] (a7.add 14) 0 w6 fun w8=>
Aq n fun a9=>
ld1 .sl (a9.add 12) w8 fun x10=>
Ci (fun(self11:((Int)×Unit)→WP) (z12:(Int)×Unit) w13=> ∀_:Nat→Value,
Aj (decide (z12.1<(x10.2.1:Int))) (
Ny x10.1 x10.2.1 z12.1 fun a14=>
ld1 .p (a14.add (z12.1.toNat*1)) w13 fun x15=>
Jg w13 fun w16=>
Aq n fun a17=>
ld1 KI (a17.add 13) w16 fun x18=>
ld1 .sl (p1.add 1) w16 fun x19=>
Ny x19.1 x19.2.1 z12.1 fun a20=>
ld1 KI (a20.add (z12.1.toNat*1)) w16 fun x21=>
Ae prog F.Hy [.pointer x15,iV x18,iV x21] w16 true xA fun r22 w23=>
A7 [hd 8 (p1.add 1) w16] w23∧(
Ny y5.1 y5.2.1 z12.1 fun a24=>
Au [.slice r22.1.1.1 r22.1.1.2.1 r22.1.1.2.2] (a24.add (z12.1.toNat*1)) 0 w23 fun w25=>
A7 [] w25∧(
Ny y5.1 y5.2.1 z12.1 fun a26=>
ld1 .sl (a26.add (z12.1.toNat*1)) w25 fun x27=>
Aj (decide ((x27.2.1:Int)>0)) (
Jg w25 fun w28=>
Aq n fun a29=>
ld1 (.i .u64) (a29.add 14) w28 fun x30=>
fJ z12.1 (
Aq n fun a31=>
Au [.int .u64 (Lm .or .u64 x30 (Sz .u64 1 z12.1))] (a31.add 14) 0 w28 fun w32=>
A7 [] w32∧(
self11 (wrap .i64 (z12.1+1),()) w32))) (
self11 (wrap .i64 (z12.1+1),()) w25)))) (
R (((y5.1,y5.2.1,y5.2.2),()),()) w13)) (0,()) w8
theorem Mc.ok{n:Option Addr}{c0 c1 c2 c3:Option Addr×Nat×Nat}{w:World}{R:TR dH→WP}:Mc.wp n c0 c1 c2 c3 w R→Ae prog F.Mc [.pointer n,.agg #[.slice c0.1 c0.2.1 c0.2.2,.slice c1.1 c1.2.1 c1.2.2,.slice c2.1 c2.2.1 c2.2.2,.slice c3.1 c3.2.1 c3.2.2]] w false dH R:=
  oks Aa Tryz.func61 (hs 3 (.s (.s .n (.lp [(22,(.i .i64))] (hs 2 (.s (.s .n (.s (.pl (ks [0,1,2,3,4,5,6,7,8,9,10,11] (.ef 12 [6,11] (ks [13,14,15,16] (.ef 17 [8] .z))))) (.s .n (.s (.pl (ks [0,1,2,3,4,5,6,7,8] (.ef 9 [3] .z))) .n)))) .n)))) .n))
def Ov.wp(l:Option Addr)(send awake:Int)(lost:Option Addr×Nat×Nat)(w:World)(R:TR dH→WP):Prop:=
Bf jR T.Adx w fun p1 w2=>
Au [.int .u64 send,.int .u64 awake,.slice lost.1 lost.2.1 lost.2.2] p1 0 w2 fun w3=>
Ae prog F.Fb [.pointer l] w3 false iT fun r4 w5=>
Ci (fun(self6:((Option Addr×Nat×Nat)×(Int)×Unit)→WP) (z7:(Option Addr×Nat×Nat)×(Int)×Unit) w8=> ∀_:Nat→Value,
Aj (decide (z7.2.1<r4.1.1)) (
Jg w8 fun w9=>
A8 Aku p1 0 w9 fun x10=>
Ae prog F.Gx [.pointer l,iV z7.2.1] w9 false aT fun r11 w12=>
A7 [hd 1 (p1.add 0) w9,hd 1 (p1.add 1) w9,hd 1 (p1.add 2) w9] w12∧(
Ae prog F.I4 [Sv Aku x10,iV z7.2.1,.int .u64 (Lm .and .u64 r11.1.1 send)] w12 false Aj7 fun r13 w14=>
A7 [hd 1 (p1.add 0) w9,hd 1 (p1.add 1) w9,hd 1 (p1.add 2) w9] w14∧(
Bf [iV r13.1.1,iV r13.1.2.1] T.P6 w14 fun p15 w16=>
A7 [hd 1 (p1.add 0) w9,hd 1 (p1.add 1) w9,hd 1 (p1.add 2) w9] w16∧(
L9 ((Builtin.append_ #[T.O5,T.O5] T.O5 #[.slice z7.1.1 z7.1.2.1 z7.1.2.2,.slice (some p15) 1 1]).run prog w16) fun y17 w18=>
A7 [hd 1 (p1.add 0) w9,hd 1 (p1.add 1) w9,hd 1 (p1.add 2) w9] w18∧(
self6 ((y17.1,y17.2.1,y17.2.2),wrap .i64 (z7.2.1+1),()) w18))))) (
R (((z7.1.1,z7.1.2.1,z7.1.2.2),()),()) w8)) ((none,0,0),0,()) w5
theorem Ov.ok{l:Option Addr}{send awake:Int}{lost:Option Addr×Nat×Nat}{w:World}{R:TR dH→WP}:Ov.wp l send awake lost w R→Ae prog F.Ov [.pointer l,.int .u64 send,.int .u64 awake,.slice lost.1 lost.2.1 lost.2.2] w false dH R:=
  oks Aa Tryz.func62 (hs 3 (.s (.s .n (.lp [(9,.sl),(18,(.i .i64))] (hs 2 (.s (.s .n (.pl (ks [0,1,2,3,4,6] (.ef 5 [] (.tk 7 (.ef 8 [] (.ef 9 [] (.ef 10 [] (.tk 11 .z))))))))) .n)))) .n))
def Jd.wp(n:Option Addr)(w:World)(R:TR aT→WP):Prop:=
Aq n fun a1=>
ld1 .sl (a1.add 12) w fun x2=>
Ci (fun(self3:((Int)×(Int)×Unit)→WP) (z4:(Int)×(Int)×Unit) w5=> ∀_:Nat→Value,
Aj (decide (z4.2.1<(x2.2.1:Int))) (
Ny x2.1 x2.2.1 z4.2.1 fun a6=>
ld1 .p (a6.add (z4.2.1.toNat*1)) w5 fun x7=>
Ae prog F.Iy [.pointer x7] w5 false r0' fun r8 w9=>
Aj r8.1.1 (
fJ z4.2.1 (
self3 (Lm .or .u64 z4.1 (Sz .u64 1 z4.2.1),wrap .i64 (z4.2.1+1),()) w9)) (
self3 (z4.1,wrap .i64 (z4.2.1+1),()) w9)) (
R ((z4.1,()),()) w5)) (0,0,()) w
theorem Jd.ok{n:Option Addr}{w:World}{R:TR aT→WP}:Jd.wp n w R→Ae prog F.Jd [.pointer n] w false aT R:=
  oks Aa Tryz.func63 (hs 2 (.s (.s .n (.lp [(3,(.i .u64)),(11,(.i .i64))] .n)) .n))
def Ia.wp(n:Option Addr)(jitter:Int)(b:Option Addr×Nat×Nat)(w:World)(R:TR iT→WP):Prop:=
Ae prog F.Iu [.pointer n,iV jitter] w true xB fun r1 w2=>
Aj (r1.2.1.1 !=0) (
R ((r1.2.1.1,()),()) w2) (
Ae prog F.Ru [.slice b.1 b.2.1 b.2.2] w2 true H7 fun r3 w4=>
Jg w4 fun w5=>
Aj (r3.2.1.1 !=0) (
R ((r3.2.1.1,()),()) w5) (
Aq n fun a6=>
ld1 KI a6 w5 fun x7=>
ivK prog r3.1.1 "Sender" [] w5 false iT fun r8 w9=>
A7 [hd 9 a6 w5] w9∧(
Aj (r8.1.1==x7) (
R ((r3.2.1.1,()),()) w9) (
Ae prog F.Gm [.pointer n,r3.1.1,iV r1.1.1] w9 false iT fun r10 w11=>
R ((r10.1.1,()),()) w11))))
theorem Ia.ok{n:Option Addr}{jitter:Int}{b:Option Addr×Nat×Nat}{w:World}{R:TR iT→WP}:Ia.wp n jitter b w R→Ae prog F.Ia [.pointer n,iV jitter,.slice b.1 b.2.1 b.2.2] w false iT R:=
  oks Aa Tryz.func64 (hs 4 (.s (.s (.pl (ks [0,1,2,3,5,6,7,8,9] (.ef 4 [] (.tk 10 (.tk 11 .z))))) .n) .n))
def Ec.wp(n:Option Addr)(i:Int)(w:World)(R:TR iT→WP):Prop:=
Aj (Option.isNone n) (
R ((2,()),()) w) (
Ae prog F.Eu [.pointer n,iV i] w false Arw fun r1 w2=>
Aj (Option.isNone r1.1.1) (
R ((7,()),()) w2) (
R ((0,()),()) w2))
theorem Ec.ok{n:Option Addr}{i:Int}{w:World}{R:TR iT→WP}:Ec.wp n i w R→Ae prog F.Ec [.pointer n,iV i] w false iT R:=
  oks Aa Tryz.func65 .n
def D6.wp(n:Option Addr)(w:World)(R:TR oI→WP):Prop:=
Bf dE T.Bg w fun p1 w2=>
Ae prog F.Cm [.pointer n] w2 false iT fun r3 w4=>
Aj (r3.1.1 !=0) (
Au dE p1 0 w4 fun w5=>
A8 Tu p1 0 w5 fun x6=>
R (x6,(r3.1.1,()),()) w5) (
Jg w4 fun w7=>
Aq n fun a8=>
ld1 .p (a8.add 18) w7 fun x9=>
Aq n fun a10=>
ld1 .p (a10.add 15) w7 fun x11=>
Aq n fun a12=>
ld1 .p (a12.add 14) w7 fun x13=>
Ae prog F.Ez [.pointer x13] w7 false iT fun r14 w15=>
A7 [hd 11 (a12.add 14) w7,hd 7 (a10.add 15) w7,hd 3 (a8.add 18) w7] w15∧(
Ae prog F.Ar [.pointer x9,.pointer x11,iV r14.1.1] w15 true oI fun r16 w17=>
A7 [hd 11 (a12.add 14) w7] w17∧(
Au (encs Tu r16.1) p1 0 w17 fun w18=>
A7 [] w18∧(
A8 Tu p1 0 w18 fun x19=>
R (x19,(r16.2.1.1,()),()) w18))))
theorem D6.ok{n:Option Addr}{w:World}{R:TR oI→WP}:D6.wp n w R→Ae prog F.D6 [.pointer n] w true oI R:=
  oks Aa Tryz.func66 (hs 2 (.s (.pl (ks [0,1,2,3,4,5,6,7,8,9,10,11] (.ef 12 [] (.ef 13 [3,7] (.tk 14 (.tk 15 (.ef 16 [11] (.tk 17 .z)))))))) .n))
def Ji.wp(n:Option Addr)(raw:Int)(w:World)(R:TR iT→WP):Prop:=
Aj (Option.isNone n) (
R ((2,()),()) w) (
Aq n fun a1=>
Au [.bool true] (a1.add 12) 0 w fun w2=>
Aq n fun a3=>
ld1 KU (a3.add 13) w2 fun x4=>
Aq n fun a5=>
Au [uV (wrap .u16 (x4+1))] (a5.add 13) 0 w2 fun w6=>
Aq n fun a7=>
ld1 .p (a7.add 14) w6 fun x8=>
Ae prog F.Nr [.pointer x8,.int .u32 raw] w6 true [] fun r9 w10=>
Jg w10 fun w11=>
Aq n fun a12=>
ld1 .p (a12.add 15) w11 fun x13=>
Aq n fun a14=>
ld1 KU (a14.add 13) w11 fun x15=>
Ae prog F.Lh [.pointer x13,uV x15] w11 true [] fun r16 w17=>
A7 [] w17∧(
Aq n fun a18=>
ld1 .p (a18.add 16) w17 fun x19=>
Ae prog F.Gf [.pointer x19] w17 true [] fun r20 w21=>
Aq n fun a22=>
ld1 .p (a22.add 17) w21 fun x23=>
Ae prog F.Pe [.pointer x23] w21 true [] fun r24 w25=>
Aq n fun a26=>
ld1 .p (a26.add 18) w25 fun x27=>
Ae prog F.Fe [.pointer x27] w25 true [] fun r28 w29=>
Aq n fun a30=>
Ae prog F.Js [.pointer (some (a30.add 19))] w29 true [] fun r31 w32=>
Aq n fun a33=>
ld1 .p (a33.add 26) w32 fun x34=>
Ae prog F.Md [.pointer x34] w32 true [] fun r35 w36=>
Aq n fun a37=>
ld1 .p (a37.add 27) w36 fun x38=>
Ae prog F.Eh [.pointer x38] w36 true [] fun r39 w40=>
R ((0,()),()) w40))
theorem Ji.ok{n:Option Addr}{raw:Int}{w:World}{R:TR iT→WP}:Ji.wp n raw w R→Ae prog F.Ji [.pointer n,.int .u32 raw] w false iT R:=
  oks Aa Tryz.func67 (hs 5 (.s (.pl (ks [0,1,2,3,4,5,6,7] (.ef 8 [3,7] .z))) .n))
def Qg.wp(n:Option Addr)(w:World)(R:TR iT→WP):Prop:=
Ae prog F.Cm [.pointer n] w false iT fun r1 w2=>
Aj (r1.1.1==0) (
Aq n fun a3=>
Au [.bool false] (a3.add 12) 0 w2 fun w4=>
R ((r1.1.1,()),()) w4) (
R ((r1.1.1,()),()) w2)
theorem Qg.ok{n:Option Addr}{w:World}{R:TR iT→WP}:Qg.wp n w R→Ae prog F.Qg [.pointer n] w false iT R:=
  oks Aa Tryz.func68 .n
def Qc.wp(n:Option Addr)(tai:Int)(w:World)(R:TR iT→WP):Prop:=
Ae prog F.Cm [.pointer n] w false iT fun r1 w2=>
Aj (r1.1.1 !=0) (
R ((r1.1.1,()),()) w2) (
Aq n fun a3=>
ld1 .b (a3.add 10) w2 fun x4=>
Aj (!x4) (
R ((7,()),()) w2) (
Ae prog F.D6 [.pointer n] w2 true oI fun r5 w6=>
Bf dE T.Bg w6 fun p7 w8=>
Au (encs Tu r5.1) p7 0 w8 fun w9=>
Aj (r5.2.1.1 !=0) (
R ((r5.2.1.1,()),()) w9) (
Jg w9 fun w10=>
Aq n fun a11=>
Aq n fun a12=>
ld1 KI a12 w10 fun x13=>
A8 Tu p7 0 w10 fun x14=>
(
Ae prog F.Et [.pointer (some (a11.add 19)),iV x13,Sv Tu x14,iV tai] w10 true Aii fun Zb w16=>
A7 [hd 8 (p7.add 0) w10,hd 8 (p7.add 1) w10,hd 8 (p7.add 2) w10,hd 8 (p7.add 3) w10,hd 8 (p7.add 4) w10,hd 7 a12 w10] w16∧(
Bf Aph T.Bh w16 fun p17 w18=>
A7 [hd 8 (p7.add 0) w10,hd 8 (p7.add 1) w10,hd 8 (p7.add 2) w10,hd 8 (p7.add 3) w10,hd 8 (p7.add 4) w10,hd 7 a12 w10] w18∧(
Au (encs U9 Zb.1) p17 0 w18 fun w19=>
A7 [] w19∧(
Aj (Zb.2.1.1 !=0) (
R ((Zb.2.1.1,()),()) w19) (
Ae prog F.Ib [.pointer n] w19 false iT fun r20 w21=>
R ((r20.1.1,()),()) w21)))))∧(
Bf Aph T.Bh w10 fun p22 w23=>
A7 [hd 8 (p7.add 0) w10,hd 8 (p7.add 1) w10,hd 8 (p7.add 2) w10,hd 8 (p7.add 3) w10,hd 8 (p7.add 4) w10,hd 7 a12 w10] w23∧(
Ae prog F.Et [.pointer (some (a11.add 19)),iV x13,Sv Tu x14,iV tai] w23 true Aii fun r24 w25=>
A7 [] w25∧(
Au (encs U9 r24.1) p22 0 w25 fun w26=>
A7 [] w26∧(
Aj (r24.2.1.1 !=0) (
R ((r24.2.1.1,()),()) w26) (
Ae prog F.Ib [.pointer n] w26 false iT fun r27 w28=>
R ((r27.1.1,()),()) w28))))))))
theorem Qc.ok{n:Option Addr}{tai:Int}{w:World}{R:TR iT→WP}:Qc.wp n tai w R→Ae prog F.Qc [.pointer n,iV tai] w false iT R:=
  oks Aa Tryz.func69 (hs 5 (.s (.s (.pl (ks [0,1,2,3,4,5,6,7,8,9] (.two 10 14 (ks [11,12,13] (.ef 14 [] (.ef 15 [7,8] (.tk 16 .z)))) (.ef 10 [7,8] (ks [11,12,13] (.ef 15 [] (.tk 16 .z))))))) .n) .n))
def Ru.wp(b:Option Addr×Nat×Nat)(w:World)(R:TR H7→WP):Prop:=
Aj (decide ((b.2.1:Int)>64)) (
R ((.nilIface,()),(5,()),()) w) (
Ae prog F.Xu [.slice b.1 b.2.1 b.2.2] w false Arw fun r1 w2=>
Ae prog F.Nj [.pointer r1.1.1,iV 1] w2 true Zz fun r3 w4=>
Ae prog F.Sr [.int .u64 r3.1.1] w4 false fC fun r5 w6=>
nlK r5.1.1 fun b7=>
Aj b7 (
R ((.nilIface,()),(3,()),()) w6) (
Ae prog F.Qo [r5.1.1] w6 false iT fun r8 w9=>
Aj ((b.2.1:Int) !=(wrap .i64 (r8.1.1+3))) (
R ((.nilIface,()),(3,()),()) w9) (
Ae prog F.Xy [.slice b.1 b.2.1 b.2.2] w9 true bF fun r10 w11=>
Aj (!r10.2.1.1) (
R ((.nilIface,()),(4,()),()) w11) (
ivK prog r5.1.1 "angelus/frame.fields" [] w11 false dH fun r12 w13=>
Ci (fun(self14:((Option Addr×Nat×Nat)×(Int)×Unit)→WP) (z15:(Option Addr×Nat×Nat)×(Int)×Unit) w16=> ∀_:Nat→Value,
Aj (decide (z15.2.1<(r12.1.1.2.1:Int))) (
Ny r12.1.1.1 r12.1.1.2.1 z15.2.1 fun a17=>
A8 Aab (a17.add (z15.2.1.toNat*3)) 0 w16 fun x18=>
Bf Ao4 T.Dl w16 fun p19 w20=>
Au (encs Aab x18) p19 0 w20 fun w21=>
ld1 KI p19 w21 fun x22=>
Ae prog F.Nj [.pointer r1.1.1,iV x22] w21 true Zz fun r23 w24=>
Bf [.int .u64 r23.1.1] T.uint64 w24 fun p25 w26=>
L9 ((Builtin.append_ #[T.Ux,T.Ux] T.Ux #[.slice z15.1.1 z15.1.2.1 z15.1.2.2,.slice (some p25) 1 1]).run prog w26) fun y27 w28=>
self14 ((y27.1,y27.2.1,y27.2.2),wrap .i64 (z15.2.1+1),()) w28) (
Ae prog F.Qn [r5.1.1,.slice z15.1.1 z15.1.2.1 z15.1.2.2] w16 false fC fun r29 w30=>
Ae prog F.Ew [r29.1.1] w30 false r0' fun r31 w32=>
Aj (!r31.1.1) (
R ((.nilIface,()),(3,()),()) w32) (
R ((r29.1.1,()),(0,()),()) w32))) ((none,0,0),0,()) w13))))
theorem Ru.ok{b:Option Addr×Nat×Nat}{w:World}{R:TR H7→WP}:Ru.wp b w R→Ae prog F.Ru [.slice b.1 b.2.1 b.2.2] w true H7 R:=
  oks Aa Tryz.func70 (hs 8 (.s (.s .n (.lp [(10,.sl),(47,(.i .i64))] .n)) .n))
def Qj.wp(n:Option Addr)(label:ByteArray)(w:World)(R:TR xB→WP):Prop:=
Ae prog F.D6 [.pointer n] w true oI fun r1 w2=>
Bf dE T.Bg w2 fun p3 w4=>
Au (encs Tu r1.1) p3 0 w4 fun w5=>
Aj (r1.2.1.1 !=0) (
R ((0,()),(r1.2.1.1,()),()) w5) (
Jg w5 fun w6=>
Aq n fun a7=>
ld1 .p (a7.add 26) w6 fun x8=>
Aq n fun a9=>
ld1 .p (a9.add 14) w6 fun x10=>
A8 Tu p3 0 w6 fun x11=>
Ae prog F.Ez [.pointer x10] w6 false iT fun r12 w13=>
A7 [hd 10 (p3.add 0) w6,hd 10 (p3.add 1) w6,hd 10 (p3.add 2) w6,hd 10 (p3.add 3) w6,hd 10 (p3.add 4) w6,hd 8 (a9.add 14) w6,hd 3 (a7.add 26) w6] w13∧(
Ae prog F.Qk [.pointer x8,.string label,iV r12.1.1,Sv Tu x11] w13 true xB fun r14 w15=>
A7 [hd 8 (a9.add 14) w6] w15∧(
R ((r14.1.1,()),(r14.2.1.1,()),()) w15)))
theorem Qj.ok{n:Option Addr}{label:ByteArray}{w:World}{R:TR xB→WP}:Qj.wp n label w R→Ae prog F.Qj [.pointer n,.string label] w true xB R:=
  oks Aa Tryz.func72 (hs 3 (.s (.pl (ks [0,1,2,3,4,5,6,7,8,10] (.ef 9 [] (.ef 11 [3,10] (ks [12,13,14,15] .z))))) .n))
def Oq.wp(n:Option Addr)(w:World)(R:TR Us→WP):Prop:=
Bf z7' T.U1 w fun p1 w2=>
Ae prog F.Cm [.pointer n] w2 false iT fun r3 w4=>
Aj (r3.1.1 !=0) (
Au z7' p1 0 w4 fun w5=>
A8 Ig p1 0 w5 fun x6=>
R (x6,(false,()),()) w5) (
Aq n fun a7=>
ld1 .p (a7.add 26) w4 fun x8=>
Ae prog F.Ou [.pointer x8] w4 true Us fun r9 w10=>
Au (encs Ig r9.1) p1 0 w10 fun w11=>
A8 Ig p1 0 w11 fun x12=>
R (x12,(r9.2.1.1,()),()) w11)
theorem Oq.ok{n:Option Addr}{w:World}{R:TR Us→WP}:Oq.wp n w R→Ae prog F.Oq [.pointer n] w true Us R:=
  oks Aa Tryz.func73 .n
def Vq.wp(me timeout ignore need Aw:Int)(w:World)(R:TR r0'→WP):Prop:=
Ae prog F.Ve [iV me,iV timeout,iV ignore] w false r0' fun r1 w2=>
Aj r1.1.1 (
Aj (decide (need≥1)) (
Aj (decide (need≤8)) (
Aj (decide (Aw≥0)) (
R ((decide (Aw≤10),()),()) w2) (
R ((false,()),()) w2)) (
R ((false,()),()) w2)) (
R ((false,()),()) w2)) (
R ((false,()),()) w2)
theorem Vq.ok{me timeout ignore need Aw:Int}{w:World}{R:TR r0'→WP}:Vq.wp me timeout ignore need Aw w R→Ae prog F.Vq [iV me,iV timeout,iV ignore,iV need,iV Aw] w false r0' R:=
  oks Aa Tryz.func93 .n
def U3.wp(p0 p1 p2:Int)(w:World)(R:TR r0'→WP):Prop:=
Bf [iV p0,iV p1,iV p2] T.rU w fun p3 w4=>
ld1 KI p3 w4 fun x5=>
Aj (decide (x5≥1)) (
ld1 KI p3 w4 fun x6=>
Aj (decide (x6≤64)) (
ld1 KI (p3.add 1) w4 fun x7=>
Aj (decide (x7≥1)) (
ld1 KI (p3.add 1) w4 fun x8=>
ld1 KI p3 w4 fun x9=>
Aj (decide (x8≤x9)) (
ld1 KI (p3.add 2) w4 fun x10=>
Aj (decide (x10≥0)) (
ld1 KI (p3.add 2) w4 fun x11=>
ld1 KI p3 w4 fun x12=>
R ((decide (x11<x12),()),()) w4) (
R ((false,()),()) w4)) (
R ((false,()),()) w4)) (
R ((false,()),()) w4)) (
R ((false,()),()) w4)) (
R ((false,()),()) w4)
theorem U3.ok{p0 p1 p2:Int}{w:World}{R:TR r0'→WP}:U3.wp p0 p1 p2 w R→Ae prog F.U3 [.agg #[iV p0,iV p1,iV p2]] w false r0' R:=
  oks Aa Tryz.func94 .n
def Jy.wp(s0 s1 s2 s3 s4 s5 s6 s7 s8 s9:Int)(s10:Bool)(w:World)(R:TR Ajw→WP):Prop:=
Bf [iV s0,iV s1,iV s2,iV s3,iV s4,iV s5,iV s6,iV s7,iV s8,iV s9,.bool s10] T.Xj w fun p1 w2=>
Bf Ao4 T.rU w2 fun p3 w4=>
ld1 KI (p1.add 5) w4 fun x5=>
ld1 KI (p1.add 6) w4 fun x6=>
ld1 KI (p1.add 7) w4 fun x7=>
Au [iV x5,iV x6,iV x7] p3 0 w4 fun w8=>
A8 Aab p3 0 w8 fun x9=>
R (x9,()) w8
theorem Jy.ok{s0 s1 s2 s3 s4 s5 s6 s7 s8 s9:Int}{s10:Bool}{w:World}{R:TR Ajw→WP}:Jy.wp s0 s1 s2 s3 s4 s5 s6 s7 s8 s9 s10 w R→Ae prog F.Jy [.agg #[iV s0,iV s1,iV s2,iV s3,iV s4,iV s5,iV s6,iV s7,iV s8,iV s9,.bool s10]] w false Ajw R:=
  oks Aa Tryz.func95 .n
def Nq.wp(s0 s1 s2 s3 s4 s5 s6 s7 s8 s9:Int)(s10:Bool)(w:World)(R:TR r0'→WP):Prop:=
Bf [iV s0,iV s1,iV s2,iV s3,iV s4,iV s5,iV s6,iV s7,iV s8,iV s9,.bool s10] T.jP w fun p1 w2=>
ld1 KI p1 w2 fun x3=>
Aj (decide (x3≥0)) (
ld1 KI p1 w2 fun x4=>
Aj (decide (x4<64)) (
A8 aU (p1.add 1) 0 w2 fun x5=>
Ae prog F.Hu [Sv aU x5] w2 false r0' fun r6 w7=>
Aj r6.1.1 (
A8 Aab (p1.add 5) 0 w7 fun x8=>
Ae prog F.Ie [Sv Aab x8] w7 false r0' fun r9 w10=>
Aj r9.1.1 (
ld1 KI (p1.add 8) w10 fun x11=>
Aj (decide (x11≥1)) (
ld1 KI (p1.add 8) w10 fun x12=>
ld1 KI (p1.add 1) w10 fun x13=>
Aj (decide (x12≤x13)) (
ld1 KI (p1.add 9) w10 fun x14=>
Aj (decide (x14≥0)) (
ld1 KI (p1.add 9) w10 fun x15=>
R ((decide (x15≤20),()),()) w10) (
R ((false,()),()) w10)) (
R ((false,()),()) w10)) (
R ((false,()),()) w10)) (
R ((false,()),()) w10)) (
R ((false,()),()) w7)) (
R ((false,()),()) w2)) (
R ((false,()),()) w2)
theorem Nq.ok{s0 s1 s2 s3 s4 s5 s6 s7 s8 s9:Int}{s10:Bool}{w:World}{R:TR r0'→WP}:Nq.wp s0 s1 s2 s3 s4 s5 s6 s7 s8 s9 s10 w R→Ae prog F.Nq [.agg #[iV s0,iV s1,iV s2,iV s3,iV s4,iV s5,iV s6,iV s7,iV s8,iV s9,.bool s10]] w false r0' R:=
  oks Aa Tryz.func96 .n
def Wl.wp(w:World)(R:TR Arw→WP):Prop:=
Ae prog F.Gt [iV 16] w true r2' fun r1 w2=>
Bf [.pointer r1.1.1,iV 0] T.Aef w2 fun p3 w4=>
R ((some p3,()),()) w4
theorem Wl.ok{w:World}{R:TR Arw→WP}:Wl.wp w R→Ae prog F.Wl [] w false Arw R:=
  oks Aa Tryz.func97 .n
def Xz.wp(Aw:Int)(w:World)(R:TR r2'→WP):Prop:=
Aj (decide (Aw<0)) (
R ((none,()),(1,()),()) w) (
Aj (decide (Aw>10)) (
R ((none,()),(1,()),()) w) (
Bf [iV Aw,.int .u32 0,iV 0] T.Acm w fun p1 w2=>
R ((some p1,()),(0,()),()) w2))
theorem Xz.ok{Aw:Int}{w:World}{R:TR r2'→WP}:Xz.wp Aw w R→Ae prog F.Xz [iV Aw] w true r2' R:=
  oks Aa Tryz.func98 .n
def Ui.wp(me r0 r1 r2 r3:Int)(w:World)(R:TR r2'→WP):Prop:=
Bf [iV r0,iV r1,iV r2,iV r3] T.fQ w fun p1 w2=>
A8 aU p1 0 w2 fun x3=>
Ae prog F.Hu [Sv aU x3] w2 false r0' fun r4 w5=>
Aj (!r4.1.1) (
R ((none,()),(1,()),()) w5) (
A8 [KI,KI] p1 0 w5 fun x6=>
Ae prog F.Wv [iV me,.agg #[iV x6.1,iV x6.2.1]] w5 true r2' fun r7 w8=>
Aj (r7.2.1.1 !=0) (
R ((none,()),(r7.2.1.1,()),()) w8) (
A8 aU p1 0 w8 fun x9=>
Bf [.pointer r7.1.1,iV me,iV x9.1,iV x9.2.1,iV x9.2.2.1,iV x9.2.2.2.1,.slice none 0 0,iV 0,iV 0,iV 0] T.Aaa w8 fun p10 w11=>
R ((some p10,()),(0,()),()) w11))
theorem Ui.ok{me r0 r1 r2 r3:Int}{w:World}{R:TR r2'→WP}:Ui.wp me r0 r1 r2 r3 w R→Ae prog F.Ui [iV me,.agg #[iV r0,iV r1,iV r2,iV r3]] w true r2' R:=
  oks Aa Tryz.func99 .n
def Wp.wp(me:Int)(w:World)(R:TR r2'→WP):Prop:=
Aj (decide (me<0)) (
R ((none,()),(1,()),()) w) (
Aj (decide (me≥64)) (
R ((none,()),(1,()),()) w) (
Bf [iV me,iV (Int.negSucc 0),iV (Int.negSucc 0)] T.Aao w fun p1 w2=>
R ((some p1,()),(0,()),()) w2))
theorem Wp.ok{me:Int}{w:World}{R:TR r2'→WP}:Wp.wp me w R→Ae prog F.Wp [iV me] w true r2' R:=
  oks Aa Tryz.func100 .n
def Xq.wp(me:Int)(w:World)(R:TR r2'→WP):Prop:=
Aj (decide (me<0)) (
R ((none,()),(1,()),()) w) (
Aj (decide (me≥64)) (
R ((none,()),(1,()),()) w) (
Bf [iV me,iV 0,iV 0,.bool false,iV 0,iV 0,iV 0] T.Ad3 w fun p1 w2=>
R ((some p1,()),(0,()),()) w2))
theorem Xq.ok{me:Int}{w:World}{R:TR r2'→WP}:Xq.wp me w R→Ae prog F.Xq [iV me] w true r2' R:=
  oks Aa Tryz.func101 .n
def Vm.wp(limit:Int)(w:World)(R:TR r2'→WP):Prop:=
Aj (decide (limit<1)) (
R ((none,()),(1,()),()) w) (
Aj (decide (limit>1000)) (
R ((none,()),(1,()),()) w) (
Bf [iV limit,iV 0,iV 0,iV 0,iV 0,uV 0,iV 0,.bool false] T.uJ w fun p1 w2=>
R ((some p1,()),(0,()),()) w2))
theorem Vm.ok{limit:Int}{w:World}{R:TR r2'→WP}:Vm.wp limit w R→Ae prog F.Vm [iV limit] w true r2' R:=
  oks Aa Tryz.func102 .n
def Jc.wp(room:Int)(w:World)(R:TR r2'→WP):Prop:=
Aj (decide (room<1)) (
R ((none,()),(1,()),()) w) (
Aj (decide (room>64)) (
R ((none,()),(1,()),()) w) (
L9 ((Instr.makeSlice T.Zh (iV room) (iV room)).run prog w) fun y1 w2=>
Bf [.slice y1.1 y1.2.1 y1.2.2,iV 0,iV 0] T.jJ w2 fun p3 w4=>
R ((some p3,()),(0,()),()) w4))
theorem Jc.ok{room:Int}{w:World}{R:TR r2'→WP}:Jc.wp room w R→Ae prog F.Jc [iV room] w true r2' R:=
  oks Aa Tryz.func103 .n
def Ez.wp(c:Option Addr)(w:World)(R:TR iT→WP):Prop:=
Aj (Option.isNone c) (
R ((0,()),()) w) (
Aq c fun a1=>
ld1 KI (a1.add 2) w fun x2=>
R ((x2,()),()) w)
theorem Ez.ok{c:Option Addr}{w:World}{R:TR iT→WP}:Ez.wp c w R→Ae prog F.Ez [.pointer c] w false iT R:=
  oks Aa Tryz.func104 .n
def Dc.wp(e:Option Addr)(w:World)(R:TR iT→WP):Prop:=
Aj (Option.isNone e) (
R (((Int.negSucc 0),()),()) w) (
Aq e fun a1=>
ld1 KI (a1.add 5) w fun x2=>
R ((x2,()),()) w)
theorem Dc.ok{e:Option Addr}{w:World}{R:TR iT→WP}:Dc.wp e w R→Ae prog F.Dc [.pointer e] w false iT R:=
  oks Aa Tryz.func105 .n
def Bc.wp(e:Option Addr)(w:World)(R:TR r0'→WP):Prop:=
Jg w fun w1=>
Aj (!(Option.isNone e)) (
Aq e fun a2=>
ld1 KI (a2.add 5) w1 fun x3=>
Aq e fun a4=>
ld1 KI a4 w1 fun x5=>
R (((x3==x5),()),()) w1) (
R ((false,()),()) w1)
theorem Bc.ok{e:Option Addr}{w:World}{R:TR r0'→WP}:Bc.wp e w R→Ae prog F.Bc [.pointer e] w false r0' R:=
  oks Aa Tryz.func106 (.s .n (.s (.pl (ks [0,1,2,3,4,5,6,7,8,9,10,11,12,13] .z)) .n))
def Ba.wp(f:Option Addr)(w:World)(R:TR r0'→WP):Prop:=
Jg w fun w1=>
Aj (!(Option.isNone f)) (
Aq f fun a2=>
ld1 .p a2 w1 fun x3=>
Ae prog F.Bc [.pointer x3] w1 false r0' fun r4 w5=>
A7 [hd 6 a2 w1] w5∧(
Aj r4.1.1 (
R ((true,()),()) w5) (
Aq f fun a6=>
Aq f fun a7=>
ld1 KI ((a7.add 2).add 2) w5 fun x8=>
Ae prog F.Dk [.pointer (some (a6.add 6))] w5 false iT fun r9 w10=>
A7 [hd 17 ((a7.add 2).add 2) w5,hd 6 a2 w1] w10∧(
R ((decide (r9.1.1≥x8),()),()) w10)))) (
R ((false,()),()) w1)
theorem Ba.ok{f:Option Addr}{w:World}{R:TR r0'→WP}:Ba.wp f w R→Ae prog F.Ba [.pointer f] w false r0' R:=
  oks Aa Tryz.func107 (.s .n (.s (.pl (ks [0,1,2,3,4,5,6] (.ef 7 [] (ks [8,9,10,11,13,14,15,16,17] (.ef 12 [] (ks [18,19,20,21] .z)))))) .n))
def Hg.wp(f:Option Addr)(w:World)(R:TR iT→WP):Prop:=
Aj (Option.isNone f) (
R ((0,()),()) w) (
Aq f fun a1=>
Ae prog F.Dk [.pointer (some (a1.add 6))] w false iT fun r2 w3=>
R ((r2.1.1,()),()) w3)
theorem Hg.ok{f:Option Addr}{w:World}{R:TR iT→WP}:Hg.wp f w R→Ae prog F.Hg [.pointer f] w false iT R:=
  oks Aa Tryz.func108 .n
def Ja.wp(l:Option Addr)(w:World)(R:TR iT→WP):Prop:=
Aj (Option.isNone l) (
R (((Int.negSucc 0),()),()) w) (
Aq l fun a1=>
ld1 KI (a1.add 1) w fun x2=>
R ((x2,()),()) w)
theorem Ja.ok{l:Option Addr}{w:World}{R:TR iT→WP}:Ja.wp l w R→Ae prog F.Ja [.pointer l] w false iT R:=
  oks Aa Tryz.func109 .n
def En.wp(l:Option Addr)(w:World)(R:TR iT→WP):Prop:=
Aj (Option.isNone l) (
R (((Int.negSucc 0),()),()) w) (
Aq l fun a1=>
ld1 KI (a1.add 2) w fun x2=>
R ((x2,()),()) w)
theorem En.ok{l:Option Addr}{w:World}{R:TR iT→WP}:En.wp l w R→Ae prog F.En [.pointer l] w false iT R:=
  oks Aa Tryz.func110 .n
def Nv.wp(p:Option Addr)(w:World)(R:TR r0'→WP):Prop:=
Aj (!(Option.isNone p)) (
Aq p fun a1=>
ld1 .b (a1.add 3) w fun x2=>
R ((x2,()),()) w) (
R ((false,()),()) w)
theorem Nv.ok{p:Option Addr}{w:World}{R:TR r0'→WP}:Nv.wp p w R→Ae prog F.Nv [.pointer p] w false r0' R:=
  oks Aa Tryz.func111 .n
def Di.wp(r:Option Addr)(w:World)(R:TR iT→WP):Prop:=
Aj (Option.isNone r) (
R ((0,()),()) w) (
Aq r fun a1=>
ld1 KI (a1.add 2) w fun x2=>
R ((x2,()),()) w)
theorem Di.ok{r:Option Addr}{w:World}{R:TR iT→WP}:Di.wp r w R→Ae prog F.Di [.pointer r] w false iT R:=
  oks Aa Tryz.func112 .n
def Qh.wp(l:Option Addr)(w:World)(R:TR iT→WP):Prop:=
Aj (Option.isNone l) (
R ((0,()),()) w) (
Aq l fun a1=>
ld1 .p a1 w fun x2=>
Ae prog F.Dj [.pointer x2] w false iT fun r3 w4=>
R ((r3.1.1,()),()) w4)
theorem Qh.ok{l:Option Addr}{w:World}{R:TR iT→WP}:Qh.wp l w R→Ae prog F.Qh [.pointer l] w false iT R:=
  oks Aa Tryz.func113 .n
end Go.Proofs.YticgocmhmffneaaGreatDoor
