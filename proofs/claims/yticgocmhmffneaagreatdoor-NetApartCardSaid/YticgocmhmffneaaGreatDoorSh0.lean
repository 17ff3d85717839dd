import Derived.Test.YticgocmhmffneaaGreatDoorNm
namespace Go.Proofs.YticgocmhmffneaaGreatDoor
open Go.Eng Tryz
open Go.IntKind (wrap)
set_option linter.unusedSimpArgs false
set_option linter.unusedVariables false
set_option maxRecDepth 100000
def law27_NetApart.wp(s0 s1 s2 s3 s4 s5 s6 s7 s8 s9:Int)(s10 script others:Option Addr×Nat×Nat)(w:World)(R:TR r0'→WP):Prop:=
Bf [iV s0,iV s1,iV s2,iV s3,iV s4,iV s5,iV s6,iV s7,iV s8,iV s9,.slice s10.1 s10.2.1 s10.2.2] T.J8 w fun p1 w2=>
Ae prog F.law27_alive [] w2 false r0' fun r3 w4=>
Aj (!r3.1.1) (
R ((false,()),()) w4) (
Aj (decide ((script.2.1:Int)>100)) (
R ((true,()),()) w4) (
Aj (decide ((others.2.1:Int)>100)) (
R ((true,()),()) w4) (
ld1 .sl (p1.add 10) w4 fun x5=>
Aj (decide ((x5.2.1:Int)>100)) (
R ((true,()),()) w4) (
Au [iV 4] p1 0 w4 fun w6=>
A8 k0' p1 0 w6 fun x7=>
Ae prog F.Ff [Sv k0' x7] w6 false r0' fun r8 w9=>
Aj (!r8.1.1) (
R ((true,()),()) w9) (
A8 k0' p1 0 w9 fun x10=>
Ae prog F.law27_setup [Sv k0' x10] w9 false r1' fun r11 w12=>
Ae prog F.Io [Sv k0' r11.1,.pointer none] w12 true r2' fun r13 w14=>
A8 k0' p1 0 w14 fun x15=>
Ae prog F.law27_setup [Sv k0' x15] w14 false r1' fun r16 w17=>
Ae prog F.Io [Sv k0' r16.1,.pointer none] w17 true r2' fun r18 w19=>
Aj (r13.2.1.1 !=0) (
R ((false,()),()) w19) (
Aj (r18.2.1.1 !=0) (
R ((false,()),()) w19) (
Ci (fun(self20:((Int)×Unit)→WP) (z21:(Int)×Unit) w22=> ∀_:Nat→Value,
Aj (decide (z21.1<2)) (
aiP [r13.1.1,r18.1.1] 2 z21.1 fun c23=>
Ae prog F.Cf [.pointer c23,iV 0,iV 1,.bool true] w22 false iT fun r24 w25=>
Ae prog F.Cf [.pointer c23,iV 2,iV 3,.bool true] w25 false iT fun r26 w27=>
Ci (fun(self28:((Int)×Unit)→WP) (z29:(Int)×Unit) w30=> ∀_:Nat→Value,
Aj (decide (z29.1<4)) (
Ae prog F.D7 [.pointer c23,iV z29.1,.int .u32 (wrap .u32 (wrap .i64 (1000*z29.1)))] w30 false iT fun r31 w32=>
self28 (wrap .i64 (z29.1+1),()) w32) (
self20 (wrap .i64 (z21.1+1),()) w30)) (0,()) w27) (
Ci (fun(self33:((Int)×Unit)→WP) (z34:(Int)×Unit) w35=> ∀_:Nat→Value,
Aj (decide (z34.1<(script.2.1:Int))) (
Ny script.1 script.2.1 z34.1 fun a36=>
A8 uU (a36.add (z34.1.toNat*11)) 0 w35 fun x37=>
Bf z0' T.law27_Act w35 fun p38 w39=>
Au (encs uU x37) p38 0 w39 fun w40=>
A8 uU p38 0 w40 fun x41=>
Ae prog F.law27_great [Sv uU x41] w40 false r0' fun r42 w43=>
Aj r42.1.1 (
R ((true,()),()) w43) (
Cc (fun(J44:Unit→WP)=>
Cc (fun(J47:((Bool)×Unit)→WP)=>
Aj (decide (z34.1<(others.2.1:Int))) (
Ny others.1 others.2.1 z34.1 fun a50=>
ld1 KI ((a50.add (z34.1.toNat*11)).add 1) w43 fun x51=>
Aj (x51==2) (
J47 (true,()) w43) (
Ny others.1 others.2.1 z34.1 fun a52=>
ld1 KI ((a52.add (z34.1.toNat*11)).add 1) w43 fun x53=>
J47 ((x53==3),()) w43)) (
J47 (false,()) w43)) (fun(z48:(Bool)×Unit) w49=> ∀_:Nat→Value,
Aj z48.1 (
Ny others.1 others.2.1 z34.1 fun a54=>
A8 uU (a54.add (z34.1.toNat*11)) 0 w49 fun x55=>
Bf z0' T.law27_Act w49 fun p56 w57=>
Au (encs uU x55) p56 0 w57 fun w58=>
A8 uU p56 0 w58 fun x59=>
Ae prog F.law27_great [Sv uU x59] w58 false r0' fun r60 w61=>
Aj r60.1.1 (
R ((true,()),()) w61) (
ld1 KI p56 w61 fun x62=>
Aj (x62==1) (
ld1 KI (p56.add 1) w61 fun x63=>
ld1 (.i .u32) (p56.add 4) w61 fun x64=>
Ae prog F.D7 [.pointer r18.1.1,iV x63,.int .u32 x64] w61 false iT fun r65 w66=>
J44 (()) w66) (
Aj (x62==2) (
ld1 KI (p56.add 1) w61 fun x67=>
Ae prog F.Gy [.pointer r18.1.1,iV x67] w61 false iT fun r68 w69=>
J44 (()) w69) (
Aj (x62==9) (
ld1 KI (p56.add 1) w61 fun x70=>
ld1 KI (p56.add 2) w61 fun x71=>
Ae prog F.Gz [.pointer r18.1.1,iV x70,iV x71] w61 false iT fun r72 w73=>
J44 (()) w73) (
Aj (x62==10) (
ld1 KI (p56.add 1) w61 fun x74=>
ld1 .sl (p56.add 6) w61 fun x75=>
Ae prog F.Eg [.pointer r18.1.1,iV x74,.slice x75.1 x75.2.1 x75.2.2] w61 false iT fun r76 w77=>
J44 (()) w77) (
J44 (()) w61)))))) (
J44 (()) w49))) (fun(z45:Unit) w46=> ∀_:Nat→Value,
Cc (fun(J78:Unit→WP)=>
Cc (fun(J81:((Bool)×Unit)→WP)=>
ld1 KI p38 w46 fun x84=>
Aj (decide (x84≥3)) (
ld1 KI p38 w46 fun x85=>
J81 (decide (x85≤6),()) w46) (
J81 (false,()) w46)) (fun(z82:(Bool)×Unit) w83=> ∀_:Nat→Value,
Aj z82.1 (
Cc (fun(J86:((Addr)×(Addr)×Unit)→WP)=>
Jg w83 fun w89=>
A8 xP (p38.add 7) 0 w89 fun x90=>
A8 xP (p38.add 7) 0 w89 fun x91=>
(
Ae prog F.law27_choice [Sv xP x90] w89 false Zw fun r92 w93=>
A7 [hd 4 ((p38.add 7).add 0) w89,hd 4 ((p38.add 7).add 1) w89,hd 4 ((p38.add 7).add 2) w89,hd 4 ((p38.add 7).add 3) w89,hd 1 ((p38.add 7).add 0) w89,hd 1 ((p38.add 7).add 1) w89,hd 1 ((p38.add 7).add 2) w89,hd 1 ((p38.add 7).add 3) w89] w93∧(
(
Ae prog F.law27_choice [Sv xP x91] w93 false Zw fun r94 w95=>
A7 [hd 4 ((p38.add 7).add 0) w89,hd 4 ((p38.add 7).add 1) w89,hd 4 ((p38.add 7).add 2) w89,hd 4 ((p38.add 7).add 3) w89,hd 1 ((p38.add 7).add 0) w89,hd 1 ((p38.add 7).add 1) w89,hd 1 ((p38.add 7).add 2) w89,hd 1 ((p38.add 7).add 3) w89] w95∧(
(
Bf z7' T.V4 w95 fun p96 w97=>
A7 [hd 4 ((p38.add 7).add 0) w89,hd 4 ((p38.add 7).add 1) w89,hd 4 ((p38.add 7).add 2) w89,hd 4 ((p38.add 7).add 3) w89,hd 1 ((p38.add 7).add 0) w89,hd 1 ((p38.add 7).add 1) w89,hd 1 ((p38.add 7).add 2) w89,hd 1 ((p38.add 7).add 3) w89] w97∧(
Bf z7' T.V4 w97 fun p98 w99=>
A7 [hd 4 ((p38.add 7).add 0) w89,hd 4 ((p38.add 7).add 1) w89,hd 4 ((p38.add 7).add 2) w89,hd 4 ((p38.add 7).add 3) w89,hd 1 ((p38.add 7).add 0) w89,hd 1 ((p38.add 7).add 1) w89,hd 1 ((p38.add 7).add 2) w89,hd 1 ((p38.add 7).add 3) w89] w99∧(
Au (encs xP r92.1) p96 0 w99 fun w100=>
A7 [hd 4 ((p38.add 7).add 0) w89,hd 4 ((p38.add 7).add 1) w89,hd 4 ((p38.add 7).add 2) w89,hd 4 ((p38.add 7).add 3) w89] w100∧(
Au (encs xP r94.1) p98 0 w100 fun w101=>
A7 [] w101∧(
J86 (p96,p98,()) w101)))))∧(
Bf z7' T.V4 w95 fun p102 w103=>
A7 [hd 4 ((p38.add 7).add 0) w89,hd 4 ((p38.add 7).add 1) w89,hd 4 ((p38.add 7).add 2) w89,hd 4 ((p38.add 7).add 3) w89,hd 1 ((p38.add 7).add 0) w89,hd 1 ((p38.add 7).add 1) w89,hd 1 ((p38.add 7).add 2) w89,hd 1 ((p38.add 7).add 3) w89] w103∧(
Bf z7' T.V4 w103 fun p104 w105=>
A7 [hd 4 ((p38.add 7).add 0) w89,hd 4 ((p38.add 7).add 1) w89,hd 4 ((p38.add 7).add 2) w89,hd 4 ((p38.add 7).add 3) w89,hd 1 ((p38.add 7).add 0) w89,hd 1 ((p38.add 7).add 1) w89,hd 1 ((p38.add 7).add 2) w89,hd 1 ((p38.add 7).add 3) w89] w105∧(
Au (encs xP r92.1) p104 0 w105 fun w106=>
A7 [hd 4 ((p38.add 7).add 0) w89,hd 4 ((p38.add 7).add 1) w89,hd 4 ((p38.add 7).add 2) w89,hd 4 ((p38.add 7).add 3) w89] w106∧(
Au (encs xP r94.1) p102 0 w106 fun w107=>
A7 [] w107∧(
J86 (p104,p102,()) w107)))))))∧(
Bf z7' T.V4 w93 fun p108 w109=>
A7 [hd 4 ((p38.add 7).add 0) w89,hd 4 ((p38.add 7).add 1) w89,hd 4 ((p38.add 7).add 2) w89,hd 4 ((p38.add 7).add 3) w89,hd 1 ((p38.add 7).add 0) w89,hd 1 ((p38.add 7).add 1) w89,hd 1 ((p38.add 7).add 2) w89,hd 1 ((p38.add 7).add 3) w89] w109∧(
(
Ae prog F.law27_choice [Sv xP x91] w109 false Zw fun r110 w111=>
A7 [hd 4 ((p38.add 7).add 0) w89,hd 4 ((p38.add 7).add 1) w89,hd 4 ((p38.add 7).add 2) w89,hd 4 ((p38.add 7).add 3) w89,hd 1 ((p38.add 7).add 0) w89,hd 1 ((p38.add 7).add 1) w89,hd 1 ((p38.add 7).add 2) w89,hd 1 ((p38.add 7).add 3) w89] w111∧(
Bf z7' T.V4 w111 fun p112 w113=>
A7 [hd 4 ((p38.add 7).add 0) w89,hd 4 ((p38.add 7).add 1) w89,hd 4 ((p38.add 7).add 2) w89,hd 4 ((p38.add 7).add 3) w89,hd 1 ((p38.add 7).add 0) w89,hd 1 ((p38.add 7).add 1) w89,hd 1 ((p38.add 7).add 2) w89,hd 1 ((p38.add 7).add 3) w89] w113∧(
Au (encs xP r92.1) p108 0 w113 fun w114=>
A7 [hd 4 ((p38.add 7).add 0) w89,hd 4 ((p38.add 7).add 1) w89,hd 4 ((p38.add 7).add 2) w89,hd 4 ((p38.add 7).add 3) w89] w114∧(
Au (encs xP r110.1) p112 0 w114 fun w115=>
A7 [] w115∧(
J86 (p108,p112,()) w115)))))∧(
Bf z7' T.V4 w109 fun p116 w117=>
A7 [hd 4 ((p38.add 7).add 0) w89,hd 4 ((p38.add 7).add 1) w89,hd 4 ((p38.add 7).add 2) w89,hd 4 ((p38.add 7).add 3) w89,hd 1 ((p38.add 7).add 0) w89,hd 1 ((p38.add 7).add 1) w89,hd 1 ((p38.add 7).add 2) w89,hd 1 ((p38.add 7).add 3) w89] w117∧(
Ae prog F.law27_choice [Sv xP x91] w117 false Zw fun r118 w119=>
A7 [hd 4 ((p38.add 7).add 0) w89,hd 4 ((p38.add 7).add 1) w89,hd 4 ((p38.add 7).add 2) w89,hd 4 ((p38.add 7).add 3) w89,hd 1 ((p38.add 7).add 0) w89,hd 1 ((p38.add 7).add 1) w89,hd 1 ((p38.add 7).add 2) w89,hd 1 ((p38.add 7).add 3) w89] w119∧(
Au (encs xP r92.1) p108 0 w119 fun w120=>
A7 [hd 4 ((p38.add 7).add 0) w89,hd 4 ((p38.add 7).add 1) w89,hd 4 ((p38.add 7).add 2) w89,hd 4 ((p38.add 7).add 3) w89] w120∧(
Au (encs xP r118.1) p116 0 w120 fun w121=>
A7 [] w121∧(
J86 (p108,p116,()) w121)))))))∧(
Bf z7' T.V4 w93 fun p122 w123=>
A7 [hd 4 ((p38.add 7).add 0) w89,hd 4 ((p38.add 7).add 1) w89,hd 4 ((p38.add 7).add 2) w89,hd 4 ((p38.add 7).add 3) w89,hd 1 ((p38.add 7).add 0) w89,hd 1 ((p38.add 7).add 1) w89,hd 1 ((p38.add 7).add 2) w89,hd 1 ((p38.add 7).add 3) w89] w123∧(
(
Ae prog F.law27_choice [Sv xP x91] w123 false Zw fun r124 w125=>
A7 [hd 4 ((p38.add 7).add 0) w89,hd 4 ((p38.add 7).add 1) w89,hd 4 ((p38.add 7).add 2) w89,hd 4 ((p38.add 7).add 3) w89,hd 1 ((p38.add 7).add 0) w89,hd 1 ((p38.add 7).add 1) w89,hd 1 ((p38.add 7).add 2) w89,hd 1 ((p38.add 7).add 3) w89] w125∧(
Bf z7' T.V4 w125 fun p126 w127=>
A7 [hd 4 ((p38.add 7).add 0) w89,hd 4 ((p38.add 7).add 1) w89,hd 4 ((p38.add 7).add 2) w89,hd 4 ((p38.add 7).add 3) w89,hd 1 ((p38.add 7).add 0) w89,hd 1 ((p38.add 7).add 1) w89,hd 1 ((p38.add 7).add 2) w89,hd 1 ((p38.add 7).add 3) w89] w127∧(
Au (encs xP r92.1) p126 0 w127 fun w128=>
A7 [hd 4 ((p38.add 7).add 0) w89,hd 4 ((p38.add 7).add 1) w89,hd 4 ((p38.add 7).add 2) w89,hd 4 ((p38.add 7).add 3) w89] w128∧(
Au (encs xP r124.1) p122 0 w128 fun w129=>
A7 [] w129∧(
J86 (p126,p122,()) w129)))))∧(
Bf z7' T.V4 w123 fun p130 w131=>
A7 [hd 4 ((p38.add 7).add 0) w89,hd 4 ((p38.add 7).add 1) w89,hd 4 ((p38.add 7).add 2) w89,hd 4 ((p38.add 7).add 3) w89,hd 1 ((p38.add 7).add 0) w89,hd 1 ((p38.add 7).add 1) w89,hd 1 ((p38.add 7).add 2) w89,hd 1 ((p38.add 7).add 3) w89] w131∧(
Ae prog F.law27_choice [Sv xP x91] w131 false Zw fun r132 w133=>
A7 [hd 4 ((p38.add 7).add 0) w89,hd 4 ((p38.add 7).add 1) w89,hd 4 ((p38.add 7).add 2) w89,hd 4 ((p38.add 7).add 3) w89,hd 1 ((p38.add 7).add 0) w89,hd 1 ((p38.add 7).add 1) w89,hd 1 ((p38.add 7).add 2) w89,hd 1 ((p38.add 7).add 3) w89] w133∧(
Au (encs xP r92.1) p130 0 w133 fun w134=>
A7 [hd 4 ((p38.add 7).add 0) w89,hd 4 ((p38.add 7).add 1) w89,hd 4 ((p38.add 7).add 2) w89,hd 4 ((p38.add 7).add 3) w89] w134∧(
Au (encs xP r132.1) p122 0 w134 fun w135=>
A7 [] w135∧(
J86 (p130,p122,()) w135)))))))))∧(
Bf z7' T.V4 w89 fun p136 w137=>
A7 [hd 4 ((p38.add 7).add 0) w89,hd 4 ((p38.add 7).add 1) w89,hd 4 ((p38.add 7).add 2) w89,hd 4 ((p38.add 7).add 3) w89,hd 1 ((p38.add 7).add 0) w89,hd 1 ((p38.add 7).add 1) w89,hd 1 ((p38.add 7).add 2) w89,hd 1 ((p38.add 7).add 3) w89] w137∧(
(
Ae prog F.law27_choice [Sv xP x90] w137 false Zw fun r138 w139=>
A7 [hd 4 ((p38.add 7).add 0) w89,hd 4 ((p38.add 7).add 1) w89,hd 4 ((p38.add 7).add 2) w89,hd 4 ((p38.add 7).add 3) w89,hd 1 ((p38.add 7).add 0) w89,hd 1 ((p38.add 7).add 1) w89,hd 1 ((p38.add 7).add 2) w89,hd 1 ((p38.add 7).add 3) w89] w139∧(
(
Ae prog F.law27_choice [Sv xP x91] w139 false Zw fun r140 w141=>
A7 [hd 4 ((p38.add 7).add 0) w89,hd 4 ((p38.add 7).add 1) w89,hd 4 ((p38.add 7).add 2) w89,hd 4 ((p38.add 7).add 3) w89,hd 1 ((p38.add 7).add 0) w89,hd 1 ((p38.add 7).add 1) w89,hd 1 ((p38.add 7).add 2) w89,hd 1 ((p38.add 7).add 3) w89] w141∧(
Bf z7' T.V4 w141 fun p142 w143=>
A7 [hd 4 ((p38.add 7).add 0) w89,hd 4 ((p38.add 7).add 1) w89,hd 4 ((p38.add 7).add 2) w89,hd 4 ((p38.add 7).add 3) w89,hd 1 ((p38.add 7).add 0) w89,hd 1 ((p38.add 7).add 1) w89,hd 1 ((p38.add 7).add 2) w89,hd 1 ((p38.add 7).add 3) w89] w143∧(
Au (encs xP r138.1) p136 0 w143 fun w144=>
A7 [hd 4 ((p38.add 7).add 0) w89,hd 4 ((p38.add 7).add 1) w89,hd 4 ((p38.add 7).add 2) w89,hd 4 ((p38.add 7).add 3) w89] w144∧(
Au (encs xP r140.1) p142 0 w144 fun w145=>
A7 [] w145∧(
J86 (p136,p142,()) w145)))))∧(
Bf z7' T.V4 w139 fun p146 w147=>
A7 [hd 4 ((p38.add 7).add 0) w89,hd 4 ((p38.add 7).add 1) w89,hd 4 ((p38.add 7).add 2) w89,hd 4 ((p38.add 7).add 3) w89,hd 1 ((p38.add 7).add 0) w89,hd 1 ((p38.add 7).add 1) w89,hd 1 ((p38.add 7).add 2) w89,hd 1 ((p38.add 7).add 3) w89] w147∧(
Ae prog F.law27_choice [Sv xP x91] w147 false Zw fun r148 w149=>
A7 [hd 4 ((p38.add 7).add 0) w89,hd 4 ((p38.add 7).add 1) w89,hd 4 ((p38.add 7).add 2) w89,hd 4 ((p38.add 7).add 3) w89,hd 1 ((p38.add 7).add 0) w89,hd 1 ((p38.add 7).add 1) w89,hd 1 ((p38.add 7).add 2) w89,hd 1 ((p38.add 7).add 3) w89] w149∧(
Au (encs xP r138.1) p136 0 w149 fun w150=>
A7 [hd 4 ((p38.add 7).add 0) w89,hd 4 ((p38.add 7).add 1) w89,hd 4 ((p38.add 7).add 2) w89,hd 4 ((p38.add 7).add 3) w89] w150∧(
Au (encs xP r148.1) p146 0 w150 fun w151=>
A7 [] w151∧(
J86 (p136,p146,()) w151)))))))∧(
Bf z7' T.V4 w137 fun p152 w153=>
A7 [hd 4 ((p38.add 7).add 0) w89,hd 4 ((p38.add 7).add 1) w89,hd 4 ((p38.add 7).add 2) w89,hd 4 ((p38.add 7).add 3) w89,hd 1 ((p38.add 7).add 0) w89,hd 1 ((p38.add 7).add 1) w89,hd 1 ((p38.add 7).add 2) w89,hd 1 ((p38.add 7).add 3) w89] w153∧(
Ae prog F.law27_choice [Sv xP x90] w153 false Zw fun r154 w155=>
A7 [hd 4 ((p38.add 7).add 0) w89,hd 4 ((p38.add 7).add 1) w89,hd 4 ((p38.add 7).add 2) w89,hd 4 ((p38.add 7).add 3) w89,hd 1 ((p38.add 7).add 0) w89,hd 1 ((p38.add 7).add 1) w89,hd 1 ((p38.add 7).add 2) w89,hd 1 ((p38.add 7).add 3) w89] w155∧(
Ae prog F.law27_choice [Sv xP x91] w155 false Zw fun r156 w157=>
A7 [hd 4 ((p38.add 7).add 0) w89,hd 4 ((p38.add 7).add 1) w89,hd 4 ((p38.add 7).add 2) w89,hd 4 ((p38.add 7).add 3) w89,hd 1 ((p38.add 7).add 0) w89,hd 1 ((p38.add 7).add 1) w89,hd 1 ((p38.add 7).add 2) w89,hd 1 ((p38.add 7).add 3) w89] w157∧(
Au (encs xP r154.1) p136 0 w157 fun w158=>
A7 [hd 4 ((p38.add 7).add 0) w89,hd 4 ((p38.add 7).add 1) w89,hd 4 ((p38.add 7).add 2) w89,hd 4 ((p38.add 7).add 3) w89] w158∧(
Au (encs xP r156.1) p152 0 w158 fun w159=>
A7 [] w159∧(
J86 (p136,p152,()) w159))))))))∧(
Bf z7' T.V4 w89 fun p160 w161=>
A7 [hd 4 ((p38.add 7).add 0) w89,hd 4 ((p38.add 7).add 1) w89,hd 4 ((p38.add 7).add 2) w89,hd 4 ((p38.add 7).add 3) w89,hd 1 ((p38.add 7).add 0) w89,hd 1 ((p38.add 7).add 1) w89,hd 1 ((p38.add 7).add 2) w89,hd 1 ((p38.add 7).add 3) w89] w161∧(
(
Ae prog F.law27_choice [Sv xP x90] w161 false Zw fun r162 w163=>
A7 [hd 4 ((p38.add 7).add 0) w89,hd 4 ((p38.add 7).add 1) w89,hd 4 ((p38.add 7).add 2) w89,hd 4 ((p38.add 7).add 3) w89,hd 1 ((p38.add 7).add 0) w89,hd 1 ((p38.add 7).add 1) w89,hd 1 ((p38.add 7).add 2) w89,hd 1 ((p38.add 7).add 3) w89] w163∧(
(
Ae prog F.law27_choice [Sv xP x91] w163 false Zw fun r164 w165=>
A7 [hd 4 ((p38.add 7).add 0) w89,hd 4 ((p38.add 7).add 1) w89,hd 4 ((p38.add 7).add 2) w89,hd 4 ((p38.add 7).add 3) w89,hd 1 ((p38.add 7).add 0) w89,hd 1 ((p38.add 7).add 1) w89,hd 1 ((p38.add 7).add 2) w89,hd 1 ((p38.add 7).add 3) w89] w165∧(
Bf z7' T.V4 w165 fun p166 w167=>
A7 [hd 4 ((p38.add 7).add 0) w89,hd 4 ((p38.add 7).add 1) w89,hd 4 ((p38.add 7).add 2) w89,hd 4 ((p38.add 7).add 3) w89,hd 1 ((p38.add 7).add 0) w89,hd 1 ((p38.add 7).add 1) w89,hd 1 ((p38.add 7).add 2) w89,hd 1 ((p38.add 7).add 3) w89] w167∧(
Au (encs xP r162.1) p166 0 w167 fun w168=>
A7 [hd 4 ((p38.add 7).add 0) w89,hd 4 ((p38.add 7).add 1) w89,hd 4 ((p38.add 7).add 2) w89,hd 4 ((p38.add 7).add 3) w89] w168∧(
Au (encs xP r164.1) p160 0 w168 fun w169=>
A7 [] w169∧(
J86 (p166,p160,()) w169)))))∧(
Bf z7' T.V4 w163 fun p170 w171=>
A7 [hd 4 ((p38.add 7).add 0) w89,hd 4 ((p38.add 7).add 1) w89,hd 4 ((p38.add 7).add 2) w89,hd 4 ((p38.add 7).add 3) w89,hd 1 ((p38.add 7).add 0) w89,hd 1 ((p38.add 7).add 1) w89,hd 1 ((p38.add 7).add 2) w89,hd 1 ((p38.add 7).add 3) w89] w171∧(
Ae prog F.law27_choice [Sv xP x91] w171 false Zw fun r172 w173=>
A7 [hd 4 ((p38.add 7).add 0) w89,hd 4 ((p38.add 7).add 1) w89,hd 4 ((p38.add 7).add 2) w89,hd 4 ((p38.add 7).add 3) w89,hd 1 ((p38.add 7).add 0) w89,hd 1 ((p38.add 7).add 1) w89,hd 1 ((p38.add 7).add 2) w89,hd 1 ((p38.add 7).add 3) w89] w173∧(
Au (encs xP r162.1) p170 0 w173 fun w174=>
A7 [hd 4 ((p38.add 7).add 0) w89,hd 4 ((p38.add 7).add 1) w89,hd 4 ((p38.add 7).add 2) w89,hd 4 ((p38.add 7).add 3) w89] w174∧(
Au (encs xP r172.1) p160 0 w174 fun w175=>
A7 [] w175∧(
J86 (p170,p160,()) w175)))))))∧(
Bf z7' T.V4 w161 fun p176 w177=>
A7 [hd 4 ((p38.add 7).add 0) w89,hd 4 ((p38.add 7).add 1) w89,hd 4 ((p38.add 7).add 2) w89,hd 4 ((p38.add 7).add 3) w89,hd 1 ((p38.add 7).add 0) w89,hd 1 ((p38.add 7).add 1) w89,hd 1 ((p38.add 7).add 2) w89,hd 1 ((p38.add 7).add 3) w89] w177∧(
Ae prog F.law27_choice [Sv xP x90] w177 false Zw fun r178 w179=>
A7 [hd 4 ((p38.add 7).add 0) w89,hd 4 ((p38.add 7).add 1) w89,hd 4 ((p38.add 7).add 2) w89,hd 4 ((p38.add 7).add 3) w89,hd 1 ((p38.add 7).add 0) w89,hd 1 ((p38.add 7).add 1) w89,hd 1 ((p38.add 7).add 2) w89,hd 1 ((p38.add 7).add 3) w89] w179∧(
Ae prog F.law27_choice [Sv xP x91] w179 false Zw fun r180 w181=>
A7 [hd 4 ((p38.add 7).add 0) w89,hd 4 ((p38.add 7).add 1) w89,hd 4 ((p38.add 7).add 2) w89,hd 4 ((p38.add 7).add 3) w89,hd 1 ((p38.add 7).add 0) w89,hd 1 ((p38.add 7).add 1) w89,hd 1 ((p38.add 7).add 2) w89,hd 1 ((p38.add 7).add 3) w89] w181∧(
Au (encs xP r178.1) p176 0 w181 fun w182=>
A7 [hd 4 ((p38.add 7).add 0) w89,hd 4 ((p38.add 7).add 1) w89,hd 4 ((p38.add 7).add 2) w89,hd 4 ((p38.add 7).add 3) w89] w182∧(
Au (encs xP r180.1) p160 0 w182 fun w183=>
A7 [] w183∧(
J86 (p176,p160,()) w183))))))))) (fun(z87:(Addr)×(Addr)×Unit) w88=> ∀_:Nat→Value,
Cc (fun(J184:Unit→WP)=>
Cc (fun(J187:((Bool)×Unit)→WP)=>
Aj (decide (z34.1<(others.2.1:Int))) (
ld1 .sl (z87.2.1.add 3) w88 fun x190=>
Aj ((x190.2.1:Int)==4) (
Ny others.1 others.2.1 z34.1 fun a191=>
ld1 .sl (((a191.add (z34.1.toNat*11)).add 7).add 3) w88 fun x192=>
J187 (((x192.2.1:Int)==4),()) w88) (
J187 (false,()) w88)) (
J187 (false,()) w88)) (fun(z188:(Bool)×Unit) w189=> ∀_:Nat→Value,
Aj z188.1 (
Jg w189 fun w193=>
ld1 .sl (z87.2.1.add 3) w193 fun x194=>
ld1 .sl (z87.2.1.add 3) w193 fun x195=>
Ny others.1 others.2.1 z34.1 fun a196=>
ld1 .sl (((a196.add (z34.1.toNat*11)).add 7).add 3) w193 fun x197=>
Ny x197.1 x197.2.1 2 fun a198=>
ld1 (.i .u64) (a198.add ((2:Int).toNat*1)) w193 fun x199=>
Ny others.1 others.2.1 z34.1 fun a200=>
ld1 .sl (((a200.add (z34.1.toNat*11)).add 7).add 3) w193 fun x201=>
Ny x201.1 x201.2.1 3 fun a202=>
ld1 (.i .u64) (a202.add ((3:Int).toNat*1)) w193 fun x203=>
Ny x194.1 x194.2.1 2 fun a204=>
Au [.int .u64 x199] (a204.add ((2:Int).toNat*1)) 0 w193 fun w205=>
A7 [hd 3 (z87.2.1.add 3) w193] w205∧(
Ny x195.1 x195.2.1 3 fun a206=>
Au [.int .u64 x203] (a206.add ((3:Int).toNat*1)) 0 w205 fun w207=>
A7 [] w207∧(
J184 (()) w207))) (
J184 (()) w189))) (fun(z185:Unit) w186=> ∀_:Nat→Value,
Jg w186 fun w208=>
A8 xP z87.1 0 w208 fun x209=>
A8 xP z87.2.1 0 w208 fun x210=>
Ae prog F.Ce [.pointer r13.1.1,Sv xP x209] w208 false iT fun r211 w212=>
A7 [hd 4 (z87.2.1.add 0) w208,hd 4 (z87.2.1.add 1) w208,hd 4 (z87.2.1.add 2) w208,hd 4 (z87.2.1.add 3) w208,hd 1 (z87.1.add 0) w208,hd 1 (z87.1.add 1) w208,hd 1 (z87.1.add 2) w208,hd 1 (z87.1.add 3) w208] w212∧(
Ae prog F.Ce [.pointer r18.1.1,Sv xP x210] w212 false iT fun r213 w214=>
A7 [hd 1 (z87.1.add 0) w208,hd 1 (z87.1.add 1) w208,hd 1 (z87.1.add 2) w208,hd 1 (z87.1.add 3) w208] w214∧(
Aj (r211.1.1 !=r213.1.1) (
R ((false,()),()) w214) (
J78 (()) w214)))))) (
J78 (()) w83))) (fun(z79:Unit) w80=> ∀_:Nat→Value,
Ci (fun(self215:((Int)×Unit)→WP) (z216:(Int)×Unit) w217=> ∀_:Nat→Value,
Aj (decide (z216.1<2)) (
Ae prog F.Dq [.pointer r13.1.1,iV z216.1] w217 true oI fun r218 w219=>
Bf dE T.Bg w219 fun p220 w221=>
Au (encs Tu r218.1) p220 0 w221 fun w222=>
Ae prog F.Dq [.pointer r18.1.1,iV z216.1] w222 true oI fun r223 w224=>
Bf dE T.Bg w224 fun p225 w226=>
Au (encs Tu r223.1) p225 0 w226 fun w227=>
Ae prog F.Bo [.pointer r13.1.1,iV z216.1] w227 false r3' fun r228 w229=>
Ae prog F.Bo [.pointer r18.1.1,iV z216.1] w229 false r3' fun r230 w231=>
Aj (!((r228.1.1==r230.1.1)&&((r228.1.2.1==r230.1.2.1)&&((r228.1.2.2.1==r230.1.2.2.1)&&((r228.1.2.2.2.1==r230.1.2.2.2.1)&&((r228.1.2.2.2.2.1==r230.1.2.2.2.2.1)&&((r228.1.2.2.2.2.2.1==r230.1.2.2.2.2.2.1)&&((r228.1.2.2.2.2.2.2.1==r230.1.2.2.2.2.2.2.1)&&((r228.1.2.2.2.2.2.2.2.1==r230.1.2.2.2.2.2.2.2.1)&&((r228.1.2.2.2.2.2.2.2.2.1==r230.1.2.2.2.2.2.2.2.2.1)&&((r228.1.2.2.2.2.2.2.2.2.2.1==r230.1.2.2.2.2.2.2.2.2.2.1)&&((r228.1.2.2.2.2.2.2.2.2.2.2.1==r230.1.2.2.2.2.2.2.2.2.2.2.1)&&((r228.1.2.2.2.2.2.2.2.2.2.2.2.1==r230.1.2.2.2.2.2.2.2.2.2.2.2.1)&&true))))))))))))) (
R ((false,()),()) w231) (
A8 Tu p220 0 w231 fun x232=>
A8 Tu p225 0 w231 fun x233=>
Aj (!((x232.1==x233.1)&&((x232.2.1==x233.2.1)&&(((x232.2.2.1==x233.2.2.1)&&((x232.2.2.2.1==x233.2.2.2.1)&&true))&&((x232.2.2.2.2.1==x233.2.2.2.2.1)&&true))))) (
R ((false,()),()) w231) (
Aj (r218.2.1.1 !=r223.2.1.1) (
R ((false,()),()) w231) (
self215 (wrap .i64 (z216.1+1),()) w231)))) (
self33 (wrap .i64 (z34.1+1),()) w217)) (0,()) w80)))) (
R ((true,()),()) w35)) (0,()) w22)) (0,()) w19)))))))
theorem law27_NetApart.ok{s0 s1 s2 s3 s4 s5 s6 s7 s8 s9:Int}{s10 script others:Option Addr×Nat×Nat}{w:World}{R:TR r0'→WP}:law27_NetApart.wp s0 s1 s2 s3 s4 s5 s6 s7 s8 s9 s10 script others w R→Ae prog F.law27_NetApart [.agg #[iV s0,iV s1,iV s2,iV s3,iV s4,iV s5,iV s6,iV s7,iV s8,iV s9,.slice s10.1 s10.2.1 s10.2.2],.slice script.1 script.2.1 script.2.2,.slice others.1 others.2.1 others.2.2] w false r0' R:=
  oks Aa Tryz.func7 (hs 8 (.s (.s .n (.lp [(65,(.i .i64))] (hs 2 (.s (hs 4 (.lp [(13,(.i .i64))] .n)) .n)))) (.s (.s .n (.lp [(85,(.i .i64))] (hs 2 (.s (hs 2 (.ct [] (.ct [(111,.b)] .n .n) (.ct [] (.ct [(157,.b)] .n (.s (.ct [(17,.a),(18,.a)] (.pl (ks [0,1,3,4] (.thr 2 6 7 (.thr 5 6 7 (.two 6 7 (.ef 7 [] (.ef 8 [1] (.ef 9 [4] .z))) (.ef 6 [] (.ef 8 [1] (.ef 9 [4] .z)))) (.two 5 7 (.ef 7 [] (.ef 8 [1] (.ef 9 [4] .z))) (.ef 5 [] (.ef 8 [1] (.ef 9 [4] .z)))) (.two 5 6 (.ef 6 [] (.ef 8 [1] (.ef 9 [4] .z))) (.ef 5 [] (.ef 8 [1] (.ef 9 [4] .z))))) (.two 2 7 (.two 5 7 (.ef 7 [] (.ef 8 [1] (.ef 9 [4] .z))) (.ef 5 [] (.ef 8 [1] (.ef 9 [4] .z)))) (.ef 2 [] (.ef 5 [] (.ef 8 [1] (.ef 9 [4] .z))))) (.two 2 6 (.two 5 6 (.ef 6 [] (.ef 8 [1] (.ef 9 [4] .z))) (.ef 5 [] (.ef 8 [1] (.ef 9 [4] .z)))) (.ef 2 [] (.ef 5 [] (.ef 8 [1] (.ef 9 [4] .z)))))))) (.ct [] (.ct [(183,.b)] .n (.s (.pl (ks [0,1,2,3,4,5,6,7,8,9,10,11,12,13,14,15,16,17,18,19,20] (.ef 21 [1,9,11,17,19] (.tk 22 (.ef 23 [3] .z))))) .n)) (.s (.pl (ks [0,1,3,4] (.ef 2 [] (.ef 5 [4] (.tk 6 .z))))) .n))) .n)) (.s .n (.lp [(19,(.i .i64))] .n))))) .n)))) .n)))
def Ff.wp(s0 s1 s2 s3 s4 s5 s6 s7 s8 s9:Int)(s10:Option Addr×Nat×Nat)(w:World)(R:TR r0'→WP):Prop:=
Bf [iV s0,iV s1,iV s2,iV s3,iV s4,iV s5,iV s6,iV s7,iV s8,iV s9,.slice s10.1 s10.2.1 s10.2.2] T.J8 w fun p1 w2=>
ld1 KI p1 w2 fun x3=>
Aj (decide (x3<1)) (
R ((false,()),()) w2) (
ld1 KI p1 w2 fun x4=>
Aj (decide (x4>64)) (
R ((false,()),()) w2) (
Ci (fun(self5:((Int)×Unit)→WP) (z6:(Int)×Unit) w7=> ∀_:Nat→Value,
ld1 KI p1 w7 fun x8=>
Aj (decide (z6.1<x8)) (
A8 k0' p1 0 w7 fun x9=>
Ae prog F.Oy [Sv k0' x9,iV z6.1] w7 false r5' fun r10 w11=>
Ae prog F.Ot [Sv k2' r10.1] w11 false r0' fun r12 w13=>
Aj (!r12.1.1) (
R ((false,()),()) w13) (
self5 (wrap .i64 (z6.1+1),()) w13)) (
R ((true,()),()) w7)) (0,()) w2))
theorem Ff.ok{s0 s1 s2 s3 s4 s5 s6 s7 s8 s9:Int}{s10:Option Addr×Nat×Nat}{w:World}{R:TR r0'→WP}:Ff.wp s0 s1 s2 s3 s4 s5 s6 s7 s8 s9 s10 w R→Ae prog F.Ff [.agg #[iV s0,iV s1,iV s2,iV s3,iV s4,iV s5,iV s6,iV s7,iV s8,iV s9,.slice s10.1 s10.2.1 s10.2.2]] w false r0' R:=
  oks Aa Tryz.func16 (hs 2 (.s (.s .n (.lp [(3,(.i .i64))] .n)) .n))
def Io.wp(s0 s1 s2 s3 s4 s5 s6 s7 s8 s9:Int)(s10:Option Addr×Nat×Nat)(leaps:Option Addr)(w:World)(R:TR r2'→WP):Prop:=
Bf [iV s0,iV s1,iV s2,iV s3,iV s4,iV s5,iV s6,iV s7,iV s8,iV s9,.slice s10.1 s10.2.1 s10.2.2] T.mQ w fun p1 w2=>
ld1 KI p1 w2 fun x3=>
Ae prog F.Pi [iV x3] w2 true r2' fun r4 w5=>
Aj (r4.2.1.1 !=0) (
R ((none,()),(r4.2.1.1,()),()) w5) (
ld1 .sl (p1.add 10) w5 fun x6=>
L9 ((Builtin.append_ #[T.V5,T.V5] T.V5 #[.slice none 0 0,.slice x6.1 x6.2.1 x6.2.2]).run prog w5) fun y7 w8=>
Au [.slice y7.1 y7.2.1 y7.2.2] (p1.add 10) 0 w8 fun w9=>
A8 k0' p1 0 w9 fun x10=>
Bf [iV x10.1,iV x10.2.1,iV x10.2.2.1,iV x10.2.2.2.1,iV x10.2.2.2.2.1,iV x10.2.2.2.2.2.1,iV x10.2.2.2.2.2.2.1,iV x10.2.2.2.2.2.2.2.1,iV x10.2.2.2.2.2.2.2.2.1,iV x10.2.2.2.2.2.2.2.2.2.1,.slice x10.2.2.2.2.2.2.2.2.2.2.1.1 x10.2.2.2.2.2.2.2.2.2.2.1.2.1 x10.2.2.2.2.2.2.2.2.2.2.1.2.2,.pointer r4.1.1,.slice none 0 0,iV 0,.int .u64 0,.slice none 0 0] T.As1 w9 fun p11 w12=>
ld1 KI p1 w12 fun x13=>
Ci (fun(self14:((Int)×Unit)→WP) (z15:(Int)×Unit) w16=> ∀_:Nat→Value,
Aj (decide (z15.1<x13)) (
A8 k0' p1 0 w16 fun x17=>
Ae prog F.Lj [Sv k0' x17,iV z15.1] w16 false r5' fun r18 w19=>
Ae prog F.Uz [Sv k2' r18.1,.pointer leaps] w19 true r2' fun r20 w21=>
Aj (r20.2.1.1 !=0) (
R ((none,()),(r20.2.1.1,()),()) w21) (
ld1 .sl (p11.add 12) w21 fun x22=>
Bf [.pointer r20.1.1] T.Uf w21 fun p23 w24=>
L9 ((Builtin.append_ #[T.Vp,T.Vp] T.Vp #[.slice x22.1 x22.2.1 x22.2.2,.slice (some p23) 1 1]).run prog w24) fun y25 w26=>
Au [.slice y25.1 y25.2.1 y25.2.2] (p11.add 12) 0 w26 fun w27=>
self14 (wrap .i64 (z15.1+1),()) w27)) (
R ((some p11,()),(0,()),()) w16)) (0,()) w12)
theorem Io.ok{s0 s1 s2 s3 s4 s5 s6 s7 s8 s9:Int}{s10:Option Addr×Nat×Nat}{leaps:Option Addr}{w:World}{R:TR r2'→WP}:Io.wp s0 s1 s2 s3 s4 s5 s6 s7 s8 s9 s10 leaps w R→Ae prog F.Io [.agg #[iV s0,iV s1,iV s2,iV s3,iV s4,iV s5,iV s6,iV s7,iV s8,iV s9,.slice s10.1 s10.2.1 s10.2.2],.pointer leaps] w true r2' R:=
  oks Aa Tryz.func17 (hs 5 (.s (.s .n (.lp [(31,(.i .i64))] .n)) .n))
def Bo.wp(n:Option Addr)(i:Int)(w:World)(R:TR r3'→WP):Prop:=
Bf z2' T.nK w fun p1 w2=>
Ae prog F.Eu [.pointer n,iV i] w2 false Arw fun r3 w4=>
Ae prog F.Cb [.pointer r3.1.1] w4 false r3' fun r5 w6=>
Au (encs k1' r5.1) p1 0 w6 fun w7=>
A8 k1' p1 0 w7 fun x8=>
R (x8,()) w7
theorem Bo.ok{n:Option Addr}{i:Int}{w:World}{R:TR r3'→WP}:Bo.wp n i w R→Ae prog F.Bo [.pointer n,iV i] w false r3' R:=
  oks Aa Tryz.func19 .n
def Bq.wp(n:Option Addr)(w:World)(R:TR iT→WP):Prop:=
Aj (Option.isNone n) (
R ((0,()),()) w) (
Aq n fun a1=>
ld1 KI (a1.add 13) w fun x2=>
R ((x2,()),()) w)
theorem Bq.ok{n:Option Addr}{w:World}{R:TR iT→WP}:Bq.wp n w R→Ae prog F.Bq [.pointer n] w false iT R:=
  oks Aa Tryz.func20 .n
def Oy.wp(s0 s1 s2 s3 s4 s5 s6 s7 s8 s9:Int)(s10:Option Addr×Nat×Nat)(i:Int)(w:World)(R:TR r5'→WP):Prop:=
Bf [iV s0,iV s1,iV s2,iV s3,iV s4,iV s5,iV s6,iV s7,iV s8,iV s9,.slice s10.1 s10.2.1 s10.2.2] T.J8 w fun p1 w2=>
Bf Aqn T.Xj w2 fun p3 w4=>
Cc (fun(J5:((Int)×Unit)→WP)=>
ld1 KI (p1.add 5) w4 fun x8=>
Aj (decide (x8>0)) (
ld1 KI (p1.add 5) w4 fun x9=>
dF x9 (
J5 (Int.tmod i x9,()) w4)) (
J5 (0,()) w4)) (fun(z6:(Int)×Unit) w7=> ∀_:Nat→Value,
Cc (fun(J10:((Int)×Unit)→WP)=>
ld1 .sl (p1.add 10) w7 fun x13=>
Aj (decide (i<(x13.2.1:Int))) (
ld1 .sl (p1.add 10) w7 fun x14=>
Ny x14.1 x14.2.1 i fun a15=>
ld1 KI (a15.add (i.toNat*1)) w7 fun x16=>
J10 (x16,()) w7) (
J10 (z6.1,()) w7)) (fun(z11:(Int)×Unit) w12=> ∀_:Nat→Value,
ld1 KI (p1.add 1) w12 fun x17=>
ld1 KI (p1.add 2) w12 fun x18=>
ld1 KI (p1.add 3) w12 fun x19=>
ld1 KI (p1.add 4) w12 fun x20=>
ld1 KI (p1.add 5) w12 fun x21=>
ld1 KI (p1.add 6) w12 fun x22=>
ld1 KI (p1.add 7) w12 fun x23=>
ld1 KI (p1.add 8) w12 fun x24=>
ld1 KI (p1.add 9) w12 fun x25=>
Au [iV i,iV x17,iV x18,iV x19,iV x20,iV x21,iV x22,iV z11.1,iV x23,iV x24,.bool (i==x25)] p3 0 w12 fun w26=>
A8 k2' p3 0 w26 fun x27=>
R (x27,()) w26))
theorem Oy.ok{s0 s1 s2 s3 s4 s5 s6 s7 s8 s9:Int}{s10:Option Addr×Nat×Nat}{i:Int}{w:World}{R:TR r5'→WP}:Oy.wp s0 s1 s2 s3 s4 s5 s6 s7 s8 s9 s10 i w R→Ae prog F.Oy [.agg #[iV s0,iV s1,iV s2,iV s3,iV s4,iV s5,iV s6,iV s7,iV s8,iV s9,.slice s10.1 s10.2.1 s10.2.2],iV i] w false r5' R:=
  oks Aa Tryz.func22 (hs 2 (.ct [(5,(.i .i64))] .n (.ct [(5,(.i .i64))] .n .n)))
def law27_alive.wp(w:World)(R:TR r0'→WP):Prop:=
Ae prog F.law27_setup [.agg #[iV 2,iV 1,iV 0,iV 1,iV 0,iV 2,iV 2,iV 1,iV 0,iV (Int.negSucc 0),.slice none 0 0]] w false r1' fun r1 w2=>
Ae prog F.Io [Sv k0' r1.1,.pointer none] w2 true r2' fun r3 w4=>
Ae prog F.Cf [.pointer r3.1.1,iV 0,iV 1,.bool true] w4 false iT fun r5 w6=>
Ae prog F.D7 [.pointer r3.1.1,iV 0,.int .u32 5] w6 false iT fun r7 w8=>
Ae prog F.D7 [.pointer r3.1.1,iV 1,.int .u32 700] w8 false iT fun r9 w10=>
Ci (fun(self11:((Int)×Unit)→WP) (z12:(Int)×Unit) w13=> ∀_:Nat→Value,
Aj (decide (z12.1<3)) (
Bf [iV 1000,iV 1000] T.int w13 fun p14 w15=>
Bf [iV 0,iV 0] T.int w15 fun p16 w17=>
Bf [iV 0,iV 0] T.int w17 fun p18 w19=>
Ae prog F.Ce [.pointer r3.1.1,.agg #[.slice (some p14) 2 2,.slice (some p16) 2 2,.slice (some p18) 2 2,.slice none 0 0]] w19 false iT fun r20 w21=>
Aj (r20.1.1 !=0) (
R ((false,()),()) w21) (
self11 (wrap .i64 (z12.1+1),()) w21)) (
Ae prog F.Dq [.pointer r3.1.1,iV 1] w13 true oI fun r22 w23=>
Bf dE T.Bg w23 fun p24 w25=>
Au (encs Tu r22.1) p24 0 w25 fun w26=>
Aj (r3.2.1.1==0) (
Aj (r5.1.1==0) (
Aj (r7.1.1==0) (
Aj (r9.1.1==0) (
Aj (r22.2.1.1==0) (
ld1 KI (p24.add 2) w26 fun x27=>
Aj (x27==0) (
ld1 KI p24 w26 fun x28=>
Aj (x28==3005) (
Ae prog F.Bq [.pointer r3.1.1] w26 false iT fun r29 w30=>
R (((r29.1.1==3),()),()) w30) (
R ((false,()),()) w26)) (
R ((false,()),()) w26)) (
R ((false,()),()) w26)) (
R ((false,()),()) w26)) (
R ((false,()),()) w26)) (
R ((false,()),()) w26)) (
R ((false,()),()) w26))) (0,()) w10
theorem law27_alive.ok{w:World}{R:TR r0'→WP}:law27_alive.wp w R→Ae prog F.law27_alive [] w false r0' R:=
  oks Aa Tryz.func25 (hs 3 (.s (.s .n (.lp [(6,(.i .i64))] .n)) .n))
def law27_setup.wp(s0 s1 s2 s3 s4 s5 s6 s7 s8 s9:Int)(s10:Option Addr×Nat×Nat)(w:World)(R:TR r1'→WP):Prop:=
Bf [iV s0,iV s1,iV s2,iV s3,iV s4,iV s5,iV s6,iV s7,iV s8,iV s9,.slice s10.1 s10.2.1 s10.2.2] T.J8 w fun p1 w2=>
Bf pY T.mQ w2 fun p3 w4=>
Jg w4 fun w5=>
ld1 KI p1 w5 fun x6=>
ld1 KI (p1.add 1) w5 fun x7=>
ld1 KI (p1.add 2) w5 fun x8=>
ld1 KI (p1.add 3) w5 fun x9=>
ld1 KI (p1.add 4) w5 fun x10=>
ld1 KI (p1.add 5) w5 fun x11=>
ld1 KI (p1.add 6) w5 fun x12=>
ld1 KI (p1.add 7) w5 fun x13=>
ld1 KI (p1.add 8) w5 fun x14=>
ld1 KI (p1.add 9) w5 fun x15=>
ld1 .sl (p1.add 10) w5 fun x16=>
Bf [] T.int w5 fun p17 w18=>
A7 [hd 24 (p1.add 10) w5,hd 21 (p1.add 9) w5,hd 19 (p1.add 8) w5,hd 17 (p1.add 7) w5,hd 15 (p1.add 6) w5,hd 13 (p1.add 5) w5,hd 10 (p1.add 4) w5,hd 8 (p1.add 3) w5,hd 5 (p1.add 2) w5,hd 3 (p1.add 1) w5,hd 1 p1 w5] w18∧(
L9 ((Builtin.append_ #[T.V5,T.V5] T.V5 #[.slice (some p17) 0 0,.slice x16.1 x16.2.1 x16.2.2]).run prog w18) fun y19 w20=>
A7 [hd 21 (p1.add 9) w5,hd 19 (p1.add 8) w5,hd 17 (p1.add 7) w5,hd 15 (p1.add 6) w5,hd 13 (p1.add 5) w5,hd 10 (p1.add 4) w5,hd 8 (p1.add 3) w5,hd 5 (p1.add 2) w5,hd 3 (p1.add 1) w5,hd 1 p1 w5] w20∧(
Au [iV x6,iV x7,iV x8,iV x9,iV x10,iV x11,iV x12,iV x13,iV x14,iV x15,.slice y19.1 y19.2.1 y19.2.2] p3 0 w20 fun w21=>
A7 [] w21∧(
A8 k0' p3 0 w21 fun x22=>
R ((x22.1,x22.2.1,x22.2.2.1,x22.2.2.2.1,x22.2.2.2.2.1,x22.2.2.2.2.2.1,x22.2.2.2.2.2.2.1,x22.2.2.2.2.2.2.2.1,x22.2.2.2.2.2.2.2.2.1,x22.2.2.2.2.2.2.2.2.2.1,(x22.2.2.2.2.2.2.2.2.2.2.1.1,x22.2.2.2.2.2.2.2.2.2.2.1.2.1,x22.2.2.2.2.2.2.2.2.2.2.1.2.2),()),()) w21)))
theorem law27_setup.ok{s0 s1 s2 s3 s4 s5 s6 s7 s8 s9:Int}{s10:Option Addr×Nat×Nat}{w:World}{R:TR r1'→WP}:law27_setup.wp s0 s1 s2 s3 s4 s5 s6 s7 s8 s9 s10 w R→Ae prog F.law27_setup [.agg #[iV s0,iV s1,iV s2,iV s3,iV s4,iV s5,iV s6,iV s7,iV s8,iV s9,.slice s10.1 s10.2.1 s10.2.2]] w false r1' R:=
  oks Aa Tryz.func26 (.s .n (.s (.pl (ks [0,1,2,3,4,5,6,7,8,9,10,11,12,13,14,15,16,17,18,19,20,21,23,24] (.ef 22 [] (.ef 25 [24] (.tk 26 (.ef 27 [1,3,5,8,10,13,15,17,19,21] .z)))))) .n))
def law27_great.wp(a0 a1 a2:Int)(a3:Bool)(a4:Int)(a5:ByteArray)(a6 a7 a8 a9 a10:Option Addr×Nat×Nat)(w:World)(R:TR r0'→WP):Prop:=
Bf [iV a0,iV a1,iV a2,.bool a3,.int .u32 a4,.string a5,.slice a6.1 a6.2.1 a6.2.2,.slice a7.1 a7.2.1 a7.2.2,.slice a8.1 a8.2.1 a8.2.2,.slice a9.1 a9.2.1 a9.2.2,.slice a10.1 a10.2.1 a10.2.2] T.law27_Act w fun p1 w2=>
A8 xP (p1.add 7) 0 w2 fun x3=>
Bf z7' T.U0 w2 fun p4 w5=>
Au (encs xP x3) p4 0 w5 fun w6=>
ld1 .sl (p1.add 6) w6 fun x7=>
Aj (decide ((x7.2.1:Int)>200)) (
R ((true,()),()) w6) (
ld1 .s (p1.add 5) w6 fun x8=>
Aj (decide ((x8.size:Int)>100)) (
R ((true,()),()) w6) (
ld1 .sl p4 w6 fun x9=>
Aj (decide ((x9.2.1:Int)>100)) (
R ((true,()),()) w6) (
ld1 .sl (p4.add 1) w6 fun x10=>
Aj (decide ((x10.2.1:Int)>100)) (
R ((true,()),()) w6) (
ld1 .sl (p4.add 2) w6 fun x11=>
Aj (decide ((x11.2.1:Int)>100)) (
R ((true,()),()) w6) (
ld1 .sl (p4.add 3) w6 fun x12=>
R ((decide ((x12.2.1:Int)>100),()),()) w6)))))
theorem law27_great.ok{a0 a1 a2:Int}{a3:Bool}{a4:Int}{a5:ByteArray}{a6 a7 a8 a9 a10:Option Addr×Nat×Nat}{w:World}{R:TR r0'→WP}:law27_great.wp a0 a1 a2 a3 a4 a5 a6 a7 a8 a9 a10 w R→Ae prog F.law27_great [.agg #[iV a0,iV a1,iV a2,.bool a3,.int .u32 a4,.string a5,.slice a6.1 a6.2.1 a6.2.2,.slice a7.1 a7.2.1 a7.2.2,.slice a8.1 a8.2.1 a8.2.2,.slice a9.1 a9.2.1 a9.2.2,.slice a10.1 a10.2.1 a10.2.2]] w false r0' R:=
  oks Aa Tryz.func27 .n
def Cf.wp(n:Option Addr)(i k:Int)(on_:Bool)(w:World)(R:TR iT→WP):Prop:=
Aj (Option.isNone n) (
R ((2,()),()) w) (
Aq n fun a1=>
ld1 .p (a1.add 11) w fun x2=>
Ae prog F.Ht [.pointer x2,iV i,iV k,.bool on_] w false iT fun r3 w4=>
R ((r3.1.1,()),()) w4)
theorem Cf.ok{n:Option Addr}{i k:Int}{on_:Bool}{w:World}{R:TR iT→WP}:Cf.wp n i k on_ w R→Ae prog F.Cf [.pointer n,iV i,iV k,.bool on_] w false iT R:=
  oks Aa Tryz.func28 .n
def Ce.wp(n:Option Addr)(c0 c1 c2 c3:Option Addr×Nat×Nat)(w:World)(R:TR iT→WP):Prop:=
Bf [.slice c0.1 c0.2.1 c0.2.2,.slice c1.1 c1.2.1 c1.2.2,.slice c2.1 c2.2.1 c2.2.2,.slice c3.1 c3.2.1 c3.2.2] T.V4 w fun p1 w2=>
A8 xP p1 0 w2 fun x3=>
Ae prog F.Iz [.pointer n,Sv xP x3] w2 false iT fun r4 w5=>
Aj (r4.1.1 !=0) (
R ((r4.1.1,()),()) w5) (
Aq n fun a6=>
ld1 .sl (a6.add 12) w5 fun x7=>
Ci (fun(self8:((Int)×Unit)→WP) (z9:(Int)×Unit) w10=> ∀_:Nat→Value,
Aj (decide (z9.1<(x7.2.1:Int))) (
Ny x7.1 x7.2.1 z9.1 fun a11=>
ld1 .p (a11.add (z9.1.toNat*1)) w10 fun x12=>
ld1 .sl p1 w10 fun x13=>
Ny x13.1 x13.2.1 z9.1 fun a14=>
ld1 KI (a14.add (z9.1.toNat*1)) w10 fun x15=>
Ae prog F.Lr [.pointer x12,iV x15] w10 false iT fun r16 w17=>
self8 (wrap .i64 (z9.1+1),()) w17) (
A8 xP p1 0 w10 fun x18=>
Ae prog F.Mc [.pointer n,Sv xP x18] w10 false dH fun r19 w20=>
Jg w20 fun w21=>
Aq n fun a22=>
ld1 .p (a22.add 11) w21 fun x23=>
Aq n fun a24=>
ld1 (.i .u64) (a24.add 14) w21 fun x25=>
ld1 .sl (p1.add 3) w21 fun x26=>
Ae prog F.Jd [.pointer n] w21 false aT fun r27 w28=>
A7 [hd 12 (p1.add 3) w21,hd 8 (a24.add 14) w21,hd 4 (a22.add 11) w21] w28∧(
Ae prog F.Ov [.pointer x23,.int .u64 x25,.int .u64 r27.1.1,.slice x26.1 x26.2.1 x26.2.2] w28 false dH fun r29 w30=>
A7 [] w30∧(
Aq n fun a31=>
Au [.slice r29.1.1.1 r29.1.1.2.1 r29.1.1.2.2] (a31.add 15) 0 w30 fun w32=>
A7 [] w32∧(
Aq n fun a33=>
ld1 .sl (a33.add 15) w32 fun x34=>
Ci (fun(self35:((Int)×Unit)→WP) (z36:(Int)×Unit) w37=> ∀_:Nat→Value,
Aj (decide (z36.1<(x34.2.1:Int))) (
Ny x34.1 x34.2.1 z36.1 fun a38=>
A8 [KI,KI] (a38.add (z36.1.toNat*2)) 0 w37 fun x39=>
Bf [iV 0,iV 0] T.P6 w37 fun p40 w41=>
Au [iV x39.1,iV x39.2.1] p40 0 w41 fun w42=>
ld1 KI (p40.add 1) w42 fun x43=>
Aj (x43 !=1) (
self35 (wrap .i64 (z36.1+1),()) w42) (
ld1 KI p40 w42 fun x44=>
Ny r19.1.1.1 r19.1.1.2.1 x44 fun a45=>
ld1 .sl (a45.add (x44.toNat*1)) w42 fun x46=>
Ci (fun(self47:((Int)×Unit)→WP) (z48:(Int)×Unit) w49=> ∀_:Nat→Value,
Aj (decide (z48.1<(x46.2.1:Int))) (
Ny x46.1 x46.2.1 z48.1 fun a50=>
ld1 .sl (a50.add (z48.1.toNat*1)) w49 fun x51=>
Jg w49 fun w52=>
Aq n fun a53=>
ld1 .sl (a53.add 12) w52 fun x54=>
Ny x54.1 x54.2.1 z36.1 fun a55=>
ld1 .p (a55.add (z36.1.toNat*1)) w52 fun x56=>
ld1 .sl (p1.add 2) w52 fun x57=>
Ny x57.1 x57.2.1 z36.1 fun a58=>
ld1 KI (a58.add (z36.1.toNat*1)) w52 fun x59=>
Ae prog F.Ia [.pointer x56,iV x59,.slice x51.1 x51.2.1 x51.2.2] w52 false iT fun r60 w61=>
A7 [hd 8 (p1.add 2) w52,hd 3 (a53.add 12) w52] w61∧(
self47 (wrap .i64 (z48.1+1),()) w61)) (
self35 (wrap .i64 (z36.1+1),()) w49)) (0,()) w42)) (
Aq n fun a62=>
ld1 KI (a62.add 13) w37 fun x63=>
Aq n fun a64=>
Au [iV (wrap .i64 (x63+1))] (a64.add 13) 0 w37 fun w65=>
R ((0,()),()) w65)) (0,()) w32))))) (0,()) w5)
theorem Ce.ok{n:Option Addr}{c0 c1 c2 c3:Option Addr×Nat×Nat}{w:World}{R:TR iT→WP}:Ce.wp n c0 c1 c2 c3 w R→Ae prog F.Ce [.pointer n,.agg #[.slice c0.1 c0.2.1 c0.2.2,.slice c1.1 c1.2.1 c1.2.2,.slice c2.1 c2.2.1 c2.2.2,.slice c3.1 c3.2.1 c3.2.2]] w false iT R:=
  oks Aa Tryz.func29 (hs 2 (.s (.s .n (.lp [(24,(.i .i64))] .n)) (.s .n (.s (.pl (ks [0,1,2,3,4,5,6,7,8,9,11,12] (.ef 10 [] (.ef 13 [4,8,12] (.tk 14 (.tk 15 (.ef 16 [] .z))))))) (.s (.s .n (.lp [(61,(.i .i64))] (hs 2 (.s (hs 3 (.lp [(75,(.i .i64))] (hs 2 (.s (.s .n (.pl (ks [0,1,2,3,4,5,6,7,8,9,10,11,12] (.ef 13 [6,11] .z)))) .n)))) .n)))) .n)))))
def Dv.wp(n:Option Addr)(w:World)(R:TR aT→WP):Prop:=
Aj (Option.isNone n) (
R ((0,()),()) w) (
Aq n fun a1=>
ld1 (.i .u64) (a1.add 14) w fun x2=>
R ((x2,()),()) w)
theorem Dv.ok{n:Option Addr}{w:World}{R:TR aT→WP}:Dv.wp n w R→Ae prog F.Dv [.pointer n] w false aT R:=
  oks Aa Tryz.func31 .n
def Jv.wp(n:Option Addr)(w:World)(R:TR dH→WP):Prop:=
Aj (Option.isNone n) (
R (((none,0,0),()),()) w) (
Aq n fun a1=>
ld1 .sl (a1.add 15) w fun x2=>
L9 ((Builtin.append_ #[T.O5,T.O5] T.O5 #[.slice none 0 0,.slice x2.1 x2.2.1 x2.2.2]).run prog w) fun y3 w4=>
R (((y3.1,y3.2.1,y3.2.2),()),()) w4)
theorem Jv.ok{n:Option Addr}{w:World}{R:TR dH→WP}:Jv.wp n w R→Ae prog F.Jv [.pointer n] w false dH R:=
  oks Aa Tryz.func32 .n
def Dq.wp(n:Option Addr)(i:Int)(w:World)(R:TR oI→WP):Prop:=
Bf dE T.Bg w fun p1 w2=>
Ae prog F.Ec [.pointer n,iV i] w2 false iT fun r3 w4=>
Aj (r3.1.1 !=0) (
Au dE p1 0 w4 fun w5=>
A8 Tu p1 0 w5 fun x6=>
R (x6,(r3.1.1,()),()) w5) (
Aq n fun a7=>
ld1 .sl (a7.add 12) w4 fun x8=>
Ny x8.1 x8.2.1 i fun a9=>
ld1 .p (a9.add (i.toNat*1)) w4 fun x10=>
Ae prog F.D6 [.pointer x10] w4 true oI fun r11 w12=>
Au (encs Tu r11.1) p1 0 w12 fun w13=>
A8 Tu p1 0 w13 fun x14=>
R (x14,(r11.2.1.1,()),()) w13)
theorem Dq.ok{n:Option Addr}{i:Int}{w:World}{R:TR oI→WP}:Dq.wp n i w R→Ae prog F.Dq [.pointer n,iV i] w true oI R:=
  oks Aa Tryz.func33 .n
def D7.wp(n:Option Addr)(i raw:Int)(w:World)(R:TR iT→WP):Prop:=
Ae prog F.Ec [.pointer n,iV i] w false iT fun r1 w2=>
Aj (r1.1.1 !=0) (
R ((r1.1.1,()),()) w2) (
Aq n fun a3=>
ld1 .sl (a3.add 12) w2 fun x4=>
Ny x4.1 x4.2.1 i fun a5=>
ld1 .p (a5.add (i.toNat*1)) w2 fun x6=>
Ae prog F.Ji [.pointer x6,.int .u32 raw] w2 false iT fun r7 w8=>
R ((r7.1.1,()),()) w8)
theorem D7.ok{n:Option Addr}{i raw:Int}{w:World}{R:TR iT→WP}:D7.wp n i raw w R→Ae prog F.D7 [.pointer n,iV i,.int .u32 raw] w false iT R:=
  oks Aa Tryz.func34 .n
def Gy.wp(n:Option Addr)(i:Int)(w:World)(R:TR iT→WP):Prop:=
Ae prog F.Ec [.pointer n,iV i] w false iT fun r1 w2=>
Aj (r1.1.1 !=0) (
R ((r1.1.1,()),()) w2) (
Aq n fun a3=>
ld1 .sl (a3.add 12) w2 fun x4=>
Ny x4.1 x4.2.1 i fun a5=>
ld1 .p (a5.add (i.toNat*1)) w2 fun x6=>
Ae prog F.Qg [.pointer x6] w2 false iT fun r7 w8=>
R ((r7.1.1,()),()) w8)
theorem Gy.ok{n:Option Addr}{i:Int}{w:World}{R:TR iT→WP}:Gy.wp n i w R→Ae prog F.Gy [.pointer n,iV i] w false iT R:=
  oks Aa Tryz.func35 .n
def Gz.wp(n:Option Addr)(i tai:Int)(w:World)(R:TR iT→WP):Prop:=
Ae prog F.Ec [.pointer n,iV i] w false iT fun r1 w2=>
Aj (r1.1.1 !=0) (
R ((r1.1.1,()),()) w2) (
Aq n fun a3=>
ld1 .sl (a3.add 12) w2 fun x4=>
Ny x4.1 x4.2.1 i fun a5=>
ld1 .p (a5.add (i.toNat*1)) w2 fun x6=>
Ae prog F.Qc [.pointer x6,iV tai] w2 false iT fun r7 w8=>
R ((r7.1.1,()),()) w8)
theorem Gz.ok{n:Option Addr}{i tai:Int}{w:World}{R:TR iT→WP}:Gz.wp n i tai w R→Ae prog F.Gz [.pointer n,iV i,iV tai] w false iT R:=
  oks Aa Tryz.func36 .n
def Eg.wp(n:Option Addr)(i:Int)(b:Option Addr×Nat×Nat)(w:World)(R:TR iT→WP):Prop:=
Ae prog F.Ec [.pointer n,iV i] w false iT fun r1 w2=>
Aj (r1.1.1 !=0) (
R ((r1.1.1,()),()) w2) (
Ae prog F.Ru [.slice b.1 b.2.1 b.2.2] w2 true H7 fun r3 w4=>
Aj (r3.2.1.1==0) (
R ((1,()),()) w4) (
Aq n fun a5=>
ld1 .sl (a5.add 12) w4 fun x6=>
Ny x6.1 x6.2.1 i fun a7=>
ld1 .p (a7.add (i.toNat*1)) w4 fun x8=>
Ae prog F.Ia [.pointer x8,iV 0,.slice b.1 b.2.1 b.2.2] w4 false iT fun r9 w10=>
R ((r9.1.1,()),()) w10))
theorem Eg.ok{n:Option Addr}{i:Int}{b:Option Addr×Nat×Nat}{w:World}{R:TR iT→WP}:Eg.wp n i b w R→Ae prog F.Eg [.pointer n,iV i,.slice b.1 b.2.1 b.2.2] w false iT R:=
  oks Aa Tryz.func37 .n
def law27_twice.wp(a b:Option Addr)(x0 x1 x2:Int)(x3:Bool)(x4:Int)(x5:ByteArray)(x6 x7 x8 x9 x10:Option Addr×Nat×Nat)(w:World)(R:TR r0'→WP):Prop:=
Bf [iV x0,iV x1,iV x2,.bool x3,.int .u32 x4,.string x5,.slice x6.1 x6.2.1 x6.2.2,.slice x7.1 x7.2.1 x7.2.2,.slice x8.1 x8.2.1 x8.2.2,.slice x9.1 x9.2.1 x9.2.2,.slice x10.1 x10.2.1 x10.2.2] T.law27_Act w fun p1 w2=>
ld1 KI p1 w2 fun x11=>
Aj (x11==0) (
Jg w2 fun w12=>
ld1 KI (p1.add 1) w12 fun x13=>
ld1 KI (p1.add 2) w12 fun x14=>
ld1 .b (p1.add 3) w12 fun x15=>
ld1 KI (p1.add 1) w12 fun x16=>
ld1 KI (p1.add 2) w12 fun x17=>
ld1 .b (p1.add 3) w12 fun x18=>
Ae prog F.Cf [.pointer a,iV x13,iV x14,.bool x15] w12 false iT fun r19 w20=>
A7 [hd 14 (p1.add 3) w12,hd 12 (p1.add 2) w12,hd 10 (p1.add 1) w12,hd 6 (p1.add 3) w12,hd 4 (p1.add 2) w12,hd 2 (p1.add 1) w12] w20∧(
Ae prog F.Cf [.pointer b,iV x16,iV x17,.bool x18] w20 false iT fun r21 w22=>
A7 [hd 6 (p1.add 3) w12,hd 4 (p1.add 2) w12,hd 2 (p1.add 1) w12] w22∧(
R (((r19.1.1==r21.1.1),()),()) w22))) (
Aj (x11==1) (
Jg w2 fun w23=>
ld1 KI (p1.add 1) w23 fun x24=>
ld1 (.i .u32) (p1.add 4) w23 fun x25=>
ld1 KI (p1.add 1) w23 fun x26=>
ld1 (.i .u32) (p1.add 4) w23 fun x27=>
Ae prog F.D7 [.pointer a,iV x24,.int .u32 x25] w23 false iT fun r28 w29=>
A7 [hd 10 (p1.add 4) w23,hd 8 (p1.add 1) w23,hd 4 (p1.add 4) w23,hd 2 (p1.add 1) w23] w29∧(
Ae prog F.D7 [.pointer b,iV x26,.int .u32 x27] w29 false iT fun r30 w31=>
A7 [hd 4 (p1.add 4) w23,hd 2 (p1.add 1) w23] w31∧(
R (((r28.1.1==r30.1.1),()),()) w31))) (
Aj (x11==2) (
Jg w2 fun w32=>
ld1 KI (p1.add 1) w32 fun x33=>
ld1 KI (p1.add 1) w32 fun x34=>
Ae prog F.Gy [.pointer a,iV x33] w32 false iT fun r35 w36=>
A7 [hd 6 (p1.add 1) w32,hd 2 (p1.add 1) w32] w36∧(
Ae prog F.Gy [.pointer b,iV x34] w36 false iT fun r37 w38=>
A7 [hd 2 (p1.add 1) w32] w38∧(
R (((r35.1.1==r37.1.1),()),()) w38))) (
Cc (fun(J39:((Bool)×Unit)→WP)=>
Aj (x11==3) (
J39 ((x11==3),()) w2) (
Aj (x11==4) (
J39 ((x11==4),()) w2) (
Aj (x11==5) (
J39 ((x11==5),()) w2) (
J39 ((x11==6),()) w2)))) (fun(z40:(Bool)×Unit) w41=> ∀_:Nat→Value,
Aj z40.1 (
Jg w41 fun w42=>
A8 xP (p1.add 7) 0 w42 fun x43=>
A8 xP (p1.add 7) 0 w42 fun x44=>
Ae prog F.law27_choice [Sv xP x43] w42 false Zw fun r45 w46=>
A7 [hd 7 ((p1.add 7).add 0) w42,hd 7 ((p1.add 7).add 1) w42,hd 7 ((p1.add 7).add 2) w42,hd 7 ((p1.add 7).add 3) w42,hd 2 ((p1.add 7).add 0) w42,hd 2 ((p1.add 7).add 1) w42,hd 2 ((p1.add 7).add 2) w42,hd 2 ((p1.add 7).add 3) w42] w46∧(
Ae prog F.Ce [.pointer a,Sv xP r45.1] w46 false iT fun r47 w48=>
A7 [hd 7 ((p1.add 7).add 0) w42,hd 7 ((p1.add 7).add 1) w42,hd 7 ((p1.add 7).add 2) w42,hd 7 ((p1.add 7).add 3) w42,hd 2 ((p1.add 7).add 0) w42,hd 2 ((p1.add 7).add 1) w42,hd 2 ((p1.add 7).add 2) w42,hd 2 ((p1.add 7).add 3) w42] w48∧(
Ae prog F.law27_choice [Sv xP x44] w48 false Zw fun r49 w50=>
A7 [hd 7 ((p1.add 7).add 0) w42,hd 7 ((p1.add 7).add 1) w42,hd 7 ((p1.add 7).add 2) w42,hd 7 ((p1.add 7).add 3) w42,hd 2 ((p1.add 7).add 0) w42,hd 2 ((p1.add 7).add 1) w42,hd 2 ((p1.add 7).add 2) w42,hd 2 ((p1.add 7).add 3) w42] w50∧(
Ae prog F.Ce [.pointer b,Sv xP r49.1] w50 false iT fun r51 w52=>
A7 [hd 7 ((p1.add 7).add 0) w42,hd 7 ((p1.add 7).add 1) w42,hd 7 ((p1.add 7).add 2) w42,hd 7 ((p1.add 7).add 3) w42,hd 2 ((p1.add 7).add 0) w42,hd 2 ((p1.add 7).add 1) w42,hd 2 ((p1.add 7).add 2) w42,hd 2 ((p1.add 7).add 3) w42] w52∧(
R (((r47.1.1==r51.1.1),()),()) w52))))) (
Aj (x11==9) (
Jg w41 fun w53=>
ld1 KI (p1.add 1) w53 fun x54=>
ld1 KI (p1.add 2) w53 fun x55=>
ld1 KI (p1.add 1) w53 fun x56=>
ld1 KI (p1.add 2) w53 fun x57=>
Ae prog F.Gz [.pointer a,iV x54,iV x55] w53 false iT fun r58 w59=>
A7 [hd 10 (p1.add 2) w53,hd 8 (p1.add 1) w53,hd 4 (p1.add 2) w53,hd 2 (p1.add 1) w53] w59∧(
Ae prog F.Gz [.pointer b,iV x56,iV x57] w59 false iT fun r60 w61=>
A7 [hd 4 (p1.add 2) w53,hd 2 (p1.add 1) w53] w61∧(
R (((r58.1.1==r60.1.1),()),()) w61))) (
Aj (x11==10) (
Jg w41 fun w62=>
ld1 KI (p1.add 1) w62 fun x63=>
ld1 .sl (p1.add 6) w62 fun x64=>
ld1 KI (p1.add 1) w62 fun x65=>
ld1 .sl (p1.add 6) w62 fun x66=>
Ae prog F.Eg [.pointer a,iV x63,.slice x64.1 x64.2.1 x64.2.2] w62 false iT fun r67 w68=>
A7 [hd 10 (p1.add 6) w62,hd 8 (p1.add 1) w62,hd 4 (p1.add 6) w62,hd 2 (p1.add 1) w62] w68∧(
Ae prog F.Eg [.pointer b,iV x65,.slice x66.1 x66.2.1 x66.2.2] w68 false iT fun r69 w70=>
A7 [hd 4 (p1.add 6) w62,hd 2 (p1.add 1) w62] w70∧(
R (((r67.1.1==r69.1.1),()),()) w70))) (
R ((true,()),()) w41)))))))
theorem law27_twice.ok{a b:Option Addr}{x0 x1 x2:Int}{x3:Bool}{x4:Int}{x5:ByteArray}{x6 x7 x8 x9 x10:Option Addr×Nat×Nat}{w:World}{R:TR r0'→WP}:law27_twice.wp a b x0 x1 x2 x3 x4 x5 x6 x7 x8 x9 x10 w R→Ae prog F.law27_twice [.pointer a,.pointer b,.agg #[iV x0,iV x1,iV x2,.bool x3,.int .u32 x4,.string x5,.slice x6.1 x6.2.1 x6.2.2,.slice x7.1 x7.2.1 x7.2.2,.slice x8.1 x8.2.1 x8.2.2,.slice x9.1 x9.2.1 x9.2.2,.slice x10.1 x10.2.1 x10.2.2]] w false r0' R:=
  oks Aa Tryz.func38 (.s .n (.s (hs 2 (.s (.s (.pl (ks [0,1,2,3,4,5,6,8,9,10,11,12,13,14] (.ef 7 [] (.ef 15 [10,12,14] (.tk 16 (.tk 17 .z)))))) .n) (.s .n (.s (.s (.pl (ks [0,1,2,3,4,6,7,8,9,10] (.ef 5 [] (.ef 11 [8,10] (.tk 12 (.tk 13 .z)))))) .n) (.s .n (.s (.s (.pl (ks [0,1,2,4,5,6] (.ef 3 [] (.ef 7 [6] (.tk 8 (.tk 9 .z)))))) .n) (.ct [(54,.b)] .n (.s (.s (.pl (ks [0,1,2,5,6,7] (.ef 3 [] (.ef 4 [] (.ef 8 [] (.ef 9 [] (.tk 10 (.tk 11 .z)))))))) .n) (.s .n (.s (.s (.pl (ks [0,1,2,3,4,6,7,8,9,10] (.ef 5 [] (.ef 11 [8,10] (.tk 12 (.tk 13 .z)))))) .n) (.s .n (.s (.s (.pl (ks [0,1,2,3,4,6,7,8,9,10] (.ef 5 [] (.ef 11 [8,10] (.tk 12 (.tk 13 .z)))))) .n) .n)))))))))))) .n))
def Jz.wp(n:Option Addr)(i:Int)(label:ByteArray)(w:World)(R:TR xB→WP):Prop:=
Ae prog F.Ec [.pointer n,iV i] w false iT fun r1 w2=>
Aj (r1.1.1 !=0) (
R ((0,()),(r1.1.1,()),()) w2) (
Aq n fun a3=>
ld1 .sl (a3.add 12) w2 fun x4=>
Ny x4.1 x4.2.1 i fun a5=>
ld1 .p (a5.add (i.toNat*1)) w2 fun x6=>
Ae prog F.Qj [.pointer x6,.string label] w2 true xB fun r7 w8=>
R ((r7.1.1,()),(r7.2.1.1,()),()) w8)
theorem Jz.ok{n:Option Addr}{i:Int}{label:ByteArray}{w:World}{R:TR xB→WP}:Jz.wp n i label w R→Ae prog F.Jz [.pointer n,iV i,.string label] w true xB R:=
  oks Aa Tryz.func41 .n
def Ot.wp(s0 s1 s2 s3 s4 s5 s6 s7 s8 s9:Int)(s10:Bool)(w:World)(R:TR r0'→WP):Prop:=
Bf [iV s0,iV s1,iV s2,iV s3,iV s4,iV s5,iV s6,iV s7,iV s8,iV s9,.bool s10] T.Xj w fun p1 w2=>
ld1 KI p1 w2 fun x3=>
ld1 KI (p1.add 1) w2 fun x4=>
ld1 KI (p1.add 2) w2 fun x5=>
ld1 KI (p1.add 3) w2 fun x6=>
ld1 KI (p1.add 4) w2 fun x7=>
Ae prog F.Vq [iV x3,iV x4,iV x5,iV x6,iV x7] w2 false r0' fun r8 w9=>
Aj r8.1.1 (
A8 k2' p1 0 w9 fun x10=>
Ae prog F.Jy [Sv k2' x10] w9 false Ajw fun r11 w12=>
Ae prog F.U3 [Sv Aab r11.1] w12 false r0' fun r13 w14=>
Aj r13.1.1 (
ld1 KI (p1.add 8) w14 fun x15=>
Aj (decide (x15≥1)) (
ld1 KI (p1.add 8) w14 fun x16=>
ld1 KI (p1.add 1) w14 fun x17=>
Aj (decide (x16≤x17)) (
ld1 KI (p1.add 9) w14 fun x18=>
Aj (decide (x18≥0)) (
ld1 KI (p1.add 9) w14 fun x19=>
R ((decide (x19≤20),()),()) w14) (
R ((false,()),()) w14)) (
R ((false,()),()) w14)) (
R ((false,()),()) w14)) (
R ((false,()),()) w14)) (
R ((false,()),()) w9)
theorem Ot.ok{s0 s1 s2 s3 s4 s5 s6 s7 s8 s9:Int}{s10:Bool}{w:World}{R:TR r0'→WP}:Ot.wp s0 s1 s2 s3 s4 s5 s6 s7 s8 s9 s10 w R→Ae prog F.Ot [.agg #[iV s0,iV s1,iV s2,iV s3,iV s4,iV s5,iV s6,iV s7,iV s8,iV s9,.bool s10]] w false r0' R:=
  oks Aa Tryz.func50 .n
def Pi.wp(n:Int)(w:World)(R:TR r2'→WP):Prop:=
Aj (decide (n<1)) (
R ((none,()),(1,()),()) w) (
Aj (decide (n>64)) (
R ((none,()),(1,()),()) w) (
L9 ((Instr.makeSlice T.Ux (iV n) (iV n)).run prog w) fun y1 w2=>
Bf [iV n,.slice y1.1 y1.2.1 y1.2.2] T.Ahf w2 fun p3 w4=>
R ((some p3,()),(0,()),()) w4))
theorem Pi.ok{n:Int}{w:World}{R:TR r2'→WP}:Pi.wp n w R→Ae prog F.Pi [iV n] w true r2' R:=
  oks Aa Tryz.func51 .n
def Uz.wp(s0 s1 s2 s3 s4 s5 s6 s7 s8 s9:Int)(s10:Bool)(leaps:Option Addr)(w:World)(R:TR r2'→WP):Prop:=
Bf [iV s0,iV s1,iV s2,iV s3,iV s4,iV s5,iV s6,iV s7,iV s8,iV s9,.bool s10] T.jP w fun p1 w2=>
A8 k2' p1 0 w2 fun x3=>
Ae prog F.Nq [Sv k2' x3] w2 false r0' fun r4 w5=>
Aj (!r4.1.1) (
R ((none,()),(1,()),()) w5) (
Jg w5 fun w6=>
A8 k2' p1 0 w6 fun x7=>
Ae prog F.Wl [] w6 false Arw fun r8 w9=>
A7 [hd 0 (p1.add 0) w6,hd 0 (p1.add 1) w6,hd 0 (p1.add 2) w6,hd 0 (p1.add 3) w6,hd 0 (p1.add 4) w6,hd 0 (p1.add 5) w6,hd 0 (p1.add 6) w6,hd 0 (p1.add 7) w6,hd 0 (p1.add 8) w6,hd 0 (p1.add 9) w6,hd 0 (p1.add 10) w6] w9∧(
Bf [iV x7.1,iV x7.2.1,iV x7.2.2.1,iV x7.2.2.2.1,iV x7.2.2.2.2.1,iV x7.2.2.2.2.2.1,iV x7.2.2.2.2.2.2.1,iV x7.2.2.2.2.2.2.2.1,iV x7.2.2.2.2.2.2.2.2.1,iV x7.2.2.2.2.2.2.2.2.2.1,.bool x7.2.2.2.2.2.2.2.2.2.2.1,.pointer leaps,.bool false,uV 0,.pointer none,.pointer none,.pointer none,.pointer none,.pointer none,.bool false,iV 0,uV 0,iV 0,uV 0,iV 0,iV 0,.pointer r8.1.1,.pointer none] T.Ad6 w9 fun p10 w11=>
A7 [hd 0 (p1.add 0) w6,hd 0 (p1.add 1) w6,hd 0 (p1.add 2) w6,hd 0 (p1.add 3) w6,hd 0 (p1.add 4) w6,hd 0 (p1.add 5) w6,hd 0 (p1.add 6) w6,hd 0 (p1.add 7) w6,hd 0 (p1.add 8) w6,hd 0 (p1.add 9) w6,hd 0 (p1.add 10) w6] w11∧(
ld1 KI ((p1.add 1).add 3) w11 fun x12=>
Ae prog F.Xz [iV x12] w11 true r2' fun r13 w14=>
Au [.pointer r13.1.1] (p10.add 14) 0 w14 fun w15=>
ld1 KI p1 w15 fun x16=>
A8 aU (p1.add 1) 0 w15 fun x17=>
Ae prog F.Ui [iV x16,Sv aU x17] w15 true r2' fun r18 w19=>
Au [.pointer r18.1.1] (p10.add 15) 0 w19 fun w20=>
ld1 KI p1 w20 fun x21=>
Ae prog F.Wp [iV x21] w20 true r2' fun r22 w23=>
Au [.pointer r22.1.1] (p10.add 16) 0 w23 fun w24=>
ld1 KI p1 w24 fun x25=>
Ae prog F.Xq [iV x25] w24 true r2' fun r26 w27=>
Au [.pointer r26.1.1] (p10.add 17) 0 w27 fun w28=>
ld1 KI (p1.add 8) w28 fun x29=>
Ae prog F.Vm [iV x29] w28 true r2' fun r30 w31=>
Au [.pointer r30.1.1] (p10.add 18) 0 w31 fun w32=>
Ae prog F.Jc [iV 8] w32 true r2' fun r33 w34=>
Au [.pointer r33.1.1] (p10.add 27) 0 w34 fun w35=>
R ((some p10,()),(0,()),()) w35)))
theorem Uz.ok{s0 s1 s2 s3 s4 s5 s6 s7 s8 s9:Int}{s10:Bool}{leaps:Option Addr}{w:World}{R:TR r2'→WP}:Uz.wp s0 s1 s2 s3 s4 s5 s6 s7 s8 s9 s10 leaps w R→Ae prog F.Uz [.agg #[iV s0,iV s1,iV s2,iV s3,iV s4,iV s5,iV s6,iV s7,iV s8,iV s9,.bool s10],.pointer leaps] w true r2' R:=
  oks Aa Tryz.func52 (hs 2 (.s (.pl (.tk 0 (.tk 1 (.ef 2 [] (.tk 3 (.ef 4 [] (.tk 5 .z))))))) .n))
def Lj.wp(s0 s1 s2 s3 s4 s5 s6 s7 s8 s9:Int)(s10:Option Addr×Nat×Nat)(i:Int)(w:World)(R:TR r5'→WP):Prop:=
Bf [iV s0,iV s1,iV s2,iV s3,iV s4,iV s5,iV s6,iV s7,iV s8,iV s9,.slice s10.1 s10.2.1 s10.2.2] T.mQ w fun p1 w2=>
Bf Aqn T.jP w2 fun p3 w4=>
ld1 KI (p1.add 5) w4 fun x5=>
dF (if 1>x5 then 1 else x5) (
Cc (fun(J6:((Int)×Unit)→WP)=>
ld1 .sl (p1.add 10) w4 fun x9=>
Aj (decide (i<(x9.2.1:Int))) (
ld1 .sl (p1.add 10) w4 fun x10=>
Ny x10.1 x10.2.1 i fun a11=>
ld1 KI (a11.add (i.toNat*1)) w4 fun x12=>
J6 (x12,()) w4) (
J6 (Int.tmod i (if 1>x5 then 1 else x5),()) w4)) (fun(z7:(Int)×Unit) w8=> ∀_:Nat→Value,
A8 aU (p1.add 1) 0 w8 fun x13=>
ld1 KI (p1.add 5) w8 fun x14=>
ld1 KI (p1.add 6) w8 fun x15=>
ld1 KI (p1.add 7) w8 fun x16=>
ld1 KI (p1.add 8) w8 fun x17=>
ld1 KI (p1.add 9) w8 fun x18=>
Au [iV i,iV x13.1,iV x13.2.1,iV x13.2.2.1,iV x13.2.2.2.1,iV x14,iV x15,iV z7.1,iV x16,iV x17,.bool (i==x18)] p3 0 w8 fun w19=>
A8 k2' p3 0 w19 fun x20=>
R (x20,()) w19))
theorem Lj.ok{s0 s1 s2 s3 s4 s5 s6 s7 s8 s9:Int}{s10:Option Addr×Nat×Nat}{i:Int}{w:World}{R:TR r5'→WP}:Lj.wp s0 s1 s2 s3 s4 s5 s6 s7 s8 s9 s10 i w R→Ae prog F.Lj [.agg #[iV s0,iV s1,iV s2,iV s3,iV s4,iV s5,iV s6,iV s7,iV s8,iV s9,.slice s10.1 s10.2.1 s10.2.2],iV i] w false r5' R:=
  oks Aa Tryz.func53 (hs 2 (.ct [(5,(.i .i64))] .n .n))
def Eu.wp(n:Option Addr)(i:Int)(w:World)(R:TR Arw→WP):Prop:=
Aj (Option.isNone n) (
R ((none,()),()) w) (
Aj (decide (i<0)) (
R ((none,()),()) w) (
Aq n fun a1=>
ld1 .sl (a1.add 12) w fun x2=>
Aj (decide (i≥(x2.2.1:Int))) (
R ((none,()),()) w) (
Aq n fun a3=>
ld1 .sl (a3.add 12) w fun x4=>
Ny x4.1 x4.2.1 i fun a5=>
ld1 .p (a5.add (i.toNat*1)) w fun x6=>
R ((x6,()),()) w)))
theorem Eu.ok{n:Option Addr}{i:Int}{w:World}{R:TR Arw→WP}:Eu.wp n i w R→Ae prog F.Eu [.pointer n,iV i] w false Arw R:=
  oks Aa Tryz.func54 .n
def Cb.wp(n:Option Addr)(w:World)(R:TR r3'→WP):Prop:=
Bf z2' T.nK w fun p1 w2=>
Aj (Option.isNone n) (
Au z2' p1 0 w2 fun w3=>
A8 k1' p1 0 w3 fun x4=>
R (x4,()) w3) (
Aq n fun a5=>
ld1 .b (a5.add 12) w2 fun x6=>
Aj (!x6) (
Aq n fun a7=>
ld1 KU (a7.add 13) w2 fun x8=>
Au [.bool false,uV x8,iV 0,iV 0,.bool false,.bool false,iV 0,iV 0,iV 0,.bool false,iV 0,iV 0] p1 0 w2 fun w9=>
A8 k1' p1 0 w9 fun x10=>
R (x10,()) w9) (
Jg w2 fun w11=>
Aq n fun a12=>
ld1 KU (a12.add 13) w11 fun x13=>
Aq n fun a14=>
ld1 .p (a14.add 14) w11 fun x15=>
Aq n fun a16=>
ld1 .p (a16.add 15) w11 fun x17=>
Aq x17 fun a18=>
ld1 .p a18 w11 fun x19=>
Aq n fun a20=>
ld1 .p (a20.add 15) w11 fun x21=>
Aq x21 fun a22=>
ld1 .p a22 w11 fun x23=>
Aq n fun a24=>
ld1 .p (a24.add 15) w11 fun x25=>
Aq n fun a26=>
ld1 .p (a26.add 15) w11 fun x27=>
Aq n fun a28=>
ld1 .p (a28.add 16) w11 fun x29=>
Aq n fun a30=>
ld1 .p (a30.add 16) w11 fun x31=>
Aq n fun a32=>
ld1 .p (a32.add 17) w11 fun x33=>
Aq n fun a34=>
ld1 .p (a34.add 27) w11 fun x35=>
Aq n fun a36=>
ld1 .p (a36.add 26) w11 fun x37=>
Ae prog F.Ez [.pointer x15] w11 false iT fun r38 w39=>
A7 [hd 58 (a36.add 26) w11,hd 53 (a34.add 27) w11,hd 48 (a32.add 17) w11,hd 43 (a30.add 16) w11,hd 38 (a28.add 16) w11,hd 33 (a26.add 15) w11,hd 28 (a24.add 15) w11,hd 23 a22 w11,hd 20 (a20.add 15) w11,hd 15 a18 w11,hd 12 (a16.add 15) w11,hd 7 (a14.add 14) w11,hd 3 (a12.add 13) w11] w39∧(
Ae prog F.Dc [.pointer x19] w39 false iT fun r40 w41=>
A7 [hd 58 (a36.add 26) w11,hd 53 (a34.add 27) w11,hd 48 (a32.add 17) w11,hd 43 (a30.add 16) w11,hd 38 (a28.add 16) w11,hd 33 (a26.add 15) w11,hd 28 (a24.add 15) w11,hd 23 a22 w11,hd 20 (a20.add 15) w11,hd 15 a18 w11,hd 12 (a16.add 15) w11,hd 7 (a14.add 14) w11,hd 3 (a12.add 13) w11] w41∧(
Ae prog F.Bc [.pointer x23] w41 false r0' fun r42 w43=>
A7 [hd 58 (a36.add 26) w11,hd 53 (a34.add 27) w11,hd 48 (a32.add 17) w11,hd 43 (a30.add 16) w11,hd 38 (a28.add 16) w11,hd 33 (a26.add 15) w11,hd 28 (a24.add 15) w11,hd 23 a22 w11,hd 20 (a20.add 15) w11,hd 15 a18 w11,hd 12 (a16.add 15) w11,hd 7 (a14.add 14) w11,hd 3 (a12.add 13) w11] w43∧(
Ae prog F.Ba [.pointer x25] w43 false r0' fun r44 w45=>
A7 [hd 58 (a36.add 26) w11,hd 53 (a34.add 27) w11,hd 48 (a32.add 17) w11,hd 43 (a30.add 16) w11,hd 38 (a28.add 16) w11,hd 33 (a26.add 15) w11,hd 28 (a24.add 15) w11,hd 23 a22 w11,hd 20 (a20.add 15) w11,hd 15 a18 w11,hd 12 (a16.add 15) w11,hd 7 (a14.add 14) w11,hd 3 (a12.add 13) w11] w45∧(
Ae prog F.Hg [.pointer x27] w45 false iT fun r46 w47=>
A7 [hd 58 (a36.add 26) w11,hd 53 (a34.add 27) w11,hd 48 (a32.add 17) w11,hd 43 (a30.add 16) w11,hd 38 (a28.add 16) w11,hd 33 (a26.add 15) w11,hd 28 (a24.add 15) w11,hd 23 a22 w11,hd 20 (a20.add 15) w11,hd 15 a18 w11,hd 12 (a16.add 15) w11,hd 7 (a14.add 14) w11,hd 3 (a12.add 13) w11] w47∧(
Ae prog F.Ja [.pointer x29] w47 false iT fun r48 w49=>
A7 [hd 58 (a36.add 26) w11,hd 53 (a34.add 27) w11,hd 48 (a32.add 17) w11,hd 43 (a30.add 16) w11,hd 38 (a28.add 16) w11,hd 33 (a26.add 15) w11,hd 28 (a24.add 15) w11,hd 23 a22 w11,hd 20 (a20.add 15) w11,hd 15 a18 w11,hd 12 (a16.add 15) w11,hd 7 (a14.add 14) w11,hd 3 (a12.add 13) w11] w49∧(
Ae prog F.En [.pointer x31] w49 false iT fun r50 w51=>
A7 [hd 58 (a36.add 26) w11,hd 53 (a34.add 27) w11,hd 48 (a32.add 17) w11,hd 43 (a30.add 16) w11,hd 38 (a28.add 16) w11,hd 33 (a26.add 15) w11,hd 28 (a24.add 15) w11,hd 23 a22 w11,hd 20 (a20.add 15) w11,hd 15 a18 w11,hd 12 (a16.add 15) w11,hd 7 (a14.add 14) w11,hd 3 (a12.add 13) w11] w51∧(
Ae prog F.Nv [.pointer x33] w51 false r0' fun r52 w53=>
A7 [hd 58 (a36.add 26) w11,hd 53 (a34.add 27) w11,hd 48 (a32.add 17) w11,hd 43 (a30.add 16) w11,hd 38 (a28.add 16) w11,hd 33 (a26.add 15) w11,hd 28 (a24.add 15) w11,hd 23 a22 w11,hd 20 (a20.add 15) w11,hd 15 a18 w11,hd 12 (a16.add 15) w11,hd 7 (a14.add 14) w11,hd 3 (a12.add 13) w11] w53∧(
Ae prog F.Di [.pointer x35] w53 false iT fun r54 w55=>
A7 [hd 58 (a36.add 26) w11,hd 53 (a34.add 27) w11,hd 48 (a32.add 17) w11,hd 43 (a30.add 16) w11,hd 38 (a28.add 16) w11,hd 33 (a26.add 15) w11,hd 28 (a24.add 15) w11,hd 23 a22 w11,hd 20 (a20.add 15) w11,hd 15 a18 w11,hd 12 (a16.add 15) w11,hd 7 (a14.add 14) w11,hd 3 (a12.add 13) w11] w55∧(
Ae prog F.Qh [.pointer x37] w55 false iT fun r56 w57=>
A7 [hd 53 (a34.add 27) w11,hd 48 (a32.add 17) w11,hd 43 (a30.add 16) w11,hd 38 (a28.add 16) w11,hd 33 (a26.add 15) w11,hd 28 (a24.add 15) w11,hd 23 a22 w11,hd 20 (a20.add 15) w11,hd 15 a18 w11,hd 12 (a16.add 15) w11,hd 7 (a14.add 14) w11,hd 3 (a12.add 13) w11] w57∧(
Au [.bool true,uV x13,iV r38.1.1,iV r40.1.1,.bool r42.1.1,.bool r44.1.1,iV r46.1.1,iV r48.1.1,iV r50.1.1,.bool r52.1.1,iV r54.1.1,iV r56.1.1] p1 0 w57 fun w58=>
A7 [] w58∧(
A8 k1' p1 0 w58 fun x59=>
R (x59,()) w58)))))))))))))
theorem Cb.ok{n:Option Addr}{w:World}{R:TR r3'→WP}:Cb.wp n w R→Ae prog F.Cb [.pointer n] w false r3' R:=
  oks Aa Tryz.func55 (hs 3 (.s (.pl (ks [0,1,2,3,4,5,6,7,9,10,11,12,13,14,15,17,18,19,20,21,22,23,25,26,27,28,30,31,32,33,35,36,37,38,40,41,42,43,45,46,47,48,50,51,52,53,55,56,57,58] (.ef 8 [] (.ef 16 [] (.ef 24 [] (.ef 29 [] (.ef 34 [] (.ef 39 [] (.ef 44 [] (.ef 49 [] (.ef 54 [] (.ef 59 [58] (.tk 60 (.ef 61 [3,7,12,15,20,23,28,33,38,43,48,53] .z)))))))))))))) .n))
def Ht.wp(l:Option Addr)(i k:Int)(on_:Bool)(w:World)(R:TR iT→WP):Prop:=
Aj (Option.isNone l) (
R ((2,()),()) w) (
Ae prog F.Ho [.pointer l,iV i,iV k] w false r0' fun r1 w2=>
Aj (!r1.1.1) (
R ((1,()),()) w2) (
Jg w2 fun w3=>
Aq l fun a4=>
ld1 .sl (a4.add 1) w3 fun x5=>
Ny x5.1 x5.2.1 i fun a6=>
ld1 (.i .u64) (a6.add (i.toNat*1)) w3 fun x7=>
fJ k (
Ny x5.1 x5.2.1 i fun a8=>
Au [.int .u64 (Lm .andNot .u64 x7 (Sz .u64 1 k))] (a8.add (i.toNat*1)) 0 w3 fun w9=>
A7 [] w9∧(
Jg w9 fun w10=>
Aq l fun a11=>
ld1 .sl (a11.add 1) w10 fun x12=>
Ny x12.1 x12.2.1 k fun a13=>
ld1 (.i .u64) (a13.add (k.toNat*1)) w10 fun x14=>
fJ i (
Ny x12.1 x12.2.1 k fun a15=>
Au [.int .u64 (Lm .andNot .u64 x14 (Sz .u64 1 i))] (a15.add (k.toNat*1)) 0 w10 fun w16=>
A7 [] w16∧(
Aj on_ (
Jg w16 fun w17=>
Aq l fun a18=>
ld1 .sl (a18.add 1) w17 fun x19=>
Ny x19.1 x19.2.1 i fun a20=>
ld1 (.i .u64) (a20.add (i.toNat*1)) w17 fun x21=>
fJ k (
Ny x19.1 x19.2.1 i fun a22=>
Au [.int .u64 (Lm .or .u64 x21 (Sz .u64 1 k))] (a22.add (i.toNat*1)) 0 w17 fun w23=>
A7 [] w23∧(
Jg w23 fun w24=>
Aq l fun a25=>
ld1 .sl (a25.add 1) w24 fun x26=>
Ny x26.1 x26.2.1 k fun a27=>
ld1 (.i .u64) (a27.add (k.toNat*1)) w24 fun x28=>
fJ i (
Ny x26.1 x26.2.1 k fun a29=>
Au [.int .u64 (Lm .or .u64 x28 (Sz .u64 1 i))] (a29.add (k.toNat*1)) 0 w24 fun w30=>
A7 [] w30∧(
R ((0,()),()) w30))))) (
R ((0,()),()) w16)))))))
theorem Ht.ok{l:Option Addr}{i k:Int}{on_:Bool}{w:World}{R:TR iT→WP}:Ht.wp l i k on_ w R→Ae prog F.Ht [.pointer l,iV i,iV k,.bool on_] w false iT R:=
  oks Aa Tryz.func58 (hs 2 (.s (.pl (ks [0,1,2,3,4,5,6,7,8,9,10] (.ef 11 [3,6] .z))) (.s (.pl (ks [0,1,2,3,4,5,6,7,8,9,10] (.ef 11 [3,6] .z))) (.s (.s .n (.s (.s (.pl (ks [0,1,2,3,4,5,6,7,8,9,10] (.ef 11 [3,6] .z))) (.pl (ks [0,1,2,3,4,5,6,7,8,9,10] (.ef 11 [3,6] .z)))) .n)) .n))))
def Iz.wp(n:Option Addr)(c0 c1 c2 c3:Option Addr×Nat×Nat)(w:World)(R:TR iT→WP):Prop:=
Bf [.slice c0.1 c0.2.1 c0.2.2,.slice c1.1 c1.2.1 c1.2.2,.slice c2.1 c2.2.1 c2.2.2,.slice c3.1 c3.2.1 c3.2.2] T.V4 w fun p1 w2=>
Aj (Option.isNone n) (
R ((2,()),()) w2) (
Jg w2 fun w3=>
ld1 .sl p1 w3 fun x4=>
Aq n fun a5=>
ld1 .sl (a5.add 12) w3 fun x6=>
Aj ((x4.2.1:Int) !=(x6.2.1:Int)) (
R ((1,()),()) w3) (
ld1 .sl (p1.add 3) w3 fun x7=>
Aq n fun a8=>
ld1 .sl (a8.add 12) w3 fun x9=>
Aj (decide ((x7.2.1:Int)>(x9.2.1:Int))) (
R ((1,()),()) w3) (
ld1 .sl (p1.add 1) w3 fun x10=>
Ae prog F.Ip [.pointer n,.slice x10.1 x10.2.1 x10.2.2] w3 false r0' fun r11 w12=>
A7 [hd 23 (p1.add 1) w3,hd 16 (a8.add 12) w3,hd 11 (p1.add 3) w3,hd 6 (a5.add 12) w3,hd 1 p1 w3] w12∧(
Aj (!r11.1.1) (
R ((1,()),()) w12) (
ld1 .sl (p1.add 2) w12 fun x13=>
Ae prog F.Ip [.pointer n,.slice x13.1 x13.2.1 x13.2.2] w12 false r0' fun r14 w15=>
A7 [hd 23 (p1.add 1) w3,hd 16 (a8.add 12) w3,hd 11 (p1.add 3) w3,hd 6 (a5.add 12) w3,hd 1 p1 w3] w15∧(
Aj (!r14.1.1) (
R ((1,()),()) w15) (
Aq n fun a16=>
ld1 .sl (a16.add 12) w15 fun x17=>
Ci (fun(self18:((Int)×Unit)→WP) (z19:(Int)×Unit) w20=> ∀_:Nat→Value,
Aj (decide (z19.1<(x17.2.1:Int))) (
Ny x17.1 x17.2.1 z19.1 fun a21=>
ld1 .p (a21.add (z19.1.toNat*1)) w20 fun x22=>
ld1 .sl p1 w20 fun x23=>
Ny x23.1 x23.2.1 z19.1 fun a24=>
ld1 KI (a24.add (z19.1.toNat*1)) w20 fun x25=>
Ae prog F.Sm [.pointer x22,iV x25] w20 false r0' fun r26 w27=>
Aj (!r26.1.1) (
R ((1,()),()) w27) (
self18 (wrap .i64 (z19.1+1),()) w27)) (
Aq n fun a28=>
ld1 .sl (a28.add 12) w20 fun x29=>
Ci (fun(self30:((Int)×Unit)→WP) (z31:(Int)×Unit) w32=> ∀_:Nat→Value,
Aj (decide (z31.1<(x29.2.1:Int))) (
Ny x29.1 x29.2.1 z31.1 fun a33=>
ld1 .p (a33.add (z31.1.toNat*1)) w32 fun x34=>
Ae prog F.Cb [.pointer x34] w32 false r3' fun r35 w36=>
Bf z2' T.nK w36 fun p37 w38=>
Au (encs k1' r35.1) p37 0 w38 fun w39=>
Jg w39 fun w40=>
ld1 .b p37 w40 fun x41=>
Aj x41 (
ld1 KI (p37.add 2) w40 fun x42=>
ld1 .sl p1 w40 fun x43=>
Ny x43.1 x43.2.1 z31.1 fun a44=>
ld1 KI (a44.add (z31.1.toNat*1)) w40 fun x45=>
Aj (decide ((wrap .i64 (x42+x45))>1125899906842624)) (
R ((8,()),()) w40) (
self30 (wrap .i64 (z31.1+1),()) w40)) (
self30 (wrap .i64 (z31.1+1),()) w40)) (
R ((0,()),()) w32)) (0,()) w20)) (0,()) w15)))))))
theorem Iz.ok{n:Option Addr}{c0 c1 c2 c3:Option Addr×Nat×Nat}{w:World}{R:TR iT→WP}:Iz.wp n c0 c1 c2 c3 w R→Ae prog F.Iz [.pointer n,.agg #[.slice c0.1 c0.2.1 c0.2.2,.slice c1.1 c1.2.1 c1.2.2,.slice c2.1 c2.2.1 c2.2.2,.slice c3.1 c3.2.1 c3.2.2]] w false iT R:=
  oks Aa Tryz.func59 (hs 2 (.s (.s (.pl (ks [0,1,2,3,4,5,6,7,8,9,10,11,12,13,14,15,16,17,18,19,20,21,22,23] (.ef 24 [] (ks [25,26,27,28,29,30] (.ef 31 [30] (.tk 32 (.tk 33 .z))))))) .n) (.s (.s .n (.lp [(51,(.i .i64))] .n)) (.s (.s .n (.lp [(70,(.i .i64))] (hs 2 (.s (hs 2 (.s (.pl (ks [0,1,2,3,4,5,6,7,8,9,10,11,12] .z)) .n)) .n)))) .n))))
def Lr.wp(n:Option Addr)(ticks:Int)(w:World)(R:TR iT→WP):Prop:=
Ae prog F.Cm [.pointer n] w false iT fun r1 w2=>
Aj (r1.1.1 !=0) (
R ((r1.1.1,()),()) w2) (
Aq n fun a3=>
ld1 .p (a3.add 14) w2 fun x4=>
Ae prog F.Qd [.pointer x4,iV ticks] w2 false iT fun r5 w6=>
R ((r5.1.1,()),()) w6)
theorem Lr.ok{n:Option Addr}{ticks:Int}{w:World}{R:TR iT→WP}:Lr.wp n ticks w R→Ae prog F.Lr [.pointer n,iV ticks] w false iT R:=
  oks Aa Tryz.func60 .n
def Mc.wp(n:Option Addr)(c0 c1 c2 c3:Option Addr×Nat×Nat)(w:World)(R:TR dH→WP):Prop:=
Bf [.slice c0.1 c0.2.1 c0.2.2,.slice c1.1 c1.2.1 c1.2.2,.slice c2.1 c2.2.1 c2.2.2,.slice c3.1 c3.2.1 c3.2.2] T.V4 w fun p1 w2=>
Aq n fun a3=>
ld1 .sl (a3.add 12) w2 fun x4=>
L9 ((Instr.makeSlice T.jU (iV (x4.2.1:Int)) (iV (x4.2.1:Int))).run prog w2) fun y5 w6=>
Aq n fun a7=>
Au [.int .u64 0] (a7.add 14) 0 w6 fun w8=>
Aq n fun a9=>
ld1 .sl (a9.add 12) w8 fun x10=>
Ci (fun(self11:((Int)×Unit)→WP) (z12:(Int)×Unit) w13=> ∀_:Nat→Value,
Aj (decide (z12.1<(x10.2.1:Int))) (
Ny x10.1 x10.2.1 z12.1 fun a14=>
ld1 .p (a14.add (z12.1.toNat*1)) w13 fun x15=>
Jg w13 fun w16=>
Aq n fun a17=>
ld1 KI (a17.add 13) w16 fun x18=>
ld1 .sl (p1.add 1) w16 fun x19=>
Ny x19.1 x19.2.1 z12.1 fun a20=>
ld1 KI (a20.add (z12.1.toNat*1)) w16 fun x21=>
Ae prog F.Hy [.pointer x15,iV x18,iV x21] w16 true xA fun r22 w23=>
A7 [hd 8 (p1.add 1) w16] w23∧(
Ny y5.1 y5.2.1 z12.1 fun a24=>
Au [.slice r22.1.1.1 r22.1.1.2.1 r22.1.1.2.2] (a24.add (z12.1.toNat*1)) 0 w23 fun w25=>
A7 [] w25∧(
Ny y5.1 y5.2.1 z12.1 fun a26=>
ld1 .sl (a26.add (z12.1.toNat*1)) w25 fun x27=>
Aj (decide ((x27.2.1:Int)>0)) (
Jg w25 fun w28=>
Aq n fun a29=>
ld1 (.i .u64) (a29.add 14) w28 fun x30=>
fJ z12.1 (
Aq n fun a31=>
Au [.int .u64 (Lm .or .u64 x30 (Sz .u64 1 z12.1))] (a31.add 14) 0 w28 fun w32=>
A7 [] w32∧(
self11 (wrap .i64 (z12.1+1),()) w32))) (
self11 (wrap .i64 (z12.1+1),()) w25)))) (
R (((y5.1,y5.2.1,y5.2.2),()),()) w13)) (0,()) w8
theorem Mc.ok{n:Option Addr}{c0 c1 c2 c3:Option Addr×Nat×Nat}{w:World}{R:TR dH→WP}:Mc.wp n c0 c1 c2 c3 w R→Ae prog F.Mc [.pointer n,.agg #[.slice c0.1 c0.2.1 c0.2.2,.slice c1.1 c1.2.1 c1.2.2,.slice c2.1 c2.2.1 c2.2.2,.slice c3.1 c3.2.1 c3.2.2]] w false dH R:=
  oks Aa Tryz.func61 (hs 3 (.s (.s .n (.lp [(22,(.i .i64))] (hs 2 (.s (.s .n (.s (.pl (ks [0,1,2,3,4,5,6,7,8,9,10,11] (.ef 12 [6,11] (ks [13,14,15,16] (.ef 17 [8] .z))))) (.s .n (.s (.pl (ks [0,1,2,3,4,5,6,7,8] (.ef 9 [3] .z))) .n)))) .n)))) .n))
def Ov.wp(l:Option Addr)(send awake:Int)(lost:Option Addr×Nat×Nat)(w:World)(R:TR dH→WP):Prop:=
Bf jR T.Adx w fun p1 w2=>
Au [.int .u64 send,.int .u64 awake,.slice lost.1 lost.2.1 lost.2.2] p1 0 w2 fun w3=>
Ae prog F.Fb [.pointer l] w3 false iT fun r4 w5=>
Ci (fun(self6:((Option Addr×Nat×Nat)×(Int)×Unit)→WP) (z7:(Option Addr×Nat×Nat)×(Int)×Unit) w8=> ∀_:Nat→Value,
Aj (decide (z7.2.1<r4.1.1)) (
Jg w8 fun w9=>
A8 Aku p1 0 w9 fun x10=>
Ae prog F.Gx [.pointer l,iV z7.2.1] w9 false aT fun r11 w12=>
A7 [hd 1 (p1.add 0) w9,hd 1 (p1.add 1) w9,hd 1 (p1.add 2) w9] w12∧(
Ae prog F.I4 [Sv Aku x10,iV z7.2.1,.int .u64 (Lm .and .u64 r11.1.1 send)] w12 false Aj7 fun r13 w14=>
A7 [hd 1 (p1.add 0) w9,hd 1 (p1.add 1) w9,hd 1 (p1.add 2) w9] w14∧(
Bf [iV r13.1.1,iV r13.1.2.1] T.P6 w14 fun p15 w16=>
A7 [hd 1 (p1.add 0) w9,hd 1 (p1.add 1) w9,hd 1 (p1.add 2) w9] w16∧(
L9 ((Builtin.append_ #[T.O5,T.O5] T.O5 #[.slice z7.1.1 z7.1.2.1 z7.1.2.2,.slice (some p15) 1 1]).run prog w16) fun y17 w18=>
A7 [hd 1 (p1.add 0) w9,hd 1 (p1.add 1) w9,hd 1 (p1.add 2) w9] w18∧(
self6 ((y17.1,y17.2.1,y17.2.2),wrap .i64 (z7.2.1+1),()) w18))))) (
R (((z7.1.1,z7.1.2.1,z7.1.2.2),()),()) w8)) ((none,0,0),0,()) w5
theorem Ov.ok{l:Option Addr}{send awake:Int}{lost:Option Addr×Nat×Nat}{w:World}{R:TR dH→WP}:Ov.wp l send awake lost w R→Ae prog F.Ov [.pointer l,.int .u64 send,.int .u64 awake,.slice lost.1 lost.2.1 lost.2.2] w false dH R:=
  oks Aa Tryz.func62 (hs 3 (.s (.s .n (.lp [(9,.sl),(18,(.i .i64))] (hs 2 (.s (.s .n (.pl (ks [0,1,2,3,4,6] (.ef 5 [] (.tk 7 (.ef 8 [] (.ef 9 [] (.ef 10 [] (.tk 11 .z))))))))) .n)))) .n))
def Jd.wp(n:Option Addr)(w:World)(R:TR aT→WP):Prop:=
Aq n fun a1=>
ld1 .sl (a1.add 12) w fun x2=>
Ci (fun(self3:((Int)×(Int)×Unit)→WP) (z4:(Int)×(Int)×Unit) w5=> ∀_:Nat→Value,
Aj (decide (z4.2.1<(x2.2.1:Int))) (
Ny x2.1 x2.2.1 z4.2.1 fun a6=>
ld1 .p (a6.add (z4.2.1.toNat*1)) w5 fun x7=>
Ae prog F.Iy [.pointer x7] w5 false r0' fun r8 w9=>
Aj r8.1.1 (
fJ z4.2.1 (
self3 (Lm .or .u64 z4.1 (Sz .u64 1 z4.2.1),wrap .i64 (z4.2.1+1),()) w9)) (
self3 (z4.1,wrap .i64 (z4.2.1+1),()) w9)) (
R ((z4.1,()),()) w5)) (0,0,()) w
theorem Jd.ok{n:Option Addr}{w:World}{R:TR aT→WP}:Jd.wp n w R→Ae prog F.Jd [.pointer n] w false aT R:=
  oks Aa Tryz.func63 (hs 2 (.s (.s .n (.lp [(3,(.i .u64)),(11,(.i .i64))] .n)) .n))
def Ia.wp(n:Option Addr)(jitter:Int)(b:Option Addr×Nat×Nat)(w:World)(R:TR iT→WP):Prop:=
Ae prog F.Iu [.pointer n,iV jitter] w true xB fun r1 w2=>
Aj (r1.2.1.1 !=0) (
R ((r1.2.1.1,()),()) w2) (
Ae prog F.Ru [.slice b.1 b.2.1 b.2.2] w2 true H7 fun r3 w4=>
Jg w4 fun w5=>
Aj (r3.2.1.1 !=0) (
R ((r3.2.1.1,()),()) w5) (
Aq n fun a6=>
ld1 KI a6 w5 fun x7=>
ivK prog r3.1.1 "Sender" [] w5 false iT fun r8 w9=>
A7 [hd 9 a6 w5] w9∧(
Aj (r8.1.1==x7) (
R ((r3.2.1.1,()),()) w9) (
Ae prog F.Gm [.pointer n,r3.1.1,iV r1.1.1] w9 false iT fun r10 w11=>
R ((r10.1.1,()),()) w11))))
theorem Ia.ok{n:Option Addr}{jitter:Int}{b:Option Addr×Nat×Nat}{w:World}{R:TR iT→WP}:Ia.wp n jitter b w R→Ae prog F.Ia [.pointer n,iV jitter,.slice b.1 b.2.1 b.2.2] w false iT R:=
  oks Aa Tryz.func64 (hs 4 (.s (.s (.pl (ks [0,1,2,3,5,6,7,8,9] (.ef 4 [] (.tk 10 (.tk 11 .z))))) .n) .n))
def Ec.wp(n:Option Addr)(i:Int)(w:World)(R:TR iT→WP):Prop:=
Aj (Option.isNone n) (
R ((2,()),()) w) (
Ae prog F.Eu [.pointer n,iV i] w false Arw fun r1 w2=>
Aj (Option.isNone r1.1.1) (
R ((7,()),()) w2) (
R ((0,()),()) w2))
theorem Ec.ok{n:Option Addr}{i:Int}{w:World}{R:TR iT→WP}:Ec.wp n i w R→Ae prog F.Ec [.pointer n,iV i] w false iT R:=
  oks Aa Tryz.func65 .n
def D6.wp(n:Option Addr)(w:World)(R:TR oI→WP):Prop:=
Bf dE T.Bg w fun p1 w2=>
Ae prog F.Cm [.pointer n] w2 false iT fun r3 w4=>
Aj (r3.1.1 !=0) (
Au dE p1 0 w4 fun w5=>
A8 Tu p1 0 w5 fun x6=>
R (x6,(r3.1.1,()),()) w5) (
Jg w4 fun w7=>
Aq n fun a8=>
ld1 .p (a8.add 18) w7 fun x9=>
Aq n fun a10=>
ld1 .p (a10.add 15) w7 fun x11=>
Aq n fun a12=>
ld1 .p (a12.add 14) w7 fun x13=>
Ae prog F.Ez [.pointer x13] w7 false iT fun r14 w15=>
A7 [hd 11 (a12.add 14) w7,hd 7 (a10.add 15) w7,hd 3 (a8.add 18) w7] w15∧(
Ae prog F.Ar [.pointer x9,.pointer x11,iV r14.1.1] w15 true oI fun r16 w17=>
A7 [hd 11 (a12.add 14) w7] w17∧(
Au (encs Tu r16.1) p1 0 w17 fun w18=>
A7 [] w18∧(
A8 Tu p1 0 w18 fun x19=>
R (x19,(r16.2.1.1,()),()) w18))))
theorem D6.ok{n:Option Addr}{w:World}{R:TR oI→WP}:D6.wp n w R→Ae prog F.D6 [.pointer n] w true oI R:=
  oks Aa Tryz.func66 (hs 2 (.s (.pl (ks [0,1,2,3,4,5,6,7,8,9,10,11] (.ef 12 [] (.ef 13 [3,7] (.tk 14 (.tk 15 (.ef 16 [11] (.tk 17 .z)))))))) .n))
def Ji.wp(n:Option Addr)(raw:Int)(w:World)(R:TR iT→WP):Prop:=
Aj (Option.isNone n) (
R ((2,()),()) w) (
Aq n fun a1=>
Au [.bool true] (a1.add 12) 0 w fun w2=>
Aq n fun a3=>
ld1 KU (a3.add 13) w2 fun x4=>
Aq n fun a5=>
Au [uV (wrap .u16 (x4+1))] (a5.add 13) 0 w2 fun w6=>
Aq n fun a7=>
ld1 .p (a7.add 14) w6 fun x8=>
Ae prog F.Nr [.pointer x8,.int .u32 raw] w6 true [] fun r9 w10=>
Jg w10 fun w11=>
Aq n fun a12=>
ld1 .p (a12.add 15) w11 fun x13=>
Aq n fun a14=>
ld1 KU (a14.add 13) w11 fun x15=>
Ae prog F.Lh [.pointer x13,uV x15] w11 true [] fun r16 w17=>
A7 [] w17∧(
Aq n fun a18=>
ld1 .p (a18.add 16) w17 fun x19=>
Ae prog F.Gf [.pointer x19] w17 true [] fun r20 w21=>
Aq n fun a22=>
ld1 .p (a22.add 17) w21 fun x23=>
Ae prog F.Pe [.pointer x23] w21 true [] fun r24 w25=>
Aq n fun a26=>
ld1 .p (a26.add 18) w25 fun x27=>
Ae prog F.Fe [.pointer x27] w25 true [] fun r28 w29=>
Aq n fun a30=>
Ae prog F.Js [.pointer (some (a30.add 19))] w29 true [] fun r31 w32=>
Aq n fun a33=>
ld1 .p (a33.add 26) w32 fun x34=>
Ae prog F.Md [.pointer x34] w32 true [] fun r35 w36=>
Aq n fun a37=>
ld1 .p (a37.add 27) w36 fun x38=>
Ae prog F.Eh [.pointer x38] w36 true [] fun r39 w40=>
R ((0,()),()) w40))
theorem Ji.ok{n:Option Addr}{raw:Int}{w:World}{R:TR iT→WP}:Ji.wp n raw w R→Ae prog F.Ji [.pointer n,.int .u32 raw] w false iT R:=
  oks Aa Tryz.func67 (hs 5 (.s (.pl (ks [0,1,2,3,4,5,6,7] (.ef 8 [3,7] .z))) .n))
def Qg.wp(n:Option Addr)(w:World)(R:TR iT→WP):Prop:=
Ae prog F.Cm [.pointer n] w false iT fun r1 w2=>
Aj (r1.1.1==0) (
Aq n fun a3=>
Au [.bool false] (a3.add 12) 0 w2 fun w4=>
R ((r1.1.1,()),()) w4) (
R ((r1.1.1,()),()) w2)
theorem Qg.ok{n:Option Addr}{w:World}{R:TR iT→WP}:Qg.wp n w R→Ae prog F.Qg [.pointer n] w false iT R:=
  oks Aa Tryz.func68 .n
def Qc.wp(n:Option Addr)(tai:Int)(w:World)(R:TR iT→WP):Prop:=
Ae prog F.Cm [.pointer n] w false iT fun r1 w2=>
Aj (r1.1.1 !=0) (
R ((r1.1.1,()),()) w2) (
Aq n fun a3=>
ld1 .b (a3.add 10) w2 fun x4=>
Aj (!x4) (
R ((7,()),()) w2) (
Ae prog F.D6 [.pointer n] w2 true oI fun r5 w6=>
Bf dE T.Bg w6 fun p7 w8=>
Au (encs Tu r5.1) p7 0 w8 fun w9=>
Aj (r5.2.1.1 !=0) (
R ((r5.2.1.1,()),()) w9) (
Jg w9 fun w10=>
Aq n fun a11=>
Aq n fun a12=>
ld1 KI a12 w10 fun x13=>
A8 Tu p7 0 w10 fun x14=>
(
Ae prog F.Et [.pointer (some (a11.add 19)),iV x13,Sv Tu x14,iV tai] w10 true Aii fun Zb w16=>
A7 [hd 8 (p7.add 0) w10,hd 8 (p7.add 1) w10,hd 8 (p7.add 2) w10,hd 8 (p7.add 3) w10,hd 8 (p7.add 4) w10,hd 7 a12 w10] w16∧(
Bf Aph T.Bh w16 fun p17 w18=>
A7 [hd 8 (p7.add 0) w10,hd 8 (p7.add 1) w10,hd 8 (p7.add 2) w10,hd 8 (p7.add 3) w10,hd 8 (p7.add 4) w10,hd 7 a12 w10] w18∧(
Au (encs U9 Zb.1) p17 0 w18 fun w19=>
A7 [] w19∧(
Aj (Zb.2.1.1 !=0) (
R ((Zb.2.1.1,()),()) w19) (
Ae prog F.Ib [.pointer n] w19 false iT fun r20 w21=>
R ((r20.1.1,()),()) w21)))))∧(
Bf Aph T.Bh w10 fun p22 w23=>
A7 [hd 8 (p7.add 0) w10,hd 8 (p7.add 1) w10,hd 8 (p7.add 2) w10,hd 8 (p7.add 3) w10,hd 8 (p7.add 4) w10,hd 7 a12 w10] w23∧(
Ae prog F.Et [.pointer (some (a11.add 19)),iV x13,Sv Tu x14,iV tai] w23 true Aii fun r24 w25=>
A7 [] w25∧(
Au (encs U9 r24.1) p22 0 w25 fun w26=>
A7 [] w26∧(
Aj (r24.2.1.1 !=0) (
R ((r24.2.1.1,()),()) w26) (
Ae prog F.Ib [.pointer n] w26 false iT fun r27 w28=>
R ((r27.1.1,()),()) w28))))))))
theorem Qc.ok{n:Option Addr}{tai:Int}{w:World}{R:TR iT→WP}:Qc.wp n tai w R→Ae prog F.Qc [.pointer n,iV tai] w false iT R:=
  oks Aa Tryz.func69 (hs 5 (.s (.s (.pl (ks [0,1,2,3,4,5,6,7,8,9] (.two 10 14 (ks [11,12,13] (.ef 14 [] (.ef 15 [7,8] (.tk 16 .z)))) (.ef 10 [7,8] (ks [11,12,13] (.ef 15 [] (.tk 16 .z))))))) .n) .n))
def Ru.wp(b:Option Addr×Nat×Nat)(w:World)(R:TR H7→WP):Prop:=
Aj (decide ((b.2.1:Int)>64)) (
R ((.nilIface,()),(5,()),()) w) (
Ae prog F.Xu [.slice b.1 b.2.1 b.2.2] w false Arw fun r1 w2=>
Ae prog F.Nj [.pointer r1.1.1,iV 1] w2 true Zz fun r3 w4=>
Ae prog F.Sr [.int .u64 r3.1.1] w4 false fC fun r5 w6=>
nlK r5.1.1 fun b7=>
Aj b7 (
R ((.nilIface,()),(3,()),()) w6) (
Ae prog F.Qo [r5.1.1] w6 false iT fun r8 w9=>
Aj ((b.2.1:Int) !=(wrap .i64 (r8.1.1+3))) (
R ((.nilIface,()),(3,()),()) w9) (
Ae prog F.Xy [.slice b.1 b.2.1 b.2.2] w9 true bF fun r10 w11=>
Aj (!r10.2.1.1) (
R ((.nilIface,()),(4,()),()) w11) (
ivK prog r5.1.1 "angelus/frame.fields" [] w11 false dH fun r12 w13=>
Ci (fun(self14:((Option Addr×Nat×Nat)×(Int)×Unit)→WP) (z15:(Option Addr×Nat×Nat)×(Int)×Unit) w16=> ∀_:Nat→Value,
Aj (decide (z15.2.1<(r12.1.1.2.1:Int))) (
Ny r12.1.1.1 r12.1.1.2.1 z15.2.1 fun a17=>
A8 Aab (a17.add (z15.2.1.toNat*3)) 0 w16 fun x18=>
Bf Ao4 T.Dl w16 fun p19 w20=>
Au (encs Aab x18) p19 0 w20 fun w21=>
ld1 KI p19 w21 fun x22=>
Ae prog F.Nj [.pointer r1.1.1,iV x22] w21 true Zz fun r23 w24=>
Bf [.int .u64 r23.1.1] T.uint64 w24 fun p25 w26=>
L9 ((Builtin.append_ #[T.Ux,T.Ux] T.Ux #[.slice z15.1.1 z15.1.2.1 z15.1.2.2,.slice (some p25) 1 1]).run prog w26) fun y27 w28=>
self14 ((y27.1,y27.2.1,y27.2.2),wrap .i64 (z15.2.1+1),()) w28) (
Ae prog F.Qn [r5.1.1,.slice z15.1.1 z15.1.2.1 z15.1.2.2] w16 false fC fun r29 w30=>
Ae prog F.Ew [r29.1.1] w30 false r0' fun r31 w32=>
Aj (!r31.1.1) (
R ((.nilIface,()),(3,()),()) w32) (
R ((r29.1.1,()),(0,()),()) w32))) ((none,0,0),0,()) w13))))
theorem Ru.ok{b:Option Addr×Nat×Nat}{w:World}{R:TR H7→WP}:Ru.wp b w R→Ae prog F.Ru [.slice b.1 b.2.1 b.2.2] w true H7 R:=
  oks Aa Tryz.func70 (hs 8 (.s (.s .n (.lp [(10,.sl),(47,(.i .i64))] .n)) .n))
def Qj.wp(n:Option Addr)(label:ByteArray)(w:World)(R:TR xB→WP):Prop:=
Ae prog F.D6 [.pointer n] w true oI fun r1 w2=>
Bf dE T.Bg w2 fun p3 w4=>
Au (encs Tu r1.1) p3 0 w4 fun w5=>
Aj (r1.2.1.1 !=0) (
R ((0,()),(r1.2.1.1,()),()) w5) (
Jg w5 fun w6=>
Aq n fun a7=>
ld1 .p (a7.add 26) w6 fun x8=>
Aq n fun a9=>
ld1 .p (a9.add 14) w6 fun x10=>
A8 Tu p3 0 w6 fun x11=>
Ae prog F.Ez [.pointer x10] w6 false iT fun r12 w13=>
A7 [hd 10 (p3.add 0) w6,hd 10 (p3.add 1) w6,hd 10 (p3.add 2) w6,hd 10 (p3.add 3) w6,hd 10 (p3.add 4) w6,hd 8 (a9.add 14) w6,hd 3 (a7.add 26) w6] w13∧(
Ae prog F.Qk [.pointer x8,.string label,iV r12.1.1,Sv Tu x11] w13 true xB fun r14 w15=>
A7 [hd 8 (a9.add 14) w6] w15∧(
R ((r14.1.1,()),(r14.2.1.1,()),()) w15)))
theorem Qj.ok{n:Option Addr}{label:ByteArray}{w:World}{R:TR xB→WP}:Qj.wp n label w R→Ae prog F.Qj [.pointer n,.string label] w true xB R:=
  oks Aa Tryz.func72 (hs 3 (.s (.pl (ks [0,1,2,3,4,5,6,7,8,10] (.ef 9 [] (.ef 11 [3,10] (ks [12,13,14,15] .z))))) .n))
def Oq.wp(n:Option Addr)(w:World)(R:TR Us→WP):Prop:=
Bf z8' T.U1 w fun p1 w2=>
Ae prog F.Cm [.pointer n] w2 false iT fun r3 w4=>
Aj (r3.1.1 !=0) (
Au z8' p1 0 w4 fun w5=>
A8 Ig p1 0 w5 fun x6=>
R (x6,(false,()),()) w5) (
Aq n fun a7=>
ld1 .p (a7.add 26) w4 fun x8=>
Ae prog F.Ou [.pointer x8] w4 true Us fun r9 w10=>
Au (encs Ig r9.1) p1 0 w10 fun w11=>
A8 Ig p1 0 w11 fun x12=>
R (x12,(r9.2.1.1,()),()) w11)
theorem Oq.ok{n:Option Addr}{w:World}{R:TR Us→WP}:Oq.wp n w R→Ae prog F.Oq [.pointer n] w true Us R:=
  oks Aa Tryz.func73 .n
def Vq.wp(me timeout ignore need Aw:Int)(w:World)(R:TR r0'→WP):Prop:=
Ae prog F.Ve [iV me,iV timeout,iV ignore] w false r0' fun r1 w2=>
Aj r1.1.1 (
Aj (decide (need≥1)) (
Aj (decide (need≤8)) (
Aj (decide (Aw≥0)) (
R ((decide (Aw≤10),()),()) w2) (
R ((false,()),()) w2)) (
R ((false,()),()) w2)) (
R ((false,()),()) w2)) (
R ((false,()),()) w2)
theorem Vq.ok{me timeout ignore need Aw:Int}{w:World}{R:TR r0'→WP}:Vq.wp me timeout ignore need Aw w R→Ae prog F.Vq [iV me,iV timeout,iV ignore,iV need,iV Aw] w false r0' R:=
  oks Aa Tryz.func93 .n
def U3.wp(p0 p1 p2:Int)(w:World)(R:TR r0'→WP):Prop:=
Bf [iV p0,iV p1,iV p2] T.rU w fun p3 w4=>
ld1 KI p3 w4 fun x5=>
Aj (decide (x5≥1)) (
ld1 KI p3 w4 fun x6=>
Aj (decide (x6≤64)) (
ld1 KI (p3.add 1) w4 fun x7=>
Aj (decide (x7≥1)) (
ld1 KI (p3.add 1) w4 fun x8=>
ld1 KI p3 w4 fun x9=>
Aj (decide (x8≤x9)) (
ld1 KI (p3.add 2) w4 fun x10=>
Aj (decide (x10≥0)) (
ld1 KI (p3.add 2) w4 fun x11=>
ld1 KI p3 w4 fun x12=>
R ((decide (x11<x12),()),()) w4) (
R ((false,()),()) w4)) (
R ((false,()),()) w4)) (
R ((false,()),()) w4)) (
R ((false,()),()) w4)) (
R ((false,()),()) w4)
theorem U3.ok{p0 p1 p2:Int}{w:World}{R:TR r0'→WP}:U3.wp p0 p1 p2 w R→Ae prog F.U3 [.agg #[iV p0,iV p1,iV p2]] w false r0' R:=
  oks Aa Tryz.func94 .n
def Jy.wp(s0 s1 s2 s3 s4 s5 s6 s7 s8 s9:Int)(s10:Bool)(w:World)(R:TR Ajw→WP):Prop:=
Bf [iV s0,iV s1,iV s2,iV s3,iV s4,iV s5,iV s6,iV s7,iV s8,iV s9,.bool s10] T.Xj w fun p1 w2=>
Bf Ao4 T.rU w2 fun p3 w4=>
ld1 KI (p1.add 5) w4 fun x5=>
ld1 KI (p1.add 6) w4 fun x6=>
ld1 KI (p1.add 7) w4 fun x7=>
Au [iV x5,iV x6,iV x7] p3 0 w4 fun w8=>
A8 Aab p3 0 w8 fun x9=>
R (x9,()) w8
theorem Jy.ok{s0 s1 s2 s3 s4 s5 s6 s7 s8 s9:Int}{s10:Bool}{w:World}{R:TR Ajw→WP}:Jy.wp s0 s1 s2 s3 s4 s5 s6 s7 s8 s9 s10 w R→Ae prog F.Jy [.agg #[iV s0,iV s1,iV s2,iV s3,iV s4,iV s5,iV s6,iV s7,iV s8,iV s9,.bool s10]] w false Ajw R:=
  oks Aa Tryz.func95 .n
def Nq.wp(s0 s1 s2 s3 s4 s5 s6 s7 s8 s9:Int)(s10:Bool)(w:World)(R:TR r0'→WP):Prop:=
Bf [iV s0,iV s1,iV s2,iV s3,iV s4,iV s5,iV s6,iV s7,iV s8,iV s9,.bool s10] T.jP w fun p1 w2=>
ld1 KI p1 w2 fun x3=>
Aj (decide (x3≥0)) (
ld1 KI p1 w2 fun x4=>
Aj (decide (x4<64)) (
A8 aU (p1.add 1) 0 w2 fun x5=>
Ae prog F.Hu [Sv aU x5] w2 false r0' fun r6 w7=>
Aj r6.1.1 (
A8 Aab (p1.add 5) 0 w7 fun x8=>
Ae prog F.Ie [Sv Aab x8] w7 false r0' fun r9 w10=>
Aj r9.1.1 (
ld1 KI (p1.add 8) w10 fun x11=>
Aj (decide (x11≥1)) (
ld1 KI (p1.add 8) w10 fun x12=>
ld1 KI (p1.add 1) w10 fun x13=>
Aj (decide (x12≤x13)) (
ld1 KI (p1.add 9) w10 fun x14=>
Aj (decide (x14≥0)) (
ld1 KI (p1.add 9) w10 fun x15=>
R ((decide (x15≤20),()),()) w10) (
R ((false,()),()) w10)) (
R ((false,()),()) w10)) (
R ((false,()),()) w10)) (
R ((false,()),()) w10)) (
R ((false,()),()) w7)) (
R ((false,()),()) w2)) (
R ((false,()),()) w2)
theorem Nq.ok{s0 s1 s2 s3 s4 s5 s6 s7 s8 s9:Int}{s10:Bool}{w:World}{R:TR r0'→WP}:Nq.wp s0 s1 s2 s3 s4 s5 s6 s7 s8 s9 s10 w R→Ae prog F.Nq [.agg #[iV s0,iV s1,iV s2,iV s3,iV s4,iV s5,iV s6,iV s7,iV s8,iV s9,.bool s10]] w false r0' R:=
  oks Aa Tryz.func96 .n
def Wl.wp(w:World)(R:TR Arw→WP):Prop:=
Ae prog F.Gt [iV 16] w true r2' fun r1 w2=>
Bf [.pointer r1.1.1,iV 0] T.Aef w2 fun p3 w4=>
R ((some p3,()),()) w4
theorem Wl.ok{w:World}{R:TR Arw→WP}:Wl.wp w R→Ae prog F.Wl [] w false Arw R:=
  oks Aa Tryz.func97 .n
def Xz.wp(Aw:Int)(w:World)(R:TR r2'→WP):Prop:=
Aj (decide (Aw<0)) (
R ((none,()),(1,()),()) w) (
Aj (decide (Aw>10)) (
R ((none,()),(1,()),()) w) (
Bf [iV Aw,.int .u32 0,iV 0] T.Acm w fun p1 w2=>
R ((some p1,()),(0,()),()) w2))
theorem Xz.ok{Aw:Int}{w:World}{R:TR r2'→WP}:Xz.wp Aw w R→Ae prog F.Xz [iV Aw] w true r2' R:=
  oks Aa Tryz.func98 .n
def Ui.wp(me r0 r1 r2 r3:Int)(w:World)(R:TR r2'→WP):Prop:=
Bf [iV r0,iV r1,iV r2,iV r3] T.fQ w fun p1 w2=>
A8 aU p1 0 w2 fun x3=>
Ae prog F.Hu [Sv aU x3] w2 false r0' fun r4 w5=>
Aj (!r4.1.1) (
R ((none,()),(1,()),()) w5) (
A8 [KI,KI] p1 0 w5 fun x6=>
Ae prog F.Wv [iV me,.agg #[iV x6.1,iV x6.2.1]] w5 true r2' fun r7 w8=>
Aj (r7.2.1.1 !=0) (
R ((none,()),(r7.2.1.1,()),()) w8) (
A8 aU p1 0 w8 fun x9=>
Bf [.pointer r7.1.1,iV me,iV x9.1,iV x9.2.1,iV x9.2.2.1,iV x9.2.2.2.1,.slice none 0 0,iV 0,iV 0,iV 0] T.Aaa w8 fun p10 w11=>
R ((some p10,()),(0,()),()) w11))
theorem Ui.ok{me r0 r1 r2 r3:Int}{w:World}{R:TR r2'→WP}:Ui.wp me r0 r1 r2 r3 w R→Ae prog F.Ui [iV me,.agg #[iV r0,iV r1,iV r2,iV r3]] w true r2' R:=
  oks Aa Tryz.func99 .n
def Wp.wp(me:Int)(w:World)(R:TR r2'→WP):Prop:=
Aj (decide (me<0)) (
R ((none,()),(1,()),()) w) (
Aj (decide (me≥64)) (
R ((none,()),(1,()),()) w) (
Bf [iV me,iV (Int.negSucc 0),iV (Int.negSucc 0)] T.Aao w fun p1 w2=>
R ((some p1,()),(0,()),()) w2))
theorem Wp.ok{me:Int}{w:World}{R:TR r2'→WP}:Wp.wp me w R→Ae prog F.Wp [iV me] w true r2' R:=
  oks Aa Tryz.func100 .n
def Xq.wp(me:Int)(w:World)(R:TR r2'→WP):Prop:=
Aj (decide (me<0)) (
R ((none,()),(1,()),()) w) (
Aj (decide (me≥64)) (
R ((none,()),(1,()),()) w) (
Bf [iV me,iV 0,iV 0,.bool false,iV 0,iV 0,iV 0] T.Ad3 w fun p1 w2=>
R ((some p1,()),(0,()),()) w2))
theorem Xq.ok{me:Int}{w:World}{R:TR r2'→WP}:Xq.wp me w R→Ae prog F.Xq [iV me] w true r2' R:=
  oks Aa Tryz.func101 .n
def Vm.wp(limit:Int)(w:World)(R:TR r2'→WP):Prop:=
Aj (decide (limit<1)) (
R ((none,()),(1,()),()) w) (
Aj (decide (limit>1000)) (
R ((none,()),(1,()),()) w) (
Bf [iV limit,iV 0,iV 0,iV 0,iV 0,uV 0,iV 0,.bool false] T.uJ w fun p1 w2=>
R ((some p1,()),(0,()),()) w2))
theorem Vm.ok{limit:Int}{w:World}{R:TR r2'→WP}:Vm.wp limit w R→Ae prog F.Vm [iV limit] w true r2' R:=
  oks Aa Tryz.func102 .n
def Jc.wp(room:Int)(w:World)(R:TR r2'→WP):Prop:=
Aj (decide (room<1)) (
R ((none,()),(1,()),()) w) (
Aj (decide (room>64)) (
R ((none,()),(1,()),()) w) (
L9 ((Instr.makeSlice T.Zh (iV room) (iV room)).run prog w) fun y1 w2=>
Bf [.slice y1.1 y1.2.1 y1.2.2,iV 0,iV 0] T.jJ w2 fun p3 w4=>
R ((some p3,()),(0,()),()) w4))
theorem Jc.ok{room:Int}{w:World}{R:TR r2'→WP}:Jc.wp room w R→Ae prog F.Jc [iV room] w true r2' R:=
  oks Aa Tryz.func103 .n
def Ez.wp(c:Option Addr)(w:World)(R:TR iT→WP):Prop:=
Aj (Option.isNone c) (
R ((0,()),()) w) (
Aq c fun a1=>
ld1 KI (a1.add 2) w fun x2=>
R ((x2,()),()) w)
theorem Ez.ok{c:Option Addr}{w:World}{R:TR iT→WP}:Ez.wp c w R→Ae prog F.Ez [.pointer c] w false iT R:=
  oks Aa Tryz.func104 .n
def Dc.wp(e:Option Addr)(w:World)(R:TR iT→WP):Prop:=
Aj (Option.isNone e) (
R (((Int.negSucc 0),()),()) w) (
Aq e fun a1=>
ld1 KI (a1.add 5) w fun x2=>
R ((x2,()),()) w)
theorem Dc.ok{e:Option Addr}{w:World}{R:TR iT→WP}:Dc.wp e w R→Ae prog F.Dc [.pointer e] w false iT R:=
  oks Aa Tryz.func105 .n
def Bc.wp(e:Option Addr)(w:World)(R:TR r0'→WP):Prop:=
Jg w fun w1=>
Aj (!(Option.isNone e)) (
Aq e fun a2=>
ld1 KI (a2.add 5) w1 fun x3=>
Aq e fun a4=>
ld1 KI a4 w1 fun x5=>
R (((x3==x5),()),()) w1) (
R ((false,()),()) w1)
theorem Bc.ok{e:Option Addr}{w:World}{R:TR r0'→WP}:Bc.wp e w R→Ae prog F.Bc [.pointer e] w false r0' R:=
  oks Aa Tryz.func106 (.s .n (.s (.pl (ks [0,1,2,3,4,5,6,7,8,9,10,11,12,13] .z)) .n))
def Ba.wp(f:Option Addr)(w:World)(R:TR r0'→WP):Prop:=
Jg w fun w1=>
Aj (!(Option.isNone f)) (
Aq f fun a2=>
ld1 .p a2 w1 fun x3=>
Ae prog F.Bc [.pointer x3] w1 false r0' fun r4 w5=>
A7 [hd 6 a2 w1] w5∧(
Aj r4.1.1 (
R ((true,()),()) w5) (
Aq f fun a6=>
Aq f fun a7=>
ld1 KI ((a7.add 2).add 2) w5 fun x8=>
Ae prog F.Dk [.pointer (some (a6.add 6))] w5 false iT fun r9 w10=>
A7 [hd 17 ((a7.add 2).add 2) w5,hd 6 a2 w1] w10∧(
R ((decide (r9.1.1≥x8),()),()) w10)))) (
R ((false,()),()) w1)
theorem Ba.ok{f:Option Addr}{w:World}{R:TR r0'→WP}:Ba.wp f w R→Ae prog F.Ba [.pointer f] w false r0' R:=
  oks Aa Tryz.func107 (.s .n (.s (.pl (ks [0,1,2,3,4,5,6] (.ef 7 [] (ks [8,9,10,11,13,14,15,16,17] (.ef 12 [] (ks [18,19,20,21] .z)))))) .n))
def Hg.wp(f:Option Addr)(w:World)(R:TR iT→WP):Prop:=
Aj (Option.isNone f) (
R ((0,()),()) w) (
Aq f fun a1=>
Ae prog F.Dk [.pointer (some (a1.add 6))] w false iT fun r2 w3=>
R ((r2.1.1,()),()) w3)
theorem Hg.ok{f:Option Addr}{w:World}{R:TR iT→WP}:Hg.wp f w R→Ae prog F.Hg [.pointer f] w false iT R:=
  oks Aa Tryz.func108 .n
def Ja.wp(l:Option Addr)(w:World)(R:TR iT→WP):Prop:=
Aj (Option.isNone l) (
R (((Int.negSucc 0),()),()) w) (
Aq l fun a1=>
ld1 KI (a1.add 1) w fun x2=>
R ((x2,()),()) w)
theorem Ja.ok{l:Option Addr}{w:World}{R:TR iT→WP}:Ja.wp l w R→Ae prog F.Ja [.pointer l] w false iT R:=
  oks Aa Tryz.func109 .n
def En.wp(l:Option Addr)(w:World)(R:TR iT→WP):Prop:=
Aj (Option.isNone l) (
R (((Int.negSucc 0),()),()) w) (
Aq l fun a1=>
ld1 KI (a1.add 2) w fun x2=>
R ((x2,()),()) w)
theorem En.ok{l:Option Addr}{w:World}{R:TR iT→WP}:En.wp l w R→Ae prog F.En [.pointer l] w false iT R:=
  oks Aa Tryz.func110 .n
def Nv.wp(p:Option Addr)(w:World)(R:TR r0'→WP):Prop:=
Aj (!(Option.isNone p)) (
Aq p fun a1=>
ld1 .b (a1.add 3) w fun x2=>
R ((x2,()),()) w) (
R ((false,()),()) w)
theorem Nv.ok{p:Option Addr}{w:World}{R:TR r0'→WP}:Nv.wp p w R→Ae prog F.Nv [.pointer p] w false r0' R:=
  oks Aa Tryz.func111 .n
def Di.wp(r:Option Addr)(w:World)(R:TR iT→WP):Prop:=
Aj (Option.isNone r) (
R ((0,()),()) w) (
Aq r fun a1=>
ld1 KI (a1.add 2) w fun x2=>
R ((x2,()),()) w)
theorem Di.ok{r:Option Addr}{w:World}{R:TR iT→WP}:Di.wp r w R→Ae prog F.Di [.pointer r] w false iT R:=
  oks Aa Tryz.func112 .n
def Qh.wp(l:Option Addr)(w:World)(R:TR iT→WP):Prop:=
Aj (Option.isNone l) (
R ((0,()),()) w) (
Aq l fun a1=>
ld1 .p a1 w fun x2=>
Ae prog F.Dj [.pointer x2] w false iT fun r3 w4=>
R ((r3.1.1,()),()) w4)
theorem Qh.ok{l:Option Addr}{w:World}{R:TR iT→WP}:Qh.wp l w R→Ae prog F.Qh [.pointer l] w false iT R:=
  oks Aa Tryz.func113 .n
def Cm.wp(n:Option Addr)(w:World)(R:TR iT→WP):Prop:=
Aj (Option.isNone n) (
R ((2,()),()) w) (
Aq n fun a1=>
ld1 .b (a1.add 12) w fun x2=>
Aj (!x2) (
R ((10,()),()) w) (
R ((0,()),()) w))
theorem Cm.ok{n:Option Addr}{w:World}{R:TR iT→WP}:Cm.wp n w R→Ae prog F.Cm [.pointer n] w false iT R:=
  oks Aa Tryz.func114 .n
def Hl.wp(e:Option Addr)(w:World)(R:TR dB→WP):Prop:=
Bf [uV 0,uV 0] T.Ti w fun p1 w2=>
Cc (fun(J3:((Bool)×Unit)→WP)=>
Aj (Option.isNone e) (
J3 (true,()) w2) (
Aq e fun a6=>
ld1 KI (a6.add 5) w2 fun x7=>
J3 (decide (x7<0),()) w2)) (fun(z4:(Bool)×Unit) w5=> ∀_:Nat→Value,
Aj z4.1 (
Au [uV 0,uV 0] p1 0 w5 fun w8=>
A8 [KU,KU] p1 0 w8 fun x9=>
R ((x9.1,x9.2.1,()),(false,()),()) w8) (
Ae prog F.Bc [.pointer e] w5 false r0' fun r10 w11=>
Aj r10.1.1 (
Jg w11 fun w12=>
Aq e fun a13=>
ld1 KU (a13.add 3) w12 fun x14=>
Aq e fun a15=>
ld1 KU (a15.add 4) w12 fun x16=>
Aq e fun a17=>
ld1 KU (a17.add 4) w12 fun x18=>
Au [uV x14,uV x16] p1 0 w12 fun w19=>
A7 [hd 12 (a17.add 4) w12] w19∧(
A8 [KU,KU] p1 0 w19 fun x20=>
R ((x20.1,x20.2.1,()),(decide (x18>0),()),()) w19)) (
Jg w11 fun w21=>
Aq e fun a22=>
ld1 .m (a22.add 8) w21 fun x23=>
Aq e fun a24=>
ld1 KI (a24.add 5) w21 fun x25=>
lkP prog T.O9 (.map x23) (iV x25) w21 true [KU,KU] fun x26=>
A7 [] w21∧(
Au [uV x26.1,uV x26.2.1] p1 0 w21 fun w27=>
A7 [] w27∧(
A8 [KU,KU] p1 0 w27 fun x28=>
R ((x28.1,x28.2.1,()),(true,()),()) w27)))))
theorem Hl.ok{e:Option Addr}{w:World}{R:TR dB→WP}:Hl.wp e w R→Ae prog F.Hl [.pointer e] w true dB R:=
  oks Aa Tryz.func115 (.s .n (.s (.ct [(4,.b)] .n (hs 2 (.s (.s (.pl (ks [0,1,2,3,4,5,6,7,8,9,10,11,12,13] (.ef 14 [3,7] (.tk 15 .z)))) .n) .n))) (.s (.pl (ks [0,1,2,3,4,5,6,7] (.ef 8 [3,7] (.ef 9 [] (.tk 10 .z))))) .n)))
def Ho.wp(l:Option Addr)(i k:Int)(w:World)(R:TR r0'→WP):Prop:=
Ae prog F.Ep [.pointer l,iV i] w false r0' fun r1 w2=>
Aj r1.1.1 (
Ae prog F.Ep [.pointer l,iV k] w2 false r0' fun r3 w4=>
Aj r3.1.1 (
R (((i !=k),()),()) w4) (
R ((false,()),()) w4)) (
R ((false,()),()) w2)
theorem Ho.ok{l:Option Addr}{i k:Int}{w:World}{R:TR r0'→WP}:Ho.wp l i k w R→Ae prog F.Ho [.pointer l,iV i,iV k] w false r0' R:=
  oks Aa Tryz.func116 .n
def Ip.wp(n:Option Addr)(list:Option Addr×Nat×Nat)(w:World)(R:TR r0'→WP):Prop:=
Aq n fun a1=>
ld1 .sl (a1.add 12) w fun x2=>
Aj ((list.2.1:Int) !=(x2.2.1:Int)) (
R ((false,()),()) w) (
Ci (fun(self3:((Int)×Unit)→WP) (z4:(Int)×Unit) w5=> ∀_:Nat→Value,
Aj (decide (z4.1<(list.2.1:Int))) (
Ny list.1 list.2.1 z4.1 fun a6=>
ld1 KI (a6.add (z4.1.toNat*1)) w5 fun x7=>
Aq n fun a8=>
ld1 KI (a8.add 8) w5 fun x9=>
Aj (decide (x7<(wrap .i64 (0-x9)))) (
R ((false,()),()) w5) (
Aq n fun a10=>
ld1 KI (a10.add 8) w5 fun x11=>
Aj (decide (x7>x11)) (
R ((false,()),()) w5) (
self3 (wrap .i64 (z4.1+1),()) w5))) (
R ((true,()),()) w5)) (0,()) w)
theorem Ip.ok{n:Option Addr}{list:Option Addr×Nat×Nat}{w:World}{R:TR r0'→WP}:Ip.wp n list w R→Ae prog F.Ip [.pointer n,.slice list.1 list.2.1 list.2.2] w false r0' R:=
  oks Aa Tryz.func117 (hs 2 (.s (.s .n (.lp [(17,(.i .i64))] .n)) .n))
def Sm.wp(n:Option Addr)(ticks:Int)(w:World)(R:TR r0'→WP):Prop:=
Aj (!(Option.isNone n)) (
Aq n fun a1=>
ld1 .p (a1.add 14) w fun x2=>
Ae prog F.Iq [.pointer x2,iV ticks] w false r0' fun r3 w4=>
R ((r3.1.1,()),()) w4) (
R ((false,()),()) w)
theorem Sm.ok{n:Option Addr}{ticks:Int}{w:World}{R:TR r0'→WP}:Sm.wp n ticks w R→Ae prog F.Sm [.pointer n,iV ticks] w false r0' R:=
  oks Aa Tryz.func118 .n
def Qd.wp(c:Option Addr)(ticks:Int)(w:World)(R:TR iT→WP):Prop:=
Aj (Option.isNone c) (
R ((2,()),()) w) (
Ae prog F.Iq [.pointer c,iV ticks] w false r0' fun r1 w2=>
Aj (!r1.1.1) (
R ((1,()),()) w2) (
Jg w2 fun w3=>
Aq c fun a4=>
ld1 KI (a4.add 2) w3 fun x5=>
Aq c fun a6=>
ld1 (.i .u32) (a6.add 1) w3 fun x7=>
Ae prog F.Ug [iV x5,.int .u32 (wrap .u32 (x7+(wrap .u32 ticks)))] w3 true fE fun r8 w9=>
A7 [hd 7 (a6.add 1) w3] w9∧(
Aj (!r8.2.1.1) (
R ((8,()),()) w9) (
Aq c fun a10=>
ld1 (.i .u32) (a10.add 1) w9 fun x11=>
Aq c fun a12=>
Au [.int .u32 (wrap .u32 (x11+(wrap .u32 ticks)))] (a12.add 1) 0 w9 fun w13=>
Aq c fun a14=>
Au [iV r8.1.1] (a14.add 2) 0 w13 fun w15=>
R ((0,()),()) w15))))
theorem Qd.ok{c:Option Addr}{ticks:Int}{w:World}{R:TR iT→WP}:Qd.wp c ticks w R→Ae prog F.Qd [.pointer c,iV ticks] w false iT R:=
  oks Aa Tryz.func119 (hs 2 (.s (.pl (ks [0,1,2,3,4,5,6,7,8,9,10] (.ef 11 [3] (ks [12,13,14,15,16] .z)))) .n))
def Hy.wp(n:Option Addr)(step jitter:Int)(w:World)(R:TR xA→WP):Prop:=
Ae prog F.Iu [.pointer n,iV jitter] w true xB fun r1 w2=>
Aj (r1.2.1.1 !=0) (
R (((none,0,0),()),(r1.2.1.1,()),()) w2) (
Aq n fun a3=>
A8 Aab (a3.add 5) 0 w2 fun x4=>
Ae prog F.Om [Sv Aab x4,iV step] w2 false r0' fun r5 w6=>
Aj (!r5.1.1) (
R (((none,0,0),()),(r1.2.1.1,()),()) w6) (
Bf [.slice none 0 0] T.Ah2 w6 fun p7 w8=>
Aq n fun a9=>
ld1 .p (a9.add 15) w8 fun x10=>
Ae prog F.Kt [.pointer x10,iV r1.1.1] w8 true Arv fun r11 w12=>
Bf Aae T.Dy w12 fun p13 w14=>
Au (encs Xx r11.1) p13 0 w14 fun w15=>
Aq n fun a16=>
ld1 .p (a16.add 18) w15 fun x17=>
Ae prog F.Eo [.pointer x17] w15 true [] fun r18 w19=>
Cc (fun(J20:Unit→WP)=>
Aq n fun a23=>
ld1 .p (a23.add 17) w19 fun x24=>
Ae prog F.Hz [.pointer x24] w19 false r0' fun r25 w26=>
Aj r25.1.1 (
Aq n fun a27=>
ld1 .p (a27.add 16) w26 fun x28=>
Ae prog F.Gf [.pointer x28] w26 true [] fun r29 w30=>
J20 (()) w30) (
J20 (()) w26)) (fun(z21:Unit) w22=> ∀_:Nat→Value,
A8 Xx p13 0 w22 fun x31=>
Ae prog F.Jh [.pointer (some p7),.iface T.Dy (Sv Xx x31),.bool r11.2.1.1] w22 true [] fun r32 w33=>
Cc (fun(J34:Unit→WP)=>
Ci (fun(self37:Unit→WP) (z38:Unit) w39=> ∀_:Nat→Value,
ld1 .sl p7 w39 fun x40=>
Aj (decide ((x40.2.1:Int)<3)) (
Aq n fun a41=>
ld1 .p (a41.add 27) w39 fun x42=>
Ae prog F.Fq [.pointer x42] w39 true Yk fun r43 w44=>
Aj (!r43.2.1.1) (
J34 (()) w44) (
ivK prog r43.1.1 "angelus/node.made" [.pointer n,iV r1.1.1] w44 true Yk fun r45 w46=>
Ae prog F.Jh [.pointer (some p7),r45.1.1,.bool r45.2.1.1] w46 true [] fun r47 w48=>
self37 (()) w48)) (
J34 (()) w39)) (()) w33) (fun(z35:Unit) w36=> ∀_:Nat→Value,
Cc (fun(J49:((Bool)×Unit)→WP)=>
Aq n fun a52=>
ld1 .p (a52.add 15) w36 fun x53=>
Ae prog F.Ba [.pointer x53] w36 false r0' fun r54 w55=>
Aj (!r54.1.1) (
ld1 .sl p7 w55 fun x56=>
J49 (decide ((x56.2.1:Int)<3),()) w55) (
J49 (false,()) w55)) (fun(z50:(Bool)×Unit) w51=> ∀_:Nat→Value,
Aj z50.1 (
Ae prog F.Oz [.pointer n,iV r1.1.1] w51 true Yk fun r57 w58=>
Ae prog F.Jh [.pointer (some p7),r57.1.1,.bool r57.2.1.1] w58 true [] fun r59 w60=>
ld1 .sl p7 w60 fun x61=>
R (((x61.1,x61.2.1,x61.2.2),()),(0,()),()) w60) (
ld1 .sl p7 w51 fun x62=>
R (((x62.1,x62.2.1,x62.2.2),()),(0,()),()) w51))))))
theorem Hy.ok{n:Option Addr}{step jitter:Int}{w:World}{R:TR xA→WP}:Hy.wp n step jitter w R→Ae prog F.Hy [.pointer n,iV step,iV jitter] w true xA R:=
  oks Aa Tryz.func120 (hs 6 (.ct [] .n (.s .n (.ct [] (.lp [] .n) (.s (.ct [(94,.b)] .n .n) .n)))))
def Fb.wp(l:Option Addr)(w:World)(R:TR iT→WP):Prop:=
Aj (Option.isNone l) (
R ((0,()),()) w) (
Aq l fun a1=>
ld1 KI a1 w fun x2=>
R ((x2,()),()) w)
theorem Fb.ok{l:Option Addr}{w:World}{R:TR iT→WP}:Fb.wp l w R→Ae prog F.Fb [.pointer l] w false iT R:=
  oks Aa Tryz.func121 .n
def I4.wp(a0 a1:Int)(a2:Option Addr×Nat×Nat)(i near:Int)(w:World)(R:TR Aj7→WP):Prop:=
Bf [.int .u64 a0,.int .u64 a1,.slice a2.1 a2.2.1 a2.2.2] T.Adx w fun p1 w2=>
Bf [iV 0,iV 0] T.P6 w2 fun p3 w4=>
Aj (near==0) (
Au [iV (Int.negSucc 0),iV 0] p3 0 w4 fun w5=>
A8 [KI,KI] p3 0 w5 fun x6=>
R ((x6.1,x6.2.1,()),()) w5) (
Cc (fun(J7:((Int)×Unit)→WP)=>
Aj ((Lm .and .u64 near (wrap .u64 (near-1)))==0) (
Ae prog F.bits_TrailingZeros64 [.int .u64 near] w4 false iT fun r10 w11=>
J7 (r10.1.1,()) w11) (
J7 ((Int.negSucc 0),()) w4)) (fun(z8:(Int)×Unit) w9=> ∀_:Nat→Value,
ld1 (.i .u64) p1 w9 fun x12=>
Ae prog F.Np [.int .u64 x12,iV i] w9 false r0' fun r13 w14=>
Aj r13.1.1 (
Au [iV z8.1,iV 2] p3 0 w14 fun w15=>
A8 [KI,KI] p3 0 w15 fun x16=>
R ((x16.1,x16.2.1,()),()) w15) (
ld1 (.i .u64) (p1.add 1) w14 fun x17=>
Ae prog F.Np [.int .u64 x17,iV i] w14 false r0' fun r18 w19=>
Aj (!r18.1.1) (
Au [iV z8.1,iV 3] p3 0 w19 fun w20=>
A8 [KI,KI] p3 0 w20 fun x21=>
R ((x21.1,x21.2.1,()),()) w20) (
Aj (decide (z8.1<0)) (
Au [iV z8.1,iV 4] p3 0 w19 fun w22=>
A8 [KI,KI] p3 0 w22 fun x23=>
R ((x23.1,x23.2.1,()),()) w22) (
ld1 .sl (p1.add 2) w19 fun x24=>
Aj (decide (i<(x24.2.1:Int))) (
ld1 .sl (p1.add 2) w19 fun x25=>
Ny x25.1 x25.2.1 i fun a26=>
ld1 (.i .u64) (a26.add (i.toNat*1)) w19 fun x27=>
Ae prog F.Np [.int .u64 x27,iV z8.1] w19 false r0' fun r28 w29=>
Aj r28.1.1 (
Au [iV z8.1,iV 5] p3 0 w29 fun w30=>
A8 [KI,KI] p3 0 w30 fun x31=>
R ((x31.1,x31.2.1,()),()) w30) (
Au [iV z8.1,iV 1] p3 0 w29 fun w32=>
A8 [KI,KI] p3 0 w32 fun x33=>
R ((x33.1,x33.2.1,()),()) w32)) (
Au [iV z8.1,iV 1] p3 0 w19 fun w34=>
A8 [KI,KI] p3 0 w34 fun x35=>
R ((x35.1,x35.2.1,()),()) w34))))))
theorem I4.ok{a0 a1:Int}{a2:Option Addr×Nat×Nat}{i near:Int}{w:World}{R:TR Aj7→WP}:I4.wp a0 a1 a2 i near w R→Ae prog F.I4 [.agg #[.int .u64 a0,.int .u64 a1,.slice a2.1 a2.2.1 a2.2.2],iV i,.int .u64 near] w false Aj7 R:=
  oks Aa Tryz.func122 (hs 3 (.ct [(7,(.i .i64))] .n .n))
def Gx.wp(l:Option Addr)(i:Int)(w:World)(R:TR aT→WP):Prop:=
Ae prog F.Ep [.pointer l,iV i] w false r0' fun r1 w2=>
Aj (!r1.1.1) (
R ((0,()),()) w2) (
Aq l fun a3=>
ld1 .sl (a3.add 1) w2 fun x4=>
Ny x4.1 x4.2.1 i fun a5=>
ld1 (.i .u64) (a5.add (i.toNat*1)) w2 fun x6=>
R ((x6,()),()) w2)
theorem Gx.ok{l:Option Addr}{i:Int}{w:World}{R:TR aT→WP}:Gx.wp l i w R→Ae prog F.Gx [.pointer l,iV i] w false aT R:=
  oks Aa Tryz.func123 .n
def Iy.wp(n:Option Addr)(w:World)(R:TR r0'→WP):Prop:=
Ae prog F.Cm [.pointer n] w false iT fun r1 w2=>
Aj (r1.1.1 !=0) (
R ((false,()),()) w2) (
Jg w2 fun w3=>
Aq n fun a4=>
ld1 .p (a4.add 15) w3 fun x5=>
Aq n fun a6=>
ld1 .p (a6.add 14) w3 fun x7=>
Ae prog F.Ez [.pointer x7] w3 false iT fun r8 w9=>
A7 [hd 7 (a6.add 14) w3,hd 3 (a4.add 15) w3] w9∧(
Ae prog F.Hw [.pointer x5,iV r8.1.1] w9 true Ajr fun r10 w11=>
A7 [hd 7 (a6.add 14) w3] w11∧(
Aj (r10.2.2.1.1 !=0) (
R ((true,()),()) w11) (
Jg w11 fun w12=>
Aq n fun a13=>
A8 Aab (a13.add 5) 0 w12 fun x14=>
Aq n fun a15=>
A8 aU (a15.add 1) 0 w12 fun x16=>
Aq n fun a17=>
A8 Aab (a17.add 5) 0 w12 fun x18=>
Aq n fun a19=>
ld1 KI (a19.add 9) w12 fun x20=>
Ae prog F.Xw [Sv aU x16,Sv Aab x18,iV x20] w12 false Af4 fun r21 w22=>
A7 [hd 20 (a19.add 9) w12,hd 15 ((a17.add 5).add 0) w12,hd 15 ((a17.add 5).add 1) w12,hd 15 ((a17.add 5).add 2) w12,hd 10 ((a15.add 1).add 0) w12,hd 10 ((a15.add 1).add 1) w12,hd 10 ((a15.add 1).add 2) w12,hd 10 ((a15.add 1).add 3) w12,hd 4 ((a13.add 5).add 0) w12,hd 4 ((a13.add 5).add 1) w12,hd 4 ((a13.add 5).add 2) w12] w22∧(
Ae prog F.I9 [Sv aU r21.1,iV r10.2.1.1] w22 false iT fun r23 w24=>
A7 [hd 20 (a19.add 9) w12,hd 15 ((a17.add 5).add 0) w12,hd 15 ((a17.add 5).add 1) w12,hd 15 ((a17.add 5).add 2) w12,hd 10 ((a15.add 1).add 0) w12,hd 10 ((a15.add 1).add 1) w12,hd 10 ((a15.add 1).add 2) w12,hd 10 ((a15.add 1).add 3) w12,hd 4 ((a13.add 5).add 0) w12,hd 4 ((a13.add 5).add 1) w12,hd 4 ((a13.add 5).add 2) w12] w24∧(
Ae prog F.Nb [Sv Aab x14,iV r10.1.1,iV r23.1.1] w24 false r0' fun r25 w26=>
A7 [hd 20 (a19.add 9) w12,hd 15 ((a17.add 5).add 0) w12,hd 15 ((a17.add 5).add 1) w12,hd 15 ((a17.add 5).add 2) w12,hd 10 ((a15.add 1).add 0) w12,hd 10 ((a15.add 1).add 1) w12,hd 10 ((a15.add 1).add 2) w12,hd 10 ((a15.add 1).add 3) w12] w26∧(
R ((r25.1.1,()),()) w26)))))))
theorem Iy.ok{n:Option Addr}{w:World}{R:TR r0'→WP}:Iy.wp n w R→Ae prog F.Iy [.pointer n] w false r0' R:=
  oks Aa Tryz.func124 (hs 2 (.s (.pl (ks [0,1,2,3,4,5,6,7] (.ef 8 [] (.ef 9 [3] (ks [10,11,12,13,14,15,16] .z))))) (.s .n (.s (.pl (ks [0,1,2,3,4,5,6,7,8,9,10,11,12,13,14,15,16,17,18,19,20,22] (.ef 21 [] (.ef 23 [] (.ef 24 [4] (.tk 25 .z)))))) .n))))
def Iu.wp(n:Option Addr)(jitter:Int)(w:World)(R:TR xB→WP):Prop:=
Ae prog F.Cm [.pointer n] w false iT fun r1 w2=>
Aj (r1.1.1 !=0) (
R ((0,()),(r1.1.1,()),()) w2) (
Aq n fun a3=>
ld1 KI (a3.add 9) w2 fun x4=>
Aj (decide (jitter<(wrap .i64 (0-x4)))) (
R ((0,()),(1,()),()) w2) (
Aq n fun a5=>
ld1 KI (a5.add 9) w2 fun x6=>
Aj (decide (jitter>x6)) (
R ((0,()),(1,()),()) w2) (
Aq n fun a7=>
ld1 .p (a7.add 14) w2 fun x8=>
Ae prog F.Ez [.pointer x8] w2 false iT fun r9 w10=>
Ae prog F.Qs [iV (wrap .i64 (r9.1.1+jitter)),iV 0,iV 1125899906842624] w10 false iT fun r11 w12=>
R ((r11.1.1,()),(0,()),()) w12)))
theorem Iu.ok{n:Option Addr}{jitter:Int}{w:World}{R:TR xB→WP}:Iu.wp n jitter w R→Ae prog F.Iu [.pointer n,iV jitter] w true xB R:=
  oks Aa Tryz.func125 .n
def Ii.wp(n:Option Addr)(f0 f1 f2 f3 f4 f5 stamp:Int)(w:World)(R:TR iT→WP):Prop:=
Cc (fun(J1:((Addr)×(Int)×Unit)→WP)=>
Jg w fun w4=>
Aq n fun a5=>
ld1 .p (a5.add 18) w4 fun x6=>
Aq n fun a7=>
ld1 .p (a7.add 15) w4 fun x8=>
(
Ae prog F.Ar [.pointer x6,.pointer x8,iV stamp] w4 true oI fun r9 w10=>
A7 [hd 7 (a7.add 15) w4,hd 3 (a5.add 18) w4] w10∧(
Bf dE T.Bg w10 fun p11 w12=>
A7 [hd 7 (a7.add 15) w4,hd 3 (a5.add 18) w4] w12∧(
Au (encs Tu r9.1) p11 0 w12 fun w13=>
A7 [] w13∧(
J1 (p11,r9.2.1.1,()) w13))))∧(
Bf dE T.Bg w4 fun p14 w15=>
A7 [hd 7 (a7.add 15) w4,hd 3 (a5.add 18) w4] w15∧(
Ae prog F.Ar [.pointer x6,.pointer x8,iV stamp] w15 true oI fun r16 w17=>
A7 [] w17∧(
Au (encs Tu r16.1) p14 0 w17 fun w18=>
A7 [] w18∧(
J1 (p14,r16.2.1.1,()) w18))))) (fun(z2:(Addr)×(Int)×Unit) w3=> ∀_:Nat→Value,
Bf Aph T.Bh w3 fun p19 w20=>
Au [iV f0,uV f1,iV f2,uV f3,iV f4,iV f5] p19 0 w20 fun w21=>
Jg w21 fun w22=>
Aq n fun a23=>
A8 U9 p19 0 w22 fun x24=>
Ae prog F.Gh [.pointer (some (a23.add 19)),Sv U9 x24] w22 false r0' fun r25 w26=>
A7 [] w26∧(
Aj r25.1.1 (
Ae prog F.Ib [.pointer n] w26 false iT fun r27 w28=>
R ((r27.1.1,()),()) w28) (
R ((0,()),()) w26)))
theorem Ii.ok{n:Option Addr}{f0 f1 f2 f3 f4 f5 stamp:Int}{w:World}{R:TR iT→WP}:Ii.wp n f0 f1 f2 f3 f4 f5 stamp w R→Ae prog F.Gm [.pointer n,.iface T.Bh (.agg #[iV f0,uV f1,iV f2,uV f3,iV f4,iV f5]),iV stamp] w false iT R:=
  oks Aa Tryz.func126 (.s .n (.ct [(7,.a),(8,(.i .i64))] (.pl (ks [0,1,2,3,4,5,6,7,8] (.two 9 13 (ks [10,11,12] (.ef 13 [] (.ef 14 [3,7] (.tk 15 .z)))) (.ef 9 [3,7] (ks [10,11,12] (.ef 14 [] (.tk 15 .z))))))) (.s (hs 12 (.s (.s .n (.s (.pl (ks [0,1,2,3] (.ef 4 [3] .z))) .n)) .n)) .n)))
def Px.wp(n:Option Addr)(f0 f1 f2 f3 f4 f5 stamp:Int)(w:World)(R:TR iT→WP):Prop:=
Cc (fun(J1:((Addr)×(Int)×Unit)→WP)=>
Jg w fun w4=>
Aq n fun a5=>
ld1 .p (a5.add 18) w4 fun x6=>
Aq n fun a7=>
ld1 .p (a7.add 15) w4 fun x8=>
(
Ae prog F.Ar [.pointer x6,.pointer x8,iV stamp] w4 true oI fun r9 w10=>
A7 [hd 7 (a7.add 15) w4,hd 3 (a5.add 18) w4] w10∧(
Bf dE T.Bg w10 fun p11 w12=>
A7 [hd 7 (a7.add 15) w4,hd 3 (a5.add 18) w4] w12∧(
Au (encs Tu r9.1) p11 0 w12 fun w13=>
A7 [] w13∧(
J1 (p11,r9.2.1.1,()) w13))))∧(
Bf dE T.Bg w4 fun p14 w15=>
A7 [hd 7 (a7.add 15) w4,hd 3 (a5.add 18) w4] w15∧(
Ae prog F.Ar [.pointer x6,.pointer x8,iV stamp] w15 true oI fun r16 w17=>
A7 [] w17∧(
Au (encs Tu r16.1) p14 0 w17 fun w18=>
A7 [] w18∧(
J1 (p14,r16.2.1.1,()) w18))))) (fun(z2:(Addr)×(Int)×Unit) w3=> ∀_:Nat→Value,
Bf Aae T.Dy w3 fun p19 w20=>
Au [iV f0,iV f1,uV f2,uV f3,iV f4,iV f5] p19 0 w20 fun w21=>
Jg w21 fun w22=>
Aq n fun a23=>
ld1 .p (a23.add 15) w22 fun x24=>
A8 Xx p19 0 w22 fun x25=>
Ae prog F.Le [.pointer x24,Sv Xx x25,iV stamp] w22 false iT fun r26 w27=>
A7 [] w27∧(
R ((0,()),()) w27))
theorem Px.ok{n:Option Addr}{f0 f1 f2 f3 f4 f5 stamp:Int}{w:World}{R:TR iT→WP}:Px.wp n f0 f1 f2 f3 f4 f5 stamp w R→Ae prog F.Gm [.pointer n,.iface T.Dy (.agg #[iV f0,iV f1,uV f2,uV f3,iV f4,iV f5]),iV stamp] w false iT R:=
  oks Aa Tryz.func126 (.s .n (.ct [(7,.a),(8,(.i .i64))] (.pl (ks [0,1,2,3,4,5,6,7,8] (.two 9 13 (ks [10,11,12] (.ef 13 [] (.ef 14 [3,7] (.tk 15 .z)))) (.ef 9 [3,7] (ks [10,11,12] (.ef 14 [] (.tk 15 .z))))))) (.s (hs 2 (.s (.s .n (.pl (ks [0,1,2,3,4,5] (.ef 6 [3,4] .z)))) .n)) .n)))
def Pm.wp(n:Option Addr)(f0 f1 stamp:Int)(w:World)(R:TR iT→WP):Prop:=
Cc (fun(J1:((Addr)×(Int)×Unit)→WP)=>
Jg w fun w4=>
Aq n fun a5=>
ld1 .p (a5.add 18) w4 fun x6=>
Aq n fun a7=>
ld1 .p (a7.add 15) w4 fun x8=>
(
Ae prog F.Ar [.pointer x6,.pointer x8,iV stamp] w4 true oI fun r9 w10=>
A7 [hd 7 (a7.add 15) w4,hd 3 (a5.add 18) w4] w10∧(
Bf dE T.Bg w10 fun p11 w12=>
A7 [hd 7 (a7.add 15) w4,hd 3 (a5.add 18) w4] w12∧(
Au (encs Tu r9.1) p11 0 w12 fun w13=>
A7 [] w13∧(
J1 (p11,r9.2.1.1,()) w13))))∧(
Bf dE T.Bg w4 fun p14 w15=>
A7 [hd 7 (a7.add 15) w4,hd 3 (a5.add 18) w4] w15∧(
Ae prog F.Ar [.pointer x6,.pointer x8,iV stamp] w15 true oI fun r16 w17=>
A7 [] w17∧(
Au (encs Tu r16.1) p14 0 w17 fun w18=>
A7 [] w18∧(
J1 (p14,r16.2.1.1,()) w18))))) (fun(z2:(Addr)×(Int)×Unit) w3=> ∀_:Nat→Value,
Bf [iV 0,iV 0] T.Gj w3 fun p19 w20=>
Au [iV f0,iV f1] p19 0 w20 fun w21=>
Aq n fun a22=>
ld1 .p (a22.add 15) w21 fun x23=>
Ae prog F.Ba [.pointer x23] w21 false r0' fun r24 w25=>
Aj (!r24.1.1) (
Jg w25 fun w26=>
Aq n fun a27=>
ld1 .p (a27.add 16) w26 fun x28=>
A8 [KI,KI] p19 0 w26 fun x29=>
Ae prog F.Kv [.pointer x28,.agg #[iV x29.1,iV x29.2.1]] w26 false r0' fun r30 w31=>
A7 [] w31∧(
R ((0,()),()) w31)) (
R ((0,()),()) w25))
theorem Pm.ok{n:Option Addr}{f0 f1 stamp:Int}{w:World}{R:TR iT→WP}:Pm.wp n f0 f1 stamp w R→Ae prog F.Gm [.pointer n,.iface T.Gj (.agg #[iV f0,iV f1]),iV stamp] w false iT R:=
  oks Aa Tryz.func126 (.s .n (.ct [(7,.a),(8,(.i .i64))] (.pl (ks [0,1,2,3,4,5,6,7,8] (.two 9 13 (ks [10,11,12] (.ef 13 [] (.ef 14 [3,7] (.tk 15 .z)))) (.ef 9 [3,7] (ks [10,11,12] (.ef 14 [] (.tk 15 .z))))))) (.s (hs 4 (.s (hs 2 (.s (.pl (ks [0,1,2,3,4] (.ef 5 [3,4] .z))) .n)) .n)) .n)))
def Pq.wp(n:Option Addr)(f0 stamp:Int)(w:World)(R:TR iT→WP):Prop:=
Cc (fun(J1:((Addr)×(Int)×Unit)→WP)=>
Jg w fun w4=>
Aq n fun a5=>
ld1 .p (a5.add 18) w4 fun x6=>
Aq n fun a7=>
ld1 .p (a7.add 15) w4 fun x8=>
(
Ae prog F.Ar [.pointer x6,.pointer x8,iV stamp] w4 true oI fun r9 w10=>
A7 [hd 7 (a7.add 15) w4,hd 3 (a5.add 18) w4] w10∧(
Bf dE T.Bg w10 fun p11 w12=>
A7 [hd 7 (a7.add 15) w4,hd 3 (a5.add 18) w4] w12∧(
Au (encs Tu r9.1) p11 0 w12 fun w13=>
A7 [] w13∧(
J1 (p11,r9.2.1.1,()) w13))))∧(
Bf dE T.Bg w4 fun p14 w15=>
A7 [hd 7 (a7.add 15) w4,hd 3 (a5.add 18) w4] w15∧(
Ae prog F.Ar [.pointer x6,.pointer x8,iV stamp] w15 true oI fun r16 w17=>
A7 [] w17∧(
Au (encs Tu r16.1) p14 0 w17 fun w18=>
A7 [] w18∧(
J1 (p14,r16.2.1.1,()) w18))))) (fun(z2:(Addr)×(Int)×Unit) w3=> ∀_:Nat→Value,
Bf [iV 0] T.Gp w3 fun p19 w20=>
Au [iV f0] p19 0 w20 fun w21=>
Aj (z2.2.1==0) (
Aq n fun a22=>
ld1 .p (a22.add 27) w21 fun x23=>
Ae prog F.Cj [.pointer x23,.iface T.nH (.agg #[])] w21 false iT fun r24 w25=>
R ((r24.1.1,()),()) w25) (
R ((0,()),()) w21))
theorem Pq.ok{n:Option Addr}{f0 stamp:Int}{w:World}{R:TR iT→WP}:Pq.wp n f0 stamp w R→Ae prog F.Gm [.pointer n,.iface T.Gp (.agg #[iV f0]),iV stamp] w false iT R:=
  oks Aa Tryz.func126 (.s .n (.ct [(7,.a),(8,(.i .i64))] (.pl (ks [0,1,2,3,4,5,6,7,8] (.two 9 13 (ks [10,11,12] (.ef 13 [] (.ef 14 [3,7] (.tk 15 .z)))) (.ef 9 [3,7] (ks [10,11,12] (.ef 14 [] (.tk 15 .z))))))) .n))
def Oa.wp(n:Option Addr)(f0 f1 f2 stamp:Int)(w:World)(R:TR iT→WP):Prop:=
Cc (fun(J1:((Addr)×(Int)×Unit)→WP)=>
Jg w fun w4=>
Aq n fun a5=>
ld1 .p (a5.add 18) w4 fun x6=>
Aq n fun a7=>
ld1 .p (a7.add 15) w4 fun x8=>
(
Ae prog F.Ar [.pointer x6,.pointer x8,iV stamp] w4 true oI fun r9 w10=>
A7 [hd 7 (a7.add 15) w4,hd 3 (a5.add 18) w4] w10∧(
Bf dE T.Bg w10 fun p11 w12=>
A7 [hd 7 (a7.add 15) w4,hd 3 (a5.add 18) w4] w12∧(
Au (encs Tu r9.1) p11 0 w12 fun w13=>
A7 [] w13∧(
J1 (p11,r9.2.1.1,()) w13))))∧(
Bf dE T.Bg w4 fun p14 w15=>
A7 [hd 7 (a7.add 15) w4,hd 3 (a5.add 18) w4] w15∧(
Ae prog F.Ar [.pointer x6,.pointer x8,iV stamp] w15 true oI fun r16 w17=>
A7 [] w17∧(
Au (encs Tu r16.1) p14 0 w17 fun w18=>
A7 [] w18∧(
J1 (p14,r16.2.1.1,()) w18))))) (fun(z2:(Addr)×(Int)×Unit) w3=> ∀_:Nat→Value,
Bf Ao4 T.Ef w3 fun p19 w20=>
Au [iV f0,iV f1,iV f2] p19 0 w20 fun w21=>
Cc (fun(J22:((Bool)×Unit)→WP)=>
Jg w21 fun w25=>
Aj (z2.2.1==0) (
ld1 KI (p19.add 1) w25 fun x26=>
Aq n fun a27=>
ld1 KI a27 w25 fun x28=>
J22 ((x26==x28),()) w25) (
J22 (false,()) w25)) (fun(z23:(Bool)×Unit) w24=> ∀_:Nat→Value,
Aj z23.1 (
Jg w24 fun w29=>
Aq n fun a30=>
ld1 .p (a30.add 27) w29 fun x31=>
ld1 KI p19 w29 fun x32=>
ld1 KI (p19.add 2) w29 fun x33=>
A8 Tu z2.1 0 w29 fun x34=>
Ae prog F.Cj [.pointer x31,.iface T.jZ (.agg #[iV x32,iV x33,iV x34.1,iV x34.2.1,iV x34.2.2.1,uV x34.2.2.2.1,iV x34.2.2.2.2.1])] w29 false iT fun r35 w36=>
A7 [hd 8 (z2.1.add 0) w29,hd 8 (z2.1.add 1) w29,hd 8 (z2.1.add 2) w29,hd 8 (z2.1.add 3) w29,hd 8 (z2.1.add 4) w29,hd 7 (p19.add 2) w29,hd 5 p19 w29] w36∧(
R ((r35.1.1,()),()) w36)) (
R ((0,()),()) w24)))
theorem Oa.ok{n:Option Addr}{f0 f1 f2 stamp:Int}{w:World}{R:TR iT→WP}:Oa.wp n f0 f1 f2 stamp w R→Ae prog F.Gm [.pointer n,.iface T.Ef (.agg #[iV f0,iV f1,iV f2]),iV stamp] w false iT R:=
  oks Aa Tryz.func126 (.s .n (.ct [(7,.a),(8,(.i .i64))] (.pl (ks [0,1,2,3,4,5,6,7,8] (.two 9 13 (ks [10,11,12] (.ef 13 [] (.ef 14 [3,7] (.tk 15 .z)))) (.ef 9 [3,7] (ks [10,11,12] (.ef 14 [] (.tk 15 .z))))))) (.s (hs 8 (.s (.s .n (.ct [(82,.b)] (.pl (ks [0,1,2,3,4,5,6,7,8,9,10,11] .z)) (.s (.s (.pl (ks [0,1,2,3,4,5,6,7,8,9,10] (.ef 11 [3] (.tk 12 .z)))) .n) .n))) .n)) .n)))
end Go.Proofs.YticgocmhmffneaaGreatDoor
