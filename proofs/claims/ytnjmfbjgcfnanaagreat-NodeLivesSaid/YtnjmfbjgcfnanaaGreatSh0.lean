import Derived.Test.YtnjmfbjgcfnanaaGreatNm
namespace Go.Proofs.YtnjmfbjgcfnanaaGreat
open Go.Eng Tryz
open Go.IntKind (wrap)
set_option linter.unusedSimpArgs false
set_option linter.unusedVariables false
set_option maxRecDepth 100000
def law26_NodeQuiet.wp(s0 s1 s2 s3 s4 s5 s6 s7 s8 s9:Int)(s10:Bool)(script b:Option Addr×Nat×Nat)(jitter:Int)(w:World)(R:TR r0'→WP):Prop:=
Bf [iV s0,iV s1,iV s2,iV s3,iV s4,iV s5,iV s6,iV s7,iV s8,iV s9,.bool s10] T.Xj w fun p1 w2=>
Ae prog F.law26_alive [] w2 false r0' fun r3 w4=>
Aj (!r3.1.1) (
R ((false,()),()) w4) (
Aj (decide ((script.2.1:Int)>100)) (
R ((true,()),()) w4) (
Aj (decide ((b.2.1:Int)>200)) (
R ((true,()),()) w4) (
A8 k1' p1 0 w4 fun x5=>
Ae prog F.Ul [Sv k1' x5] w4 false r0' fun r6 w7=>
Aj (!r6.1.1) (
R ((true,()),()) w7) (
A8 k1' p1 0 w7 fun x8=>
Ae prog F.law26_setup [Sv k1' x8] w7 false r1' fun r9 w10=>
Ae prog F.Uz [Sv k1' r9.1,.pointer none] w10 true r2' fun r11 w12=>
Aj (r11.2.1.1 !=0) (
R ((false,()),()) w12) (
A8 k1' p1 0 w12 fun x13=>
Ae prog F.Ut [Sv k1' x13] w12 false dB fun r14 w15=>
Ci (fun(self16:((Int)×Unit)→WP) (z17:(Int)×Unit) w18=> ∀_:Nat→Value,
Aj (decide (z17.1<(script.2.1:Int))) (
Ny script.1 script.2.1 z17.1 fun a19=>
A8 uU (a19.add (z17.1.toNat*20)) 0 w18 fun x20=>
Bf z1' T.law26_Call w18 fun p21 w22=>
Au (encs uU x20) p21 0 w22 fun w23=>
A8 uU p21 0 w23 fun x24=>
Ae prog F.law26_great [Sv uU x24] w23 false r0' fun r25 w26=>
Aj r25.1.1 (
R ((true,()),()) w26) (
A8 uU p21 0 w26 fun x27=>
Ae prog F.law26_does [.pointer r11.1.1,.pointer r14.1.1,Sv uU x27] w26 false r0' fun r28 w29=>
Aj (!r28.1.1) (
R ((false,()),()) w29) (
Ae prog F.Cb [.pointer r11.1.1] w29 false r5' fun r30 w31=>
Bf z2' T.nK w31 fun p32 w33=>
Au (encs k0' r30.1) p32 0 w33 fun w34=>
Cc (fun(J35:Unit→WP)=>
Ae prog F.Tc [.slice b.1 b.2.1 b.2.2] w34 true r7' fun r38 w39=>
Bf z0' T.Dn w39 fun p40 w41=>
Au (encs k2' r38.1) p40 0 w41 fun w42=>
Aj (r38.2.1.1 !=0) (
Jg w42 fun w43=>
Ae prog F.Ia [.pointer r11.1.1,iV jitter,.slice b.1 b.2.1 b.2.2] w43 false r3' fun r44 w45=>
Hold [] w45∧(
Aj (r44.1.1==0) (
R ((false,()),()) w45) (
A8 k0' p32 0 w45 fun x46=>
Ae prog F.Cb [.pointer r11.1.1] w45 false r5' fun r47 w48=>
Hold [hd 8 (p32.add 0) w45,hd 8 (p32.add 1) w45,hd 8 (p32.add 2) w45,hd 8 (p32.add 3) w45,hd 8 (p32.add 4) w45,hd 8 (p32.add 5) w45,hd 8 (p32.add 6) w45,hd 8 (p32.add 7) w45,hd 8 (p32.add 8) w45,hd 8 (p32.add 9) w45,hd 8 (p32.add 10) w45,hd 8 (p32.add 11) w45] w48∧(
Aj (!((r47.1.1==x46.1)&&((r47.1.2.1==x46.2.1)&&((r47.1.2.2.1==x46.2.2.1)&&((r47.1.2.2.2.1==x46.2.2.2.1)&&((r47.1.2.2.2.2.1==x46.2.2.2.2.1)&&((r47.1.2.2.2.2.2.1==x46.2.2.2.2.2.1)&&((r47.1.2.2.2.2.2.2.1==x46.2.2.2.2.2.2.1)&&((r47.1.2.2.2.2.2.2.2.1==x46.2.2.2.2.2.2.2.1)&&((r47.1.2.2.2.2.2.2.2.2.1==x46.2.2.2.2.2.2.2.2.1)&&((r47.1.2.2.2.2.2.2.2.2.2.1==x46.2.2.2.2.2.2.2.2.2.1)&&((r47.1.2.2.2.2.2.2.2.2.2.2.1==x46.2.2.2.2.2.2.2.2.2.2.1)&&((r47.1.2.2.2.2.2.2.2.2.2.2.2.1==x46.2.2.2.2.2.2.2.2.2.2.2.1)&&true))))))))))))) (
R ((false,()),()) w48) (
J35 (()) w48))))) (
J35 (()) w42)) (fun(z36:Unit) w37=> ∀_:Nat→Value,
ld1 .b p32 w37 fun x49=>
Aj (!x49) (
ld1 KI (p21.add 1) w37 fun x50=>
Ae prog F.Hy [.pointer r11.1.1,iV x50,iV 0] w37 true iT fun r51 w52=>
Jg w52 fun w53=>
Aj ((r51.1.1.2.1:Int) !=0) (
R ((false,()),()) w53) (
Aj (r51.2.1.1 !=10) (
R ((false,()),()) w53) (
Ae prog F.Lr [.pointer r11.1.1,iV 1000] w53 false r3' fun r54 w55=>
Hold [] w55∧(
Aj (r54.1.1 !=10) (
R ((false,()),()) w55) (
Ae prog F.Ia [.pointer r11.1.1,iV 0,.slice b.1 b.2.1 b.2.2] w55 false r3' fun r56 w57=>
Hold [] w57∧(
Aj (r56.1.1 !=10) (
R ((false,()),()) w57) (
Ae prog F.Iy [.pointer r11.1.1] w57 false r0' fun r58 w59=>
Hold [] w59∧(
Aj r58.1.1 (
R ((false,()),()) w59) (
A8 k0' p32 0 w59 fun x60=>
Ae prog F.Cb [.pointer r11.1.1] w59 false r5' fun r61 w62=>
Hold [hd 25 (p32.add 0) w59,hd 25 (p32.add 1) w59,hd 25 (p32.add 2) w59,hd 25 (p32.add 3) w59,hd 25 (p32.add 4) w59,hd 25 (p32.add 5) w59,hd 25 (p32.add 6) w59,hd 25 (p32.add 7) w59,hd 25 (p32.add 8) w59,hd 25 (p32.add 9) w59,hd 25 (p32.add 10) w59,hd 25 (p32.add 11) w59] w62∧(
Aj (!((r61.1.1==x60.1)&&((r61.1.2.1==x60.2.1)&&((r61.1.2.2.1==x60.2.2.1)&&((r61.1.2.2.2.1==x60.2.2.2.1)&&((r61.1.2.2.2.2.1==x60.2.2.2.2.1)&&((r61.1.2.2.2.2.2.1==x60.2.2.2.2.2.1)&&((r61.1.2.2.2.2.2.2.1==x60.2.2.2.2.2.2.1)&&((r61.1.2.2.2.2.2.2.2.1==x60.2.2.2.2.2.2.2.1)&&((r61.1.2.2.2.2.2.2.2.2.1==x60.2.2.2.2.2.2.2.2.1)&&((r61.1.2.2.2.2.2.2.2.2.2.1==x60.2.2.2.2.2.2.2.2.2.1)&&((r61.1.2.2.2.2.2.2.2.2.2.2.1==x60.2.2.2.2.2.2.2.2.2.2.1)&&((r61.1.2.2.2.2.2.2.2.2.2.2.2.1==x60.2.2.2.2.2.2.2.2.2.2.2.1)&&true))))))))))))) (
R ((false,()),()) w62) (
self16 (wrap .i64 (z17.1+1),()) w62))))))))))) (
self16 (wrap .i64 (z17.1+1),()) w37))))) (
R ((true,()),()) w18)) (0,()) w15)))))
theorem law26_NodeQuiet.ok{s0 s1 s2 s3 s4 s5 s6 s7 s8 s9:Int}{s10:Bool}{script b:Option Addr×Nat×Nat}{jitter:Int}{w:World}{R:TR r0'→WP}:law26_NodeQuiet.wp s0 s1 s2 s3 s4 s5 s6 s7 s8 s9 s10 script b jitter w R→Ae prog F.law26_NodeQuiet [.agg #[iV s0,iV s1,iV s2,iV s3,iV s4,iV s5,iV s6,iV s7,iV s8,iV s9,.bool s10],.slice script.1 script.2.1 script.2.2,.slice b.1 b.2.1 b.2.2,iV jitter] w false r0' R:=
  oks Aa func4 (hs 6 (.s (.s .n (.lp [(46,(.i .i64))] (hs 2 (.s (hs 4 (.ct [] (hs 2 (.s (.s (.pl (ks [0,1,2] (.ef 3 [] (ks [4,5,6,8] (.ef 7 [] (.tk 9 (.tk 10 .z))))))) .n) .n)) (.s .n (.s (.s .n (.s (.pl (ks [0,1,2,3,4,5,6,7,8] (.ef 9 [] (ks [10,11,12,13,14] (.ef 15 [] (ks [16,17,18,19] (.ef 20 [] (ks [21,22,23,25] (.ef 24 [] (.tk 26 (.tk 27 .z))))))))))) .n)) .n)))) .n)))) .n))
def law26_NodeLives.wp(s0 s1 s2 s3 s4 s5 s6 s7 s8 s9:Int)(s10:Bool)(past script:Option Addr×Nat×Nat)(raw:Int)(w:World)(R:TR r0'→WP):Prop:=
Bf [iV s0,iV s1,iV s2,iV s3,iV s4,iV s5,iV s6,iV s7,iV s8,iV s9,.bool s10] T.Xj w fun p1 w2=>
Ae prog F.law26_alive [] w2 false r0' fun r3 w4=>
Aj (!r3.1.1) (
R ((false,()),()) w4) (
Aj (decide ((past.2.1:Int)>60)) (
R ((true,()),()) w4) (
Aj (decide ((script.2.1:Int)>60)) (
R ((true,()),()) w4) (
A8 k1' p1 0 w4 fun x5=>
Ae prog F.Ul [Sv k1' x5] w4 false r0' fun r6 w7=>
Aj (!r6.1.1) (
R ((true,()),()) w7) (
A8 k1' p1 0 w7 fun x8=>
Ae prog F.law26_setup [Sv k1' x8] w7 false r1' fun r9 w10=>
Ae prog F.Uz [Sv k1' r9.1,.pointer none] w10 true r2' fun r11 w12=>
A8 k1' p1 0 w12 fun x13=>
Ae prog F.law26_setup [Sv k1' x13] w12 false r1' fun r14 w15=>
Ae prog F.Uz [Sv k1' r14.1,.pointer none] w15 true r2' fun r16 w17=>
Aj (r11.2.1.1 !=0) (
R ((false,()),()) w17) (
Aj (r16.2.1.1 !=0) (
R ((false,()),()) w17) (
A8 k1' p1 0 w17 fun x18=>
Ae prog F.Ut [Sv k1' x18] w17 false dB fun r19 w20=>
Ci (fun(self21:((Int)×Unit)→WP) (z22:(Int)×Unit) w23=> ∀_:Nat→Value,
Aj (decide (z22.1<(past.2.1:Int))) (
Ny past.1 past.2.1 z22.1 fun a24=>
A8 uU (a24.add (z22.1.toNat*20)) 0 w23 fun x25=>
Bf z1' T.law26_Call w23 fun p26 w27=>
Au (encs uU x25) p26 0 w27 fun w28=>
A8 uU p26 0 w28 fun x29=>
Ae prog F.law26_great [Sv uU x29] w28 false r0' fun r30 w31=>
Aj r30.1.1 (
R ((true,()),()) w31) (
A8 uU p26 0 w31 fun x32=>
Ae prog F.law26_does [.pointer r11.1.1,.pointer r19.1.1,Sv uU x32] w31 false r0' fun r33 w34=>
Aj (!r33.1.1) (
R ((false,()),()) w34) (
ld1 KI p26 w34 fun x35=>
Aj (x35==0) (
ld1 (.i .u32) (p26.add 3) w34 fun x36=>
Ae prog F.Ji [.pointer r16.1.1,.int .u32 x36] w34 false r3' fun r37 w38=>
self21 (wrap .i64 (z22.1+1),()) w38) (
self21 (wrap .i64 (z22.1+1),()) w34)))) (
Ae prog F.Ji [.pointer r11.1.1,.int .u32 raw] w23 false r3' fun r39 w40=>
Ae prog F.Ji [.pointer r16.1.1,.int .u32 raw] w40 false r3' fun r41 w42=>
Ae prog F.Gz [.pointer r19.1.1,.int .u32 raw] w42 true [] fun r43 w44=>
A8 k1' p1 0 w44 fun x45=>
Ae prog F.Ut [Sv k1' x45] w44 false dB fun r46 w47=>
Aq r19.1.1 fun a48=>
ld1 KU (a48.add 12) w47 fun x49=>
Aq r46.1.1 fun a50=>
Au [uV (wrap .u16 (x49-1))] (a50.add 12) 0 w47 fun w51=>
Ae prog F.Gz [.pointer r46.1.1,.int .u32 raw] w51 true [] fun r52 w53=>
Ci (fun(self54:((Int)×Unit)→WP) (z55:(Int)×Unit) w56=> ∀_:Nat→Value,
Aj (decide (z55.1<(script.2.1:Int))) (
Ny script.1 script.2.1 z55.1 fun a57=>
A8 uU (a57.add (z55.1.toNat*20)) 0 w56 fun x58=>
Bf z1' T.law26_Call w56 fun p59 w60=>
Au (encs uU x58) p59 0 w60 fun w61=>
A8 uU p59 0 w61 fun x62=>
Ae prog F.law26_great [Sv uU x62] w61 false r0' fun r63 kJ=>
Aj r63.1.1 (
R ((true,()),()) kJ) (
A8 uU p59 0 kJ fun x65=>
Ae prog F.law26_does [.pointer r11.1.1,.pointer r19.1.1,Sv uU x65] kJ false r0' fun r66 w67=>
Aj (!r66.1.1) (
R ((false,()),()) w67) (
A8 uU p59 0 w67 fun x68=>
Ae prog F.law26_does [.pointer r16.1.1,.pointer r46.1.1,Sv uU x68] w67 false r0' fun r69 w70=>
Aj (!r69.1.1) (
R ((false,()),()) w70) (
Ae prog F.Cb [.pointer r11.1.1] w70 false r5' fun r71 w72=>
Ae prog F.Cb [.pointer r16.1.1] w72 false r5' fun r73 w74=>
Aj (!((r71.1.1==r73.1.1)&&((r71.1.2.1==r73.1.2.1)&&((r71.1.2.2.1==r73.1.2.2.1)&&((r71.1.2.2.2.1==r73.1.2.2.2.1)&&((r71.1.2.2.2.2.1==r73.1.2.2.2.2.1)&&((r71.1.2.2.2.2.2.1==r73.1.2.2.2.2.2.1)&&((r71.1.2.2.2.2.2.2.1==r73.1.2.2.2.2.2.2.1)&&((r71.1.2.2.2.2.2.2.2.1==r73.1.2.2.2.2.2.2.2.1)&&((r71.1.2.2.2.2.2.2.2.2.1==r73.1.2.2.2.2.2.2.2.2.1)&&((r71.1.2.2.2.2.2.2.2.2.2.1==r73.1.2.2.2.2.2.2.2.2.2.1)&&((r71.1.2.2.2.2.2.2.2.2.2.2.1==r73.1.2.2.2.2.2.2.2.2.2.2.1)&&((r71.1.2.2.2.2.2.2.2.2.2.2.2.1==r73.1.2.2.2.2.2.2.2.2.2.2.2.1)&&true))))))))))))) (
R ((false,()),()) w74) (
Ae prog F.Iy [.pointer r11.1.1] w74 false r0' fun r75 w76=>
Ae prog F.Iy [.pointer r16.1.1] w76 false r0' fun r77 w78=>
Aj (!(r75.1.1==r77.1.1)) (
R ((false,()),()) w78) (
Ae prog F.D6 [.pointer r11.1.1] w78 true aT fun r79 w80=>
Bf z3' T.Bg w80 fun p81 w82=>
Au (encs Xf r79.1) p81 0 w82 fun w83=>
Ae prog F.D6 [.pointer r16.1.1] w83 true aT fun r84 w85=>
Bf z3' T.Bg w85 fun p86 w87=>
Au (encs Xf r84.1) p86 0 w87 fun w88=>
A8 Xf p81 0 w88 fun x89=>
A8 Xf p86 0 w88 fun x90=>
Aj (!((x89.1==x90.1)&&((x89.2.1==x90.2.1)&&(((x89.2.2.1==x90.2.2.1)&&((x89.2.2.2.1==x90.2.2.2.1)&&true))&&((x89.2.2.2.2.1==x90.2.2.2.2.1)&&true))))) (
R ((false,()),()) w88) (
Aj (r79.2.1.1 !=r84.2.1.1) (
R ((false,()),()) w88) (
self54 (wrap .i64 (z55.1+1),()) w88)))))))) (
Ae prog F.Cb [.pointer r11.1.1] w56 false r5' fun r91 w92=>
Ae prog F.Cb [.pointer r16.1.1] w92 false r5' fun r93 w94=>
R ((((r91.1.1==r93.1.1)&&((r91.1.2.1==r93.1.2.1)&&((r91.1.2.2.1==r93.1.2.2.1)&&((r91.1.2.2.2.1==r93.1.2.2.2.1)&&((r91.1.2.2.2.2.1==r93.1.2.2.2.2.1)&&((r91.1.2.2.2.2.2.1==r93.1.2.2.2.2.2.1)&&((r91.1.2.2.2.2.2.2.1==r93.1.2.2.2.2.2.2.1)&&((r91.1.2.2.2.2.2.2.2.1==r93.1.2.2.2.2.2.2.2.1)&&((r91.1.2.2.2.2.2.2.2.2.1==r93.1.2.2.2.2.2.2.2.2.1)&&((r91.1.2.2.2.2.2.2.2.2.2.1==r93.1.2.2.2.2.2.2.2.2.2.1)&&((r91.1.2.2.2.2.2.2.2.2.2.2.1==r93.1.2.2.2.2.2.2.2.2.2.2.1)&&((r91.1.2.2.2.2.2.2.2.2.2.2.2.1==r93.1.2.2.2.2.2.2.2.2.2.2.2.1)&&true)))))))))))),()),()) w94)) (0,()) w53)) (0,()) w20))))))
theorem law26_NodeLives.ok{s0 s1 s2 s3 s4 s5 s6 s7 s8 s9:Int}{s10:Bool}{past script:Option Addr×Nat×Nat}{raw:Int}{w:World}{R:TR r0'→WP}:law26_NodeLives.wp s0 s1 s2 s3 s4 s5 s6 s7 s8 s9 s10 past script raw w R→Ae prog F.law26_NodeLives [.agg #[iV s0,iV s1,iV s2,iV s3,iV s4,iV s5,iV s6,iV s7,iV s8,iV s9,.bool s10],.slice past.1 past.2.1 past.2.2,.slice script.1 script.2.1 script.2.2,.int .u32 raw] w false r0' R:=
  oks Aa func5 (hs 7 (.s (.s .n (.lp [(60,(.i .i64))] .n)) (hs 6 (.s (.s .n (.lp [(103,(.i .i64))] .n)) .n))))
def law26_alive.wp(w:World)(R:TR r0'→WP):Prop:=
Ae prog F.law26_setup [.agg #[iV 0,iV 1,iV 0,iV 1,iV 0,iV 4,iV 4,iV 0,iV 1,iV 0,.bool false]] w false r1' fun r1 w2=>
Ae prog F.Uz [Sv k1' r1.1,.pointer none] w2 true r2' fun r3 w4=>
Ae prog F.Ji [.pointer r3.1.1,.int .u32 500] w4 false r3' fun r5 w6=>
Ae prog F.Hy [.pointer r3.1.1,iV 0,iV 0] w6 true iT fun r7 w8=>
Ae prog F.D6 [.pointer r3.1.1] w8 true aT fun r9 w10=>
Bf z3' T.Bg w10 fun p11 w12=>
Au (encs Xf r9.1) p11 0 w12 fun w13=>
Aj (r3.2.1.1==0) (
Aj (r5.1.1==0) (
Aj (r7.2.1.1==0) (
Aj ((r7.1.1.2.1:Int)==1) (
Ny r7.1.1.1 r7.1.1.2.1 0 fun a14=>
ld1 .sl (a14.add ((0:Int).toNat*1)) w13 fun x15=>
Aj ((x15.2.1:Int)==18) (
Ny r7.1.1.1 r7.1.1.2.1 0 fun a16=>
ld1 .sl (a16.add ((0:Int).toNat*1)) w13 fun x17=>
Ny x17.1 x17.2.1 0 fun a18=>
ld1 (.i .u8) (a18.add ((0:Int).toNat*1)) w13 fun x19=>
Aj (x19==1) (
Aj (r9.2.1.1==0) (
ld1 KI p11 w13 fun x20=>
Aj (x20==500) (
ld1 KI (p11.add 4) w13 fun x21=>
R (((x21==1),()),()) w13) (
R ((false,()),()) w13)) (
R ((false,()),()) w13)) (
R ((false,()),()) w13)) (
R ((false,()),()) w13)) (
R ((false,()),()) w13)) (
R ((false,()),()) w13)) (
R ((false,()),()) w13)) (
R ((false,()),()) w13)
theorem law26_alive.ok{w:World}{R:TR r0'→WP}:law26_alive.wp w R→Ae prog F.law26_alive [] w false r0' R:=
  oks Aa func7 .n
def Ul.wp(s0 s1 s2 s3 s4 s5 s6 s7 s8 s9:Int)(s10:Bool)(w:World)(R:TR r0'→WP):Prop:=
Bf [iV s0,iV s1,iV s2,iV s3,iV s4,iV s5,iV s6,iV s7,iV s8,iV s9,.bool s10] T.Xj w fun p1 w2=>
ld1 KI p1 w2 fun x3=>
ld1 KI (p1.add 1) w2 fun x4=>
ld1 KI (p1.add 2) w2 fun x5=>
ld1 KI (p1.add 3) w2 fun x6=>
ld1 KI (p1.add 4) w2 fun x7=>
Ae prog F.Vq [iV x3,iV x4,iV x5,iV x6,iV x7] w2 false r0' fun r8 w9=>
Aj r8.1.1 (
A8 k1' p1 0 w9 fun x10=>
Ae prog F.Jy [Sv k1' x10] w9 false Us fun r11 w12=>
Ae prog F.U3 [Sv Ig r11.1] w12 false r0' fun r13 w14=>
Aj r13.1.1 (
ld1 KI (p1.add 8) w14 fun x15=>
Aj (decide (x15≥1)) (
ld1 KI (p1.add 8) w14 fun x16=>
ld1 KI (p1.add 1) w14 fun x17=>
Aj (decide (x16≤x17)) (
ld1 KI (p1.add 9) w14 fun x18=>
Aj (decide (x18≥0)) (
ld1 KI (p1.add 9) w14 fun x19=>
R ((decide (x19≤20),()),()) w14) (
R ((false,()),()) w14)) (
R ((false,()),()) w14)) (
R ((false,()),()) w14)) (
R ((false,()),()) w14)) (
R ((false,()),()) w9)
theorem Ul.ok{s0 s1 s2 s3 s4 s5 s6 s7 s8 s9:Int}{s10:Bool}{w:World}{R:TR r0'→WP}:Ul.wp s0 s1 s2 s3 s4 s5 s6 s7 s8 s9 s10 w R→Ae prog F.Ul [.agg #[iV s0,iV s1,iV s2,iV s3,iV s4,iV s5,iV s6,iV s7,iV s8,iV s9,.bool s10]] w false r0' R:=
  oks Aa func8 .n
def Uz.wp(s0 s1 s2 s3 s4 s5 s6 s7 s8 s9:Int)(s10:Bool)(leaps:Option Addr)(w:World)(R:TR r2'→WP):Prop:=
Bf [iV s0,iV s1,iV s2,iV s3,iV s4,iV s5,iV s6,iV s7,iV s8,iV s9,.bool s10] T.jP w fun p1 w2=>
A8 k1' p1 0 w2 fun x3=>
Ae prog F.Nq [Sv k1' x3] w2 false r0' fun r4 w5=>
Aj (!r4.1.1) (
R ((none,()),(1,()),()) w5) (
Jg w5 fun w6=>
A8 k1' p1 0 w6 fun x7=>
Ae prog F.Wl [] w6 false dB fun r8 w9=>
Hold [hd 0 (p1.add 0) w6,hd 0 (p1.add 1) w6,hd 0 (p1.add 2) w6,hd 0 (p1.add 3) w6,hd 0 (p1.add 4) w6,hd 0 (p1.add 5) w6,hd 0 (p1.add 6) w6,hd 0 (p1.add 7) w6,hd 0 (p1.add 8) w6,hd 0 (p1.add 9) w6,hd 0 (p1.add 10) w6] w9∧(
Bf [iV x7.1,iV x7.2.1,iV x7.2.2.1,iV x7.2.2.2.1,iV x7.2.2.2.2.1,iV x7.2.2.2.2.2.1,iV x7.2.2.2.2.2.2.1,iV x7.2.2.2.2.2.2.2.1,iV x7.2.2.2.2.2.2.2.2.1,iV x7.2.2.2.2.2.2.2.2.2.1,.bool x7.2.2.2.2.2.2.2.2.2.2.1,.pointer leaps,.bool false,uV 0,.pointer none,.pointer none,.pointer none,.pointer none,.pointer none,.bool false,iV 0,uV 0,iV 0,uV 0,iV 0,iV 0,.pointer r8.1.1,.pointer none] T.Ad6 w9 fun p10 w11=>
Hold [hd 0 (p1.add 0) w6,hd 0 (p1.add 1) w6,hd 0 (p1.add 2) w6,hd 0 (p1.add 3) w6,hd 0 (p1.add 4) w6,hd 0 (p1.add 5) w6,hd 0 (p1.add 6) w6,hd 0 (p1.add 7) w6,hd 0 (p1.add 8) w6,hd 0 (p1.add 9) w6,hd 0 (p1.add 10) w6] w11∧(
ld1 KI ((p1.add 1).add 3) w11 fun x12=>
Ae prog F.Xz [iV x12] w11 true r2' fun r13 w14=>
Au [.pointer r13.1.1] (p10.add 14) 0 w14 fun w15=>
ld1 KI p1 w15 fun x16=>
A8 fH (p1.add 1) 0 w15 fun x17=>
Ae prog F.Ui [iV x16,Sv fH x17] w15 true r2' fun r18 w19=>
Au [.pointer r18.1.1] (p10.add 15) 0 w19 fun w20=>
ld1 KI p1 w20 fun x21=>
Ae prog F.Wp [iV x21] w20 true r2' fun r22 w23=>
Au [.pointer r22.1.1] (p10.add 16) 0 w23 fun w24=>
ld1 KI p1 w24 fun x25=>
Ae prog F.Xq [iV x25] w24 true r2' fun r26 w27=>
Au [.pointer r26.1.1] (p10.add 17) 0 w27 fun w28=>
ld1 KI (p1.add 8) w28 fun x29=>
Ae prog F.Vm [iV x29] w28 true r2' fun r30 w31=>
Au [.pointer r30.1.1] (p10.add 18) 0 w31 fun w32=>
Ae prog F.Jc [iV 8] w32 true r2' fun r33 w34=>
Au [.pointer r33.1.1] (p10.add 27) 0 w34 fun w35=>
R ((some p10,()),(0,()),()) w35)))
theorem Uz.ok{s0 s1 s2 s3 s4 s5 s6 s7 s8 s9:Int}{s10:Bool}{leaps:Option Addr}{w:World}{R:TR r2'→WP}:Uz.wp s0 s1 s2 s3 s4 s5 s6 s7 s8 s9 s10 leaps w R→Ae prog F.Uz [.agg #[iV s0,iV s1,iV s2,iV s3,iV s4,iV s5,iV s6,iV s7,iV s8,iV s9,.bool s10],.pointer leaps] w true r2' R:=
  oks Aa func9 (hs 2 (.s (.pl (.tk 0 (.tk 1 (.ef 2 [] (.tk 3 (.ef 4 [] (.tk 5 .z))))))) .n))
def law26_setup.wp(s0 s1 s2 s3 s4 s5 s6 s7 s8 s9:Int)(s10:Bool)(w:World)(R:TR r1'→WP):Prop:=
Bf [iV s0,iV s1,iV s2,iV s3,iV s4,iV s5,iV s6,iV s7,iV s8,iV s9,.bool s10] T.Xj w fun p1 w2=>
Bf z6' T.jP w2 fun p3 w4=>
ld1 KI p1 w4 fun x5=>
ld1 KI (p1.add 1) w4 fun x6=>
ld1 KI (p1.add 2) w4 fun x7=>
ld1 KI (p1.add 3) w4 fun x8=>
ld1 KI (p1.add 4) w4 fun x9=>
ld1 KI (p1.add 5) w4 fun x10=>
ld1 KI (p1.add 6) w4 fun x11=>
ld1 KI (p1.add 7) w4 fun x12=>
ld1 KI (p1.add 8) w4 fun x13=>
ld1 KI (p1.add 9) w4 fun x14=>
ld1 .b (p1.add 10) w4 fun x15=>
Au [iV x5,iV x6,iV x7,iV x8,iV x9,iV x10,iV x11,iV x12,iV x13,iV x14,.bool x15] p3 0 w4 fun w16=>
A8 k1' p3 0 w16 fun x17=>
R (x17,()) w16
theorem law26_setup.ok{s0 s1 s2 s3 s4 s5 s6 s7 s8 s9:Int}{s10:Bool}{w:World}{R:TR r1'→WP}:law26_setup.wp s0 s1 s2 s3 s4 s5 s6 s7 s8 s9 s10 w R→Ae prog F.law26_setup [.agg #[iV s0,iV s1,iV s2,iV s3,iV s4,iV s5,iV s6,iV s7,iV s8,iV s9,.bool s10]] w false r1' R:=
  oks Aa func10 .n
def Ji.wp(n:Option Addr)(raw:Int)(w:World)(R:TR r3'→WP):Prop:=
Aj (Option.isNone n) (
R ((2,()),()) w) (
Aq n fun a1=>
Au [.bool true] (a1.add 12) 0 w fun w2=>
Aq n fun a3=>
ld1 KU (a3.add 13) w2 fun x4=>
Aq n fun a5=>
Au [uV (wrap .u16 (x4+1))] (a5.add 13) 0 w2 fun w6=>
Aq n fun a7=>
ld1 .p (a7.add 14) w6 fun x8=>
Ae prog F.Nr [.pointer x8,.int .u32 raw] w6 true [] fun r9 w10=>
Jg w10 fun w11=>
Aq n fun a12=>
ld1 .p (a12.add 15) w11 fun x13=>
Aq n fun a14=>
ld1 KU (a14.add 13) w11 fun x15=>
Ae prog F.Lh [.pointer x13,uV x15] w11 true [] fun r16 w17=>
Hold [] w17∧(
Aq n fun a18=>
ld1 .p (a18.add 16) w17 fun x19=>
Ae prog F.Gf [.pointer x19] w17 true [] fun r20 w21=>
Aq n fun a22=>
ld1 .p (a22.add 17) w21 fun x23=>
Ae prog F.Pe [.pointer x23] w21 true [] fun r24 w25=>
Aq n fun a26=>
ld1 .p (a26.add 18) w25 fun x27=>
Ae prog F.Fe [.pointer x27] w25 true [] fun r28 w29=>
Aq n fun a30=>
Ae prog F.Js [.pointer (some (a30.add 19))] w29 true [] fun r31 w32=>
Aq n fun a33=>
ld1 .p (a33.add 26) w32 fun x34=>
Ae prog F.Md [.pointer x34] w32 true [] fun r35 w36=>
Aq n fun a37=>
ld1 .p (a37.add 27) w36 fun x38=>
Ae prog F.Eh [.pointer x38] w36 true [] fun r39 w40=>
R ((0,()),()) w40))
theorem Ji.ok{n:Option Addr}{raw:Int}{w:World}{R:TR r3'→WP}:Ji.wp n raw w R→Ae prog F.Ji [.pointer n,.int .u32 raw] w false r3' R:=
  oks Aa func11 (hs 5 (.s (.pl (ks [0,1,2,3,4,5,6,7] (.ef 8 [3,7] .z))) .n))
def Lr.wp(n:Option Addr)(ticks:Int)(w:World)(R:TR r3'→WP):Prop:=
Ae prog F.Cm [.pointer n] w false r3' fun r1 w2=>
Aj (r1.1.1 !=0) (
R ((r1.1.1,()),()) w2) (
Aq n fun a3=>
ld1 .p (a3.add 14) w2 fun x4=>
Ae prog F.Qd [.pointer x4,iV ticks] w2 false r3' fun r5 w6=>
R ((r5.1.1,()),()) w6)
theorem Lr.ok{n:Option Addr}{ticks:Int}{w:World}{R:TR r3'→WP}:Lr.wp n ticks w R→Ae prog F.Lr [.pointer n,iV ticks] w false r3' R:=
  oks Aa func12 .n
def Hy.wp(n:Option Addr)(step jitter:Int)(w:World)(R:TR iT→WP):Prop:=
Ae prog F.Iu [.pointer n,iV jitter] w true dH fun r1 w2=>
Aj (r1.2.1.1 !=0) (
R (((none,0,0),()),(r1.2.1.1,()),()) w2) (
Aq n fun a3=>
A8 Ig (a3.add 5) 0 w2 fun x4=>
Ae prog F.Om [Sv Ig x4,iV step] w2 false r0' fun r5 w6=>
Aj (!r5.1.1) (
R (((none,0,0),()),(r1.2.1.1,()),()) w6) (
Bf [.slice none 0 0] T.Ah2 w6 fun p7 w8=>
Aq n fun a9=>
ld1 .p (a9.add 15) w8 fun x10=>
Ae prog F.Kt [.pointer x10,iV r1.1.1] w8 true Aa9 fun r11 w12=>
Bf z7' T.Dy w12 fun p13 w14=>
Au (encs vY r11.1) p13 0 w14 fun w15=>
Aq n fun a16=>
ld1 .p (a16.add 18) w15 fun x17=>
Ae prog F.Eo [.pointer x17] w15 true [] fun r18 w19=>
Cc (fun(J20:Unit→WP)=>
Aq n fun a23=>
ld1 .p (a23.add 17) w19 fun x24=>
Ae prog F.Hz [.pointer x24] w19 false r0' fun r25 w26=>
Aj r25.1.1 (
Aq n fun a27=>
ld1 .p (a27.add 16) w26 fun x28=>
Ae prog F.Gf [.pointer x28] w26 true [] fun r29 w30=>
J20 (()) w30) (
J20 (()) w26)) (fun(z21:Unit) w22=> ∀_:Nat→Value,
A8 vY p13 0 w22 fun x31=>
Ae prog F.Jh [.pointer (some p7),.iface T.Dy (Sv vY x31),.bool r11.2.1.1] w22 true [] fun r32 w33=>
Cc (fun(J34:Unit→WP)=>
Ci (fun(self37:Unit→WP) (z38:Unit) w39=> ∀_:Nat→Value,
ld1 .sl p7 w39 fun x40=>
Aj (decide ((x40.2.1:Int)<3)) (
Aq n fun a41=>
ld1 .p (a41.add 27) w39 fun x42=>
Ae prog F.Fq [.pointer x42] w39 true fE fun r43 w44=>
Aj (!r43.2.1.1) (
J34 (()) w44) (
ivK prog r43.1.1 "angelus/node.made" [.pointer n,iV r1.1.1] w44 true fE fun r45 w46=>
Ae prog F.Jh [.pointer (some p7),r45.1.1,.bool r45.2.1.1] w46 true [] fun r47 w48=>
self37 (()) w48)) (
J34 (()) w39)) (()) w33) (fun(z35:Unit) w36=> ∀_:Nat→Value,
Cc (fun(J49:((Bool)×Unit)→WP)=>
Aq n fun a52=>
ld1 .p (a52.add 15) w36 fun x53=>
Ae prog F.Ba [.pointer x53] w36 false r0' fun r54 w55=>
Aj (!r54.1.1) (
ld1 .sl p7 w55 fun x56=>
J49 (decide ((x56.2.1:Int)<3),()) w55) (
J49 (false,()) w55)) (fun(z50:(Bool)×Unit) w51=> ∀_:Nat→Value,
Aj z50.1 (
Ae prog F.Oz [.pointer n,iV r1.1.1] w51 true fE fun r57 w58=>
Ae prog F.Jh [.pointer (some p7),r57.1.1,.bool r57.2.1.1] w58 true [] fun r59 w60=>
ld1 .sl p7 w60 fun x61=>
R (((x61.1,x61.2.1,x61.2.2),()),(0,()),()) w60) (
ld1 .sl p7 w51 fun x62=>
R (((x62.1,x62.2.1,x62.2.2),()),(0,()),()) w51))))))
theorem Hy.ok{n:Option Addr}{step jitter:Int}{w:World}{R:TR iT→WP}:Hy.wp n step jitter w R→Ae prog F.Hy [.pointer n,iV step,iV jitter] w true iT R:=
  oks Aa func13 (hs 6 (.ct [] .n (.s .n (.ct [] (.lp [] .n) (.s (.ct [(94,.b)] .n .n) .n)))))
def Cb.wp(n:Option Addr)(w:World)(R:TR r5'→WP):Prop:=
Bf z2' T.nK w fun p1 w2=>
Aj (Option.isNone n) (
Au z2' p1 0 w2 fun w3=>
A8 k0' p1 0 w3 fun x4=>
R (x4,()) w3) (
Aq n fun a5=>
ld1 .b (a5.add 12) w2 fun x6=>
Aj (!x6) (
Aq n fun a7=>
ld1 KU (a7.add 13) w2 fun x8=>
Au [.bool false,uV x8,iV 0,iV 0,.bool false,.bool false,iV 0,iV 0,iV 0,.bool false,iV 0,iV 0] p1 0 w2 fun w9=>
A8 k0' p1 0 w9 fun x10=>
R (x10,()) w9) (
Jg w2 fun w11=>
Aq n fun a12=>
ld1 KU (a12.add 13) w11 fun x13=>
Aq n fun a14=>
ld1 .p (a14.add 14) w11 fun x15=>
Aq n fun a16=>
ld1 .p (a16.add 15) w11 fun x17=>
Aq x17 fun a18=>
ld1 .p a18 w11 fun x19=>
Aq n fun a20=>
ld1 .p (a20.add 15) w11 fun x21=>
Aq x21 fun a22=>
ld1 .p a22 w11 fun x23=>
Aq n fun a24=>
ld1 .p (a24.add 15) w11 fun x25=>
Aq n fun a26=>
ld1 .p (a26.add 15) w11 fun x27=>
Aq n fun a28=>
ld1 .p (a28.add 16) w11 fun x29=>
Aq n fun a30=>
ld1 .p (a30.add 16) w11 fun x31=>
Aq n fun a32=>
ld1 .p (a32.add 17) w11 fun x33=>
Aq n fun a34=>
ld1 .p (a34.add 27) w11 fun x35=>
Aq n fun a36=>
ld1 .p (a36.add 26) w11 fun x37=>
Ae prog F.Ez [.pointer x15] w11 false r3' fun r38 w39=>
Hold [hd 58 (a36.add 26) w11,hd 53 (a34.add 27) w11,hd 48 (a32.add 17) w11,hd 43 (a30.add 16) w11,hd 38 (a28.add 16) w11,hd 33 (a26.add 15) w11,hd 28 (a24.add 15) w11,hd 23 a22 w11,hd 20 (a20.add 15) w11,hd 15 a18 w11,hd 12 (a16.add 15) w11,hd 7 (a14.add 14) w11,hd 3 (a12.add 13) w11] w39∧(
Ae prog F.Dc [.pointer x19] w39 false r3' fun r40 w41=>
Hold [hd 58 (a36.add 26) w11,hd 53 (a34.add 27) w11,hd 48 (a32.add 17) w11,hd 43 (a30.add 16) w11,hd 38 (a28.add 16) w11,hd 33 (a26.add 15) w11,hd 28 (a24.add 15) w11,hd 23 a22 w11,hd 20 (a20.add 15) w11,hd 15 a18 w11,hd 12 (a16.add 15) w11,hd 7 (a14.add 14) w11,hd 3 (a12.add 13) w11] w41∧(
Ae prog F.Bc [.pointer x23] w41 false r0' fun r42 w43=>
Hold [hd 58 (a36.add 26) w11,hd 53 (a34.add 27) w11,hd 48 (a32.add 17) w11,hd 43 (a30.add 16) w11,hd 38 (a28.add 16) w11,hd 33 (a26.add 15) w11,hd 28 (a24.add 15) w11,hd 23 a22 w11,hd 20 (a20.add 15) w11,hd 15 a18 w11,hd 12 (a16.add 15) w11,hd 7 (a14.add 14) w11,hd 3 (a12.add 13) w11] w43∧(
Ae prog F.Ba [.pointer x25] w43 false r0' fun r44 w45=>
Hold [hd 58 (a36.add 26) w11,hd 53 (a34.add 27) w11,hd 48 (a32.add 17) w11,hd 43 (a30.add 16) w11,hd 38 (a28.add 16) w11,hd 33 (a26.add 15) w11,hd 28 (a24.add 15) w11,hd 23 a22 w11,hd 20 (a20.add 15) w11,hd 15 a18 w11,hd 12 (a16.add 15) w11,hd 7 (a14.add 14) w11,hd 3 (a12.add 13) w11] w45∧(
Ae prog F.Hg [.pointer x27] w45 false r3' fun r46 w47=>
Hold [hd 58 (a36.add 26) w11,hd 53 (a34.add 27) w11,hd 48 (a32.add 17) w11,hd 43 (a30.add 16) w11,hd 38 (a28.add 16) w11,hd 33 (a26.add 15) w11,hd 28 (a24.add 15) w11,hd 23 a22 w11,hd 20 (a20.add 15) w11,hd 15 a18 w11,hd 12 (a16.add 15) w11,hd 7 (a14.add 14) w11,hd 3 (a12.add 13) w11] w47∧(
Ae prog F.Ja [.pointer x29] w47 false r3' fun r48 w49=>
Hold [hd 58 (a36.add 26) w11,hd 53 (a34.add 27) w11,hd 48 (a32.add 17) w11,hd 43 (a30.add 16) w11,hd 38 (a28.add 16) w11,hd 33 (a26.add 15) w11,hd 28 (a24.add 15) w11,hd 23 a22 w11,hd 20 (a20.add 15) w11,hd 15 a18 w11,hd 12 (a16.add 15) w11,hd 7 (a14.add 14) w11,hd 3 (a12.add 13) w11] w49∧(
Ae prog F.En [.pointer x31] w49 false r3' fun r50 w51=>
Hold [hd 58 (a36.add 26) w11,hd 53 (a34.add 27) w11,hd 48 (a32.add 17) w11,hd 43 (a30.add 16) w11,hd 38 (a28.add 16) w11,hd 33 (a26.add 15) w11,hd 28 (a24.add 15) w11,hd 23 a22 w11,hd 20 (a20.add 15) w11,hd 15 a18 w11,hd 12 (a16.add 15) w11,hd 7 (a14.add 14) w11,hd 3 (a12.add 13) w11] w51∧(
Ae prog F.Nv [.pointer x33] w51 false r0' fun r52 w53=>
Hold [hd 58 (a36.add 26) w11,hd 53 (a34.add 27) w11,hd 48 (a32.add 17) w11,hd 43 (a30.add 16) w11,hd 38 (a28.add 16) w11,hd 33 (a26.add 15) w11,hd 28 (a24.add 15) w11,hd 23 a22 w11,hd 20 (a20.add 15) w11,hd 15 a18 w11,hd 12 (a16.add 15) w11,hd 7 (a14.add 14) w11,hd 3 (a12.add 13) w11] w53∧(
Ae prog F.Di [.pointer x35] w53 false r3' fun r54 w55=>
Hold [hd 58 (a36.add 26) w11,hd 53 (a34.add 27) w11,hd 48 (a32.add 17) w11,hd 43 (a30.add 16) w11,hd 38 (a28.add 16) w11,hd 33 (a26.add 15) w11,hd 28 (a24.add 15) w11,hd 23 a22 w11,hd 20 (a20.add 15) w11,hd 15 a18 w11,hd 12 (a16.add 15) w11,hd 7 (a14.add 14) w11,hd 3 (a12.add 13) w11] w55∧(
Ae prog F.Qh [.pointer x37] w55 false r3' fun r56 w57=>
Hold [hd 53 (a34.add 27) w11,hd 48 (a32.add 17) w11,hd 43 (a30.add 16) w11,hd 38 (a28.add 16) w11,hd 33 (a26.add 15) w11,hd 28 (a24.add 15) w11,hd 23 a22 w11,hd 20 (a20.add 15) w11,hd 15 a18 w11,hd 12 (a16.add 15) w11,hd 7 (a14.add 14) w11,hd 3 (a12.add 13) w11] w57∧(
Au [.bool true,uV x13,iV r38.1.1,iV r40.1.1,.bool r42.1.1,.bool r44.1.1,iV r46.1.1,iV r48.1.1,iV r50.1.1,.bool r52.1.1,iV r54.1.1,iV r56.1.1] p1 0 w57 fun w58=>
Hold [] w58∧(
A8 k0' p1 0 w58 fun x59=>
R (x59,()) w58)))))))))))))
theorem Cb.ok{n:Option Addr}{w:World}{R:TR r5'→WP}:Cb.wp n w R→Ae prog F.Cb [.pointer n] w false r5' R:=
  oks Aa func14 (hs 3 (.s (.pl (ks [0,1,2,3,4,5,6,7,9,10,11,12,13,14,15,17,18,19,20,21,22,23,25,26,27,28,30,31,32,33,35,36,37,38,40,41,42,43,45,46,47,48,50,51,52,53,55,56,57,58] (.ef 8 [] (.ef 16 [] (.ef 24 [] (.ef 29 [] (.ef 34 [] (.ef 39 [] (.ef 44 [] (.ef 49 [] (.ef 54 [] (.ef 59 [58] (.tk 60 (.ef 61 [3,7,12,15,20,23,28,33,38,43,48,53] .z)))))))))))))) .n))
def law26_sent.wp(b list:Option Addr×Nat×Nat)(w:World)(R:TR r0'→WP):Prop:=
Aj ((b.2.1:Int) !=(list.2.1:Int)) (
R ((false,()),()) w) (
Ci (fun(self1:((Int)×Unit)→WP) (z2:(Int)×Unit) w3=> ∀_:Nat→Value,
Aj (decide (z2.1<(b.2.1:Int))) (
Jg w3 fun w4=>
Ny b.1 b.2.1 z2.1 fun a5=>
ld1 .sl (a5.add (z2.1.toNat*1)) w4 fun x6=>
Ny list.1 list.2.1 z2.1 fun a7=>
A8 k2' (a7.add (z2.1.toNat*14)) 0 w4 fun x8=>
(
yE prog (.slice x6.1 x6.2.1 x6.2.2) w4 fun s9 w10=>
Hold [(8,((a7.add (z2.1.toNat*14)).add 0),(w4.cell? ((a7.add (z2.1.toNat*14)).add 0)).getD undef),(8,((a7.add (z2.1.toNat*14)).add 1),(w4.cell? ((a7.add (z2.1.toNat*14)).add 1)).getD undef),(8,((a7.add (z2.1.toNat*14)).add 2),(w4.cell? ((a7.add (z2.1.toNat*14)).add 2)).getD undef),(8,((a7.add (z2.1.toNat*14)).add 3),(w4.cell? ((a7.add (z2.1.toNat*14)).add 3)).getD undef),(8,((a7.add (z2.1.toNat*14)).add 4),(w4.cell? ((a7.add (z2.1.toNat*14)).add 4)).getD undef),(8,((a7.add (z2.1.toNat*14)).add 5),(w4.cell? ((a7.add (z2.1.toNat*14)).add 5)).getD undef),(8,((a7.add (z2.1.toNat*14)).add 6),(w4.cell? ((a7.add (z2.1.toNat*14)).add 6)).getD undef),(8,((a7.add (z2.1.toNat*14)).add 7),(w4.cell? ((a7.add (z2.1.toNat*14)).add 7)).getD undef),(8,((a7.add (z2.1.toNat*14)).add 8),(w4.cell? ((a7.add (z2.1.toNat*14)).add 8)).getD undef),(8,((a7.add (z2.1.toNat*14)).add 9),(w4.cell? ((a7.add (z2.1.toNat*14)).add 9)).getD undef),(8,((a7.add (z2.1.toNat*14)).add 10),(w4.cell? ((a7.add (z2.1.toNat*14)).add 10)).getD undef),(8,((a7.add (z2.1.toNat*14)).add 11),(w4.cell? ((a7.add (z2.1.toNat*14)).add 11)).getD undef),(8,((a7.add (z2.1.toNat*14)).add 12),(w4.cell? ((a7.add (z2.1.toNat*14)).add 12)).getD undef),(8,((a7.add (z2.1.toNat*14)).add 13),(w4.cell? ((a7.add (z2.1.toNat*14)).add 13)).getD undef),hd 3 (a5.add (z2.1.toNat*1)) w4] w10∧(
Ae prog F.Hf [Sv k2' x8] w10 false H7 fun r11 w12=>
Hold [(8,((a7.add (z2.1.toNat*14)).add 0),(w4.cell? ((a7.add (z2.1.toNat*14)).add 0)).getD undef),(8,((a7.add (z2.1.toNat*14)).add 1),(w4.cell? ((a7.add (z2.1.toNat*14)).add 1)).getD undef),(8,((a7.add (z2.1.toNat*14)).add 2),(w4.cell? ((a7.add (z2.1.toNat*14)).add 2)).getD undef),(8,((a7.add (z2.1.toNat*14)).add 3),(w4.cell? ((a7.add (z2.1.toNat*14)).add 3)).getD undef),(8,((a7.add (z2.1.toNat*14)).add 4),(w4.cell? ((a7.add (z2.1.toNat*14)).add 4)).getD undef),(8,((a7.add (z2.1.toNat*14)).add 5),(w4.cell? ((a7.add (z2.1.toNat*14)).add 5)).getD undef),(8,((a7.add (z2.1.toNat*14)).add 6),(w4.cell? ((a7.add (z2.1.toNat*14)).add 6)).getD undef),(8,((a7.add (z2.1.toNat*14)).add 7),(w4.cell? ((a7.add (z2.1.toNat*14)).add 7)).getD undef),(8,((a7.add (z2.1.toNat*14)).add 8),(w4.cell? ((a7.add (z2.1.toNat*14)).add 8)).getD undef),(8,((a7.add (z2.1.toNat*14)).add 9),(w4.cell? ((a7.add (z2.1.toNat*14)).add 9)).getD undef),(8,((a7.add (z2.1.toNat*14)).add 10),(w4.cell? ((a7.add (z2.1.toNat*14)).add 10)).getD undef),(8,((a7.add (z2.1.toNat*14)).add 11),(w4.cell? ((a7.add (z2.1.toNat*14)).add 11)).getD undef),(8,((a7.add (z2.1.toNat*14)).add 12),(w4.cell? ((a7.add (z2.1.toNat*14)).add 12)).getD undef),(8,((a7.add (z2.1.toNat*14)).add 13),(w4.cell? ((a7.add (z2.1.toNat*14)).add 13)).getD undef),hd 3 (a5.add (z2.1.toNat*1)) w4] w12∧(
yE prog (.slice r11.1.1.1 r11.1.1.2.1 r11.1.1.2.2) w12 fun s13 w14=>
Hold [(8,((a7.add (z2.1.toNat*14)).add 0),(w4.cell? ((a7.add (z2.1.toNat*14)).add 0)).getD undef),(8,((a7.add (z2.1.toNat*14)).add 1),(w4.cell? ((a7.add (z2.1.toNat*14)).add 1)).getD undef),(8,((a7.add (z2.1.toNat*14)).add 2),(w4.cell? ((a7.add (z2.1.toNat*14)).add 2)).getD undef),(8,((a7.add (z2.1.toNat*14)).add 3),(w4.cell? ((a7.add (z2.1.toNat*14)).add 3)).getD undef),(8,((a7.add (z2.1.toNat*14)).add 4),(w4.cell? ((a7.add (z2.1.toNat*14)).add 4)).getD undef),(8,((a7.add (z2.1.toNat*14)).add 5),(w4.cell? ((a7.add (z2.1.toNat*14)).add 5)).getD undef),(8,((a7.add (z2.1.toNat*14)).add 6),(w4.cell? ((a7.add (z2.1.toNat*14)).add 6)).getD undef),(8,((a7.add (z2.1.toNat*14)).add 7),(w4.cell? ((a7.add (z2.1.toNat*14)).add 7)).getD undef),(8,((a7.add (z2.1.toNat*14)).add 8),(w4.cell? ((a7.add (z2.1.toNat*14)).add 8)).getD undef),(8,((a7.add (z2.1.toNat*14)).add 9),(w4.cell? ((a7.add (z2.1.toNat*14)).add 9)).getD undef),(8,((a7.add (z2.1.toNat*14)).add 10),(w4.cell? ((a7.add (z2.1.toNat*14)).add 10)).getD undef),(8,((a7.add (z2.1.toNat*14)).add 11),(w4.cell? ((a7.add (z2.1.toNat*14)).add 11)).getD undef),(8,((a7.add (z2.1.toNat*14)).add 12),(w4.cell? ((a7.add (z2.1.toNat*14)).add 12)).getD undef),(8,((a7.add (z2.1.toNat*14)).add 13),(w4.cell? ((a7.add (z2.1.toNat*14)).add 13)).getD undef),hd 3 (a5.add (z2.1.toNat*1)) w4] w14∧(
Aj (!(s9==s13)) (
R ((false,()),()) w14) (
self1 (wrap .i64 (z2.1+1),()) w14)))))∧(
Ae prog F.Hf [Sv k2' x8] w4 false H7 fun Zb w16=>
Hold [(8,((a7.add (z2.1.toNat*14)).add 0),(w4.cell? ((a7.add (z2.1.toNat*14)).add 0)).getD undef),(8,((a7.add (z2.1.toNat*14)).add 1),(w4.cell? ((a7.add (z2.1.toNat*14)).add 1)).getD undef),(8,((a7.add (z2.1.toNat*14)).add 2),(w4.cell? ((a7.add (z2.1.toNat*14)).add 2)).getD undef),(8,((a7.add (z2.1.toNat*14)).add 3),(w4.cell? ((a7.add (z2.1.toNat*14)).add 3)).getD undef),(8,((a7.add (z2.1.toNat*14)).add 4),(w4.cell? ((a7.add (z2.1.toNat*14)).add 4)).getD undef),(8,((a7.add (z2.1.toNat*14)).add 5),(w4.cell? ((a7.add (z2.1.toNat*14)).add 5)).getD undef),(8,((a7.add (z2.1.toNat*14)).add 6),(w4.cell? ((a7.add (z2.1.toNat*14)).add 6)).getD undef),(8,((a7.add (z2.1.toNat*14)).add 7),(w4.cell? ((a7.add (z2.1.toNat*14)).add 7)).getD undef),(8,((a7.add (z2.1.toNat*14)).add 8),(w4.cell? ((a7.add (z2.1.toNat*14)).add 8)).getD undef),(8,((a7.add (z2.1.toNat*14)).add 9),(w4.cell? ((a7.add (z2.1.toNat*14)).add 9)).getD undef),(8,((a7.add (z2.1.toNat*14)).add 10),(w4.cell? ((a7.add (z2.1.toNat*14)).add 10)).getD undef),(8,((a7.add (z2.1.toNat*14)).add 11),(w4.cell? ((a7.add (z2.1.toNat*14)).add 11)).getD undef),(8,((a7.add (z2.1.toNat*14)).add 12),(w4.cell? ((a7.add (z2.1.toNat*14)).add 12)).getD undef),(8,((a7.add (z2.1.toNat*14)).add 13),(w4.cell? ((a7.add (z2.1.toNat*14)).add 13)).getD undef),hd 3 (a5.add (z2.1.toNat*1)) w4] w16∧(
(
yE prog (.slice x6.1 x6.2.1 x6.2.2) w16 fun s17 w18=>
Hold [(8,((a7.add (z2.1.toNat*14)).add 0),(w4.cell? ((a7.add (z2.1.toNat*14)).add 0)).getD undef),(8,((a7.add (z2.1.toNat*14)).add 1),(w4.cell? ((a7.add (z2.1.toNat*14)).add 1)).getD undef),(8,((a7.add (z2.1.toNat*14)).add 2),(w4.cell? ((a7.add (z2.1.toNat*14)).add 2)).getD undef),(8,((a7.add (z2.1.toNat*14)).add 3),(w4.cell? ((a7.add (z2.1.toNat*14)).add 3)).getD undef),(8,((a7.add (z2.1.toNat*14)).add 4),(w4.cell? ((a7.add (z2.1.toNat*14)).add 4)).getD undef),(8,((a7.add (z2.1.toNat*14)).add 5),(w4.cell? ((a7.add (z2.1.toNat*14)).add 5)).getD undef),(8,((a7.add (z2.1.toNat*14)).add 6),(w4.cell? ((a7.add (z2.1.toNat*14)).add 6)).getD undef),(8,((a7.add (z2.1.toNat*14)).add 7),(w4.cell? ((a7.add (z2.1.toNat*14)).add 7)).getD undef),(8,((a7.add (z2.1.toNat*14)).add 8),(w4.cell? ((a7.add (z2.1.toNat*14)).add 8)).getD undef),(8,((a7.add (z2.1.toNat*14)).add 9),(w4.cell? ((a7.add (z2.1.toNat*14)).add 9)).getD undef),(8,((a7.add (z2.1.toNat*14)).add 10),(w4.cell? ((a7.add (z2.1.toNat*14)).add 10)).getD undef),(8,((a7.add (z2.1.toNat*14)).add 11),(w4.cell? ((a7.add (z2.1.toNat*14)).add 11)).getD undef),(8,((a7.add (z2.1.toNat*14)).add 12),(w4.cell? ((a7.add (z2.1.toNat*14)).add 12)).getD undef),(8,((a7.add (z2.1.toNat*14)).add 13),(w4.cell? ((a7.add (z2.1.toNat*14)).add 13)).getD undef),hd 3 (a5.add (z2.1.toNat*1)) w4] w18∧(
yE prog (.slice Zb.1.1.1 Zb.1.1.2.1 Zb.1.1.2.2) w18 fun s19 w20=>
Hold [(8,((a7.add (z2.1.toNat*14)).add 0),(w4.cell? ((a7.add (z2.1.toNat*14)).add 0)).getD undef),(8,((a7.add (z2.1.toNat*14)).add 1),(w4.cell? ((a7.add (z2.1.toNat*14)).add 1)).getD undef),(8,((a7.add (z2.1.toNat*14)).add 2),(w4.cell? ((a7.add (z2.1.toNat*14)).add 2)).getD undef),(8,((a7.add (z2.1.toNat*14)).add 3),(w4.cell? ((a7.add (z2.1.toNat*14)).add 3)).getD undef),(8,((a7.add (z2.1.toNat*14)).add 4),(w4.cell? ((a7.add (z2.1.toNat*14)).add 4)).getD undef),(8,((a7.add (z2.1.toNat*14)).add 5),(w4.cell? ((a7.add (z2.1.toNat*14)).add 5)).getD undef),(8,((a7.add (z2.1.toNat*14)).add 6),(w4.cell? ((a7.add (z2.1.toNat*14)).add 6)).getD undef),(8,((a7.add (z2.1.toNat*14)).add 7),(w4.cell? ((a7.add (z2.1.toNat*14)).add 7)).getD undef),(8,((a7.add (z2.1.toNat*14)).add 8),(w4.cell? ((a7.add (z2.1.toNat*14)).add 8)).getD undef),(8,((a7.add (z2.1.toNat*14)).add 9),(w4.cell? ((a7.add (z2.1.toNat*14)).add 9)).getD undef),(8,((a7.add (z2.1.toNat*14)).add 10),(w4.cell? ((a7.add (z2.1.toNat*14)).add 10)).getD undef),(8,((a7.add (z2.1.toNat*14)).add 11),(w4.cell? ((a7.add (z2.1.toNat*14)).add 11)).getD undef),(8,((a7.add (z2.1.toNat*14)).add 12),(w4.cell? ((a7.add (z2.1.toNat*14)).add 12)).getD undef),(8,((a7.add (z2.1.toNat*14)).add 13),(w4.cell? ((a7.add (z2.1.toNat*14)).add 13)).getD undef),hd 3 (a5.add (z2.1.toNat*1)) w4] w20∧(
Aj (!(s17==s19)) (
R ((false,()),()) w20) (
self1 (wrap .i64 (z2.1+1),()) w20))))∧(
yE prog (.slice Zb.1.1.1 Zb.1.1.2.1 Zb.1.1.2.2) w16 fun s21 w22=>
Hold [(8,((a7.add (z2.1.toNat*14)).add 0),(w4.cell? ((a7.add (z2.1.toNat*14)).add 0)).getD undef),(8,((a7.add (z2.1.toNat*14)).add 1),(w4.cell? ((a7.add (z2.1.toNat*14)).add 1)).getD undef),(8,((a7.add (z2.1.toNat*14)).add 2),(w4.cell? ((a7.add (z2.1.toNat*14)).add 2)).getD undef),(8,((a7.add (z2.1.toNat*14)).add 3),(w4.cell? ((a7.add (z2.1.toNat*14)).add 3)).getD undef),(8,((a7.add (z2.1.toNat*14)).add 4),(w4.cell? ((a7.add (z2.1.toNat*14)).add 4)).getD undef),(8,((a7.add (z2.1.toNat*14)).add 5),(w4.cell? ((a7.add (z2.1.toNat*14)).add 5)).getD undef),(8,((a7.add (z2.1.toNat*14)).add 6),(w4.cell? ((a7.add (z2.1.toNat*14)).add 6)).getD undef),(8,((a7.add (z2.1.toNat*14)).add 7),(w4.cell? ((a7.add (z2.1.toNat*14)).add 7)).getD undef),(8,((a7.add (z2.1.toNat*14)).add 8),(w4.cell? ((a7.add (z2.1.toNat*14)).add 8)).getD undef),(8,((a7.add (z2.1.toNat*14)).add 9),(w4.cell? ((a7.add (z2.1.toNat*14)).add 9)).getD undef),(8,((a7.add (z2.1.toNat*14)).add 10),(w4.cell? ((a7.add (z2.1.toNat*14)).add 10)).getD undef),(8,((a7.add (z2.1.toNat*14)).add 11),(w4.cell? ((a7.add (z2.1.toNat*14)).add 11)).getD undef),(8,((a7.add (z2.1.toNat*14)).add 12),(w4.cell? ((a7.add (z2.1.toNat*14)).add 12)).getD undef),(8,((a7.add (z2.1.toNat*14)).add 13),(w4.cell? ((a7.add (z2.1.toNat*14)).add 13)).getD undef),hd 3 (a5.add (z2.1.toNat*1)) w4] w22∧(
yE prog (.slice x6.1 x6.2.1 x6.2.2) w22 fun s23 w24=>
Hold [(8,((a7.add (z2.1.toNat*14)).add 0),(w4.cell? ((a7.add (z2.1.toNat*14)).add 0)).getD undef),(8,((a7.add (z2.1.toNat*14)).add 1),(w4.cell? ((a7.add (z2.1.toNat*14)).add 1)).getD undef),(8,((a7.add (z2.1.toNat*14)).add 2),(w4.cell? ((a7.add (z2.1.toNat*14)).add 2)).getD undef),(8,((a7.add (z2.1.toNat*14)).add 3),(w4.cell? ((a7.add (z2.1.toNat*14)).add 3)).getD undef),(8,((a7.add (z2.1.toNat*14)).add 4),(w4.cell? ((a7.add (z2.1.toNat*14)).add 4)).getD undef),(8,((a7.add (z2.1.toNat*14)).add 5),(w4.cell? ((a7.add (z2.1.toNat*14)).add 5)).getD undef),(8,((a7.add (z2.1.toNat*14)).add 6),(w4.cell? ((a7.add (z2.1.toNat*14)).add 6)).getD undef),(8,((a7.add (z2.1.toNat*14)).add 7),(w4.cell? ((a7.add (z2.1.toNat*14)).add 7)).getD undef),(8,((a7.add (z2.1.toNat*14)).add 8),(w4.cell? ((a7.add (z2.1.toNat*14)).add 8)).getD undef),(8,((a7.add (z2.1.toNat*14)).add 9),(w4.cell? ((a7.add (z2.1.toNat*14)).add 9)).getD undef),(8,((a7.add (z2.1.toNat*14)).add 10),(w4.cell? ((a7.add (z2.1.toNat*14)).add 10)).getD undef),(8,((a7.add (z2.1.toNat*14)).add 11),(w4.cell? ((a7.add (z2.1.toNat*14)).add 11)).getD undef),(8,((a7.add (z2.1.toNat*14)).add 12),(w4.cell? ((a7.add (z2.1.toNat*14)).add 12)).getD undef),(8,((a7.add (z2.1.toNat*14)).add 13),(w4.cell? ((a7.add (z2.1.toNat*14)).add 13)).getD undef)] w24∧(
Aj (!(s23==s21)) (
R ((false,()),()) w24) (
self1 (wrap .i64 (z2.1+1),()) w24))))))) (
R ((true,()),()) w3)) (0,()) w)
theorem law26_sent.ok{b list:Option Addr×Nat×Nat}{w:World}{R:TR r0'→WP}:law26_sent.wp b list w R→Ae prog F.law26_sent [.slice b.1 b.2.1 b.2.2,.slice list.1 list.2.1 list.2.2] w false r0' R:=
  oks Aa func15 (hs 2 (.s (.s .n (.lp [(13,(.i .i64))] (hs 2 (.s (.s .n (.s (.pl (ks [0,1,2,3,5,6,7,8] (.two 4 9 (.ef 9 [] (.ef 10 [] (.tk 11 .z))) (.two 4 10 (.ef 10 [] (.tk 11 .z)) (.ef 4 [3] (.tk 11 .z)))))) .n)) .n)))) .n))
def Ut.wp(s0 s1 s2 s3 s4 s5 s6 s7 s8 s9:Int)(s10:Bool)(w:World)(R:TR dB→WP):Prop:=
Bf [iV s0,iV s1,iV s2,iV s3,iV s4,iV s5,iV s6,iV s7,iV s8,iV s9,.bool s10] T.Xj w fun p1 w2=>
A8 k1' p1 0 w2 fun x3=>
Bf [iV x3.1,iV x3.2.1,iV x3.2.2.1,iV x3.2.2.2.1,iV x3.2.2.2.2.1,iV x3.2.2.2.2.2.1,iV x3.2.2.2.2.2.2.1,iV x3.2.2.2.2.2.2.2.1,iV x3.2.2.2.2.2.2.2.2.1,iV x3.2.2.2.2.2.2.2.2.2.1,.bool x3.2.2.2.2.2.2.2.2.2.2.1,.bool false,uV 0,.pointer none,.pointer none,.pointer none,.pointer none,.pointer none,.pointer none,.pointer none,.slice none 0 0,.slice none 0 0] T.Abt w2 fun p4 w5=>
Ae prog F.Io [.pointer (some p4),iV 0] w5 true [] fun r6 w7=>
R ((some p4,()),()) w7
theorem Ut.ok{s0 s1 s2 s3 s4 s5 s6 s7 s8 s9:Int}{s10:Bool}{w:World}{R:TR dB→WP}:Ut.wp s0 s1 s2 s3 s4 s5 s6 s7 s8 s9 s10 w R→Ae prog F.Ut [.agg #[iV s0,iV s1,iV s2,iV s3,iV s4,iV s5,iV s6,iV s7,iV s8,iV s9,.bool s10]] w false dB R:=
  oks Aa func16 .n
def law26_great.wp(c0 c1 c2 c3 c4 c5 c6 c7 c8 c9 c10 c11 c12 c13 c14 c15 c16 c17:Int)(c18:Option Addr×Nat×Nat)(c19:ByteArray)(w:World)(R:TR r0'→WP):Prop:=
Bf [iV c0,iV c1,iV c2,.int .u32 c3,iV c4,iV c5,iV c6,iV c7,uV c8,uV c9,iV c10,iV c11,iV c12,iV c13,iV c14,iV c15,iV c16,iV c17,.slice c18.1 c18.2.1 c18.2.2,.string c19] T.law26_Call w fun p1 w2=>
ld1 .sl (p1.add 18) w2 fun x3=>
Aj (decide ((x3.2.1:Int)>200)) (
R ((true,()),()) w2) (
ld1 .s (p1.add 19) w2 fun x4=>
R ((decide ((x4.size:Int)>100),()),()) w2)
theorem law26_great.ok{c0 c1 c2 c3 c4 c5 c6 c7 c8 c9 c10 c11 c12 c13 c14 c15 c16 c17:Int}{c18:Option Addr×Nat×Nat}{c19:ByteArray}{w:World}{R:TR r0'→WP}:law26_great.wp c0 c1 c2 c3 c4 c5 c6 c7 c8 c9 c10 c11 c12 c13 c14 c15 c16 c17 c18 c19 w R→Ae prog F.law26_great [.agg #[iV c0,iV c1,iV c2,.int .u32 c3,iV c4,iV c5,iV c6,iV c7,uV c8,uV c9,iV c10,iV c11,iV c12,iV c13,iV c14,iV c15,iV c16,iV c17,.slice c18.1 c18.2.1 c18.2.2,.string c19]] w false r0' R:=
  oks Aa func17 .n
def law26_does.wp(n m:Option Addr)(c0 c1 c2 c3 c4 c5 c6 c7 c8 c9 c10 c11 c12 c13 c14 c15 c16 c17:Int)(c18:Option Addr×Nat×Nat)(c19:ByteArray)(w:World)(R:TR r0'→WP):Prop:=
Bf [iV c0,iV c1,iV c2,.int .u32 c3,iV c4,iV c5,iV c6,iV c7,uV c8,uV c9,iV c10,iV c11,iV c12,iV c13,iV c14,iV c15,iV c16,iV c17,.slice c18.1 c18.2.1 c18.2.2,.string c19] T.law26_Call w fun p1 w2=>
ld1 KI p1 w2 fun x3=>
Aj (x3==0) (
ld1 (.i .u32) (p1.add 3) w2 fun x4=>
Ae prog F.Gz [.pointer m,.int .u32 x4] w2 true [] fun r5 w6=>
ld1 (.i .u32) (p1.add 3) w6 fun x7=>
Ae prog F.Ji [.pointer n,.int .u32 x7] w6 false r3' fun r8 w9=>
R (((r8.1.1==0),()),()) w9) (
Aj (x3==1) (
Aq m fun a10=>
ld1 .b (a10.add 11) w2 fun x11=>
Aq m fun a12=>
Au [.bool false] (a12.add 11) 0 w2 fun w13=>
Ae prog F.Qg [.pointer n] w13 false r3' fun r14 w15=>
R ((((r14.1.1==0)==x11),()),()) w15) (
Cc (fun(J16:((Bool)×Unit)→WP)=>
Aj (x3==2) (
J16 ((x3==2),()) w2) (
J16 ((x3==3),()) w2)) (fun(z17:(Bool)×Unit) w18=> ∀_:Nat→Value,
Aj z17.1 (
Aq m fun a19=>
ld1 .b (a19.add 11) w18 fun x20=>
Aj (!x20) (
ld1 KI (p1.add 1) w18 fun x21=>
Ae prog F.Lr [.pointer n,iV x21] w18 false r3' fun r22 w23=>
R (((r22.1.1==10),()),()) w23) (
Jg w18 fun w24=>
ld1 KI (p1.add 1) w24 fun x25=>
Aq m fun a26=>
ld1 .p (a26.add 13) w24 fun x27=>
ld1 KI (p1.add 1) w24 fun x28=>
Ae prog F.Lr [.pointer n,iV x25] w24 false r3' fun r29 w30=>
Hold [hd 9 (p1.add 1) w24,hd 7 (a26.add 13) w24,hd 2 (p1.add 1) w24] w30∧(
Ae prog F.Ph [.pointer x27,iV x28] w30 false r3' fun r31 w32=>
Hold [hd 2 (p1.add 1) w24] w32∧(
R (((r29.1.1==r31.1.1),()),()) w32)))) (
Cc (fun(J33:((Bool)×Unit)→WP)=>
Aj (x3==4) (
J33 ((x3==4),()) w18) (
J33 ((x3==5),()) w18)) (fun(z34:(Bool)×Unit) w35=> ∀_:Nat→Value,
Aj z34.1 (
ld1 KI (p1.add 1) w35 fun x36=>
ld1 KI (p1.add 2) w35 fun x37=>
Ae prog F.Hy [.pointer n,iV x36,iV x37] w35 true iT fun r38 w39=>
ld1 KI (p1.add 1) w39 fun x40=>
ld1 KI (p1.add 2) w39 fun x41=>
Ae prog F.Me [.pointer m,iV x40,iV x41] w39 true iT fun r42 w43=>
Aj (r38.2.1.1==r42.2.1.1) (
Ae prog F.law26_sent [.slice r38.1.1.1 r38.1.1.2.1 r38.1.1.2.2,.slice r42.1.1.1 r42.1.1.2.1 r42.1.1.2.2] w43 false r0' fun r44 w45=>
R ((r44.1.1,()),()) w45) (
R ((false,()),()) w43)) (
Cc (fun(J46:((Bool)×Unit)→WP)=>
Aj (x3==6) (
J46 ((x3==6),()) w35) (
Aj (x3==7) (
J46 ((x3==7),()) w35) (
J46 ((x3==8),()) w35))) (fun(z47:(Bool)×Unit) w48=> ∀_:Nat→Value,
Aj z47.1 (
ld1 .sl (p1.add 18) w48 fun x49=>
Cc (fun(J50:((Option Addr×Nat×Nat)×Unit)→WP)=>
A8 k2' (p1.add 4) 0 w48 fun x53=>
Ae prog F.Fb [Sv k2' x53] w48 false r0' fun r54 w55=>
Aj r54.1.1 (
A8 k2' (p1.add 4) 0 w55 fun x56=>
Ae prog F.Hf [Sv k2' x56] w55 false H7 fun r57 w58=>
J50 ((r57.1.1.1,r57.1.1.2.1,r57.1.1.2.2),()) w58) (
J50 ((x49.1,x49.2.1,x49.2.2),()) w55)) (fun(z51:(Option Addr×Nat×Nat)×Unit) w52=> ∀_:Nat→Value,
Bf [] T.uint8 w52 fun p59 w60=>
L9 ((Builtin.append_ #[T.Fh,T.Fh] T.Fh #[.slice (some p59) 0 0,.slice z51.1.1 z51.1.2.1 z51.1.2.2]).run prog w60) fun y61 w62=>
Jg w62 fun w63=>
ld1 KI (p1.add 2) w63 fun x64=>
ld1 KI (p1.add 2) w63 fun x65=>
Ae prog F.Ia [.pointer n,iV x64,.slice y61.1 y61.2.1 y61.2.2] w63 false r3' fun r66 w67=>
Hold [hd 7 (p1.add 2) w63,hd 2 (p1.add 2) w63] w67∧(
Ae prog F.Nu [.pointer m,iV x65,.slice z51.1.1 z51.1.2.1 z51.1.2.2] w67 false r3' fun r68 w69=>
Hold [hd 7 (p1.add 2) w63,hd 2 (p1.add 2) w63] w69∧(
Aj (r66.1.1==r68.1.1) (
(
yE prog (.slice y61.1 y61.2.1 y61.2.2) w69 fun s70 w71=>
Hold [hd 7 (p1.add 2) w63,hd 2 (p1.add 2) w63] w71∧(
yE prog (.slice z51.1.1 z51.1.2.1 z51.1.2.2) w71 fun s72 w73=>
Hold [hd 7 (p1.add 2) w63,hd 2 (p1.add 2) w63] w73∧(
R (((s70==s72),()),()) w73)))∧(
yE prog (.slice z51.1.1 z51.1.2.1 z51.1.2.2) w69 fun s74 w75=>
Hold [hd 7 (p1.add 2) w63,hd 2 (p1.add 2) w63] w75∧(
yE prog (.slice y61.1 y61.2.1 y61.2.2) w75 fun s76 w77=>
Hold [hd 7 (p1.add 2) w63,hd 2 (p1.add 2) w63] w77∧(
R (((s76==s74),()),()) w77)))) (
(
R ((false,()),()) w69)∧(
R ((false,()),()) w69)))))) (
Aj (x3==9) (
ld1 .s (p1.add 19) w48 fun x78=>
Ae prog F.Qj [.pointer n,.string x78] w48 true dH fun r79 w80=>
ld1 .s (p1.add 19) w80 fun x81=>
Ae prog F.O5 [.pointer m,.string x81] w80 true dH fun r82 w83=>
Aj (r79.1.1==r82.1.1) (
R (((r79.2.1.1==r82.2.1.1),()),()) w83) (
R ((false,()),()) w83)) (
Aj (x3==10) (
Ae prog F.Oq [.pointer n] w48 true oI fun r84 w85=>
Bf z4' T.U1 w85 fun p86 w87=>
Au (encs xP r84.1) p86 0 w87 fun w88=>
Ae prog F.Ii [.pointer m] w88 true Ak0 fun r89 w90=>
Bf z8' T.V4 w90 fun p91 w92=>
Au (encs Aab r89.2.2.1) p91 0 w92 fun w93=>
Aj (r84.2.1.1==r89.2.2.2.1.1) (
ld1 KI p86 w93 fun x94=>
Aj (x94==r89.1.1) (
ld1 .s (p86.add 1) w93 fun x95=>
Aj (x95==r89.2.1.1) (
ld1 KI (p86.add 2) w93 fun x96=>
ld1 KI p91 w93 fun x97=>
Aj (x96==x97) (
A8 Xf (p86.add 3) 0 w93 fun x98=>
A8 Xf (p91.add 1) 0 w93 fun x99=>
Ae prog F.law26_same [Sv Xf x98,Sv Xf x99] w93 false r0' fun r100 w101=>
R ((r100.1.1,()),()) w101) (
R ((false,()),()) w93)) (
R ((false,()),()) w93)) (
R ((false,()),()) w93)) (
R ((false,()),()) w93)) (
Aj (x3==11) (
Jg w48 fun w102=>
ld1 KI (p1.add 1) w102 fun x103=>
ld1 KI (p1.add 1) w102 fun x104=>
Ae prog F.Qc [.pointer n,iV x103] w102 false r3' fun r105 w106=>
Hold [hd 6 (p1.add 1) w102,hd 2 (p1.add 1) w102] w106∧(
Ae prog F.Ot [.pointer m,iV x104] w106 false r3' fun r107 w108=>
Hold [hd 2 (p1.add 1) w102] w108∧(
R (((r105.1.1==r107.1.1),()),()) w108))) (
R ((true,()),()) w48)))))))))))
theorem law26_does.ok{n m:Option Addr}{c0 c1 c2 c3 c4 c5 c6 c7 c8 c9 c10 c11 c12 c13 c14 c15 c16 c17:Int}{c18:Option Addr×Nat×Nat}{c19:ByteArray}{w:World}{R:TR r0'→WP}:law26_does.wp n m c0 c1 c2 c3 c4 c5 c6 c7 c8 c9 c10 c11 c12 c13 c14 c15 c16 c17 c18 c19 w R→Ae prog F.law26_does [.pointer n,.pointer m,.agg #[iV c0,iV c1,iV c2,.int .u32 c3,iV c4,iV c5,iV c6,iV c7,uV c8,uV c9,iV c10,iV c11,iV c12,iV c13,iV c14,iV c15,iV c16,iV c17,.slice c18.1 c18.2.1 c18.2.2,.string c19]] w false r0' R:=
  oks Aa func18 (.s .n (.s (hs 5 (.ct [(51,.b)] .n (.s (.s .n (.s (.pl (ks [0,1,2,4,5,6,7,8,9] (.ef 3 [] (.ef 10 [7,9] (.tk 11 (.tk 12 .z)))))) .n)) (.ct [(76,.b)] .n (.s .n (.ct [(105,.b)] .n (.s (.s .n (.ct [(12,.sl)] .n (.s .n (.s (.pl (ks [0,1,2,3,5,6,7,8] (.ef 4 [] (.ef 9 [] (ks [10,11,12,14] (.two 13 15 (.ef 15 [] (ks [16,17,18] .z)) (.ef 13 [] (ks [16,17,18] .z)))))))) .n)))) (hs 5 (.s (.s (.pl (ks [0,1,2,4,5,6] (.ef 3 [] (.ef 7 [6] (.tk 8 (.tk 9 .z)))))) .n) .n))))))))) .n))
def Tc.wp(b:Option Addr×Nat×Nat)(w:World)(R:TR r7'→WP):Prop:=
Bf z0' T.Dn w fun p1 w2=>
Aj (decide ((b.2.1:Int)>64)) (
Au z0' p1 0 w2 fun w3=>
A8 k2' p1 0 w3 fun x4=>
R (x4,(5,()),()) w3) (
Aj ((b.2.1:Int)==0) (
Au z0' p1 0 w2 fun w5=>
A8 k2' p1 0 w5 fun x6=>
R (x6,(3,()),()) w5) (
Ny b.1 b.2.1 0 fun a7=>
ld1 (.i .u8) (a7.add ((0:Int).toNat*1)) w2 fun x8=>
Bf z0' T.Dn w2 fun p9 w10=>
Au [iV (wrap .i64 x8),iV 0,iV 0,iV 0,uV 0,uV 0,iV 0,iV 0,iV 0,iV 0,iV 0,iV 0,iV 0,iV 0] p9 0 w10 fun w11=>
A8 k2' p9 0 w11 fun x12=>
Ae prog F.Dq [Sv k2' x12] w11 false H7 fun r13 w14=>
Ci (fun(self15:((Int)×(Int)×Unit)→WP) (z16:(Int)×(Int)×Unit) w17=> ∀_:Nat→Value,
Aj (decide (z16.2.1<(r13.1.1.2.1:Int))) (
Ny r13.1.1.1 r13.1.1.2.1 z16.2.1 fun a18=>
A8 Ig (a18.add (z16.2.1.toNat*3)) 0 w17 fun x19=>
Bf Vy T.P6 w17 fun p20 w21=>
Au (encs Ig x19) p20 0 w21 fun w22=>
ld1 KI p20 w22 fun x23=>
self15 (wrap .i64 (z16.1+x23),wrap .i64 (z16.2.1+1),()) w22) (
Aj (z16.1==3) (
Au z0' p1 0 w17 fun w24=>
A8 k2' p1 0 w24 fun x25=>
R (x25,(3,()),()) w24) (
Aj (z16.1 !=(b.2.1:Int)) (
Au z0' p1 0 w17 fun w26=>
A8 k2' p1 0 w26 fun x27=>
R (x27,(3,()),()) w26) (
Ae prog F.Uu [.slice b.1 b.2.1 b.2.2] w17 false Vw fun r28 w29=>
Aj (r28.1.1 !=0) (
Au z0' p1 0 w29 fun w30=>
A8 k2' p1 0 w30 fun x31=>
R (x31,(4,()),()) w30) (
A8 k2' p9 0 w29 fun x32=>
Ae prog F.Dq [Sv k2' x32] w29 false H7 fun r33 w34=>
Ci (fun(self35:((Option Addr×Nat×Nat)×(Int)×(Int)×Unit)→WP) (z36:(Option Addr×Nat×Nat)×(Int)×(Int)×Unit) w37=> ∀_:Nat→Value,
Aj (decide (z36.2.2.1<(r33.1.1.2.1:Int))) (
Ny r33.1.1.1 r33.1.1.2.1 z36.2.2.1 fun a38=>
A8 Ig (a38.add (z36.2.2.1.toNat*3)) 0 w37 fun x39=>
Bf Vy T.P6 w37 fun p40 w41=>
Au (encs Ig x39) p40 0 w41 fun w42=>
ld1 KI p40 w42 fun x43=>
sQ z36.2.1 (wrap .i64 (z36.2.1+x43)) b.2.2 (
Ae prog F.Ws [.slice (dG b.1 b.2.2 (Int.toNat z36.2.1) 1) ((Int.toNat (wrap .i64 (z36.2.1+x43)))-(Int.toNat z36.2.1)) (b.2.2-Int.toNat z36.2.1)] w42 false kZ fun r44 w45=>
Bf [.int .u64 r44.1.1] T.uint64 w45 fun p46 w47=>
L9 ((Builtin.append_ #[T.Ux,T.Ux] T.Ux #[.slice z36.1.1 z36.1.2.1 z36.1.2.2,.slice (some p46) 1 1]).run prog w47) fun y48 w49=>
ld1 KI p40 w49 fun x50=>
self35 ((y48.1,y48.2.1,y48.2.2),wrap .i64 (z36.2.1+x50),wrap .i64 (z36.2.2.1+1),()) w49)) (
A8 k2' p9 0 w37 fun x51=>
Ae prog F.Dq [Sv k2' x51] w37 false H7 fun r52 w53=>
Ci (fun(self54:((Int)×Unit)→WP) (z55:(Int)×Unit) w56=> ∀_:Nat→Value,
Aj (decide (z55.1<(r52.1.1.2.1:Int))) (
Ny r52.1.1.1 r52.1.1.2.1 z55.1 fun a57=>
A8 Ig (a57.add (z55.1.toNat*3)) 0 w56 fun x58=>
Bf Vy T.P6 w56 fun p59 w60=>
Au (encs Ig x58) p59 0 w60 fun w61=>
Jg w61 fun w62=>
Ny z36.1.1 z36.1.2.1 z55.1 fun a63=>
ld1 (.i .u64) (a63.add (z55.1.toNat*1)) w62 fun x64=>
ld1 KI (p59.add 2) w62 fun x65=>
Aj (decide (x64>(wrap .u64 x65))) (
Au z0' p1 0 w62 fun w66=>
A8 k2' p1 0 w66 fun x67=>
R (x67,(3,()),()) w66) (
self54 (wrap .i64 (z55.1+1),()) w62)) (
L9 ((Instr.makeSlice T.V5 (iV 8) (iV 8)).run prog w56) fun y68 w69=>
Ci (fun(self70:((Int)×Unit)→WP) (z71:(Int)×Unit) w72=> ∀_:Nat→Value,
Aj (decide (z71.1<(z36.1.2.1:Int))) (
Ny z36.1.1 z36.1.2.1 z71.1 fun a73=>
ld1 (.i .u64) (a73.add (z71.1.toNat*1)) w72 fun x74=>
Ny y68.1 y68.2.1 z71.1 fun a75=>
Au [iV (wrap .i64 x74)] (a75.add (z71.1.toNat*1)) 0 w72 fun w76=>
self70 (wrap .i64 (z71.1+1),()) w76) (
ld1 KI p9 w72 fun x77=>
Aj (x77==1) (
Jg w72 fun w78=>
Ny y68.1 y68.2.1 0 fun a79=>
ld1 KI (a79.add ((0:Int).toNat*1)) w78 fun x80=>
Ny y68.1 y68.2.1 1 fun a81=>
ld1 KI (a81.add ((1:Int).toNat*1)) w78 fun x82=>
Ny y68.1 y68.2.1 2 fun a83=>
ld1 KI (a83.add ((2:Int).toNat*1)) w78 fun x84=>
Ny y68.1 y68.2.1 3 fun a85=>
ld1 KI (a85.add ((3:Int).toNat*1)) w78 fun x86=>
Ny y68.1 y68.2.1 4 fun a87=>
ld1 KI (a87.add ((4:Int).toNat*1)) w78 fun x88=>
Ny y68.1 y68.2.1 5 fun a89=>
ld1 KI (a89.add ((5:Int).toNat*1)) w78 fun x90=>
Au [iV 1,iV x80,iV 0,iV x82,uV (wrap .u16 x84),uV (wrap .u16 x86),iV x88,iV x90,iV 0,iV 0,iV 0,iV 0,iV 0,iV 0] p1 0 w78 fun w91=>
Hold [] w91∧(
A8 k2' p1 0 w91 fun x92=>
R (x92,(0,()),()) w91)) (
Aj (x77==2) (
Jg w72 fun w93=>
Ny y68.1 y68.2.1 0 fun a94=>
ld1 KI (a94.add ((0:Int).toNat*1)) w93 fun x95=>
Ny y68.1 y68.2.1 1 fun a96=>
ld1 KI (a96.add ((1:Int).toNat*1)) w93 fun x97=>
Au [iV 2,iV x95,iV 0,iV 0,uV 0,uV 0,iV 0,iV 0,iV x97,iV 0,iV 0,iV 0,iV 0,iV 0] p1 0 w93 fun w98=>
Hold [] w98∧(
A8 k2' p1 0 w98 fun x99=>
R (x99,(0,()),()) w98)) (
Aj (x77==3) (
Ny y68.1 y68.2.1 0 fun a100=>
ld1 KI (a100.add ((0:Int).toNat*1)) w72 fun x101=>
Au [iV 3,iV x101,iV 0,iV 0,uV 0,uV 0,iV 0,iV 0,iV 0,iV 0,iV 0,iV 0,iV 0,iV 0] p1 0 w72 fun w102=>
A8 k2' p1 0 w102 fun x103=>
R (x103,(0,()),()) w102) (
Aj (x77==4) (
Jg w72 fun w104=>
Ny y68.1 y68.2.1 0 fun a105=>
ld1 KI (a105.add ((0:Int).toNat*1)) w104 fun x106=>
Ny y68.1 y68.2.1 1 fun a107=>
ld1 KI (a107.add ((1:Int).toNat*1)) w104 fun x108=>
Ny y68.1 y68.2.1 2 fun a109=>
ld1 KI (a109.add ((2:Int).toNat*1)) w104 fun x110=>
Au [iV 4,iV x106,iV x108,iV 0,uV 0,uV 0,iV 0,iV 0,iV 0,iV x110,iV 0,iV 0,iV 0,iV 0] p1 0 w104 fun w111=>
Hold [] w111∧(
A8 k2' p1 0 w111 fun x112=>
R (x112,(0,()),()) w111)) (
Aj (x77==5) (
Jg w72 fun w113=>
Ny y68.1 y68.2.1 0 fun a114=>
ld1 KI (a114.add ((0:Int).toNat*1)) w113 fun x115=>
Ny y68.1 y68.2.1 1 fun a116=>
ld1 KI (a116.add ((1:Int).toNat*1)) w113 fun x117=>
Ny y68.1 y68.2.1 2 fun a118=>
ld1 KI (a118.add ((2:Int).toNat*1)) w113 fun x119=>
Ny y68.1 y68.2.1 3 fun a120=>
ld1 KI (a120.add ((3:Int).toNat*1)) w113 fun x121=>
Ny y68.1 y68.2.1 4 fun a122=>
ld1 KI (a122.add ((4:Int).toNat*1)) w113 fun x123=>
Ny y68.1 y68.2.1 5 fun a124=>
ld1 KI (a124.add ((5:Int).toNat*1)) w113 fun x125=>
Ny y68.1 y68.2.1 6 fun a126=>
ld1 KI (a126.add ((6:Int).toNat*1)) w113 fun x127=>
Ny y68.1 y68.2.1 7 fun a128=>
ld1 KI (a128.add ((7:Int).toNat*1)) w113 fun x129=>
Au [iV 5,iV x115,iV x117,iV x125,uV (wrap .u16 x127),uV 0,iV x129,iV 0,iV 0,iV x119,iV x121,iV x123,iV 0,iV 0] p1 0 w113 fun w130=>
Hold [] w130∧(
A8 k2' p1 0 w130 fun x131=>
R (x131,(0,()),()) w130)) (
Jg w72 fun w132=>
Ny y68.1 y68.2.1 0 fun a133=>
ld1 KI (a133.add ((0:Int).toNat*1)) w132 fun x134=>
Ny y68.1 y68.2.1 1 fun a135=>
ld1 KI (a135.add ((1:Int).toNat*1)) w132 fun x136=>
Ny y68.1 y68.2.1 2 fun a137=>
ld1 KI (a137.add ((2:Int).toNat*1)) w132 fun x138=>
Ny y68.1 y68.2.1 3 fun a139=>
ld1 KI (a139.add ((3:Int).toNat*1)) w132 fun x140=>
Ny y68.1 y68.2.1 4 fun a141=>
ld1 KI (a141.add ((4:Int).toNat*1)) w132 fun x142=>
Ny y68.1 y68.2.1 5 fun a143=>
ld1 KI (a143.add ((5:Int).toNat*1)) w132 fun x144=>
Au [iV 6,iV x134,iV 0,iV x138,uV (wrap .u16 x140),uV (wrap .u16 x136),iV 0,iV 0,iV 0,iV 0,iV 0,iV 0,iV x142,iV x144] p1 0 w132 fun w145=>
Hold [] w145∧(
A8 k2' p1 0 w145 fun x146=>
R (x146,(0,()),()) w145)))))))) (0,()) w69)) (0,()) w53)) ((none,0,0),1,0,()) w34))))) (3,0,()) w14))
theorem Tc.ok{b:Option Addr×Nat×Nat}{w:World}{R:TR r7'→WP}:Tc.wp b w R→Ae prog F.Tc [.slice b.1 b.2.1 b.2.2] w true r7' R:=
  oks Aa func19 (hs 5 (.s (.s .n (.lp [(5,(.i .i64)),(33,(.i .i64))] .n)) (hs 4 (.s (.s .n (.lp [(8,.sl),(9,(.i .i64)),(58,(.i .i64))] .n)) (.s (.s .n (.lp [(81,(.i .i64))] (hs 2 (.s (.s .n (.s (.pl (ks [0,1,2,3,4,5,6,7] .z)) .n)) .n)))) (.s .n (.s (.s .n (.lp [(99,(.i .i64))] .n)) (.s (hs 2 (.s (.s (.pl (ks [0,1,2,3,4,5,6,7,8,9,10,11,12,13,14,15,16,17,18,19,20] (.ef 21 [2,5,8,12,16,19] (.tk 22 .z)))) .n) (.s .n (.s (.s (.pl (ks [0,1,2,3,4,5,6] (.ef 7 [2,5] (.tk 8 .z)))) .n) (hs 3 (.s (.s (.pl (ks [0,1,2,3,4,5,6,7,8,9] (.ef 10 [2,5,8] (.tk 11 .z)))) .n) (.s .n (.s (.s (.pl (ks [0,1,2,3,4,5,6,7,8,9,10,11,12,13,14,15,16,17,18,19,20,21,22,23,24,25] (.ef 26 [2,5,8,11,14,17,20,24] (.tk 27 .z)))) .n) .n)))))))) (.s (.pl (ks [0,1,2,3,4,5,6,7,8,9,10,11,12,13,14,15,16,17,18,19,20] (.ef 21 [2,5,9,12,16,19] (.tk 22 .z)))) .n)))))))))
def Ia.wp(n:Option Addr)(jitter:Int)(b:Option Addr×Nat×Nat)(w:World)(R:TR r3'→WP):Prop:=
Ae prog F.Iu [.pointer n,iV jitter] w true dH fun r1 w2=>
Aj (r1.2.1.1 !=0) (
R ((r1.2.1.1,()),()) w2) (
Ae prog F.Ru [.slice b.1 b.2.1 b.2.2] w2 true Ajw fun r3 w4=>
Jg w4 fun w5=>
Aj (r3.2.1.1 !=0) (
R ((r3.2.1.1,()),()) w5) (
Aq n fun a6=>
ld1 KI a6 w5 fun x7=>
ivK prog r3.1.1 "Sender" [] w5 false r3' fun r8 w9=>
Hold [hd 9 a6 w5] w9∧(
Aj (r8.1.1==x7) (
R ((r3.2.1.1,()),()) w9) (
Ae prog F.Gm [.pointer n,r3.1.1,iV r1.1.1] w9 false r3' fun r10 w11=>
R ((r10.1.1,()),()) w11))))
theorem Ia.ok{n:Option Addr}{jitter:Int}{b:Option Addr×Nat×Nat}{w:World}{R:TR r3'→WP}:Ia.wp n jitter b w R→Ae prog F.Ia [.pointer n,iV jitter,.slice b.1 b.2.1 b.2.2] w false r3' R:=
  oks Aa func20 (hs 4 (.s (.s (.pl (ks [0,1,2,3,5,6,7,8,9] (.ef 4 [] (.tk 10 (.tk 11 .z))))) .n) .n))
def Iy.wp(n:Option Addr)(w:World)(R:TR r0'→WP):Prop:=
Ae prog F.Cm [.pointer n] w false r3' fun r1 w2=>
Aj (r1.1.1 !=0) (
R ((false,()),()) w2) (
Jg w2 fun w3=>
Aq n fun a4=>
ld1 .p (a4.add 15) w3 fun x5=>
Aq n fun a6=>
ld1 .p (a6.add 14) w3 fun x7=>
Ae prog F.Ez [.pointer x7] w3 false r3' fun r8 w9=>
Hold [hd 7 (a6.add 14) w3,hd 3 (a4.add 15) w3] w9∧(
Ae prog F.Hw [.pointer x5,iV r8.1.1] w9 true xA fun r10 w11=>
Hold [hd 7 (a6.add 14) w3] w11∧(
Aj (r10.2.2.1.1 !=0) (
R ((true,()),()) w11) (
Jg w11 fun w12=>
Aq n fun a13=>
A8 Ig (a13.add 5) 0 w12 fun x14=>
Aq n fun a15=>
A8 fH (a15.add 1) 0 w12 fun x16=>
Aq n fun a17=>
A8 Ig (a17.add 5) 0 w12 fun x18=>
Aq n fun a19=>
ld1 KI (a19.add 9) w12 fun x20=>
Ae prog F.Xw [Sv fH x16,Sv Ig x18,iV x20] w12 false Aj7 fun r21 w22=>
Hold [hd 20 (a19.add 9) w12,hd 15 ((a17.add 5).add 0) w12,hd 15 ((a17.add 5).add 1) w12,hd 15 ((a17.add 5).add 2) w12,hd 10 ((a15.add 1).add 0) w12,hd 10 ((a15.add 1).add 1) w12,hd 10 ((a15.add 1).add 2) w12,hd 10 ((a15.add 1).add 3) w12,hd 4 ((a13.add 5).add 0) w12,hd 4 ((a13.add 5).add 1) w12,hd 4 ((a13.add 5).add 2) w12] w22∧(
Ae prog F.I9 [Sv fH r21.1,iV r10.2.1.1] w22 false r3' fun r23 w24=>
Hold [hd 20 (a19.add 9) w12,hd 15 ((a17.add 5).add 0) w12,hd 15 ((a17.add 5).add 1) w12,hd 15 ((a17.add 5).add 2) w12,hd 10 ((a15.add 1).add 0) w12,hd 10 ((a15.add 1).add 1) w12,hd 10 ((a15.add 1).add 2) w12,hd 10 ((a15.add 1).add 3) w12,hd 4 ((a13.add 5).add 0) w12,hd 4 ((a13.add 5).add 1) w12,hd 4 ((a13.add 5).add 2) w12] w24∧(
Ae prog F.Nb [Sv Ig x14,iV r10.1.1,iV r23.1.1] w24 false r0' fun r25 w26=>
Hold [hd 20 (a19.add 9) w12,hd 15 ((a17.add 5).add 0) w12,hd 15 ((a17.add 5).add 1) w12,hd 15 ((a17.add 5).add 2) w12,hd 10 ((a15.add 1).add 0) w12,hd 10 ((a15.add 1).add 1) w12,hd 10 ((a15.add 1).add 2) w12,hd 10 ((a15.add 1).add 3) w12] w26∧(
R ((r25.1.1,()),()) w26)))))))
theorem Iy.ok{n:Option Addr}{w:World}{R:TR r0'→WP}:Iy.wp n w R→Ae prog F.Iy [.pointer n] w false r0' R:=
  oks Aa func21 (hs 2 (.s (.pl (ks [0,1,2,3,4,5,6,7] (.ef 8 [] (.ef 9 [3] (ks [10,11,12,13,14,15,16] .z))))) (.s .n (.s (.pl (ks [0,1,2,3,4,5,6,7,8,9,10,11,12,13,14,15,16,17,18,19,20,22] (.ef 21 [] (.ef 23 [] (.ef 24 [4] (.tk 25 .z)))))) .n))))
def Gz.wp(n:Option Addr)(raw:Int)(w:World)(R:TR []→WP):Prop:=
Aq n fun a1=>
Au [.bool true] (a1.add 11) 0 w fun w2=>
Aq n fun a3=>
ld1 KU (a3.add 12) w2 fun x4=>
Aq n fun a5=>
Au [uV (wrap .u16 (x4+1))] (a5.add 12) 0 w2 fun w6=>
Ae prog F.Io [.pointer n,iV (wrap .i64 raw)] w6 true [] fun r7 w8=>
R (()) w8
theorem Gz.ok{n:Option Addr}{raw:Int}{w:World}{R:TR []→WP}:Gz.wp n raw w R→Ae prog F.Gz [.pointer n,.int .u32 raw] w true [] R:=
  oks Aa func22 .n
def D6.wp(n:Option Addr)(w:World)(R:TR aT→WP):Prop:=
Bf z3' T.Bg w fun p1 w2=>
Ae prog F.Cm [.pointer n] w2 false r3' fun r3 w4=>
Aj (r3.1.1 !=0) (
Au z3' p1 0 w4 fun w5=>
A8 Xf p1 0 w5 fun x6=>
R (x6,(r3.1.1,()),()) w5) (
Jg w4 fun w7=>
Aq n fun a8=>
ld1 .p (a8.add 18) w7 fun x9=>
Aq n fun a10=>
ld1 .p (a10.add 15) w7 fun x11=>
Aq n fun a12=>
ld1 .p (a12.add 14) w7 fun x13=>
Ae prog F.Ez [.pointer x13] w7 false r3' fun r14 w15=>
Hold [hd 11 (a12.add 14) w7,hd 7 (a10.add 15) w7,hd 3 (a8.add 18) w7] w15∧(
Ae prog F.Ar [.pointer x9,.pointer x11,iV r14.1.1] w15 true aT fun r16 w17=>
Hold [hd 11 (a12.add 14) w7] w17∧(
Au (encs Xf r16.1) p1 0 w17 fun w18=>
Hold [] w18∧(
A8 Xf p1 0 w18 fun x19=>
R (x19,(r16.2.1.1,()),()) w18))))
theorem D6.ok{n:Option Addr}{w:World}{R:TR aT→WP}:D6.wp n w R→Ae prog F.D6 [.pointer n] w true aT R:=
  oks Aa func23 (hs 2 (.s (.pl (ks [0,1,2,3,4,5,6,7,8,9,10,11] (.ef 12 [] (.ef 13 [3,7] (.tk 14 (.tk 15 (.ef 16 [11] (.tk 17 .z)))))))) .n))
def Qj.wp(n:Option Addr)(label:ByteArray)(w:World)(R:TR dH→WP):Prop:=
Ae prog F.D6 [.pointer n] w true aT fun r1 w2=>
Bf z3' T.Bg w2 fun p3 w4=>
Au (encs Xf r1.1) p3 0 w4 fun w5=>
Aj (r1.2.1.1 !=0) (
R ((0,()),(r1.2.1.1,()),()) w5) (
Jg w5 fun w6=>
Aq n fun a7=>
ld1 .p (a7.add 26) w6 fun x8=>
Aq n fun a9=>
ld1 .p (a9.add 14) w6 fun x10=>
A8 Xf p3 0 w6 fun x11=>
Ae prog F.Ez [.pointer x10] w6 false r3' fun r12 w13=>
Hold [hd 10 (p3.add 0) w6,hd 10 (p3.add 1) w6,hd 10 (p3.add 2) w6,hd 10 (p3.add 3) w6,hd 10 (p3.add 4) w6,hd 8 (a9.add 14) w6,hd 3 (a7.add 26) w6] w13∧(
Ae prog F.Qk [.pointer x8,.string label,iV r12.1.1,Sv Xf x11] w13 true dH fun r14 w15=>
Hold [hd 8 (a9.add 14) w6] w15∧(
R ((r14.1.1,()),(r14.2.1.1,()),()) w15)))
theorem Qj.ok{n:Option Addr}{label:ByteArray}{w:World}{R:TR dH→WP}:Qj.wp n label w R→Ae prog F.Qj [.pointer n,.string label] w true dH R:=
  oks Aa func24 (hs 3 (.s (.pl (ks [0,1,2,3,4,5,6,7,8,10] (.ef 9 [] (.ef 11 [3,10] (ks [12,13,14,15] .z))))) .n))
def Oq.wp(n:Option Addr)(w:World)(R:TR oI→WP):Prop:=
Bf z4' T.U1 w fun p1 w2=>
Ae prog F.Cm [.pointer n] w2 false r3' fun r3 w4=>
Aj (r3.1.1 !=0) (
Au z4' p1 0 w4 fun w5=>
A8 xP p1 0 w5 fun x6=>
R (x6,(false,()),()) w5) (
Aq n fun a7=>
ld1 .p (a7.add 26) w4 fun x8=>
Ae prog F.Ou [.pointer x8] w4 true oI fun r9 w10=>
Au (encs xP r9.1) p1 0 w10 fun w11=>
A8 xP p1 0 w11 fun x12=>
R (x12,(r9.2.1.1,()),()) w11)
theorem Oq.ok{n:Option Addr}{w:World}{R:TR oI→WP}:Oq.wp n w R→Ae prog F.Oq [.pointer n] w true oI R:=
  oks Aa func25 .n
def Qg.wp(n:Option Addr)(w:World)(R:TR r3'→WP):Prop:=
Ae prog F.Cm [.pointer n] w false r3' fun r1 w2=>
Aj (r1.1.1==0) (
Aq n fun a3=>
Au [.bool false] (a3.add 12) 0 w2 fun w4=>
R ((r1.1.1,()),()) w4) (
R ((r1.1.1,()),()) w2)
theorem Qg.ok{n:Option Addr}{w:World}{R:TR r3'→WP}:Qg.wp n w R→Ae prog F.Qg [.pointer n] w false r3' R:=
  oks Aa func28 .n
def Sm.wp(n:Option Addr)(ticks:Int)(w:World)(R:TR r0'→WP):Prop:=
Aj (!(Option.isNone n)) (
Aq n fun a1=>
ld1 .p (a1.add 14) w fun x2=>
Ae prog F.Iq [.pointer x2,iV ticks] w false r0' fun r3 w4=>
R ((r3.1.1,()),()) w4) (
R ((false,()),()) w)
theorem Sm.ok{n:Option Addr}{ticks:Int}{w:World}{R:TR r0'→WP}:Sm.wp n ticks w R→Ae prog F.Sm [.pointer n,iV ticks] w false r0' R:=
  oks Aa func29 .n
def Qc.wp(n:Option Addr)(tai:Int)(w:World)(R:TR r3'→WP):Prop:=
Ae prog F.Cm [.pointer n] w false r3' fun r1 w2=>
Aj (r1.1.1 !=0) (
R ((r1.1.1,()),()) w2) (
Aq n fun a3=>
ld1 .b (a3.add 10) w2 fun x4=>
Aj (!x4) (
R ((7,()),()) w2) (
Ae prog F.D6 [.pointer n] w2 true aT fun r5 w6=>
Bf z3' T.Bg w6 fun p7 w8=>
Au (encs Xf r5.1) p7 0 w8 fun w9=>
Aj (r5.2.1.1 !=0) (
R ((r5.2.1.1,()),()) w9) (
Jg w9 fun w10=>
Aq n fun a11=>
Aq n fun a12=>
ld1 KI a12 w10 fun x13=>
A8 Xf p7 0 w10 fun x14=>
(
Ae prog F.Et [.pointer (some (a11.add 19)),iV x13,Sv Xf x14,iV tai] w10 true Aii fun Zb w16=>
Hold [hd 8 (p7.add 0) w10,hd 8 (p7.add 1) w10,hd 8 (p7.add 2) w10,hd 8 (p7.add 3) w10,hd 8 (p7.add 4) w10,hd 7 a12 w10] w16∧(
Bf pY T.Bh w16 fun p17 w18=>
Hold [hd 8 (p7.add 0) w10,hd 8 (p7.add 1) w10,hd 8 (p7.add 2) w10,hd 8 (p7.add 3) w10,hd 8 (p7.add 4) w10,hd 7 a12 w10] w18∧(
Au (encs Zy Zb.1) p17 0 w18 fun w19=>
Hold [] w19∧(
Aj (Zb.2.1.1 !=0) (
R ((Zb.2.1.1,()),()) w19) (
Ae prog F.Ib [.pointer n] w19 false r3' fun r20 w21=>
R ((r20.1.1,()),()) w21)))))∧(
Bf pY T.Bh w10 fun p22 w23=>
Hold [hd 8 (p7.add 0) w10,hd 8 (p7.add 1) w10,hd 8 (p7.add 2) w10,hd 8 (p7.add 3) w10,hd 8 (p7.add 4) w10,hd 7 a12 w10] w23∧(
Ae prog F.Et [.pointer (some (a11.add 19)),iV x13,Sv Xf x14,iV tai] w23 true Aii fun r24 w25=>
Hold [] w25∧(
Au (encs Zy r24.1) p22 0 w25 fun w26=>
Hold [] w26∧(
Aj (r24.2.1.1 !=0) (
R ((r24.2.1.1,()),()) w26) (
Ae prog F.Ib [.pointer n] w26 false r3' fun r27 w28=>
R ((r27.1.1,()),()) w28))))))))
theorem Qc.ok{n:Option Addr}{tai:Int}{w:World}{R:TR r3'→WP}:Qc.wp n tai w R→Ae prog F.Qc [.pointer n,iV tai] w false r3' R:=
  oks Aa func30 (hs 5 (.s (.s (.pl (ks [0,1,2,3,4,5,6,7,8,9] (.two 10 14 (ks [11,12,13] (.ef 14 [] (.ef 15 [7,8] (.tk 16 .z)))) (.ef 10 [7,8] (ks [11,12,13] (.ef 15 [] (.tk 16 .z))))))) .n) .n))
def Vq.wp(me timeout ignore need drift:Int)(w:World)(R:TR r0'→WP):Prop:=
Ae prog F.Ve [iV me,iV timeout,iV ignore] w false r0' fun r1 w2=>
Aj r1.1.1 (
Aj (decide (need≥1)) (
Aj (decide (need≤8)) (
Aj (decide (drift≥0)) (
R ((decide (drift≤10),()),()) w2) (
R ((false,()),()) w2)) (
R ((false,()),()) w2)) (
R ((false,()),()) w2)) (
R ((false,()),()) w2)
theorem Vq.ok{me timeout ignore need drift:Int}{w:World}{R:TR r0'→WP}:Vq.wp me timeout ignore need drift w R→Ae prog F.Vq [iV me,iV timeout,iV ignore,iV need,iV drift] w false r0' R:=
  oks Aa func31 .n
def U3.wp(p0 p1 p2:Int)(w:World)(R:TR r0'→WP):Prop:=
Bf [iV p0,iV p1,iV p2] T.rU w fun p3 w4=>
ld1 KI p3 w4 fun x5=>
Aj (decide (x5≥1)) (
ld1 KI p3 w4 fun x6=>
Aj (decide (x6≤64)) (
ld1 KI (p3.add 1) w4 fun x7=>
Aj (decide (x7≥1)) (
ld1 KI (p3.add 1) w4 fun x8=>
ld1 KI p3 w4 fun x9=>
Aj (decide (x8≤x9)) (
ld1 KI (p3.add 2) w4 fun x10=>
Aj (decide (x10≥0)) (
ld1 KI (p3.add 2) w4 fun x11=>
ld1 KI p3 w4 fun x12=>
R ((decide (x11<x12),()),()) w4) (
R ((false,()),()) w4)) (
R ((false,()),()) w4)) (
R ((false,()),()) w4)) (
R ((false,()),()) w4)) (
R ((false,()),()) w4)
theorem U3.ok{p0 p1 p2:Int}{w:World}{R:TR r0'→WP}:U3.wp p0 p1 p2 w R→Ae prog F.U3 [.agg #[iV p0,iV p1,iV p2]] w false r0' R:=
  oks Aa func32 .n
def Jy.wp(s0 s1 s2 s3 s4 s5 s6 s7 s8 s9:Int)(s10:Bool)(w:World)(R:TR Us→WP):Prop:=
Bf [iV s0,iV s1,iV s2,iV s3,iV s4,iV s5,iV s6,iV s7,iV s8,iV s9,.bool s10] T.Xj w fun p1 w2=>
Bf Vy T.rU w2 fun p3 w4=>
ld1 KI (p1.add 5) w4 fun x5=>
ld1 KI (p1.add 6) w4 fun x6=>
ld1 KI (p1.add 7) w4 fun x7=>
Au [iV x5,iV x6,iV x7] p3 0 w4 fun w8=>
A8 Ig p3 0 w8 fun x9=>
R (x9,()) w8
theorem Jy.ok{s0 s1 s2 s3 s4 s5 s6 s7 s8 s9:Int}{s10:Bool}{w:World}{R:TR Us→WP}:Jy.wp s0 s1 s2 s3 s4 s5 s6 s7 s8 s9 s10 w R→Ae prog F.Jy [.agg #[iV s0,iV s1,iV s2,iV s3,iV s4,iV s5,iV s6,iV s7,iV s8,iV s9,.bool s10]] w false Us R:=
  oks Aa func33 .n
def Nq.wp(s0 s1 s2 s3 s4 s5 s6 s7 s8 s9:Int)(s10:Bool)(w:World)(R:TR r0'→WP):Prop:=
Bf [iV s0,iV s1,iV s2,iV s3,iV s4,iV s5,iV s6,iV s7,iV s8,iV s9,.bool s10] T.jP w fun p1 w2=>
ld1 KI p1 w2 fun x3=>
Aj (decide (x3≥0)) (
ld1 KI p1 w2 fun x4=>
Aj (decide (x4<64)) (
A8 fH (p1.add 1) 0 w2 fun x5=>
Ae prog F.Hu [Sv fH x5] w2 false r0' fun r6 w7=>
Aj r6.1.1 (
A8 Ig (p1.add 5) 0 w7 fun x8=>
Ae prog F.Ie [Sv Ig x8] w7 false r0' fun r9 w10=>
Aj r9.1.1 (
ld1 KI (p1.add 8) w10 fun x11=>
Aj (decide (x11≥1)) (
ld1 KI (p1.add 8) w10 fun x12=>
ld1 KI (p1.add 1) w10 fun x13=>
Aj (decide (x12≤x13)) (
ld1 KI (p1.add 9) w10 fun x14=>
Aj (decide (x14≥0)) (
ld1 KI (p1.add 9) w10 fun x15=>
R ((decide (x15≤20),()),()) w10) (
R ((false,()),()) w10)) (
R ((false,()),()) w10)) (
R ((false,()),()) w10)) (
R ((false,()),()) w10)) (
R ((false,()),()) w7)) (
R ((false,()),()) w2)) (
R ((false,()),()) w2)
theorem Nq.ok{s0 s1 s2 s3 s4 s5 s6 s7 s8 s9:Int}{s10:Bool}{w:World}{R:TR r0'→WP}:Nq.wp s0 s1 s2 s3 s4 s5 s6 s7 s8 s9 s10 w R→Ae prog F.Nq [.agg #[iV s0,iV s1,iV s2,iV s3,iV s4,iV s5,iV s6,iV s7,iV s8,iV s9,.bool s10]] w false r0' R:=
  oks Aa func34 .n
def Wl.wp(w:World)(R:TR dB→WP):Prop:=
Ae prog F.Gt [iV 16] w true r2' fun r1 w2=>
Bf [.pointer r1.1.1,iV 0] T.Aef w2 fun p3 w4=>
R ((some p3,()),()) w4
theorem Wl.ok{w:World}{R:TR dB→WP}:Wl.wp w R→Ae prog F.Wl [] w false dB R:=
  oks Aa func35 .n
def Xz.wp(drift:Int)(w:World)(R:TR r2'→WP):Prop:=
Aj (decide (drift<0)) (
R ((none,()),(1,()),()) w) (
Aj (decide (drift>10)) (
R ((none,()),(1,()),()) w) (
Bf [iV drift,.int .u32 0,iV 0] T.Acm w fun p1 w2=>
R ((some p1,()),(0,()),()) w2))
theorem Xz.ok{drift:Int}{w:World}{R:TR r2'→WP}:Xz.wp drift w R→Ae prog F.Xz [iV drift] w true r2' R:=
  oks Aa func36 .n
def Ui.wp(me r0 r1 r2 r3:Int)(w:World)(R:TR r2'→WP):Prop:=
Bf [iV r0,iV r1,iV r2,iV r3] T.fQ w fun p1 w2=>
A8 fH p1 0 w2 fun x3=>
Ae prog F.Hu [Sv fH x3] w2 false r0' fun r4 w5=>
Aj (!r4.1.1) (
R ((none,()),(1,()),()) w5) (
A8 [KI,KI] p1 0 w5 fun x6=>
Ae prog F.Wv [iV me,.agg #[iV x6.1,iV x6.2.1]] w5 true r2' fun r7 w8=>
Aj (r7.2.1.1 !=0) (
R ((none,()),(r7.2.1.1,()),()) w8) (
A8 fH p1 0 w8 fun x9=>
Bf [.pointer r7.1.1,iV me,iV x9.1,iV x9.2.1,iV x9.2.2.1,iV x9.2.2.2.1,.slice none 0 0,iV 0,iV 0,iV 0] T.Aaa w8 fun p10 w11=>
R ((some p10,()),(0,()),()) w11))
theorem Ui.ok{me r0 r1 r2 r3:Int}{w:World}{R:TR r2'→WP}:Ui.wp me r0 r1 r2 r3 w R→Ae prog F.Ui [iV me,.agg #[iV r0,iV r1,iV r2,iV r3]] w true r2' R:=
  oks Aa func37 .n
def Wp.wp(me:Int)(w:World)(R:TR r2'→WP):Prop:=
Aj (decide (me<0)) (
R ((none,()),(1,()),()) w) (
Aj (decide (me≥64)) (
R ((none,()),(1,()),()) w) (
Bf [iV me,iV (Int.negSucc 0),iV (Int.negSucc 0)] T.Aao w fun p1 w2=>
R ((some p1,()),(0,()),()) w2))
theorem Wp.ok{me:Int}{w:World}{R:TR r2'→WP}:Wp.wp me w R→Ae prog F.Wp [iV me] w true r2' R:=
  oks Aa func38 .n
def Xq.wp(me:Int)(w:World)(R:TR r2'→WP):Prop:=
Aj (decide (me<0)) (
R ((none,()),(1,()),()) w) (
Aj (decide (me≥64)) (
R ((none,()),(1,()),()) w) (
Bf [iV me,iV 0,iV 0,.bool false,iV 0,iV 0,iV 0] T.Ad3 w fun p1 w2=>
R ((some p1,()),(0,()),()) w2))
theorem Xq.ok{me:Int}{w:World}{R:TR r2'→WP}:Xq.wp me w R→Ae prog F.Xq [iV me] w true r2' R:=
  oks Aa func39 .n
def Vm.wp(limit:Int)(w:World)(R:TR r2'→WP):Prop:=
Aj (decide (limit<1)) (
R ((none,()),(1,()),()) w) (
Aj (decide (limit>1000)) (
R ((none,()),(1,()),()) w) (
Bf [iV limit,iV 0,iV 0,iV 0,iV 0,uV 0,iV 0,.bool false] T.uJ w fun p1 w2=>
R ((some p1,()),(0,()),()) w2))
theorem Vm.ok{limit:Int}{w:World}{R:TR r2'→WP}:Vm.wp limit w R→Ae prog F.Vm [iV limit] w true r2' R:=
  oks Aa func40 .n
def Jc.wp(room:Int)(w:World)(R:TR r2'→WP):Prop:=
Aj (decide (room<1)) (
R ((none,()),(1,()),()) w) (
Aj (decide (room>64)) (
R ((none,()),(1,()),()) w) (
L9 ((Instr.makeSlice T.Zh (iV room) (iV room)).run prog w) fun y1 w2=>
Bf [.slice y1.1 y1.2.1 y1.2.2,iV 0,iV 0] T.jJ w2 fun p3 w4=>
R ((some p3,()),(0,()),()) w4))
theorem Jc.ok{room:Int}{w:World}{R:TR r2'→WP}:Jc.wp room w R→Ae prog F.Jc [iV room] w true r2' R:=
  oks Aa func41 .n
def Nr.wp(c:Option Addr)(raw:Int)(w:World)(R:TR []→WP):Prop:=
Aj (!(Option.isNone c)) (
Aq c fun a1=>
Au [.int .u32 raw] (a1.add 1) 0 w fun w2=>
Aq c fun a3=>
Au [iV (wrap .i64 raw)] (a3.add 2) 0 w2 fun w4=>
R (()) w4) (
R (()) w)
theorem Nr.ok{c:Option Addr}{raw:Int}{w:World}{R:TR []→WP}:Nr.wp c raw w R→Ae prog F.Nr [.pointer c,.int .u32 raw] w true [] R:=
  oks Aa func42 .n
def Lh.wp(f:Option Addr)(boot:Int)(w:World)(R:TR []→WP):Prop:=
Aj (!(Option.isNone f)) (
Aq f fun a1=>
ld1 .p a1 w fun x2=>
Ae prog F.Hr [.pointer x2,uV boot] w true [] fun r3 w4=>
Ae prog F.Em [.pointer f] w4 true [] fun r5 w6=>
R (()) w6) (
R (()) w)
theorem Lh.ok{f:Option Addr}{boot:Int}{w:World}{R:TR []→WP}:Lh.wp f boot w R→Ae prog F.Lh [.pointer f,uV boot] w true [] R:=
  oks Aa func43 .n
def Gf.wp(l:Option Addr)(w:World)(R:TR []→WP):Prop:=
Aj (!(Option.isNone l)) (
Aq l fun a1=>
Au [iV (Int.negSucc 0)] (a1.add 1) 0 w fun w2=>
Aq l fun a3=>
Au [iV (Int.negSucc 0)] (a3.add 2) 0 w2 fun w4=>
R (()) w4) (
R (()) w)
theorem Gf.ok{l:Option Addr}{w:World}{R:TR []→WP}:Gf.wp l w R→Ae prog F.Gf [.pointer l] w true [] R:=
  oks Aa func44 .n
def Pe.wp(p:Option Addr)(w:World)(R:TR []→WP):Prop:=
Aj (!(Option.isNone p)) (
Aq p fun a1=>
ld1 KI a1 w fun x2=>
Aq p fun a3=>
Au [iV x2,iV 0,iV 0,.bool false,iV 0,iV 0,iV 0] a3 0 w fun w4=>
R (()) w4) (
R (()) w)
theorem Pe.ok{p:Option Addr}{w:World}{R:TR []→WP}:Pe.wp p w R→Ae prog F.Pe [.pointer p] w true [] R:=
  oks Aa func45 .n
def Fe.wp(s:Option Addr)(w:World)(R:TR []→WP):Prop:=
Aj (!(Option.isNone s)) (
Aq s fun a1=>
ld1 KI a1 w fun x2=>
Aq s fun a3=>
Au [iV x2,iV 0,iV 0,iV 0,iV 0,uV 0,iV 0,.bool false] a3 0 w fun w4=>
R (()) w4) (
R (()) w)
theorem Fe.ok{s:Option Addr}{w:World}{R:TR []→WP}:Fe.wp s w R→Ae prog F.Fe [.pointer s] w true [] R:=
  oks Aa func46 .n
def Js.wp(b:Option Addr)(w:World)(R:TR []→WP):Prop:=
Aj (!(Option.isNone b)) (
Aq b fun a1=>
Au Aqn a1 0 w fun w2=>
R (()) w2) (
R (()) w)
theorem Js.ok{b:Option Addr}{w:World}{R:TR []→WP}:Js.wp b w R→Ae prog F.Js [.pointer b] w true [] R:=
  oks Aa func47 .n
def Md.wp(l:Option Addr)(w:World)(R:TR []→WP):Prop:=
Aj (!(Option.isNone l)) (
Aq l fun a1=>
ld1 .p a1 w fun x2=>
Ae prog F.Dw [.pointer x2] w true [] fun r3 w4=>
Aq l fun a5=>
Au [iV 0] (a5.add 1) 0 w4 fun w6=>
R (()) w6) (
R (()) w)
theorem Md.ok{l:Option Addr}{w:World}{R:TR []→WP}:Md.wp l w R→Ae prog F.Md [.pointer l] w true [] R:=
  oks Aa func48 .n
def Eh.wp(r:Option Addr)(w:World)(R:TR []→WP):Prop:=
Aj (!(Option.isNone r)) (
Aq r fun a1=>
ld1 .sl a1 w fun x2=>
crK prog #[T.Zh] T.t0 (.slice x2.1 x2.2.1 x2.2.2) w fun w3=>
Aq r fun a4=>
Au [iV 0] (a4.add 1) 0 w3 fun w5=>
Aq r fun a6=>
Au [iV 0] (a6.add 2) 0 w5 fun w7=>
R (()) w7) (
R (()) w)
theorem Eh.ok{r:Option Addr}{w:World}{R:TR []→WP}:Eh.wp r w R→Ae prog F.Eh [.pointer r] w true [] R:=
  oks Aa func49 .n
def Cm.wp(n:Option Addr)(w:World)(R:TR r3'→WP):Prop:=
Aj (Option.isNone n) (
R ((2,()),()) w) (
Aq n fun a1=>
ld1 .b (a1.add 12) w fun x2=>
Aj (!x2) (
R ((10,()),()) w) (
R ((0,()),()) w))
theorem Cm.ok{n:Option Addr}{w:World}{R:TR r3'→WP}:Cm.wp n w R→Ae prog F.Cm [.pointer n] w false r3' R:=
  oks Aa func50 .n
def Qd.wp(c:Option Addr)(ticks:Int)(w:World)(R:TR r3'→WP):Prop:=
Aj (Option.isNone c) (
R ((2,()),()) w) (
Ae prog F.Iq [.pointer c,iV ticks] w false r0' fun r1 w2=>
Aj (!r1.1.1) (
R ((1,()),()) w2) (
Jg w2 fun w3=>
Aq c fun a4=>
ld1 KI (a4.add 2) w3 fun x5=>
Aq c fun a6=>
ld1 (.i .u32) (a6.add 1) w3 fun x7=>
Ae prog F.Ug [iV x5,.int .u32 (wrap .u32 (x7+(wrap .u32 ticks)))] w3 true Zz fun r8 w9=>
Hold [hd 7 (a6.add 1) w3] w9∧(
Aj (!r8.2.1.1) (
R ((8,()),()) w9) (
Aq c fun a10=>
ld1 (.i .u32) (a10.add 1) w9 fun x11=>
Aq c fun a12=>
Au [.int .u32 (wrap .u32 (x11+(wrap .u32 ticks)))] (a12.add 1) 0 w9 fun w13=>
Aq c fun a14=>
Au [iV r8.1.1] (a14.add 2) 0 w13 fun w15=>
R ((0,()),()) w15))))
theorem Qd.ok{c:Option Addr}{ticks:Int}{w:World}{R:TR r3'→WP}:Qd.wp c ticks w R→Ae prog F.Qd [.pointer c,iV ticks] w false r3' R:=
  oks Aa func51 (hs 2 (.s (.pl (ks [0,1,2,3,4,5,6,7,8,9,10] (.ef 11 [3] (ks [12,13,14,15,16] .z)))) .n))
def Iu.wp(n:Option Addr)(jitter:Int)(w:World)(R:TR dH→WP):Prop:=
Ae prog F.Cm [.pointer n] w false r3' fun r1 w2=>
Aj (r1.1.1 !=0) (
R ((0,()),(r1.1.1,()),()) w2) (
Aq n fun a3=>
ld1 KI (a3.add 9) w2 fun x4=>
Aj (decide (jitter<(wrap .i64 (0-x4)))) (
R ((0,()),(1,()),()) w2) (
Aq n fun a5=>
ld1 KI (a5.add 9) w2 fun x6=>
Aj (decide (jitter>x6)) (
R ((0,()),(1,()),()) w2) (
Aq n fun a7=>
ld1 .p (a7.add 14) w2 fun x8=>
Ae prog F.Ez [.pointer x8] w2 false r3' fun r9 w10=>
Ae prog F.Qs [iV (wrap .i64 (r9.1.1+jitter)),iV 0,iV 1125899906842624] w10 false r3' fun r11 w12=>
R ((r11.1.1,()),(0,()),()) w12)))
theorem Iu.ok{n:Option Addr}{jitter:Int}{w:World}{R:TR dH→WP}:Iu.wp n jitter w R→Ae prog F.Iu [.pointer n,iV jitter] w true dH R:=
  oks Aa func52 .n
def Om.wp(p0 p1 p2 step:Int)(w:World)(R:TR r0'→WP):Prop:=
Bf [iV p0,iV p1,iV p2] T.bU w fun p3 w4=>
Jg w4 fun w5=>
A8 Ig p3 0 w5 fun x6=>
Ae prog F.Ie [Sv Ig x6] w5 false r0' fun r7 w8=>
Hold [] w8∧(
Aj r7.1.1 (
Aj (decide (step≥0)) (
ld1 KI p3 w8 fun x9=>
dF x9 (
ld1 KI (p3.add 2) w8 fun x10=>
R ((((Int.tmod step x9)==x10),()),()) w8)) (
R ((false,()),()) w8)) (
R ((false,()),()) w8))
theorem Om.ok{p0 p1 p2 step:Int}{w:World}{R:TR r0'→WP}:Om.wp p0 p1 p2 step w R→Ae prog F.Om [.agg #[iV p0,iV p1,iV p2],iV step] w false r0' R:=
  oks Aa func53 (.s .n (.s (.pl (.tk 0 (.ef 1 [0] (ks [2,3,4,5,6,7,8,9,10,11,12,13,14,15] .z)))) .n))
def Kt.wp(f:Option Addr)(local_:Int)(w:World)(R:TR Aa9→WP):Prop:=
Bf z7' T.Dy w fun p1 w2=>
Aj (Option.isNone f) (
Au z7' p1 0 w2 fun w3=>
A8 vY p1 0 w3 fun x4=>
R (x4,(false,()),()) w3) (
Cc (fun(J5:Unit→WP)=>
Aq f fun a8=>
ld1 .p a8 w2 fun x9=>
Ae prog F.Jt [.pointer x9] w2 false r0' fun r10 w11=>
Aj r10.1.1 (
Ae prog F.Em [.pointer f] w11 true [] fun r12 w13=>
J5 (()) w13) (
J5 (()) w11)) (fun(z6:Unit) w7=> ∀_:Nat→Value,
Aj (decide (local_<0)) (
Au z7' p1 0 w7 fun w14=>
A8 vY p1 0 w14 fun x15=>
R (x15,(false,()),()) w14) (
Aj (decide (local_>1125899906842624)) (
Au z7' p1 0 w7 fun w16=>
A8 vY p1 0 w16 fun x17=>
R (x17,(false,()),()) w16) (
Ae prog F.La [.pointer f,iV local_] w7 true Aa9 fun r18 w19=>
Bf z7' T.Dy w19 fun p20 w21=>
Au (encs vY r18.1) p20 0 w21 fun w22=>
Aj (!r18.2.1.1) (
Au z7' p1 0 w22 fun w23=>
A8 vY p1 0 w23 fun x24=>
R (x24,(false,()),()) w23) (
A8 vY p20 0 w22 fun x25=>
Au (encs vY x25) p1 0 w22 fun w26=>
A8 vY p1 0 w26 fun x27=>
R (x27,(true,()),()) w26)))))
theorem Kt.ok{f:Option Addr}{local_:Int}{w:World}{R:TR Aa9→WP}:Kt.wp f local_ w R→Ae prog F.Kt [.pointer f,iV local_] w true Aa9 R:=
  oks Aa func54 (hs 2 (.ct [] .n .n))
def Eo.wp(s:Option Addr)(w:World)(R:TR []→WP):Prop:=
Aj (Option.isNone s) (
R (()) w) (
Aq s fun a1=>
ld1 .b (a1.add 7) w fun x2=>
Aj (!x2) (
R (()) w) (
Aq s fun a3=>
ld1 KI (a3.add 6) w fun x4=>
Aq s fun a5=>
Au [iV (wrap .i64 (x4+1))] (a5.add 6) 0 w fun w6=>
Jg w6 fun w7=>
Aq s fun a8=>
ld1 KI (a8.add 6) w7 fun x9=>
Aq s fun a10=>
ld1 KI a10 w7 fun x11=>
Aj (decide (x9≥x11)) (
Ae prog F.Fe [.pointer s] w7 true [] fun r12 w13=>
R (()) w13) (
R (()) w7)))
theorem Eo.ok{s:Option Addr}{w:World}{R:TR []→WP}:Eo.wp s w R→Ae prog F.Eo [.pointer s] w true [] R:=
  oks Aa func55 (hs 2 (.s (.pl (ks [0,1,2,3,4,5,6,7,8] .z)) .n))
def Hz.wp(p:Option Addr)(w:World)(R:TR r0'→WP):Prop:=
Aj (Option.isNone p) (
R ((false,()),()) w) (
Aq p fun a1=>
ld1 .b (a1.add 3) w fun x2=>
Aj (!x2) (
Aq p fun a3=>
ld1 KI (a3.add 6) w fun x4=>
Aq p fun a5=>
Au [iV (if 0>(wrap .i64 (x4-1)) then 0 else(wrap .i64 (x4-1)))] (a5.add 6) 0 w fun w6=>
R ((false,()),()) w6) (
Aq p fun a7=>
ld1 KI (a7.add 4) w fun x8=>
Aq p fun a9=>
Au [iV (wrap .i64 (x8+1))] (a9.add 4) 0 w fun w10=>
Aq p fun a11=>
ld1 KI (a11.add 4) w10 fun x12=>
Aj (decide (x12<2)) (
R ((false,()),()) w10) (
Aq p fun a13=>
Au [.bool false] (a13.add 3) 0 w10 fun w14=>
Aq p fun a15=>
ld1 KI (a15.add 5) w14 fun x16=>
Aq p fun a17=>
Au [iV (wrap .i64 (x16+1))] (a17.add 5) 0 w14 fun w18=>
Aq p fun a19=>
ld1 KI (a19.add 5) w18 fun x20=>
fJ x20 (
Aq p fun a21=>
Au [iV (wrap .i64 ((Sz .i64 1 x20)-1))] (a21.add 6) 0 w18 fun w22=>
Aq p fun a23=>
ld1 KI (a23.add 5) w22 fun x24=>
Aj (decide (x24<3)) (
R ((false,()),()) w22) (
Aq p fun a25=>
Au [iV 0] (a25.add 5) 0 w22 fun w26=>
Aq p fun a27=>
Au [iV 0] (a27.add 6) 0 w26 fun w28=>
R ((true,()),()) w28)))))
theorem Hz.ok{p:Option Addr}{w:World}{R:TR r0'→WP}:Hz.wp p w R→Ae prog F.Hz [.pointer p] w false r0' R:=
  oks Aa func56 .n
def Jh.wp(o:Option Addr)(f:Value)(ok:Bool)(w:World)(R:TR []→WP):Prop:=
Aj (!ok) (
R (()) w) (
Aq o fun a1=>
ld1 .sl a1 w fun x2=>
Aj (decide ((x2.2.1:Int)≥3)) (
R (()) w) (
Ae prog F.Il [f] w true iT fun r3 w4=>
Aj (r3.2.1.1==0) (
Aq o fun a5=>
ld1 .sl a5 w4 fun x6=>
Bf [.slice r3.1.1.1 r3.1.1.2.1 r3.1.1.2.2] T.Fh w4 fun p7 w8=>
L9 ((Builtin.append_ #[T.iF,T.iF] T.iF #[.slice x6.1 x6.2.1 x6.2.2,.slice (some p7) 1 1]).run prog w8) fun y9 w10=>
Aq o fun a11=>
Au [.slice y9.1 y9.2.1 y9.2.2] a11 0 w10 fun w12=>
R (()) w12) (
R (()) w4)))
theorem Jh.ok{o:Option Addr}{f:Value}{ok:Bool}{w:World}{R:TR []→WP}:Jh.wp o f ok w R→Ae prog F.Jh [.pointer o,f,.bool ok] w true [] R:=
  oks Aa func57 .n
def Fq.wp(r:Option Addr)(w:World)(R:TR fE→WP):Prop:=
Ae prog F.Di [.pointer r] w false r3' fun r1 w2=>
Aj (r1.1.1==0) (
R ((.nilIface,()),(false,()),()) w2) (
Jg w2 fun w3=>
Aq r fun a4=>
ld1 .sl a4 w3 fun x5=>
Aq r fun a6=>
ld1 KI (a6.add 1) w3 fun x7=>
Ny x5.1 x5.2.1 x7 fun a8=>
ld1 .any (a8.add (x7.toNat*1)) w3 fun x9=>
Jg w3 fun w10=>
Aq r fun a11=>
ld1 .sl a11 w10 fun x12=>
Aq r fun a13=>
ld1 KI (a13.add 1) w10 fun x14=>
Ny x12.1 x12.2.1 x14 fun a15=>
Au [.nilIface] (a15.add (x14.toNat*1)) 0 w10 fun w16=>
Hold [] w16∧(
Jg w16 fun w17=>
Aq r fun a18=>
ld1 KI (a18.add 1) w17 fun x19=>
Aq r fun a20=>
ld1 .sl a20 w17 fun x21=>
dF (x21.2.1:Int) (
Aq r fun a22=>
Au [iV (Int.tmod (wrap .i64 (x19+1)) (x21.2.1:Int))] (a22.add 1) 0 w17 fun w23=>
Hold [] w23∧(
Aq r fun a24=>
ld1 KI (a24.add 2) w23 fun x25=>
Aq r fun a26=>
Au [iV (wrap .i64 (x25-1))] (a26.add 2) 0 w23 fun w27=>
R ((x9,()),(true,()),()) w27))))
theorem Fq.ok{r:Option Addr}{w:World}{R:TR fE→WP}:Fq.wp r w R→Ae prog F.Fq [.pointer r] w true fE R:=
  oks Aa func58 (hs 3 (.s (.pl (ks [0,1,2,3,4,5,6,7,8,9,10] .z)) (.s (.pl (ks [0,1,2,3,4,5,6,7,8,9] (.ef 10 [3,7] .z))) (.s (.pl (ks [0,1,2,3,4,5,6,7,8,9,10,11,12,13] (.ef 14 [4,9] .z))) .n))))
def Ba.wp(f:Option Addr)(w:World)(R:TR r0'→WP):Prop:=
Jg w fun w1=>
Aj (!(Option.isNone f)) (
Aq f fun a2=>
ld1 .p a2 w1 fun x3=>
Ae prog F.Bc [.pointer x3] w1 false r0' fun r4 w5=>
Hold [hd 6 a2 w1] w5∧(
Aj r4.1.1 (
R ((true,()),()) w5) (
Aq f fun a6=>
Aq f fun a7=>
ld1 KI ((a7.add 2).add 2) w5 fun x8=>
Ae prog F.Dk [.pointer (some (a6.add 6))] w5 false r3' fun r9 w10=>
Hold [hd 17 ((a7.add 2).add 2) w5,hd 6 a2 w1] w10∧(
R ((decide (r9.1.1≥x8),()),()) w10)))) (
R ((false,()),()) w1)
theorem Ba.ok{f:Option Addr}{w:World}{R:TR r0'→WP}:Ba.wp f w R→Ae prog F.Ba [.pointer f] w false r0' R:=
  oks Aa func59 (.s .n (.s (.pl (ks [0,1,2,3,4,5,6] (.ef 7 [] (ks [8,9,10,11,13,14,15,16,17] (.ef 12 [] (ks [18,19,20,21] .z)))))) .n))
def Oz.wp(n:Option Addr)(stamp:Int)(w:World)(R:TR fE→WP):Prop:=
Aq n fun a1=>
ld1 .p (a1.add 16) w fun x2=>
Ae prog F.En [.pointer x2] w false r3' fun r3 w4=>
Aj (decide (r3.1.1<0)) (
Aq n fun a5=>
ld1 KI a5 w4 fun x6=>
R ((.iface T.Gp (.agg #[iV x6]),()),(true,()),()) w4) (
Jg w4 fun w7=>
Aq n fun a8=>
ld1 .p (a8.add 17) w7 fun x9=>
Aq n fun a10=>
ld1 .p (a10.add 16) w7 fun x11=>
Ae prog F.En [.pointer x11] w7 false r3' fun r12 w13=>
Hold [hd 7 (a10.add 16) w7,hd 3 (a8.add 17) w7] w13∧(
Ae prog F.Qb [.pointer x9,iV r12.1.1,iV stamp] w13 true fC fun r14 w15=>
Hold [hd 7 (a10.add 16) w7] w15∧(
R ((.iface T.Ef (Sv Ig r14.1),()),(r14.2.1.1,()),()) w15)))
theorem Oz.ok{n:Option Addr}{stamp:Int}{w:World}{R:TR fE→WP}:Oz.wp n stamp w R→Ae prog F.Oz [.pointer n,iV stamp] w true fE R:=
  oks Aa func60 (hs 2 (.s (.pl (ks [0,1,2,3,4,5,6,7,9] (.ef 8 [] (.ef 10 [3] (ks [11,12,13,14,15] .z))))) .n))
def Ez.wp(c:Option Addr)(w:World)(R:TR r3'→WP):Prop:=
Aj (Option.isNone c) (
R ((0,()),()) w) (
Aq c fun a1=>
ld1 KI (a1.add 2) w fun x2=>
R ((x2,()),()) w)
theorem Ez.ok{c:Option Addr}{w:World}{R:TR r3'→WP}:Ez.wp c w R→Ae prog F.Ez [.pointer c] w false r3' R:=
  oks Aa func61 .n
def Dc.wp(e:Option Addr)(w:World)(R:TR r3'→WP):Prop:=
Aj (Option.isNone e) (
R (((Int.negSucc 0),()),()) w) (
Aq e fun a1=>
ld1 KI (a1.add 5) w fun x2=>
R ((x2,()),()) w)
theorem Dc.ok{e:Option Addr}{w:World}{R:TR r3'→WP}:Dc.wp e w R→Ae prog F.Dc [.pointer e] w false r3' R:=
  oks Aa func62 .n
def Bc.wp(e:Option Addr)(w:World)(R:TR r0'→WP):Prop:=
Jg w fun w1=>
Aj (!(Option.isNone e)) (
Aq e fun a2=>
ld1 KI (a2.add 5) w1 fun x3=>
Aq e fun a4=>
ld1 KI a4 w1 fun x5=>
R (((x3==x5),()),()) w1) (
R ((false,()),()) w1)
theorem Bc.ok{e:Option Addr}{w:World}{R:TR r0'→WP}:Bc.wp e w R→Ae prog F.Bc [.pointer e] w false r0' R:=
  oks Aa func63 (.s .n (.s (.pl (ks [0,1,2,3,4,5,6,7,8,9,10,11,12,13] .z)) .n))
def Hg.wp(f:Option Addr)(w:World)(R:TR r3'→WP):Prop:=
Aj (Option.isNone f) (
R ((0,()),()) w) (
Aq f fun a1=>
Ae prog F.Dk [.pointer (some (a1.add 6))] w false r3' fun r2 w3=>
R ((r2.1.1,()),()) w3)
theorem Hg.ok{f:Option Addr}{w:World}{R:TR r3'→WP}:Hg.wp f w R→Ae prog F.Hg [.pointer f] w false r3' R:=
  oks Aa func64 .n
def Ja.wp(l:Option Addr)(w:World)(R:TR r3'→WP):Prop:=
Aj (Option.isNone l) (
R (((Int.negSucc 0),()),()) w) (
Aq l fun a1=>
ld1 KI (a1.add 1) w fun x2=>
R ((x2,()),()) w)
theorem Ja.ok{l:Option Addr}{w:World}{R:TR r3'→WP}:Ja.wp l w R→Ae prog F.Ja [.pointer l] w false r3' R:=
  oks Aa func65 .n
def En.wp(l:Option Addr)(w:World)(R:TR r3'→WP):Prop:=
Aj (Option.isNone l) (
R (((Int.negSucc 0),()),()) w) (
Aq l fun a1=>
ld1 KI (a1.add 2) w fun x2=>
R ((x2,()),()) w)
theorem En.ok{l:Option Addr}{w:World}{R:TR r3'→WP}:En.wp l w R→Ae prog F.En [.pointer l] w false r3' R:=
  oks Aa func66 .n
def Nv.wp(p:Option Addr)(w:World)(R:TR r0'→WP):Prop:=
Aj (!(Option.isNone p)) (
Aq p fun a1=>
ld1 .b (a1.add 3) w fun x2=>
R ((x2,()),()) w) (
R ((false,()),()) w)
theorem Nv.ok{p:Option Addr}{w:World}{R:TR r0'→WP}:Nv.wp p w R→Ae prog F.Nv [.pointer p] w false r0' R:=
  oks Aa func67 .n
def Di.wp(r:Option Addr)(w:World)(R:TR r3'→WP):Prop:=
Aj (Option.isNone r) (
R ((0,()),()) w) (
Aq r fun a1=>
ld1 KI (a1.add 2) w fun x2=>
R ((x2,()),()) w)
theorem Di.ok{r:Option Addr}{w:World}{R:TR r3'→WP}:Di.wp r w R→Ae prog F.Di [.pointer r] w false r3' R:=
  oks Aa func68 .n
def Qh.wp(l:Option Addr)(w:World)(R:TR r3'→WP):Prop:=
Aj (Option.isNone l) (
R ((0,()),()) w) (
Aq l fun a1=>
ld1 .p a1 w fun x2=>
Ae prog F.Dj [.pointer x2] w false r3' fun r3 w4=>
R ((r3.1.1,()),()) w4)
theorem Qh.ok{l:Option Addr}{w:World}{R:TR r3'→WP}:Qh.wp l w R→Ae prog F.Qh [.pointer l] w false r3' R:=
  oks Aa func69 .n
def Hf.wp(p0 p1 p2 p3 p4 p5 p6 p7 p8 p9 p10 p11 p12 p13:Int)(w:World)(R:TR H7→WP):Prop:=
Bf [iV p0,iV p1,iV p2,iV p3,uV p4,uV p5,iV p6,iV p7,iV p8,iV p9,iV p10,iV p11,iV p12,iV p13] T.Dn w fun p14 w15=>
ld1 KI p14 w15 fun x16=>
Bf [.int .u8 (wrap .u8 x16)] T.uint8 w15 fun p17 w18=>
A8 k2' p14 0 w18 fun x19=>
Ae prog F.Dq [Sv k2' x19] w18 false H7 fun r20 w21=>
Ci (fun(self22:((Option Addr×Nat×Nat)×(Int)×Unit)→WP) (z23:(Option Addr×Nat×Nat)×(Int)×Unit) w24=> ∀_:Nat→Value,
Aj (decide (z23.2.1<(r20.1.1.2.1:Int))) (
Ny r20.1.1.1 r20.1.1.2.1 z23.2.1 fun a25=>
A8 Ig (a25.add (z23.2.1.toNat*3)) 0 w24 fun x26=>
Bf Vy T.P6 w24 fun p27 w28=>
Au (encs Ig x26) p27 0 w28 fun w29=>
ld1 KI p27 w29 fun x30=>
ld1 KI (p27.add 1) w29 fun x31=>
Ae prog F.Wu [iV x30,.int .u64 (wrap .u64 x31)] w29 false H7 fun r32 w33=>
L9 ((Builtin.append_ #[T.Fh,T.Fh] T.Fh #[.slice z23.1.1 z23.1.2.1 z23.1.2.2,.slice r32.1.1.1 r32.1.1.2.1 r32.1.1.2.2]).run prog w33) fun y34 w35=>
self22 ((y34.1,y34.2.1,y34.2.2),wrap .i64 (z23.2.1+1),()) w35) (
Ae prog F.Uu [.slice z23.1.1 z23.1.2.1 z23.1.2.2] w24 false Vw fun r36 w37=>
dF 256 (
dF 256 (
Bf [.int .u8 (wrap .u8 (wrap .u16 (Int.tdiv r36.1.1 256))),.int .u8 (wrap .u8 (Int.tmod r36.1.1 256))] T.uint8 w37 fun p38 w39=>
L9 ((Builtin.append_ #[T.Fh,T.Fh] T.Fh #[.slice z23.1.1 z23.1.2.1 z23.1.2.2,.slice (some p38) 2 2]).run prog w39) fun y40 w41=>
R (((y40.1,y40.2.1,y40.2.2),()),()) w41)))) ((some p17,1,1),0,()) w21
theorem Hf.ok{p0 p1 p2 p3 p4 p5 p6 p7 p8 p9 p10 p11 p12 p13:Int}{w:World}{R:TR H7→WP}:Hf.wp p0 p1 p2 p3 p4 p5 p6 p7 p8 p9 p10 p11 p12 p13 w R→Ae prog F.Hf [.agg #[iV p0,iV p1,iV p2,iV p3,uV p4,uV p5,iV p6,iV p7,iV p8,iV p9,iV p10,iV p11,iV p12,iV p13]] w false H7 R:=
  oks Aa func70 (hs 2 (.s (.s .n (.lp [(3,.sl),(14,(.i .i64))] .n)) .n))
def Io.wp(n:Option Addr)(raw:Int)(w:World)(R:TR []→WP):Prop:=
Aq n fun a1=>
A8 k1' a1 0 w fun x2=>
Bf z6' T.Xj w fun p3 w4=>
Au (encs k1' x2) p3 0 w4 fun w5=>
ld1 KI (p3.add 4) w5 fun x6=>
Bf [iV x6,iV raw] T.Aam w5 fun p7 w8=>
Aq n fun a9=>
Au [.pointer (some p7)] (a9.add 13) 0 w8 fun w10=>
Jg w10 fun w11=>
ld1 KI p3 w11 fun x12=>
ld1 KI (p3.add 1) w11 fun x13=>
ld1 KI (p3.add 2) w11 fun x14=>
ld1 KI (p3.add 3) w11 fun x15=>
ld1 KI (p3.add 4) w11 fun x16=>
Aq n fun a17=>
ld1 KU (a17.add 12) w11 fun x18=>
Ae prog F.Wn [iV x12,iV x13,iV x14,iV x15,iV x16,uV x18] w11 false dB fun r19 w20=>
Hold [] w20∧(
Aq n fun a21=>
Au [.pointer r19.1.1] (a21.add 14) 0 w20 fun w22=>
Hold [] w22∧(
ld1 KI p3 w22 fun x23=>
Ae prog F.Wq [iV x23] w22 false dB fun r24 w25=>
Aq n fun a26=>
Au [.pointer r24.1.1] (a26.add 15) 0 w25 fun w27=>
ld1 KI p3 w27 fun x28=>
Bf [iV x28,iV 0,iV 0,.bool false,iV 0,iV 0,iV 0] T.Acb w27 fun p29 w30=>
Aq n fun a31=>
Au [.pointer (some p29)] (a31.add 16) 0 w30 fun w32=>
ld1 KI (p3.add 8) w32 fun x33=>
Bf [iV x33,iV 0,iV 0,iV 0,iV 0,uV 0,iV 0,.bool false] T.xR w32 fun p34 w35=>
Aq n fun a36=>
Au [.pointer (some p34)] (a36.add 17) 0 w35 fun w37=>
Bf z0' T.Aco w37 fun p38 w39=>
Aq n fun a40=>
Au [.pointer (some p38)] (a40.add 18) 0 w39 fun w41=>
Bf Aq4 T.Aet w41 fun p42 w43=>
Aq n fun a44=>
Au [.pointer (some p42)] (a44.add 19) 0 w43 fun w45=>
Aq n fun a46=>
Au [.slice none 0 0] (a46.add 20) 0 w45 fun w47=>
Aq n fun a48=>
Au [.slice none 0 0] (a48.add 21) 0 w47 fun w49=>
R (()) w49))
theorem Io.ok{n:Option Addr}{raw:Int}{w:World}{R:TR []→WP}:Io.wp n raw w R→Ae prog F.Io [.pointer n,iV raw] w true [] R:=
  oks Aa func71 (hs 2 (.s (.pl (ks [0,1,2,3,4,5,6,7,8,9,10,11,12,13,14] (.ef 15 [2,4,6,8,10,14] (.tk 16 (.tk 17 (.ef 18 [] .z)))))) .n))
def Ph.wp(c:Option Addr)(ticks:Int)(w:World)(R:TR r3'→WP):Prop:=
Aq c fun a1=>
ld1 KI a1 w fun x2=>
Aj (decide (ticks<(wrap .i64 (1000-x2)))) (
R ((1,()),()) w) (
Aq c fun a3=>
ld1 KI a3 w fun x4=>
Aj (decide (ticks>(wrap .i64 (1000+x4)))) (
R ((1,()),()) w) (
Aq c fun a5=>
ld1 KI (a5.add 1) w fun x6=>
Aj (decide (x6>(wrap .i64 (1125899906842624-ticks)))) (
R ((8,()),()) w) (
Aq c fun a7=>
ld1 KI (a7.add 1) w fun x8=>
Aq c fun a9=>
Au [iV (wrap .i64 (x8+ticks))] (a9.add 1) 0 w fun w10=>
R ((0,()),()) w10)))
theorem Ph.ok{c:Option Addr}{ticks:Int}{w:World}{R:TR r3'→WP}:Ph.wp c ticks w R→Ae prog F.Ph [.pointer c,iV ticks] w false r3' R:=
  oks Aa func72 .n
def Me.wp(n:Option Addr)(step jitter:Int)(w:World)(R:TR iT→WP):Prop:=
Ae prog F.Ht [.pointer n,iV jitter] w true dH fun r1 w2=>
Jg w2 fun w3=>
Aj (r1.2.1.1 !=0) (
R (((none,0,0),()),(r1.2.1.1,()),()) w3) (
Aj (decide (step<0)) (
R (((none,0,0),()),(r1.2.1.1,()),()) w3) (
Aq n fun a4=>
ld1 KI (a4.add 5) w3 fun x5=>
dF x5 (
Aq n fun a6=>
ld1 KI (a6.add 7) w3 fun x7=>
Aj ((Int.tmod step x5) !=x7) (
R (((none,0,0),()),(r1.2.1.1,()),()) w3) (
Aq n fun a8=>
ld1 .p (a8.add 14) w3 fun x9=>
Ae prog F.Jz [.pointer x9,iV r1.1.1] w3 false bF fun r10 w11=>
Bf z0' T.Dn w11 fun p12 w13=>
Au (encs k2' r10.1) p12 0 w13 fun w14=>
Aq n fun a15=>
ld1 .p (a15.add 17) w14 fun x16=>
Ae prog F.Jd [.pointer x16] w14 true [] fun r17 w18=>
Cc (fun(J19:Unit→WP)=>
Aq n fun a22=>
ld1 .p (a22.add 16) w18 fun x23=>
Ae prog F.Nl [.pointer x23] w18 false r0' fun r24 w25=>
Aj r24.1.1 (
Aq n fun a26=>
ld1 .p (a26.add 15) w25 fun x27=>
Aq x27 fun a28=>
Au [iV (Int.negSucc 0)] (a28.add 1) 0 w25 fun w29=>
Aq n fun a30=>
ld1 .p (a30.add 15) w29 fun x31=>
Aq x31 fun a32=>
Au [iV (Int.negSucc 0)] (a32.add 2) 0 w29 fun w33=>
J19 (()) w33) (
J19 (()) w25)) (fun(z20:Unit) w21=> ∀_:Nat→Value,
Cc (fun(J34:((Option Addr×Nat×Nat)×Unit)→WP)=>
A8 k2' p12 0 w21 fun x37=>
Ae prog F.Fb [Sv k2' x37] w21 false r0' fun r38 w39=>
Aj r38.1.1 (
A8 k2' p12 0 w39 fun x40=>
Bf (encs k2' x40) T.Dn w39 fun p41 w42=>
L9 ((Builtin.append_ #[T.Ec,T.Ec] T.Ec #[.slice none 0 0,.slice (some p41) 1 1]).run prog w42) fun y43 w44=>
J34 ((y43.1,y43.2.1,y43.2.2),()) w44) (
J34 ((none,0,0),()) w39)) (fun(z35:(Option Addr×Nat×Nat)×Unit) w36=> ∀_:Nat→Value,
Cc (fun(J45:((Option Addr×Nat×Nat)×Unit)→WP)=>
Ci (fun(self48:((Option Addr×Nat×Nat)×Unit)→WP) (z49:(Option Addr×Nat×Nat)×Unit) w50=> ∀_:Nat→Value,
Aj (decide ((z49.1.2.1:Int)<3)) (
Aq n fun a51=>
ld1 .sl (a51.add 21) w50 fun x52=>
Aj (decide ((x52.2.1:Int)>0)) (
Aq n fun a53=>
ld1 .sl (a53.add 21) w50 fun x54=>
Ny x54.1 x54.2.1 0 fun a55=>
A8 mP (a55.add ((0:Int).toNat*8)) 0 w50 fun x56=>
Bf Anm T.Xl w50 fun p57 w58=>
Au (encs mP x56) p57 0 w58 fun w59=>
Aq n fun a60=>
ld1 .sl (a60.add 21) w59 fun x61=>
sQ 1 (x61.2.1:Int) x61.2.2 (
Aq n fun a62=>
Au [.slice (dG x61.1 x61.2.2 (Int.toNat 1) 8) ((Int.toNat (x61.2.1:Int))-(Int.toNat 1)) (x61.2.2-Int.toNat 1)] (a62.add 21) 0 w59 fun w63=>
A8 mP p57 0 w63 fun x64=>
Ae prog F.Na [.pointer n,Sv mP x64,iV r1.1.1] w63 false bF fun r65 w66=>
Bf z0' T.Dn w66 fun p67 w68=>
Au (encs k2' r65.1) p67 0 w68 fun w69=>
A8 k2' p67 0 w69 fun x70=>
Ae prog F.Fb [Sv k2' x70] w69 false r0' fun r71 w72=>
Aj r71.1.1 (
A8 k2' p67 0 w72 fun x73=>
Bf (encs k2' x73) T.Dn w72 fun p74 w75=>
L9 ((Builtin.append_ #[T.Ec,T.Ec] T.Ec #[.slice z49.1.1 z49.1.2.1 z49.1.2.2,.slice (some p74) 1 1]).run prog w75) fun y76 w77=>
self48 ((y76.1,y76.2.1,y76.2.2),()) w77) (
self48 ((z49.1.1,z49.1.2.1,z49.1.2.2),()) w72))) (
J45 ((z49.1.1,z49.1.2.1,z49.1.2.2),()) w50)) (
J45 ((z49.1.1,z49.1.2.1,z49.1.2.2),()) w50)) ((z35.1.1,z35.1.2.1,z35.1.2.2),()) w36) (fun(z46:(Option Addr×Nat×Nat)×Unit) w47=> ∀_:Nat→Value,
Cc (fun(J78:((Bool)×Unit)→WP)=>
Aq n fun a81=>
ld1 .p (a81.add 14) w47 fun x82=>
Ae prog F.Bz [.pointer x82] w47 false r0' fun r83 w84=>
Aj (!r83.1.1) (
J78 (decide ((z46.1.2.1:Int)<3),()) w84) (
J78 (false,()) w84)) (fun(z79:(Bool)×Unit) w80=> ∀_:Nat→Value,
Aj z79.1 (
Aq n fun a85=>
ld1 KI a85 w80 fun x86=>
Bf z0' T.Dn w80 fun p87 w88=>
Au [iV 3,iV x86,iV 0,iV 0,uV 0,uV 0,iV 0,iV 0,iV 0,iV 0,iV 0,iV 0,iV 0,iV 0] p87 0 w88 fun w89=>
Cc (fun(J90:Unit→WP)=>
Aq n fun a93=>
ld1 .p (a93.add 15) w89 fun x94=>
Aq x94 fun a95=>
ld1 KI (a95.add 2) w89 fun x96=>
Aj (decide (x96≥0)) (
Jg w89 fun w97=>
Aq n fun a98=>
ld1 .p (a98.add 16) w97 fun x99=>
Aq n fun a100=>
ld1 .p (a100.add 15) w97 fun x101=>
Aq x101 fun a102=>
ld1 KI (a102.add 2) w97 fun x103=>
Ae prog F.Ov [.pointer x99,iV x103,iV r1.1.1] w97 false bF fun r104 w105=>
Hold [hd 7 (a100.add 15) w97] w105∧(
Au (encs k2' r104.1) p87 0 w105 fun w106=>
Hold [] w106∧(
J90 (()) w106))) (
J90 (()) w89)) (fun(z91:Unit) w92=> ∀_:Nat→Value,
A8 k2' p87 0 w92 fun x107=>
Ae prog F.Fb [Sv k2' x107] w92 false r0' fun r108 w109=>
Aj r108.1.1 (
A8 k2' p87 0 w109 fun x110=>
Bf (encs k2' x110) T.Dn w109 fun p111 w112=>
L9 ((Builtin.append_ #[T.Ec,T.Ec] T.Ec #[.slice z46.1.1 z46.1.2.1 z46.1.2.2,.slice (some p111) 1 1]).run prog w112) fun y113 w114=>
R (((y113.1,y113.2.1,y113.2.2),()),(0,()),()) w114) (
R (((z46.1.1,z46.1.2.1,z46.1.2.2),()),(0,()),()) w109))) (
R (((z46.1.1,z46.1.2.1,z46.1.2.2),()),(0,()),()) w80)))))))))
theorem Me.ok{n:Option Addr}{step jitter:Int}{w:World}{R:TR iT→WP}:Me.wp n step jitter w R→Ae prog F.Me [.pointer n,iV step,iV jitter] w true iT R:=
  oks Aa func73 (hs 2 (.s (.s (.pl (ks [0,1,2,3,4,5,6,7,8,9,10,11,12,13,14,15,16,17,18,19,20] .z)) .n) (hs 3 (.ct [] .n (.ct [(10,.sl)] .n (.ct [(10,.sl)] (.lp [(10,.sl)] .n) (.s (.ct [(122,.b)] .n (.s (.s .n (.ct [] (.s .n (.s (.pl (ks [0,1,2,3,4,5,6,7,8,9,10,11] (.ef 12 [3,10] (.ef 13 [7] .z)))) .n)) .n)) .n)) .n)))))))
def Fb.wp(p0 p1 p2 p3 p4 p5 p6 p7 p8 p9 p10 p11 p12 p13:Int)(w:World)(R:TR r0'→WP):Prop:=
Bf [iV p0,iV p1,iV p2,iV p3,uV p4,uV p5,iV p6,iV p7,iV p8,iV p9,iV p10,iV p11,iV p12,iV p13] T.Dn w fun p14 w15=>
A8 k2' p14 0 w15 fun x16=>
Ae prog F.Dq [Sv k2' x16] w15 false H7 fun r17 w18=>
Ci (fun(self19:((Int)×Unit)→WP) (z20:(Int)×Unit) w21=> ∀_:Nat→Value,
Aj (decide (z20.1<(r17.1.1.2.1:Int))) (
Ny r17.1.1.1 r17.1.1.2.1 z20.1 fun a22=>
A8 Ig (a22.add (z20.1.toNat*3)) 0 w21 fun x23=>
Bf Vy T.P6 w21 fun p24 w25=>
Au (encs Ig x23) p24 0 w25 fun w26=>
ld1 KI (p24.add 1) w26 fun x27=>
Aj (decide (x27<0)) (
R ((false,()),()) w26) (
ld1 KI (p24.add 1) w26 fun x28=>
ld1 KI (p24.add 2) w26 fun x29=>
Aj (decide (x28>x29)) (
R ((false,()),()) w26) (
self19 (wrap .i64 (z20.1+1),()) w26))) (
R ((decide ((r17.1.1.2.1:Int)>0),()),()) w21)) (0,()) w18
theorem Fb.ok{p0 p1 p2 p3 p4 p5 p6 p7 p8 p9 p10 p11 p12 p13:Int}{w:World}{R:TR r0'→WP}:Fb.wp p0 p1 p2 p3 p4 p5 p6 p7 p8 p9 p10 p11 p12 p13 w R→Ae prog F.Fb [.agg #[iV p0,iV p1,iV p2,iV p3,uV p4,uV p5,iV p6,iV p7,iV p8,iV p9,iV p10,iV p11,iV p12,iV p13]] w false r0' R:=
  oks Aa func74 (hs 2 (.s (.s .n (.lp [(10,(.i .i64))] .n)) .n))
def Nu.wp(n:Option Addr)(jitter:Int)(b:Option Addr×Nat×Nat)(w:World)(R:TR r3'→WP):Prop:=
Ae prog F.Ht [.pointer n,iV jitter] w true dH fun r1 w2=>
Aj (r1.2.1.1 !=0) (
R ((r1.2.1.1,()),()) w2) (
Ae prog F.Tc [.slice b.1 b.2.1 b.2.2] w2 true r7' fun r3 w4=>
Bf z0' T.Dn w4 fun p5 w6=>
Au (encs k2' r3.1) p5 0 w6 fun w7=>
Aj (r3.2.1.1 !=0) (
R ((r3.2.1.1,()),()) w7) (
A8 k2' p5 0 w7 fun x8=>
Ae prog F.Mc [.pointer n,Sv k2' x8,iV r1.1.1] w7 false r3' fun r9 w10=>
R ((r9.1.1,()),()) w10))
theorem Nu.ok{n:Option Addr}{jitter:Int}{b:Option Addr×Nat×Nat}{w:World}{R:TR r3'→WP}:Nu.wp n jitter b w R→Ae prog F.Nu [.pointer n,iV jitter,.slice b.1 b.2.1 b.2.2] w false r3' R:=
  oks Aa func75 .n
def O5.wp(n:Option Addr)(label:ByteArray)(w:World)(R:TR dH→WP):Prop:=
Ae prog F.Iz [.pointer n] w true aT fun r1 w2=>
Bf z3' T.Ql w2 fun p3 w4=>
Au (encs Xf r1.1) p3 0 w4 fun w5=>
Aj (r1.2.1.1 !=0) (
R ((0,()),(r1.2.1.1,()),()) w5) (
Aq n fun a6=>
ld1 .p (a6.add 19) w5 fun x7=>
Ae prog F.Qe [.pointer x7,.string label] w5 true dH fun r8 w9=>
Aj (r8.2.1.1==0) (
Jg w9 fun w10=>
Aq n fun a11=>
ld1 .sl (a11.add 20) w10 fun x12=>
Aq n fun a13=>
ld1 .p (a13.add 13) w10 fun x14=>
Aq x14 fun a15=>
ld1 KI (a15.add 1) w10 fun x16=>
A8 Xf p3 0 w10 fun x17=>
(
Bf [] T.V4 w10 fun p18 w19=>
Hold [hd 14 (p3.add 0) w10,hd 14 (p3.add 1) w10,hd 14 (p3.add 2) w10,hd 14 (p3.add 3) w10,hd 14 (p3.add 4) w10,hd 13 (a15.add 1) w10,hd 10 (a13.add 13) w10,hd 5 (a11.add 20) w10] w19∧(
(
L9 ((Builtin.append_ #[T.Bq,T.Bq] T.Bq #[.slice (some p18) 0 0,.slice x12.1 x12.2.1 x12.2.2]).run prog w19) fun y20 w21=>
Hold [hd 14 (p3.add 0) w10,hd 14 (p3.add 1) w10,hd 14 (p3.add 2) w10,hd 14 (p3.add 3) w10,hd 14 (p3.add 4) w10,hd 13 (a15.add 1) w10,hd 10 (a13.add 13) w10,hd 5 (a11.add 20) w10] w21∧(
Bf [iV x16,iV x17.1,iV x17.2.1,iV x17.2.2.1,uV x17.2.2.2.1,iV x17.2.2.2.2.1] T.V4 w21 fun p22 w23=>
Hold [hd 14 (p3.add 0) w10,hd 14 (p3.add 1) w10,hd 14 (p3.add 2) w10,hd 14 (p3.add 3) w10,hd 14 (p3.add 4) w10,hd 13 (a15.add 1) w10,hd 10 (a13.add 13) w10,hd 5 (a11.add 20) w10] w23∧(
L9 ((Builtin.append_ #[T.Bq,T.Bq] T.Bq #[.slice y20.1 y20.2.1 y20.2.2,.slice (some p22) 1 1]).run prog w23) fun y24 w25=>
Hold [hd 14 (p3.add 0) w10,hd 14 (p3.add 1) w10,hd 14 (p3.add 2) w10,hd 14 (p3.add 3) w10,hd 14 (p3.add 4) w10,hd 13 (a15.add 1) w10,hd 10 (a13.add 13) w10,hd 5 (a11.add 20) w10] w25∧(
Aq n fun a26=>
Au [.slice y24.1 y24.2.1 y24.2.2] (a26.add 20) 0 w25 fun w27=>
Hold [] w27∧(
R ((r8.1.1,()),(r8.2.1.1,()),()) w27)))))∧(
Bf [iV x16,iV x17.1,iV x17.2.1,iV x17.2.2.1,uV x17.2.2.2.1,iV x17.2.2.2.2.1] T.V4 w19 fun p28 w29=>
Hold [hd 14 (p3.add 0) w10,hd 14 (p3.add 1) w10,hd 14 (p3.add 2) w10,hd 14 (p3.add 3) w10,hd 14 (p3.add 4) w10,hd 13 (a15.add 1) w10,hd 10 (a13.add 13) w10,hd 5 (a11.add 20) w10] w29∧(
L9 ((Builtin.append_ #[T.Bq,T.Bq] T.Bq #[.slice (some p18) 0 0,.slice x12.1 x12.2.1 x12.2.2]).run prog w29) fun y30 w31=>
Hold [hd 14 (p3.add 0) w10,hd 14 (p3.add 1) w10,hd 14 (p3.add 2) w10,hd 14 (p3.add 3) w10,hd 14 (p3.add 4) w10,hd 13 (a15.add 1) w10,hd 10 (a13.add 13) w10,hd 5 (a11.add 20) w10] w31∧(
L9 ((Builtin.append_ #[T.Bq,T.Bq] T.Bq #[.slice y30.1 y30.2.1 y30.2.2,.slice (some p28) 1 1]).run prog w31) fun y32 w33=>
Hold [hd 14 (p3.add 0) w10,hd 14 (p3.add 1) w10,hd 14 (p3.add 2) w10,hd 14 (p3.add 3) w10,hd 14 (p3.add 4) w10,hd 13 (a15.add 1) w10,hd 10 (a13.add 13) w10,hd 5 (a11.add 20) w10] w33∧(
Aq n fun a34=>
Au [.slice y32.1 y32.2.1 y32.2.2] (a34.add 20) 0 w33 fun w35=>
Hold [] w35∧(
R ((r8.1.1,()),(r8.2.1.1,()),()) w35)))))))∧(
Bf [iV x16,iV x17.1,iV x17.2.1,iV x17.2.2.1,uV x17.2.2.2.1,iV x17.2.2.2.2.1] T.V4 w10 fun p36 w37=>
Hold [hd 14 (p3.add 0) w10,hd 14 (p3.add 1) w10,hd 14 (p3.add 2) w10,hd 14 (p3.add 3) w10,hd 14 (p3.add 4) w10,hd 13 (a15.add 1) w10,hd 10 (a13.add 13) w10,hd 5 (a11.add 20) w10] w37∧(
Bf [] T.V4 w37 fun p38 w39=>
Hold [hd 14 (p3.add 0) w10,hd 14 (p3.add 1) w10,hd 14 (p3.add 2) w10,hd 14 (p3.add 3) w10,hd 14 (p3.add 4) w10,hd 13 (a15.add 1) w10,hd 10 (a13.add 13) w10,hd 5 (a11.add 20) w10] w39∧(
L9 ((Builtin.append_ #[T.Bq,T.Bq] T.Bq #[.slice (some p38) 0 0,.slice x12.1 x12.2.1 x12.2.2]).run prog w39) fun y40 w41=>
Hold [hd 14 (p3.add 0) w10,hd 14 (p3.add 1) w10,hd 14 (p3.add 2) w10,hd 14 (p3.add 3) w10,hd 14 (p3.add 4) w10,hd 13 (a15.add 1) w10,hd 10 (a13.add 13) w10,hd 5 (a11.add 20) w10] w41∧(
L9 ((Builtin.append_ #[T.Bq,T.Bq] T.Bq #[.slice y40.1 y40.2.1 y40.2.2,.slice (some p36) 1 1]).run prog w41) fun y42 w43=>
Hold [hd 14 (p3.add 0) w10,hd 14 (p3.add 1) w10,hd 14 (p3.add 2) w10,hd 14 (p3.add 3) w10,hd 14 (p3.add 4) w10,hd 13 (a15.add 1) w10,hd 10 (a13.add 13) w10,hd 5 (a11.add 20) w10] w43∧(
Aq n fun a44=>
Au [.slice y42.1 y42.2.1 y42.2.2] (a44.add 20) 0 w43 fun w45=>
Hold [] w45∧(
R ((r8.1.1,()),(r8.2.1.1,()),()) w45))))))) (
R ((r8.1.1,()),(r8.2.1.1,()),()) w9))
theorem O5.ok{n:Option Addr}{label:ByteArray}{w:World}{R:TR dH→WP}:O5.wp n label w R→Ae prog F.O5 [.pointer n,.string label] w true dH R:=
  oks Aa func76 (hs 4 (.s (.s .n (.s (.pl (ks [0,2,3,4,5,7,8,9,10,11,12,13,14,15] (.two 1 16 (.two 6 16 (.ef 16 [] (.ef 17 [] (.tk 18 (.tk 19 (.ef 20 [5,10,13,14] .z))))) (.ef 6 [] (.ef 17 [] (.tk 18 (.tk 19 (.ef 20 [5,10,13,14] .z)))))) (.ef 1 [] (.ef 6 [] (.ef 17 [] (.tk 18 (.tk 19 (.ef 20 [5,10,13,14] .z))))))))) .n)) .n))
def Ii.wp(n:Option Addr)(w:World)(R:TR Ak0→WP):Prop:=
Bf z8' T.V4 w fun p1 w2=>
Aq n fun a3=>
ld1 .b (a3.add 11) w2 fun x4=>
Aj (!x4) (
Au z8' p1 0 w2 fun w5=>
A8 Aab p1 0 w5 fun x6=>
R ((0,()),(⟨#[]⟩,()),x6,(false,()),()) w5) (
Aq n fun a7=>
ld1 .p (a7.add 19) w2 fun x8=>
Ae prog F.Oy [.pointer x8] w2 true Ajr fun r9 w10=>
Aj (!r9.2.2.1.1) (
Au z8' p1 0 w10 fun w11=>
A8 Aab p1 0 w11 fun x12=>
R ((0,()),(⟨#[]⟩,()),x12,(false,()),()) w11) (
Aq n fun a13=>
ld1 .sl (a13.add 20) w10 fun x14=>
Ny x14.1 x14.2.1 0 fun a15=>
A8 Aab (a15.add ((0:Int).toNat*6)) 0 w10 fun x16=>
Bf z8' T.V4 w10 fun p17 w18=>
Au (encs Aab x16) p17 0 w18 fun w19=>
Aq n fun a20=>
ld1 .sl (a20.add 20) w19 fun x21=>
sQ 1 (x21.2.1:Int) x21.2.2 (
Aq n fun a22=>
Au [.slice (dG x21.1 x21.2.2 (Int.toNat 1) 6) ((Int.toNat (x21.2.1:Int))-(Int.toNat 1)) (x21.2.2-Int.toNat 1)] (a22.add 20) 0 w19 fun w23=>
Jg w23 fun w24=>
A8 Aab p17 0 w24 fun x25=>
Au (encs Aab x25) p1 0 w24 fun w26=>
Hold [] w26∧(
A8 Aab p1 0 w26 fun x27=>
R ((r9.1.1,()),(r9.2.1.1,()),x27,(true,()),()) w26))))
theorem Ii.ok{n:Option Addr}{w:World}{R:TR Ak0→WP}:Ii.wp n w R→Ae prog F.Ii [.pointer n] w true Ak0 R:=
  oks Aa func77 (hs 6 (.s (.pl (ks [0,1,2,3,4] (.ef 5 [2] (.tk 6 .z)))) .n))
def law26_same.wp(a0 a1 a2 a3 a4 b0 b1 b2 b3 b4:Int)(w:World)(R:TR r0'→WP):Prop:=
Bf [iV a0,iV a1,iV a2,uV a3,iV a4] T.Bg w fun p1 w2=>
Bf [iV b0,iV b1,iV b2,uV b3,iV b4] T.Ql w2 fun p3 w4=>
ld1 KI p1 w4 fun x5=>
ld1 KI p3 w4 fun x6=>
Aj (x5==x6) (
ld1 KI (p1.add 1) w4 fun x7=>
ld1 KI (p3.add 1) w4 fun x8=>
Aj (x7==x8) (
ld1 KI (p1.add 2) w4 fun x9=>
ld1 KI (p3.add 2) w4 fun x10=>
Aj (x9==x10) (
ld1 KU ((p1.add 2).add 1) w4 fun x11=>
ld1 KU (p3.add 3) w4 fun x12=>
Aj (x11==x12) (
ld1 KI (p1.add 4) w4 fun x13=>
ld1 KI (p3.add 4) w4 fun x14=>
R (((x13==x14),()),()) w4) (
R ((false,()),()) w4)) (
R ((false,()),()) w4)) (
R ((false,()),()) w4)) (
R ((false,()),()) w4)
theorem law26_same.ok{a0 a1 a2 a3 a4 b0 b1 b2 b3 b4:Int}{w:World}{R:TR r0'→WP}:law26_same.wp a0 a1 a2 a3 a4 b0 b1 b2 b3 b4 w R→Ae prog F.law26_same [.agg #[iV a0,iV a1,iV a2,uV a3,iV a4],.agg #[iV b0,iV b1,iV b2,uV b3,iV b4]] w false r0' R:=
  oks Aa func78 .n
end Go.Proofs.YtnjmfbjgcfnanaaGreat
