import Derived.Test.YtppeepkmnijdpaaGreatDoorNm
namespace Go.Proofs.YtppeepkmnijdpaaGreatDoor
open Go.Eng Tryz
open Go.IntKind (wrap)
set_option linter.unusedSimpArgs false
set_option linter.unusedVariables false
set_option maxRecDepth 100000
theorem Kr.ok{s:ByteArray}{tai:Int}{w:World}: ∀⦃R:TR r0'→WP⦄,(
Ad prog F.V7 [] w false r0' λr1 w2=>
Aj (!r1.1.1) (
R ((false,()),()) w2) (
Aj (decide ((s.size:Int)>16384)) (
R ((true,()),()) w2) (
Ad prog F.Iz [.string s] w2 true r1' λr3 w4=>
Ad prog F.Ql [.string s] w4 true r2' λr5 w6=>
Bj z0' T.Pv w6 λp7 w8=>
Au (encs k1' r5.1) p7 0 w8 λw9=>
Aj (r5.2.2.1.1 !=0) (
Aj (Option.isNone r3.1.1) (
R (((r3.2.2.1.1==r5.2.2.1.1),()),()) w9) (
R ((false,()),()) w9)) (
I8 w9 λw10=>
Aj (r3.2.2.1.1 !=0) (
R ((false,()),()) w10) (
Bc k1' p7 0 w10 λx11=>
Ad prog F.Sv [Rl k1' x11] w10 false r3' λr12 w13=>
Ak [hd 3 (p7.add 0) w10,hd 3 (p7.add 1) w10,hd 3 (p7.add 2) w10,hd 3 (p7.add 3) w10] w13∧(
Aj (r12.1.1 !=0) (
R ((false,()),()) w13) (
Bc k1' p7 0 w13 λx14=>
Ad prog F.Ll [.pointer r3.1.1] w13 false dY λY7 w16=>
Ak [hd 10 (p7.add 0) w13,hd 10 (p7.add 1) w13,hd 10 (p7.add 2) w13,hd 10 (p7.add 3) w13,hd 3 (p7.add 0) w10,hd 3 (p7.add 1) w10,hd 3 (p7.add 2) w10,hd 3 (p7.add 3) w10] w16∧(
Ad prog F.Uf [Rl k1' x14] w16 false dY λr17 w18=>
Ak [hd 3 (p7.add 0) w10,hd 3 (p7.add 1) w10,hd 3 (p7.add 2) w10,hd 3 (p7.add 3) w10] w18∧(
Aj (!(Y7.1.1==r17.1.1)) (
R ((false,()),()) w18) (
Ad prog F.kE [.pointer r3.1.1,iV tai] w18 true r5' λr19 w20=>
Bj z1' T.kU w20 λp21 w22=>
Au (encs k0' r19.1) p21 0 w22 λw23=>
Bc k1' p7 0 w23 λx24=>
Ad prog F.Xc [Rl k1' x24,iV tai] w23 true r6' λr25 w26=>
Bj z1' T.wF w26 λp27 w28=>
Au (encs k0' r25.1) p27 0 w28 λw29=>
Aj (!r25.2.1.1) (
R (((r19.2.1.1==11),()),()) w29) (
Bc k0' p21 0 w29 λx30=>
Ad prog F.dG [.pointer r3.1.1,Rl k0' x30] w29 true r7' λr31 w32=>
I8 w32 λw33=>
Bc k1' p7 0 w33 λx34=>
Bc k2' p27 0 w33 λx35=>
Ad prog F.Nr [Rl k2' x35] w33 false r3' λr36 w37=>
Ak [hd 2 (p27.add 0) w33,hd 2 (p27.add 1) w33,hd 2 (p27.add 2) w33,hd 0 (p7.add 0) w33,hd 0 (p7.add 1) w33,hd 0 (p7.add 2) w33,hd 0 (p7.add 3) w33] w37∧(
Ad prog F.Qr [Rl k1' x34,iV r36.1.1] w37 false r3' λr38 w39=>
Ak [hd 2 (p27.add 0) w33,hd 2 (p27.add 1) w33,hd 2 (p27.add 2) w33] w39∧(
Bh (λ(J40:Unit→WP)=>
ld1 KI (p27.add 5) w39 λx43=>
Aj (x43==60) (
Aj (r38.1.1 !=1) (
R ((false,()),()) w39) (
ld1 KI (p27.add 3) w39 λx44=>
Aj (x44==23) (
ld1 KI (p27.add 4) w39 λx45=>
Aj (x45==59) (
ld1 KI (p27.add 5) w39 λx46=>
Aj (x46==59) (
Aj (r38.1.1==(Int.negSucc 0)) (
R ((false,()),()) w39) (
J40 (()) w39)) (
J40 (()) w39)) (
J40 (()) w39)) (
J40 (()) w39))) (
ld1 KI (p27.add 3) w39 λx47=>
Aj (x47==23) (
ld1 KI (p27.add 4) w39 λx48=>
Aj (x48==59) (
ld1 KI (p27.add 5) w39 λx49=>
Aj (x49==59) (
Aj (r38.1.1==(Int.negSucc 0)) (
R ((false,()),()) w39) (
J40 (()) w39)) (
J40 (()) w39)) (
J40 (()) w39)) (
J40 (()) w39))) (λ(z41:Unit) w42=> ∀_:Nat→Value,
Aj (r19.2.1.1==0) (
Bc k2' p21 0 w42 λx50=>
ld1 KI (p21.add 3) w42 λx51=>
ld1 KI (p21.add 4) w42 λx52=>
ld1 KI (p21.add 5) w42 λx53=>
Bc k0' p27 0 w42 λx54=>
Aj (((x50.1==x54.1)&&((x50.2.1==x54.2.1)&&((x50.2.2.1==x54.2.2.1)&&true)))&&((x51==x54.2.2.2.1)&&((x52==x54.2.2.2.2.1)&&((x53==x54.2.2.2.2.2.1)&&true)))) (
Aj (r31.2.1.1==0) (
R (((r31.1.1==tai),()),()) w42) (
R ((false,()),()) w42)) (
R ((false,()),()) w42)) (
R ((false,()),()) w42)))))))))))))))→Ad prog F.Kr [.string s,iV tai] w false r0' R:=
 Cb Aa Tryz.func3 (hs 6 (.s (.s (.pl (ks [0,1,2,3] (.ef 4 [] (ks [5,6,7,8,10] (.ef 9 [] (.ef 11 [10] (.tk 12 (.tk 13 .z)))))))) .n) (hs 4 (.s (.pl (ks [0,1,2] (.ef 3 [] (.ef 4 [0] (.tk 5 .z))))) (.ct [] .n .n)))))
theorem V7.ok{w:World}: ∀⦃R:TR r0'→WP⦄,(
Ad prog F.Vs [.agg #[iV 2,iV 1,iV 0,iV 1,iV 0,iV 2,iV 2,iV 1,iV 0,iV (Int.negSucc 0),.slice none 0 0]] w false r8' λr1 w2=>
Ad prog F.dF [Rl k4' r1.1,.pointer none] w2 true iQ λr3 w4=>
Ad prog F.Rf [.pointer r3.1.1,iV 0,iV 1,.bool true] w4 false r3' λr5 w6=>
Ad prog F.Rj [.pointer r3.1.1,iV 0,.int .u32 5] w6 false r3' λr7 w8=>
Ad prog F.Rj [.pointer r3.1.1,iV 1,.int .u32 700] w8 false r3' λr9 w10=>
Aw (λ(self11:((Int)×Unit)→WP) (z12:(Int)×Unit) w13=> ∀_:Nat→Value,
Aj (decide (z12.1<3)) (
Bj [iV 1000,iV 1000] T.int w13 λp14 w15=>
Bj [iV 0,iV 0] T.int w15 λp16 w17=>
Bj [iV 0,iV 0] T.int w17 λp18 w19=>
Ad prog F.Q9 [.pointer r3.1.1,.agg #[.slice (some p14) 2 2,.slice (some p16) 2 2,.slice (some p18) 2 2,.slice none 0 0]] w19 false r3' λr20 w21=>
Aj (r20.1.1 !=0) (
R ((false,()),()) w21) (
self11 (wrap .i64 (z12.1+1),()) w21)) (
Ad prog F.Qs [.pointer r3.1.1,iV 1] w13 true Vk λr22 w23=>
Bj z2' T.Bl w23 λp24 w25=>
Au (encs bI r22.1) p24 0 w25 λw26=>
Aj (r3.2.1.1==0) (
Aj (r22.2.1.1==0) (
ld1 KI (p24.add 2) w26 λx27=>
Aj (x27==0) (
ld1 KI p24 w26 λx28=>
R (((x28==3005),()),()) w26) (
R ((false,()),()) w26)) (
R ((false,()),()) w26)) (
R ((false,()),()) w26))) (0,()) w10)→Ad prog F.V7 [] w false r0' R:=
 Cb Aa Tryz.func4 (hs 5 (.s (.s .n (.lp [(3,(.i .i64))] .n)) .n))
def Iz.wp(s:ByteArray)(w:World)(R:TR [(false,[.p]),(false,[(.i .i64)]),(false,[(.i .i64)])]→WP)(Z:Value→WP):Prop:=
Bj [.pointer none] T.mM w λp1 w2=>
Bj [.int .i64 0] T.int w2 λp3 w4=>
Bj [.int .i64 0] T.Ahu w4 λp5 w6=>
Aj (decide ((s.size:Int)>16384)) (
Au [.pointer none] p1 0 w6 λw7=>
Au [.int .i64 0] p3 0 w7 λw8=>
Au [.int .i64 5] p5 0 w8 λw9=>
enK .returning (
ld1 .p p1 w9 λx10=>
ld1 (.i .i64) p3 w9 λx11=>
ld1 (.i .i64) p5 w9 λx12=>
R ((x10,()),(x11,()),(x12,()),()) w9) (λch=>paK ch Z w9)) (
Bj [.int .i64 0,.int .i64 0,.int .i64 0,.int .i64 0,.int .i64 0,.slice none 0 0] T.Ach w6 λp13 w14=>
Ad prog F.strings_Split [.string s,.string ⟨#[10]⟩] w14 false [(false,[.sl])] λY7 w16=>
Aw (λ(self17:((Int)×Unit)→WP) (z18:(Int)×Unit) w19=> ∀_:Nat→Value,
Aj (decide (z18.1<(Y7.1.1.2.1:Int))) (
Hf Y7.1.1.1 Y7.1.1.2.1 z18.1 λa20=>
ld1 .s (a20.add (z18.1.toNat*1)) w19 λx21=>
bV prog F.Ju [.pointer (some p13),.string x21] w19 true [] (λr22 w23=>
self17 (wrap .i64 (z18.1+1),()) w23) (λ(v24:Value) w25=>
dfK prog F.Bg [.pointer (some p1),.pointer (some p3),.pointer (some p5)] (.panicking [{v:=v24,recovered:=false}]) w25 λu26 w27=>
enK (settle u26) (
ld1 .p p1 w27 λx28=>
ld1 (.i .i64) p3 w27 λx29=>
ld1 (.i .i64) p5 w27 λx30=>
R ((x28,()),(x29,()),(x30,()),()) w27) (λch=>paK ch Z w27))) (
Bh (λ(J31:Unit→WP)=>
ld1 (.i .i64) (p13.add 1) w19 λx34=>
Aj (decide (x34<2)) (
bV prog F.Ba [.pointer (some p13),.int .i64 3] w19 true [] (λr35 w36=>
J31 (()) w36) (λ(v37:Value) w38=>
dfK prog F.Bg [.pointer (some p1),.pointer (some p3),.pointer (some p5)] (.panicking [{v:=v37,recovered:=false}]) w38 λu39 w40=>
enK (settle u39) (
ld1 .p p1 w40 λx41=>
ld1 (.i .i64) p3 w40 λx42=>
ld1 (.i .i64) p5 w40 λx43=>
R ((x41,()),(x42,()),(x43,()),()) w40) (λch=>paK ch Z w40))) (
J31 (()) w19)) (λ(z32:Unit) w33=> ∀_:Nat→Value,
I8 w33 λw44=>
ld1 (.i .i64) (p13.add 2) w44 λx45=>
ld1 (.i .i64) (p13.add 3) w44 λx46=>
ld1 (.i .i64) (p13.add 4) w44 λx47=>
ld1 .sl (p13.add 5) w44 λx48=>
Bj [.int .i64 x45,.int .i64 x46,.int .i64 x47,.slice x48.1 x48.2.1 x48.2.2] T.Aet w44 λp49 w50=>
Ak [(15,(p13.add 5),(w44.cell? (p13.add 5)).getD undef),(11,(p13.add 4),(w44.cell? (p13.add 4)).getD undef),(7,(p13.add 3),(w44.cell? (p13.add 3)).getD undef),(3,(p13.add 2),(w44.cell? (p13.add 2)).getD undef)] w50∧(
Au [.pointer (some p49)] p1 0 w50 λw51=>
Ak [] w51∧(
Au [.int .i64 0] p3 0 w51 λw52=>
Ak [] w52∧(
Au [.int .i64 0] p5 0 w52 λw53=>
Ak [] w53∧(
dfK prog F.Bg [.pointer (some p1),.pointer (some p3),.pointer (some p5)] .returning w53 λu54 w55=>
enK (settle u54) (
ld1 .p p1 w55 λx56=>
ld1 (.i .i64) p3 w55 λx57=>
ld1 (.i .i64) p5 w55 λx58=>
R ((x56,()),(x57,()),(x58,()),()) w55) (λch=>paK ch Z w55)))))))) (0,()) w16)
theorem Iz.eq(s:ByteArray)(w:World)(R:Value→WP)(Z:Value→WP):Am0 prog Tryz.f5 (.s .n (.s .n (.s .pz (.s .n (.s (.s .n (.lp [(17,(.i .i64))] (.s .n (.s .n (.s (.s .n .pz) .n))))) (.ct [] (.s .n (.s .pz .n)) (.s (.pl (.tk 0 (.tk 1 (.tk 2 (.tk 3 (.tk 4 (.tk 5 (.tk 6 (.tk 7 (.tk 8 (.tk 9 (.tk 10 (.tk 11 (.tk 12 (.tk 13 (.tk 14 (.tk 15 (.tk 16 (.ef 17 [] (.ef 18 [3,7,11,15] (.ef 19 [] (.ef 20 [] .z)))))))))))))))))))))) .n))))))) [.string s] w R Z=Iz.wp s w (λr w=>R (encR true [(false,[.p]),(false,[(.i .i64)]),(false,[(.i .i64)])] r) w) Z:=by kernel_rfl
theorem Iz.ok{s:ByteArray}{w:World}{R:TR [(false,[.p]),(false,[(.i .i64)]),(false,[(.i .i64)])]→WP}(h:Iz.wp s w R λ_ _=>False):Ad prog F.Iz [.string s] w true [(false,[.p]),(false,[(.i .i64)]),(false,[(.i .i64)])] R:=
 Atc Aa Tryz.func5 (λR Z=>Iz.wp s w R Z) (Iz.eq s w) rfl h
theorem Ql.ok{s:ByteArray}{w:World}: ∀⦃R:TR r2'→WP⦄,(
Bj z0' T.Pv w λp1 w2=>
Aj (decide ((s.size:Int)>16384)) (
Au z0' p1 0 w2 λw3=>
Bc k1' p1 0 w3 λx4=>
R ((x4.1,x4.2.1,x4.2.2.1,(x4.2.2.2.1.1,x4.2.2.2.1.2.1,x4.2.2.2.1.2.2),()),(0,()),(5,()),()) w3) (
Bj z0' T.Pv w2 λp5 w6=>
Ad prog F.Ns [.string s,.int .u8 10] w6 false Gh λr7 w8=>
Aw (λ(self9:((Int)×(Int)×Unit)→WP) (z10:(Int)×(Int)×Unit) w11=> ∀_:Nat→Value,
Aj (decide (z10.2.1<(r7.1.1.2.1:Int))) (
Hf r7.1.1.1 r7.1.1.2.1 z10.2.1 λa12=>
ld1 .s (a12.add (z10.2.1.toNat*1)) w11 λx13=>
Aj (x13==⟨#[]⟩) (
self9 (z10.1,wrap .i64 (z10.2.1+1),()) w11) (
siK x13 0 λc14=>
Aj (c14==35) (
self9 (z10.1,wrap .i64 (z10.2.1+1),()) w11) (
Ad prog F.Ns [.string x13,.int .u8 32] w11 false Gh λY7 w16=>
Bh (λ(J17:((Int)×(Bool)×Unit)→WP)=>
Aj (decide ((Y7.1.1.2.1:Int)>1)) (
Hf Y7.1.1.1 Y7.1.1.2.1 1 λa20=>
ld1 .s (a20.add ((1:Int).toNat*1)) w16 λx21=>
Ad prog F.Vq [.string x21] w16 true Wp λr22 w23=>
J17 (r22.1.1,r22.2.1.1,()) w23) (
J17 (0,decide ((Y7.1.1.2.1:Int)>1),()) w16)) (λ(z18:(Int)×(Bool)×Unit) w19=> ∀_:Nat→Value,
Bh (λ(J24:((Bool)×Unit)→WP)=>
Aj (!z18.2.1) (
J24 (true,()) w19) (
J24 ((z10.1==2),()) w19)) (λ(z25:(Bool)×Unit) w26=> ∀_:Nat→Value,
Aj z25.1 (
Au z0' p1 0 w26 λw27=>
Bc k1' p1 0 w27 λx28=>
R ((x28.1,x28.2.1,x28.2.2.1,(x28.2.2.2.1.1,x28.2.2.2.1.2.1,x28.2.2.2.1.2.2),()),(wrap .i64 (z10.2.1+1),()),(3,()),()) w27) (
Aj (z10.1==0) (
Bh (λ(J29:((Bool)×Unit)→WP)=>
Aj ((Y7.1.1.2.1:Int) !=3) (
J29 (true,()) w26) (
Hf Y7.1.1.1 Y7.1.1.2.1 0 λa32=>
ld1 .s (a32.add ((0:Int).toNat*1)) w26 λx33=>
Aj (!(x33==⟨#[115,116,97,114,116]⟩)) (
J29 (true,()) w26) (
Hf Y7.1.1.1 Y7.1.1.2.1 2 λa34=>
ld1 .s (a34.add ((2:Int).toNat*1)) w26 λx35=>
Ad prog F.Pm [.string x35] w26 false r3' λr36 w37=>
J29 (decide (r36.1.1<0),()) w37))) (λ(z30:(Bool)×Unit) w31=> ∀_:Nat→Value,
Aj z30.1 (
Au z0' p1 0 w31 λw38=>
Bc k1' p1 0 w38 λx39=>
R ((x39.1,x39.2.1,x39.2.2.1,(x39.2.2.2.1.1,x39.2.2.2.1.2.1,x39.2.2.2.1.2.2),()),(wrap .i64 (z10.2.1+1),()),(3,()),()) w38) (
Au [iV z18.1] p5 0 w31 λw40=>
Hf Y7.1.1.1 Y7.1.1.2.1 2 λa41=>
ld1 .s (a41.add ((2:Int).toNat*1)) w40 λx42=>
Ad prog F.Pm [.string x42] w40 false r3' λr43 w44=>
Au [iV r43.1.1] (p5.add 1) 0 w44 λw45=>
self9 (1,wrap .i64 (z10.2.1+1),()) w45))) (
ld1 .sl (p5.add 3) w26 λx46=>
Hf Y7.1.1.1 Y7.1.1.2.1 0 λa47=>
ld1 .s (a47.add ((0:Int).toNat*1)) w26 λx48=>
Aj (x48==⟨#[108,101,97,112]⟩) (
Bh (λ(J49:((Bool)×Unit)→WP)=>
Aj ((Y7.1.1.2.1:Int) !=3) (
J49 (true,()) w26) (
Hf Y7.1.1.1 Y7.1.1.2.1 2 λa52=>
ld1 .s (a52.add ((2:Int).toNat*1)) w26 λx53=>
Aj (!(x53==⟨#[43,49]⟩)) (
Hf Y7.1.1.1 Y7.1.1.2.1 2 λa54=>
ld1 .s (a54.add ((2:Int).toNat*1)) w26 λx55=>
J49 (!(x55==⟨#[45,49]⟩),()) w26) (
J49 (false,()) w26))) (λ(z50:(Bool)×Unit) w51=> ∀_:Nat→Value,
Aj z50.1 (
Au z0' p1 0 w51 λw56=>
Bc k1' p1 0 w56 λx57=>
R ((x57.1,x57.2.1,x57.2.2.1,(x57.2.2.2.1.1,x57.2.2.2.1.2.1,x57.2.2.2.1.2.2),()),(wrap .i64 (z10.2.1+1),()),(3,()),()) w56) (
Aj ((x46.2.1:Int)==64) (
Au z0' p1 0 w51 λw58=>
Bc k1' p1 0 w58 λx59=>
R ((x59.1,x59.2.1,x59.2.2.1,(x59.2.2.2.1.1,x59.2.2.2.1.2.1,x59.2.2.2.1.2.2),()),(wrap .i64 (z10.2.1+1),()),(6,()),()) w58) (
Bh (λ(J60:((Bool)×Unit)→WP)=>
ld1 KI p5 w51 λx63=>
Aj (decide (z18.1<x63)) (
J60 (true,()) w51) (
Aj (decide ((x46.2.1:Int)>0)) (
ld1 .sl (p5.add 3) w51 λx64=>
Hf x64.1 x64.2.1 (wrap .i64 ((x46.2.1:Int)-1)) λa65=>
ld1 KI (a65.add ((wrap .i64 ((x46.2.1:Int)-1)).toNat*2)) w51 λx66=>
J60 (decide (z18.1≤x66),()) w51) (
J60 (false,()) w51))) (λ(z61:(Bool)×Unit) w62=> ∀_:Nat→Value,
Aj z61.1 (
Au z0' p1 0 w62 λw67=>
Bc k1' p1 0 w67 λx68=>
R ((x68.1,x68.2.1,x68.2.2.1,(x68.2.2.2.1.1,x68.2.2.2.1.2.1,x68.2.2.2.1.2.2),()),(wrap .i64 (z10.2.1+1),()),(12,()),()) w67) (
Bh (λ(J69:((Int)×Unit)→WP)=>
Hf Y7.1.1.1 Y7.1.1.2.1 2 λa72=>
ld1 .s (a72.add ((2:Int).toNat*1)) w62 λx73=>
Aj (x73==⟨#[45,49]⟩) (
J69 ((Int.negSucc 0),()) w62) (
J69 (1,()) w62)) (λ(z70:(Int)×Unit) w71=> ∀_:Nat→Value,
ld1 .sl (p5.add 3) w71 λx74=>
Bj [iV z18.1,iV z70.1] T.Qu w71 λp75 w76=>
Qj ((Builtin.append_ #[T.Sm,T.Sm] T.Sm #[.slice x74.1 x74.2.1 x74.2.2,.slice (some p75) 1 1]).run prog w76) λy77 w78=>
Au [.slice y77.1 y77.2.1 y77.2.2] (p5.add 3) 0 w78 λw79=>
self9 (z10.1,wrap .i64 (z10.2.1+1),()) w79))))))) (
Bh (λ(J80:((Bool)×Unit)→WP)=>
Aj ((Y7.1.1.2.1:Int) !=2) (
J80 (true,()) w26) (
Hf Y7.1.1.1 Y7.1.1.2.1 0 λa83=>
ld1 .s (a83.add ((0:Int).toNat*1)) w26 λx84=>
J80 (!(x84==⟨#[101,110,100]⟩),()) w26)) (λ(z81:(Bool)×Unit) w82=> ∀_:Nat→Value,
Aj z81.1 (
Au z0' p1 0 w82 λw85=>
Bc k1' p1 0 w85 λx86=>
R ((x86.1,x86.2.1,x86.2.2.1,(x86.2.2.2.1.1,x86.2.2.2.1.2.1,x86.2.2.2.1.2.2),()),(wrap .i64 (z10.2.1+1),()),(3,()),()) w85) (
Bh (λ(J87:((Bool)×Unit)→WP)=>
ld1 KI p5 w82 λx90=>
Aj (decide (z18.1≤x90)) (
J87 (true,()) w82) (
Aj (decide ((x46.2.1:Int)>0)) (
ld1 .sl (p5.add 3) w82 λx91=>
Hf x91.1 x91.2.1 (wrap .i64 ((x46.2.1:Int)-1)) λa92=>
ld1 KI (a92.add ((wrap .i64 ((x46.2.1:Int)-1)).toNat*2)) w82 λx93=>
J87 (decide (z18.1≤x93),()) w82) (
J87 (false,()) w82))) (λ(z88:(Bool)×Unit) w89=> ∀_:Nat→Value,
Aj z88.1 (
Au z0' p1 0 w89 λw94=>
Bc k1' p1 0 w94 λx95=>
R ((x95.1,x95.2.1,x95.2.2.1,(x95.2.2.2.1.1,x95.2.2.2.1.2.1,x95.2.2.2.1.2.2),()),(wrap .i64 (z10.2.1+1),()),(12,()),()) w94) (
Au [iV z18.1] (p5.add 2) 0 w89 λw96=>
self9 (2,wrap .i64 (z10.2.1+1),()) w96)))))))))))) (
Aj (decide (z10.1<2)) (
Au z0' p1 0 w11 λw97=>
Bc k1' p1 0 w97 λx98=>
R ((x98.1,x98.2.1,x98.2.2.1,(x98.2.2.2.1.1,x98.2.2.2.1.2.1,x98.2.2.2.1.2.2),()),((r7.1.1.2.1:Int),()),(3,()),()) w97) (
Bc k1' p5 0 w11 λx99=>
Au (encs k1' x99) p1 0 w11 λw100=>
Bc k1' p1 0 w100 λx101=>
R ((x101.1,x101.2.1,x101.2.2.1,(x101.2.2.2.1.1,x101.2.2.2.1.2.1,x101.2.2.2.1.2.2),()),(0,()),(0,()),()) w100))) (0,0,()) w8))→Ad prog F.Ql [.string s] w true r2' R:=
 Cb Aa Tryz.func6 (hs 5 (.s (.s .n (.lp [(6,(.i .i64)),(23,(.i .i64))] (hs 2 (.s (hs 5 (.ct [(11,(.i .i64)),(12,.b)] .n (.s (.ct [(53,.b)] .n .n) (.s (.s .n (.s (.s (.ct [(74,.b)] .n .n) .n) .n)) (.s .n (.s (.s .n (.s (.s (.ct [(106,.b)] .n .n) (.s .n (.s (.ct [(133,.b)] .n .n) (.s .n (.ct [(14,(.i .i64))] .n .n))))) .n)) (.s (.ct [(157,.b)] .n .n) (.s (.ct [(179,.b)] .n .n) .n)))))))) .n)))) .n))
theorem Sv.ok{t0 t1 t2:Int}{t3:Option Addr×Nat×Nat}{w:World}: ∀⦃R:TR r3'→WP⦄,(
Bj [iV t0,iV t1,iV t2,.slice t3.1 t3.2.1 t3.2.2] T.Pv w λp1 w2=>
ld1 KI p1 w2 λx3=>
Aj (decide (x3<(Int.negSucc 719161))) (
R ((1,()),()) w2) (
ld1 KI p1 w2 λx4=>
Aj (decide (x4>2932896)) (
R ((1,()),()) w2) (
ld1 KI (p1.add 2) w2 λx5=>
Aj (decide (x5<(Int.negSucc 719161))) (
R ((1,()),()) w2) (
ld1 KI (p1.add 2) w2 λx6=>
Aj (decide (x6>2932896)) (
R ((1,()),()) w2) (
ld1 KI p1 w2 λx7=>
ld1 KI (p1.add 2) w2 λx8=>
Aj (decide (x7≥x8)) (
R ((1,()),()) w2) (
ld1 KI (p1.add 1) w2 λx9=>
Aj (decide (x9<0)) (
R ((1,()),()) w2) (
ld1 KI (p1.add 1) w2 λx10=>
Aj (decide (x10>99)) (
R ((1,()),()) w2) (
ld1 .sl (p1.add 3) w2 λx11=>
Aw (λ(self12:((Int)×Unit)→WP) (z13:(Int)×Unit) w14=> ∀_:Nat→Value,
Aj (decide (z13.1<(x11.2.1:Int))) (
Hf x11.1 x11.2.1 z13.1 λa15=>
Bc [KI,KI] (a15.add (z13.1.toNat*2)) 0 w14 λx16=>
Bj [iV 0,iV 0] T.Qu w14 λp17 w18=>
Au [iV x16.1,iV x16.2.1] p17 0 w18 λw19=>
ld1 KI (p17.add 1) w19 λx20=>
Aj (x20 !=1) (
ld1 KI (p17.add 1) w19 λx21=>
Aj (x21 !=(Int.negSucc 0)) (
R ((1,()),()) w19) (
self12 (wrap .i64 (z13.1+1),()) w19)) (
self12 (wrap .i64 (z13.1+1),()) w19)) (
ld1 .sl (p1.add 3) w14 λx22=>
Aj (decide ((x22.2.1:Int)>64)) (
R ((6,()),()) w14) (
ld1 .sl (p1.add 3) w14 λx23=>
Aw (λ(self24:((Int)×Unit)→WP) (z25:(Int)×Unit) w26=> ∀_:Nat→Value,
Aj (decide (z25.1<(x23.2.1:Int))) (
Hf x23.1 x23.2.1 z25.1 λa27=>
Bc [KI,KI] (a27.add (z25.1.toNat*2)) 0 w26 λx28=>
Bj [iV 0,iV 0] T.Qu w26 λp29 w30=>
Au [iV x28.1,iV x28.2.1] p29 0 w30 λw31=>
I8 w31 λw32=>
ld1 KI p29 w32 λx33=>
ld1 KI p1 w32 λx34=>
Aj (decide (x33<x34)) (
R ((12,()),()) w32) (
ld1 KI p29 w32 λx35=>
ld1 KI (p1.add 2) w32 λx36=>
Aj (decide (x35≥x36)) (
R ((12,()),()) w32) (
Aj (decide (z25.1>0)) (
ld1 KI p29 w32 λx37=>
ld1 .sl (p1.add 3) w32 λx38=>
Hf x38.1 x38.2.1 (wrap .i64 (z25.1-1)) λa39=>
ld1 KI (a39.add ((wrap .i64 (z25.1-1)).toNat*2)) w32 λx40=>
Aj (decide (x37≤x40)) (
R ((12,()),()) w32) (
self24 (wrap .i64 (z25.1+1),()) w32)) (
self24 (wrap .i64 (z25.1+1),()) w32)))) (
R ((0,()),()) w26)) (0,()) w14))) (0,()) w2))))))))→Ad prog F.Sv [.agg #[iV t0,iV t1,iV t2,.slice t3.1 t3.2.1 t3.2.2]] w false r3' R:=
 Cb Aa Tryz.func7 (hs 2 (.s (.s .n (.lp [(45,(.i .i64))] .n)) (.s .n (.s (.s .n (.lp [(65,(.i .i64))] (hs 2 (.s (.s .n (.s (.pl (ks [0,1,2,3,4,5,6,7,8,9,10,11,12,13,14,15,16,17,18,19,20,21,22,23,24,25,26,27] .z)) .n)) .n)))) .n))))
theorem Ll.ok{t:Option Addr}{w:World}: ∀⦃R:TR dY→WP⦄,(
Aj (Option.isNone t) (
R ((⟨#[]⟩,()),()) w) (
Bj [.pointer none,.slice none 0 0] T.Ia w λp1 w2=>
I8 w2 λw3=>
A7 t λa4=>
ld1 KI a4 w3 λx5=>
A7 t λa6=>
ld1 KI (a6.add 1) w3 λx7=>
Ad prog F.Qc [iV x5] w3 false dY λr8 w9=>
Ak [hd 10 (a6.add 1) w3,hd 3 a4 w3] w9∧(
iF ⟨#[115,116,97,114,116,32]⟩ r8.1.1 (
iF (⟨#[115,116,97,114,116,32]⟩++r8.1.1) ⟨#[32]⟩ (
Ad prog F.strconv_Itoa [iV x7] w9 false dY λr10 w11=>
Ak [hd 10 (a6.add 1) w3,hd 3 a4 w3] w11∧(
iF ((⟨#[115,116,97,114,116,32]⟩++r8.1.1)++⟨#[32]⟩) r10.1.1 (
iF (((⟨#[115,116,97,114,116,32]⟩++r8.1.1)++⟨#[32]⟩)++r10.1.1) ⟨#[10]⟩ (
Ad prog F.Be [.pointer (some p1),.string ((((⟨#[115,116,97,114,116,32]⟩++r8.1.1)++⟨#[32]⟩)++r10.1.1)++⟨#[10]⟩)] w11 true Ah7 λr12 w13=>
Ak [hd 10 (a6.add 1) w3,hd 3 a4 w3] w13∧(
Ad prog F.Fj [.pointer t] w13 false Ub λr14 w15=>
RfT prog r14.1.1 qQ w15 (λx16 k17 w18=>
Bj [iV 0,iV 0] T.Ro w18 λp24 w25=>
Au [iV x16.1.1,iV x16.1.2.1] p24 0 w25 λw26=>
k17 w26 λgo19 lv20 w21=>
Bh (λ(J27:((ByteArray)×Unit)→WP)=>
ld1 KI (p24.add 1) w21 λx30=>
Aj (decide (x30<0)) (
J27 (⟨#[45,49]⟩,()) w21) (
J27 (⟨#[43,49]⟩,()) w21)) (λ(z28:(ByteArray)×Unit) w29=> ∀_:Nat→Value,
ld1 KI p24 w29 λx31=>
Ad prog F.Qc [iV x31] w29 false dY λr32 w33=>
iF ⟨#[108,101,97,112,32]⟩ r32.1.1 (
iF (⟨#[108,101,97,112,32]⟩++r32.1.1) ⟨#[32]⟩ (
iF ((⟨#[108,101,97,112,32]⟩++r32.1.1)++⟨#[32]⟩) z28.1 (
iF (((⟨#[108,101,97,112,32]⟩++r32.1.1)++⟨#[32]⟩)++z28.1) ⟨#[10]⟩ (
Ad prog F.Be [.pointer (some p1),.string ((((⟨#[108,101,97,112,32]⟩++r32.1.1)++⟨#[32]⟩)++z28.1)++⟨#[10]⟩)] w33 true Ah7 λr34 w35=>
go19 w35)))))) (λD22 w23=>
A7 t λa36=>
ld1 KI (a36.add 2) w23 λx37=>
Ad prog F.Qc [iV x37] w23 false dY λr38 w39=>
iF ⟨#[101,110,100,32]⟩ r38.1.1 (
iF (⟨#[101,110,100,32]⟩++r38.1.1) ⟨#[10]⟩ (
Ad prog F.Be [.pointer (some p1),.string ((⟨#[101,110,100,32]⟩++r38.1.1)++⟨#[10]⟩)] w39 true Ah7 λr40 w41=>
Ad prog F.Il [.pointer (some p1)] w41 false dY λr42 w43=>
tkK D22 w43 λw44=>
R ((r42.1.1,()),()) w44))) [])))))))))→Ad prog F.Ll [.pointer t] w false dY R:=
 Cb Aa Tryz.func8 (hs 3 (.s (.pl (ks [0,1,2,3,7,8,9,10] (.ef 4 [] (.tk 5 (.tk 6 (.ef 11 [] (.tk 12 (.tk 13 (.ef 14 [] .z))))))))) (.s (.s .n (.rf [(true,[(.i .i64),(.i .i64)])] .n (.s .n (.ct [(5,.s)] .n .n)))) .n)))
theorem Uf.ok{t0 t1 t2:Int}{t3:Option Addr×Nat×Nat}{w:World}: ∀⦃R:TR dY→WP⦄,(
Bj [iV t0,iV t1,iV t2,.slice t3.1 t3.2.1 t3.2.2] T.Pv w λp1 w2=>
I8 w2 λw3=>
ld1 KI p1 w3 λx4=>
ld1 KI (p1.add 1) w3 λx5=>
Ad prog F.Ha [iV x4] w3 false dY λr6 w7=>
Ak [hd 6 (p1.add 1) w3,hd 1 p1 w3] w7∧(
iF ⟨#[115,116,97,114,116,32]⟩ r6.1.1 (
iF (⟨#[115,116,97,114,116,32]⟩++r6.1.1) ⟨#[32]⟩ (
Ad prog F.strconv_Itoa [iV x5] w7 false dY λr8 w9=>
Ak [hd 1 p1 w3] w9∧(
iF ((⟨#[115,116,97,114,116,32]⟩++r6.1.1)++⟨#[32]⟩) r8.1.1 (
iF (((⟨#[115,116,97,114,116,32]⟩++r6.1.1)++⟨#[32]⟩)++r8.1.1) ⟨#[10]⟩ (
ld1 .sl (p1.add 3) w9 λx10=>
Aw (λ(self11:((ByteArray)×(Int)×Unit)→WP) (z12:(ByteArray)×(Int)×Unit) w13=> ∀_:Nat→Value,
Aj (decide (z12.2.1<(x10.2.1:Int))) (
Hf x10.1 x10.2.1 z12.2.1 λa14=>
Bc [KI,KI] (a14.add (z12.2.1.toNat*2)) 0 w13 λx15=>
Bj [iV 0,iV 0] T.Qu w13 λp16 w17=>
Au [iV x15.1,iV x15.2.1] p16 0 w17 λw18=>
Bh (λ(J19:((ByteArray)×Unit)→WP)=>
ld1 KI (p16.add 1) w18 λx22=>
Aj (x22==(Int.negSucc 0)) (
J19 (⟨#[32,45,49,10]⟩,()) w18) (
J19 (⟨#[32,43,49,10]⟩,()) w18)) (λ(z20:(ByteArray)×Unit) w21=> ∀_:Nat→Value,
iF z12.1 ⟨#[108,101,97,112,32]⟩ (
ld1 KI p16 w21 λx23=>
Ad prog F.Ha [iV x23] w21 false dY λr24 w25=>
iF (z12.1++⟨#[108,101,97,112,32]⟩) r24.1.1 (
iF ((z12.1++⟨#[108,101,97,112,32]⟩)++r24.1.1) z20.1 (
self11 (((z12.1++⟨#[108,101,97,112,32]⟩)++r24.1.1)++z20.1,wrap .i64 (z12.2.1+1),()) w25))))) (
iF z12.1 ⟨#[101,110,100,32]⟩ (
ld1 KI (p1.add 2) w13 λx26=>
Ad prog F.Ha [iV x26] w13 false dY λr27 w28=>
iF (z12.1++⟨#[101,110,100,32]⟩) r27.1.1 (
iF ((z12.1++⟨#[101,110,100,32]⟩)++r27.1.1) ⟨#[10]⟩ (
R ((((z12.1++⟨#[101,110,100,32]⟩)++r27.1.1)++⟨#[10]⟩,()),()) w28))))) ((((⟨#[115,116,97,114,116,32]⟩++r6.1.1)++⟨#[32]⟩)++r8.1.1)++⟨#[10]⟩,0,()) w9)))))))→Ad prog F.Uf [.agg #[iV t0,iV t1,iV t2,.slice t3.1 t3.2.1 t3.2.2]] w false dY R:=
 Cb Aa Tryz.func9 (.s .n (.s (.pl (ks [0,1,5,6] (.ef 2 [] (.tk 3 (.tk 4 (.ef 7 [6] (ks [8,9,10] .z))))))) (.s (.s .n (.lp [(3,.s),(20,(.i .i64))] (hs 2 (.s (hs 2 (.ct [(6,.s)] .n .n)) .n)))) .n)))
theorem kE.ok{t:Option Addr}{tai:Int}{w:World}: ∀⦃R:TR r5'→WP⦄,(
Bj z1' T.kU w λp1 w2=>
Aj (Option.isNone t) (
Au z1' p1 0 w2 λw3=>
Bc k0' p1 0 w3 λx4=>
R (x4,(2,()),()) w3) (
Ad prog F.Jm [iV tai,iV 86400] w2 true Ad9 λr5 w6=>
Aw (λ(self7:((Int)×Unit)→WP) (z8:(Int)×Unit) w9=> ∀_:Nat→Value,
Aj (decide (z8.1<3)) (
aiK [wrap .i64 (r5.1.1-1),r5.1.1,wrap .i64 (r5.1.1+1)] 3 z8.1 λc10=>
Ad prog F.Ti [.pointer t,iV c10] w9 true Wp λr11 w12=>
Aj r11.2.1.1 (
Aj (decide ((wrap .i64 (tai-r11.1.1))≥0)) (
Ad prog F.Hw [.pointer t,iV c10] w12 false r3' λr13 w14=>
Aj (decide ((wrap .i64 (tai-r11.1.1))<(wrap .i64 (86400+r13.1.1)))) (
Ad prog F.jX [iV c10,iV (wrap .i64 (tai-r11.1.1))] w14 false Arb λY7 w16=>
Au (encs k0' Y7.1) p1 0 w16 λw17=>
Bc k0' p1 0 w17 λx18=>
R (x18,(0,()),()) w17) (
self7 (wrap .i64 (z8.1+1),()) w14)) (
self7 (wrap .i64 (z8.1+1),()) w12)) (
self7 (wrap .i64 (z8.1+1),()) w12)) (
Au z1' p1 0 w9 λw19=>
Bc k0' p1 0 w19 λx20=>
R (x20,(11,()),()) w19)) (0,()) w6))→Ad prog F.kE [.pointer t,iV tai] w true r5' R:=
 Cb Aa Tryz.func10 (hs 3 (.s (.s .n (.lp [(29,(.i .i64))] .n)) .n))
theorem Xc.ok{t0 t1 t2:Int}{t3:Option Addr×Nat×Nat}{tai:Int}{w:World}: ∀⦃R:TR r6'→WP⦄,(
Bj [iV t0,iV t1,iV t2,.slice t3.1 t3.2.1 t3.2.2] T.Pv w λp1 w2=>
Bj z1' T.wF w2 λp3 w4=>
ld1 KI p1 w4 λx5=>
ld1 KI (p1.add 2) w4 λx6=>
I8 w4 λw7=>
Bc k1' p1 0 w7 λx8=>
Ad prog F.Ih [Rl k1' x8,iV x5] w7 false r3' λr9 w10=>
Ak [hd 1 (p1.add 0) w7,hd 1 (p1.add 1) w7,hd 1 (p1.add 2) w7,hd 1 (p1.add 3) w7] w10∧(
Aj (decide (tai<r9.1.1)) (
Au z1' p3 0 w10 λw11=>
Bc k0' p3 0 w11 λx12=>
R (x12,(false,()),()) w11) (
Bc k1' p1 0 w10 λx13=>
Bc k1' p1 0 w10 λx14=>
Ad prog F.Ih [Rl k1' x13,iV (wrap .i64 (x6-1))] w10 false r3' λY7 w16=>
Ak [hd 11 (p1.add 0) w10,hd 11 (p1.add 1) w10,hd 11 (p1.add 2) w10,hd 11 (p1.add 3) w10,hd 7 (p1.add 0) w10,hd 7 (p1.add 1) w10,hd 7 (p1.add 2) w10,hd 7 (p1.add 3) w10,hd 1 (p1.add 0) w7,hd 1 (p1.add 1) w7,hd 1 (p1.add 2) w7,hd 1 (p1.add 3) w7] w16∧(
Ad prog F.Qr [Rl k1' x14,iV (wrap .i64 (x6-1))] w16 false r3' λr17 w18=>
Ak [hd 7 (p1.add 0) w10,hd 7 (p1.add 1) w10,hd 7 (p1.add 2) w10,hd 7 (p1.add 3) w10,hd 1 (p1.add 0) w7,hd 1 (p1.add 1) w7,hd 1 (p1.add 2) w7,hd 1 (p1.add 3) w7] w18∧(
Aj (decide (tai≥(wrap .i64 ((wrap .i64 (Y7.1.1+86400))+r17.1.1)))) (
Au z1' p3 0 w18 λw19=>
Bc k0' p3 0 w19 λx20=>
R (x20,(false,()),()) w19) (
Aw (λ(self21:((Int)×(Int)×Unit)→WP) (z22:(Int)×(Int)×Unit) w23=> ∀_:Nat→Value,
Aj (decide (z22.1<z22.2.1)) (
Zm 2 (
Bc k1' p1 0 w23 λx24=>
Ad prog F.Ih [Rl k1' x24,iV (wrap .i64 (z22.1+(wrap .i64 (Int.tdiv (wrap .i64 ((wrap .i64 (z22.2.1-z22.1))+1)) 2))))] w23 false r3' λr25 w26=>
Aj (decide (r25.1.1≤tai)) (
self21 (wrap .i64 (z22.1+(wrap .i64 (Int.tdiv (wrap .i64 ((wrap .i64 (z22.2.1-z22.1))+1)) 2))),z22.2.1,()) w26) (
self21 (z22.1,wrap .i64 ((wrap .i64 (z22.1+(wrap .i64 (Int.tdiv (wrap .i64 ((wrap .i64 (z22.2.1-z22.1))+1)) 2))))-1),()) w26))) (
Bc k1' p1 0 w23 λx27=>
Ad prog F.Ih [Rl k1' x27,iV z22.1] w23 false r3' λr28 w29=>
Ad prog F.Ur [iV z22.1] w29 false Py λr30 w31=>
Bj z3' T.Ic w31 λp32 w33=>
Au (encs k2' r30.1) p32 0 w33 λw34=>
Aj ((wrap .i64 (tai-r28.1.1))==86400) (
Bc k2' p32 0 w34 λx35=>
Au [iV x35.1,iV x35.2.1,iV x35.2.2.1,iV 23,iV 59,iV 60] p3 0 w34 λw36=>
Bc k0' p3 0 w36 λx37=>
R (x37,(true,()),()) w36) (
Bc k2' p32 0 w34 λx38=>
Zm 3600 (
Zm 3600 (
Zm 60 (
Zm 60 (
Au [iV x38.1,iV x38.2.1,iV x38.2.2.1,iV (wrap .i64 (Int.tdiv (wrap .i64 (tai-r28.1.1)) 3600)),iV (wrap .i64 (Int.tdiv (Int.tmod (wrap .i64 (tai-r28.1.1)) 3600) 60)),iV (Int.tmod (wrap .i64 (tai-r28.1.1)) 60)] p3 0 w34 λw39=>
Bc k0' p3 0 w39 λx40=>
R (x40,(true,()),()) w39))))))) (x5,wrap .i64 (x6-1),()) w18))))))→Ad prog F.Xc [.agg #[iV t0,iV t1,iV t2,.slice t3.1 t3.2.1 t3.2.2],iV tai] w true r6' R:=
 Cb Aa Tryz.func11 (hs 3 (.s (.s (.pl (ks [0,1,2] (.ef 3 [] (ks [4,5,6,7,8,11,12] (.ef 9 [] (.tk 10 (.ef 13 [11] (ks [14,15,16] .z)))))))) .n) (.s (.lp [(6,(.i .i64)),(7,(.i .i64))] .n) .n)))
theorem dG.ok{t:Option Addr}{u0 u1 u2 u3 u4 u5:Int}{w:World}: ∀⦃R:TR r7'→WP⦄,(
Bj [iV u0,iV u1,iV u2,iV u3,iV u4,iV u5] T.kU w λp1 w2=>
Aj (Option.isNone t) (
R ((0,()),(2,()),()) w2) (
Bc k0' p1 0 w2 λx3=>
Ad prog F.Ri [Rl k0' x3] w2 false r0' λr4 w5=>
Aj (!r4.1.1) (
R ((0,()),(1,()),()) w5) (
Bc k2' p1 0 w5 λx6=>
Ad prog F.F5 [Rl k2' x6] w5 true Wp λr7 w8=>
Ad prog F.Ti [.pointer t,iV r7.1.1] w8 true Wp λr9 w10=>
Aj (!r9.2.1.1) (
R ((0,()),(11,()),()) w10) (
ld1 KI (p1.add 3) w10 λx11=>
ld1 KI (p1.add 4) w10 λx12=>
ld1 KI (p1.add 5) w10 λx13=>
Ad prog F.Hw [.pointer t,iV r7.1.1] w10 false r3' λr14 w15=>
Aj (decide ((wrap .i64 ((wrap .i64 ((wrap .i64 (3600*x11))+(wrap .i64 (60*x12))))+x13))≥(wrap .i64 (86400+r14.1.1)))) (
R ((0,()),(7,()),()) w15) (
R ((wrap .i64 (r9.1.1+(wrap .i64 ((wrap .i64 ((wrap .i64 (3600*x11))+(wrap .i64 (60*x12))))+x13))),()),(0,()),()) w15)))))→Ad prog F.dG [.pointer t,.agg #[iV u0,iV u1,iV u2,iV u3,iV u4,iV u5]] w true r7' R:=
 Cb Aa Tryz.func12 .n
theorem Qr.ok{t0 t1 t2:Int}{t3:Option Addr×Nat×Nat}{day:Int}{w:World}: ∀⦃R:TR r3'→WP⦄,(
Bj [iV t0,iV t1,iV t2,.slice t3.1 t3.2.1 t3.2.2] T.Pv w λp1 w2=>
ld1 .sl (p1.add 3) w2 λx3=>
Aw (λ(self4:((Int)×Unit)→WP) (z5:(Int)×Unit) w6=> ∀_:Nat→Value,
Aj (decide (z5.1<(x3.2.1:Int))) (
Hf x3.1 x3.2.1 z5.1 λa7=>
Bc [KI,KI] (a7.add (z5.1.toNat*2)) 0 w6 λx8=>
Bj [iV 0,iV 0] T.Qu w6 λp9 w10=>
Au [iV x8.1,iV x8.2.1] p9 0 w10 λw11=>
ld1 KI p9 w11 λx12=>
Aj (x12==day) (
ld1 KI (p9.add 1) w11 λx13=>
R ((x13,()),()) w11) (
self4 (wrap .i64 (z5.1+1),()) w11)) (
R ((0,()),()) w6)) (0,()) w2)→Ad prog F.Qr [.agg #[iV t0,iV t1,iV t2,.slice t3.1 t3.2.1 t3.2.2],iV day] w false r3' R:=
 Cb Aa Tryz.func13 (.s .n (.s (.s .n (.lp [(10,(.i .i64))] .n)) .n))
theorem Nr.ok{d0 d1 d2:Int}{w:World}: ∀⦃R:TR r3'→WP⦄,(
Bj [iV d0,iV d1,iV d2] T.Ic w λp1 w2=>
ld1 KI p1 w2 λx3=>
Ad prog F.Pe [iV x3] w2 false r3' λr4 w5=>
Ad prog F.Pe [iV 1970] w5 false r3' λr6 w7=>
Aw (λ(self8:((Int)×(Int)×Unit)→WP) (z9:(Int)×(Int)×Unit) w10=> ∀_:Nat→Value,
ld1 KI (p1.add 1) w10 λx11=>
Aj (decide (z9.2.1<x11)) (
ld1 KI p1 w10 λx12=>
Ad prog F.Ov [iV x12,iV z9.2.1] w10 false r3' λr13 w14=>
self8 (wrap .i64 (z9.1+r13.1.1),wrap .i64 (z9.2.1+1),()) w14) (
ld1 KI (p1.add 2) w10 λx15=>
R ((wrap .i64 ((wrap .i64 (z9.1+x15))-1),()),()) w10)) (wrap .i64 (r4.1.1-r6.1.1),1,()) w7)→Ad prog F.Nr [.agg #[iV d0,iV d1,iV d2]] w false r3' R:=
 Cb Aa Tryz.func14 (hs 2 (.s (.s .n (.lp [(3,(.i .i64)),(4,(.i .i64))] .n)) .n))
theorem dF.ok{s0 s1 s2 s3 s4 s5 s6 s7 s8 s9:Int}{s10:Option Addr×Nat×Nat}{leaps:Option Addr}{w:World}: ∀⦃R:TR iQ→WP⦄,(
Bj [iV s0,iV s1,iV s2,iV s3,iV s4,iV s5,iV s6,iV s7,iV s8,iV s9,.slice s10.1 s10.2.1 s10.2.2] T.nZ w λp1 w2=>
ld1 KI p1 w2 λx3=>
Ad prog F.Vw [iV x3] w2 true iQ λr4 w5=>
Aj (r4.2.1.1 !=0) (
R ((none,()),(r4.2.1.1,()),()) w5) (
ld1 .sl (p1.add 10) w5 λx6=>
Qj ((Builtin.append_ #[T.mY,T.mY] T.mY #[.slice none 0 0,.slice x6.1 x6.2.1 x6.2.2]).run prog w5) λy7 w8=>
Au [.slice y7.1 y7.2.1 y7.2.2] (p1.add 10) 0 w8 λw9=>
Bc k4' p1 0 w9 λx10=>
Bj [iV x10.1,iV x10.2.1,iV x10.2.2.1,iV x10.2.2.2.1,iV x10.2.2.2.2.1,iV x10.2.2.2.2.2.1,iV x10.2.2.2.2.2.2.1,iV x10.2.2.2.2.2.2.2.1,iV x10.2.2.2.2.2.2.2.2.1,iV x10.2.2.2.2.2.2.2.2.2.1,.slice x10.2.2.2.2.2.2.2.2.2.2.1.1 x10.2.2.2.2.2.2.2.2.2.2.1.2.1 x10.2.2.2.2.2.2.2.2.2.2.1.2.2,.pointer r4.1.1,.slice none 0 0,iV 0,.int .u64 0,.slice none 0 0] T.Apc w9 λp11 w12=>
ld1 KI p1 w12 λx13=>
Aw (λ(self14:((Int)×Unit)→WP) (z15:(Int)×Unit) w16=> ∀_:Nat→Value,
Aj (decide (z15.1<x13)) (
Bc k4' p1 0 w16 λx17=>
Ad prog F.Qm [Rl k4' x17,iV z15.1] w16 false As9 λr18 w19=>
Ad prog F.Ua [Rl k5' r18.1,.pointer leaps] w19 true iQ λr20 w21=>
Aj (r20.2.1.1 !=0) (
R ((none,()),(r20.2.1.1,()),()) w21) (
ld1 .sl (p11.add 12) w21 λx22=>
Bj [.pointer r20.1.1] T.Wl w21 λp23 w24=>
Qj ((Builtin.append_ #[T.Yh,T.Yh] T.Yh #[.slice x22.1 x22.2.1 x22.2.2,.slice (some p23) 1 1]).run prog w24) λy25 w26=>
Au [.slice y25.1 y25.2.1 y25.2.2] (p11.add 12) 0 w26 λw27=>
self14 (wrap .i64 (z15.1+1),()) w27)) (
R ((some p11,()),(0,()),()) w16)) (0,()) w12))→Ad prog F.dF [.agg #[iV s0,iV s1,iV s2,iV s3,iV s4,iV s5,iV s6,iV s7,iV s8,iV s9,.slice s10.1 s10.2.1 s10.2.2],.pointer leaps] w true iQ R:=
 Cb Aa Tryz.func15 (hs 5 (.s (.s .n (.lp [(31,(.i .i64))] .n)) .n))
theorem Vs.ok{s0 s1 s2 s3 s4 s5 s6 s7 s8 s9:Int}{s10:Option Addr×Nat×Nat}{w:World}: ∀⦃R:TR r8'→WP⦄,(
Bj [iV s0,iV s1,iV s2,iV s3,iV s4,iV s5,iV s6,iV s7,iV s8,iV s9,.slice s10.1 s10.2.1 s10.2.2] T.Ada w λp1 w2=>
Bj z4' T.nZ w2 λp3 w4=>
I8 w4 λw5=>
ld1 KI p1 w5 λx6=>
ld1 KI (p1.add 1) w5 λx7=>
ld1 KI (p1.add 2) w5 λx8=>
ld1 KI (p1.add 3) w5 λx9=>
ld1 KI (p1.add 4) w5 λx10=>
ld1 KI (p1.add 5) w5 λx11=>
ld1 KI (p1.add 6) w5 λx12=>
ld1 KI (p1.add 7) w5 λx13=>
ld1 KI (p1.add 8) w5 λx14=>
ld1 KI (p1.add 9) w5 λx15=>
ld1 .sl (p1.add 10) w5 λx16=>
Bj [] T.int w5 λp17 w18=>
Ak [hd 24 (p1.add 10) w5,hd 21 (p1.add 9) w5,hd 19 (p1.add 8) w5,hd 17 (p1.add 7) w5,hd 15 (p1.add 6) w5,hd 13 (p1.add 5) w5,hd 10 (p1.add 4) w5,hd 8 (p1.add 3) w5,hd 5 (p1.add 2) w5,hd 3 (p1.add 1) w5,hd 1 p1 w5] w18∧(
Qj ((Builtin.append_ #[T.mY,T.mY] T.mY #[.slice (some p17) 0 0,.slice x16.1 x16.2.1 x16.2.2]).run prog w18) λy19 w20=>
Ak [hd 21 (p1.add 9) w5,hd 19 (p1.add 8) w5,hd 17 (p1.add 7) w5,hd 15 (p1.add 6) w5,hd 13 (p1.add 5) w5,hd 10 (p1.add 4) w5,hd 8 (p1.add 3) w5,hd 5 (p1.add 2) w5,hd 3 (p1.add 1) w5,hd 1 p1 w5] w20∧(
Au [iV x6,iV x7,iV x8,iV x9,iV x10,iV x11,iV x12,iV x13,iV x14,iV x15,.slice y19.1 y19.2.1 y19.2.2] p3 0 w20 λw21=>
Ak [] w21∧(
Bc k4' p3 0 w21 λx22=>
R ((x22.1,x22.2.1,x22.2.2.1,x22.2.2.2.1,x22.2.2.2.2.1,x22.2.2.2.2.2.1,x22.2.2.2.2.2.2.1,x22.2.2.2.2.2.2.2.1,x22.2.2.2.2.2.2.2.2.1,x22.2.2.2.2.2.2.2.2.2.1,(x22.2.2.2.2.2.2.2.2.2.2.1.1,x22.2.2.2.2.2.2.2.2.2.2.1.2.1,x22.2.2.2.2.2.2.2.2.2.2.1.2.2),()),()) w21))))→Ad prog F.Vs [.agg #[iV s0,iV s1,iV s2,iV s3,iV s4,iV s5,iV s6,iV s7,iV s8,iV s9,.slice s10.1 s10.2.1 s10.2.2]] w false r8' R:=
 Cb Aa Tryz.func16 (.s .n (.s (.pl (ks [0,1,2,3,4,5,6,7,8,9,10,11,12,13,14,15,16,17,18,19,20,21,23,24] (.ef 22 [] (.ef 25 [24] (.tk 26 (.ef 27 [1,3,5,8,10,13,15,17,19,21] .z)))))) .n))
theorem Rf.ok{n:Option Addr}{i k:Int}{on_:Bool}{w:World}: ∀⦃R:TR r3'→WP⦄,(
Aj (Option.isNone n) (
R ((2,()),()) w) (
A7 n λa1=>
ld1 .p (a1.add 11) w λx2=>
Ad prog F.Na [.pointer x2,iV i,iV k,.bool on_] w false r3' λr3 w4=>
R ((r3.1.1,()),()) w4))→Ad prog F.Rf [.pointer n,iV i,iV k,.bool on_] w false r3' R:=
 Cb Aa Tryz.func17 .n
theorem Rj.ok{n:Option Addr}{i raw:Int}{w:World}: ∀⦃R:TR r3'→WP⦄,(
Ad prog F.Pn [.pointer n,iV i] w false r3' λr1 w2=>
Aj (r1.1.1 !=0) (
R ((r1.1.1,()),()) w2) (
A7 n λa3=>
ld1 .sl (a3.add 12) w2 λx4=>
Hf x4.1 x4.2.1 i λa5=>
ld1 .p (a5.add (i.toNat*1)) w2 λx6=>
Ad prog F.Kq [.pointer x6,.int .u32 raw] w2 false r3' λr7 w8=>
R ((r7.1.1,()),()) w8))→Ad prog F.Rj [.pointer n,iV i,.int .u32 raw] w false r3' R:=
 Cb Aa Tryz.func18 .n
theorem Q9.ok{n:Option Addr}{c0 c1 c2 c3:Option Addr×Nat×Nat}{w:World}: ∀⦃R:TR r3'→WP⦄,(
Bj [.slice c0.1 c0.2.1 c0.2.2,.slice c1.1 c1.2.1 c1.2.2,.slice c2.1 c2.2.1 c2.2.2,.slice c3.1 c3.2.1 c3.2.2] T.jM w λp1 w2=>
Bc k6' p1 0 w2 λx3=>
Ad prog F.Px [.pointer n,Rl k6' x3] w2 false r3' λr4 w5=>
Aj (r4.1.1 !=0) (
R ((r4.1.1,()),()) w5) (
A7 n λa6=>
ld1 .sl (a6.add 12) w5 λx7=>
Aw (λ(self8:((Int)×Unit)→WP) (z9:(Int)×Unit) w10=> ∀_:Nat→Value,
Aj (decide (z9.1<(x7.2.1:Int))) (
Hf x7.1 x7.2.1 z9.1 λa11=>
ld1 .p (a11.add (z9.1.toNat*1)) w10 λx12=>
ld1 .sl p1 w10 λx13=>
Hf x13.1 x13.2.1 z9.1 λa14=>
ld1 KI (a14.add (z9.1.toNat*1)) w10 λx15=>
Ad prog F.Kz [.pointer x12,iV x15] w10 false r3' λr16 w17=>
self8 (wrap .i64 (z9.1+1),()) w17) (
Bc k6' p1 0 w10 λx18=>
Ad prog F.Qy [.pointer n,Rl k6' x18] w10 false Gh λr19 w20=>
I8 w20 λw21=>
A7 n λa22=>
ld1 .p (a22.add 11) w21 λx23=>
A7 n λa24=>
ld1 (.i .u64) (a24.add 14) w21 λx25=>
ld1 .sl (p1.add 3) w21 λx26=>
Ad prog F.Qa [.pointer n] w21 false wC λr27 w28=>
Ak [hd 12 (p1.add 3) w21,hd 8 (a24.add 14) w21,hd 4 (a22.add 11) w21] w28∧(
Ad prog F.Ug [.pointer x23,.int .u64 x25,.int .u64 r27.1.1,.slice x26.1 x26.2.1 x26.2.2] w28 false Gh λr29 w30=>
Ak [] w30∧(
A7 n λa31=>
Au [.slice r29.1.1.1 r29.1.1.2.1 r29.1.1.2.2] (a31.add 15) 0 w30 λw32=>
Ak [] w32∧(
A7 n λa33=>
ld1 .sl (a33.add 15) w32 λx34=>
Aw (λ(self35:((Int)×Unit)→WP) (z36:(Int)×Unit) w37=> ∀_:Nat→Value,
Aj (decide (z36.1<(x34.2.1:Int))) (
Hf x34.1 x34.2.1 z36.1 λa38=>
Bc [KI,KI] (a38.add (z36.1.toNat*2)) 0 w37 λx39=>
Bj [iV 0,iV 0] T.X3 w37 λp40 w41=>
Au [iV x39.1,iV x39.2.1] p40 0 w41 λw42=>
ld1 KI (p40.add 1) w42 λx43=>
Aj (x43 !=1) (
self35 (wrap .i64 (z36.1+1),()) w42) (
ld1 KI p40 w42 λx44=>
Hf r19.1.1.1 r19.1.1.2.1 x44 λa45=>
ld1 .sl (a45.add (x44.toNat*1)) w42 λx46=>
Aw (λ(self47:((Int)×Unit)→WP) (z48:(Int)×Unit) w49=> ∀_:Nat→Value,
Aj (decide (z48.1<(x46.2.1:Int))) (
Hf x46.1 x46.2.1 z48.1 λa50=>
ld1 .sl (a50.add (z48.1.toNat*1)) w49 λx51=>
I8 w49 λw52=>
A7 n λa53=>
ld1 .sl (a53.add 12) w52 λx54=>
Hf x54.1 x54.2.1 z36.1 λa55=>
ld1 .p (a55.add (z36.1.toNat*1)) w52 λx56=>
ld1 .sl (p1.add 2) w52 λx57=>
Hf x57.1 x57.2.1 z36.1 λa58=>
ld1 KI (a58.add (z36.1.toNat*1)) w52 λx59=>
Ad prog F.Hg [.pointer x56,iV x59,.slice x51.1 x51.2.1 x51.2.2] w52 false r3' λr60 w61=>
Ak [hd 8 (p1.add 2) w52,hd 3 (a53.add 12) w52] w61∧(
self47 (wrap .i64 (z48.1+1),()) w61)) (
self35 (wrap .i64 (z36.1+1),()) w49)) (0,()) w42)) (
A7 n λa62=>
ld1 KI (a62.add 13) w37 λx63=>
A7 n λa64=>
Au [iV (wrap .i64 (x63+1))] (a64.add 13) 0 w37 λw65=>
R ((0,()),()) w65)) (0,()) w32))))) (0,()) w5))→Ad prog F.Q9 [.pointer n,.agg #[.slice c0.1 c0.2.1 c0.2.2,.slice c1.1 c1.2.1 c1.2.2,.slice c2.1 c2.2.1 c2.2.2,.slice c3.1 c3.2.1 c3.2.2]] w false r3' R:=
 Cb Aa Tryz.func19 (hs 2 (.s (.s .n (.lp [(24,(.i .i64))] .n)) (.s .n (.s (.pl (ks [0,1,2,3,4,5,6,7,8,9,11,12] (.ef 10 [] (.ef 13 [4,8,12] (.tk 14 (.tk 15 (.ef 16 [] .z))))))) (.s (.s .n (.lp [(61,(.i .i64))] (hs 2 (.s (hs 3 (.lp [(75,(.i .i64))] (hs 2 (.s (.s .n (.pl (ks [0,1,2,3,4,5,6,7,8,9,10,11,12] (.ef 13 [6,11] .z)))) .n)))) .n)))) .n)))))
theorem Qs.ok{n:Option Addr}{i:Int}{w:World}: ∀⦃R:TR Vk→WP⦄,(
Bj z2' T.Bl w λp1 w2=>
Ad prog F.Pn [.pointer n,iV i] w2 false r3' λr3 w4=>
Aj (r3.1.1 !=0) (
Au z2' p1 0 w4 λw5=>
Bc bI p1 0 w5 λx6=>
R (x6,(r3.1.1,()),()) w5) (
A7 n λa7=>
ld1 .sl (a7.add 12) w4 λx8=>
Hf x8.1 x8.2.1 i λa9=>
ld1 .p (a9.add (i.toNat*1)) w4 λx10=>
Ad prog F.Eh [.pointer x10] w4 true Vk λr11 w12=>
Au (encs bI r11.1) p1 0 w12 λw13=>
Bc bI p1 0 w13 λx14=>
R (x14,(r11.2.1.1,()),()) w13))→Ad prog F.Qs [.pointer n,iV i] w true Vk R:=
 Cb Aa Tryz.func20 .n
def Bg.wpN(c_cap0:Addr)(c_cap1:Addr)(c_cap2:Addr)(w:World)(k:WP):Prop:=
ndK (k w)
theorem Bg.eqN(c_cap0:Addr)(c_cap1:Addr)(c_cap2:Addr)(w:World)(k:WP):An7 prog Tryz.f21 (.s .n .n) [.pointer (some c_cap0),.pointer (some c_cap1),.pointer (some c_cap2)] .nilIface w k=Bg.wpN c_cap0 c_cap1 c_cap2 w k:=by kernel_rfl
theorem Bg.okN{c_cap0:Addr}{c_cap1:Addr}{c_cap2:Addr}{w:World}{k:WP}(h:Bg.wpN c_cap0 c_cap1 c_cap2 w k):clD prog F.Bg [.pointer (some c_cap0),.pointer (some c_cap1),.pointer (some c_cap2)] (.returning) w λu w'=>u=(.returning:FrameMode)∧k w':=
 qX Aa Tryz.func21 (.s .n .n) (.inr ⟨rfl,rfl,rfl⟩) (by rw[Bg.eqN];exact h)
def Bg.wpP(c_cap0:Addr)(c_cap1:Addr)(c_cap2:Addr)(x0:Int)(x1:Int)(w:World)(k:WP):Prop:=
Bj [.int .i64 0,.int .i64 0] T.Vr w λp1 w2=>
Au [.int .i64 x0,.int .i64 x1] p1 0 w2 λw3=>
I8 w3 λw4=>
ld1 (.i .i64) (p1.add 1) w4 λx5=>
ld1 (.i .i64) p1 w4 λx6=>
Au [.pointer none] c_cap0 0 w4 λw7=>
Ak [(3,p1,(w4.cell? p1).getD undef),(1,(p1.add 1),(w4.cell? (p1.add 1)).getD undef)] w7∧(
Au [.int .i64 x5] c_cap1 0 w7 λw8=>
Ak [(3,p1,(w4.cell? p1).getD undef)] w8∧(
Au [.int .i64 x6] c_cap2 0 w8 λw9=>
Ak [] w9∧(
ndK (k w9))))
theorem Bg.eqP(c_cap0:Addr)(c_cap1:Addr)(c_cap2:Addr)(x0:Int)(x1:Int)(w:World)(k:WP):An7 prog Tryz.f21 (.s .n (.s .n (.s (.s .n (.pl (.tk 0 (.tk 1 (.tk 2 (.tk 3 (.ef 4 [] (.ef 5 [1] (.ef 6 [3] .z))))))))) .n))) [.pointer (some c_cap0),.pointer (some c_cap1),.pointer (some c_cap2)] (.iface T.Vr (.agg #[.int .i64 x0,.int .i64 x1])) w k=Bg.wpP c_cap0 c_cap1 c_cap2 x0 x1 w k:=by kernel_rfl
theorem Bg.okP{c_cap0:Addr}{c_cap1:Addr}{c_cap2:Addr}{x0:Int}{x1:Int}{w:World}{k:WP}(h:Bg.wpP c_cap0 c_cap1 c_cap2 x0 x1 w k):clD prog F.Bg [.pointer (some c_cap0),.pointer (some c_cap1),.pointer (some c_cap2)] (.panicking [{v:=.iface T.Vr (.agg #[.int .i64 x0,.int .i64 x1]),recovered:=false}]) w λu w'=>u=(.panicking [{v:=.iface T.Vr (.agg #[.int .i64 x0,.int .i64 x1]),recovered:=true}]:FrameMode)∧k w':=
 qX Aa Tryz.func21 (.s .n (.s .n (.s (.s .n (.pl (.tk 0 (.tk 1 (.tk 2 (.tk 3 (.ef 4 [] (.ef 5 [1] (.ef 6 [3] .z))))))))) .n))) (.inl ⟨rfl,rfl⟩) (by rw[Bg.eqP];exact h)
theorem strings_Split.ok{s sep:ByteArray}{w:World}: ∀⦃R:TR Gh→WP⦄,(
Ad prog F.strings_genSplit [.string s,.string sep,iV 0,iV (Int.negSucc 0)] w false Gh λr1 w2=>
R (((r1.1.1.1,r1.1.1.2.1,r1.1.1.2.2),()),()) w2)→Ad prog F.strings_Split [.string s,.string sep] w false Gh R:=
 Cb Aa Tryz.func22 .n
theorem Ju.ok{r:Option Addr}{s:ByteArray}{w:World}: ∀⦃R:TR []→WP⦄⦃Z:Value→WP⦄,(
A7 r λa1=>
ld1 KI a1 w λx2=>
A7 r λa3=>
Au [iV (wrap .i64 (x2+1))] a3 0 w λw4=>
Aj (s==⟨#[]⟩) (
R (()) w4) (
siK s 0 λc5=>
Aj (c5==35) (
R (()) w4) (
Ad prog F.strings_Split [.string s,.string ⟨#[32]⟩] w4 false Gh λr6 w7=>
A7 r λa8=>
ld1 KI (a8.add 1) w7 λx9=>
Aj (x9==0) (
bV prog F.Io [.pointer r,.slice r6.1.1.1 r6.1.1.2.1 r6.1.1.2.2] w7 true [] (λr10 w11=>
R (()) w11) (λ(v12:Value) w13=>
Z v12 w13)) (
Bh (λ(J14:((Bool)×Unit)→WP)=>
A7 r λa17=>
ld1 KI (a17.add 1) w7 λx18=>
Aj (x18==1) (
Hf r6.1.1.1 r6.1.1.2.1 0 λa19=>
ld1 .s (a19.add ((0:Int).toNat*1)) w7 λx20=>
J14 ((x20==⟨#[108,101,97,112]⟩),()) w7) (
J14 (false,()) w7)) (λ(z15:(Bool)×Unit) w16=> ∀_:Nat→Value,
Aj z15.1 (
bV prog F.Jk [.pointer r,.slice r6.1.1.1 r6.1.1.2.1 r6.1.1.2.2] w16 true [] (λr21 w22=>
R (()) w22) (λ(v23:Value) w24=>
Z v23 w24)) (
A7 r λa25=>
ld1 KI (a25.add 1) w16 λx26=>
Aj (x26==1) (
bV prog F.Jy [.pointer r,.slice r6.1.1.1 r6.1.1.2.1 r6.1.1.2.2] w16 true [] (λr27 w28=>
R (()) w28) (λ(v29:Value) w30=>
Z v29 w30)) (
bV prog F.Ba [.pointer r,iV 3] w16 true [] (λr31 w32=>
R (()) w32) (λ(v33:Value) w34=>
Z v33 w34))))))))→bV prog F.Ju [.pointer r,.string s] w true [] R Z:=
 Ah1 Aa Tryz.func23 (hs 4 (.s .pz (.ct [(32,.b)] .n (.s .pz (.s .n (.s .pz .pz))))))
theorem Ba.ok{r:Option Addr}{e:Int}{w:World}: ∀⦃R:TR []→WP⦄⦃Z:Value→WP⦄,(
A7 r λa1=>
ld1 KI a1 w λx2=>
Z (.iface T.Vr (.agg #[iV e,iV x2])) w)→bV prog F.Ba [.pointer r,iV e] w true [] R Z:=
 Ah1 Aa Tryz.func24 .pz
theorem Ns.ok{s:ByteArray}{at_:Int}{w:World}: ∀⦃R:TR Gh→WP⦄,(
Aw (λ(self1:((Option Addr×Nat×Nat)×(Int)×(Int)×Unit)→WP) (z2:(Option Addr×Nat×Nat)×(Int)×(Int)×Unit) w3=> ∀_:Nat→Value,
Aj (decide (z2.2.2.1≤(s.size:Int))) (
Bh (λ(J4:((Bool)×Unit)→WP)=>
Aj (z2.2.2.1==(s.size:Int)) (
J4 (true,()) w3) (
siK s z2.2.2.1 λc7=>
J4 ((c7==at_),()) w3)) (λ(z5:(Bool)×Unit) w6=> ∀_:Nat→Value,
Aj z5.1 (
slK z2.2.1 z2.2.2.1 s.size (
Bj [.string (s.extract (Int.toNat z2.2.1) (Int.toNat z2.2.2.1))] T.string w6 λp8 w9=>
Qj ((Builtin.append_ #[T.nK,T.nK] T.nK #[.slice z2.1.1 z2.1.2.1 z2.1.2.2,.slice (some p8) 1 1]).run prog w9) λy10 w11=>
self1 ((y10.1,y10.2.1,y10.2.2),wrap .i64 (z2.2.2.1+1),wrap .i64 (z2.2.2.1+1),()) w11)) (
self1 ((z2.1.1,z2.1.2.1,z2.1.2.2),z2.2.1,wrap .i64 (z2.2.2.1+1),()) w6))) (
R (((z2.1.1,z2.1.2.1,z2.1.2.2),()),()) w3)) ((none,0,0),0,0,()) w)→Ad prog F.Ns [.string s,.int .u8 at_] w false Gh R:=
 Cb Aa Tryz.func25 (hs 3 (.s (.s .n (.lp [(5,.sl),(6,(.i .i64)),(7,(.i .i64))] (.s .n (.s (.ct [(24,.b)] .n .n) .n)))) .n))
theorem Vq.ok{s:ByteArray}{w:World}: ∀⦃R:TR Wp→WP⦄,(
Ad prog F.Po [.string s] w true aC λr1 w2=>
Bj z3' T.Ic w2 λp3 w4=>
Au (encs k2' r1.1) p3 0 w4 λw5=>
Aj (!r1.2.1.1) (
R ((0,()),(false,()),()) w5) (
Bc k2' p3 0 w5 λx6=>
Ad prog F.Nr [Rl k2' x6] w5 false r3' λr7 w8=>
R ((r7.1.1,()),(true,()),()) w8))→Ad prog F.Vq [.string s] w true Wp R:=
 Cb Aa Tryz.func26 .n
theorem Pm.ok{s:ByteArray}{w:World}: ∀⦃R:TR r3'→WP⦄,(
Aw (λ(self1:((Int)×Unit)→WP) (z2:(Int)×Unit) w3=> ∀_:Nat→Value,
Aj (decide (z2.1<100)) (
Ad prog F.strconv_Itoa [iV z2.1] w3 false dY λr4 w5=>
Aj (r4.1.1==s) (
R ((z2.1,()),()) w5) (
self1 (wrap .i64 (z2.1+1),()) w5)) (
R (((Int.negSucc 0),()),()) w3)) (0,()) w)→Ad prog F.Pm [.string s] w false r3' R:=
 Cb Aa Tryz.func27 (.s .n (.s (.s .n (.lp [(3,(.i .i64))] .n)) .n))
theorem Be.ok{b:Option Addr}{s:ByteArray}{w:World}: ∀⦃R:TR Ah7→WP⦄,(
Ad prog F.Fe [.pointer b] w true [] λr1 w2=>
A7 b λa3=>
ld1 .sl (a3.add 1) w2 λx4=>
Qj ((Builtin.append_ #[T.D6,T.string] T.D6 #[.slice x4.1 x4.2.1 x4.2.2,.string s]).run prog w2) λy5 w6=>
A7 b λa7=>
Au [.slice y5.1 y5.2.1 y5.2.2] (a7.add 1) 0 w6 λw8=>
R (((s.size:Int),()),(.nilIface,()),()) w8)→Ad prog F.Be [.pointer b,.string s] w true Ah7 R:=
 Cb Aa Tryz.func28 .n
theorem Qc.ok{day:Int}{w:World}: ∀⦃R:TR dY→WP⦄,(
Ad prog F.Vb [iV day] w true aC λr1 w2=>
Bj z3' T.Qn w2 λp3 w4=>
Au (encs k2' r1.1) p3 0 w4 λw5=>
Bc k2' p3 0 w5 λx6=>
Ad prog F.Ls [Rl k2' x6] w5 false dY λr7 w8=>
R ((r7.1.1,()),()) w8)→Ad prog F.Qc [iV day] w false dY R:=
 Cb Aa Tryz.func29 .n
theorem Fj.ok{t:Option Addr}{w:World}: ∀⦃R:TR Ub→WP⦄,(
Aj (Option.isNone t) (
R ((.func (.func F.nM) #[] #[],()),()) w) (
A7 t λa1=>
ld1 .sl (a1.add 3) w λx2=>
Ad prog F.Ec [.slice x2.1 x2.2.1 x2.2.2] w false Ub λr3 w4=>
R ((r3.1.1,()),()) w4))→Ad prog F.Fj [.pointer t] w false Ub R:=
 Cb Aa Tryz.func31 .n
theorem Ha.ok{day:Int}{w:World}: ∀⦃R:TR dY→WP⦄,(
Bj z3' T.Ic w λp1 w2=>
Au [iV 1,iV 1,iV 1] p1 0 w2 λw3=>
Aw (λ(self4:((Int)×Unit)→WP) (z5:(Int)×Unit) w6=> ∀_:Nat→Value,
Aj (decide ((wrap .i64 (z5.1+146097))≤day)) (
ld1 KI p1 w6 λx7=>
Au [iV (wrap .i64 (x7+400))] p1 0 w6 λw8=>
self4 (wrap .i64 (z5.1+146097),()) w8) (
Aw (λ(self9:((Int)×Unit)→WP) (z10:(Int)×Unit) w11=> ∀_:Nat→Value,
Aj (decide ((wrap .i64 (z10.1+366))≤day)) (
ld1 KI p1 w11 λx12=>
Ad prog F.Og [iV x12] w11 false r0' λr13 w14=>
Aj r13.1.1 (
ld1 KI p1 w14 λx15=>
Au [iV (wrap .i64 (x15+1))] p1 0 w14 λw16=>
self9 (wrap .i64 ((wrap .i64 (z10.1+365))+1),()) w16) (
ld1 KI p1 w14 λx17=>
Au [iV (wrap .i64 (x17+1))] p1 0 w14 λw18=>
self9 (wrap .i64 (z10.1+365),()) w18)) (
Aw (λ(self19:((Int)×Unit)→WP) (z20:(Int)×Unit) w21=> ∀_:Nat→Value,
Aj (decide (z20.1<day)) (
Bc k2' p1 0 w21 λx22=>
Ad prog F.Uh [Rl k2' x22] w21 false Py λr23 w24=>
Au (encs k2' r23.1) p1 0 w24 λw25=>
self19 (wrap .i64 (z20.1+1),()) w25) (
Bc k2' p1 0 w21 λx26=>
Ad prog F.Uk [Rl k2' x26] w21 false dY λr27 w28=>
R ((r27.1.1,()),()) w28)) (z10.1,()) w11)) (z5.1,()) w6)) ((Int.negSucc 719161),()) w3)→Ad prog F.Ha [iV day] w false dY R:=
 Cb Aa Tryz.func33 (hs 3 (.s (.lp [(4,(.i .i64))] .n) (.s (.lp [(4,(.i .i64))] .n) (.s (.lp [(4,(.i .i64))] .n) .n))))
theorem Jm.ok{a b:Int}{w:World}: ∀⦃R:TR Ad9→WP⦄,(
Aj (decide (b<1)) (
R ((0,()),(0,()),(false,()),()) w) (
I8 w λw1=>
Zm b (
Zm b (
Aj (decide ((Int.tmod a b)<0)) (
R ((wrap .i64 ((wrap .i64 (Int.tdiv a b))-1),()),(wrap .i64 ((Int.tmod a b)+b),()),(true,()),()) w1) (
R ((wrap .i64 (Int.tdiv a b),()),(Int.tmod a b,()),(true,()),()) w1)))))→Ad prog F.Jm [iV a,iV b] w true Ad9 R:=
 Cb Aa Tryz.func34 (hs 2 (.s (.pl (ks [0,1,2,3,4,5,6,7] .z)) .n))
theorem Ti.ok{t:Option Addr}{d:Int}{w:World}: ∀⦃R:TR Wp→WP⦄,(
Ad prog F.Jn [.pointer t,iV d] w true Wp λr1 w2=>
R ((wrap .i64 ((wrap .i64 (86400*d))+r1.1.1),()),(r1.2.1.1,()),()) w2)→Ad prog F.Ti [.pointer t,iV d] w true Wp R:=
 Cb Aa Tryz.func35 .n
theorem Hw.ok{t:Option Addr}{day:Int}{w:World}: ∀⦃R:TR r3'→WP⦄,(
Bj [.pointer t] T.mM w λp1 w2=>
Bj [iV day] T.int w2 λp3 w4=>
ld1 .p p1 w4 λx5=>
Aj (Option.isNone x5) (
R ((0,()),()) w4) (
ld1 .p p1 w4 λx6=>
A7 x6 λa7=>
ld1 .sl (a7.add 3) w4 λx8=>
Ad prog F.sort_Search [iV (x8.2.1:Int),.func (.func F.Ei) #[] #[.pointer (some p1),.pointer (some p3)]] w4 false r3' λr9 w10=>
Bh (λ(J11:((Bool)×Unit)→WP)=>
I8 w10 λw14=>
ld1 .p p1 w14 λx15=>
A7 x15 λa16=>
ld1 .sl (a16.add 3) w14 λx17=>
Aj (decide (r9.1.1<(x17.2.1:Int))) (
ld1 .p p1 w14 λx18=>
A7 x18 λa19=>
ld1 .sl (a19.add 3) w14 λx20=>
Hf x20.1 x20.2.1 r9.1.1 λa21=>
ld1 KI (a21.add (r9.1.1.toNat*2)) w14 λx22=>
ld1 KI p3 w14 λx23=>
J11 ((x22==x23),()) w14) (
J11 (false,()) w14)) (λ(z12:(Bool)×Unit) w13=> ∀_:Nat→Value,
Aj z12.1 (
ld1 .p p1 w13 λx24=>
A7 x24 λa25=>
ld1 .sl (a25.add 3) w13 λx26=>
Hf x26.1 x26.2.1 r9.1.1 λa27=>
ld1 KI ((a27.add (r9.1.1.toNat*2)).add 1) w13 λx28=>
R ((x28,()),()) w13) (
R ((0,()),()) w13))))→Ad prog F.Hw [.pointer t,iV day] w false r3' R:=
 Cb Aa Tryz.func36 (hs 3 (.s (.ct [(33,.b)] (.pl (ks [0,1,2,3,4,5,6,7,8,9,10,11,12,13,14,15,16,17,18] .z)) .n) .n))
theorem jX.ok{d s:Int}{w:World}: ∀⦃R:TR Arb→WP⦄,(
Bj z1' T.kU w λp1 w2=>
Ad prog F.Vb [iV d] w2 true aC λr3 w4=>
Bj z3' T.Qn w4 λp5 w6=>
Au (encs k2' r3.1) p5 0 w6 λw7=>
Aj (decide (s≥86400)) (
Bc k2' p5 0 w7 λx8=>
Au [iV x8.1,iV x8.2.1,iV x8.2.2.1,iV 23,iV 59,iV (wrap .i64 ((wrap .i64 ((wrap .i64 (59+s))-86400))+1))] p1 0 w7 λw9=>
Bc k0' p1 0 w9 λx10=>
R (x10,()) w9) (
Bc k2' p5 0 w7 λx11=>
Zm 3600 (
Zm 60 (
Zm 60 (
Zm 60 (
Au [iV x11.1,iV x11.2.1,iV x11.2.2.1,iV (wrap .i64 (Int.tdiv s 3600)),iV (Int.tmod (wrap .i64 (Int.tdiv s 60)) 60),iV (Int.tmod s 60)] p1 0 w7 λw12=>
Bc k0' p1 0 w12 λx13=>
R (x13,()) w12))))))→Ad prog F.jX [iV d,iV s] w false Arb R:=
 Cb Aa Tryz.func37 .n
theorem Ih.ok{t0 t1 t2:Int}{t3:Option Addr×Nat×Nat}{day:Int}{w:World}: ∀⦃R:TR r3'→WP⦄,(
Bj [iV t0,iV t1,iV t2,.slice t3.1 t3.2.1 t3.2.2] T.Pv w λp1 w2=>
Bc k1' p1 0 w2 λx3=>
Ad prog F.Tf [Rl k1' x3,iV day] w2 false r3' λr4 w5=>
R ((wrap .i64 ((wrap .i64 (86400*day))+r4.1.1),()),()) w5)→Ad prog F.Ih [.agg #[iV t0,iV t1,iV t2,.slice t3.1 t3.2.1 t3.2.2],iV day] w false r3' R:=
 Cb Aa Tryz.func38 .n
theorem Ur.ok{day:Int}{w:World}: ∀⦃R:TR Py→WP⦄,(
Bj z3' T.Ic w λp1 w2=>
Ad prog F.Ha [iV day] w2 false dY λr3 w4=>
Ad prog F.Po [.string r3.1.1] w4 true aC λr5 w6=>
Bj z3' T.Ic w6 λp7 w8=>
Au (encs k2' r5.1) p7 0 w8 λw9=>
Bc k2' p7 0 w9 λx10=>
Au (encs k2' x10) p1 0 w9 λw11=>
Bc k2' p1 0 w11 λx12=>
R (x12,()) w11)→Ad prog F.Ur [iV day] w false Py R:=
 Cb Aa Tryz.func39 .n
theorem Ri.ok{u0 u1 u2 u3 u4 u5:Int}{w:World}: ∀⦃R:TR r0'→WP⦄,(
Bj [iV u0,iV u1,iV u2,iV u3,iV u4,iV u5] T.kU w λp1 w2=>
Bc k2' p1 0 w2 λx3=>
Ad prog F.Ef [Rl k2' x3] w2 false r0' λr4 w5=>
Aj r4.1.1 (
ld1 KI (p1.add 3) w5 λx6=>
Aj (decide (x6≥0)) (
ld1 KI (p1.add 3) w5 λx7=>
Aj (decide (x7≤23)) (
ld1 KI (p1.add 4) w5 λx8=>
Aj (decide (x8≥0)) (
ld1 KI (p1.add 4) w5 λx9=>
Aj (decide (x9≤59)) (
ld1 KI (p1.add 5) w5 λx10=>
Aj (decide (x10≥0)) (
ld1 KI (p1.add 5) w5 λx11=>
Aj (decide (x11≤59)) (
R ((true,()),()) w5) (
ld1 KI (p1.add 5) w5 λx12=>
Aj (x12==60) (
ld1 KI (p1.add 3) w5 λx13=>
Aj (x13==23) (
ld1 KI (p1.add 4) w5 λx14=>
R (((x14==59),()),()) w5) (
R ((false,()),()) w5)) (
R ((false,()),()) w5))) (
R ((false,()),()) w5)) (
R ((false,()),()) w5)) (
R ((false,()),()) w5)) (
R ((false,()),()) w5)) (
R ((false,()),()) w5)) (
R ((false,()),()) w5))→Ad prog F.Ri [.agg #[iV u0,iV u1,iV u2,iV u3,iV u4,iV u5]] w false r0' R:=
 Cb Aa Tryz.func40 .n
theorem F5.ok{d0 d1 d2:Int}{w:World}: ∀⦃R:TR Wp→WP⦄,(
Bj [iV d0,iV d1,iV d2] T.Qn w λp1 w2=>
Bc k2' p1 0 w2 λx3=>
Ad prog F.Ef [Rl k2' x3] w2 false r0' λr4 w5=>
Aj (!r4.1.1) (
R ((0,()),(false,()),()) w5) (
I8 w5 λw6=>
ld1 KI p1 w6 λx7=>
ld1 KI (p1.add 2) w6 λx8=>
Ad prog F.Lc [iV x7] w6 false r3' λr9 w10=>
Ak [hd 5 (p1.add 2) w6] w10∧(
Aw (λ(self11:((Int)×(Int)×Unit)→WP) (z12:(Int)×(Int)×Unit) w13=> ∀_:Nat→Value,
ld1 KI (p1.add 1) w13 λx14=>
Aj (decide (z12.2.1<x14)) (
ld1 KI p1 w13 λx15=>
Ad prog F.Ig [iV x15,iV z12.2.1] w13 false r3' λr16 w17=>
self11 (wrap .i64 (z12.1+r16.1.1),wrap .i64 (z12.2.1+1),()) w17) (
R ((z12.1,()),(true,()),()) w13)) (wrap .i64 ((wrap .i64 ((wrap .i64 ((Int.negSucc 719161)+r9.1.1))+x8))-1),1,()) w10)))→Ad prog F.F5 [.agg #[iV d0,iV d1,iV d2]] w true Wp R:=
 Cb Aa Tryz.func41 (hs 2 (.s (.pl (ks [0,1,4,5] (.ef 2 [1] (ks [3,6,7,8] .z)))) (.s (.s .n (.lp [(4,(.i .i64)),(5,(.i .i64))] .n)) .n)))
theorem Pe.ok{year:Int}{w:World}: ∀⦃R:TR r3'→WP⦄,(
Aw (λ(self1:((Int)×(Int)×Unit)→WP) (z2:(Int)×(Int)×Unit) w3=> ∀_:Nat→Value,
Aj (decide ((wrap .i64 (z2.2.1+400))≤year)) (
self1 (wrap .i64 (z2.1+146097),wrap .i64 (z2.2.1+400),()) w3) (
Aw (λ(self4:((Int)×(Int)×Unit)→WP) (z5:(Int)×(Int)×Unit) w6=> ∀_:Nat→Value,
Aj (decide (z5.2.1<year)) (
Ad prog F.Og [iV z5.2.1] w6 false r0' λr7 w8=>
Aj r7.1.1 (
self4 (wrap .i64 ((wrap .i64 (z5.1+365))+1),wrap .i64 (z5.2.1+1),()) w8) (
self4 (wrap .i64 (z5.1+365),wrap .i64 (z5.2.1+1),()) w8)) (
R ((z5.1,()),()) w6)) (z2.1,z2.2.1,()) w3)) (0,1,()) w)→Ad prog F.Pe [iV year] w false r3' R:=
 Cb Aa Tryz.func42 (hs 3 (.s (.lp [(3,(.i .i64)),(4,(.i .i64))] .n) (.s (.lp [(3,(.i .i64)),(4,(.i .i64))] .n) .n)))
theorem Ov.ok{year month:Int}{w:World}: ∀⦃R:TR r3'→WP⦄,(
Bh (λ(J1:((Bool)×Unit)→WP)=>
Aj (month==4) (
J1 ((month==4),()) w) (
Aj (month==6) (
J1 ((month==6),()) w) (
Aj (month==9) (
J1 ((month==9),()) w) (
J1 ((month==11),()) w)))) (λ(z2:(Bool)×Unit) w3=> ∀_:Nat→Value,
Aj z2.1 (
R ((30,()),()) w3) (
Aj (month==2) (
Ad prog F.Og [iV year] w3 false r0' λr4 w5=>
Aj r4.1.1 (
R ((29,()),()) w5) (
R ((28,()),()) w5)) (
R ((31,()),()) w3))))→Ad prog F.Ov [iV year,iV month] w false r3' R:=
 Cb Aa Tryz.func43 (.s .n (.s (.s .n (.ct [(6,.b)] .n .n)) .n))
theorem Vw.ok{n:Int}{w:World}: ∀⦃R:TR iQ→WP⦄,(
Aj (decide (n<1)) (
R ((none,()),(1,()),()) w) (
Aj (decide (n>64)) (
R ((none,()),(1,()),()) w) (
Qj ((Instr.makeSlice T.Qg (iV n) (iV n)).run prog w) λy1 w2=>
Bj [iV n,.slice y1.1 y1.2.1 y1.2.2] T.Ab9 w2 λp3 w4=>
R ((some p3,()),(0,()),()) w4)))→Ad prog F.Vw [iV n] w true iQ R:=
 Cb Aa Tryz.func44 .n
theorem Ua.ok{s0 s1 s2 s3 s4 s5 s6 s7 s8 s9:Int}{s10:Bool}{leaps:Option Addr}{w:World}: ∀⦃R:TR iQ→WP⦄,(
Bj [iV s0,iV s1,iV s2,iV s3,iV s4,iV s5,iV s6,iV s7,iV s8,iV s9,.bool s10] T.jJ w λp1 w2=>
Bc k5' p1 0 w2 λx3=>
Ad prog F.Mc [Rl k5' x3] w2 false r0' λr4 w5=>
Aj (!r4.1.1) (
R ((none,()),(1,()),()) w5) (
I8 w5 λw6=>
Bc k5' p1 0 w6 λx7=>
Ad prog F.Vu [] w6 false Y6 λr8 w9=>
Ak [hd 0 (p1.add 0) w6,hd 0 (p1.add 1) w6,hd 0 (p1.add 2) w6,hd 0 (p1.add 3) w6,hd 0 (p1.add 4) w6,hd 0 (p1.add 5) w6,hd 0 (p1.add 6) w6,hd 0 (p1.add 7) w6,hd 0 (p1.add 8) w6,hd 0 (p1.add 9) w6,hd 0 (p1.add 10) w6] w9∧(
Bj [iV x7.1,iV x7.2.1,iV x7.2.2.1,iV x7.2.2.2.1,iV x7.2.2.2.2.1,iV x7.2.2.2.2.2.1,iV x7.2.2.2.2.2.2.1,iV x7.2.2.2.2.2.2.2.1,iV x7.2.2.2.2.2.2.2.2.1,iV x7.2.2.2.2.2.2.2.2.2.1,.bool x7.2.2.2.2.2.2.2.2.2.2.1,.pointer leaps,.bool false,uV 0,.pointer none,.pointer none,.pointer none,.pointer none,.pointer none,.bool false,iV 0,uV 0,iV 0,uV 0,iV 0,iV 0,.pointer r8.1.1,.pointer none] T.Ahb w9 λp10 w11=>
Ak [hd 0 (p1.add 0) w6,hd 0 (p1.add 1) w6,hd 0 (p1.add 2) w6,hd 0 (p1.add 3) w6,hd 0 (p1.add 4) w6,hd 0 (p1.add 5) w6,hd 0 (p1.add 6) w6,hd 0 (p1.add 7) w6,hd 0 (p1.add 8) w6,hd 0 (p1.add 9) w6,hd 0 (p1.add 10) w6] w11∧(
ld1 KI ((p1.add 1).add 3) w11 λx12=>
Ad prog F.Yx [iV x12] w11 true iQ λr13 w14=>
Au [.pointer r13.1.1] (p10.add 14) 0 w14 λw15=>
ld1 KI p1 w15 λx16=>
Bc eG (p1.add 1) 0 w15 λx17=>
Ad prog F.Rn [iV x16,Rl eG x17] w15 true iQ λr18 w19=>
Au [.pointer r18.1.1] (p10.add 15) 0 w19 λw20=>
ld1 KI p1 w20 λx21=>
Ad prog F.V8 [iV x21] w20 true iQ λr22 w23=>
Au [.pointer r22.1.1] (p10.add 16) 0 w23 λw24=>
ld1 KI p1 w24 λx25=>
Ad prog F.Yz [iV x25] w24 true iQ λr26 w27=>
Au [.pointer r26.1.1] (p10.add 17) 0 w27 λw28=>
ld1 KI (p1.add 8) w28 λx29=>
Ad prog F.Um [iV x29] w28 true iQ λr30 w31=>
Au [.pointer r30.1.1] (p10.add 18) 0 w31 λw32=>
Ad prog F.I5 [iV 8] w32 true iQ λr33 w34=>
Au [.pointer r33.1.1] (p10.add 27) 0 w34 λw35=>
R ((some p10,()),(0,()),()) w35))))→Ad prog F.Ua [.agg #[iV s0,iV s1,iV s2,iV s3,iV s4,iV s5,iV s6,iV s7,iV s8,iV s9,.bool s10],.pointer leaps] w true iQ R:=
 Cb Aa Tryz.func45 (hs 2 (.s (.pl (.tk 0 (.tk 1 (.ef 2 [] (.tk 3 (.ef 4 [] (.tk 5 .z))))))) .n))
theorem Qm.ok{s0 s1 s2 s3 s4 s5 s6 s7 s8 s9:Int}{s10:Option Addr×Nat×Nat}{i:Int}{w:World}: ∀⦃R:TR As9→WP⦄,(
Bj [iV s0,iV s1,iV s2,iV s3,iV s4,iV s5,iV s6,iV s7,iV s8,iV s9,.slice s10.1 s10.2.1 s10.2.2] T.nZ w λp1 w2=>
Bj z5' T.jJ w2 λp3 w4=>
ld1 KI (p1.add 5) w4 λx5=>
Zm (if 1>x5 then 1 else x5) (
Bh (λ(J6:((Int)×Unit)→WP)=>
ld1 .sl (p1.add 10) w4 λx9=>
Aj (decide (i<(x9.2.1:Int))) (
ld1 .sl (p1.add 10) w4 λx10=>
Hf x10.1 x10.2.1 i λa11=>
ld1 KI (a11.add (i.toNat*1)) w4 λx12=>
J6 (x12,()) w4) (
J6 (Int.tmod i (if 1>x5 then 1 else x5),()) w4)) (λ(z7:(Int)×Unit) w8=> ∀_:Nat→Value,
Bc eG (p1.add 1) 0 w8 λx13=>
ld1 KI (p1.add 5) w8 λx14=>
ld1 KI (p1.add 6) w8 λx15=>
ld1 KI (p1.add 7) w8 λx16=>
ld1 KI (p1.add 8) w8 λx17=>
ld1 KI (p1.add 9) w8 λx18=>
Au [iV i,iV x13.1,iV x13.2.1,iV x13.2.2.1,iV x13.2.2.2.1,iV x14,iV x15,iV z7.1,iV x16,iV x17,.bool (i==x18)] p3 0 w8 λw19=>
Bc k5' p3 0 w19 λx20=>
R (x20,()) w19)))→Ad prog F.Qm [.agg #[iV s0,iV s1,iV s2,iV s3,iV s4,iV s5,iV s6,iV s7,iV s8,iV s9,.slice s10.1 s10.2.1 s10.2.2],iV i] w false As9 R:=
 Cb Aa Tryz.func46 (hs 2 (.ct [(5,(.i .i64))] .n .n))
theorem Na.ok{l:Option Addr}{i k:Int}{on_:Bool}{w:World}: ∀⦃R:TR r3'→WP⦄,(
Aj (Option.isNone l) (
R ((2,()),()) w) (
Ad prog F.Md [.pointer l,iV i,iV k] w false r0' λr1 w2=>
Aj (!r1.1.1) (
R ((1,()),()) w2) (
I8 w2 λw3=>
A7 l λa4=>
ld1 .sl (a4.add 1) w3 λx5=>
Hf x5.1 x5.2.1 i λa6=>
ld1 (.i .u64) (a6.add (i.toNat*1)) w3 λx7=>
dK k (
Hf x5.1 x5.2.1 i λa8=>
Au [.int .u64 (Ez .andNot .u64 x7 (Ib .u64 1 k))] (a8.add (i.toNat*1)) 0 w3 λw9=>
Ak [] w9∧(
I8 w9 λw10=>
A7 l λa11=>
ld1 .sl (a11.add 1) w10 λx12=>
Hf x12.1 x12.2.1 k λa13=>
ld1 (.i .u64) (a13.add (k.toNat*1)) w10 λx14=>
dK i (
Hf x12.1 x12.2.1 k λa15=>
Au [.int .u64 (Ez .andNot .u64 x14 (Ib .u64 1 i))] (a15.add (k.toNat*1)) 0 w10 λw16=>
Ak [] w16∧(
Aj on_ (
I8 w16 λw17=>
A7 l λa18=>
ld1 .sl (a18.add 1) w17 λx19=>
Hf x19.1 x19.2.1 i λa20=>
ld1 (.i .u64) (a20.add (i.toNat*1)) w17 λx21=>
dK k (
Hf x19.1 x19.2.1 i λa22=>
Au [.int .u64 (Ez .or .u64 x21 (Ib .u64 1 k))] (a22.add (i.toNat*1)) 0 w17 λw23=>
Ak [] w23∧(
I8 w23 λw24=>
A7 l λa25=>
ld1 .sl (a25.add 1) w24 λx26=>
Hf x26.1 x26.2.1 k λa27=>
ld1 (.i .u64) (a27.add (k.toNat*1)) w24 λx28=>
dK i (
Hf x26.1 x26.2.1 k λa29=>
Au [.int .u64 (Ez .or .u64 x28 (Ib .u64 1 i))] (a29.add (k.toNat*1)) 0 w24 λw30=>
Ak [] w30∧(
R ((0,()),()) w30))))) (
R ((0,()),()) w16))))))))→Ad prog F.Na [.pointer l,iV i,iV k,.bool on_] w false r3' R:=
 Cb Aa Tryz.func47 (hs 2 (.s (.pl (ks [0,1,2,3,4,5,6,7,8,9,10] (.ef 11 [3,6] .z))) (.s (.pl (ks [0,1,2,3,4,5,6,7,8,9,10] (.ef 11 [3,6] .z))) (.s (.s .n (.s (.s (.pl (ks [0,1,2,3,4,5,6,7,8,9,10] (.ef 11 [3,6] .z))) (.pl (ks [0,1,2,3,4,5,6,7,8,9,10] (.ef 11 [3,6] .z)))) .n)) .n))))
theorem Pn.ok{n:Option Addr}{i:Int}{w:World}: ∀⦃R:TR r3'→WP⦄,(
Aj (Option.isNone n) (
R ((2,()),()) w) (
Ad prog F.Qz [.pointer n,iV i] w false Y6 λr1 w2=>
Aj (Option.isNone r1.1.1) (
R ((7,()),()) w2) (
R ((0,()),()) w2)))→Ad prog F.Pn [.pointer n,iV i] w false r3' R:=
 Cb Aa Tryz.func48 .n
theorem Kq.ok{n:Option Addr}{raw:Int}{w:World}: ∀⦃R:TR r3'→WP⦄,(
Aj (Option.isNone n) (
R ((2,()),()) w) (
A7 n λa1=>
Au [.bool true] (a1.add 12) 0 w λw2=>
A7 n λa3=>
ld1 KU (a3.add 13) w2 λx4=>
A7 n λa5=>
Au [uV (wrap .u16 (x4+1))] (a5.add 13) 0 w2 λw6=>
A7 n λa7=>
ld1 .p (a7.add 14) w6 λx8=>
Ad prog F.Lt [.pointer x8,.int .u32 raw] w6 true [] λr9 w10=>
I8 w10 λw11=>
A7 n λa12=>
ld1 .p (a12.add 15) w11 λx13=>
A7 n λa14=>
ld1 KU (a14.add 13) w11 λx15=>
Ad prog F.Jc [.pointer x13,uV x15] w11 true [] λr16 w17=>
Ak [] w17∧(
A7 n λa18=>
ld1 .p (a18.add 16) w17 λx19=>
Ad prog F.Ey [.pointer x19] w17 true [] λr20 w21=>
A7 n λa22=>
ld1 .p (a22.add 17) w21 λx23=>
Ad prog F.Om [.pointer x23] w21 true [] λr24 w25=>
A7 n λa26=>
ld1 .p (a26.add 18) w25 λx27=>
Ad prog F.Fh [.pointer x27] w25 true [] λr28 w29=>
A7 n λa30=>
Ad prog F.Je [.pointer (some (a30.add 19))] w29 true [] λr31 w32=>
A7 n λa33=>
ld1 .p (a33.add 26) w32 λx34=>
Ad prog F.Lm [.pointer x34] w32 true [] λr35 w36=>
A7 n λa37=>
ld1 .p (a37.add 27) w36 λx38=>
Ad prog F.Es [.pointer x38] w36 true [] λr39 w40=>
R ((0,()),()) w40)))→Ad prog F.Kq [.pointer n,.int .u32 raw] w false r3' R:=
 Cb Aa Tryz.func49 (hs 5 (.s (.pl (ks [0,1,2,3,4,5,6,7] (.ef 8 [3,7] .z))) .n))
theorem Px.ok{n:Option Addr}{c0 c1 c2 c3:Option Addr×Nat×Nat}{w:World}: ∀⦃R:TR r3'→WP⦄,(
Bj [.slice c0.1 c0.2.1 c0.2.2,.slice c1.1 c1.2.1 c1.2.2,.slice c2.1 c2.2.1 c2.2.2,.slice c3.1 c3.2.1 c3.2.2] T.jM w λp1 w2=>
Aj (Option.isNone n) (
R ((2,()),()) w2) (
I8 w2 λw3=>
ld1 .sl p1 w3 λx4=>
A7 n λa5=>
ld1 .sl (a5.add 12) w3 λx6=>
Aj ((x4.2.1:Int) !=(x6.2.1:Int)) (
R ((1,()),()) w3) (
ld1 .sl (p1.add 3) w3 λx7=>
A7 n λa8=>
ld1 .sl (a8.add 12) w3 λx9=>
Aj (decide ((x7.2.1:Int)>(x9.2.1:Int))) (
R ((1,()),()) w3) (
ld1 .sl (p1.add 1) w3 λx10=>
Ad prog F.Nv [.pointer n,.slice x10.1 x10.2.1 x10.2.2] w3 false r0' λr11 w12=>
Ak [hd 23 (p1.add 1) w3,hd 16 (a8.add 12) w3,hd 11 (p1.add 3) w3,hd 6 (a5.add 12) w3,hd 1 p1 w3] w12∧(
Aj (!r11.1.1) (
R ((1,()),()) w12) (
ld1 .sl (p1.add 2) w12 λx13=>
Ad prog F.Nv [.pointer n,.slice x13.1 x13.2.1 x13.2.2] w12 false r0' λr14 w15=>
Ak [hd 23 (p1.add 1) w3,hd 16 (a8.add 12) w3,hd 11 (p1.add 3) w3,hd 6 (a5.add 12) w3,hd 1 p1 w3] w15∧(
Aj (!r14.1.1) (
R ((1,()),()) w15) (
A7 n λa16=>
ld1 .sl (a16.add 12) w15 λx17=>
Aw (λ(self18:((Int)×Unit)→WP) (z19:(Int)×Unit) w20=> ∀_:Nat→Value,
Aj (decide (z19.1<(x17.2.1:Int))) (
Hf x17.1 x17.2.1 z19.1 λa21=>
ld1 .p (a21.add (z19.1.toNat*1)) w20 λx22=>
ld1 .sl p1 w20 λx23=>
Hf x23.1 x23.2.1 z19.1 λa24=>
ld1 KI (a24.add (z19.1.toNat*1)) w20 λx25=>
Ad prog F.Hl [.pointer x22,iV x25] w20 false r0' λr26 w27=>
Aj (!r26.1.1) (
R ((1,()),()) w27) (
self18 (wrap .i64 (z19.1+1),()) w27)) (
A7 n λa28=>
ld1 .sl (a28.add 12) w20 λx29=>
Aw (λ(self30:((Int)×Unit)→WP) (z31:(Int)×Unit) w32=> ∀_:Nat→Value,
Aj (decide (z31.1<(x29.2.1:Int))) (
Hf x29.1 x29.2.1 z31.1 λa33=>
ld1 .p (a33.add (z31.1.toNat*1)) w32 λx34=>
Ad prog F.Dt [.pointer x34] w32 false Atb λr35 w36=>
Bj z6' T.oM w36 λp37 w38=>
Au (encs k8' r35.1) p37 0 w38 λw39=>
I8 w39 λw40=>
ld1 .b p37 w40 λx41=>
Aj x41 (
ld1 KI (p37.add 2) w40 λx42=>
ld1 .sl p1 w40 λx43=>
Hf x43.1 x43.2.1 z31.1 λa44=>
ld1 KI (a44.add (z31.1.toNat*1)) w40 λx45=>
Aj (decide ((wrap .i64 (x42+x45))>1125899906842624)) (
R ((8,()),()) w40) (
self30 (wrap .i64 (z31.1+1),()) w40)) (
self30 (wrap .i64 (z31.1+1),()) w40)) (
R ((0,()),()) w32)) (0,()) w20)) (0,()) w15))))))))→Ad prog F.Px [.pointer n,.agg #[.slice c0.1 c0.2.1 c0.2.2,.slice c1.1 c1.2.1 c1.2.2,.slice c2.1 c2.2.1 c2.2.2,.slice c3.1 c3.2.1 c3.2.2]] w false r3' R:=
 Cb Aa Tryz.func50 (hs 2 (.s (.s (.pl (ks [0,1,2,3,4,5,6,7,8,9,10,11,12,13,14,15,16,17,18,19,20,21,22,23] (.ef 24 [] (ks [25,26,27,28,29,30] (.ef 31 [30] (.tk 32 (.tk 33 .z))))))) .n) (.s (.s .n (.lp [(51,(.i .i64))] .n)) (.s (.s .n (.lp [(70,(.i .i64))] (hs 2 (.s (hs 2 (.s (.pl (ks [0,1,2,3,4,5,6,7,8,9,10,11,12] .z)) .n)) .n)))) .n))))
theorem Kz.ok{n:Option Addr}{ticks:Int}{w:World}: ∀⦃R:TR r3'→WP⦄,(
Ad prog F.D8 [.pointer n] w false r3' λr1 w2=>
Aj (r1.1.1 !=0) (
R ((r1.1.1,()),()) w2) (
A7 n λa3=>
ld1 .p (a3.add 14) w2 λx4=>
Ad prog F.Qb [.pointer x4,iV ticks] w2 false r3' λr5 w6=>
R ((r5.1.1,()),()) w6))→Ad prog F.Kz [.pointer n,iV ticks] w false r3' R:=
 Cb Aa Tryz.func51 .n
theorem Qy.ok{n:Option Addr}{c0 c1 c2 c3:Option Addr×Nat×Nat}{w:World}: ∀⦃R:TR Gh→WP⦄,(
Bj [.slice c0.1 c0.2.1 c0.2.2,.slice c1.1 c1.2.1 c1.2.2,.slice c2.1 c2.2.1 c2.2.2,.slice c3.1 c3.2.1 c3.2.2] T.jM w λp1 w2=>
A7 n λa3=>
ld1 .sl (a3.add 12) w2 λx4=>
Qj ((Instr.makeSlice T.fH (iV (x4.2.1:Int)) (iV (x4.2.1:Int))).run prog w2) λy5 w6=>
A7 n λa7=>
Au [.int .u64 0] (a7.add 14) 0 w6 λw8=>
A7 n λa9=>
ld1 .sl (a9.add 12) w8 λx10=>
Aw (λ(self11:((Int)×Unit)→WP) (z12:(Int)×Unit) w13=> ∀_:Nat→Value,
Aj (decide (z12.1<(x10.2.1:Int))) (
Hf x10.1 x10.2.1 z12.1 λa14=>
ld1 .p (a14.add (z12.1.toNat*1)) w13 λx15=>
I8 w13 λw16=>
A7 n λa17=>
ld1 KI (a17.add 13) w16 λx18=>
ld1 .sl (p1.add 1) w16 λx19=>
Hf x19.1 x19.2.1 z12.1 λa20=>
ld1 KI (a20.add (z12.1.toNat*1)) w16 λx21=>
Ad prog F.Hm [.pointer x15,iV x18,iV x21] w16 true iR λr22 w23=>
Ak [hd 8 (p1.add 1) w16] w23∧(
Hf y5.1 y5.2.1 z12.1 λa24=>
Au [.slice r22.1.1.1 r22.1.1.2.1 r22.1.1.2.2] (a24.add (z12.1.toNat*1)) 0 w23 λw25=>
Ak [] w25∧(
Hf y5.1 y5.2.1 z12.1 λa26=>
ld1 .sl (a26.add (z12.1.toNat*1)) w25 λx27=>
Aj (decide ((x27.2.1:Int)>0)) (
I8 w25 λw28=>
A7 n λa29=>
ld1 (.i .u64) (a29.add 14) w28 λx30=>
dK z12.1 (
A7 n λa31=>
Au [.int .u64 (Ez .or .u64 x30 (Ib .u64 1 z12.1))] (a31.add 14) 0 w28 λw32=>
Ak [] w32∧(
self11 (wrap .i64 (z12.1+1),()) w32))) (
self11 (wrap .i64 (z12.1+1),()) w25)))) (
R (((y5.1,y5.2.1,y5.2.2),()),()) w13)) (0,()) w8)→Ad prog F.Qy [.pointer n,.agg #[.slice c0.1 c0.2.1 c0.2.2,.slice c1.1 c1.2.1 c1.2.2,.slice c2.1 c2.2.1 c2.2.2,.slice c3.1 c3.2.1 c3.2.2]] w false Gh R:=
 Cb Aa Tryz.func52 (hs 3 (.s (.s .n (.lp [(22,(.i .i64))] (hs 2 (.s (.s .n (.s (.pl (ks [0,1,2,3,4,5,6,7,8,9,10,11] (.ef 12 [6,11] (ks [13,14,15,16] (.ef 17 [8] .z))))) (.s .n (.s (.pl (ks [0,1,2,3,4,5,6,7,8] (.ef 9 [3] .z))) .n)))) .n)))) .n))
theorem Ug.ok{l:Option Addr}{send awake:Int}{lost:Option Addr×Nat×Nat}{w:World}: ∀⦃R:TR Gh→WP⦄,(
Bj z7' T.xW w λp1 w2=>
Au [.int .u64 send,.int .u64 awake,.slice lost.1 lost.2.1 lost.2.2] p1 0 w2 λw3=>
Ad prog F.Hr [.pointer l] w3 false r3' λr4 w5=>
Aw (λ(self6:((Option Addr×Nat×Nat)×(Int)×Unit)→WP) (z7:(Option Addr×Nat×Nat)×(Int)×Unit) w8=> ∀_:Nat→Value,
Aj (decide (z7.2.1<r4.1.1)) (
I8 w8 λw9=>
Bc k9' p1 0 w9 λx10=>
Ad prog F.Jt [.pointer l,iV z7.2.1] w9 false wC λr11 w12=>
Ak [hd 1 (p1.add 0) w9,hd 1 (p1.add 1) w9,hd 1 (p1.add 2) w9] w12∧(
Ad prog F.Pz [Rl k9' x10,iV z7.2.1,.int .u64 (Ez .and .u64 r11.1.1 send)] w12 false qQ λr13 w14=>
Ak [hd 1 (p1.add 0) w9,hd 1 (p1.add 1) w9,hd 1 (p1.add 2) w9] w14∧(
Bj [iV r13.1.1,iV r13.1.2.1] T.X3 w14 λp15 w16=>
Ak [hd 1 (p1.add 0) w9,hd 1 (p1.add 1) w9,hd 1 (p1.add 2) w9] w16∧(
Qj ((Builtin.append_ #[T.bP,T.bP] T.bP #[.slice z7.1.1 z7.1.2.1 z7.1.2.2,.slice (some p15) 1 1]).run prog w16) λy17 w18=>
Ak [hd 1 (p1.add 0) w9,hd 1 (p1.add 1) w9,hd 1 (p1.add 2) w9] w18∧(
self6 ((y17.1,y17.2.1,y17.2.2),wrap .i64 (z7.2.1+1),()) w18))))) (
R (((z7.1.1,z7.1.2.1,z7.1.2.2),()),()) w8)) ((none,0,0),0,()) w5)→Ad prog F.Ug [.pointer l,.int .u64 send,.int .u64 awake,.slice lost.1 lost.2.1 lost.2.2] w false Gh R:=
 Cb Aa Tryz.func53 (hs 3 (.s (.s .n (.lp [(9,.sl),(18,(.i .i64))] (hs 2 (.s (.s .n (.pl (ks [0,1,2,3,4,6] (.ef 5 [] (.tk 7 (.ef 8 [] (.ef 9 [] (.ef 10 [] (.tk 11 .z))))))))) .n)))) .n))
theorem Qa.ok{n:Option Addr}{w:World}: ∀⦃R:TR wC→WP⦄,(
A7 n λa1=>
ld1 .sl (a1.add 12) w λx2=>
Aw (λ(self3:((Int)×(Int)×Unit)→WP) (z4:(Int)×(Int)×Unit) w5=> ∀_:Nat→Value,
Aj (decide (z4.2.1<(x2.2.1:Int))) (
Hf x2.1 x2.2.1 z4.2.1 λa6=>
ld1 .p (a6.add (z4.2.1.toNat*1)) w5 λx7=>
Ad prog F.Gu [.pointer x7] w5 false r0' λr8 w9=>
Aj r8.1.1 (
dK z4.2.1 (
self3 (Ez .or .u64 z4.1 (Ib .u64 1 z4.2.1),wrap .i64 (z4.2.1+1),()) w9)) (
self3 (z4.1,wrap .i64 (z4.2.1+1),()) w9)) (
R ((z4.1,()),()) w5)) (0,0,()) w)→Ad prog F.Qa [.pointer n] w false wC R:=
 Cb Aa Tryz.func54 (hs 2 (.s (.s .n (.lp [(3,(.i .u64)),(11,(.i .i64))] .n)) .n))
theorem Hg.ok{n:Option Addr}{jitter:Int}{b:Option Addr×Nat×Nat}{w:World}: ∀⦃R:TR r3'→WP⦄,(
Ad prog F.Hy [.pointer n,iV jitter] w true r7' λr1 w2=>
Aj (r1.2.1.1 !=0) (
R ((r1.2.1.1,()),()) w2) (
Ad prog F.Rh [.slice b.1 b.2.1 b.2.2] w2 true Atl λr3 w4=>
I8 w4 λw5=>
Aj (r3.2.1.1 !=0) (
R ((r3.2.1.1,()),()) w5) (
A7 n λa6=>
ld1 KI a6 w5 λx7=>
ivK prog r3.1.1 "Sender" [] w5 false r3' λr8 w9=>
Ak [hd 9 a6 w5] w9∧(
Aj (r8.1.1==x7) (
R ((r3.2.1.1,()),()) w9) (
Ad prog F.Dz [.pointer n,r3.1.1,iV r1.1.1] w9 false r3' λr10 w11=>
R ((r10.1.1,()),()) w11)))))→Ad prog F.Hg [.pointer n,iV jitter,.slice b.1 b.2.1 b.2.2] w false r3' R:=
 Cb Aa Tryz.func55 (hs 4 (.s (.s (.pl (ks [0,1,2,3,5,6,7,8,9] (.ef 4 [] (.tk 10 (.tk 11 .z))))) .n) .n))
theorem Eh.ok{n:Option Addr}{w:World}: ∀⦃R:TR Vk→WP⦄,(
Bj z2' T.Bl w λp1 w2=>
Ad prog F.D8 [.pointer n] w2 false r3' λr3 w4=>
Aj (r3.1.1 !=0) (
Au z2' p1 0 w4 λw5=>
Bc bI p1 0 w5 λx6=>
R (x6,(r3.1.1,()),()) w5) (
I8 w4 λw7=>
A7 n λa8=>
ld1 .p (a8.add 18) w7 λx9=>
A7 n λa10=>
ld1 .p (a10.add 15) w7 λx11=>
A7 n λa12=>
ld1 .p (a12.add 14) w7 λx13=>
Ad prog F.Ew [.pointer x13] w7 false r3' λr14 w15=>
Ak [hd 11 (a12.add 14) w7,hd 7 (a10.add 15) w7,hd 3 (a8.add 18) w7] w15∧(
Ad prog F.Am [.pointer x9,.pointer x11,iV r14.1.1] w15 true Vk λr16 w17=>
Ak [hd 11 (a12.add 14) w7] w17∧(
Au (encs bI r16.1) p1 0 w17 λw18=>
Ak [] w18∧(
Bc bI p1 0 w18 λx19=>
R (x19,(r16.2.1.1,()),()) w18)))))→Ad prog F.Eh [.pointer n] w true Vk R:=
 Cb Aa Tryz.func56 (hs 2 (.s (.pl (ks [0,1,2,3,4,5,6,7,8,9,10,11] (.ef 12 [] (.ef 13 [3,7] (.tk 14 (.tk 15 (.ef 16 [11] (.tk 17 .z)))))))) .n))
theorem Io.ok{r:Option Addr}{w_:Option Addr×Nat×Nat}{w:World}: ∀⦃R:TR []→WP⦄⦃Z:Value→WP⦄,(
Bh (λ(J1:Unit→WP)=>
Aj ((w_.2.1:Int) !=3) (
bV prog F.Ba [.pointer r,iV 3] w true [] (λr4 w5=>
J1 (()) w5) (λ(v6:Value) w7=>
Z v6 w7)) (
Hf w_.1 w_.2.1 0 λa8=>
ld1 .s (a8.add ((0:Int).toNat*1)) w λx9=>
Aj (!(x9==⟨#[115,116,97,114,116]⟩)) (
bV prog F.Ba [.pointer r,iV 3] w true [] (λr10 w11=>
J1 (()) w11) (λ(v12:Value) w13=>
Z v12 w13)) (
Hf w_.1 w_.2.1 2 λa14=>
ld1 .s (a14.add ((2:Int).toNat*1)) w λx15=>
Ad prog F.Us [.string x15] w false r0' λr16 w17=>
Aj (!r16.1.1) (
bV prog F.Ba [.pointer r,iV 3] w17 true [] (λr18 w19=>
J1 (()) w19) (λ(v20:Value) w21=>
Z v20 w21)) (
J1 (()) w17)))) (λ(z2:Unit) w3=> ∀_:Nat→Value,
Hf w_.1 w_.2.1 1 λa22=>
ld1 .s (a22.add ((1:Int).toNat*1)) w3 λx23=>
bV prog F.Eu [.pointer r,.string x23] w3 false r3' (λr24 w25=>
A7 r λa26=>
Au [iV r24.1.1] (a26.add 2) 0 w25 λw27=>
Hf w_.1 w_.2.1 2 λa28=>
ld1 .s (a28.add ((2:Int).toNat*1)) w27 λx29=>
Ad prog F.strconv_Atoi [.string x29] w27 true Ah7 λr30 w31=>
A7 r λa32=>
Au [iV r30.1.1] (a32.add 3) 0 w31 λw33=>
A7 r λa34=>
Au [iV 1] (a34.add 1) 0 w33 λw35=>
R (()) w35) (λ(v36:Value) w37=>
Z v36 w37)))→bV prog F.Io [.pointer r,.slice w_.1 w_.2.1 w_.2.2] w true [] R Z:=
 Ah1 Aa Tryz.func58 (.ct [] (.s .n (.s .pz .n)) (.s .pz .n))
theorem Jk.ok{r:Option Addr}{w_:Option Addr×Nat×Nat}{w:World}: ∀⦃R:TR []→WP⦄⦃Z:Value→WP⦄,(
maK prog T.Qe w λm1 w2=>
muK prog T.Qe (.map (some m1)) (.string ⟨#[43,49]⟩) (iV 1) w2 λw3=>
muK prog T.Qe (.map (some m1)) (.string ⟨#[45,49]⟩) (iV (Int.negSucc 0)) w3 λw4=>
Bh (λ(J5:Unit→WP)=>
Aj ((w_.2.1:Int) !=3) (
bV prog F.Ba [.pointer r,iV 3] w4 true [] (λr8 w9=>
J5 (()) w9) (λ(v10:Value) w11=>
Z v10 w11)) (
Hf w_.1 w_.2.1 2 λa12=>
ld1 .s (a12.add ((2:Int).toNat*1)) w4 λx13=>
lkP prog T.Qe (.map (some m1)) (.string x13) w4 false [KI] λx14=>
Aj (x14.1==0) (
bV prog F.Ba [.pointer r,iV 3] w4 true [] (λY7 w16=>
J5 (()) w16) (λ(v17:Value) w18=>
Z v17 w18)) (
J5 (()) w4))) (λ(z6:Unit) w7=> ∀_:Nat→Value,
Hf w_.1 w_.2.1 1 λa19=>
ld1 .s (a19.add ((1:Int).toNat*1)) w7 λx20=>
bV prog F.Eu [.pointer r,.string x20] w7 false r3' (λr21 w22=>
Bh (λ(J23:Unit→WP)=>
A7 r λa26=>
ld1 .sl (a26.add 5) w22 λx27=>
Aj ((x27.2.1:Int)==64) (
bV prog F.Ba [.pointer r,iV 6] w22 true [] (λr28 w29=>
J23 (()) w29) (λ(v30:Value) w31=>
Z v30 w31)) (
J23 (()) w22)) (λ(z24:Unit) w25=> ∀_:Nat→Value,
Bh (λ(J32:Unit→WP)=>
A7 r λa35=>
ld1 .sl (a35.add 5) w25 λx36=>
A7 r λa37=>
ld1 KI (a37.add 2) w25 λx38=>
Aj (decide (r21.1.1<x38)) (
bV prog F.Ba [.pointer r,iV 12] w25 true [] (λr39 w40=>
J32 (()) w40) (λ(v41:Value) w42=>
Z v41 w42)) (
Aj (decide ((x36.2.1:Int)>0)) (
A7 r λa43=>
ld1 .sl (a43.add 5) w25 λx44=>
Hf x44.1 x44.2.1 (wrap .i64 ((x36.2.1:Int)-1)) λa45=>
ld1 KI (a45.add ((wrap .i64 ((x36.2.1:Int)-1)).toNat*2)) w25 λx46=>
Aj (decide (r21.1.1≤x46)) (
bV prog F.Ba [.pointer r,iV 12] w25 true [] (λr47 w48=>
J32 (()) w48) (λ(v49:Value) w50=>
Z v49 w50)) (
J32 (()) w25)) (
J32 (()) w25))) (λ(z33:Unit) w34=> ∀_:Nat→Value,
I8 w34 λw51=>
A7 r λa52=>
ld1 .sl (a52.add 5) w51 λx53=>
Hf w_.1 w_.2.1 2 λa54=>
ld1 .s (a54.add ((2:Int).toNat*1)) w51 λx55=>
lkP prog T.Qe (.map (some m1)) (.string x55) w51 false [KI] λx56=>
Ak [(9,(a54.add ((2:Int).toNat*1)),(w51.cell? (a54.add ((2:Int).toNat*1))).getD undef),hd 4 (a52.add 5) w51] w51∧(
Bj [iV r21.1.1,iV x56.1] T.Ro w51 λp57 w58=>
Ak [(9,(a54.add ((2:Int).toNat*1)),(w51.cell? (a54.add ((2:Int).toNat*1))).getD undef),hd 4 (a52.add 5) w51] w58∧(
Qj ((Builtin.append_ #[T.Qx,T.Qx] T.Qx #[.slice x53.1 x53.2.1 x53.2.2,.slice (some p57) 1 1]).run prog w58) λy59 w60=>
Ak [(9,(a54.add ((2:Int).toNat*1)),(w51.cell? (a54.add ((2:Int).toNat*1))).getD undef)] w60∧(
A7 r λa61=>
Au [.slice y59.1 y59.2.1 y59.2.2] (a61.add 5) 0 w60 λw62=>
Ak [] w62∧(
R (()) w62))))))) (λ(v63:Value) wR=>
Z v63 wR)))→bV prog F.Jk [.pointer r,.slice w_.1 w_.2.1 w_.2.2] w true [] R Z:=
 Ah1 Aa Tryz.func59 (.s .n (.ct [] (.s .n (.s .pz .n)) (.s .pz (.ct [] (.s .n (.s .pz .n)) (.ct [] (hs 2 (.s .pz .n)) (.pl (ks [0,1,2,3,4,5,6,7,8,9] (.ef 10 [] (.tk 11 (.ef 12 [] (.ef 13 [4] (.tk 14 (.tk 15 (.ef 16 [9] .z))))))))))))))
theorem Jy.ok{r:Option Addr}{w_:Option Addr×Nat×Nat}{w:World}: ∀⦃R:TR []→WP⦄⦃Z:Value→WP⦄,(
Bh (λ(J1:Unit→WP)=>
Aj ((w_.2.1:Int) !=2) (
bV prog F.Ba [.pointer r,iV 3] w true [] (λr4 w5=>
J1 (()) w5) (λ(v6:Value) w7=>
Z v6 w7)) (
Hf w_.1 w_.2.1 0 λa8=>
ld1 .s (a8.add ((0:Int).toNat*1)) w λx9=>
Aj (!(x9==⟨#[101,110,100]⟩)) (
bV prog F.Ba [.pointer r,iV 3] w true [] (λr10 w11=>
J1 (()) w11) (λ(v12:Value) w13=>
Z v12 w13)) (
J1 (()) w))) (λ(z2:Unit) w3=> ∀_:Nat→Value,
Hf w_.1 w_.2.1 1 λa14=>
ld1 .s (a14.add ((1:Int).toNat*1)) w3 λx15=>
bV prog F.Eu [.pointer r,.string x15] w3 false r3' (λr16 w17=>
A7 r λa18=>
Au [iV r16.1.1] (a18.add 4) 0 w17 λw19=>
A7 r λa20=>
ld1 .sl (a20.add 5) w19 λx21=>
I8 w19 λw22=>
A7 r λa23=>
ld1 KI (a23.add 4) w22 λx24=>
A7 r λa25=>
ld1 KI (a25.add 2) w22 λx26=>
Aj (decide (x24≤x26)) (
bV prog F.Ba [.pointer r,iV 12] w22 true [] (λr27 w28=>
A7 r λa29=>
Au [iV 2] (a29.add 1) 0 w28 λw30=>
R (()) w30) (λ(v31:Value) w32=>
Z v31 w32)) (
Aj (decide ((x21.2.1:Int)>0)) (
A7 r λa33=>
ld1 KI (a33.add 4) w22 λx34=>
A7 r λa35=>
ld1 .sl (a35.add 5) w22 λx36=>
Hf x36.1 x36.2.1 (wrap .i64 ((x21.2.1:Int)-1)) λa37=>
ld1 KI (a37.add ((wrap .i64 ((x21.2.1:Int)-1)).toNat*2)) w22 λx38=>
Aj (decide (x34≤x38)) (
bV prog F.Ba [.pointer r,iV 12] w22 true [] (λr39 w40=>
A7 r λa41=>
Au [iV 2] (a41.add 1) 0 w40 λw42=>
R (()) w42) (λ(v43:Value) w44=>
Z v43 w44)) (
A7 r λa45=>
Au [iV 2] (a45.add 1) 0 w22 λw46=>
R (()) w46)) (
A7 r λa47=>
Au [iV 2] (a47.add 1) 0 w22 λw48=>
R (()) w48))) (λ(v49:Value) w50=>
Z v49 w50)))→bV prog F.Jy [.pointer r,.slice w_.1 w_.2.1 w_.2.2] w true [] R Z:=
 Ah1 Aa Tryz.func60 (.ct [] (.s .n (.s .pz .n)) (.s .pz (.s (.s .n (.s (.pl (ks [0,1,2,3,4,5,6,7,8,9,10,11,12,13,14,15,16,17,18,19,20,21,22,23,24,25,26,27,28] .z)) (.s .pz .n))) .n)))
theorem Po.ok{s:ByteArray}{w:World}: ∀⦃R:TR aC→WP⦄,(
Bj z3' T.Ic w λp1 w2=>
Aj ((s.size:Int) !=10) (
Au z3' p1 0 w2 λw3=>
Bc k2' p1 0 w3 λx4=>
R (x4,(false,()),()) w3) (
siK s 4 λc5=>
Aj (c5 !=45) (
Au z3' p1 0 w2 λw6=>
Bc k2' p1 0 w6 λx7=>
R (x7,(false,()),()) w6) (
siK s 7 λc8=>
Aj (c8 !=45) (
Au z3' p1 0 w2 λw9=>
Bc k2' p1 0 w9 λx10=>
R (x10,(false,()),()) w9) (
Bh (λ(J11:((Addr)×Unit)→WP)=>
I8 w2 λw14=>
slK 0 4 s.size (
slK 5 7 s.size (
slK 8 (s.size:Int) s.size (
(
Ad prog F.Dh [.string (s.extract (Int.toNat 0) (Int.toNat 4))] w14 false r3' λY7 w16=>
Ak [] w16∧(
(
Ad prog F.Dh [.string (s.extract (Int.toNat 5) (Int.toNat 7))] w16 false r3' λr17 w18=>
Ak [] w18∧(
(
Ad prog F.Dh [.string (s.extract (Int.toNat 8) (Int.toNat (s.size:Int)))] w18 false r3' λr19 w20=>
Ak [] w20∧(
Bj z3' T.Ic w20 λp21 w22=>
Ak [] w22∧(
Au [iV Y7.1.1,iV r17.1.1,iV r19.1.1] p21 0 w22 λw23=>
Ak [] w23∧(
J11 (p21,()) w23))))∧(
Bj z3' T.Ic w18 λp24 w25=>
Ak [] w25∧(
Ad prog F.Dh [.string (s.extract (Int.toNat 8) (Int.toNat (s.size:Int)))] w25 false r3' λr26 w27=>
Ak [] w27∧(
Au [iV Y7.1.1,iV r17.1.1,iV r26.1.1] p24 0 w27 λw28=>
Ak [] w28∧(
J11 (p24,()) w28))))))∧(
Bj z3' T.Ic w16 λp29 w30=>
Ak [] w30∧(
Ad prog F.Dh [.string (s.extract (Int.toNat 5) (Int.toNat 7))] w30 false r3' λr31 w32=>
Ak [] w32∧(
Ad prog F.Dh [.string (s.extract (Int.toNat 8) (Int.toNat (s.size:Int)))] w32 false r3' λr33 w34=>
Ak [] w34∧(
Au [iV Y7.1.1,iV r31.1.1,iV r33.1.1] p29 0 w34 λw35=>
Ak [] w35∧(
J11 (p29,()) w35)))))))∧(
Bj z3' T.Ic w14 λp36 w37=>
Ak [] w37∧(
Ad prog F.Dh [.string (s.extract (Int.toNat 0) (Int.toNat 4))] w37 false r3' λr38 w39=>
Ak [] w39∧(
Ad prog F.Dh [.string (s.extract (Int.toNat 5) (Int.toNat 7))] w39 false r3' λr40 w41=>
Ak [] w41∧(
Ad prog F.Dh [.string (s.extract (Int.toNat 8) (Int.toNat (s.size:Int)))] w41 false r3' λr42 w43=>
Ak [] w43∧(
Au [iV r38.1.1,iV r40.1.1,iV r42.1.1] p36 0 w43 λw44=>
Ak [] w44∧(
J11 (p36,()) w44)))))))))) (λ(z12:(Addr)×Unit) w13=> ∀_:Nat→Value,
Bc k2' z12.1 0 w13 λx45=>
Ad prog F.Q3 [Rl k2' x45] w13 false r0' λr46 w47=>
Aj (!r46.1.1) (
Au z3' p1 0 w47 λw48=>
Bc k2' p1 0 w48 λx49=>
R (x49,(false,()),()) w48) (
Bc k2' z12.1 0 w47 λx50=>
Au (encs k2' x50) p1 0 w47 λw51=>
Bc k2' p1 0 w51 λx52=>
R (x52,(true,()),()) w51))))))→Ad prog F.Po [.string s] w true aC R:=
 Cb Aa Tryz.func61 (hs 2 (.ct [(4,.a)] (.pl (ks [0,1,3,4,6,7] (.two 2 10 (.two 5 10 (.two 8 10 (.tk 9 (.ef 10 [] (.ef 11 [] .z))) (.ef 8 [] (.tk 9 (.ef 11 [] .z)))) (.ef 5 [] (.ef 8 [] (.tk 9 (.ef 11 [] .z))))) (.ef 2 [] (.ef 5 [] (.ef 8 [] (.tk 9 (.ef 11 [] .z)))))))) .n))
theorem Vb.ok{number:Int}{w:World}: ∀⦃R:TR aC→WP⦄,(
Bj z3' T.Qn w λp1 w2=>
Aj (decide (number<(Int.negSucc 719161))) (
Au z3' p1 0 w2 λw3=>
Bc k2' p1 0 w3 λx4=>
R (x4,(false,()),()) w3) (
Aj (decide (number>2932896)) (
Au z3' p1 0 w2 λw5=>
Bc k2' p1 0 w5 λx6=>
R (x6,(false,()),()) w5) (
Zm 366 (
Aw (λ(self7:((Int)×Unit)→WP) (z8:(Int)×Unit) w9=> ∀_:Nat→Value,
Ad prog F.Lc [iV (wrap .i64 (z8.1+1))] w9 false r3' λr10 w11=>
Aj (decide (r10.1.1≤(wrap .i64 (number-(Int.negSucc 719161))))) (
self7 (wrap .i64 (z8.1+1),()) w11) (
Ad prog F.Lc [iV z8.1] w11 false r3' λr12 w13=>
Aw (λ(self14:((Int)×(Int)×Unit)→WP) (z15:(Int)×(Int)×Unit) w16=> ∀_:Nat→Value,
Ad prog F.Ig [iV z8.1,iV z15.2.1] w16 false r3' λr17 w18=>
Aj (decide (z15.1≥r17.1.1)) (
Ad prog F.Ig [iV z8.1,iV z15.2.1] w18 false r3' λr19 w20=>
self14 (wrap .i64 (z15.1-r19.1.1),wrap .i64 (z15.2.1+1),()) w20) (
Au [iV z8.1,iV z15.2.1,iV (wrap .i64 (z15.1+1))] p1 0 w18 λw21=>
Bc k2' p1 0 w21 λx22=>
R (x22,(true,()),()) w21)) (wrap .i64 ((wrap .i64 (number-(Int.negSucc 719161)))-r12.1.1),1,()) w13)) (wrap .i64 ((wrap .i64 (Int.tdiv (wrap .i64 (number-(Int.negSucc 719161))) 366))+1),()) w2))))→Ad prog F.Vb [iV number] w true aC R:=
 Cb Aa Tryz.func63 (hs 4 (.s (.lp [(5,(.i .i64))] .n) (hs 2 (.s (.lp [(4,(.i .i64)),(6,(.i .i64))] .n) .n))))
theorem Ls.ok{d0 d1 d2:Int}{w:World}: ∀⦃R:TR dY→WP⦄,(
Bj [iV d0,iV d1,iV d2] T.Qn w λp1 w2=>
Bc k2' p1 0 w2 λx3=>
Ad prog F.Ef [Rl k2' x3] w2 false r0' λr4 w5=>
Aj (!r4.1.1) (
R ((⟨#[]⟩,()),()) w5) (
I8 w5 λw6=>
ld1 KI p1 w6 λx7=>
ld1 KI (p1.add 1) w6 λx8=>
ld1 KI (p1.add 2) w6 λx9=>
Ad prog F.Em [iV x7,iV 4] w6 false dY λr10 w11=>
Ak [hd 10 (p1.add 2) w6,hd 5 (p1.add 1) w6,hd 1 p1 w6] w11∧(
iF r10.1.1 ⟨#[45]⟩ (
Ad prog F.Em [iV x8,iV 2] w11 false dY λr12 w13=>
Ak [hd 10 (p1.add 2) w6,hd 5 (p1.add 1) w6,hd 1 p1 w6] w13∧(
iF (r10.1.1++⟨#[45]⟩) r12.1.1 (
iF ((r10.1.1++⟨#[45]⟩)++r12.1.1) ⟨#[45]⟩ (
Ad prog F.Em [iV x9,iV 2] w13 false dY λr14 w15=>
Ak [hd 5 (p1.add 1) w6,hd 1 p1 w6] w15∧(
iF (((r10.1.1++⟨#[45]⟩)++r12.1.1)++⟨#[45]⟩) r14.1.1 (
R (((((r10.1.1++⟨#[45]⟩)++r12.1.1)++⟨#[45]⟩)++r14.1.1,()),()) w15)))))))))→Ad prog F.Ls [.agg #[iV d0,iV d1,iV d2]] w false dY R:=
 Cb Aa Tryz.func64 (hs 2 (.s (.pl (ks [0,1,4,5,9,10] (.ef 2 [] (.tk 3 (.ef 6 [] (.tk 7 (.tk 8 (.ef 11 [10] (.tk 12 (.tk 13 .z)))))))))) .n))
theorem Ec.ok{s:Option Addr×Nat×Nat}{w:World}: ∀⦃R:TR Ub→WP⦄,(
Bj [.slice s.1 s.2.1 s.2.2] T.Qx w λp1 w2=>
R ((.func (.func F.Cc) #[] #[.pointer (some p1)],()),()) w2)→Ad prog F.Ec [.slice s.1 s.2.1 s.2.2] w false Ub R:=
 Cb Aa Tryz.func67 .n
theorem Og.ok{year:Int}{w:World}: ∀⦃R:TR r0'→WP⦄,(
Zm 400 (
Aj ((Int.tmod year 400)==0) (
R ((true,()),()) w) (
Zm 4 (
Aj ((Int.tmod year 4)==0) (
Zm 100 (
R ((((Int.tmod year 100) !=0),()),()) w)) (
R ((false,()),()) w)))))→Ad prog F.Og [iV year] w false r0' R:=
 Cb Aa Tryz.func68 .n
theorem Uh.ok{d0 d1 d2:Int}{w:World}: ∀⦃R:TR Py→WP⦄,(
Bj [iV d0,iV d1,iV d2] T.Ic w λp1 w2=>
Bj z3' T.Ic w2 λp3 w4=>
ld1 KI (p1.add 2) w4 λx5=>
Au [iV (wrap .i64 (x5+1))] (p1.add 2) 0 w4 λw6=>
Bh (λ(J7:Unit→WP)=>
I8 w6 λw10=>
ld1 KI (p1.add 2) w10 λx11=>
ld1 KI p1 w10 λx12=>
ld1 KI (p1.add 1) w10 λx13=>
Ad prog F.Ov [iV x12,iV x13] w10 false r3' λr14 w15=>
Ak [hd 1 (p1.add 2) w10] w15∧(
Aj (decide (x11>r14.1.1)) (
Au [iV 1] (p1.add 2) 0 w15 λw16=>
ld1 KI (p1.add 1) w16 λx17=>
Au [iV (wrap .i64 (x17+1))] (p1.add 1) 0 w16 λw18=>
J7 (()) w18) (
J7 (()) w15))) (λ(z8:Unit) w9=> ∀_:Nat→Value,
ld1 KI (p1.add 1) w9 λx19=>
Aj (decide (x19>12)) (
Au [iV 1] (p1.add 1) 0 w9 λw20=>
ld1 KI p1 w20 λx21=>
Au [iV (wrap .i64 (x21+1))] p1 0 w20 λw22=>
Bc k2' p1 0 w22 λx23=>
Au (encs k2' x23) p3 0 w22 λw24=>
Bc k2' p3 0 w24 λx25=>
R (x25,()) w24) (
Bc k2' p1 0 w9 λx26=>
Au (encs k2' x26) p3 0 w9 λw27=>
Bc k2' p3 0 w27 λx28=>
R (x28,()) w27)))→Ad prog F.Uh [.agg #[iV d0,iV d1,iV d2]] w false Py R:=
 Cb Aa Tryz.func69 (hs 2 (.ct [] (.s (.pl (ks [0,1,2,3,4,5] (.ef 6 [3,5] (.tk 7 .z)))) .n) .n))
theorem Uk.ok{d0 d1 d2:Int}{w:World}: ∀⦃R:TR dY→WP⦄,(
Bj [iV d0,iV d1,iV d2] T.Ic w λp1 w2=>
Bc k2' p1 0 w2 λx3=>
Ad prog F.Q3 [Rl k2' x3] w2 false r0' λr4 w5=>
Aj (!r4.1.1) (
R ((⟨#[]⟩,()),()) w5) (
I8 w5 λw6=>
ld1 KI p1 w6 λx7=>
ld1 KI (p1.add 1) w6 λx8=>
ld1 KI (p1.add 2) w6 λx9=>
Ad prog F.Qi [iV x7,iV 4] w6 false dY λr10 w11=>
Ak [hd 10 (p1.add 2) w6,hd 5 (p1.add 1) w6,hd 1 p1 w6] w11∧(
iF r10.1.1 ⟨#[45]⟩ (
Ad prog F.Qi [iV x8,iV 2] w11 false dY λr12 w13=>
Ak [hd 10 (p1.add 2) w6,hd 5 (p1.add 1) w6,hd 1 p1 w6] w13∧(
iF (r10.1.1++⟨#[45]⟩) r12.1.1 (
iF ((r10.1.1++⟨#[45]⟩)++r12.1.1) ⟨#[45]⟩ (
Ad prog F.Qi [iV x9,iV 2] w13 false dY λr14 w15=>
Ak [hd 5 (p1.add 1) w6,hd 1 p1 w6] w15∧(
iF (((r10.1.1++⟨#[45]⟩)++r12.1.1)++⟨#[45]⟩) r14.1.1 (
R (((((r10.1.1++⟨#[45]⟩)++r12.1.1)++⟨#[45]⟩)++r14.1.1,()),()) w15)))))))))→Ad prog F.Uk [.agg #[iV d0,iV d1,iV d2]] w false dY R:=
 Cb Aa Tryz.func70 (hs 2 (.s (.pl (ks [0,1,4,5,9,10] (.ef 2 [] (.tk 3 (.ef 6 [] (.tk 7 (.tk 8 (.ef 11 [10] (.tk 12 (.tk 13 .z)))))))))) .n))
theorem Jn.ok{t:Option Addr}{day:Int}{w:World}: ∀⦃R:TR Wp→WP⦄,(
Bj [iV day] T.int w λp1 w2=>
I8 w2 λw3=>
Aj (Option.isNone t) (
R ((0,()),(false,()),()) w3) (
ld1 KI p1 w3 λx4=>
A7 t λa5=>
ld1 KI a5 w3 λx6=>
Aj (decide (x4<x6)) (
R ((0,()),(false,()),()) w3) (
ld1 KI p1 w3 λx7=>
A7 t λa8=>
ld1 KI (a8.add 2) w3 λx9=>
Aj (decide (x7≥x9)) (
R ((0,()),(false,()),()) w3) (
A7 t λa10=>
ld1 KI (a10.add 1) w3 λx11=>
Bj [iV 0] T.int w3 λp12 w13=>
Au [iV x11] p12 0 w13 λw14=>
Ad prog F.Fj [.pointer t] w14 false Ub λY7 w16=>
RfT prog Y7.1.1 qQ w16 (λx17 k18 w19=>
Bj [iV 0,iV 0] T.Ro w19 λp25 w26=>
Au [iV x17.1.1,iV x17.1.2.1] p25 0 w26 λw27=>
k18 w27 λgo20 lv21 w22=>
ld1 KI p25 w22 λx28=>
ld1 KI p1 w22 λx29=>
Aj (decide (x28<x29)) (
ld1 KI p12 w22 λx30=>
ld1 KI (p25.add 1) w22 λx31=>
Au [iV (wrap .i64 (x30+x31))] p12 0 w22 λw32=>
go20 w32) (
go20 w22)) (λD23 w24=>
ld1 KI p12 w24 λx33=>
tkK D23 w24 λw34=>
R ((x33,()),(true,()),()) w34) []))))→Ad prog F.Jn [.pointer t,iV day] w true Wp R:=
 Cb Aa Tryz.func71 (.s .n (.s (.s (.pl (ks [0,1,2,3,4,5,6,7,8,9,10,11,12,13,14,15,16,17] .z)) .n) (.s .n (.s (.s .n (.rf [(true,[(.i .i64),(.i .i64)])] .n .n)) .n))))
theorem U8.ok{n:Int}{f_c0 f_c1:Addr}{w:World}: ∀⦃R:TR r3'→WP⦄,(
Aw (λ(self1:((Int)×(Int)×Unit)→WP) (z2:(Int)×(Int)×Unit) w3=> ∀_:Nat→Value,
Aj (decide (z2.1<z2.2.1)) (
dK 1 (
Ad prog F.Ei [iV (wrap .i64 (I7 .u64 (wrap .u64 (wrap .i64 (z2.1+z2.2.1))) 1)),.pointer (some f_c0),.pointer (some f_c1)] w3 false r0' λr4 w5=>
Aj (!r4.1.1) (
self1 (wrap .i64 ((wrap .i64 (I7 .u64 (wrap .u64 (wrap .i64 (z2.1+z2.2.1))) 1))+1),z2.2.1,()) w5) (
self1 (z2.1,wrap .i64 (I7 .u64 (wrap .u64 (wrap .i64 (z2.1+z2.2.1))) 1),()) w5))) (
R ((z2.1,()),()) w3)) (0,n,()) w)→Ad prog F.sort_Search [iV n,.func (.func F.Ei) #[] #[.pointer (some f_c0),.pointer (some f_c1)]] w false r3' R:=
 Cb Aa Tryz.func72 (hs 2 (.s (.lp [(5,(.i .i64)),(6,(.i .i64))] .n) .n))
theorem Ei.ok{i:Int}{c_cap0 c_cap1:Addr}{w:World}: ∀⦃R:TR r0'→WP⦄,(
I8 w λw1=>
ld1 .p c_cap0 w1 λx2=>
A7 x2 λa3=>
ld1 .sl (a3.add 3) w1 λx4=>
Hf x4.1 x4.2.1 i λa5=>
ld1 KI (a5.add (i.toNat*2)) w1 λx6=>
ld1 KI c_cap1 w1 λx7=>
R ((decide (x6≥x7),()),()) w1)→Ad prog F.Ei [iV i,.pointer (some c_cap0),.pointer (some c_cap1)] w false r0' R:=
 Cb Aa Tryz.func73 (.s .n (.s (.pl (ks [0,1,2,3,4,5,6,7,8,9,10] .z)) .n))
theorem Tf.ok{t0 t1 t2:Int}{t3:Option Addr×Nat×Nat}{day:Int}{w:World}: ∀⦃R:TR r3'→WP⦄,(
Bj [iV t0,iV t1,iV t2,.slice t3.1 t3.2.1 t3.2.2] T.Pv w λp1 w2=>
ld1 KI (p1.add 1) w2 λx3=>
ld1 .sl (p1.add 3) w2 λx4=>
Aw (λ(self5:((Int)×(Int)×Unit)→WP) (z6:(Int)×(Int)×Unit) w7=> ∀_:Nat→Value,
Aj (decide (z6.2.1<(x4.2.1:Int))) (
Hf x4.1 x4.2.1 z6.2.1 λa8=>
Bc [KI,KI] (a8.add (z6.2.1.toNat*2)) 0 w7 λx9=>
Bj [iV 0,iV 0] T.Qu w7 λp10 w11=>
Au [iV x9.1,iV x9.2.1] p10 0 w11 λw12=>
ld1 KI p10 w12 λx13=>
Aj (decide (x13<day)) (
ld1 KI (p10.add 1) w12 λx14=>
self5 (wrap .i64 (z6.1+x14),wrap .i64 (z6.2.1+1),()) w12) (
self5 (z6.1,wrap .i64 (z6.2.1+1),()) w12)) (
R ((z6.1,()),()) w7)) (x3,0,()) w2)→Ad prog F.Tf [.agg #[iV t0,iV t1,iV t2,.slice t3.1 t3.2.1 t3.2.2],iV day] w false r3' R:=
 Cb Aa Tryz.func74 (hs 2 (.s (.s .n (.lp [(5,(.i .i64)),(13,(.i .i64))] .n)) .n))
theorem Ef.ok{d0 d1 d2:Int}{w:World}: ∀⦃R:TR r0'→WP⦄,(
Bj [iV d0,iV d1,iV d2] T.Qn w λp1 w2=>
I8 w2 λw3=>
ld1 KI p1 w3 λx4=>
Aj (decide (x4≥1)) (
ld1 KI p1 w3 λx5=>
Aj (decide (x5≤9999)) (
ld1 KI (p1.add 1) w3 λx6=>
Aj (decide (x6≥1)) (
ld1 KI (p1.add 1) w3 λx7=>
Aj (decide (x7≤12)) (
ld1 KI (p1.add 2) w3 λx8=>
Aj (decide (x8≥1)) (
ld1 KI (p1.add 2) w3 λx9=>
ld1 KI p1 w3 λx10=>
ld1 KI (p1.add 1) w3 λx11=>
Ad prog F.Ig [iV x10,iV x11] w3 false r3' λr12 w13=>
Ak [hd 25 (p1.add 2) w3,hd 20 (p1.add 2) w3,hd 15 (p1.add 1) w3,hd 10 (p1.add 1) w3,hd 5 p1 w3,hd 1 p1 w3] w13∧(
R ((decide (x9≤r12.1.1),()),()) w13)) (
R ((false,()),()) w3)) (
R ((false,()),()) w3)) (
R ((false,()),()) w3)) (
R ((false,()),()) w3)) (
R ((false,()),()) w3))→Ad prog F.Ef [.agg #[iV d0,iV d1,iV d2]] w false r0' R:=
 Cb Aa Tryz.func75 (.s .n (.s (.pl (ks [0,1,2,3,4,5,6,7,8,9,10,11,12,13,14,15,16,17,18,19,20,21,22,23,24,25,26,27,28,29] (.ef 30 [27,29] (ks [31,32,33] .z)))) .n))
theorem Lc.ok{year:Int}{w:World}: ∀⦃R:TR r3'→WP⦄,(
Zm 4 (
Zm 100 (
Zm 400 (
R ((wrap .i64 ((wrap .i64 ((wrap .i64 ((wrap .i64 (365*(wrap .i64 (year-1))))+(wrap .i64 (Int.tdiv (wrap .i64 (year-1)) 4))))-(wrap .i64 (Int.tdiv (wrap .i64 (year-1)) 100))))+(wrap .i64 (Int.tdiv (wrap .i64 (year-1)) 400))),()),()) w))))→Ad prog F.Lc [iV year] w false r3' R:=
 Cb Aa Tryz.func76 .n
theorem Ig.ok{year m:Int}{w:World}: ∀⦃R:TR r3'→WP⦄,(
Aj (m==2) (
Ad prog F.Uu [iV year] w false r0' λr1 w2=>
Aj r1.1.1 (
R ((29,()),()) w2) (
aiK [0,31,28,31,30,31,30,31,31,30,31,30,31] 13 m λc3=>
R ((c3,()),()) w2)) (
aiK [0,31,28,31,30,31,30,31,31,30,31,30,31] 13 m λc4=>
R ((c4,()),()) w))→Ad prog F.Ig [iV year,iV m] w false r3' R:=
 Cb Aa Tryz.func77 .n
theorem Mc.ok{s0 s1 s2 s3 s4 s5 s6 s7 s8 s9:Int}{s10:Bool}{w:World}: ∀⦃R:TR r0'→WP⦄,(
Bj [iV s0,iV s1,iV s2,iV s3,iV s4,iV s5,iV s6,iV s7,iV s8,iV s9,.bool s10] T.jJ w λp1 w2=>
ld1 KI p1 w2 λx3=>
Aj (decide (x3≥0)) (
ld1 KI p1 w2 λx4=>
Aj (decide (x4<64)) (
Bc eG (p1.add 1) 0 w2 λx5=>
Ad prog F.Gz [Rl eG x5] w2 false r0' λr6 w7=>
Aj r6.1.1 (
Bc k2' (p1.add 5) 0 w7 λx8=>
Ad prog F.Gn [Rl k2' x8] w7 false r0' λr9 w10=>
Aj r9.1.1 (
ld1 KI (p1.add 8) w10 λx11=>
Aj (decide (x11≥1)) (
ld1 KI (p1.add 8) w10 λx12=>
ld1 KI (p1.add 1) w10 λx13=>
Aj (decide (x12≤x13)) (
ld1 KI (p1.add 9) w10 λx14=>
Aj (decide (x14≥0)) (
ld1 KI (p1.add 9) w10 λx15=>
R ((decide (x15≤20),()),()) w10) (
R ((false,()),()) w10)) (
R ((false,()),()) w10)) (
R ((false,()),()) w10)) (
R ((false,()),()) w10)) (
R ((false,()),()) w7)) (
R ((false,()),()) w2)) (
R ((false,()),()) w2))→Ad prog F.Mc [.agg #[iV s0,iV s1,iV s2,iV s3,iV s4,iV s5,iV s6,iV s7,iV s8,iV s9,.bool s10]] w false r0' R:=
 Cb Aa Tryz.func78 .n
theorem Vu.ok{w:World}: ∀⦃R:TR Y6→WP⦄,(
Ad prog F.Gp [iV 16] w true iQ λr1 w2=>
Bj [.pointer r1.1.1,iV 0] T.Ag6 w2 λp3 w4=>
R ((some p3,()),()) w4)→Ad prog F.Vu [] w false Y6 R:=
 Cb Aa Tryz.func79 .n
theorem Yx.ok{drift:Int}{w:World}: ∀⦃R:TR iQ→WP⦄,(
Aj (decide (drift<0)) (
R ((none,()),(1,()),()) w) (
Aj (decide (drift>10)) (
R ((none,()),(1,()),()) w) (
Bj [iV drift,.int .u32 0,iV 0] T.Aeo w λp1 w2=>
R ((some p1,()),(0,()),()) w2)))→Ad prog F.Yx [iV drift] w true iQ R:=
 Cb Aa Tryz.func80 .n
theorem Rn.ok{me r0 r1 r2 r3:Int}{w:World}: ∀⦃R:TR iQ→WP⦄,(
Bj [iV r0,iV r1,iV r2,iV r3] T.gK w λp1 w2=>
Bc eG p1 0 w2 λx3=>
Ad prog F.Gz [Rl eG x3] w2 false r0' λr4 w5=>
Aj (!r4.1.1) (
R ((none,()),(1,()),()) w5) (
Bc [KI,KI] p1 0 w5 λx6=>
Ad prog F.V3 [iV me,.agg #[iV x6.1,iV x6.2.1]] w5 true iQ λr7 w8=>
Aj (r7.2.1.1 !=0) (
R ((none,()),(r7.2.1.1,()),()) w8) (
Bc eG p1 0 w8 λx9=>
Bj [.pointer r7.1.1,iV me,iV x9.1,iV x9.2.1,iV x9.2.2.1,iV x9.2.2.2.1,.slice none 0 0,iV 0,iV 0,iV 0] T.Aby w8 λp10 w11=>
R ((some p10,()),(0,()),()) w11)))→Ad prog F.Rn [iV me,.agg #[iV r0,iV r1,iV r2,iV r3]] w true iQ R:=
 Cb Aa Tryz.func81 .n
theorem V8.ok{me:Int}{w:World}: ∀⦃R:TR iQ→WP⦄,(
Aj (decide (me<0)) (
R ((none,()),(1,()),()) w) (
Aj (decide (me≥64)) (
R ((none,()),(1,()),()) w) (
Bj [iV me,iV (Int.negSucc 0),iV (Int.negSucc 0)] T.Abh w λp1 w2=>
R ((some p1,()),(0,()),()) w2)))→Ad prog F.V8 [iV me] w true iQ R:=
 Cb Aa Tryz.func82 .n
theorem Yz.ok{me:Int}{w:World}: ∀⦃R:TR iQ→WP⦄,(
Aj (decide (me<0)) (
R ((none,()),(1,()),()) w) (
Aj (decide (me≥64)) (
R ((none,()),(1,()),()) w) (
Bj [iV me,iV 0,iV 0,.bool false,iV 0,iV 0,iV 0] T.Agu w λp1 w2=>
R ((some p1,()),(0,()),()) w2)))→Ad prog F.Yz [iV me] w true iQ R:=
 Cb Aa Tryz.func83 .n
theorem Um.ok{limit:Int}{w:World}: ∀⦃R:TR iQ→WP⦄,(
Aj (decide (limit<1)) (
R ((none,()),(1,()),()) w) (
Aj (decide (limit>1000)) (
R ((none,()),(1,()),()) w) (
Bj [iV limit,iV 0,iV 0,iV 0,iV 0,uV 0,iV 0,.bool false] T.vO w λp1 w2=>
R ((some p1,()),(0,()),()) w2)))→Ad prog F.Um [iV limit] w true iQ R:=
 Cb Aa Tryz.func84 .n
theorem I5.ok{room:Int}{w:World}: ∀⦃R:TR iQ→WP⦄,(
Aj (decide (room<1)) (
R ((none,()),(1,()),()) w) (
Aj (decide (room>64)) (
R ((none,()),(1,()),()) w) (
Qj ((Instr.makeSlice T.Wu (iV room) (iV room)).run prog w) λy1 w2=>
Bj [.slice y1.1 y1.2.1 y1.2.2,iV 0,iV 0] T.jW w2 λp3 w4=>
R ((some p3,()),(0,()),()) w4)))→Ad prog F.I5 [iV room] w true iQ R:=
 Cb Aa Tryz.func85 .n
theorem Md.ok{l:Option Addr}{i k:Int}{w:World}: ∀⦃R:TR r0'→WP⦄,(
Ad prog F.Gt [.pointer l,iV i] w false r0' λr1 w2=>
Aj r1.1.1 (
Ad prog F.Gt [.pointer l,iV k] w2 false r0' λr3 w4=>
Aj r3.1.1 (
R (((i !=k),()),()) w4) (
R ((false,()),()) w4)) (
R ((false,()),()) w2))→Ad prog F.Md [.pointer l,iV i,iV k] w false r0' R:=
 Cb Aa Tryz.func86 .n
theorem Qz.ok{n:Option Addr}{i:Int}{w:World}: ∀⦃R:TR Y6→WP⦄,(
Aj (Option.isNone n) (
R ((none,()),()) w) (
Aj (decide (i<0)) (
R ((none,()),()) w) (
A7 n λa1=>
ld1 .sl (a1.add 12) w λx2=>
Aj (decide (i≥(x2.2.1:Int))) (
R ((none,()),()) w) (
A7 n λa3=>
ld1 .sl (a3.add 12) w λx4=>
Hf x4.1 x4.2.1 i λa5=>
ld1 .p (a5.add (i.toNat*1)) w λx6=>
R ((x6,()),()) w))))→Ad prog F.Qz [.pointer n,iV i] w false Y6 R:=
 Cb Aa Tryz.func87 .n
theorem Lt.ok{c:Option Addr}{raw:Int}{w:World}: ∀⦃R:TR []→WP⦄,(
Aj (!(Option.isNone c)) (
A7 c λa1=>
Au [.int .u32 raw] (a1.add 1) 0 w λw2=>
A7 c λa3=>
Au [iV (wrap .i64 raw)] (a3.add 2) 0 w2 λw4=>
R (()) w4) (
R (()) w))→Ad prog F.Lt [.pointer c,.int .u32 raw] w true [] R:=
 Cb Aa Tryz.func88 .n
theorem Jc.ok{f:Option Addr}{boot:Int}{w:World}: ∀⦃R:TR []→WP⦄,(
Aj (!(Option.isNone f)) (
A7 f λa1=>
ld1 .p a1 w λx2=>
Ad prog F.Gy [.pointer x2,uV boot] w true [] λr3 w4=>
Ad prog F.Eb [.pointer f] w4 true [] λr5 w6=>
R (()) w6) (
R (()) w))→Ad prog F.Jc [.pointer f,uV boot] w true [] R:=
 Cb Aa Tryz.func89 .n
theorem Ey.ok{l:Option Addr}{w:World}: ∀⦃R:TR []→WP⦄,(
Aj (!(Option.isNone l)) (
A7 l λa1=>
Au [iV (Int.negSucc 0)] (a1.add 1) 0 w λw2=>
A7 l λa3=>
Au [iV (Int.negSucc 0)] (a3.add 2) 0 w2 λw4=>
R (()) w4) (
R (()) w))→Ad prog F.Ey [.pointer l] w true [] R:=
 Cb Aa Tryz.func90 .n
theorem Om.ok{p:Option Addr}{w:World}: ∀⦃R:TR []→WP⦄,(
Aj (!(Option.isNone p)) (
A7 p λa1=>
ld1 KI a1 w λx2=>
A7 p λa3=>
Au [iV x2,iV 0,iV 0,.bool false,iV 0,iV 0,iV 0] a3 0 w λw4=>
R (()) w4) (
R (()) w))→Ad prog F.Om [.pointer p] w true [] R:=
 Cb Aa Tryz.func91 .n
theorem Fh.ok{s:Option Addr}{w:World}: ∀⦃R:TR []→WP⦄,(
Aj (!(Option.isNone s)) (
A7 s λa1=>
ld1 KI a1 w λx2=>
A7 s λa3=>
Au [iV x2,iV 0,iV 0,iV 0,iV 0,uV 0,iV 0,.bool false] a3 0 w λw4=>
R (()) w4) (
R (()) w))→Ad prog F.Fh [.pointer s] w true [] R:=
 Cb Aa Tryz.func92 .n
theorem Je.ok{b:Option Addr}{w:World}: ∀⦃R:TR []→WP⦄,(
Aj (!(Option.isNone b)) (
A7 b λa1=>
Au z8' a1 0 w λw2=>
R (()) w2) (
R (()) w))→Ad prog F.Je [.pointer b] w true [] R:=
 Cb Aa Tryz.func93 .n
theorem Lm.ok{l:Option Addr}{w:World}: ∀⦃R:TR []→WP⦄,(
Aj (!(Option.isNone l)) (
A7 l λa1=>
ld1 .p a1 w λx2=>
Ad prog F.D5 [.pointer x2] w true [] λr3 w4=>
A7 l λa5=>
Au [iV 0] (a5.add 1) 0 w4 λw6=>
R (()) w6) (
R (()) w))→Ad prog F.Lm [.pointer l] w true [] R:=
 Cb Aa Tryz.func94 .n
theorem Es.ok{r:Option Addr}{w:World}: ∀⦃R:TR []→WP⦄,(
Aj (!(Option.isNone r)) (
A7 r λa1=>
ld1 .sl a1 w λx2=>
crK prog #[T.Wu] T.t0 (.slice x2.1 x2.2.1 x2.2.2) w λw3=>
A7 r λa4=>
Au [iV 0] (a4.add 1) 0 w3 λw5=>
A7 r λa6=>
Au [iV 0] (a6.add 2) 0 w5 λw7=>
R (()) w7) (
R (()) w))→Ad prog F.Es [.pointer r] w true [] R:=
 Cb Aa Tryz.func95 .n
theorem Nv.ok{n:Option Addr}{list:Option Addr×Nat×Nat}{w:World}: ∀⦃R:TR r0'→WP⦄,(
A7 n λa1=>
ld1 .sl (a1.add 12) w λx2=>
Aj ((list.2.1:Int) !=(x2.2.1:Int)) (
R ((false,()),()) w) (
Aw (λ(self3:((Int)×Unit)→WP) (z4:(Int)×Unit) w5=> ∀_:Nat→Value,
Aj (decide (z4.1<(list.2.1:Int))) (
Hf list.1 list.2.1 z4.1 λa6=>
ld1 KI (a6.add (z4.1.toNat*1)) w5 λx7=>
A7 n λa8=>
ld1 KI (a8.add 8) w5 λx9=>
Aj (decide (x7<(wrap .i64 (0-x9)))) (
R ((false,()),()) w5) (
A7 n λa10=>
ld1 KI (a10.add 8) w5 λx11=>
Aj (decide (x7>x11)) (
R ((false,()),()) w5) (
self3 (wrap .i64 (z4.1+1),()) w5))) (
R ((true,()),()) w5)) (0,()) w))→Ad prog F.Nv [.pointer n,.slice list.1 list.2.1 list.2.2] w false r0' R:=
 Cb Aa Tryz.func96 (hs 2 (.s (.s .n (.lp [(17,(.i .i64))] .n)) .n))
theorem Hl.ok{n:Option Addr}{ticks:Int}{w:World}: ∀⦃R:TR r0'→WP⦄,(
Aj (!(Option.isNone n)) (
A7 n λa1=>
ld1 .p (a1.add 14) w λx2=>
Ad prog F.Ht [.pointer x2,iV ticks] w false r0' λr3 w4=>
R ((r3.1.1,()),()) w4) (
R ((false,()),()) w))→Ad prog F.Hl [.pointer n,iV ticks] w false r0' R:=
 Cb Aa Tryz.func97 .n
theorem Dt.ok{n:Option Addr}{w:World}: ∀⦃R:TR Atb→WP⦄,(
Bj z6' T.oM w λp1 w2=>
Aj (Option.isNone n) (
Au z6' p1 0 w2 λw3=>
Bc k8' p1 0 w3 λx4=>
R (x4,()) w3) (
A7 n λa5=>
ld1 .b (a5.add 12) w2 λx6=>
Aj (!x6) (
A7 n λa7=>
ld1 KU (a7.add 13) w2 λx8=>
Au [.bool false,uV x8,iV 0,iV 0,.bool false,.bool false,iV 0,iV 0,iV 0,.bool false,iV 0,iV 0] p1 0 w2 λw9=>
Bc k8' p1 0 w9 λx10=>
R (x10,()) w9) (
I8 w2 λw11=>
A7 n λa12=>
ld1 KU (a12.add 13) w11 λx13=>
A7 n λa14=>
ld1 .p (a14.add 14) w11 λx15=>
A7 n λa16=>
ld1 .p (a16.add 15) w11 λx17=>
A7 x17 λa18=>
ld1 .p a18 w11 λx19=>
A7 n λa20=>
ld1 .p (a20.add 15) w11 λx21=>
A7 x21 λa22=>
ld1 .p a22 w11 λx23=>
A7 n λa24=>
ld1 .p (a24.add 15) w11 λx25=>
A7 n λa26=>
ld1 .p (a26.add 15) w11 λx27=>
A7 n λa28=>
ld1 .p (a28.add 16) w11 λx29=>
A7 n λa30=>
ld1 .p (a30.add 16) w11 λx31=>
A7 n λa32=>
ld1 .p (a32.add 17) w11 λx33=>
A7 n λa34=>
ld1 .p (a34.add 27) w11 λx35=>
A7 n λa36=>
ld1 .p (a36.add 26) w11 λx37=>
Ad prog F.Ew [.pointer x15] w11 false r3' λr38 w39=>
Ak [hd 58 (a36.add 26) w11,hd 53 (a34.add 27) w11,hd 48 (a32.add 17) w11,hd 43 (a30.add 16) w11,hd 38 (a28.add 16) w11,hd 33 (a26.add 15) w11,hd 28 (a24.add 15) w11,hd 23 a22 w11,hd 20 (a20.add 15) w11,hd 15 a18 w11,hd 12 (a16.add 15) w11,hd 7 (a14.add 14) w11,hd 3 (a12.add 13) w11] w39∧(
Ad prog F.Bz [.pointer x19] w39 false r3' λr40 w41=>
Ak [hd 58 (a36.add 26) w11,hd 53 (a34.add 27) w11,hd 48 (a32.add 17) w11,hd 43 (a30.add 16) w11,hd 38 (a28.add 16) w11,hd 33 (a26.add 15) w11,hd 28 (a24.add 15) w11,hd 23 a22 w11,hd 20 (a20.add 15) w11,hd 15 a18 w11,hd 12 (a16.add 15) w11,hd 7 (a14.add 14) w11,hd 3 (a12.add 13) w11] w41∧(
Ad prog F.A8 [.pointer x23] w41 false r0' λr42 w43=>
Ak [hd 58 (a36.add 26) w11,hd 53 (a34.add 27) w11,hd 48 (a32.add 17) w11,hd 43 (a30.add 16) w11,hd 38 (a28.add 16) w11,hd 33 (a26.add 15) w11,hd 28 (a24.add 15) w11,hd 23 a22 w11,hd 20 (a20.add 15) w11,hd 15 a18 w11,hd 12 (a16.add 15) w11,hd 7 (a14.add 14) w11,hd 3 (a12.add 13) w11] w43∧(
Ad prog F.Az [.pointer x25] w43 false r0' λr44 w45=>
Ak [hd 58 (a36.add 26) w11,hd 53 (a34.add 27) w11,hd 48 (a32.add 17) w11,hd 43 (a30.add 16) w11,hd 38 (a28.add 16) w11,hd 33 (a26.add 15) w11,hd 28 (a24.add 15) w11,hd 23 a22 w11,hd 20 (a20.add 15) w11,hd 15 a18 w11,hd 12 (a16.add 15) w11,hd 7 (a14.add 14) w11,hd 3 (a12.add 13) w11] w45∧(
Ad prog F.G8 [.pointer x27] w45 false r3' λr46 w47=>
Ak [hd 58 (a36.add 26) w11,hd 53 (a34.add 27) w11,hd 48 (a32.add 17) w11,hd 43 (a30.add 16) w11,hd 38 (a28.add 16) w11,hd 33 (a26.add 15) w11,hd 28 (a24.add 15) w11,hd 23 a22 w11,hd 20 (a20.add 15) w11,hd 15 a18 w11,hd 12 (a16.add 15) w11,hd 7 (a14.add 14) w11,hd 3 (a12.add 13) w11] w47∧(
Ad prog F.Ik [.pointer x29] w47 false r3' λr48 w49=>
Ak [hd 58 (a36.add 26) w11,hd 53 (a34.add 27) w11,hd 48 (a32.add 17) w11,hd 43 (a30.add 16) w11,hd 38 (a28.add 16) w11,hd 33 (a26.add 15) w11,hd 28 (a24.add 15) w11,hd 23 a22 w11,hd 20 (a20.add 15) w11,hd 15 a18 w11,hd 12 (a16.add 15) w11,hd 7 (a14.add 14) w11,hd 3 (a12.add 13) w11] w49∧(
Ad prog F.Ea [.pointer x31] w49 false r3' λr50 w51=>
Ak [hd 58 (a36.add 26) w11,hd 53 (a34.add 27) w11,hd 48 (a32.add 17) w11,hd 43 (a30.add 16) w11,hd 38 (a28.add 16) w11,hd 33 (a26.add 15) w11,hd 28 (a24.add 15) w11,hd 23 a22 w11,hd 20 (a20.add 15) w11,hd 15 a18 w11,hd 12 (a16.add 15) w11,hd 7 (a14.add 14) w11,hd 3 (a12.add 13) w11] w51∧(
Ad prog F.Nh [.pointer x33] w51 false r0' λr52 w53=>
Ak [hd 58 (a36.add 26) w11,hd 53 (a34.add 27) w11,hd 48 (a32.add 17) w11,hd 43 (a30.add 16) w11,hd 38 (a28.add 16) w11,hd 33 (a26.add 15) w11,hd 28 (a24.add 15) w11,hd 23 a22 w11,hd 20 (a20.add 15) w11,hd 15 a18 w11,hd 12 (a16.add 15) w11,hd 7 (a14.add 14) w11,hd 3 (a12.add 13) w11] w53∧(
Ad prog F.Dj [.pointer x35] w53 false r3' λr54 w55=>
Ak [hd 58 (a36.add 26) w11,hd 53 (a34.add 27) w11,hd 48 (a32.add 17) w11,hd 43 (a30.add 16) w11,hd 38 (a28.add 16) w11,hd 33 (a26.add 15) w11,hd 28 (a24.add 15) w11,hd 23 a22 w11,hd 20 (a20.add 15) w11,hd 15 a18 w11,hd 12 (a16.add 15) w11,hd 7 (a14.add 14) w11,hd 3 (a12.add 13) w11] w55∧(
Ad prog F.P9 [.pointer x37] w55 false r3' λr56 w57=>
Ak [hd 53 (a34.add 27) w11,hd 48 (a32.add 17) w11,hd 43 (a30.add 16) w11,hd 38 (a28.add 16) w11,hd 33 (a26.add 15) w11,hd 28 (a24.add 15) w11,hd 23 a22 w11,hd 20 (a20.add 15) w11,hd 15 a18 w11,hd 12 (a16.add 15) w11,hd 7 (a14.add 14) w11,hd 3 (a12.add 13) w11] w57∧(
Au [.bool true,uV x13,iV r38.1.1,iV r40.1.1,.bool r42.1.1,.bool r44.1.1,iV r46.1.1,iV r48.1.1,iV r50.1.1,.bool r52.1.1,iV r54.1.1,iV r56.1.1] p1 0 w57 λw58=>
Ak [] w58∧(
Bc k8' p1 0 w58 λx59=>
R (x59,()) w58))))))))))))))→Ad prog F.Dt [.pointer n] w false Atb R:=
 Cb Aa Tryz.func98 (hs 3 (.s (.pl (ks [0,1,2,3,4,5,6,7,9,10,11,12,13,14,15,17,18,19,20,21,22,23,25,26,27,28,30,31,32,33,35,36,37,38,40,41,42,43,45,46,47,48,50,51,52,53,55,56,57,58] (.ef 8 [] (.ef 16 [] (.ef 24 [] (.ef 29 [] (.ef 34 [] (.ef 39 [] (.ef 44 [] (.ef 49 [] (.ef 54 [] (.ef 59 [58] (.tk 60 (.ef 61 [3,7,12,15,20,23,28,33,38,43,48,53] .z)))))))))))))) .n))
theorem D8.ok{n:Option Addr}{w:World}: ∀⦃R:TR r3'→WP⦄,(
Aj (Option.isNone n) (
R ((2,()),()) w) (
A7 n λa1=>
ld1 .b (a1.add 12) w λx2=>
Aj (!x2) (
R ((10,()),()) w) (
R ((0,()),()) w)))→Ad prog F.D8 [.pointer n] w false r3' R:=
 Cb Aa Tryz.func99 .n
theorem Qb.ok{c:Option Addr}{ticks:Int}{w:World}: ∀⦃R:TR r3'→WP⦄,(
Aj (Option.isNone c) (
R ((2,()),()) w) (
Ad prog F.Ht [.pointer c,iV ticks] w false r0' λr1 w2=>
Aj (!r1.1.1) (
R ((1,()),()) w2) (
I8 w2 λw3=>
A7 c λa4=>
ld1 KI (a4.add 2) w3 λx5=>
A7 c λa6=>
ld1 (.i .u32) (a6.add 1) w3 λx7=>
Ad prog F.Rz [iV x5,.int .u32 (wrap .u32 (x7+(wrap .u32 ticks)))] w3 true Wp λr8 w9=>
Ak [hd 7 (a6.add 1) w3] w9∧(
Aj (!r8.2.1.1) (
R ((8,()),()) w9) (
A7 c λa10=>
ld1 (.i .u32) (a10.add 1) w9 λx11=>
A7 c λa12=>
Au [.int .u32 (wrap .u32 (x11+(wrap .u32 ticks)))] (a12.add 1) 0 w9 λw13=>
A7 c λa14=>
Au [iV r8.1.1] (a14.add 2) 0 w13 λw15=>
R ((0,()),()) w15)))))→Ad prog F.Qb [.pointer c,iV ticks] w false r3' R:=
 Cb Aa Tryz.func100 (hs 2 (.s (.pl (ks [0,1,2,3,4,5,6,7,8,9,10] (.ef 11 [3] (ks [12,13,14,15,16] .z)))) .n))
theorem Hm.ok{n:Option Addr}{step jitter:Int}{w:World}: ∀⦃R:TR iR→WP⦄,(
Ad prog F.Hy [.pointer n,iV jitter] w true r7' λr1 w2=>
Aj (r1.2.1.1 !=0) (
R (((none,0,0),()),(r1.2.1.1,()),()) w2) (
A7 n λa3=>
Bc k2' (a3.add 5) 0 w2 λx4=>
Ad prog F.Ou [Rl k2' x4,iV step] w2 false r0' λr5 w6=>
Aj (!r5.1.1) (
R (((none,0,0),()),(r1.2.1.1,()),()) w6) (
Bj [.slice none 0 0] T.Akj w6 λp7 w8=>
A7 n λa9=>
ld1 .p (a9.add 15) w8 λx10=>
Ad prog F.Jw [.pointer x10,iV r1.1.1] w8 true Ah4 λr11 w12=>
Bj z9' T.Ci w12 λp13 w14=>
Au (encs aU r11.1) p13 0 w14 λw15=>
A7 n λa16=>
ld1 .p (a16.add 18) w15 λx17=>
Ad prog F.Ie [.pointer x17] w15 true [] λr18 w19=>
Bh (λ(J20:Unit→WP)=>
A7 n λa23=>
ld1 .p (a23.add 17) w19 λx24=>
Ad prog F.Oe [.pointer x24] w19 false r0' λr25 w26=>
Aj r25.1.1 (
A7 n λa27=>
ld1 .p (a27.add 16) w26 λx28=>
Ad prog F.Ey [.pointer x28] w26 true [] λr29 w30=>
J20 (()) w30) (
J20 (()) w26)) (λ(z21:Unit) w22=> ∀_:Nat→Value,
Bc aU p13 0 w22 λx31=>
Ad prog F.Hz [.pointer (some p7),.iface T.Ci (Rl aU x31),.bool r11.2.1.1] w22 true [] λr32 w33=>
Bh (λ(J34:Unit→WP)=>
Aw (λ(self37:Unit→WP) (z38:Unit) w39=> ∀_:Nat→Value,
ld1 .sl p7 w39 λx40=>
Aj (decide ((x40.2.1:Int)<3)) (
A7 n λa41=>
ld1 .p (a41.add 27) w39 λx42=>
Ad prog F.Fg [.pointer x42] w39 true mZ λr43 w44=>
Aj (!r43.2.1.1) (
J34 (()) w44) (
ivK prog r43.1.1 "angelus/node.made" [.pointer n,iV r1.1.1] w44 true mZ λr45 w46=>
Ad prog F.Hz [.pointer (some p7),r45.1.1,.bool r45.2.1.1] w46 true [] λr47 w48=>
self37 (()) w48)) (
J34 (()) w39)) (()) w33) (λ(z35:Unit) w36=> ∀_:Nat→Value,
Bh (λ(J49:((Bool)×Unit)→WP)=>
A7 n λa52=>
ld1 .p (a52.add 15) w36 λx53=>
Ad prog F.Az [.pointer x53] w36 false r0' λr54 w55=>
Aj (!r54.1.1) (
ld1 .sl p7 w55 λx56=>
J49 (decide ((x56.2.1:Int)<3),()) w55) (
J49 (false,()) w55)) (λ(z50:(Bool)×Unit) w51=> ∀_:Nat→Value,
Aj z50.1 (
Ad prog F.Oh [.pointer n,iV r1.1.1] w51 true mZ λr57 w58=>
Ad prog F.Hz [.pointer (some p7),r57.1.1,.bool r57.2.1.1] w58 true [] λr59 w60=>
ld1 .sl p7 w60 λx61=>
R (((x61.1,x61.2.1,x61.2.2),()),(0,()),()) w60) (
ld1 .sl p7 w51 λx62=>
R (((x62.1,x62.2.1,x62.2.2),()),(0,()),()) w51)))))))→Ad prog F.Hm [.pointer n,iV step,iV jitter] w true iR R:=
 Cb Aa Tryz.func101 (hs 6 (.ct [] .n (.s .n (.ct [] (.lp [] .n) (.s (.ct [(94,.b)] .n .n) .n)))))
theorem Hr.ok{l:Option Addr}{w:World}: ∀⦃R:TR r3'→WP⦄,(
Aj (Option.isNone l) (
R ((0,()),()) w) (
A7 l λa1=>
ld1 KI a1 w λx2=>
R ((x2,()),()) w))→Ad prog F.Hr [.pointer l] w false r3' R:=
 Cb Aa Tryz.func102 .n
end Go.Proofs.YtppeepkmnijdpaaGreatDoor
