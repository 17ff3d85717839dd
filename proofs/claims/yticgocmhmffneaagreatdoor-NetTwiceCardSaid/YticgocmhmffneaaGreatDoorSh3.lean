import Derived.Test.YticgocmhmffneaaGreatDoorNm
namespace Go.Proofs.YticgocmhmffneaaGreatDoor
open Go.Eng Tryz
open Go.IntKind (wrap)
set_option linter.unusedSimpArgs false
set_option linter.unusedVariables false
set_option maxRecDepth 100000
set_option maxHeartbeats 8000000
def La.wp(f:Option Addr)(local_:Int)(w:World)(R:TR [(true,[(.i .i64),(.i .i64),(.i .u16),(.i .u16),(.i .i64),(.i .i64)]),(false,[.b])]→WP):Prop:=
Bf [.int .i64 0,.int .i64 0,.int .u16 0,.int .u16 0,.int .i64 0,.int .i64 0] T.Dy w fun p1 w2=>
Aq f fun a3=>
ld1 .p a3 w2 fun x4=>
Ae prog F.Bc [.pointer x4] w2 false [(false,[.b])] fun r5 w6=>
Aj r5.1.1 (
Aq f fun a7=>
ld1 .p a7 w6 fun x8=>
Ae prog F.I5 [.pointer x8] w6 true [(true,[(.i .u16),(.i .u16)]),(false,[.b])] fun r9 w10=>
Bf [.int .u16 0,.int .u16 0] T.Ti w10 fun p11 w12=>
Au [.int .u16 r9.1.1,.int .u16 r9.1.2.1] p11 0 w12 fun w13=>
Jg w13 fun w14=>
Aq f fun a15=>
ld1 (.i .i64) (a15.add 1) w14 fun x16=>
Aq f fun a17=>
ld1 (.i .i64) (a17.add 1) w14 fun x18=>
ld1 (.i .u16) p11 w14 fun x19=>
ld1 (.i .u16) (p11.add 1) w14 fun x20=>
Au [.int .i64 x16,.int .i64 x18,.int .u16 x19,.int .u16 x20,.int .i64 0,.int .i64 local_] p1 0 w14 fun w21=>
Aw [] w21∧(
A8 [(.i .i64),(.i .i64),(.i .u16),(.i .u16),(.i .i64),(.i .i64)] p1 0 w21 fun x22=>
R ((x22.1,x22.2.1,x22.2.2.1,x22.2.2.2.1,x22.2.2.2.2.1,x22.2.2.2.2.2.1,()),(true,()),()) w21)) (
Ae prog F.Ba [.pointer f] w6 false [(false,[.b])] fun r23 w24=>
Aj (!r23.1.1) (
Au [.int .i64 0,.int .i64 0,.int .u16 0,.int .u16 0,.int .i64 0,.int .i64 0] p1 0 w24 fun w25=>
A8 [(.i .i64),(.i .i64),(.i .u16),(.i .u16),(.i .i64),(.i .i64)] p1 0 w25 fun x26=>
R ((x26.1,x26.2.1,x26.2.2.1,x26.2.2.2.1,x26.2.2.2.2.1,x26.2.2.2.2.2.1,()),(false,()),()) w25) (
Aq f fun a27=>
ld1 .p a27 w24 fun x28=>
Ae prog F.Hl [.pointer x28] w24 true [(true,[(.i .u16),(.i .u16)]),(false,[.b])] fun r29 w30=>
Bf [.int .u16 0,.int .u16 0] T.Ti w30 fun p31 w32=>
Au [.int .u16 r29.1.1,.int .u16 r29.1.2.1] p31 0 w32 fun w33=>
Cc (fun(J34:((Addr)×Unit)→WP)=>
Jg w33 fun w37=>
Aq f fun a38=>
ld1 (.i .i64) (a38.add 1) w37 fun x39=>
Aq f fun a40=>
ld1 .p a40 w37 fun x41=>
ld1 (.i .u16) p31 w37 fun x42=>
ld1 (.i .u16) (p31.add 1) w37 fun x43=>
Aq f fun a44=>
ld1 (.i .i64) ((a44.add 7).add 2) w37 fun x45=>
Aq f fun a46=>
ld1 (.i .i64) ((a46.add 7).add 1) w37 fun x47=>
Aq f fun a48=>
ld1 (.i .i64) (a48.add 7) w37 fun x49=>
(
Ae prog F.Dc [.pointer x41] w37 false [(false,[(.i .i64)])] fun r50 w51=>
Aw [(29,(a48.add 7),(w37.cell? (a48.add 7)).getD undef),(22,((a46.add 7).add 1),(w37.cell? ((a46.add 7).add 1)).getD undef),(17,((a44.add 7).add 2),(w37.cell? ((a44.add 7).add 2)).getD undef),(12,(p31.add 1),(w37.cell? (p31.add 1)).getD undef),(10,p31,(w37.cell? p31).getD undef),(7,a40,(w37.cell? a40).getD undef),(3,(a38.add 1),(w37.cell? (a38.add 1)).getD undef)] w51∧(
Bf [.int .i64 0,.int .i64 0,.int .u16 0,.int .u16 0,.int .i64 0,.int .i64 0] T.Dy w51 fun p52 w53=>
Aw [(29,(a48.add 7),(w37.cell? (a48.add 7)).getD undef),(22,((a46.add 7).add 1),(w37.cell? ((a46.add 7).add 1)).getD undef),(17,((a44.add 7).add 2),(w37.cell? ((a44.add 7).add 2)).getD undef),(12,(p31.add 1),(w37.cell? (p31.add 1)).getD undef),(10,p31,(w37.cell? p31).getD undef),(7,a40,(w37.cell? a40).getD undef),(3,(a38.add 1),(w37.cell? (a38.add 1)).getD undef)] w53∧(
Au [.int .i64 x39,.int .i64 r50.1.1,.int .u16 x42,.int .u16 x43,.int .i64 x45,.int .i64 (wrap .i64 ((wrap .i64 (x47+local_))-x49))] p52 0 w53 fun w54=>
Aw [] w54∧(
J34 (p52,()) w54))))∧(
Bf [.int .i64 0,.int .i64 0,.int .u16 0,.int .u16 0,.int .i64 0,.int .i64 0] T.Dy w37 fun p55 w56=>
Aw [(29,(a48.add 7),(w37.cell? (a48.add 7)).getD undef),(22,((a46.add 7).add 1),(w37.cell? ((a46.add 7).add 1)).getD undef),(17,((a44.add 7).add 2),(w37.cell? ((a44.add 7).add 2)).getD undef),(12,(p31.add 1),(w37.cell? (p31.add 1)).getD undef),(10,p31,(w37.cell? p31).getD undef),(7,a40,(w37.cell? a40).getD undef),(3,(a38.add 1),(w37.cell? (a38.add 1)).getD undef)] w56∧(
Ae prog F.Dc [.pointer x41] w56 false [(false,[(.i .i64)])] fun r57 w58=>
Aw [(29,(a48.add 7),(w37.cell? (a48.add 7)).getD undef),(22,((a46.add 7).add 1),(w37.cell? ((a46.add 7).add 1)).getD undef),(17,((a44.add 7).add 2),(w37.cell? ((a44.add 7).add 2)).getD undef),(12,(p31.add 1),(w37.cell? (p31.add 1)).getD undef),(10,p31,(w37.cell? p31).getD undef),(3,(a38.add 1),(w37.cell? (a38.add 1)).getD undef)] w58∧(
Au [.int .i64 x39,.int .i64 r57.1.1,.int .u16 x42,.int .u16 x43,.int .i64 x45,.int .i64 (wrap .i64 ((wrap .i64 (x47+local_))-x49))] p55 0 w58 fun w59=>
Aw [] w59∧(
J34 (p55,()) w59))))) (fun(z35:(Addr)×Unit) w36=> ∀_:Nat→Value,
Jg w36 fun w60=>
A8 [(.i .i64),(.i .i64),(.i .u16),(.i .u16),(.i .i64),(.i .i64)] z35.1 0 w60 fun x61=>
A8 [(.i .i64),(.i .i64),(.i .u16),(.i .u16),(.i .i64),(.i .i64)] z35.1 0 w60 fun x62=>
Ae prog F.Ew [.iface T.Dy (.agg #[.int .i64 x62.1,.int .i64 x62.2.1,.int .u16 x62.2.2.1,.int .u16 x62.2.2.2.1,.int .i64 x62.2.2.2.2.1,.int .i64 x62.2.2.2.2.2.1])] w60 false [(false,[.b])] fun r63 kJ=>
Aw [(1,(z35.1.add 0),(w60.cell? (z35.1.add 0)).getD undef),(1,(z35.1.add 1),(w60.cell? (z35.1.add 1)).getD undef),(1,(z35.1.add 2),(w60.cell? (z35.1.add 2)).getD undef),(1,(z35.1.add 3),(w60.cell? (z35.1.add 3)).getD undef),(1,(z35.1.add 4),(w60.cell? (z35.1.add 4)).getD undef),(1,(z35.1.add 5),(w60.cell? (z35.1.add 5)).getD undef),(0,(z35.1.add 0),(w60.cell? (z35.1.add 0)).getD undef),(0,(z35.1.add 1),(w60.cell? (z35.1.add 1)).getD undef),(0,(z35.1.add 2),(w60.cell? (z35.1.add 2)).getD undef),(0,(z35.1.add 3),(w60.cell? (z35.1.add 3)).getD undef),(0,(z35.1.add 4),(w60.cell? (z35.1.add 4)).getD undef),(0,(z35.1.add 5),(w60.cell? (z35.1.add 5)).getD undef)] kJ∧(
Au [.int .i64 x61.1,.int .i64 x61.2.1,.int .u16 x61.2.2.1,.int .u16 x61.2.2.2.1,.int .i64 x61.2.2.2.2.1,.int .i64 x61.2.2.2.2.2.1] p1 0 kJ fun w65=>
Aw [(1,(z35.1.add 0),(w60.cell? (z35.1.add 0)).getD undef),(1,(z35.1.add 1),(w60.cell? (z35.1.add 1)).getD undef),(1,(z35.1.add 2),(w60.cell? (z35.1.add 2)).getD undef),(1,(z35.1.add 3),(w60.cell? (z35.1.add 3)).getD undef),(1,(z35.1.add 4),(w60.cell? (z35.1.add 4)).getD undef),(1,(z35.1.add 5),(w60.cell? (z35.1.add 5)).getD undef)] w65∧(
A8 [(.i .i64),(.i .i64),(.i .u16),(.i .u16),(.i .i64),(.i .i64)] p1 0 w65 fun x66=>
R ((x66.1,x66.2.1,x66.2.2.1,x66.2.2.2.1,x66.2.2.2.2.1,x66.2.2.2.2.2.1,()),(r63.1.1,()),()) w65)))))
theorem La.eq(f:Option Addr)(local_:Int)(w:World)(R:Value→WP):A7 prog Tryz.f260 (.s .n (.s (.s .n (.s (.s .n (.s (.pl (.tk 0 (.tk 1 (.tk 2 (.tk 3 (.tk 4 (.tk 5 (.tk 6 (.tk 7 (.tk 8 (.tk 9 (.tk 10 (.tk 11 (.tk 12 (.tk 13 (.ef 14 [3,7,9,11] (.tk 15 .z))))))))))))))))) .n)) .n)) (.s .n (.s .n (.ct [(10,.a)] (.pl (.tk 0 (.tk 1 (.tk 2 (.tk 3 (.tk 4 (.tk 5 (.tk 6 (.tk 7 (.tk 9 (.tk 10 (.tk 11 (.tk 12 (.tk 13 (.tk 14 (.tk 15 (.tk 16 (.tk 17 (.tk 18 (.tk 19 (.tk 20 (.tk 21 (.tk 22 (.tk 23 (.tk 24 (.tk 25 (.tk 26 (.tk 27 (.tk 28 (.tk 29 (.tk 30 (.two 8 32 (.tk 31 (.ef 32 [] (.ef 33 [3,7,10,12,17,22,29] .z))) (.ef 8 [7] (.tk 31 (.ef 33 [3,10,12,17,22,29] .z))))))))))))))))))))))))))))))))))) (.s (.pl (.tk 0 (.tk 1 (.tk 2 (.ef 3 [] (.ef 4 [0] (.tk 5 .z))))))) .n)))))) [.pointer f,.int .i64 local_] w R=La.wp f local_ w (fun r w=>R (encR true [(true,[(.i .i64),(.i .i64),(.i .u16),(.i .u16),(.i .i64),(.i .i64)]),(false,[.b])] r) w):=by kernel_rfl
theorem La.ok{f:Option Addr}{local_:Int}{w:World}{R:TR [(true,[(.i .i64),(.i .i64),(.i .u16),(.i .u16),(.i .i64),(.i .i64)]),(false,[.b])]→WP}(h:La.wp f local_ w R):Ae prog F.La [.pointer f,.int .i64 local_] w true [(true,[(.i .i64),(.i .i64),(.i .u16),(.i .u16),(.i .i64),(.i .i64)]),(false,[.b])] R:=
  Aop Aa Tryz.func260 (fun R=>La.wp f local_ w R) (La.eq f local_ w) rfl h
def Pn.wp(f0:Int)(f1:Int)(f2:Int)(f3:Int)(f4:Int)(f5:Int)(w:World)(R:TR [(false,[.sl]),(false,[(.i .i64)])]→WP):Prop:=
Ae prog F.Ew [.iface T.Bh (.agg #[.int .i64 f0,.int .u16 f1,.int .i64 f2,.int .u16 f3,.int .i64 f4,.int .i64 f5])] w false [(false,[.b])] fun r1 w2=>
Aj (!r1.1.1) (
R (((none,0,0),()),(1,()),()) w2) (
Bf [.slice none 0 0] T.aF w2 fun p3 w4=>
Ae prog F.Fa [.iface T.Bh (.agg #[.int .i64 f0,.int .u16 f1,.int .i64 f2,.int .u16 f3,.int .i64 f4,.int .i64 f5])] w4 false [(false,[(.i .u8)])] fun r5 w6=>
Ae prog F.Bv [.pointer (some p3),.int .i64 1,.int .u64 (wrap .u64 r5.1.1)] w6 false [(false,[.p])] fun r7 w8=>
Ae prog F.Dt [.agg #[.int .i64 f0,.int .u16 f1,.int .i64 f2,.int .u16 f3,.int .i64 f4,.int .i64 f5]] w8 false [(false,[.sl])] fun r9 w10=>
Ci (fun(self11:((Int)×Unit)→WP) (z12:(Int)×Unit) w13=> ∀_:Nat→Value,
Aj (decide (z12.1<(r9.1.1.2.1:Int))) (
Ny r9.1.1.1 r9.1.1.2.1 z12.1 fun a14=>
A8 [(.i .i64),(.i .i64),(.i .i64)] (a14.add (z12.1.toNat*3)) 0 w13 fun x15=>
Bf [.int .i64 0,.int .i64 0,.int .i64 0] T.Dl w13 fun p16 w17=>
Au [.int .i64 x15.1,.int .i64 x15.2.1,.int .i64 x15.2.2.1] p16 0 w17 fun w18=>
ld1 (.i .i64) p16 w18 fun x19=>
ld1 (.i .i64) (p16.add 1) w18 fun x20=>
Ae prog F.Bv [.pointer (some p3),.int .i64 x19,.int .u64 (wrap .u64 x20)] w18 false [(false,[.p])] fun r21 w22=>
self11 (wrap .i64 (z12.1+1),()) w22) (
Ae prog F.Fj [.pointer (some p3)] w13 false [(false,[.sl])] fun r23 w24=>
Ae prog F.Tz [.slice r23.1.1.1 r23.1.1.2.1 r23.1.1.2.2] w24 false [(false,[.sl])] fun r25 w26=>
R (((r25.1.1.1,r25.1.1.2.1,r25.1.1.2.2),()),(0,()),()) w26)) (0,()) w10)
theorem Pn.eq(f0:Int)(f1:Int)(f2:Int)(f3:Int)(f4:Int)(f5:Int)(w:World)(R:Value→WP):A7 prog Tryz.f261 (.s .n (.s .n (.s .n (.s .n (.s (.s .n (.lp [(17,(.i .i64))] .n)) .n))))) [.iface T.Bh (.agg #[.int .i64 f0,.int .u16 f1,.int .i64 f2,.int .u16 f3,.int .i64 f4,.int .i64 f5])] w R=Pn.wp f0 f1 f2 f3 f4 f5 w (fun r w=>R (encR true [(false,[.sl]),(false,[(.i .i64)])] r) w):=by kernel_rfl
theorem Pn.ok{f0:Int}{f1:Int}{f2:Int}{f3:Int}{f4:Int}{f5:Int}{w:World}{R:TR [(false,[.sl]),(false,[(.i .i64)])]→WP}(h:Pn.wp f0 f1 f2 f3 f4 f5 w R):Ae prog F.Il [.iface T.Bh (.agg #[.int .i64 f0,.int .u16 f1,.int .i64 f2,.int .u16 f3,.int .i64 f4,.int .i64 f5])] w true [(false,[.sl]),(false,[(.i .i64)])] R:=
  Aop Aa Tryz.func261 (fun R=>Pn.wp f0 f1 f2 f3 f4 f5 w R) (Pn.eq f0 f1 f2 f3 f4 f5 w) rfl h
def G8.wp(f0:Int)(f1:Int)(f2:Int)(f3:Int)(f4:Int)(f5:Int)(w:World)(R:TR [(false,[.sl]),(false,[(.i .i64)])]→WP):Prop:=
Ae prog F.Ew [.iface T.Dy (.agg #[.int .i64 f0,.int .i64 f1,.int .u16 f2,.int .u16 f3,.int .i64 f4,.int .i64 f5])] w false [(false,[.b])] fun r1 w2=>
Aj (!r1.1.1) (
R (((none,0,0),()),(1,()),()) w2) (
Bf [.slice none 0 0] T.aF w2 fun p3 w4=>
Ae prog F.Fa [.iface T.Dy (.agg #[.int .i64 f0,.int .i64 f1,.int .u16 f2,.int .u16 f3,.int .i64 f4,.int .i64 f5])] w4 false [(false,[(.i .u8)])] fun r5 w6=>
Ae prog F.Bv [.pointer (some p3),.int .i64 1,.int .u64 (wrap .u64 r5.1.1)] w6 false [(false,[.p])] fun r7 w8=>
Ae prog F.Dh [.agg #[.int .i64 f0,.int .i64 f1,.int .u16 f2,.int .u16 f3,.int .i64 f4,.int .i64 f5]] w8 false [(false,[.sl])] fun r9 w10=>
Ci (fun(self11:((Int)×Unit)→WP) (z12:(Int)×Unit) w13=> ∀_:Nat→Value,
Aj (decide (z12.1<(r9.1.1.2.1:Int))) (
Ny r9.1.1.1 r9.1.1.2.1 z12.1 fun a14=>
A8 [(.i .i64),(.i .i64),(.i .i64)] (a14.add (z12.1.toNat*3)) 0 w13 fun x15=>
Bf [.int .i64 0,.int .i64 0,.int .i64 0] T.Dl w13 fun p16 w17=>
Au [.int .i64 x15.1,.int .i64 x15.2.1,.int .i64 x15.2.2.1] p16 0 w17 fun w18=>
ld1 (.i .i64) p16 w18 fun x19=>
ld1 (.i .i64) (p16.add 1) w18 fun x20=>
Ae prog F.Bv [.pointer (some p3),.int .i64 x19,.int .u64 (wrap .u64 x20)] w18 false [(false,[.p])] fun r21 w22=>
self11 (wrap .i64 (z12.1+1),()) w22) (
Ae prog F.Fj [.pointer (some p3)] w13 false [(false,[.sl])] fun r23 w24=>
Ae prog F.Tz [.slice r23.1.1.1 r23.1.1.2.1 r23.1.1.2.2] w24 false [(false,[.sl])] fun r25 w26=>
R (((r25.1.1.1,r25.1.1.2.1,r25.1.1.2.2),()),(0,()),()) w26)) (0,()) w10)
theorem G8.eq(f0:Int)(f1:Int)(f2:Int)(f3:Int)(f4:Int)(f5:Int)(w:World)(R:Value→WP):A7 prog Tryz.f261 (.s .n (.s .n (.s .n (.s .n (.s (.s .n (.lp [(17,(.i .i64))] .n)) .n))))) [.iface T.Dy (.agg #[.int .i64 f0,.int .i64 f1,.int .u16 f2,.int .u16 f3,.int .i64 f4,.int .i64 f5])] w R=G8.wp f0 f1 f2 f3 f4 f5 w (fun r w=>R (encR true [(false,[.sl]),(false,[(.i .i64)])] r) w):=by kernel_rfl
theorem G8.ok{f0:Int}{f1:Int}{f2:Int}{f3:Int}{f4:Int}{f5:Int}{w:World}{R:TR [(false,[.sl]),(false,[(.i .i64)])]→WP}(h:G8.wp f0 f1 f2 f3 f4 f5 w R):Ae prog F.Il [.iface T.Dy (.agg #[.int .i64 f0,.int .i64 f1,.int .u16 f2,.int .u16 f3,.int .i64 f4,.int .i64 f5])] w true [(false,[.sl]),(false,[(.i .i64)])] R:=
  Aop Aa Tryz.func261 (fun R=>G8.wp f0 f1 f2 f3 f4 f5 w R) (G8.eq f0 f1 f2 f3 f4 f5 w) rfl h
def Qm.wp(f0:Int)(f1:Int)(w:World)(R:TR [(false,[.sl]),(false,[(.i .i64)])]→WP):Prop:=
Ae prog F.Ew [.iface T.Gj (.agg #[.int .i64 f0,.int .i64 f1])] w false [(false,[.b])] fun r1 w2=>
Aj (!r1.1.1) (
R (((none,0,0),()),(1,()),()) w2) (
Bf [.slice none 0 0] T.aF w2 fun p3 w4=>
Ae prog F.Fa [.iface T.Gj (.agg #[.int .i64 f0,.int .i64 f1])] w4 false [(false,[(.i .u8)])] fun r5 w6=>
Ae prog F.Bv [.pointer (some p3),.int .i64 1,.int .u64 (wrap .u64 r5.1.1)] w6 false [(false,[.p])] fun r7 w8=>
Ae prog F.Ic [.agg #[.int .i64 f0,.int .i64 f1]] w8 false [(false,[.sl])] fun r9 w10=>
Ci (fun(self11:((Int)×Unit)→WP) (z12:(Int)×Unit) w13=> ∀_:Nat→Value,
Aj (decide (z12.1<(r9.1.1.2.1:Int))) (
Ny r9.1.1.1 r9.1.1.2.1 z12.1 fun a14=>
A8 [(.i .i64),(.i .i64),(.i .i64)] (a14.add (z12.1.toNat*3)) 0 w13 fun x15=>
Bf [.int .i64 0,.int .i64 0,.int .i64 0] T.Dl w13 fun p16 w17=>
Au [.int .i64 x15.1,.int .i64 x15.2.1,.int .i64 x15.2.2.1] p16 0 w17 fun w18=>
ld1 (.i .i64) p16 w18 fun x19=>
ld1 (.i .i64) (p16.add 1) w18 fun x20=>
Ae prog F.Bv [.pointer (some p3),.int .i64 x19,.int .u64 (wrap .u64 x20)] w18 false [(false,[.p])] fun r21 w22=>
self11 (wrap .i64 (z12.1+1),()) w22) (
Ae prog F.Fj [.pointer (some p3)] w13 false [(false,[.sl])] fun r23 w24=>
Ae prog F.Tz [.slice r23.1.1.1 r23.1.1.2.1 r23.1.1.2.2] w24 false [(false,[.sl])] fun r25 w26=>
R (((r25.1.1.1,r25.1.1.2.1,r25.1.1.2.2),()),(0,()),()) w26)) (0,()) w10)
theorem Qm.eq(f0:Int)(f1:Int)(w:World)(R:Value→WP):A7 prog Tryz.f261 (.s .n (.s .n (.s .n (.s .n (.s (.s .n (.lp [(17,(.i .i64))] .n)) .n))))) [.iface T.Gj (.agg #[.int .i64 f0,.int .i64 f1])] w R=Qm.wp f0 f1 w (fun r w=>R (encR true [(false,[.sl]),(false,[(.i .i64)])] r) w):=by kernel_rfl
theorem Qm.ok{f0:Int}{f1:Int}{w:World}{R:TR [(false,[.sl]),(false,[(.i .i64)])]→WP}(h:Qm.wp f0 f1 w R):Ae prog F.Il [.iface T.Gj (.agg #[.int .i64 f0,.int .i64 f1])] w true [(false,[.sl]),(false,[(.i .i64)])] R:=
  Aop Aa Tryz.func261 (fun R=>Qm.wp f0 f1 w R) (Qm.eq f0 f1 w) rfl h
def G9.wp(f0:Int)(w:World)(R:TR [(false,[.sl]),(false,[(.i .i64)])]→WP):Prop:=
Ae prog F.Ew [.iface T.Gp (.agg #[.int .i64 f0])] w false [(false,[.b])] fun r1 w2=>
Aj (!r1.1.1) (
R (((none,0,0),()),(1,()),()) w2) (
Bf [.slice none 0 0] T.aF w2 fun p3 w4=>
Ae prog F.Fa [.iface T.Gp (.agg #[.int .i64 f0])] w4 false [(false,[(.i .u8)])] fun r5 w6=>
Ae prog F.Bv [.pointer (some p3),.int .i64 1,.int .u64 (wrap .u64 r5.1.1)] w6 false [(false,[.p])] fun r7 w8=>
Ae prog F.D8 [.agg #[.int .i64 f0]] w8 false [(false,[.sl])] fun r9 w10=>
Ci (fun(self11:((Int)×Unit)→WP) (z12:(Int)×Unit) w13=> ∀_:Nat→Value,
Aj (decide (z12.1<(r9.1.1.2.1:Int))) (
Ny r9.1.1.1 r9.1.1.2.1 z12.1 fun a14=>
A8 [(.i .i64),(.i .i64),(.i .i64)] (a14.add (z12.1.toNat*3)) 0 w13 fun x15=>
Bf [.int .i64 0,.int .i64 0,.int .i64 0] T.Dl w13 fun p16 w17=>
Au [.int .i64 x15.1,.int .i64 x15.2.1,.int .i64 x15.2.2.1] p16 0 w17 fun w18=>
ld1 (.i .i64) p16 w18 fun x19=>
ld1 (.i .i64) (p16.add 1) w18 fun x20=>
Ae prog F.Bv [.pointer (some p3),.int .i64 x19,.int .u64 (wrap .u64 x20)] w18 false [(false,[.p])] fun r21 w22=>
self11 (wrap .i64 (z12.1+1),()) w22) (
Ae prog F.Fj [.pointer (some p3)] w13 false [(false,[.sl])] fun r23 w24=>
Ae prog F.Tz [.slice r23.1.1.1 r23.1.1.2.1 r23.1.1.2.2] w24 false [(false,[.sl])] fun r25 w26=>
R (((r25.1.1.1,r25.1.1.2.1,r25.1.1.2.2),()),(0,()),()) w26)) (0,()) w10)
theorem G9.eq(f0:Int)(w:World)(R:Value→WP):A7 prog Tryz.f261 (.s .n (.s .n (.s .n (.s .n (.s (.s .n (.lp [(17,(.i .i64))] .n)) .n))))) [.iface T.Gp (.agg #[.int .i64 f0])] w R=G9.wp f0 w (fun r w=>R (encR true [(false,[.sl]),(false,[(.i .i64)])] r) w):=by kernel_rfl
theorem G9.ok{f0:Int}{w:World}{R:TR [(false,[.sl]),(false,[(.i .i64)])]→WP}(h:G9.wp f0 w R):Ae prog F.Il [.iface T.Gp (.agg #[.int .i64 f0])] w true [(false,[.sl]),(false,[(.i .i64)])] R:=
  Aop Aa Tryz.func261 (fun R=>G9.wp f0 w R) (G9.eq f0 w) rfl h
def Qa.wp(f0:Int)(f1:Int)(f2:Int)(w:World)(R:TR [(false,[.sl]),(false,[(.i .i64)])]→WP):Prop:=
Ae prog F.Ew [.iface T.Ef (.agg #[.int .i64 f0,.int .i64 f1,.int .i64 f2])] w false [(false,[.b])] fun r1 w2=>
Aj (!r1.1.1) (
R (((none,0,0),()),(1,()),()) w2) (
Bf [.slice none 0 0] T.aF w2 fun p3 w4=>
Ae prog F.Fa [.iface T.Ef (.agg #[.int .i64 f0,.int .i64 f1,.int .i64 f2])] w4 false [(false,[(.i .u8)])] fun r5 w6=>
Ae prog F.Bv [.pointer (some p3),.int .i64 1,.int .u64 (wrap .u64 r5.1.1)] w6 false [(false,[.p])] fun r7 w8=>
Ae prog F.He [.agg #[.int .i64 f0,.int .i64 f1,.int .i64 f2]] w8 false [(false,[.sl])] fun r9 w10=>
Ci (fun(self11:((Int)×Unit)→WP) (z12:(Int)×Unit) w13=> ∀_:Nat→Value,
Aj (decide (z12.1<(r9.1.1.2.1:Int))) (
Ny r9.1.1.1 r9.1.1.2.1 z12.1 fun a14=>
A8 [(.i .i64),(.i .i64),(.i .i64)] (a14.add (z12.1.toNat*3)) 0 w13 fun x15=>
Bf [.int .i64 0,.int .i64 0,.int .i64 0] T.Dl w13 fun p16 w17=>
Au [.int .i64 x15.1,.int .i64 x15.2.1,.int .i64 x15.2.2.1] p16 0 w17 fun w18=>
ld1 (.i .i64) p16 w18 fun x19=>
ld1 (.i .i64) (p16.add 1) w18 fun x20=>
Ae prog F.Bv [.pointer (some p3),.int .i64 x19,.int .u64 (wrap .u64 x20)] w18 false [(false,[.p])] fun r21 w22=>
self11 (wrap .i64 (z12.1+1),()) w22) (
Ae prog F.Fj [.pointer (some p3)] w13 false [(false,[.sl])] fun r23 w24=>
Ae prog F.Tz [.slice r23.1.1.1 r23.1.1.2.1 r23.1.1.2.2] w24 false [(false,[.sl])] fun r25 w26=>
R (((r25.1.1.1,r25.1.1.2.1,r25.1.1.2.2),()),(0,()),()) w26)) (0,()) w10)
theorem Qa.eq(f0:Int)(f1:Int)(f2:Int)(w:World)(R:Value→WP):A7 prog Tryz.f261 (.s .n (.s .n (.s .n (.s .n (.s (.s .n (.lp [(17,(.i .i64))] .n)) .n))))) [.iface T.Ef (.agg #[.int .i64 f0,.int .i64 f1,.int .i64 f2])] w R=Qa.wp f0 f1 f2 w (fun r w=>R (encR true [(false,[.sl]),(false,[(.i .i64)])] r) w):=by kernel_rfl
theorem Qa.ok{f0:Int}{f1:Int}{f2:Int}{w:World}{R:TR [(false,[.sl]),(false,[(.i .i64)])]→WP}(h:Qa.wp f0 f1 f2 w R):Ae prog F.Il [.iface T.Ef (.agg #[.int .i64 f0,.int .i64 f1,.int .i64 f2])] w true [(false,[.sl]),(false,[(.i .i64)])] R:=
  Aop Aa Tryz.func261 (fun R=>Qa.wp f0 f1 f2 w R) (Qa.eq f0 f1 f2 w) rfl h
def P9.wp(f0:Int)(f1:Int)(f2:Int)(f3:Int)(f4:Int)(f5:Int)(f6:Int)(f7:Int)(w:World)(R:TR [(false,[.sl]),(false,[(.i .i64)])]→WP):Prop:=
Ae prog F.Ew [.iface T.Gl (.agg #[.int .i64 f0,.int .i64 f1,.int .i64 f2,.int .i64 f3,.int .i64 f4,.int .i64 f5,.int .u16 f6,.int .i64 f7])] w false [(false,[.b])] fun r1 w2=>
Aj (!r1.1.1) (
R (((none,0,0),()),(1,()),()) w2) (
Bf [.slice none 0 0] T.aF w2 fun p3 w4=>
Ae prog F.Fa [.iface T.Gl (.agg #[.int .i64 f0,.int .i64 f1,.int .i64 f2,.int .i64 f3,.int .i64 f4,.int .i64 f5,.int .u16 f6,.int .i64 f7])] w4 false [(false,[(.i .u8)])] fun r5 w6=>
Ae prog F.Bv [.pointer (some p3),.int .i64 1,.int .u64 (wrap .u64 r5.1.1)] w6 false [(false,[.p])] fun r7 w8=>
Ae prog F.G7 [.agg #[.int .i64 f0,.int .i64 f1,.int .i64 f2,.int .i64 f3,.int .i64 f4,.int .i64 f5,.int .u16 f6,.int .i64 f7]] w8 false [(false,[.sl])] fun r9 w10=>
Ci (fun(self11:((Int)×Unit)→WP) (z12:(Int)×Unit) w13=> ∀_:Nat→Value,
Aj (decide (z12.1<(r9.1.1.2.1:Int))) (
Ny r9.1.1.1 r9.1.1.2.1 z12.1 fun a14=>
A8 [(.i .i64),(.i .i64),(.i .i64)] (a14.add (z12.1.toNat*3)) 0 w13 fun x15=>
Bf [.int .i64 0,.int .i64 0,.int .i64 0] T.Dl w13 fun p16 w17=>
Au [.int .i64 x15.1,.int .i64 x15.2.1,.int .i64 x15.2.2.1] p16 0 w17 fun w18=>
ld1 (.i .i64) p16 w18 fun x19=>
ld1 (.i .i64) (p16.add 1) w18 fun x20=>
Ae prog F.Bv [.pointer (some p3),.int .i64 x19,.int .u64 (wrap .u64 x20)] w18 false [(false,[.p])] fun r21 w22=>
self11 (wrap .i64 (z12.1+1),()) w22) (
Ae prog F.Fj [.pointer (some p3)] w13 false [(false,[.sl])] fun r23 w24=>
Ae prog F.Tz [.slice r23.1.1.1 r23.1.1.2.1 r23.1.1.2.2] w24 false [(false,[.sl])] fun r25 w26=>
R (((r25.1.1.1,r25.1.1.2.1,r25.1.1.2.2),()),(0,()),()) w26)) (0,()) w10)
theorem P9.eq(f0:Int)(f1:Int)(f2:Int)(f3:Int)(f4:Int)(f5:Int)(f6:Int)(f7:Int)(w:World)(R:Value→WP):A7 prog Tryz.f261 (.s .n (.s .n (.s .n (.s .n (.s (.s .n (.lp [(17,(.i .i64))] .n)) .n))))) [.iface T.Gl (.agg #[.int .i64 f0,.int .i64 f1,.int .i64 f2,.int .i64 f3,.int .i64 f4,.int .i64 f5,.int .u16 f6,.int .i64 f7])] w R=P9.wp f0 f1 f2 f3 f4 f5 f6 f7 w (fun r w=>R (encR true [(false,[.sl]),(false,[(.i .i64)])] r) w):=by kernel_rfl
theorem P9.ok{f0:Int}{f1:Int}{f2:Int}{f3:Int}{f4:Int}{f5:Int}{f6:Int}{f7:Int}{w:World}{R:TR [(false,[.sl]),(false,[(.i .i64)])]→WP}(h:P9.wp f0 f1 f2 f3 f4 f5 f6 f7 w R):Ae prog F.Il [.iface T.Gl (.agg #[.int .i64 f0,.int .i64 f1,.int .i64 f2,.int .i64 f3,.int .i64 f4,.int .i64 f5,.int .u16 f6,.int .i64 f7])] w true [(false,[.sl]),(false,[(.i .i64)])] R:=
  Aop Aa Tryz.func261 (fun R=>P9.wp f0 f1 f2 f3 f4 f5 f6 f7 w R) (P9.eq f0 f1 f2 f3 f4 f5 f6 f7 w) rfl h
def Qb.wp(p:Option Addr)(to:Int)(local_:Int)(w:World)(R:TR [(true,[(.i .i64),(.i .i64),(.i .i64)]),(false,[.b])]→WP):Prop:=
Bf [.int .i64 0,.int .i64 0,.int .i64 0] T.Ef w fun p1 w2=>
Aj (Option.isNone p) (
Au [.int .i64 0,.int .i64 0,.int .i64 0] p1 0 w2 fun w3=>
A8 [(.i .i64),(.i .i64),(.i .i64)] p1 0 w3 fun x4=>
R ((x4.1,x4.2.1,x4.2.2.1,()),(false,()),()) w3) (
Aq p fun a5=>
ld1 (.i .i64) a5 w2 fun x6=>
Bf [.int .i64 0,.int .i64 0,.int .i64 0] T.Ef w2 fun p7 w8=>
Au [.int .i64 x6,.int .i64 to,.int .i64 local_] p7 0 w8 fun w9=>
Aq p fun a10=>
ld1 .b (a10.add 3) w9 fun x11=>
Aj x11 (
Au [.int .i64 0,.int .i64 0,.int .i64 0] p1 0 w9 fun w12=>
A8 [(.i .i64),(.i .i64),(.i .i64)] p1 0 w12 fun x13=>
R ((x13.1,x13.2.1,x13.2.2.1,()),(false,()),()) w12) (
Aq p fun a14=>
ld1 (.i .i64) (a14.add 6) w9 fun x15=>
Aj (decide (x15>0)) (
Au [.int .i64 0,.int .i64 0,.int .i64 0] p1 0 w9 fun w16=>
A8 [(.i .i64),(.i .i64),(.i .i64)] p1 0 w16 fun x17=>
R ((x17.1,x17.2.1,x17.2.2.1,()),(false,()),()) w16) (
Aq p fun a18=>
ld1 (.i .i64) a18 w9 fun x19=>
Aj (to==x19) (
Au [.int .i64 0,.int .i64 0,.int .i64 0] p1 0 w9 fun w20=>
A8 [(.i .i64),(.i .i64),(.i .i64)] p1 0 w20 fun x21=>
R ((x21.1,x21.2.1,x21.2.2.1,()),(false,()),()) w20) (
A8 [(.i .i64),(.i .i64),(.i .i64)] p7 0 w9 fun x22=>
Ae prog F.Ew [.iface T.Ef (.agg #[.int .i64 x22.1,.int .i64 x22.2.1,.int .i64 x22.2.2.1])] w9 false [(false,[.b])] fun r23 w24=>
Aj (!r23.1.1) (
Au [.int .i64 0,.int .i64 0,.int .i64 0] p1 0 w24 fun w25=>
A8 [(.i .i64),(.i .i64),(.i .i64)] p1 0 w25 fun x26=>
R ((x26.1,x26.2.1,x26.2.2.1,()),(false,()),()) w25) (
Aq p fun a27=>
Au [.bool true] (a27.add 3) 0 w24 fun w28=>
Aq p fun a29=>
Au [.int .i64 0] (a29.add 4) 0 w28 fun w30=>
Aq p fun a31=>
Au [.int .i64 to] (a31.add 1) 0 w30 fun w32=>
Aq p fun a33=>
Au [.int .i64 local_] (a33.add 2) 0 w32 fun w34=>
A8 [(.i .i64),(.i .i64),(.i .i64)] p7 0 w34 fun x35=>
Au [.int .i64 x35.1,.int .i64 x35.2.1,.int .i64 x35.2.2.1] p1 0 w34 fun w36=>
A8 [(.i .i64),(.i .i64),(.i .i64)] p1 0 w36 fun x37=>
R ((x37.1,x37.2.1,x37.2.2.1,()),(true,()),()) w36)))))
theorem Qb.eq(p:Option Addr)(to:Int)(local_:Int)(w:World)(R:Value→WP):A7 prog Tryz.f262 .n [.pointer p,.int .i64 to,.int .i64 local_] w R=Qb.wp p to local_ w (fun r w=>R (encR true [(true,[(.i .i64),(.i .i64),(.i .i64)]),(false,[.b])] r) w):=by kernel_rfl
theorem Qb.ok{p:Option Addr}{to:Int}{local_:Int}{w:World}{R:TR [(true,[(.i .i64),(.i .i64),(.i .i64)]),(false,[.b])]→WP}(h:Qb.wp p to local_ w R):Ae prog F.Qb [.pointer p,.int .i64 to,.int .i64 local_] w true [(true,[(.i .i64),(.i .i64),(.i .i64)]),(false,[.b])] R:=
  Aop Aa Tryz.func262 (fun R=>Qb.wp p to local_ w R) (Qb.eq p to local_ w) rfl h
def V7.wp(drift:Int)(t:Option Addr)(w:World)(R:TR [(true,[(.i .i64),(.i .i64),(.i .i64),(.i .i64),(.i .i64)]),(false,[.b])]→WP):Prop:=
Bf [.int .i64 0,.int .i64 0,.int .i64 0,.int .i64 0,.int .i64 0] T.iO w fun p1 w2=>
Ae prog F.Dk [.pointer t] w2 false [(false,[(.i .i64)])] fun r3 w4=>
Aj (r3.1.1==0) (
Au [.int .i64 0,.int .i64 0,.int .i64 0,.int .i64 0,.int .i64 0] p1 0 w4 fun w5=>
A8 [(.i .i64),(.i .i64),(.i .i64),(.i .i64),(.i .i64)] p1 0 w5 fun x6=>
R ((x6.1,x6.2.1,x6.2.2.1,x6.2.2.2.1,x6.2.2.2.2.1,()),(false,()),()) w5) (
Bf [.int .i64 0] T.int w4 fun p7 w8=>
Bf [.int .i64 0] T.int w8 fun p9 w10=>
Au [.int .i64 0] p7 0 w10 fun w11=>
Au [.int .i64 0] p9 0 w11 fun w12=>
Ae prog F.Gv [.pointer t] w12 false [(false,[.any])] fun r13 w14=>
RfT prog r13.1.1 [(true,[(.i .i64),(.i .i64),(.i .i64)])] w14 (fun x15 k16 w17=>
Bf [.int .i64 0,.int .i64 0,.int .i64 0] T.Du w17 fun p23 w24=>
Au [.int .i64 x15.1.1,.int .i64 x15.1.2.1,.int .i64 x15.1.2.2.1] p23 0 w24 fun w25=>
k16 w25 fun go18 lv19 w20=>
ld1 (.i .i64) p7 w20 fun x26=>
ld1 (.i .i64) p23 w20 fun x27=>
Au [.int .i64 (wrap .i64 (x26+x27))] p7 0 w20 fun w28=>
ld1 (.i .i64) p9 w28 fun x29=>
ld1 (.i .i64) (p23.add 1) w28 fun x30=>
Au [.int .i64 (wrap .i64 (x29+x30))] p9 0 w28 fun w31=>
go18 w31) (fun D21 w22=>
ld1 (.i .i64) p7 w22 fun x32=>
Ae prog F.Oi [.int .i64 x32,.int .i64 r3.1.1] w22 true [(false,[(.i .i64)]),(false,[(.i .i64)]),(false,[.b])] fun r33 w34=>
Au [.int .i64 r33.1.1] p7 0 w34 fun w35=>
ld1 (.i .i64) p9 w35 fun x36=>
Ae prog F.Oi [.int .i64 x36,.int .i64 r3.1.1] w35 true [(false,[(.i .i64)]),(false,[(.i .i64)]),(false,[.b])] fun r37 w38=>
Au [.int .i64 r37.1.1] p9 0 w38 fun w39=>
Jg w39 fun w40=>
ld1 (.i .i64) p7 w40 fun x41=>
ld1 (.i .i64) p9 w40 fun x42=>
Ae prog F.Jr [.pointer t] w40 false [(false,[.sl])] fun r43 w44=>
Aw [(1,p9,(w40.cell? p9).getD undef),(0,p7,(w40.cell? p7).getD undef)] w44∧(
Ae prog F.Xt [.int .i64 drift,.slice r43.1.1.1 r43.1.1.2.1 r43.1.1.2.2] w44 false [(true,[(.i .i64),(.i .i64)])] fun r45 w46=>
Aw [(1,p9,(w40.cell? p9).getD undef),(0,p7,(w40.cell? p7).getD undef)] w46∧(
Ae prog F.Ky [.pointer t] w46 false [(false,[(.i .i64)])] fun r47 w48=>
Aw [(1,p9,(w40.cell? p9).getD undef),(0,p7,(w40.cell? p7).getD undef)] w48∧(
Au [.int .i64 x41,.int .i64 x42,.int .i64 r45.1.1,.int .i64 r45.1.2.1,.int .i64 r47.1.1] p1 0 w48 fun w49=>
Aw [] w49∧(
tkK D21 w49 fun w50=>
A8 [(.i .i64),(.i .i64),(.i .i64),(.i .i64),(.i .i64)] p1 0 w50 fun x51=>
R ((x51.1,x51.2.1,x51.2.2.1,x51.2.2.2.1,x51.2.2.2.2.1,()),(true,()),()) w50))))) [])
theorem V7.eq(drift:Int)(t:Option Addr)(w:World)(R:Value→WP):A7 prog Tryz.f263 (.s .n (.s .n (.s .n (.s .n (.s (.s .n (.rf [(true,[(.i .i64),(.i .i64),(.i .i64)])] .n .n)) (.s .n (.s .n (.s (.pl (.tk 0 (.tk 1 (.tk 2 (.tk 3 (.tk 6 (.ef 4 [] (.ef 5 [] (.ef 7 [] (.tk 8 (.ef 9 [0,1] (.tk 10 .z)))))))))))) .n)))))))) [.int .i64 drift,.pointer t] w R=V7.wp drift t w (fun r w=>R (encR true [(true,[(.i .i64),(.i .i64),(.i .i64),(.i .i64),(.i .i64)]),(false,[.b])] r) w):=by kernel_rfl
theorem V7.ok{drift:Int}{t:Option Addr}{w:World}{R:TR [(true,[(.i .i64),(.i .i64),(.i .i64),(.i .i64),(.i .i64)]),(false,[.b])]→WP}(h:V7.wp drift t w R):Ae prog F.V7 [.int .i64 drift,.pointer t] w true [(true,[(.i .i64),(.i .i64),(.i .i64),(.i .i64),(.i .i64)]),(false,[.b])] R:=
  Aop Aa Tryz.func263 (fun R=>V7.wp drift t w R) (V7.eq drift t w) rfl h
def Jp.wp(m0:Int)(m1:Int)(m2:Int)(m3:Int)(m4:Int)(local_:Int)(w:World)(R:TR [(false,[(.i .i64)]),(false,[.b])]→WP):Prop:=
Bf [.int .i64 m0,.int .i64 m1,.int .i64 m2,.int .i64 m3,.int .i64 m4] T.iO w fun p1 w2=>
Aj (decide (local_<0)) (
R ((0,()),(false,()),()) w2) (
Aj (decide (local_>1125899906842624)) (
R ((0,()),(false,()),()) w2) (
ld1 (.i .i64) p1 w2 fun x3=>
Aj (decide (x3<0)) (
R ((0,()),(false,()),()) w2) (
ld1 (.i .i64) p1 w2 fun x4=>
Aj (decide (x4>1125899906842624)) (
R ((0,()),(false,()),()) w2) (
A8 [(.i .i64),(.i .i64)] (p1.add 2) 0 w2 fun x5=>
ld1 (.i .i64) p1 w2 fun x6=>
Ae prog F.Jq [.agg #[.int .i64 x5.1,.int .i64 x5.2.1],.int .i64 (wrap .i64 (local_-x6))] w2 false [(false,[(.i .i64)])] fun r7 w8=>
ld1 (.i .i64) (p1.add 1) w8 fun x9=>
Ae prog F.Qs [.int .i64 x9,.int .i64 (Int.negSucc 1125899906842623),.int .i64 1125899906842624] w8 false [(false,[(.i .i64)])] fun r10 w11=>
Ae prog F.Yb [.int .i64 local_,.int .i64 r10.1.1] w11 false [(false,[(.i .i64)])] fun r12 w13=>
Ae prog F.Qs [.int .i64 r7.1.1,.int .i64 (Int.negSucc 1125899906842623),.int .i64 1125899906842624] w13 false [(false,[(.i .i64)])] fun r14 w15=>
Ae prog F.Yb [.int .i64 r12.1.1,.int .i64 r14.1.1] w15 false [(false,[(.i .i64)])] fun r16 w17=>
Aj (decide (r16.1.1<0)) (
R ((0,()),(false,()),()) w17) (
Aj (decide (r16.1.1>1125899906842624)) (
R ((0,()),(false,()),()) w17) (
R ((r16.1.1,()),(true,()),()) w17))))))
theorem Jp.eq(m0:Int)(m1:Int)(m2:Int)(m3:Int)(m4:Int)(local_:Int)(w:World)(R:Value→WP):A7 prog Tryz.f264 .n [.agg #[.int .i64 m0,.int .i64 m1,.int .i64 m2,.int .i64 m3,.int .i64 m4],.int .i64 local_] w R=Jp.wp m0 m1 m2 m3 m4 local_ w (fun r w=>R (encR true [(false,[(.i .i64)]),(false,[.b])] r) w):=by kernel_rfl
theorem Jp.ok{m0:Int}{m1:Int}{m2:Int}{m3:Int}{m4:Int}{local_:Int}{w:World}{R:TR [(false,[(.i .i64)]),(false,[.b])]→WP}(h:Jp.wp m0 m1 m2 m3 m4 local_ w R):Ae prog F.Jp [.agg #[.int .i64 m0,.int .i64 m1,.int .i64 m2,.int .i64 m3,.int .i64 m4],.int .i64 local_] w true [(false,[(.i .i64)]),(false,[.b])] R:=
  Aop Aa Tryz.func264 (fun R=>Jp.wp m0 m1 m2 m3 m4 local_ w R) (Jp.eq m0 m1 m2 m3 m4 local_ w) rfl h
def Gu.wp(p0:Int)(p1:Int)(p2:Int)(w:World)(R:TR [(false,[(.i .i64)])]→WP):Prop:=
Bf [.int .i64 p0,.int .i64 p1,.int .i64 p2] T.bU w fun p3 w4=>
ld1 (.i .i64) p3 w4 fun x5=>
R ((wrap .i64 (x5*1000),()),()) w4
theorem Gu.eq(p0:Int)(p1:Int)(p2:Int)(w:World)(R:Value→WP):A7 prog Tryz.f265 .n [.agg #[.int .i64 p0,.int .i64 p1,.int .i64 p2]] w R=Gu.wp p0 p1 p2 w (fun r w=>R (encR false [(false,[(.i .i64)])] r) w):=by kernel_rfl
theorem Gu.ok{p0:Int}{p1:Int}{p2:Int}{w:World}{R:TR [(false,[(.i .i64)])]→WP}(h:Gu.wp p0 p1 p2 w R):Ae prog F.Gu [.agg #[.int .i64 p0,.int .i64 p1,.int .i64 p2]] w false [(false,[(.i .i64)])] R:=
  Aop Aa Tryz.func265 (fun R=>Gu.wp p0 p1 p2 w R) (Gu.eq p0 p1 p2 w) rfl h
def Nh.wp(t0:Int)(t1:Int)(t2:Int)(t3:Int)(w:World)(R:TR [(false,[(.i .i64)])]→WP):Prop:=
Bf [.int .i64 t0,.int .i64 t1,.int .i64 t2,.int .i64 t3] T.Xh w fun p1 w2=>
A8 [(.i .i64),(.i .i64),(.i .i64),(.i .i64)] p1 0 w2 fun x3=>
Ae prog F.Es [.agg #[.int .i64 x3.1,.int .i64 x3.2.1,.int .i64 x3.2.2.1,.int .i64 x3.2.2.2.1]] w2 false [(false,[.b])] fun r4 w5=>
Aj (!r4.1.1) (
R ((0,()),()) w5) (
Jg w5 fun w6=>
ld1 (.i .i64) (p1.add 1) w6 fun x7=>
A8 [(.i .i64),(.i .i64),(.i .i64),(.i .i64)] p1 0 w6 fun x8=>
ld1 (.i .i64) (p1.add 2) w6 fun x9=>
Ae prog F.Ir [.agg #[.int .i64 x8.1,.int .i64 x8.2.1,.int .i64 x8.2.2.1,.int .i64 x8.2.2.2.1],.int .i64 (wrap .i64 (x9+1))] w6 false [(false,[(.i .i64)])] fun r10 w11=>
Aw [(5,(p1.add 2),(w6.cell? (p1.add 2)).getD undef),(1,(p1.add 1),(w6.cell? (p1.add 1)).getD undef)] w11∧(
R ((wrap .i64 ((wrap .i64 ((wrap .i64 (2*x7))+r10.1.1))+2),()),()) w11))
theorem Nh.eq(t0:Int)(t1:Int)(t2:Int)(t3:Int)(w:World)(R:Value→WP):A7 prog Tryz.f266 (.s .n (.s .n (.s (.pl (.tk 0 (.tk 1 (.tk 2 (.tk 3 (.tk 4 (.tk 5 (.tk 6 (.ef 7 [3] (.tk 8 (.tk 9 (.tk 10 .z)))))))))))) .n))) [.agg #[.int .i64 t0,.int .i64 t1,.int .i64 t2,.int .i64 t3]] w R=Nh.wp t0 t1 t2 t3 w (fun r w=>R (encR false [(false,[(.i .i64)])] r) w):=by kernel_rfl
theorem Nh.ok{t0:Int}{t1:Int}{t2:Int}{t3:Int}{w:World}{R:TR [(false,[(.i .i64)])]→WP}(h:Nh.wp t0 t1 t2 t3 w R):Ae prog F.Nh [.agg #[.int .i64 t0,.int .i64 t1,.int .i64 t2,.int .i64 t3]] w false [(false,[(.i .i64)])] R:=
  Aop Aa Tryz.func266 (fun R=>Nh.wp t0 t1 t2 t3 w R) (Nh.eq t0 t1 t2 t3 w) rfl h
def Kz.wp(t0:Int)(t1:Int)(t2:Int)(t3:Int)(w:World)(R:TR [(false,[(.i .i64)])]→WP):Prop:=
Bf [.int .i64 t0,.int .i64 t1,.int .i64 t2,.int .i64 t3] T.Xh w fun p1 w2=>
A8 [(.i .i64),(.i .i64),(.i .i64),(.i .i64)] p1 0 w2 fun x3=>
Ae prog F.Es [.agg #[.int .i64 x3.1,.int .i64 x3.2.1,.int .i64 x3.2.2.1,.int .i64 x3.2.2.2.1]] w2 false [(false,[.b])] fun r4 w5=>
Aj (!r4.1.1) (
R ((0,()),()) w5) (
Jg w5 fun w6=>
ld1 (.i .i64) (p1.add 1) w6 fun x7=>
A8 [(.i .i64),(.i .i64),(.i .i64),(.i .i64)] p1 0 w6 fun x8=>
ld1 (.i .i64) (p1.add 2) w6 fun x9=>
Ae prog F.Ir [.agg #[.int .i64 x8.1,.int .i64 x8.2.1,.int .i64 x8.2.2.1,.int .i64 x8.2.2.2.1],.int .i64 (wrap .i64 (8*(wrap .i64 (x9+1))))] w6 false [(false,[(.i .i64)])] fun r10 w11=>
Aw [(5,(p1.add 2),(w6.cell? (p1.add 2)).getD undef),(1,(p1.add 1),(w6.cell? (p1.add 1)).getD undef)] w11∧(
R ((wrap .i64 ((wrap .i64 ((wrap .i64 (2*x7))+(wrap .i64 (2*r10.1.1))))+6),()),()) w11))
theorem Kz.eq(t0:Int)(t1:Int)(t2:Int)(t3:Int)(w:World)(R:Value→WP):A7 prog Tryz.f267 (.s .n (.s .n (.s (.pl (.tk 0 (.tk 1 (.tk 2 (.tk 3 (.tk 4 (.tk 5 (.tk 6 (.tk 7 (.ef 8 [3] (.tk 9 (.tk 10 (.tk 11 (.tk 12 .z)))))))))))))) .n))) [.agg #[.int .i64 t0,.int .i64 t1,.int .i64 t2,.int .i64 t3]] w R=Kz.wp t0 t1 t2 t3 w (fun r w=>R (encR false [(false,[(.i .i64)])] r) w):=by kernel_rfl
theorem Kz.ok{t0:Int}{t1:Int}{t2:Int}{t3:Int}{w:World}{R:TR [(false,[(.i .i64)])]→WP}(h:Kz.wp t0 t1 t2 t3 w R):Ae prog F.Kz [.agg #[.int .i64 t0,.int .i64 t1,.int .i64 t2,.int .i64 t3]] w false [(false,[(.i .i64)])] R:=
  Aop Aa Tryz.func267 (fun R=>Kz.wp t0 t1 t2 t3 w R) (Kz.eq t0 t1 t2 t3 w) rfl h
def Lc.wp(e:Option Addr)(root:Int)(m0:Int)(m1:Int)(w:World)(R:TR [(false,[(.i .i64)])]→WP):Prop:=
Bf [.int .u16 m0,.int .u16 m1] T.Ti w fun p1 w2=>
Aj (Option.isNone e) (
R ((0,()),()) w2) (
Ae prog F.Ns [.pointer e,.int .i64 root] w2 false [(false,[.b])] fun r3 w4=>
Aj (!r3.1.1) (
R ((0,()),()) w4) (
Aq e fun a5=>
ld1 .m (a5.add 8) w4 fun x6=>
lkO prog T.Ku (.map x6) (.int .i64 root) w4 true [(.i .u16),(.i .u16)] fun x7 b8=>
Bf [.int .u16 0,.int .u16 0] T.Ti w4 fun p9 w10=>
Au [.int .u16 x7.1,.int .u16 x7.2.1] p9 0 w10 fun w11=>
Cc (fun(J12:Unit→WP)=>
Aj b8 (
A8 [(.i .u16),(.i .u16)] p1 0 w11 fun x15=>
A8 [(.i .u16),(.i .u16)] p9 0 w11 fun x16=>
Ae prog F.Kw [.agg #[.int .u16 x15.1,.int .u16 x15.2.1],.agg #[.int .u16 x16.1,.int .u16 x16.2.1]] w11 false [(false,[.b])] fun r17 w18=>
Aj (!r17.1.1) (
R ((0,()),()) w18) (
J12 (()) w18)) (
J12 (()) w11)) (fun(z13:Unit) w14=> ∀_:Nat→Value,
Cc (fun(J19:((Bool)×Unit)→WP)=>
Aq e fun a22=>
ld1 (.i .i64) (a22.add 5) w14 fun x23=>
Aj (x23 !=root) (
J19 (true,()) w14) (
ld1 (.i .u16) p9 w14 fun x24=>
ld1 (.i .u16) p1 w14 fun x25=>
J19 ((x24 !=x25),()) w14)) (fun(z20:(Bool)×Unit) w21=> ∀_:Nat→Value,
Jg w21 fun w26=>
Aq e fun a27=>
ld1 .m (a27.add 8) w26 fun x28=>
A8 [(.i .u16),(.i .u16)] p1 0 w26 fun x29=>
muK prog T.Ku (.map x28) (.int .i64 root) (.agg #[.int .u16 x29.1,.int .u16 x29.2.1]) w26 fun w30=>
Aw [] w30∧(
Aq e fun a31=>
Au [.int .i64 root] (a31.add 5) 0 w30 fun w32=>
Aq e fun a33=>
Au [.int .i64 0] (a33.add 6) 0 w32 fun w34=>
Aq e fun a35=>
Au [.int .i64 0] (a35.add 7) 0 w34 fun w36=>
Aj z20.1 (
R ((2,()),()) w36) (
R ((1,()),()) w36))))))
theorem Lc.eq(e:Option Addr)(root:Int)(m0:Int)(m1:Int)(w:World)(R:Value→WP):A7 prog Tryz.f268 (.s .n (.s .n (.s .n (.ct [] .n (.ct [(9,.b)] .n (.s (.pl (.tk 0 (.tk 1 (.tk 2 (.tk 3 (.tk 4 (.tk 5 (.ef 6 [3,5] .z)))))))) .n)))))) [.pointer e,.int .i64 root,.agg #[.int .u16 m0,.int .u16 m1]] w R=Lc.wp e root m0 m1 w (fun r w=>R (encR false [(false,[(.i .i64)])] r) w):=by kernel_rfl
theorem Lc.ok{e:Option Addr}{root:Int}{m0:Int}{m1:Int}{w:World}{R:TR [(false,[(.i .i64)])]→WP}(h:Lc.wp e root m0 m1 w R):Ae prog F.Lc [.pointer e,.int .i64 root,.agg #[.int .u16 m0,.int .u16 m1]] w false [(false,[(.i .i64)])] R:=
  Aop Aa Tryz.func268 (fun R=>Lc.wp e root m0 m1 w R) (Lc.eq e root m0 m1 w) rfl h
def Ed.wp(t:Option Addr)(e0:Int)(e1:Int)(e2:Int)(w:World)(R:TR [(false,[(.i .i64)])]→WP):Prop:=
Bf [.int .i64 e0,.int .i64 e1,.int .i64 e2] T.Du w fun p1 w2=>
Cc (fun(J3:Unit→WP)=>
Ae prog F.Ld [.pointer t] w2 true [(true,[(.i .i64),(.i .i64),(.i .i64)]),(false,[.b])] fun r6 w7=>
Bf [.int .i64 0,.int .i64 0,.int .i64 0] T.Du w7 fun p8 w9=>
Au [.int .i64 r6.1.1,.int .i64 r6.1.2.1,.int .i64 r6.1.2.2.1] p8 0 w9 fun w10=>
Aj (Option.isNone t) (
R ((2,()),()) w10) (
A8 [(.i .i64),(.i .i64),(.i .i64)] p1 0 w10 fun x11=>
Ae prog F.C9 [.agg #[.int .i64 x11.1,.int .i64 x11.2.1,.int .i64 x11.2.2.1]] w10 false [(false,[.b])] fun r12 w13=>
Aj (!r12.1.1) (
R ((1,()),()) w13) (
Aj r6.2.1.1 (
ld1 (.i .i64) p1 w13 fun x14=>
ld1 (.i .i64) p8 w13 fun x15=>
Aj (decide (x14≤x15)) (
R ((12,()),()) w13) (
J3 (()) w13)) (
J3 (()) w13)))) (fun(z4:Unit) w5=> ∀_:Nat→Value,
Jg w5 fun w16=>
Aq t fun a17=>
ld1 .sl a17 w16 fun x18=>
A8 [(.i .i64),(.i .i64),(.i .i64)] p1 0 w16 fun x19=>
Bf [.int .i64 x19.1,.int .i64 x19.2.1,.int .i64 x19.2.2.1] T.Du w16 fun p20 w21=>
Aw [(5,(p1.add 0),(w16.cell? (p1.add 0)).getD undef),(5,(p1.add 1),(w16.cell? (p1.add 1)).getD undef),(5,(p1.add 2),(w16.cell? (p1.add 2)).getD undef),(4,a17,(w16.cell? a17).getD undef)] w21∧(
L9 ((Builtin.append_ #[T.Ox,T.Ox] T.Ox #[.slice x18.1 x18.2.1 x18.2.2,.slice (some p20) 1 1]).run prog w21) fun y22 w23=>
Aw [(5,(p1.add 0),(w16.cell? (p1.add 0)).getD undef),(5,(p1.add 1),(w16.cell? (p1.add 1)).getD undef),(5,(p1.add 2),(w16.cell? (p1.add 2)).getD undef)] w23∧(
Aq t fun a24=>
Au [.slice y22.1 y22.2.1 y22.2.2] a24 0 w23 fun w25=>
Aw [] w25∧(
Aq t fun a26=>
ld1 .sl a26 w25 fun x27=>
Aj (decide ((x27.2.1:Int)>8)) (
Aq t fun a28=>
ld1 .sl a28 w25 fun x29=>
sQ 1 (x29.2.1:Int) x29.2.2 (
Ae prog F.Df [.slice (dG x29.1 x29.2.2 (Int.toNat 1) 3) ((Int.toNat (x29.2.1:Int))-(Int.toNat 1)) (x29.2.2-Int.toNat 1)] w25 false [(false,[.sl])] fun r30 w31=>
Aq t fun a32=>
Au [.slice r30.1.1.1 r30.1.1.2.1 r30.1.1.2.2] a32 0 w31 fun w33=>
R ((0,()),()) w33)) (
R ((0,()),()) w25)))))
theorem Ed.eq(t:Option Addr)(e0:Int)(e1:Int)(e2:Int)(w:World)(R:Value→WP):A7 prog Tryz.f269 (.s .n (.ct [] .n (.s (.pl (.tk 0 (.tk 1 (.tk 2 (.tk 3 (.tk 4 (.tk 5 (.ef 6 [] (.ef 7 [4] (.tk 8 (.tk 9 (.ef 10 [5] .z)))))))))))) .n))) [.pointer t,.agg #[.int .i64 e0,.int .i64 e1,.int .i64 e2]] w R=Ed.wp t e0 e1 e2 w (fun r w=>R (encR false [(false,[(.i .i64)])] r) w):=by kernel_rfl
theorem Ed.ok{t:Option Addr}{e0:Int}{e1:Int}{e2:Int}{w:World}{R:TR [(false,[(.i .i64)])]→WP}(h:Ed.wp t e0 e1 e2 w R):Ae prog F.Ed [.pointer t,.agg #[.int .i64 e0,.int .i64 e1,.int .i64 e2]] w false [(false,[(.i .i64)])] R:=
  Aop Aa Tryz.func269 (fun R=>Ed.wp t e0 e1 e2 w R) (Ed.eq t e0 e1 e2 w) rfl h
def Gg.wp(t:Option Addr)(w:World)(R:TR []→WP):Prop:=
Aj (!(Option.isNone t)) (
Aq t fun a1=>
Au [.slice none 0 0] a1 0 w fun w2=>
R (()) w2) (
R (()) w)
theorem Gg.eq(t:Option Addr)(w:World)(R:Value→WP):A7 prog Tryz.f270 .n [.pointer t] w R=Gg.wp t w (fun r w=>R (encR true [] r) w):=by kernel_rfl
theorem Gg.ok{t:Option Addr}{w:World}{R:TR []→WP}(h:Gg.wp t w R):Ae prog F.Gg [.pointer t] w true [] R:=
  Aop Aa Tryz.func270 (fun R=>Gg.wp t w R) (Gg.eq t w) rfl h
def Gw.wp(t0:Int)(t1:Int)(t2:Int)(t3:Int)(w:World)(R:TR [(false,[(.i .i64)])]→WP):Prop:=
Bf [.int .i64 t0,.int .i64 t1,.int .i64 t2,.int .i64 t3] T.jL w fun p1 w2=>
A8 [(.i .i64),(.i .i64),(.i .i64),(.i .i64)] p1 0 w2 fun x3=>
Ae prog F.Iw [.agg #[.int .i64 x3.1,.int .i64 x3.2.1,.int .i64 x3.2.2.1,.int .i64 x3.2.2.2.1]] w2 false [(false,[.b])] fun r4 w5=>
Aj (!r4.1.1) (
R ((0,()),()) w5) (
ld1 (.i .i64) (p1.add 1) w5 fun x6=>
ld1 (.i .i64) p1 w5 fun x7=>
ld1 (.i .i64) (p1.add 2) w5 fun x8=>
ld1 (.i .i64) (p1.add 3) w5 fun x9=>
Ae prog F.Oi [.int .i64 (wrap .i64 ((wrap .i64 ((wrap .i64 (x6-x7))+x8))-x9)),.int .i64 2] w5 true [(false,[(.i .i64)]),(false,[(.i .i64)]),(false,[.b])] fun r10 w11=>
R ((r10.1.1,()),()) w11)
theorem Gw.eq(t0:Int)(t1:Int)(t2:Int)(t3:Int)(w:World)(R:Value→WP):A7 prog Tryz.f271 .n [.agg #[.int .i64 t0,.int .i64 t1,.int .i64 t2,.int .i64 t3]] w R=Gw.wp t0 t1 t2 t3 w (fun r w=>R (encR false [(false,[(.i .i64)])] r) w):=by kernel_rfl
theorem Gw.ok{t0:Int}{t1:Int}{t2:Int}{t3:Int}{w:World}{R:TR [(false,[(.i .i64)])]→WP}(h:Gw.wp t0 t1 t2 t3 w R):Ae prog F.Gw [.agg #[.int .i64 t0,.int .i64 t1,.int .i64 t2,.int .i64 t3]] w false [(false,[(.i .i64)])] R:=
  Aop Aa Tryz.func271 (fun R=>Gw.wp t0 t1 t2 t3 w R) (Gw.eq t0 t1 t2 t3 w) rfl h
def Iw.wp(t0:Int)(t1:Int)(t2:Int)(t3:Int)(w:World)(R:TR [(false,[.b])]→WP):Prop:=
Bf [.int .i64 t0,.int .i64 t1,.int .i64 t2,.int .i64 t3] T.jL w fun p1 w2=>
ld1 (.i .i64) p1 w2 fun x3=>
ld1 (.i .i64) (p1.add 1) w2 fun x4=>
ld1 (.i .i64) (p1.add 2) w2 fun x5=>
ld1 (.i .i64) (p1.add 3) w2 fun x6=>
Ci (fun(self7:((Int)×Unit)→WP) (z8:(Int)×Unit) w9=> ∀_:Nat→Value,
Aj (decide (z8.1<4)) (
aiK [x3,x4,x5,x6] 4 z8.1 fun c10=>
Aj (decide (c10<0)) (
R ((false,()),()) w9) (
Aj (decide (c10>1125899906842624)) (
R ((false,()),()) w9) (
self7 (wrap .i64 (z8.1+1),()) w9))) (
ld1 (.i .i64) (p1.add 3) w9 fun x11=>
ld1 (.i .i64) p1 w9 fun x12=>
R ((decide (x11≥x12),()),()) w9)) (0,()) w2
theorem Iw.eq(t0:Int)(t1:Int)(t2:Int)(t3:Int)(w:World)(R:Value→WP):A7 prog Tryz.f272 (.s .n (.s (.s .n (.lp [(14,(.i .i64))] .n)) .n)) [.agg #[.int .i64 t0,.int .i64 t1,.int .i64 t2,.int .i64 t3]] w R=Iw.wp t0 t1 t2 t3 w (fun r w=>R (encR false [(false,[.b])] r) w):=by kernel_rfl
theorem Iw.ok{t0:Int}{t1:Int}{t2:Int}{t3:Int}{w:World}{R:TR [(false,[.b])]→WP}(h:Iw.wp t0 t1 t2 t3 w R):Ae prog F.Iw [.agg #[.int .i64 t0,.int .i64 t1,.int .i64 t2,.int .i64 t3]] w false [(false,[.b])] R:=
  Aop Aa Tryz.func272 (fun R=>Iw.wp t0 t1 t2 t3 w R) (Iw.eq t0 t1 t2 t3 w) rfl h
def C9.wp(e0:Int)(e1:Int)(e2:Int)(w:World)(R:TR [(false,[.b])]→WP):Prop:=
Bf [.int .i64 e0,.int .i64 e1,.int .i64 e2] T.Du w fun p1 w2=>
ld1 (.i .i64) p1 w2 fun x3=>
Aj (decide (x3≥0)) (
ld1 (.i .i64) p1 w2 fun x4=>
Aj (decide (x4≤1125899906842624)) (
ld1 (.i .i64) (p1.add 1) w2 fun x5=>
Aj (decide (x5≥(Int.negSucc 1125899906842623))) (
ld1 (.i .i64) (p1.add 1) w2 fun x6=>
Aj (decide (x6≤1125899906842624)) (
ld1 (.i .i64) (p1.add 2) w2 fun x7=>
Aj (decide (x7≥1)) (
ld1 (.i .i64) (p1.add 2) w2 fun x8=>
R ((decide (x8≤63),()),()) w2) (
R ((false,()),()) w2)) (
R ((false,()),()) w2)) (
R ((false,()),()) w2)) (
R ((false,()),()) w2)) (
R ((false,()),()) w2)
theorem C9.eq(e0:Int)(e1:Int)(e2:Int)(w:World)(R:Value→WP):A7 prog Tryz.f273 .n [.agg #[.int .i64 e0,.int .i64 e1,.int .i64 e2]] w R=C9.wp e0 e1 e2 w (fun r w=>R (encR false [(false,[.b])] r) w):=by kernel_rfl
theorem C9.ok{e0:Int}{e1:Int}{e2:Int}{w:World}{R:TR [(false,[.b])]→WP}(h:C9.wp e0 e1 e2 w R):Ae prog F.C9 [.agg #[.int .i64 e0,.int .i64 e1,.int .i64 e2]] w false [(false,[.b])] R:=
  Aop Aa Tryz.func273 (fun R=>C9.wp e0 e1 e2 w R) (C9.eq e0 e1 e2 w) rfl h
def Pz.wp(a:Int)(b:Int)(w:World)(R:TR [(false,[.b])]→WP):Prop:=
R ((decide ((wrap .i16 (wrap .u16 (a-b)))>0),()),()) w
theorem Pz.eq(a:Int)(b:Int)(w:World)(R:Value→WP):A7 prog Tryz.f274 .n [.int .u16 a,.int .u16 b] w R=Pz.wp a b w (fun r w=>R (encR false [(false,[.b])] r) w):=by kernel_rfl
theorem Pz.ok{a:Int}{b:Int}{w:World}{R:TR [(false,[.b])]→WP}(h:Pz.wp a b w R):Ae prog F.Pz [.int .u16 a,.int .u16 b] w false [(false,[.b])] R:=
  Aop Aa Tryz.func274 (fun R=>Pz.wp a b w R) (Pz.eq a b w) rfl h
def Jj.wp(r:Option Addr)(w:World)(R:TR [(false,[.any])]→WP):Prop:=
Bf [.pointer r] T.gJ w fun p1 w2=>
R ((.func (.func F.Ei) #[] #[.pointer (some p1)],()),()) w2
theorem Jj.eq(r:Option Addr)(w:World)(R:Value→WP):A7 prog Tryz.f275 .n [.pointer r] w R=Jj.wp r w (fun r w=>R (encR false [(false,[.any])] r) w):=by kernel_rfl
theorem Jj.ok{r:Option Addr}{w:World}{R:TR [(false,[.any])]→WP}(h:Jj.wp r w R):Ae prog F.Jj [.pointer r] w false [(false,[.any])] R:=
  Aop Aa Tryz.func275 (fun R=>Jj.wp r w R) (Jj.eq r w) rfl h
def X0.wp(sum:Int)(b:Option Addr×Nat×Nat)(w:World)(R:TR [(false,[(.i .u16)])]→WP):Prop:=
Ci (fun(self1:((Int)×(Int)×Unit)→WP) (z2:(Int)×(Int)×Unit) w3=> ∀_:Nat→Value,
Aj (decide (z2.2.1<(b.2.1:Int))) (
Ny b.1 b.2.1 z2.2.1 fun a4=>
ld1 (.i .u8) (a4.add (z2.2.1.toNat*1)) w3 fun x5=>
Ae prog F.Xr [.int .u16 z2.1,.int .u8 x5] w3 false [(false,[(.i .u16)])] fun r6 w7=>
self1 (r6.1.1,wrap .i64 (z2.2.1+1),()) w7) (
R ((z2.1,()),()) w3)) (sum,0,()) w
theorem X0.eq(sum:Int)(b:Option Addr×Nat×Nat)(w:World)(R:Value→WP):A7 prog Tryz.f276 (.s .n (.s (.s .n (.lp [(0,(.i .u16)),(9,(.i .i64))] .n)) .n)) [.int .u16 sum,.slice b.1 b.2.1 b.2.2] w R=X0.wp sum b w (fun r w=>R (encR false [(false,[(.i .u16)])] r) w):=by kernel_rfl
theorem X0.ok{sum:Int}{b:Option Addr×Nat×Nat}{w:World}{R:TR [(false,[(.i .u16)])]→WP}(h:X0.wp sum b w R):Ae prog F.X0 [.int .u16 sum,.slice b.1 b.2.1 b.2.2] w false [(false,[(.i .u16)])] R:=
  Aop Aa Tryz.func276 (fun R=>X0.wp sum b w R) (X0.eq sum b w) rfl h
def I5.wp(e:Option Addr)(w:World)(R:TR [(true,[(.i .u16),(.i .u16)]),(false,[.b])]→WP):Prop:=
Bf [.int .u16 0,.int .u16 0] T.Ti w fun p1 w2=>
Ae prog F.Bc [.pointer e] w2 false [(false,[.b])] fun r3 w4=>
Aj (!r3.1.1) (
Au [.int .u16 0,.int .u16 0] p1 0 w4 fun w5=>
A8 [(.i .u16),(.i .u16)] p1 0 w5 fun x6=>
R ((x6.1,x6.2.1,()),(false,()),()) w5) (
Aq e fun a7=>
ld1 (.i .u16) (a7.add 4) w4 fun x8=>
Ae prog F.Qu [.int .u16 x8] w4 false [(false,[(.i .u16)])] fun r9 w10=>
Aq e fun a11=>
Au [.int .u16 r9.1.1] (a11.add 4) 0 w10 fun w12=>
Jg w12 fun w13=>
Aq e fun a14=>
ld1 (.i .u16) (a14.add 3) w13 fun x15=>
Aq e fun a16=>
ld1 (.i .u16) (a16.add 4) w13 fun x17=>
Au [.int .u16 x15,.int .u16 x17] p1 0 w13 fun w18=>
Aw [] w18∧(
A8 [(.i .u16),(.i .u16)] p1 0 w18 fun x19=>
R ((x19.1,x19.2.1,()),(true,()),()) w18))
theorem I5.eq(e:Option Addr)(w:World)(R:Value→WP):A7 prog Tryz.f300 (.s .n (.s .n (.s .n (.s (.pl (.tk 0 (.tk 1 (.tk 2 (.tk 3 (.tk 4 (.tk 5 (.tk 6 (.tk 7 (.tk 8 (.ef 9 [3,7] (.tk 10 .z)))))))))))) .n)))) [.pointer e] w R=I5.wp e w (fun r w=>R (encR true [(true,[(.i .u16),(.i .u16)]),(false,[.b])] r) w):=by kernel_rfl
theorem I5.ok{e:Option Addr}{w:World}{R:TR [(true,[(.i .u16),(.i .u16)]),(false,[.b])]→WP}(h:I5.wp e w R):Ae prog F.I5 [.pointer e] w true [(true,[(.i .u16),(.i .u16)]),(false,[.b])] R:=
  Aop Aa Tryz.func300 (fun R=>I5.wp e w R) (I5.eq e w) rfl h
def Bv.wp(p:Option Addr)(size:Int)(n:Int)(w:World)(R:TR [(false,[.p])]→WP):Prop:=
Aj (Option.isNone p) (
R ((none,()),()) w) (
Ci (fun(self1:((Int)×Unit)→WP) (z2:(Int)×Unit) w3=> ∀_:Nat→Value,
Aj (decide (z2.1≥0)) (
Jg w3 fun w4=>
Aq p fun a5=>
ld1 .sl a5 w4 fun x6=>
fJ (wrap .i64 (8*z2.1)) (
Bf [.int .u8 (wrap .u8 (Qv .u64 n (wrap .i64 (8*z2.1))))] T.uint8 w4 fun p7 w8=>
Aw [(4,a5,(w4.cell? a5).getD undef)] w8∧(
L9 ((Builtin.append_ #[T.Fh,T.Fh] T.Fh #[.slice x6.1 x6.2.1 x6.2.2,.slice (some p7) 1 1]).run prog w8) fun y9 w10=>
Aw [] w10∧(
Aq p fun a11=>
Au [.slice y9.1 y9.2.1 y9.2.2] a11 0 w10 fun w12=>
Aw [] w12∧(
self1 (wrap .i64 (z2.1-1),()) w12))))) (
R ((p,()),()) w3)) (wrap .i64 ((if 8<(if 0>size then 0 else size) then 8 else(if 0>size then 0 else size))-1),()) w)
theorem Bv.eq(p:Option Addr)(size:Int)(n:Int)(w:World)(R:Value→WP):A7 prog Tryz.f301 (.s .n (.s .n (.s (.s .n (.lp [(7,(.i .i64))] (.s .n (.s (.pl (.tk 0 (.tk 1 (.tk 2 (.tk 3 (.tk 4 (.tk 5 (.tk 6 (.tk 7 (.tk 8 (.tk 9 (.ef 10 [] (.ef 11 [4] (.tk 12 (.tk 13 (.ef 14 [] .z)))))))))))))))) .n)))) .n))) [.pointer p,.int .i64 size,.int .u64 n] w R=Bv.wp p size n w (fun r w=>R (encR false [(false,[.p])] r) w):=by kernel_rfl
theorem Bv.ok{p:Option Addr}{size:Int}{n:Int}{w:World}{R:TR [(false,[.p])]→WP}(h:Bv.wp p size n w R):Ae prog F.Bv [.pointer p,.int .i64 size,.int .u64 n] w false [(false,[.p])] R:=
  Aop Aa Tryz.func301 (fun R=>Bv.wp p size n w R) (Bv.eq p size n w) rfl h
def Tz.wp(b:Option Addr×Nat×Nat)(w:World)(R:TR [(false,[.sl])]→WP):Prop:=
Ae prog F.Ko [.slice b.1 b.2.1 b.2.2] w false [(false,[(.i .u16)])] fun r1 w2=>
L9 ((Instr.makeSlice T.Fh (.int .i64 0) (.int .i64 (wrap .i64 ((b.2.1:Int)+2)))).run prog w2) fun y3 w4=>
L9 ((Builtin.append_ #[T.Fh,T.Fh] T.Fh #[.slice y3.1 y3.2.1 y3.2.2,.slice b.1 b.2.1 b.2.2]).run prog w4) fun y5 w6=>
fJ 8 (
Bf [.int .u8 (wrap .u8 (Qv .u16 r1.1.1 8)),.int .u8 (wrap .u8 r1.1.1)] T.uint8 w6 fun p7 w8=>
L9 ((Builtin.append_ #[T.Fh,T.Fh] T.Fh #[.slice y5.1 y5.2.1 y5.2.2,.slice (some p7) 2 2]).run prog w8) fun y9 w10=>
R (((y9.1,y9.2.1,y9.2.2),()),()) w10)
theorem Tz.eq(b:Option Addr×Nat×Nat)(w:World)(R:Value→WP):A7 prog Tryz.f302 .n [.slice b.1 b.2.1 b.2.2] w R=Tz.wp b w (fun r w=>R (encR false [(false,[.sl])] r) w):=by kernel_rfl
theorem Tz.ok{b:Option Addr×Nat×Nat}{w:World}{R:TR [(false,[.sl])]→WP}(h:Tz.wp b w R):Ae prog F.Tz [.slice b.1 b.2.1 b.2.2] w false [(false,[.sl])] R:=
  Aop Aa Tryz.func302 (fun R=>Tz.wp b w R) (Tz.eq b w) rfl h
def Fj.wp(p:Option Addr)(w:World)(R:TR [(false,[.sl])]→WP):Prop:=
Aj (Option.isNone p) (
R (((none,0,0),()),()) w) (
Aq p fun a1=>
ld1 .sl a1 w fun x2=>
L9 ((Builtin.append_ #[T.Fh,T.Fh] T.Fh #[.slice none 0 0,.slice x2.1 x2.2.1 x2.2.2]).run prog w) fun y3 w4=>
R (((y3.1,y3.2.1,y3.2.2),()),()) w4)
theorem Fj.eq(p:Option Addr)(w:World)(R:Value→WP):A7 prog Tryz.f303 .n [.pointer p] w R=Fj.wp p w (fun r w=>R (encR false [(false,[.sl])] r) w):=by kernel_rfl
theorem Fj.ok{p:Option Addr}{w:World}{R:TR [(false,[.sl])]→WP}(h:Fj.wp p w R):Ae prog F.Fj [.pointer p] w false [(false,[.sl])] R:=
  Aop Aa Tryz.func303 (fun R=>Fj.wp p w R) (Fj.eq p w) rfl h
def Gv.wp(t:Option Addr)(w:World)(R:TR [(false,[.any])]→WP):Prop:=
Bf [.pointer t] T.tH w fun p1 w2=>
R ((.func (.func F.Ea) #[] #[.pointer (some p1)],()),()) w2
theorem Gv.eq(t:Option Addr)(w:World)(R:Value→WP):A7 prog Tryz.f304 .n [.pointer t] w R=Gv.wp t w (fun r w=>R (encR false [(false,[.any])] r) w):=by kernel_rfl
theorem Gv.ok{t:Option Addr}{w:World}{R:TR [(false,[.any])]→WP}(h:Gv.wp t w R):Ae prog F.Gv [.pointer t] w false [(false,[.any])] R:=
  Aop Aa Tryz.func304 (fun R=>Gv.wp t w R) (Gv.eq t w) rfl h
def Xt.wp(drift:Int)(list:Option Addr×Nat×Nat)(w:World)(R:TR [(true,[(.i .i64),(.i .i64)])]→WP):Prop:=
Bf [.int .i64 0,.int .i64 0] T.Xi w fun p1 w2=>
Bf [.int .i64 0,.int .i64 0] T.Xi w2 fun p3 w4=>
Au [.int .i64 0,.int .i64 1] p3 0 w4 fun w5=>
Aj (decide ((list.2.1:Int)<2)) (
A8 [(.i .i64),(.i .i64)] p3 0 w5 fun x6=>
Au [.int .i64 x6.1,.int .i64 x6.2.1] p1 0 w5 fun w7=>
A8 [(.i .i64),(.i .i64)] p1 0 w7 fun x8=>
R ((x8.1,x8.2.1,()),()) w7) (
Aj (decide ((list.2.1:Int)>8)) (
A8 [(.i .i64),(.i .i64)] p3 0 w5 fun x9=>
Au [.int .i64 x9.1,.int .i64 x9.2.1] p1 0 w5 fun w10=>
A8 [(.i .i64),(.i .i64)] p1 0 w10 fun x11=>
R ((x11.1,x11.2.1,()),()) w10) (
Ci (fun(self12:((Int)×Unit)→WP) (z13:(Int)×Unit) w14=> ∀_:Nat→Value,
Aj (decide (z13.1<(list.2.1:Int))) (
Ny list.1 list.2.1 z13.1 fun a15=>
A8 [(.i .i64),(.i .i64),(.i .i64)] (a15.add (z13.1.toNat*3)) 0 w14 fun x16=>
Bf [.int .i64 0,.int .i64 0,.int .i64 0] T.Du w14 fun p17 w18=>
Au [.int .i64 x16.1,.int .i64 x16.2.1,.int .i64 x16.2.2.1] p17 0 w18 fun w19=>
A8 [(.i .i64),(.i .i64),(.i .i64)] p17 0 w19 fun x20=>
Ae prog F.C9 [.agg #[.int .i64 x20.1,.int .i64 x20.2.1,.int .i64 x20.2.2.1]] w19 false [(false,[.b])] fun r21 w22=>
Aj (!r21.1.1) (
A8 [(.i .i64),(.i .i64)] p3 0 w22 fun x23=>
Au [.int .i64 x23.1,.int .i64 x23.2.1] p1 0 w22 fun w24=>
A8 [(.i .i64),(.i .i64)] p1 0 w24 fun x25=>
R ((x25.1,x25.2.1,()),()) w24) (
self12 (wrap .i64 (z13.1+1),()) w22)) (
Ae prog F.Rt [.slice list.1 list.2.1 list.2.2] w14 true [(true,[(.i .i64),(.i .i64),(.i .i64),(.i .i64),(.i .i64)]),(false,[.b])] fun r26 w27=>
Bf [.int .i64 0,.int .i64 0,.int .i64 0,.int .i64 0,.int .i64 0] T.jS w27 fun p28 w29=>
Au [.int .i64 r26.1.1,.int .i64 r26.1.2.1,.int .i64 r26.1.2.2.1,.int .i64 r26.1.2.2.2.1,.int .i64 r26.1.2.2.2.2.1] p28 0 w29 fun w30=>
ld1 (.i .i64) p28 w30 fun x31=>
ld1 (.i .i64) (p28.add 4) w30 fun x32=>
ld1 (.i .i64) (p28.add 1) w30 fun x33=>
ld1 (.i .i64) (p28.add 1) w30 fun x34=>
Aj (!r26.2.1.1) (
A8 [(.i .i64),(.i .i64)] p3 0 w30 fun x35=>
Au [.int .i64 x35.1,.int .i64 x35.2.1] p1 0 w30 fun w36=>
A8 [(.i .i64),(.i .i64)] p1 0 w36 fun x37=>
R ((x37.1,x37.2.1,()),()) w36) (
Aj (decide ((wrap .i64 ((wrap .i64 (x31*x32))-(wrap .i64 (x33*x34))))<1)) (
A8 [(.i .i64),(.i .i64)] p3 0 w30 fun x38=>
Au [.int .i64 x38.1,.int .i64 x38.2.1] p1 0 w30 fun w39=>
A8 [(.i .i64),(.i .i64)] p1 0 w39 fun x40=>
R ((x40.1,x40.2.1,()),()) w39) (
ld1 (.i .i64) p28 w30 fun x41=>
ld1 (.i .i64) (p28.add 3) w30 fun x42=>
ld1 (.i .i64) (p28.add 1) w30 fun x43=>
ld1 (.i .i64) (p28.add 2) w30 fun x44=>
Ae prog F.Vr [.int .i64 drift] w30 false [(true,[(.i .i64),(.i .i64)])] fun r45 w46=>
Bf [.int .i64 0,.int .i64 0] T.Xi w46 fun p47 w48=>
Au [.int .i64 r45.1.1,.int .i64 r45.1.2.1] p47 0 w48 fun w49=>
Cc (fun(J50:((Bool)×Unit)→WP)=>
Aj (decide ((wrap .i64 ((wrap .i64 (x41*x42))-(wrap .i64 (x43*x44))))>0)) (
A8 [(.i .i64),(.i .i64)] p47 0 w49 fun x53=>
Ae prog F.Td [.agg #[.int .i64 (wrap .i64 ((wrap .i64 (x41*x42))-(wrap .i64 (x43*x44)))),.int .i64 (wrap .i64 ((wrap .i64 (x31*x32))-(wrap .i64 (x33*x34))))],.agg #[.int .i64 x53.1,.int .i64 x53.2.1]] w49 false [(false,[.b])] fun r54 w55=>
J50 (r54.1.1,()) w55) (
J50 (false,()) w49)) (fun(z51:(Bool)×Unit) w52=> ∀_:Nat→Value,
Aj z51.1 (
A8 [(.i .i64),(.i .i64)] p47 0 w52 fun x56=>
Au [.int .i64 x56.1,.int .i64 x56.2.1] p1 0 w52 fun w57=>
A8 [(.i .i64),(.i .i64)] p1 0 w57 fun x58=>
R ((x58.1,x58.2.1,()),()) w57) (
Cc (fun(J59:((Bool)×Unit)→WP)=>
Aj (decide ((wrap .i64 ((wrap .i64 (x41*x42))-(wrap .i64 (x43*x44))))<0)) (
A8 [(.i .i64),(.i .i64)] p47 0 w52 fun x62=>
Ae prog F.Td [.agg #[.int .i64 (wrap .i64 (0-(wrap .i64 ((wrap .i64 (x41*x42))-(wrap .i64 (x43*x44)))))),.int .i64 (wrap .i64 ((wrap .i64 (x31*x32))-(wrap .i64 (x33*x34))))],.agg #[.int .i64 x62.1,.int .i64 x62.2.1]] w52 false [(false,[.b])] fun r63 kJ=>
J59 (r63.1.1,()) kJ) (
J59 (false,()) w52)) (fun(z60:(Bool)×Unit) w61=> ∀_:Nat→Value,
Aj z60.1 (
ld1 (.i .i64) p47 w61 fun x65=>
ld1 (.i .i64) (p47.add 1) w61 fun x66=>
Au [.int .i64 (wrap .i64 (0-x65)),.int .i64 x66] p1 0 w61 fun w67=>
A8 [(.i .i64),(.i .i64)] p1 0 w67 fun x68=>
R ((x68.1,x68.2.1,()),()) w67) (
Au [.int .i64 (wrap .i64 ((wrap .i64 (x41*x42))-(wrap .i64 (x43*x44)))),.int .i64 (wrap .i64 ((wrap .i64 (x31*x32))-(wrap .i64 (x33*x34))))] p1 0 w61 fun w69=>
A8 [(.i .i64),(.i .i64)] p1 0 w69 fun x70=>
R ((x70.1,x70.2.1,()),()) w69)))))))) (0,()) w5))
theorem Xt.eq(drift:Int)(list:Option Addr×Nat×Nat)(w:World)(R:Value→WP):A7 prog Tryz.f305 (.s .n (.s .n (.s .n (.s (.s .n (.lp [(25,(.i .i64))] .n)) (.s .n (.s .n (.s .n (.s .n (.s .n (.s (.ct [(70,.b)] .n (.s .n (.ct [(81,.b)] .n .n))) .n)))))))))) [.int .i64 drift,.slice list.1 list.2.1 list.2.2] w R=Xt.wp drift list w (fun r w=>R (encR false [(true,[(.i .i64),(.i .i64)])] r) w):=by kernel_rfl
theorem Xt.ok{drift:Int}{list:Option Addr×Nat×Nat}{w:World}{R:TR [(true,[(.i .i64),(.i .i64)])]→WP}(h:Xt.wp drift list w R):Ae prog F.Xt [.int .i64 drift,.slice list.1 list.2.1 list.2.2] w false [(true,[(.i .i64),(.i .i64)])] R:=
  Aop Aa Tryz.func305 (fun R=>Xt.wp drift list w R) (Xt.eq drift list w) rfl h
def Jr.wp(t:Option Addr)(w:World)(R:TR [(false,[.sl])]→WP):Prop:=
Ae prog F.Gv [.pointer t] w false [(false,[.any])] fun r1 w2=>
Ae prog F.F8 [r1.1.1] w2 false [(false,[.sl])] fun r3 w4=>
R (((r3.1.1.1,r3.1.1.2.1,r3.1.1.2.2),()),()) w4
theorem Jr.eq(t:Option Addr)(w:World)(R:Value→WP):A7 prog Tryz.f306 .n [.pointer t] w R=Jr.wp t w (fun r w=>R (encR false [(false,[.sl])] r) w):=by kernel_rfl
theorem Jr.ok{t:Option Addr}{w:World}{R:TR [(false,[.sl])]→WP}(h:Jr.wp t w R):Ae prog F.Jr [.pointer t] w false [(false,[.sl])] R:=
  Aop Aa Tryz.func306 (fun R=>Jr.wp t w R) (Jr.eq t w) rfl h
def Ky.wp(t:Option Addr)(w:World)(R:TR [(false,[(.i .i64)])]→WP):Prop:=
Bf [.int .i64 0] T.int w fun p1 w2=>
Au [.int .i64 0] p1 0 w2 fun w3=>
Ae prog F.Gv [.pointer t] w3 false [(false,[.any])] fun r4 w5=>
RfT prog r4.1.1 [(true,[(.i .i64),(.i .i64),(.i .i64)])] w5 (fun x6 k7 w8=>
Bf [.int .i64 0,.int .i64 0,.int .i64 0] T.Du w8 fun p14 w15=>
Au [.int .i64 x6.1.1,.int .i64 x6.1.2.1,.int .i64 x6.1.2.2.1] p14 0 w15 fun w16=>
k7 w16 fun go9 lv10 w11=>
ld1 (.i .i64) p1 w11 fun x17=>
ld1 (.i .i64) (p14.add 2) w11 fun x18=>
Au [.int .i64 (if x18>x17 then x18 else x17)] p1 0 w11 fun w19=>
go9 w19) (fun D12 w13=>
ld1 (.i .i64) p1 w13 fun x20=>
tkK D12 w13 fun w21=>
R ((x20,()),()) w21) []
theorem Ky.eq(t:Option Addr)(w:World)(R:Value→WP):A7 prog Tryz.f307 (.s .n (.s .n (.s (.s .n (.rf [(true,[(.i .i64),(.i .i64),(.i .i64)])] .n .n)) .n))) [.pointer t] w R=Ky.wp t w (fun r w=>R (encR false [(false,[(.i .i64)])] r) w):=by kernel_rfl
theorem Ky.ok{t:Option Addr}{w:World}{R:TR [(false,[(.i .i64)])]→WP}(h:Ky.wp t w R):Ae prog F.Ky [.pointer t] w false [(false,[(.i .i64)])] R:=
  Aop Aa Tryz.func307 (fun R=>Ky.wp t w R) (Ky.eq t w) rfl h
def Jq.wp(s0:Int)(s1:Int)(ticks:Int)(w:World)(R:TR [(false,[(.i .i64)])]→WP):Prop:=
Bf [.int .i64 s0,.int .i64 s1] T.Xi w fun p1 w2=>
ld1 (.i .i64) p1 w2 fun x3=>
ld1 (.i .i64) (p1.add 1) w2 fun x4=>
Ae prog F.Vl [.int .i64 x3,.int .i64 ticks,.int .i64 x4] w2 true [(false,[(.i .i64)]),(false,[.b])] fun r5 w6=>
R ((r5.1.1,()),()) w6
theorem Jq.eq(s0:Int)(s1:Int)(ticks:Int)(w:World)(R:Value→WP):A7 prog Tryz.f308 .n [.agg #[.int .i64 s0,.int .i64 s1],.int .i64 ticks] w R=Jq.wp s0 s1 ticks w (fun r w=>R (encR false [(false,[(.i .i64)])] r) w):=by kernel_rfl
theorem Jq.ok{s0:Int}{s1:Int}{ticks:Int}{w:World}{R:TR [(false,[(.i .i64)])]→WP}(h:Jq.wp s0 s1 ticks w R):Ae prog F.Jq [.agg #[.int .i64 s0,.int .i64 s1],.int .i64 ticks] w false [(false,[(.i .i64)])] R:=
  Aop Aa Tryz.func308 (fun R=>Jq.wp s0 s1 ticks w R) (Jq.eq s0 s1 ticks w) rfl h
def Yb.wp(a:Int)(b:Int)(w:World)(R:TR [(false,[(.i .i64)])]→WP):Prop:=
Ae prog F.Y7 [.int .i64 a,.int .i64 b] w true [(false,[(.i .i64)]),(false,[.b])] fun r1 w2=>
Aj r1.2.1.1 (
R ((r1.1.1,()),()) w2) (
Aj (decide (b>0)) (
R ((9223372036854775807,()),()) w2) (
R (((Int.negSucc 9223372036854775807),()),()) w2))
theorem Yb.eq(a:Int)(b:Int)(w:World)(R:Value→WP):A7 prog Tryz.f309 .n [.int .i64 a,.int .i64 b] w R=Yb.wp a b w (fun r w=>R (encR false [(false,[(.i .i64)])] r) w):=by kernel_rfl
theorem Yb.ok{a:Int}{b:Int}{w:World}{R:TR [(false,[(.i .i64)])]→WP}(h:Yb.wp a b w R):Ae prog F.Yb [.int .i64 a,.int .i64 b] w false [(false,[(.i .i64)])] R:=
  Aop Aa Tryz.func309 (fun R=>Yb.wp a b w R) (Yb.eq a b w) rfl h
def Es.wp(t0:Int)(t1:Int)(t2:Int)(t3:Int)(w:World)(R:TR [(false,[.b])]→WP):Prop:=
Bf [.int .i64 t0,.int .i64 t1,.int .i64 t2,.int .i64 t3] T.Xh w fun p1 w2=>
ld1 (.i .i64) p1 w2 fun x3=>
Aj (decide (x3≥0)) (
ld1 (.i .i64) p1 w2 fun x4=>
Aj (decide (x4≤10)) (
ld1 (.i .i64) (p1.add 1) w2 fun x5=>
Aj (decide (x5≥0)) (
ld1 (.i .i64) (p1.add 1) w2 fun x6=>
Aj (decide (x6≤20)) (
ld1 (.i .i64) (p1.add 2) w2 fun x7=>
Aj (decide (x7≥1)) (
ld1 (.i .i64) (p1.add 2) w2 fun x8=>
Aj (decide (x8≤1000)) (
ld1 (.i .i64) (p1.add 3) w2 fun x9=>
Aj (decide (x9≥1)) (
ld1 (.i .i64) (p1.add 3) w2 fun x10=>
R ((decide (x10≤64),()),()) w2) (
R ((false,()),()) w2)) (
R ((false,()),()) w2)) (
R ((false,()),()) w2)) (
R ((false,()),()) w2)) (
R ((false,()),()) w2)) (
R ((false,()),()) w2)) (
R ((false,()),()) w2)
theorem Es.eq(t0:Int)(t1:Int)(t2:Int)(t3:Int)(w:World)(R:Value→WP):A7 prog Tryz.f310 .n [.agg #[.int .i64 t0,.int .i64 t1,.int .i64 t2,.int .i64 t3]] w R=Es.wp t0 t1 t2 t3 w (fun r w=>R (encR false [(false,[.b])] r) w):=by kernel_rfl
theorem Es.ok{t0:Int}{t1:Int}{t2:Int}{t3:Int}{w:World}{R:TR [(false,[.b])]→WP}(h:Es.wp t0 t1 t2 t3 w R):Ae prog F.Es [.agg #[.int .i64 t0,.int .i64 t1,.int .i64 t2,.int .i64 t3]] w false [(false,[.b])] R:=
  Aop Aa Tryz.func310 (fun R=>Es.wp t0 t1 t2 t3 w R) (Es.eq t0 t1 t2 t3 w) rfl h
def Ir.wp(t0:Int)(t1:Int)(t2:Int)(t3:Int)(rounds:Int)(w:World)(R:TR [(false,[(.i .i64)])]→WP):Prop:=
Bf [.int .i64 t0,.int .i64 t1,.int .i64 t2,.int .i64 t3] T.Xh w fun p1 w2=>
Jg w2 fun w3=>
ld1 (.i .i64) p1 w3 fun x4=>
A8 [(.i .i64),(.i .i64),(.i .i64),(.i .i64)] p1 0 w3 fun x5=>
Ae prog F.I7 [.agg #[.int .i64 x5.1,.int .i64 x5.2.1,.int .i64 x5.2.2.1,.int .i64 x5.2.2.2.1],.int .i64 rounds] w3 false [(false,[(.i .i64)])] fun r6 w7=>
Aw [(1,p1,(w3.cell? p1).getD undef)] w7∧(
ld1 (.i .i64) p1 w7 fun x8=>
A8 [(.i .i64),(.i .i64),(.i .i64),(.i .i64)] p1 0 w7 fun x9=>
Ae prog F.Es [.agg #[.int .i64 x9.1,.int .i64 x9.2.1,.int .i64 x9.2.2.1,.int .i64 x9.2.2.2.1]] w7 false [(false,[.b])] fun r10 w11=>
Aj (!r10.1.1) (
R ((0,()),()) w11) (
dF (wrap .i64 (1000-x8)) (
R ((wrap .i64 (Int.tdiv (wrap .i64 ((wrap .i64 ((wrap .i64 ((wrap .i64 (2*x4))*r6.1.1))+(wrap .i64 (1000-x8))))-1)) (wrap .i64 (1000-x8))),()),()) w11)))
theorem Ir.eq(t0:Int)(t1:Int)(t2:Int)(t3:Int)(rounds:Int)(w:World)(R:Value→WP):A7 prog Tryz.f311 (.s .n (.s (.pl (.tk 0 (.tk 1 (.tk 2 (.tk 3 (.tk 4 (.ef 5 [3] (.tk 6 (.tk 7 .z))))))))) .n)) [.agg #[.int .i64 t0,.int .i64 t1,.int .i64 t2,.int .i64 t3],.int .i64 rounds] w R=Ir.wp t0 t1 t2 t3 rounds w (fun r w=>R (encR false [(false,[(.i .i64)])] r) w):=by kernel_rfl
theorem Ir.ok{t0:Int}{t1:Int}{t2:Int}{t3:Int}{rounds:Int}{w:World}{R:TR [(false,[(.i .i64)])]→WP}(h:Ir.wp t0 t1 t2 t3 rounds w R):Ae prog F.Ir [.agg #[.int .i64 t0,.int .i64 t1,.int .i64 t2,.int .i64 t3],.int .i64 rounds] w false [(false,[(.i .i64)])] R:=
  Aop Aa Tryz.func311 (fun R=>Ir.wp t0 t1 t2 t3 rounds w R) (Ir.eq t0 t1 t2 t3 rounds w) rfl h
def Ns.wp(e:Option Addr)(root:Int)(w:World)(R:TR [(false,[.b])]→WP):Prop:=
Cc (fun(J1:((Bool)×Unit)→WP)=>
Aj (decide (root<0)) (
J1 (true,()) w) (
Aq e fun a4=>
ld1 (.i .i64) a4 w fun x5=>
J1 (decide (root≥x5),()) w)) (fun(z2:(Bool)×Unit) w3=> ∀_:Nat→Value,
Aj z2.1 (
R ((false,()),()) w3) (
Ae prog F.Bc [.pointer e] w3 false [(false,[.b])] fun r6 w7=>
Aj r6.1.1 (
Aq e fun a8=>
ld1 (.i .i64) (a8.add 7) w7 fun x9=>
R (((x9==0),()),()) w7) (
Aq e fun a10=>
ld1 (.i .i64) (a10.add 5) w7 fun x11=>
Aj (decide (x11<0)) (
R ((true,()),()) w7) (
Aq e fun a12=>
ld1 (.i .i64) (a12.add 5) w7 fun x13=>
R ((decide (root≤x13),()),()) w7))))
theorem Ns.eq(e:Option Addr)(root:Int)(w:World)(R:Value→WP):A7 prog Tryz.f312 (.s .n (.s (.ct [(5,.b)] .n .n) .n)) [.pointer e,.int .i64 root] w R=Ns.wp e root w (fun r w=>R (encR false [(false,[.b])] r) w):=by kernel_rfl
theorem Ns.ok{e:Option Addr}{root:Int}{w:World}{R:TR [(false,[.b])]→WP}(h:Ns.wp e root w R):Ae prog F.Ns [.pointer e,.int .i64 root] w false [(false,[.b])] R:=
  Aop Aa Tryz.func312 (fun R=>Ns.wp e root w R) (Ns.eq e root w) rfl h
def Kw.wp(m0:Int)(m1:Int)(old0:Int)(old1:Int)(w:World)(R:TR [(false,[.b])]→WP):Prop:=
Bf [.int .u16 m0,.int .u16 m1] T.Ti w fun p1 w2=>
Bf [.int .u16 old0,.int .u16 old1] T.Ti w2 fun p3 w4=>
ld1 (.i .u16) p1 w4 fun x5=>
ld1 (.i .u16) p3 w4 fun x6=>
Ae prog F.Pz [.int .u16 x5,.int .u16 x6] w4 false [(false,[.b])] fun r7 w8=>
Aj r7.1.1 (
R ((true,()),()) w8) (
ld1 (.i .u16) p1 w8 fun x9=>
ld1 (.i .u16) p3 w8 fun x10=>
Aj (x9==x10) (
ld1 (.i .u16) (p1.add 1) w8 fun x11=>
ld1 (.i .u16) (p3.add 1) w8 fun x12=>
Ae prog F.Pz [.int .u16 x11,.int .u16 x12] w8 false [(false,[.b])] fun r13 w14=>
R ((r13.1.1,()),()) w14) (
R ((false,()),()) w8))
theorem Kw.eq(m0:Int)(m1:Int)(old0:Int)(old1:Int)(w:World)(R:Value→WP):A7 prog Tryz.f313 .n [.agg #[.int .u16 m0,.int .u16 m1],.agg #[.int .u16 old0,.int .u16 old1]] w R=Kw.wp m0 m1 old0 old1 w (fun r w=>R (encR false [(false,[.b])] r) w):=by kernel_rfl
theorem Kw.ok{m0:Int}{m1:Int}{old0:Int}{old1:Int}{w:World}{R:TR [(false,[.b])]→WP}(h:Kw.wp m0 m1 old0 old1 w R):Ae prog F.Kw [.agg #[.int .u16 m0,.int .u16 m1],.agg #[.int .u16 old0,.int .u16 old1]] w false [(false,[.b])] R:=
  Aop Aa Tryz.func313 (fun R=>Kw.wp m0 m1 old0 old1 w R) (Kw.eq m0 m1 old0 old1 w) rfl h
def Ld.wp(t:Option Addr)(w:World)(R:TR [(true,[(.i .i64),(.i .i64),(.i .i64)]),(false,[.b])]→WP):Prop:=
Bf [.int .i64 0,.int .i64 0,.int .i64 0] T.Du w fun p1 w2=>
Ae prog F.Dk [.pointer t] w2 false [(false,[(.i .i64)])] fun r3 w4=>
Aj (r3.1.1==0) (
Au [.int .i64 0,.int .i64 0,.int .i64 0] p1 0 w4 fun w5=>
A8 [(.i .i64),(.i .i64),(.i .i64)] p1 0 w5 fun x6=>
R ((x6.1,x6.2.1,x6.2.2.1,()),(false,()),()) w5) (
Jg w4 fun w7=>
Aq t fun a8=>
ld1 .sl a8 w7 fun x9=>
Aq t fun a10=>
ld1 .sl a10 w7 fun x11=>
Ny x9.1 x9.2.1 (wrap .i64 ((x11.2.1:Int)-1)) fun a12=>
A8 [(.i .i64),(.i .i64),(.i .i64)] (a12.add ((wrap .i64 ((x11.2.1:Int)-1)).toNat*3)) 0 w7 fun x13=>
Au [.int .i64 x13.1,.int .i64 x13.2.1,.int .i64 x13.2.2.1] p1 0 w7 fun w14=>
Aw [] w14∧(
A8 [(.i .i64),(.i .i64),(.i .i64)] p1 0 w14 fun x15=>
R ((x15.1,x15.2.1,x15.2.2.1,()),(true,()),()) w14))
theorem Ld.eq(t:Option Addr)(w:World)(R:Value→WP):A7 prog Tryz.f314 (.s .n (.s .n (.s (.pl (.tk 0 (.tk 1 (.tk 2 (.tk 3 (.tk 4 (.tk 5 (.tk 6 (.tk 7 (.tk 8 (.tk 9 (.tk 10 (.tk 11 (.ef 12 [3,7,11] (.tk 13 .z))))))))))))))) .n))) [.pointer t] w R=Ld.wp t w (fun r w=>R (encR true [(true,[(.i .i64),(.i .i64),(.i .i64)]),(false,[.b])] r) w):=by kernel_rfl
theorem Ld.ok{t:Option Addr}{w:World}{R:TR [(true,[(.i .i64),(.i .i64),(.i .i64)]),(false,[.b])]→WP}(h:Ld.wp t w R):Ae prog F.Ld [.pointer t] w true [(true,[(.i .i64),(.i .i64),(.i .i64)]),(false,[.b])] R:=
  Aop Aa Tryz.func314 (fun R=>Ld.wp t w R) (Ld.eq t w) rfl h
def Df.wp(s:Option Addr×Nat×Nat)(w:World)(R:TR [(false,[.sl])]→WP):Prop:=
Aj (Option.isNone s.1) (
R (((none,0,0),()),()) w) (
Bf [] T.Du w fun p1 w2=>
L9 ((Builtin.append_ #[T.Ox,T.Ox] T.Ox #[.slice (some p1) 0 0,.slice s.1 s.2.1 s.2.2]).run prog w2) fun y3 w4=>
R (((y3.1,y3.2.1,y3.2.2),()),()) w4)
theorem Df.eq(s:Option Addr×Nat×Nat)(w:World)(R:Value→WP):A7 prog Tryz.f315 .n [.slice s.1 s.2.1 s.2.2] w R=Df.wp s w (fun r w=>R (encR false [(false,[.sl])] r) w):=by kernel_rfl
theorem Df.ok{s:Option Addr×Nat×Nat}{w:World}{R:TR [(false,[.sl])]→WP}(h:Df.wp s w R):Ae prog F.Df [.slice s.1 s.2.1 s.2.2] w false [(false,[.sl])] R:=
  Aop Aa Tryz.func315 (fun R=>Df.wp s w R) (Df.eq s w) rfl h
def Ei.wp(yield:Nat)(c_cap0:Addr)(w:World)(R:TR []→WP):Prop:=
ld1 .p c_cap0 w fun x1=>
Ae prog F.Di [.pointer x1] w false [(false,[(.i .i64)])] fun r2 w3=>
Ci (fun(self4:((Int)×Unit)→WP) (z5:(Int)×Unit) w6=> ∀_:Nat→Value,
Aj (decide (z5.1<r2.1.1)) (
Jg w6 fun w7=>
ld1 .p c_cap0 w7 fun x8=>
Aq x8 fun a9=>
ld1 .sl a9 w7 fun x10=>
ld1 .p c_cap0 w7 fun x11=>
Aq x11 fun a12=>
ld1 (.i .i64) (a12.add 1) w7 fun x13=>
ld1 .p c_cap0 w7 fun x14=>
Aq x14 fun a15=>
ld1 .sl a15 w7 fun x16=>
dF (x16.2.1:Int) (
Ny x10.1 x10.2.1 (Int.tmod (wrap .i64 (x13+z5.1)) (x16.2.1:Int)) fun a17=>
ld1 .any (a17.add ((Int.tmod (wrap .i64 (x13+z5.1)) (x16.2.1:Int)).toNat*1)) w7 fun x18=>
yiS prog yield [x18] w7 fun b19 w20=>
Aj (!b19) (
R (()) w20) (
self4 (wrap .i64 (z5.1+1),()) w20))) (
R (()) w6)) (0,()) w3
theorem Ei.eq(yield:Nat)(c_cap0:Addr)(w:World)(R:Value→WP):A7 prog Tryz.f316 (.s .n (.lp [(6,(.i .i64))] (.s .n (.s .n (.s (.s .n (.s (.py 19 (.tk 0 (.tk 1 (.tk 2 (.tk 3 (.tk 4 (.tk 5 (.tk 6 (.tk 7 (.tk 8 (.tk 9 (.tk 10 (.tk 11 (.tk 12 (.tk 13 (.tk 14 (.tk 15 (.tk 16 (.tk 17 (.tk 18 .z)))))))))))))))))))) .n)) .n))))) [.func (.yield yield) #[] #[],.pointer (some c_cap0)] w R=Ei.wp yield c_cap0 w (fun r w=>R (encR true [] r) w):=by kernel_rfl
theorem Ei.ok{yield:Nat}{c_cap0:Addr}{w:World}{R:TR []→WP}(h:Ei.wp yield c_cap0 w R):Ae prog F.Ei [.func (.yield yield) #[] #[],.pointer (some c_cap0)] w true [] R:=
  Aop Aa Tryz.func316 (fun R=>Ei.wp yield c_cap0 w R) (Ei.eq yield c_cap0 w) rfl h
def Xr.wp(sum:Int)(b:Int)(w:World)(R:TR [(false,[(.i .u16)])]→WP):Prop:=
fJ 8 (
Ci (fun(self1:((Int)×(Int)×Unit)→WP) (z2:(Int)×(Int)×Unit) w3=> ∀_:Nat→Value,
Aj (decide (z2.2.1<8)) (
fJ 1 (
Aj ((Lm .and .u16 z2.1 32768) !=0) (
self1 (Lm .xor .u16 (Sz .u16 z2.1 1) 4129,wrap .i64 (z2.2.1+1),()) w3) (
self1 (Sz .u16 z2.1 1,wrap .i64 (z2.2.1+1),()) w3))) (
R ((z2.1,()),()) w3)) (Lm .xor .u16 sum (Sz .u16 (wrap .u16 b) 8),0,()) w)
theorem Xr.eq(sum:Int)(b:Int)(w:World)(R:Value→WP):A7 prog Tryz.f317 (.s .n (.s .n (.s (.s .n (.lp [(0,(.i .u16)),(11,(.i .i64))] .n)) .n))) [.int .u16 sum,.int .u8 b] w R=Xr.wp sum b w (fun r w=>R (encR false [(false,[(.i .u16)])] r) w):=by kernel_rfl
theorem Xr.ok{sum:Int}{b:Int}{w:World}{R:TR [(false,[(.i .u16)])]→WP}(h:Xr.wp sum b w R):Ae prog F.Xr [.int .u16 sum,.int .u8 b] w false [(false,[(.i .u16)])] R:=
  Aop Aa Tryz.func317 (fun R=>Xr.wp sum b w R) (Xr.eq sum b w) rfl h
def Ea.wp(yield:Nat)(c_cap0:Addr)(w:World)(R:TR []→WP):Prop:=
ld1 .p c_cap0 w fun x1=>
Ae prog F.Dk [.pointer x1] w false [(false,[(.i .i64)])] fun r2 w3=>
Ci (fun(self4:((Int)×Unit)→WP) (z5:(Int)×Unit) w6=> ∀_:Nat→Value,
Aj (decide (z5.1<r2.1.1)) (
ld1 .p c_cap0 w6 fun x7=>
Aq x7 fun a8=>
ld1 .sl a8 w6 fun x9=>
Ny x9.1 x9.2.1 z5.1 fun a10=>
A8 [(.i .i64),(.i .i64),(.i .i64)] (a10.add (z5.1.toNat*3)) 0 w6 fun x11=>
yiS prog yield [.agg #[.int .i64 x11.1,.int .i64 x11.2.1,.int .i64 x11.2.2.1]] w6 fun b12 w13=>
Aj (!b12) (
R (()) w13) (
self4 (wrap .i64 (z5.1+1),()) w13)) (
R (()) w6)) (0,()) w3
theorem Ea.eq(yield:Nat)(c_cap0:Addr)(w:World)(R:Value→WP):A7 prog Tryz.f332 (.s .n (.lp [(6,(.i .i64))] .n)) [.func (.yield yield) #[] #[],.pointer (some c_cap0)] w R=Ea.wp yield c_cap0 w (fun r w=>R (encR true [] r) w):=by kernel_rfl
theorem Ea.ok{yield:Nat}{c_cap0:Addr}{w:World}{R:TR []→WP}(h:Ea.wp yield c_cap0 w R):Ae prog F.Ea [.func (.yield yield) #[] #[],.pointer (some c_cap0)] w true [] R:=
  Aop Aa Tryz.func332 (fun R=>Ea.wp yield c_cap0 w R) (Ea.eq yield c_cap0 w) rfl h
def Rt.wp(list:Option Addr×Nat×Nat)(w:World)(R:TR [(true,[(.i .i64),(.i .i64),(.i .i64),(.i .i64),(.i .i64)]),(false,[.b])]→WP):Prop:=
Bf [.int .i64 0,.int .i64 0,.int .i64 0,.int .i64 0,.int .i64 0] T.jS w fun p1 w2=>
Bf [.int .i64 0,.int .i64 0,.int .i64 0,.int .i64 0,.int .i64 0] T.jS w2 fun p3 w4=>
Ci (fun(self5:((Int)×Unit)→WP) (z6:(Int)×Unit) w7=> ∀_:Nat→Value,
Aj (decide (z6.1<(list.2.1:Int))) (
Ny list.1 list.2.1 z6.1 fun a8=>
A8 [(.i .i64),(.i .i64),(.i .i64)] (a8.add (z6.1.toNat*3)) 0 w7 fun x9=>
Bf [.int .i64 0,.int .i64 0,.int .i64 0] T.Du w7 fun p10 w11=>
Au [.int .i64 x9.1,.int .i64 x9.2.1,.int .i64 x9.2.2.1] p10 0 w11 fun w12=>
Jg w12 fun w13=>
ld1 (.i .i64) p10 w13 fun x14=>
Ny list.1 list.2.1 0 fun a15=>
ld1 (.i .i64) (a15.add ((0:Int).toNat*3)) w13 fun x16=>
ld1 (.i .i64) (p10.add 1) w13 fun x17=>
Ny list.1 list.2.1 0 fun a18=>
ld1 (.i .i64) ((a18.add ((0:Int).toNat*3)).add 1) w13 fun x19=>
Aj (decide ((wrap .i64 (x14-x16))<0)) (
Au [.int .i64 0,.int .i64 0,.int .i64 0,.int .i64 0,.int .i64 0] p1 0 w13 fun w20=>
A8 [(.i .i64),(.i .i64),(.i .i64),(.i .i64),(.i .i64)] p1 0 w20 fun x21=>
R ((x21.1,x21.2.1,x21.2.2.1,x21.2.2.2.1,x21.2.2.2.2.1,()),(false,()),()) w20) (
Aj (decide ((wrap .i64 (x14-x16))>4194304)) (
Au [.int .i64 0,.int .i64 0,.int .i64 0,.int .i64 0,.int .i64 0] p1 0 w13 fun w22=>
A8 [(.i .i64),(.i .i64),(.i .i64),(.i .i64),(.i .i64)] p1 0 w22 fun x23=>
R ((x23.1,x23.2.1,x23.2.2.1,x23.2.2.2.1,x23.2.2.2.2.1,()),(false,()),()) w22) (
Aj (decide ((wrap .i64 (x17-x19))<(Int.negSucc 4194303))) (
Au [.int .i64 0,.int .i64 0,.int .i64 0,.int .i64 0,.int .i64 0] p1 0 w13 fun w24=>
A8 [(.i .i64),(.i .i64),(.i .i64),(.i .i64),(.i .i64)] p1 0 w24 fun x25=>
R ((x25.1,x25.2.1,x25.2.2.1,x25.2.2.2.1,x25.2.2.2.2.1,()),(false,()),()) w24) (
Aj (decide ((wrap .i64 (x17-x19))>4194304)) (
Au [.int .i64 0,.int .i64 0,.int .i64 0,.int .i64 0,.int .i64 0] p1 0 w13 fun w26=>
A8 [(.i .i64),(.i .i64),(.i .i64),(.i .i64),(.i .i64)] p1 0 w26 fun x27=>
R ((x27.1,x27.2.1,x27.2.2.1,x27.2.2.2.1,x27.2.2.2.2.1,()),(false,()),()) w26) (
Ae prog F.Ol [.pointer (some p3),.int .i64 (wrap .i64 (x14-x16)),.int .i64 (wrap .i64 (x17-x19))] w13 true [] fun r28 w29=>
self5 (wrap .i64 (z6.1+1),()) w29))))) (
A8 [(.i .i64),(.i .i64),(.i .i64),(.i .i64),(.i .i64)] p3 0 w7 fun x30=>
Au [.int .i64 x30.1,.int .i64 x30.2.1,.int .i64 x30.2.2.1,.int .i64 x30.2.2.2.1,.int .i64 x30.2.2.2.2.1] p1 0 w7 fun w31=>
A8 [(.i .i64),(.i .i64),(.i .i64),(.i .i64),(.i .i64)] p1 0 w31 fun x32=>
R ((x32.1,x32.2.1,x32.2.2.1,x32.2.2.2.1,x32.2.2.2.2.1,()),(true,()),()) w31)) (0,()) w4
theorem Rt.eq(list:Option Addr×Nat×Nat)(w:World)(R:Value→WP):A7 prog Tryz.f333 (.s .n (.s .n (.s (.s .n (.lp [(11,(.i .i64))] (.s .n (.s .n (.s (.s .n (.s (.pl (.tk 0 (.tk 1 (.tk 2 (.tk 3 (.tk 4 (.tk 5 (.tk 6 (.tk 7 (.tk 8 (.tk 9 (.tk 10 (.tk 11 (.tk 12 (.tk 13 (.tk 14 (.tk 15 .z))))))))))))))))) .n)) .n))))) .n))) [.slice list.1 list.2.1 list.2.2] w R=Rt.wp list w (fun r w=>R (encR true [(true,[(.i .i64),(.i .i64),(.i .i64),(.i .i64),(.i .i64)]),(false,[.b])] r) w):=by kernel_rfl
theorem Rt.ok{list:Option Addr×Nat×Nat}{w:World}{R:TR [(true,[(.i .i64),(.i .i64),(.i .i64),(.i .i64),(.i .i64)]),(false,[.b])]→WP}(h:Rt.wp list w R):Ae prog F.Rt [.slice list.1 list.2.1 list.2.2] w true [(true,[(.i .i64),(.i .i64),(.i .i64),(.i .i64),(.i .i64)]),(false,[.b])] R:=
  Aop Aa Tryz.func333 (fun R=>Rt.wp list w R) (Rt.eq list w) rfl h
def Vr.wp(drift:Int)(w:World)(R:TR [(true,[(.i .i64),(.i .i64)])]→WP):Prop:=
Bf [.int .i64 0,.int .i64 0] T.Xi w fun p1 w2=>
Ae prog F.Qs [.int .i64 drift,.int .i64 0,.int .i64 10] w2 false [(false,[(.i .i64)])] fun r3 w4=>
Au [.int .i64 (wrap .i64 (2*r3.1.1)),.int .i64 (wrap .i64 (1000-r3.1.1))] p1 0 w4 fun w5=>
A8 [(.i .i64),(.i .i64)] p1 0 w5 fun x6=>
R ((x6.1,x6.2.1,()),()) w5
theorem Vr.eq(drift:Int)(w:World)(R:Value→WP):A7 prog Tryz.f334 .n [.int .i64 drift] w R=Vr.wp drift w (fun r w=>R (encR false [(true,[(.i .i64),(.i .i64)])] r) w):=by kernel_rfl
theorem Vr.ok{drift:Int}{w:World}{R:TR [(true,[(.i .i64),(.i .i64)])]→WP}(h:Vr.wp drift w R):Ae prog F.Vr [.int .i64 drift] w false [(true,[(.i .i64),(.i .i64)])] R:=
  Aop Aa Tryz.func334 (fun R=>Vr.wp drift w R) (Vr.eq drift w) rfl h
def Td.wp(a0:Int)(a1:Int)(b0:Int)(b1:Int)(w:World)(R:TR [(false,[.b])]→WP):Prop:=
Bf [.int .i64 a0,.int .i64 a1] T.Xi w fun p1 w2=>
Bf [.int .i64 b0,.int .i64 b1] T.Xi w2 fun p3 w4=>
ld1 (.i .i64) p1 w4 fun x5=>
ld1 (.i .i64) (p3.add 1) w4 fun x6=>
Ae prog F.bits_Mul64 [.int .u64 (wrap .u64 x5),.int .u64 (wrap .u64 x6)] w4 true [(false,[(.i .u64)]),(false,[(.i .u64)])] fun r7 w8=>
ld1 (.i .i64) p3 w8 fun x9=>
ld1 (.i .i64) (p1.add 1) w8 fun x10=>
Ae prog F.bits_Mul64 [.int .u64 (wrap .u64 x9),.int .u64 (wrap .u64 x10)] w8 true [(false,[(.i .u64)]),(false,[(.i .u64)])] fun r11 w12=>
Aj (decide (r7.1.1>r11.1.1)) (
R ((true,()),()) w12) (
Aj (r7.1.1==r11.1.1) (
R ((decide (r7.2.1.1>r11.2.1.1),()),()) w12) (
R ((false,()),()) w12))
theorem Td.eq(a0:Int)(a1:Int)(b0:Int)(b1:Int)(w:World)(R:Value→WP):A7 prog Tryz.f335 .n [.agg #[.int .i64 a0,.int .i64 a1],.agg #[.int .i64 b0,.int .i64 b1]] w R=Td.wp a0 a1 b0 b1 w (fun r w=>R (encR false [(false,[.b])] r) w):=by kernel_rfl
theorem Td.ok{a0:Int}{a1:Int}{b0:Int}{b1:Int}{w:World}{R:TR [(false,[.b])]→WP}(h:Td.wp a0 a1 b0 b1 w R):Ae prog F.Td [.agg #[.int .i64 a0,.int .i64 a1],.agg #[.int .i64 b0,.int .i64 b1]] w false [(false,[.b])] R:=
  Aop Aa Tryz.func335 (fun R=>Td.wp a0 a1 b0 b1 w R) (Td.eq a0 a1 b0 b1 w) rfl h
def F8.wp(seq:Value)(w:World)(R:TR [(false,[.sl])]→WP):Prop:=
Ae prog F.Bl [.slice none 0 0,seq] w false [(false,[.sl])] fun r1 w2=>
R (((r1.1.1.1,r1.1.1.2.1,r1.1.1.2.2),()),()) w2
theorem F8.eq(seq:Value)(w:World)(R:Value→WP):A7 prog Tryz.f336 .n [seq] w R=F8.wp seq w (fun r w=>R (encR false [(false,[.sl])] r) w):=by kernel_rfl
theorem F8.ok{seq:Value}{w:World}{R:TR [(false,[.sl])]→WP}(h:F8.wp seq w R):Ae prog F.F8 [seq] w false [(false,[.sl])] R:=
  Aop Aa Tryz.func336 (fun R=>F8.wp seq w R) (F8.eq seq w) rfl h
def Vl.wp(a:Int)(b:Int)(c:Int)(w:World)(R:TR [(false,[(.i .i64)]),(false,[.b])]→WP):Prop:=
Aj (decide (c<1)) (
R ((0,()),(false,()),()) w) (
Ae prog F.V8 [.int .i64 a] w false [(false,[(.i .u64)])] fun r1 w2=>
Ae prog F.V8 [.int .i64 b] w2 false [(false,[(.i .u64)])] fun r3 w4=>
Ae prog F.bits_Mul64 [.int .u64 r1.1.1,.int .u64 r3.1.1] w4 true [(false,[(.i .u64)]),(false,[(.i .u64)])] fun r5 w6=>
Aj (decide (r5.1.1≥(wrap .u64 c))) (
R ((0,()),(false,()),()) w6) (
Ae prog F.Vk [.int .u64 r5.1.1,.int .u64 r5.2.1.1,.int .u64 (wrap .u64 c)] w6 true [(false,[(.i .u64)]),(false,[(.i .u64)])] fun r7 w8=>
Aj ((decide (a<0))==(decide (b<0))) (
Aj (decide (r7.1.1>9223372036854775807)) (
R ((0,()),(false,()),()) w8) (
R ((wrap .i64 r7.1.1,()),(true,()),()) w8)) (
Cc (fun(J9:((Int)×Unit)→WP)=>
Aj (decide (r7.2.1.1>0)) (
Aj ((wrap .u64 (r7.1.1+1))==0) (
R ((0,()),(false,()),()) w8) (
J9 (wrap .u64 (r7.1.1+1),()) w8)) (
J9 (r7.1.1,()) w8)) (fun(z10:(Int)×Unit) w11=> ∀_:Nat→Value,
Aj (decide (z10.1>9223372036854775808)) (
R ((0,()),(false,()),()) w11) (
R ((wrap .i64 (wrap .u64 (0-z10.1)),()),(true,()),()) w11)))))
theorem Vl.eq(a:Int)(b:Int)(c:Int)(w:World)(R:Value→WP):A7 prog Tryz.f337 (.s .n (.s .n (.s .n (.s .n (.s .n (.s .n (.ct [(10,(.i .u64))] .n .n))))))) [.int .i64 a,.int .i64 b,.int .i64 c] w R=Vl.wp a b c w (fun r w=>R (encR true [(false,[(.i .i64)]),(false,[.b])] r) w):=by kernel_rfl
theorem Vl.ok{a:Int}{b:Int}{c:Int}{w:World}{R:TR [(false,[(.i .i64)]),(false,[.b])]→WP}(h:Vl.wp a b c w R):Ae prog F.Vl [.int .i64 a,.int .i64 b,.int .i64 c] w true [(false,[(.i .i64)]),(false,[.b])] R:=
  Aop Aa Tryz.func337 (fun R=>Vl.wp a b c w R) (Vl.eq a b c w) rfl h
def Y7.wp(a:Int)(b:Int)(w:World)(R:TR [(false,[(.i .i64)]),(false,[.b])]→WP):Prop:=
Aj (!((decide ((wrap .i64 (a+b))>a))==(decide (b>0)))) (
Aj (b !=0) (
R ((0,()),(false,()),()) w) (
R ((wrap .i64 (a+b),()),(true,()),()) w)) (
R ((wrap .i64 (a+b),()),(true,()),()) w)
theorem Y7.eq(a:Int)(b:Int)(w:World)(R:Value→WP):A7 prog Tryz.f338 .n [.int .i64 a,.int .i64 b] w R=Y7.wp a b w (fun r w=>R (encR true [(false,[(.i .i64)]),(false,[.b])] r) w):=by kernel_rfl
theorem Y7.ok{a:Int}{b:Int}{w:World}{R:TR [(false,[(.i .i64)]),(false,[.b])]→WP}(h:Y7.wp a b w R):Ae prog F.Y7 [.int .i64 a,.int .i64 b] w true [(false,[(.i .i64)]),(false,[.b])] R:=
  Aop Aa Tryz.func338 (fun R=>Y7.wp a b w R) (Y7.eq a b w) rfl h
def I7.wp(t0:Int)(t1:Int)(t2:Int)(t3:Int)(rounds:Int)(w:World)(R:TR [(false,[(.i .i64)])]→WP):Prop:=
Bf [.int .i64 t0,.int .i64 t1,.int .i64 t2,.int .i64 t3] T.Xh w fun p1 w2=>
A8 [(.i .i64),(.i .i64),(.i .i64),(.i .i64)] p1 0 w2 fun x3=>
Ae prog F.Es [.agg #[.int .i64 x3.1,.int .i64 x3.2.1,.int .i64 x3.2.2.1,.int .i64 x3.2.2.2.1]] w2 false [(false,[.b])] fun r4 w5=>
Aj (!r4.1.1) (
R ((0,()),()) w5) (
Aj (decide (rounds<0)) (
R ((0,()),()) w5) (
Aj (decide (rounds>1073741824)) (
R ((0,()),()) w5) (
ld1 (.i .i64) (p1.add 3) w5 fun x6=>
ld1 (.i .i64) p1 w5 fun x7=>
R ((wrap .i64 ((wrap .i64 (rounds*x6))*(wrap .i64 (1000+x7))),()),()) w5)))
theorem I7.eq(t0:Int)(t1:Int)(t2:Int)(t3:Int)(rounds:Int)(w:World)(R:Value→WP):A7 prog Tryz.f339 .n [.agg #[.int .i64 t0,.int .i64 t1,.int .i64 t2,.int .i64 t3],.int .i64 rounds] w R=I7.wp t0 t1 t2 t3 rounds w (fun r w=>R (encR false [(false,[(.i .i64)])] r) w):=by kernel_rfl
theorem I7.ok{t0:Int}{t1:Int}{t2:Int}{t3:Int}{rounds:Int}{w:World}{R:TR [(false,[(.i .i64)])]→WP}(h:I7.wp t0 t1 t2 t3 rounds w R):Ae prog F.I7 [.agg #[.int .i64 t0,.int .i64 t1,.int .i64 t2,.int .i64 t3],.int .i64 rounds] w false [(false,[(.i .i64)])] R:=
  Aop Aa Tryz.func339 (fun R=>I7.wp t0 t1 t2 t3 rounds w R) (I7.eq t0 t1 t2 t3 rounds w) rfl h
def Ol.wp(s:Option Addr)(x:Int)(y:Int)(w:World)(R:TR []→WP):Prop:=
Aq s fun a1=>
ld1 (.i .i64) a1 w fun x2=>
Aq s fun a3=>
Au [.int .i64 (wrap .i64 (x2+1))] a3 0 w fun w4=>
Aq s fun a5=>
ld1 (.i .i64) (a5.add 1) w4 fun x6=>
Aq s fun a7=>
Au [.int .i64 (wrap .i64 (x6+x))] (a7.add 1) 0 w4 fun w8=>
Aq s fun a9=>
ld1 (.i .i64) (a9.add 2) w8 fun x10=>
Aq s fun a11=>
Au [.int .i64 (wrap .i64 (x10+y))] (a11.add 2) 0 w8 fun w12=>
Aq s fun a13=>
ld1 (.i .i64) (a13.add 3) w12 fun x14=>
Aq s fun a15=>
Au [.int .i64 (wrap .i64 (x14+(wrap .i64 (x*y))))] (a15.add 3) 0 w12 fun w16=>
Aq s fun a17=>
ld1 (.i .i64) (a17.add 4) w16 fun x18=>
Aq s fun a19=>
Au [.int .i64 (wrap .i64 (x18+(wrap .i64 (x*x))))] (a19.add 4) 0 w16 fun w20=>
R (()) w20
theorem Ol.eq(s:Option Addr)(x:Int)(y:Int)(w:World)(R:Value→WP):A7 prog Tryz.f347 .n [.pointer s,.int .i64 x,.int .i64 y] w R=Ol.wp s x y w (fun r w=>R (encR true [] r) w):=by kernel_rfl
theorem Ol.ok{s:Option Addr}{x:Int}{y:Int}{w:World}{R:TR []→WP}(h:Ol.wp s x y w R):Ae prog F.Ol [.pointer s,.int .i64 x,.int .i64 y] w true [] R:=
  Aop Aa Tryz.func347 (fun R=>Ol.wp s x y w R) (Ol.eq s x y w) rfl h
def bits_Mul64.wp(x:Int)(y:Int)(w:World)(R:TR [(false,[(.i .u64)]),(false,[(.i .u64)])]→WP):Prop:=
fJ 32 (
fJ 32 (
fJ 32 (
fJ 32 (
fJ 32 (
R ((wrap .u64 ((wrap .u64 ((wrap .u64 ((Qv .u64 x 32)*(Qv .u64 y 32)))+(Qv .u64 (wrap .u64 ((wrap .u64 ((Qv .u64 x 32)*(Lm .and .u64 y 4294967295)))+(Qv .u64 (wrap .u64 ((Lm .and .u64 x 4294967295)*(Lm .and .u64 y 4294967295))) 32))) 32)))+(Qv .u64 (wrap .u64 ((Lm .and .u64 (wrap .u64 ((wrap .u64 ((Qv .u64 x 32)*(Lm .and .u64 y 4294967295)))+(Qv .u64 (wrap .u64 ((Lm .and .u64 x 4294967295)*(Lm .and .u64 y 4294967295))) 32))) 4294967295)+(wrap .u64 ((Lm .and .u64 x 4294967295)*(Qv .u64 y 32))))) 32)),()),(wrap .u64 (x*y),()),()) w)))))
theorem bits_Mul64.eq(x:Int)(y:Int)(w:World)(R:Value→WP):A7 prog Tryz.f348 .n [.int .u64 x,.int .u64 y] w R=bits_Mul64.wp x y w (fun r w=>R (encR true [(false,[(.i .u64)]),(false,[(.i .u64)])] r) w):=by kernel_rfl
theorem bits_Mul64.ok{x:Int}{y:Int}{w:World}{R:TR [(false,[(.i .u64)]),(false,[(.i .u64)])]→WP}(h:bits_Mul64.wp x y w R):Ae prog F.bits_Mul64 [.int .u64 x,.int .u64 y] w true [(false,[(.i .u64)]),(false,[(.i .u64)])] R:=
  Aop Aa Tryz.func348 (fun R=>bits_Mul64.wp x y w R) (bits_Mul64.eq x y w) rfl h
def Bl.wp(s:Option Addr×Nat×Nat)(seq:Value)(w:World)(R:TR [(false,[.sl])]→WP):Prop:=
Bf [.slice s.1 s.2.1 s.2.2] T.Ox w fun p1 w2=>
RfT prog seq [(true,[(.i .i64),(.i .i64),(.i .i64)])] w2 (fun x3 k4 w5=>
Bf [.int .i64 0,.int .i64 0,.int .i64 0] T.Du w5 fun p11 w12=>
Au [.int .i64 x3.1.1,.int .i64 x3.1.2.1,.int .i64 x3.1.2.2.1] p11 0 w12 fun w13=>
k4 w13 fun go6 lv7 w8=>
ld1 .sl p1 w8 fun x14=>
A8 [(.i .i64),(.i .i64),(.i .i64)] p11 0 w8 fun x15=>
Bf [.int .i64 x15.1,.int .i64 x15.2.1,.int .i64 x15.2.2.1] T.Du w8 fun p16 w17=>
L9 ((Builtin.append_ #[T.Ox,T.Ox] T.Ox #[.slice x14.1 x14.2.1 x14.2.2,.slice (some p16) 1 1]).run prog w17) fun y18 w19=>
Au [.slice y18.1 y18.2.1 y18.2.2] p1 0 w19 fun w20=>
go6 w20) (fun D9 w10=>
ld1 .sl p1 w10 fun x21=>
tkK D9 w10 fun w22=>
R (((x21.1,x21.2.1,x21.2.2),()),()) w22) []
theorem Bl.eq(s:Option Addr×Nat×Nat)(seq:Value)(w:World)(R:Value→WP):A7 prog Tryz.f349 (.s .n (.s (.s .n (.rf [(true,[(.i .i64),(.i .i64),(.i .i64)])] .n .n)) .n)) [.slice s.1 s.2.1 s.2.2,seq] w R=Bl.wp s seq w (fun r w=>R (encR false [(false,[.sl])] r) w):=by kernel_rfl
theorem Bl.ok{s:Option Addr×Nat×Nat}{seq:Value}{w:World}{R:TR [(false,[.sl])]→WP}(h:Bl.wp s seq w R):Ae prog F.Bl [.slice s.1 s.2.1 s.2.2,seq] w false [(false,[.sl])] R:=
  Aop Aa Tryz.func349 (fun R=>Bl.wp s seq w R) (Bl.eq s seq w) rfl h
def V8.wp(n:Int)(w:World)(R:TR [(false,[(.i .u64)])]→WP):Prop:=
Aj (decide (n<0)) (
R ((wrap .u64 (0-(wrap .u64 n)),()),()) w) (
R ((wrap .u64 n,()),()) w)
theorem V8.eq(n:Int)(w:World)(R:Value→WP):A7 prog Tryz.f350 .n [.int .i64 n] w R=V8.wp n w (fun r w=>R (encR false [(false,[(.i .u64)])] r) w):=by kernel_rfl
theorem V8.ok{n:Int}{w:World}{R:TR [(false,[(.i .u64)])]→WP}(h:V8.wp n w R):Ae prog F.V8 [.int .i64 n] w false [(false,[(.i .u64)])] R:=
  Aop Aa Tryz.func350 (fun R=>V8.wp n w R) (V8.eq n w) rfl h
def Vk.wp(hi:Int)(lo:Int)(y:Int)(w:World)(R:TR [(false,[(.i .u64)]),(false,[(.i .u64)])]→WP):Prop:=
Aj (y==0) (
ld1 .any ⟨1,0,none⟩ w fun x1=>
False) (
Aj (decide (y≤hi)) (
ld1 .any ⟨2,0,none⟩ w fun x2=>
False) (
Aj (hi==0) (
Jg w fun w3=>
dF y (
dF y (
R ((wrap .u64 (Int.tdiv lo y),()),(Int.tmod lo y,()),()) w3))) (
Ae prog F.bits_LeadingZeros64 [.int .u64 y] w false [(false,[(.i .i64)])] fun r4 w5=>
fJ (wrap .u64 r4.1.1) (
fJ 32 (
fJ (wrap .u64 r4.1.1) (
fJ (wrap .u64 (64-(wrap .u64 r4.1.1))) (
fJ (wrap .u64 r4.1.1) (
fJ 32 (
dF (Qv .u64 (Sz .u64 y (wrap .u64 r4.1.1)) 32) (
Cc (fun(J6:((Int)×Unit)→WP)=>
Ci (fun(self9:((Int)×(Int)×Unit)→WP) (z10:(Int)×(Int)×Unit) w11=> ∀_:Nat→Value,
Cc (fun(J12:Unit→WP)=>
Aj (decide (z10.1≥4294967296)) (
J12 (()) w11) (
Aj (decide ((wrap .u64 (z10.1*(Lm .and .u64 (Sz .u64 y (wrap .u64 r4.1.1)) 4294967295)))>(wrap .u64 ((wrap .u64 (4294967296*z10.2.1))+(Qv .u64 (Sz .u64 lo (wrap .u64 r4.1.1)) 32))))) (
J12 (()) w11) (
J6 (z10.1,()) w11))) (fun(z13:Unit) w14=> ∀_:Nat→Value,
Aj (decide ((wrap .u64 (z10.2.1+(Qv .u64 (Sz .u64 y (wrap .u64 r4.1.1)) 32)))≥4294967296)) (
J6 (wrap .u64 (z10.1-1),()) w14) (
self9 (wrap .u64 (z10.1-1),wrap .u64 (z10.2.1+(Qv .u64 (Sz .u64 y (wrap .u64 r4.1.1)) 32)),()) w14))) (wrap .u64 (Int.tdiv (Lm .or .u64 (Sz .u64 hi (wrap .u64 r4.1.1)) (Qv .u64 lo (wrap .u64 (64-(wrap .u64 r4.1.1))))) (Qv .u64 (Sz .u64 y (wrap .u64 r4.1.1)) 32)),wrap .u64 ((Lm .or .u64 (Sz .u64 hi (wrap .u64 r4.1.1)) (Qv .u64 lo (wrap .u64 (64-(wrap .u64 r4.1.1)))))-(wrap .u64 ((wrap .u64 (Int.tdiv (Lm .or .u64 (Sz .u64 hi (wrap .u64 r4.1.1)) (Qv .u64 lo (wrap .u64 (64-(wrap .u64 r4.1.1))))) (Qv .u64 (Sz .u64 y (wrap .u64 r4.1.1)) 32)))*(Qv .u64 (Sz .u64 y (wrap .u64 r4.1.1)) 32)))),()) w5) (fun(z7:(Int)×Unit) w8=> ∀_:Nat→Value,
dF (Qv .u64 (Sz .u64 y (wrap .u64 r4.1.1)) 32) (
Cc (fun(J15:((Int)×Unit)→WP)=>
Ci (fun(self18:((Int)×(Int)×Unit)→WP) (z19:(Int)×(Int)×Unit) w20=> ∀_:Nat→Value,
Cc (fun(J21:Unit→WP)=>
Aj (decide (z19.2.1≥4294967296)) (
J21 (()) w20) (
Aj (decide ((wrap .u64 (z19.2.1*(Lm .and .u64 (Sz .u64 y (wrap .u64 r4.1.1)) 4294967295)))>(wrap .u64 ((wrap .u64 (4294967296*z19.1))+(Lm .and .u64 (Sz .u64 lo (wrap .u64 r4.1.1)) 4294967295))))) (
J21 (()) w20) (
J15 (z19.2.1,()) w20))) (fun(z22:Unit) w23=> ∀_:Nat→Value,
Aj (decide ((wrap .u64 (z19.1+(Qv .u64 (Sz .u64 y (wrap .u64 r4.1.1)) 32)))≥4294967296)) (
J15 (wrap .u64 (z19.2.1-1),()) w23) (
self18 (wrap .u64 (z19.1+(Qv .u64 (Sz .u64 y (wrap .u64 r4.1.1)) 32)),wrap .u64 (z19.2.1-1),()) w23))) (wrap .u64 ((wrap .u64 ((wrap .u64 ((wrap .u64 ((Lm .or .u64 (Sz .u64 hi (wrap .u64 r4.1.1)) (Qv .u64 lo (wrap .u64 (64-(wrap .u64 r4.1.1)))))*4294967296))+(Qv .u64 (Sz .u64 lo (wrap .u64 r4.1.1)) 32)))-(wrap .u64 (z7.1*(Sz .u64 y (wrap .u64 r4.1.1))))))-(wrap .u64 ((wrap .u64 (Int.tdiv (wrap .u64 ((wrap .u64 ((wrap .u64 ((Lm .or .u64 (Sz .u64 hi (wrap .u64 r4.1.1)) (Qv .u64 lo (wrap .u64 (64-(wrap .u64 r4.1.1)))))*4294967296))+(Qv .u64 (Sz .u64 lo (wrap .u64 r4.1.1)) 32)))-(wrap .u64 (z7.1*(Sz .u64 y (wrap .u64 r4.1.1)))))) (Qv .u64 (Sz .u64 y (wrap .u64 r4.1.1)) 32)))*(Qv .u64 (Sz .u64 y (wrap .u64 r4.1.1)) 32)))),wrap .u64 (Int.tdiv (wrap .u64 ((wrap .u64 ((wrap .u64 ((Lm .or .u64 (Sz .u64 hi (wrap .u64 r4.1.1)) (Qv .u64 lo (wrap .u64 (64-(wrap .u64 r4.1.1)))))*4294967296))+(Qv .u64 (Sz .u64 lo (wrap .u64 r4.1.1)) 32)))-(wrap .u64 (z7.1*(Sz .u64 y (wrap .u64 r4.1.1)))))) (Qv .u64 (Sz .u64 y (wrap .u64 r4.1.1)) 32)),()) w8) (fun(z16:(Int)×Unit) w17=> ∀_:Nat→Value,
fJ (wrap .u64 r4.1.1) (
R ((wrap .u64 ((wrap .u64 (z7.1*4294967296))+z16.1),()),(Qv .u64 (wrap .u64 ((wrap .u64 ((wrap .u64 ((wrap .u64 ((wrap .u64 ((wrap .u64 ((Lm .or .u64 (Sz .u64 hi (wrap .u64 r4.1.1)) (Qv .u64 lo (wrap .u64 (64-(wrap .u64 r4.1.1)))))*4294967296))+(Qv .u64 (Sz .u64 lo (wrap .u64 r4.1.1)) 32)))-(wrap .u64 (z7.1*(Sz .u64 y (wrap .u64 r4.1.1))))))*4294967296))+(Lm .and .u64 (Sz .u64 lo (wrap .u64 r4.1.1)) 4294967295)))-(wrap .u64 (z16.1*(Sz .u64 y (wrap .u64 r4.1.1)))))) (wrap .u64 r4.1.1),()),()) w17))))))))))))))
theorem Vk.eq(hi:Int)(lo:Int)(y:Int)(w:World)(R:Value→WP):A7 prog Tryz.f351 (.s .n (.s .n (.s .n (.s (.s .n (.s (.s (.pl (.tk 0 (.tk 1 (.tk 2 (.tk 3 (.tk 4 (.tk 5 (.tk 6 (.tk 7 .z))))))))) .n) .n)) (.s .n (.s .n (.s .n (.s .n (.s .n (.s .n (.s .n (.s .n (.s .n (.s .n (.ct [(15,(.i .u64))] (.lp [(15,(.i .u64)),(16,(.i .u64))] (.ct [] .n .n)) (.s .n (.s .n (.s .n (.ct [(18,(.i .u64))] (.lp [(16,(.i .u64)),(18,(.i .u64))] (.ct [] .n .n)) .n))))))))))))))))))) [.int .u64 hi,.int .u64 lo,.int .u64 y] w R=Vk.wp hi lo y w (fun r w=>R (encR true [(false,[(.i .u64)]),(false,[(.i .u64)])] r) w):=by kernel_rfl
theorem Vk.ok{hi:Int}{lo:Int}{y:Int}{w:World}{R:TR [(false,[(.i .u64)]),(false,[(.i .u64)])]→WP}(h:Vk.wp hi lo y w R):Ae prog F.Vk [.int .u64 hi,.int .u64 lo,.int .u64 y] w true [(false,[(.i .u64)]),(false,[(.i .u64)])] R:=
  Aop Aa Tryz.func351 (fun R=>Vk.wp hi lo y w R) (Vk.eq hi lo y w) rfl h
def bits_LeadingZeros64.wp(x:Int)(w:World)(R:TR [(false,[(.i .i64)])]→WP):Prop:=
Ae prog F.bits_Len64 [.int .u64 x] w false [(false,[(.i .i64)])] fun r1 w2=>
R ((wrap .i64 (64-r1.1.1),()),()) w2
theorem bits_LeadingZeros64.eq(x:Int)(w:World)(R:Value→WP):A7 prog Tryz.f353 .n [.int .u64 x] w R=bits_LeadingZeros64.wp x w (fun r w=>R (encR false [(false,[(.i .i64)])] r) w):=by kernel_rfl
theorem bits_LeadingZeros64.ok{x:Int}{w:World}{R:TR [(false,[(.i .i64)])]→WP}(h:bits_LeadingZeros64.wp x w R):Ae prog F.bits_LeadingZeros64 [.int .u64 x] w false [(false,[(.i .i64)])] R:=
  Aop Aa Tryz.func353 (fun R=>bits_LeadingZeros64.wp x w R) (bits_LeadingZeros64.eq x w) rfl h
def bits_Len64.wp(x:Int)(w:World)(R:TR [(false,[(.i .i64)])]→WP):Prop:=
Cc (fun(J1:((Int)×(Int)×Unit)→WP)=>
Aj (decide (x≥4294967296)) (
fJ 32 (
J1 (Qv .u64 x 32,32,()) w)) (
J1 (x,0,()) w)) (fun(z2:(Int)×(Int)×Unit) w3=> ∀_:Nat→Value,
Cc (fun(J4:((Int)×(Int)×Unit)→WP)=>
Aj (decide (z2.1≥65536)) (
fJ 16 (
J4 (Qv .u64 z2.1 16,wrap .i64 (z2.2.1+16),()) w3)) (
J4 (z2.1,z2.2.1,()) w3)) (fun(z5:(Int)×(Int)×Unit) w6=> ∀_:Nat→Value,
Cc (fun(J7:((Int)×(Int)×Unit)→WP)=>
Aj (decide (z5.1≥256)) (
fJ 8 (
J7 (Qv .u64 z5.1 8,wrap .i64 (z5.2.1+8),()) w6)) (
J7 (z5.1,z5.2.1,()) w6)) (fun(z8:(Int)×(Int)×Unit) w9=> ∀_:Nat→Value,
siK ⟨#[0,1,2,2,3,3,3,3,4,4,4,4,4,4,4,4,5,5,5,5,5,5,5,5,5,5,5,5,5,5,5,5,6,6,6,6,6,6,6,6,6,6,6,6,6,6,6,6,6,6,6,6,6,6,6,6,6,6,6,6,6,6,6,6,7,7,7,7,7,7,7,7,7,7,7,7,7,7,7,7,7,7,7,7,7,7,7,7,7,7,7,7,7,7,7,7,7,7,7,7,7,7,7,7,7,7,7,7,7,7,7,7,7,7,7,7,7,7,7,7,7,7,7,7,7,7,7,7,8,8,8,8,8,8,8,8,8,8,8,8,8,8,8,8,8,8,8,8,8,8,8,8,8,8,8,8,8,8,8,8,8,8,8,8,8,8,8,8,8,8,8,8,8,8,8,8,8,8,8,8,8,8,8,8,8,8,8,8,8,8,8,8,8,8,8,8,8,8,8,8,8,8,8,8,8,8,8,8,8,8,8,8,8,8,8,8,8,8,8,8,8,8,8,8,8,8,8,8,8,8,8,8,8,8,8,8,8,8,8,8,8,8,8,8,8,8,8,8,8,8,8,8,8,8,8,8]⟩ (wrap .u8 z8.1) fun c10=>
R ((wrap .i64 (z8.2.1+(wrap .i64 c10)),()),()) w9)))
theorem bits_Len64.eq(x:Int)(w:World)(R:Value→WP):A7 prog Tryz.f357 (.s .n (.ct [(0,(.i .u64)),(2,(.i .i64))] .n (.ct [(0,(.i .u64)),(2,(.i .i64))] .n (.ct [(0,(.i .u64)),(2,(.i .i64))] .n .n)))) [.int .u64 x] w R=bits_Len64.wp x w (fun r w=>R (encR false [(false,[(.i .i64)])] r) w):=by kernel_rfl
theorem bits_Len64.ok{x:Int}{w:World}{R:TR [(false,[(.i .i64)])]→WP}(h:bits_Len64.wp x w R):Ae prog F.bits_Len64 [.int .u64 x] w false [(false,[(.i .i64)])] R:=
  Aop Aa Tryz.func357 (fun R=>bits_Len64.wp x w R) (bits_Len64.eq x w) rfl h
def Ll.wp(f0:Int)(f1:Int)(f2:Int)(f3:Int)(f4:Int)(f5:Int)(w:World)(R:TR [(false,[(.i .i64)])]→WP):Prop:=
Bf [.int .i64 f0,.int .u16 f1,.int .i64 f2,.int .u16 f3,.int .i64 f4,.int .i64 f5] T.Bh w fun p1 w2=>
ld1 (.i .i64) p1 w2 fun x3=>
R ((x3,()),()) w2
theorem Ll.eq(f0:Int)(f1:Int)(f2:Int)(f3:Int)(f4:Int)(f5:Int)(w:World)(R:Value→WP):A7 prog Tryz.f378 .n [.agg #[.int .i64 f0,.int .u16 f1,.int .i64 f2,.int .u16 f3,.int .i64 f4,.int .i64 f5]] w R=Ll.wp f0 f1 f2 f3 f4 f5 w (fun r w=>R (encR false [(false,[(.i .i64)])] r) w):=by kernel_rfl
theorem Ll.ok{f0:Int}{f1:Int}{f2:Int}{f3:Int}{f4:Int}{f5:Int}{w:World}{R:TR [(false,[(.i .i64)])]→WP}(h:Ll.wp f0 f1 f2 f3 f4 f5 w R):Ae prog F.Ll [.agg #[.int .i64 f0,.int .u16 f1,.int .i64 f2,.int .u16 f3,.int .i64 f4,.int .i64 f5]] w false [(false,[(.i .i64)])] R:=
  Aop Aa Tryz.func378 (fun R=>Ll.wp f0 f1 f2 f3 f4 f5 w R) (Ll.eq f0 f1 f2 f3 f4 f5 w) rfl h
def Dt.wp(f0:Int)(f1:Int)(f2:Int)(f3:Int)(f4:Int)(f5:Int)(w:World)(R:TR [(false,[.sl])]→WP):Prop:=
Bf [.int .i64 f0,.int .u16 f1,.int .i64 f2,.int .u16 f3,.int .i64 f4,.int .i64 f5] T.Bh w fun p1 w2=>
Jg w2 fun w3=>
ld1 (.i .i64) p1 w3 fun x4=>
ld1 (.i .u16) (p1.add 1) w3 fun x5=>
ld1 (.i .i64) (p1.add 2) w3 fun x6=>
ld1 (.i .u16) (p1.add 3) w3 fun x7=>
ld1 (.i .i64) (p1.add 4) w3 fun x8=>
ld1 (.i .i64) (p1.add 5) w3 fun x9=>
Ae prog F.D5 [.int .i64 x4] w3 false [(true,[(.i .i64),(.i .i64),(.i .i64)])] fun r10 w11=>
Aw [(16,(p1.add 5),(w3.cell? (p1.add 5)).getD undef),(13,(p1.add 4),(w3.cell? (p1.add 4)).getD undef),(10,(p1.add 3),(w3.cell? (p1.add 3)).getD undef),(7,(p1.add 2),(w3.cell? (p1.add 2)).getD undef),(4,(p1.add 1),(w3.cell? (p1.add 1)).getD undef),(1,p1,(w3.cell? p1).getD undef)] w11∧(
Ae prog F.E5 [.int .u16 x5] w11 false [(true,[(.i .i64),(.i .i64),(.i .i64)])] fun r12 w13=>
Aw [(16,(p1.add 5),(w3.cell? (p1.add 5)).getD undef),(13,(p1.add 4),(w3.cell? (p1.add 4)).getD undef),(10,(p1.add 3),(w3.cell? (p1.add 3)).getD undef),(7,(p1.add 2),(w3.cell? (p1.add 2)).getD undef),(4,(p1.add 1),(w3.cell? (p1.add 1)).getD undef),(1,p1,(w3.cell? p1).getD undef)] w13∧(
Ae prog F.D5 [.int .i64 x6] w13 false [(true,[(.i .i64),(.i .i64),(.i .i64)])] fun r14 w15=>
Aw [(16,(p1.add 5),(w3.cell? (p1.add 5)).getD undef),(13,(p1.add 4),(w3.cell? (p1.add 4)).getD undef),(10,(p1.add 3),(w3.cell? (p1.add 3)).getD undef),(7,(p1.add 2),(w3.cell? (p1.add 2)).getD undef),(4,(p1.add 1),(w3.cell? (p1.add 1)).getD undef),(1,p1,(w3.cell? p1).getD undef)] w15∧(
Ae prog F.E5 [.int .u16 x7] w15 false [(true,[(.i .i64),(.i .i64),(.i .i64)])] fun r16 w17=>
Aw [(16,(p1.add 5),(w3.cell? (p1.add 5)).getD undef),(13,(p1.add 4),(w3.cell? (p1.add 4)).getD undef),(10,(p1.add 3),(w3.cell? (p1.add 3)).getD undef),(7,(p1.add 2),(w3.cell? (p1.add 2)).getD undef),(4,(p1.add 1),(w3.cell? (p1.add 1)).getD undef),(1,p1,(w3.cell? p1).getD undef)] w17∧(
Ae prog F.Gn [.int .i64 x8] w17 false [(true,[(.i .i64),(.i .i64),(.i .i64)])] fun r18 w19=>
Aw [(16,(p1.add 5),(w3.cell? (p1.add 5)).getD undef),(13,(p1.add 4),(w3.cell? (p1.add 4)).getD undef),(10,(p1.add 3),(w3.cell? (p1.add 3)).getD undef),(7,(p1.add 2),(w3.cell? (p1.add 2)).getD undef),(4,(p1.add 1),(w3.cell? (p1.add 1)).getD undef),(1,p1,(w3.cell? p1).getD undef)] w19∧(
Ae prog F.Gn [.int .i64 x9] w19 false [(true,[(.i .i64),(.i .i64),(.i .i64)])] fun r20 w21=>
Aw [(16,(p1.add 5),(w3.cell? (p1.add 5)).getD undef),(13,(p1.add 4),(w3.cell? (p1.add 4)).getD undef),(10,(p1.add 3),(w3.cell? (p1.add 3)).getD undef),(7,(p1.add 2),(w3.cell? (p1.add 2)).getD undef),(4,(p1.add 1),(w3.cell? (p1.add 1)).getD undef),(1,p1,(w3.cell? p1).getD undef)] w21∧(
Bf [.int .i64 r10.1.1,.int .i64 r10.1.2.1,.int .i64 r10.1.2.2.1,.int .i64 r12.1.1,.int .i64 r12.1.2.1,.int .i64 r12.1.2.2.1,.int .i64 r14.1.1,.int .i64 r14.1.2.1,.int .i64 r14.1.2.2.1,.int .i64 r16.1.1,.int .i64 r16.1.2.1,.int .i64 r16.1.2.2.1,.int .i64 r18.1.1,.int .i64 r18.1.2.1,.int .i64 r18.1.2.2.1,.int .i64 r20.1.1,.int .i64 r20.1.2.1,.int .i64 r20.1.2.2.1] T.Dl w21 fun p22 w23=>
Aw [(16,(p1.add 5),(w3.cell? (p1.add 5)).getD undef),(13,(p1.add 4),(w3.cell? (p1.add 4)).getD undef),(10,(p1.add 3),(w3.cell? (p1.add 3)).getD undef),(7,(p1.add 2),(w3.cell? (p1.add 2)).getD undef),(4,(p1.add 1),(w3.cell? (p1.add 1)).getD undef),(1,p1,(w3.cell? p1).getD undef)] w23∧(
R (((some p22,6,6),()),()) w23)))))))
theorem Dt.eq(f0:Int)(f1:Int)(f2:Int)(f3:Int)(f4:Int)(f5:Int)(w:World)(R:Value→WP):A7 prog Tryz.f379 (.s .n (.s (.pl (.tk 0 (.tk 1 (.tk 3 (.tk 4 (.tk 6 (.tk 7 (.tk 9 (.tk 10 (.tk 12 (.tk 13 (.tk 15 (.tk 16 (.ef 2 [] (.ef 5 [] (.ef 8 [] (.ef 11 [] (.ef 14 [] (.ef 17 [] (.ef 18 [] (.tk 19 .z))))))))))))))))))))) .n)) [.agg #[.int .i64 f0,.int .u16 f1,.int .i64 f2,.int .u16 f3,.int .i64 f4,.int .i64 f5]] w R=Dt.wp f0 f1 f2 f3 f4 f5 w (fun r w=>R (encR false [(false,[.sl])] r) w):=by kernel_rfl
theorem Dt.ok{f0:Int}{f1:Int}{f2:Int}{f3:Int}{f4:Int}{f5:Int}{w:World}{R:TR [(false,[.sl])]→WP}(h:Dt.wp f0 f1 f2 f3 f4 f5 w R):Ae prog F.Dt [.agg #[.int .i64 f0,.int .u16 f1,.int .i64 f2,.int .u16 f3,.int .i64 f4,.int .i64 f5]] w false [(false,[.sl])] R:=
  Aop Aa Tryz.func379 (fun R=>Dt.wp f0 f1 f2 f3 f4 f5 w R) (Dt.eq f0 f1 f2 f3 f4 f5 w) rfl h
def D5.wp(n:Int)(w:World)(R:TR [(true,[(.i .i64),(.i .i64),(.i .i64)])]→WP):Prop:=
Bf [.int .i64 0,.int .i64 0,.int .i64 0] T.Dl w fun p1 w2=>
Au [.int .i64 1,.int .i64 n,.int .i64 63] p1 0 w2 fun w3=>
A8 [(.i .i64),(.i .i64),(.i .i64)] p1 0 w3 fun x4=>
R ((x4.1,x4.2.1,x4.2.2.1,()),()) w3
theorem D5.eq(n:Int)(w:World)(R:Value→WP):A7 prog Tryz.f380 .n [.int .i64 n] w R=D5.wp n w (fun r w=>R (encR false [(true,[(.i .i64),(.i .i64),(.i .i64)])] r) w):=by kernel_rfl
theorem D5.ok{n:Int}{w:World}{R:TR [(true,[(.i .i64),(.i .i64),(.i .i64)])]→WP}(h:D5.wp n w R):Ae prog F.D5 [.int .i64 n] w false [(true,[(.i .i64),(.i .i64),(.i .i64)])] R:=
  Aop Aa Tryz.func380 (fun R=>D5.wp n w R) (D5.eq n w) rfl h
def E5.wp(n:Int)(w:World)(R:TR [(true,[(.i .i64),(.i .i64),(.i .i64)])]→WP):Prop:=
Bf [.int .i64 0,.int .i64 0,.int .i64 0] T.Dl w fun p1 w2=>
Au [.int .i64 2,.int .i64 (wrap .i64 n),.int .i64 65535] p1 0 w2 fun w3=>
A8 [(.i .i64),(.i .i64),(.i .i64)] p1 0 w3 fun x4=>
R ((x4.1,x4.2.1,x4.2.2.1,()),()) w3
theorem E5.eq(n:Int)(w:World)(R:Value→WP):A7 prog Tryz.f381 .n [.int .u16 n] w R=E5.wp n w (fun r w=>R (encR false [(true,[(.i .i64),(.i .i64),(.i .i64)])] r) w):=by kernel_rfl
theorem E5.ok{n:Int}{w:World}{R:TR [(true,[(.i .i64),(.i .i64),(.i .i64)])]→WP}(h:E5.wp n w R):Ae prog F.E5 [.int .u16 n] w false [(true,[(.i .i64),(.i .i64),(.i .i64)])] R:=
  Aop Aa Tryz.func381 (fun R=>E5.wp n w R) (E5.eq n w) rfl h
def Gn.wp(n:Int)(w:World)(R:TR [(true,[(.i .i64),(.i .i64),(.i .i64)])]→WP):Prop:=
Bf [.int .i64 0,.int .i64 0,.int .i64 0] T.Dl w fun p1 w2=>
Au [.int .i64 8,.int .i64 n,.int .i64 1125899906842624] p1 0 w2 fun w3=>
A8 [(.i .i64),(.i .i64),(.i .i64)] p1 0 w3 fun x4=>
R ((x4.1,x4.2.1,x4.2.2.1,()),()) w3
theorem Gn.eq(n:Int)(w:World)(R:Value→WP):A7 prog Tryz.f382 .n [.int .i64 n] w R=Gn.wp n w (fun r w=>R (encR false [(true,[(.i .i64),(.i .i64),(.i .i64)])] r) w):=by kernel_rfl
theorem Gn.ok{n:Int}{w:World}{R:TR [(true,[(.i .i64),(.i .i64),(.i .i64)])]→WP}(h:Gn.wp n w R):Ae prog F.Gn [.int .i64 n] w false [(true,[(.i .i64),(.i .i64),(.i .i64)])] R:=
  Aop Aa Tryz.func382 (fun R=>Gn.wp n w R) (Gn.eq n w) rfl h
end Go.Proofs.YticgocmhmffneaaGreatDoor
