import Derived.Test.YticgocmhmffneaaGreatDoorNm
namespace Go.Proofs.YticgocmhmffneaaGreatDoor
open Go.Eng Tryz
set_option linter.unusedSimpArgs false
set_option linter.unusedVariables false
set_option maxRecDepth 100000
set_option maxHeartbeats 8000000
def Ob.wp(f0:Int)(f1:Int)(f2:Int)(f3:Int)(f4:Int)(f5:Int)(w:World)(R:TR [(false,[(.i .i64)])]→WP):Prop:=
Bf [.int .i64 f0,.int .i64 f1,.int .u16 f2,.int .u16 f3,.int .i64 f4,.int .i64 f5] T.Dy w fun p1 w2=>
ld1 (.i .i64) p1 w2 fun x3=>
R ((x3,()),()) w2
theorem Ob.eq(f0:Int)(f1:Int)(f2:Int)(f3:Int)(f4:Int)(f5:Int)(w:World)(R:Value→WP):A7 prog Tryz.f384 .n [.agg #[.int .i64 f0,.int .i64 f1,.int .u16 f2,.int .u16 f3,.int .i64 f4,.int .i64 f5]] w R=Ob.wp f0 f1 f2 f3 f4 f5 w (fun r w=>R (encR false [(false,[(.i .i64)])] r) w):=by kernel_rfl
theorem Ob.ok{f0:Int}{f1:Int}{f2:Int}{f3:Int}{f4:Int}{f5:Int}{w:World}{R:TR [(false,[(.i .i64)])]→WP}(h:Ob.wp f0 f1 f2 f3 f4 f5 w R):Ae prog F.Ob [.agg #[.int .i64 f0,.int .i64 f1,.int .u16 f2,.int .u16 f3,.int .i64 f4,.int .i64 f5]] w false [(false,[(.i .i64)])] R:=
  Aop Aa Tryz.func384 (fun R=>Ob.wp f0 f1 f2 f3 f4 f5 w R) (Ob.eq f0 f1 f2 f3 f4 f5 w) rfl h
def Dh.wp(f0:Int)(f1:Int)(f2:Int)(f3:Int)(f4:Int)(f5:Int)(w:World)(R:TR [(false,[.sl])]→WP):Prop:=
Bf [.int .i64 f0,.int .i64 f1,.int .u16 f2,.int .u16 f3,.int .i64 f4,.int .i64 f5] T.Dy w fun p1 w2=>
Jg w2 fun w3=>
ld1 (.i .i64) p1 w3 fun x4=>
ld1 (.i .i64) (p1.add 1) w3 fun x5=>
ld1 (.i .u16) (p1.add 2) w3 fun x6=>
ld1 (.i .u16) (p1.add 3) w3 fun x7=>
ld1 (.i .i64) (p1.add 4) w3 fun x8=>
ld1 (.i .i64) (p1.add 5) w3 fun x9=>
Ae prog F.D5 [.int .i64 x4] w3 false [(true,[(.i .i64),(.i .i64),(.i .i64)])] fun r10 w11=>
Aw [(16,(p1.add 5),(w3.cell? (p1.add 5)).getD undef),(13,(p1.add 4),(w3.cell? (p1.add 4)).getD undef),(10,(p1.add 3),(w3.cell? (p1.add 3)).getD undef),(7,(p1.add 2),(w3.cell? (p1.add 2)).getD undef),(4,(p1.add 1),(w3.cell? (p1.add 1)).getD undef),(1,p1,(w3.cell? p1).getD undef)] w11∧(
Ae prog F.D5 [.int .i64 x5] w11 false [(true,[(.i .i64),(.i .i64),(.i .i64)])] fun r12 w13=>
Aw [(16,(p1.add 5),(w3.cell? (p1.add 5)).getD undef),(13,(p1.add 4),(w3.cell? (p1.add 4)).getD undef),(10,(p1.add 3),(w3.cell? (p1.add 3)).getD undef),(7,(p1.add 2),(w3.cell? (p1.add 2)).getD undef),(4,(p1.add 1),(w3.cell? (p1.add 1)).getD undef),(1,p1,(w3.cell? p1).getD undef)] w13∧(
Ae prog F.E5 [.int .u16 x6] w13 false [(true,[(.i .i64),(.i .i64),(.i .i64)])] fun r14 w15=>
Aw [(16,(p1.add 5),(w3.cell? (p1.add 5)).getD undef),(13,(p1.add 4),(w3.cell? (p1.add 4)).getD undef),(10,(p1.add 3),(w3.cell? (p1.add 3)).getD undef),(7,(p1.add 2),(w3.cell? (p1.add 2)).getD undef),(4,(p1.add 1),(w3.cell? (p1.add 1)).getD undef),(1,p1,(w3.cell? p1).getD undef)] w15∧(
Ae prog F.E5 [.int .u16 x7] w15 false [(true,[(.i .i64),(.i .i64),(.i .i64)])] fun r16 w17=>
Aw [(16,(p1.add 5),(w3.cell? (p1.add 5)).getD undef),(13,(p1.add 4),(w3.cell? (p1.add 4)).getD undef),(10,(p1.add 3),(w3.cell? (p1.add 3)).getD undef),(7,(p1.add 2),(w3.cell? (p1.add 2)).getD undef),(4,(p1.add 1),(w3.cell? (p1.add 1)).getD undef),(1,p1,(w3.cell? p1).getD undef)] w17∧(
Ae prog F.Qp [.int .i64 x8] w17 false [(true,[(.i .i64),(.i .i64),(.i .i64)])] fun r18 w19=>
Aw [(16,(p1.add 5),(w3.cell? (p1.add 5)).getD undef),(13,(p1.add 4),(w3.cell? (p1.add 4)).getD undef),(10,(p1.add 3),(w3.cell? (p1.add 3)).getD undef),(7,(p1.add 2),(w3.cell? (p1.add 2)).getD undef),(4,(p1.add 1),(w3.cell? (p1.add 1)).getD undef),(1,p1,(w3.cell? p1).getD undef)] w19∧(
Ae prog F.Gn [.int .i64 x9] w19 false [(true,[(.i .i64),(.i .i64),(.i .i64)])] fun r20 w21=>
Aw [(16,(p1.add 5),(w3.cell? (p1.add 5)).getD undef),(13,(p1.add 4),(w3.cell? (p1.add 4)).getD undef),(10,(p1.add 3),(w3.cell? (p1.add 3)).getD undef),(7,(p1.add 2),(w3.cell? (p1.add 2)).getD undef),(4,(p1.add 1),(w3.cell? (p1.add 1)).getD undef),(1,p1,(w3.cell? p1).getD undef)] w21∧(
Bf [.int .i64 r10.1.1,.int .i64 r10.1.2.1,.int .i64 r10.1.2.2.1,.int .i64 r12.1.1,.int .i64 r12.1.2.1,.int .i64 r12.1.2.2.1,.int .i64 r14.1.1,.int .i64 r14.1.2.1,.int .i64 r14.1.2.2.1,.int .i64 r16.1.1,.int .i64 r16.1.2.1,.int .i64 r16.1.2.2.1,.int .i64 r18.1.1,.int .i64 r18.1.2.1,.int .i64 r18.1.2.2.1,.int .i64 r20.1.1,.int .i64 r20.1.2.1,.int .i64 r20.1.2.2.1] T.Dl w21 fun p22 w23=>
Aw [(16,(p1.add 5),(w3.cell? (p1.add 5)).getD undef),(13,(p1.add 4),(w3.cell? (p1.add 4)).getD undef),(10,(p1.add 3),(w3.cell? (p1.add 3)).getD undef),(7,(p1.add 2),(w3.cell? (p1.add 2)).getD undef),(4,(p1.add 1),(w3.cell? (p1.add 1)).getD undef),(1,p1,(w3.cell? p1).getD undef)] w23∧(
R (((some p22,6,6),()),()) w23)))))))
theorem Dh.eq(f0:Int)(f1:Int)(f2:Int)(f3:Int)(f4:Int)(f5:Int)(w:World)(R:Value→WP):A7 prog Tryz.f385 (.s .n (.s (.pl (.tk 0 (.tk 1 (.tk 3 (.tk 4 (.tk 6 (.tk 7 (.tk 9 (.tk 10 (.tk 12 (.tk 13 (.tk 15 (.tk 16 (.ef 2 [] (.ef 5 [] (.ef 8 [] (.ef 11 [] (.ef 14 [] (.ef 17 [] (.ef 18 [] (.tk 19 .z))))))))))))))))))))) .n)) [.agg #[.int .i64 f0,.int .i64 f1,.int .u16 f2,.int .u16 f3,.int .i64 f4,.int .i64 f5]] w R=Dh.wp f0 f1 f2 f3 f4 f5 w (fun r w=>R (encR false [(false,[.sl])] r) w):=by kernel_rfl
theorem Dh.ok{f0:Int}{f1:Int}{f2:Int}{f3:Int}{f4:Int}{f5:Int}{w:World}{R:TR [(false,[.sl])]→WP}(h:Dh.wp f0 f1 f2 f3 f4 f5 w R):Ae prog F.Dh [.agg #[.int .i64 f0,.int .i64 f1,.int .u16 f2,.int .u16 f3,.int .i64 f4,.int .i64 f5]] w false [(false,[.sl])] R:=
  Aop Aa Tryz.func385 (fun R=>Dh.wp f0 f1 f2 f3 f4 f5 w R) (Dh.eq f0 f1 f2 f3 f4 f5 w) rfl h
def Qp.wp(n:Int)(w:World)(R:TR [(true,[(.i .i64),(.i .i64),(.i .i64)])]→WP):Prop:=
Bf [.int .i64 0,.int .i64 0,.int .i64 0] T.Dl w fun p1 w2=>
Au [.int .i64 1,.int .i64 n,.int .i64 63] p1 0 w2 fun w3=>
A8 [(.i .i64),(.i .i64),(.i .i64)] p1 0 w3 fun x4=>
R ((x4.1,x4.2.1,x4.2.2.1,()),()) w3
theorem Qp.eq(n:Int)(w:World)(R:Value→WP):A7 prog Tryz.f386 .n [.int .i64 n] w R=Qp.wp n w (fun r w=>R (encR false [(true,[(.i .i64),(.i .i64),(.i .i64)])] r) w):=by kernel_rfl
theorem Qp.ok{n:Int}{w:World}{R:TR [(true,[(.i .i64),(.i .i64),(.i .i64)])]→WP}(h:Qp.wp n w R):Ae prog F.Qp [.int .i64 n] w false [(true,[(.i .i64),(.i .i64),(.i .i64)])] R:=
  Aop Aa Tryz.func386 (fun R=>Qp.wp n w R) (Qp.eq n w) rfl h
def N9.wp(f0:Int)(f1:Int)(w:World)(R:TR [(false,[(.i .i64)])]→WP):Prop:=
Bf [.int .i64 f0,.int .i64 f1] T.Gj w fun p1 w2=>
ld1 (.i .i64) p1 w2 fun x3=>
R ((x3,()),()) w2
theorem N9.eq(f0:Int)(f1:Int)(w:World)(R:Value→WP):A7 prog Tryz.f387 .n [.agg #[.int .i64 f0,.int .i64 f1]] w R=N9.wp f0 f1 w (fun r w=>R (encR false [(false,[(.i .i64)])] r) w):=by kernel_rfl
theorem N9.ok{f0:Int}{f1:Int}{w:World}{R:TR [(false,[(.i .i64)])]→WP}(h:N9.wp f0 f1 w R):Ae prog F.N9 [.agg #[.int .i64 f0,.int .i64 f1]] w false [(false,[(.i .i64)])] R:=
  Aop Aa Tryz.func387 (fun R=>N9.wp f0 f1 w R) (N9.eq f0 f1 w) rfl h
def Ic.wp(f0:Int)(f1:Int)(w:World)(R:TR [(false,[.sl])]→WP):Prop:=
Bf [.int .i64 f0,.int .i64 f1] T.Gj w fun p1 w2=>
Jg w2 fun w3=>
ld1 (.i .i64) p1 w3 fun x4=>
ld1 (.i .i64) (p1.add 1) w3 fun x5=>
Ae prog F.D5 [.int .i64 x4] w3 false [(true,[(.i .i64),(.i .i64),(.i .i64)])] fun r6 w7=>
Aw [(4,(p1.add 1),(w3.cell? (p1.add 1)).getD undef),(1,p1,(w3.cell? p1).getD undef)] w7∧(
Ae prog F.Qp [.int .i64 x5] w7 false [(true,[(.i .i64),(.i .i64),(.i .i64)])] fun r8 w9=>
Aw [(4,(p1.add 1),(w3.cell? (p1.add 1)).getD undef),(1,p1,(w3.cell? p1).getD undef)] w9∧(
Bf [.int .i64 r6.1.1,.int .i64 r6.1.2.1,.int .i64 r6.1.2.2.1,.int .i64 r8.1.1,.int .i64 r8.1.2.1,.int .i64 r8.1.2.2.1] T.Dl w9 fun p10 w11=>
Aw [(4,(p1.add 1),(w3.cell? (p1.add 1)).getD undef),(1,p1,(w3.cell? p1).getD undef)] w11∧(
R (((some p10,2,2),()),()) w11)))
theorem Ic.eq(f0:Int)(f1:Int)(w:World)(R:Value→WP):A7 prog Tryz.f388 (.s .n (.s (.pl (.tk 0 (.tk 1 (.tk 3 (.tk 4 (.ef 2 [] (.ef 5 [] (.ef 6 [] (.tk 7 .z))))))))) .n)) [.agg #[.int .i64 f0,.int .i64 f1]] w R=Ic.wp f0 f1 w (fun r w=>R (encR false [(false,[.sl])] r) w):=by kernel_rfl
theorem Ic.ok{f0:Int}{f1:Int}{w:World}{R:TR [(false,[.sl])]→WP}(h:Ic.wp f0 f1 w R):Ae prog F.Ic [.agg #[.int .i64 f0,.int .i64 f1]] w false [(false,[.sl])] R:=
  Aop Aa Tryz.func388 (fun R=>Ic.wp f0 f1 w R) (Ic.eq f0 f1 w) rfl h
def Oh.wp(f0:Int)(w:World)(R:TR [(false,[(.i .i64)])]→WP):Prop:=
Bf [.int .i64 f0] T.Gp w fun p1 w2=>
ld1 (.i .i64) p1 w2 fun x3=>
R ((x3,()),()) w2
theorem Oh.eq(f0:Int)(w:World)(R:Value→WP):A7 prog Tryz.f389 .n [.agg #[.int .i64 f0]] w R=Oh.wp f0 w (fun r w=>R (encR false [(false,[(.i .i64)])] r) w):=by kernel_rfl
theorem Oh.ok{f0:Int}{w:World}{R:TR [(false,[(.i .i64)])]→WP}(h:Oh.wp f0 w R):Ae prog F.Oh [.agg #[.int .i64 f0]] w false [(false,[(.i .i64)])] R:=
  Aop Aa Tryz.func389 (fun R=>Oh.wp f0 w R) (Oh.eq f0 w) rfl h
def D8.wp(f0:Int)(w:World)(R:TR [(false,[.sl])]→WP):Prop:=
Bf [.int .i64 f0] T.Gp w fun p1 w2=>
ld1 (.i .i64) p1 w2 fun x3=>
Ae prog F.D5 [.int .i64 x3] w2 false [(true,[(.i .i64),(.i .i64),(.i .i64)])] fun r4 w5=>
Bf [.int .i64 r4.1.1,.int .i64 r4.1.2.1,.int .i64 r4.1.2.2.1] T.Dl w5 fun p6 w7=>
R (((some p6,1,1),()),()) w7
theorem D8.eq(f0:Int)(w:World)(R:Value→WP):A7 prog Tryz.f390 .n [.agg #[.int .i64 f0]] w R=D8.wp f0 w (fun r w=>R (encR false [(false,[.sl])] r) w):=by kernel_rfl
theorem D8.ok{f0:Int}{w:World}{R:TR [(false,[.sl])]→WP}(h:D8.wp f0 w R):Ae prog F.D8 [.agg #[.int .i64 f0]] w false [(false,[.sl])] R:=
  Aop Aa Tryz.func390 (fun R=>D8.wp f0 w R) (D8.eq f0 w) rfl h
def Pj.wp(n:Option Addr)(stamp:Int)(w:World)(R:TR [(false,[.any]),(false,[.b])]→WP):Prop:=
Bf [] T.nH w fun p1 w2=>
Cc (fun(J3:Unit→WP)=>
Jg w2 fun w6=>
Aq n fun a7=>
ld1 .p (a7.add 18) w6 fun x8=>
Aq n fun a9=>
ld1 .p (a9.add 15) w6 fun x10=>
(
Ae prog F.Ar [.pointer x8,.pointer x10,.int .i64 stamp] w6 true [(true,[(.i .i64),(.i .i64),(.i .i64),(.i .u16),(.i .i64)]),(false,[(.i .i64)])] fun r11 w12=>
Aw [(7,(a9.add 15),(w6.cell? (a9.add 15)).getD undef),(3,(a7.add 18),(w6.cell? (a7.add 18)).getD undef)] w12∧(
Bf [.int .i64 0,.int .i64 0,.int .i64 0,.int .u16 0,.int .i64 0] T.Bg w12 fun p13 w14=>
Aw [(7,(a9.add 15),(w6.cell? (a9.add 15)).getD undef),(3,(a7.add 18),(w6.cell? (a7.add 18)).getD undef)] w14∧(
Au [.int .i64 r11.1.1,.int .i64 r11.1.2.1,.int .i64 r11.1.2.2.1,.int .u16 r11.1.2.2.2.1,.int .i64 r11.1.2.2.2.2.1] p13 0 w14 fun w15=>
Aw [] w15∧(
Aj (r11.2.1.1 !=0) (
R ((.nilIface,()),(false,()),()) w15) (
J3 (()) w15)))))∧(
Bf [.int .i64 0,.int .i64 0,.int .i64 0,.int .u16 0,.int .i64 0] T.Bg w6 fun p16 w17=>
Aw [(7,(a9.add 15),(w6.cell? (a9.add 15)).getD undef),(3,(a7.add 18),(w6.cell? (a7.add 18)).getD undef)] w17∧(
Ae prog F.Ar [.pointer x8,.pointer x10,.int .i64 stamp] w17 true [(true,[(.i .i64),(.i .i64),(.i .i64),(.i .u16),(.i .i64)]),(false,[(.i .i64)])] fun r18 w19=>
Aw [] w19∧(
Au [.int .i64 r18.1.1,.int .i64 r18.1.2.1,.int .i64 r18.1.2.2.1,.int .u16 r18.1.2.2.2.1,.int .i64 r18.1.2.2.2.2.1] p16 0 w19 fun w20=>
Aw [] w20∧(
Aj (r18.2.1.1 !=0) (
R ((.nilIface,()),(false,()),()) w20) (
J3 (()) w20)))))) (fun(z4:Unit) w5=> ∀_:Nat→Value,
Jg w5 fun w21=>
Aq n fun a22=>
ld1 .p (a22.add 16) w21 fun x23=>
Aq n fun a24=>
ld1 .p (a24.add 15) w21 fun x25=>
Ae prog F.Ba [.pointer x25] w21 false [(false,[.b])] fun r26 w27=>
Aw [(7,(a24.add 15),(w21.cell? (a24.add 15)).getD undef),(3,(a22.add 16),(w21.cell? (a22.add 16)).getD undef)] w27∧(
Ae prog F.Kr [.pointer x23,.bool r26.1.1] w27 true [(true,[(.i .i64),(.i .i64)]),(false,[.b])] fun r28 w29=>
Aw [(7,(a24.add 15),(w21.cell? (a24.add 15)).getD undef)] w29∧(
R ((.iface T.Gj (.agg #[.int .i64 r28.1.1,.int .i64 r28.1.2.1]),()),(r28.2.1.1,()),()) w29)))
theorem Pj.eq(n:Option Addr)(stamp:Int)(w:World)(R:Value→WP):A7 prog Tryz.f391 (.s .n (.ct [] (.s (.pl (.tk 0 (.tk 1 (.tk 2 (.tk 3 (.tk 4 (.tk 5 (.tk 6 (.tk 7 (.tk 8 (.two 9 13 (.tk 10 (.tk 11 (.tk 12 (.ef 13 [] (.ef 14 [3,7] (.tk 15 .z)))))) (.ef 9 [3,7] (.tk 10 (.tk 11 (.tk 12 (.ef 14 [] (.tk 15 .z))))))))))))))))) .n) (.s (.pl (.tk 0 (.tk 1 (.tk 2 (.tk 3 (.tk 4 (.tk 5 (.tk 6 (.tk 7 (.ef 8 [] (.ef 9 [3] (.tk 10 (.tk 11 (.tk 12 (.tk 13 (.tk 14 .z)))))))))))))))) .n))) [.agg #[],.pointer n,.int .i64 stamp] w R=Pj.wp n stamp w (fun r w=>R (encR true [(false,[.any]),(false,[.b])] r) w):=by kernel_rfl
theorem Pj.ok{n:Option Addr}{stamp:Int}{w:World}{R:TR [(false,[.any]),(false,[.b])]→WP}(h:Pj.wp n stamp w R):Ae prog F.Pj [.agg #[],.pointer n,.int .i64 stamp] w true [(false,[.any]),(false,[.b])] R:=
  Aop Aa Tryz.func391 (fun R=>Pj.wp n stamp w R) (Pj.eq n stamp w) rfl h
def Kr.wp(l:Option Addr)(itself:Bool)(w:World)(R:TR [(true,[(.i .i64),(.i .i64)]),(false,[.b])]→WP):Prop:=
Bf [.int .i64 0,.int .i64 0] T.Gj w fun p1 w2=>
Aj (Option.isNone l) (
Au [.int .i64 0,.int .i64 0] p1 0 w2 fun w3=>
A8 [(.i .i64),(.i .i64)] p1 0 w3 fun x4=>
R ((x4.1,x4.2.1,()),(false,()),()) w3) (
Aj itself (
Aq l fun a5=>
ld1 (.i .i64) a5 w2 fun x6=>
Au [.int .i64 x6,.int .i64 0] p1 0 w2 fun w7=>
A8 [(.i .i64),(.i .i64)] p1 0 w7 fun x8=>
R ((x8.1,x8.2.1,()),(true,()),()) w7) (
Aq l fun a9=>
ld1 (.i .i64) (a9.add 1) w2 fun x10=>
Aj (decide (x10<0)) (
Au [.int .i64 0,.int .i64 0] p1 0 w2 fun w11=>
A8 [(.i .i64),(.i .i64)] p1 0 w11 fun x12=>
R ((x12.1,x12.2.1,()),(false,()),()) w11) (
Jg w2 fun w13=>
Aq l fun a14=>
ld1 (.i .i64) a14 w13 fun x15=>
Aq l fun a16=>
ld1 (.i .i64) (a16.add 1) w13 fun x17=>
Au [.int .i64 x15,.int .i64 x17] p1 0 w13 fun w18=>
Aw [] w18∧(
A8 [(.i .i64),(.i .i64)] p1 0 w18 fun x19=>
R ((x19.1,x19.2.1,()),(true,()),()) w18))))
theorem Kr.eq(l:Option Addr)(itself:Bool)(w:World)(R:Value→WP):A7 prog Tryz.f392 (.s .n (.s .n (.s (.pl (.tk 0 (.tk 1 (.tk 2 (.tk 3 (.tk 4 (.tk 5 (.tk 6 (.tk 7 (.tk 8 (.ef 9 [3,7] (.tk 10 .z)))))))))))) .n))) [.pointer l,.bool itself] w R=Kr.wp l itself w (fun r w=>R (encR true [(true,[(.i .i64),(.i .i64)]),(false,[.b])] r) w):=by kernel_rfl
theorem Kr.ok{l:Option Addr}{itself:Bool}{w:World}{R:TR [(true,[(.i .i64),(.i .i64)]),(false,[.b])]→WP}(h:Kr.wp l itself w R):Ae prog F.Kr [.pointer l,.bool itself] w true [(true,[(.i .i64),(.i .i64)]),(false,[.b])] R:=
  Aop Aa Tryz.func392 (fun R=>Kr.wp l itself w R) (Kr.eq l itself w) rfl h
def Dn.wp(f0:Int)(f1:Int)(f2:Int)(w:World)(R:TR [(false,[(.i .i64)])]→WP):Prop:=
Bf [.int .i64 f0,.int .i64 f1,.int .i64 f2] T.Ef w fun p1 w2=>
ld1 (.i .i64) p1 w2 fun x3=>
R ((x3,()),()) w2
theorem Dn.eq(f0:Int)(f1:Int)(f2:Int)(w:World)(R:Value→WP):A7 prog Tryz.f393 .n [.agg #[.int .i64 f0,.int .i64 f1,.int .i64 f2]] w R=Dn.wp f0 f1 f2 w (fun r w=>R (encR false [(false,[(.i .i64)])] r) w):=by kernel_rfl
theorem Dn.ok{f0:Int}{f1:Int}{f2:Int}{w:World}{R:TR [(false,[(.i .i64)])]→WP}(h:Dn.wp f0 f1 f2 w R):Ae prog F.Dn [.agg #[.int .i64 f0,.int .i64 f1,.int .i64 f2]] w false [(false,[(.i .i64)])] R:=
  Aop Aa Tryz.func393 (fun R=>Dn.wp f0 f1 f2 w R) (Dn.eq f0 f1 f2 w) rfl h
def He.wp(f0:Int)(f1:Int)(f2:Int)(w:World)(R:TR [(false,[.sl])]→WP):Prop:=
Bf [.int .i64 f0,.int .i64 f1,.int .i64 f2] T.Ef w fun p1 w2=>
Jg w2 fun w3=>
ld1 (.i .i64) p1 w3 fun x4=>
ld1 (.i .i64) (p1.add 1) w3 fun x5=>
ld1 (.i .i64) (p1.add 2) w3 fun x6=>
Ae prog F.D5 [.int .i64 x4] w3 false [(true,[(.i .i64),(.i .i64),(.i .i64)])] fun r7 w8=>
Aw [(7,(p1.add 2),(w3.cell? (p1.add 2)).getD undef),(4,(p1.add 1),(w3.cell? (p1.add 1)).getD undef),(1,p1,(w3.cell? p1).getD undef)] w8∧(
Ae prog F.D5 [.int .i64 x5] w8 false [(true,[(.i .i64),(.i .i64),(.i .i64)])] fun r9 w10=>
Aw [(7,(p1.add 2),(w3.cell? (p1.add 2)).getD undef),(4,(p1.add 1),(w3.cell? (p1.add 1)).getD undef),(1,p1,(w3.cell? p1).getD undef)] w10∧(
Ae prog F.Gn [.int .i64 x6] w10 false [(true,[(.i .i64),(.i .i64),(.i .i64)])] fun r11 w12=>
Aw [(7,(p1.add 2),(w3.cell? (p1.add 2)).getD undef),(4,(p1.add 1),(w3.cell? (p1.add 1)).getD undef),(1,p1,(w3.cell? p1).getD undef)] w12∧(
Bf [.int .i64 r7.1.1,.int .i64 r7.1.2.1,.int .i64 r7.1.2.2.1,.int .i64 r9.1.1,.int .i64 r9.1.2.1,.int .i64 r9.1.2.2.1,.int .i64 r11.1.1,.int .i64 r11.1.2.1,.int .i64 r11.1.2.2.1] T.Dl w12 fun p13 w14=>
Aw [(7,(p1.add 2),(w3.cell? (p1.add 2)).getD undef),(4,(p1.add 1),(w3.cell? (p1.add 1)).getD undef),(1,p1,(w3.cell? p1).getD undef)] w14∧(
R (((some p13,3,3),()),()) w14))))
theorem He.eq(f0:Int)(f1:Int)(f2:Int)(w:World)(R:Value→WP):A7 prog Tryz.f394 (.s .n (.s (.pl (.tk 0 (.tk 1 (.tk 3 (.tk 4 (.tk 6 (.tk 7 (.ef 2 [] (.ef 5 [] (.ef 8 [] (.ef 9 [] (.tk 10 .z)))))))))))) .n)) [.agg #[.int .i64 f0,.int .i64 f1,.int .i64 f2]] w R=He.wp f0 f1 f2 w (fun r w=>R (encR false [(false,[.sl])] r) w):=by kernel_rfl
theorem He.ok{f0:Int}{f1:Int}{f2:Int}{w:World}{R:TR [(false,[.sl])]→WP}(h:He.wp f0 f1 f2 w R):Ae prog F.He [.agg #[.int .i64 f0,.int .i64 f1,.int .i64 f2]] w false [(false,[.sl])] R:=
  Aop Aa Tryz.func394 (fun R=>He.wp f0 f1 f2 w R) (He.eq f0 f1 f2 w) rfl h
def Nk.wp(r0:Int)(r1:Int)(r2:Int)(r3:Int)(r4:Int)(r5:Int)(r6:Int)(n:Option Addr)(stamp:Int)(w:World)(R:TR [(false,[.any]),(false,[.b])]→WP):Prop:=
Bf [.int .i64 r0,.int .i64 r1,.int .i64 r2,.int .i64 r3,.int .i64 r4,.int .u16 r5,.int .i64 r6] T.jZ w fun p1 w2=>
Cc (fun(J3:((Addr)×(Int)×Unit)→WP)=>
Jg w2 fun w6=>
Aq n fun a7=>
ld1 .p (a7.add 18) w6 fun x8=>
Aq n fun a9=>
ld1 .p (a9.add 15) w6 fun x10=>
(
Ae prog F.Ar [.pointer x8,.pointer x10,.int .i64 stamp] w6 true [(true,[(.i .i64),(.i .i64),(.i .i64),(.i .u16),(.i .i64)]),(false,[(.i .i64)])] fun r11 w12=>
Aw [(7,(a9.add 15),(w6.cell? (a9.add 15)).getD undef),(3,(a7.add 18),(w6.cell? (a7.add 18)).getD undef)] w12∧(
Bf [.int .i64 0,.int .i64 0,.int .i64 0,.int .u16 0,.int .i64 0] T.Bg w12 fun p13 w14=>
Aw [(7,(a9.add 15),(w6.cell? (a9.add 15)).getD undef),(3,(a7.add 18),(w6.cell? (a7.add 18)).getD undef)] w14∧(
Au [.int .i64 r11.1.1,.int .i64 r11.1.2.1,.int .i64 r11.1.2.2.1,.int .u16 r11.1.2.2.2.1,.int .i64 r11.1.2.2.2.2.1] p13 0 w14 fun w15=>
Aw [] w15∧(
J3 (p13,r11.2.1.1,()) w15))))∧(
Bf [.int .i64 0,.int .i64 0,.int .i64 0,.int .u16 0,.int .i64 0] T.Bg w6 fun p16 w17=>
Aw [(7,(a9.add 15),(w6.cell? (a9.add 15)).getD undef),(3,(a7.add 18),(w6.cell? (a7.add 18)).getD undef)] w17∧(
Ae prog F.Ar [.pointer x8,.pointer x10,.int .i64 stamp] w17 true [(true,[(.i .i64),(.i .i64),(.i .i64),(.i .u16),(.i .i64)]),(false,[(.i .i64)])] fun r18 w19=>
Aw [] w19∧(
Au [.int .i64 r18.1.1,.int .i64 r18.1.2.1,.int .i64 r18.1.2.2.1,.int .u16 r18.1.2.2.2.1,.int .i64 r18.1.2.2.2.2.1] p16 0 w19 fun w20=>
Aw [] w20∧(
J3 (p16,r18.2.1.1,()) w20))))) (fun(z4:(Addr)×(Int)×Unit) w5=> ∀_:Nat→Value,
Aj (z4.2.1 !=0) (
R ((.nilIface,()),(false,()),()) w5) (
A8 [(.i .i64),(.i .u16)] (z4.1.add 2) 0 w5 fun x21=>
A8 [(.i .i64),(.i .u16)] ((p1.add 2).add 2) 0 w5 fun x22=>
Aj (!((x21.1==x22.1)&&((x21.2.1==x22.2.1)&&true))) (
R ((.nilIface,()),(false,()),()) w5) (
Jg w5 fun w23=>
Aq n fun a24=>
ld1 (.i .i64) a24 w23 fun x25=>
ld1 (.i .i64) p1 w23 fun x26=>
ld1 (.i .i64) (p1.add 1) w23 fun x27=>
ld1 (.i .i64) (p1.add 2) w23 fun x28=>
ld1 (.i .i64) z4.1 w23 fun x29=>
ld1 (.i .i64) (z4.1.add 2) w23 fun x30=>
ld1 (.i .u16) ((z4.1.add 2).add 1) w23 fun x31=>
ld1 (.i .i64) (z4.1.add 1) w23 fun x32=>
ld1 (.i .i64) ((p1.add 2).add 1) w23 fun x33=>
R ((.iface T.Gl (.agg #[.int .i64 x25,.int .i64 x26,.int .i64 x27,.int .i64 x28,.int .i64 x29,.int .i64 x30,.int .u16 x31,.int .i64 (if x33>x32 then x33 else x32)]),()),(true,()),()) w23)))
theorem Nk.eq(r0:Int)(r1:Int)(r2:Int)(r3:Int)(r4:Int)(r5:Int)(r6:Int)(n:Option Addr)(stamp:Int)(w:World)(R:Value→WP):A7 prog Tryz.f395 (.s .n (.ct [(8,.a),(9,(.i .i64))] (.pl (.tk 0 (.tk 1 (.tk 2 (.tk 3 (.tk 4 (.tk 5 (.tk 6 (.tk 7 (.tk 8 (.two 9 13 (.tk 10 (.tk 11 (.tk 12 (.ef 13 [] (.ef 14 [3,7] (.tk 15 .z)))))) (.ef 9 [3,7] (.tk 10 (.tk 11 (.tk 12 (.ef 14 [] (.tk 15 .z))))))))))))))))) (.s .n (.s (.pl (.tk 0 (.tk 1 (.tk 2 (.tk 3 (.tk 4 (.tk 5 (.tk 6 (.tk 7 (.tk 8 (.tk 9 (.tk 10 (.tk 11 (.tk 12 (.tk 13 (.tk 14 (.tk 15 (.tk 16 (.tk 17 (.tk 18 (.tk 19 (.tk 20 (.tk 21 (.tk 22 (.tk 23 (.tk 24 (.tk 25 (.tk 26 (.tk 27 (.tk 28 (.tk 29 .z))))))))))))))))))))))))))))))) .n)))) [.agg #[.int .i64 r0,.int .i64 r1,.int .i64 r2,.int .i64 r3,.int .i64 r4,.int .u16 r5,.int .i64 r6],.pointer n,.int .i64 stamp] w R=Nk.wp r0 r1 r2 r3 r4 r5 r6 n stamp w (fun r w=>R (encR true [(false,[.any]),(false,[.b])] r) w):=by kernel_rfl
theorem Nk.ok{r0:Int}{r1:Int}{r2:Int}{r3:Int}{r4:Int}{r5:Int}{r6:Int}{n:Option Addr}{stamp:Int}{w:World}{R:TR [(false,[.any]),(false,[.b])]→WP}(h:Nk.wp r0 r1 r2 r3 r4 r5 r6 n stamp w R):Ae prog F.Nk [.agg #[.int .i64 r0,.int .i64 r1,.int .i64 r2,.int .i64 r3,.int .i64 r4,.int .u16 r5,.int .i64 r6],.pointer n,.int .i64 stamp] w true [(false,[.any]),(false,[.b])] R:=
  Aop Aa Tryz.func395 (fun R=>Nk.wp r0 r1 r2 r3 r4 r5 r6 n stamp w R) (Nk.eq r0 r1 r2 r3 r4 r5 r6 n stamp w) rfl h
def Lu.wp(f0:Int)(f1:Int)(f2:Int)(f3:Int)(f4:Int)(f5:Int)(f6:Int)(f7:Int)(w:World)(R:TR [(false,[(.i .i64)])]→WP):Prop:=
Bf [.int .i64 f0,.int .i64 f1,.int .i64 f2,.int .i64 f3,.int .i64 f4,.int .i64 f5,.int .u16 f6,.int .i64 f7] T.Gl w fun p1 w2=>
ld1 (.i .i64) p1 w2 fun x3=>
R ((x3,()),()) w2
theorem Lu.eq(f0:Int)(f1:Int)(f2:Int)(f3:Int)(f4:Int)(f5:Int)(f6:Int)(f7:Int)(w:World)(R:Value→WP):A7 prog Tryz.f396 .n [.agg #[.int .i64 f0,.int .i64 f1,.int .i64 f2,.int .i64 f3,.int .i64 f4,.int .i64 f5,.int .u16 f6,.int .i64 f7]] w R=Lu.wp f0 f1 f2 f3 f4 f5 f6 f7 w (fun r w=>R (encR false [(false,[(.i .i64)])] r) w):=by kernel_rfl
theorem Lu.ok{f0:Int}{f1:Int}{f2:Int}{f3:Int}{f4:Int}{f5:Int}{f6:Int}{f7:Int}{w:World}{R:TR [(false,[(.i .i64)])]→WP}(h:Lu.wp f0 f1 f2 f3 f4 f5 f6 f7 w R):Ae prog F.Lu [.agg #[.int .i64 f0,.int .i64 f1,.int .i64 f2,.int .i64 f3,.int .i64 f4,.int .i64 f5,.int .u16 f6,.int .i64 f7]] w false [(false,[(.i .i64)])] R:=
  Aop Aa Tryz.func396 (fun R=>Lu.wp f0 f1 f2 f3 f4 f5 f6 f7 w R) (Lu.eq f0 f1 f2 f3 f4 f5 f6 f7 w) rfl h
def G7.wp(f0:Int)(f1:Int)(f2:Int)(f3:Int)(f4:Int)(f5:Int)(f6:Int)(f7:Int)(w:World)(R:TR [(false,[.sl])]→WP):Prop:=
Bf [.int .i64 f0,.int .i64 f1,.int .i64 f2,.int .i64 f3,.int .i64 f4,.int .i64 f5,.int .u16 f6,.int .i64 f7] T.Gl w fun p1 w2=>
Jg w2 fun w3=>
ld1 (.i .i64) p1 w3 fun x4=>
ld1 (.i .i64) (p1.add 1) w3 fun x5=>
ld1 (.i .i64) (p1.add 2) w3 fun x6=>
ld1 (.i .i64) (p1.add 3) w3 fun x7=>
ld1 (.i .i64) (p1.add 4) w3 fun x8=>
ld1 (.i .i64) (p1.add 5) w3 fun x9=>
ld1 (.i .u16) (p1.add 6) w3 fun x10=>
ld1 (.i .i64) (p1.add 7) w3 fun x11=>
Ae prog F.D5 [.int .i64 x4] w3 false [(true,[(.i .i64),(.i .i64),(.i .i64)])] fun r12 w13=>
Aw [(22,(p1.add 7),(w3.cell? (p1.add 7)).getD undef),(19,(p1.add 6),(w3.cell? (p1.add 6)).getD undef),(16,(p1.add 5),(w3.cell? (p1.add 5)).getD undef),(13,(p1.add 4),(w3.cell? (p1.add 4)).getD undef),(10,(p1.add 3),(w3.cell? (p1.add 3)).getD undef),(7,(p1.add 2),(w3.cell? (p1.add 2)).getD undef),(4,(p1.add 1),(w3.cell? (p1.add 1)).getD undef),(1,p1,(w3.cell? p1).getD undef)] w13∧(
Ae prog F.D5 [.int .i64 x5] w13 false [(true,[(.i .i64),(.i .i64),(.i .i64)])] fun r14 w15=>
Aw [(22,(p1.add 7),(w3.cell? (p1.add 7)).getD undef),(19,(p1.add 6),(w3.cell? (p1.add 6)).getD undef),(16,(p1.add 5),(w3.cell? (p1.add 5)).getD undef),(13,(p1.add 4),(w3.cell? (p1.add 4)).getD undef),(10,(p1.add 3),(w3.cell? (p1.add 3)).getD undef),(7,(p1.add 2),(w3.cell? (p1.add 2)).getD undef),(4,(p1.add 1),(w3.cell? (p1.add 1)).getD undef),(1,p1,(w3.cell? p1).getD undef)] w15∧(
Ae prog F.Gn [.int .i64 x6] w15 false [(true,[(.i .i64),(.i .i64),(.i .i64)])] fun r16 w17=>
Aw [(22,(p1.add 7),(w3.cell? (p1.add 7)).getD undef),(19,(p1.add 6),(w3.cell? (p1.add 6)).getD undef),(16,(p1.add 5),(w3.cell? (p1.add 5)).getD undef),(13,(p1.add 4),(w3.cell? (p1.add 4)).getD undef),(10,(p1.add 3),(w3.cell? (p1.add 3)).getD undef),(7,(p1.add 2),(w3.cell? (p1.add 2)).getD undef),(4,(p1.add 1),(w3.cell? (p1.add 1)).getD undef),(1,p1,(w3.cell? p1).getD undef)] w17∧(
Ae prog F.Gn [.int .i64 x7] w17 false [(true,[(.i .i64),(.i .i64),(.i .i64)])] fun r18 w19=>
Aw [(22,(p1.add 7),(w3.cell? (p1.add 7)).getD undef),(19,(p1.add 6),(w3.cell? (p1.add 6)).getD undef),(16,(p1.add 5),(w3.cell? (p1.add 5)).getD undef),(13,(p1.add 4),(w3.cell? (p1.add 4)).getD undef),(10,(p1.add 3),(w3.cell? (p1.add 3)).getD undef),(7,(p1.add 2),(w3.cell? (p1.add 2)).getD undef),(4,(p1.add 1),(w3.cell? (p1.add 1)).getD undef),(1,p1,(w3.cell? p1).getD undef)] w19∧(
Ae prog F.Gn [.int .i64 x8] w19 false [(true,[(.i .i64),(.i .i64),(.i .i64)])] fun r20 w21=>
Aw [(22,(p1.add 7),(w3.cell? (p1.add 7)).getD undef),(19,(p1.add 6),(w3.cell? (p1.add 6)).getD undef),(16,(p1.add 5),(w3.cell? (p1.add 5)).getD undef),(13,(p1.add 4),(w3.cell? (p1.add 4)).getD undef),(10,(p1.add 3),(w3.cell? (p1.add 3)).getD undef),(7,(p1.add 2),(w3.cell? (p1.add 2)).getD undef),(4,(p1.add 1),(w3.cell? (p1.add 1)).getD undef),(1,p1,(w3.cell? p1).getD undef)] w21∧(
Ae prog F.D5 [.int .i64 x9] w21 false [(true,[(.i .i64),(.i .i64),(.i .i64)])] fun r22 w23=>
Aw [(22,(p1.add 7),(w3.cell? (p1.add 7)).getD undef),(19,(p1.add 6),(w3.cell? (p1.add 6)).getD undef),(16,(p1.add 5),(w3.cell? (p1.add 5)).getD undef),(13,(p1.add 4),(w3.cell? (p1.add 4)).getD undef),(10,(p1.add 3),(w3.cell? (p1.add 3)).getD undef),(7,(p1.add 2),(w3.cell? (p1.add 2)).getD undef),(4,(p1.add 1),(w3.cell? (p1.add 1)).getD undef),(1,p1,(w3.cell? p1).getD undef)] w23∧(
Ae prog F.E5 [.int .u16 x10] w23 false [(true,[(.i .i64),(.i .i64),(.i .i64)])] fun r24 w25=>
Aw [(22,(p1.add 7),(w3.cell? (p1.add 7)).getD undef),(19,(p1.add 6),(w3.cell? (p1.add 6)).getD undef),(16,(p1.add 5),(w3.cell? (p1.add 5)).getD undef),(13,(p1.add 4),(w3.cell? (p1.add 4)).getD undef),(10,(p1.add 3),(w3.cell? (p1.add 3)).getD undef),(7,(p1.add 2),(w3.cell? (p1.add 2)).getD undef),(4,(p1.add 1),(w3.cell? (p1.add 1)).getD undef),(1,p1,(w3.cell? p1).getD undef)] w25∧(
Ae prog F.Qp [.int .i64 x11] w25 false [(true,[(.i .i64),(.i .i64),(.i .i64)])] fun r26 w27=>
Aw [(22,(p1.add 7),(w3.cell? (p1.add 7)).getD undef),(19,(p1.add 6),(w3.cell? (p1.add 6)).getD undef),(16,(p1.add 5),(w3.cell? (p1.add 5)).getD undef),(13,(p1.add 4),(w3.cell? (p1.add 4)).getD undef),(10,(p1.add 3),(w3.cell? (p1.add 3)).getD undef),(7,(p1.add 2),(w3.cell? (p1.add 2)).getD undef),(4,(p1.add 1),(w3.cell? (p1.add 1)).getD undef),(1,p1,(w3.cell? p1).getD undef)] w27∧(
Bf [.int .i64 r12.1.1,.int .i64 r12.1.2.1,.int .i64 r12.1.2.2.1,.int .i64 r14.1.1,.int .i64 r14.1.2.1,.int .i64 r14.1.2.2.1,.int .i64 r16.1.1,.int .i64 r16.1.2.1,.int .i64 r16.1.2.2.1,.int .i64 r18.1.1,.int .i64 r18.1.2.1,.int .i64 r18.1.2.2.1,.int .i64 r20.1.1,.int .i64 r20.1.2.1,.int .i64 r20.1.2.2.1,.int .i64 r22.1.1,.int .i64 r22.1.2.1,.int .i64 r22.1.2.2.1,.int .i64 r24.1.1,.int .i64 r24.1.2.1,.int .i64 r24.1.2.2.1,.int .i64 r26.1.1,.int .i64 r26.1.2.1,.int .i64 r26.1.2.2.1] T.Dl w27 fun p28 w29=>
Aw [(22,(p1.add 7),(w3.cell? (p1.add 7)).getD undef),(19,(p1.add 6),(w3.cell? (p1.add 6)).getD undef),(16,(p1.add 5),(w3.cell? (p1.add 5)).getD undef),(13,(p1.add 4),(w3.cell? (p1.add 4)).getD undef),(10,(p1.add 3),(w3.cell? (p1.add 3)).getD undef),(7,(p1.add 2),(w3.cell? (p1.add 2)).getD undef),(4,(p1.add 1),(w3.cell? (p1.add 1)).getD undef),(1,p1,(w3.cell? p1).getD undef)] w29∧(
R (((some p28,8,8),()),()) w29)))))))))
theorem G7.eq(f0:Int)(f1:Int)(f2:Int)(f3:Int)(f4:Int)(f5:Int)(f6:Int)(f7:Int)(w:World)(R:Value→WP):A7 prog Tryz.f397 (.s .n (.s (.pl (.tk 0 (.tk 1 (.tk 3 (.tk 4 (.tk 6 (.tk 7 (.tk 9 (.tk 10 (.tk 12 (.tk 13 (.tk 15 (.tk 16 (.tk 18 (.tk 19 (.tk 21 (.tk 22 (.ef 2 [] (.ef 5 [] (.ef 8 [] (.ef 11 [] (.ef 14 [] (.ef 17 [] (.ef 20 [] (.ef 23 [] (.ef 24 [] (.tk 25 .z))))))))))))))))))))))))))) .n)) [.agg #[.int .i64 f0,.int .i64 f1,.int .i64 f2,.int .i64 f3,.int .i64 f4,.int .i64 f5,.int .u16 f6,.int .i64 f7]] w R=G7.wp f0 f1 f2 f3 f4 f5 f6 f7 w (fun r w=>R (encR false [(false,[.sl])] r) w):=by kernel_rfl
theorem G7.ok{f0:Int}{f1:Int}{f2:Int}{f3:Int}{f4:Int}{f5:Int}{f6:Int}{f7:Int}{w:World}{R:TR [(false,[.sl])]→WP}(h:G7.wp f0 f1 f2 f3 f4 f5 f6 f7 w R):Ae prog F.G7 [.agg #[.int .i64 f0,.int .i64 f1,.int .i64 f2,.int .i64 f3,.int .i64 f4,.int .i64 f5,.int .u16 f6,.int .i64 f7]] w false [(false,[.sl])] R:=
  Aop Aa Tryz.func397 (fun R=>G7.wp f0 f1 f2 f3 f4 f5 f6 f7 w R) (G7.eq f0 f1 f2 f3 f4 f5 f6 f7 w) rfl h
def Qi.wp(n:Option Addr)(p2:Int)(w:World)(R:TR [(false,[.any]),(false,[.b])]→WP):Prop:=
Bf [] T.Yr w fun p1 w2=>
Aq n fun a3=>
Ae prog F.Nc [.pointer (some (a3.add 19))] w2 true [(true,[(.i .i64),(.i .u16),(.i .i64),(.i .u16),(.i .i64),(.i .i64)]),(false,[.b])] fun r4 w5=>
Bf [.int .i64 0,.int .u16 0,.int .i64 0,.int .u16 0,.int .i64 0,.int .i64 0] T.Bh w5 fun p6 w7=>
Au [.int .i64 r4.1.1,.int .u16 r4.1.2.1,.int .i64 r4.1.2.2.1,.int .u16 r4.1.2.2.2.1,.int .i64 r4.1.2.2.2.2.1,.int .i64 r4.1.2.2.2.2.2.1] p6 0 w7 fun w8=>
Aq n fun a9=>
ld1 (.i .i64) a9 w8 fun x10=>
Au [.int .i64 x10] p6 0 w8 fun w11=>
A8 [(.i .i64),(.i .u16),(.i .i64),(.i .u16),(.i .i64),(.i .i64)] p6 0 w11 fun x12=>
R ((.iface T.Bh (.agg #[.int .i64 x12.1,.int .u16 x12.2.1,.int .i64 x12.2.2.1,.int .u16 x12.2.2.2.1,.int .i64 x12.2.2.2.2.1,.int .i64 x12.2.2.2.2.2.1]),()),(r4.2.1.1,()),()) w11
theorem Qi.eq(n:Option Addr)(p2:Int)(w:World)(R:Value→WP):A7 prog Tryz.f398 .n [.agg #[],.pointer n,.int .i64 p2] w R=Qi.wp n p2 w (fun r w=>R (encR true [(false,[.any]),(false,[.b])] r) w):=by kernel_rfl
theorem Qi.ok{n:Option Addr}{p2:Int}{w:World}{R:TR [(false,[.any]),(false,[.b])]→WP}(h:Qi.wp n p2 w R):Ae prog F.Qi [.agg #[],.pointer n,.int .i64 p2] w true [(false,[.any]),(false,[.b])] R:=
  Aop Aa Tryz.func398 (fun R=>Qi.wp n p2 w R) (Qi.eq n p2 w) rfl h
def Nc.wp(b:Option Addr)(w:World)(R:TR [(true,[(.i .i64),(.i .u16),(.i .i64),(.i .u16),(.i .i64),(.i .i64)]),(false,[.b])]→WP):Prop:=
Bf [.int .i64 0,.int .u16 0,.int .i64 0,.int .u16 0,.int .i64 0,.int .i64 0] T.Bh w fun p1 w2=>
Aj (Option.isNone b) (
Au [.int .i64 0,.int .u16 0,.int .i64 0,.int .u16 0,.int .i64 0,.int .i64 0] p1 0 w2 fun w3=>
A8 [(.i .i64),(.i .u16),(.i .i64),(.i .u16),(.i .i64),(.i .i64)] p1 0 w3 fun x4=>
R ((x4.1,x4.2.1,x4.2.2.1,x4.2.2.2.1,x4.2.2.2.2.1,x4.2.2.2.2.2.1,()),(false,()),()) w3) (
Jg w2 fun w5=>
Aq b fun a6=>
A8 [(.i .i64),(.i .u16),(.i .i64),(.i .u16),(.i .i64),(.i .i64)] (a6.add 1) 0 w5 fun x7=>
Aq b fun a8=>
ld1 .b a8 w5 fun x9=>
Au [.int .i64 x7.1,.int .u16 x7.2.1,.int .i64 x7.2.2.1,.int .u16 x7.2.2.2.1,.int .i64 x7.2.2.2.2.1,.int .i64 x7.2.2.2.2.2.1] p1 0 w5 fun w10=>
Aw [(7,a8,(w5.cell? a8).getD undef)] w10∧(
A8 [(.i .i64),(.i .u16),(.i .i64),(.i .u16),(.i .i64),(.i .i64)] p1 0 w10 fun x11=>
R ((x11.1,x11.2.1,x11.2.2.1,x11.2.2.2.1,x11.2.2.2.2.1,x11.2.2.2.2.2.1,()),(x9,()),()) w10))
theorem Nc.eq(b:Option Addr)(w:World)(R:Value→WP):A7 prog Tryz.f399 (.s .n (.s .n (.s (.pl (.tk 0 (.tk 1 (.tk 2 (.tk 3 (.tk 4 (.tk 5 (.tk 6 (.tk 7 (.ef 8 [3] (.tk 9 .z))))))))))) .n))) [.pointer b] w R=Nc.wp b w (fun r w=>R (encR true [(true,[(.i .i64),(.i .u16),(.i .i64),(.i .u16),(.i .i64),(.i .i64)]),(false,[.b])] r) w):=by kernel_rfl
theorem Nc.ok{b:Option Addr}{w:World}{R:TR [(true,[(.i .i64),(.i .u16),(.i .i64),(.i .u16),(.i .i64),(.i .i64)]),(false,[.b])]→WP}(h:Nc.wp b w R):Ae prog F.Nc [.pointer b] w true [(true,[(.i .i64),(.i .u16),(.i .i64),(.i .u16),(.i .i64),(.i .i64)]),(false,[.b])] R:=
  Aop Aa Tryz.func399 (fun R=>Nc.wp b w R) (Nc.eq b w) rfl h
end Go.Proofs.YticgocmhmffneaaGreatDoor
