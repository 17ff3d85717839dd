import Derived.Test.YticgocmhmffneaaGreatDoorNm
namespace Go.Proofs.YticgocmhmffneaaGreatDoor
open Go.Eng Tryz
open Go.IntKind (wrap)
set_option linter.unusedSimpArgs false
set_option linter.unusedVariables false
set_option maxRecDepth 100000
set_option maxHeartbeats 8000000
def Qj.wp(n:Option Addr)(label:ByteArray)(w:World)(R:TR [(false,[(.i .i64)]),(false,[(.i .i64)])]→WP):Prop:=
Ae prog F.D6 [.pointer n] w true [(true,[(.i .i64),(.i .i64),(.i .i64),(.i .u16),(.i .i64)]),(false,[(.i .i64)])] fun r1 w2=>
Bf [.int .i64 0,.int .i64 0,.int .i64 0,.int .u16 0,.int .i64 0] T.Bg w2 fun p3 w4=>
Au [.int .i64 r1.1.1,.int .i64 r1.1.2.1,.int .i64 r1.1.2.2.1,.int .u16 r1.1.2.2.2.1,.int .i64 r1.1.2.2.2.2.1] p3 0 w4 fun w5=>
Aj (r1.2.1.1 !=0) (
R ((0,()),(r1.2.1.1,()),()) w5) (
Jg w5 fun w6=>
Aq n fun a7=>
ld1 .p (a7.add 26) w6 fun x8=>
Aq n fun a9=>
ld1 .p (a9.add 14) w6 fun x10=>
A8 [(.i .i64),(.i .i64),(.i .i64),(.i .u16),(.i .i64)] p3 0 w6 fun x11=>
Ae prog F.Ez [.pointer x10] w6 false [(false,[(.i .i64)])] fun r12 w13=>
Aw [(10,(p3.add 0),(w6.cell? (p3.add 0)).getD undef),(10,(p3.add 1),(w6.cell? (p3.add 1)).getD undef),(10,(p3.add 2),(w6.cell? (p3.add 2)).getD undef),(10,(p3.add 3),(w6.cell? (p3.add 3)).getD undef),(10,(p3.add 4),(w6.cell? (p3.add 4)).getD undef),(8,(a9.add 14),(w6.cell? (a9.add 14)).getD undef),(3,(a7.add 26),(w6.cell? (a7.add 26)).getD undef)] w13∧(
Ae prog F.Qk [.pointer x8,.string label,.int .i64 r12.1.1,.agg #[.int .i64 x11.1,.int .i64 x11.2.1,.int .i64 x11.2.2.1,.int .u16 x11.2.2.2.1,.int .i64 x11.2.2.2.2.1]] w13 true [(false,[(.i .i64)]),(false,[(.i .i64)])] fun r14 w15=>
Aw [(8,(a9.add 14),(w6.cell? (a9.add 14)).getD undef)] w15∧(
R ((r14.1.1,()),(r14.2.1.1,()),()) w15)))
theorem Qj.eq(n:Option Addr)(label:ByteArray)(w:World)(R:Value→WP):A7 prog Tryz.f72 (.s .n (.s .n (.s .n (.s (.pl (.tk 0 (.tk 1 (.tk 2 (.tk 3 (.tk 4 (.tk 5 (.tk 6 (.tk 7 (.tk 8 (.tk 10 (.ef 9 [] (.ef 11 [3,10] (.tk 12 (.tk 13 (.tk 14 (.tk 15 .z))))))))))))))))) .n)))) [.pointer n,.string label] w R=Qj.wp n label w (fun r w=>R (encR true [(false,[(.i .i64)]),(false,[(.i .i64)])] r) w):=by kernel_rfl
theorem Qj.ok{n:Option Addr}{label:ByteArray}{w:World}{R:TR [(false,[(.i .i64)]),(false,[(.i .i64)])]→WP}(h:Qj.wp n label w R):Ae prog F.Qj [.pointer n,.string label] w true [(false,[(.i .i64)]),(false,[(.i .i64)])] R:=
  Aop Aa Tryz.func72 (fun R=>Qj.wp n label w R) (Qj.eq n label w) rfl h
def Oq.wp(n:Option Addr)(w:World)(R:TR [(true,[(.i .i64),.s,(.i .i64),(.i .i64),(.i .i64),(.i .i64),(.i .u16),(.i .i64)]),(false,[.b])]→WP):Prop:=
Bf [.int .i64 0,.string ByteArray.empty,.int .i64 0,.int .i64 0,.int .i64 0,.int .i64 0,.int .u16 0,.int .i64 0] T.U1 w fun p1 w2=>
Ae prog F.Cm [.pointer n] w2 false [(false,[(.i .i64)])] fun r3 w4=>
Aj (r3.1.1 !=0) (
Au [.int .i64 0,.string ByteArray.empty,.int .i64 0,.int .i64 0,.int .i64 0,.int .i64 0,.int .u16 0,.int .i64 0] p1 0 w4 fun w5=>
A8 [(.i .i64),.s,(.i .i64),(.i .i64),(.i .i64),(.i .i64),(.i .u16),(.i .i64)] p1 0 w5 fun x6=>
R ((x6.1,x6.2.1,x6.2.2.1,x6.2.2.2.1,x6.2.2.2.2.1,x6.2.2.2.2.2.1,x6.2.2.2.2.2.2.1,x6.2.2.2.2.2.2.2.1,()),(false,()),()) w5) (
Aq n fun a7=>
ld1 .p (a7.add 26) w4 fun x8=>
Ae prog F.Ou [.pointer x8] w4 true [(true,[(.i .i64),.s,(.i .i64),(.i .i64),(.i .i64),(.i .i64),(.i .u16),(.i .i64)]),(false,[.b])] fun r9 w10=>
Au [.int .i64 r9.1.1,.string r9.1.2.1,.int .i64 r9.1.2.2.1,.int .i64 r9.1.2.2.2.1,.int .i64 r9.1.2.2.2.2.1,.int .i64 r9.1.2.2.2.2.2.1,.int .u16 r9.1.2.2.2.2.2.2.1,.int .i64 r9.1.2.2.2.2.2.2.2.1] p1 0 w10 fun w11=>
A8 [(.i .i64),.s,(.i .i64),(.i .i64),(.i .i64),(.i .i64),(.i .u16),(.i .i64)] p1 0 w11 fun x12=>
R ((x12.1,x12.2.1,x12.2.2.1,x12.2.2.2.1,x12.2.2.2.2.1,x12.2.2.2.2.2.1,x12.2.2.2.2.2.2.1,x12.2.2.2.2.2.2.2.1,()),(r9.2.1.1,()),()) w11)
theorem Oq.eq(n:Option Addr)(w:World)(R:Value→WP):A7 prog Tryz.f73 .n [.pointer n] w R=Oq.wp n w (fun r w=>R (encR true [(true,[(.i .i64),.s,(.i .i64),(.i .i64),(.i .i64),(.i .i64),(.i .u16),(.i .i64)]),(false,[.b])] r) w):=by kernel_rfl
theorem Oq.ok{n:Option Addr}{w:World}{R:TR [(true,[(.i .i64),.s,(.i .i64),(.i .i64),(.i .i64),(.i .i64),(.i .u16),(.i .i64)]),(false,[.b])]→WP}(h:Oq.wp n w R):Ae prog F.Oq [.pointer n] w true [(true,[(.i .i64),.s,(.i .i64),(.i .i64),(.i .i64),(.i .i64),(.i .u16),(.i .i64)]),(false,[.b])] R:=
  Aop Aa Tryz.func73 (fun R=>Oq.wp n w R) (Oq.eq n w) rfl h
def Vq.wp(me:Int)(timeout:Int)(ignore:Int)(need:Int)(drift:Int)(w:World)(R:TR [(false,[.b])]→WP):Prop:=
Ae prog F.Ve [.int .i64 me,.int .i64 timeout,.int .i64 ignore] w false [(false,[.b])] fun r1 w2=>
Aj r1.1.1 (
Aj (decide (need≥1)) (
Aj (decide (need≤8)) (
Aj (decide (drift≥0)) (
R ((decide (drift≤10),()),()) w2) (
R ((false,()),()) w2)) (
R ((false,()),()) w2)) (
R ((false,()),()) w2)) (
R ((false,()),()) w2)
theorem Vq.eq(me:Int)(timeout:Int)(ignore:Int)(need:Int)(drift:Int)(w:World)(R:Value→WP):A7 prog Tryz.f93 .n [.int .i64 me,.int .i64 timeout,.int .i64 ignore,.int .i64 need,.int .i64 drift] w R=Vq.wp me timeout ignore need drift w (fun r w=>R (encR false [(false,[.b])] r) w):=by kernel_rfl
theorem Vq.ok{me:Int}{timeout:Int}{ignore:Int}{need:Int}{drift:Int}{w:World}{R:TR [(false,[.b])]→WP}(h:Vq.wp me timeout ignore need drift w R):Ae prog F.Vq [.int .i64 me,.int .i64 timeout,.int .i64 ignore,.int .i64 need,.int .i64 drift] w false [(false,[.b])] R:=
  Aop Aa Tryz.func93 (fun R=>Vq.wp me timeout ignore need drift w R) (Vq.eq me timeout ignore need drift w) rfl h
def U3.wp(p0:Int)(p1:Int)(p2:Int)(w:World)(R:TR [(false,[.b])]→WP):Prop:=
Bf [.int .i64 p0,.int .i64 p1,.int .i64 p2] T.rU w fun p3 w4=>
ld1 (.i .i64) p3 w4 fun x5=>
Aj (decide (x5≥1)) (
ld1 (.i .i64) p3 w4 fun x6=>
Aj (decide (x6≤64)) (
ld1 (.i .i64) (p3.add 1) w4 fun x7=>
Aj (decide (x7≥1)) (
ld1 (.i .i64) (p3.add 1) w4 fun x8=>
ld1 (.i .i64) p3 w4 fun x9=>
Aj (decide (x8≤x9)) (
ld1 (.i .i64) (p3.add 2) w4 fun x10=>
Aj (decide (x10≥0)) (
ld1 (.i .i64) (p3.add 2) w4 fun x11=>
ld1 (.i .i64) p3 w4 fun x12=>
R ((decide (x11<x12),()),()) w4) (
R ((false,()),()) w4)) (
R ((false,()),()) w4)) (
R ((false,()),()) w4)) (
R ((false,()),()) w4)) (
R ((false,()),()) w4)
theorem U3.eq(p0:Int)(p1:Int)(p2:Int)(w:World)(R:Value→WP):A7 prog Tryz.f94 .n [.agg #[.int .i64 p0,.int .i64 p1,.int .i64 p2]] w R=U3.wp p0 p1 p2 w (fun r w=>R (encR false [(false,[.b])] r) w):=by kernel_rfl
theorem U3.ok{p0:Int}{p1:Int}{p2:Int}{w:World}{R:TR [(false,[.b])]→WP}(h:U3.wp p0 p1 p2 w R):Ae prog F.U3 [.agg #[.int .i64 p0,.int .i64 p1,.int .i64 p2]] w false [(false,[.b])] R:=
  Aop Aa Tryz.func94 (fun R=>U3.wp p0 p1 p2 w R) (U3.eq p0 p1 p2 w) rfl h
def Jy.wp(s0:Int)(s1:Int)(s2:Int)(s3:Int)(s4:Int)(s5:Int)(s6:Int)(s7:Int)(s8:Int)(s9:Int)(s10:Bool)(w:World)(R:TR [(true,[(.i .i64),(.i .i64),(.i .i64)])]→WP):Prop:=
Bf [.int .i64 s0,.int .i64 s1,.int .i64 s2,.int .i64 s3,.int .i64 s4,.int .i64 s5,.int .i64 s6,.int .i64 s7,.int .i64 s8,.int .i64 s9,.bool s10] T.Xj w fun p1 w2=>
Bf [.int .i64 0,.int .i64 0,.int .i64 0] T.rU w2 fun p3 w4=>
ld1 (.i .i64) (p1.add 5) w4 fun x5=>
ld1 (.i .i64) (p1.add 6) w4 fun x6=>
ld1 (.i .i64) (p1.add 7) w4 fun x7=>
Au [.int .i64 x5,.int .i64 x6,.int .i64 x7] p3 0 w4 fun w8=>
A8 [(.i .i64),(.i .i64),(.i .i64)] p3 0 w8 fun x9=>
R ((x9.1,x9.2.1,x9.2.2.1,()),()) w8
theorem Jy.eq(s0:Int)(s1:Int)(s2:Int)(s3:Int)(s4:Int)(s5:Int)(s6:Int)(s7:Int)(s8:Int)(s9:Int)(s10:Bool)(w:World)(R:Value→WP):A7 prog Tryz.f95 .n [.agg #[.int .i64 s0,.int .i64 s1,.int .i64 s2,.int .i64 s3,.int .i64 s4,.int .i64 s5,.int .i64 s6,.int .i64 s7,.int .i64 s8,.int .i64 s9,.bool s10]] w R=Jy.wp s0 s1 s2 s3 s4 s5 s6 s7 s8 s9 s10 w (fun r w=>R (encR false [(true,[(.i .i64),(.i .i64),(.i .i64)])] r) w):=by kernel_rfl
theorem Jy.ok{s0:Int}{s1:Int}{s2:Int}{s3:Int}{s4:Int}{s5:Int}{s6:Int}{s7:Int}{s8:Int}{s9:Int}{s10:Bool}{w:World}{R:TR [(true,[(.i .i64),(.i .i64),(.i .i64)])]→WP}(h:Jy.wp s0 s1 s2 s3 s4 s5 s6 s7 s8 s9 s10 w R):Ae prog F.Jy [.agg #[.int .i64 s0,.int .i64 s1,.int .i64 s2,.int .i64 s3,.int .i64 s4,.int .i64 s5,.int .i64 s6,.int .i64 s7,.int .i64 s8,.int .i64 s9,.bool s10]] w false [(true,[(.i .i64),(.i .i64),(.i .i64)])] R:=
  Aop Aa Tryz.func95 (fun R=>Jy.wp s0 s1 s2 s3 s4 s5 s6 s7 s8 s9 s10 w R) (Jy.eq s0 s1 s2 s3 s4 s5 s6 s7 s8 s9 s10 w) rfl h
def Nq.wp(s0:Int)(s1:Int)(s2:Int)(s3:Int)(s4:Int)(s5:Int)(s6:Int)(s7:Int)(s8:Int)(s9:Int)(s10:Bool)(w:World)(R:TR [(false,[.b])]→WP):Prop:=
Bf [.int .i64 s0,.int .i64 s1,.int .i64 s2,.int .i64 s3,.int .i64 s4,.int .i64 s5,.int .i64 s6,.int .i64 s7,.int .i64 s8,.int .i64 s9,.bool s10] T.jP w fun p1 w2=>
ld1 (.i .i64) p1 w2 fun x3=>
Aj (decide (x3≥0)) (
ld1 (.i .i64) p1 w2 fun x4=>
Aj (decide (x4<64)) (
A8 [(.i .i64),(.i .i64),(.i .i64),(.i .i64)] (p1.add 1) 0 w2 fun x5=>
Ae prog F.Hu [.agg #[.int .i64 x5.1,.int .i64 x5.2.1,.int .i64 x5.2.2.1,.int .i64 x5.2.2.2.1]] w2 false [(false,[.b])] fun r6 w7=>
Aj r6.1.1 (
A8 [(.i .i64),(.i .i64),(.i .i64)] (p1.add 5) 0 w7 fun x8=>
Ae prog F.Ie [.agg #[.int .i64 x8.1,.int .i64 x8.2.1,.int .i64 x8.2.2.1]] w7 false [(false,[.b])] fun r9 w10=>
Aj r9.1.1 (
ld1 (.i .i64) (p1.add 8) w10 fun x11=>
Aj (decide (x11≥1)) (
ld1 (.i .i64) (p1.add 8) w10 fun x12=>
ld1 (.i .i64) (p1.add 1) w10 fun x13=>
Aj (decide (x12≤x13)) (
ld1 (.i .i64) (p1.add 9) w10 fun x14=>
Aj (decide (x14≥0)) (
ld1 (.i .i64) (p1.add 9) w10 fun x15=>
R ((decide (x15≤20),()),()) w10) (
R ((false,()),()) w10)) (
R ((false,()),()) w10)) (
R ((false,()),()) w10)) (
R ((false,()),()) w10)) (
R ((false,()),()) w7)) (
R ((false,()),()) w2)) (
R ((false,()),()) w2)
theorem Nq.eq(s0:Int)(s1:Int)(s2:Int)(s3:Int)(s4:Int)(s5:Int)(s6:Int)(s7:Int)(s8:Int)(s9:Int)(s10:Bool)(w:World)(R:Value→WP):A7 prog Tryz.f96 .n [.agg #[.int .i64 s0,.int .i64 s1,.int .i64 s2,.int .i64 s3,.int .i64 s4,.int .i64 s5,.int .i64 s6,.int .i64 s7,.int .i64 s8,.int .i64 s9,.bool s10]] w R=Nq.wp s0 s1 s2 s3 s4 s5 s6 s7 s8 s9 s10 w (fun r w=>R (encR false [(false,[.b])] r) w):=by kernel_rfl
theorem Nq.ok{s0:Int}{s1:Int}{s2:Int}{s3:Int}{s4:Int}{s5:Int}{s6:Int}{s7:Int}{s8:Int}{s9:Int}{s10:Bool}{w:World}{R:TR [(false,[.b])]→WP}(h:Nq.wp s0 s1 s2 s3 s4 s5 s6 s7 s8 s9 s10 w R):Ae prog F.Nq [.agg #[.int .i64 s0,.int .i64 s1,.int .i64 s2,.int .i64 s3,.int .i64 s4,.int .i64 s5,.int .i64 s6,.int .i64 s7,.int .i64 s8,.int .i64 s9,.bool s10]] w false [(false,[.b])] R:=
  Aop Aa Tryz.func96 (fun R=>Nq.wp s0 s1 s2 s3 s4 s5 s6 s7 s8 s9 s10 w R) (Nq.eq s0 s1 s2 s3 s4 s5 s6 s7 s8 s9 s10 w) rfl h
def Wl.wp(w:World)(R:TR [(false,[.p])]→WP):Prop:=
Ae prog F.Gt [.int .i64 16] w true [(false,[.p]),(false,[(.i .i64)])] fun r1 w2=>
Bf [.pointer r1.1.1,.int .i64 0] T.Aef w2 fun p3 w4=>
R ((some p3,()),()) w4
theorem Wl.eq(w:World)(R:Value→WP):A7 prog Tryz.f97 .n [] w R=Wl.wp w (fun r w=>R (encR false [(false,[.p])] r) w):=by kernel_rfl
theorem Wl.ok{w:World}{R:TR [(false,[.p])]→WP}(h:Wl.wp w R):Ae prog F.Wl [] w false [(false,[.p])] R:=
  Aop Aa Tryz.func97 (fun R=>Wl.wp w R) (Wl.eq w) rfl h
def Xz.wp(drift:Int)(w:World)(R:TR [(false,[.p]),(false,[(.i .i64)])]→WP):Prop:=
Aj (decide (drift<0)) (
R ((none,()),(1,()),()) w) (
Aj (decide (drift>10)) (
R ((none,()),(1,()),()) w) (
Bf [.int .i64 drift,.int .u32 0,.int .i64 0] T.Acm w fun p1 w2=>
R ((some p1,()),(0,()),()) w2))
theorem Xz.eq(drift:Int)(w:World)(R:Value→WP):A7 prog Tryz.f98 .n [.int .i64 drift] w R=Xz.wp drift w (fun r w=>R (encR true [(false,[.p]),(false,[(.i .i64)])] r) w):=by kernel_rfl
theorem Xz.ok{drift:Int}{w:World}{R:TR [(false,[.p]),(false,[(.i .i64)])]→WP}(h:Xz.wp drift w R):Ae prog F.Xz [.int .i64 drift] w true [(false,[.p]),(false,[(.i .i64)])] R:=
  Aop Aa Tryz.func98 (fun R=>Xz.wp drift w R) (Xz.eq drift w) rfl h
def Ui.wp(me:Int)(r0:Int)(r1:Int)(r2:Int)(r3:Int)(w:World)(R:TR [(false,[.p]),(false,[(.i .i64)])]→WP):Prop:=
Bf [.int .i64 r0,.int .i64 r1,.int .i64 r2,.int .i64 r3] T.fQ w fun p1 w2=>
A8 [(.i .i64),(.i .i64),(.i .i64),(.i .i64)] p1 0 w2 fun x3=>
Ae prog F.Hu [.agg #[.int .i64 x3.1,.int .i64 x3.2.1,.int .i64 x3.2.2.1,.int .i64 x3.2.2.2.1]] w2 false [(false,[.b])] fun r4 w5=>
Aj (!r4.1.1) (
R ((none,()),(1,()),()) w5) (
A8 [(.i .i64),(.i .i64)] p1 0 w5 fun x6=>
Ae prog F.Wv [.int .i64 me,.agg #[.int .i64 x6.1,.int .i64 x6.2.1]] w5 true [(false,[.p]),(false,[(.i .i64)])] fun r7 w8=>
Aj (r7.2.1.1 !=0) (
R ((none,()),(r7.2.1.1,()),()) w8) (
A8 [(.i .i64),(.i .i64),(.i .i64),(.i .i64)] p1 0 w8 fun x9=>
Bf [.pointer r7.1.1,.int .i64 me,.int .i64 x9.1,.int .i64 x9.2.1,.int .i64 x9.2.2.1,.int .i64 x9.2.2.2.1,.slice none 0 0,.int .i64 0,.int .i64 0,.int .i64 0] T.Aaa w8 fun p10 w11=>
R ((some p10,()),(0,()),()) w11))
theorem Ui.eq(me:Int)(r0:Int)(r1:Int)(r2:Int)(r3:Int)(w:World)(R:Value→WP):A7 prog Tryz.f99 .n [.int .i64 me,.agg #[.int .i64 r0,.int .i64 r1,.int .i64 r2,.int .i64 r3]] w R=Ui.wp me r0 r1 r2 r3 w (fun r w=>R (encR true [(false,[.p]),(false,[(.i .i64)])] r) w):=by kernel_rfl
theorem Ui.ok{me:Int}{r0:Int}{r1:Int}{r2:Int}{r3:Int}{w:World}{R:TR [(false,[.p]),(false,[(.i .i64)])]→WP}(h:Ui.wp me r0 r1 r2 r3 w R):Ae prog F.Ui [.int .i64 me,.agg #[.int .i64 r0,.int .i64 r1,.int .i64 r2,.int .i64 r3]] w true [(false,[.p]),(false,[(.i .i64)])] R:=
  Aop Aa Tryz.func99 (fun R=>Ui.wp me r0 r1 r2 r3 w R) (Ui.eq me r0 r1 r2 r3 w) rfl h
def Wp.wp(me:Int)(w:World)(R:TR [(false,[.p]),(false,[(.i .i64)])]→WP):Prop:=
Aj (decide (me<0)) (
R ((none,()),(1,()),()) w) (
Aj (decide (me≥64)) (
R ((none,()),(1,()),()) w) (
Bf [.int .i64 me,.int .i64 (Int.negSucc 0),.int .i64 (Int.negSucc 0)] T.Aao w fun p1 w2=>
R ((some p1,()),(0,()),()) w2))
theorem Wp.eq(me:Int)(w:World)(R:Value→WP):A7 prog Tryz.f100 .n [.int .i64 me] w R=Wp.wp me w (fun r w=>R (encR true [(false,[.p]),(false,[(.i .i64)])] r) w):=by kernel_rfl
theorem Wp.ok{me:Int}{w:World}{R:TR [(false,[.p]),(false,[(.i .i64)])]→WP}(h:Wp.wp me w R):Ae prog F.Wp [.int .i64 me] w true [(false,[.p]),(false,[(.i .i64)])] R:=
  Aop Aa Tryz.func100 (fun R=>Wp.wp me w R) (Wp.eq me w) rfl h
def Xq.wp(me:Int)(w:World)(R:TR [(false,[.p]),(false,[(.i .i64)])]→WP):Prop:=
Aj (decide (me<0)) (
R ((none,()),(1,()),()) w) (
Aj (decide (me≥64)) (
R ((none,()),(1,()),()) w) (
Bf [.int .i64 me,.int .i64 0,.int .i64 0,.bool false,.int .i64 0,.int .i64 0,.int .i64 0] T.Ad3 w fun p1 w2=>
R ((some p1,()),(0,()),()) w2))
theorem Xq.eq(me:Int)(w:World)(R:Value→WP):A7 prog Tryz.f101 .n [.int .i64 me] w R=Xq.wp me w (fun r w=>R (encR true [(false,[.p]),(false,[(.i .i64)])] r) w):=by kernel_rfl
theorem Xq.ok{me:Int}{w:World}{R:TR [(false,[.p]),(false,[(.i .i64)])]→WP}(h:Xq.wp me w R):Ae prog F.Xq [.int .i64 me] w true [(false,[.p]),(false,[(.i .i64)])] R:=
  Aop Aa Tryz.func101 (fun R=>Xq.wp me w R) (Xq.eq me w) rfl h
def Vm.wp(limit:Int)(w:World)(R:TR [(false,[.p]),(false,[(.i .i64)])]→WP):Prop:=
Aj (decide (limit<1)) (
R ((none,()),(1,()),()) w) (
Aj (decide (limit>1000)) (
R ((none,()),(1,()),()) w) (
Bf [.int .i64 limit,.int .i64 0,.int .i64 0,.int .i64 0,.int .i64 0,.int .u16 0,.int .i64 0,.bool false] T.uJ w fun p1 w2=>
R ((some p1,()),(0,()),()) w2))
theorem Vm.eq(limit:Int)(w:World)(R:Value→WP):A7 prog Tryz.f102 .n [.int .i64 limit] w R=Vm.wp limit w (fun r w=>R (encR true [(false,[.p]),(false,[(.i .i64)])] r) w):=by kernel_rfl
theorem Vm.ok{limit:Int}{w:World}{R:TR [(false,[.p]),(false,[(.i .i64)])]→WP}(h:Vm.wp limit w R):Ae prog F.Vm [.int .i64 limit] w true [(false,[.p]),(false,[(.i .i64)])] R:=
  Aop Aa Tryz.func102 (fun R=>Vm.wp limit w R) (Vm.eq limit w) rfl h
def Jc.wp(room:Int)(w:World)(R:TR [(false,[.p]),(false,[(.i .i64)])]→WP):Prop:=
Aj (decide (room<1)) (
R ((none,()),(1,()),()) w) (
Aj (decide (room>64)) (
R ((none,()),(1,()),()) w) (
L9 ((Instr.makeSlice T.Zh (.int .i64 room) (.int .i64 room)).run prog w) fun y1 w2=>
Bf [.slice y1.1 y1.2.1 y1.2.2,.int .i64 0,.int .i64 0] T.jJ w2 fun p3 w4=>
R ((some p3,()),(0,()),()) w4))
theorem Jc.eq(room:Int)(w:World)(R:Value→WP):A7 prog Tryz.f103 .n [.int .i64 room] w R=Jc.wp room w (fun r w=>R (encR true [(false,[.p]),(false,[(.i .i64)])] r) w):=by kernel_rfl
theorem Jc.ok{room:Int}{w:World}{R:TR [(false,[.p]),(false,[(.i .i64)])]→WP}(h:Jc.wp room w R):Ae prog F.Jc [.int .i64 room] w true [(false,[.p]),(false,[(.i .i64)])] R:=
  Aop Aa Tryz.func103 (fun R=>Jc.wp room w R) (Jc.eq room w) rfl h
def Ez.wp(c:Option Addr)(w:World)(R:TR [(false,[(.i .i64)])]→WP):Prop:=
Aj (Option.isNone c) (
R ((0,()),()) w) (
Aq c fun a1=>
ld1 (.i .i64) (a1.add 2) w fun x2=>
R ((x2,()),()) w)
theorem Ez.eq(c:Option Addr)(w:World)(R:Value→WP):A7 prog Tryz.f104 .n [.pointer c] w R=Ez.wp c w (fun r w=>R (encR false [(false,[(.i .i64)])] r) w):=by kernel_rfl
theorem Ez.ok{c:Option Addr}{w:World}{R:TR [(false,[(.i .i64)])]→WP}(h:Ez.wp c w R):Ae prog F.Ez [.pointer c] w false [(false,[(.i .i64)])] R:=
  Aop Aa Tryz.func104 (fun R=>Ez.wp c w R) (Ez.eq c w) rfl h
def Dc.wp(e:Option Addr)(w:World)(R:TR [(false,[(.i .i64)])]→WP):Prop:=
Aj (Option.isNone e) (
R (((Int.negSucc 0),()),()) w) (
Aq e fun a1=>
ld1 (.i .i64) (a1.add 5) w fun x2=>
R ((x2,()),()) w)
theorem Dc.eq(e:Option Addr)(w:World)(R:Value→WP):A7 prog Tryz.f105 .n [.pointer e] w R=Dc.wp e w (fun r w=>R (encR false [(false,[(.i .i64)])] r) w):=by kernel_rfl
theorem Dc.ok{e:Option Addr}{w:World}{R:TR [(false,[(.i .i64)])]→WP}(h:Dc.wp e w R):Ae prog F.Dc [.pointer e] w false [(false,[(.i .i64)])] R:=
  Aop Aa Tryz.func105 (fun R=>Dc.wp e w R) (Dc.eq e w) rfl h
def Bc.wp(e:Option Addr)(w:World)(R:TR [(false,[.b])]→WP):Prop:=
Jg w fun w1=>
Aj (!(Option.isNone e)) (
Aq e fun a2=>
ld1 (.i .i64) (a2.add 5) w1 fun x3=>
Aq e fun a4=>
ld1 (.i .i64) a4 w1 fun x5=>
R (((x3==x5),()),()) w1) (
R ((false,()),()) w1)
theorem Bc.eq(e:Option Addr)(w:World)(R:Value→WP):A7 prog Tryz.f106 (.s .n (.s (.pl (.tk 0 (.tk 1 (.tk 2 (.tk 3 (.tk 4 (.tk 5 (.tk 6 (.tk 7 (.tk 8 (.tk 9 (.tk 10 (.tk 11 (.tk 12 (.tk 13 .z))))))))))))))) .n)) [.pointer e] w R=Bc.wp e w (fun r w=>R (encR false [(false,[.b])] r) w):=by kernel_rfl
theorem Bc.ok{e:Option Addr}{w:World}{R:TR [(false,[.b])]→WP}(h:Bc.wp e w R):Ae prog F.Bc [.pointer e] w false [(false,[.b])] R:=
  Aop Aa Tryz.func106 (fun R=>Bc.wp e w R) (Bc.eq e w) rfl h
def Ba.wp(f:Option Addr)(w:World)(R:TR [(false,[.b])]→WP):Prop:=
Jg w fun w1=>
Aj (!(Option.isNone f)) (
Aq f fun a2=>
ld1 .p a2 w1 fun x3=>
Ae prog F.Bc [.pointer x3] w1 false [(false,[.b])] fun r4 w5=>
Aw [(6,a2,(w1.cell? a2).getD undef)] w5∧(
Aj r4.1.1 (
R ((true,()),()) w5) (
Aq f fun a6=>
Aq f fun a7=>
ld1 (.i .i64) ((a7.add 2).add 2) w5 fun x8=>
Ae prog F.Dk [.pointer (some (a6.add 6))] w5 false [(false,[(.i .i64)])] fun r9 w10=>
Aw [(17,((a7.add 2).add 2),(w5.cell? ((a7.add 2).add 2)).getD undef),(6,a2,(w1.cell? a2).getD undef)] w10∧(
R ((decide (r9.1.1≥x8),()),()) w10)))) (
R ((false,()),()) w1)
theorem Ba.eq(f:Option Addr)(w:World)(R:Value→WP):A7 prog Tryz.f107 (.s .n (.s (.pl (.tk 0 (.tk 1 (.tk 2 (.tk 3 (.tk 4 (.tk 5 (.tk 6 (.ef 7 [] (.tk 8 (.tk 9 (.tk 10 (.tk 11 (.tk 13 (.tk 14 (.tk 15 (.tk 16 (.tk 17 (.ef 12 [] (.tk 18 (.tk 19 (.tk 20 (.tk 21 .z))))))))))))))))))))))) .n)) [.pointer f] w R=Ba.wp f w (fun r w=>R (encR false [(false,[.b])] r) w):=by kernel_rfl
theorem Ba.ok{f:Option Addr}{w:World}{R:TR [(false,[.b])]→WP}(h:Ba.wp f w R):Ae prog F.Ba [.pointer f] w false [(false,[.b])] R:=
  Aop Aa Tryz.func107 (fun R=>Ba.wp f w R) (Ba.eq f w) rfl h
def Hg.wp(f:Option Addr)(w:World)(R:TR [(false,[(.i .i64)])]→WP):Prop:=
Aj (Option.isNone f) (
R ((0,()),()) w) (
Aq f fun a1=>
Ae prog F.Dk [.pointer (some (a1.add 6))] w false [(false,[(.i .i64)])] fun r2 w3=>
R ((r2.1.1,()),()) w3)
theorem Hg.eq(f:Option Addr)(w:World)(R:Value→WP):A7 prog Tryz.f108 .n [.pointer f] w R=Hg.wp f w (fun r w=>R (encR false [(false,[(.i .i64)])] r) w):=by kernel_rfl
theorem Hg.ok{f:Option Addr}{w:World}{R:TR [(false,[(.i .i64)])]→WP}(h:Hg.wp f w R):Ae prog F.Hg [.pointer f] w false [(false,[(.i .i64)])] R:=
  Aop Aa Tryz.func108 (fun R=>Hg.wp f w R) (Hg.eq f w) rfl h
def Ja.wp(l:Option Addr)(w:World)(R:TR [(false,[(.i .i64)])]→WP):Prop:=
Aj (Option.isNone l) (
R (((Int.negSucc 0),()),()) w) (
Aq l fun a1=>
ld1 (.i .i64) (a1.add 1) w fun x2=>
R ((x2,()),()) w)
theorem Ja.eq(l:Option Addr)(w:World)(R:Value→WP):A7 prog Tryz.f109 .n [.pointer l] w R=Ja.wp l w (fun r w=>R (encR false [(false,[(.i .i64)])] r) w):=by kernel_rfl
theorem Ja.ok{l:Option Addr}{w:World}{R:TR [(false,[(.i .i64)])]→WP}(h:Ja.wp l w R):Ae prog F.Ja [.pointer l] w false [(false,[(.i .i64)])] R:=
  Aop Aa Tryz.func109 (fun R=>Ja.wp l w R) (Ja.eq l w) rfl h
def En.wp(l:Option Addr)(w:World)(R:TR [(false,[(.i .i64)])]→WP):Prop:=
Aj (Option.isNone l) (
R (((Int.negSucc 0),()),()) w) (
Aq l fun a1=>
ld1 (.i .i64) (a1.add 2) w fun x2=>
R ((x2,()),()) w)
theorem En.eq(l:Option Addr)(w:World)(R:Value→WP):A7 prog Tryz.f110 .n [.pointer l] w R=En.wp l w (fun r w=>R (encR false [(false,[(.i .i64)])] r) w):=by kernel_rfl
theorem En.ok{l:Option Addr}{w:World}{R:TR [(false,[(.i .i64)])]→WP}(h:En.wp l w R):Ae prog F.En [.pointer l] w false [(false,[(.i .i64)])] R:=
  Aop Aa Tryz.func110 (fun R=>En.wp l w R) (En.eq l w) rfl h
def Nv.wp(p:Option Addr)(w:World)(R:TR [(false,[.b])]→WP):Prop:=
Aj (!(Option.isNone p)) (
Aq p fun a1=>
ld1 .b (a1.add 3) w fun x2=>
R ((x2,()),()) w) (
R ((false,()),()) w)
theorem Nv.eq(p:Option Addr)(w:World)(R:Value→WP):A7 prog Tryz.f111 .n [.pointer p] w R=Nv.wp p w (fun r w=>R (encR false [(false,[.b])] r) w):=by kernel_rfl
theorem Nv.ok{p:Option Addr}{w:World}{R:TR [(false,[.b])]→WP}(h:Nv.wp p w R):Ae prog F.Nv [.pointer p] w false [(false,[.b])] R:=
  Aop Aa Tryz.func111 (fun R=>Nv.wp p w R) (Nv.eq p w) rfl h
def Di.wp(r:Option Addr)(w:World)(R:TR [(false,[(.i .i64)])]→WP):Prop:=
Aj (Option.isNone r) (
R ((0,()),()) w) (
Aq r fun a1=>
ld1 (.i .i64) (a1.add 2) w fun x2=>
R ((x2,()),()) w)
theorem Di.eq(r:Option Addr)(w:World)(R:Value→WP):A7 prog Tryz.f112 .n [.pointer r] w R=Di.wp r w (fun r w=>R (encR false [(false,[(.i .i64)])] r) w):=by kernel_rfl
theorem Di.ok{r:Option Addr}{w:World}{R:TR [(false,[(.i .i64)])]→WP}(h:Di.wp r w R):Ae prog F.Di [.pointer r] w false [(false,[(.i .i64)])] R:=
  Aop Aa Tryz.func112 (fun R=>Di.wp r w R) (Di.eq r w) rfl h
def Qh.wp(l:Option Addr)(w:World)(R:TR [(false,[(.i .i64)])]→WP):Prop:=
Aj (Option.isNone l) (
R ((0,()),()) w) (
Aq l fun a1=>
ld1 .p a1 w fun x2=>
Ae prog F.Dj [.pointer x2] w false [(false,[(.i .i64)])] fun r3 w4=>
R ((r3.1.1,()),()) w4)
theorem Qh.eq(l:Option Addr)(w:World)(R:Value→WP):A7 prog Tryz.f113 .n [.pointer l] w R=Qh.wp l w (fun r w=>R (encR false [(false,[(.i .i64)])] r) w):=by kernel_rfl
theorem Qh.ok{l:Option Addr}{w:World}{R:TR [(false,[(.i .i64)])]→WP}(h:Qh.wp l w R):Ae prog F.Qh [.pointer l] w false [(false,[(.i .i64)])] R:=
  Aop Aa Tryz.func113 (fun R=>Qh.wp l w R) (Qh.eq l w) rfl h
def Cm.wp(n:Option Addr)(w:World)(R:TR [(false,[(.i .i64)])]→WP):Prop:=
Aj (Option.isNone n) (
R ((2,()),()) w) (
Aq n fun a1=>
ld1 .b (a1.add 12) w fun x2=>
Aj (!x2) (
R ((10,()),()) w) (
R ((0,()),()) w))
theorem Cm.eq(n:Option Addr)(w:World)(R:Value→WP):A7 prog Tryz.f114 .n [.pointer n] w R=Cm.wp n w (fun r w=>R (encR false [(false,[(.i .i64)])] r) w):=by kernel_rfl
theorem Cm.ok{n:Option Addr}{w:World}{R:TR [(false,[(.i .i64)])]→WP}(h:Cm.wp n w R):Ae prog F.Cm [.pointer n] w false [(false,[(.i .i64)])] R:=
  Aop Aa Tryz.func114 (fun R=>Cm.wp n w R) (Cm.eq n w) rfl h
def Hl.wp(e:Option Addr)(w:World)(R:TR [(true,[(.i .u16),(.i .u16)]),(false,[.b])]→WP):Prop:=
Bf [.int .u16 0,.int .u16 0] T.Ti w fun p1 w2=>
Cc (fun(J3:((Bool)×Unit)→WP)=>
Aj (Option.isNone e) (
J3 (true,()) w2) (
Aq e fun a6=>
ld1 (.i .i64) (a6.add 5) w2 fun x7=>
J3 (decide (x7<0),()) w2)) (fun(z4:(Bool)×Unit) w5=> ∀_:Nat→Value,
Aj z4.1 (
Au [.int .u16 0,.int .u16 0] p1 0 w5 fun w8=>
A8 [(.i .u16),(.i .u16)] p1 0 w8 fun x9=>
R ((x9.1,x9.2.1,()),(false,()),()) w8) (
Ae prog F.Bc [.pointer e] w5 false [(false,[.b])] fun r10 w11=>
Aj r10.1.1 (
Jg w11 fun w12=>
Aq e fun a13=>
ld1 (.i .u16) (a13.add 3) w12 fun x14=>
Aq e fun a15=>
ld1 (.i .u16) (a15.add 4) w12 fun x16=>
Aq e fun a17=>
ld1 (.i .u16) (a17.add 4) w12 fun x18=>
Au [.int .u16 x14,.int .u16 x16] p1 0 w12 fun w19=>
Aw [(12,(a17.add 4),(w12.cell? (a17.add 4)).getD undef)] w19∧(
A8 [(.i .u16),(.i .u16)] p1 0 w19 fun x20=>
R ((x20.1,x20.2.1,()),(decide (x18>0),()),()) w19)) (
Jg w11 fun w21=>
Aq e fun a22=>
ld1 .m (a22.add 8) w21 fun x23=>
Aq e fun a24=>
ld1 (.i .i64) (a24.add 5) w21 fun x25=>
lkP prog T.Ku (.map x23) (.int .i64 x25) w21 true [(.i .u16),(.i .u16)] fun x26=>
Aw [] w21∧(
Au [.int .u16 x26.1,.int .u16 x26.2.1] p1 0 w21 fun w27=>
Aw [] w27∧(
A8 [(.i .u16),(.i .u16)] p1 0 w27 fun x28=>
R ((x28.1,x28.2.1,()),(true,()),()) w27)))))
theorem Hl.eq(e:Option Addr)(w:World)(R:Value→WP):A7 prog Tryz.f115 (.s .n (.s (.ct [(4,.b)] .n (.s .n (.s .n (.s (.s (.pl (.tk 0 (.tk 1 (.tk 2 (.tk 3 (.tk 4 (.tk 5 (.tk 6 (.tk 7 (.tk 8 (.tk 9 (.tk 10 (.tk 11 (.tk 12 (.tk 13 (.ef 14 [3,7] (.tk 15 .z))))))))))))))))) .n) .n)))) (.s (.pl (.tk 0 (.tk 1 (.tk 2 (.tk 3 (.tk 4 (.tk 5 (.tk 6 (.tk 7 (.ef 8 [3,7] (.ef 9 [] (.tk 10 .z)))))))))))) .n))) [.pointer e] w R=Hl.wp e w (fun r w=>R (encR true [(true,[(.i .u16),(.i .u16)]),(false,[.b])] r) w):=by kernel_rfl
theorem Hl.ok{e:Option Addr}{w:World}{R:TR [(true,[(.i .u16),(.i .u16)]),(false,[.b])]→WP}(h:Hl.wp e w R):Ae prog F.Hl [.pointer e] w true [(true,[(.i .u16),(.i .u16)]),(false,[.b])] R:=
  Aop Aa Tryz.func115 (fun R=>Hl.wp e w R) (Hl.eq e w) rfl h
def Ec.wp(l:Option Addr)(i:Int)(k:Int)(w:World)(R:TR [(false,[.b])]→WP):Prop:=
Ae prog F.Be [.pointer l,.int .i64 i] w false [(false,[.b])] fun r1 w2=>
Aj r1.1.1 (
Ae prog F.Be [.pointer l,.int .i64 k] w2 false [(false,[.b])] fun r3 w4=>
Aj r3.1.1 (
R (((i !=k),()),()) w4) (
R ((false,()),()) w4)) (
R ((false,()),()) w2)
theorem Ec.eq(l:Option Addr)(i:Int)(k:Int)(w:World)(R:Value→WP):A7 prog Tryz.f116 .n [.pointer l,.int .i64 i,.int .i64 k] w R=Ec.wp l i k w (fun r w=>R (encR false [(false,[.b])] r) w):=by kernel_rfl
theorem Ec.ok{l:Option Addr}{i:Int}{k:Int}{w:World}{R:TR [(false,[.b])]→WP}(h:Ec.wp l i k w R):Ae prog F.Ec [.pointer l,.int .i64 i,.int .i64 k] w false [(false,[.b])] R:=
  Aop Aa Tryz.func116 (fun R=>Ec.wp l i k w R) (Ec.eq l i k w) rfl h
def Ff.wp(n:Option Addr)(list:Option Addr×Nat×Nat)(w:World)(R:TR [(false,[.b])]→WP):Prop:=
Aq n fun a1=>
ld1 .sl (a1.add 12) w fun x2=>
Aj ((list.2.1:Int) !=(x2.2.1:Int)) (
R ((false,()),()) w) (
Ci (fun(self3:((Int)×Unit)→WP) (z4:(Int)×Unit) w5=> ∀_:Nat→Value,
Aj (decide (z4.1<(list.2.1:Int))) (
Ny list.1 list.2.1 z4.1 fun a6=>
ld1 (.i .i64) (a6.add (z4.1.toNat*1)) w5 fun x7=>
Aq n fun a8=>
ld1 (.i .i64) (a8.add 8) w5 fun x9=>
Aj (decide (x7<(wrap .i64 (0-x9)))) (
R ((false,()),()) w5) (
Aq n fun a10=>
ld1 (.i .i64) (a10.add 8) w5 fun x11=>
Aj (decide (x7>x11)) (
R ((false,()),()) w5) (
self3 (wrap .i64 (z4.1+1),()) w5))) (
R ((true,()),()) w5)) (0,()) w)
theorem Ff.eq(n:Option Addr)(list:Option Addr×Nat×Nat)(w:World)(R:Value→WP):A7 prog Tryz.f117 (.s .n (.s .n (.s (.s .n (.lp [(17,(.i .i64))] .n)) .n))) [.pointer n,.slice list.1 list.2.1 list.2.2] w R=Ff.wp n list w (fun r w=>R (encR false [(false,[.b])] r) w):=by kernel_rfl
theorem Ff.ok{n:Option Addr}{list:Option Addr×Nat×Nat}{w:World}{R:TR [(false,[.b])]→WP}(h:Ff.wp n list w R):Ae prog F.Ff [.pointer n,.slice list.1 list.2.1 list.2.2] w false [(false,[.b])] R:=
  Aop Aa Tryz.func117 (fun R=>Ff.wp n list w R) (Ff.eq n list w) rfl h
def Sm.wp(n:Option Addr)(ticks:Int)(w:World)(R:TR [(false,[.b])]→WP):Prop:=
Aj (!(Option.isNone n)) (
Aq n fun a1=>
ld1 .p (a1.add 14) w fun x2=>
Ae prog F.Iq [.pointer x2,.int .i64 ticks] w false [(false,[.b])] fun r3 w4=>
R ((r3.1.1,()),()) w4) (
R ((false,()),()) w)
theorem Sm.eq(n:Option Addr)(ticks:Int)(w:World)(R:Value→WP):A7 prog Tryz.f118 .n [.pointer n,.int .i64 ticks] w R=Sm.wp n ticks w (fun r w=>R (encR false [(false,[.b])] r) w):=by kernel_rfl
theorem Sm.ok{n:Option Addr}{ticks:Int}{w:World}{R:TR [(false,[.b])]→WP}(h:Sm.wp n ticks w R):Ae prog F.Sm [.pointer n,.int .i64 ticks] w false [(false,[.b])] R:=
  Aop Aa Tryz.func118 (fun R=>Sm.wp n ticks w R) (Sm.eq n ticks w) rfl h
def Qd.wp(c:Option Addr)(ticks:Int)(w:World)(R:TR [(false,[(.i .i64)])]→WP):Prop:=
Aj (Option.isNone c) (
R ((2,()),()) w) (
Ae prog F.Iq [.pointer c,.int .i64 ticks] w false [(false,[.b])] fun r1 w2=>
Aj (!r1.1.1) (
R ((1,()),()) w2) (
Jg w2 fun w3=>
Aq c fun a4=>
ld1 (.i .i64) (a4.add 2) w3 fun x5=>
Aq c fun a6=>
ld1 (.i .u32) (a6.add 1) w3 fun x7=>
Ae prog F.Ug [.int .i64 x5,.int .u32 (wrap .u32 (x7+(wrap .u32 ticks)))] w3 true [(false,[(.i .i64)]),(false,[.b])] fun r8 w9=>
Aw [(7,(a6.add 1),(w3.cell? (a6.add 1)).getD undef)] w9∧(
Aj (!r8.2.1.1) (
R ((8,()),()) w9) (
Aq c fun a10=>
ld1 (.i .u32) (a10.add 1) w9 fun x11=>
Aq c fun a12=>
Au [.int .u32 (wrap .u32 (x11+(wrap .u32 ticks)))] (a12.add 1) 0 w9 fun w13=>
Aq c fun a14=>
Au [.int .i64 r8.1.1] (a14.add 2) 0 w13 fun w15=>
R ((0,()),()) w15))))
theorem Qd.eq(c:Option Addr)(ticks:Int)(w:World)(R:Value→WP):A7 prog Tryz.f119 (.s .n (.s .n (.s (.pl (.tk 0 (.tk 1 (.tk 2 (.tk 3 (.tk 4 (.tk 5 (.tk 6 (.tk 7 (.tk 8 (.tk 9 (.tk 10 (.ef 11 [3] (.tk 12 (.tk 13 (.tk 14 (.tk 15 (.tk 16 .z)))))))))))))))))) .n))) [.pointer c,.int .i64 ticks] w R=Qd.wp c ticks w (fun r w=>R (encR false [(false,[(.i .i64)])] r) w):=by kernel_rfl
theorem Qd.ok{c:Option Addr}{ticks:Int}{w:World}{R:TR [(false,[(.i .i64)])]→WP}(h:Qd.wp c ticks w R):Ae prog F.Qd [.pointer c,.int .i64 ticks] w false [(false,[(.i .i64)])] R:=
  Aop Aa Tryz.func119 (fun R=>Qd.wp c ticks w R) (Qd.eq c ticks w) rfl h
def Hy.wp(n:Option Addr)(step:Int)(jitter:Int)(w:World)(R:TR [(false,[.sl]),(false,[(.i .i64)])]→WP):Prop:=
Ae prog F.Iu [.pointer n,.int .i64 jitter] w true [(false,[(.i .i64)]),(false,[(.i .i64)])] fun r1 w2=>
Aj (r1.2.1.1 !=0) (
R (((none,0,0),()),(r1.2.1.1,()),()) w2) (
Aq n fun a3=>
A8 [(.i .i64),(.i .i64),(.i .i64)] (a3.add 5) 0 w2 fun x4=>
Ae prog F.Om [.agg #[.int .i64 x4.1,.int .i64 x4.2.1,.int .i64 x4.2.2.1],.int .i64 step] w2 false [(false,[.b])] fun r5 w6=>
Aj (!r5.1.1) (
R (((none,0,0),()),(r1.2.1.1,()),()) w6) (
Bf [.slice none 0 0] T.Ah2 w6 fun p7 w8=>
Aq n fun a9=>
ld1 .p (a9.add 15) w8 fun x10=>
Ae prog F.Kt [.pointer x10,.int .i64 r1.1.1] w8 true [(true,[(.i .i64),(.i .i64),(.i .u16),(.i .u16),(.i .i64),(.i .i64)]),(false,[.b])] fun r11 w12=>
Bf [.int .i64 0,.int .i64 0,.int .u16 0,.int .u16 0,.int .i64 0,.int .i64 0] T.Dy w12 fun p13 w14=>
Au [.int .i64 r11.1.1,.int .i64 r11.1.2.1,.int .u16 r11.1.2.2.1,.int .u16 r11.1.2.2.2.1,.int .i64 r11.1.2.2.2.2.1,.int .i64 r11.1.2.2.2.2.2.1] p13 0 w14 fun w15=>
Aq n fun a16=>
ld1 .p (a16.add 18) w15 fun x17=>
Ae prog F.Eo [.pointer x17] w15 true [] fun r18 w19=>
Cc (fun(J20:Unit→WP)=>
Aq n fun a23=>
ld1 .p (a23.add 17) w19 fun x24=>
Ae prog F.Hz [.pointer x24] w19 false [(false,[.b])] fun r25 w26=>
Aj r25.1.1 (
Aq n fun a27=>
ld1 .p (a27.add 16) w26 fun x28=>
Ae prog F.Gf [.pointer x28] w26 true [] fun r29 w30=>
J20 (()) w30) (
J20 (()) w26)) (fun(z21:Unit) w22=> ∀_:Nat→Value,
A8 [(.i .i64),(.i .i64),(.i .u16),(.i .u16),(.i .i64),(.i .i64)] p13 0 w22 fun x31=>
Ae prog F.Jh [.pointer (some p7),.iface T.Dy (.agg #[.int .i64 x31.1,.int .i64 x31.2.1,.int .u16 x31.2.2.1,.int .u16 x31.2.2.2.1,.int .i64 x31.2.2.2.2.1,.int .i64 x31.2.2.2.2.2.1]),.bool r11.2.1.1] w22 true [] fun r32 w33=>
Cc (fun(J34:Unit→WP)=>
Ci (fun(self37:Unit→WP) (z38:Unit) w39=> ∀_:Nat→Value,
ld1 .sl p7 w39 fun x40=>
Aj (decide ((x40.2.1:Int)<3)) (
Aq n fun a41=>
ld1 .p (a41.add 27) w39 fun x42=>
Ae prog F.Fq [.pointer x42] w39 true [(false,[.any]),(false,[.b])] fun r43 w44=>
Aj (!r43.2.1.1) (
J34 (()) w44) (
vY prog r43.1.1 "angelus/node.made" [.pointer n,.int .i64 r1.1.1] w44 true [(false,[.any]),(false,[.b])] fun r45 w46=>
Ae prog F.Jh [.pointer (some p7),r45.1.1,.bool r45.2.1.1] w46 true [] fun r47 w48=>
self37 (()) w48)) (
J34 (()) w39)) (()) w33) (fun(z35:Unit) w36=> ∀_:Nat→Value,
Cc (fun(J49:((Bool)×Unit)→WP)=>
Aq n fun a52=>
ld1 .p (a52.add 15) w36 fun x53=>
Ae prog F.Ba [.pointer x53] w36 false [(false,[.b])] fun r54 w55=>
Aj (!r54.1.1) (
ld1 .sl p7 w55 fun x56=>
J49 (decide ((x56.2.1:Int)<3),()) w55) (
J49 (false,()) w55)) (fun(z50:(Bool)×Unit) w51=> ∀_:Nat→Value,
Aj z50.1 (
Ae prog F.Oz [.pointer n,.int .i64 r1.1.1] w51 true [(false,[.any]),(false,[.b])] fun r57 w58=>
Ae prog F.Jh [.pointer (some p7),r57.1.1,.bool r57.2.1.1] w58 true [] fun r59 w60=>
ld1 .sl p7 w60 fun x61=>
R (((x61.1,x61.2.1,x61.2.2),()),(0,()),()) w60) (
ld1 .sl p7 w51 fun x62=>
R (((x62.1,x62.2.1,x62.2.2),()),(0,()),()) w51))))))
theorem Hy.eq(n:Option Addr)(step:Int)(jitter:Int)(w:World)(R:Value→WP):A7 prog Tryz.f120 (.s .n (.s .n (.s .n (.s .n (.s .n (.s .n (.ct [] .n (.s .n (.ct [] (.lp [] .n) (.s (.ct [(94,.b)] .n .n) .n)))))))))) [.pointer n,.int .i64 step,.int .i64 jitter] w R=Hy.wp n step jitter w (fun r w=>R (encR true [(false,[.sl]),(false,[(.i .i64)])] r) w):=by kernel_rfl
theorem Hy.ok{n:Option Addr}{step:Int}{jitter:Int}{w:World}{R:TR [(false,[.sl]),(false,[(.i .i64)])]→WP}(h:Hy.wp n step jitter w R):Ae prog F.Hy [.pointer n,.int .i64 step,.int .i64 jitter] w true [(false,[.sl]),(false,[(.i .i64)])] R:=
  Aop Aa Tryz.func120 (fun R=>Hy.wp n step jitter w R) (Hy.eq n step jitter w) rfl h
def Bq.wp(l:Option Addr)(w:World)(R:TR [(false,[(.i .i64)])]→WP):Prop:=
Aj (Option.isNone l) (
R ((0,()),()) w) (
Aq l fun a1=>
ld1 (.i .i64) a1 w fun x2=>
R ((x2,()),()) w)
theorem Bq.eq(l:Option Addr)(w:World)(R:Value→WP):A7 prog Tryz.f121 .n [.pointer l] w R=Bq.wp l w (fun r w=>R (encR false [(false,[(.i .i64)])] r) w):=by kernel_rfl
theorem Bq.ok{l:Option Addr}{w:World}{R:TR [(false,[(.i .i64)])]→WP}(h:Bq.wp l w R):Ae prog F.Bq [.pointer l] w false [(false,[(.i .i64)])] R:=
  Aop Aa Tryz.func121 (fun R=>Bq.wp l w R) (Bq.eq l w) rfl h
def Gy.wp(a0:Int)(a1:Int)(a2:Option Addr×Nat×Nat)(i:Int)(near:Int)(w:World)(R:TR [(true,[(.i .i64),(.i .i64)])]→WP):Prop:=
Bf [.int .u64 a0,.int .u64 a1,.slice a2.1 a2.2.1 a2.2.2] T.aY w fun p1 w2=>
Bf [.int .i64 0,.int .i64 0] T.Me w2 fun p3 w4=>
Aj (near==0) (
Au [.int .i64 (Int.negSucc 0),.int .i64 0] p3 0 w4 fun w5=>
A8 [(.i .i64),(.i .i64)] p3 0 w5 fun x6=>
R ((x6.1,x6.2.1,()),()) w5) (
Cc (fun(J7:((Int)×Unit)→WP)=>
Aj ((Lm .and .u64 near (wrap .u64 (near-1)))==0) (
Ae prog F.bits_TrailingZeros64 [.int .u64 near] w4 false [(false,[(.i .i64)])] fun r10 w11=>
J7 (r10.1.1,()) w11) (
J7 ((Int.negSucc 0),()) w4)) (fun(z8:(Int)×Unit) w9=> ∀_:Nat→Value,
ld1 (.i .u64) p1 w9 fun x12=>
Ae prog F.Ig [.int .u64 x12,.int .i64 i] w9 false [(false,[.b])] fun r13 w14=>
Aj r13.1.1 (
Au [.int .i64 z8.1,.int .i64 2] p3 0 w14 fun w15=>
A8 [(.i .i64),(.i .i64)] p3 0 w15 fun x16=>
R ((x16.1,x16.2.1,()),()) w15) (
ld1 (.i .u64) (p1.add 1) w14 fun x17=>
Ae prog F.Ig [.int .u64 x17,.int .i64 i] w14 false [(false,[.b])] fun r18 w19=>
Aj (!r18.1.1) (
Au [.int .i64 z8.1,.int .i64 3] p3 0 w19 fun w20=>
A8 [(.i .i64),(.i .i64)] p3 0 w20 fun x21=>
R ((x21.1,x21.2.1,()),()) w20) (
Aj (decide (z8.1<0)) (
Au [.int .i64 z8.1,.int .i64 4] p3 0 w19 fun w22=>
A8 [(.i .i64),(.i .i64)] p3 0 w22 fun x23=>
R ((x23.1,x23.2.1,()),()) w22) (
ld1 .sl (p1.add 2) w19 fun x24=>
Aj (decide (i<(x24.2.1:Int))) (
ld1 .sl (p1.add 2) w19 fun x25=>
Ny x25.1 x25.2.1 i fun a26=>
ld1 (.i .u64) (a26.add (i.toNat*1)) w19 fun x27=>
Ae prog F.Ig [.int .u64 x27,.int .i64 z8.1] w19 false [(false,[.b])] fun r28 w29=>
Aj r28.1.1 (
Au [.int .i64 z8.1,.int .i64 5] p3 0 w29 fun w30=>
A8 [(.i .i64),(.i .i64)] p3 0 w30 fun x31=>
R ((x31.1,x31.2.1,()),()) w30) (
Au [.int .i64 z8.1,.int .i64 1] p3 0 w29 fun w32=>
A8 [(.i .i64),(.i .i64)] p3 0 w32 fun x33=>
R ((x33.1,x33.2.1,()),()) w32)) (
Au [.int .i64 z8.1,.int .i64 1] p3 0 w19 fun w34=>
A8 [(.i .i64),(.i .i64)] p3 0 w34 fun x35=>
R ((x35.1,x35.2.1,()),()) w34))))))
theorem Gy.eq(a0:Int)(a1:Int)(a2:Option Addr×Nat×Nat)(i:Int)(near:Int)(w:World)(R:Value→WP):A7 prog Tryz.f122 (.s .n (.s .n (.s .n (.ct [(7,(.i .i64))] .n .n)))) [.agg #[.int .u64 a0,.int .u64 a1,.slice a2.1 a2.2.1 a2.2.2],.int .i64 i,.int .u64 near] w R=Gy.wp a0 a1 a2 i near w (fun r w=>R (encR false [(true,[(.i .i64),(.i .i64)])] r) w):=by kernel_rfl
theorem Gy.ok{a0:Int}{a1:Int}{a2:Option Addr×Nat×Nat}{i:Int}{near:Int}{w:World}{R:TR [(true,[(.i .i64),(.i .i64)])]→WP}(h:Gy.wp a0 a1 a2 i near w R):Ae prog F.Gy [.agg #[.int .u64 a0,.int .u64 a1,.slice a2.1 a2.2.1 a2.2.2],.int .i64 i,.int .u64 near] w false [(true,[(.i .i64),(.i .i64)])] R:=
  Aop Aa Tryz.func122 (fun R=>Gy.wp a0 a1 a2 i near w R) (Gy.eq a0 a1 a2 i near w) rfl h
def Ce.wp(l:Option Addr)(i:Int)(w:World)(R:TR [(false,[(.i .u64)])]→WP):Prop:=
Ae prog F.Be [.pointer l,.int .i64 i] w false [(false,[.b])] fun r1 w2=>
Aj (!r1.1.1) (
R ((0,()),()) w2) (
Aq l fun a3=>
ld1 .sl (a3.add 1) w2 fun x4=>
Ny x4.1 x4.2.1 i fun a5=>
ld1 (.i .u64) (a5.add (i.toNat*1)) w2 fun x6=>
R ((x6,()),()) w2)
theorem Ce.eq(l:Option Addr)(i:Int)(w:World)(R:Value→WP):A7 prog Tryz.f123 .n [.pointer l,.int .i64 i] w R=Ce.wp l i w (fun r w=>R (encR false [(false,[(.i .u64)])] r) w):=by kernel_rfl
theorem Ce.ok{l:Option Addr}{i:Int}{w:World}{R:TR [(false,[(.i .u64)])]→WP}(h:Ce.wp l i w R):Ae prog F.Ce [.pointer l,.int .i64 i] w false [(false,[(.i .u64)])] R:=
  Aop Aa Tryz.func123 (fun R=>Ce.wp l i w R) (Ce.eq l i w) rfl h
def Iy.wp(n:Option Addr)(w:World)(R:TR [(false,[.b])]→WP):Prop:=
Ae prog F.Cm [.pointer n] w false [(false,[(.i .i64)])] fun r1 w2=>
Aj (r1.1.1 !=0) (
R ((false,()),()) w2) (
Jg w2 fun w3=>
Aq n fun a4=>
ld1 .p (a4.add 15) w3 fun x5=>
Aq n fun a6=>
ld1 .p (a6.add 14) w3 fun x7=>
Ae prog F.Ez [.pointer x7] w3 false [(false,[(.i .i64)])] fun r8 w9=>
Aw [(7,(a6.add 14),(w3.cell? (a6.add 14)).getD undef),(3,(a4.add 15),(w3.cell? (a4.add 15)).getD undef)] w9∧(
Ae prog F.Hw [.pointer x5,.int .i64 r8.1.1] w9 true [(false,[(.i .i64)]),(false,[(.i .i64)]),(false,[(.i .i64)])] fun r10 w11=>
Aw [(7,(a6.add 14),(w3.cell? (a6.add 14)).getD undef)] w11∧(
Aj (r10.2.2.1.1 !=0) (
R ((true,()),()) w11) (
Jg w11 fun w12=>
Aq n fun a13=>
A8 [(.i .i64),(.i .i64),(.i .i64)] (a13.add 5) 0 w12 fun x14=>
Aq n fun a15=>
A8 [(.i .i64),(.i .i64),(.i .i64),(.i .i64)] (a15.add 1) 0 w12 fun x16=>
Aq n fun a17=>
A8 [(.i .i64),(.i .i64),(.i .i64)] (a17.add 5) 0 w12 fun x18=>
Aq n fun a19=>
ld1 (.i .i64) (a19.add 9) w12 fun x20=>
Ae prog F.Xw [.agg #[.int .i64 x16.1,.int .i64 x16.2.1,.int .i64 x16.2.2.1,.int .i64 x16.2.2.2.1],.agg #[.int .i64 x18.1,.int .i64 x18.2.1,.int .i64 x18.2.2.1],.int .i64 x20] w12 false [(true,[(.i .i64),(.i .i64),(.i .i64),(.i .i64)])] fun r21 w22=>
Aw [(20,(a19.add 9),(w12.cell? (a19.add 9)).getD undef),(15,((a17.add 5).add 0),(w12.cell? ((a17.add 5).add 0)).getD undef),(15,((a17.add 5).add 1),(w12.cell? ((a17.add 5).add 1)).getD undef),(15,((a17.add 5).add 2),(w12.cell? ((a17.add 5).add 2)).getD undef),(10,((a15.add 1).add 0),(w12.cell? ((a15.add 1).add 0)).getD undef),(10,((a15.add 1).add 1),(w12.cell? ((a15.add 1).add 1)).getD undef),(10,((a15.add 1).add 2),(w12.cell? ((a15.add 1).add 2)).getD undef),(10,((a15.add 1).add 3),(w12.cell? ((a15.add 1).add 3)).getD undef),(4,((a13.add 5).add 0),(w12.cell? ((a13.add 5).add 0)).getD undef),(4,((a13.add 5).add 1),(w12.cell? ((a13.add 5).add 1)).getD undef),(4,((a13.add 5).add 2),(w12.cell? ((a13.add 5).add 2)).getD undef)] w22∧(
Ae prog F.I9 [.agg #[.int .i64 r21.1.1,.int .i64 r21.1.2.1,.int .i64 r21.1.2.2.1,.int .i64 r21.1.2.2.2.1],.int .i64 r10.2.1.1] w22 false [(false,[(.i .i64)])] fun r23 w24=>
Aw [(20,(a19.add 9),(w12.cell? (a19.add 9)).getD undef),(15,((a17.add 5).add 0),(w12.cell? ((a17.add 5).add 0)).getD undef),(15,((a17.add 5).add 1),(w12.cell? ((a17.add 5).add 1)).getD undef),(15,((a17.add 5).add 2),(w12.cell? ((a17.add 5).add 2)).getD undef),(10,((a15.add 1).add 0),(w12.cell? ((a15.add 1).add 0)).getD undef),(10,((a15.add 1).add 1),(w12.cell? ((a15.add 1).add 1)).getD undef),(10,((a15.add 1).add 2),(w12.cell? ((a15.add 1).add 2)).getD undef),(10,((a15.add 1).add 3),(w12.cell? ((a15.add 1).add 3)).getD undef),(4,((a13.add 5).add 0),(w12.cell? ((a13.add 5).add 0)).getD undef),(4,((a13.add 5).add 1),(w12.cell? ((a13.add 5).add 1)).getD undef),(4,((a13.add 5).add 2),(w12.cell? ((a13.add 5).add 2)).getD undef)] w24∧(
Ae prog F.Nb [.agg #[.int .i64 x14.1,.int .i64 x14.2.1,.int .i64 x14.2.2.1],.int .i64 r10.1.1,.int .i64 r23.1.1] w24 false [(false,[.b])] fun r25 w26=>
Aw [(20,(a19.add 9),(w12.cell? (a19.add 9)).getD undef),(15,((a17.add 5).add 0),(w12.cell? ((a17.add 5).add 0)).getD undef),(15,((a17.add 5).add 1),(w12.cell? ((a17.add 5).add 1)).getD undef),(15,((a17.add 5).add 2),(w12.cell? ((a17.add 5).add 2)).getD undef),(10,((a15.add 1).add 0),(w12.cell? ((a15.add 1).add 0)).getD undef),(10,((a15.add 1).add 1),(w12.cell? ((a15.add 1).add 1)).getD undef),(10,((a15.add 1).add 2),(w12.cell? ((a15.add 1).add 2)).getD undef),(10,((a15.add 1).add 3),(w12.cell? ((a15.add 1).add 3)).getD undef)] w26∧(
R ((r25.1.1,()),()) w26)))))))
theorem Iy.eq(n:Option Addr)(w:World)(R:Value→WP):A7 prog Tryz.f124 (.s .n (.s .n (.s (.pl (.tk 0 (.tk 1 (.tk 2 (.tk 3 (.tk 4 (.tk 5 (.tk 6 (.tk 7 (.ef 8 [] (.ef 9 [3] (.tk 10 (.tk 11 (.tk 12 (.tk 13 (.tk 14 (.tk 15 (.tk 16 .z)))))))))))))))))) (.s .n (.s (.pl (.tk 0 (.tk 1 (.tk 2 (.tk 3 (.tk 4 (.tk 5 (.tk 6 (.tk 7 (.tk 8 (.tk 9 (.tk 10 (.tk 11 (.tk 12 (.tk 13 (.tk 14 (.tk 15 (.tk 16 (.tk 17 (.tk 18 (.tk 19 (.tk 20 (.tk 22 (.ef 21 [] (.ef 23 [] (.ef 24 [4] (.tk 25 .z))))))))))))))))))))))))))) .n))))) [.pointer n] w R=Iy.wp n w (fun r w=>R (encR false [(false,[.b])] r) w):=by kernel_rfl
theorem Iy.ok{n:Option Addr}{w:World}{R:TR [(false,[.b])]→WP}(h:Iy.wp n w R):Ae prog F.Iy [.pointer n] w false [(false,[.b])] R:=
  Aop Aa Tryz.func124 (fun R=>Iy.wp n w R) (Iy.eq n w) rfl h
def Iu.wp(n:Option Addr)(jitter:Int)(w:World)(R:TR [(false,[(.i .i64)]),(false,[(.i .i64)])]→WP):Prop:=
Ae prog F.Cm [.pointer n] w false [(false,[(.i .i64)])] fun r1 w2=>
Aj (r1.1.1 !=0) (
R ((0,()),(r1.1.1,()),()) w2) (
Aq n fun a3=>
ld1 (.i .i64) (a3.add 9) w2 fun x4=>
Aj (decide (jitter<(wrap .i64 (0-x4)))) (
R ((0,()),(1,()),()) w2) (
Aq n fun a5=>
ld1 (.i .i64) (a5.add 9) w2 fun x6=>
Aj (decide (jitter>x6)) (
R ((0,()),(1,()),()) w2) (
Aq n fun a7=>
ld1 .p (a7.add 14) w2 fun x8=>
Ae prog F.Ez [.pointer x8] w2 false [(false,[(.i .i64)])] fun r9 w10=>
Ae prog F.Qs [.int .i64 (wrap .i64 (r9.1.1+jitter)),.int .i64 0,.int .i64 1125899906842624] w10 false [(false,[(.i .i64)])] fun r11 w12=>
R ((r11.1.1,()),(0,()),()) w12)))
theorem Iu.eq(n:Option Addr)(jitter:Int)(w:World)(R:Value→WP):A7 prog Tryz.f125 .n [.pointer n,.int .i64 jitter] w R=Iu.wp n jitter w (fun r w=>R (encR true [(false,[(.i .i64)]),(false,[(.i .i64)])] r) w):=by kernel_rfl
theorem Iu.ok{n:Option Addr}{jitter:Int}{w:World}{R:TR [(false,[(.i .i64)]),(false,[(.i .i64)])]→WP}(h:Iu.wp n jitter w R):Ae prog F.Iu [.pointer n,.int .i64 jitter] w true [(false,[(.i .i64)]),(false,[(.i .i64)])] R:=
  Aop Aa Tryz.func125 (fun R=>Iu.wp n jitter w R) (Iu.eq n jitter w) rfl h
def Nw.wp(n:Option Addr)(f0:Int)(f1:Int)(f2:Int)(f3:Int)(f4:Int)(f5:Int)(stamp:Int)(w:World)(R:TR [(false,[(.i .i64)])]→WP):Prop:=
Cc (fun(J1:((Addr)×(Int)×Unit)→WP)=>
Jg w fun w4=>
Aq n fun a5=>
ld1 .p (a5.add 18) w4 fun x6=>
Aq n fun a7=>
ld1 .p (a7.add 15) w4 fun x8=>
(
Ae prog F.Ar [.pointer x6,.pointer x8,.int .i64 stamp] w4 true [(true,[(.i .i64),(.i .i64),(.i .i64),(.i .u16),(.i .i64)]),(false,[(.i .i64)])] fun r9 w10=>
Aw [(7,(a7.add 15),(w4.cell? (a7.add 15)).getD undef),(3,(a5.add 18),(w4.cell? (a5.add 18)).getD undef)] w10∧(
Bf [.int .i64 0,.int .i64 0,.int .i64 0,.int .u16 0,.int .i64 0] T.Bg w10 fun p11 w12=>
Aw [(7,(a7.add 15),(w4.cell? (a7.add 15)).getD undef),(3,(a5.add 18),(w4.cell? (a5.add 18)).getD undef)] w12∧(
Au [.int .i64 r9.1.1,.int .i64 r9.1.2.1,.int .i64 r9.1.2.2.1,.int .u16 r9.1.2.2.2.1,.int .i64 r9.1.2.2.2.2.1] p11 0 w12 fun w13=>
Aw [] w13∧(
J1 (p11,r9.2.1.1,()) w13))))∧(
Bf [.int .i64 0,.int .i64 0,.int .i64 0,.int .u16 0,.int .i64 0] T.Bg w4 fun p14 w15=>
Aw [(7,(a7.add 15),(w4.cell? (a7.add 15)).getD undef),(3,(a5.add 18),(w4.cell? (a5.add 18)).getD undef)] w15∧(
Ae prog F.Ar [.pointer x6,.pointer x8,.int .i64 stamp] w15 true [(true,[(.i .i64),(.i .i64),(.i .i64),(.i .u16),(.i .i64)]),(false,[(.i .i64)])] fun r16 w17=>
Aw [] w17∧(
Au [.int .i64 r16.1.1,.int .i64 r16.1.2.1,.int .i64 r16.1.2.2.1,.int .u16 r16.1.2.2.2.1,.int .i64 r16.1.2.2.2.2.1] p14 0 w17 fun w18=>
Aw [] w18∧(
J1 (p14,r16.2.1.1,()) w18))))) (fun(z2:(Addr)×(Int)×Unit) w3=> ∀_:Nat→Value,
Bf [.int .i64 0,.int .u16 0,.int .i64 0,.int .u16 0,.int .i64 0,.int .i64 0] T.Bh w3 fun p19 w20=>
Au [.int .i64 f0,.int .u16 f1,.int .i64 f2,.int .u16 f3,.int .i64 f4,.int .i64 f5] p19 0 w20 fun w21=>
Jg w21 fun w22=>
Aq n fun a23=>
A8 [(.i .i64),(.i .u16),(.i .i64),(.i .u16),(.i .i64),(.i .i64)] p19 0 w22 fun x24=>
Ae prog F.Gh [.pointer (some (a23.add 19)),.agg #[.int .i64 x24.1,.int .u16 x24.2.1,.int .i64 x24.2.2.1,.int .u16 x24.2.2.2.1,.int .i64 x24.2.2.2.2.1,.int .i64 x24.2.2.2.2.2.1]] w22 false [(false,[.b])] fun r25 w26=>
Aw [] w26∧(
Aj r25.1.1 (
Ae prog F.Ib [.pointer n] w26 false [(false,[(.i .i64)])] fun r27 w28=>
R ((r27.1.1,()),()) w28) (
R ((0,()),()) w26)))
theorem Nw.eq(n:Option Addr)(f0:Int)(f1:Int)(f2:Int)(f3:Int)(f4:Int)(f5:Int)(stamp:Int)(w:World)(R:Value→WP):A7 prog Tryz.f126 (.s .n (.ct [(7,.a),(8,(.i .i64))] (.pl (.tk 0 (.tk 1 (.tk 2 (.tk 3 (.tk 4 (.tk 5 (.tk 6 (.tk 7 (.tk 8 (.two 9 13 (.tk 10 (.tk 11 (.tk 12 (.ef 13 [] (.ef 14 [3,7] (.tk 15 .z)))))) (.ef 9 [3,7] (.tk 10 (.tk 11 (.tk 12 (.ef 14 [] (.tk 15 .z))))))))))))))))) (.s (.s .n (.s .n (.s .n (.s .n (.s .n (.s .n (.s .n (.s .n (.s .n (.s .n (.s .n (.s .n (.s (.s .n (.s (.pl (.tk 0 (.tk 1 (.tk 2 (.tk 3 (.ef 4 [3] .z)))))) .n)) .n))))))))))))) .n))) [.pointer n,.iface T.Bh (.agg #[.int .i64 f0,.int .u16 f1,.int .i64 f2,.int .u16 f3,.int .i64 f4,.int .i64 f5]),.int .i64 stamp] w R=Nw.wp n f0 f1 f2 f3 f4 f5 stamp w (fun r w=>R (encR false [(false,[(.i .i64)])] r) w):=by kernel_rfl
theorem Nw.ok{n:Option Addr}{f0:Int}{f1:Int}{f2:Int}{f3:Int}{f4:Int}{f5:Int}{stamp:Int}{w:World}{R:TR [(false,[(.i .i64)])]→WP}(h:Nw.wp n f0 f1 f2 f3 f4 f5 stamp w R):Ae prog F.Gm [.pointer n,.iface T.Bh (.agg #[.int .i64 f0,.int .u16 f1,.int .i64 f2,.int .u16 f3,.int .i64 f4,.int .i64 f5]),.int .i64 stamp] w false [(false,[(.i .i64)])] R:=
  Aop Aa Tryz.func126 (fun R=>Nw.wp n f0 f1 f2 f3 f4 f5 stamp w R) (Nw.eq n f0 f1 f2 f3 f4 f5 stamp w) rfl h
def Px.wp(n:Option Addr)(f0:Int)(f1:Int)(f2:Int)(f3:Int)(f4:Int)(f5:Int)(stamp:Int)(w:World)(R:TR [(false,[(.i .i64)])]→WP):Prop:=
Cc (fun(J1:((Addr)×(Int)×Unit)→WP)=>
Jg w fun w4=>
Aq n fun a5=>
ld1 .p (a5.add 18) w4 fun x6=>
Aq n fun a7=>
ld1 .p (a7.add 15) w4 fun x8=>
(
Ae prog F.Ar [.pointer x6,.pointer x8,.int .i64 stamp] w4 true [(true,[(.i .i64),(.i .i64),(.i .i64),(.i .u16),(.i .i64)]),(false,[(.i .i64)])] fun r9 w10=>
Aw [(7,(a7.add 15),(w4.cell? (a7.add 15)).getD undef),(3,(a5.add 18),(w4.cell? (a5.add 18)).getD undef)] w10∧(
Bf [.int .i64 0,.int .i64 0,.int .i64 0,.int .u16 0,.int .i64 0] T.Bg w10 fun p11 w12=>
Aw [(7,(a7.add 15),(w4.cell? (a7.add 15)).getD undef),(3,(a5.add 18),(w4.cell? (a5.add 18)).getD undef)] w12∧(
Au [.int .i64 r9.1.1,.int .i64 r9.1.2.1,.int .i64 r9.1.2.2.1,.int .u16 r9.1.2.2.2.1,.int .i64 r9.1.2.2.2.2.1] p11 0 w12 fun w13=>
Aw [] w13∧(
J1 (p11,r9.2.1.1,()) w13))))∧(
Bf [.int .i64 0,.int .i64 0,.int .i64 0,.int .u16 0,.int .i64 0] T.Bg w4 fun p14 w15=>
Aw [(7,(a7.add 15),(w4.cell? (a7.add 15)).getD undef),(3,(a5.add 18),(w4.cell? (a5.add 18)).getD undef)] w15∧(
Ae prog F.Ar [.pointer x6,.pointer x8,.int .i64 stamp] w15 true [(true,[(.i .i64),(.i .i64),(.i .i64),(.i .u16),(.i .i64)]),(false,[(.i .i64)])] fun r16 w17=>
Aw [] w17∧(
Au [.int .i64 r16.1.1,.int .i64 r16.1.2.1,.int .i64 r16.1.2.2.1,.int .u16 r16.1.2.2.2.1,.int .i64 r16.1.2.2.2.2.1] p14 0 w17 fun w18=>
Aw [] w18∧(
J1 (p14,r16.2.1.1,()) w18))))) (fun(z2:(Addr)×(Int)×Unit) w3=> ∀_:Nat→Value,
Bf [.int .i64 0,.int .i64 0,.int .u16 0,.int .u16 0,.int .i64 0,.int .i64 0] T.Dy w3 fun p19 w20=>
Au [.int .i64 f0,.int .i64 f1,.int .u16 f2,.int .u16 f3,.int .i64 f4,.int .i64 f5] p19 0 w20 fun w21=>
Jg w21 fun w22=>
Aq n fun a23=>
ld1 .p (a23.add 15) w22 fun x24=>
A8 [(.i .i64),(.i .i64),(.i .u16),(.i .u16),(.i .i64),(.i .i64)] p19 0 w22 fun x25=>
Ae prog F.Le [.pointer x24,.agg #[.int .i64 x25.1,.int .i64 x25.2.1,.int .u16 x25.2.2.1,.int .u16 x25.2.2.2.1,.int .i64 x25.2.2.2.2.1,.int .i64 x25.2.2.2.2.2.1],.int .i64 stamp] w22 false [(false,[(.i .i64)])] fun r26 w27=>
Aw [] w27∧(
R ((0,()),()) w27))
theorem Px.eq(n:Option Addr)(f0:Int)(f1:Int)(f2:Int)(f3:Int)(f4:Int)(f5:Int)(stamp:Int)(w:World)(R:Value→WP):A7 prog Tryz.f126 (.s .n (.ct [(7,.a),(8,(.i .i64))] (.pl (.tk 0 (.tk 1 (.tk 2 (.tk 3 (.tk 4 (.tk 5 (.tk 6 (.tk 7 (.tk 8 (.two 9 13 (.tk 10 (.tk 11 (.tk 12 (.ef 13 [] (.ef 14 [3,7] (.tk 15 .z)))))) (.ef 9 [3,7] (.tk 10 (.tk 11 (.tk 12 (.ef 14 [] (.tk 15 .z))))))))))))))))) (.s (.s .n (.s .n (.s (.s .n (.pl (.tk 0 (.tk 1 (.tk 2 (.tk 3 (.tk 4 (.tk 5 (.ef 6 [3,4] .z))))))))) .n))) .n))) [.pointer n,.iface T.Dy (.agg #[.int .i64 f0,.int .i64 f1,.int .u16 f2,.int .u16 f3,.int .i64 f4,.int .i64 f5]),.int .i64 stamp] w R=Px.wp n f0 f1 f2 f3 f4 f5 stamp w (fun r w=>R (encR false [(false,[(.i .i64)])] r) w):=by kernel_rfl
theorem Px.ok{n:Option Addr}{f0:Int}{f1:Int}{f2:Int}{f3:Int}{f4:Int}{f5:Int}{stamp:Int}{w:World}{R:TR [(false,[(.i .i64)])]→WP}(h:Px.wp n f0 f1 f2 f3 f4 f5 stamp w R):Ae prog F.Gm [.pointer n,.iface T.Dy (.agg #[.int .i64 f0,.int .i64 f1,.int .u16 f2,.int .u16 f3,.int .i64 f4,.int .i64 f5]),.int .i64 stamp] w false [(false,[(.i .i64)])] R:=
  Aop Aa Tryz.func126 (fun R=>Px.wp n f0 f1 f2 f3 f4 f5 stamp w R) (Px.eq n f0 f1 f2 f3 f4 f5 stamp w) rfl h
def Pm.wp(n:Option Addr)(f0:Int)(f1:Int)(stamp:Int)(w:World)(R:TR [(false,[(.i .i64)])]→WP):Prop:=
Cc (fun(J1:((Addr)×(Int)×Unit)→WP)=>
Jg w fun w4=>
Aq n fun a5=>
ld1 .p (a5.add 18) w4 fun x6=>
Aq n fun a7=>
ld1 .p (a7.add 15) w4 fun x8=>
(
Ae prog F.Ar [.pointer x6,.pointer x8,.int .i64 stamp] w4 true [(true,[(.i .i64),(.i .i64),(.i .i64),(.i .u16),(.i .i64)]),(false,[(.i .i64)])] fun r9 w10=>
Aw [(7,(a7.add 15),(w4.cell? (a7.add 15)).getD undef),(3,(a5.add 18),(w4.cell? (a5.add 18)).getD undef)] w10∧(
Bf [.int .i64 0,.int .i64 0,.int .i64 0,.int .u16 0,.int .i64 0] T.Bg w10 fun p11 w12=>
Aw [(7,(a7.add 15),(w4.cell? (a7.add 15)).getD undef),(3,(a5.add 18),(w4.cell? (a5.add 18)).getD undef)] w12∧(
Au [.int .i64 r9.1.1,.int .i64 r9.1.2.1,.int .i64 r9.1.2.2.1,.int .u16 r9.1.2.2.2.1,.int .i64 r9.1.2.2.2.2.1] p11 0 w12 fun w13=>
Aw [] w13∧(
J1 (p11,r9.2.1.1,()) w13))))∧(
Bf [.int .i64 0,.int .i64 0,.int .i64 0,.int .u16 0,.int .i64 0] T.Bg w4 fun p14 w15=>
Aw [(7,(a7.add 15),(w4.cell? (a7.add 15)).getD undef),(3,(a5.add 18),(w4.cell? (a5.add 18)).getD undef)] w15∧(
Ae prog F.Ar [.pointer x6,.pointer x8,.int .i64 stamp] w15 true [(true,[(.i .i64),(.i .i64),(.i .i64),(.i .u16),(.i .i64)]),(false,[(.i .i64)])] fun r16 w17=>
Aw [] w17∧(
Au [.int .i64 r16.1.1,.int .i64 r16.1.2.1,.int .i64 r16.1.2.2.1,.int .u16 r16.1.2.2.2.1,.int .i64 r16.1.2.2.2.2.1] p14 0 w17 fun w18=>
Aw [] w18∧(
J1 (p14,r16.2.1.1,()) w18))))) (fun(z2:(Addr)×(Int)×Unit) w3=> ∀_:Nat→Value,
Bf [.int .i64 0,.int .i64 0] T.Gj w3 fun p19 w20=>
Au [.int .i64 f0,.int .i64 f1] p19 0 w20 fun w21=>
Aq n fun a22=>
ld1 .p (a22.add 15) w21 fun x23=>
Ae prog F.Ba [.pointer x23] w21 false [(false,[.b])] fun r24 w25=>
Aj (!r24.1.1) (
Jg w25 fun w26=>
Aq n fun a27=>
ld1 .p (a27.add 16) w26 fun x28=>
A8 [(.i .i64),(.i .i64)] p19 0 w26 fun x29=>
Ae prog F.Kv [.pointer x28,.agg #[.int .i64 x29.1,.int .i64 x29.2.1]] w26 false [(false,[.b])] fun r30 w31=>
Aw [] w31∧(
R ((0,()),()) w31)) (
R ((0,()),()) w25))
theorem Pm.eq(n:Option Addr)(f0:Int)(f1:Int)(stamp:Int)(w:World)(R:Value→WP):A7 prog Tryz.f126 (.s .n (.ct [(7,.a),(8,(.i .i64))] (.pl (.tk 0 (.tk 1 (.tk 2 (.tk 3 (.tk 4 (.tk 5 (.tk 6 (.tk 7 (.tk 8 (.two 9 13 (.tk 10 (.tk 11 (.tk 12 (.ef 13 [] (.ef 14 [3,7] (.tk 15 .z)))))) (.ef 9 [3,7] (.tk 10 (.tk 11 (.tk 12 (.ef 14 [] (.tk 15 .z))))))))))))))))) (.s (.s .n (.s .n (.s .n (.s .n (.s (.s .n (.s .n (.s (.pl (.tk 0 (.tk 1 (.tk 2 (.tk 3 (.tk 4 (.ef 5 [3,4] .z))))))) .n))) .n))))) .n))) [.pointer n,.iface T.Gj (.agg #[.int .i64 f0,.int .i64 f1]),.int .i64 stamp] w R=Pm.wp n f0 f1 stamp w (fun r w=>R (encR false [(false,[(.i .i64)])] r) w):=by kernel_rfl
theorem Pm.ok{n:Option Addr}{f0:Int}{f1:Int}{stamp:Int}{w:World}{R:TR [(false,[(.i .i64)])]→WP}(h:Pm.wp n f0 f1 stamp w R):Ae prog F.Gm [.pointer n,.iface T.Gj (.agg #[.int .i64 f0,.int .i64 f1]),.int .i64 stamp] w false [(false,[(.i .i64)])] R:=
  Aop Aa Tryz.func126 (fun R=>Pm.wp n f0 f1 stamp w R) (Pm.eq n f0 f1 stamp w) rfl h
def Pq.wp(n:Option Addr)(f0:Int)(stamp:Int)(w:World)(R:TR [(false,[(.i .i64)])]→WP):Prop:=
Cc (fun(J1:((Addr)×(Int)×Unit)→WP)=>
Jg w fun w4=>
Aq n fun a5=>
ld1 .p (a5.add 18) w4 fun x6=>
Aq n fun a7=>
ld1 .p (a7.add 15) w4 fun x8=>
(
Ae prog F.Ar [.pointer x6,.pointer x8,.int .i64 stamp] w4 true [(true,[(.i .i64),(.i .i64),(.i .i64),(.i .u16),(.i .i64)]),(false,[(.i .i64)])] fun r9 w10=>
Aw [(7,(a7.add 15),(w4.cell? (a7.add 15)).getD undef),(3,(a5.add 18),(w4.cell? (a5.add 18)).getD undef)] w10∧(
Bf [.int .i64 0,.int .i64 0,.int .i64 0,.int .u16 0,.int .i64 0] T.Bg w10 fun p11 w12=>
Aw [(7,(a7.add 15),(w4.cell? (a7.add 15)).getD undef),(3,(a5.add 18),(w4.cell? (a5.add 18)).getD undef)] w12∧(
Au [.int .i64 r9.1.1,.int .i64 r9.1.2.1,.int .i64 r9.1.2.2.1,.int .u16 r9.1.2.2.2.1,.int .i64 r9.1.2.2.2.2.1] p11 0 w12 fun w13=>
Aw [] w13∧(
J1 (p11,r9.2.1.1,()) w13))))∧(
Bf [.int .i64 0,.int .i64 0,.int .i64 0,.int .u16 0,.int .i64 0] T.Bg w4 fun p14 w15=>
Aw [(7,(a7.add 15),(w4.cell? (a7.add 15)).getD undef),(3,(a5.add 18),(w4.cell? (a5.add 18)).getD undef)] w15∧(
Ae prog F.Ar [.pointer x6,.pointer x8,.int .i64 stamp] w15 true [(true,[(.i .i64),(.i .i64),(.i .i64),(.i .u16),(.i .i64)]),(false,[(.i .i64)])] fun r16 w17=>
Aw [] w17∧(
Au [.int .i64 r16.1.1,.int .i64 r16.1.2.1,.int .i64 r16.1.2.2.1,.int .u16 r16.1.2.2.2.1,.int .i64 r16.1.2.2.2.2.1] p14 0 w17 fun w18=>
Aw [] w18∧(
J1 (p14,r16.2.1.1,()) w18))))) (fun(z2:(Addr)×(Int)×Unit) w3=> ∀_:Nat→Value,
Bf [.int .i64 0] T.Gp w3 fun p19 w20=>
Au [.int .i64 f0] p19 0 w20 fun w21=>
Aj (z2.2.1==0) (
Aq n fun a22=>
ld1 .p (a22.add 27) w21 fun x23=>
Ae prog F.Cj [.pointer x23,.iface T.nH (.agg #[])] w21 false [(false,[(.i .i64)])] fun r24 w25=>
R ((r24.1.1,()),()) w25) (
R ((0,()),()) w21))
theorem Pq.eq(n:Option Addr)(f0:Int)(stamp:Int)(w:World)(R:Value→WP):A7 prog Tryz.f126 (.s .n (.ct [(7,.a),(8,(.i .i64))] (.pl (.tk 0 (.tk 1 (.tk 2 (.tk 3 (.tk 4 (.tk 5 (.tk 6 (.tk 7 (.tk 8 (.two 9 13 (.tk 10 (.tk 11 (.tk 12 (.ef 13 [] (.ef 14 [3,7] (.tk 15 .z)))))) (.ef 9 [3,7] (.tk 10 (.tk 11 (.tk 12 (.ef 14 [] (.tk 15 .z))))))))))))))))) .n)) [.pointer n,.iface T.Gp (.agg #[.int .i64 f0]),.int .i64 stamp] w R=Pq.wp n f0 stamp w (fun r w=>R (encR false [(false,[(.i .i64)])] r) w):=by kernel_rfl
theorem Pq.ok{n:Option Addr}{f0:Int}{stamp:Int}{w:World}{R:TR [(false,[(.i .i64)])]→WP}(h:Pq.wp n f0 stamp w R):Ae prog F.Gm [.pointer n,.iface T.Gp (.agg #[.int .i64 f0]),.int .i64 stamp] w false [(false,[(.i .i64)])] R:=
  Aop Aa Tryz.func126 (fun R=>Pq.wp n f0 stamp w R) (Pq.eq n f0 stamp w) rfl h
def Oa.wp(n:Option Addr)(f0:Int)(f1:Int)(f2:Int)(stamp:Int)(w:World)(R:TR [(false,[(.i .i64)])]→WP):Prop:=
Cc (fun(J1:((Addr)×(Int)×Unit)→WP)=>
Jg w fun w4=>
Aq n fun a5=>
ld1 .p (a5.add 18) w4 fun x6=>
Aq n fun a7=>
ld1 .p (a7.add 15) w4 fun x8=>
(
Ae prog F.Ar [.pointer x6,.pointer x8,.int .i64 stamp] w4 true [(true,[(.i .i64),(.i .i64),(.i .i64),(.i .u16),(.i .i64)]),(false,[(.i .i64)])] fun r9 w10=>
Aw [(7,(a7.add 15),(w4.cell? (a7.add 15)).getD undef),(3,(a5.add 18),(w4.cell? (a5.add 18)).getD undef)] w10∧(
Bf [.int .i64 0,.int .i64 0,.int .i64 0,.int .u16 0,.int .i64 0] T.Bg w10 fun p11 w12=>
Aw [(7,(a7.add 15),(w4.cell? (a7.add 15)).getD undef),(3,(a5.add 18),(w4.cell? (a5.add 18)).getD undef)] w12∧(
Au [.int .i64 r9.1.1,.int .i64 r9.1.2.1,.int .i64 r9.1.2.2.1,.int .u16 r9.1.2.2.2.1,.int .i64 r9.1.2.2.2.2.1] p11 0 w12 fun w13=>
Aw [] w13∧(
J1 (p11,r9.2.1.1,()) w13))))∧(
Bf [.int .i64 0,.int .i64 0,.int .i64 0,.int .u16 0,.int .i64 0] T.Bg w4 fun p14 w15=>
Aw [(7,(a7.add 15),(w4.cell? (a7.add 15)).getD undef),(3,(a5.add 18),(w4.cell? (a5.add 18)).getD undef)] w15∧(
Ae prog F.Ar [.pointer x6,.pointer x8,.int .i64 stamp] w15 true [(true,[(.i .i64),(.i .i64),(.i .i64),(.i .u16),(.i .i64)]),(false,[(.i .i64)])] fun r16 w17=>
Aw [] w17∧(
Au [.int .i64 r16.1.1,.int .i64 r16.1.2.1,.int .i64 r16.1.2.2.1,.int .u16 r16.1.2.2.2.1,.int .i64 r16.1.2.2.2.2.1] p14 0 w17 fun w18=>
Aw [] w18∧(
J1 (p14,r16.2.1.1,()) w18))))) (fun(z2:(Addr)×(Int)×Unit) w3=> ∀_:Nat→Value,
Bf [.int .i64 0,.int .i64 0,.int .i64 0] T.Ef w3 fun p19 w20=>
Au [.int .i64 f0,.int .i64 f1,.int .i64 f2] p19 0 w20 fun w21=>
Cc (fun(J22:((Bool)×Unit)→WP)=>
Jg w21 fun w25=>
Aj (z2.2.1==0) (
ld1 (.i .i64) (p19.add 1) w25 fun x26=>
Aq n fun a27=>
ld1 (.i .i64) a27 w25 fun x28=>
J22 ((x26==x28),()) w25) (
J22 (false,()) w25)) (fun(z23:(Bool)×Unit) w24=> ∀_:Nat→Value,
Aj z23.1 (
Jg w24 fun w29=>
Aq n fun a30=>
ld1 .p (a30.add 27) w29 fun x31=>
ld1 (.i .i64) p19 w29 fun x32=>
ld1 (.i .i64) (p19.add 2) w29 fun x33=>
A8 [(.i .i64),(.i .i64),(.i .i64),(.i .u16),(.i .i64)] z2.1 0 w29 fun x34=>
Ae prog F.Cj [.pointer x31,.iface T.jZ (.agg #[.int .i64 x32,.int .i64 x33,.int .i64 x34.1,.int .i64 x34.2.1,.int .i64 x34.2.2.1,.int .u16 x34.2.2.2.1,.int .i64 x34.2.2.2.2.1])] w29 false [(false,[(.i .i64)])] fun r35 w36=>
Aw [(8,(z2.1.add 0),(w29.cell? (z2.1.add 0)).getD undef),(8,(z2.1.add 1),(w29.cell? (z2.1.add 1)).getD undef),(8,(z2.1.add 2),(w29.cell? (z2.1.add 2)).getD undef),(8,(z2.1.add 3),(w29.cell? (z2.1.add 3)).getD undef),(8,(z2.1.add 4),(w29.cell? (z2.1.add 4)).getD undef),(7,(p19.add 2),(w29.cell? (p19.add 2)).getD undef),(5,p19,(w29.cell? p19).getD undef)] w36∧(
R ((r35.1.1,()),()) w36)) (
R ((0,()),()) w24)))
theorem Oa.eq(n:Option Addr)(f0:Int)(f1:Int)(f2:Int)(stamp:Int)(w:World)(R:Value→WP):A7 prog Tryz.f126 (.s .n (.ct [(7,.a),(8,(.i .i64))] (.pl (.tk 0 (.tk 1 (.tk 2 (.tk 3 (.tk 4 (.tk 5 (.tk 6 (.tk 7 (.tk 8 (.two 9 13 (.tk 10 (.tk 11 (.tk 12 (.ef 13 [] (.ef 14 [3,7] (.tk 15 .z)))))) (.ef 9 [3,7] (.tk 10 (.tk 11 (.tk 12 (.ef 14 [] (.tk 15 .z))))))))))))))))) (.s (.s .n (.s .n (.s .n (.s .n (.s .n (.s .n (.s .n (.s .n (.s (.s .n (.ct [(82,.b)] (.pl (.tk 0 (.tk 1 (.tk 2 (.tk 3 (.tk 4 (.tk 5 (.tk 6 (.tk 7 (.tk 8 (.tk 9 (.tk 10 (.tk 11 .z))))))))))))) (.s (.s (.pl (.tk 0 (.tk 1 (.tk 2 (.tk 3 (.tk 4 (.tk 5 (.tk 6 (.tk 7 (.tk 8 (.tk 9 (.tk 10 (.ef 11 [3] (.tk 12 .z)))))))))))))) .n) .n))) .n))))))))) .n))) [.pointer n,.iface T.Ef (.agg #[.int .i64 f0,.int .i64 f1,.int .i64 f2]),.int .i64 stamp] w R=Oa.wp n f0 f1 f2 stamp w (fun r w=>R (encR false [(false,[(.i .i64)])] r) w):=by kernel_rfl
theorem Oa.ok{n:Option Addr}{f0:Int}{f1:Int}{f2:Int}{stamp:Int}{w:World}{R:TR [(false,[(.i .i64)])]→WP}(h:Oa.wp n f0 f1 f2 stamp w R):Ae prog F.Gm [.pointer n,.iface T.Ef (.agg #[.int .i64 f0,.int .i64 f1,.int .i64 f2]),.int .i64 stamp] w false [(false,[(.i .i64)])] R:=
  Aop Aa Tryz.func126 (fun R=>Oa.wp n f0 f1 f2 stamp w R) (Oa.eq n f0 f1 f2 stamp w) rfl h
def Og.wp(n:Option Addr)(f0:Int)(f1:Int)(f2:Int)(f3:Int)(f4:Int)(f5:Int)(f6:Int)(f7:Int)(stamp:Int)(w:World)(R:TR [(false,[(.i .i64)])]→WP):Prop:=
Cc (fun(J1:((Addr)×(Int)×Unit)→WP)=>
Jg w fun w4=>
Aq n fun a5=>
ld1 .p (a5.add 18) w4 fun x6=>
Aq n fun a7=>
ld1 .p (a7.add 15) w4 fun x8=>
(
Ae prog F.Ar [.pointer x6,.pointer x8,.int .i64 stamp] w4 true [(true,[(.i .i64),(.i .i64),(.i .i64),(.i .u16),(.i .i64)]),(false,[(.i .i64)])] fun r9 w10=>
Aw [(7,(a7.add 15),(w4.cell? (a7.add 15)).getD undef),(3,(a5.add 18),(w4.cell? (a5.add 18)).getD undef)] w10∧(
Bf [.int .i64 0,.int .i64 0,.int .i64 0,.int .u16 0,.int .i64 0] T.Bg w10 fun p11 w12=>
Aw [(7,(a7.add 15),(w4.cell? (a7.add 15)).getD undef),(3,(a5.add 18),(w4.cell? (a5.add 18)).getD undef)] w12∧(
Au [.int .i64 r9.1.1,.int .i64 r9.1.2.1,.int .i64 r9.1.2.2.1,.int .u16 r9.1.2.2.2.1,.int .i64 r9.1.2.2.2.2.1] p11 0 w12 fun w13=>
Aw [] w13∧(
J1 (p11,r9.2.1.1,()) w13))))∧(
Bf [.int .i64 0,.int .i64 0,.int .i64 0,.int .u16 0,.int .i64 0] T.Bg w4 fun p14 w15=>
Aw [(7,(a7.add 15),(w4.cell? (a7.add 15)).getD undef),(3,(a5.add 18),(w4.cell? (a5.add 18)).getD undef)] w15∧(
Ae prog F.Ar [.pointer x6,.pointer x8,.int .i64 stamp] w15 true [(true,[(.i .i64),(.i .i64),(.i .i64),(.i .u16),(.i .i64)]),(false,[(.i .i64)])] fun r16 w17=>
Aw [] w17∧(
Au [.int .i64 r16.1.1,.int .i64 r16.1.2.1,.int .i64 r16.1.2.2.1,.int .u16 r16.1.2.2.2.1,.int .i64 r16.1.2.2.2.2.1] p14 0 w17 fun w18=>
Aw [] w18∧(
J1 (p14,r16.2.1.1,()) w18))))) (fun(z2:(Addr)×(Int)×Unit) w3=> ∀_:Nat→Value,
Bf [.int .i64 0,.int .i64 0,.int .i64 0,.int .i64 0,.int .i64 0,.int .i64 0,.int .u16 0,.int .i64 0] T.Gl w3 fun p19 w20=>
Au [.int .i64 f0,.int .i64 f1,.int .i64 f2,.int .i64 f3,.int .i64 f4,.int .i64 f5,.int .u16 f6,.int .i64 f7] p19 0 w20 fun w21=>
Cc (fun(J22:((Addr)×(Bool)×Unit)→WP)=>
Jg w21 fun w25=>
Aq n fun a26=>
ld1 .p (a26.add 17) w25 fun x27=>
A8 [(.i .i64),(.i .i64),(.i .i64),(.i .i64),(.i .i64),(.i .i64),(.i .u16),(.i .i64)] p19 0 w25 fun x28=>
(
Ae prog F.Jo [.pointer x27,.agg #[.int .i64 x28.1,.int .i64 x28.2.1,.int .i64 x28.2.2.1,.int .i64 x28.2.2.2.1,.int .i64 x28.2.2.2.2.1,.int .i64 x28.2.2.2.2.2.1,.int .u16 x28.2.2.2.2.2.2.1,.int .i64 x28.2.2.2.2.2.2.2.1],.int .i64 stamp] w25 true [(true,[(.i .i64),(.i .i64),(.i .i64)]),(false,[.b])] fun r29 w30=>
Aw [(4,(p19.add 0),(w25.cell? (p19.add 0)).getD undef),(4,(p19.add 1),(w25.cell? (p19.add 1)).getD undef),(4,(p19.add 2),(w25.cell? (p19.add 2)).getD undef),(4,(p19.add 3),(w25.cell? (p19.add 3)).getD undef),(4,(p19.add 4),(w25.cell? (p19.add 4)).getD undef),(4,(p19.add 5),(w25.cell? (p19.add 5)).getD undef),(4,(p19.add 6),(w25.cell? (p19.add 6)).getD undef),(4,(p19.add 7),(w25.cell? (p19.add 7)).getD undef),(3,(a26.add 17),(w25.cell? (a26.add 17)).getD undef)] w30∧(
Bf [.int .i64 0,.int .i64 0,.int .i64 0] T.Du w30 fun p31 w32=>
Aw [(4,(p19.add 0),(w25.cell? (p19.add 0)).getD undef),(4,(p19.add 1),(w25.cell? (p19.add 1)).getD undef),(4,(p19.add 2),(w25.cell? (p19.add 2)).getD undef),(4,(p19.add 3),(w25.cell? (p19.add 3)).getD undef),(4,(p19.add 4),(w25.cell? (p19.add 4)).getD undef),(4,(p19.add 5),(w25.cell? (p19.add 5)).getD undef),(4,(p19.add 6),(w25.cell? (p19.add 6)).getD undef),(4,(p19.add 7),(w25.cell? (p19.add 7)).getD undef),(3,(a26.add 17),(w25.cell? (a26.add 17)).getD undef)] w32∧(
Au [.int .i64 r29.1.1,.int .i64 r29.1.2.1,.int .i64 r29.1.2.2.1] p31 0 w32 fun w33=>
Aw [] w33∧(
J22 (p31,r29.2.1.1,()) w33))))∧(
Bf [.int .i64 0,.int .i64 0,.int .i64 0] T.Du w25 fun p34 w35=>
Aw [(4,(p19.add 0),(w25.cell? (p19.add 0)).getD undef),(4,(p19.add 1),(w25.cell? (p19.add 1)).getD undef),(4,(p19.add 2),(w25.cell? (p19.add 2)).getD undef),(4,(p19.add 3),(w25.cell? (p19.add 3)).getD undef),(4,(p19.add 4),(w25.cell? (p19.add 4)).getD undef),(4,(p19.add 5),(w25.cell? (p19.add 5)).getD undef),(4,(p19.add 6),(w25.cell? (p19.add 6)).getD undef),(4,(p19.add 7),(w25.cell? (p19.add 7)).getD undef),(3,(a26.add 17),(w25.cell? (a26.add 17)).getD undef)] w35∧(
Ae prog F.Jo [.pointer x27,.agg #[.int .i64 x28.1,.int .i64 x28.2.1,.int .i64 x28.2.2.1,.int .i64 x28.2.2.2.1,.int .i64 x28.2.2.2.2.1,.int .i64 x28.2.2.2.2.2.1,.int .u16 x28.2.2.2.2.2.2.1,.int .i64 x28.2.2.2.2.2.2.2.1],.int .i64 stamp] w35 true [(true,[(.i .i64),(.i .i64),(.i .i64)]),(false,[.b])] fun r36 w37=>
Aw [] w37∧(
Au [.int .i64 r36.1.1,.int .i64 r36.1.2.1,.int .i64 r36.1.2.2.1] p34 0 w37 fun w38=>
Aw [] w38∧(
J22 (p34,r36.2.1.1,()) w38))))) (fun(z23:(Addr)×(Bool)×Unit) w24=> ∀_:Nat→Value,
Aj z23.2.1 (
Jg w24 fun w39=>
Aq n fun a40=>
ld1 .p (a40.add 18) w39 fun x41=>
A8 [(.i .i64),(.i .i64),(.i .i64)] z23.1 0 w39 fun x42=>
ld1 (.i .i64) (p19.add 5) w39 fun x43=>
ld1 (.i .u16) (p19.add 6) w39 fun x44=>
Ae prog F.Je [.pointer x41,.agg #[.int .i64 x42.1,.int .i64 x42.2.1,.int .i64 x42.2.2.1],.agg #[.int .i64 x43,.int .u16 x44]] w39 false [(false,[(.i .i64)])] fun r45 w46=>
Aw [(8,(p19.add 6),(w39.cell? (p19.add 6)).getD undef),(6,(p19.add 5),(w39.cell? (p19.add 5)).getD undef)] w46∧(
R ((0,()),()) w46)) (
R ((0,()),()) w24)))
theorem Og.eq(n:Option Addr)(f0:Int)(f1:Int)(f2:Int)(f3:Int)(f4:Int)(f5:Int)(f6:Int)(f7:Int)(stamp:Int)(w:World)(R:Value→WP):A7 prog Tryz.f126 (.s .n (.ct [(7,.a),(8,(.i .i64))] (.pl (.tk 0 (.tk 1 (.tk 2 (.tk 3 (.tk 4 (.tk 5 (.tk 6 (.tk 7 (.tk 8 (.two 9 13 (.tk 10 (.tk 11 (.tk 12 (.ef 13 [] (.ef 14 [3,7] (.tk 15 .z)))))) (.ef 9 [3,7] (.tk 10 (.tk 11 (.tk 12 (.ef 14 [] (.tk 15 .z))))))))))))))))) (.s (.s .n (.s .n (.s .n (.s .n (.s .n (.s .n (.s .n (.s .n (.s .n (.s .n (.s (.s .n (.ct [(14,.a),(15,.b)] (.pl (.tk 0 (.tk 1 (.tk 2 (.tk 3 (.tk 4 (.tk 5 (.two 6 10 (.tk 7 (.tk 8 (.tk 9 (.ef 10 [] (.ef 11 [3,4] (.tk 12 .z)))))) (.ef 6 [3,4] (.tk 7 (.tk 8 (.tk 9 (.ef 11 [] (.tk 12 .z)))))))))))))) (.s .n (.s (.pl (.tk 0 (.tk 1 (.tk 2 (.tk 3 (.tk 4 (.tk 5 (.tk 6 (.tk 7 (.tk 8 (.tk 9 (.ef 10 [3,4] .z)))))))))))) .n)))) .n))))))))))) .n))) [.pointer n,.iface T.Gl (.agg #[.int .i64 f0,.int .i64 f1,.int .i64 f2,.int .i64 f3,.int .i64 f4,.int .i64 f5,.int .u16 f6,.int .i64 f7]),.int .i64 stamp] w R=Og.wp n f0 f1 f2 f3 f4 f5 f6 f7 stamp w (fun r w=>R (encR false [(false,[(.i .i64)])] r) w):=by kernel_rfl
theorem Og.ok{n:Option Addr}{f0:Int}{f1:Int}{f2:Int}{f3:Int}{f4:Int}{f5:Int}{f6:Int}{f7:Int}{stamp:Int}{w:World}{R:TR [(false,[(.i .i64)])]→WP}(h:Og.wp n f0 f1 f2 f3 f4 f5 f6 f7 stamp w R):Ae prog F.Gm [.pointer n,.iface T.Gl (.agg #[.int .i64 f0,.int .i64 f1,.int .i64 f2,.int .i64 f3,.int .i64 f4,.int .i64 f5,.int .u16 f6,.int .i64 f7]),.int .i64 stamp] w false [(false,[(.i .i64)])] R:=
  Aop Aa Tryz.func126 (fun R=>Og.wp n f0 f1 f2 f3 f4 f5 f6 f7 stamp w R) (Og.eq n f0 f1 f2 f3 f4 f5 f6 f7 stamp w) rfl h
def Ar.wp(s:Option Addr)(f:Option Addr)(local_:Int)(w:World)(R:TR [(true,[(.i .i64),(.i .i64),(.i .i64),(.i .u16),(.i .i64)]),(false,[(.i .i64)])]→WP):Prop:=
Bf [.int .i64 0,.int .i64 0,.int .i64 0,.int .u16 0,.int .i64 0] T.Bg w fun p1 w2=>
Cc (fun(J3:((Bool)×Unit)→WP)=>
Aj (Option.isNone s) (
J3 (true,()) w2) (
J3 ((Option.isNone f),()) w2)) (fun(z4:(Bool)×Unit) w5=> ∀_:Nat→Value,
Aj z4.1 (
Au [.int .i64 0,.int .i64 0,.int .i64 0,.int .u16 0,.int .i64 0] p1 0 w5 fun w6=>
A8 [(.i .i64),(.i .i64),(.i .i64),(.i .u16),(.i .i64)] p1 0 w6 fun x7=>
R ((x7.1,x7.2.1,x7.2.2.1,x7.2.2.2.1,x7.2.2.2.2.1,()),(2,()),()) w6) (
Ae prog F.Ba [.pointer f] w5 false [(false,[.b])] fun r8 w9=>
Aj r8.1.1 (
Ae prog F.Oo [.pointer f,.int .i64 local_] w9 true [(true,[(.i .i64),(.i .i64),(.i .i64),(.i .u16),(.i .i64)]),(false,[(.i .i64)])] fun r10 w11=>
Au [.int .i64 r10.1.1,.int .i64 r10.1.2.1,.int .i64 r10.1.2.2.1,.int .u16 r10.1.2.2.2.1,.int .i64 r10.1.2.2.2.2.1] p1 0 w11 fun w12=>
A8 [(.i .i64),(.i .i64),(.i .i64),(.i .u16),(.i .i64)] p1 0 w12 fun x13=>
R ((x13.1,x13.2.1,x13.2.2.1,x13.2.2.2.1,x13.2.2.2.2.1,()),(r10.2.1.1,()),()) w12) (
Aq s fun a14=>
ld1 .b (a14.add 7) w9 fun x15=>
Aj (!x15) (
Au [.int .i64 0,.int .i64 0,.int .i64 0,.int .u16 0,.int .i64 0] p1 0 w9 fun w16=>
A8 [(.i .i64),(.i .i64),(.i .i64),(.i .u16),(.i .i64)] p1 0 w16 fun x17=>
R ((x17.1,x17.2.1,x17.2.2.1,x17.2.2.2.1,x17.2.2.2.2.1,()),(9,()),()) w16) (
Aj (decide (local_<0)) (
Au [.int .i64 0,.int .i64 0,.int .i64 0,.int .u16 0,.int .i64 0] p1 0 w9 fun w18=>
A8 [(.i .i64),(.i .i64),(.i .i64),(.i .u16),(.i .i64)] p1 0 w18 fun x19=>
R ((x19.1,x19.2.1,x19.2.2.1,x19.2.2.2.1,x19.2.2.2.2.1,()),(8,()),()) w18) (
Aj (decide (local_>1125899906842624)) (
Au [.int .i64 0,.int .i64 0,.int .i64 0,.int .u16 0,.int .i64 0] p1 0 w9 fun w20=>
A8 [(.i .i64),(.i .i64),(.i .i64),(.i .u16),(.i .i64)] p1 0 w20 fun x21=>
R ((x21.1,x21.2.1,x21.2.2.1,x21.2.2.2.1,x21.2.2.2.2.1,()),(8,()),()) w20) (
Aq s fun a22=>
ld1 (.i .i64) ((a22.add 1).add 1) w9 fun x23=>
Aj (decide ((wrap .i64 (local_+x23))<0)) (
Au [.int .i64 0,.int .i64 0,.int .i64 0,.int .u16 0,.int .i64 0] p1 0 w9 fun w24=>
A8 [(.i .i64),(.i .i64),(.i .i64),(.i .u16),(.i .i64)] p1 0 w24 fun x25=>
R ((x25.1,x25.2.1,x25.2.2.1,x25.2.2.2.1,x25.2.2.2.2.1,()),(8,()),()) w24) (
Aj (decide ((wrap .i64 (local_+x23))>1125899906842624)) (
Au [.int .i64 0,.int .i64 0,.int .i64 0,.int .u16 0,.int .i64 0] p1 0 w9 fun w26=>
A8 [(.i .i64),(.i .i64),(.i .i64),(.i .u16),(.i .i64)] p1 0 w26 fun x27=>
R ((x27.1,x27.2.1,x27.2.2.1,x27.2.2.2.1,x27.2.2.2.2.1,()),(8,()),()) w26) (
Jg w9 fun w28=>
Aq s fun a29=>
ld1 (.i .i64) ((a29.add 1).add 2) w28 fun x30=>
Aq s fun a31=>
A8 [(.i .i64),(.i .u16)] (a31.add 4) 0 w28 fun x32=>
Au [.int .i64 (wrap .i64 (local_+x23)),.int .i64 x30,.int .i64 x32.1,.int .u16 x32.2.1,.int .i64 3] p1 0 w28 fun w33=>
Aw [] w33∧(
A8 [(.i .i64),(.i .i64),(.i .i64),(.i .u16),(.i .i64)] p1 0 w33 fun x34=>
R ((x34.1,x34.2.1,x34.2.2.1,x34.2.2.2.1,x34.2.2.2.2.1,()),(0,()),()) w33)))))))))
theorem Ar.eq(s:Option Addr)(f:Option Addr)(local_:Int)(w:World)(R:Value→WP):A7 prog Tryz.f127 (.s .n (.s (.ct [(9,.b)] .n .n) (.s .n (.s .n (.s (.pl (.tk 0 (.tk 1 (.tk 2 (.tk 3 (.tk 4 (.tk 5 (.tk 6 (.tk 7 (.tk 8 (.tk 9 (.tk 10 (.ef 11 [5,9] (.tk 12 .z)))))))))))))) .n))))) [.pointer s,.pointer f,.int .i64 local_] w R=Ar.wp s f local_ w (fun r w=>R (encR true [(true,[(.i .i64),(.i .i64),(.i .i64),(.i .u16),(.i .i64)]),(false,[(.i .i64)])] r) w):=by kernel_rfl
theorem Ar.ok{s:Option Addr}{f:Option Addr}{local_:Int}{w:World}{R:TR [(true,[(.i .i64),(.i .i64),(.i .i64),(.i .u16),(.i .i64)]),(false,[(.i .i64)])]→WP}(h:Ar.wp s f local_ w R):Ae prog F.Ar [.pointer s,.pointer f,.int .i64 local_] w true [(true,[(.i .i64),(.i .i64),(.i .i64),(.i .u16),(.i .i64)]),(false,[(.i .i64)])] R:=
  Aop Aa Tryz.func127 (fun R=>Ar.wp s f local_ w R) (Ar.eq s f local_ w) rfl h
def Nr.wp(c:Option Addr)(raw:Int)(w:World)(R:TR []→WP):Prop:=
Aj (!(Option.isNone c)) (
Aq c fun a1=>
Au [.int .u32 raw] (a1.add 1) 0 w fun w2=>
Aq c fun a3=>
Au [.int .i64 (wrap .i64 raw)] (a3.add 2) 0 w2 fun w4=>
R (()) w4) (
R (()) w)
theorem Nr.eq(c:Option Addr)(raw:Int)(w:World)(R:Value→WP):A7 prog Tryz.f128 .n [.pointer c,.int .u32 raw] w R=Nr.wp c raw w (fun r w=>R (encR true [] r) w):=by kernel_rfl
theorem Nr.ok{c:Option Addr}{raw:Int}{w:World}{R:TR []→WP}(h:Nr.wp c raw w R):Ae prog F.Nr [.pointer c,.int .u32 raw] w true [] R:=
  Aop Aa Tryz.func128 (fun R=>Nr.wp c raw w R) (Nr.eq c raw w) rfl h
def Lh.wp(f:Option Addr)(boot:Int)(w:World)(R:TR []→WP):Prop:=
Aj (!(Option.isNone f)) (
Aq f fun a1=>
ld1 .p a1 w fun x2=>
Ae prog F.Hr [.pointer x2,.int .u16 boot] w true [] fun r3 w4=>
Ae prog F.Em [.pointer f] w4 true [] fun r5 w6=>
R (()) w6) (
R (()) w)
theorem Lh.eq(f:Option Addr)(boot:Int)(w:World)(R:Value→WP):A7 prog Tryz.f129 .n [.pointer f,.int .u16 boot] w R=Lh.wp f boot w (fun r w=>R (encR true [] r) w):=by kernel_rfl
theorem Lh.ok{f:Option Addr}{boot:Int}{w:World}{R:TR []→WP}(h:Lh.wp f boot w R):Ae prog F.Lh [.pointer f,.int .u16 boot] w true [] R:=
  Aop Aa Tryz.func129 (fun R=>Lh.wp f boot w R) (Lh.eq f boot w) rfl h
def Gf.wp(l:Option Addr)(w:World)(R:TR []→WP):Prop:=
Aj (!(Option.isNone l)) (
Aq l fun a1=>
Au [.int .i64 (Int.negSucc 0)] (a1.add 1) 0 w fun w2=>
Aq l fun a3=>
Au [.int .i64 (Int.negSucc 0)] (a3.add 2) 0 w2 fun w4=>
R (()) w4) (
R (()) w)
theorem Gf.eq(l:Option Addr)(w:World)(R:Value→WP):A7 prog Tryz.f130 .n [.pointer l] w R=Gf.wp l w (fun r w=>R (encR true [] r) w):=by kernel_rfl
theorem Gf.ok{l:Option Addr}{w:World}{R:TR []→WP}(h:Gf.wp l w R):Ae prog F.Gf [.pointer l] w true [] R:=
  Aop Aa Tryz.func130 (fun R=>Gf.wp l w R) (Gf.eq l w) rfl h
def Pe.wp(p:Option Addr)(w:World)(R:TR []→WP):Prop:=
Aj (!(Option.isNone p)) (
Aq p fun a1=>
ld1 (.i .i64) a1 w fun x2=>
Aq p fun a3=>
Au [.int .i64 x2,.int .i64 0,.int .i64 0,.bool false,.int .i64 0,.int .i64 0,.int .i64 0] a3 0 w fun w4=>
R (()) w4) (
R (()) w)
theorem Pe.eq(p:Option Addr)(w:World)(R:Value→WP):A7 prog Tryz.f131 .n [.pointer p] w R=Pe.wp p w (fun r w=>R (encR true [] r) w):=by kernel_rfl
theorem Pe.ok{p:Option Addr}{w:World}{R:TR []→WP}(h:Pe.wp p w R):Ae prog F.Pe [.pointer p] w true [] R:=
  Aop Aa Tryz.func131 (fun R=>Pe.wp p w R) (Pe.eq p w) rfl h
def Fe.wp(s:Option Addr)(w:World)(R:TR []→WP):Prop:=
Aj (!(Option.isNone s)) (
Aq s fun a1=>
ld1 (.i .i64) a1 w fun x2=>
Aq s fun a3=>
Au [.int .i64 x2,.int .i64 0,.int .i64 0,.int .i64 0,.int .i64 0,.int .u16 0,.int .i64 0,.bool false] a3 0 w fun w4=>
R (()) w4) (
R (()) w)
theorem Fe.eq(s:Option Addr)(w:World)(R:Value→WP):A7 prog Tryz.f132 .n [.pointer s] w R=Fe.wp s w (fun r w=>R (encR true [] r) w):=by kernel_rfl
theorem Fe.ok{s:Option Addr}{w:World}{R:TR []→WP}(h:Fe.wp s w R):Ae prog F.Fe [.pointer s] w true [] R:=
  Aop Aa Tryz.func132 (fun R=>Fe.wp s w R) (Fe.eq s w) rfl h
def Js.wp(b:Option Addr)(w:World)(R:TR []→WP):Prop:=
Aj (!(Option.isNone b)) (
Aq b fun a1=>
Au [.bool false,.int .i64 0,.int .u16 0,.int .i64 0,.int .u16 0,.int .i64 0,.int .i64 0] a1 0 w fun w2=>
R (()) w2) (
R (()) w)
theorem Js.eq(b:Option Addr)(w:World)(R:Value→WP):A7 prog Tryz.f133 .n [.pointer b] w R=Js.wp b w (fun r w=>R (encR true [] r) w):=by kernel_rfl
theorem Js.ok{b:Option Addr}{w:World}{R:TR []→WP}(h:Js.wp b w R):Ae prog F.Js [.pointer b] w true [] R:=
  Aop Aa Tryz.func133 (fun R=>Js.wp b w R) (Js.eq b w) rfl h
def Md.wp(l:Option Addr)(w:World)(R:TR []→WP):Prop:=
Aj (!(Option.isNone l)) (
Aq l fun a1=>
ld1 .p a1 w fun x2=>
Ae prog F.Dw [.pointer x2] w true [] fun r3 w4=>
Aq l fun a5=>
Au [.int .i64 0] (a5.add 1) 0 w4 fun w6=>
R (()) w6) (
R (()) w)
theorem Md.eq(l:Option Addr)(w:World)(R:Value→WP):A7 prog Tryz.f134 .n [.pointer l] w R=Md.wp l w (fun r w=>R (encR true [] r) w):=by kernel_rfl
theorem Md.ok{l:Option Addr}{w:World}{R:TR []→WP}(h:Md.wp l w R):Ae prog F.Md [.pointer l] w true [] R:=
  Aop Aa Tryz.func134 (fun R=>Md.wp l w R) (Md.eq l w) rfl h
def Eh.wp(r:Option Addr)(w:World)(R:TR []→WP):Prop:=
Aj (!(Option.isNone r)) (
Aq r fun a1=>
ld1 .sl a1 w fun x2=>
crK prog #[T.Zh] T.t0 (.slice x2.1 x2.2.1 x2.2.2) w fun w3=>
Aq r fun a4=>
Au [.int .i64 0] (a4.add 1) 0 w3 fun w5=>
Aq r fun a6=>
Au [.int .i64 0] (a6.add 2) 0 w5 fun w7=>
R (()) w7) (
R (()) w)
theorem Eh.eq(r:Option Addr)(w:World)(R:Value→WP):A7 prog Tryz.f135 .n [.pointer r] w R=Eh.wp r w (fun r w=>R (encR true [] r) w):=by kernel_rfl
theorem Eh.ok{r:Option Addr}{w:World}{R:TR []→WP}(h:Eh.wp r w R):Ae prog F.Eh [.pointer r] w true [] R:=
  Aop Aa Tryz.func135 (fun R=>Eh.wp r w R) (Eh.eq r w) rfl h
def Et.wp(b:Option Addr)(me:Int)(t0:Int)(t1:Int)(t2:Int)(t3:Int)(t4:Int)(tai:Int)(w:World)(R:TR [(true,[(.i .i64),(.i .u16),(.i .i64),(.i .u16),(.i .i64),(.i .i64)]),(false,[(.i .i64)])]→WP):Prop:=
Bf [.int .i64 t0,.int .i64 t1,.int .i64 t2,.int .u16 t3,.int .i64 t4] T.Bg w fun p1 w2=>
Bf [.int .i64 0,.int .u16 0,.int .i64 0,.int .u16 0,.int .i64 0,.int .i64 0] T.Bh w2 fun p3 w4=>
Aj (Option.isNone b) (
Au [.int .i64 0,.int .u16 0,.int .i64 0,.int .u16 0,.int .i64 0,.int .i64 0] p3 0 w4 fun w5=>
A8 [(.i .i64),(.i .u16),(.i .i64),(.i .u16),(.i .i64),(.i .i64)] p3 0 w5 fun x6=>
R ((x6.1,x6.2.1,x6.2.2.1,x6.2.2.2.1,x6.2.2.2.2.1,x6.2.2.2.2.2.1,()),(2,()),()) w5) (
Cc (fun(J7:((Addr)×Unit)→WP)=>
Jg w4 fun w10=>
Aq b fun a11=>
ld1 (.i .u16) ((a11.add 1).add 1) w10 fun x12=>
ld1 (.i .i64) (p1.add 2) w10 fun x13=>
ld1 (.i .u16) ((p1.add 2).add 1) w10 fun x14=>
ld1 (.i .i64) p1 w10 fun x15=>
(
Ae prog F.Qu [.int .u16 x12] w10 false [(false,[(.i .u16)])] fun r16 w17=>
Aw [(14,p1,(w10.cell? p1).getD undef),(12,((p1.add 2).add 1),(w10.cell? ((p1.add 2).add 1)).getD undef),(9,(p1.add 2),(w10.cell? (p1.add 2)).getD undef),(5,((a11.add 1).add 1),(w10.cell? ((a11.add 1).add 1)).getD undef)] w17∧(
Bf [.int .i64 0,.int .u16 0,.int .i64 0,.int .u16 0,.int .i64 0,.int .i64 0] T.Bh w17 fun p18 w19=>
Aw [(14,p1,(w10.cell? p1).getD undef),(12,((p1.add 2).add 1),(w10.cell? ((p1.add 2).add 1)).getD undef),(9,(p1.add 2),(w10.cell? (p1.add 2)).getD undef),(5,((a11.add 1).add 1),(w10.cell? ((a11.add 1).add 1)).getD undef)] w19∧(
Au [.int .i64 me,.int .u16 r16.1.1,.int .i64 x13,.int .u16 x14,.int .i64 x15,.int .i64 tai] p18 0 w19 fun w20=>
Aw [] w20∧(
J7 (p18,()) w20))))∧(
Bf [.int .i64 0,.int .u16 0,.int .i64 0,.int .u16 0,.int .i64 0,.int .i64 0] T.Bh w10 fun p21 w22=>
Aw [(14,p1,(w10.cell? p1).getD undef),(12,((p1.add 2).add 1),(w10.cell? ((p1.add 2).add 1)).getD undef),(9,(p1.add 2),(w10.cell? (p1.add 2)).getD undef),(5,((a11.add 1).add 1),(w10.cell? ((a11.add 1).add 1)).getD undef)] w22∧(
Ae prog F.Qu [.int .u16 x12] w22 false [(false,[(.i .u16)])] fun r23 w24=>
Aw [(14,p1,(w10.cell? p1).getD undef),(12,((p1.add 2).add 1),(w10.cell? ((p1.add 2).add 1)).getD undef),(9,(p1.add 2),(w10.cell? (p1.add 2)).getD undef)] w24∧(
Au [.int .i64 me,.int .u16 r23.1.1,.int .i64 x13,.int .u16 x14,.int .i64 x15,.int .i64 tai] p21 0 w24 fun w25=>
Aw [] w25∧(
J7 (p21,()) w25))))) (fun(z8:(Addr)×Unit) w9=> ∀_:Nat→Value,
A8 [(.i .i64),(.i .u16),(.i .i64),(.i .u16),(.i .i64),(.i .i64)] z8.1 0 w9 fun x26=>
Ae prog F.Ew [.iface T.Bh (.agg #[.int .i64 x26.1,.int .u16 x26.2.1,.int .i64 x26.2.2.1,.int .u16 x26.2.2.2.1,.int .i64 x26.2.2.2.2.1,.int .i64 x26.2.2.2.2.2.1])] w9 false [(false,[.b])] fun r27 w28=>
Aj (!r27.1.1) (
Au [.int .i64 0,.int .u16 0,.int .i64 0,.int .u16 0,.int .i64 0,.int .i64 0] p3 0 w28 fun w29=>
A8 [(.i .i64),(.i .u16),(.i .i64),(.i .u16),(.i .i64),(.i .i64)] p3 0 w29 fun x30=>
R ((x30.1,x30.2.1,x30.2.2.1,x30.2.2.2.1,x30.2.2.2.2.1,x30.2.2.2.2.2.1,()),(1,()),()) w29) (
Jg w28 fun w31=>
A8 [(.i .i64),(.i .u16),(.i .i64),(.i .u16),(.i .i64),(.i .i64)] z8.1 0 w31 fun x32=>
Aq b fun a33=>
Au [.bool true] a33 0 w31 fun w34=>
Aw [(2,(z8.1.add 0),(w31.cell? (z8.1.add 0)).getD undef),(2,(z8.1.add 1),(w31.cell? (z8.1.add 1)).getD undef),(2,(z8.1.add 2),(w31.cell? (z8.1.add 2)).getD undef),(2,(z8.1.add 3),(w31.cell? (z8.1.add 3)).getD undef),(2,(z8.1.add 4),(w31.cell? (z8.1.add 4)).getD undef),(2,(z8.1.add 5),(w31.cell? (z8.1.add 5)).getD undef)] w34∧(
Aq b fun a35=>
Au [.int .i64 x32.1,.int .u16 x32.2.1,.int .i64 x32.2.2.1,.int .u16 x32.2.2.2.1,.int .i64 x32.2.2.2.2.1,.int .i64 x32.2.2.2.2.2.1] (a35.add 1) 0 w34 fun w36=>
Aw [] w36∧(
A8 [(.i .i64),(.i .u16),(.i .i64),(.i .u16),(.i .i64),(.i .i64)] z8.1 0 w36 fun x37=>
Au [.int .i64 x37.1,.int .u16 x37.2.1,.int .i64 x37.2.2.1,.int .u16 x37.2.2.2.1,.int .i64 x37.2.2.2.2.1,.int .i64 x37.2.2.2.2.2.1] p3 0 w36 fun w38=>
A8 [(.i .i64),(.i .u16),(.i .i64),(.i .u16),(.i .i64),(.i .i64)] p3 0 w38 fun x39=>
R ((x39.1,x39.2.1,x39.2.2.1,x39.2.2.2.1,x39.2.2.2.2.1,x39.2.2.2.2.2.1,()),(0,()),()) w38)))))
theorem Et.eq(b:Option Addr)(me:Int)(t0:Int)(t1:Int)(t2:Int)(t3:Int)(t4:Int)(tai:Int)(w:World)(R:Value→WP):A7 prog Tryz.f136 (.s .n (.s .n (.ct [(10,.a)] (.pl (.tk 0 (.tk 1 (.tk 2 (.tk 3 (.tk 4 (.tk 5 (.tk 7 (.tk 8 (.tk 9 (.tk 10 (.tk 11 (.tk 12 (.tk 13 (.tk 14 (.tk 15 (.two 6 17 (.tk 16 (.ef 17 [] (.ef 18 [5,9,12,14] .z))) (.ef 6 [5] (.tk 16 (.ef 18 [9,12,14] .z)))))))))))))))))))) (.s .n (.s (.pl (.tk 0 (.tk 1 (.tk 2 (.tk 3 (.tk 4 (.ef 5 [] (.tk 6 (.tk 7 (.ef 8 [2] .z)))))))))) .n))))) [.pointer b,.int .i64 me,.agg #[.int .i64 t0,.int .i64 t1,.int .i64 t2,.int .u16 t3,.int .i64 t4],.int .i64 tai] w R=Et.wp b me t0 t1 t2 t3 t4 tai w (fun r w=>R (encR true [(true,[(.i .i64),(.i .u16),(.i .i64),(.i .u16),(.i .i64),(.i .i64)]),(false,[(.i .i64)])] r) w):=by kernel_rfl
theorem Et.ok{b:Option Addr}{me:Int}{t0:Int}{t1:Int}{t2:Int}{t3:Int}{t4:Int}{tai:Int}{w:World}{R:TR [(true,[(.i .i64),(.i .u16),(.i .i64),(.i .u16),(.i .i64),(.i .i64)]),(false,[(.i .i64)])]→WP}(h:Et.wp b me t0 t1 t2 t3 t4 tai w R):Ae prog F.Et [.pointer b,.int .i64 me,.agg #[.int .i64 t0,.int .i64 t1,.int .i64 t2,.int .u16 t3,.int .i64 t4],.int .i64 tai] w true [(true,[(.i .i64),(.i .u16),(.i .i64),(.i .u16),(.i .i64),(.i .i64)]),(false,[(.i .i64)])] R:=
  Aop Aa Tryz.func136 (fun R=>Et.wp b me t0 t1 t2 t3 t4 tai w R) (Et.eq b me t0 t1 t2 t3 t4 tai w) rfl h
def Ib.wp(n:Option Addr)(w:World)(R:TR [(false,[(.i .i64)])]→WP):Prop:=
Ae prog F.O7 [.pointer n] w false [(false,[.b])] fun r1 w2=>
Aj r1.1.1 (
R ((0,()),()) w2) (
Aq n fun a3=>
ld1 .p (a3.add 27) w2 fun x4=>
Ae prog F.Cj [.pointer x4,.iface T.Yr (.agg #[])] w2 false [(false,[(.i .i64)])] fun r5 w6=>
R ((r5.1.1,()),()) w6)
theorem Ib.eq(n:Option Addr)(w:World)(R:Value→WP):A7 prog Tryz.f137 .n [.pointer n] w R=Ib.wp n w (fun r w=>R (encR false [(false,[(.i .i64)])] r) w):=by kernel_rfl
theorem Ib.ok{n:Option Addr}{w:World}{R:TR [(false,[(.i .i64)])]→WP}(h:Ib.wp n w R):Ae prog F.Ib [.pointer n] w false [(false,[(.i .i64)])] R:=
  Aop Aa Tryz.func137 (fun R=>Ib.wp n w R) (Ib.eq n w) rfl h
def Xu.wp(b:Option Addr×Nat×Nat)(w:World)(R:TR [(false,[.p])]→WP):Prop:=
L9 ((Builtin.append_ #[T.Fh,T.Fh] T.Fh #[.slice none 0 0,.slice b.1 b.2.1 b.2.2]).run prog w) fun y1 w2=>
Bf [.slice y1.1 y1.2.1 y1.2.2,.int .i64 0] T.Adv w2 fun p3 w4=>
R ((some p3,()),()) w4
theorem Xu.eq(b:Option Addr×Nat×Nat)(w:World)(R:Value→WP):A7 prog Tryz.f138 .n [.slice b.1 b.2.1 b.2.2] w R=Xu.wp b w (fun r w=>R (encR false [(false,[.p])] r) w):=by kernel_rfl
theorem Xu.ok{b:Option Addr×Nat×Nat}{w:World}{R:TR [(false,[.p])]→WP}(h:Xu.wp b w R):Ae prog F.Xu [.slice b.1 b.2.1 b.2.2] w false [(false,[.p])] R:=
  Aop Aa Tryz.func138 (fun R=>Xu.wp b w R) (Xu.eq b w) rfl h
def Nj.wp(e:Option Addr)(size:Int)(w:World)(R:TR [(false,[(.i .u64)]),(false,[.b])]→WP):Prop:=
Aj (decide (size<0)) (
R ((0,()),(false,()),()) w) (
Aj (decide (size>8)) (
R ((0,()),(false,()),()) w) (
Ae prog F.Oj [.pointer e] w false [(false,[(.i .i64)])] fun r1 w2=>
Aj (decide (size>r1.1.1)) (
R ((0,()),(false,()),()) w2) (
Ci (fun(self3:((Int)×(Int)×Unit)→WP) (z4:(Int)×(Int)×Unit) w5=> ∀_:Nat→Value,
Aj (decide (z4.2.1<size)) (
Jg w5 fun w6=>
fJ 8 (
Aq e fun a7=>
ld1 .sl a7 w6 fun x8=>
Aq e fun a9=>
ld1 (.i .i64) (a9.add 1) w6 fun x10=>
Ny x8.1 x8.2.1 x10 fun a11=>
ld1 (.i .u8) (a11.add (x10.toNat*1)) w6 fun x12=>
Aq e fun a13=>
ld1 (.i .i64) (a13.add 1) w6 fun x14=>
Aq e fun a15=>
Au [.int .i64 (wrap .i64 (x14+1))] (a15.add 1) 0 w6 fun w16=>
self3 (Lm .or .u64 (Sz .u64 z4.1 8) (wrap .u64 x12),wrap .i64 (z4.2.1+1),()) w16)) (
R ((z4.1,()),(true,()),()) w5)) (0,0,()) w2)))
theorem Nj.eq(e:Option Addr)(size:Int)(w:World)(R:Value→WP):A7 prog Tryz.f139 (.s .n (.s .n (.s .n (.s (.s .n (.lp [(6,(.i .u64)),(20,(.i .i64))] (.s .n (.s .n (.s (.s (.pl (.tk 0 (.tk 1 (.tk 2 (.tk 3 (.tk 4 (.tk 5 (.tk 6 (.tk 7 (.tk 8 (.tk 9 (.tk 10 (.tk 11 (.tk 12 (.tk 13 (.tk 14 .z)))))))))))))))) .n) .n))))) .n)))) [.pointer e,.int .i64 size] w R=Nj.wp e size w (fun r w=>R (encR true [(false,[(.i .u64)]),(false,[.b])] r) w):=by kernel_rfl
theorem Nj.ok{e:Option Addr}{size:Int}{w:World}{R:TR [(false,[(.i .u64)]),(false,[.b])]→WP}(h:Nj.wp e size w R):Ae prog F.Nj [.pointer e,.int .i64 size] w true [(false,[(.i .u64)]),(false,[.b])] R:=
  Aop Aa Tryz.func139 (fun R=>Nj.wp e size w R) (Nj.eq e size w) rfl h
def Sr.wp(k:Int)(w:World)(R:TR [(false,[.any])]→WP):Prop:=
Aj (k==1) (
R ((.iface T.Dy (.agg #[.int .i64 0,.int .i64 0,.int .u16 0,.int .u16 0,.int .i64 0,.int .i64 0]),()),()) w) (
Aj (k==2) (
R ((.iface T.Gj (.agg #[.int .i64 0,.int .i64 0]),()),()) w) (
Aj (k==3) (
R ((.iface T.Gp (.agg #[.int .i64 0]),()),()) w) (
Aj (k==4) (
R ((.iface T.Ef (.agg #[.int .i64 0,.int .i64 0,.int .i64 0]),()),()) w) (
Aj (k==5) (
R ((.iface T.Gl (.agg #[.int .i64 0,.int .i64 0,.int .i64 0,.int .i64 0,.int .i64 0,.int .i64 0,.int .u16 0,.int .i64 0]),()),()) w) (
Aj (k==6) (
R ((.iface T.Bh (.agg #[.int .i64 0,.int .u16 0,.int .i64 0,.int .u16 0,.int .i64 0,.int .i64 0]),()),()) w) (
R ((.nilIface,()),()) w))))))
theorem Sr.eq(k:Int)(w:World)(R:Value→WP):A7 prog Tryz.f140 .n [.int .u64 k] w R=Sr.wp k w (fun r w=>R (encR false [(false,[.any])] r) w):=by kernel_rfl
theorem Sr.ok{k:Int}{w:World}{R:TR [(false,[.any])]→WP}(h:Sr.wp k w R):Ae prog F.Sr [.int .u64 k] w false [(false,[.any])] R:=
  Aop Aa Tryz.func140 (fun R=>Sr.wp k w R) (Sr.eq k w) rfl h
def Qr.wp(f0:Int)(f1:Int)(f2:Int)(f3:Int)(f4:Int)(f5:Int)(w:World)(R:TR [(false,[(.i .i64)])]→WP):Prop:=
Ae prog F.Dt [.agg #[.int .i64 f0,.int .u16 f1,.int .i64 f2,.int .u16 f3,.int .i64 f4,.int .i64 f5]] w false [(false,[.sl])] fun r1 w2=>
Ci (fun(self3:((Int)×(Int)×Unit)→WP) (z4:(Int)×(Int)×Unit) w5=> ∀_:Nat→Value,
Aj (decide (z4.2.1<(r1.1.1.2.1:Int))) (
Ny r1.1.1.1 r1.1.1.2.1 z4.2.1 fun a6=>
A8 [(.i .i64),(.i .i64),(.i .i64)] (a6.add (z4.2.1.toNat*3)) 0 w5 fun x7=>
Bf [.int .i64 0,.int .i64 0,.int .i64 0] T.Dl w5 fun p8 w9=>
Au [.int .i64 x7.1,.int .i64 x7.2.1,.int .i64 x7.2.2.1] p8 0 w9 fun w10=>
ld1 (.i .i64) p8 w10 fun x11=>
self3 (wrap .i64 (z4.1+x11),wrap .i64 (z4.2.1+1),()) w10) (
R ((z4.1,()),()) w5)) (0,0,()) w2
theorem Qr.eq(f0:Int)(f1:Int)(f2:Int)(f3:Int)(f4:Int)(f5:Int)(w:World)(R:Value→WP):A7 prog Tryz.f141 (.s .n (.s .n (.s (.s .n (.lp [(3,(.i .i64)),(9,(.i .i64))] .n)) .n))) [.iface T.Bh (.agg #[.int .i64 f0,.int .u16 f1,.int .i64 f2,.int .u16 f3,.int .i64 f4,.int .i64 f5])] w R=Qr.wp f0 f1 f2 f3 f4 f5 w (fun r w=>R (encR false [(false,[(.i .i64)])] r) w):=by kernel_rfl
theorem Qr.ok{f0:Int}{f1:Int}{f2:Int}{f3:Int}{f4:Int}{f5:Int}{w:World}{R:TR [(false,[(.i .i64)])]→WP}(h:Qr.wp f0 f1 f2 f3 f4 f5 w R):Ae prog F.Qo [.iface T.Bh (.agg #[.int .i64 f0,.int .u16 f1,.int .i64 f2,.int .u16 f3,.int .i64 f4,.int .i64 f5])] w false [(false,[(.i .i64)])] R:=
  Aop Aa Tryz.func141 (fun R=>Qr.wp f0 f1 f2 f3 f4 f5 w R) (Qr.eq f0 f1 f2 f3 f4 f5 w) rfl h
def Ry.wp(f0:Int)(f1:Int)(f2:Int)(f3:Int)(f4:Int)(f5:Int)(w:World)(R:TR [(false,[(.i .i64)])]→WP):Prop:=
Ae prog F.Dh [.agg #[.int .i64 f0,.int .i64 f1,.int .u16 f2,.int .u16 f3,.int .i64 f4,.int .i64 f5]] w false [(false,[.sl])] fun r1 w2=>
Ci (fun(self3:((Int)×(Int)×Unit)→WP) (z4:(Int)×(Int)×Unit) w5=> ∀_:Nat→Value,
Aj (decide (z4.2.1<(r1.1.1.2.1:Int))) (
Ny r1.1.1.1 r1.1.1.2.1 z4.2.1 fun a6=>
A8 [(.i .i64),(.i .i64),(.i .i64)] (a6.add (z4.2.1.toNat*3)) 0 w5 fun x7=>
Bf [.int .i64 0,.int .i64 0,.int .i64 0] T.Dl w5 fun p8 w9=>
Au [.int .i64 x7.1,.int .i64 x7.2.1,.int .i64 x7.2.2.1] p8 0 w9 fun w10=>
ld1 (.i .i64) p8 w10 fun x11=>
self3 (wrap .i64 (z4.1+x11),wrap .i64 (z4.2.1+1),()) w10) (
R ((z4.1,()),()) w5)) (0,0,()) w2
theorem Ry.eq(f0:Int)(f1:Int)(f2:Int)(f3:Int)(f4:Int)(f5:Int)(w:World)(R:Value→WP):A7 prog Tryz.f141 (.s .n (.s .n (.s (.s .n (.lp [(3,(.i .i64)),(9,(.i .i64))] .n)) .n))) [.iface T.Dy (.agg #[.int .i64 f0,.int .i64 f1,.int .u16 f2,.int .u16 f3,.int .i64 f4,.int .i64 f5])] w R=Ry.wp f0 f1 f2 f3 f4 f5 w (fun r w=>R (encR false [(false,[(.i .i64)])] r) w):=by kernel_rfl
theorem Ry.ok{f0:Int}{f1:Int}{f2:Int}{f3:Int}{f4:Int}{f5:Int}{w:World}{R:TR [(false,[(.i .i64)])]→WP}(h:Ry.wp f0 f1 f2 f3 f4 f5 w R):Ae prog F.Qo [.iface T.Dy (.agg #[.int .i64 f0,.int .i64 f1,.int .u16 f2,.int .u16 f3,.int .i64 f4,.int .i64 f5])] w false [(false,[(.i .i64)])] R:=
  Aop Aa Tryz.func141 (fun R=>Ry.wp f0 f1 f2 f3 f4 f5 w R) (Ry.eq f0 f1 f2 f3 f4 f5 w) rfl h
def Rn.wp(f0:Int)(f1:Int)(w:World)(R:TR [(false,[(.i .i64)])]→WP):Prop:=
Ae prog F.Ic [.agg #[.int .i64 f0,.int .i64 f1]] w false [(false,[.sl])] fun r1 w2=>
Ci (fun(self3:((Int)×(Int)×Unit)→WP) (z4:(Int)×(Int)×Unit) w5=> ∀_:Nat→Value,
Aj (decide (z4.2.1<(r1.1.1.2.1:Int))) (
Ny r1.1.1.1 r1.1.1.2.1 z4.2.1 fun a6=>
A8 [(.i .i64),(.i .i64),(.i .i64)] (a6.add (z4.2.1.toNat*3)) 0 w5 fun x7=>
Bf [.int .i64 0,.int .i64 0,.int .i64 0] T.Dl w5 fun p8 w9=>
Au [.int .i64 x7.1,.int .i64 x7.2.1,.int .i64 x7.2.2.1] p8 0 w9 fun w10=>
ld1 (.i .i64) p8 w10 fun x11=>
self3 (wrap .i64 (z4.1+x11),wrap .i64 (z4.2.1+1),()) w10) (
R ((z4.1,()),()) w5)) (0,0,()) w2
theorem Rn.eq(f0:Int)(f1:Int)(w:World)(R:Value→WP):A7 prog Tryz.f141 (.s .n (.s .n (.s (.s .n (.lp [(3,(.i .i64)),(9,(.i .i64))] .n)) .n))) [.iface T.Gj (.agg #[.int .i64 f0,.int .i64 f1])] w R=Rn.wp f0 f1 w (fun r w=>R (encR false [(false,[(.i .i64)])] r) w):=by kernel_rfl
theorem Rn.ok{f0:Int}{f1:Int}{w:World}{R:TR [(false,[(.i .i64)])]→WP}(h:Rn.wp f0 f1 w R):Ae prog F.Qo [.iface T.Gj (.agg #[.int .i64 f0,.int .i64 f1])] w false [(false,[(.i .i64)])] R:=
  Aop Aa Tryz.func141 (fun R=>Rn.wp f0 f1 w R) (Rn.eq f0 f1 w) rfl h
def Sj.wp(f0:Int)(w:World)(R:TR [(false,[(.i .i64)])]→WP):Prop:=
Ae prog F.D8 [.agg #[.int .i64 f0]] w false [(false,[.sl])] fun r1 w2=>
Ci (fun(self3:((Int)×(Int)×Unit)→WP) (z4:(Int)×(Int)×Unit) w5=> ∀_:Nat→Value,
Aj (decide (z4.2.1<(r1.1.1.2.1:Int))) (
Ny r1.1.1.1 r1.1.1.2.1 z4.2.1 fun a6=>
A8 [(.i .i64),(.i .i64),(.i .i64)] (a6.add (z4.2.1.toNat*3)) 0 w5 fun x7=>
Bf [.int .i64 0,.int .i64 0,.int .i64 0] T.Dl w5 fun p8 w9=>
Au [.int .i64 x7.1,.int .i64 x7.2.1,.int .i64 x7.2.2.1] p8 0 w9 fun w10=>
ld1 (.i .i64) p8 w10 fun x11=>
self3 (wrap .i64 (z4.1+x11),wrap .i64 (z4.2.1+1),()) w10) (
R ((z4.1,()),()) w5)) (0,0,()) w2
theorem Sj.eq(f0:Int)(w:World)(R:Value→WP):A7 prog Tryz.f141 (.s .n (.s .n (.s (.s .n (.lp [(3,(.i .i64)),(9,(.i .i64))] .n)) .n))) [.iface T.Gp (.agg #[.int .i64 f0])] w R=Sj.wp f0 w (fun r w=>R (encR false [(false,[(.i .i64)])] r) w):=by kernel_rfl
theorem Sj.ok{f0:Int}{w:World}{R:TR [(false,[(.i .i64)])]→WP}(h:Sj.wp f0 w R):Ae prog F.Qo [.iface T.Gp (.agg #[.int .i64 f0])] w false [(false,[(.i .i64)])] R:=
  Aop Aa Tryz.func141 (fun R=>Sj.wp f0 w R) (Sj.eq f0 w) rfl h
def Rh.wp(f0:Int)(f1:Int)(f2:Int)(w:World)(R:TR [(false,[(.i .i64)])]→WP):Prop:=
Ae prog F.He [.agg #[.int .i64 f0,.int .i64 f1,.int .i64 f2]] w false [(false,[.sl])] fun r1 w2=>
Ci (fun(self3:((Int)×(Int)×Unit)→WP) (z4:(Int)×(Int)×Unit) w5=> ∀_:Nat→Value,
Aj (decide (z4.2.1<(r1.1.1.2.1:Int))) (
Ny r1.1.1.1 r1.1.1.2.1 z4.2.1 fun a6=>
A8 [(.i .i64),(.i .i64),(.i .i64)] (a6.add (z4.2.1.toNat*3)) 0 w5 fun x7=>
Bf [.int .i64 0,.int .i64 0,.int .i64 0] T.Dl w5 fun p8 w9=>
Au [.int .i64 x7.1,.int .i64 x7.2.1,.int .i64 x7.2.2.1] p8 0 w9 fun w10=>
ld1 (.i .i64) p8 w10 fun x11=>
self3 (wrap .i64 (z4.1+x11),wrap .i64 (z4.2.1+1),()) w10) (
R ((z4.1,()),()) w5)) (0,0,()) w2
theorem Rh.eq(f0:Int)(f1:Int)(f2:Int)(w:World)(R:Value→WP):A7 prog Tryz.f141 (.s .n (.s .n (.s (.s .n (.lp [(3,(.i .i64)),(9,(.i .i64))] .n)) .n))) [.iface T.Ef (.agg #[.int .i64 f0,.int .i64 f1,.int .i64 f2])] w R=Rh.wp f0 f1 f2 w (fun r w=>R (encR false [(false,[(.i .i64)])] r) w):=by kernel_rfl
theorem Rh.ok{f0:Int}{f1:Int}{f2:Int}{w:World}{R:TR [(false,[(.i .i64)])]→WP}(h:Rh.wp f0 f1 f2 w R):Ae prog F.Qo [.iface T.Ef (.agg #[.int .i64 f0,.int .i64 f1,.int .i64 f2])] w false [(false,[(.i .i64)])] R:=
  Aop Aa Tryz.func141 (fun R=>Rh.wp f0 f1 f2 w R) (Rh.eq f0 f1 f2 w) rfl h
def Rf.wp(f0:Int)(f1:Int)(f2:Int)(f3:Int)(f4:Int)(f5:Int)(f6:Int)(f7:Int)(w:World)(R:TR [(false,[(.i .i64)])]→WP):Prop:=
Ae prog F.G7 [.agg #[.int .i64 f0,.int .i64 f1,.int .i64 f2,.int .i64 f3,.int .i64 f4,.int .i64 f5,.int .u16 f6,.int .i64 f7]] w false [(false,[.sl])] fun r1 w2=>
Ci (fun(self3:((Int)×(Int)×Unit)→WP) (z4:(Int)×(Int)×Unit) w5=> ∀_:Nat→Value,
Aj (decide (z4.2.1<(r1.1.1.2.1:Int))) (
Ny r1.1.1.1 r1.1.1.2.1 z4.2.1 fun a6=>
A8 [(.i .i64),(.i .i64),(.i .i64)] (a6.add (z4.2.1.toNat*3)) 0 w5 fun x7=>
Bf [.int .i64 0,.int .i64 0,.int .i64 0] T.Dl w5 fun p8 w9=>
Au [.int .i64 x7.1,.int .i64 x7.2.1,.int .i64 x7.2.2.1] p8 0 w9 fun w10=>
ld1 (.i .i64) p8 w10 fun x11=>
self3 (wrap .i64 (z4.1+x11),wrap .i64 (z4.2.1+1),()) w10) (
R ((z4.1,()),()) w5)) (0,0,()) w2
theorem Rf.eq(f0:Int)(f1:Int)(f2:Int)(f3:Int)(f4:Int)(f5:Int)(f6:Int)(f7:Int)(w:World)(R:Value→WP):A7 prog Tryz.f141 (.s .n (.s .n (.s (.s .n (.lp [(3,(.i .i64)),(9,(.i .i64))] .n)) .n))) [.iface T.Gl (.agg #[.int .i64 f0,.int .i64 f1,.int .i64 f2,.int .i64 f3,.int .i64 f4,.int .i64 f5,.int .u16 f6,.int .i64 f7])] w R=Rf.wp f0 f1 f2 f3 f4 f5 f6 f7 w (fun r w=>R (encR false [(false,[(.i .i64)])] r) w):=by kernel_rfl
theorem Rf.ok{f0:Int}{f1:Int}{f2:Int}{f3:Int}{f4:Int}{f5:Int}{f6:Int}{f7:Int}{w:World}{R:TR [(false,[(.i .i64)])]→WP}(h:Rf.wp f0 f1 f2 f3 f4 f5 f6 f7 w R):Ae prog F.Qo [.iface T.Gl (.agg #[.int .i64 f0,.int .i64 f1,.int .i64 f2,.int .i64 f3,.int .i64 f4,.int .i64 f5,.int .u16 f6,.int .i64 f7])] w false [(false,[(.i .i64)])] R:=
  Aop Aa Tryz.func141 (fun R=>Rf.wp f0 f1 f2 f3 f4 f5 f6 f7 w R) (Rf.eq f0 f1 f2 f3 f4 f5 f6 f7 w) rfl h
def Xy.wp(b:Option Addr×Nat×Nat)(w:World)(R:TR [(false,[.sl]),(false,[.b])]→WP):Prop:=
Aj (decide ((b.2.1:Int)<2)) (
R (((none,0,0),()),(false,()),()) w) (
Ae prog F.Ko [.slice b.1 b.2.1 b.2.2] w false [(false,[(.i .u16)])] fun r1 w2=>
Aj (r1.1.1 !=0) (
R (((none,0,0),()),(false,()),()) w2) (
sQ 0 (wrap .i64 ((b.2.1:Int)-2)) b.2.2 (
L9 ((Builtin.append_ #[T.Fh,T.Fh] T.Fh #[.slice none 0 0,.slice (dG b.1 b.2.2 (Int.toNat 0) 1) ((Int.toNat (wrap .i64 ((b.2.1:Int)-2)))-(Int.toNat 0)) (b.2.2-Int.toNat 0)]).run prog w2) fun y3 w4=>
R (((y3.1,y3.2.1,y3.2.2),()),(true,()),()) w4)))
theorem Xy.eq(b:Option Addr×Nat×Nat)(w:World)(R:Value→WP):A7 prog Tryz.f142 .n [.slice b.1 b.2.1 b.2.2] w R=Xy.wp b w (fun r w=>R (encR true [(false,[.sl]),(false,[.b])] r) w):=by kernel_rfl
theorem Xy.ok{b:Option Addr×Nat×Nat}{w:World}{R:TR [(false,[.sl]),(false,[.b])]→WP}(h:Xy.wp b w R):Ae prog F.Xy [.slice b.1 b.2.1 b.2.2] w true [(false,[.sl]),(false,[.b])] R:=
  Aop Aa Tryz.func142 (fun R=>Xy.wp b w R) (Xy.eq b w) rfl h
def Qq.wp(f0:Int)(f1:Int)(f2:Int)(f3:Int)(f4:Int)(f5:Int)(n:Option Addr×Nat×Nat)(w:World)(R:TR [(false,[.any])]→WP):Prop:=
Bf [.slice n.1 n.2.1 n.2.2] T.Ux w fun p1 w2=>
Ae prog F.Dp [.int .i64 0,.pointer (some p1)] w2 false [(false,[(.i .i64)])] fun r3 w4=>
Ae prog F.Po [.int .i64 1,.pointer (some p1)] w4 false [(false,[(.i .u16)])] fun r5 w6=>
Ae prog F.Dp [.int .i64 2,.pointer (some p1)] w6 false [(false,[(.i .i64)])] fun r7 w8=>
Ae prog F.Po [.int .i64 3,.pointer (some p1)] w8 false [(false,[(.i .u16)])] fun r9 w10=>
Ae prog F.Dp [.int .i64 4,.pointer (some p1)] w10 false [(false,[(.i .i64)])] fun r11 w12=>
Ae prog F.Dp [.int .i64 5,.pointer (some p1)] w12 false [(false,[(.i .i64)])] fun r13 w14=>
R ((.iface T.Bh (.agg #[.int .i64 r3.1.1,.int .u16 r5.1.1,.int .i64 r7.1.1,.int .u16 r9.1.1,.int .i64 r11.1.1,.int .i64 r13.1.1]),()),()) w14
theorem Qq.eq(f0:Int)(f1:Int)(f2:Int)(f3:Int)(f4:Int)(f5:Int)(n:Option Addr×Nat×Nat)(w:World)(R:Value→WP):A7 prog Tryz.f143 .n [.iface T.Bh (.agg #[.int .i64 f0,.int .u16 f1,.int .i64 f2,.int .u16 f3,.int .i64 f4,.int .i64 f5]),.slice n.1 n.2.1 n.2.2] w R=Qq.wp f0 f1 f2 f3 f4 f5 n w (fun r w=>R (encR false [(false,[.any])] r) w):=by kernel_rfl
theorem Qq.ok{f0:Int}{f1:Int}{f2:Int}{f3:Int}{f4:Int}{f5:Int}{n:Option Addr×Nat×Nat}{w:World}{R:TR [(false,[.any])]→WP}(h:Qq.wp f0 f1 f2 f3 f4 f5 n w R):Ae prog F.Qn [.iface T.Bh (.agg #[.int .i64 f0,.int .u16 f1,.int .i64 f2,.int .u16 f3,.int .i64 f4,.int .i64 f5]),.slice n.1 n.2.1 n.2.2] w false [(false,[.any])] R:=
  Aop Aa Tryz.func143 (fun R=>Qq.wp f0 f1 f2 f3 f4 f5 n w R) (Qq.eq f0 f1 f2 f3 f4 f5 n w) rfl h
def Rj.wp(f0:Int)(f1:Int)(f2:Int)(f3:Int)(f4:Int)(f5:Int)(n:Option Addr×Nat×Nat)(w:World)(R:TR [(false,[.any])]→WP):Prop:=
Bf [.slice n.1 n.2.1 n.2.2] T.Ux w fun p1 w2=>
Ae prog F.Dp [.int .i64 0,.pointer (some p1)] w2 false [(false,[(.i .i64)])] fun r3 w4=>
Ae prog F.Dp [.int .i64 1,.pointer (some p1)] w4 false [(false,[(.i .i64)])] fun r5 w6=>
Ae prog F.Po [.int .i64 2,.pointer (some p1)] w6 false [(false,[(.i .u16)])] fun r7 w8=>
Ae prog F.Po [.int .i64 3,.pointer (some p1)] w8 false [(false,[(.i .u16)])] fun r9 w10=>
Ae prog F.Dp [.int .i64 4,.pointer (some p1)] w10 false [(false,[(.i .i64)])] fun r11 w12=>
Ae prog F.Dp [.int .i64 5,.pointer (some p1)] w12 false [(false,[(.i .i64)])] fun r13 w14=>
R ((.iface T.Dy (.agg #[.int .i64 r3.1.1,.int .i64 r5.1.1,.int .u16 r7.1.1,.int .u16 r9.1.1,.int .i64 r11.1.1,.int .i64 r13.1.1]),()),()) w14
theorem Rj.eq(f0:Int)(f1:Int)(f2:Int)(f3:Int)(f4:Int)(f5:Int)(n:Option Addr×Nat×Nat)(w:World)(R:Value→WP):A7 prog Tryz.f143 .n [.iface T.Dy (.agg #[.int .i64 f0,.int .i64 f1,.int .u16 f2,.int .u16 f3,.int .i64 f4,.int .i64 f5]),.slice n.1 n.2.1 n.2.2] w R=Rj.wp f0 f1 f2 f3 f4 f5 n w (fun r w=>R (encR false [(false,[.any])] r) w):=by kernel_rfl
theorem Rj.ok{f0:Int}{f1:Int}{f2:Int}{f3:Int}{f4:Int}{f5:Int}{n:Option Addr×Nat×Nat}{w:World}{R:TR [(false,[.any])]→WP}(h:Rj.wp f0 f1 f2 f3 f4 f5 n w R):Ae prog F.Qn [.iface T.Dy (.agg #[.int .i64 f0,.int .i64 f1,.int .u16 f2,.int .u16 f3,.int .i64 f4,.int .i64 f5]),.slice n.1 n.2.1 n.2.2] w false [(false,[.any])] R:=
  Aop Aa Tryz.func143 (fun R=>Rj.wp f0 f1 f2 f3 f4 f5 n w R) (Rj.eq f0 f1 f2 f3 f4 f5 n w) rfl h
def Rz.wp(f0:Int)(f1:Int)(n:Option Addr×Nat×Nat)(w:World)(R:TR [(false,[.any])]→WP):Prop:=
Bf [.slice n.1 n.2.1 n.2.2] T.Ux w fun p1 w2=>
Ae prog F.Dp [.int .i64 0,.pointer (some p1)] w2 false [(false,[(.i .i64)])] fun r3 w4=>
Ae prog F.Dp [.int .i64 1,.pointer (some p1)] w4 false [(false,[(.i .i64)])] fun r5 w6=>
R ((.iface T.Gj (.agg #[.int .i64 r3.1.1,.int .i64 r5.1.1]),()),()) w6
theorem Rz.eq(f0:Int)(f1:Int)(n:Option Addr×Nat×Nat)(w:World)(R:Value→WP):A7 prog Tryz.f143 .n [.iface T.Gj (.agg #[.int .i64 f0,.int .i64 f1]),.slice n.1 n.2.1 n.2.2] w R=Rz.wp f0 f1 n w (fun r w=>R (encR false [(false,[.any])] r) w):=by kernel_rfl
theorem Rz.ok{f0:Int}{f1:Int}{n:Option Addr×Nat×Nat}{w:World}{R:TR [(false,[.any])]→WP}(h:Rz.wp f0 f1 n w R):Ae prog F.Qn [.iface T.Gj (.agg #[.int .i64 f0,.int .i64 f1]),.slice n.1 n.2.1 n.2.2] w false [(false,[.any])] R:=
  Aop Aa Tryz.func143 (fun R=>Rz.wp f0 f1 n w R) (Rz.eq f0 f1 n w) rfl h
end Go.Proofs.YticgocmhmffneaaGreatDoor
