import Derived.Test.YticgocmhmffneaaGreatDoorNm
namespace Go.Proofs.YticgocmhmffneaaGreatDoor
open Go.Eng Tryz
open Go.IntKind (wrap)
set_option linter.unusedSimpArgs false
set_option linter.unusedVariables false
set_option maxRecDepth 100000
set_option maxHeartbeats 8000000
def law27_NetNil.wp(i:Int)(b:Option Addr×Nat×Nat)(s:ByteArray)(w:World)(R:TR [(false,[.b])]→WP):Prop:=
Ae prog F.law27_alive [] w false [(false,[.b])] fun r1 w2=>
Aj (!r1.1.1) (
R ((false,()),()) w2) (
Aj (decide ((b.2.1:Int)>200)) (
R ((true,()),()) w2) (
Aj (decide ((s.size:Int)>200)) (
R ((true,()),()) w2) (
Ae prog F.Bb [.pointer none,.int .i64 i] w2 true [(true,[(.i .i64),(.i .i64),(.i .i64),(.i .u16),(.i .i64)]),(false,[(.i .i64)])] fun r3 w4=>
Bf [.int .i64 0,.int .i64 0,.int .i64 0,.int .u16 0,.int .i64 0] T.Bg w4 fun p5 w6=>
Au [.int .i64 r3.1.1,.int .i64 r3.1.2.1,.int .i64 r3.1.2.2.1,.int .u16 r3.1.2.2.2.1,.int .i64 r3.1.2.2.2.2.1] p5 0 w6 fun w7=>
Ae prog F.Cu [.pointer none,.int .i64 i,.string s] w7 true [(false,[(.i .i64)]),(false,[(.i .i64)])] fun r8 w9=>
Ae prog F.Cq [.pointer none,.int .i64 i] w9 true [(true,[(.i .i64),.s,(.i .i64),(.i .i64),(.i .i64),(.i .i64),(.i .u16),(.i .i64)]),(false,[.b])] fun r10 w11=>
Bf [.int .i64 0,.string ByteArray.empty,.int .i64 0,.int .i64 0,.int .i64 0,.int .i64 0,.int .u16 0,.int .i64 0] T.U1 w11 fun p12 w13=>
Au [.int .i64 r10.1.1,.string r10.1.2.1,.int .i64 r10.1.2.2.1,.int .i64 r10.1.2.2.2.1,.int .i64 r10.1.2.2.2.2.1,.int .i64 r10.1.2.2.2.2.2.1,.int .u16 r10.1.2.2.2.2.2.2.1,.int .i64 r10.1.2.2.2.2.2.2.2.1] p12 0 w13 fun w14=>
Ae prog F.Cx [.pointer none,.int .i64 i] w14 true [(true,[(.i .i64),(.i .i64),(.i .i64),(.i .i64),(.i .i64),(.i .i64)]),(false,[(.i .i64)]),(false,[(.i .i64)])] fun Zb w16=>
Bf [.int .i64 0,.int .i64 0,.int .i64 0,.int .i64 0,.int .i64 0,.int .i64 0] T.Ow w16 fun p17 w18=>
Au [.int .i64 Zb.1.1,.int .i64 Zb.1.2.1,.int .i64 Zb.1.2.2.1,.int .i64 Zb.1.2.2.2.1,.int .i64 Zb.1.2.2.2.2.1,.int .i64 Zb.1.2.2.2.2.2.1] p17 0 w18 fun w19=>
Ae prog F.Ct [.pointer none,.int .i64 i] w19 true [(true,[(.i .u16),(.i .u16)]),(false,[.b])] fun r20 w21=>
Bf [.int .u16 0,.int .u16 0] T.Ti w21 fun p22 w23=>
Au [.int .u16 r20.1.1,.int .u16 r20.1.2.1] p22 0 w23 fun w24=>
Ae prog F.Cz [.pointer none] w24 true [(false,[(.i .i64)]),(false,[.b])] fun r25 w26=>
Ae prog F.Bw [.pointer none,.int .i64 0,.int .i64 1,.bool true] w26 false [(false,[(.i .i64)])] fun r27 w28=>
Aj (r27.1.1 !=2) (
R ((false,()),()) w28) (
Ae prog F.Ck [.pointer none,.int .i64 i,.int .u32 1] w28 false [(false,[(.i .i64)])] fun r29 w30=>
Aj (r29.1.1 !=2) (
R ((false,()),()) w30) (
Ae prog F.Cv [.pointer none,.int .i64 i] w30 false [(false,[(.i .i64)])] fun r31 w32=>
Aj (r31.1.1 !=2) (
R ((false,()),()) w32) (
Ae prog F.Ca [.pointer none,.int .i64 i,.slice b.1 b.2.1 b.2.2] w32 false [(false,[(.i .i64)])] fun r33 w34=>
Aj (r33.1.1 !=2) (
R ((false,()),()) w34) (
Ae prog F.Bz [.pointer none,.agg #[.slice none 0 0,.slice none 0 0,.slice none 0 0,.slice none 0 0]] w34 false [(false,[(.i .i64)])] fun r35 w36=>
Aj (r35.1.1 !=2) (
R ((false,()),()) w36) (
Ae prog F.Cw [.pointer none,.int .i64 i,.int .i64 1] w36 false [(false,[(.i .i64)])] fun r37 w38=>
Aj (r37.1.1 !=2) (
R ((false,()),()) w38) (
Ae prog F.Bo [.pointer none] w38 false [(false,[(.i .i64)])] fun r39 w40=>
Aj (r39.1.1 !=0) (
R ((false,()),()) w40) (
Ae prog F.Cn [.pointer none] w40 false [(false,[(.i .u64)])] fun r41 w42=>
Aj (r41.1.1 !=0) (
R ((false,()),()) w42) (
Ae prog F.Co [.pointer none] w42 false [(false,[.sl])] fun r43 w44=>
Aj ((r43.1.1.2.1:Int) !=0) (
R ((false,()),()) w44) (
Aj (r3.2.1.1==2) (
Aj (r8.2.1.1==2) (
Aj (!r10.2.1.1) (
Aj (Zb.2.2.1.1==2) (
Aj (!r20.2.1.1) (
Aj (!r25.2.1.1) (
Ae prog F.Br [.pointer none,.int .i64 i] w44 false [(true,[.b,(.i .u16),(.i .i64),(.i .i64),.b,.b,(.i .i64),(.i .i64),(.i .i64),.b,(.i .i64),(.i .i64)])] fun r45 w46=>
R ((((r45.1.1==false)&&((r45.1.2.1==0)&&((r45.1.2.2.1==0)&&((r45.1.2.2.2.1==0)&&((r45.1.2.2.2.2.1==false)&&((r45.1.2.2.2.2.2.1==false)&&((r45.1.2.2.2.2.2.2.1==0)&&((r45.1.2.2.2.2.2.2.2.1==0)&&((r45.1.2.2.2.2.2.2.2.2.1==0)&&((r45.1.2.2.2.2.2.2.2.2.2.1==false)&&((r45.1.2.2.2.2.2.2.2.2.2.2.1==0)&&((r45.1.2.2.2.2.2.2.2.2.2.2.2.1==0)&&true)))))))))))),()),()) w46) (
R ((false,()),()) w44)) (
R ((false,()),()) w44)) (
R ((false,()),()) w44)) (
R ((false,()),()) w44)) (
R ((false,()),()) w44)) (
R ((false,()),()) w44)))))))))))))
theorem law27_NetNil.eq(i:Int)(b:Option Addr×Nat×Nat)(s:ByteArray)(w:World)(R:Value→WP):Aw prog Tryz.f11 .n [.int .i64 i,.slice b.1 b.2.1 b.2.2,.string s] w R=law27_NetNil.wp i b s w (fun r w=>R (encR false [(false,[.b])] r) w):=by kernel_rfl
theorem law27_NetNil.ok{i:Int}{b:Option Addr×Nat×Nat}{s:ByteArray}{w:World}{R:TR [(false,[.b])]→WP}(h:law27_NetNil.wp i b s w R):Ae prog F.law27_NetNil [.int .i64 i,.slice b.1 b.2.1 b.2.2,.string s] w false [(false,[.b])] R:=
  Aop Aa Tryz.func11 (fun R=>law27_NetNil.wp i b s w R) (law27_NetNil.eq i b s w) rfl h
def Dm.wp(s0:Int)(s1:Int)(s2:Int)(s3:Int)(s4:Int)(s5:Int)(s6:Int)(s7:Int)(s8:Int)(s9:Int)(s10:Option Addr×Nat×Nat)(w:World)(R:TR [(false,[.b])]→WP):Prop:=
Bf [.int .i64 s0,.int .i64 s1,.int .i64 s2,.int .i64 s3,.int .i64 s4,.int .i64 s5,.int .i64 s6,.int .i64 s7,.int .i64 s8,.int .i64 s9,.slice s10.1 s10.2.1 s10.2.2] T.Gz w fun p1 w2=>
ld1 (.i .i64) p1 w2 fun x3=>
Aj (decide (x3<1)) (
R ((false,()),()) w2) (
ld1 (.i .i64) p1 w2 fun x4=>
Aj (decide (x4>64)) (
R ((false,()),()) w2) (
Ci (fun(self5:((Int)×Unit)→WP) (z6:(Int)×Unit) w7=> ∀_:Nat→Value,
ld1 (.i .i64) p1 w7 fun x8=>
Aj (decide (z6.1<x8)) (
A8 [(.i .i64),(.i .i64),(.i .i64),(.i .i64),(.i .i64),(.i .i64),(.i .i64),(.i .i64),(.i .i64),(.i .i64),.sl] p1 0 w7 fun x9=>
Ae prog F.Dq [.agg #[.int .i64 x9.1,.int .i64 x9.2.1,.int .i64 x9.2.2.1,.int .i64 x9.2.2.2.1,.int .i64 x9.2.2.2.2.1,.int .i64 x9.2.2.2.2.2.1,.int .i64 x9.2.2.2.2.2.2.1,.int .i64 x9.2.2.2.2.2.2.2.1,.int .i64 x9.2.2.2.2.2.2.2.2.1,.int .i64 x9.2.2.2.2.2.2.2.2.2.1,.slice x9.2.2.2.2.2.2.2.2.2.2.1.1 x9.2.2.2.2.2.2.2.2.2.2.1.2.1 x9.2.2.2.2.2.2.2.2.2.2.1.2.2],.int .i64 z6.1] w7 false [(true,[(.i .i64),(.i .i64),(.i .i64),(.i .i64),(.i .i64),(.i .i64),(.i .i64),(.i .i64),(.i .i64),(.i .i64),.b])] fun r10 w11=>
Ae prog F.C8 [.agg #[.int .i64 r10.1.1,.int .i64 r10.1.2.1,.int .i64 r10.1.2.2.1,.int .i64 r10.1.2.2.2.1,.int .i64 r10.1.2.2.2.2.1,.int .i64 r10.1.2.2.2.2.2.1,.int .i64 r10.1.2.2.2.2.2.2.1,.int .i64 r10.1.2.2.2.2.2.2.2.1,.int .i64 r10.1.2.2.2.2.2.2.2.2.1,.int .i64 r10.1.2.2.2.2.2.2.2.2.2.1,.bool r10.1.2.2.2.2.2.2.2.2.2.2.1]] w11 false [(false,[.b])] fun r12 w13=>
Aj (!r12.1.1) (
R ((false,()),()) w13) (
self5 (wrap .i64 (z6.1+1),()) w13)) (
R ((true,()),()) w7)) (0,()) w2))
theorem Dm.eq(s0:Int)(s1:Int)(s2:Int)(s3:Int)(s4:Int)(s5:Int)(s6:Int)(s7:Int)(s8:Int)(s9:Int)(s10:Option Addr×Nat×Nat)(w:World)(R:Value→WP):Aw prog Tryz.f16 (.s .n (.s .n (.s (.s .n (.lp [(3,(.i .i64))] .n)) .n))) [.agg #[.int .i64 s0,.int .i64 s1,.int .i64 s2,.int .i64 s3,.int .i64 s4,.int .i64 s5,.int .i64 s6,.int .i64 s7,.int .i64 s8,.int .i64 s9,.slice s10.1 s10.2.1 s10.2.2]] w R=Dm.wp s0 s1 s2 s3 s4 s5 s6 s7 s8 s9 s10 w (fun r w=>R (encR false [(false,[.b])] r) w):=by kernel_rfl
theorem Dm.ok{s0:Int}{s1:Int}{s2:Int}{s3:Int}{s4:Int}{s5:Int}{s6:Int}{s7:Int}{s8:Int}{s9:Int}{s10:Option Addr×Nat×Nat}{w:World}{R:TR [(false,[.b])]→WP}(h:Dm.wp s0 s1 s2 s3 s4 s5 s6 s7 s8 s9 s10 w R):Ae prog F.Dm [.agg #[.int .i64 s0,.int .i64 s1,.int .i64 s2,.int .i64 s3,.int .i64 s4,.int .i64 s5,.int .i64 s6,.int .i64 s7,.int .i64 s8,.int .i64 s9,.slice s10.1 s10.2.1 s10.2.2]] w false [(false,[.b])] R:=
  Aop Aa Tryz.func16 (fun R=>Dm.wp s0 s1 s2 s3 s4 s5 s6 s7 s8 s9 s10 w R) (Dm.eq s0 s1 s2 s3 s4 s5 s6 s7 s8 s9 s10 w) rfl h
def D7.wp(s0:Int)(s1:Int)(s2:Int)(s3:Int)(s4:Int)(s5:Int)(s6:Int)(s7:Int)(s8:Int)(s9:Int)(s10:Option Addr×Nat×Nat)(leaps:Option Addr)(w:World)(R:TR [(false,[.p]),(false,[(.i .i64)])]→WP):Prop:=
Bf [.int .i64 s0,.int .i64 s1,.int .i64 s2,.int .i64 s3,.int .i64 s4,.int .i64 s5,.int .i64 s6,.int .i64 s7,.int .i64 s8,.int .i64 s9,.slice s10.1 s10.2.1 s10.2.2] T.Jw w fun p1 w2=>
ld1 (.i .i64) p1 w2 fun x3=>
Ae prog F.Dg [.int .i64 x3] w2 true [(false,[.p]),(false,[(.i .i64)])] fun r4 w5=>
Aj (r4.2.1.1 !=0) (
R ((none,()),(r4.2.1.1,()),()) w5) (
ld1 .sl (p1.add 10) w5 fun x6=>
L9 ((Builtin.append_ #[T.V5,T.V5] T.V5 #[.slice none 0 0,.slice x6.1 x6.2.1 x6.2.2]).run prog w5) fun y7 w8=>
Au [.slice y7.1 y7.2.1 y7.2.2] (p1.add 10) 0 w8 fun w9=>
A8 [(.i .i64),(.i .i64),(.i .i64),(.i .i64),(.i .i64),(.i .i64),(.i .i64),(.i .i64),(.i .i64),(.i .i64),.sl] p1 0 w9 fun x10=>
Bf [.int .i64 x10.1,.int .i64 x10.2.1,.int .i64 x10.2.2.1,.int .i64 x10.2.2.2.1,.int .i64 x10.2.2.2.2.1,.int .i64 x10.2.2.2.2.2.1,.int .i64 x10.2.2.2.2.2.2.1,.int .i64 x10.2.2.2.2.2.2.2.1,.int .i64 x10.2.2.2.2.2.2.2.2.1,.int .i64 x10.2.2.2.2.2.2.2.2.2.1,.slice x10.2.2.2.2.2.2.2.2.2.2.1.1 x10.2.2.2.2.2.2.2.2.2.2.1.2.1 x10.2.2.2.2.2.2.2.2.2.2.1.2.2,.pointer r4.1.1,.slice none 0 0,.int .i64 0,.int .u64 0,.slice none 0 0] T.Wu w9 fun p11 w12=>
ld1 (.i .i64) p1 w12 fun x13=>
Ci (fun(self14:((Int)×Unit)→WP) (z15:(Int)×Unit) w16=> ∀_:Nat→Value,
Aj (decide (z15.1<x13)) (
A8 [(.i .i64),(.i .i64),(.i .i64),(.i .i64),(.i .i64),(.i .i64),(.i .i64),(.i .i64),(.i .i64),(.i .i64),.sl] p1 0 w16 fun x17=>
Ae prog F.Cs [.agg #[.int .i64 x17.1,.int .i64 x17.2.1,.int .i64 x17.2.2.1,.int .i64 x17.2.2.2.1,.int .i64 x17.2.2.2.2.1,.int .i64 x17.2.2.2.2.2.1,.int .i64 x17.2.2.2.2.2.2.1,.int .i64 x17.2.2.2.2.2.2.2.1,.int .i64 x17.2.2.2.2.2.2.2.2.1,.int .i64 x17.2.2.2.2.2.2.2.2.2.1,.slice x17.2.2.2.2.2.2.2.2.2.2.1.1 x17.2.2.2.2.2.2.2.2.2.2.1.2.1 x17.2.2.2.2.2.2.2.2.2.2.1.2.2],.int .i64 z15.1] w16 false [(true,[(.i .i64),(.i .i64),(.i .i64),(.i .i64),(.i .i64),(.i .i64),(.i .i64),(.i .i64),(.i .i64),(.i .i64),.b])] fun r18 w19=>
Ae prog F.Uz [.agg #[.int .i64 r18.1.1,.int .i64 r18.1.2.1,.int .i64 r18.1.2.2.1,.int .i64 r18.1.2.2.2.1,.int .i64 r18.1.2.2.2.2.1,.int .i64 r18.1.2.2.2.2.2.1,.int .i64 r18.1.2.2.2.2.2.2.1,.int .i64 r18.1.2.2.2.2.2.2.2.1,.int .i64 r18.1.2.2.2.2.2.2.2.2.1,.int .i64 r18.1.2.2.2.2.2.2.2.2.2.1,.bool r18.1.2.2.2.2.2.2.2.2.2.2.1],.pointer leaps] w19 true [(false,[.p]),(false,[(.i .i64)])] fun r20 w21=>
Aj (r20.2.1.1 !=0) (
R ((none,()),(r20.2.1.1,()),()) w21) (
ld1 .sl (p11.add 12) w21 fun x22=>
Bf [.pointer r20.1.1] T.Fs w21 fun p23 w24=>
L9 ((Builtin.append_ #[T.Fy,T.Fy] T.Fy #[.slice x22.1 x22.2.1 x22.2.2,.slice (some p23) 1 1]).run prog w24) fun y25 w26=>
Au [.slice y25.1 y25.2.1 y25.2.2] (p11.add 12) 0 w26 fun w27=>
self14 (wrap .i64 (z15.1+1),()) w27)) (
R ((some p11,()),(0,()),()) w16)) (0,()) w12)
theorem D7.eq(s0:Int)(s1:Int)(s2:Int)(s3:Int)(s4:Int)(s5:Int)(s6:Int)(s7:Int)(s8:Int)(s9:Int)(s10:Option Addr×Nat×Nat)(leaps:Option Addr)(w:World)(R:Value→WP):Aw prog Tryz.f17 (.s .n (.s .n (.s .n (.s .n (.s .n (.s (.s .n (.lp [(31,(.i .i64))] .n)) .n)))))) [.agg #[.int .i64 s0,.int .i64 s1,.int .i64 s2,.int .i64 s3,.int .i64 s4,.int .i64 s5,.int .i64 s6,.int .i64 s7,.int .i64 s8,.int .i64 s9,.slice s10.1 s10.2.1 s10.2.2],.pointer leaps] w R=D7.wp s0 s1 s2 s3 s4 s5 s6 s7 s8 s9 s10 leaps w (fun r w=>R (encR true [(false,[.p]),(false,[(.i .i64)])] r) w):=by kernel_rfl
theorem D7.ok{s0:Int}{s1:Int}{s2:Int}{s3:Int}{s4:Int}{s5:Int}{s6:Int}{s7:Int}{s8:Int}{s9:Int}{s10:Option Addr×Nat×Nat}{leaps:Option Addr}{w:World}{R:TR [(false,[.p]),(false,[(.i .i64)])]→WP}(h:D7.wp s0 s1 s2 s3 s4 s5 s6 s7 s8 s9 s10 leaps w R):Ae prog F.D7 [.agg #[.int .i64 s0,.int .i64 s1,.int .i64 s2,.int .i64 s3,.int .i64 s4,.int .i64 s5,.int .i64 s6,.int .i64 s7,.int .i64 s8,.int .i64 s9,.slice s10.1 s10.2.1 s10.2.2],.pointer leaps] w true [(false,[.p]),(false,[(.i .i64)])] R:=
  Aop Aa Tryz.func17 (fun R=>D7.wp s0 s1 s2 s3 s4 s5 s6 s7 s8 s9 s10 leaps w R) (D7.eq s0 s1 s2 s3 s4 s5 s6 s7 s8 s9 s10 leaps w) rfl h
def Br.wp(n:Option Addr)(i:Int)(w:World)(R:TR [(true,[.b,(.i .u16),(.i .i64),(.i .i64),.b,.b,(.i .i64),(.i .i64),(.i .i64),.b,(.i .i64),(.i .i64)])]→WP):Prop:=
Bf [.bool false,.int .u16 0,.int .i64 0,.int .i64 0,.bool false,.bool false,.int .i64 0,.int .i64 0,.int .i64 0,.bool false,.int .i64 0,.int .i64 0] T.nK w fun p1 w2=>
Ae prog F.Ao [.pointer n,.int .i64 i] w2 false [(false,[.p])] fun r3 w4=>
Ae prog F.Cb [.pointer r3.1.1] w4 false [(true,[.b,(.i .u16),(.i .i64),(.i .i64),.b,.b,(.i .i64),(.i .i64),(.i .i64),.b,(.i .i64),(.i .i64)])] fun r5 w6=>
Au [.bool r5.1.1,.int .u16 r5.1.2.1,.int .i64 r5.1.2.2.1,.int .i64 r5.1.2.2.2.1,.bool r5.1.2.2.2.2.1,.bool r5.1.2.2.2.2.2.1,.int .i64 r5.1.2.2.2.2.2.2.1,.int .i64 r5.1.2.2.2.2.2.2.2.1,.int .i64 r5.1.2.2.2.2.2.2.2.2.1,.bool r5.1.2.2.2.2.2.2.2.2.2.1,.int .i64 r5.1.2.2.2.2.2.2.2.2.2.2.1,.int .i64 r5.1.2.2.2.2.2.2.2.2.2.2.2.1] p1 0 w6 fun w7=>
A8 [.b,(.i .u16),(.i .i64),(.i .i64),.b,.b,(.i .i64),(.i .i64),(.i .i64),.b,(.i .i64),(.i .i64)] p1 0 w7 fun x8=>
R ((x8.1,x8.2.1,x8.2.2.1,x8.2.2.2.1,x8.2.2.2.2.1,x8.2.2.2.2.2.1,x8.2.2.2.2.2.2.1,x8.2.2.2.2.2.2.2.1,x8.2.2.2.2.2.2.2.2.1,x8.2.2.2.2.2.2.2.2.2.1,x8.2.2.2.2.2.2.2.2.2.2.1,x8.2.2.2.2.2.2.2.2.2.2.2.1,()),()) w7
theorem Br.eq(n:Option Addr)(i:Int)(w:World)(R:Value→WP):Aw prog Tryz.f19 .n [.pointer n,.int .i64 i] w R=Br.wp n i w (fun r w=>R (encR false [(true,[.b,(.i .u16),(.i .i64),(.i .i64),.b,.b,(.i .i64),(.i .i64),(.i .i64),.b,(.i .i64),(.i .i64)])] r) w):=by kernel_rfl
theorem Br.ok{n:Option Addr}{i:Int}{w:World}{R:TR [(true,[.b,(.i .u16),(.i .i64),(.i .i64),.b,.b,(.i .i64),(.i .i64),(.i .i64),.b,(.i .i64),(.i .i64)])]→WP}(h:Br.wp n i w R):Ae prog F.Br [.pointer n,.int .i64 i] w false [(true,[.b,(.i .u16),(.i .i64),(.i .i64),.b,.b,(.i .i64),(.i .i64),(.i .i64),.b,(.i .i64),(.i .i64)])] R:=
  Aop Aa Tryz.func19 (fun R=>Br.wp n i w R) (Br.eq n i w) rfl h
def Bo.wp(n:Option Addr)(w:World)(R:TR [(false,[(.i .i64)])]→WP):Prop:=
Aj (Option.isNone n) (
R ((0,()),()) w) (
Aq n fun a1=>
ld1 (.i .i64) (a1.add 13) w fun x2=>
R ((x2,()),()) w)
theorem Bo.eq(n:Option Addr)(w:World)(R:Value→WP):Aw prog Tryz.f20 .n [.pointer n] w R=Bo.wp n w (fun r w=>R (encR false [(false,[(.i .i64)])] r) w):=by kernel_rfl
theorem Bo.ok{n:Option Addr}{w:World}{R:TR [(false,[(.i .i64)])]→WP}(h:Bo.wp n w R):Ae prog F.Bo [.pointer n] w false [(false,[(.i .i64)])] R:=
  Aop Aa Tryz.func20 (fun R=>Bo.wp n w R) (Bo.eq n w) rfl h
def Dq.wp(s0:Int)(s1:Int)(s2:Int)(s3:Int)(s4:Int)(s5:Int)(s6:Int)(s7:Int)(s8:Int)(s9:Int)(s10:Option Addr×Nat×Nat)(i:Int)(w:World)(R:TR [(true,[(.i .i64),(.i .i64),(.i .i64),(.i .i64),(.i .i64),(.i .i64),(.i .i64),(.i .i64),(.i .i64),(.i .i64),.b])]→WP):Prop:=
Bf [.int .i64 s0,.int .i64 s1,.int .i64 s2,.int .i64 s3,.int .i64 s4,.int .i64 s5,.int .i64 s6,.int .i64 s7,.int .i64 s8,.int .i64 s9,.slice s10.1 s10.2.1 s10.2.2] T.Gz w fun p1 w2=>
Bf [.int .i64 0,.int .i64 0,.int .i64 0,.int .i64 0,.int .i64 0,.int .i64 0,.int .i64 0,.int .i64 0,.int .i64 0,.int .i64 0,.bool false] T.Xj w2 fun p3 w4=>
Cc (fun(J5:((Int)×Unit)→WP)=>
ld1 (.i .i64) (p1.add 5) w4 fun x8=>
Aj (decide (x8>0)) (
ld1 (.i .i64) (p1.add 5) w4 fun x9=>
dF x9 (
J5 (Int.tmod i x9,()) w4)) (
J5 (0,()) w4)) (fun(z6:(Int)×Unit) w7=> ∀_:Nat→Value,
Cc (fun(J10:((Int)×Unit)→WP)=>
ld1 .sl (p1.add 10) w7 fun x13=>
Aj (decide (i<(x13.2.1:Int))) (
ld1 .sl (p1.add 10) w7 fun x14=>
Ny x14.1 x14.2.1 i fun a15=>
ld1 (.i .i64) (a15.add (i.toNat*1)) w7 fun x16=>
J10 (x16,()) w7) (
J10 (z6.1,()) w7)) (fun(z11:(Int)×Unit) w12=> ∀_:Nat→Value,
ld1 (.i .i64) (p1.add 1) w12 fun x17=>
ld1 (.i .i64) (p1.add 2) w12 fun x18=>
ld1 (.i .i64) (p1.add 3) w12 fun x19=>
ld1 (.i .i64) (p1.add 4) w12 fun x20=>
ld1 (.i .i64) (p1.add 5) w12 fun x21=>
ld1 (.i .i64) (p1.add 6) w12 fun x22=>
ld1 (.i .i64) (p1.add 7) w12 fun x23=>
ld1 (.i .i64) (p1.add 8) w12 fun x24=>
ld1 (.i .i64) (p1.add 9) w12 fun x25=>
Au [.int .i64 i,.int .i64 x17,.int .i64 x18,.int .i64 x19,.int .i64 x20,.int .i64 x21,.int .i64 x22,.int .i64 z11.1,.int .i64 x23,.int .i64 x24,.bool (i==x25)] p3 0 w12 fun w26=>
A8 [(.i .i64),(.i .i64),(.i .i64),(.i .i64),(.i .i64),(.i .i64),(.i .i64),(.i .i64),(.i .i64),(.i .i64),.b] p3 0 w26 fun x27=>
R ((x27.1,x27.2.1,x27.2.2.1,x27.2.2.2.1,x27.2.2.2.2.1,x27.2.2.2.2.2.1,x27.2.2.2.2.2.2.1,x27.2.2.2.2.2.2.2.1,x27.2.2.2.2.2.2.2.2.1,x27.2.2.2.2.2.2.2.2.2.1,x27.2.2.2.2.2.2.2.2.2.2.1,()),()) w26))
theorem Dq.eq(s0:Int)(s1:Int)(s2:Int)(s3:Int)(s4:Int)(s5:Int)(s6:Int)(s7:Int)(s8:Int)(s9:Int)(s10:Option Addr×Nat×Nat)(i:Int)(w:World)(R:Value→WP):Aw prog Tryz.f22 (.s .n (.s .n (.ct [(5,(.i .i64))] .n (.ct [(5,(.i .i64))] .n .n)))) [.agg #[.int .i64 s0,.int .i64 s1,.int .i64 s2,.int .i64 s3,.int .i64 s4,.int .i64 s5,.int .i64 s6,.int .i64 s7,.int .i64 s8,.int .i64 s9,.slice s10.1 s10.2.1 s10.2.2],.int .i64 i] w R=Dq.wp s0 s1 s2 s3 s4 s5 s6 s7 s8 s9 s10 i w (fun r w=>R (encR false [(true,[(.i .i64),(.i .i64),(.i .i64),(.i .i64),(.i .i64),(.i .i64),(.i .i64),(.i .i64),(.i .i64),(.i .i64),.b])] r) w):=by kernel_rfl
theorem Dq.ok{s0:Int}{s1:Int}{s2:Int}{s3:Int}{s4:Int}{s5:Int}{s6:Int}{s7:Int}{s8:Int}{s9:Int}{s10:Option Addr×Nat×Nat}{i:Int}{w:World}{R:TR [(true,[(.i .i64),(.i .i64),(.i .i64),(.i .i64),(.i .i64),(.i .i64),(.i .i64),(.i .i64),(.i .i64),(.i .i64),.b])]→WP}(h:Dq.wp s0 s1 s2 s3 s4 s5 s6 s7 s8 s9 s10 i w R):Ae prog F.Dq [.agg #[.int .i64 s0,.int .i64 s1,.int .i64 s2,.int .i64 s3,.int .i64 s4,.int .i64 s5,.int .i64 s6,.int .i64 s7,.int .i64 s8,.int .i64 s9,.slice s10.1 s10.2.1 s10.2.2],.int .i64 i] w false [(true,[(.i .i64),(.i .i64),(.i .i64),(.i .i64),(.i .i64),(.i .i64),(.i .i64),(.i .i64),(.i .i64),(.i .i64),.b])] R:=
  Aop Aa Tryz.func22 (fun R=>Dq.wp s0 s1 s2 s3 s4 s5 s6 s7 s8 s9 s10 i w R) (Dq.eq s0 s1 s2 s3 s4 s5 s6 s7 s8 s9 s10 i w) rfl h
def Ct.wp(n:Option Addr)(i:Int)(w:World)(R:TR [(true,[(.i .u16),(.i .u16)]),(false,[.b])]→WP):Prop:=
Bf [.int .u16 0,.int .u16 0] T.Ti w fun p1 w2=>
Ae prog F.Ao [.pointer n,.int .i64 i] w2 false [(false,[.p])] fun r3 w4=>
Ae prog F.Bu [.pointer r3.1.1] w4 true [(true,[(.i .u16),(.i .u16)]),(false,[.b])] fun r5 w6=>
Au [.int .u16 r5.1.1,.int .u16 r5.1.2.1] p1 0 w6 fun w7=>
A8 [(.i .u16),(.i .u16)] p1 0 w7 fun x8=>
R ((x8.1,x8.2.1,()),(r5.2.1.1,()),()) w7
theorem Ct.eq(n:Option Addr)(i:Int)(w:World)(R:Value→WP):Aw prog Tryz.f23 .n [.pointer n,.int .i64 i] w R=Ct.wp n i w (fun r w=>R (encR true [(true,[(.i .u16),(.i .u16)]),(false,[.b])] r) w):=by kernel_rfl
theorem Ct.ok{n:Option Addr}{i:Int}{w:World}{R:TR [(true,[(.i .u16),(.i .u16)]),(false,[.b])]→WP}(h:Ct.wp n i w R):Ae prog F.Ct [.pointer n,.int .i64 i] w true [(true,[(.i .u16),(.i .u16)]),(false,[.b])] R:=
  Aop Aa Tryz.func23 (fun R=>Ct.wp n i w R) (Ct.eq n i w) rfl h
def law27_alive.wp(w:World)(R:TR [(false,[.b])]→WP):Prop:=
Ae prog F.law27_setup [.agg #[.int .i64 2,.int .i64 1,.int .i64 0,.int .i64 1,.int .i64 0,.int .i64 2,.int .i64 2,.int .i64 1,.int .i64 0,.int .i64 (Int.negSucc 0),.slice none 0 0]] w false [(true,[(.i .i64),(.i .i64),(.i .i64),(.i .i64),(.i .i64),(.i .i64),(.i .i64),(.i .i64),(.i .i64),(.i .i64),.sl])] fun r1 w2=>
Ae prog F.D7 [.agg #[.int .i64 r1.1.1,.int .i64 r1.1.2.1,.int .i64 r1.1.2.2.1,.int .i64 r1.1.2.2.2.1,.int .i64 r1.1.2.2.2.2.1,.int .i64 r1.1.2.2.2.2.2.1,.int .i64 r1.1.2.2.2.2.2.2.1,.int .i64 r1.1.2.2.2.2.2.2.2.1,.int .i64 r1.1.2.2.2.2.2.2.2.2.1,.int .i64 r1.1.2.2.2.2.2.2.2.2.2.1,.slice r1.1.2.2.2.2.2.2.2.2.2.2.1.1 r1.1.2.2.2.2.2.2.2.2.2.2.1.2.1 r1.1.2.2.2.2.2.2.2.2.2.2.1.2.2],.pointer none] w2 true [(false,[.p]),(false,[(.i .i64)])] fun r3 w4=>
Ae prog F.Bw [.pointer r3.1.1,.int .i64 0,.int .i64 1,.bool true] w4 false [(false,[(.i .i64)])] fun r5 w6=>
Ae prog F.Ck [.pointer r3.1.1,.int .i64 0,.int .u32 5] w6 false [(false,[(.i .i64)])] fun r7 w8=>
Ae prog F.Ck [.pointer r3.1.1,.int .i64 1,.int .u32 700] w8 false [(false,[(.i .i64)])] fun r9 w10=>
Ci (fun(self11:((Int)×Unit)→WP) (z12:(Int)×Unit) w13=> ∀_:Nat→Value,
Aj (decide (z12.1<3)) (
Bf [.int .i64 1000,.int .i64 1000] T.int w13 fun p14 w15=>
Bf [.int .i64 0,.int .i64 0] T.int w15 fun p16 w17=>
Bf [.int .i64 0,.int .i64 0] T.int w17 fun p18 w19=>
Ae prog F.Bz [.pointer r3.1.1,.agg #[.slice (some p14) 2 2,.slice (some p16) 2 2,.slice (some p18) 2 2,.slice none 0 0]] w19 false [(false,[(.i .i64)])] fun r20 w21=>
Aj (r20.1.1 !=0) (
R ((false,()),()) w21) (
self11 (wrap .i64 (z12.1+1),()) w21)) (
Ae prog F.Bb [.pointer r3.1.1,.int .i64 1] w13 true [(true,[(.i .i64),(.i .i64),(.i .i64),(.i .u16),(.i .i64)]),(false,[(.i .i64)])] fun r22 w23=>
Bf [.int .i64 0,.int .i64 0,.int .i64 0,.int .u16 0,.int .i64 0] T.Bg w23 fun p24 w25=>
Au [.int .i64 r22.1.1,.int .i64 r22.1.2.1,.int .i64 r22.1.2.2.1,.int .u16 r22.1.2.2.2.1,.int .i64 r22.1.2.2.2.2.1] p24 0 w25 fun w26=>
Aj (r3.2.1.1==0) (
Aj (r5.1.1==0) (
Aj (r7.1.1==0) (
Aj (r9.1.1==0) (
Aj (r22.2.1.1==0) (
ld1 (.i .i64) (p24.add 2) w26 fun x27=>
Aj (x27==0) (
ld1 (.i .i64) p24 w26 fun x28=>
Aj (x28==3005) (
Ae prog F.Bo [.pointer r3.1.1] w26 false [(false,[(.i .i64)])] fun r29 w30=>
R (((r29.1.1==3),()),()) w30) (
R ((false,()),()) w26)) (
R ((false,()),()) w26)) (
R ((false,()),()) w26)) (
R ((false,()),()) w26)) (
R ((false,()),()) w26)) (
R ((false,()),()) w26)) (
R ((false,()),()) w26))) (0,()) w10
theorem law27_alive.eq(w:World)(R:Value→WP):Aw prog Tryz.f25 (.s .n (.s .n (.s .n (.s (.s .n (.lp [(6,(.i .i64))] .n)) .n)))) [] w R=law27_alive.wp w (fun r w=>R (encR false [(false,[.b])] r) w):=by kernel_rfl
theorem law27_alive.ok{w:World}{R:TR [(false,[.b])]→WP}(h:law27_alive.wp w R):Ae prog F.law27_alive [] w false [(false,[.b])] R:=
  Aop Aa Tryz.func25 (fun R=>law27_alive.wp w R) (law27_alive.eq w) rfl h
def law27_setup.wp(s0:Int)(s1:Int)(s2:Int)(s3:Int)(s4:Int)(s5:Int)(s6:Int)(s7:Int)(s8:Int)(s9:Int)(s10:Option Addr×Nat×Nat)(w:World)(R:TR [(true,[(.i .i64),(.i .i64),(.i .i64),(.i .i64),(.i .i64),(.i .i64),(.i .i64),(.i .i64),(.i .i64),(.i .i64),.sl])]→WP):Prop:=
Bf [.int .i64 s0,.int .i64 s1,.int .i64 s2,.int .i64 s3,.int .i64 s4,.int .i64 s5,.int .i64 s6,.int .i64 s7,.int .i64 s8,.int .i64 s9,.slice s10.1 s10.2.1 s10.2.2] T.Gz w fun p1 w2=>
Bf [.int .i64 0,.int .i64 0,.int .i64 0,.int .i64 0,.int .i64 0,.int .i64 0,.int .i64 0,.int .i64 0,.int .i64 0,.int .i64 0,.slice none 0 0] T.Jw w2 fun p3 w4=>
Jg w4 fun w5=>
ld1 (.i .i64) p1 w5 fun x6=>
ld1 (.i .i64) (p1.add 1) w5 fun x7=>
ld1 (.i .i64) (p1.add 2) w5 fun x8=>
ld1 (.i .i64) (p1.add 3) w5 fun x9=>
ld1 (.i .i64) (p1.add 4) w5 fun x10=>
ld1 (.i .i64) (p1.add 5) w5 fun x11=>
ld1 (.i .i64) (p1.add 6) w5 fun x12=>
ld1 (.i .i64) (p1.add 7) w5 fun x13=>
ld1 (.i .i64) (p1.add 8) w5 fun x14=>
ld1 (.i .i64) (p1.add 9) w5 fun x15=>
ld1 .sl (p1.add 10) w5 fun x16=>
Bf [] T.int w5 fun p17 w18=>
Ab [(24,(p1.add 10),(w5.cell? (p1.add 10)).getD undef),(21,(p1.add 9),(w5.cell? (p1.add 9)).getD undef),(19,(p1.add 8),(w5.cell? (p1.add 8)).getD undef),(17,(p1.add 7),(w5.cell? (p1.add 7)).getD undef),(15,(p1.add 6),(w5.cell? (p1.add 6)).getD undef),(13,(p1.add 5),(w5.cell? (p1.add 5)).getD undef),(10,(p1.add 4),(w5.cell? (p1.add 4)).getD undef),(8,(p1.add 3),(w5.cell? (p1.add 3)).getD undef),(5,(p1.add 2),(w5.cell? (p1.add 2)).getD undef),(3,(p1.add 1),(w5.cell? (p1.add 1)).getD undef),(1,p1,(w5.cell? p1).getD undef)] w18∧(
L9 ((Builtin.append_ #[T.V5,T.V5] T.V5 #[.slice (some p17) 0 0,.slice x16.1 x16.2.1 x16.2.2]).run prog w18) fun y19 w20=>
Ab [(21,(p1.add 9),(w5.cell? (p1.add 9)).getD undef),(19,(p1.add 8),(w5.cell? (p1.add 8)).getD undef),(17,(p1.add 7),(w5.cell? (p1.add 7)).getD undef),(15,(p1.add 6),(w5.cell? (p1.add 6)).getD undef),(13,(p1.add 5),(w5.cell? (p1.add 5)).getD undef),(10,(p1.add 4),(w5.cell? (p1.add 4)).getD undef),(8,(p1.add 3),(w5.cell? (p1.add 3)).getD undef),(5,(p1.add 2),(w5.cell? (p1.add 2)).getD undef),(3,(p1.add 1),(w5.cell? (p1.add 1)).getD undef),(1,p1,(w5.cell? p1).getD undef)] w20∧(
Au [.int .i64 x6,.int .i64 x7,.int .i64 x8,.int .i64 x9,.int .i64 x10,.int .i64 x11,.int .i64 x12,.int .i64 x13,.int .i64 x14,.int .i64 x15,.slice y19.1 y19.2.1 y19.2.2] p3 0 w20 fun w21=>
Ab [] w21∧(
A8 [(.i .i64),(.i .i64),(.i .i64),(.i .i64),(.i .i64),(.i .i64),(.i .i64),(.i .i64),(.i .i64),(.i .i64),.sl] p3 0 w21 fun x22=>
R ((x22.1,x22.2.1,x22.2.2.1,x22.2.2.2.1,x22.2.2.2.2.1,x22.2.2.2.2.2.1,x22.2.2.2.2.2.2.1,x22.2.2.2.2.2.2.2.1,x22.2.2.2.2.2.2.2.2.1,x22.2.2.2.2.2.2.2.2.2.1,(x22.2.2.2.2.2.2.2.2.2.2.1.1,x22.2.2.2.2.2.2.2.2.2.2.1.2.1,x22.2.2.2.2.2.2.2.2.2.2.1.2.2),()),()) w21)))
theorem law27_setup.eq(s0:Int)(s1:Int)(s2:Int)(s3:Int)(s4:Int)(s5:Int)(s6:Int)(s7:Int)(s8:Int)(s9:Int)(s10:Option Addr×Nat×Nat)(w:World)(R:Value→WP):Aw prog Tryz.f26 (.s .n (.s (.pl (.tk 0 (.tk 1 (.tk 2 (.tk 3 (.tk 4 (.tk 5 (.tk 6 (.tk 7 (.tk 8 (.tk 9 (.tk 10 (.tk 11 (.tk 12 (.tk 13 (.tk 14 (.tk 15 (.tk 16 (.tk 17 (.tk 18 (.tk 19 (.tk 20 (.tk 21 (.tk 23 (.tk 24 (.ef 22 [] (.ef 25 [24] (.tk 26 (.ef 27 [1,3,5,8,10,13,15,17,19,21] .z))))))))))))))))))))))))))))) .n)) [.agg #[.int .i64 s0,.int .i64 s1,.int .i64 s2,.int .i64 s3,.int .i64 s4,.int .i64 s5,.int .i64 s6,.int .i64 s7,.int .i64 s8,.int .i64 s9,.slice s10.1 s10.2.1 s10.2.2]] w R=law27_setup.wp s0 s1 s2 s3 s4 s5 s6 s7 s8 s9 s10 w (fun r w=>R (encR false [(true,[(.i .i64),(.i .i64),(.i .i64),(.i .i64),(.i .i64),(.i .i64),(.i .i64),(.i .i64),(.i .i64),(.i .i64),.sl])] r) w):=by kernel_rfl
theorem law27_setup.ok{s0:Int}{s1:Int}{s2:Int}{s3:Int}{s4:Int}{s5:Int}{s6:Int}{s7:Int}{s8:Int}{s9:Int}{s10:Option Addr×Nat×Nat}{w:World}{R:TR [(true,[(.i .i64),(.i .i64),(.i .i64),(.i .i64),(.i .i64),(.i .i64),(.i .i64),(.i .i64),(.i .i64),(.i .i64),.sl])]→WP}(h:law27_setup.wp s0 s1 s2 s3 s4 s5 s6 s7 s8 s9 s10 w R):Ae prog F.law27_setup [.agg #[.int .i64 s0,.int .i64 s1,.int .i64 s2,.int .i64 s3,.int .i64 s4,.int .i64 s5,.int .i64 s6,.int .i64 s7,.int .i64 s8,.int .i64 s9,.slice s10.1 s10.2.1 s10.2.2]] w false [(true,[(.i .i64),(.i .i64),(.i .i64),(.i .i64),(.i .i64),(.i .i64),(.i .i64),(.i .i64),(.i .i64),(.i .i64),.sl])] R:=
  Aop Aa Tryz.func26 (fun R=>law27_setup.wp s0 s1 s2 s3 s4 s5 s6 s7 s8 s9 s10 w R) (law27_setup.eq s0 s1 s2 s3 s4 s5 s6 s7 s8 s9 s10 w) rfl h
def Bw.wp(n:Option Addr)(i:Int)(k:Int)(on_:Bool)(w:World)(R:TR [(false,[(.i .i64)])]→WP):Prop:=
Aj (Option.isNone n) (
R ((2,()),()) w) (
Aq n fun a1=>
ld1 .p (a1.add 11) w fun x2=>
Ae prog F.Bp [.pointer x2,.int .i64 i,.int .i64 k,.bool on_] w false [(false,[(.i .i64)])] fun r3 w4=>
R ((r3.1.1,()),()) w4)
theorem Bw.eq(n:Option Addr)(i:Int)(k:Int)(on_:Bool)(w:World)(R:Value→WP):Aw prog Tryz.f28 .n [.pointer n,.int .i64 i,.int .i64 k,.bool on_] w R=Bw.wp n i k on_ w (fun r w=>R (encR false [(false,[(.i .i64)])] r) w):=by kernel_rfl
theorem Bw.ok{n:Option Addr}{i:Int}{k:Int}{on_:Bool}{w:World}{R:TR [(false,[(.i .i64)])]→WP}(h:Bw.wp n i k on_ w R):Ae prog F.Bw [.pointer n,.int .i64 i,.int .i64 k,.bool on_] w false [(false,[(.i .i64)])] R:=
  Aop Aa Tryz.func28 (fun R=>Bw.wp n i k on_ w R) (Bw.eq n i k on_ w) rfl h
def Bz.wp(n:Option Addr)(c0:Option Addr×Nat×Nat)(c1:Option Addr×Nat×Nat)(c2:Option Addr×Nat×Nat)(c3:Option Addr×Nat×Nat)(w:World)(R:TR [(false,[(.i .i64)])]→WP):Prop:=
Bf [.slice c0.1 c0.2.1 c0.2.2,.slice c1.1 c1.2.1 c1.2.2,.slice c2.1 c2.2.1 c2.2.2,.slice c3.1 c3.2.1 c3.2.2] T.Im w fun p1 w2=>
A8 [.sl,.sl,.sl,.sl] p1 0 w2 fun x3=>
Ae prog F.Bt [.pointer n,.agg #[.slice x3.1.1 x3.1.2.1 x3.1.2.2,.slice x3.2.1.1 x3.2.1.2.1 x3.2.1.2.2,.slice x3.2.2.1.1 x3.2.2.1.2.1 x3.2.2.1.2.2,.slice x3.2.2.2.1.1 x3.2.2.2.1.2.1 x3.2.2.2.1.2.2]] w2 false [(false,[(.i .i64)])] fun r4 w5=>
Aj (r4.1.1 !=0) (
R ((r4.1.1,()),()) w5) (
Aq n fun a6=>
ld1 .sl (a6.add 12) w5 fun x7=>
Ci (fun(self8:((Int)×Unit)→WP) (z9:(Int)×Unit) w10=> ∀_:Nat→Value,
Aj (decide (z9.1<(x7.2.1:Int))) (
Ny x7.1 x7.2.1 z9.1 fun a11=>
ld1 .p (a11.add (z9.1.toNat*1)) w10 fun x12=>
ld1 .sl p1 w10 fun x13=>
Ny x13.1 x13.2.1 z9.1 fun a14=>
ld1 (.i .i64) (a14.add (z9.1.toNat*1)) w10 fun x15=>
Ae prog F.Lr [.pointer x12,.int .i64 x15] w10 false [(false,[(.i .i64)])] fun r16 w17=>
self8 (wrap .i64 (z9.1+1),()) w17) (
A8 [.sl,.sl,.sl,.sl] p1 0 w10 fun x18=>
Ae prog F.Cr [.pointer n,.agg #[.slice x18.1.1 x18.1.2.1 x18.1.2.2,.slice x18.2.1.1 x18.2.1.2.1 x18.2.1.2.2,.slice x18.2.2.1.1 x18.2.2.1.2.1 x18.2.2.1.2.2,.slice x18.2.2.2.1.1 x18.2.2.2.1.2.1 x18.2.2.2.1.2.2]] w10 false [(false,[.sl])] fun r19 w20=>
Jg w20 fun w21=>
Aq n fun a22=>
ld1 .p (a22.add 11) w21 fun x23=>
Aq n fun a24=>
ld1 (.i .u64) (a24.add 14) w21 fun x25=>
ld1 .sl (p1.add 3) w21 fun x26=>
Ae prog F.Cg [.pointer n] w21 false [(false,[(.i .u64)])] fun r27 w28=>
Ab [(12,(p1.add 3),(w21.cell? (p1.add 3)).getD undef),(8,(a24.add 14),(w21.cell? (a24.add 14)).getD undef),(4,(a22.add 11),(w21.cell? (a22.add 11)).getD undef)] w28∧(
Ae prog F.Da [.pointer x23,.int .u64 x25,.int .u64 r27.1.1,.slice x26.1 x26.2.1 x26.2.2] w28 false [(false,[.sl])] fun r29 w30=>
Ab [] w30∧(
Aq n fun a31=>
Au [.slice r29.1.1.1 r29.1.1.2.1 r29.1.1.2.2] (a31.add 15) 0 w30 fun w32=>
Ab [] w32∧(
Aq n fun a33=>
ld1 .sl (a33.add 15) w32 fun x34=>
Ci (fun(self35:((Int)×Unit)→WP) (z36:(Int)×Unit) w37=> ∀_:Nat→Value,
Aj (decide (z36.1<(x34.2.1:Int))) (
Ny x34.1 x34.2.1 z36.1 fun a38=>
A8 [(.i .i64),(.i .i64)] (a38.add (z36.1.toNat*2)) 0 w37 fun x39=>
Bf [.int .i64 0,.int .i64 0] T.Er w37 fun p40 w41=>
Au [.int .i64 x39.1,.int .i64 x39.2.1] p40 0 w41 fun w42=>
ld1 (.i .i64) (p40.add 1) w42 fun x43=>
Aj (x43 !=1) (
self35 (wrap .i64 (z36.1+1),()) w42) (
ld1 (.i .i64) p40 w42 fun x44=>
Ny r19.1.1.1 r19.1.1.2.1 x44 fun a45=>
ld1 .sl (a45.add (x44.toNat*1)) w42 fun x46=>
Ci (fun(self47:((Int)×Unit)→WP) (z48:(Int)×Unit) w49=> ∀_:Nat→Value,
Aj (decide (z48.1<(x46.2.1:Int))) (
Ny x46.1 x46.2.1 z48.1 fun a50=>
ld1 .sl (a50.add (z48.1.toNat*1)) w49 fun x51=>
Jg w49 fun w52=>
Aq n fun a53=>
ld1 .sl (a53.add 12) w52 fun x54=>
Ny x54.1 x54.2.1 z36.1 fun a55=>
ld1 .p (a55.add (z36.1.toNat*1)) w52 fun x56=>
ld1 .sl (p1.add 2) w52 fun x57=>
Ny x57.1 x57.2.1 z36.1 fun a58=>
ld1 (.i .i64) (a58.add (z36.1.toNat*1)) w52 fun x59=>
Ae prog F.Ia [.pointer x56,.int .i64 x59,.slice x51.1 x51.2.1 x51.2.2] w52 false [(false,[(.i .i64)])] fun r60 w61=>
Ab [(8,(p1.add 2),(w52.cell? (p1.add 2)).getD undef),(3,(a53.add 12),(w52.cell? (a53.add 12)).getD undef)] w61∧(
self47 (wrap .i64 (z48.1+1),()) w61)) (
self35 (wrap .i64 (z36.1+1),()) w49)) (0,()) w42)) (
Aq n fun a62=>
ld1 (.i .i64) (a62.add 13) w37 fun x63=>
Aq n fun a64=>
Au [.int .i64 (wrap .i64 (x63+1))] (a64.add 13) 0 w37 fun w65=>
R ((0,()),()) w65)) (0,()) w32))))) (0,()) w5)
theorem Bz.eq(n:Option Addr)(c0:Option Addr×Nat×Nat)(c1:Option Addr×Nat×Nat)(c2:Option Addr×Nat×Nat)(c3:Option Addr×Nat×Nat)(w:World)(R:Value→WP):Aw prog Tryz.f29 (.s .n (.s .n (.s (.s .n (.lp [(24,(.i .i64))] .n)) (.s .n (.s (.pl (.tk 0 (.tk 1 (.tk 2 (.tk 3 (.tk 4 (.tk 5 (.tk 6 (.tk 7 (.tk 8 (.tk 9 (.tk 11 (.tk 12 (.ef 10 [] (.ef 13 [4,8,12] (.tk 14 (.tk 15 (.ef 16 [] .z)))))))))))))))))) (.s (.s .n (.lp [(61,(.i .i64))] (.s .n (.s .n (.s (.s .n (.s .n (.s .n (.lp [(75,(.i .i64))] (.s .n (.s .n (.s (.s .n (.pl (.tk 0 (.tk 1 (.tk 2 (.tk 3 (.tk 4 (.tk 5 (.tk 6 (.tk 7 (.tk 8 (.tk 9 (.tk 10 (.tk 11 (.tk 12 (.ef 13 [6,11] .z)))))))))))))))) .n))))))) .n))))) .n)))))) [.pointer n,.agg #[.slice c0.1 c0.2.1 c0.2.2,.slice c1.1 c1.2.1 c1.2.2,.slice c2.1 c2.2.1 c2.2.2,.slice c3.1 c3.2.1 c3.2.2]] w R=Bz.wp n c0 c1 c2 c3 w (fun r w=>R (encR false [(false,[(.i .i64)])] r) w):=by kernel_rfl
theorem Bz.ok{n:Option Addr}{c0:Option Addr×Nat×Nat}{c1:Option Addr×Nat×Nat}{c2:Option Addr×Nat×Nat}{c3:Option Addr×Nat×Nat}{w:World}{R:TR [(false,[(.i .i64)])]→WP}(h:Bz.wp n c0 c1 c2 c3 w R):Ae prog F.Bz [.pointer n,.agg #[.slice c0.1 c0.2.1 c0.2.2,.slice c1.1 c1.2.1 c1.2.2,.slice c2.1 c2.2.1 c2.2.2,.slice c3.1 c3.2.1 c3.2.2]] w false [(false,[(.i .i64)])] R:=
  Aop Aa Tryz.func29 (fun R=>Bz.wp n c0 c1 c2 c3 w R) (Bz.eq n c0 c1 c2 c3 w) rfl h
def Cn.wp(n:Option Addr)(w:World)(R:TR [(false,[(.i .u64)])]→WP):Prop:=
Aj (Option.isNone n) (
R ((0,()),()) w) (
Aq n fun a1=>
ld1 (.i .u64) (a1.add 14) w fun x2=>
R ((x2,()),()) w)
theorem Cn.eq(n:Option Addr)(w:World)(R:Value→WP):Aw prog Tryz.f31 .n [.pointer n] w R=Cn.wp n w (fun r w=>R (encR false [(false,[(.i .u64)])] r) w):=by kernel_rfl
theorem Cn.ok{n:Option Addr}{w:World}{R:TR [(false,[(.i .u64)])]→WP}(h:Cn.wp n w R):Ae prog F.Cn [.pointer n] w false [(false,[(.i .u64)])] R:=
  Aop Aa Tryz.func31 (fun R=>Cn.wp n w R) (Cn.eq n w) rfl h
def Co.wp(n:Option Addr)(w:World)(R:TR [(false,[.sl])]→WP):Prop:=
Aj (Option.isNone n) (
R (((none,0,0),()),()) w) (
Aq n fun a1=>
ld1 .sl (a1.add 15) w fun x2=>
L9 ((Builtin.append_ #[T.Dv,T.Dv] T.Dv #[.slice none 0 0,.slice x2.1 x2.2.1 x2.2.2]).run prog w) fun y3 w4=>
R (((y3.1,y3.2.1,y3.2.2),()),()) w4)
theorem Co.eq(n:Option Addr)(w:World)(R:Value→WP):Aw prog Tryz.f32 .n [.pointer n] w R=Co.wp n w (fun r w=>R (encR false [(false,[.sl])] r) w):=by kernel_rfl
theorem Co.ok{n:Option Addr}{w:World}{R:TR [(false,[.sl])]→WP}(h:Co.wp n w R):Ae prog F.Co [.pointer n] w false [(false,[.sl])] R:=
  Aop Aa Tryz.func32 (fun R=>Co.wp n w R) (Co.eq n w) rfl h
def Bb.wp(n:Option Addr)(i:Int)(w:World)(R:TR [(true,[(.i .i64),(.i .i64),(.i .i64),(.i .u16),(.i .i64)]),(false,[(.i .i64)])]→WP):Prop:=
Bf [.int .i64 0,.int .i64 0,.int .i64 0,.int .u16 0,.int .i64 0] T.Bg w fun p1 w2=>
Ae prog F.Al [.pointer n,.int .i64 i] w2 false [(false,[(.i .i64)])] fun r3 w4=>
Aj (r3.1.1 !=0) (
Au [.int .i64 0,.int .i64 0,.int .i64 0,.int .u16 0,.int .i64 0] p1 0 w4 fun w5=>
A8 [(.i .i64),(.i .i64),(.i .i64),(.i .u16),(.i .i64)] p1 0 w5 fun x6=>
R ((x6.1,x6.2.1,x6.2.2.1,x6.2.2.2.1,x6.2.2.2.2.1,()),(r3.1.1,()),()) w5) (
Aq n fun a7=>
ld1 .sl (a7.add 12) w4 fun x8=>
Ny x8.1 x8.2.1 i fun a9=>
ld1 .p (a9.add (i.toNat*1)) w4 fun x10=>
Ae prog F.D6 [.pointer x10] w4 true [(true,[(.i .i64),(.i .i64),(.i .i64),(.i .u16),(.i .i64)]),(false,[(.i .i64)])] fun r11 w12=>
Au [.int .i64 r11.1.1,.int .i64 r11.1.2.1,.int .i64 r11.1.2.2.1,.int .u16 r11.1.2.2.2.1,.int .i64 r11.1.2.2.2.2.1] p1 0 w12 fun w13=>
A8 [(.i .i64),(.i .i64),(.i .i64),(.i .u16),(.i .i64)] p1 0 w13 fun x14=>
R ((x14.1,x14.2.1,x14.2.2.1,x14.2.2.2.1,x14.2.2.2.2.1,()),(r11.2.1.1,()),()) w13)
theorem Bb.eq(n:Option Addr)(i:Int)(w:World)(R:Value→WP):Aw prog Tryz.f33 .n [.pointer n,.int .i64 i] w R=Bb.wp n i w (fun r w=>R (encR true [(true,[(.i .i64),(.i .i64),(.i .i64),(.i .u16),(.i .i64)]),(false,[(.i .i64)])] r) w):=by kernel_rfl
theorem Bb.ok{n:Option Addr}{i:Int}{w:World}{R:TR [(true,[(.i .i64),(.i .i64),(.i .i64),(.i .u16),(.i .i64)]),(false,[(.i .i64)])]→WP}(h:Bb.wp n i w R):Ae prog F.Bb [.pointer n,.int .i64 i] w true [(true,[(.i .i64),(.i .i64),(.i .i64),(.i .u16),(.i .i64)]),(false,[(.i .i64)])] R:=
  Aop Aa Tryz.func33 (fun R=>Bb.wp n i w R) (Bb.eq n i w) rfl h
def Ck.wp(n:Option Addr)(i:Int)(raw:Int)(w:World)(R:TR [(false,[(.i .i64)])]→WP):Prop:=
Ae prog F.Al [.pointer n,.int .i64 i] w false [(false,[(.i .i64)])] fun r1 w2=>
Aj (r1.1.1 !=0) (
R ((r1.1.1,()),()) w2) (
Aq n fun a3=>
ld1 .sl (a3.add 12) w2 fun x4=>
Ny x4.1 x4.2.1 i fun a5=>
ld1 .p (a5.add (i.toNat*1)) w2 fun x6=>
Ae prog F.Ji [.pointer x6,.int .u32 raw] w2 false [(false,[(.i .i64)])] fun r7 w8=>
R ((r7.1.1,()),()) w8)
theorem Ck.eq(n:Option Addr)(i:Int)(raw:Int)(w:World)(R:Value→WP):Aw prog Tryz.f34 .n [.pointer n,.int .i64 i,.int .u32 raw] w R=Ck.wp n i raw w (fun r w=>R (encR false [(false,[(.i .i64)])] r) w):=by kernel_rfl
theorem Ck.ok{n:Option Addr}{i:Int}{raw:Int}{w:World}{R:TR [(false,[(.i .i64)])]→WP}(h:Ck.wp n i raw w R):Ae prog F.Ck [.pointer n,.int .i64 i,.int .u32 raw] w false [(false,[(.i .i64)])] R:=
  Aop Aa Tryz.func34 (fun R=>Ck.wp n i raw w R) (Ck.eq n i raw w) rfl h
def Cv.wp(n:Option Addr)(i:Int)(w:World)(R:TR [(false,[(.i .i64)])]→WP):Prop:=
Ae prog F.Al [.pointer n,.int .i64 i] w false [(false,[(.i .i64)])] fun r1 w2=>
Aj (r1.1.1 !=0) (
R ((r1.1.1,()),()) w2) (
Aq n fun a3=>
ld1 .sl (a3.add 12) w2 fun x4=>
Ny x4.1 x4.2.1 i fun a5=>
ld1 .p (a5.add (i.toNat*1)) w2 fun x6=>
Ae prog F.Qg [.pointer x6] w2 false [(false,[(.i .i64)])] fun r7 w8=>
R ((r7.1.1,()),()) w8)
theorem Cv.eq(n:Option Addr)(i:Int)(w:World)(R:Value→WP):Aw prog Tryz.f35 .n [.pointer n,.int .i64 i] w R=Cv.wp n i w (fun r w=>R (encR false [(false,[(.i .i64)])] r) w):=by kernel_rfl
theorem Cv.ok{n:Option Addr}{i:Int}{w:World}{R:TR [(false,[(.i .i64)])]→WP}(h:Cv.wp n i w R):Ae prog F.Cv [.pointer n,.int .i64 i] w false [(false,[(.i .i64)])] R:=
  Aop Aa Tryz.func35 (fun R=>Cv.wp n i w R) (Cv.eq n i w) rfl h
def Cw.wp(n:Option Addr)(i:Int)(tai:Int)(w:World)(R:TR [(false,[(.i .i64)])]→WP):Prop:=
Ae prog F.Al [.pointer n,.int .i64 i] w false [(false,[(.i .i64)])] fun r1 w2=>
Aj (r1.1.1 !=0) (
R ((r1.1.1,()),()) w2) (
Aq n fun a3=>
ld1 .sl (a3.add 12) w2 fun x4=>
Ny x4.1 x4.2.1 i fun a5=>
ld1 .p (a5.add (i.toNat*1)) w2 fun x6=>
Ae prog F.Qc [.pointer x6,.int .i64 tai] w2 false [(false,[(.i .i64)])] fun r7 w8=>
R ((r7.1.1,()),()) w8)
theorem Cw.eq(n:Option Addr)(i:Int)(tai:Int)(w:World)(R:Value→WP):Aw prog Tryz.f36 .n [.pointer n,.int .i64 i,.int .i64 tai] w R=Cw.wp n i tai w (fun r w=>R (encR false [(false,[(.i .i64)])] r) w):=by kernel_rfl
theorem Cw.ok{n:Option Addr}{i:Int}{tai:Int}{w:World}{R:TR [(false,[(.i .i64)])]→WP}(h:Cw.wp n i tai w R):Ae prog F.Cw [.pointer n,.int .i64 i,.int .i64 tai] w false [(false,[(.i .i64)])] R:=
  Aop Aa Tryz.func36 (fun R=>Cw.wp n i tai w R) (Cw.eq n i tai w) rfl h
def Ca.wp(n:Option Addr)(i:Int)(b:Option Addr×Nat×Nat)(w:World)(R:TR [(false,[(.i .i64)])]→WP):Prop:=
Ae prog F.Al [.pointer n,.int .i64 i] w false [(false,[(.i .i64)])] fun r1 w2=>
Aj (r1.1.1 !=0) (
R ((r1.1.1,()),()) w2) (
Ae prog F.Ru [.slice b.1 b.2.1 b.2.2] w2 true [(false,[.any]),(false,[(.i .i64)])] fun r3 w4=>
Aj (r3.2.1.1==0) (
R ((1,()),()) w4) (
Aq n fun a5=>
ld1 .sl (a5.add 12) w4 fun x6=>
Ny x6.1 x6.2.1 i fun a7=>
ld1 .p (a7.add (i.toNat*1)) w4 fun x8=>
Ae prog F.Ia [.pointer x8,.int .i64 0,.slice b.1 b.2.1 b.2.2] w4 false [(false,[(.i .i64)])] fun r9 w10=>
R ((r9.1.1,()),()) w10))
theorem Ca.eq(n:Option Addr)(i:Int)(b:Option Addr×Nat×Nat)(w:World)(R:Value→WP):Aw prog Tryz.f37 .n [.pointer n,.int .i64 i,.slice b.1 b.2.1 b.2.2] w R=Ca.wp n i b w (fun r w=>R (encR false [(false,[(.i .i64)])] r) w):=by kernel_rfl
theorem Ca.ok{n:Option Addr}{i:Int}{b:Option Addr×Nat×Nat}{w:World}{R:TR [(false,[(.i .i64)])]→WP}(h:Ca.wp n i b w R):Ae prog F.Ca [.pointer n,.int .i64 i,.slice b.1 b.2.1 b.2.2] w false [(false,[(.i .i64)])] R:=
  Aop Aa Tryz.func37 (fun R=>Ca.wp n i b w R) (Ca.eq n i b w) rfl h
def Cu.wp(n:Option Addr)(i:Int)(label:ByteArray)(w:World)(R:TR [(false,[(.i .i64)]),(false,[(.i .i64)])]→WP):Prop:=
Ae prog F.Al [.pointer n,.int .i64 i] w false [(false,[(.i .i64)])] fun r1 w2=>
Aj (r1.1.1 !=0) (
R ((0,()),(r1.1.1,()),()) w2) (
Aq n fun a3=>
ld1 .sl (a3.add 12) w2 fun x4=>
Ny x4.1 x4.2.1 i fun a5=>
ld1 .p (a5.add (i.toNat*1)) w2 fun x6=>
Ae prog F.Qj [.pointer x6,.string label] w2 true [(false,[(.i .i64)]),(false,[(.i .i64)])] fun r7 w8=>
R ((r7.1.1,()),(r7.2.1.1,()),()) w8)
theorem Cu.eq(n:Option Addr)(i:Int)(label:ByteArray)(w:World)(R:Value→WP):Aw prog Tryz.f41 .n [.pointer n,.int .i64 i,.string label] w R=Cu.wp n i label w (fun r w=>R (encR true [(false,[(.i .i64)]),(false,[(.i .i64)])] r) w):=by kernel_rfl
theorem Cu.ok{n:Option Addr}{i:Int}{label:ByteArray}{w:World}{R:TR [(false,[(.i .i64)]),(false,[(.i .i64)])]→WP}(h:Cu.wp n i label w R):Ae prog F.Cu [.pointer n,.int .i64 i,.string label] w true [(false,[(.i .i64)]),(false,[(.i .i64)])] R:=
  Aop Aa Tryz.func41 (fun R=>Cu.wp n i label w R) (Cu.eq n i label w) rfl h
def Cq.wp(n:Option Addr)(i:Int)(w:World)(R:TR [(true,[(.i .i64),.s,(.i .i64),(.i .i64),(.i .i64),(.i .i64),(.i .u16),(.i .i64)]),(false,[.b])]→WP):Prop:=
Bf [.int .i64 0,.string ByteArray.empty,.int .i64 0,.int .i64 0,.int .i64 0,.int .i64 0,.int .u16 0,.int .i64 0] T.U1 w fun p1 w2=>
Ae prog F.Ao [.pointer n,.int .i64 i] w2 false [(false,[.p])] fun r3 w4=>
Ae prog F.Oq [.pointer r3.1.1] w4 true [(true,[(.i .i64),.s,(.i .i64),(.i .i64),(.i .i64),(.i .i64),(.i .u16),(.i .i64)]),(false,[.b])] fun r5 w6=>
Au [.int .i64 r5.1.1,.string r5.1.2.1,.int .i64 r5.1.2.2.1,.int .i64 r5.1.2.2.2.1,.int .i64 r5.1.2.2.2.2.1,.int .i64 r5.1.2.2.2.2.2.1,.int .u16 r5.1.2.2.2.2.2.2.1,.int .i64 r5.1.2.2.2.2.2.2.2.1] p1 0 w6 fun w7=>
A8 [(.i .i64),.s,(.i .i64),(.i .i64),(.i .i64),(.i .i64),(.i .u16),(.i .i64)] p1 0 w7 fun x8=>
R ((x8.1,x8.2.1,x8.2.2.1,x8.2.2.2.1,x8.2.2.2.2.1,x8.2.2.2.2.2.1,x8.2.2.2.2.2.2.1,x8.2.2.2.2.2.2.2.1,()),(r5.2.1.1,()),()) w7
theorem Cq.eq(n:Option Addr)(i:Int)(w:World)(R:Value→WP):Aw prog Tryz.f42 .n [.pointer n,.int .i64 i] w R=Cq.wp n i w (fun r w=>R (encR true [(true,[(.i .i64),.s,(.i .i64),(.i .i64),(.i .i64),(.i .i64),(.i .u16),(.i .i64)]),(false,[.b])] r) w):=by kernel_rfl
theorem Cq.ok{n:Option Addr}{i:Int}{w:World}{R:TR [(true,[(.i .i64),.s,(.i .i64),(.i .i64),(.i .i64),(.i .i64),(.i .u16),(.i .i64)]),(false,[.b])]→WP}(h:Cq.wp n i w R):Ae prog F.Cq [.pointer n,.int .i64 i] w true [(true,[(.i .i64),.s,(.i .i64),(.i .i64),(.i .i64),(.i .i64),(.i .u16),(.i .i64)]),(false,[.b])] R:=
  Aop Aa Tryz.func42 (fun R=>Cq.wp n i w R) (Cq.eq n i w) rfl h
def Cx.wp(n:Option Addr)(i:Int)(w:World)(R:TR [(true,[(.i .i64),(.i .i64),(.i .i64),(.i .i64),(.i .i64),(.i .i64)]),(false,[(.i .i64)]),(false,[(.i .i64)])]→WP):Prop:=
Bf [.int .i64 0,.int .i64 0,.int .i64 0,.int .i64 0,.int .i64 0,.int .i64 0] T.Ow w fun p1 w2=>
Ae prog F.Al [.pointer n,.int .i64 i] w2 false [(false,[(.i .i64)])] fun r3 w4=>
Aj (r3.1.1 !=0) (
Au [.int .i64 0,.int .i64 0,.int .i64 0,.int .i64 0,.int .i64 0,.int .i64 0] p1 0 w4 fun w5=>
A8 [(.i .i64),(.i .i64),(.i .i64),(.i .i64),(.i .i64),(.i .i64)] p1 0 w5 fun x6=>
R ((x6.1,x6.2.1,x6.2.2.1,x6.2.2.2.1,x6.2.2.2.2.1,x6.2.2.2.2.2.1,()),(0,()),(r3.1.1,()),()) w5) (
Aq n fun a7=>
ld1 .sl (a7.add 12) w4 fun x8=>
Ny x8.1 x8.2.1 i fun a9=>
ld1 .p (a9.add (i.toNat*1)) w4 fun x10=>
Ae prog F.K8 [.pointer x10] w4 true [(true,[(.i .i64),(.i .i64),(.i .i64),(.i .i64),(.i .i64),(.i .i64)]),(false,[(.i .i64)]),(false,[(.i .i64)])] fun r11 w12=>
Au [.int .i64 r11.1.1,.int .i64 r11.1.2.1,.int .i64 r11.1.2.2.1,.int .i64 r11.1.2.2.2.1,.int .i64 r11.1.2.2.2.2.1,.int .i64 r11.1.2.2.2.2.2.1] p1 0 w12 fun w13=>
A8 [(.i .i64),(.i .i64),(.i .i64),(.i .i64),(.i .i64),(.i .i64)] p1 0 w13 fun x14=>
R ((x14.1,x14.2.1,x14.2.2.1,x14.2.2.2.1,x14.2.2.2.2.1,x14.2.2.2.2.2.1,()),(r11.2.1.1,()),(r11.2.2.1.1,()),()) w13)
theorem Cx.eq(n:Option Addr)(i:Int)(w:World)(R:Value→WP):Aw prog Tryz.f43 .n [.pointer n,.int .i64 i] w R=Cx.wp n i w (fun r w=>R (encR true [(true,[(.i .i64),(.i .i64),(.i .i64),(.i .i64),(.i .i64),(.i .i64)]),(false,[(.i .i64)]),(false,[(.i .i64)])] r) w):=by kernel_rfl
theorem Cx.ok{n:Option Addr}{i:Int}{w:World}{R:TR [(true,[(.i .i64),(.i .i64),(.i .i64),(.i .i64),(.i .i64),(.i .i64)]),(false,[(.i .i64)]),(false,[(.i .i64)])]→WP}(h:Cx.wp n i w R):Ae prog F.Cx [.pointer n,.int .i64 i] w true [(true,[(.i .i64),(.i .i64),(.i .i64),(.i .i64),(.i .i64),(.i .i64)]),(false,[(.i .i64)]),(false,[(.i .i64)])] R:=
  Aop Aa Tryz.func43 (fun R=>Cx.wp n i w R) (Cx.eq n i w) rfl h
def Cz.wp(n:Option Addr)(w:World)(R:TR [(false,[(.i .i64)]),(false,[.b])]→WP):Prop:=
Aj (Option.isNone n) (
R ((0,()),(false,()),()) w) (
Aq n fun a1=>
ld1 .sl (a1.add 12) w fun x2=>
Ci (fun(self3:((Int)×(Int)×Unit)→WP) (z4:(Int)×(Int)×Unit) w5=> ∀_:Nat→Value,
Aj (decide (z4.2.1<(x2.2.1:Int))) (
Ny x2.1 x2.2.1 z4.2.1 fun a6=>
ld1 .p (a6.add (z4.2.1.toNat*1)) w5 fun x7=>
Ae prog F.Cb [.pointer x7] w5 false [(true,[.b,(.i .u16),(.i .i64),(.i .i64),.b,.b,(.i .i64),(.i .i64),(.i .i64),.b,(.i .i64),(.i .i64)])] fun r8 w9=>
Aj r8.1.1 (
fJ z4.2.1 (
self3 (Lm .or .u64 z4.1 (Sz .u64 1 z4.2.1),wrap .i64 (z4.2.1+1),()) w9)) (
self3 (z4.1,wrap .i64 (z4.2.1+1),()) w9)) (
Aq n fun a10=>
ld1 .p (a10.add 11) w5 fun x11=>
Ae prog F.Jv [.pointer x11,.int .u64 z4.1] w5 true [(false,[(.i .i64)]),(false,[.b])] fun r12 w13=>
R ((r12.1.1,()),(r12.2.1.1,()),()) w13)) (0,0,()) w)
theorem Cz.eq(n:Option Addr)(w:World)(R:Value→WP):Aw prog Tryz.f44 (.s .n (.s .n (.s .n (.s (.s .n (.lp [(4,(.i .u64)),(14,(.i .i64))] .n)) .n)))) [.pointer n] w R=Cz.wp n w (fun r w=>R (encR true [(false,[(.i .i64)]),(false,[.b])] r) w):=by kernel_rfl
theorem Cz.ok{n:Option Addr}{w:World}{R:TR [(false,[(.i .i64)]),(false,[.b])]→WP}(h:Cz.wp n w R):Ae prog F.Cz [.pointer n] w true [(false,[(.i .i64)]),(false,[.b])] R:=
  Aop Aa Tryz.func44 (fun R=>Cz.wp n w R) (Cz.eq n w) rfl h
def C8.wp(s0:Int)(s1:Int)(s2:Int)(s3:Int)(s4:Int)(s5:Int)(s6:Int)(s7:Int)(s8:Int)(s9:Int)(s10:Bool)(w:World)(R:TR [(false,[.b])]→WP):Prop:=
Bf [.int .i64 s0,.int .i64 s1,.int .i64 s2,.int .i64 s3,.int .i64 s4,.int .i64 s5,.int .i64 s6,.int .i64 s7,.int .i64 s8,.int .i64 s9,.bool s10] T.Xj w fun p1 w2=>
ld1 (.i .i64) p1 w2 fun x3=>
ld1 (.i .i64) (p1.add 1) w2 fun x4=>
ld1 (.i .i64) (p1.add 2) w2 fun x5=>
ld1 (.i .i64) (p1.add 3) w2 fun x6=>
ld1 (.i .i64) (p1.add 4) w2 fun x7=>
Ae prog F.Vq [.int .i64 x3,.int .i64 x4,.int .i64 x5,.int .i64 x6,.int .i64 x7] w2 false [(false,[.b])] fun r8 w9=>
Aj r8.1.1 (
A8 [(.i .i64),(.i .i64),(.i .i64),(.i .i64),(.i .i64),(.i .i64),(.i .i64),(.i .i64),(.i .i64),(.i .i64),.b] p1 0 w9 fun x10=>
Ae prog F.Jy [.agg #[.int .i64 x10.1,.int .i64 x10.2.1,.int .i64 x10.2.2.1,.int .i64 x10.2.2.2.1,.int .i64 x10.2.2.2.2.1,.int .i64 x10.2.2.2.2.2.1,.int .i64 x10.2.2.2.2.2.2.1,.int .i64 x10.2.2.2.2.2.2.2.1,.int .i64 x10.2.2.2.2.2.2.2.2.1,.int .i64 x10.2.2.2.2.2.2.2.2.2.1,.bool x10.2.2.2.2.2.2.2.2.2.2.1]] w9 false [(true,[(.i .i64),(.i .i64),(.i .i64)])] fun r11 w12=>
Ae prog F.U3 [.agg #[.int .i64 r11.1.1,.int .i64 r11.1.2.1,.int .i64 r11.1.2.2.1]] w12 false [(false,[.b])] fun r13 w14=>
Aj r13.1.1 (
ld1 (.i .i64) (p1.add 8) w14 fun x15=>
Aj (decide (x15≥1)) (
ld1 (.i .i64) (p1.add 8) w14 fun x16=>
ld1 (.i .i64) (p1.add 1) w14 fun x17=>
Aj (decide (x16≤x17)) (
ld1 (.i .i64) (p1.add 9) w14 fun x18=>
Aj (decide (x18≥0)) (
ld1 (.i .i64) (p1.add 9) w14 fun x19=>
R ((decide (x19≤20),()),()) w14) (
R ((false,()),()) w14)) (
R ((false,()),()) w14)) (
R ((false,()),()) w14)) (
R ((false,()),()) w14)) (
R ((false,()),()) w9)
theorem C8.eq(s0:Int)(s1:Int)(s2:Int)(s3:Int)(s4:Int)(s5:Int)(s6:Int)(s7:Int)(s8:Int)(s9:Int)(s10:Bool)(w:World)(R:Value→WP):Aw prog Tryz.f50 .n [.agg #[.int .i64 s0,.int .i64 s1,.int .i64 s2,.int .i64 s3,.int .i64 s4,.int .i64 s5,.int .i64 s6,.int .i64 s7,.int .i64 s8,.int .i64 s9,.bool s10]] w R=C8.wp s0 s1 s2 s3 s4 s5 s6 s7 s8 s9 s10 w (fun r w=>R (encR false [(false,[.b])] r) w):=by kernel_rfl
theorem C8.ok{s0:Int}{s1:Int}{s2:Int}{s3:Int}{s4:Int}{s5:Int}{s6:Int}{s7:Int}{s8:Int}{s9:Int}{s10:Bool}{w:World}{R:TR [(false,[.b])]→WP}(h:C8.wp s0 s1 s2 s3 s4 s5 s6 s7 s8 s9 s10 w R):Ae prog F.C8 [.agg #[.int .i64 s0,.int .i64 s1,.int .i64 s2,.int .i64 s3,.int .i64 s4,.int .i64 s5,.int .i64 s6,.int .i64 s7,.int .i64 s8,.int .i64 s9,.bool s10]] w false [(false,[.b])] R:=
  Aop Aa Tryz.func50 (fun R=>C8.wp s0 s1 s2 s3 s4 s5 s6 s7 s8 s9 s10 w R) (C8.eq s0 s1 s2 s3 s4 s5 s6 s7 s8 s9 s10 w) rfl h
def Dg.wp(n:Int)(w:World)(R:TR [(false,[.p]),(false,[(.i .i64)])]→WP):Prop:=
Aj (decide (n<1)) (
R ((none,()),(1,()),()) w) (
Aj (decide (n>64)) (
R ((none,()),(1,()),()) w) (
L9 ((Instr.makeSlice T.Ux (.int .i64 n) (.int .i64 n)).run prog w) fun y1 w2=>
Bf [.int .i64 n,.slice y1.1 y1.2.1 y1.2.2] T.M7 w2 fun p3 w4=>
R ((some p3,()),(0,()),()) w4))
theorem Dg.eq(n:Int)(w:World)(R:Value→WP):Aw prog Tryz.f51 .n [.int .i64 n] w R=Dg.wp n w (fun r w=>R (encR true [(false,[.p]),(false,[(.i .i64)])] r) w):=by kernel_rfl
theorem Dg.ok{n:Int}{w:World}{R:TR [(false,[.p]),(false,[(.i .i64)])]→WP}(h:Dg.wp n w R):Ae prog F.Dg [.int .i64 n] w true [(false,[.p]),(false,[(.i .i64)])] R:=
  Aop Aa Tryz.func51 (fun R=>Dg.wp n w R) (Dg.eq n w) rfl h
def Uz.wp(s0:Int)(s1:Int)(s2:Int)(s3:Int)(s4:Int)(s5:Int)(s6:Int)(s7:Int)(s8:Int)(s9:Int)(s10:Bool)(leaps:Option Addr)(w:World)(R:TR [(false,[.p]),(false,[(.i .i64)])]→WP):Prop:=
Bf [.int .i64 s0,.int .i64 s1,.int .i64 s2,.int .i64 s3,.int .i64 s4,.int .i64 s5,.int .i64 s6,.int .i64 s7,.int .i64 s8,.int .i64 s9,.bool s10] T.jP w fun p1 w2=>
A8 [(.i .i64),(.i .i64),(.i .i64),(.i .i64),(.i .i64),(.i .i64),(.i .i64),(.i .i64),(.i .i64),(.i .i64),.b] p1 0 w2 fun x3=>
Ae prog F.Nq [.agg #[.int .i64 x3.1,.int .i64 x3.2.1,.int .i64 x3.2.2.1,.int .i64 x3.2.2.2.1,.int .i64 x3.2.2.2.2.1,.int .i64 x3.2.2.2.2.2.1,.int .i64 x3.2.2.2.2.2.2.1,.int .i64 x3.2.2.2.2.2.2.2.1,.int .i64 x3.2.2.2.2.2.2.2.2.1,.int .i64 x3.2.2.2.2.2.2.2.2.2.1,.bool x3.2.2.2.2.2.2.2.2.2.2.1]] w2 false [(false,[.b])] fun r4 w5=>
Aj (!r4.1.1) (
R ((none,()),(1,()),()) w5) (
Jg w5 fun w6=>
A8 [(.i .i64),(.i .i64),(.i .i64),(.i .i64),(.i .i64),(.i .i64),(.i .i64),(.i .i64),(.i .i64),(.i .i64),.b] p1 0 w6 fun x7=>
Ae prog F.Wl [] w6 false [(false,[.p])] fun r8 w9=>
Ab [(0,(p1.add 0),(w6.cell? (p1.add 0)).getD undef),(0,(p1.add 1),(w6.cell? (p1.add 1)).getD undef),(0,(p1.add 2),(w6.cell? (p1.add 2)).getD undef),(0,(p1.add 3),(w6.cell? (p1.add 3)).getD undef),(0,(p1.add 4),(w6.cell? (p1.add 4)).getD undef),(0,(p1.add 5),(w6.cell? (p1.add 5)).getD undef),(0,(p1.add 6),(w6.cell? (p1.add 6)).getD undef),(0,(p1.add 7),(w6.cell? (p1.add 7)).getD undef),(0,(p1.add 8),(w6.cell? (p1.add 8)).getD undef),(0,(p1.add 9),(w6.cell? (p1.add 9)).getD undef),(0,(p1.add 10),(w6.cell? (p1.add 10)).getD undef)] w9∧(
Bf [.int .i64 x7.1,.int .i64 x7.2.1,.int .i64 x7.2.2.1,.int .i64 x7.2.2.2.1,.int .i64 x7.2.2.2.2.1,.int .i64 x7.2.2.2.2.2.1,.int .i64 x7.2.2.2.2.2.2.1,.int .i64 x7.2.2.2.2.2.2.2.1,.int .i64 x7.2.2.2.2.2.2.2.2.1,.int .i64 x7.2.2.2.2.2.2.2.2.2.1,.bool x7.2.2.2.2.2.2.2.2.2.2.1,.pointer leaps,.bool false,.int .u16 0,.pointer none,.pointer none,.pointer none,.pointer none,.pointer none,.bool false,.int .i64 0,.int .u16 0,.int .i64 0,.int .u16 0,.int .i64 0,.int .i64 0,.pointer r8.1.1,.pointer none] T.Ad6 w9 fun p10 w11=>
Ab [(0,(p1.add 0),(w6.cell? (p1.add 0)).getD undef),(0,(p1.add 1),(w6.cell? (p1.add 1)).getD undef),(0,(p1.add 2),(w6.cell? (p1.add 2)).getD undef),(0,(p1.add 3),(w6.cell? (p1.add 3)).getD undef),(0,(p1.add 4),(w6.cell? (p1.add 4)).getD undef),(0,(p1.add 5),(w6.cell? (p1.add 5)).getD undef),(0,(p1.add 6),(w6.cell? (p1.add 6)).getD undef),(0,(p1.add 7),(w6.cell? (p1.add 7)).getD undef),(0,(p1.add 8),(w6.cell? (p1.add 8)).getD undef),(0,(p1.add 9),(w6.cell? (p1.add 9)).getD undef),(0,(p1.add 10),(w6.cell? (p1.add 10)).getD undef)] w11∧(
ld1 (.i .i64) ((p1.add 1).add 3) w11 fun x12=>
Ae prog F.Xz [.int .i64 x12] w11 true [(false,[.p]),(false,[(.i .i64)])] fun r13 w14=>
Au [.pointer r13.1.1] (p10.add 14) 0 w14 fun w15=>
ld1 (.i .i64) p1 w15 fun x16=>
A8 [(.i .i64),(.i .i64),(.i .i64),(.i .i64)] (p1.add 1) 0 w15 fun x17=>
Ae prog F.Ui [.int .i64 x16,.agg #[.int .i64 x17.1,.int .i64 x17.2.1,.int .i64 x17.2.2.1,.int .i64 x17.2.2.2.1]] w15 true [(false,[.p]),(false,[(.i .i64)])] fun r18 w19=>
Au [.pointer r18.1.1] (p10.add 15) 0 w19 fun w20=>
ld1 (.i .i64) p1 w20 fun x21=>
Ae prog F.Wp [.int .i64 x21] w20 true [(false,[.p]),(false,[(.i .i64)])] fun r22 w23=>
Au [.pointer r22.1.1] (p10.add 16) 0 w23 fun w24=>
ld1 (.i .i64) p1 w24 fun x25=>
Ae prog F.Xq [.int .i64 x25] w24 true [(false,[.p]),(false,[(.i .i64)])] fun r26 w27=>
Au [.pointer r26.1.1] (p10.add 17) 0 w27 fun w28=>
ld1 (.i .i64) (p1.add 8) w28 fun x29=>
Ae prog F.Vm [.int .i64 x29] w28 true [(false,[.p]),(false,[(.i .i64)])] fun r30 w31=>
Au [.pointer r30.1.1] (p10.add 18) 0 w31 fun w32=>
Ae prog F.Jc [.int .i64 8] w32 true [(false,[.p]),(false,[(.i .i64)])] fun r33 w34=>
Au [.pointer r33.1.1] (p10.add 27) 0 w34 fun w35=>
R ((some p10,()),(0,()),()) w35)))
theorem Uz.eq(s0:Int)(s1:Int)(s2:Int)(s3:Int)(s4:Int)(s5:Int)(s6:Int)(s7:Int)(s8:Int)(s9:Int)(s10:Bool)(leaps:Option Addr)(w:World)(R:Value→WP):Aw prog Tryz.f52 (.s .n (.s .n (.s (.pl (.tk 0 (.tk 1 (.ef 2 [] (.tk 3 (.ef 4 [] (.tk 5 .z))))))) .n))) [.agg #[.int .i64 s0,.int .i64 s1,.int .i64 s2,.int .i64 s3,.int .i64 s4,.int .i64 s5,.int .i64 s6,.int .i64 s7,.int .i64 s8,.int .i64 s9,.bool s10],.pointer leaps] w R=Uz.wp s0 s1 s2 s3 s4 s5 s6 s7 s8 s9 s10 leaps w (fun r w=>R (encR true [(false,[.p]),(false,[(.i .i64)])] r) w):=by kernel_rfl
theorem Uz.ok{s0:Int}{s1:Int}{s2:Int}{s3:Int}{s4:Int}{s5:Int}{s6:Int}{s7:Int}{s8:Int}{s9:Int}{s10:Bool}{leaps:Option Addr}{w:World}{R:TR [(false,[.p]),(false,[(.i .i64)])]→WP}(h:Uz.wp s0 s1 s2 s3 s4 s5 s6 s7 s8 s9 s10 leaps w R):Ae prog F.Uz [.agg #[.int .i64 s0,.int .i64 s1,.int .i64 s2,.int .i64 s3,.int .i64 s4,.int .i64 s5,.int .i64 s6,.int .i64 s7,.int .i64 s8,.int .i64 s9,.bool s10],.pointer leaps] w true [(false,[.p]),(false,[(.i .i64)])] R:=
  Aop Aa Tryz.func52 (fun R=>Uz.wp s0 s1 s2 s3 s4 s5 s6 s7 s8 s9 s10 leaps w R) (Uz.eq s0 s1 s2 s3 s4 s5 s6 s7 s8 s9 s10 leaps w) rfl h
def Cs.wp(s0:Int)(s1:Int)(s2:Int)(s3:Int)(s4:Int)(s5:Int)(s6:Int)(s7:Int)(s8:Int)(s9:Int)(s10:Option Addr×Nat×Nat)(i:Int)(w:World)(R:TR [(true,[(.i .i64),(.i .i64),(.i .i64),(.i .i64),(.i .i64),(.i .i64),(.i .i64),(.i .i64),(.i .i64),(.i .i64),.b])]→WP):Prop:=
Bf [.int .i64 s0,.int .i64 s1,.int .i64 s2,.int .i64 s3,.int .i64 s4,.int .i64 s5,.int .i64 s6,.int .i64 s7,.int .i64 s8,.int .i64 s9,.slice s10.1 s10.2.1 s10.2.2] T.Jw w fun p1 w2=>
Bf [.int .i64 0,.int .i64 0,.int .i64 0,.int .i64 0,.int .i64 0,.int .i64 0,.int .i64 0,.int .i64 0,.int .i64 0,.int .i64 0,.bool false] T.jP w2 fun p3 w4=>
ld1 (.i .i64) (p1.add 5) w4 fun x5=>
dF (if 1>x5 then 1 else x5) (
Cc (fun(J6:((Int)×Unit)→WP)=>
ld1 .sl (p1.add 10) w4 fun x9=>
Aj (decide (i<(x9.2.1:Int))) (
ld1 .sl (p1.add 10) w4 fun x10=>
Ny x10.1 x10.2.1 i fun a11=>
ld1 (.i .i64) (a11.add (i.toNat*1)) w4 fun x12=>
J6 (x12,()) w4) (
J6 (Int.tmod i (if 1>x5 then 1 else x5),()) w4)) (fun(z7:(Int)×Unit) w8=> ∀_:Nat→Value,
A8 [(.i .i64),(.i .i64),(.i .i64),(.i .i64)] (p1.add 1) 0 w8 fun x13=>
ld1 (.i .i64) (p1.add 5) w8 fun x14=>
ld1 (.i .i64) (p1.add 6) w8 fun x15=>
ld1 (.i .i64) (p1.add 7) w8 fun x16=>
ld1 (.i .i64) (p1.add 8) w8 fun x17=>
ld1 (.i .i64) (p1.add 9) w8 fun x18=>
Au [.int .i64 i,.int .i64 x13.1,.int .i64 x13.2.1,.int .i64 x13.2.2.1,.int .i64 x13.2.2.2.1,.int .i64 x14,.int .i64 x15,.int .i64 z7.1,.int .i64 x16,.int .i64 x17,.bool (i==x18)] p3 0 w8 fun w19=>
A8 [(.i .i64),(.i .i64),(.i .i64),(.i .i64),(.i .i64),(.i .i64),(.i .i64),(.i .i64),(.i .i64),(.i .i64),.b] p3 0 w19 fun x20=>
R ((x20.1,x20.2.1,x20.2.2.1,x20.2.2.2.1,x20.2.2.2.2.1,x20.2.2.2.2.2.1,x20.2.2.2.2.2.2.1,x20.2.2.2.2.2.2.2.1,x20.2.2.2.2.2.2.2.2.1,x20.2.2.2.2.2.2.2.2.2.1,x20.2.2.2.2.2.2.2.2.2.2.1,()),()) w19))
theorem Cs.eq(s0:Int)(s1:Int)(s2:Int)(s3:Int)(s4:Int)(s5:Int)(s6:Int)(s7:Int)(s8:Int)(s9:Int)(s10:Option Addr×Nat×Nat)(i:Int)(w:World)(R:Value→WP):Aw prog Tryz.f53 (.s .n (.s .n (.ct [(5,(.i .i64))] .n .n))) [.agg #[.int .i64 s0,.int .i64 s1,.int .i64 s2,.int .i64 s3,.int .i64 s4,.int .i64 s5,.int .i64 s6,.int .i64 s7,.int .i64 s8,.int .i64 s9,.slice s10.1 s10.2.1 s10.2.2],.int .i64 i] w R=Cs.wp s0 s1 s2 s3 s4 s5 s6 s7 s8 s9 s10 i w (fun r w=>R (encR false [(true,[(.i .i64),(.i .i64),(.i .i64),(.i .i64),(.i .i64),(.i .i64),(.i .i64),(.i .i64),(.i .i64),(.i .i64),.b])] r) w):=by kernel_rfl
theorem Cs.ok{s0:Int}{s1:Int}{s2:Int}{s3:Int}{s4:Int}{s5:Int}{s6:Int}{s7:Int}{s8:Int}{s9:Int}{s10:Option Addr×Nat×Nat}{i:Int}{w:World}{R:TR [(true,[(.i .i64),(.i .i64),(.i .i64),(.i .i64),(.i .i64),(.i .i64),(.i .i64),(.i .i64),(.i .i64),(.i .i64),.b])]→WP}(h:Cs.wp s0 s1 s2 s3 s4 s5 s6 s7 s8 s9 s10 i w R):Ae prog F.Cs [.agg #[.int .i64 s0,.int .i64 s1,.int .i64 s2,.int .i64 s3,.int .i64 s4,.int .i64 s5,.int .i64 s6,.int .i64 s7,.int .i64 s8,.int .i64 s9,.slice s10.1 s10.2.1 s10.2.2],.int .i64 i] w false [(true,[(.i .i64),(.i .i64),(.i .i64),(.i .i64),(.i .i64),(.i .i64),(.i .i64),(.i .i64),(.i .i64),(.i .i64),.b])] R:=
  Aop Aa Tryz.func53 (fun R=>Cs.wp s0 s1 s2 s3 s4 s5 s6 s7 s8 s9 s10 i w R) (Cs.eq s0 s1 s2 s3 s4 s5 s6 s7 s8 s9 s10 i w) rfl h
def Ao.wp(n:Option Addr)(i:Int)(w:World)(R:TR [(false,[.p])]→WP):Prop:=
Aj (Option.isNone n) (
R ((none,()),()) w) (
Aj (decide (i<0)) (
R ((none,()),()) w) (
Aq n fun a1=>
ld1 .sl (a1.add 12) w fun x2=>
Aj (decide (i≥(x2.2.1:Int))) (
R ((none,()),()) w) (
Aq n fun a3=>
ld1 .sl (a3.add 12) w fun x4=>
Ny x4.1 x4.2.1 i fun a5=>
ld1 .p (a5.add (i.toNat*1)) w fun x6=>
R ((x6,()),()) w)))
theorem Ao.eq(n:Option Addr)(i:Int)(w:World)(R:Value→WP):Aw prog Tryz.f54 .n [.pointer n,.int .i64 i] w R=Ao.wp n i w (fun r w=>R (encR false [(false,[.p])] r) w):=by kernel_rfl
theorem Ao.ok{n:Option Addr}{i:Int}{w:World}{R:TR [(false,[.p])]→WP}(h:Ao.wp n i w R):Ae prog F.Ao [.pointer n,.int .i64 i] w false [(false,[.p])] R:=
  Aop Aa Tryz.func54 (fun R=>Ao.wp n i w R) (Ao.eq n i w) rfl h
def Cb.wp(n:Option Addr)(w:World)(R:TR [(true,[.b,(.i .u16),(.i .i64),(.i .i64),.b,.b,(.i .i64),(.i .i64),(.i .i64),.b,(.i .i64),(.i .i64)])]→WP):Prop:=
Bf [.bool false,.int .u16 0,.int .i64 0,.int .i64 0,.bool false,.bool false,.int .i64 0,.int .i64 0,.int .i64 0,.bool false,.int .i64 0,.int .i64 0] T.nK w fun p1 w2=>
Aj (Option.isNone n) (
Au [.bool false,.int .u16 0,.int .i64 0,.int .i64 0,.bool false,.bool false,.int .i64 0,.int .i64 0,.int .i64 0,.bool false,.int .i64 0,.int .i64 0] p1 0 w2 fun w3=>
A8 [.b,(.i .u16),(.i .i64),(.i .i64),.b,.b,(.i .i64),(.i .i64),(.i .i64),.b,(.i .i64),(.i .i64)] p1 0 w3 fun x4=>
R ((x4.1,x4.2.1,x4.2.2.1,x4.2.2.2.1,x4.2.2.2.2.1,x4.2.2.2.2.2.1,x4.2.2.2.2.2.2.1,x4.2.2.2.2.2.2.2.1,x4.2.2.2.2.2.2.2.2.1,x4.2.2.2.2.2.2.2.2.2.1,x4.2.2.2.2.2.2.2.2.2.2.1,x4.2.2.2.2.2.2.2.2.2.2.2.1,()),()) w3) (
Aq n fun a5=>
ld1 .b (a5.add 12) w2 fun x6=>
Aj (!x6) (
Aq n fun a7=>
ld1 (.i .u16) (a7.add 13) w2 fun x8=>
Au [.bool false,.int .u16 x8,.int .i64 0,.int .i64 0,.bool false,.bool false,.int .i64 0,.int .i64 0,.int .i64 0,.bool false,.int .i64 0,.int .i64 0] p1 0 w2 fun w9=>
A8 [.b,(.i .u16),(.i .i64),(.i .i64),.b,.b,(.i .i64),(.i .i64),(.i .i64),.b,(.i .i64),(.i .i64)] p1 0 w9 fun x10=>
R ((x10.1,x10.2.1,x10.2.2.1,x10.2.2.2.1,x10.2.2.2.2.1,x10.2.2.2.2.2.1,x10.2.2.2.2.2.2.1,x10.2.2.2.2.2.2.2.1,x10.2.2.2.2.2.2.2.2.1,x10.2.2.2.2.2.2.2.2.2.1,x10.2.2.2.2.2.2.2.2.2.2.1,x10.2.2.2.2.2.2.2.2.2.2.2.1,()),()) w9) (
Jg w2 fun w11=>
Aq n fun a12=>
ld1 (.i .u16) (a12.add 13) w11 fun x13=>
Aq n fun a14=>
ld1 .p (a14.add 14) w11 fun x15=>
Aq n fun a16=>
ld1 .p (a16.add 15) w11 fun x17=>
Aq x17 fun a18=>
ld1 .p a18 w11 fun x19=>
Aq n fun a20=>
ld1 .p (a20.add 15) w11 fun x21=>
Aq x21 fun a22=>
ld1 .p a22 w11 fun x23=>
Aq n fun a24=>
ld1 .p (a24.add 15) w11 fun x25=>
Aq n fun a26=>
ld1 .p (a26.add 15) w11 fun x27=>
Aq n fun a28=>
ld1 .p (a28.add 16) w11 fun x29=>
Aq n fun a30=>
ld1 .p (a30.add 16) w11 fun x31=>
Aq n fun a32=>
ld1 .p (a32.add 17) w11 fun x33=>
Aq n fun a34=>
ld1 .p (a34.add 27) w11 fun x35=>
Aq n fun a36=>
ld1 .p (a36.add 26) w11 fun x37=>
Ae prog F.Ez [.pointer x15] w11 false [(false,[(.i .i64)])] fun r38 w39=>
Ab [(58,(a36.add 26),(w11.cell? (a36.add 26)).getD undef),(53,(a34.add 27),(w11.cell? (a34.add 27)).getD undef),(48,(a32.add 17),(w11.cell? (a32.add 17)).getD undef),(43,(a30.add 16),(w11.cell? (a30.add 16)).getD undef),(38,(a28.add 16),(w11.cell? (a28.add 16)).getD undef),(33,(a26.add 15),(w11.cell? (a26.add 15)).getD undef),(28,(a24.add 15),(w11.cell? (a24.add 15)).getD undef),(23,a22,(w11.cell? a22).getD undef),(20,(a20.add 15),(w11.cell? (a20.add 15)).getD undef),(15,a18,(w11.cell? a18).getD undef),(12,(a16.add 15),(w11.cell? (a16.add 15)).getD undef),(7,(a14.add 14),(w11.cell? (a14.add 14)).getD undef),(3,(a12.add 13),(w11.cell? (a12.add 13)).getD undef)] w39∧(
Ae prog F.Dc [.pointer x19] w39 false [(false,[(.i .i64)])] fun r40 w41=>
Ab [(58,(a36.add 26),(w11.cell? (a36.add 26)).getD undef),(53,(a34.add 27),(w11.cell? (a34.add 27)).getD undef),(48,(a32.add 17),(w11.cell? (a32.add 17)).getD undef),(43,(a30.add 16),(w11.cell? (a30.add 16)).getD undef),(38,(a28.add 16),(w11.cell? (a28.add 16)).getD undef),(33,(a26.add 15),(w11.cell? (a26.add 15)).getD undef),(28,(a24.add 15),(w11.cell? (a24.add 15)).getD undef),(23,a22,(w11.cell? a22).getD undef),(20,(a20.add 15),(w11.cell? (a20.add 15)).getD undef),(15,a18,(w11.cell? a18).getD undef),(12,(a16.add 15),(w11.cell? (a16.add 15)).getD undef),(7,(a14.add 14),(w11.cell? (a14.add 14)).getD undef),(3,(a12.add 13),(w11.cell? (a12.add 13)).getD undef)] w41∧(
Ae prog F.Bc [.pointer x23] w41 false [(false,[.b])] fun r42 w43=>
Ab [(58,(a36.add 26),(w11.cell? (a36.add 26)).getD undef),(53,(a34.add 27),(w11.cell? (a34.add 27)).getD undef),(48,(a32.add 17),(w11.cell? (a32.add 17)).getD undef),(43,(a30.add 16),(w11.cell? (a30.add 16)).getD undef),(38,(a28.add 16),(w11.cell? (a28.add 16)).getD undef),(33,(a26.add 15),(w11.cell? (a26.add 15)).getD undef),(28,(a24.add 15),(w11.cell? (a24.add 15)).getD undef),(23,a22,(w11.cell? a22).getD undef),(20,(a20.add 15),(w11.cell? (a20.add 15)).getD undef),(15,a18,(w11.cell? a18).getD undef),(12,(a16.add 15),(w11.cell? (a16.add 15)).getD undef),(7,(a14.add 14),(w11.cell? (a14.add 14)).getD undef),(3,(a12.add 13),(w11.cell? (a12.add 13)).getD undef)] w43∧(
Ae prog F.Ba [.pointer x25] w43 false [(false,[.b])] fun r44 w45=>
Ab [(58,(a36.add 26),(w11.cell? (a36.add 26)).getD undef),(53,(a34.add 27),(w11.cell? (a34.add 27)).getD undef),(48,(a32.add 17),(w11.cell? (a32.add 17)).getD undef),(43,(a30.add 16),(w11.cell? (a30.add 16)).getD undef),(38,(a28.add 16),(w11.cell? (a28.add 16)).getD undef),(33,(a26.add 15),(w11.cell? (a26.add 15)).getD undef),(28,(a24.add 15),(w11.cell? (a24.add 15)).getD undef),(23,a22,(w11.cell? a22).getD undef),(20,(a20.add 15),(w11.cell? (a20.add 15)).getD undef),(15,a18,(w11.cell? a18).getD undef),(12,(a16.add 15),(w11.cell? (a16.add 15)).getD undef),(7,(a14.add 14),(w11.cell? (a14.add 14)).getD undef),(3,(a12.add 13),(w11.cell? (a12.add 13)).getD undef)] w45∧(
Ae prog F.Hg [.pointer x27] w45 false [(false,[(.i .i64)])] fun r46 w47=>
Ab [(58,(a36.add 26),(w11.cell? (a36.add 26)).getD undef),(53,(a34.add 27),(w11.cell? (a34.add 27)).getD undef),(48,(a32.add 17),(w11.cell? (a32.add 17)).getD undef),(43,(a30.add 16),(w11.cell? (a30.add 16)).getD undef),(38,(a28.add 16),(w11.cell? (a28.add 16)).getD undef),(33,(a26.add 15),(w11.cell? (a26.add 15)).getD undef),(28,(a24.add 15),(w11.cell? (a24.add 15)).getD undef),(23,a22,(w11.cell? a22).getD undef),(20,(a20.add 15),(w11.cell? (a20.add 15)).getD undef),(15,a18,(w11.cell? a18).getD undef),(12,(a16.add 15),(w11.cell? (a16.add 15)).getD undef),(7,(a14.add 14),(w11.cell? (a14.add 14)).getD undef),(3,(a12.add 13),(w11.cell? (a12.add 13)).getD undef)] w47∧(
Ae prog F.Ja [.pointer x29] w47 false [(false,[(.i .i64)])] fun r48 w49=>
Ab [(58,(a36.add 26),(w11.cell? (a36.add 26)).getD undef),(53,(a34.add 27),(w11.cell? (a34.add 27)).getD undef),(48,(a32.add 17),(w11.cell? (a32.add 17)).getD undef),(43,(a30.add 16),(w11.cell? (a30.add 16)).getD undef),(38,(a28.add 16),(w11.cell? (a28.add 16)).getD undef),(33,(a26.add 15),(w11.cell? (a26.add 15)).getD undef),(28,(a24.add 15),(w11.cell? (a24.add 15)).getD undef),(23,a22,(w11.cell? a22).getD undef),(20,(a20.add 15),(w11.cell? (a20.add 15)).getD undef),(15,a18,(w11.cell? a18).getD undef),(12,(a16.add 15),(w11.cell? (a16.add 15)).getD undef),(7,(a14.add 14),(w11.cell? (a14.add 14)).getD undef),(3,(a12.add 13),(w11.cell? (a12.add 13)).getD undef)] w49∧(
Ae prog F.En [.pointer x31] w49 false [(false,[(.i .i64)])] fun r50 w51=>
Ab [(58,(a36.add 26),(w11.cell? (a36.add 26)).getD undef),(53,(a34.add 27),(w11.cell? (a34.add 27)).getD undef),(48,(a32.add 17),(w11.cell? (a32.add 17)).getD undef),(43,(a30.add 16),(w11.cell? (a30.add 16)).getD undef),(38,(a28.add 16),(w11.cell? (a28.add 16)).getD undef),(33,(a26.add 15),(w11.cell? (a26.add 15)).getD undef),(28,(a24.add 15),(w11.cell? (a24.add 15)).getD undef),(23,a22,(w11.cell? a22).getD undef),(20,(a20.add 15),(w11.cell? (a20.add 15)).getD undef),(15,a18,(w11.cell? a18).getD undef),(12,(a16.add 15),(w11.cell? (a16.add 15)).getD undef),(7,(a14.add 14),(w11.cell? (a14.add 14)).getD undef),(3,(a12.add 13),(w11.cell? (a12.add 13)).getD undef)] w51∧(
Ae prog F.Nv [.pointer x33] w51 false [(false,[.b])] fun r52 w53=>
Ab [(58,(a36.add 26),(w11.cell? (a36.add 26)).getD undef),(53,(a34.add 27),(w11.cell? (a34.add 27)).getD undef),(48,(a32.add 17),(w11.cell? (a32.add 17)).getD undef),(43,(a30.add 16),(w11.cell? (a30.add 16)).getD undef),(38,(a28.add 16),(w11.cell? (a28.add 16)).getD undef),(33,(a26.add 15),(w11.cell? (a26.add 15)).getD undef),(28,(a24.add 15),(w11.cell? (a24.add 15)).getD undef),(23,a22,(w11.cell? a22).getD undef),(20,(a20.add 15),(w11.cell? (a20.add 15)).getD undef),(15,a18,(w11.cell? a18).getD undef),(12,(a16.add 15),(w11.cell? (a16.add 15)).getD undef),(7,(a14.add 14),(w11.cell? (a14.add 14)).getD undef),(3,(a12.add 13),(w11.cell? (a12.add 13)).getD undef)] w53∧(
Ae prog F.Di [.pointer x35] w53 false [(false,[(.i .i64)])] fun r54 w55=>
Ab [(58,(a36.add 26),(w11.cell? (a36.add 26)).getD undef),(53,(a34.add 27),(w11.cell? (a34.add 27)).getD undef),(48,(a32.add 17),(w11.cell? (a32.add 17)).getD undef),(43,(a30.add 16),(w11.cell? (a30.add 16)).getD undef),(38,(a28.add 16),(w11.cell? (a28.add 16)).getD undef),(33,(a26.add 15),(w11.cell? (a26.add 15)).getD undef),(28,(a24.add 15),(w11.cell? (a24.add 15)).getD undef),(23,a22,(w11.cell? a22).getD undef),(20,(a20.add 15),(w11.cell? (a20.add 15)).getD undef),(15,a18,(w11.cell? a18).getD undef),(12,(a16.add 15),(w11.cell? (a16.add 15)).getD undef),(7,(a14.add 14),(w11.cell? (a14.add 14)).getD undef),(3,(a12.add 13),(w11.cell? (a12.add 13)).getD undef)] w55∧(
Ae prog F.Qh [.pointer x37] w55 false [(false,[(.i .i64)])] fun r56 w57=>
Ab [(53,(a34.add 27),(w11.cell? (a34.add 27)).getD undef),(48,(a32.add 17),(w11.cell? (a32.add 17)).getD undef),(43,(a30.add 16),(w11.cell? (a30.add 16)).getD undef),(38,(a28.add 16),(w11.cell? (a28.add 16)).getD undef),(33,(a26.add 15),(w11.cell? (a26.add 15)).getD undef),(28,(a24.add 15),(w11.cell? (a24.add 15)).getD undef),(23,a22,(w11.cell? a22).getD undef),(20,(a20.add 15),(w11.cell? (a20.add 15)).getD undef),(15,a18,(w11.cell? a18).getD undef),(12,(a16.add 15),(w11.cell? (a16.add 15)).getD undef),(7,(a14.add 14),(w11.cell? (a14.add 14)).getD undef),(3,(a12.add 13),(w11.cell? (a12.add 13)).getD undef)] w57∧(
Au [.bool true,.int .u16 x13,.int .i64 r38.1.1,.int .i64 r40.1.1,.bool r42.1.1,.bool r44.1.1,.int .i64 r46.1.1,.int .i64 r48.1.1,.int .i64 r50.1.1,.bool r52.1.1,.int .i64 r54.1.1,.int .i64 r56.1.1] p1 0 w57 fun w58=>
Ab [] w58∧(
A8 [.b,(.i .u16),(.i .i64),(.i .i64),.b,.b,(.i .i64),(.i .i64),(.i .i64),.b,(.i .i64),(.i .i64)] p1 0 w58 fun x59=>
R ((x59.1,x59.2.1,x59.2.2.1,x59.2.2.2.1,x59.2.2.2.2.1,x59.2.2.2.2.2.1,x59.2.2.2.2.2.2.1,x59.2.2.2.2.2.2.2.1,x59.2.2.2.2.2.2.2.2.1,x59.2.2.2.2.2.2.2.2.2.1,x59.2.2.2.2.2.2.2.2.2.2.1,x59.2.2.2.2.2.2.2.2.2.2.2.1,()),()) w58)))))))))))))
theorem Cb.eq(n:Option Addr)(w:World)(R:Value→WP):Aw prog Tryz.f55 (.s .n (.s .n (.s .n (.s (.pl (.tk 0 (.tk 1 (.tk 2 (.tk 3 (.tk 4 (.tk 5 (.tk 6 (.tk 7 (.tk 9 (.tk 10 (.tk 11 (.tk 12 (.tk 13 (.tk 14 (.tk 15 (.tk 17 (.tk 18 (.tk 19 (.tk 20 (.tk 21 (.tk 22 (.tk 23 (.tk 25 (.tk 26 (.tk 27 (.tk 28 (.tk 30 (.tk 31 (.tk 32 (.tk 33 (.tk 35 (.tk 36 (.tk 37 (.tk 38 (.tk 40 (.tk 41 (.tk 42 (.tk 43 (.tk 45 (.tk 46 (.tk 47 (.tk 48 (.tk 50 (.tk 51 (.tk 52 (.tk 53 (.tk 55 (.tk 56 (.tk 57 (.tk 58 (.ef 8 [] (.ef 16 [] (.ef 24 [] (.ef 29 [] (.ef 34 [] (.ef 39 [] (.ef 44 [] (.ef 49 [] (.ef 54 [] (.ef 59 [58] (.tk 60 (.ef 61 [3,7,12,15,20,23,28,33,38,43,48,53] .z))))))))))))))))))))))))))))))))))))))))))))))))))))))))))))))) .n)))) [.pointer n] w R=Cb.wp n w (fun r w=>R (encR false [(true,[.b,(.i .u16),(.i .i64),(.i .i64),.b,.b,(.i .i64),(.i .i64),(.i .i64),.b,(.i .i64),(.i .i64)])] r) w):=by kernel_rfl
theorem Cb.ok{n:Option Addr}{w:World}{R:TR [(true,[.b,(.i .u16),(.i .i64),(.i .i64),.b,.b,(.i .i64),(.i .i64),(.i .i64),.b,(.i .i64),(.i .i64)])]→WP}(h:Cb.wp n w R):Ae prog F.Cb [.pointer n] w false [(true,[.b,(.i .u16),(.i .i64),(.i .i64),.b,.b,(.i .i64),(.i .i64),(.i .i64),.b,(.i .i64),(.i .i64)])] R:=
  Aop Aa Tryz.func55 (fun R=>Cb.wp n w R) (Cb.eq n w) rfl h
def Bu.wp(n:Option Addr)(w:World)(R:TR [(true,[(.i .u16),(.i .u16)]),(false,[.b])]→WP):Prop:=
Bf [.int .u16 0,.int .u16 0] T.Ti w fun p1 w2=>
Ae prog F.Cm [.pointer n] w2 false [(false,[(.i .i64)])] fun r3 w4=>
Aj (r3.1.1 !=0) (
Au [.int .u16 0,.int .u16 0] p1 0 w4 fun w5=>
A8 [(.i .u16),(.i .u16)] p1 0 w5 fun x6=>
R ((x6.1,x6.2.1,()),(false,()),()) w5) (
Aq n fun a7=>
ld1 .p (a7.add 15) w4 fun x8=>
Aq x8 fun a9=>
ld1 .p a9 w4 fun x10=>
Ae prog F.Hl [.pointer x10] w4 true [(true,[(.i .u16),(.i .u16)]),(false,[.b])] fun r11 w12=>
Au [.int .u16 r11.1.1,.int .u16 r11.1.2.1] p1 0 w12 fun w13=>
A8 [(.i .u16),(.i .u16)] p1 0 w13 fun x14=>
R ((x14.1,x14.2.1,()),(r11.2.1.1,()),()) w13)
theorem Bu.eq(n:Option Addr)(w:World)(R:Value→WP):Aw prog Tryz.f57 .n [.pointer n] w R=Bu.wp n w (fun r w=>R (encR true [(true,[(.i .u16),(.i .u16)]),(false,[.b])] r) w):=by kernel_rfl
theorem Bu.ok{n:Option Addr}{w:World}{R:TR [(true,[(.i .u16),(.i .u16)]),(false,[.b])]→WP}(h:Bu.wp n w R):Ae prog F.Bu [.pointer n] w true [(true,[(.i .u16),(.i .u16)]),(false,[.b])] R:=
  Aop Aa Tryz.func57 (fun R=>Bu.wp n w R) (Bu.eq n w) rfl h
def Bp.wp(l:Option Addr)(i:Int)(k:Int)(on_:Bool)(w:World)(R:TR [(false,[(.i .i64)])]→WP):Prop:=
Aj (Option.isNone l) (
R ((2,()),()) w) (
Ae prog F.Bq [.pointer l,.int .i64 i,.int .i64 k] w false [(false,[.b])] fun r1 w2=>
Aj (!r1.1.1) (
R ((1,()),()) w2) (
Jg w2 fun w3=>
Aq l fun a4=>
ld1 .sl (a4.add 1) w3 fun x5=>
Ny x5.1 x5.2.1 i fun a6=>
ld1 (.i .u64) (a6.add (i.toNat*1)) w3 fun x7=>
fJ k (
Ny x5.1 x5.2.1 i fun a8=>
Au [.int .u64 (Lm .andNot .u64 x7 (Sz .u64 1 k))] (a8.add (i.toNat*1)) 0 w3 fun w9=>
Ab [] w9∧(
Jg w9 fun w10=>
Aq l fun a11=>
ld1 .sl (a11.add 1) w10 fun x12=>
Ny x12.1 x12.2.1 k fun a13=>
ld1 (.i .u64) (a13.add (k.toNat*1)) w10 fun x14=>
fJ i (
Ny x12.1 x12.2.1 k fun a15=>
Au [.int .u64 (Lm .andNot .u64 x14 (Sz .u64 1 i))] (a15.add (k.toNat*1)) 0 w10 fun w16=>
Ab [] w16∧(
Aj on_ (
Jg w16 fun w17=>
Aq l fun a18=>
ld1 .sl (a18.add 1) w17 fun x19=>
Ny x19.1 x19.2.1 i fun a20=>
ld1 (.i .u64) (a20.add (i.toNat*1)) w17 fun x21=>
fJ k (
Ny x19.1 x19.2.1 i fun a22=>
Au [.int .u64 (Lm .or .u64 x21 (Sz .u64 1 k))] (a22.add (i.toNat*1)) 0 w17 fun w23=>
Ab [] w23∧(
Jg w23 fun w24=>
Aq l fun a25=>
ld1 .sl (a25.add 1) w24 fun x26=>
Ny x26.1 x26.2.1 k fun a27=>
ld1 (.i .u64) (a27.add (k.toNat*1)) w24 fun x28=>
fJ i (
Ny x26.1 x26.2.1 k fun a29=>
Au [.int .u64 (Lm .or .u64 x28 (Sz .u64 1 i))] (a29.add (k.toNat*1)) 0 w24 fun w30=>
Ab [] w30∧(
R ((0,()),()) w30))))) (
R ((0,()),()) w16)))))))
theorem Bp.eq(l:Option Addr)(i:Int)(k:Int)(on_:Bool)(w:World)(R:Value→WP):Aw prog Tryz.f58 (.s .n (.s .n (.s (.pl (.tk 0 (.tk 1 (.tk 2 (.tk 3 (.tk 4 (.tk 5 (.tk 6 (.tk 7 (.tk 8 (.tk 9 (.tk 10 (.ef 11 [3,6] .z))))))))))))) (.s (.pl (.tk 0 (.tk 1 (.tk 2 (.tk 3 (.tk 4 (.tk 5 (.tk 6 (.tk 7 (.tk 8 (.tk 9 (.tk 10 (.ef 11 [3,6] .z))))))))))))) (.s (.s .n (.s (.s (.pl (.tk 0 (.tk 1 (.tk 2 (.tk 3 (.tk 4 (.tk 5 (.tk 6 (.tk 7 (.tk 8 (.tk 9 (.tk 10 (.ef 11 [3,6] .z))))))))))))) (.pl (.tk 0 (.tk 1 (.tk 2 (.tk 3 (.tk 4 (.tk 5 (.tk 6 (.tk 7 (.tk 8 (.tk 9 (.tk 10 (.ef 11 [3,6] .z)))))))))))))) .n)) .n))))) [.pointer l,.int .i64 i,.int .i64 k,.bool on_] w R=Bp.wp l i k on_ w (fun r w=>R (encR false [(false,[(.i .i64)])] r) w):=by kernel_rfl
theorem Bp.ok{l:Option Addr}{i:Int}{k:Int}{on_:Bool}{w:World}{R:TR [(false,[(.i .i64)])]→WP}(h:Bp.wp l i k on_ w R):Ae prog F.Bp [.pointer l,.int .i64 i,.int .i64 k,.bool on_] w false [(false,[(.i .i64)])] R:=
  Aop Aa Tryz.func58 (fun R=>Bp.wp l i k on_ w R) (Bp.eq l i k on_ w) rfl h
def Bt.wp(n:Option Addr)(c0:Option Addr×Nat×Nat)(c1:Option Addr×Nat×Nat)(c2:Option Addr×Nat×Nat)(c3:Option Addr×Nat×Nat)(w:World)(R:TR [(false,[(.i .i64)])]→WP):Prop:=
Bf [.slice c0.1 c0.2.1 c0.2.2,.slice c1.1 c1.2.1 c1.2.2,.slice c2.1 c2.2.1 c2.2.2,.slice c3.1 c3.2.1 c3.2.2] T.Im w fun p1 w2=>
Aj (Option.isNone n) (
R ((2,()),()) w2) (
Jg w2 fun w3=>
ld1 .sl p1 w3 fun x4=>
Aq n fun a5=>
ld1 .sl (a5.add 12) w3 fun x6=>
Aj ((x4.2.1:Int) !=(x6.2.1:Int)) (
R ((1,()),()) w3) (
ld1 .sl (p1.add 3) w3 fun x7=>
Aq n fun a8=>
ld1 .sl (a8.add 12) w3 fun x9=>
Aj (decide ((x7.2.1:Int)>(x9.2.1:Int))) (
R ((1,()),()) w3) (
ld1 .sl (p1.add 1) w3 fun x10=>
Ae prog F.Ce [.pointer n,.slice x10.1 x10.2.1 x10.2.2] w3 false [(false,[.b])] fun r11 w12=>
Ab [(23,(p1.add 1),(w3.cell? (p1.add 1)).getD undef),(16,(a8.add 12),(w3.cell? (a8.add 12)).getD undef),(11,(p1.add 3),(w3.cell? (p1.add 3)).getD undef),(6,(a5.add 12),(w3.cell? (a5.add 12)).getD undef),(1,p1,(w3.cell? p1).getD undef)] w12∧(
Aj (!r11.1.1) (
R ((1,()),()) w12) (
ld1 .sl (p1.add 2) w12 fun x13=>
Ae prog F.Ce [.pointer n,.slice x13.1 x13.2.1 x13.2.2] w12 false [(false,[.b])] fun r14 w15=>
Ab [(23,(p1.add 1),(w3.cell? (p1.add 1)).getD undef),(16,(a8.add 12),(w3.cell? (a8.add 12)).getD undef),(11,(p1.add 3),(w3.cell? (p1.add 3)).getD undef),(6,(a5.add 12),(w3.cell? (a5.add 12)).getD undef),(1,p1,(w3.cell? p1).getD undef)] w15∧(
Aj (!r14.1.1) (
R ((1,()),()) w15) (
Aq n fun a16=>
ld1 .sl (a16.add 12) w15 fun x17=>
Ci (fun(self18:((Int)×Unit)→WP) (z19:(Int)×Unit) w20=> ∀_:Nat→Value,
Aj (decide (z19.1<(x17.2.1:Int))) (
Ny x17.1 x17.2.1 z19.1 fun a21=>
ld1 .p (a21.add (z19.1.toNat*1)) w20 fun x22=>
ld1 .sl p1 w20 fun x23=>
Ny x23.1 x23.2.1 z19.1 fun a24=>
ld1 (.i .i64) (a24.add (z19.1.toNat*1)) w20 fun x25=>
Ae prog F.Sm [.pointer x22,.int .i64 x25] w20 false [(false,[.b])] fun r26 w27=>
Aj (!r26.1.1) (
R ((1,()),()) w27) (
self18 (wrap .i64 (z19.1+1),()) w27)) (
Aq n fun a28=>
ld1 .sl (a28.add 12) w20 fun x29=>
Ci (fun(self30:((Int)×Unit)→WP) (z31:(Int)×Unit) w32=> ∀_:Nat→Value,
Aj (decide (z31.1<(x29.2.1:Int))) (
Ny x29.1 x29.2.1 z31.1 fun a33=>
ld1 .p (a33.add (z31.1.toNat*1)) w32 fun x34=>
Ae prog F.Cb [.pointer x34] w32 false [(true,[.b,(.i .u16),(.i .i64),(.i .i64),.b,.b,(.i .i64),(.i .i64),(.i .i64),.b,(.i .i64),(.i .i64)])] fun r35 w36=>
Bf [.bool false,.int .u16 0,.int .i64 0,.int .i64 0,.bool false,.bool false,.int .i64 0,.int .i64 0,.int .i64 0,.bool false,.int .i64 0,.int .i64 0] T.nK w36 fun p37 w38=>
Au [.bool r35.1.1,.int .u16 r35.1.2.1,.int .i64 r35.1.2.2.1,.int .i64 r35.1.2.2.2.1,.bool r35.1.2.2.2.2.1,.bool r35.1.2.2.2.2.2.1,.int .i64 r35.1.2.2.2.2.2.2.1,.int .i64 r35.1.2.2.2.2.2.2.2.1,.int .i64 r35.1.2.2.2.2.2.2.2.2.1,.bool r35.1.2.2.2.2.2.2.2.2.2.1,.int .i64 r35.1.2.2.2.2.2.2.2.2.2.2.1,.int .i64 r35.1.2.2.2.2.2.2.2.2.2.2.2.1] p37 0 w38 fun w39=>
Jg w39 fun w40=>
ld1 .b p37 w40 fun x41=>
Aj x41 (
ld1 (.i .i64) (p37.add 2) w40 fun x42=>
ld1 .sl p1 w40 fun x43=>
Ny x43.1 x43.2.1 z31.1 fun a44=>
ld1 (.i .i64) (a44.add (z31.1.toNat*1)) w40 fun x45=>
Aj (decide ((wrap .i64 (x42+x45))>1125899906842624)) (
R ((8,()),()) w40) (
self30 (wrap .i64 (z31.1+1),()) w40)) (
self30 (wrap .i64 (z31.1+1),()) w40)) (
R ((0,()),()) w32)) (0,()) w20)) (0,()) w15)))))))
theorem Bt.eq(n:Option Addr)(c0:Option Addr×Nat×Nat)(c1:Option Addr×Nat×Nat)(c2:Option Addr×Nat×Nat)(c3:Option Addr×Nat×Nat)(w:World)(R:Value→WP):Aw prog Tryz.f59 (.s .n (.s .n (.s (.s (.pl (.tk 0 (.tk 1 (.tk 2 (.tk 3 (.tk 4 (.tk 5 (.tk 6 (.tk 7 (.tk 8 (.tk 9 (.tk 10 (.tk 11 (.tk 12 (.tk 13 (.tk 14 (.tk 15 (.tk 16 (.tk 17 (.tk 18 (.tk 19 (.tk 20 (.tk 21 (.tk 22 (.tk 23 (.ef 24 [] (.tk 25 (.tk 26 (.tk 27 (.tk 28 (.tk 29 (.tk 30 (.ef 31 [30] (.tk 32 (.tk 33 .z))))))))))))))))))))))))))))))))))) .n) (.s (.s .n (.lp [(51,(.i .i64))] .n)) (.s (.s .n (.lp [(70,(.i .i64))] (.s .n (.s .n (.s (.s .n (.s .n (.s (.pl (.tk 0 (.tk 1 (.tk 2 (.tk 3 (.tk 4 (.tk 5 (.tk 6 (.tk 7 (.tk 8 (.tk 9 (.tk 10 (.tk 11 (.tk 12 .z)))))))))))))) .n))) .n))))) .n))))) [.pointer n,.agg #[.slice c0.1 c0.2.1 c0.2.2,.slice c1.1 c1.2.1 c1.2.2,.slice c2.1 c2.2.1 c2.2.2,.slice c3.1 c3.2.1 c3.2.2]] w R=Bt.wp n c0 c1 c2 c3 w (fun r w=>R (encR false [(false,[(.i .i64)])] r) w):=by kernel_rfl
theorem Bt.ok{n:Option Addr}{c0:Option Addr×Nat×Nat}{c1:Option Addr×Nat×Nat}{c2:Option Addr×Nat×Nat}{c3:Option Addr×Nat×Nat}{w:World}{R:TR [(false,[(.i .i64)])]→WP}(h:Bt.wp n c0 c1 c2 c3 w R):Ae prog F.Bt [.pointer n,.agg #[.slice c0.1 c0.2.1 c0.2.2,.slice c1.1 c1.2.1 c1.2.2,.slice c2.1 c2.2.1 c2.2.2,.slice c3.1 c3.2.1 c3.2.2]] w false [(false,[(.i .i64)])] R:=
  Aop Aa Tryz.func59 (fun R=>Bt.wp n c0 c1 c2 c3 w R) (Bt.eq n c0 c1 c2 c3 w) rfl h
def Lr.wp(n:Option Addr)(ticks:Int)(w:World)(R:TR [(false,[(.i .i64)])]→WP):Prop:=
Ae prog F.Cm [.pointer n] w false [(false,[(.i .i64)])] fun r1 w2=>
Aj (r1.1.1 !=0) (
R ((r1.1.1,()),()) w2) (
Aq n fun a3=>
ld1 .p (a3.add 14) w2 fun x4=>
Ae prog F.Qd [.pointer x4,.int .i64 ticks] w2 false [(false,[(.i .i64)])] fun r5 w6=>
R ((r5.1.1,()),()) w6)
theorem Lr.eq(n:Option Addr)(ticks:Int)(w:World)(R:Value→WP):Aw prog Tryz.f60 .n [.pointer n,.int .i64 ticks] w R=Lr.wp n ticks w (fun r w=>R (encR false [(false,[(.i .i64)])] r) w):=by kernel_rfl
theorem Lr.ok{n:Option Addr}{ticks:Int}{w:World}{R:TR [(false,[(.i .i64)])]→WP}(h:Lr.wp n ticks w R):Ae prog F.Lr [.pointer n,.int .i64 ticks] w false [(false,[(.i .i64)])] R:=
  Aop Aa Tryz.func60 (fun R=>Lr.wp n ticks w R) (Lr.eq n ticks w) rfl h
def Cr.wp(n:Option Addr)(c0:Option Addr×Nat×Nat)(c1:Option Addr×Nat×Nat)(c2:Option Addr×Nat×Nat)(c3:Option Addr×Nat×Nat)(w:World)(R:TR [(false,[.sl])]→WP):Prop:=
Bf [.slice c0.1 c0.2.1 c0.2.2,.slice c1.1 c1.2.1 c1.2.2,.slice c2.1 c2.2.1 c2.2.2,.slice c3.1 c3.2.1 c3.2.2] T.Im w fun p1 w2=>
Aq n fun a3=>
ld1 .sl (a3.add 12) w2 fun x4=>
L9 ((Instr.makeSlice T.Hd (.int .i64 (x4.2.1:Int)) (.int .i64 (x4.2.1:Int))).run prog w2) fun y5 w6=>
Aq n fun a7=>
Au [.int .u64 0] (a7.add 14) 0 w6 fun w8=>
Aq n fun a9=>
ld1 .sl (a9.add 12) w8 fun x10=>
Ci (fun(self11:((Int)×Unit)→WP) (z12:(Int)×Unit) w13=> ∀_:Nat→Value,
Aj (decide (z12.1<(x10.2.1:Int))) (
Ny x10.1 x10.2.1 z12.1 fun a14=>
ld1 .p (a14.add (z12.1.toNat*1)) w13 fun x15=>
Jg w13 fun w16=>
Aq n fun a17=>
ld1 (.i .i64) (a17.add 13) w16 fun x18=>
ld1 .sl (p1.add 1) w16 fun x19=>
Ny x19.1 x19.2.1 z12.1 fun a20=>
ld1 (.i .i64) (a20.add (z12.1.toNat*1)) w16 fun x21=>
Ae prog F.Hy [.pointer x15,.int .i64 x18,.int .i64 x21] w16 true [(false,[.sl]),(false,[(.i .i64)])] fun r22 w23=>
Ab [(8,(p1.add 1),(w16.cell? (p1.add 1)).getD undef)] w23∧(
Ny y5.1 y5.2.1 z12.1 fun a24=>
Au [.slice r22.1.1.1 r22.1.1.2.1 r22.1.1.2.2] (a24.add (z12.1.toNat*1)) 0 w23 fun w25=>
Ab [] w25∧(
Ny y5.1 y5.2.1 z12.1 fun a26=>
ld1 .sl (a26.add (z12.1.toNat*1)) w25 fun x27=>
Aj (decide ((x27.2.1:Int)>0)) (
Jg w25 fun w28=>
Aq n fun a29=>
ld1 (.i .u64) (a29.add 14) w28 fun x30=>
fJ z12.1 (
Aq n fun a31=>
Au [.int .u64 (Lm .or .u64 x30 (Sz .u64 1 z12.1))] (a31.add 14) 0 w28 fun w32=>
Ab [] w32∧(
self11 (wrap .i64 (z12.1+1),()) w32))) (
self11 (wrap .i64 (z12.1+1),()) w25)))) (
R (((y5.1,y5.2.1,y5.2.2),()),()) w13)) (0,()) w8
theorem Cr.eq(n:Option Addr)(c0:Option Addr×Nat×Nat)(c1:Option Addr×Nat×Nat)(c2:Option Addr×Nat×Nat)(c3:Option Addr×Nat×Nat)(w:World)(R:Value→WP):Aw prog Tryz.f61 (.s .n (.s .n (.s .n (.s (.s .n (.lp [(22,(.i .i64))] (.s .n (.s .n (.s (.s .n (.s (.pl (.tk 0 (.tk 1 (.tk 2 (.tk 3 (.tk 4 (.tk 5 (.tk 6 (.tk 7 (.tk 8 (.tk 9 (.tk 10 (.tk 11 (.ef 12 [6,11] (.tk 13 (.tk 14 (.tk 15 (.tk 16 (.ef 17 [8] .z))))))))))))))))))) (.s .n (.s (.pl (.tk 0 (.tk 1 (.tk 2 (.tk 3 (.tk 4 (.tk 5 (.tk 6 (.tk 7 (.tk 8 (.ef 9 [3] .z))))))))))) .n)))) .n))))) .n)))) [.pointer n,.agg #[.slice c0.1 c0.2.1 c0.2.2,.slice c1.1 c1.2.1 c1.2.2,.slice c2.1 c2.2.1 c2.2.2,.slice c3.1 c3.2.1 c3.2.2]] w R=Cr.wp n c0 c1 c2 c3 w (fun r w=>R (encR false [(false,[.sl])] r) w):=by kernel_rfl
theorem Cr.ok{n:Option Addr}{c0:Option Addr×Nat×Nat}{c1:Option Addr×Nat×Nat}{c2:Option Addr×Nat×Nat}{c3:Option Addr×Nat×Nat}{w:World}{R:TR [(false,[.sl])]→WP}(h:Cr.wp n c0 c1 c2 c3 w R):Ae prog F.Cr [.pointer n,.agg #[.slice c0.1 c0.2.1 c0.2.2,.slice c1.1 c1.2.1 c1.2.2,.slice c2.1 c2.2.1 c2.2.2,.slice c3.1 c3.2.1 c3.2.2]] w false [(false,[.sl])] R:=
  Aop Aa Tryz.func61 (fun R=>Cr.wp n c0 c1 c2 c3 w R) (Cr.eq n c0 c1 c2 c3 w) rfl h
def Da.wp(l:Option Addr)(send:Int)(awake:Int)(lost:Option Addr×Nat×Nat)(w:World)(R:TR [(false,[.sl])]→WP):Prop:=
Bf [.int .u64 0,.int .u64 0,.slice none 0 0] T.Li w fun p1 w2=>
Au [.int .u64 send,.int .u64 awake,.slice lost.1 lost.2.1 lost.2.2] p1 0 w2 fun w3=>
Ae prog F.A7 [.pointer l] w3 false [(false,[(.i .i64)])] fun r4 w5=>
Ci (fun(self6:((Option Addr×Nat×Nat)×(Int)×Unit)→WP) (z7:(Option Addr×Nat×Nat)×(Int)×Unit) w8=> ∀_:Nat→Value,
Aj (decide (z7.2.1<r4.1.1)) (
Jg w8 fun w9=>
A8 [(.i .u64),(.i .u64),.sl] p1 0 w9 fun x10=>
Ae prog F.A9 [.pointer l,.int .i64 z7.2.1] w9 false [(false,[(.i .u64)])] fun r11 w12=>
Ab [(1,(p1.add 0),(w9.cell? (p1.add 0)).getD undef),(1,(p1.add 1),(w9.cell? (p1.add 1)).getD undef),(1,(p1.add 2),(w9.cell? (p1.add 2)).getD undef)] w12∧(
Ae prog F.Cf [.agg #[.int .u64 x10.1,.int .u64 x10.2.1,.slice x10.2.2.1.1 x10.2.2.1.2.1 x10.2.2.1.2.2],.int .i64 z7.2.1,.int .u64 (Lm .and .u64 r11.1.1 send)] w12 false [(true,[(.i .i64),(.i .i64)])] fun r13 w14=>
Ab [(1,(p1.add 0),(w9.cell? (p1.add 0)).getD undef),(1,(p1.add 1),(w9.cell? (p1.add 1)).getD undef),(1,(p1.add 2),(w9.cell? (p1.add 2)).getD undef)] w14∧(
Bf [.int .i64 r13.1.1,.int .i64 r13.1.2.1] T.Er w14 fun p15 w16=>
Ab [(1,(p1.add 0),(w9.cell? (p1.add 0)).getD undef),(1,(p1.add 1),(w9.cell? (p1.add 1)).getD undef),(1,(p1.add 2),(w9.cell? (p1.add 2)).getD undef)] w16∧(
L9 ((Builtin.append_ #[T.Dv,T.Dv] T.Dv #[.slice z7.1.1 z7.1.2.1 z7.1.2.2,.slice (some p15) 1 1]).run prog w16) fun y17 w18=>
Ab [(1,(p1.add 0),(w9.cell? (p1.add 0)).getD undef),(1,(p1.add 1),(w9.cell? (p1.add 1)).getD undef),(1,(p1.add 2),(w9.cell? (p1.add 2)).getD undef)] w18∧(
self6 ((y17.1,y17.2.1,y17.2.2),wrap .i64 (z7.2.1+1),()) w18))))) (
R (((z7.1.1,z7.1.2.1,z7.1.2.2),()),()) w8)) ((none,0,0),0,()) w5
theorem Da.eq(l:Option Addr)(send:Int)(awake:Int)(lost:Option Addr×Nat×Nat)(w:World)(R:Value→WP):Aw prog Tryz.f62 (.s .n (.s .n (.s .n (.s (.s .n (.lp [(9,.sl),(18,(.i .i64))] (.s .n (.s .n (.s (.s .n (.pl (.tk 0 (.tk 1 (.tk 2 (.tk 3 (.tk 4 (.tk 6 (.ef 5 [] (.tk 7 (.ef 8 [] (.ef 9 [] (.ef 10 [] (.tk 11 .z)))))))))))))) .n))))) .n)))) [.pointer l,.int .u64 send,.int .u64 awake,.slice lost.1 lost.2.1 lost.2.2] w R=Da.wp l send awake lost w (fun r w=>R (encR false [(false,[.sl])] r) w):=by kernel_rfl
theorem Da.ok{l:Option Addr}{send:Int}{awake:Int}{lost:Option Addr×Nat×Nat}{w:World}{R:TR [(false,[.sl])]→WP}(h:Da.wp l send awake lost w R):Ae prog F.Da [.pointer l,.int .u64 send,.int .u64 awake,.slice lost.1 lost.2.1 lost.2.2] w false [(false,[.sl])] R:=
  Aop Aa Tryz.func62 (fun R=>Da.wp l send awake lost w R) (Da.eq l send awake lost w) rfl h
def Cg.wp(n:Option Addr)(w:World)(R:TR [(false,[(.i .u64)])]→WP):Prop:=
Aq n fun a1=>
ld1 .sl (a1.add 12) w fun x2=>
Ci (fun(self3:((Int)×(Int)×Unit)→WP) (z4:(Int)×(Int)×Unit) w5=> ∀_:Nat→Value,
Aj (decide (z4.2.1<(x2.2.1:Int))) (
Ny x2.1 x2.2.1 z4.2.1 fun a6=>
ld1 .p (a6.add (z4.2.1.toNat*1)) w5 fun x7=>
Ae prog F.Iy [.pointer x7] w5 false [(false,[.b])] fun r8 w9=>
Aj r8.1.1 (
fJ z4.2.1 (
self3 (Lm .or .u64 z4.1 (Sz .u64 1 z4.2.1),wrap .i64 (z4.2.1+1),()) w9)) (
self3 (z4.1,wrap .i64 (z4.2.1+1),()) w9)) (
R ((z4.1,()),()) w5)) (0,0,()) w
theorem Cg.eq(n:Option Addr)(w:World)(R:Value→WP):Aw prog Tryz.f63 (.s .n (.s .n (.s (.s .n (.lp [(3,(.i .u64)),(11,(.i .i64))] .n)) .n))) [.pointer n] w R=Cg.wp n w (fun r w=>R (encR false [(false,[(.i .u64)])] r) w):=by kernel_rfl
theorem Cg.ok{n:Option Addr}{w:World}{R:TR [(false,[(.i .u64)])]→WP}(h:Cg.wp n w R):Ae prog F.Cg [.pointer n] w false [(false,[(.i .u64)])] R:=
  Aop Aa Tryz.func63 (fun R=>Cg.wp n w R) (Cg.eq n w) rfl h
def Ia.wp(n:Option Addr)(jitter:Int)(b:Option Addr×Nat×Nat)(w:World)(R:TR [(false,[(.i .i64)])]→WP):Prop:=
Ae prog F.Iu [.pointer n,.int .i64 jitter] w true [(false,[(.i .i64)]),(false,[(.i .i64)])] fun r1 w2=>
Aj (r1.2.1.1 !=0) (
R ((r1.2.1.1,()),()) w2) (
Ae prog F.Ru [.slice b.1 b.2.1 b.2.2] w2 true [(false,[.any]),(false,[(.i .i64)])] fun r3 w4=>
Jg w4 fun w5=>
Aj (r3.2.1.1 !=0) (
R ((r3.2.1.1,()),()) w5) (
Aq n fun a6=>
ld1 (.i .i64) a6 w5 fun x7=>
Q6 prog r3.1.1 "Sender" [] w5 false [(false,[(.i .i64)])] fun r8 w9=>
Ab [(9,a6,(w5.cell? a6).getD undef)] w9∧(
Aj (r8.1.1==x7) (
R ((r3.2.1.1,()),()) w9) (
Ae prog F.Gm [.pointer n,r3.1.1,.int .i64 r1.1.1] w9 false [(false,[(.i .i64)])] fun r10 w11=>
R ((r10.1.1,()),()) w11))))
theorem Ia.eq(n:Option Addr)(jitter:Int)(b:Option Addr×Nat×Nat)(w:World)(R:Value→WP):Aw prog Tryz.f64 (.s .n (.s .n (.s .n (.s .n (.s (.s (.pl (.tk 0 (.tk 1 (.tk 2 (.tk 3 (.tk 5 (.tk 6 (.tk 7 (.tk 8 (.tk 9 (.ef 4 [] (.tk 10 (.tk 11 .z))))))))))))) .n) .n))))) [.pointer n,.int .i64 jitter,.slice b.1 b.2.1 b.2.2] w R=Ia.wp n jitter b w (fun r w=>R (encR false [(false,[(.i .i64)])] r) w):=by kernel_rfl
theorem Ia.ok{n:Option Addr}{jitter:Int}{b:Option Addr×Nat×Nat}{w:World}{R:TR [(false,[(.i .i64)])]→WP}(h:Ia.wp n jitter b w R):Ae prog F.Ia [.pointer n,.int .i64 jitter,.slice b.1 b.2.1 b.2.2] w false [(false,[(.i .i64)])] R:=
  Aop Aa Tryz.func64 (fun R=>Ia.wp n jitter b w R) (Ia.eq n jitter b w) rfl h
def Al.wp(n:Option Addr)(i:Int)(w:World)(R:TR [(false,[(.i .i64)])]→WP):Prop:=
Aj (Option.isNone n) (
R ((2,()),()) w) (
Ae prog F.Ao [.pointer n,.int .i64 i] w false [(false,[.p])] fun r1 w2=>
Aj (Option.isNone r1.1.1) (
R ((7,()),()) w2) (
R ((0,()),()) w2))
theorem Al.eq(n:Option Addr)(i:Int)(w:World)(R:Value→WP):Aw prog Tryz.f65 .n [.pointer n,.int .i64 i] w R=Al.wp n i w (fun r w=>R (encR false [(false,[(.i .i64)])] r) w):=by kernel_rfl
theorem Al.ok{n:Option Addr}{i:Int}{w:World}{R:TR [(false,[(.i .i64)])]→WP}(h:Al.wp n i w R):Ae prog F.Al [.pointer n,.int .i64 i] w false [(false,[(.i .i64)])] R:=
  Aop Aa Tryz.func65 (fun R=>Al.wp n i w R) (Al.eq n i w) rfl h
def D6.wp(n:Option Addr)(w:World)(R:TR [(true,[(.i .i64),(.i .i64),(.i .i64),(.i .u16),(.i .i64)]),(false,[(.i .i64)])]→WP):Prop:=
Bf [.int .i64 0,.int .i64 0,.int .i64 0,.int .u16 0,.int .i64 0] T.Bg w fun p1 w2=>
Ae prog F.Cm [.pointer n] w2 false [(false,[(.i .i64)])] fun r3 w4=>
Aj (r3.1.1 !=0) (
Au [.int .i64 0,.int .i64 0,.int .i64 0,.int .u16 0,.int .i64 0] p1 0 w4 fun w5=>
A8 [(.i .i64),(.i .i64),(.i .i64),(.i .u16),(.i .i64)] p1 0 w5 fun x6=>
R ((x6.1,x6.2.1,x6.2.2.1,x6.2.2.2.1,x6.2.2.2.2.1,()),(r3.1.1,()),()) w5) (
Jg w4 fun w7=>
Aq n fun a8=>
ld1 .p (a8.add 18) w7 fun x9=>
Aq n fun a10=>
ld1 .p (a10.add 15) w7 fun x11=>
Aq n fun a12=>
ld1 .p (a12.add 14) w7 fun x13=>
Ae prog F.Ez [.pointer x13] w7 false [(false,[(.i .i64)])] fun r14 w15=>
Ab [(11,(a12.add 14),(w7.cell? (a12.add 14)).getD undef),(7,(a10.add 15),(w7.cell? (a10.add 15)).getD undef),(3,(a8.add 18),(w7.cell? (a8.add 18)).getD undef)] w15∧(
Ae prog F.Ar [.pointer x9,.pointer x11,.int .i64 r14.1.1] w15 true [(true,[(.i .i64),(.i .i64),(.i .i64),(.i .u16),(.i .i64)]),(false,[(.i .i64)])] fun r16 w17=>
Ab [(11,(a12.add 14),(w7.cell? (a12.add 14)).getD undef)] w17∧(
Au [.int .i64 r16.1.1,.int .i64 r16.1.2.1,.int .i64 r16.1.2.2.1,.int .u16 r16.1.2.2.2.1,.int .i64 r16.1.2.2.2.2.1] p1 0 w17 fun w18=>
Ab [] w18∧(
A8 [(.i .i64),(.i .i64),(.i .i64),(.i .u16),(.i .i64)] p1 0 w18 fun x19=>
R ((x19.1,x19.2.1,x19.2.2.1,x19.2.2.2.1,x19.2.2.2.2.1,()),(r16.2.1.1,()),()) w18))))
theorem D6.eq(n:Option Addr)(w:World)(R:Value→WP):Aw prog Tryz.f66 (.s .n (.s .n (.s (.pl (.tk 0 (.tk 1 (.tk 2 (.tk 3 (.tk 4 (.tk 5 (.tk 6 (.tk 7 (.tk 8 (.tk 9 (.tk 10 (.tk 11 (.ef 12 [] (.ef 13 [3,7] (.tk 14 (.tk 15 (.ef 16 [11] (.tk 17 .z))))))))))))))))))) .n))) [.pointer n] w R=D6.wp n w (fun r w=>R (encR true [(true,[(.i .i64),(.i .i64),(.i .i64),(.i .u16),(.i .i64)]),(false,[(.i .i64)])] r) w):=by kernel_rfl
theorem D6.ok{n:Option Addr}{w:World}{R:TR [(true,[(.i .i64),(.i .i64),(.i .i64),(.i .u16),(.i .i64)]),(false,[(.i .i64)])]→WP}(h:D6.wp n w R):Ae prog F.D6 [.pointer n] w true [(true,[(.i .i64),(.i .i64),(.i .i64),(.i .u16),(.i .i64)]),(false,[(.i .i64)])] R:=
  Aop Aa Tryz.func66 (fun R=>D6.wp n w R) (D6.eq n w) rfl h
def Ji.wp(n:Option Addr)(raw:Int)(w:World)(R:TR [(false,[(.i .i64)])]→WP):Prop:=
Aj (Option.isNone n) (
R ((2,()),()) w) (
Aq n fun a1=>
Au [.bool true] (a1.add 12) 0 w fun w2=>
Aq n fun a3=>
ld1 (.i .u16) (a3.add 13) w2 fun x4=>
Aq n fun a5=>
Au [.int .u16 (wrap .u16 (x4+1))] (a5.add 13) 0 w2 fun w6=>
Aq n fun a7=>
ld1 .p (a7.add 14) w6 fun x8=>
Ae prog F.Nr [.pointer x8,.int .u32 raw] w6 true [] fun r9 w10=>
Jg w10 fun w11=>
Aq n fun a12=>
ld1 .p (a12.add 15) w11 fun x13=>
Aq n fun a14=>
ld1 (.i .u16) (a14.add 13) w11 fun x15=>
Ae prog F.Lh [.pointer x13,.int .u16 x15] w11 true [] fun r16 w17=>
Ab [] w17∧(
Aq n fun a18=>
ld1 .p (a18.add 16) w17 fun x19=>
Ae prog F.Gf [.pointer x19] w17 true [] fun r20 w21=>
Aq n fun a22=>
ld1 .p (a22.add 17) w21 fun x23=>
Ae prog F.Pe [.pointer x23] w21 true [] fun r24 w25=>
Aq n fun a26=>
ld1 .p (a26.add 18) w25 fun x27=>
Ae prog F.Fe [.pointer x27] w25 true [] fun r28 w29=>
Aq n fun a30=>
Ae prog F.Js [.pointer (some (a30.add 19))] w29 true [] fun r31 w32=>
Aq n fun a33=>
ld1 .p (a33.add 26) w32 fun x34=>
Ae prog F.Md [.pointer x34] w32 true [] fun r35 w36=>
Aq n fun a37=>
ld1 .p (a37.add 27) w36 fun x38=>
Ae prog F.Eh [.pointer x38] w36 true [] fun r39 w40=>
R ((0,()),()) w40))
theorem Ji.eq(n:Option Addr)(raw:Int)(w:World)(R:Value→WP):Aw prog Tryz.f67 (.s .n (.s .n (.s .n (.s .n (.s .n (.s (.pl (.tk 0 (.tk 1 (.tk 2 (.tk 3 (.tk 4 (.tk 5 (.tk 6 (.tk 7 (.ef 8 [3,7] .z)))))))))) .n)))))) [.pointer n,.int .u32 raw] w R=Ji.wp n raw w (fun r w=>R (encR false [(false,[(.i .i64)])] r) w):=by kernel_rfl
theorem Ji.ok{n:Option Addr}{raw:Int}{w:World}{R:TR [(false,[(.i .i64)])]→WP}(h:Ji.wp n raw w R):Ae prog F.Ji [.pointer n,.int .u32 raw] w false [(false,[(.i .i64)])] R:=
  Aop Aa Tryz.func67 (fun R=>Ji.wp n raw w R) (Ji.eq n raw w) rfl h
def Qg.wp(n:Option Addr)(w:World)(R:TR [(false,[(.i .i64)])]→WP):Prop:=
Ae prog F.Cm [.pointer n] w false [(false,[(.i .i64)])] fun r1 w2=>
Aj (r1.1.1==0) (
Aq n fun a3=>
Au [.bool false] (a3.add 12) 0 w2 fun w4=>
R ((r1.1.1,()),()) w4) (
R ((r1.1.1,()),()) w2)
theorem Qg.eq(n:Option Addr)(w:World)(R:Value→WP):Aw prog Tryz.f68 .n [.pointer n] w R=Qg.wp n w (fun r w=>R (encR false [(false,[(.i .i64)])] r) w):=by kernel_rfl
theorem Qg.ok{n:Option Addr}{w:World}{R:TR [(false,[(.i .i64)])]→WP}(h:Qg.wp n w R):Ae prog F.Qg [.pointer n] w false [(false,[(.i .i64)])] R:=
  Aop Aa Tryz.func68 (fun R=>Qg.wp n w R) (Qg.eq n w) rfl h
def Qc.wp(n:Option Addr)(tai:Int)(w:World)(R:TR [(false,[(.i .i64)])]→WP):Prop:=
Ae prog F.Cm [.pointer n] w false [(false,[(.i .i64)])] fun r1 w2=>
Aj (r1.1.1 !=0) (
R ((r1.1.1,()),()) w2) (
Aq n fun a3=>
ld1 .b (a3.add 10) w2 fun x4=>
Aj (!x4) (
R ((7,()),()) w2) (
Ae prog F.D6 [.pointer n] w2 true [(true,[(.i .i64),(.i .i64),(.i .i64),(.i .u16),(.i .i64)]),(false,[(.i .i64)])] fun r5 w6=>
Bf [.int .i64 0,.int .i64 0,.int .i64 0,.int .u16 0,.int .i64 0] T.Bg w6 fun p7 w8=>
Au [.int .i64 r5.1.1,.int .i64 r5.1.2.1,.int .i64 r5.1.2.2.1,.int .u16 r5.1.2.2.2.1,.int .i64 r5.1.2.2.2.2.1] p7 0 w8 fun w9=>
Aj (r5.2.1.1 !=0) (
R ((r5.2.1.1,()),()) w9) (
Jg w9 fun w10=>
Aq n fun a11=>
Aq n fun a12=>
ld1 (.i .i64) a12 w10 fun x13=>
A8 [(.i .i64),(.i .i64),(.i .i64),(.i .u16),(.i .i64)] p7 0 w10 fun x14=>
(
Ae prog F.Et [.pointer (some (a11.add 19)),.int .i64 x13,.agg #[.int .i64 x14.1,.int .i64 x14.2.1,.int .i64 x14.2.2.1,.int .u16 x14.2.2.2.1,.int .i64 x14.2.2.2.2.1],.int .i64 tai] w10 true [(true,[(.i .i64),(.i .u16),(.i .i64),(.i .u16),(.i .i64),(.i .i64)]),(false,[(.i .i64)])] fun Zb w16=>
Ab [(8,(p7.add 0),(w10.cell? (p7.add 0)).getD undef),(8,(p7.add 1),(w10.cell? (p7.add 1)).getD undef),(8,(p7.add 2),(w10.cell? (p7.add 2)).getD undef),(8,(p7.add 3),(w10.cell? (p7.add 3)).getD undef),(8,(p7.add 4),(w10.cell? (p7.add 4)).getD undef),(7,a12,(w10.cell? a12).getD undef)] w16∧(
Bf [.int .i64 0,.int .u16 0,.int .i64 0,.int .u16 0,.int .i64 0,.int .i64 0] T.Bh w16 fun p17 w18=>
Ab [(8,(p7.add 0),(w10.cell? (p7.add 0)).getD undef),(8,(p7.add 1),(w10.cell? (p7.add 1)).getD undef),(8,(p7.add 2),(w10.cell? (p7.add 2)).getD undef),(8,(p7.add 3),(w10.cell? (p7.add 3)).getD undef),(8,(p7.add 4),(w10.cell? (p7.add 4)).getD undef),(7,a12,(w10.cell? a12).getD undef)] w18∧(
Au [.int .i64 Zb.1.1,.int .u16 Zb.1.2.1,.int .i64 Zb.1.2.2.1,.int .u16 Zb.1.2.2.2.1,.int .i64 Zb.1.2.2.2.2.1,.int .i64 Zb.1.2.2.2.2.2.1] p17 0 w18 fun w19=>
Ab [] w19∧(
Aj (Zb.2.1.1 !=0) (
R ((Zb.2.1.1,()),()) w19) (
Ae prog F.Ib [.pointer n] w19 false [(false,[(.i .i64)])] fun r20 w21=>
R ((r20.1.1,()),()) w21)))))∧(
Bf [.int .i64 0,.int .u16 0,.int .i64 0,.int .u16 0,.int .i64 0,.int .i64 0] T.Bh w10 fun p22 w23=>
Ab [(8,(p7.add 0),(w10.cell? (p7.add 0)).getD undef),(8,(p7.add 1),(w10.cell? (p7.add 1)).getD undef),(8,(p7.add 2),(w10.cell? (p7.add 2)).getD undef),(8,(p7.add 3),(w10.cell? (p7.add 3)).getD undef),(8,(p7.add 4),(w10.cell? (p7.add 4)).getD undef),(7,a12,(w10.cell? a12).getD undef)] w23∧(
Ae prog F.Et [.pointer (some (a11.add 19)),.int .i64 x13,.agg #[.int .i64 x14.1,.int .i64 x14.2.1,.int .i64 x14.2.2.1,.int .u16 x14.2.2.2.1,.int .i64 x14.2.2.2.2.1],.int .i64 tai] w23 true [(true,[(.i .i64),(.i .u16),(.i .i64),(.i .u16),(.i .i64),(.i .i64)]),(false,[(.i .i64)])] fun r24 w25=>
Ab [] w25∧(
Au [.int .i64 r24.1.1,.int .u16 r24.1.2.1,.int .i64 r24.1.2.2.1,.int .u16 r24.1.2.2.2.1,.int .i64 r24.1.2.2.2.2.1,.int .i64 r24.1.2.2.2.2.2.1] p22 0 w25 fun w26=>
Ab [] w26∧(
Aj (r24.2.1.1 !=0) (
R ((r24.2.1.1,()),()) w26) (
Ae prog F.Ib [.pointer n] w26 false [(false,[(.i .i64)])] fun r27 w28=>
R ((r27.1.1,()),()) w28))))))))
theorem Qc.eq(n:Option Addr)(tai:Int)(w:World)(R:Value→WP):Aw prog Tryz.f69 (.s .n (.s .n (.s .n (.s .n (.s .n (.s (.s (.pl (.tk 0 (.tk 1 (.tk 2 (.tk 3 (.tk 4 (.tk 5 (.tk 6 (.tk 7 (.tk 8 (.tk 9 (.two 10 14 (.tk 11 (.tk 12 (.tk 13 (.ef 14 [] (.ef 15 [7,8] (.tk 16 .z)))))) (.ef 10 [7,8] (.tk 11 (.tk 12 (.tk 13 (.ef 15 [] (.tk 16 .z)))))))))))))))))) .n) .n)))))) [.pointer n,.int .i64 tai] w R=Qc.wp n tai w (fun r w=>R (encR false [(false,[(.i .i64)])] r) w):=by kernel_rfl
theorem Qc.ok{n:Option Addr}{tai:Int}{w:World}{R:TR [(false,[(.i .i64)])]→WP}(h:Qc.wp n tai w R):Ae prog F.Qc [.pointer n,.int .i64 tai] w false [(false,[(.i .i64)])] R:=
  Aop Aa Tryz.func69 (fun R=>Qc.wp n tai w R) (Qc.eq n tai w) rfl h
def Ru.wp(b:Option Addr×Nat×Nat)(w:World)(R:TR [(false,[.any]),(false,[(.i .i64)])]→WP):Prop:=
Aj (decide ((b.2.1:Int)>64)) (
R ((.nilIface,()),(5,()),()) w) (
Ae prog F.Xu [.slice b.1 b.2.1 b.2.2] w false [(false,[.p])] fun r1 w2=>
Ae prog F.Nj [.pointer r1.1.1,.int .i64 1] w2 true [(false,[(.i .u64)]),(false,[.b])] fun r3 w4=>
Ae prog F.Sr [.int .u64 r3.1.1] w4 false [(false,[.any])] fun r5 w6=>
aR r5.1.1 fun b7=>
Aj b7 (
R ((.nilIface,()),(3,()),()) w6) (
Ae prog F.Qo [r5.1.1] w6 false [(false,[(.i .i64)])] fun r8 w9=>
Aj ((b.2.1:Int) !=(wrap .i64 (r8.1.1+3))) (
R ((.nilIface,()),(3,()),()) w9) (
Ae prog F.Xy [.slice b.1 b.2.1 b.2.2] w9 true [(false,[.sl]),(false,[.b])] fun r10 w11=>
Aj (!r10.2.1.1) (
R ((.nilIface,()),(4,()),()) w11) (
Q6 prog r5.1.1 "angelus/frame.fields" [] w11 false [(false,[.sl])] fun r12 w13=>
Ci (fun(self14:((Option Addr×Nat×Nat)×(Int)×Unit)→WP) (z15:(Option Addr×Nat×Nat)×(Int)×Unit) w16=> ∀_:Nat→Value,
Aj (decide (z15.2.1<(r12.1.1.2.1:Int))) (
Ny r12.1.1.1 r12.1.1.2.1 z15.2.1 fun a17=>
A8 [(.i .i64),(.i .i64),(.i .i64)] (a17.add (z15.2.1.toNat*3)) 0 w16 fun x18=>
Bf [.int .i64 0,.int .i64 0,.int .i64 0] T.Dl w16 fun p19 w20=>
Au [.int .i64 x18.1,.int .i64 x18.2.1,.int .i64 x18.2.2.1] p19 0 w20 fun w21=>
ld1 (.i .i64) p19 w21 fun x22=>
Ae prog F.Nj [.pointer r1.1.1,.int .i64 x22] w21 true [(false,[(.i .u64)]),(false,[.b])] fun r23 w24=>
Bf [.int .u64 r23.1.1] T.uint64 w24 fun p25 w26=>
L9 ((Builtin.append_ #[T.Ux,T.Ux] T.Ux #[.slice z15.1.1 z15.1.2.1 z15.1.2.2,.slice (some p25) 1 1]).run prog w26) fun y27 w28=>
self14 ((y27.1,y27.2.1,y27.2.2),wrap .i64 (z15.2.1+1),()) w28) (
Ae prog F.Qn [r5.1.1,.slice z15.1.1 z15.1.2.1 z15.1.2.2] w16 false [(false,[.any])] fun r29 w30=>
Ae prog F.Ew [r29.1.1] w30 false [(false,[.b])] fun r31 w32=>
Aj (!r31.1.1) (
R ((.nilIface,()),(3,()),()) w32) (
R ((r29.1.1,()),(0,()),()) w32))) ((none,0,0),0,()) w13))))
theorem Ru.eq(b:Option Addr×Nat×Nat)(w:World)(R:Value→WP):Aw prog Tryz.f70 (.s .n (.s .n (.s .n (.s .n (.s .n (.s .n (.s .n (.s .n (.s (.s .n (.lp [(10,.sl),(47,(.i .i64))] .n)) .n))))))))) [.slice b.1 b.2.1 b.2.2] w R=Ru.wp b w (fun r w=>R (encR true [(false,[.any]),(false,[(.i .i64)])] r) w):=by kernel_rfl
theorem Ru.ok{b:Option Addr×Nat×Nat}{w:World}{R:TR [(false,[.any]),(false,[(.i .i64)])]→WP}(h:Ru.wp b w R):Ae prog F.Ru [.slice b.1 b.2.1 b.2.2] w true [(false,[.any]),(false,[(.i .i64)])] R:=
  Aop Aa Tryz.func70 (fun R=>Ru.wp b w R) (Ru.eq b w) rfl h
def Qj.wp(n:Option Addr)(label:ByteArray)(w:World)(R:TR [(false,[(.i .i64)]),(false,[(.i .i64)])]→WP):Prop:=
Ae prog F.D6 [.pointer n] w true [(true,[(.i .i64),(.i .i64),(.i .i64),(.i .u16),(.i .i64)]),(false,[(.i .i64)])] fun r1 w2=>
Bf [.int .i64 0,.int .i64 0,.int .i64 0,.int .u16 0,.int .i64 0] T.Bg w2 fun p3 w4=>
Au [.int .i64 r1.1.1,.int .i64 r1.1.2.1,.int .i64 r1.1.2.2.1,.int .u16 r1.1.2.2.2.1,.int .i64 r1.1.2.2.2.2.1] p3 0 w4 fun w5=>
Aj (r1.2.1.1 !=0) (
R ((0,()),(r1.2.1.1,()),()) w5) (
Jg w5 fun w6=>
Aq n fun a7=>
ld1 .p (a7.add 26) w6 fun x8=>
Aq n fun a9=>
ld1 .p (a9.add 14) w6 fun x10=>
A8 [(.i .i64),(.i .i64),(.i .i64),(.i .u16),(.i .i64)] p3 0 w6 fun x11=>
Ae prog F.Ez [.pointer x10] w6 false [(false,[(.i .i64)])] fun r12 w13=>
Ab [(10,(p3.add 0),(w6.cell? (p3.add 0)).getD undef),(10,(p3.add 1),(w6.cell? (p3.add 1)).getD undef),(10,(p3.add 2),(w6.cell? (p3.add 2)).getD undef),(10,(p3.add 3),(w6.cell? (p3.add 3)).getD undef),(10,(p3.add 4),(w6.cell? (p3.add 4)).getD undef),(8,(a9.add 14),(w6.cell? (a9.add 14)).getD undef),(3,(a7.add 26),(w6.cell? (a7.add 26)).getD undef)] w13∧(
Ae prog F.Qk [.pointer x8,.string label,.int .i64 r12.1.1,.agg #[.int .i64 x11.1,.int .i64 x11.2.1,.int .i64 x11.2.2.1,.int .u16 x11.2.2.2.1,.int .i64 x11.2.2.2.2.1]] w13 true [(false,[(.i .i64)]),(false,[(.i .i64)])] fun r14 w15=>
Ab [(8,(a9.add 14),(w6.cell? (a9.add 14)).getD undef)] w15∧(
R ((r14.1.1,()),(r14.2.1.1,()),()) w15)))
theorem Qj.eq(n:Option Addr)(label:ByteArray)(w:World)(R:Value→WP):Aw prog Tryz.f72 (.s .n (.s .n (.s .n (.s (.pl (.tk 0 (.tk 1 (.tk 2 (.tk 3 (.tk 4 (.tk 5 (.tk 6 (.tk 7 (.tk 8 (.tk 10 (.ef 9 [] (.ef 11 [3,10] (.tk 12 (.tk 13 (.tk 14 (.tk 15 .z))))))))))))))))) .n)))) [.pointer n,.string label] w R=Qj.wp n label w (fun r w=>R (encR true [(false,[(.i .i64)]),(false,[(.i .i64)])] r) w):=by kernel_rfl
theorem Qj.ok{n:Option Addr}{label:ByteArray}{w:World}{R:TR [(false,[(.i .i64)]),(false,[(.i .i64)])]→WP}(h:Qj.wp n label w R):Ae prog F.Qj [.pointer n,.string label] w true [(false,[(.i .i64)]),(false,[(.i .i64)])] R:=
  Aop Aa Tryz.func72 (fun R=>Qj.wp n label w R) (Qj.eq n label w) rfl h
def Oq.wp(n:Option Addr)(w:World)(R:TR [(true,[(.i .i64),.s,(.i .i64),(.i .i64),(.i .i64),(.i .i64),(.i .u16),(.i .i64)]),(false,[.b])]→WP):Prop:=
Bf [.int .i64 0,.string ByteArray.empty,.int .i64 0,.int .i64 0,.int .i64 0,.int .i64 0,.int .u16 0,.int .i64 0] T.U1 w fun p1 w2=>
Ae prog F.Cm [.pointer n] w2 false [(false,[(.i .i64)])] fun r3 w4=>
Aj (r3.1.1 !=0) (
Au [.int .i64 0,.string ByteArray.empty,.int .i64 0,.int .i64 0,.int .i64 0,.int .i64 0,.int .u16 0,.int .i64 0] p1 0 w4 fun w5=>
A8 [(.i .i64),.s,(.i .i64),(.i .i64),(.i .i64),(.i .i64),(.i .u16),(.i .i64)] p1 0 w5 fun x6=>
R ((x6.1,x6.2.1,x6.2.2.1,x6.2.2.2.1,x6.2.2.2.2.1,x6.2.2.2.2.2.1,x6.2.2.2.2.2.2.1,x6.2.2.2.2.2.2.2.1,()),(false,()),()) w5) (
Aq n fun a7=>
ld1 .p (a7.add 26) w4 fun x8=>
Ae prog F.Ou [.pointer x8] w4 true [(true,[(.i .i64),.s,(.i .i64),(.i .i64),(.i .i64),(.i .i64),(.i .u16),(.i .i64)]),(false,[.b])] fun r9 w10=>
Au [.int .i64 r9.1.1,.string r9.1.2.1,.int .i64 r9.1.2.2.1,.int .i64 r9.1.2.2.2.1,.int .i64 r9.1.2.2.2.2.1,.int .i64 r9.1.2.2.2.2.2.1,.int .u16 r9.1.2.2.2.2.2.2.1,.int .i64 r9.1.2.2.2.2.2.2.2.1] p1 0 w10 fun w11=>
A8 [(.i .i64),.s,(.i .i64),(.i .i64),(.i .i64),(.i .i64),(.i .u16),(.i .i64)] p1 0 w11 fun x12=>
R ((x12.1,x12.2.1,x12.2.2.1,x12.2.2.2.1,x12.2.2.2.2.1,x12.2.2.2.2.2.1,x12.2.2.2.2.2.2.1,x12.2.2.2.2.2.2.2.1,()),(r9.2.1.1,()),()) w11)
theorem Oq.eq(n:Option Addr)(w:World)(R:Value→WP):Aw prog Tryz.f73 .n [.pointer n] w R=Oq.wp n w (fun r w=>R (encR true [(true,[(.i .i64),.s,(.i .i64),(.i .i64),(.i .i64),(.i .i64),(.i .u16),(.i .i64)]),(false,[.b])] r) w):=by kernel_rfl
theorem Oq.ok{n:Option Addr}{w:World}{R:TR [(true,[(.i .i64),.s,(.i .i64),(.i .i64),(.i .i64),(.i .i64),(.i .u16),(.i .i64)]),(false,[.b])]→WP}(h:Oq.wp n w R):Ae prog F.Oq [.pointer n] w true [(true,[(.i .i64),.s,(.i .i64),(.i .i64),(.i .i64),(.i .i64),(.i .u16),(.i .i64)]),(false,[.b])] R:=
  Aop Aa Tryz.func73 (fun R=>Oq.wp n w R) (Oq.eq n w) rfl h
def Vq.wp(me:Int)(timeout:Int)(ignore:Int)(need:Int)(drift:Int)(w:World)(R:TR [(false,[.b])]→WP):Prop:=
Ae prog F.Ve [.int .i64 me,.int .i64 timeout,.int .i64 ignore] w false [(false,[.b])] fun r1 w2=>
Aj r1.1.1 (
Aj (decide (need≥1)) (
Aj (decide (need≤8)) (
Aj (decide (drift≥0)) (
R ((decide (drift≤10),()),()) w2) (
R ((false,()),()) w2)) (
R ((false,()),()) w2)) (
R ((false,()),()) w2)) (
R ((false,()),()) w2)
theorem Vq.eq(me:Int)(timeout:Int)(ignore:Int)(need:Int)(drift:Int)(w:World)(R:Value→WP):Aw prog Tryz.f93 .n [.int .i64 me,.int .i64 timeout,.int .i64 ignore,.int .i64 need,.int .i64 drift] w R=Vq.wp me timeout ignore need drift w (fun r w=>R (encR false [(false,[.b])] r) w):=by kernel_rfl
theorem Vq.ok{me:Int}{timeout:Int}{ignore:Int}{need:Int}{drift:Int}{w:World}{R:TR [(false,[.b])]→WP}(h:Vq.wp me timeout ignore need drift w R):Ae prog F.Vq [.int .i64 me,.int .i64 timeout,.int .i64 ignore,.int .i64 need,.int .i64 drift] w false [(false,[.b])] R:=
  Aop Aa Tryz.func93 (fun R=>Vq.wp me timeout ignore need drift w R) (Vq.eq me timeout ignore need drift w) rfl h
def U3.wp(p0:Int)(p1:Int)(p2:Int)(w:World)(R:TR [(false,[.b])]→WP):Prop:=
Bf [.int .i64 p0,.int .i64 p1,.int .i64 p2] T.rU w fun p3 w4=>
ld1 (.i .i64) p3 w4 fun x5=>
Aj (decide (x5≥1)) (
ld1 (.i .i64) p3 w4 fun x6=>
Aj (decide (x6≤64)) (
ld1 (.i .i64) (p3.add 1) w4 fun x7=>
Aj (decide (x7≥1)) (
ld1 (.i .i64) (p3.add 1) w4 fun x8=>
ld1 (.i .i64) p3 w4 fun x9=>
Aj (decide (x8≤x9)) (
ld1 (.i .i64) (p3.add 2) w4 fun x10=>
Aj (decide (x10≥0)) (
ld1 (.i .i64) (p3.add 2) w4 fun x11=>
ld1 (.i .i64) p3 w4 fun x12=>
R ((decide (x11<x12),()),()) w4) (
R ((false,()),()) w4)) (
R ((false,()),()) w4)) (
R ((false,()),()) w4)) (
R ((false,()),()) w4)) (
R ((false,()),()) w4)
theorem U3.eq(p0:Int)(p1:Int)(p2:Int)(w:World)(R:Value→WP):Aw prog Tryz.f94 .n [.agg #[.int .i64 p0,.int .i64 p1,.int .i64 p2]] w R=U3.wp p0 p1 p2 w (fun r w=>R (encR false [(false,[.b])] r) w):=by kernel_rfl
theorem U3.ok{p0:Int}{p1:Int}{p2:Int}{w:World}{R:TR [(false,[.b])]→WP}(h:U3.wp p0 p1 p2 w R):Ae prog F.U3 [.agg #[.int .i64 p0,.int .i64 p1,.int .i64 p2]] w false [(false,[.b])] R:=
  Aop Aa Tryz.func94 (fun R=>U3.wp p0 p1 p2 w R) (U3.eq p0 p1 p2 w) rfl h
def Jy.wp(s0:Int)(s1:Int)(s2:Int)(s3:Int)(s4:Int)(s5:Int)(s6:Int)(s7:Int)(s8:Int)(s9:Int)(s10:Bool)(w:World)(R:TR [(true,[(.i .i64),(.i .i64),(.i .i64)])]→WP):Prop:=
Bf [.int .i64 s0,.int .i64 s1,.int .i64 s2,.int .i64 s3,.int .i64 s4,.int .i64 s5,.int .i64 s6,.int .i64 s7,.int .i64 s8,.int .i64 s9,.bool s10] T.Xj w fun p1 w2=>
Bf [.int .i64 0,.int .i64 0,.int .i64 0] T.rU w2 fun p3 w4=>
ld1 (.i .i64) (p1.add 5) w4 fun x5=>
ld1 (.i .i64) (p1.add 6) w4 fun x6=>
ld1 (.i .i64) (p1.add 7) w4 fun x7=>
Au [.int .i64 x5,.int .i64 x6,.int .i64 x7] p3 0 w4 fun w8=>
A8 [(.i .i64),(.i .i64),(.i .i64)] p3 0 w8 fun x9=>
R ((x9.1,x9.2.1,x9.2.2.1,()),()) w8
theorem Jy.eq(s0:Int)(s1:Int)(s2:Int)(s3:Int)(s4:Int)(s5:Int)(s6:Int)(s7:Int)(s8:Int)(s9:Int)(s10:Bool)(w:World)(R:Value→WP):Aw prog Tryz.f95 .n [.agg #[.int .i64 s0,.int .i64 s1,.int .i64 s2,.int .i64 s3,.int .i64 s4,.int .i64 s5,.int .i64 s6,.int .i64 s7,.int .i64 s8,.int .i64 s9,.bool s10]] w R=Jy.wp s0 s1 s2 s3 s4 s5 s6 s7 s8 s9 s10 w (fun r w=>R (encR false [(true,[(.i .i64),(.i .i64),(.i .i64)])] r) w):=by kernel_rfl
theorem Jy.ok{s0:Int}{s1:Int}{s2:Int}{s3:Int}{s4:Int}{s5:Int}{s6:Int}{s7:Int}{s8:Int}{s9:Int}{s10:Bool}{w:World}{R:TR [(true,[(.i .i64),(.i .i64),(.i .i64)])]→WP}(h:Jy.wp s0 s1 s2 s3 s4 s5 s6 s7 s8 s9 s10 w R):Ae prog F.Jy [.agg #[.int .i64 s0,.int .i64 s1,.int .i64 s2,.int .i64 s3,.int .i64 s4,.int .i64 s5,.int .i64 s6,.int .i64 s7,.int .i64 s8,.int .i64 s9,.bool s10]] w false [(true,[(.i .i64),(.i .i64),(.i .i64)])] R:=
  Aop Aa Tryz.func95 (fun R=>Jy.wp s0 s1 s2 s3 s4 s5 s6 s7 s8 s9 s10 w R) (Jy.eq s0 s1 s2 s3 s4 s5 s6 s7 s8 s9 s10 w) rfl h
end Go.Proofs.YticgocmhmffneaaGreatDoor
