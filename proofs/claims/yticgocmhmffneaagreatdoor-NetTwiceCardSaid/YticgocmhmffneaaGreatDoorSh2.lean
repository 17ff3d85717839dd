import Derived.Test.YticgocmhmffneaaGreatDoorNm
namespace Go.Proofs.YticgocmhmffneaaGreatDoor
open Go.Eng Tryz
open Go.IntKind (wrap)
set_option linter.unusedSimpArgs false
set_option linter.unusedVariables false
set_option maxRecDepth 100000
set_option maxHeartbeats 8000000
def Ro.wp(f0:Int)(n:Option Addr×Nat×Nat)(w:World)(R:TR [(false,[.any])]→WP):Prop:=
Bf [.slice n.1 n.2.1 n.2.2] T.Ux w fun p1 w2=>
Ae prog F.Dp [.int .i64 0,.pointer (some p1)] w2 false [(false,[(.i .i64)])] fun r3 w4=>
R ((.iface T.Gp (.agg #[.int .i64 r3.1.1]),()),()) w4
theorem Ro.eq(f0:Int)(n:Option Addr×Nat×Nat)(w:World)(R:Value→WP):A7 prog Tryz.f143 .n [.iface T.Gp (.agg #[.int .i64 f0]),.slice n.1 n.2.1 n.2.2] w R=Ro.wp f0 n w (fun r w=>R (encR false [(false,[.any])] r) w):=by kernel_rfl
theorem Ro.ok{f0:Int}{n:Option Addr×Nat×Nat}{w:World}{R:TR [(false,[.any])]→WP}(h:Ro.wp f0 n w R):Ae prog F.Qn [.iface T.Gp (.agg #[.int .i64 f0]),.slice n.1 n.2.1 n.2.2] w false [(false,[.any])] R:=
  Aop Aa Tryz.func143 (fun R=>Ro.wp f0 n w R) (Ro.eq f0 n w) rfl h
def Dq.wp(f0:Int)(f1:Int)(f2:Int)(n:Option Addr×Nat×Nat)(w:World)(R:TR [(false,[.any])]→WP):Prop:=
Bf [.slice n.1 n.2.1 n.2.2] T.Ux w fun p1 w2=>
Ae prog F.Dp [.int .i64 0,.pointer (some p1)] w2 false [(false,[(.i .i64)])] fun r3 w4=>
Ae prog F.Dp [.int .i64 1,.pointer (some p1)] w4 false [(false,[(.i .i64)])] fun r5 w6=>
Ae prog F.Dp [.int .i64 2,.pointer (some p1)] w6 false [(false,[(.i .i64)])] fun r7 w8=>
R ((.iface T.Ef (.agg #[.int .i64 r3.1.1,.int .i64 r5.1.1,.int .i64 r7.1.1]),()),()) w8
theorem Dq.eq(f0:Int)(f1:Int)(f2:Int)(n:Option Addr×Nat×Nat)(w:World)(R:Value→WP):A7 prog Tryz.f143 .n [.iface T.Ef (.agg #[.int .i64 f0,.int .i64 f1,.int .i64 f2]),.slice n.1 n.2.1 n.2.2] w R=Dq.wp f0 f1 f2 n w (fun r w=>R (encR false [(false,[.any])] r) w):=by kernel_rfl
theorem Dq.ok{f0:Int}{f1:Int}{f2:Int}{n:Option Addr×Nat×Nat}{w:World}{R:TR [(false,[.any])]→WP}(h:Dq.wp f0 f1 f2 n w R):Ae prog F.Qn [.iface T.Ef (.agg #[.int .i64 f0,.int .i64 f1,.int .i64 f2]),.slice n.1 n.2.1 n.2.2] w false [(false,[.any])] R:=
  Aop Aa Tryz.func143 (fun R=>Dq.wp f0 f1 f2 n w R) (Dq.eq f0 f1 f2 n w) rfl h
def Qz.wp(f0:Int)(f1:Int)(f2:Int)(f3:Int)(f4:Int)(f5:Int)(f6:Int)(f7:Int)(n:Option Addr×Nat×Nat)(w:World)(R:TR [(false,[.any])]→WP):Prop:=
Bf [.slice n.1 n.2.1 n.2.2] T.Ux w fun p1 w2=>
Ae prog F.Dp [.int .i64 0,.pointer (some p1)] w2 false [(false,[(.i .i64)])] fun r3 w4=>
Ae prog F.Dp [.int .i64 1,.pointer (some p1)] w4 false [(false,[(.i .i64)])] fun r5 w6=>
Ae prog F.Dp [.int .i64 2,.pointer (some p1)] w6 false [(false,[(.i .i64)])] fun r7 w8=>
Ae prog F.Dp [.int .i64 3,.pointer (some p1)] w8 false [(false,[(.i .i64)])] fun r9 w10=>
Ae prog F.Dp [.int .i64 4,.pointer (some p1)] w10 false [(false,[(.i .i64)])] fun r11 w12=>
Ae prog F.Dp [.int .i64 5,.pointer (some p1)] w12 false [(false,[(.i .i64)])] fun r13 w14=>
Ae prog F.Po [.int .i64 6,.pointer (some p1)] w14 false [(false,[(.i .u16)])] fun Zb w16=>
Ae prog F.Dp [.int .i64 7,.pointer (some p1)] w16 false [(false,[(.i .i64)])] fun r17 w18=>
R ((.iface T.Gl (.agg #[.int .i64 r3.1.1,.int .i64 r5.1.1,.int .i64 r7.1.1,.int .i64 r9.1.1,.int .i64 r11.1.1,.int .i64 r13.1.1,.int .u16 Zb.1.1,.int .i64 r17.1.1]),()),()) w18
theorem Qz.eq(f0:Int)(f1:Int)(f2:Int)(f3:Int)(f4:Int)(f5:Int)(f6:Int)(f7:Int)(n:Option Addr×Nat×Nat)(w:World)(R:Value→WP):A7 prog Tryz.f143 .n [.iface T.Gl (.agg #[.int .i64 f0,.int .i64 f1,.int .i64 f2,.int .i64 f3,.int .i64 f4,.int .i64 f5,.int .u16 f6,.int .i64 f7]),.slice n.1 n.2.1 n.2.2] w R=Qz.wp f0 f1 f2 f3 f4 f5 f6 f7 n w (fun r w=>R (encR false [(false,[.any])] r) w):=by kernel_rfl
theorem Qz.ok{f0:Int}{f1:Int}{f2:Int}{f3:Int}{f4:Int}{f5:Int}{f6:Int}{f7:Int}{n:Option Addr×Nat×Nat}{w:World}{R:TR [(false,[.any])]→WP}(h:Qz.wp f0 f1 f2 f3 f4 f5 f6 f7 n w R):Ae prog F.Qn [.iface T.Gl (.agg #[.int .i64 f0,.int .i64 f1,.int .i64 f2,.int .i64 f3,.int .i64 f4,.int .i64 f5,.int .u16 f6,.int .i64 f7]),.slice n.1 n.2.1 n.2.2] w false [(false,[.any])] R:=
  Aop Aa Tryz.func143 (fun R=>Qz.wp f0 f1 f2 f3 f4 f5 f6 f7 n w R) (Qz.eq f0 f1 f2 f3 f4 f5 f6 f7 n w) rfl h
def Ej.wp(f0:Int)(f1:Int)(f2:Int)(f3:Int)(f4:Int)(f5:Int)(w:World)(R:TR [(false,[.b])]→WP):Prop:=
Ae prog F.Fa [.iface T.Bh (.agg #[.int .i64 f0,.int .u16 f1,.int .i64 f2,.int .u16 f3,.int .i64 f4,.int .i64 f5])] w false [(false,[(.i .u8)])] fun r1 w2=>
Aj (r1.1.1==0) (
R ((false,()),()) w2) (
Ae prog F.Dt [.agg #[.int .i64 f0,.int .u16 f1,.int .i64 f2,.int .u16 f3,.int .i64 f4,.int .i64 f5]] w2 false [(false,[.sl])] fun r3 w4=>
Ci (fun(self5:((Int)×Unit)→WP) (z6:(Int)×Unit) w7=> ∀_:Nat→Value,
Aj (decide (z6.1<(r3.1.1.2.1:Int))) (
Ny r3.1.1.1 r3.1.1.2.1 z6.1 fun a8=>
A8 [(.i .i64),(.i .i64),(.i .i64)] (a8.add (z6.1.toNat*3)) 0 w7 fun x9=>
Bf [.int .i64 0,.int .i64 0,.int .i64 0] T.Dl w7 fun p10 w11=>
Au [.int .i64 x9.1,.int .i64 x9.2.1,.int .i64 x9.2.2.1] p10 0 w11 fun w12=>
ld1 (.i .i64) (p10.add 1) w12 fun x13=>
Aj (decide (x13<0)) (
R ((false,()),()) w12) (
ld1 (.i .i64) (p10.add 1) w12 fun x14=>
ld1 (.i .i64) (p10.add 2) w12 fun x15=>
Aj (decide (x14>x15)) (
R ((false,()),()) w12) (
self5 (wrap .i64 (z6.1+1),()) w12))) (
R ((true,()),()) w7)) (0,()) w4)
theorem Ej.eq(f0:Int)(f1:Int)(f2:Int)(f3:Int)(f4:Int)(f5:Int)(w:World)(R:Value→WP):A7 prog Tryz.f144 (.s .n (.s .n (.s (.s .n (.lp [(11,(.i .i64))] .n)) .n))) [.iface T.Bh (.agg #[.int .i64 f0,.int .u16 f1,.int .i64 f2,.int .u16 f3,.int .i64 f4,.int .i64 f5])] w R=Ej.wp f0 f1 f2 f3 f4 f5 w (fun r w=>R (encR false [(false,[.b])] r) w):=by kernel_rfl
theorem Ej.ok{f0:Int}{f1:Int}{f2:Int}{f3:Int}{f4:Int}{f5:Int}{w:World}{R:TR [(false,[.b])]→WP}(h:Ej.wp f0 f1 f2 f3 f4 f5 w R):Ae prog F.Ew [.iface T.Bh (.agg #[.int .i64 f0,.int .u16 f1,.int .i64 f2,.int .u16 f3,.int .i64 f4,.int .i64 f5])] w false [(false,[.b])] R:=
  Aop Aa Tryz.func144 (fun R=>Ej.wp f0 f1 f2 f3 f4 f5 w R) (Ej.eq f0 f1 f2 f3 f4 f5 w) rfl h
def Fp.wp(f0:Int)(f1:Int)(f2:Int)(f3:Int)(f4:Int)(f5:Int)(w:World)(R:TR [(false,[.b])]→WP):Prop:=
Ae prog F.Fa [.iface T.Dy (.agg #[.int .i64 f0,.int .i64 f1,.int .u16 f2,.int .u16 f3,.int .i64 f4,.int .i64 f5])] w false [(false,[(.i .u8)])] fun r1 w2=>
Aj (r1.1.1==0) (
R ((false,()),()) w2) (
Ae prog F.Dh [.agg #[.int .i64 f0,.int .i64 f1,.int .u16 f2,.int .u16 f3,.int .i64 f4,.int .i64 f5]] w2 false [(false,[.sl])] fun r3 w4=>
Ci (fun(self5:((Int)×Unit)→WP) (z6:(Int)×Unit) w7=> ∀_:Nat→Value,
Aj (decide (z6.1<(r3.1.1.2.1:Int))) (
Ny r3.1.1.1 r3.1.1.2.1 z6.1 fun a8=>
A8 [(.i .i64),(.i .i64),(.i .i64)] (a8.add (z6.1.toNat*3)) 0 w7 fun x9=>
Bf [.int .i64 0,.int .i64 0,.int .i64 0] T.Dl w7 fun p10 w11=>
Au [.int .i64 x9.1,.int .i64 x9.2.1,.int .i64 x9.2.2.1] p10 0 w11 fun w12=>
ld1 (.i .i64) (p10.add 1) w12 fun x13=>
Aj (decide (x13<0)) (
R ((false,()),()) w12) (
ld1 (.i .i64) (p10.add 1) w12 fun x14=>
ld1 (.i .i64) (p10.add 2) w12 fun x15=>
Aj (decide (x14>x15)) (
R ((false,()),()) w12) (
self5 (wrap .i64 (z6.1+1),()) w12))) (
R ((true,()),()) w7)) (0,()) w4)
theorem Fp.eq(f0:Int)(f1:Int)(f2:Int)(f3:Int)(f4:Int)(f5:Int)(w:World)(R:Value→WP):A7 prog Tryz.f144 (.s .n (.s .n (.s (.s .n (.lp [(11,(.i .i64))] .n)) .n))) [.iface T.Dy (.agg #[.int .i64 f0,.int .i64 f1,.int .u16 f2,.int .u16 f3,.int .i64 f4,.int .i64 f5])] w R=Fp.wp f0 f1 f2 f3 f4 f5 w (fun r w=>R (encR false [(false,[.b])] r) w):=by kernel_rfl
theorem Fp.ok{f0:Int}{f1:Int}{f2:Int}{f3:Int}{f4:Int}{f5:Int}{w:World}{R:TR [(false,[.b])]→WP}(h:Fp.wp f0 f1 f2 f3 f4 f5 w R):Ae prog F.Ew [.iface T.Dy (.agg #[.int .i64 f0,.int .i64 f1,.int .u16 f2,.int .u16 f3,.int .i64 f4,.int .i64 f5])] w false [(false,[.b])] R:=
  Aop Aa Tryz.func144 (fun R=>Fp.wp f0 f1 f2 f3 f4 f5 w R) (Fp.eq f0 f1 f2 f3 f4 f5 w) rfl h
def Rw.wp(f0:Int)(f1:Int)(w:World)(R:TR [(false,[.b])]→WP):Prop:=
Ae prog F.Fa [.iface T.Gj (.agg #[.int .i64 f0,.int .i64 f1])] w false [(false,[(.i .u8)])] fun r1 w2=>
Aj (r1.1.1==0) (
R ((false,()),()) w2) (
Ae prog F.Ic [.agg #[.int .i64 f0,.int .i64 f1]] w2 false [(false,[.sl])] fun r3 w4=>
Ci (fun(self5:((Int)×Unit)→WP) (z6:(Int)×Unit) w7=> ∀_:Nat→Value,
Aj (decide (z6.1<(r3.1.1.2.1:Int))) (
Ny r3.1.1.1 r3.1.1.2.1 z6.1 fun a8=>
A8 [(.i .i64),(.i .i64),(.i .i64)] (a8.add (z6.1.toNat*3)) 0 w7 fun x9=>
Bf [.int .i64 0,.int .i64 0,.int .i64 0] T.Dl w7 fun p10 w11=>
Au [.int .i64 x9.1,.int .i64 x9.2.1,.int .i64 x9.2.2.1] p10 0 w11 fun w12=>
ld1 (.i .i64) (p10.add 1) w12 fun x13=>
Aj (decide (x13<0)) (
R ((false,()),()) w12) (
ld1 (.i .i64) (p10.add 1) w12 fun x14=>
ld1 (.i .i64) (p10.add 2) w12 fun x15=>
Aj (decide (x14>x15)) (
R ((false,()),()) w12) (
self5 (wrap .i64 (z6.1+1),()) w12))) (
R ((true,()),()) w7)) (0,()) w4)
theorem Rw.eq(f0:Int)(f1:Int)(w:World)(R:Value→WP):A7 prog Tryz.f144 (.s .n (.s .n (.s (.s .n (.lp [(11,(.i .i64))] .n)) .n))) [.iface T.Gj (.agg #[.int .i64 f0,.int .i64 f1])] w R=Rw.wp f0 f1 w (fun r w=>R (encR false [(false,[.b])] r) w):=by kernel_rfl
theorem Rw.ok{f0:Int}{f1:Int}{w:World}{R:TR [(false,[.b])]→WP}(h:Rw.wp f0 f1 w R):Ae prog F.Ew [.iface T.Gj (.agg #[.int .i64 f0,.int .i64 f1])] w false [(false,[.b])] R:=
  Aop Aa Tryz.func144 (fun R=>Rw.wp f0 f1 w R) (Rw.eq f0 f1 w) rfl h
def Gq.wp(f0:Int)(w:World)(R:TR [(false,[.b])]→WP):Prop:=
Ae prog F.Fa [.iface T.Gp (.agg #[.int .i64 f0])] w false [(false,[(.i .u8)])] fun r1 w2=>
Aj (r1.1.1==0) (
R ((false,()),()) w2) (
Ae prog F.D8 [.agg #[.int .i64 f0]] w2 false [(false,[.sl])] fun r3 w4=>
Ci (fun(self5:((Int)×Unit)→WP) (z6:(Int)×Unit) w7=> ∀_:Nat→Value,
Aj (decide (z6.1<(r3.1.1.2.1:Int))) (
Ny r3.1.1.1 r3.1.1.2.1 z6.1 fun a8=>
A8 [(.i .i64),(.i .i64),(.i .i64)] (a8.add (z6.1.toNat*3)) 0 w7 fun x9=>
Bf [.int .i64 0,.int .i64 0,.int .i64 0] T.Dl w7 fun p10 w11=>
Au [.int .i64 x9.1,.int .i64 x9.2.1,.int .i64 x9.2.2.1] p10 0 w11 fun w12=>
ld1 (.i .i64) (p10.add 1) w12 fun x13=>
Aj (decide (x13<0)) (
R ((false,()),()) w12) (
ld1 (.i .i64) (p10.add 1) w12 fun x14=>
ld1 (.i .i64) (p10.add 2) w12 fun x15=>
Aj (decide (x14>x15)) (
R ((false,()),()) w12) (
self5 (wrap .i64 (z6.1+1),()) w12))) (
R ((true,()),()) w7)) (0,()) w4)
theorem Gq.eq(f0:Int)(w:World)(R:Value→WP):A7 prog Tryz.f144 (.s .n (.s .n (.s (.s .n (.lp [(11,(.i .i64))] .n)) .n))) [.iface T.Gp (.agg #[.int .i64 f0])] w R=Gq.wp f0 w (fun r w=>R (encR false [(false,[.b])] r) w):=by kernel_rfl
theorem Gq.ok{f0:Int}{w:World}{R:TR [(false,[.b])]→WP}(h:Gq.wp f0 w R):Ae prog F.Ew [.iface T.Gp (.agg #[.int .i64 f0])] w false [(false,[.b])] R:=
  Aop Aa Tryz.func144 (fun R=>Gq.wp f0 w R) (Gq.eq f0 w) rfl h
def Qx.wp(f0:Int)(f1:Int)(f2:Int)(w:World)(R:TR [(false,[.b])]→WP):Prop:=
Ae prog F.Fa [.iface T.Ef (.agg #[.int .i64 f0,.int .i64 f1,.int .i64 f2])] w false [(false,[(.i .u8)])] fun r1 w2=>
Aj (r1.1.1==0) (
R ((false,()),()) w2) (
Ae prog F.He [.agg #[.int .i64 f0,.int .i64 f1,.int .i64 f2]] w2 false [(false,[.sl])] fun r3 w4=>
Ci (fun(self5:((Int)×Unit)→WP) (z6:(Int)×Unit) w7=> ∀_:Nat→Value,
Aj (decide (z6.1<(r3.1.1.2.1:Int))) (
Ny r3.1.1.1 r3.1.1.2.1 z6.1 fun a8=>
A8 [(.i .i64),(.i .i64),(.i .i64)] (a8.add (z6.1.toNat*3)) 0 w7 fun x9=>
Bf [.int .i64 0,.int .i64 0,.int .i64 0] T.Dl w7 fun p10 w11=>
Au [.int .i64 x9.1,.int .i64 x9.2.1,.int .i64 x9.2.2.1] p10 0 w11 fun w12=>
ld1 (.i .i64) (p10.add 1) w12 fun x13=>
Aj (decide (x13<0)) (
R ((false,()),()) w12) (
ld1 (.i .i64) (p10.add 1) w12 fun x14=>
ld1 (.i .i64) (p10.add 2) w12 fun x15=>
Aj (decide (x14>x15)) (
R ((false,()),()) w12) (
self5 (wrap .i64 (z6.1+1),()) w12))) (
R ((true,()),()) w7)) (0,()) w4)
theorem Qx.eq(f0:Int)(f1:Int)(f2:Int)(w:World)(R:Value→WP):A7 prog Tryz.f144 (.s .n (.s .n (.s (.s .n (.lp [(11,(.i .i64))] .n)) .n))) [.iface T.Ef (.agg #[.int .i64 f0,.int .i64 f1,.int .i64 f2])] w R=Qx.wp f0 f1 f2 w (fun r w=>R (encR false [(false,[.b])] r) w):=by kernel_rfl
theorem Qx.ok{f0:Int}{f1:Int}{f2:Int}{w:World}{R:TR [(false,[.b])]→WP}(h:Qx.wp f0 f1 f2 w R):Ae prog F.Ew [.iface T.Ef (.agg #[.int .i64 f0,.int .i64 f1,.int .i64 f2])] w false [(false,[.b])] R:=
  Aop Aa Tryz.func144 (fun R=>Qx.wp f0 f1 f2 w R) (Qx.eq f0 f1 f2 w) rfl h
def Qy.wp(f0:Int)(f1:Int)(f2:Int)(f3:Int)(f4:Int)(f5:Int)(f6:Int)(f7:Int)(w:World)(R:TR [(false,[.b])]→WP):Prop:=
Ae prog F.Fa [.iface T.Gl (.agg #[.int .i64 f0,.int .i64 f1,.int .i64 f2,.int .i64 f3,.int .i64 f4,.int .i64 f5,.int .u16 f6,.int .i64 f7])] w false [(false,[(.i .u8)])] fun r1 w2=>
Aj (r1.1.1==0) (
R ((false,()),()) w2) (
Ae prog F.G7 [.agg #[.int .i64 f0,.int .i64 f1,.int .i64 f2,.int .i64 f3,.int .i64 f4,.int .i64 f5,.int .u16 f6,.int .i64 f7]] w2 false [(false,[.sl])] fun r3 w4=>
Ci (fun(self5:((Int)×Unit)→WP) (z6:(Int)×Unit) w7=> ∀_:Nat→Value,
Aj (decide (z6.1<(r3.1.1.2.1:Int))) (
Ny r3.1.1.1 r3.1.1.2.1 z6.1 fun a8=>
A8 [(.i .i64),(.i .i64),(.i .i64)] (a8.add (z6.1.toNat*3)) 0 w7 fun x9=>
Bf [.int .i64 0,.int .i64 0,.int .i64 0] T.Dl w7 fun p10 w11=>
Au [.int .i64 x9.1,.int .i64 x9.2.1,.int .i64 x9.2.2.1] p10 0 w11 fun w12=>
ld1 (.i .i64) (p10.add 1) w12 fun x13=>
Aj (decide (x13<0)) (
R ((false,()),()) w12) (
ld1 (.i .i64) (p10.add 1) w12 fun x14=>
ld1 (.i .i64) (p10.add 2) w12 fun x15=>
Aj (decide (x14>x15)) (
R ((false,()),()) w12) (
self5 (wrap .i64 (z6.1+1),()) w12))) (
R ((true,()),()) w7)) (0,()) w4)
theorem Qy.eq(f0:Int)(f1:Int)(f2:Int)(f3:Int)(f4:Int)(f5:Int)(f6:Int)(f7:Int)(w:World)(R:Value→WP):A7 prog Tryz.f144 (.s .n (.s .n (.s (.s .n (.lp [(11,(.i .i64))] .n)) .n))) [.iface T.Gl (.agg #[.int .i64 f0,.int .i64 f1,.int .i64 f2,.int .i64 f3,.int .i64 f4,.int .i64 f5,.int .u16 f6,.int .i64 f7])] w R=Qy.wp f0 f1 f2 f3 f4 f5 f6 f7 w (fun r w=>R (encR false [(false,[.b])] r) w):=by kernel_rfl
theorem Qy.ok{f0:Int}{f1:Int}{f2:Int}{f3:Int}{f4:Int}{f5:Int}{f6:Int}{f7:Int}{w:World}{R:TR [(false,[.b])]→WP}(h:Qy.wp f0 f1 f2 f3 f4 f5 f6 f7 w R):Ae prog F.Ew [.iface T.Gl (.agg #[.int .i64 f0,.int .i64 f1,.int .i64 f2,.int .i64 f3,.int .i64 f4,.int .i64 f5,.int .u16 f6,.int .i64 f7])] w false [(false,[.b])] R:=
  Aop Aa Tryz.func144 (fun R=>Qy.wp f0 f1 f2 f3 f4 f5 f6 f7 w R) (Qy.eq f0 f1 f2 f3 f4 f5 f6 f7 w) rfl h
def Qk.wp(l:Option Addr)(label:ByteArray)(local_:Int)(when0:Int)(when1:Int)(when2:Int)(when3:Int)(when4:Int)(w:World)(R:TR [(false,[(.i .i64)]),(false,[(.i .i64)])]→WP):Prop:=
Bf [.int .i64 when0,.int .i64 when1,.int .i64 when2,.int .u16 when3,.int .i64 when4] T.Bg w fun p1 w2=>
Aj (Option.isNone l) (
R ((0,()),(2,()),()) w2) (
Ae prog F.Vo [.string label] w2 false [(false,[.b])] fun r3 w4=>
Aj (!r3.1.1) (
R ((0,()),(1,()),()) w4) (
Jg w4 fun w5=>
Aq l fun a6=>
ld1 .p a6 w5 fun x7=>
Aq l fun a8=>
ld1 (.i .i64) (a8.add 1) w5 fun x9=>
A8 [(.i .i64),(.i .i64),(.i .i64),(.i .u16),(.i .i64)] p1 0 w5 fun x10=>
Ae prog F.Dz [.pointer x7,.agg #[.int .i64 (wrap .i64 (x9+1)),.string label,.int .i64 local_,.int .i64 x10.1,.int .i64 x10.2.1,.int .i64 x10.2.2.1,.int .u16 x10.2.2.2.1,.int .i64 x10.2.2.2.2.1]] w5 false [(false,[(.i .i64)])] fun r11 w12=>
Aw [(11,(p1.add 0),(w5.cell? (p1.add 0)).getD undef),(11,(p1.add 1),(w5.cell? (p1.add 1)).getD undef),(11,(p1.add 2),(w5.cell? (p1.add 2)).getD undef),(11,(p1.add 3),(w5.cell? (p1.add 3)).getD undef),(11,(p1.add 4),(w5.cell? (p1.add 4)).getD undef),(7,(a8.add 1),(w5.cell? (a8.add 1)).getD undef)] w12∧(
Aj (r11.1.1 !=0) (
R ((0,()),(r11.1.1,()),()) w12) (
Aq l fun a13=>
ld1 (.i .i64) (a13.add 1) w12 fun x14=>
Aq l fun a15=>
Au [.int .i64 (wrap .i64 (x14+1))] (a15.add 1) 0 w12 fun w16=>
Aq l fun a17=>
ld1 (.i .i64) (a17.add 1) w16 fun x18=>
R ((x18,()),(0,()),()) w16))))
theorem Qk.eq(l:Option Addr)(label:ByteArray)(local_:Int)(when0:Int)(when1:Int)(when2:Int)(when3:Int)(when4:Int)(w:World)(R:Value→WP):A7 prog Tryz.f146 (.s .n (.s .n (.s (.s (.pl (.tk 0 (.tk 1 (.tk 2 (.tk 3 (.tk 4 (.tk 5 (.tk 6 (.tk 7 (.tk 8 (.tk 9 (.tk 10 (.tk 11 (.tk 12 (.ef 13 [3] (.tk 14 .z)))))))))))))))) .n) .n))) [.pointer l,.string label,.int .i64 local_,.agg #[.int .i64 when0,.int .i64 when1,.int .i64 when2,.int .u16 when3,.int .i64 when4]] w R=Qk.wp l label local_ when0 when1 when2 when3 when4 w (fun r w=>R (encR true [(false,[(.i .i64)]),(false,[(.i .i64)])] r) w):=by kernel_rfl
theorem Qk.ok{l:Option Addr}{label:ByteArray}{local_:Int}{when0:Int}{when1:Int}{when2:Int}{when3:Int}{when4:Int}{w:World}{R:TR [(false,[(.i .i64)]),(false,[(.i .i64)])]→WP}(h:Qk.wp l label local_ when0 when1 when2 when3 when4 w R):Ae prog F.Qk [.pointer l,.string label,.int .i64 local_,.agg #[.int .i64 when0,.int .i64 when1,.int .i64 when2,.int .u16 when3,.int .i64 when4]] w true [(false,[(.i .i64)]),(false,[(.i .i64)])] R:=
  Aop Aa Tryz.func146 (fun R=>Qk.wp l label local_ when0 when1 when2 when3 when4 w R) (Qk.eq l label local_ when0 when1 when2 when3 when4 w) rfl h
def Ou.wp(l:Option Addr)(w:World)(R:TR [(true,[(.i .i64),.s,(.i .i64),(.i .i64),(.i .i64),(.i .i64),(.i .u16),(.i .i64)]),(false,[.b])]→WP):Prop:=
Bf [.int .i64 0,.string ByteArray.empty,.int .i64 0,.int .i64 0,.int .i64 0,.int .i64 0,.int .u16 0,.int .i64 0] T.U1 w fun p1 w2=>
Aj (Option.isNone l) (
Au [.int .i64 0,.string ByteArray.empty,.int .i64 0,.int .i64 0,.int .i64 0,.int .i64 0,.int .u16 0,.int .i64 0] p1 0 w2 fun w3=>
A8 [(.i .i64),.s,(.i .i64),(.i .i64),(.i .i64),(.i .i64),(.i .u16),(.i .i64)] p1 0 w3 fun x4=>
R ((x4.1,x4.2.1,x4.2.2.1,x4.2.2.2.1,x4.2.2.2.2.1,x4.2.2.2.2.2.1,x4.2.2.2.2.2.2.1,x4.2.2.2.2.2.2.2.1,()),(false,()),()) w3) (
Aq l fun a5=>
ld1 .p a5 w2 fun x6=>
Ae prog F.Eb [.pointer x6] w2 true [(true,[(.i .i64),.s,(.i .i64),(.i .i64),(.i .i64),(.i .i64),(.i .u16),(.i .i64)]),(false,[.b])] fun r7 w8=>
Au [.int .i64 r7.1.1,.string r7.1.2.1,.int .i64 r7.1.2.2.1,.int .i64 r7.1.2.2.2.1,.int .i64 r7.1.2.2.2.2.1,.int .i64 r7.1.2.2.2.2.2.1,.int .u16 r7.1.2.2.2.2.2.2.1,.int .i64 r7.1.2.2.2.2.2.2.2.1] p1 0 w8 fun w9=>
A8 [(.i .i64),.s,(.i .i64),(.i .i64),(.i .i64),(.i .i64),(.i .u16),(.i .i64)] p1 0 w9 fun x10=>
R ((x10.1,x10.2.1,x10.2.2.1,x10.2.2.2.1,x10.2.2.2.2.1,x10.2.2.2.2.2.1,x10.2.2.2.2.2.2.1,x10.2.2.2.2.2.2.2.1,()),(r7.2.1.1,()),()) w9)
theorem Ou.eq(l:Option Addr)(w:World)(R:Value→WP):A7 prog Tryz.f147 .n [.pointer l] w R=Ou.wp l w (fun r w=>R (encR true [(true,[(.i .i64),.s,(.i .i64),(.i .i64),(.i .i64),(.i .i64),(.i .u16),(.i .i64)]),(false,[.b])] r) w):=by kernel_rfl
theorem Ou.ok{l:Option Addr}{w:World}{R:TR [(true,[(.i .i64),.s,(.i .i64),(.i .i64),(.i .i64),(.i .i64),(.i .u16),(.i .i64)]),(false,[.b])]→WP}(h:Ou.wp l w R):Ae prog F.Ou [.pointer l] w true [(true,[(.i .i64),.s,(.i .i64),(.i .i64),(.i .i64),(.i .i64),(.i .u16),(.i .i64)]),(false,[.b])] R:=
  Aop Aa Tryz.func147 (fun R=>Ou.wp l w R) (Ou.eq l w) rfl h
def Oi.wp(a:Int)(b:Int)(w:World)(R:TR [(false,[(.i .i64)]),(false,[(.i .i64)]),(false,[.b])]→WP):Prop:=
Aj (decide (b<1)) (
R ((0,()),(0,()),(false,()),()) w) (
Jg w fun w1=>
dF b (
dF b (
Aj (decide ((Int.tmod a b)<0)) (
R ((wrap .i64 ((wrap .i64 (Int.tdiv a b))-1),()),(wrap .i64 ((Int.tmod a b)+b),()),(true,()),()) w1) (
R ((wrap .i64 (Int.tdiv a b),()),(Int.tmod a b,()),(true,()),()) w1))))
theorem Oi.eq(a:Int)(b:Int)(w:World)(R:Value→WP):A7 prog Tryz.f176 (.s .n (.s .n (.s (.pl (.tk 0 (.tk 1 (.tk 2 (.tk 3 (.tk 4 (.tk 5 (.tk 6 (.tk 7 .z))))))))) .n))) [.int .i64 a,.int .i64 b] w R=Oi.wp a b w (fun r w=>R (encR true [(false,[(.i .i64)]),(false,[(.i .i64)]),(false,[.b])] r) w):=by kernel_rfl
theorem Oi.ok{a:Int}{b:Int}{w:World}{R:TR [(false,[(.i .i64)]),(false,[(.i .i64)]),(false,[.b])]→WP}(h:Oi.wp a b w R):Ae prog F.Oi [.int .i64 a,.int .i64 b] w true [(false,[(.i .i64)]),(false,[(.i .i64)]),(false,[.b])] R:=
  Aop Aa Tryz.func176 (fun R=>Oi.wp a b w R) (Oi.eq a b w) rfl h
def Ve.wp(me:Int)(timeout:Int)(ignore:Int)(w:World)(R:TR [(false,[.b])]→WP):Prop:=
Aj (decide (me≥0)) (
Aj (decide (me<64)) (
Aj (decide (timeout≥1)) (
Aj (decide (timeout≤1000)) (
Aj (decide (ignore≥0)) (
R ((decide (ignore≤1000),()),()) w) (
R ((false,()),()) w)) (
R ((false,()),()) w)) (
R ((false,()),()) w)) (
R ((false,()),()) w)) (
R ((false,()),()) w)
theorem Ve.eq(me:Int)(timeout:Int)(ignore:Int)(w:World)(R:Value→WP):A7 prog Tryz.f180 .n [.int .i64 me,.int .i64 timeout,.int .i64 ignore] w R=Ve.wp me timeout ignore w (fun r w=>R (encR false [(false,[.b])] r) w):=by kernel_rfl
theorem Ve.ok{me:Int}{timeout:Int}{ignore:Int}{w:World}{R:TR [(false,[.b])]→WP}(h:Ve.wp me timeout ignore w R):Ae prog F.Ve [.int .i64 me,.int .i64 timeout,.int .i64 ignore] w false [(false,[.b])] R:=
  Aop Aa Tryz.func180 (fun R=>Ve.wp me timeout ignore w R) (Ve.eq me timeout ignore w) rfl h
def Hu.wp(r0:Int)(r1:Int)(r2:Int)(r3:Int)(w:World)(R:TR [(false,[.b])]→WP):Prop:=
Bf [.int .i64 r0,.int .i64 r1,.int .i64 r2,.int .i64 r3] T.fQ w fun p1 w2=>
A8 [(.i .i64),(.i .i64)] p1 0 w2 fun x3=>
Ae prog F.Hq [.agg #[.int .i64 x3.1,.int .i64 x3.2.1]] w2 false [(false,[.b])] fun r4 w5=>
Aj r4.1.1 (
ld1 (.i .i64) (p1.add 2) w5 fun x6=>
Aj (decide (x6≥1)) (
ld1 (.i .i64) (p1.add 2) w5 fun x7=>
Aj (decide (x7≤8)) (
ld1 (.i .i64) (p1.add 3) w5 fun x8=>
Aj (decide (x8≥0)) (
ld1 (.i .i64) (p1.add 3) w5 fun x9=>
R ((decide (x9≤10),()),()) w5) (
R ((false,()),()) w5)) (
R ((false,()),()) w5)) (
R ((false,()),()) w5)) (
R ((false,()),()) w5)
theorem Hu.eq(r0:Int)(r1:Int)(r2:Int)(r3:Int)(w:World)(R:Value→WP):A7 prog Tryz.f181 .n [.agg #[.int .i64 r0,.int .i64 r1,.int .i64 r2,.int .i64 r3]] w R=Hu.wp r0 r1 r2 r3 w (fun r w=>R (encR false [(false,[.b])] r) w):=by kernel_rfl
theorem Hu.ok{r0:Int}{r1:Int}{r2:Int}{r3:Int}{w:World}{R:TR [(false,[.b])]→WP}(h:Hu.wp r0 r1 r2 r3 w R):Ae prog F.Hu [.agg #[.int .i64 r0,.int .i64 r1,.int .i64 r2,.int .i64 r3]] w false [(false,[.b])] R:=
  Aop Aa Tryz.func181 (fun R=>Hu.wp r0 r1 r2 r3 w R) (Hu.eq r0 r1 r2 r3 w) rfl h
def Ie.wp(p0:Int)(p1:Int)(p2:Int)(w:World)(R:TR [(false,[.b])]→WP):Prop:=
Bf [.int .i64 p0,.int .i64 p1,.int .i64 p2] T.bU w fun p3 w4=>
ld1 (.i .i64) p3 w4 fun x5=>
Aj (decide (x5≥1)) (
ld1 (.i .i64) p3 w4 fun x6=>
Aj (decide (x6≤64)) (
ld1 (.i .i64) (p3.add 1) w4 fun x7=>
Aj (decide (x7≥1)) (
ld1 (.i .i64) (p3.add 1) w4 fun x8=>
ld1 (.i .i64) p3 w4 fun x9=>
Aj (decide (x8≤x9)) (
ld1 (.i .i64) (p3.add 2) w4 fun x10=>
Aj (decide (x10≥0)) (
ld1 (.i .i64) (p3.add 2) w4 fun x11=>
ld1 (.i .i64) p3 w4 fun x12=>
R ((decide (x11<x12),()),()) w4) (
R ((false,()),()) w4)) (
R ((false,()),()) w4)) (
R ((false,()),()) w4)) (
R ((false,()),()) w4)) (
R ((false,()),()) w4)
theorem Ie.eq(p0:Int)(p1:Int)(p2:Int)(w:World)(R:Value→WP):A7 prog Tryz.f182 .n [.agg #[.int .i64 p0,.int .i64 p1,.int .i64 p2]] w R=Ie.wp p0 p1 p2 w (fun r w=>R (encR false [(false,[.b])] r) w):=by kernel_rfl
theorem Ie.ok{p0:Int}{p1:Int}{p2:Int}{w:World}{R:TR [(false,[.b])]→WP}(h:Ie.wp p0 p1 p2 w R):Ae prog F.Ie [.agg #[.int .i64 p0,.int .i64 p1,.int .i64 p2]] w false [(false,[.b])] R:=
  Aop Aa Tryz.func182 (fun R=>Ie.wp p0 p1 p2 w R) (Ie.eq p0 p1 p2 w) rfl h
def Gt.wp(room:Int)(w:World)(R:TR [(false,[.p]),(false,[(.i .i64)])]→WP):Prop:=
Aj (decide (room<1)) (
R ((none,()),(1,()),()) w) (
Aj (decide (room>64)) (
R ((none,()),(1,()),()) w) (
L9 ((Instr.makeSlice T.Yo (.int .i64 room) (.int .i64 room)).run prog w) fun y1 w2=>
Bf [.slice y1.1 y1.2.1 y1.2.2,.int .i64 0,.int .i64 0] T.fB w2 fun p3 w4=>
R ((some p3,()),(0,()),()) w4))
theorem Gt.eq(room:Int)(w:World)(R:Value→WP):A7 prog Tryz.f183 .n [.int .i64 room] w R=Gt.wp room w (fun r w=>R (encR true [(false,[.p]),(false,[(.i .i64)])] r) w):=by kernel_rfl
theorem Gt.ok{room:Int}{w:World}{R:TR [(false,[.p]),(false,[(.i .i64)])]→WP}(h:Gt.wp room w R):Ae prog F.Gt [.int .i64 room] w true [(false,[.p]),(false,[(.i .i64)])] R:=
  Aop Aa Tryz.func183 (fun R=>Gt.wp room w R) (Gt.eq room w) rfl h
def Wv.wp(me:Int)(r0:Int)(r1:Int)(w:World)(R:TR [(false,[.p]),(false,[(.i .i64)])]→WP):Prop:=
Bf [.int .i64 r0,.int .i64 r1] T.nU w fun p1 w2=>
Aj (decide (me<0)) (
R ((none,()),(1,()),()) w2) (
Aj (decide (me≥64)) (
R ((none,()),(1,()),()) w2) (
A8 [(.i .i64),(.i .i64)] p1 0 w2 fun x3=>
Ae prog F.Hq [.agg #[.int .i64 x3.1,.int .i64 x3.2.1]] w2 false [(false,[.b])] fun r4 w5=>
Aj (!r4.1.1) (
R ((none,()),(1,()),()) w5) (
A8 [(.i .i64),(.i .i64)] p1 0 w5 fun x6=>
Bf [.int .i64 me,.int .i64 x6.1,.int .i64 x6.2.1,.int .u16 0,.int .u16 0,.int .i64 0,.int .i64 0,.int .i64 0,.map none] T.Aaw w5 fun p7 w8=>
Ae prog F.Hr [.pointer (some p7),.int .u16 0] w8 true [] fun r9 w10=>
R ((some p7,()),(0,()),()) w10)))
theorem Wv.eq(me:Int)(r0:Int)(r1:Int)(w:World)(R:Value→WP):A7 prog Tryz.f184 .n [.int .i64 me,.agg #[.int .i64 r0,.int .i64 r1]] w R=Wv.wp me r0 r1 w (fun r w=>R (encR true [(false,[.p]),(false,[(.i .i64)])] r) w):=by kernel_rfl
theorem Wv.ok{me:Int}{r0:Int}{r1:Int}{w:World}{R:TR [(false,[.p]),(false,[(.i .i64)])]→WP}(h:Wv.wp me r0 r1 w R):Ae prog F.Wv [.int .i64 me,.agg #[.int .i64 r0,.int .i64 r1]] w true [(false,[.p]),(false,[(.i .i64)])] R:=
  Aop Aa Tryz.func184 (fun R=>Wv.wp me r0 r1 w R) (Wv.eq me r0 r1 w) rfl h
def Dk.wp(t:Option Addr)(w:World)(R:TR [(false,[(.i .i64)])]→WP):Prop:=
Aj (Option.isNone t) (
R ((0,()),()) w) (
Aq t fun a1=>
ld1 .sl a1 w fun x2=>
R (((x2.2.1:Int),()),()) w)
theorem Dk.eq(t:Option Addr)(w:World)(R:Value→WP):A7 prog Tryz.f185 .n [.pointer t] w R=Dk.wp t w (fun r w=>R (encR false [(false,[(.i .i64)])] r) w):=by kernel_rfl
theorem Dk.ok{t:Option Addr}{w:World}{R:TR [(false,[(.i .i64)])]→WP}(h:Dk.wp t w R):Ae prog F.Dk [.pointer t] w false [(false,[(.i .i64)])] R:=
  Aop Aa Tryz.func185 (fun R=>Dk.wp t w R) (Dk.eq t w) rfl h
def Dj.wp(r:Option Addr)(w:World)(R:TR [(false,[(.i .i64)])]→WP):Prop:=
Aj (Option.isNone r) (
R ((0,()),()) w) (
Aq r fun a1=>
ld1 (.i .i64) (a1.add 2) w fun x2=>
R ((x2,()),()) w)
theorem Dj.eq(r:Option Addr)(w:World)(R:Value→WP):A7 prog Tryz.f186 .n [.pointer r] w R=Dj.wp r w (fun r w=>R (encR false [(false,[(.i .i64)])] r) w):=by kernel_rfl
theorem Dj.ok{r:Option Addr}{w:World}{R:TR [(false,[(.i .i64)])]→WP}(h:Dj.wp r w R):Ae prog F.Dj [.pointer r] w false [(false,[(.i .i64)])] R:=
  Aop Aa Tryz.func186 (fun R=>Dj.wp r w R) (Dj.eq r w) rfl h
def Be.wp(l:Option Addr)(i:Int)(w:World)(R:TR [(false,[.b])]→WP):Prop:=
Aj (decide (i≥0)) (
Ae prog F.Bq [.pointer l] w false [(false,[(.i .i64)])] fun r1 w2=>
R ((decide (i<r1.1.1),()),()) w2) (
R ((false,()),()) w)
theorem Be.eq(l:Option Addr)(i:Int)(w:World)(R:Value→WP):A7 prog Tryz.f187 .n [.pointer l,.int .i64 i] w R=Be.wp l i w (fun r w=>R (encR false [(false,[.b])] r) w):=by kernel_rfl
theorem Be.ok{l:Option Addr}{i:Int}{w:World}{R:TR [(false,[.b])]→WP}(h:Be.wp l i w R):Ae prog F.Be [.pointer l,.int .i64 i] w false [(false,[.b])] R:=
  Aop Aa Tryz.func187 (fun R=>Be.wp l i w R) (Be.eq l i w) rfl h
def Iq.wp(c:Option Addr)(ticks:Int)(w:World)(R:TR [(false,[.b])]→WP):Prop:=
Aj (!(Option.isNone c)) (
Aq c fun a1=>
ld1 (.i .i64) a1 w fun x2=>
Aj (decide (ticks≥(wrap .i64 (1000-x2)))) (
Aq c fun a3=>
ld1 (.i .i64) a3 w fun x4=>
R ((decide (ticks≤(wrap .i64 (1000+x4))),()),()) w) (
R ((false,()),()) w)) (
R ((false,()),()) w)
theorem Iq.eq(c:Option Addr)(ticks:Int)(w:World)(R:Value→WP):A7 prog Tryz.f188 .n [.pointer c,.int .i64 ticks] w R=Iq.wp c ticks w (fun r w=>R (encR false [(false,[.b])] r) w):=by kernel_rfl
theorem Iq.ok{c:Option Addr}{ticks:Int}{w:World}{R:TR [(false,[.b])]→WP}(h:Iq.wp c ticks w R):Ae prog F.Iq [.pointer c,.int .i64 ticks] w false [(false,[.b])] R:=
  Aop Aa Tryz.func188 (fun R=>Iq.wp c ticks w R) (Iq.eq c ticks w) rfl h
def Ug.wp(last:Int)(raw:Int)(w:World)(R:TR [(false,[(.i .i64)]),(false,[.b])]→WP):Prop:=
Aj (decide (last<0)) (
R ((0,()),(false,()),()) w) (
Aj (decide (last>1125899906842624)) (
R ((0,()),(false,()),()) w) (
Aj (decide ((wrap .i64 (last+(wrap .i64 (wrap .u32 (raw-(wrap .u32 last))))))>1125899906842624)) (
R ((0,()),(false,()),()) w) (
R ((wrap .i64 (last+(wrap .i64 (wrap .u32 (raw-(wrap .u32 last))))),()),(true,()),()) w)))
theorem Ug.eq(last:Int)(raw:Int)(w:World)(R:Value→WP):A7 prog Tryz.f189 .n [.int .i64 last,.int .u32 raw] w R=Ug.wp last raw w (fun r w=>R (encR true [(false,[(.i .i64)]),(false,[.b])] r) w):=by kernel_rfl
theorem Ug.ok{last:Int}{raw:Int}{w:World}{R:TR [(false,[(.i .i64)]),(false,[.b])]→WP}(h:Ug.wp last raw w R):Ae prog F.Ug [.int .i64 last,.int .u32 raw] w true [(false,[(.i .i64)]),(false,[.b])] R:=
  Aop Aa Tryz.func189 (fun R=>Ug.wp last raw w R) (Ug.eq last raw w) rfl h
def Om.wp(p0:Int)(p1:Int)(p2:Int)(step:Int)(w:World)(R:TR [(false,[.b])]→WP):Prop:=
Bf [.int .i64 p0,.int .i64 p1,.int .i64 p2] T.bU w fun p3 w4=>
Jg w4 fun w5=>
A8 [(.i .i64),(.i .i64),(.i .i64)] p3 0 w5 fun x6=>
Ae prog F.Ie [.agg #[.int .i64 x6.1,.int .i64 x6.2.1,.int .i64 x6.2.2.1]] w5 false [(false,[.b])] fun r7 w8=>
Aw [] w8∧(
Aj r7.1.1 (
Aj (decide (step≥0)) (
ld1 (.i .i64) p3 w8 fun x9=>
dF x9 (
ld1 (.i .i64) (p3.add 2) w8 fun x10=>
R ((((Int.tmod step x9)==x10),()),()) w8)) (
R ((false,()),()) w8)) (
R ((false,()),()) w8))
theorem Om.eq(p0:Int)(p1:Int)(p2:Int)(step:Int)(w:World)(R:Value→WP):A7 prog Tryz.f190 (.s .n (.s (.pl (.tk 0 (.ef 1 [0] (.tk 2 (.tk 3 (.tk 4 (.tk 5 (.tk 6 (.tk 7 (.tk 8 (.tk 9 (.tk 10 (.tk 11 (.tk 12 (.tk 13 (.tk 14 (.tk 15 .z))))))))))))))))) .n)) [.agg #[.int .i64 p0,.int .i64 p1,.int .i64 p2],.int .i64 step] w R=Om.wp p0 p1 p2 step w (fun r w=>R (encR false [(false,[.b])] r) w):=by kernel_rfl
theorem Om.ok{p0:Int}{p1:Int}{p2:Int}{step:Int}{w:World}{R:TR [(false,[.b])]→WP}(h:Om.wp p0 p1 p2 step w R):Ae prog F.Om [.agg #[.int .i64 p0,.int .i64 p1,.int .i64 p2],.int .i64 step] w false [(false,[.b])] R:=
  Aop Aa Tryz.func190 (fun R=>Om.wp p0 p1 p2 step w R) (Om.eq p0 p1 p2 step w) rfl h
def Kt.wp(f:Option Addr)(local_:Int)(w:World)(R:TR [(true,[(.i .i64),(.i .i64),(.i .u16),(.i .u16),(.i .i64),(.i .i64)]),(false,[.b])]→WP):Prop:=
Bf [.int .i64 0,.int .i64 0,.int .u16 0,.int .u16 0,.int .i64 0,.int .i64 0] T.Dy w fun p1 w2=>
Aj (Option.isNone f) (
Au [.int .i64 0,.int .i64 0,.int .u16 0,.int .u16 0,.int .i64 0,.int .i64 0] p1 0 w2 fun w3=>
A8 [(.i .i64),(.i .i64),(.i .u16),(.i .u16),(.i .i64),(.i .i64)] p1 0 w3 fun x4=>
R ((x4.1,x4.2.1,x4.2.2.1,x4.2.2.2.1,x4.2.2.2.2.1,x4.2.2.2.2.2.1,()),(false,()),()) w3) (
Cc (fun(J5:Unit→WP)=>
Aq f fun a8=>
ld1 .p a8 w2 fun x9=>
Ae prog F.Jt [.pointer x9] w2 false [(false,[.b])] fun r10 w11=>
Aj r10.1.1 (
Ae prog F.Em [.pointer f] w11 true [] fun r12 w13=>
J5 (()) w13) (
J5 (()) w11)) (fun(z6:Unit) w7=> ∀_:Nat→Value,
Aj (decide (local_<0)) (
Au [.int .i64 0,.int .i64 0,.int .u16 0,.int .u16 0,.int .i64 0,.int .i64 0] p1 0 w7 fun w14=>
A8 [(.i .i64),(.i .i64),(.i .u16),(.i .u16),(.i .i64),(.i .i64)] p1 0 w14 fun x15=>
R ((x15.1,x15.2.1,x15.2.2.1,x15.2.2.2.1,x15.2.2.2.2.1,x15.2.2.2.2.2.1,()),(false,()),()) w14) (
Aj (decide (local_>1125899906842624)) (
Au [.int .i64 0,.int .i64 0,.int .u16 0,.int .u16 0,.int .i64 0,.int .i64 0] p1 0 w7 fun w16=>
A8 [(.i .i64),(.i .i64),(.i .u16),(.i .u16),(.i .i64),(.i .i64)] p1 0 w16 fun x17=>
R ((x17.1,x17.2.1,x17.2.2.1,x17.2.2.2.1,x17.2.2.2.2.1,x17.2.2.2.2.2.1,()),(false,()),()) w16) (
Ae prog F.La [.pointer f,.int .i64 local_] w7 true [(true,[(.i .i64),(.i .i64),(.i .u16),(.i .u16),(.i .i64),(.i .i64)]),(false,[.b])] fun r18 w19=>
Bf [.int .i64 0,.int .i64 0,.int .u16 0,.int .u16 0,.int .i64 0,.int .i64 0] T.Dy w19 fun p20 w21=>
Au [.int .i64 r18.1.1,.int .i64 r18.1.2.1,.int .u16 r18.1.2.2.1,.int .u16 r18.1.2.2.2.1,.int .i64 r18.1.2.2.2.2.1,.int .i64 r18.1.2.2.2.2.2.1] p20 0 w21 fun w22=>
Aj (!r18.2.1.1) (
Au [.int .i64 0,.int .i64 0,.int .u16 0,.int .u16 0,.int .i64 0,.int .i64 0] p1 0 w22 fun w23=>
A8 [(.i .i64),(.i .i64),(.i .u16),(.i .u16),(.i .i64),(.i .i64)] p1 0 w23 fun x24=>
R ((x24.1,x24.2.1,x24.2.2.1,x24.2.2.2.1,x24.2.2.2.2.1,x24.2.2.2.2.2.1,()),(false,()),()) w23) (
A8 [(.i .i64),(.i .i64),(.i .u16),(.i .u16),(.i .i64),(.i .i64)] p20 0 w22 fun x25=>
Au [.int .i64 x25.1,.int .i64 x25.2.1,.int .u16 x25.2.2.1,.int .u16 x25.2.2.2.1,.int .i64 x25.2.2.2.2.1,.int .i64 x25.2.2.2.2.2.1] p1 0 w22 fun w26=>
A8 [(.i .i64),(.i .i64),(.i .u16),(.i .u16),(.i .i64),(.i .i64)] p1 0 w26 fun x27=>
R ((x27.1,x27.2.1,x27.2.2.1,x27.2.2.2.1,x27.2.2.2.2.1,x27.2.2.2.2.2.1,()),(true,()),()) w26)))))
theorem Kt.eq(f:Option Addr)(local_:Int)(w:World)(R:Value→WP):A7 prog Tryz.f191 (.s .n (.s .n (.ct [] .n .n))) [.pointer f,.int .i64 local_] w R=Kt.wp f local_ w (fun r w=>R (encR true [(true,[(.i .i64),(.i .i64),(.i .u16),(.i .u16),(.i .i64),(.i .i64)]),(false,[.b])] r) w):=by kernel_rfl
theorem Kt.ok{f:Option Addr}{local_:Int}{w:World}{R:TR [(true,[(.i .i64),(.i .i64),(.i .u16),(.i .u16),(.i .i64),(.i .i64)]),(false,[.b])]→WP}(h:Kt.wp f local_ w R):Ae prog F.Kt [.pointer f,.int .i64 local_] w true [(true,[(.i .i64),(.i .i64),(.i .u16),(.i .u16),(.i .i64),(.i .i64)]),(false,[.b])] R:=
  Aop Aa Tryz.func191 (fun R=>Kt.wp f local_ w R) (Kt.eq f local_ w) rfl h
def Eo.wp(s:Option Addr)(w:World)(R:TR []→WP):Prop:=
Aj (Option.isNone s) (
R (()) w) (
Aq s fun a1=>
ld1 .b (a1.add 7) w fun x2=>
Aj (!x2) (
R (()) w) (
Aq s fun a3=>
ld1 (.i .i64) (a3.add 6) w fun x4=>
Aq s fun a5=>
Au [.int .i64 (wrap .i64 (x4+1))] (a5.add 6) 0 w fun w6=>
Jg w6 fun w7=>
Aq s fun a8=>
ld1 (.i .i64) (a8.add 6) w7 fun x9=>
Aq s fun a10=>
ld1 (.i .i64) a10 w7 fun x11=>
Aj (decide (x9≥x11)) (
Ae prog F.Fe [.pointer s] w7 true [] fun r12 w13=>
R (()) w13) (
R (()) w7)))
theorem Eo.eq(s:Option Addr)(w:World)(R:Value→WP):A7 prog Tryz.f192 (.s .n (.s .n (.s (.pl (.tk 0 (.tk 1 (.tk 2 (.tk 3 (.tk 4 (.tk 5 (.tk 6 (.tk 7 (.tk 8 .z)))))))))) .n))) [.pointer s] w R=Eo.wp s w (fun r w=>R (encR true [] r) w):=by kernel_rfl
theorem Eo.ok{s:Option Addr}{w:World}{R:TR []→WP}(h:Eo.wp s w R):Ae prog F.Eo [.pointer s] w true [] R:=
  Aop Aa Tryz.func192 (fun R=>Eo.wp s w R) (Eo.eq s w) rfl h
def Hz.wp(p:Option Addr)(w:World)(R:TR [(false,[.b])]→WP):Prop:=
Aj (Option.isNone p) (
R ((false,()),()) w) (
Aq p fun a1=>
ld1 .b (a1.add 3) w fun x2=>
Aj (!x2) (
Aq p fun a3=>
ld1 (.i .i64) (a3.add 6) w fun x4=>
Aq p fun a5=>
Au [.int .i64 (if 0>(wrap .i64 (x4-1)) then 0 else(wrap .i64 (x4-1)))] (a5.add 6) 0 w fun w6=>
R ((false,()),()) w6) (
Aq p fun a7=>
ld1 (.i .i64) (a7.add 4) w fun x8=>
Aq p fun a9=>
Au [.int .i64 (wrap .i64 (x8+1))] (a9.add 4) 0 w fun w10=>
Aq p fun a11=>
ld1 (.i .i64) (a11.add 4) w10 fun x12=>
Aj (decide (x12<2)) (
R ((false,()),()) w10) (
Aq p fun a13=>
Au [.bool false] (a13.add 3) 0 w10 fun w14=>
Aq p fun a15=>
ld1 (.i .i64) (a15.add 5) w14 fun x16=>
Aq p fun a17=>
Au [.int .i64 (wrap .i64 (x16+1))] (a17.add 5) 0 w14 fun w18=>
Aq p fun a19=>
ld1 (.i .i64) (a19.add 5) w18 fun x20=>
fJ x20 (
Aq p fun a21=>
Au [.int .i64 (wrap .i64 ((Sz .i64 1 x20)-1))] (a21.add 6) 0 w18 fun w22=>
Aq p fun a23=>
ld1 (.i .i64) (a23.add 5) w22 fun x24=>
Aj (decide (x24<3)) (
R ((false,()),()) w22) (
Aq p fun a25=>
Au [.int .i64 0] (a25.add 5) 0 w22 fun w26=>
Aq p fun a27=>
Au [.int .i64 0] (a27.add 6) 0 w26 fun w28=>
R ((true,()),()) w28)))))
theorem Hz.eq(p:Option Addr)(w:World)(R:Value→WP):A7 prog Tryz.f193 .n [.pointer p] w R=Hz.wp p w (fun r w=>R (encR false [(false,[.b])] r) w):=by kernel_rfl
theorem Hz.ok{p:Option Addr}{w:World}{R:TR [(false,[.b])]→WP}(h:Hz.wp p w R):Ae prog F.Hz [.pointer p] w false [(false,[.b])] R:=
  Aop Aa Tryz.func193 (fun R=>Hz.wp p w R) (Hz.eq p w) rfl h
def Jh.wp(o:Option Addr)(f:Value)(ok:Bool)(w:World)(R:TR []→WP):Prop:=
Aj (!ok) (
R (()) w) (
Aq o fun a1=>
ld1 .sl a1 w fun x2=>
Aj (decide ((x2.2.1:Int)≥3)) (
R (()) w) (
Ae prog F.Il [f] w true [(false,[.sl]),(false,[(.i .i64)])] fun r3 w4=>
Aj (r3.2.1.1==0) (
Aq o fun a5=>
ld1 .sl a5 w4 fun x6=>
Bf [.slice r3.1.1.1 r3.1.1.2.1 r3.1.1.2.2] T.Fh w4 fun p7 w8=>
L9 ((Builtin.append_ #[T.iF,T.iF] T.iF #[.slice x6.1 x6.2.1 x6.2.2,.slice (some p7) 1 1]).run prog w8) fun y9 w10=>
Aq o fun a11=>
Au [.slice y9.1 y9.2.1 y9.2.2] a11 0 w10 fun w12=>
R (()) w12) (
R (()) w4)))
theorem Jh.eq(o:Option Addr)(f:Value)(ok:Bool)(w:World)(R:Value→WP):A7 prog Tryz.f194 .n [.pointer o,f,.bool ok] w R=Jh.wp o f ok w (fun r w=>R (encR true [] r) w):=by kernel_rfl
theorem Jh.ok{o:Option Addr}{f:Value}{ok:Bool}{w:World}{R:TR []→WP}(h:Jh.wp o f ok w R):Ae prog F.Jh [.pointer o,f,.bool ok] w true [] R:=
  Aop Aa Tryz.func194 (fun R=>Jh.wp o f ok w R) (Jh.eq o f ok w) rfl h
def Fq.wp(r:Option Addr)(w:World)(R:TR [(false,[.any]),(false,[.b])]→WP):Prop:=
Ae prog F.Di [.pointer r] w false [(false,[(.i .i64)])] fun r1 w2=>
Aj (r1.1.1==0) (
R ((.nilIface,()),(false,()),()) w2) (
Jg w2 fun w3=>
Aq r fun a4=>
ld1 .sl a4 w3 fun x5=>
Aq r fun a6=>
ld1 (.i .i64) (a6.add 1) w3 fun x7=>
Ny x5.1 x5.2.1 x7 fun a8=>
ld1 .any (a8.add (x7.toNat*1)) w3 fun x9=>
Jg w3 fun w10=>
Aq r fun a11=>
ld1 .sl a11 w10 fun x12=>
Aq r fun a13=>
ld1 (.i .i64) (a13.add 1) w10 fun x14=>
Ny x12.1 x12.2.1 x14 fun a15=>
Au [.nilIface] (a15.add (x14.toNat*1)) 0 w10 fun w16=>
Aw [] w16∧(
Jg w16 fun w17=>
Aq r fun a18=>
ld1 (.i .i64) (a18.add 1) w17 fun x19=>
Aq r fun a20=>
ld1 .sl a20 w17 fun x21=>
dF (x21.2.1:Int) (
Aq r fun a22=>
Au [.int .i64 (Int.tmod (wrap .i64 (x19+1)) (x21.2.1:Int))] (a22.add 1) 0 w17 fun w23=>
Aw [] w23∧(
Aq r fun a24=>
ld1 (.i .i64) (a24.add 2) w23 fun x25=>
Aq r fun a26=>
Au [.int .i64 (wrap .i64 (x25-1))] (a26.add 2) 0 w23 fun w27=>
R ((x9,()),(true,()),()) w27))))
theorem Fq.eq(r:Option Addr)(w:World)(R:Value→WP):A7 prog Tryz.f195 (.s .n (.s .n (.s .n (.s (.pl (.tk 0 (.tk 1 (.tk 2 (.tk 3 (.tk 4 (.tk 5 (.tk 6 (.tk 7 (.tk 8 (.tk 9 (.tk 10 .z)))))))))))) (.s (.pl (.tk 0 (.tk 1 (.tk 2 (.tk 3 (.tk 4 (.tk 5 (.tk 6 (.tk 7 (.tk 8 (.tk 9 (.ef 10 [3,7] .z)))))))))))) (.s (.pl (.tk 0 (.tk 1 (.tk 2 (.tk 3 (.tk 4 (.tk 5 (.tk 6 (.tk 7 (.tk 8 (.tk 9 (.tk 10 (.tk 11 (.tk 12 (.tk 13 (.ef 14 [4,9] .z)))))))))))))))) .n)))))) [.pointer r] w R=Fq.wp r w (fun r w=>R (encR true [(false,[.any]),(false,[.b])] r) w):=by kernel_rfl
theorem Fq.ok{r:Option Addr}{w:World}{R:TR [(false,[.any]),(false,[.b])]→WP}(h:Fq.wp r w R):Ae prog F.Fq [.pointer r] w true [(false,[.any]),(false,[.b])] R:=
  Aop Aa Tryz.func195 (fun R=>Fq.wp r w R) (Fq.eq r w) rfl h
def Oz.wp(n:Option Addr)(stamp:Int)(w:World)(R:TR [(false,[.any]),(false,[.b])]→WP):Prop:=
Aq n fun a1=>
ld1 .p (a1.add 16) w fun x2=>
Ae prog F.En [.pointer x2] w false [(false,[(.i .i64)])] fun r3 w4=>
Aj (decide (r3.1.1<0)) (
Aq n fun a5=>
ld1 (.i .i64) a5 w4 fun x6=>
R ((.iface T.Gp (.agg #[.int .i64 x6]),()),(true,()),()) w4) (
Jg w4 fun w7=>
Aq n fun a8=>
ld1 .p (a8.add 17) w7 fun x9=>
Aq n fun a10=>
ld1 .p (a10.add 16) w7 fun x11=>
Ae prog F.En [.pointer x11] w7 false [(false,[(.i .i64)])] fun r12 w13=>
Aw [(7,(a10.add 16),(w7.cell? (a10.add 16)).getD undef),(3,(a8.add 17),(w7.cell? (a8.add 17)).getD undef)] w13∧(
Ae prog F.Qb [.pointer x9,.int .i64 r12.1.1,.int .i64 stamp] w13 true [(true,[(.i .i64),(.i .i64),(.i .i64)]),(false,[.b])] fun r14 w15=>
Aw [(7,(a10.add 16),(w7.cell? (a10.add 16)).getD undef)] w15∧(
R ((.iface T.Ef (.agg #[.int .i64 r14.1.1,.int .i64 r14.1.2.1,.int .i64 r14.1.2.2.1]),()),(r14.2.1.1,()),()) w15)))
theorem Oz.eq(n:Option Addr)(stamp:Int)(w:World)(R:Value→WP):A7 prog Tryz.f196 (.s .n (.s .n (.s (.pl (.tk 0 (.tk 1 (.tk 2 (.tk 3 (.tk 4 (.tk 5 (.tk 6 (.tk 7 (.tk 9 (.ef 8 [] (.ef 10 [3] (.tk 11 (.tk 12 (.tk 13 (.tk 14 (.tk 15 .z))))))))))))))))) .n))) [.pointer n,.int .i64 stamp] w R=Oz.wp n stamp w (fun r w=>R (encR true [(false,[.any]),(false,[.b])] r) w):=by kernel_rfl
theorem Oz.ok{n:Option Addr}{stamp:Int}{w:World}{R:TR [(false,[.any]),(false,[.b])]→WP}(h:Oz.wp n stamp w R):Ae prog F.Oz [.pointer n,.int .i64 stamp] w true [(false,[.any]),(false,[.b])] R:=
  Aop Aa Tryz.func196 (fun R=>Oz.wp n stamp w R) (Oz.eq n stamp w) rfl h
def Ig.wp(set_:Int)(i:Int)(w:World)(R:TR [(false,[.b])]→WP):Prop:=
fJ i (
R ((((Lm .and .u64 (Qv .u64 set_ i) 1)==1),()),()) w)
theorem Ig.eq(set_:Int)(i:Int)(w:World)(R:Value→WP):A7 prog Tryz.f198 .n [.int .u64 set_,.int .i64 i] w R=Ig.wp set_ i w (fun r w=>R (encR false [(false,[.b])] r) w):=by kernel_rfl
theorem Ig.ok{set_:Int}{i:Int}{w:World}{R:TR [(false,[.b])]→WP}(h:Ig.wp set_ i w R):Ae prog F.Ig [.int .u64 set_,.int .i64 i] w false [(false,[.b])] R:=
  Aop Aa Tryz.func198 (fun R=>Ig.wp set_ i w R) (Ig.eq set_ i w) rfl h
def Hw.wp(f:Option Addr)(local_:Int)(w:World)(R:TR [(false,[(.i .i64)]),(false,[(.i .i64)]),(false,[(.i .i64)])]→WP):Prop:=
Aj (Option.isNone f) (
R ((0,()),(0,()),(2,()),()) w) (
Ae prog F.Ba [.pointer f] w false [(false,[.b])] fun r1 w2=>
Aj (!r1.1.1) (
R ((0,()),(0,()),(9,()),()) w2) (
Cc (fun(J3:((Bool)×Unit)→WP)=>
Aj (decide (local_<0)) (
J3 (true,()) w2) (
J3 (decide (local_>1125899906842624),()) w2)) (fun(z4:(Bool)×Unit) w5=> ∀_:Nat→Value,
Aj z4.1 (
R ((0,()),(0,()),(8,()),()) w5) (
Aq f fun a6=>
ld1 .p a6 w5 fun x7=>
Ae prog F.Bc [.pointer x7] w5 false [(false,[.b])] fun r8 w9=>
Aj r8.1.1 (
R ((local_,()),(0,()),(0,()),()) w9) (
Cc (fun(J10:((Addr)×Unit)→WP)=>
Jg w9 fun w13=>
Aq f fun a14=>
ld1 (.i .i64) ((a14.add 2).add 3) w13 fun x15=>
Aq f fun a16=>
(
Ae prog F.V7 [.int .i64 x15,.pointer (some (a16.add 6))] w13 true [(true,[(.i .i64),(.i .i64),(.i .i64),(.i .i64),(.i .i64)]),(false,[.b])] fun r17 w18=>
Aw [(4,((a14.add 2).add 3),(w13.cell? ((a14.add 2).add 3)).getD undef)] w18∧(
Bf [.int .i64 0,.int .i64 0,.int .i64 0,.int .i64 0,.int .i64 0] T.iO w18 fun p19 w20=>
Aw [(4,((a14.add 2).add 3),(w13.cell? ((a14.add 2).add 3)).getD undef)] w20∧(
Au [.int .i64 r17.1.1,.int .i64 r17.1.2.1,.int .i64 r17.1.2.2.1,.int .i64 r17.1.2.2.2.1,.int .i64 r17.1.2.2.2.2.1] p19 0 w20 fun w21=>
Aw [] w21∧(
J10 (p19,()) w21))))∧(
Bf [.int .i64 0,.int .i64 0,.int .i64 0,.int .i64 0,.int .i64 0] T.iO w13 fun p22 w23=>
Aw [(4,((a14.add 2).add 3),(w13.cell? ((a14.add 2).add 3)).getD undef)] w23∧(
Ae prog F.V7 [.int .i64 x15,.pointer (some (a16.add 6))] w23 true [(true,[(.i .i64),(.i .i64),(.i .i64),(.i .i64),(.i .i64)]),(false,[.b])] fun r24 w25=>
Aw [] w25∧(
Au [.int .i64 r24.1.1,.int .i64 r24.1.2.1,.int .i64 r24.1.2.2.1,.int .i64 r24.1.2.2.2.1,.int .i64 r24.1.2.2.2.2.1] p22 0 w25 fun w26=>
Aw [] w26∧(
J10 (p22,()) w26))))) (fun(z11:(Addr)×Unit) w12=> ∀_:Nat→Value,
A8 [(.i .i64),(.i .i64),(.i .i64),(.i .i64),(.i .i64)] z11.1 0 w12 fun x27=>
Ae prog F.Jp [.agg #[.int .i64 x27.1,.int .i64 x27.2.1,.int .i64 x27.2.2.1,.int .i64 x27.2.2.2.1,.int .i64 x27.2.2.2.2.1],.int .i64 local_] w12 true [(false,[(.i .i64)]),(false,[.b])] fun r28 w29=>
Aj (!r28.2.1.1) (
R ((0,()),(0,()),(8,()),()) w29) (
Jg w29 fun w30=>
ld1 (.i .i64) (z11.1.add 4) w30 fun x31=>
R ((r28.1.1,()),(x31,()),(0,()),()) w30)))))))
theorem Hw.eq(f:Option Addr)(local_:Int)(w:World)(R:Value→WP):A7 prog Tryz.f199 (.s .n (.s (.s .n (.s .n (.s .n (.s .n (.ct [(18,.b)] .n .n))))) (.ct [(7,.a)] (.pl (.tk 0 (.tk 1 (.tk 2 (.tk 3 (.tk 4 (.tk 5 (.tk 6 (.tk 7 (.two 8 12 (.tk 9 (.tk 10 (.tk 11 (.ef 12 [] (.ef 13 [4] (.tk 14 .z)))))) (.ef 8 [4] (.tk 9 (.tk 10 (.tk 11 (.ef 13 [] (.tk 14 .z)))))))))))))))) (.s .n (.s .n (.s (.pl (.tk 0 (.tk 1 (.tk 2 (.tk 3 (.tk 4 (.tk 5 .z))))))) .n)))))) [.pointer f,.int .i64 local_] w R=Hw.wp f local_ w (fun r w=>R (encR true [(false,[(.i .i64)]),(false,[(.i .i64)]),(false,[(.i .i64)])] r) w):=by kernel_rfl
theorem Hw.ok{f:Option Addr}{local_:Int}{w:World}{R:TR [(false,[(.i .i64)]),(false,[(.i .i64)]),(false,[(.i .i64)])]→WP}(h:Hw.wp f local_ w R):Ae prog F.Hw [.pointer f,.int .i64 local_] w true [(false,[(.i .i64)]),(false,[(.i .i64)]),(false,[(.i .i64)])] R:=
  Aop Aa Tryz.func199 (fun R=>Hw.wp f local_ w R) (Hw.eq f local_ w) rfl h
def Nb.wp(p0:Int)(p1:Int)(p2:Int)(time:Int)(guard:Int)(w:World)(R:TR [(false,[.b])]→WP):Prop:=
Bf [.int .i64 p0,.int .i64 p1,.int .i64 p2] T.bU w fun p3 w4=>
A8 [(.i .i64),(.i .i64),(.i .i64)] p3 0 w4 fun x5=>
Ae prog F.Ie [.agg #[.int .i64 x5.1,.int .i64 x5.2.1,.int .i64 x5.2.2.1]] w4 false [(false,[.b])] fun r6 w7=>
Aj (!r6.1.1) (
R ((true,()),()) w7) (
Aj (decide (guard<0)) (
R ((true,()),()) w7) (
A8 [(.i .i64),(.i .i64),(.i .i64)] p3 0 w7 fun x8=>
Ae prog F.Gu [.agg #[.int .i64 x8.1,.int .i64 x8.2.1,.int .i64 x8.2.2.1]] w7 false [(false,[(.i .i64)])] fun r9 w10=>
Ae prog F.Oi [.int .i64 time,.int .i64 r9.1.1] w10 true [(false,[(.i .i64)]),(false,[(.i .i64)]),(false,[.b])] fun r11 w12=>
A8 [(.i .i64),(.i .i64),(.i .i64)] p3 0 w12 fun x13=>
Ae prog F.Gu [.agg #[.int .i64 x13.1,.int .i64 x13.2.1,.int .i64 x13.2.2.1]] w12 false [(false,[(.i .i64)])] fun r14 w15=>
ld1 (.i .i64) (p3.add 1) w15 fun x16=>
Aj (decide (r11.2.1.1<(wrap .i64 ((wrap .i64 (x16*1000))+(if r14.1.1<guard then r14.1.1 else guard))))) (
R ((true,()),()) w15) (
A8 [(.i .i64),(.i .i64),(.i .i64)] p3 0 w15 fun x17=>
Ae prog F.Gu [.agg #[.int .i64 x17.1,.int .i64 x17.2.1,.int .i64 x17.2.2.1]] w15 false [(false,[(.i .i64)])] fun r18 w19=>
R ((decide (r11.2.1.1≥(wrap .i64 (r18.1.1-(if r14.1.1<guard then r14.1.1 else guard)))),()),()) w19)))
theorem Nb.eq(p0:Int)(p1:Int)(p2:Int)(time:Int)(guard:Int)(w:World)(R:Value→WP):A7 prog Tryz.f200 .n [.agg #[.int .i64 p0,.int .i64 p1,.int .i64 p2],.int .i64 time,.int .i64 guard] w R=Nb.wp p0 p1 p2 time guard w (fun r w=>R (encR false [(false,[.b])] r) w):=by kernel_rfl
theorem Nb.ok{p0:Int}{p1:Int}{p2:Int}{time:Int}{guard:Int}{w:World}{R:TR [(false,[.b])]→WP}(h:Nb.wp p0 p1 p2 time guard w R):Ae prog F.Nb [.agg #[.int .i64 p0,.int .i64 p1,.int .i64 p2],.int .i64 time,.int .i64 guard] w false [(false,[.b])] R:=
  Aop Aa Tryz.func200 (fun R=>Nb.wp p0 p1 p2 time guard w R) (Nb.eq p0 p1 p2 time guard w) rfl h
def Xw.wp(r0:Int)(r1:Int)(r2:Int)(r3:Int)(p0:Int)(p1:Int)(p2:Int)(jitter:Int)(w:World)(R:TR [(true,[(.i .i64),(.i .i64),(.i .i64),(.i .i64)])]→WP):Prop:=
Bf [.int .i64 r0,.int .i64 r1,.int .i64 r2,.int .i64 r3] T.fQ w fun p3 w4=>
Bf [.int .i64 p0,.int .i64 p1,.int .i64 p2] T.bU w4 fun p5 w6=>
Bf [.int .i64 0,.int .i64 0,.int .i64 0,.int .i64 0] T.Xh w6 fun p7 w8=>
ld1 (.i .i64) (p3.add 3) w8 fun x9=>
ld1 (.i .i64) p3 w8 fun x10=>
ld1 (.i .i64) p5 w8 fun x11=>
Au [.int .i64 x9,.int .i64 jitter,.int .i64 x10,.int .i64 x11] p7 0 w8 fun w12=>
A8 [(.i .i64),(.i .i64),(.i .i64),(.i .i64)] p7 0 w12 fun x13=>
R ((x13.1,x13.2.1,x13.2.2.1,x13.2.2.2.1,()),()) w12
theorem Xw.eq(r0:Int)(r1:Int)(r2:Int)(r3:Int)(p0:Int)(p1:Int)(p2:Int)(jitter:Int)(w:World)(R:Value→WP):A7 prog Tryz.f201 .n [.agg #[.int .i64 r0,.int .i64 r1,.int .i64 r2,.int .i64 r3],.agg #[.int .i64 p0,.int .i64 p1,.int .i64 p2],.int .i64 jitter] w R=Xw.wp r0 r1 r2 r3 p0 p1 p2 jitter w (fun r w=>R (encR false [(true,[(.i .i64),(.i .i64),(.i .i64),(.i .i64)])] r) w):=by kernel_rfl
theorem Xw.ok{r0:Int}{r1:Int}{r2:Int}{r3:Int}{p0:Int}{p1:Int}{p2:Int}{jitter:Int}{w:World}{R:TR [(true,[(.i .i64),(.i .i64),(.i .i64),(.i .i64)])]→WP}(h:Xw.wp r0 r1 r2 r3 p0 p1 p2 jitter w R):Ae prog F.Xw [.agg #[.int .i64 r0,.int .i64 r1,.int .i64 r2,.int .i64 r3],.agg #[.int .i64 p0,.int .i64 p1,.int .i64 p2],.int .i64 jitter] w false [(true,[(.i .i64),(.i .i64),(.i .i64),(.i .i64)])] R:=
  Aop Aa Tryz.func201 (fun R=>Xw.wp r0 r1 r2 r3 p0 p1 p2 jitter w R) (Xw.eq r0 r1 r2 r3 p0 p1 p2 jitter w) rfl h
def I9.wp(t0:Int)(t1:Int)(t2:Int)(t3:Int)(hops:Int)(w:World)(R:TR [(false,[(.i .i64)])]→WP):Prop:=
Bf [.int .i64 t0,.int .i64 t1,.int .i64 t2,.int .i64 t3] T.Xh w fun p1 w2=>
Aj (decide (hops<0)) (
R ((0,()),()) w2) (
Aj (decide (hops>63)) (
R ((0,()),()) w2) (
Jg w2 fun w3=>
A8 [(.i .i64),(.i .i64),(.i .i64),(.i .i64)] p1 0 w3 fun x4=>
A8 [(.i .i64),(.i .i64),(.i .i64),(.i .i64)] p1 0 w3 fun x5=>
Ae prog F.Nh [.agg #[.int .i64 x4.1,.int .i64 x4.2.1,.int .i64 x4.2.2.1,.int .i64 x4.2.2.2.1]] w3 false [(false,[(.i .i64)])] fun r6 w7=>
Aw [(3,(p1.add 0),(w3.cell? (p1.add 0)).getD undef),(3,(p1.add 1),(w3.cell? (p1.add 1)).getD undef),(3,(p1.add 2),(w3.cell? (p1.add 2)).getD undef),(3,(p1.add 3),(w3.cell? (p1.add 3)).getD undef),(1,(p1.add 0),(w3.cell? (p1.add 0)).getD undef),(1,(p1.add 1),(w3.cell? (p1.add 1)).getD undef),(1,(p1.add 2),(w3.cell? (p1.add 2)).getD undef),(1,(p1.add 3),(w3.cell? (p1.add 3)).getD undef)] w7∧(
Ae prog F.Kz [.agg #[.int .i64 x5.1,.int .i64 x5.2.1,.int .i64 x5.2.2.1,.int .i64 x5.2.2.2.1]] w7 false [(false,[(.i .i64)])] fun r8 w9=>
Aw [(1,(p1.add 0),(w3.cell? (p1.add 0)).getD undef),(1,(p1.add 1),(w3.cell? (p1.add 1)).getD undef),(1,(p1.add 2),(w3.cell? (p1.add 2)).getD undef),(1,(p1.add 3),(w3.cell? (p1.add 3)).getD undef)] w9∧(
R ((wrap .i64 (hops*(wrap .i64 (r6.1.1+r8.1.1))),()),()) w9))))
theorem I9.eq(t0:Int)(t1:Int)(t2:Int)(t3:Int)(hops:Int)(w:World)(R:Value→WP):A7 prog Tryz.f202 (.s .n (.s .n (.s (.pl (.tk 0 (.tk 1 (.tk 3 (.ef 2 [] (.ef 4 [3] (.tk 5 (.tk 6 (.tk 7 .z))))))))) .n))) [.agg #[.int .i64 t0,.int .i64 t1,.int .i64 t2,.int .i64 t3],.int .i64 hops] w R=I9.wp t0 t1 t2 t3 hops w (fun r w=>R (encR false [(false,[(.i .i64)])] r) w):=by kernel_rfl
theorem I9.ok{t0:Int}{t1:Int}{t2:Int}{t3:Int}{hops:Int}{w:World}{R:TR [(false,[(.i .i64)])]→WP}(h:I9.wp t0 t1 t2 t3 hops w R):Ae prog F.I9 [.agg #[.int .i64 t0,.int .i64 t1,.int .i64 t2,.int .i64 t3],.int .i64 hops] w false [(false,[(.i .i64)])] R:=
  Aop Aa Tryz.func202 (fun R=>I9.wp t0 t1 t2 t3 hops w R) (I9.eq t0 t1 t2 t3 hops w) rfl h
def Qs.wp(x:Int)(low:Int)(high:Int)(w:World)(R:TR [(false,[(.i .i64)])]→WP):Prop:=
R (((if low>(if high<x then high else x) then low else(if high<x then high else x)),()),()) w
theorem Qs.eq(x:Int)(low:Int)(high:Int)(w:World)(R:Value→WP):A7 prog Tryz.f203 .n [.int .i64 x,.int .i64 low,.int .i64 high] w R=Qs.wp x low high w (fun r w=>R (encR false [(false,[(.i .i64)])] r) w):=by kernel_rfl
theorem Qs.ok{x:Int}{low:Int}{high:Int}{w:World}{R:TR [(false,[(.i .i64)])]→WP}(h:Qs.wp x low high w R):Ae prog F.Qs [.int .i64 x,.int .i64 low,.int .i64 high] w false [(false,[(.i .i64)])] R:=
  Aop Aa Tryz.func203 (fun R=>Qs.wp x low high w R) (Qs.eq x low high w) rfl h
def Le.wp(f:Option Addr)(s0:Int)(s1:Int)(s2:Int)(s3:Int)(s4:Int)(s5:Int)(local_:Int)(w:World)(R:TR [(false,[(.i .i64)])]→WP):Prop:=
Bf [.int .i64 s0,.int .i64 s1,.int .u16 s2,.int .u16 s3,.int .i64 s4,.int .i64 s5] T.Dy w fun p1 w2=>
Aj (Option.isNone f) (
R ((0,()),()) w2) (
ld1 (.i .i64) (p1.add 4) w2 fun x3=>
Aj (decide (x3<0)) (
R ((0,()),()) w2) (
ld1 (.i .i64) (p1.add 4) w2 fun x4=>
Aj (decide (x4≥63)) (
R ((0,()),()) w2) (
Aj (decide (local_<0)) (
R ((0,()),()) w2) (
Aj (decide (local_>1125899906842624)) (
R ((0,()),()) w2) (
ld1 (.i .i64) (p1.add 5) w2 fun x5=>
Aj (decide (x5<0)) (
R ((0,()),()) w2) (
ld1 (.i .i64) (p1.add 5) w2 fun x6=>
Aj (decide (x6>1125899906842624)) (
R ((0,()),()) w2) (
Jg w2 fun w7=>
Aq f fun a8=>
ld1 .p a8 w7 fun x9=>
ld1 (.i .i64) (p1.add 1) w7 fun x10=>
ld1 (.i .u16) (p1.add 2) w7 fun x11=>
ld1 (.i .u16) (p1.add 3) w7 fun x12=>
Ae prog F.Lc [.pointer x9,.int .i64 x10,.agg #[.int .u16 x11,.int .u16 x12]] w7 false [(false,[(.i .i64)])] fun r13 w14=>
Aw [(9,(p1.add 3),(w7.cell? (p1.add 3)).getD undef),(7,(p1.add 2),(w7.cell? (p1.add 2)).getD undef)] w14∧(
Aj (r13.1.1==0) (
R ((r13.1.1,()),()) w14) (
Cc (fun(J15:Unit→WP)=>
Aj (r13.1.1==2) (
Ae prog F.Em [.pointer f] w14 true [] fun r18 w19=>
J15 (()) w19) (
J15 (()) w14)) (fun(z16:Unit) w17=> ∀_:Nat→Value,
ld1 (.i .i64) (p1.add 5) w17 fun x20=>
ld1 (.i .i64) (p1.add 4) w17 fun x21=>
Bf [.int .i64 0,.int .i64 0,.int .i64 0] T.Du w17 fun p22 w23=>
Au [.int .i64 local_,.int .i64 (wrap .i64 (x20-local_)),.int .i64 (wrap .i64 (x21+1))] p22 0 w23 fun w24=>
Cc (fun(J25:Unit→WP)=>
Jg w24 fun w28=>
Aq f fun a29=>
A8 [(.i .i64),(.i .i64),(.i .i64)] p22 0 w28 fun x30=>
Ae prog F.Ed [.pointer (some (a29.add 6)),.agg #[.int .i64 x30.1,.int .i64 x30.2.1,.int .i64 x30.2.2.1]] w28 false [(false,[(.i .i64)])] fun r31 w32=>
Aw [] w32∧(
Aj (r31.1.1 !=0) (
Aq f fun a33=>
Ae prog F.Gg [.pointer (some (a33.add 6))] w32 true [] fun r34 w35=>
Jg w35 fun w36=>
Aq f fun a37=>
A8 [(.i .i64),(.i .i64),(.i .i64)] p22 0 w36 fun x38=>
Ae prog F.Ed [.pointer (some (a37.add 6)),.agg #[.int .i64 x38.1,.int .i64 x38.2.1,.int .i64 x38.2.2.1]] w36 false [(false,[(.i .i64)])] fun r39 w40=>
Aw [] w40∧(
J25 (()) w40)) (
J25 (()) w32))) (fun(z26:Unit) w27=> ∀_:Nat→Value,
ld1 (.i .i64) (p1.add 5) w27 fun x41=>
ld1 (.i .i64) (p1.add 4) w27 fun x42=>
Aq f fun a43=>
Au [.int .i64 local_,.int .i64 x41,.int .i64 (wrap .i64 (x42+1))] (a43.add 7) 0 w27 fun w44=>
R ((r13.1.1,()),()) w44)))))))))))
theorem Le.eq(f:Option Addr)(s0:Int)(s1:Int)(s2:Int)(s3:Int)(s4:Int)(s5:Int)(local_:Int)(w:World)(R:Value→WP):A7 prog Tryz.f204 (.s .n (.s .n (.s (.pl (.tk 0 (.tk 1 (.tk 2 (.tk 3 (.tk 4 (.tk 5 (.tk 6 (.tk 7 (.tk 8 (.tk 9 (.tk 10 (.ef 11 [3,5] (.tk 12 .z)))))))))))))) (.s .n (.ct [] .n (.s .n (.ct [] (.s (.pl (.tk 0 (.tk 1 (.tk 2 (.tk 3 (.ef 4 [3] (.tk 5 .z))))))) (.s (.s .n (.pl (.tk 0 (.tk 1 (.tk 2 (.tk 3 (.ef 4 [3] .z))))))) .n)) .n))))))) [.pointer f,.agg #[.int .i64 s0,.int .i64 s1,.int .u16 s2,.int .u16 s3,.int .i64 s4,.int .i64 s5],.int .i64 local_] w R=Le.wp f s0 s1 s2 s3 s4 s5 local_ w (fun r w=>R (encR false [(false,[(.i .i64)])] r) w):=by kernel_rfl
theorem Le.ok{f:Option Addr}{s0:Int}{s1:Int}{s2:Int}{s3:Int}{s4:Int}{s5:Int}{local_:Int}{w:World}{R:TR [(false,[(.i .i64)])]→WP}(h:Le.wp f s0 s1 s2 s3 s4 s5 local_ w R):Ae prog F.Le [.pointer f,.agg #[.int .i64 s0,.int .i64 s1,.int .u16 s2,.int .u16 s3,.int .i64 s4,.int .i64 s5],.int .i64 local_] w false [(false,[(.i .i64)])] R:=
  Aop Aa Tryz.func204 (fun R=>Le.wp f s0 s1 s2 s3 s4 s5 local_ w R) (Le.eq f s0 s1 s2 s3 s4 s5 local_ w) rfl h
def Kv.wp(l:Option Addr)(f0:Int)(f1:Int)(w:World)(R:TR [(false,[.b])]→WP):Prop:=
Bf [.int .i64 f0,.int .i64 f1] T.Gj w fun p1 w2=>
Jg w2 fun w3=>
Aj (Option.isNone l) (
R ((false,()),()) w3) (
A8 [(.i .i64),(.i .i64)] p1 0 w3 fun x4=>
Ae prog F.Ew [.iface T.Gj (.agg #[.int .i64 x4.1,.int .i64 x4.2.1])] w3 false [(false,[.b])] fun r5 w6=>
Aw [(3,(p1.add 0),(w3.cell? (p1.add 0)).getD undef),(3,(p1.add 1),(w3.cell? (p1.add 1)).getD undef)] w6∧(
Aj (!r5.1.1) (
R ((false,()),()) w6) (
ld1 (.i .i64) p1 w6 fun x7=>
Aq l fun a8=>
ld1 (.i .i64) a8 w6 fun x9=>
Aj (x7==x9) (
R ((false,()),()) w6) (
ld1 (.i .i64) (p1.add 1) w6 fun x10=>
Cc (fun(J11:Unit→WP)=>
Cc (fun(J14:((Bool)×Unit)→WP)=>
Jg w6 fun w17=>
ld1 (.i .i64) p1 w17 fun x18=>
Aq l fun a19=>
ld1 (.i .i64) (a19.add 2) w17 fun x20=>
Aj (x18==x20) (
J14 (decide ((wrap .i64 (x10+1))>63),()) w17) (
J14 (false,()) w17)) (fun(z15:(Bool)×Unit) w16=> ∀_:Nat→Value,
Aj z15.1 (
Ae prog F.Gf [.pointer l] w16 true [] fun r21 w22=>
R ((true,()),()) w22) (
Jg w16 fun w23=>
Aj (decide ((wrap .i64 (x10+1))>63)) (
R ((false,()),()) w23) (
ld1 (.i .i64) p1 w23 fun x24=>
Aq l fun a25=>
ld1 (.i .i64) (a25.add 2) w23 fun x26=>
Aj (x24 !=x26) (
Aq l fun a27=>
ld1 (.i .i64) (a27.add 1) w23 fun x28=>
Aj (decide (x28≥0)) (
Aq l fun a29=>
ld1 (.i .i64) (a29.add 1) w23 fun x30=>
Aj (decide ((wrap .i64 (x10+1))≥x30)) (
R ((false,()),()) w23) (
ld1 (.i .i64) p1 w23 fun x31=>
Aq l fun a32=>
ld1 (.i .i64) (a32.add 2) w23 fun x33=>
Aj (x31==x33) (
Aq l fun a34=>
ld1 (.i .i64) (a34.add 1) w23 fun x35=>
Aj ((wrap .i64 (x10+1))==x35) (
R ((false,()),()) w23) (
J11 (()) w23)) (
J11 (()) w23))) (
ld1 (.i .i64) p1 w23 fun x36=>
Aq l fun a37=>
ld1 (.i .i64) (a37.add 2) w23 fun x38=>
Aj (x36==x38) (
Aq l fun a39=>
ld1 (.i .i64) (a39.add 1) w23 fun x40=>
Aj ((wrap .i64 (x10+1))==x40) (
R ((false,()),()) w23) (
J11 (()) w23)) (
J11 (()) w23))) (
ld1 (.i .i64) p1 w23 fun x41=>
Aq l fun a42=>
ld1 (.i .i64) (a42.add 2) w23 fun x43=>
Aj (x41==x43) (
Aq l fun a44=>
ld1 (.i .i64) (a44.add 1) w23 fun x45=>
Aj ((wrap .i64 (x10+1))==x45) (
R ((false,()),()) w23) (
J11 (()) w23)) (
J11 (()) w23)))))) (fun(z12:Unit) w13=> ∀_:Nat→Value,
Jg w13 fun w46=>
ld1 (.i .i64) p1 w46 fun x47=>
Aq l fun a48=>
Au [.int .i64 (wrap .i64 (x10+1))] (a48.add 1) 0 w46 fun w49=>
Aw [(4,p1,(w46.cell? p1).getD undef)] w49∧(
Aq l fun a50=>
Au [.int .i64 x47] (a50.add 2) 0 w49 fun w51=>
Aw [] w51∧(
R ((true,()),()) w51)))))))
theorem Kv.eq(l:Option Addr)(f0:Int)(f1:Int)(w:World)(R:Value→WP):A7 prog Tryz.f205 (.s .n (.s (.s (.pl (.tk 0 (.tk 1 (.tk 2 (.tk 3 (.tk 4 (.ef 5 [] (.tk 6 (.tk 7 (.tk 8 (.tk 9 (.tk 10 (.tk 11 (.tk 12 (.tk 13 (.tk 14 (.tk 15 (.tk 16 .z)))))))))))))))))) .n) (.s .n (.ct [] (.ct [(26,.b)] (.pl (.tk 0 (.tk 1 (.tk 2 (.tk 3 (.tk 4 (.tk 5 (.tk 6 (.tk 7 (.tk 8 (.tk 9 (.tk 10 (.tk 11 .z))))))))))))) (.s .n (.s (.pl (.tk 0 (.tk 1 (.tk 2 (.tk 3 (.tk 4 (.tk 5 (.tk 6 (.tk 7 (.tk 8 (.tk 9 (.tk 10 (.tk 11 (.tk 12 (.tk 13 (.tk 14 (.tk 15 (.tk 16 (.tk 17 (.tk 18 (.tk 19 (.tk 20 (.tk 21 (.tk 22 (.tk 23 (.tk 24 (.tk 25 (.tk 26 (.tk 27 (.tk 28 (.tk 29 (.tk 30 (.tk 31 (.tk 32 (.tk 33 (.tk 34 (.tk 35 (.tk 36 (.tk 37 (.tk 38 (.tk 39 (.tk 40 (.tk 41 (.tk 42 (.tk 43 .z))))))))))))))))))))))))))))))))))))))))))))) .n))) (.s (.pl (.tk 0 (.tk 1 (.tk 2 (.tk 3 (.tk 4 (.tk 5 (.tk 6 (.ef 7 [] (.tk 8 (.tk 9 (.ef 10 [4] .z)))))))))))) .n))))) [.pointer l,.agg #[.int .i64 f0,.int .i64 f1]] w R=Kv.wp l f0 f1 w (fun r w=>R (encR false [(false,[.b])] r) w):=by kernel_rfl
theorem Kv.ok{l:Option Addr}{f0:Int}{f1:Int}{w:World}{R:TR [(false,[.b])]→WP}(h:Kv.wp l f0 f1 w R):Ae prog F.Kv [.pointer l,.agg #[.int .i64 f0,.int .i64 f1]] w false [(false,[.b])] R:=
  Aop Aa Tryz.func205 (fun R=>Kv.wp l f0 f1 w R) (Kv.eq l f0 f1 w) rfl h
def Cj.wp(r:Option Addr)(x:Value)(w:World)(R:TR [(false,[(.i .i64)])]→WP):Prop:=
Aj (Option.isNone r) (
R ((2,()),()) w) (
Jg w fun w1=>
Aq r fun a2=>
ld1 (.i .i64) (a2.add 2) w1 fun x3=>
Aq r fun a4=>
ld1 .sl a4 w1 fun x5=>
Aj (x3==(x5.2.1:Int)) (
R ((6,()),()) w1) (
Jg w1 fun w6=>
Aq r fun a7=>
ld1 .sl a7 w6 fun x8=>
Aq r fun a9=>
ld1 (.i .i64) (a9.add 1) w6 fun x10=>
Aq r fun a11=>
ld1 (.i .i64) (a11.add 2) w6 fun x12=>
Aq r fun a13=>
ld1 .sl a13 w6 fun x14=>
dF (x14.2.1:Int) (
Ny x8.1 x8.2.1 (Int.tmod (wrap .i64 (x10+x12)) (x14.2.1:Int)) fun a15=>
Au [x] (a15.add ((Int.tmod (wrap .i64 (x10+x12)) (x14.2.1:Int)).toNat*1)) 0 w6 fun w16=>
Aw [] w16∧(
Aq r fun a17=>
ld1 (.i .i64) (a17.add 2) w16 fun x18=>
Aq r fun a19=>
Au [.int .i64 (wrap .i64 (x18+1))] (a19.add 2) 0 w16 fun w20=>
R ((0,()),()) w20))))
theorem Cj.eq(r:Option Addr)(x:Value)(w:World)(R:Value→WP):A7 prog Tryz.f206 (.s .n (.s (.s .n (.s .n (.s (.pl (.tk 0 (.tk 1 (.tk 2 (.tk 3 (.tk 4 (.tk 5 (.tk 6 (.tk 7 (.tk 8 (.tk 9 (.tk 10 .z)))))))))))) .n))) (.s (.pl (.tk 0 (.tk 1 (.tk 2 (.tk 3 (.tk 4 (.tk 5 (.tk 6 (.tk 7 (.tk 8 (.tk 9 (.tk 10 (.tk 11 (.tk 12 (.tk 13 (.tk 14 (.tk 15 (.tk 16 (.tk 17 (.tk 18 (.tk 19 (.tk 20 (.ef 21 [3,7,11,16] .z))))))))))))))))))))))) .n))) [.pointer r,x] w R=Cj.wp r x w (fun r w=>R (encR false [(false,[(.i .i64)])] r) w):=by kernel_rfl
theorem Cj.ok{r:Option Addr}{x:Value}{w:World}{R:TR [(false,[(.i .i64)])]→WP}(h:Cj.wp r x w R):Ae prog F.Cj [.pointer r,x] w false [(false,[(.i .i64)])] R:=
  Aop Aa Tryz.func206 (fun R=>Cj.wp r x w R) (Cj.eq r x w) rfl h
def Jo.wp(p:Option Addr)(r0:Int)(r1:Int)(r2:Int)(r3:Int)(r4:Int)(r5:Int)(r6:Int)(r7:Int)(local_:Int)(w:World)(R:TR [(true,[(.i .i64),(.i .i64),(.i .i64)]),(false,[.b])]→WP):Prop:=
Bf [.int .i64 r0,.int .i64 r1,.int .i64 r2,.int .i64 r3,.int .i64 r4,.int .i64 r5,.int .u16 r6,.int .i64 r7] T.Gl w fun p1 w2=>
Bf [.int .i64 0,.int .i64 0,.int .i64 0] T.Du w2 fun p3 w4=>
Jg w4 fun w5=>
Aj (Option.isNone p) (
Au [.int .i64 0,.int .i64 0,.int .i64 0] p3 0 w5 fun w6=>
A8 [(.i .i64),(.i .i64),(.i .i64)] p3 0 w6 fun x7=>
R ((x7.1,x7.2.1,x7.2.2.1,()),(false,()),()) w6) (
Aq p fun a8=>
ld1 .b (a8.add 3) w5 fun x9=>
Aj (!x9) (
Au [.int .i64 0,.int .i64 0,.int .i64 0] p3 0 w5 fun w10=>
A8 [(.i .i64),(.i .i64),(.i .i64)] p3 0 w10 fun x11=>
R ((x11.1,x11.2.1,x11.2.2.1,()),(false,()),()) w10) (
ld1 (.i .i64) (p1.add 1) w5 fun x12=>
Aq p fun a13=>
ld1 (.i .i64) a13 w5 fun x14=>
Aj (x12 !=x14) (
Au [.int .i64 0,.int .i64 0,.int .i64 0] p3 0 w5 fun w15=>
A8 [(.i .i64),(.i .i64),(.i .i64)] p3 0 w15 fun x16=>
R ((x16.1,x16.2.1,x16.2.2.1,()),(false,()),()) w15) (
ld1 (.i .i64) p1 w5 fun x17=>
Aq p fun a18=>
ld1 (.i .i64) (a18.add 1) w5 fun x19=>
Aj (x17 !=x19) (
Au [.int .i64 0,.int .i64 0,.int .i64 0] p3 0 w5 fun w20=>
A8 [(.i .i64),(.i .i64),(.i .i64)] p3 0 w20 fun x21=>
R ((x21.1,x21.2.1,x21.2.2.1,()),(false,()),()) w20) (
ld1 (.i .i64) (p1.add 2) w5 fun x22=>
Aq p fun a23=>
ld1 (.i .i64) (a23.add 2) w5 fun x24=>
Aj (x22 !=x24) (
Au [.int .i64 0,.int .i64 0,.int .i64 0] p3 0 w5 fun w25=>
A8 [(.i .i64),(.i .i64),(.i .i64)] p3 0 w25 fun x26=>
R ((x26.1,x26.2.1,x26.2.2.1,()),(false,()),()) w25) (
ld1 (.i .i64) (p1.add 2) w5 fun x27=>
ld1 (.i .i64) (p1.add 3) w5 fun x28=>
ld1 (.i .i64) (p1.add 4) w5 fun x29=>
Bf [.int .i64 0,.int .i64 0,.int .i64 0,.int .i64 0] T.jL w5 fun p30 w31=>
Au [.int .i64 x27,.int .i64 x28,.int .i64 x29,.int .i64 local_] p30 0 w31 fun w32=>
Cc (fun(J33:((Addr)×Unit)→WP)=>
Jg w32 fun w36=>
A8 [(.i .i64),(.i .i64),(.i .i64),(.i .i64)] p30 0 w36 fun x37=>
ld1 (.i .i64) (p1.add 7) w36 fun x38=>
(
Ae prog F.Gw [.agg #[.int .i64 x37.1,.int .i64 x37.2.1,.int .i64 x37.2.2.1,.int .i64 x37.2.2.2.1]] w36 false [(false,[(.i .i64)])] fun r39 w40=>
Aw [(4,(p1.add 7),(w36.cell? (p1.add 7)).getD undef),(1,(p30.add 0),(w36.cell? (p30.add 0)).getD undef),(1,(p30.add 1),(w36.cell? (p30.add 1)).getD undef),(1,(p30.add 2),(w36.cell? (p30.add 2)).getD undef),(1,(p30.add 3),(w36.cell? (p30.add 3)).getD undef)] w40∧(
Bf [.int .i64 0,.int .i64 0,.int .i64 0] T.Du w40 fun p41 w42=>
Aw [(4,(p1.add 7),(w36.cell? (p1.add 7)).getD undef),(1,(p30.add 0),(w36.cell? (p30.add 0)).getD undef),(1,(p30.add 1),(w36.cell? (p30.add 1)).getD undef),(1,(p30.add 2),(w36.cell? (p30.add 2)).getD undef),(1,(p30.add 3),(w36.cell? (p30.add 3)).getD undef)] w42∧(
Au [.int .i64 local_,.int .i64 r39.1.1,.int .i64 (wrap .i64 (x38+1))] p41 0 w42 fun w43=>
Aw [] w43∧(
J33 (p41,()) w43))))∧(
Bf [.int .i64 0,.int .i64 0,.int .i64 0] T.Du w36 fun p44 w45=>
Aw [(4,(p1.add 7),(w36.cell? (p1.add 7)).getD undef),(1,(p30.add 0),(w36.cell? (p30.add 0)).getD undef),(1,(p30.add 1),(w36.cell? (p30.add 1)).getD undef),(1,(p30.add 2),(w36.cell? (p30.add 2)).getD undef),(1,(p30.add 3),(w36.cell? (p30.add 3)).getD undef)] w45∧(
Ae prog F.Gw [.agg #[.int .i64 x37.1,.int .i64 x37.2.1,.int .i64 x37.2.2.1,.int .i64 x37.2.2.2.1]] w45 false [(false,[(.i .i64)])] fun r46 w47=>
Aw [(4,(p1.add 7),(w36.cell? (p1.add 7)).getD undef)] w47∧(
Au [.int .i64 local_,.int .i64 r46.1.1,.int .i64 (wrap .i64 (x38+1))] p44 0 w47 fun w48=>
Aw [] w48∧(
J33 (p44,()) w48))))) (fun(z34:(Addr)×Unit) w35=> ∀_:Nat→Value,
A8 [(.i .i64),(.i .i64),(.i .i64),(.i .i64)] p30 0 w35 fun x49=>
Ae prog F.Iw [.agg #[.int .i64 x49.1,.int .i64 x49.2.1,.int .i64 x49.2.2.1,.int .i64 x49.2.2.2.1]] w35 false [(false,[.b])] fun r50 w51=>
Aj (!r50.1.1) (
Au [.int .i64 0,.int .i64 0,.int .i64 0] p3 0 w51 fun w52=>
A8 [(.i .i64),(.i .i64),(.i .i64)] p3 0 w52 fun x53=>
R ((x53.1,x53.2.1,x53.2.2.1,()),(false,()),()) w52) (
A8 [(.i .i64),(.i .i64),(.i .i64)] z34.1 0 w51 fun x54=>
Ae prog F.C9 [.agg #[.int .i64 x54.1,.int .i64 x54.2.1,.int .i64 x54.2.2.1]] w51 false [(false,[.b])] fun r55 w56=>
Aj (!r55.1.1) (
Au [.int .i64 0,.int .i64 0,.int .i64 0] p3 0 w56 fun w57=>
A8 [(.i .i64),(.i .i64),(.i .i64)] p3 0 w57 fun x58=>
R ((x58.1,x58.2.1,x58.2.2.1,()),(false,()),()) w57) (
Aq p fun a59=>
Au [.bool false] (a59.add 3) 0 w56 fun w60=>
Aq p fun a61=>
Au [.int .i64 0] (a61.add 5) 0 w60 fun w62=>
A8 [(.i .i64),(.i .i64),(.i .i64)] z34.1 0 w62 fun x63=>
Au [.int .i64 x63.1,.int .i64 x63.2.1,.int .i64 x63.2.2.1] p3 0 w62 fun kJ=>
A8 [(.i .i64),(.i .i64),(.i .i64)] p3 0 kJ fun x65=>
R ((x65.1,x65.2.1,x65.2.2.1,()),(true,()),()) kJ))))))))
theorem Jo.eq(p:Option Addr)(r0:Int)(r1:Int)(r2:Int)(r3:Int)(r4:Int)(r5:Int)(r6:Int)(r7:Int)(local_:Int)(w:World)(R:Value→WP):A7 prog Tryz.f207 (.s .n (.s (.s (.pl (.tk 0 (.tk 1 (.tk 2 (.tk 3 (.tk 4 (.tk 5 (.tk 6 (.tk 7 (.tk 8 (.tk 9 (.tk 10 (.tk 11 (.tk 12 (.tk 13 (.tk 14 (.tk 15 (.tk 16 (.tk 17 (.tk 18 (.tk 19 (.tk 20 (.tk 21 (.tk 22 (.tk 23 (.tk 24 (.tk 25 (.tk 26 (.tk 27 (.tk 28 (.tk 29 (.tk 30 (.tk 31 (.tk 32 (.tk 33 (.tk 34 (.tk 35 .z))))))))))))))))))))))))))))))))))))) .n) (.s .n (.ct [(9,.a)] (.pl (.tk 0 (.tk 1 (.tk 3 (.tk 4 (.tk 5 (.two 2 7 (.tk 6 (.ef 7 [] (.ef 8 [1,4] .z))) (.ef 2 [1] (.tk 6 (.ef 8 [4] .z)))))))))) .n)))) [.pointer p,.agg #[.int .i64 r0,.int .i64 r1,.int .i64 r2,.int .i64 r3,.int .i64 r4,.int .i64 r5,.int .u16 r6,.int .i64 r7],.int .i64 local_] w R=Jo.wp p r0 r1 r2 r3 r4 r5 r6 r7 local_ w (fun r w=>R (encR true [(true,[(.i .i64),(.i .i64),(.i .i64)]),(false,[.b])] r) w):=by kernel_rfl
theorem Jo.ok{p:Option Addr}{r0:Int}{r1:Int}{r2:Int}{r3:Int}{r4:Int}{r5:Int}{r6:Int}{r7:Int}{local_:Int}{w:World}{R:TR [(true,[(.i .i64),(.i .i64),(.i .i64)]),(false,[.b])]→WP}(h:Jo.wp p r0 r1 r2 r3 r4 r5 r6 r7 local_ w R):Ae prog F.Jo [.pointer p,.agg #[.int .i64 r0,.int .i64 r1,.int .i64 r2,.int .i64 r3,.int .i64 r4,.int .i64 r5,.int .u16 r6,.int .i64 r7],.int .i64 local_] w true [(true,[(.i .i64),(.i .i64),(.i .i64)]),(false,[.b])] R:=
  Aop Aa Tryz.func207 (fun R=>Jo.wp p r0 r1 r2 r3 r4 r5 r6 r7 local_ w R) (Jo.eq p r0 r1 r2 r3 r4 r5 r6 r7 local_ w) rfl h
def Je.wp(s:Option Addr)(e0:Int)(e1:Int)(e2:Int)(w_0:Int)(w_1:Int)(w:World)(R:TR [(false,[(.i .i64)])]→WP):Prop:=
Bf [.int .i64 e0,.int .i64 e1,.int .i64 e2] T.Du w fun p1 w2=>
Bf [.int .i64 w_0,.int .u16 w_1] T.lK w2 fun p3 w4=>
Aj (Option.isNone s) (
R ((2,()),()) w4) (
A8 [(.i .i64),(.i .i64),(.i .i64)] p1 0 w4 fun x5=>
Ae prog F.C9 [.agg #[.int .i64 x5.1,.int .i64 x5.2.1,.int .i64 x5.2.2.1]] w4 false [(false,[.b])] fun r6 w7=>
Aj (!r6.1.1) (
R ((1,()),()) w7) (
ld1 (.i .i64) p3 w7 fun x8=>
Aj (decide (x8<0)) (
R ((1,()),()) w7) (
ld1 (.i .i64) p3 w7 fun x9=>
Aj (decide (x9≥64)) (
R ((1,()),()) w7) (
Jg w7 fun w10=>
A8 [(.i .i64),(.i .i64),(.i .i64)] p1 0 w10 fun x11=>
A8 [(.i .i64),(.i .u16)] p3 0 w10 fun x12=>
Aq s fun a13=>
Au [.int .i64 x11.1,.int .i64 x11.2.1,.int .i64 x11.2.2.1] (a13.add 1) 0 w10 fun w14=>
Aw [(5,(p3.add 0),(w10.cell? (p3.add 0)).getD undef),(5,(p3.add 1),(w10.cell? (p3.add 1)).getD undef)] w14∧(
Aq s fun a15=>
Au [.int .i64 x12.1,.int .u16 x12.2.1] (a15.add 4) 0 w14 fun w16=>
Aw [] w16∧(
Aq s fun a17=>
Au [.int .i64 0] (a17.add 6) 0 w16 fun w18=>
Aw [] w18∧(
Aq s fun a19=>
Au [.bool true] (a19.add 7) 0 w18 fun w20=>
Aw [] w20∧(
R ((0,()),()) w20))))))))
theorem Je.eq(s:Option Addr)(e0:Int)(e1:Int)(e2:Int)(w_0:Int)(w_1:Int)(w:World)(R:Value→WP):A7 prog Tryz.f208 (.s .n (.s .n (.s (.pl (.tk 0 (.tk 1 (.tk 2 (.tk 3 (.tk 4 (.tk 5 (.tk 6 (.tk 7 (.ef 8 [4] (.tk 9 (.tk 10 (.ef 11 [5] (.tk 12 (.tk 13 (.ef 14 [] (.tk 15 (.tk 16 (.ef 17 [] .z))))))))))))))))))) .n))) [.pointer s,.agg #[.int .i64 e0,.int .i64 e1,.int .i64 e2],.agg #[.int .i64 w_0,.int .u16 w_1]] w R=Je.wp s e0 e1 e2 w_0 w_1 w (fun r w=>R (encR false [(false,[(.i .i64)])] r) w):=by kernel_rfl
theorem Je.ok{s:Option Addr}{e0:Int}{e1:Int}{e2:Int}{w_0:Int}{w_1:Int}{w:World}{R:TR [(false,[(.i .i64)])]→WP}(h:Je.wp s e0 e1 e2 w_0 w_1 w R):Ae prog F.Je [.pointer s,.agg #[.int .i64 e0,.int .i64 e1,.int .i64 e2],.agg #[.int .i64 w_0,.int .u16 w_1]] w false [(false,[(.i .i64)])] R:=
  Aop Aa Tryz.func208 (fun R=>Je.wp s e0 e1 e2 w_0 w_1 w R) (Je.eq s e0 e1 e2 w_0 w_1 w) rfl h
def Gh.wp(b:Option Addr)(a0:Int)(a1:Int)(a2:Int)(a3:Int)(a4:Int)(a5:Int)(w:World)(R:TR [(false,[.b])]→WP):Prop:=
Bf [.int .i64 a0,.int .u16 a1,.int .i64 a2,.int .u16 a3,.int .i64 a4,.int .i64 a5] T.Bh w fun p1 w2=>
Cc (fun(J3:Unit→WP)=>
Jg w2 fun w6=>
Aj (Option.isNone b) (
R ((false,()),()) w6) (
A8 [(.i .i64),(.i .u16),(.i .i64),(.i .u16),(.i .i64),(.i .i64)] p1 0 w6 fun x7=>
Ae prog F.Ew [.iface T.Bh (.agg #[.int .i64 x7.1,.int .u16 x7.2.1,.int .i64 x7.2.2.1,.int .u16 x7.2.2.2.1,.int .i64 x7.2.2.2.2.1,.int .i64 x7.2.2.2.2.2.1])] w6 false [(false,[.b])] fun r8 w9=>
Aw [(3,(p1.add 0),(w6.cell? (p1.add 0)).getD undef),(3,(p1.add 1),(w6.cell? (p1.add 1)).getD undef),(3,(p1.add 2),(w6.cell? (p1.add 2)).getD undef),(3,(p1.add 3),(w6.cell? (p1.add 3)).getD undef),(3,(p1.add 4),(w6.cell? (p1.add 4)).getD undef),(3,(p1.add 5),(w6.cell? (p1.add 5)).getD undef)] w9∧(
Aj (!r8.1.1) (
R ((false,()),()) w9) (
Aq b fun a10=>
ld1 .b a10 w9 fun x11=>
Aj x11 (
ld1 (.i .u16) (p1.add 1) w9 fun x12=>
Aq b fun a13=>
ld1 (.i .u16) ((a13.add 1).add 1) w9 fun x14=>
Ae prog F.Pz [.int .u16 x12,.int .u16 x14] w9 false [(false,[.b])] fun Zb w16=>
Aw [(12,a10,(w9.cell? a10).getD undef),(3,(p1.add 0),(w6.cell? (p1.add 0)).getD undef),(3,(p1.add 1),(w6.cell? (p1.add 1)).getD undef),(3,(p1.add 2),(w6.cell? (p1.add 2)).getD undef),(3,(p1.add 3),(w6.cell? (p1.add 3)).getD undef),(3,(p1.add 4),(w6.cell? (p1.add 4)).getD undef),(3,(p1.add 5),(w6.cell? (p1.add 5)).getD undef)] w16∧(
Aj (!Zb.1.1) (
R ((false,()),()) w16) (
J3 (()) w16))) (
J3 (()) w9))))) (fun(z4:Unit) w5=> ∀_:Nat→Value,
Jg w5 fun w17=>
A8 [(.i .i64),(.i .u16),(.i .i64),(.i .u16),(.i .i64),(.i .i64)] p1 0 w17 fun x18=>
Aq b fun a19=>
Au [.bool true] a19 0 w17 fun w20=>
Aw [(2,(p1.add 0),(w17.cell? (p1.add 0)).getD undef),(2,(p1.add 1),(w17.cell? (p1.add 1)).getD undef),(2,(p1.add 2),(w17.cell? (p1.add 2)).getD undef),(2,(p1.add 3),(w17.cell? (p1.add 3)).getD undef),(2,(p1.add 4),(w17.cell? (p1.add 4)).getD undef),(2,(p1.add 5),(w17.cell? (p1.add 5)).getD undef)] w20∧(
Aq b fun a21=>
Au [.int .i64 x18.1,.int .u16 x18.2.1,.int .i64 x18.2.2.1,.int .u16 x18.2.2.2.1,.int .i64 x18.2.2.2.2.1,.int .i64 x18.2.2.2.2.2.1] (a21.add 1) 0 w20 fun w22=>
Aw [] w22∧(
R ((true,()),()) w22)))
theorem Gh.eq(b:Option Addr)(a0:Int)(a1:Int)(a2:Int)(a3:Int)(a4:Int)(a5:Int)(w:World)(R:Value→WP):A7 prog Tryz.f209 (.s .n (.ct [] (.s (.pl (.tk 0 (.tk 1 (.tk 2 (.tk 3 (.tk 4 (.ef 5 [] (.tk 6 (.tk 7 (.tk 8 (.tk 9 (.tk 10 (.tk 11 (.tk 12 (.tk 13 (.tk 14 (.tk 15 (.tk 16 (.tk 17 (.tk 18 (.tk 19 (.tk 20 (.ef 21 [15,20] (.tk 22 (.tk 23 (.tk 24 .z)))))))))))))))))))))))))) .n) (.s (.pl (.tk 0 (.tk 1 (.tk 2 (.tk 3 (.tk 4 (.ef 5 [] (.tk 6 (.tk 7 (.ef 8 [2] .z)))))))))) .n))) [.pointer b,.agg #[.int .i64 a0,.int .u16 a1,.int .i64 a2,.int .u16 a3,.int .i64 a4,.int .i64 a5]] w R=Gh.wp b a0 a1 a2 a3 a4 a5 w (fun r w=>R (encR false [(false,[.b])] r) w):=by kernel_rfl
theorem Gh.ok{b:Option Addr}{a0:Int}{a1:Int}{a2:Int}{a3:Int}{a4:Int}{a5:Int}{w:World}{R:TR [(false,[.b])]→WP}(h:Gh.wp b a0 a1 a2 a3 a4 a5 w R):Ae prog F.Gh [.pointer b,.agg #[.int .i64 a0,.int .u16 a1,.int .i64 a2,.int .u16 a3,.int .i64 a4,.int .i64 a5]] w false [(false,[.b])] R:=
  Aop Aa Tryz.func209 (fun R=>Gh.wp b a0 a1 a2 a3 a4 a5 w R) (Gh.eq b a0 a1 a2 a3 a4 a5 w) rfl h
def Oo.wp(f:Option Addr)(local_:Int)(w:World)(R:TR [(true,[(.i .i64),(.i .i64),(.i .i64),(.i .u16),(.i .i64)]),(false,[(.i .i64)])]→WP):Prop:=
Bf [.int .i64 0,.int .i64 0,.int .i64 0,.int .u16 0,.int .i64 0] T.Bg w fun p1 w2=>
Ae prog F.Hw [.pointer f,.int .i64 local_] w2 true [(false,[(.i .i64)]),(false,[(.i .i64)]),(false,[(.i .i64)])] fun r3 w4=>
Aj (r3.2.2.1.1 !=0) (
Au [.int .i64 0,.int .i64 0,.int .i64 0,.int .u16 0,.int .i64 0] p1 0 w4 fun w5=>
A8 [(.i .i64),(.i .i64),(.i .i64),(.i .u16),(.i .i64)] p1 0 w5 fun x6=>
R ((x6.1,x6.2.1,x6.2.2.1,x6.2.2.2.1,x6.2.2.2.2.1,()),(r3.2.2.1.1,()),()) w5) (
Aq f fun a7=>
ld1 .p a7 w4 fun x8=>
Ae prog F.Hl [.pointer x8] w4 true [(true,[(.i .u16),(.i .u16)]),(false,[.b])] fun r9 w10=>
Bf [.int .u16 0,.int .u16 0] T.Ti w10 fun p11 w12=>
Au [.int .u16 r9.1.1,.int .u16 r9.1.2.1] p11 0 w12 fun w13=>
Cc (fun(J14:((Addr)×Unit)→WP)=>
Jg w13 fun w17=>
Aq f fun a18=>
ld1 .p a18 w17 fun x19=>
ld1 (.i .u16) p11 w17 fun x20=>
(
Ae prog F.Dc [.pointer x19] w17 false [(false,[(.i .i64)])] fun r21 w22=>
Aw [(8,p11,(w17.cell? p11).getD undef),(5,a18,(w17.cell? a18).getD undef)] w22∧(
Bf [.int .i64 0,.int .i64 0,.int .i64 0,.int .u16 0,.int .i64 0] T.Bg w22 fun p23 w24=>
Aw [(8,p11,(w17.cell? p11).getD undef),(5,a18,(w17.cell? a18).getD undef)] w24∧(
Au [.int .i64 r3.1.1,.int .i64 r3.2.1.1,.int .i64 r21.1.1,.int .u16 x20,.int .i64 2] p23 0 w24 fun w25=>
Aw [] w25∧(
J14 (p23,()) w25))))∧(
Bf [.int .i64 0,.int .i64 0,.int .i64 0,.int .u16 0,.int .i64 0] T.Bg w17 fun p26 w27=>
Aw [(8,p11,(w17.cell? p11).getD undef),(5,a18,(w17.cell? a18).getD undef)] w27∧(
Ae prog F.Dc [.pointer x19] w27 false [(false,[(.i .i64)])] fun r28 w29=>
Aw [(8,p11,(w17.cell? p11).getD undef)] w29∧(
Au [.int .i64 r3.1.1,.int .i64 r3.2.1.1,.int .i64 r28.1.1,.int .u16 x20,.int .i64 2] p26 0 w29 fun w30=>
Aw [] w30∧(
J14 (p26,()) w30))))) (fun(z15:(Addr)×Unit) w16=> ∀_:Nat→Value,
Aq f fun a31=>
ld1 .p a31 w16 fun x32=>
Ae prog F.Bc [.pointer x32] w16 false [(false,[.b])] fun r33 w34=>
Aj r33.1.1 (
Au [.int .i64 1] (z15.1.add 4) 0 w34 fun w35=>
A8 [(.i .i64),(.i .i64),(.i .i64),(.i .u16),(.i .i64)] z15.1 0 w35 fun x36=>
Au [.int .i64 x36.1,.int .i64 x36.2.1,.int .i64 x36.2.2.1,.int .u16 x36.2.2.2.1,.int .i64 x36.2.2.2.2.1] p1 0 w35 fun w37=>
A8 [(.i .i64),(.i .i64),(.i .i64),(.i .u16),(.i .i64)] p1 0 w37 fun x38=>
R ((x38.1,x38.2.1,x38.2.2.1,x38.2.2.2.1,x38.2.2.2.2.1,()),(0,()),()) w37) (
A8 [(.i .i64),(.i .i64),(.i .i64),(.i .u16),(.i .i64)] z15.1 0 w34 fun x39=>
Au [.int .i64 x39.1,.int .i64 x39.2.1,.int .i64 x39.2.2.1,.int .u16 x39.2.2.2.1,.int .i64 x39.2.2.2.2.1] p1 0 w34 fun w40=>
A8 [(.i .i64),(.i .i64),(.i .i64),(.i .u16),(.i .i64)] p1 0 w40 fun x41=>
R ((x41.1,x41.2.1,x41.2.2.1,x41.2.2.2.1,x41.2.2.2.2.1,()),(0,()),()) w40)))
theorem Oo.eq(f:Option Addr)(local_:Int)(w:World)(R:Value→WP):A7 prog Tryz.f210 (.s .n (.s .n (.s .n (.s .n (.ct [(11,.a)] (.pl (.tk 0 (.tk 1 (.tk 2 (.tk 3 (.tk 4 (.tk 5 (.tk 7 (.tk 8 (.two 6 11 (.tk 9 (.tk 10 (.ef 11 [] (.ef 12 [5,8] .z)))) (.ef 6 [5] (.tk 9 (.tk 10 (.ef 12 [8] .z)))))))))))))) .n))))) [.pointer f,.int .i64 local_] w R=Oo.wp f local_ w (fun r w=>R (encR true [(true,[(.i .i64),(.i .i64),(.i .i64),(.i .u16),(.i .i64)]),(false,[(.i .i64)])] r) w):=by kernel_rfl
theorem Oo.ok{f:Option Addr}{local_:Int}{w:World}{R:TR [(true,[(.i .i64),(.i .i64),(.i .i64),(.i .u16),(.i .i64)]),(false,[(.i .i64)])]→WP}(h:Oo.wp f local_ w R):Ae prog F.Oo [.pointer f,.int .i64 local_] w true [(true,[(.i .i64),(.i .i64),(.i .i64),(.i .u16),(.i .i64)]),(false,[(.i .i64)])] R:=
  Aop Aa Tryz.func210 (fun R=>Oo.wp f local_ w R) (Oo.eq f local_ w) rfl h
def Hr.wp(e:Option Addr)(boot:Int)(w:World)(R:TR []→WP):Prop:=
Aj (!(Option.isNone e)) (
Jg w fun w1=>
Aq e fun a2=>
ld1 (.i .i64) a2 w1 fun x3=>
Aq e fun a4=>
A8 [(.i .i64),(.i .i64)] (a4.add 1) 0 w1 fun x5=>
maK prog T.Ku w1 fun m6 w7=>
Aw [(8,((a4.add 1).add 0),(w1.cell? ((a4.add 1).add 0)).getD undef),(8,((a4.add 1).add 1),(w1.cell? ((a4.add 1).add 1)).getD undef),(4,a2,(w1.cell? a2).getD undef)] w7∧(
Aq e fun a8=>
Au [.int .i64 x3,.int .i64 x5.1,.int .i64 x5.2.1,.int .u16 boot,.int .u16 0,.int .i64 (Int.negSucc 0),.int .i64 0,.int .i64 0,.map (some m6)] a8 0 w7 fun w9=>
Aw [] w9∧(
R (()) w9))) (
R (()) w)
theorem Hr.eq(e:Option Addr)(boot:Int)(w:World)(R:Value→WP):A7 prog Tryz.f211 (.s .n (.s (.pl (.tk 0 (.tk 1 (.tk 2 (.tk 3 (.tk 4 (.tk 5 (.tk 6 (.tk 7 (.tk 8 (.tk 9 (.ef 10 [] (.tk 11 (.tk 12 (.ef 13 [4,8] .z))))))))))))))) .n)) [.pointer e,.int .u16 boot] w R=Hr.wp e boot w (fun r w=>R (encR true [] r) w):=by kernel_rfl
theorem Hr.ok{e:Option Addr}{boot:Int}{w:World}{R:TR []→WP}(h:Hr.wp e boot w R):Ae prog F.Hr [.pointer e,.int .u16 boot] w true [] R:=
  Aop Aa Tryz.func211 (fun R=>Hr.wp e boot w R) (Hr.eq e boot w) rfl h
def Em.wp(f:Option Addr)(w:World)(R:TR []→WP):Prop:=
Aq f fun a1=>
Ae prog F.Gg [.pointer (some (a1.add 6))] w true [] fun r2 w3=>
Aq f fun a4=>
Au [.int .i64 0,.int .i64 0,.int .i64 0] (a4.add 7) 0 w3 fun w5=>
R (()) w5
theorem Em.eq(f:Option Addr)(w:World)(R:Value→WP):A7 prog Tryz.f212 .n [.pointer f] w R=Em.wp f w (fun r w=>R (encR true [] r) w):=by kernel_rfl
theorem Em.ok{f:Option Addr}{w:World}{R:TR []→WP}(h:Em.wp f w R):Ae prog F.Em [.pointer f] w true [] R:=
  Aop Aa Tryz.func212 (fun R=>Em.wp f w R) (Em.eq f w) rfl h
def Dw.wp(r:Option Addr)(w:World)(R:TR []→WP):Prop:=
Aj (!(Option.isNone r)) (
Aq r fun a1=>
ld1 .sl a1 w fun x2=>
crK prog #[T.Yo] T.t0 (.slice x2.1 x2.2.1 x2.2.2) w fun w3=>
Aq r fun a4=>
Au [.int .i64 0] (a4.add 1) 0 w3 fun w5=>
Aq r fun a6=>
Au [.int .i64 0] (a6.add 2) 0 w5 fun w7=>
R (()) w7) (
R (()) w)
theorem Dw.eq(r:Option Addr)(w:World)(R:Value→WP):A7 prog Tryz.f213 .n [.pointer r] w R=Dw.wp r w (fun r w=>R (encR true [] r) w):=by kernel_rfl
theorem Dw.ok{r:Option Addr}{w:World}{R:TR []→WP}(h:Dw.wp r w R):Ae prog F.Dw [.pointer r] w true [] R:=
  Aop Aa Tryz.func213 (fun R=>Dw.wp r w R) (Dw.eq r w) rfl h
def Qu.wp(a:Int)(w:World)(R:TR [(false,[(.i .u16)])]→WP):Prop:=
R ((wrap .u16 (a+1),()),()) w
theorem Qu.eq(a:Int)(w:World)(R:Value→WP):A7 prog Tryz.f214 .n [.int .u16 a] w R=Qu.wp a w (fun r w=>R (encR false [(false,[(.i .u16)])] r) w):=by kernel_rfl
theorem Qu.ok{a:Int}{w:World}{R:TR [(false,[(.i .u16)])]→WP}(h:Qu.wp a w R):Ae prog F.Qu [.int .u16 a] w false [(false,[(.i .u16)])] R:=
  Aop Aa Tryz.func214 (fun R=>Qu.wp a w R) (Qu.eq a w) rfl h
def O7.wp(n:Option Addr)(w:World)(R:TR [(false,[.b])]→WP):Prop:=
Bf [.bool false] T.bool w fun p1 w2=>
Aq n fun a3=>
ld1 .p (a3.add 27) w2 fun x4=>
Ae prog F.Jj [.pointer x4] w2 false [(false,[.any])] fun r5 w6=>
RfT prog r5.1.1 [(false,[.any])] w6 (fun x7 k8 w9=>
k8 w9 fun go10 lv11 w12=>
taV prog x7.1.1 T.Yr true true [] fun x15 b16=>
Bf [] T.Yr w12 fun p17 w18=>
Au [] p17 0 w18 fun w19=>
Aj b16 (
Au [.bool true] p1 0 w19 fun w20=>
lv11 0 w20) (
go10 w19)) (fun D13 w14=>
Au [.bool false] p1 0 w14 fun w21=>
tkK D13 w21 fun w22=>
ld1 .b p1 w22 fun x23=>
R ((x23,()),()) w22) [(0,fun D13 w14=>
tkK D13 w14 fun w24=>
ld1 .b p1 w24 fun x25=>
R ((x25,()),()) w24)]
theorem O7.eq(n:Option Addr)(w:World)(R:Value→WP):A7 prog Tryz.f215 (.s .n (.s (.s .n (.rf [(false,[.any])] .n .n)) .n)) [.pointer n] w R=O7.wp n w (fun r w=>R (encR false [(false,[.b])] r) w):=by kernel_rfl
theorem O7.ok{n:Option Addr}{w:World}{R:TR [(false,[.b])]→WP}(h:O7.wp n w R):Ae prog F.O7 [.pointer n] w false [(false,[.b])] R:=
  Aop Aa Tryz.func215 (fun R=>O7.wp n w R) (O7.eq n w) rfl h
def Oj.wp(e:Option Addr)(w:World)(R:TR [(false,[(.i .i64)])]→WP):Prop:=
Aj (Option.isNone e) (
R ((0,()),()) w) (
Jg w fun w1=>
Aq e fun a2=>
ld1 .sl a2 w1 fun x3=>
Aq e fun a4=>
ld1 (.i .i64) (a4.add 1) w1 fun x5=>
R ((wrap .i64 ((x3.2.1:Int)-x5),()),()) w1)
theorem Oj.eq(e:Option Addr)(w:World)(R:Value→WP):A7 prog Tryz.f216 (.s .n (.s .n (.s (.pl (.tk 0 (.tk 1 (.tk 2 (.tk 3 (.tk 4 (.tk 5 (.tk 6 (.tk 7 (.tk 8 (.tk 9 (.tk 10 .z)))))))))))) .n))) [.pointer e] w R=Oj.wp e w (fun r w=>R (encR false [(false,[(.i .i64)])] r) w):=by kernel_rfl
theorem Oj.ok{e:Option Addr}{w:World}{R:TR [(false,[(.i .i64)])]→WP}(h:Oj.wp e w R):Ae prog F.Oj [.pointer e] w false [(false,[(.i .i64)])] R:=
  Aop Aa Tryz.func216 (fun R=>Oj.wp e w R) (Oj.eq e w) rfl h
def Ko.wp(b:Option Addr×Nat×Nat)(w:World)(R:TR [(false,[(.i .u16)])]→WP):Prop:=
Ae prog F.X0 [.int .u16 65535,.slice b.1 b.2.1 b.2.2] w false [(false,[(.i .u16)])] fun r1 w2=>
R ((r1.1.1,()),()) w2
theorem Ko.eq(b:Option Addr×Nat×Nat)(w:World)(R:Value→WP):A7 prog Tryz.f217 .n [.slice b.1 b.2.1 b.2.2] w R=Ko.wp b w (fun r w=>R (encR false [(false,[(.i .u16)])] r) w):=by kernel_rfl
theorem Ko.ok{b:Option Addr×Nat×Nat}{w:World}{R:TR [(false,[(.i .u16)])]→WP}(h:Ko.wp b w R):Ae prog F.Ko [.slice b.1 b.2.1 b.2.2] w false [(false,[(.i .u16)])] R:=
  Aop Aa Tryz.func217 (fun R=>Ko.wp b w R) (Ko.eq b w) rfl h
def Dp.wp(i:Int)(c_cap0:Addr)(w:World)(R:TR [(false,[(.i .i64)])]→WP):Prop:=
ld1 .sl c_cap0 w fun x1=>
Ny x1.1 x1.2.1 i fun a2=>
ld1 (.i .u64) (a2.add (i.toNat*1)) w fun x3=>
R ((wrap .i64 x3,()),()) w
theorem Dp.eq(i:Int)(c_cap0:Addr)(w:World)(R:Value→WP):A7 prog Tryz.f218 .n [.int .i64 i,.pointer (some c_cap0)] w R=Dp.wp i c_cap0 w (fun r w=>R (encR false [(false,[(.i .i64)])] r) w):=by kernel_rfl
theorem Dp.ok{i:Int}{c_cap0:Addr}{w:World}{R:TR [(false,[(.i .i64)])]→WP}(h:Dp.wp i c_cap0 w R):Ae prog F.Dp [.int .i64 i,.pointer (some c_cap0)] w false [(false,[(.i .i64)])] R:=
  Aop Aa Tryz.func218 (fun R=>Dp.wp i c_cap0 w R) (Dp.eq i c_cap0 w) rfl h
def Po.wp(i:Int)(c_cap0:Addr)(w:World)(R:TR [(false,[(.i .u16)])]→WP):Prop:=
ld1 .sl c_cap0 w fun x1=>
Ny x1.1 x1.2.1 i fun a2=>
ld1 (.i .u64) (a2.add (i.toNat*1)) w fun x3=>
R ((wrap .u16 x3,()),()) w
theorem Po.eq(i:Int)(c_cap0:Addr)(w:World)(R:Value→WP):A7 prog Tryz.f219 .n [.int .i64 i,.pointer (some c_cap0)] w R=Po.wp i c_cap0 w (fun r w=>R (encR false [(false,[(.i .u16)])] r) w):=by kernel_rfl
theorem Po.ok{i:Int}{c_cap0:Addr}{w:World}{R:TR [(false,[(.i .u16)])]→WP}(h:Po.wp i c_cap0 w R):Ae prog F.Po [.int .i64 i,.pointer (some c_cap0)] w false [(false,[(.i .u16)])] R:=
  Aop Aa Tryz.func219 (fun R=>Po.wp i c_cap0 w R) (Po.eq i c_cap0 w) rfl h
def F5.wp(f0:Int)(f1:Int)(f2:Int)(f3:Int)(f4:Int)(f5:Int)(w:World)(R:TR [(false,[(.i .u8)])]→WP):Prop:=
R ((6,()),()) w
theorem F5.eq(f0:Int)(f1:Int)(f2:Int)(f3:Int)(f4:Int)(f5:Int)(w:World)(R:Value→WP):A7 prog Tryz.f220 .n [.iface T.Bh (.agg #[.int .i64 f0,.int .u16 f1,.int .i64 f2,.int .u16 f3,.int .i64 f4,.int .i64 f5])] w R=F5.wp f0 f1 f2 f3 f4 f5 w (fun r w=>R (encR false [(false,[(.i .u8)])] r) w):=by kernel_rfl
theorem F5.ok{f0:Int}{f1:Int}{f2:Int}{f3:Int}{f4:Int}{f5:Int}{w:World}{R:TR [(false,[(.i .u8)])]→WP}(h:F5.wp f0 f1 f2 f3 f4 f5 w R):Ae prog F.Fa [.iface T.Bh (.agg #[.int .i64 f0,.int .u16 f1,.int .i64 f2,.int .u16 f3,.int .i64 f4,.int .i64 f5])] w false [(false,[(.i .u8)])] R:=
  Aop Aa Tryz.func220 (fun R=>F5.wp f0 f1 f2 f3 f4 f5 w R) (F5.eq f0 f1 f2 f3 f4 f5 w) rfl h
def Fv.wp(f0:Int)(f1:Int)(f2:Int)(f3:Int)(f4:Int)(f5:Int)(w:World)(R:TR [(false,[(.i .u8)])]→WP):Prop:=
R ((1,()),()) w
theorem Fv.eq(f0:Int)(f1:Int)(f2:Int)(f3:Int)(f4:Int)(f5:Int)(w:World)(R:Value→WP):A7 prog Tryz.f220 .n [.iface T.Dy (.agg #[.int .i64 f0,.int .i64 f1,.int .u16 f2,.int .u16 f3,.int .i64 f4,.int .i64 f5])] w R=Fv.wp f0 f1 f2 f3 f4 f5 w (fun r w=>R (encR false [(false,[(.i .u8)])] r) w):=by kernel_rfl
theorem Fv.ok{f0:Int}{f1:Int}{f2:Int}{f3:Int}{f4:Int}{f5:Int}{w:World}{R:TR [(false,[(.i .u8)])]→WP}(h:Fv.wp f0 f1 f2 f3 f4 f5 w R):Ae prog F.Fa [.iface T.Dy (.agg #[.int .i64 f0,.int .i64 f1,.int .u16 f2,.int .u16 f3,.int .i64 f4,.int .i64 f5])] w false [(false,[(.i .u8)])] R:=
  Aop Aa Tryz.func220 (fun R=>Fv.wp f0 f1 f2 f3 f4 f5 w R) (Fv.eq f0 f1 f2 f3 f4 f5 w) rfl h
def Rx.wp(f0:Int)(f1:Int)(w:World)(R:TR [(false,[(.i .u8)])]→WP):Prop:=
R ((2,()),()) w
theorem Rx.eq(f0:Int)(f1:Int)(w:World)(R:Value→WP):A7 prog Tryz.f220 .n [.iface T.Gj (.agg #[.int .i64 f0,.int .i64 f1])] w R=Rx.wp f0 f1 w (fun r w=>R (encR false [(false,[(.i .u8)])] r) w):=by kernel_rfl
theorem Rx.ok{f0:Int}{f1:Int}{w:World}{R:TR [(false,[(.i .u8)])]→WP}(h:Rx.wp f0 f1 w R):Ae prog F.Fa [.iface T.Gj (.agg #[.int .i64 f0,.int .i64 f1])] w false [(false,[(.i .u8)])] R:=
  Aop Aa Tryz.func220 (fun R=>Rx.wp f0 f1 w R) (Rx.eq f0 f1 w) rfl h
def Fz.wp(f0:Int)(w:World)(R:TR [(false,[(.i .u8)])]→WP):Prop:=
R ((3,()),()) w
theorem Fz.eq(f0:Int)(w:World)(R:Value→WP):A7 prog Tryz.f220 .n [.iface T.Gp (.agg #[.int .i64 f0])] w R=Fz.wp f0 w (fun r w=>R (encR false [(false,[(.i .u8)])] r) w):=by kernel_rfl
theorem Fz.ok{f0:Int}{w:World}{R:TR [(false,[(.i .u8)])]→WP}(h:Fz.wp f0 w R):Ae prog F.Fa [.iface T.Gp (.agg #[.int .i64 f0])] w false [(false,[(.i .u8)])] R:=
  Aop Aa Tryz.func220 (fun R=>Fz.wp f0 w R) (Fz.eq f0 w) rfl h
def Q5.wp(f0:Int)(f1:Int)(f2:Int)(w:World)(R:TR [(false,[(.i .u8)])]→WP):Prop:=
R ((4,()),()) w
theorem Q5.eq(f0:Int)(f1:Int)(f2:Int)(w:World)(R:Value→WP):A7 prog Tryz.f220 .n [.iface T.Ef (.agg #[.int .i64 f0,.int .i64 f1,.int .i64 f2])] w R=Q5.wp f0 f1 f2 w (fun r w=>R (encR false [(false,[(.i .u8)])] r) w):=by kernel_rfl
theorem Q5.ok{f0:Int}{f1:Int}{f2:Int}{w:World}{R:TR [(false,[(.i .u8)])]→WP}(h:Q5.wp f0 f1 f2 w R):Ae prog F.Fa [.iface T.Ef (.agg #[.int .i64 f0,.int .i64 f1,.int .i64 f2])] w false [(false,[(.i .u8)])] R:=
  Aop Aa Tryz.func220 (fun R=>Q5.wp f0 f1 f2 w R) (Q5.eq f0 f1 f2 w) rfl h
def Q9.wp(f0:Int)(f1:Int)(f2:Int)(f3:Int)(f4:Int)(f5:Int)(f6:Int)(f7:Int)(w:World)(R:TR [(false,[(.i .u8)])]→WP):Prop:=
R ((5,()),()) w
theorem Q9.eq(f0:Int)(f1:Int)(f2:Int)(f3:Int)(f4:Int)(f5:Int)(f6:Int)(f7:Int)(w:World)(R:Value→WP):A7 prog Tryz.f220 .n [.iface T.Gl (.agg #[.int .i64 f0,.int .i64 f1,.int .i64 f2,.int .i64 f3,.int .i64 f4,.int .i64 f5,.int .u16 f6,.int .i64 f7])] w R=Q9.wp f0 f1 f2 f3 f4 f5 f6 f7 w (fun r w=>R (encR false [(false,[(.i .u8)])] r) w):=by kernel_rfl
theorem Q9.ok{f0:Int}{f1:Int}{f2:Int}{f3:Int}{f4:Int}{f5:Int}{f6:Int}{f7:Int}{w:World}{R:TR [(false,[(.i .u8)])]→WP}(h:Q9.wp f0 f1 f2 f3 f4 f5 f6 f7 w R):Ae prog F.Fa [.iface T.Gl (.agg #[.int .i64 f0,.int .i64 f1,.int .i64 f2,.int .i64 f3,.int .i64 f4,.int .i64 f5,.int .u16 f6,.int .i64 f7])] w false [(false,[(.i .u8)])] R:=
  Aop Aa Tryz.func220 (fun R=>Q9.wp f0 f1 f2 f3 f4 f5 f6 f7 w R) (Q9.eq f0 f1 f2 f3 f4 f5 f6 f7 w) rfl h
def Vo.wp(label:ByteArray)(w:World)(R:TR [(false,[.b])]→WP):Prop:=
rgK label w fun it1 w2=>
Ci (fun(self3:((Int)×Unit)→WP) (z4:(Int)×Unit) w5=> ∀_:Nat→Value,
nxK it1 w5 (fun w6=>
Aj (decide (z4.1≥1)) (
R ((decide (z4.1≤12),()),()) w6) (
R ((false,()),()) w6)) fun i8 c9 w7=>
Aj (c9 !=95) (
Aj (decide (c9<97)) (
Aj (decide (c9<48)) (
R ((false,()),()) w7) (
Aj (decide (c9>57)) (
R ((false,()),()) w7) (
self3 (wrap .i64 (z4.1+1),()) w7))) (
Aj (decide (c9>122)) (
Aj (decide (c9<48)) (
R ((false,()),()) w7) (
Aj (decide (c9>57)) (
R ((false,()),()) w7) (
self3 (wrap .i64 (z4.1+1),()) w7))) (
self3 (wrap .i64 (z4.1+1),()) w7))) (
self3 (wrap .i64 (z4.1+1),()) w7)) (0,()) w2
theorem Vo.eq(label:ByteArray)(w:World)(R:Value→WP):A7 prog Tryz.f223 (.s .n (.s .n (.s (.s .n (.lp [(3,(.i .i64))] .n)) .n))) [.string label] w R=Vo.wp label w (fun r w=>R (encR false [(false,[.b])] r) w):=by kernel_rfl
theorem Vo.ok{label:ByteArray}{w:World}{R:TR [(false,[.b])]→WP}(h:Vo.wp label w R):Ae prog F.Vo [.string label] w false [(false,[.b])] R:=
  Aop Aa Tryz.func223 (fun R=>Vo.wp label w R) (Vo.eq label w) rfl h
def Dz.wp(r:Option Addr)(x0:Int)(x1:ByteArray)(x2:Int)(x3:Int)(x4:Int)(x5:Int)(x6:Int)(x7:Int)(w:World)(R:TR [(false,[(.i .i64)])]→WP):Prop:=
Bf [.int .i64 x0,.string x1,.int .i64 x2,.int .i64 x3,.int .i64 x4,.int .i64 x5,.int .u16 x6,.int .i64 x7] T.U1 w fun p1 w2=>
Aj (Option.isNone r) (
R ((2,()),()) w2) (
Jg w2 fun w3=>
Aq r fun a4=>
ld1 (.i .i64) (a4.add 2) w3 fun x8=>
Aq r fun a9=>
ld1 .sl a9 w3 fun x10=>
Aj (x8==(x10.2.1:Int)) (
R ((6,()),()) w3) (
Jg w3 fun w11=>
Aq r fun a12=>
ld1 .sl a12 w11 fun x13=>
Aq r fun a14=>
ld1 (.i .i64) (a14.add 1) w11 fun x15=>
Aq r fun a16=>
ld1 (.i .i64) (a16.add 2) w11 fun x17=>
Aq r fun a18=>
ld1 .sl a18 w11 fun x19=>
dF (x19.2.1:Int) (
A8 [(.i .i64),.s,(.i .i64),(.i .i64),(.i .i64),(.i .i64),(.i .u16),(.i .i64)] p1 0 w11 fun x20=>
Ny x13.1 x13.2.1 (Int.tmod (wrap .i64 (x15+x17)) (x19.2.1:Int)) fun a21=>
Au [.int .i64 x20.1,.string x20.2.1,.int .i64 x20.2.2.1,.int .i64 x20.2.2.2.1,.int .i64 x20.2.2.2.2.1,.int .i64 x20.2.2.2.2.2.1,.int .u16 x20.2.2.2.2.2.2.1,.int .i64 x20.2.2.2.2.2.2.2.1] (a21.add ((Int.tmod (wrap .i64 (x15+x17)) (x19.2.1:Int)).toNat*8)) 0 w11 fun w22=>
Aw [] w22∧(
Aq r fun a23=>
ld1 (.i .i64) (a23.add 2) w22 fun x24=>
Aq r fun a25=>
Au [.int .i64 (wrap .i64 (x24+1))] (a25.add 2) 0 w22 fun w26=>
R ((0,()),()) w26))))
theorem Dz.eq(r:Option Addr)(x0:Int)(x1:ByteArray)(x2:Int)(x3:Int)(x4:Int)(x5:Int)(x6:Int)(x7:Int)(w:World)(R:Value→WP):A7 prog Tryz.f224 (.s .n (.s (.s .n (.s .n (.s (.pl (.tk 0 (.tk 1 (.tk 2 (.tk 3 (.tk 4 (.tk 5 (.tk 6 (.tk 7 (.tk 8 (.tk 9 (.tk 10 .z)))))))))))) .n))) (.s (.pl (.tk 0 (.tk 1 (.tk 2 (.tk 3 (.tk 4 (.tk 5 (.tk 6 (.tk 7 (.tk 8 (.tk 9 (.tk 10 (.tk 11 (.tk 12 (.tk 13 (.tk 14 (.tk 15 (.tk 16 (.tk 17 (.tk 18 (.tk 19 (.tk 20 (.ef 21 [3,7,11,16,19] .z))))))))))))))))))))))) .n))) [.pointer r,.agg #[.int .i64 x0,.string x1,.int .i64 x2,.int .i64 x3,.int .i64 x4,.int .i64 x5,.int .u16 x6,.int .i64 x7]] w R=Dz.wp r x0 x1 x2 x3 x4 x5 x6 x7 w (fun r w=>R (encR false [(false,[(.i .i64)])] r) w):=by kernel_rfl
theorem Dz.ok{r:Option Addr}{x0:Int}{x1:ByteArray}{x2:Int}{x3:Int}{x4:Int}{x5:Int}{x6:Int}{x7:Int}{w:World}{R:TR [(false,[(.i .i64)])]→WP}(h:Dz.wp r x0 x1 x2 x3 x4 x5 x6 x7 w R):Ae prog F.Dz [.pointer r,.agg #[.int .i64 x0,.string x1,.int .i64 x2,.int .i64 x3,.int .i64 x4,.int .i64 x5,.int .u16 x6,.int .i64 x7]] w false [(false,[(.i .i64)])] R:=
  Aop Aa Tryz.func224 (fun R=>Dz.wp r x0 x1 x2 x3 x4 x5 x6 x7 w R) (Dz.eq r x0 x1 x2 x3 x4 x5 x6 x7 w) rfl h
def Eb.wp(r:Option Addr)(w:World)(R:TR [(true,[(.i .i64),.s,(.i .i64),(.i .i64),(.i .i64),(.i .i64),(.i .u16),(.i .i64)]),(false,[.b])]→WP):Prop:=
Bf [.int .i64 0,.string ByteArray.empty,.int .i64 0,.int .i64 0,.int .i64 0,.int .i64 0,.int .u16 0,.int .i64 0] T.U1 w fun p1 w2=>
Bf [.int .i64 0,.string ByteArray.empty,.int .i64 0,.int .i64 0,.int .i64 0,.int .i64 0,.int .u16 0,.int .i64 0] T.U1 w2 fun p3 w4=>
Ae prog F.Dj [.pointer r] w4 false [(false,[(.i .i64)])] fun r5 w6=>
Aj (r5.1.1==0) (
A8 [(.i .i64),.s,(.i .i64),(.i .i64),(.i .i64),(.i .i64),(.i .u16),(.i .i64)] p3 0 w6 fun x7=>
Au [.int .i64 x7.1,.string x7.2.1,.int .i64 x7.2.2.1,.int .i64 x7.2.2.2.1,.int .i64 x7.2.2.2.2.1,.int .i64 x7.2.2.2.2.2.1,.int .u16 x7.2.2.2.2.2.2.1,.int .i64 x7.2.2.2.2.2.2.2.1] p1 0 w6 fun w8=>
A8 [(.i .i64),.s,(.i .i64),(.i .i64),(.i .i64),(.i .i64),(.i .u16),(.i .i64)] p1 0 w8 fun x9=>
R ((x9.1,x9.2.1,x9.2.2.1,x9.2.2.2.1,x9.2.2.2.2.1,x9.2.2.2.2.2.1,x9.2.2.2.2.2.2.1,x9.2.2.2.2.2.2.2.1,()),(false,()),()) w8) (
Jg w6 fun w10=>
Aq r fun a11=>
ld1 .sl a11 w10 fun x12=>
Aq r fun a13=>
ld1 (.i .i64) (a13.add 1) w10 fun x14=>
Ny x12.1 x12.2.1 x14 fun a15=>
A8 [(.i .i64),.s,(.i .i64),(.i .i64),(.i .i64),(.i .i64),(.i .u16),(.i .i64)] (a15.add (x14.toNat*8)) 0 w10 fun x16=>
Bf [.int .i64 0,.string ByteArray.empty,.int .i64 0,.int .i64 0,.int .i64 0,.int .i64 0,.int .u16 0,.int .i64 0] T.U1 w10 fun p17 w18=>
Aw [(9,((a15.add (x14.toNat*8)).add 0),(w10.cell? ((a15.add (x14.toNat*8)).add 0)).getD undef),(9,((a15.add (x14.toNat*8)).add 1),(w10.cell? ((a15.add (x14.toNat*8)).add 1)).getD undef),(9,((a15.add (x14.toNat*8)).add 2),(w10.cell? ((a15.add (x14.toNat*8)).add 2)).getD undef),(9,((a15.add (x14.toNat*8)).add 3),(w10.cell? ((a15.add (x14.toNat*8)).add 3)).getD undef),(9,((a15.add (x14.toNat*8)).add 4),(w10.cell? ((a15.add (x14.toNat*8)).add 4)).getD undef),(9,((a15.add (x14.toNat*8)).add 5),(w10.cell? ((a15.add (x14.toNat*8)).add 5)).getD undef),(9,((a15.add (x14.toNat*8)).add 6),(w10.cell? ((a15.add (x14.toNat*8)).add 6)).getD undef),(9,((a15.add (x14.toNat*8)).add 7),(w10.cell? ((a15.add (x14.toNat*8)).add 7)).getD undef),(7,(a13.add 1),(w10.cell? (a13.add 1)).getD undef),(3,a11,(w10.cell? a11).getD undef)] w18∧(
Au [.int .i64 x16.1,.string x16.2.1,.int .i64 x16.2.2.1,.int .i64 x16.2.2.2.1,.int .i64 x16.2.2.2.2.1,.int .i64 x16.2.2.2.2.2.1,.int .u16 x16.2.2.2.2.2.2.1,.int .i64 x16.2.2.2.2.2.2.2.1] p17 0 w18 fun w19=>
Aw [] w19∧(
Jg w19 fun w20=>
Aq r fun a21=>
ld1 .sl a21 w20 fun x22=>
Aq r fun a23=>
ld1 (.i .i64) (a23.add 1) w20 fun x24=>
A8 [(.i .i64),.s,(.i .i64),(.i .i64),(.i .i64),(.i .i64),(.i .u16),(.i .i64)] p3 0 w20 fun x25=>
Ny x22.1 x22.2.1 x24 fun a26=>
Au [.int .i64 x25.1,.string x25.2.1,.int .i64 x25.2.2.1,.int .i64 x25.2.2.2.1,.int .i64 x25.2.2.2.2.1,.int .i64 x25.2.2.2.2.2.1,.int .u16 x25.2.2.2.2.2.2.1,.int .i64 x25.2.2.2.2.2.2.2.1] (a26.add (x24.toNat*8)) 0 w20 fun w27=>
Aw [] w27∧(
Jg w27 fun w28=>
Aq r fun a29=>
ld1 (.i .i64) (a29.add 1) w28 fun x30=>
Aq r fun a31=>
ld1 .sl a31 w28 fun x32=>
dF (x32.2.1:Int) (
Aq r fun a33=>
Au [.int .i64 (Int.tmod (wrap .i64 (x30+1)) (x32.2.1:Int))] (a33.add 1) 0 w28 fun w34=>
Aw [] w34∧(
Aq r fun a35=>
ld1 (.i .i64) (a35.add 2) w34 fun x36=>
Aq r fun a37=>
Au [.int .i64 (wrap .i64 (x36-1))] (a37.add 2) 0 w34 fun w38=>
A8 [(.i .i64),.s,(.i .i64),(.i .i64),(.i .i64),(.i .i64),(.i .u16),(.i .i64)] p17 0 w38 fun x39=>
Au [.int .i64 x39.1,.string x39.2.1,.int .i64 x39.2.2.1,.int .i64 x39.2.2.2.1,.int .i64 x39.2.2.2.2.1,.int .i64 x39.2.2.2.2.2.1,.int .u16 x39.2.2.2.2.2.2.1,.int .i64 x39.2.2.2.2.2.2.2.1] p1 0 w38 fun w40=>
A8 [(.i .i64),.s,(.i .i64),(.i .i64),(.i .i64),(.i .i64),(.i .u16),(.i .i64)] p1 0 w40 fun x41=>
R ((x41.1,x41.2.1,x41.2.2.1,x41.2.2.2.1,x41.2.2.2.2.1,x41.2.2.2.2.2.1,x41.2.2.2.2.2.2.1,x41.2.2.2.2.2.2.2.1,()),(true,()),()) w40))))))
theorem Eb.eq(r:Option Addr)(w:World)(R:Value→WP):A7 prog Tryz.f225 (.s .n (.s .n (.s .n (.s (.pl (.tk 0 (.tk 1 (.tk 2 (.tk 3 (.tk 4 (.tk 5 (.tk 6 (.tk 7 (.tk 8 (.tk 9 (.ef 10 [] (.ef 11 [3,7,9] .z))))))))))))) (.s (.pl (.tk 0 (.tk 1 (.tk 2 (.tk 3 (.tk 4 (.tk 5 (.tk 6 (.tk 7 (.tk 8 (.tk 9 (.ef 10 [3,7,8] .z)))))))))))) (.s (.pl (.tk 0 (.tk 1 (.tk 2 (.tk 3 (.tk 4 (.tk 5 (.tk 6 (.tk 7 (.tk 8 (.tk 9 (.tk 10 (.tk 11 (.tk 12 (.tk 13 (.ef 14 [4,9] .z)))))))))))))))) .n)))))) [.pointer r] w R=Eb.wp r w (fun r w=>R (encR true [(true,[(.i .i64),.s,(.i .i64),(.i .i64),(.i .i64),(.i .i64),(.i .u16),(.i .i64)]),(false,[.b])] r) w):=by kernel_rfl
theorem Eb.ok{r:Option Addr}{w:World}{R:TR [(true,[(.i .i64),.s,(.i .i64),(.i .i64),(.i .i64),(.i .i64),(.i .u16),(.i .i64)]),(false,[.b])]→WP}(h:Eb.wp r w R):Ae prog F.Eb [.pointer r] w true [(true,[(.i .i64),.s,(.i .i64),(.i .i64),(.i .i64),(.i .i64),(.i .u16),(.i .i64)]),(false,[.b])] R:=
  Aop Aa Tryz.func225 (fun R=>Eb.wp r w R) (Eb.eq r w) rfl h
def Qw.wp(b:Option Addr)(w_0:Int)(w_1:Int)(time:Int)(w:World)(R:TR [(true,[(.i .i64),(.i .i64)]),(false,[(.i .i64)])]→WP):Prop:=
Bf [.int .i64 w_0,.int .u16 w_1] T.lK w fun p1 w2=>
Bf [.int .i64 0,.int .i64 0] T.uF w2 fun p3 w4=>
Aj (Option.isNone b) (
Au [.int .i64 0,.int .i64 0] p3 0 w4 fun w5=>
A8 [(.i .i64),(.i .i64)] p3 0 w5 fun x6=>
R ((x6.1,x6.2.1,()),(2,()),()) w5) (
Aq b fun a7=>
ld1 .b a7 w4 fun x8=>
Aj (!x8) (
Au [.int .i64 0,.int .i64 0] p3 0 w4 fun w9=>
A8 [(.i .i64),(.i .i64)] p3 0 w9 fun x10=>
R ((x10.1,x10.2.1,()),(7,()),()) w9) (
Cc (fun(J11:((Bool)×Unit)→WP)=>
Jg w4 fun w14=>
Aq b fun a15=>
ld1 (.i .i64) ((a15.add 1).add 2) w14 fun x16=>
ld1 (.i .i64) p1 w14 fun x17=>
Aj (x16 !=x17) (
J11 (true,()) w14) (
Aq b fun a18=>
ld1 (.i .u16) ((a18.add 1).add 3) w14 fun x19=>
ld1 (.i .u16) (p1.add 1) w14 fun x20=>
J11 ((x19 !=x20),()) w14)) (fun(z12:(Bool)×Unit) w13=> ∀_:Nat→Value,
Aj z12.1 (
Au [.int .i64 0,.int .i64 0] p3 0 w13 fun w21=>
A8 [(.i .i64),(.i .i64)] p3 0 w21 fun x22=>
R ((x22.1,x22.2.1,()),(9,()),()) w21) (
Aj (decide (time<0)) (
Au [.int .i64 0,.int .i64 0] p3 0 w13 fun w23=>
A8 [(.i .i64),(.i .i64)] p3 0 w23 fun x24=>
R ((x24.1,x24.2.1,()),(8,()),()) w23) (
Aj (decide (time>1125899906842624)) (
Au [.int .i64 0,.int .i64 0] p3 0 w13 fun w25=>
A8 [(.i .i64),(.i .i64)] p3 0 w25 fun x26=>
R ((x26.1,x26.2.1,()),(8,()),()) w25) (
Aq b fun a27=>
ld1 (.i .i64) ((a27.add 1).add 4) w13 fun x28=>
Ae prog F.Oi [.int .i64 (wrap .i64 (time-x28)),.int .i64 1000] w13 true [(false,[(.i .i64)]),(false,[(.i .i64)]),(false,[.b])] fun r29 w30=>
Aq b fun a31=>
ld1 (.i .i64) ((a31.add 1).add 5) w30 fun x32=>
Au [.int .i64 (wrap .i64 (x32+r29.1.1)),.int .i64 r29.2.1.1] p3 0 w30 fun w33=>
A8 [(.i .i64),(.i .i64)] p3 0 w33 fun x34=>
R ((x34.1,x34.2.1,()),(0,()),()) w33))))))
theorem Qw.eq(b:Option Addr)(w_0:Int)(w_1:Int)(time:Int)(w:World)(R:Value→WP):A7 prog Tryz.f226 (.s .n (.s (.s .n (.s .n (.s .n (.s .n (.ct [(22,.b)] (.pl (.tk 0 (.tk 1 (.tk 2 (.tk 3 (.tk 4 (.tk 5 (.tk 6 (.tk 7 (.tk 8 (.tk 9 (.tk 10 (.tk 11 (.tk 12 (.tk 13 (.tk 14 (.tk 15 (.tk 16 (.tk 17 (.tk 18 .z)))))))))))))))))))) .n))))) .n)) [.pointer b,.agg #[.int .i64 w_0,.int .u16 w_1],.int .i64 time] w R=Qw.wp b w_0 w_1 time w (fun r w=>R (encR true [(true,[(.i .i64),(.i .i64)]),(false,[(.i .i64)])] r) w):=by kernel_rfl
theorem Qw.ok{b:Option Addr}{w_0:Int}{w_1:Int}{time:Int}{w:World}{R:TR [(true,[(.i .i64),(.i .i64)]),(false,[(.i .i64)])]→WP}(h:Qw.wp b w_0 w_1 time w R):Ae prog F.Qw [.pointer b,.agg #[.int .i64 w_0,.int .u16 w_1],.int .i64 time] w true [(true,[(.i .i64),(.i .i64)]),(false,[(.i .i64)])] R:=
  Aop Aa Tryz.func226 (fun R=>Qw.wp b w_0 w_1 time w R) (Qw.eq b w_0 w_1 time w) rfl h
def Hq.wp(r0:Int)(r1:Int)(w:World)(R:TR [(false,[.b])]→WP):Prop:=
Bf [.int .i64 r0,.int .i64 r1] T.nU w fun p1 w2=>
ld1 (.i .i64) p1 w2 fun x3=>
Aj (decide (x3≥1)) (
ld1 (.i .i64) p1 w2 fun x4=>
Aj (decide (x4≤1000)) (
ld1 (.i .i64) (p1.add 1) w2 fun x5=>
Aj (decide (x5≥0)) (
ld1 (.i .i64) (p1.add 1) w2 fun x6=>
R ((decide (x6≤1000),()),()) w2) (
R ((false,()),()) w2)) (
R ((false,()),()) w2)) (
R ((false,()),()) w2)
theorem Hq.eq(r0:Int)(r1:Int)(w:World)(R:Value→WP):A7 prog Tryz.f258 .n [.agg #[.int .i64 r0,.int .i64 r1]] w R=Hq.wp r0 r1 w (fun r w=>R (encR false [(false,[.b])] r) w):=by kernel_rfl
theorem Hq.ok{r0:Int}{r1:Int}{w:World}{R:TR [(false,[.b])]→WP}(h:Hq.wp r0 r1 w R):Ae prog F.Hq [.agg #[.int .i64 r0,.int .i64 r1]] w false [(false,[.b])] R:=
  Aop Aa Tryz.func258 (fun R=>Hq.wp r0 r1 w R) (Hq.eq r0 r1 w) rfl h
def Jt.wp(e:Option Addr)(w:World)(R:TR [(false,[.b])]→WP):Prop:=
Aj (Option.isNone e) (
R ((false,()),()) w) (
Ae prog F.Bc [.pointer e] w false [(false,[.b])] fun r1 w2=>
Aj r1.1.1 (
Aq e fun a3=>
ld1 (.i .i64) (a3.add 7) w2 fun x4=>
Aq e fun a5=>
Au [.int .i64 (if 0>(wrap .i64 (x4-1)) then 0 else(wrap .i64 (x4-1)))] (a5.add 7) 0 w2 fun w6=>
R ((false,()),()) w6) (
Aq e fun a7=>
ld1 (.i .i64) (a7.add 6) w2 fun x8=>
Aq e fun a9=>
Au [.int .i64 (wrap .i64 (x8+1))] (a9.add 6) 0 w2 fun w10=>
Jg w10 fun w11=>
Aq e fun a12=>
ld1 (.i .i64) (a12.add 6) w11 fun x13=>
Aq e fun a14=>
ld1 (.i .i64) (a14.add 1) w11 fun x15=>
Aj (decide (x13<x15)) (
R ((false,()),()) w11) (
Jg w11 fun w16=>
Aq e fun a17=>
ld1 (.i .i64) a17 w16 fun x18=>
Aq e fun a19=>
ld1 (.i .i64) ((a19.add 1).add 1) w16 fun x20=>
Aq e fun a21=>
Au [.int .i64 x18] (a21.add 5) 0 w16 fun w22=>
Aw [] w22∧(
Aq e fun a23=>
Au [.int .i64 0] (a23.add 6) 0 w22 fun w24=>
Aw [] w24∧(
Aq e fun a25=>
Au [.int .i64 x20] (a25.add 7) 0 w24 fun w26=>
Aw [] w26∧(
R ((true,()),()) w26))))))
theorem Jt.eq(e:Option Addr)(w:World)(R:Value→WP):A7 prog Tryz.f259 (.s .n (.s .n (.s .n (.s (.s (.pl (.tk 0 (.tk 1 (.tk 2 (.tk 3 (.tk 4 (.tk 5 (.tk 6 (.tk 7 (.tk 8 (.tk 9 .z))))))))))) .n) (.s (.pl (.tk 0 (.tk 1 (.tk 2 (.tk 3 (.tk 4 (.tk 5 (.tk 6 (.tk 7 (.tk 8 (.tk 9 (.tk 10 (.tk 11 (.tk 12 (.tk 13 (.ef 14 [6,11] (.tk 15 (.tk 16 (.ef 17 [] (.tk 18 (.tk 19 (.ef 20 [] .z)))))))))))))))))))))) .n))))) [.pointer e] w R=Jt.wp e w (fun r w=>R (encR false [(false,[.b])] r) w):=by kernel_rfl
theorem Jt.ok{e:Option Addr}{w:World}{R:TR [(false,[.b])]→WP}(h:Jt.wp e w R):Ae prog F.Jt [.pointer e] w false [(false,[.b])] R:=
  Aop Aa Tryz.func259 (fun R=>Jt.wp e w R) (Jt.eq e w) rfl h
end Go.Proofs.YticgocmhmffneaaGreatDoor
