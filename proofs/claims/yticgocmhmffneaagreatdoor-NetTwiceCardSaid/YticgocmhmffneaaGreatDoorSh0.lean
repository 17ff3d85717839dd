import Derived.Test.YticgocmhmffneaaGreatDoorNm
namespace Go.Proofs.YticgocmhmffneaaGreatDoor
open Go.Eng Tryz
open Go.IntKind (wrap)
set_option linter.unusedSimpArgs false
set_option linter.unusedVariables false
set_option maxRecDepth 100000
set_option maxHeartbeats 8000000
def law27_NetTwice.wp(s0:Int)(s1:Int)(s2:Int)(s3:Int)(s4:Int)(s5:Int)(s6:Int)(s7:Int)(s8:Int)(s9:Int)(s10:Option Addr×Nat×Nat)(script:Option Addr×Nat×Nat)(w:World)(R:TR [(false,[.b])]→WP):Prop:=
Bf [.int .i64 s0,.int .i64 s1,.int .i64 s2,.int .i64 s3,.int .i64 s4,.int .i64 s5,.int .i64 s6,.int .i64 s7,.int .i64 s8,.int .i64 s9,.slice s10.1 s10.2.1 s10.2.2] T.O5 w fun p1 w2=>
Ae prog F.law27_alive [] w2 false [(false,[.b])] fun r3 w4=>
Aj (!r3.1.1) (
R ((false,()),()) w4) (
ld1 (.i .i64) p1 w4 fun x5=>
Aj (decide (x5>6)) (
R ((true,()),()) w4) (
ld1 .sl (p1.add 10) w4 fun x6=>
Aj (decide ((x6.2.1:Int)>100)) (
R ((true,()),()) w4) (
Aj (decide ((script.2.1:Int)>120)) (
R ((true,()),()) w4) (
A8 [(.i .i64),(.i .i64),(.i .i64),(.i .i64),(.i .i64),(.i .i64),(.i .i64),(.i .i64),(.i .i64),(.i .i64),.sl] p1 0 w4 fun x7=>
Ae prog F.I4 [.agg #[.int .i64 x7.1,.int .i64 x7.2.1,.int .i64 x7.2.2.1,.int .i64 x7.2.2.2.1,.int .i64 x7.2.2.2.2.1,.int .i64 x7.2.2.2.2.2.1,.int .i64 x7.2.2.2.2.2.2.1,.int .i64 x7.2.2.2.2.2.2.2.1,.int .i64 x7.2.2.2.2.2.2.2.2.1,.int .i64 x7.2.2.2.2.2.2.2.2.2.1,.slice x7.2.2.2.2.2.2.2.2.2.2.1.1 x7.2.2.2.2.2.2.2.2.2.2.1.2.1 x7.2.2.2.2.2.2.2.2.2.2.1.2.2]] w4 false [(false,[.b])] fun r8 w9=>
Aj (!r8.1.1) (
R ((true,()),()) w9) (
A8 [(.i .i64),(.i .i64),(.i .i64),(.i .i64),(.i .i64),(.i .i64),(.i .i64),(.i .i64),(.i .i64),(.i .i64),.sl] p1 0 w9 fun x10=>
Ae prog F.law27_setup [.agg #[.int .i64 x10.1,.int .i64 x10.2.1,.int .i64 x10.2.2.1,.int .i64 x10.2.2.2.1,.int .i64 x10.2.2.2.2.1,.int .i64 x10.2.2.2.2.2.1,.int .i64 x10.2.2.2.2.2.2.1,.int .i64 x10.2.2.2.2.2.2.2.1,.int .i64 x10.2.2.2.2.2.2.2.2.1,.int .i64 x10.2.2.2.2.2.2.2.2.2.1,.slice x10.2.2.2.2.2.2.2.2.2.2.1.1 x10.2.2.2.2.2.2.2.2.2.2.1.2.1 x10.2.2.2.2.2.2.2.2.2.2.1.2.2]] w9 false [(true,[(.i .i64),(.i .i64),(.i .i64),(.i .i64),(.i .i64),(.i .i64),(.i .i64),(.i .i64),(.i .i64),(.i .i64),.sl])] fun r11 w12=>
Ae prog F.Jw [.agg #[.int .i64 r11.1.1,.int .i64 r11.1.2.1,.int .i64 r11.1.2.2.1,.int .i64 r11.1.2.2.2.1,.int .i64 r11.1.2.2.2.2.1,.int .i64 r11.1.2.2.2.2.2.1,.int .i64 r11.1.2.2.2.2.2.2.1,.int .i64 r11.1.2.2.2.2.2.2.2.1,.int .i64 r11.1.2.2.2.2.2.2.2.2.1,.int .i64 r11.1.2.2.2.2.2.2.2.2.2.1,.slice r11.1.2.2.2.2.2.2.2.2.2.2.1.1 r11.1.2.2.2.2.2.2.2.2.2.2.1.2.1 r11.1.2.2.2.2.2.2.2.2.2.2.1.2.2],.pointer none] w12 true [(false,[.p]),(false,[(.i .i64)])] fun r13 w14=>
A8 [(.i .i64),(.i .i64),(.i .i64),(.i .i64),(.i .i64),(.i .i64),(.i .i64),(.i .i64),(.i .i64),(.i .i64),.sl] p1 0 w14 fun x15=>
Ae prog F.law27_setup [.agg #[.int .i64 x15.1,.int .i64 x15.2.1,.int .i64 x15.2.2.1,.int .i64 x15.2.2.2.1,.int .i64 x15.2.2.2.2.1,.int .i64 x15.2.2.2.2.2.1,.int .i64 x15.2.2.2.2.2.2.1,.int .i64 x15.2.2.2.2.2.2.2.1,.int .i64 x15.2.2.2.2.2.2.2.2.1,.int .i64 x15.2.2.2.2.2.2.2.2.2.1,.slice x15.2.2.2.2.2.2.2.2.2.2.1.1 x15.2.2.2.2.2.2.2.2.2.2.1.2.1 x15.2.2.2.2.2.2.2.2.2.2.1.2.2]] w14 false [(true,[(.i .i64),(.i .i64),(.i .i64),(.i .i64),(.i .i64),(.i .i64),(.i .i64),(.i .i64),(.i .i64),(.i .i64),.sl])] fun r16 w17=>
Ae prog F.Jw [.agg #[.int .i64 r16.1.1,.int .i64 r16.1.2.1,.int .i64 r16.1.2.2.1,.int .i64 r16.1.2.2.2.1,.int .i64 r16.1.2.2.2.2.1,.int .i64 r16.1.2.2.2.2.2.1,.int .i64 r16.1.2.2.2.2.2.2.1,.int .i64 r16.1.2.2.2.2.2.2.2.1,.int .i64 r16.1.2.2.2.2.2.2.2.2.1,.int .i64 r16.1.2.2.2.2.2.2.2.2.2.1,.slice r16.1.2.2.2.2.2.2.2.2.2.2.1.1 r16.1.2.2.2.2.2.2.2.2.2.2.1.2.1 r16.1.2.2.2.2.2.2.2.2.2.2.1.2.2],.pointer none] w17 true [(false,[.p]),(false,[(.i .i64)])] fun r18 w19=>
Aj (r13.2.1.1 !=0) (
R ((false,()),()) w19) (
Aj (r18.2.1.1 !=0) (
R ((false,()),()) w19) (
Ci (fun(self20:((Int)×Unit)→WP) (z21:(Int)×Unit) w22=> ∀_:Nat→Value,
Aj (decide (z21.1<(script.2.1:Int))) (
Ny script.1 script.2.1 z21.1 fun a23=>
A8 [(.i .i64),(.i .i64),(.i .i64),.b,(.i .u32),.s,.sl,.sl,.sl,.sl,.sl] (a23.add (z21.1.toNat*11)) 0 w22 fun x24=>
Bf [.int .i64 0,.int .i64 0,.int .i64 0,.bool false,.int .u32 0,.string ByteArray.empty,.slice none 0 0,.slice none 0 0,.slice none 0 0,.slice none 0 0,.slice none 0 0] T.law27_Act w22 fun p25 w26=>
Au [.int .i64 x24.1,.int .i64 x24.2.1,.int .i64 x24.2.2.1,.bool x24.2.2.2.1,.int .u32 x24.2.2.2.2.1,.string x24.2.2.2.2.2.1,.slice x24.2.2.2.2.2.2.1.1 x24.2.2.2.2.2.2.1.2.1 x24.2.2.2.2.2.2.1.2.2,.slice x24.2.2.2.2.2.2.2.1.1 x24.2.2.2.2.2.2.2.1.2.1 x24.2.2.2.2.2.2.2.1.2.2,.slice x24.2.2.2.2.2.2.2.2.1.1 x24.2.2.2.2.2.2.2.2.1.2.1 x24.2.2.2.2.2.2.2.2.1.2.2,.slice x24.2.2.2.2.2.2.2.2.2.1.1 x24.2.2.2.2.2.2.2.2.2.1.2.1 x24.2.2.2.2.2.2.2.2.2.1.2.2,.slice x24.2.2.2.2.2.2.2.2.2.2.1.1 x24.2.2.2.2.2.2.2.2.2.2.1.2.1 x24.2.2.2.2.2.2.2.2.2.2.1.2.2] p25 0 w26 fun w27=>
A8 [(.i .i64),(.i .i64),(.i .i64),.b,(.i .u32),.s,.sl,.sl,.sl,.sl,.sl] p25 0 w27 fun x28=>
Ae prog F.law27_great [.agg #[.int .i64 x28.1,.int .i64 x28.2.1,.int .i64 x28.2.2.1,.bool x28.2.2.2.1,.int .u32 x28.2.2.2.2.1,.string x28.2.2.2.2.2.1,.slice x28.2.2.2.2.2.2.1.1 x28.2.2.2.2.2.2.1.2.1 x28.2.2.2.2.2.2.1.2.2,.slice x28.2.2.2.2.2.2.2.1.1 x28.2.2.2.2.2.2.2.1.2.1 x28.2.2.2.2.2.2.2.1.2.2,.slice x28.2.2.2.2.2.2.2.2.1.1 x28.2.2.2.2.2.2.2.2.1.2.1 x28.2.2.2.2.2.2.2.2.1.2.2,.slice x28.2.2.2.2.2.2.2.2.2.1.1 x28.2.2.2.2.2.2.2.2.2.1.2.1 x28.2.2.2.2.2.2.2.2.2.1.2.2,.slice x28.2.2.2.2.2.2.2.2.2.2.1.1 x28.2.2.2.2.2.2.2.2.2.2.1.2.1 x28.2.2.2.2.2.2.2.2.2.2.1.2.2]] w27 false [(false,[.b])] fun r29 w30=>
Aj r29.1.1 (
R ((true,()),()) w30) (
A8 [(.i .i64),(.i .i64),(.i .i64),.b,(.i .u32),.s,.sl,.sl,.sl,.sl,.sl] p25 0 w30 fun x31=>
Ae prog F.law27_twice [.pointer r13.1.1,.pointer r18.1.1,.agg #[.int .i64 x31.1,.int .i64 x31.2.1,.int .i64 x31.2.2.1,.bool x31.2.2.2.1,.int .u32 x31.2.2.2.2.1,.string x31.2.2.2.2.2.1,.slice x31.2.2.2.2.2.2.1.1 x31.2.2.2.2.2.2.1.2.1 x31.2.2.2.2.2.2.1.2.2,.slice x31.2.2.2.2.2.2.2.1.1 x31.2.2.2.2.2.2.2.1.2.1 x31.2.2.2.2.2.2.2.1.2.2,.slice x31.2.2.2.2.2.2.2.2.1.1 x31.2.2.2.2.2.2.2.2.1.2.1 x31.2.2.2.2.2.2.2.2.1.2.2,.slice x31.2.2.2.2.2.2.2.2.2.1.1 x31.2.2.2.2.2.2.2.2.2.1.2.1 x31.2.2.2.2.2.2.2.2.2.1.2.2,.slice x31.2.2.2.2.2.2.2.2.2.2.1.1 x31.2.2.2.2.2.2.2.2.2.2.1.2.1 x31.2.2.2.2.2.2.2.2.2.2.1.2.2]] w30 false [(false,[.b])] fun r32 w33=>
Aj (!r32.1.1) (
R ((false,()),()) w33) (
Ae prog F.Fb [.pointer r13.1.1] w33 false [(false,[(.i .u64)])] fun r34 w35=>
Ae prog F.Fb [.pointer r18.1.1] w35 false [(false,[(.i .u64)])] fun r36 w37=>
Aj (r34.1.1 !=r36.1.1) (
R ((false,()),()) w37) (
Ae prog F.Cf [.pointer r13.1.1] w37 false [(false,[(.i .i64)])] fun r38 w39=>
Ae prog F.Cf [.pointer r18.1.1] w39 false [(false,[(.i .i64)])] fun r40 w41=>
Aj (r38.1.1 !=r40.1.1) (
R ((false,()),()) w41) (
Ci (fun(self42:((Int)×Unit)→WP) (z43:(Int)×Unit) w44=> ∀_:Nat→Value,
ld1 (.i .i64) p1 w44 fun x45=>
Aj (decide (z43.1<x45)) (
Ae prog F.Bz [.pointer r13.1.1,.int .i64 z43.1] w44 true [(true,[(.i .i64),(.i .i64),(.i .i64),(.i .u16),(.i .i64)]),(false,[(.i .i64)])] fun r46 w47=>
Bf [.int .i64 0,.int .i64 0,.int .i64 0,.int .u16 0,.int .i64 0] T.Bg w47 fun p48 w49=>
Au [.int .i64 r46.1.1,.int .i64 r46.1.2.1,.int .i64 r46.1.2.2.1,.int .u16 r46.1.2.2.2.1,.int .i64 r46.1.2.2.2.2.1] p48 0 w49 fun w50=>
Ae prog F.Bz [.pointer r18.1.1,.int .i64 z43.1] w50 true [(true,[(.i .i64),(.i .i64),(.i .i64),(.i .u16),(.i .i64)]),(false,[(.i .i64)])] fun r51 w52=>
Bf [.int .i64 0,.int .i64 0,.int .i64 0,.int .u16 0,.int .i64 0] T.Bg w52 fun p53 w54=>
Au [.int .i64 r51.1.1,.int .i64 r51.1.2.1,.int .i64 r51.1.2.2.1,.int .u16 r51.1.2.2.2.1,.int .i64 r51.1.2.2.2.2.1] p53 0 w54 fun w55=>
Ae prog F.Dv [.pointer r13.1.1,.int .i64 z43.1] w55 false [(true,[.b,(.i .u16),(.i .i64),(.i .i64),.b,.b,(.i .i64),(.i .i64),(.i .i64),.b,(.i .i64),(.i .i64)])] fun r56 w57=>
Ae prog F.Dv [.pointer r18.1.1,.int .i64 z43.1] w57 false [(true,[.b,(.i .u16),(.i .i64),(.i .i64),.b,.b,(.i .i64),(.i .i64),(.i .i64),.b,(.i .i64),(.i .i64)])] fun r58 w59=>
Aj (!((r56.1.1==r58.1.1)&&((r56.1.2.1==r58.1.2.1)&&((r56.1.2.2.1==r58.1.2.2.1)&&((r56.1.2.2.2.1==r58.1.2.2.2.1)&&((r56.1.2.2.2.2.1==r58.1.2.2.2.2.1)&&((r56.1.2.2.2.2.2.1==r58.1.2.2.2.2.2.1)&&((r56.1.2.2.2.2.2.2.1==r58.1.2.2.2.2.2.2.1)&&((r56.1.2.2.2.2.2.2.2.1==r58.1.2.2.2.2.2.2.2.1)&&((r56.1.2.2.2.2.2.2.2.2.1==r58.1.2.2.2.2.2.2.2.2.1)&&((r56.1.2.2.2.2.2.2.2.2.2.1==r58.1.2.2.2.2.2.2.2.2.2.1)&&((r56.1.2.2.2.2.2.2.2.2.2.2.1==r58.1.2.2.2.2.2.2.2.2.2.2.1)&&((r56.1.2.2.2.2.2.2.2.2.2.2.2.1==r58.1.2.2.2.2.2.2.2.2.2.2.2.1)&&true))))))))))))) (
R ((false,()),()) w59) (
A8 [(.i .i64),(.i .i64),(.i .i64),(.i .u16),(.i .i64)] p48 0 w59 fun x60=>
A8 [(.i .i64),(.i .i64),(.i .i64),(.i .u16),(.i .i64)] p53 0 w59 fun x61=>
Aj (!((x60.1==x61.1)&&((x60.2.1==x61.2.1)&&(((x60.2.2.1==x61.2.2.1)&&((x60.2.2.2.1==x61.2.2.2.1)&&true))&&((x60.2.2.2.2.1==x61.2.2.2.2.1)&&true))))) (
R ((false,()),()) w59) (
Aj (r46.2.1.1 !=r51.2.1.1) (
R ((false,()),()) w59) (
self42 (wrap .i64 (z43.1+1),()) w59)))) (
self20 (wrap .i64 (z21.1+1),()) w44)) (0,()) w41))))) (
R ((true,()),()) w22)) (0,()) w19)))))))
theorem law27_NetTwice.eq(s0:Int)(s1:Int)(s2:Int)(s3:Int)(s4:Int)(s5:Int)(s6:Int)(s7:Int)(s8:Int)(s9:Int)(s10:Option Addr×Nat×Nat)(script:Option Addr×Nat×Nat)(w:World)(R:Value→WP):A7 prog Tryz.f8 (.s .n (.s .n (.s .n (.s .n (.s .n (.s .n (.s (.s .n (.lp [(57,(.i .i64))] (.s .n (.s .n (.s (.s .n (.s .n (.s .n (.s .n (.lp [(11,(.i .i64))] .n))))) .n))))) .n))))))) [.agg #[.int .i64 s0,.int .i64 s1,.int .i64 s2,.int .i64 s3,.int .i64 s4,.int .i64 s5,.int .i64 s6,.int .i64 s7,.int .i64 s8,.int .i64 s9,.slice s10.1 s10.2.1 s10.2.2],.slice script.1 script.2.1 script.2.2] w R=law27_NetTwice.wp s0 s1 s2 s3 s4 s5 s6 s7 s8 s9 s10 script w (fun r w=>R (encR false [(false,[.b])] r) w):=by kernel_rfl
theorem law27_NetTwice.ok{s0:Int}{s1:Int}{s2:Int}{s3:Int}{s4:Int}{s5:Int}{s6:Int}{s7:Int}{s8:Int}{s9:Int}{s10:Option Addr×Nat×Nat}{script:Option Addr×Nat×Nat}{w:World}{R:TR [(false,[.b])]→WP}(h:law27_NetTwice.wp s0 s1 s2 s3 s4 s5 s6 s7 s8 s9 s10 script w R):Ae prog F.law27_NetTwice [.agg #[.int .i64 s0,.int .i64 s1,.int .i64 s2,.int .i64 s3,.int .i64 s4,.int .i64 s5,.int .i64 s6,.int .i64 s7,.int .i64 s8,.int .i64 s9,.slice s10.1 s10.2.1 s10.2.2],.slice script.1 script.2.1 script.2.2] w false [(false,[.b])] R:=
  Aop Aa Tryz.func8 (fun R=>law27_NetTwice.wp s0 s1 s2 s3 s4 s5 s6 s7 s8 s9 s10 script w R) (law27_NetTwice.eq s0 s1 s2 s3 s4 s5 s6 s7 s8 s9 s10 script w) rfl h
def I4.wp(s0:Int)(s1:Int)(s2:Int)(s3:Int)(s4:Int)(s5:Int)(s6:Int)(s7:Int)(s8:Int)(s9:Int)(s10:Option Addr×Nat×Nat)(w:World)(R:TR [(false,[.b])]→WP):Prop:=
Bf [.int .i64 s0,.int .i64 s1,.int .i64 s2,.int .i64 s3,.int .i64 s4,.int .i64 s5,.int .i64 s6,.int .i64 s7,.int .i64 s8,.int .i64 s9,.slice s10.1 s10.2.1 s10.2.2] T.O5 w fun p1 w2=>
ld1 (.i .i64) p1 w2 fun x3=>
Aj (decide (x3<1)) (
R ((false,()),()) w2) (
ld1 (.i .i64) p1 w2 fun x4=>
Aj (decide (x4>64)) (
R ((false,()),()) w2) (
Ci (fun(self5:((Int)×Unit)→WP) (z6:(Int)×Unit) w7=> ∀_:Nat→Value,
ld1 (.i .i64) p1 w7 fun x8=>
Aj (decide (z6.1<x8)) (
A8 [(.i .i64),(.i .i64),(.i .i64),(.i .i64),(.i .i64),(.i .i64),(.i .i64),(.i .i64),(.i .i64),(.i .i64),.sl] p1 0 w7 fun x9=>
Ae prog F.J8 [.agg #[.int .i64 x9.1,.int .i64 x9.2.1,.int .i64 x9.2.2.1,.int .i64 x9.2.2.2.1,.int .i64 x9.2.2.2.2.1,.int .i64 x9.2.2.2.2.2.1,.int .i64 x9.2.2.2.2.2.2.1,.int .i64 x9.2.2.2.2.2.2.2.1,.int .i64 x9.2.2.2.2.2.2.2.2.1,.int .i64 x9.2.2.2.2.2.2.2.2.2.1,.slice x9.2.2.2.2.2.2.2.2.2.2.1.1 x9.2.2.2.2.2.2.2.2.2.2.1.2.1 x9.2.2.2.2.2.2.2.2.2.2.1.2.2],.int .i64 z6.1] w7 false [(true,[(.i .i64),(.i .i64),(.i .i64),(.i .i64),(.i .i64),(.i .i64),(.i .i64),(.i .i64),(.i .i64),(.i .i64),.b])] fun r10 w11=>
Ae prog F.Ip [.agg #[.int .i64 r10.1.1,.int .i64 r10.1.2.1,.int .i64 r10.1.2.2.1,.int .i64 r10.1.2.2.2.1,.int .i64 r10.1.2.2.2.2.1,.int .i64 r10.1.2.2.2.2.2.1,.int .i64 r10.1.2.2.2.2.2.2.1,.int .i64 r10.1.2.2.2.2.2.2.2.1,.int .i64 r10.1.2.2.2.2.2.2.2.2.1,.int .i64 r10.1.2.2.2.2.2.2.2.2.2.1,.bool r10.1.2.2.2.2.2.2.2.2.2.2.1]] w11 false [(false,[.b])] fun r12 w13=>
Aj (!r12.1.1) (
R ((false,()),()) w13) (
self5 (wrap .i64 (z6.1+1),()) w13)) (
R ((true,()),()) w7)) (0,()) w2))
theorem I4.eq(s0:Int)(s1:Int)(s2:Int)(s3:Int)(s4:Int)(s5:Int)(s6:Int)(s7:Int)(s8:Int)(s9:Int)(s10:Option Addr×Nat×Nat)(w:World)(R:Value→WP):A7 prog Tryz.f16 (.s .n (.s .n (.s (.s .n (.lp [(3,(.i .i64))] .n)) .n))) [.agg #[.int .i64 s0,.int .i64 s1,.int .i64 s2,.int .i64 s3,.int .i64 s4,.int .i64 s5,.int .i64 s6,.int .i64 s7,.int .i64 s8,.int .i64 s9,.slice s10.1 s10.2.1 s10.2.2]] w R=I4.wp s0 s1 s2 s3 s4 s5 s6 s7 s8 s9 s10 w (fun r w=>R (encR false [(false,[.b])] r) w):=by kernel_rfl
theorem I4.ok{s0:Int}{s1:Int}{s2:Int}{s3:Int}{s4:Int}{s5:Int}{s6:Int}{s7:Int}{s8:Int}{s9:Int}{s10:Option Addr×Nat×Nat}{w:World}{R:TR [(false,[.b])]→WP}(h:I4.wp s0 s1 s2 s3 s4 s5 s6 s7 s8 s9 s10 w R):Ae prog F.I4 [.agg #[.int .i64 s0,.int .i64 s1,.int .i64 s2,.int .i64 s3,.int .i64 s4,.int .i64 s5,.int .i64 s6,.int .i64 s7,.int .i64 s8,.int .i64 s9,.slice s10.1 s10.2.1 s10.2.2]] w false [(false,[.b])] R:=
  Aop Aa Tryz.func16 (fun R=>I4.wp s0 s1 s2 s3 s4 s5 s6 s7 s8 s9 s10 w R) (I4.eq s0 s1 s2 s3 s4 s5 s6 s7 s8 s9 s10 w) rfl h
def Jw.wp(s0:Int)(s1:Int)(s2:Int)(s3:Int)(s4:Int)(s5:Int)(s6:Int)(s7:Int)(s8:Int)(s9:Int)(s10:Option Addr×Nat×Nat)(leaps:Option Addr)(w:World)(R:TR [(false,[.p]),(false,[(.i .i64)])]→WP):Prop:=
Bf [.int .i64 s0,.int .i64 s1,.int .i64 s2,.int .i64 s3,.int .i64 s4,.int .i64 s5,.int .i64 s6,.int .i64 s7,.int .i64 s8,.int .i64 s9,.slice s10.1 s10.2.1 s10.2.2] T.Vd w fun p1 w2=>
ld1 (.i .i64) p1 w2 fun x3=>
Ae prog F.Jv [.int .i64 x3] w2 true [(false,[.p]),(false,[(.i .i64)])] fun r4 w5=>
Aj (r4.2.1.1 !=0) (
R ((none,()),(r4.2.1.1,()),()) w5) (
ld1 .sl (p1.add 10) w5 fun x6=>
L9 ((Builtin.append_ #[T.V5,T.V5] T.V5 #[.slice none 0 0,.slice x6.1 x6.2.1 x6.2.2]).run prog w5) fun y7 w8=>
Au [.slice y7.1 y7.2.1 y7.2.2] (p1.add 10) 0 w8 fun w9=>
A8 [(.i .i64),(.i .i64),(.i .i64),(.i .i64),(.i .i64),(.i .i64),(.i .i64),(.i .i64),(.i .i64),(.i .i64),.sl] p1 0 w9 fun x10=>
Bf [.int .i64 x10.1,.int .i64 x10.2.1,.int .i64 x10.2.2.1,.int .i64 x10.2.2.2.1,.int .i64 x10.2.2.2.2.1,.int .i64 x10.2.2.2.2.2.1,.int .i64 x10.2.2.2.2.2.2.1,.int .i64 x10.2.2.2.2.2.2.2.1,.int .i64 x10.2.2.2.2.2.2.2.2.1,.int .i64 x10.2.2.2.2.2.2.2.2.2.1,.slice x10.2.2.2.2.2.2.2.2.2.2.1.1 x10.2.2.2.2.2.2.2.2.2.2.1.2.1 x10.2.2.2.2.2.2.2.2.2.2.1.2.2,.pointer r4.1.1,.slice none 0 0,.int .i64 0,.int .u64 0,.slice none 0 0] T.Aen w9 fun p11 w12=>
ld1 (.i .i64) p1 w12 fun x13=>
Ci (fun(self14:((Int)×Unit)→WP) (z15:(Int)×Unit) w16=> ∀_:Nat→Value,
Aj (decide (z15.1<x13)) (
A8 [(.i .i64),(.i .i64),(.i .i64),(.i .i64),(.i .i64),(.i .i64),(.i .i64),(.i .i64),(.i .i64),(.i .i64),.sl] p1 0 w16 fun x17=>
Ae prog F.H7 [.agg #[.int .i64 x17.1,.int .i64 x17.2.1,.int .i64 x17.2.2.1,.int .i64 x17.2.2.2.1,.int .i64 x17.2.2.2.2.1,.int .i64 x17.2.2.2.2.2.1,.int .i64 x17.2.2.2.2.2.2.1,.int .i64 x17.2.2.2.2.2.2.2.1,.int .i64 x17.2.2.2.2.2.2.2.2.1,.int .i64 x17.2.2.2.2.2.2.2.2.2.1,.slice x17.2.2.2.2.2.2.2.2.2.2.1.1 x17.2.2.2.2.2.2.2.2.2.2.1.2.1 x17.2.2.2.2.2.2.2.2.2.2.1.2.2],.int .i64 z15.1] w16 false [(true,[(.i .i64),(.i .i64),(.i .i64),(.i .i64),(.i .i64),(.i .i64),(.i .i64),(.i .i64),(.i .i64),(.i .i64),.b])] fun r18 w19=>
Ae prog F.Uz [.agg #[.int .i64 r18.1.1,.int .i64 r18.1.2.1,.int .i64 r18.1.2.2.1,.int .i64 r18.1.2.2.2.1,.int .i64 r18.1.2.2.2.2.1,.int .i64 r18.1.2.2.2.2.2.1,.int .i64 r18.1.2.2.2.2.2.2.1,.int .i64 r18.1.2.2.2.2.2.2.2.1,.int .i64 r18.1.2.2.2.2.2.2.2.2.1,.int .i64 r18.1.2.2.2.2.2.2.2.2.2.1,.bool r18.1.2.2.2.2.2.2.2.2.2.2.1],.pointer leaps] w19 true [(false,[.p]),(false,[(.i .i64)])] fun r20 w21=>
Aj (r20.2.1.1 !=0) (
R ((none,()),(r20.2.1.1,()),()) w21) (
ld1 .sl (p11.add 12) w21 fun x22=>
Bf [.pointer r20.1.1] T.N8 w21 fun p23 w24=>
L9 ((Builtin.append_ #[T.Oy,T.Oy] T.Oy #[.slice x22.1 x22.2.1 x22.2.2,.slice (some p23) 1 1]).run prog w24) fun y25 w26=>
Au [.slice y25.1 y25.2.1 y25.2.2] (p11.add 12) 0 w26 fun w27=>
self14 (wrap .i64 (z15.1+1),()) w27)) (
R ((some p11,()),(0,()),()) w16)) (0,()) w12)
theorem Jw.eq(s0:Int)(s1:Int)(s2:Int)(s3:Int)(s4:Int)(s5:Int)(s6:Int)(s7:Int)(s8:Int)(s9:Int)(s10:Option Addr×Nat×Nat)(leaps:Option Addr)(w:World)(R:Value→WP):A7 prog Tryz.f17 (.s .n (.s .n (.s .n (.s .n (.s .n (.s (.s .n (.lp [(31,(.i .i64))] .n)) .n)))))) [.agg #[.int .i64 s0,.int .i64 s1,.int .i64 s2,.int .i64 s3,.int .i64 s4,.int .i64 s5,.int .i64 s6,.int .i64 s7,.int .i64 s8,.int .i64 s9,.slice s10.1 s10.2.1 s10.2.2],.pointer leaps] w R=Jw.wp s0 s1 s2 s3 s4 s5 s6 s7 s8 s9 s10 leaps w (fun r w=>R (encR true [(false,[.p]),(false,[(.i .i64)])] r) w):=by kernel_rfl
theorem Jw.ok{s0:Int}{s1:Int}{s2:Int}{s3:Int}{s4:Int}{s5:Int}{s6:Int}{s7:Int}{s8:Int}{s9:Int}{s10:Option Addr×Nat×Nat}{leaps:Option Addr}{w:World}{R:TR [(false,[.p]),(false,[(.i .i64)])]→WP}(h:Jw.wp s0 s1 s2 s3 s4 s5 s6 s7 s8 s9 s10 leaps w R):Ae prog F.Jw [.agg #[.int .i64 s0,.int .i64 s1,.int .i64 s2,.int .i64 s3,.int .i64 s4,.int .i64 s5,.int .i64 s6,.int .i64 s7,.int .i64 s8,.int .i64 s9,.slice s10.1 s10.2.1 s10.2.2],.pointer leaps] w true [(false,[.p]),(false,[(.i .i64)])] R:=
  Aop Aa Tryz.func17 (fun R=>Jw.wp s0 s1 s2 s3 s4 s5 s6 s7 s8 s9 s10 leaps w R) (Jw.eq s0 s1 s2 s3 s4 s5 s6 s7 s8 s9 s10 leaps w) rfl h
def Dv.wp(n:Option Addr)(i:Int)(w:World)(R:TR [(true,[.b,(.i .u16),(.i .i64),(.i .i64),.b,.b,(.i .i64),(.i .i64),(.i .i64),.b,(.i .i64),(.i .i64)])]→WP):Prop:=
Bf [.bool false,.int .u16 0,.int .i64 0,.int .i64 0,.bool false,.bool false,.int .i64 0,.int .i64 0,.int .i64 0,.bool false,.int .i64 0,.int .i64 0] T.nK w fun p1 w2=>
Ae prog F.Gi [.pointer n,.int .i64 i] w2 false [(false,[.p])] fun r3 w4=>
Ae prog F.Cb [.pointer r3.1.1] w4 false [(true,[.b,(.i .u16),(.i .i64),(.i .i64),.b,.b,(.i .i64),(.i .i64),(.i .i64),.b,(.i .i64),(.i .i64)])] fun r5 w6=>
Au [.bool r5.1.1,.int .u16 r5.1.2.1,.int .i64 r5.1.2.2.1,.int .i64 r5.1.2.2.2.1,.bool r5.1.2.2.2.2.1,.bool r5.1.2.2.2.2.2.1,.int .i64 r5.1.2.2.2.2.2.2.1,.int .i64 r5.1.2.2.2.2.2.2.2.1,.int .i64 r5.1.2.2.2.2.2.2.2.2.1,.bool r5.1.2.2.2.2.2.2.2.2.2.1,.int .i64 r5.1.2.2.2.2.2.2.2.2.2.2.1,.int .i64 r5.1.2.2.2.2.2.2.2.2.2.2.2.1] p1 0 w6 fun w7=>
A8 [.b,(.i .u16),(.i .i64),(.i .i64),.b,.b,(.i .i64),(.i .i64),(.i .i64),.b,(.i .i64),(.i .i64)] p1 0 w7 fun x8=>
R ((x8.1,x8.2.1,x8.2.2.1,x8.2.2.2.1,x8.2.2.2.2.1,x8.2.2.2.2.2.1,x8.2.2.2.2.2.2.1,x8.2.2.2.2.2.2.2.1,x8.2.2.2.2.2.2.2.2.1,x8.2.2.2.2.2.2.2.2.2.1,x8.2.2.2.2.2.2.2.2.2.2.1,x8.2.2.2.2.2.2.2.2.2.2.2.1,()),()) w7
theorem Dv.eq(n:Option Addr)(i:Int)(w:World)(R:Value→WP):A7 prog Tryz.f19 .n [.pointer n,.int .i64 i] w R=Dv.wp n i w (fun r w=>R (encR false [(true,[.b,(.i .u16),(.i .i64),(.i .i64),.b,.b,(.i .i64),(.i .i64),(.i .i64),.b,(.i .i64),(.i .i64)])] r) w):=by kernel_rfl
theorem Dv.ok{n:Option Addr}{i:Int}{w:World}{R:TR [(true,[.b,(.i .u16),(.i .i64),(.i .i64),.b,.b,(.i .i64),(.i .i64),(.i .i64),.b,(.i .i64),(.i .i64)])]→WP}(h:Dv.wp n i w R):Ae prog F.Dv [.pointer n,.int .i64 i] w false [(true,[.b,(.i .u16),(.i .i64),(.i .i64),.b,.b,(.i .i64),(.i .i64),(.i .i64),.b,(.i .i64),(.i .i64)])] R:=
  Aop Aa Tryz.func19 (fun R=>Dv.wp n i w R) (Dv.eq n i w) rfl h
def Cf.wp(n:Option Addr)(w:World)(R:TR [(false,[(.i .i64)])]→WP):Prop:=
Aj (Option.isNone n) (
R ((0,()),()) w) (
Aq n fun a1=>
ld1 (.i .i64) (a1.add 13) w fun x2=>
R ((x2,()),()) w)
theorem Cf.eq(n:Option Addr)(w:World)(R:Value→WP):A7 prog Tryz.f20 .n [.pointer n] w R=Cf.wp n w (fun r w=>R (encR false [(false,[(.i .i64)])] r) w):=by kernel_rfl
theorem Cf.ok{n:Option Addr}{w:World}{R:TR [(false,[(.i .i64)])]→WP}(h:Cf.wp n w R):Ae prog F.Cf [.pointer n] w false [(false,[(.i .i64)])] R:=
  Aop Aa Tryz.func20 (fun R=>Cf.wp n w R) (Cf.eq n w) rfl h
def J8.wp(s0:Int)(s1:Int)(s2:Int)(s3:Int)(s4:Int)(s5:Int)(s6:Int)(s7:Int)(s8:Int)(s9:Int)(s10:Option Addr×Nat×Nat)(i:Int)(w:World)(R:TR [(true,[(.i .i64),(.i .i64),(.i .i64),(.i .i64),(.i .i64),(.i .i64),(.i .i64),(.i .i64),(.i .i64),(.i .i64),.b])]→WP):Prop:=
Bf [.int .i64 s0,.int .i64 s1,.int .i64 s2,.int .i64 s3,.int .i64 s4,.int .i64 s5,.int .i64 s6,.int .i64 s7,.int .i64 s8,.int .i64 s9,.slice s10.1 s10.2.1 s10.2.2] T.O5 w fun p1 w2=>
Bf [.int .i64 0,.int .i64 0,.int .i64 0,.int .i64 0,.int .i64 0,.int .i64 0,.int .i64 0,.int .i64 0,.int .i64 0,.int .i64 0,.bool false] T.Xj w2 fun p3 w4=>
Cc (fun(J5:((Int)×Unit)→WP)=>
ld1 (.i .i64) (p1.add 5) w4 fun x8=>
Aj (decide (x8>0)) (
ld1 (.i .i64) (p1.add 5) w4 fun x9=>
dF x9 (
J5 (Int.tmod i x9,()) w4)) (
J5 (0,()) w4)) (fun(z6:(Int)×Unit) w7=> ∀_:Nat→Value,
Cc (fun(J10:((Int)×Unit)→WP)=>
ld1 .sl (p1.add 10) w7 fun x13=>
Aj (decide (i<(x13.2.1:Int))) (
ld1 .sl (p1.add 10) w7 fun x14=>
Ny x14.1 x14.2.1 i fun a15=>
ld1 (.i .i64) (a15.add (i.toNat*1)) w7 fun x16=>
J10 (x16,()) w7) (
J10 (z6.1,()) w7)) (fun(z11:(Int)×Unit) w12=> ∀_:Nat→Value,
ld1 (.i .i64) (p1.add 1) w12 fun x17=>
ld1 (.i .i64) (p1.add 2) w12 fun x18=>
ld1 (.i .i64) (p1.add 3) w12 fun x19=>
ld1 (.i .i64) (p1.add 4) w12 fun x20=>
ld1 (.i .i64) (p1.add 5) w12 fun x21=>
ld1 (.i .i64) (p1.add 6) w12 fun x22=>
ld1 (.i .i64) (p1.add 7) w12 fun x23=>
ld1 (.i .i64) (p1.add 8) w12 fun x24=>
ld1 (.i .i64) (p1.add 9) w12 fun x25=>
Au [.int .i64 i,.int .i64 x17,.int .i64 x18,.int .i64 x19,.int .i64 x20,.int .i64 x21,.int .i64 x22,.int .i64 z11.1,.int .i64 x23,.int .i64 x24,.bool (i==x25)] p3 0 w12 fun w26=>
A8 [(.i .i64),(.i .i64),(.i .i64),(.i .i64),(.i .i64),(.i .i64),(.i .i64),(.i .i64),(.i .i64),(.i .i64),.b] p3 0 w26 fun x27=>
R ((x27.1,x27.2.1,x27.2.2.1,x27.2.2.2.1,x27.2.2.2.2.1,x27.2.2.2.2.2.1,x27.2.2.2.2.2.2.1,x27.2.2.2.2.2.2.2.1,x27.2.2.2.2.2.2.2.2.1,x27.2.2.2.2.2.2.2.2.2.1,x27.2.2.2.2.2.2.2.2.2.2.1,()),()) w26))
theorem J8.eq(s0:Int)(s1:Int)(s2:Int)(s3:Int)(s4:Int)(s5:Int)(s6:Int)(s7:Int)(s8:Int)(s9:Int)(s10:Option Addr×Nat×Nat)(i:Int)(w:World)(R:Value→WP):A7 prog Tryz.f22 (.s .n (.s .n (.ct [(5,(.i .i64))] .n (.ct [(5,(.i .i64))] .n .n)))) [.agg #[.int .i64 s0,.int .i64 s1,.int .i64 s2,.int .i64 s3,.int .i64 s4,.int .i64 s5,.int .i64 s6,.int .i64 s7,.int .i64 s8,.int .i64 s9,.slice s10.1 s10.2.1 s10.2.2],.int .i64 i] w R=J8.wp s0 s1 s2 s3 s4 s5 s6 s7 s8 s9 s10 i w (fun r w=>R (encR false [(true,[(.i .i64),(.i .i64),(.i .i64),(.i .i64),(.i .i64),(.i .i64),(.i .i64),(.i .i64),(.i .i64),(.i .i64),.b])] r) w):=by kernel_rfl
theorem J8.ok{s0:Int}{s1:Int}{s2:Int}{s3:Int}{s4:Int}{s5:Int}{s6:Int}{s7:Int}{s8:Int}{s9:Int}{s10:Option Addr×Nat×Nat}{i:Int}{w:World}{R:TR [(true,[(.i .i64),(.i .i64),(.i .i64),(.i .i64),(.i .i64),(.i .i64),(.i .i64),(.i .i64),(.i .i64),(.i .i64),.b])]→WP}(h:J8.wp s0 s1 s2 s3 s4 s5 s6 s7 s8 s9 s10 i w R):Ae prog F.J8 [.agg #[.int .i64 s0,.int .i64 s1,.int .i64 s2,.int .i64 s3,.int .i64 s4,.int .i64 s5,.int .i64 s6,.int .i64 s7,.int .i64 s8,.int .i64 s9,.slice s10.1 s10.2.1 s10.2.2],.int .i64 i] w false [(true,[(.i .i64),(.i .i64),(.i .i64),(.i .i64),(.i .i64),(.i .i64),(.i .i64),(.i .i64),(.i .i64),(.i .i64),.b])] R:=
  Aop Aa Tryz.func22 (fun R=>J8.wp s0 s1 s2 s3 s4 s5 s6 s7 s8 s9 s10 i w R) (J8.eq s0 s1 s2 s3 s4 s5 s6 s7 s8 s9 s10 i w) rfl h
def law27_alive.wp(w:World)(R:TR [(false,[.b])]→WP):Prop:=
Ae prog F.law27_setup [.agg #[.int .i64 2,.int .i64 1,.int .i64 0,.int .i64 1,.int .i64 0,.int .i64 2,.int .i64 2,.int .i64 1,.int .i64 0,.int .i64 (Int.negSucc 0),.slice none 0 0]] w false [(true,[(.i .i64),(.i .i64),(.i .i64),(.i .i64),(.i .i64),(.i .i64),(.i .i64),(.i .i64),(.i .i64),(.i .i64),.sl])] fun r1 w2=>
Ae prog F.Jw [.agg #[.int .i64 r1.1.1,.int .i64 r1.1.2.1,.int .i64 r1.1.2.2.1,.int .i64 r1.1.2.2.2.1,.int .i64 r1.1.2.2.2.2.1,.int .i64 r1.1.2.2.2.2.2.1,.int .i64 r1.1.2.2.2.2.2.2.1,.int .i64 r1.1.2.2.2.2.2.2.2.1,.int .i64 r1.1.2.2.2.2.2.2.2.2.1,.int .i64 r1.1.2.2.2.2.2.2.2.2.2.1,.slice r1.1.2.2.2.2.2.2.2.2.2.2.1.1 r1.1.2.2.2.2.2.2.2.2.2.2.1.2.1 r1.1.2.2.2.2.2.2.2.2.2.2.1.2.2],.pointer none] w2 true [(false,[.p]),(false,[(.i .i64)])] fun r3 w4=>
Ae prog F.Eg [.pointer r3.1.1,.int .i64 0,.int .i64 1,.bool true] w4 false [(false,[(.i .i64)])] fun r5 w6=>
Ae prog F.Gx [.pointer r3.1.1,.int .i64 0,.int .u32 5] w6 false [(false,[(.i .i64)])] fun r7 w8=>
Ae prog F.Gx [.pointer r3.1.1,.int .i64 1,.int .u32 700] w8 false [(false,[(.i .i64)])] fun r9 w10=>
Ci (fun(self11:((Int)×Unit)→WP) (z12:(Int)×Unit) w13=> ∀_:Nat→Value,
Aj (decide (z12.1<3)) (
Bf [.int .i64 1000,.int .i64 1000] T.int w13 fun p14 w15=>
Bf [.int .i64 0,.int .i64 0] T.int w15 fun p16 w17=>
Bf [.int .i64 0,.int .i64 0] T.int w17 fun p18 w19=>
Ae prog F.Ep [.pointer r3.1.1,.agg #[.slice (some p14) 2 2,.slice (some p16) 2 2,.slice (some p18) 2 2,.slice none 0 0]] w19 false [(false,[(.i .i64)])] fun r20 w21=>
Aj (r20.1.1 !=0) (
R ((false,()),()) w21) (
self11 (wrap .i64 (z12.1+1),()) w21)) (
Ae prog F.Bz [.pointer r3.1.1,.int .i64 1] w13 true [(true,[(.i .i64),(.i .i64),(.i .i64),(.i .u16),(.i .i64)]),(false,[(.i .i64)])] fun r22 w23=>
Bf [.int .i64 0,.int .i64 0,.int .i64 0,.int .u16 0,.int .i64 0] T.Bg w23 fun p24 w25=>
Au [.int .i64 r22.1.1,.int .i64 r22.1.2.1,.int .i64 r22.1.2.2.1,.int .u16 r22.1.2.2.2.1,.int .i64 r22.1.2.2.2.2.1] p24 0 w25 fun w26=>
Aj (r3.2.1.1==0) (
Aj (r5.1.1==0) (
Aj (r7.1.1==0) (
Aj (r9.1.1==0) (
Aj (r22.2.1.1==0) (
ld1 (.i .i64) (p24.add 2) w26 fun x27=>
Aj (x27==0) (
ld1 (.i .i64) p24 w26 fun x28=>
Aj (x28==3005) (
Ae prog F.Cf [.pointer r3.1.1] w26 false [(false,[(.i .i64)])] fun r29 w30=>
R (((r29.1.1==3),()),()) w30) (
R ((false,()),()) w26)) (
R ((false,()),()) w26)) (
R ((false,()),()) w26)) (
R ((false,()),()) w26)) (
R ((false,()),()) w26)) (
R ((false,()),()) w26)) (
R ((false,()),()) w26))) (0,()) w10
theorem law27_alive.eq(w:World)(R:Value→WP):A7 prog Tryz.f25 (.s .n (.s .n (.s .n (.s (.s .n (.lp [(6,(.i .i64))] .n)) .n)))) [] w R=law27_alive.wp w (fun r w=>R (encR false [(false,[.b])] r) w):=by kernel_rfl
theorem law27_alive.ok{w:World}{R:TR [(false,[.b])]→WP}(h:law27_alive.wp w R):Ae prog F.law27_alive [] w false [(false,[.b])] R:=
  Aop Aa Tryz.func25 (fun R=>law27_alive.wp w R) (law27_alive.eq w) rfl h
def law27_setup.wp(s0:Int)(s1:Int)(s2:Int)(s3:Int)(s4:Int)(s5:Int)(s6:Int)(s7:Int)(s8:Int)(s9:Int)(s10:Option Addr×Nat×Nat)(w:World)(R:TR [(true,[(.i .i64),(.i .i64),(.i .i64),(.i .i64),(.i .i64),(.i .i64),(.i .i64),(.i .i64),(.i .i64),(.i .i64),.sl])]→WP):Prop:=
Bf [.int .i64 s0,.int .i64 s1,.int .i64 s2,.int .i64 s3,.int .i64 s4,.int .i64 s5,.int .i64 s6,.int .i64 s7,.int .i64 s8,.int .i64 s9,.slice s10.1 s10.2.1 s10.2.2] T.O5 w fun p1 w2=>
Bf [.int .i64 0,.int .i64 0,.int .i64 0,.int .i64 0,.int .i64 0,.int .i64 0,.int .i64 0,.int .i64 0,.int .i64 0,.int .i64 0,.slice none 0 0] T.Vd w2 fun p3 w4=>
Jg w4 fun w5=>
ld1 (.i .i64) p1 w5 fun x6=>
ld1 (.i .i64) (p1.add 1) w5 fun x7=>
ld1 (.i .i64) (p1.add 2) w5 fun x8=>
ld1 (.i .i64) (p1.add 3) w5 fun x9=>
ld1 (.i .i64) (p1.add 4) w5 fun x10=>
ld1 (.i .i64) (p1.add 5) w5 fun x11=>
ld1 (.i .i64) (p1.add 6) w5 fun x12=>
ld1 (.i .i64) (p1.add 7) w5 fun x13=>
ld1 (.i .i64) (p1.add 8) w5 fun x14=>
ld1 (.i .i64) (p1.add 9) w5 fun x15=>
ld1 .sl (p1.add 10) w5 fun x16=>
Bf [] T.int w5 fun p17 w18=>
Aw [(24,(p1.add 10),(w5.cell? (p1.add 10)).getD undef),(21,(p1.add 9),(w5.cell? (p1.add 9)).getD undef),(19,(p1.add 8),(w5.cell? (p1.add 8)).getD undef),(17,(p1.add 7),(w5.cell? (p1.add 7)).getD undef),(15,(p1.add 6),(w5.cell? (p1.add 6)).getD undef),(13,(p1.add 5),(w5.cell? (p1.add 5)).getD undef),(10,(p1.add 4),(w5.cell? (p1.add 4)).getD undef),(8,(p1.add 3),(w5.cell? (p1.add 3)).getD undef),(5,(p1.add 2),(w5.cell? (p1.add 2)).getD undef),(3,(p1.add 1),(w5.cell? (p1.add 1)).getD undef),(1,p1,(w5.cell? p1).getD undef)] w18∧(
L9 ((Builtin.append_ #[T.V5,T.V5] T.V5 #[.slice (some p17) 0 0,.slice x16.1 x16.2.1 x16.2.2]).run prog w18) fun y19 w20=>
Aw [(21,(p1.add 9),(w5.cell? (p1.add 9)).getD undef),(19,(p1.add 8),(w5.cell? (p1.add 8)).getD undef),(17,(p1.add 7),(w5.cell? (p1.add 7)).getD undef),(15,(p1.add 6),(w5.cell? (p1.add 6)).getD undef),(13,(p1.add 5),(w5.cell? (p1.add 5)).getD undef),(10,(p1.add 4),(w5.cell? (p1.add 4)).getD undef),(8,(p1.add 3),(w5.cell? (p1.add 3)).getD undef),(5,(p1.add 2),(w5.cell? (p1.add 2)).getD undef),(3,(p1.add 1),(w5.cell? (p1.add 1)).getD undef),(1,p1,(w5.cell? p1).getD undef)] w20∧(
Au [.int .i64 x6,.int .i64 x7,.int .i64 x8,.int .i64 x9,.int .i64 x10,.int .i64 x11,.int .i64 x12,.int .i64 x13,.int .i64 x14,.int .i64 x15,.slice y19.1 y19.2.1 y19.2.2] p3 0 w20 fun w21=>
Aw [] w21∧(
A8 [(.i .i64),(.i .i64),(.i .i64),(.i .i64),(.i .i64),(.i .i64),(.i .i64),(.i .i64),(.i .i64),(.i .i64),.sl] p3 0 w21 fun x22=>
R ((x22.1,x22.2.1,x22.2.2.1,x22.2.2.2.1,x22.2.2.2.2.1,x22.2.2.2.2.2.1,x22.2.2.2.2.2.2.1,x22.2.2.2.2.2.2.2.1,x22.2.2.2.2.2.2.2.2.1,x22.2.2.2.2.2.2.2.2.2.1,(x22.2.2.2.2.2.2.2.2.2.2.1.1,x22.2.2.2.2.2.2.2.2.2.2.1.2.1,x22.2.2.2.2.2.2.2.2.2.2.1.2.2),()),()) w21)))
theorem law27_setup.eq(s0:Int)(s1:Int)(s2:Int)(s3:Int)(s4:Int)(s5:Int)(s6:Int)(s7:Int)(s8:Int)(s9:Int)(s10:Option Addr×Nat×Nat)(w:World)(R:Value→WP):A7 prog Tryz.f26 (.s .n (.s (.pl (.tk 0 (.tk 1 (.tk 2 (.tk 3 (.tk 4 (.tk 5 (.tk 6 (.tk 7 (.tk 8 (.tk 9 (.tk 10 (.tk 11 (.tk 12 (.tk 13 (.tk 14 (.tk 15 (.tk 16 (.tk 17 (.tk 18 (.tk 19 (.tk 20 (.tk 21 (.tk 23 (.tk 24 (.ef 22 [] (.ef 25 [24] (.tk 26 (.ef 27 [1,3,5,8,10,13,15,17,19,21] .z))))))))))))))))))))))))))))) .n)) [.agg #[.int .i64 s0,.int .i64 s1,.int .i64 s2,.int .i64 s3,.int .i64 s4,.int .i64 s5,.int .i64 s6,.int .i64 s7,.int .i64 s8,.int .i64 s9,.slice s10.1 s10.2.1 s10.2.2]] w R=law27_setup.wp s0 s1 s2 s3 s4 s5 s6 s7 s8 s9 s10 w (fun r w=>R (encR false [(true,[(.i .i64),(.i .i64),(.i .i64),(.i .i64),(.i .i64),(.i .i64),(.i .i64),(.i .i64),(.i .i64),(.i .i64),.sl])] r) w):=by kernel_rfl
theorem law27_setup.ok{s0:Int}{s1:Int}{s2:Int}{s3:Int}{s4:Int}{s5:Int}{s6:Int}{s7:Int}{s8:Int}{s9:Int}{s10:Option Addr×Nat×Nat}{w:World}{R:TR [(true,[(.i .i64),(.i .i64),(.i .i64),(.i .i64),(.i .i64),(.i .i64),(.i .i64),(.i .i64),(.i .i64),(.i .i64),.sl])]→WP}(h:law27_setup.wp s0 s1 s2 s3 s4 s5 s6 s7 s8 s9 s10 w R):Ae prog F.law27_setup [.agg #[.int .i64 s0,.int .i64 s1,.int .i64 s2,.int .i64 s3,.int .i64 s4,.int .i64 s5,.int .i64 s6,.int .i64 s7,.int .i64 s8,.int .i64 s9,.slice s10.1 s10.2.1 s10.2.2]] w false [(true,[(.i .i64),(.i .i64),(.i .i64),(.i .i64),(.i .i64),(.i .i64),(.i .i64),(.i .i64),(.i .i64),(.i .i64),.sl])] R:=
  Aop Aa Tryz.func26 (fun R=>law27_setup.wp s0 s1 s2 s3 s4 s5 s6 s7 s8 s9 s10 w R) (law27_setup.eq s0 s1 s2 s3 s4 s5 s6 s7 s8 s9 s10 w) rfl h
def law27_great.wp(a0:Int)(a1:Int)(a2:Int)(a3:Bool)(a4:Int)(a5:ByteArray)(a6:Option Addr×Nat×Nat)(a7:Option Addr×Nat×Nat)(a8:Option Addr×Nat×Nat)(a9:Option Addr×Nat×Nat)(a10:Option Addr×Nat×Nat)(w:World)(R:TR [(false,[.b])]→WP):Prop:=
Bf [.int .i64 a0,.int .i64 a1,.int .i64 a2,.bool a3,.int .u32 a4,.string a5,.slice a6.1 a6.2.1 a6.2.2,.slice a7.1 a7.2.1 a7.2.2,.slice a8.1 a8.2.1 a8.2.2,.slice a9.1 a9.2.1 a9.2.2,.slice a10.1 a10.2.1 a10.2.2] T.law27_Act w fun p1 w2=>
A8 [.sl,.sl,.sl,.sl] (p1.add 7) 0 w2 fun x3=>
Bf [.slice none 0 0,.slice none 0 0,.slice none 0 0,.slice none 0 0] T.U0 w2 fun p4 w5=>
Au [.slice x3.1.1 x3.1.2.1 x3.1.2.2,.slice x3.2.1.1 x3.2.1.2.1 x3.2.1.2.2,.slice x3.2.2.1.1 x3.2.2.1.2.1 x3.2.2.1.2.2,.slice x3.2.2.2.1.1 x3.2.2.2.1.2.1 x3.2.2.2.1.2.2] p4 0 w5 fun w6=>
ld1 .sl (p1.add 6) w6 fun x7=>
Aj (decide ((x7.2.1:Int)>200)) (
R ((true,()),()) w6) (
ld1 .s (p1.add 5) w6 fun x8=>
Aj (decide ((x8.size:Int)>100)) (
R ((true,()),()) w6) (
ld1 .sl p4 w6 fun x9=>
Aj (decide ((x9.2.1:Int)>100)) (
R ((true,()),()) w6) (
ld1 .sl (p4.add 1) w6 fun x10=>
Aj (decide ((x10.2.1:Int)>100)) (
R ((true,()),()) w6) (
ld1 .sl (p4.add 2) w6 fun x11=>
Aj (decide ((x11.2.1:Int)>100)) (
R ((true,()),()) w6) (
ld1 .sl (p4.add 3) w6 fun x12=>
R ((decide ((x12.2.1:Int)>100),()),()) w6)))))
theorem law27_great.eq(a0:Int)(a1:Int)(a2:Int)(a3:Bool)(a4:Int)(a5:ByteArray)(a6:Option Addr×Nat×Nat)(a7:Option Addr×Nat×Nat)(a8:Option Addr×Nat×Nat)(a9:Option Addr×Nat×Nat)(a10:Option Addr×Nat×Nat)(w:World)(R:Value→WP):A7 prog Tryz.f27 .n [.agg #[.int .i64 a0,.int .i64 a1,.int .i64 a2,.bool a3,.int .u32 a4,.string a5,.slice a6.1 a6.2.1 a6.2.2,.slice a7.1 a7.2.1 a7.2.2,.slice a8.1 a8.2.1 a8.2.2,.slice a9.1 a9.2.1 a9.2.2,.slice a10.1 a10.2.1 a10.2.2]] w R=law27_great.wp a0 a1 a2 a3 a4 a5 a6 a7 a8 a9 a10 w (fun r w=>R (encR false [(false,[.b])] r) w):=by kernel_rfl
theorem law27_great.ok{a0:Int}{a1:Int}{a2:Int}{a3:Bool}{a4:Int}{a5:ByteArray}{a6:Option Addr×Nat×Nat}{a7:Option Addr×Nat×Nat}{a8:Option Addr×Nat×Nat}{a9:Option Addr×Nat×Nat}{a10:Option Addr×Nat×Nat}{w:World}{R:TR [(false,[.b])]→WP}(h:law27_great.wp a0 a1 a2 a3 a4 a5 a6 a7 a8 a9 a10 w R):Ae prog F.law27_great [.agg #[.int .i64 a0,.int .i64 a1,.int .i64 a2,.bool a3,.int .u32 a4,.string a5,.slice a6.1 a6.2.1 a6.2.2,.slice a7.1 a7.2.1 a7.2.2,.slice a8.1 a8.2.1 a8.2.2,.slice a9.1 a9.2.1 a9.2.2,.slice a10.1 a10.2.1 a10.2.2]] w false [(false,[.b])] R:=
  Aop Aa Tryz.func27 (fun R=>law27_great.wp a0 a1 a2 a3 a4 a5 a6 a7 a8 a9 a10 w R) (law27_great.eq a0 a1 a2 a3 a4 a5 a6 a7 a8 a9 a10 w) rfl h
def Eg.wp(n:Option Addr)(i:Int)(k:Int)(on_:Bool)(w:World)(R:TR [(false,[(.i .i64)])]→WP):Prop:=
Aj (Option.isNone n) (
R ((2,()),()) w) (
Aq n fun a1=>
ld1 .p (a1.add 11) w fun x2=>
Ae prog F.D7 [.pointer x2,.int .i64 i,.int .i64 k,.bool on_] w false [(false,[(.i .i64)])] fun r3 w4=>
R ((r3.1.1,()),()) w4)
theorem Eg.eq(n:Option Addr)(i:Int)(k:Int)(on_:Bool)(w:World)(R:Value→WP):A7 prog Tryz.f28 .n [.pointer n,.int .i64 i,.int .i64 k,.bool on_] w R=Eg.wp n i k on_ w (fun r w=>R (encR false [(false,[(.i .i64)])] r) w):=by kernel_rfl
theorem Eg.ok{n:Option Addr}{i:Int}{k:Int}{on_:Bool}{w:World}{R:TR [(false,[(.i .i64)])]→WP}(h:Eg.wp n i k on_ w R):Ae prog F.Eg [.pointer n,.int .i64 i,.int .i64 k,.bool on_] w false [(false,[(.i .i64)])] R:=
  Aop Aa Tryz.func28 (fun R=>Eg.wp n i k on_ w R) (Eg.eq n i k on_ w) rfl h
def Ep.wp(n:Option Addr)(c0:Option Addr×Nat×Nat)(c1:Option Addr×Nat×Nat)(c2:Option Addr×Nat×Nat)(c3:Option Addr×Nat×Nat)(w:World)(R:TR [(false,[(.i .i64)])]→WP):Prop:=
Bf [.slice c0.1 c0.2.1 c0.2.2,.slice c1.1 c1.2.1 c1.2.2,.slice c2.1 c2.2.1 c2.2.2,.slice c3.1 c3.2.1 c3.2.2] T.Pv w fun p1 w2=>
A8 [.sl,.sl,.sl,.sl] p1 0 w2 fun x3=>
Ae prog F.Gz [.pointer n,.agg #[.slice x3.1.1 x3.1.2.1 x3.1.2.2,.slice x3.2.1.1 x3.2.1.2.1 x3.2.1.2.2,.slice x3.2.2.1.1 x3.2.2.1.2.1 x3.2.2.1.2.2,.slice x3.2.2.2.1.1 x3.2.2.2.1.2.1 x3.2.2.2.1.2.2]] w2 false [(false,[(.i .i64)])] fun r4 w5=>
Aj (r4.1.1 !=0) (
R ((r4.1.1,()),()) w5) (
Aq n fun a6=>
ld1 .sl (a6.add 12) w5 fun x7=>
Ci (fun(self8:((Int)×Unit)→WP) (z9:(Int)×Unit) w10=> ∀_:Nat→Value,
Aj (decide (z9.1<(x7.2.1:Int))) (
Ny x7.1 x7.2.1 z9.1 fun a11=>
ld1 .p (a11.add (z9.1.toNat*1)) w10 fun x12=>
ld1 .sl p1 w10 fun x13=>
Ny x13.1 x13.2.1 z9.1 fun a14=>
ld1 (.i .i64) (a14.add (z9.1.toNat*1)) w10 fun x15=>
Ae prog F.Lr [.pointer x12,.int .i64 x15] w10 false [(false,[(.i .i64)])] fun r16 w17=>
self8 (wrap .i64 (z9.1+1),()) w17) (
A8 [.sl,.sl,.sl,.sl] p1 0 w10 fun x18=>
Ae prog F.Ht [.pointer n,.agg #[.slice x18.1.1 x18.1.2.1 x18.1.2.2,.slice x18.2.1.1 x18.2.1.2.1 x18.2.1.2.2,.slice x18.2.2.1.1 x18.2.2.1.2.1 x18.2.2.1.2.2,.slice x18.2.2.2.1.1 x18.2.2.2.1.2.1 x18.2.2.2.1.2.2]] w10 false [(false,[.sl])] fun r19 w20=>
Jg w20 fun w21=>
Aq n fun a22=>
ld1 .p (a22.add 11) w21 fun x23=>
Aq n fun a24=>
ld1 (.i .u64) (a24.add 14) w21 fun x25=>
ld1 .sl (p1.add 3) w21 fun x26=>
Ae prog F.Ha [.pointer n] w21 false [(false,[(.i .u64)])] fun r27 w28=>
Aw [(12,(p1.add 3),(w21.cell? (p1.add 3)).getD undef),(8,(a24.add 14),(w21.cell? (a24.add 14)).getD undef),(4,(a22.add 11),(w21.cell? (a22.add 11)).getD undef)] w28∧(
Ae prog F.Iz [.pointer x23,.int .u64 x25,.int .u64 r27.1.1,.slice x26.1 x26.2.1 x26.2.2] w28 false [(false,[.sl])] fun r29 w30=>
Aw [] w30∧(
Aq n fun a31=>
Au [.slice r29.1.1.1 r29.1.1.2.1 r29.1.1.2.2] (a31.add 15) 0 w30 fun w32=>
Aw [] w32∧(
Aq n fun a33=>
ld1 .sl (a33.add 15) w32 fun x34=>
Ci (fun(self35:((Int)×Unit)→WP) (z36:(Int)×Unit) w37=> ∀_:Nat→Value,
Aj (decide (z36.1<(x34.2.1:Int))) (
Ny x34.1 x34.2.1 z36.1 fun a38=>
A8 [(.i .i64),(.i .i64)] (a38.add (z36.1.toNat*2)) 0 w37 fun x39=>
Bf [.int .i64 0,.int .i64 0] T.Me w37 fun p40 w41=>
Au [.int .i64 x39.1,.int .i64 x39.2.1] p40 0 w41 fun w42=>
ld1 (.i .i64) (p40.add 1) w42 fun x43=>
Aj (x43 !=1) (
self35 (wrap .i64 (z36.1+1),()) w42) (
ld1 (.i .i64) p40 w42 fun x44=>
Ny r19.1.1.1 r19.1.1.2.1 x44 fun a45=>
ld1 .sl (a45.add (x44.toNat*1)) w42 fun x46=>
Ci (fun(self47:((Int)×Unit)→WP) (z48:(Int)×Unit) w49=> ∀_:Nat→Value,
Aj (decide (z48.1<(x46.2.1:Int))) (
Ny x46.1 x46.2.1 z48.1 fun a50=>
ld1 .sl (a50.add (z48.1.toNat*1)) w49 fun x51=>
Jg w49 fun w52=>
Aq n fun a53=>
ld1 .sl (a53.add 12) w52 fun x54=>
Ny x54.1 x54.2.1 z36.1 fun a55=>
ld1 .p (a55.add (z36.1.toNat*1)) w52 fun x56=>
ld1 .sl (p1.add 2) w52 fun x57=>
Ny x57.1 x57.2.1 z36.1 fun a58=>
ld1 (.i .i64) (a58.add (z36.1.toNat*1)) w52 fun x59=>
Ae prog F.Ia [.pointer x56,.int .i64 x59,.slice x51.1 x51.2.1 x51.2.2] w52 false [(false,[(.i .i64)])] fun r60 w61=>
Aw [(8,(p1.add 2),(w52.cell? (p1.add 2)).getD undef),(3,(a53.add 12),(w52.cell? (a53.add 12)).getD undef)] w61∧(
self47 (wrap .i64 (z48.1+1),()) w61)) (
self35 (wrap .i64 (z36.1+1),()) w49)) (0,()) w42)) (
Aq n fun a62=>
ld1 (.i .i64) (a62.add 13) w37 fun x63=>
Aq n fun a64=>
Au [.int .i64 (wrap .i64 (x63+1))] (a64.add 13) 0 w37 fun w65=>
R ((0,()),()) w65)) (0,()) w32))))) (0,()) w5)
theorem Ep.eq(n:Option Addr)(c0:Option Addr×Nat×Nat)(c1:Option Addr×Nat×Nat)(c2:Option Addr×Nat×Nat)(c3:Option Addr×Nat×Nat)(w:World)(R:Value→WP):A7 prog Tryz.f29 (.s .n (.s .n (.s (.s .n (.lp [(24,(.i .i64))] .n)) (.s .n (.s (.pl (.tk 0 (.tk 1 (.tk 2 (.tk 3 (.tk 4 (.tk 5 (.tk 6 (.tk 7 (.tk 8 (.tk 9 (.tk 11 (.tk 12 (.ef 10 [] (.ef 13 [4,8,12] (.tk 14 (.tk 15 (.ef 16 [] .z)))))))))))))))))) (.s (.s .n (.lp [(61,(.i .i64))] (.s .n (.s .n (.s (.s .n (.s .n (.s .n (.lp [(75,(.i .i64))] (.s .n (.s .n (.s (.s .n (.pl (.tk 0 (.tk 1 (.tk 2 (.tk 3 (.tk 4 (.tk 5 (.tk 6 (.tk 7 (.tk 8 (.tk 9 (.tk 10 (.tk 11 (.tk 12 (.ef 13 [6,11] .z)))))))))))))))) .n))))))) .n))))) .n)))))) [.pointer n,.agg #[.slice c0.1 c0.2.1 c0.2.2,.slice c1.1 c1.2.1 c1.2.2,.slice c2.1 c2.2.1 c2.2.2,.slice c3.1 c3.2.1 c3.2.2]] w R=Ep.wp n c0 c1 c2 c3 w (fun r w=>R (encR false [(false,[(.i .i64)])] r) w):=by kernel_rfl
theorem Ep.ok{n:Option Addr}{c0:Option Addr×Nat×Nat}{c1:Option Addr×Nat×Nat}{c2:Option Addr×Nat×Nat}{c3:Option Addr×Nat×Nat}{w:World}{R:TR [(false,[(.i .i64)])]→WP}(h:Ep.wp n c0 c1 c2 c3 w R):Ae prog F.Ep [.pointer n,.agg #[.slice c0.1 c0.2.1 c0.2.2,.slice c1.1 c1.2.1 c1.2.2,.slice c2.1 c2.2.1 c2.2.2,.slice c3.1 c3.2.1 c3.2.2]] w false [(false,[(.i .i64)])] R:=
  Aop Aa Tryz.func29 (fun R=>Ep.wp n c0 c1 c2 c3 w R) (Ep.eq n c0 c1 c2 c3 w) rfl h
def Fb.wp(n:Option Addr)(w:World)(R:TR [(false,[(.i .u64)])]→WP):Prop:=
Aj (Option.isNone n) (
R ((0,()),()) w) (
Aq n fun a1=>
ld1 (.i .u64) (a1.add 14) w fun x2=>
R ((x2,()),()) w)
theorem Fb.eq(n:Option Addr)(w:World)(R:Value→WP):A7 prog Tryz.f31 .n [.pointer n] w R=Fb.wp n w (fun r w=>R (encR false [(false,[(.i .u64)])] r) w):=by kernel_rfl
theorem Fb.ok{n:Option Addr}{w:World}{R:TR [(false,[(.i .u64)])]→WP}(h:Fb.wp n w R):Ae prog F.Fb [.pointer n] w false [(false,[(.i .u64)])] R:=
  Aop Aa Tryz.func31 (fun R=>Fb.wp n w R) (Fb.eq n w) rfl h
def Ii.wp(n:Option Addr)(w:World)(R:TR [(false,[.sl])]→WP):Prop:=
Aj (Option.isNone n) (
R (((none,0,0),()),()) w) (
Aq n fun a1=>
ld1 .sl (a1.add 15) w fun x2=>
L9 ((Builtin.append_ #[T.Kq,T.Kq] T.Kq #[.slice none 0 0,.slice x2.1 x2.2.1 x2.2.2]).run prog w) fun y3 w4=>
R (((y3.1,y3.2.1,y3.2.2),()),()) w4)
theorem Ii.eq(n:Option Addr)(w:World)(R:Value→WP):A7 prog Tryz.f32 .n [.pointer n] w R=Ii.wp n w (fun r w=>R (encR false [(false,[.sl])] r) w):=by kernel_rfl
theorem Ii.ok{n:Option Addr}{w:World}{R:TR [(false,[.sl])]→WP}(h:Ii.wp n w R):Ae prog F.Ii [.pointer n] w false [(false,[.sl])] R:=
  Aop Aa Tryz.func32 (fun R=>Ii.wp n w R) (Ii.eq n w) rfl h
def Bz.wp(n:Option Addr)(i:Int)(w:World)(R:TR [(true,[(.i .i64),(.i .i64),(.i .i64),(.i .u16),(.i .i64)]),(false,[(.i .i64)])]→WP):Prop:=
Bf [.int .i64 0,.int .i64 0,.int .i64 0,.int .u16 0,.int .i64 0] T.Bg w fun p1 w2=>
Ae prog F.Bo [.pointer n,.int .i64 i] w2 false [(false,[(.i .i64)])] fun r3 w4=>
Aj (r3.1.1 !=0) (
Au [.int .i64 0,.int .i64 0,.int .i64 0,.int .u16 0,.int .i64 0] p1 0 w4 fun w5=>
A8 [(.i .i64),(.i .i64),(.i .i64),(.i .u16),(.i .i64)] p1 0 w5 fun x6=>
R ((x6.1,x6.2.1,x6.2.2.1,x6.2.2.2.1,x6.2.2.2.2.1,()),(r3.1.1,()),()) w5) (
Aq n fun a7=>
ld1 .sl (a7.add 12) w4 fun x8=>
Ny x8.1 x8.2.1 i fun a9=>
ld1 .p (a9.add (i.toNat*1)) w4 fun x10=>
Ae prog F.D6 [.pointer x10] w4 true [(true,[(.i .i64),(.i .i64),(.i .i64),(.i .u16),(.i .i64)]),(false,[(.i .i64)])] fun r11 w12=>
Au [.int .i64 r11.1.1,.int .i64 r11.1.2.1,.int .i64 r11.1.2.2.1,.int .u16 r11.1.2.2.2.1,.int .i64 r11.1.2.2.2.2.1] p1 0 w12 fun w13=>
A8 [(.i .i64),(.i .i64),(.i .i64),(.i .u16),(.i .i64)] p1 0 w13 fun x14=>
R ((x14.1,x14.2.1,x14.2.2.1,x14.2.2.2.1,x14.2.2.2.2.1,()),(r11.2.1.1,()),()) w13)
theorem Bz.eq(n:Option Addr)(i:Int)(w:World)(R:Value→WP):A7 prog Tryz.f33 .n [.pointer n,.int .i64 i] w R=Bz.wp n i w (fun r w=>R (encR true [(true,[(.i .i64),(.i .i64),(.i .i64),(.i .u16),(.i .i64)]),(false,[(.i .i64)])] r) w):=by kernel_rfl
theorem Bz.ok{n:Option Addr}{i:Int}{w:World}{R:TR [(true,[(.i .i64),(.i .i64),(.i .i64),(.i .u16),(.i .i64)]),(false,[(.i .i64)])]→WP}(h:Bz.wp n i w R):Ae prog F.Bz [.pointer n,.int .i64 i] w true [(true,[(.i .i64),(.i .i64),(.i .i64),(.i .u16),(.i .i64)]),(false,[(.i .i64)])] R:=
  Aop Aa Tryz.func33 (fun R=>Bz.wp n i w R) (Bz.eq n i w) rfl h
def Gx.wp(n:Option Addr)(i:Int)(raw:Int)(w:World)(R:TR [(false,[(.i .i64)])]→WP):Prop:=
Ae prog F.Bo [.pointer n,.int .i64 i] w false [(false,[(.i .i64)])] fun r1 w2=>
Aj (r1.1.1 !=0) (
R ((r1.1.1,()),()) w2) (
Aq n fun a3=>
ld1 .sl (a3.add 12) w2 fun x4=>
Ny x4.1 x4.2.1 i fun a5=>
ld1 .p (a5.add (i.toNat*1)) w2 fun x6=>
Ae prog F.Ji [.pointer x6,.int .u32 raw] w2 false [(false,[(.i .i64)])] fun r7 w8=>
R ((r7.1.1,()),()) w8)
theorem Gx.eq(n:Option Addr)(i:Int)(raw:Int)(w:World)(R:Value→WP):A7 prog Tryz.f34 .n [.pointer n,.int .i64 i,.int .u32 raw] w R=Gx.wp n i raw w (fun r w=>R (encR false [(false,[(.i .i64)])] r) w):=by kernel_rfl
theorem Gx.ok{n:Option Addr}{i:Int}{raw:Int}{w:World}{R:TR [(false,[(.i .i64)])]→WP}(h:Gx.wp n i raw w R):Ae prog F.Gx [.pointer n,.int .i64 i,.int .u32 raw] w false [(false,[(.i .i64)])] R:=
  Aop Aa Tryz.func34 (fun R=>Gx.wp n i raw w R) (Gx.eq n i raw w) rfl h
def Hm.wp(n:Option Addr)(i:Int)(w:World)(R:TR [(false,[(.i .i64)])]→WP):Prop:=
Ae prog F.Bo [.pointer n,.int .i64 i] w false [(false,[(.i .i64)])] fun r1 w2=>
Aj (r1.1.1 !=0) (
R ((r1.1.1,()),()) w2) (
Aq n fun a3=>
ld1 .sl (a3.add 12) w2 fun x4=>
Ny x4.1 x4.2.1 i fun a5=>
ld1 .p (a5.add (i.toNat*1)) w2 fun x6=>
Ae prog F.Qg [.pointer x6] w2 false [(false,[(.i .i64)])] fun r7 w8=>
R ((r7.1.1,()),()) w8)
theorem Hm.eq(n:Option Addr)(i:Int)(w:World)(R:Value→WP):A7 prog Tryz.f35 .n [.pointer n,.int .i64 i] w R=Hm.wp n i w (fun r w=>R (encR false [(false,[(.i .i64)])] r) w):=by kernel_rfl
theorem Hm.ok{n:Option Addr}{i:Int}{w:World}{R:TR [(false,[(.i .i64)])]→WP}(h:Hm.wp n i w R):Ae prog F.Hm [.pointer n,.int .i64 i] w false [(false,[(.i .i64)])] R:=
  Aop Aa Tryz.func35 (fun R=>Hm.wp n i w R) (Hm.eq n i w) rfl h
def Ho.wp(n:Option Addr)(i:Int)(tai:Int)(w:World)(R:TR [(false,[(.i .i64)])]→WP):Prop:=
Ae prog F.Bo [.pointer n,.int .i64 i] w false [(false,[(.i .i64)])] fun r1 w2=>
Aj (r1.1.1 !=0) (
R ((r1.1.1,()),()) w2) (
Aq n fun a3=>
ld1 .sl (a3.add 12) w2 fun x4=>
Ny x4.1 x4.2.1 i fun a5=>
ld1 .p (a5.add (i.toNat*1)) w2 fun x6=>
Ae prog F.Qc [.pointer x6,.int .i64 tai] w2 false [(false,[(.i .i64)])] fun r7 w8=>
R ((r7.1.1,()),()) w8)
theorem Ho.eq(n:Option Addr)(i:Int)(tai:Int)(w:World)(R:Value→WP):A7 prog Tryz.f36 .n [.pointer n,.int .i64 i,.int .i64 tai] w R=Ho.wp n i tai w (fun r w=>R (encR false [(false,[(.i .i64)])] r) w):=by kernel_rfl
theorem Ho.ok{n:Option Addr}{i:Int}{tai:Int}{w:World}{R:TR [(false,[(.i .i64)])]→WP}(h:Ho.wp n i tai w R):Ae prog F.Ho [.pointer n,.int .i64 i,.int .i64 tai] w false [(false,[(.i .i64)])] R:=
  Aop Aa Tryz.func36 (fun R=>Ho.wp n i tai w R) (Ho.eq n i tai w) rfl h
def Eu.wp(n:Option Addr)(i:Int)(b:Option Addr×Nat×Nat)(w:World)(R:TR [(false,[(.i .i64)])]→WP):Prop:=
Ae prog F.Bo [.pointer n,.int .i64 i] w false [(false,[(.i .i64)])] fun r1 w2=>
Aj (r1.1.1 !=0) (
R ((r1.1.1,()),()) w2) (
Ae prog F.Ru [.slice b.1 b.2.1 b.2.2] w2 true [(false,[.any]),(false,[(.i .i64)])] fun r3 w4=>
Aj (r3.2.1.1==0) (
R ((1,()),()) w4) (
Aq n fun a5=>
ld1 .sl (a5.add 12) w4 fun x6=>
Ny x6.1 x6.2.1 i fun a7=>
ld1 .p (a7.add (i.toNat*1)) w4 fun x8=>
Ae prog F.Ia [.pointer x8,.int .i64 0,.slice b.1 b.2.1 b.2.2] w4 false [(false,[(.i .i64)])] fun r9 w10=>
R ((r9.1.1,()),()) w10))
theorem Eu.eq(n:Option Addr)(i:Int)(b:Option Addr×Nat×Nat)(w:World)(R:Value→WP):A7 prog Tryz.f37 .n [.pointer n,.int .i64 i,.slice b.1 b.2.1 b.2.2] w R=Eu.wp n i b w (fun r w=>R (encR false [(false,[(.i .i64)])] r) w):=by kernel_rfl
theorem Eu.ok{n:Option Addr}{i:Int}{b:Option Addr×Nat×Nat}{w:World}{R:TR [(false,[(.i .i64)])]→WP}(h:Eu.wp n i b w R):Ae prog F.Eu [.pointer n,.int .i64 i,.slice b.1 b.2.1 b.2.2] w false [(false,[(.i .i64)])] R:=
  Aop Aa Tryz.func37 (fun R=>Eu.wp n i b w R) (Eu.eq n i b w) rfl h
def law27_twice.wp(a:Option Addr)(b:Option Addr)(x0:Int)(x1:Int)(x2:Int)(x3:Bool)(x4:Int)(x5:ByteArray)(x6:Option Addr×Nat×Nat)(x7:Option Addr×Nat×Nat)(x8:Option Addr×Nat×Nat)(x9:Option Addr×Nat×Nat)(x10:Option Addr×Nat×Nat)(w:World)(R:TR [(false,[.b])]→WP):Prop:=
Bf [.int .i64 x0,.int .i64 x1,.int .i64 x2,.bool x3,.int .u32 x4,.string x5,.slice x6.1 x6.2.1 x6.2.2,.slice x7.1 x7.2.1 x7.2.2,.slice x8.1 x8.2.1 x8.2.2,.slice x9.1 x9.2.1 x9.2.2,.slice x10.1 x10.2.1 x10.2.2] T.law27_Act w fun p1 w2=>
ld1 (.i .i64) p1 w2 fun x11=>
Aj (x11==0) (
Jg w2 fun w12=>
ld1 (.i .i64) (p1.add 1) w12 fun x13=>
ld1 (.i .i64) (p1.add 2) w12 fun x14=>
ld1 .b (p1.add 3) w12 fun x15=>
ld1 (.i .i64) (p1.add 1) w12 fun x16=>
ld1 (.i .i64) (p1.add 2) w12 fun x17=>
ld1 .b (p1.add 3) w12 fun x18=>
Ae prog F.Eg [.pointer a,.int .i64 x13,.int .i64 x14,.bool x15] w12 false [(false,[(.i .i64)])] fun r19 w20=>
Aw [(14,(p1.add 3),(w12.cell? (p1.add 3)).getD undef),(12,(p1.add 2),(w12.cell? (p1.add 2)).getD undef),(10,(p1.add 1),(w12.cell? (p1.add 1)).getD undef),(6,(p1.add 3),(w12.cell? (p1.add 3)).getD undef),(4,(p1.add 2),(w12.cell? (p1.add 2)).getD undef),(2,(p1.add 1),(w12.cell? (p1.add 1)).getD undef)] w20∧(
Ae prog F.Eg [.pointer b,.int .i64 x16,.int .i64 x17,.bool x18] w20 false [(false,[(.i .i64)])] fun r21 w22=>
Aw [(6,(p1.add 3),(w12.cell? (p1.add 3)).getD undef),(4,(p1.add 2),(w12.cell? (p1.add 2)).getD undef),(2,(p1.add 1),(w12.cell? (p1.add 1)).getD undef)] w22∧(
R (((r19.1.1==r21.1.1),()),()) w22))) (
Aj (x11==1) (
Jg w2 fun w23=>
ld1 (.i .i64) (p1.add 1) w23 fun x24=>
ld1 (.i .u32) (p1.add 4) w23 fun x25=>
ld1 (.i .i64) (p1.add 1) w23 fun x26=>
ld1 (.i .u32) (p1.add 4) w23 fun x27=>
Ae prog F.Gx [.pointer a,.int .i64 x24,.int .u32 x25] w23 false [(false,[(.i .i64)])] fun r28 w29=>
Aw [(10,(p1.add 4),(w23.cell? (p1.add 4)).getD undef),(8,(p1.add 1),(w23.cell? (p1.add 1)).getD undef),(4,(p1.add 4),(w23.cell? (p1.add 4)).getD undef),(2,(p1.add 1),(w23.cell? (p1.add 1)).getD undef)] w29∧(
Ae prog F.Gx [.pointer b,.int .i64 x26,.int .u32 x27] w29 false [(false,[(.i .i64)])] fun r30 w31=>
Aw [(4,(p1.add 4),(w23.cell? (p1.add 4)).getD undef),(2,(p1.add 1),(w23.cell? (p1.add 1)).getD undef)] w31∧(
R (((r28.1.1==r30.1.1),()),()) w31))) (
Aj (x11==2) (
Jg w2 fun w32=>
ld1 (.i .i64) (p1.add 1) w32 fun x33=>
ld1 (.i .i64) (p1.add 1) w32 fun x34=>
Ae prog F.Hm [.pointer a,.int .i64 x33] w32 false [(false,[(.i .i64)])] fun r35 w36=>
Aw [(6,(p1.add 1),(w32.cell? (p1.add 1)).getD undef),(2,(p1.add 1),(w32.cell? (p1.add 1)).getD undef)] w36∧(
Ae prog F.Hm [.pointer b,.int .i64 x34] w36 false [(false,[(.i .i64)])] fun r37 w38=>
Aw [(2,(p1.add 1),(w32.cell? (p1.add 1)).getD undef)] w38∧(
R (((r35.1.1==r37.1.1),()),()) w38))) (
Cc (fun(J39:((Bool)×Unit)→WP)=>
Aj (x11==3) (
J39 ((x11==3),()) w2) (
Aj (x11==4) (
J39 ((x11==4),()) w2) (
Aj (x11==5) (
J39 ((x11==5),()) w2) (
J39 ((x11==6),()) w2)))) (fun(z40:(Bool)×Unit) w41=> ∀_:Nat→Value,
Aj z40.1 (
Jg w41 fun w42=>
A8 [.sl,.sl,.sl,.sl] (p1.add 7) 0 w42 fun x43=>
A8 [.sl,.sl,.sl,.sl] (p1.add 7) 0 w42 fun x44=>
Ae prog F.law27_choice [.agg #[.slice x43.1.1 x43.1.2.1 x43.1.2.2,.slice x43.2.1.1 x43.2.1.2.1 x43.2.1.2.2,.slice x43.2.2.1.1 x43.2.2.1.2.1 x43.2.2.1.2.2,.slice x43.2.2.2.1.1 x43.2.2.2.1.2.1 x43.2.2.2.1.2.2]] w42 false [(true,[.sl,.sl,.sl,.sl])] fun r45 w46=>
Aw [(7,((p1.add 7).add 0),(w42.cell? ((p1.add 7).add 0)).getD undef),(7,((p1.add 7).add 1),(w42.cell? ((p1.add 7).add 1)).getD undef),(7,((p1.add 7).add 2),(w42.cell? ((p1.add 7).add 2)).getD undef),(7,((p1.add 7).add 3),(w42.cell? ((p1.add 7).add 3)).getD undef),(2,((p1.add 7).add 0),(w42.cell? ((p1.add 7).add 0)).getD undef),(2,((p1.add 7).add 1),(w42.cell? ((p1.add 7).add 1)).getD undef),(2,((p1.add 7).add 2),(w42.cell? ((p1.add 7).add 2)).getD undef),(2,((p1.add 7).add 3),(w42.cell? ((p1.add 7).add 3)).getD undef)] w46∧(
Ae prog F.Ep [.pointer a,.agg #[.slice r45.1.1.1 r45.1.1.2.1 r45.1.1.2.2,.slice r45.1.2.1.1 r45.1.2.1.2.1 r45.1.2.1.2.2,.slice r45.1.2.2.1.1 r45.1.2.2.1.2.1 r45.1.2.2.1.2.2,.slice r45.1.2.2.2.1.1 r45.1.2.2.2.1.2.1 r45.1.2.2.2.1.2.2]] w46 false [(false,[(.i .i64)])] fun r47 w48=>
Aw [(7,((p1.add 7).add 0),(w42.cell? ((p1.add 7).add 0)).getD undef),(7,((p1.add 7).add 1),(w42.cell? ((p1.add 7).add 1)).getD undef),(7,((p1.add 7).add 2),(w42.cell? ((p1.add 7).add 2)).getD undef),(7,((p1.add 7).add 3),(w42.cell? ((p1.add 7).add 3)).getD undef),(2,((p1.add 7).add 0),(w42.cell? ((p1.add 7).add 0)).getD undef),(2,((p1.add 7).add 1),(w42.cell? ((p1.add 7).add 1)).getD undef),(2,((p1.add 7).add 2),(w42.cell? ((p1.add 7).add 2)).getD undef),(2,((p1.add 7).add 3),(w42.cell? ((p1.add 7).add 3)).getD undef)] w48∧(
Ae prog F.law27_choice [.agg #[.slice x44.1.1 x44.1.2.1 x44.1.2.2,.slice x44.2.1.1 x44.2.1.2.1 x44.2.1.2.2,.slice x44.2.2.1.1 x44.2.2.1.2.1 x44.2.2.1.2.2,.slice x44.2.2.2.1.1 x44.2.2.2.1.2.1 x44.2.2.2.1.2.2]] w48 false [(true,[.sl,.sl,.sl,.sl])] fun r49 w50=>
Aw [(7,((p1.add 7).add 0),(w42.cell? ((p1.add 7).add 0)).getD undef),(7,((p1.add 7).add 1),(w42.cell? ((p1.add 7).add 1)).getD undef),(7,((p1.add 7).add 2),(w42.cell? ((p1.add 7).add 2)).getD undef),(7,((p1.add 7).add 3),(w42.cell? ((p1.add 7).add 3)).getD undef),(2,((p1.add 7).add 0),(w42.cell? ((p1.add 7).add 0)).getD undef),(2,((p1.add 7).add 1),(w42.cell? ((p1.add 7).add 1)).getD undef),(2,((p1.add 7).add 2),(w42.cell? ((p1.add 7).add 2)).getD undef),(2,((p1.add 7).add 3),(w42.cell? ((p1.add 7).add 3)).getD undef)] w50∧(
Ae prog F.Ep [.pointer b,.agg #[.slice r49.1.1.1 r49.1.1.2.1 r49.1.1.2.2,.slice r49.1.2.1.1 r49.1.2.1.2.1 r49.1.2.1.2.2,.slice r49.1.2.2.1.1 r49.1.2.2.1.2.1 r49.1.2.2.1.2.2,.slice r49.1.2.2.2.1.1 r49.1.2.2.2.1.2.1 r49.1.2.2.2.1.2.2]] w50 false [(false,[(.i .i64)])] fun r51 w52=>
Aw [(7,((p1.add 7).add 0),(w42.cell? ((p1.add 7).add 0)).getD undef),(7,((p1.add 7).add 1),(w42.cell? ((p1.add 7).add 1)).getD undef),(7,((p1.add 7).add 2),(w42.cell? ((p1.add 7).add 2)).getD undef),(7,((p1.add 7).add 3),(w42.cell? ((p1.add 7).add 3)).getD undef),(2,((p1.add 7).add 0),(w42.cell? ((p1.add 7).add 0)).getD undef),(2,((p1.add 7).add 1),(w42.cell? ((p1.add 7).add 1)).getD undef),(2,((p1.add 7).add 2),(w42.cell? ((p1.add 7).add 2)).getD undef),(2,((p1.add 7).add 3),(w42.cell? ((p1.add 7).add 3)).getD undef)] w52∧(
R (((r47.1.1==r51.1.1),()),()) w52))))) (
Aj (x11==9) (
Jg w41 fun w53=>
ld1 (.i .i64) (p1.add 1) w53 fun x54=>
ld1 (.i .i64) (p1.add 2) w53 fun x55=>
ld1 (.i .i64) (p1.add 1) w53 fun x56=>
ld1 (.i .i64) (p1.add 2) w53 fun x57=>
Ae prog F.Ho [.pointer a,.int .i64 x54,.int .i64 x55] w53 false [(false,[(.i .i64)])] fun r58 w59=>
Aw [(10,(p1.add 2),(w53.cell? (p1.add 2)).getD undef),(8,(p1.add 1),(w53.cell? (p1.add 1)).getD undef),(4,(p1.add 2),(w53.cell? (p1.add 2)).getD undef),(2,(p1.add 1),(w53.cell? (p1.add 1)).getD undef)] w59∧(
Ae prog F.Ho [.pointer b,.int .i64 x56,.int .i64 x57] w59 false [(false,[(.i .i64)])] fun r60 w61=>
Aw [(4,(p1.add 2),(w53.cell? (p1.add 2)).getD undef),(2,(p1.add 1),(w53.cell? (p1.add 1)).getD undef)] w61∧(
R (((r58.1.1==r60.1.1),()),()) w61))) (
Aj (x11==10) (
Jg w41 fun w62=>
ld1 (.i .i64) (p1.add 1) w62 fun x63=>
ld1 .sl (p1.add 6) w62 fun x64=>
ld1 (.i .i64) (p1.add 1) w62 fun x65=>
ld1 .sl (p1.add 6) w62 fun x66=>
Ae prog F.Eu [.pointer a,.int .i64 x63,.slice x64.1 x64.2.1 x64.2.2] w62 false [(false,[(.i .i64)])] fun r67 w68=>
Aw [(10,(p1.add 6),(w62.cell? (p1.add 6)).getD undef),(8,(p1.add 1),(w62.cell? (p1.add 1)).getD undef),(4,(p1.add 6),(w62.cell? (p1.add 6)).getD undef),(2,(p1.add 1),(w62.cell? (p1.add 1)).getD undef)] w68∧(
Ae prog F.Eu [.pointer b,.int .i64 x65,.slice x66.1 x66.2.1 x66.2.2] w68 false [(false,[(.i .i64)])] fun r69 w70=>
Aw [(4,(p1.add 6),(w62.cell? (p1.add 6)).getD undef),(2,(p1.add 1),(w62.cell? (p1.add 1)).getD undef)] w70∧(
R (((r67.1.1==r69.1.1),()),()) w70))) (
R ((true,()),()) w41)))))))
theorem law27_twice.eq(a:Option Addr)(b:Option Addr)(x0:Int)(x1:Int)(x2:Int)(x3:Bool)(x4:Int)(x5:ByteArray)(x6:Option Addr×Nat×Nat)(x7:Option Addr×Nat×Nat)(x8:Option Addr×Nat×Nat)(x9:Option Addr×Nat×Nat)(x10:Option Addr×Nat×Nat)(w:World)(R:Value→WP):A7 prog Tryz.f38 (.s .n (.s (.s .n (.s .n (.s (.s (.pl (.tk 0 (.tk 1 (.tk 2 (.tk 3 (.tk 4 (.tk 5 (.tk 6 (.tk 8 (.tk 9 (.tk 10 (.tk 11 (.tk 12 (.tk 13 (.tk 14 (.ef 7 [] (.ef 15 [10,12,14] (.tk 16 (.tk 17 .z))))))))))))))))))) .n) (.s .n (.s (.s (.pl (.tk 0 (.tk 1 (.tk 2 (.tk 3 (.tk 4 (.tk 6 (.tk 7 (.tk 8 (.tk 9 (.tk 10 (.ef 5 [] (.ef 11 [8,10] (.tk 12 (.tk 13 .z))))))))))))))) .n) (.s .n (.s (.s (.pl (.tk 0 (.tk 1 (.tk 2 (.tk 4 (.tk 5 (.tk 6 (.ef 3 [] (.ef 7 [6] (.tk 8 (.tk 9 .z))))))))))) .n) (.ct [(54,.b)] .n (.s (.s (.pl (.tk 0 (.tk 1 (.tk 2 (.tk 5 (.tk 6 (.tk 7 (.ef 3 [] (.ef 4 [] (.ef 8 [] (.ef 9 [] (.tk 10 (.tk 11 .z))))))))))))) .n) (.s .n (.s (.s (.pl (.tk 0 (.tk 1 (.tk 2 (.tk 3 (.tk 4 (.tk 6 (.tk 7 (.tk 8 (.tk 9 (.tk 10 (.ef 5 [] (.ef 11 [8,10] (.tk 12 (.tk 13 .z))))))))))))))) .n) (.s .n (.s (.s (.pl (.tk 0 (.tk 1 (.tk 2 (.tk 3 (.tk 4 (.tk 6 (.tk 7 (.tk 8 (.tk 9 (.tk 10 (.ef 5 [] (.ef 11 [8,10] (.tk 12 (.tk 13 .z))))))))))))))) .n) .n))))))))))))) .n)) [.pointer a,.pointer b,.agg #[.int .i64 x0,.int .i64 x1,.int .i64 x2,.bool x3,.int .u32 x4,.string x5,.slice x6.1 x6.2.1 x6.2.2,.slice x7.1 x7.2.1 x7.2.2,.slice x8.1 x8.2.1 x8.2.2,.slice x9.1 x9.2.1 x9.2.2,.slice x10.1 x10.2.1 x10.2.2]] w R=law27_twice.wp a b x0 x1 x2 x3 x4 x5 x6 x7 x8 x9 x10 w (fun r w=>R (encR false [(false,[.b])] r) w):=by kernel_rfl
theorem law27_twice.ok{a:Option Addr}{b:Option Addr}{x0:Int}{x1:Int}{x2:Int}{x3:Bool}{x4:Int}{x5:ByteArray}{x6:Option Addr×Nat×Nat}{x7:Option Addr×Nat×Nat}{x8:Option Addr×Nat×Nat}{x9:Option Addr×Nat×Nat}{x10:Option Addr×Nat×Nat}{w:World}{R:TR [(false,[.b])]→WP}(h:law27_twice.wp a b x0 x1 x2 x3 x4 x5 x6 x7 x8 x9 x10 w R):Ae prog F.law27_twice [.pointer a,.pointer b,.agg #[.int .i64 x0,.int .i64 x1,.int .i64 x2,.bool x3,.int .u32 x4,.string x5,.slice x6.1 x6.2.1 x6.2.2,.slice x7.1 x7.2.1 x7.2.2,.slice x8.1 x8.2.1 x8.2.2,.slice x9.1 x9.2.1 x9.2.2,.slice x10.1 x10.2.1 x10.2.2]] w false [(false,[.b])] R:=
  Aop Aa Tryz.func38 (fun R=>law27_twice.wp a b x0 x1 x2 x3 x4 x5 x6 x7 x8 x9 x10 w R) (law27_twice.eq a b x0 x1 x2 x3 x4 x5 x6 x7 x8 x9 x10 w) rfl h
def Jd.wp(n:Option Addr)(i:Int)(label:ByteArray)(w:World)(R:TR [(false,[(.i .i64)]),(false,[(.i .i64)])]→WP):Prop:=
Ae prog F.Bo [.pointer n,.int .i64 i] w false [(false,[(.i .i64)])] fun r1 w2=>
Aj (r1.1.1 !=0) (
R ((0,()),(r1.1.1,()),()) w2) (
Aq n fun a3=>
ld1 .sl (a3.add 12) w2 fun x4=>
Ny x4.1 x4.2.1 i fun a5=>
ld1 .p (a5.add (i.toNat*1)) w2 fun x6=>
Ae prog F.Qj [.pointer x6,.string label] w2 true [(false,[(.i .i64)]),(false,[(.i .i64)])] fun r7 w8=>
R ((r7.1.1,()),(r7.2.1.1,()),()) w8)
theorem Jd.eq(n:Option Addr)(i:Int)(label:ByteArray)(w:World)(R:Value→WP):A7 prog Tryz.f41 .n [.pointer n,.int .i64 i,.string label] w R=Jd.wp n i label w (fun r w=>R (encR true [(false,[(.i .i64)]),(false,[(.i .i64)])] r) w):=by kernel_rfl
theorem Jd.ok{n:Option Addr}{i:Int}{label:ByteArray}{w:World}{R:TR [(false,[(.i .i64)]),(false,[(.i .i64)])]→WP}(h:Jd.wp n i label w R):Ae prog F.Jd [.pointer n,.int .i64 i,.string label] w true [(false,[(.i .i64)]),(false,[(.i .i64)])] R:=
  Aop Aa Tryz.func41 (fun R=>Jd.wp n i label w R) (Jd.eq n i label w) rfl h
def Ip.wp(s0:Int)(s1:Int)(s2:Int)(s3:Int)(s4:Int)(s5:Int)(s6:Int)(s7:Int)(s8:Int)(s9:Int)(s10:Bool)(w:World)(R:TR [(false,[.b])]→WP):Prop:=
Bf [.int .i64 s0,.int .i64 s1,.int .i64 s2,.int .i64 s3,.int .i64 s4,.int .i64 s5,.int .i64 s6,.int .i64 s7,.int .i64 s8,.int .i64 s9,.bool s10] T.Xj w fun p1 w2=>
ld1 (.i .i64) p1 w2 fun x3=>
ld1 (.i .i64) (p1.add 1) w2 fun x4=>
ld1 (.i .i64) (p1.add 2) w2 fun x5=>
ld1 (.i .i64) (p1.add 3) w2 fun x6=>
ld1 (.i .i64) (p1.add 4) w2 fun x7=>
Ae prog F.Vq [.int .i64 x3,.int .i64 x4,.int .i64 x5,.int .i64 x6,.int .i64 x7] w2 false [(false,[.b])] fun r8 w9=>
Aj r8.1.1 (
A8 [(.i .i64),(.i .i64),(.i .i64),(.i .i64),(.i .i64),(.i .i64),(.i .i64),(.i .i64),(.i .i64),(.i .i64),.b] p1 0 w9 fun x10=>
Ae prog F.Jy [.agg #[.int .i64 x10.1,.int .i64 x10.2.1,.int .i64 x10.2.2.1,.int .i64 x10.2.2.2.1,.int .i64 x10.2.2.2.2.1,.int .i64 x10.2.2.2.2.2.1,.int .i64 x10.2.2.2.2.2.2.1,.int .i64 x10.2.2.2.2.2.2.2.1,.int .i64 x10.2.2.2.2.2.2.2.2.1,.int .i64 x10.2.2.2.2.2.2.2.2.2.1,.bool x10.2.2.2.2.2.2.2.2.2.2.1]] w9 false [(true,[(.i .i64),(.i .i64),(.i .i64)])] fun r11 w12=>
Ae prog F.U3 [.agg #[.int .i64 r11.1.1,.int .i64 r11.1.2.1,.int .i64 r11.1.2.2.1]] w12 false [(false,[.b])] fun r13 w14=>
Aj r13.1.1 (
ld1 (.i .i64) (p1.add 8) w14 fun x15=>
Aj (decide (x15≥1)) (
ld1 (.i .i64) (p1.add 8) w14 fun x16=>
ld1 (.i .i64) (p1.add 1) w14 fun x17=>
Aj (decide (x16≤x17)) (
ld1 (.i .i64) (p1.add 9) w14 fun x18=>
Aj (decide (x18≥0)) (
ld1 (.i .i64) (p1.add 9) w14 fun x19=>
R ((decide (x19≤20),()),()) w14) (
R ((false,()),()) w14)) (
R ((false,()),()) w14)) (
R ((false,()),()) w14)) (
R ((false,()),()) w14)) (
R ((false,()),()) w9)
theorem Ip.eq(s0:Int)(s1:Int)(s2:Int)(s3:Int)(s4:Int)(s5:Int)(s6:Int)(s7:Int)(s8:Int)(s9:Int)(s10:Bool)(w:World)(R:Value→WP):A7 prog Tryz.f50 .n [.agg #[.int .i64 s0,.int .i64 s1,.int .i64 s2,.int .i64 s3,.int .i64 s4,.int .i64 s5,.int .i64 s6,.int .i64 s7,.int .i64 s8,.int .i64 s9,.bool s10]] w R=Ip.wp s0 s1 s2 s3 s4 s5 s6 s7 s8 s9 s10 w (fun r w=>R (encR false [(false,[.b])] r) w):=by kernel_rfl
theorem Ip.ok{s0:Int}{s1:Int}{s2:Int}{s3:Int}{s4:Int}{s5:Int}{s6:Int}{s7:Int}{s8:Int}{s9:Int}{s10:Bool}{w:World}{R:TR [(false,[.b])]→WP}(h:Ip.wp s0 s1 s2 s3 s4 s5 s6 s7 s8 s9 s10 w R):Ae prog F.Ip [.agg #[.int .i64 s0,.int .i64 s1,.int .i64 s2,.int .i64 s3,.int .i64 s4,.int .i64 s5,.int .i64 s6,.int .i64 s7,.int .i64 s8,.int .i64 s9,.bool s10]] w false [(false,[.b])] R:=
  Aop Aa Tryz.func50 (fun R=>Ip.wp s0 s1 s2 s3 s4 s5 s6 s7 s8 s9 s10 w R) (Ip.eq s0 s1 s2 s3 s4 s5 s6 s7 s8 s9 s10 w) rfl h
def Jv.wp(n:Int)(w:World)(R:TR [(false,[.p]),(false,[(.i .i64)])]→WP):Prop:=
Aj (decide (n<1)) (
R ((none,()),(1,()),()) w) (
Aj (decide (n>64)) (
R ((none,()),(1,()),()) w) (
L9 ((Instr.makeSlice T.Ux (.int .i64 n) (.int .i64 n)).run prog w) fun y1 w2=>
Bf [.int .i64 n,.slice y1.1 y1.2.1 y1.2.2] T.kP w2 fun p3 w4=>
R ((some p3,()),(0,()),()) w4))
theorem Jv.eq(n:Int)(w:World)(R:Value→WP):A7 prog Tryz.f51 .n [.int .i64 n] w R=Jv.wp n w (fun r w=>R (encR true [(false,[.p]),(false,[(.i .i64)])] r) w):=by kernel_rfl
theorem Jv.ok{n:Int}{w:World}{R:TR [(false,[.p]),(false,[(.i .i64)])]→WP}(h:Jv.wp n w R):Ae prog F.Jv [.int .i64 n] w true [(false,[.p]),(false,[(.i .i64)])] R:=
  Aop Aa Tryz.func51 (fun R=>Jv.wp n w R) (Jv.eq n w) rfl h
def Uz.wp(s0:Int)(s1:Int)(s2:Int)(s3:Int)(s4:Int)(s5:Int)(s6:Int)(s7:Int)(s8:Int)(s9:Int)(s10:Bool)(leaps:Option Addr)(w:World)(R:TR [(false,[.p]),(false,[(.i .i64)])]→WP):Prop:=
Bf [.int .i64 s0,.int .i64 s1,.int .i64 s2,.int .i64 s3,.int .i64 s4,.int .i64 s5,.int .i64 s6,.int .i64 s7,.int .i64 s8,.int .i64 s9,.bool s10] T.jP w fun p1 w2=>
A8 [(.i .i64),(.i .i64),(.i .i64),(.i .i64),(.i .i64),(.i .i64),(.i .i64),(.i .i64),(.i .i64),(.i .i64),.b] p1 0 w2 fun x3=>
Ae prog F.Nq [.agg #[.int .i64 x3.1,.int .i64 x3.2.1,.int .i64 x3.2.2.1,.int .i64 x3.2.2.2.1,.int .i64 x3.2.2.2.2.1,.int .i64 x3.2.2.2.2.2.1,.int .i64 x3.2.2.2.2.2.2.1,.int .i64 x3.2.2.2.2.2.2.2.1,.int .i64 x3.2.2.2.2.2.2.2.2.1,.int .i64 x3.2.2.2.2.2.2.2.2.2.1,.bool x3.2.2.2.2.2.2.2.2.2.2.1]] w2 false [(false,[.b])] fun r4 w5=>
Aj (!r4.1.1) (
R ((none,()),(1,()),()) w5) (
Jg w5 fun w6=>
A8 [(.i .i64),(.i .i64),(.i .i64),(.i .i64),(.i .i64),(.i .i64),(.i .i64),(.i .i64),(.i .i64),(.i .i64),.b] p1 0 w6 fun x7=>
Ae prog F.Wl [] w6 false [(false,[.p])] fun r8 w9=>
Aw [(0,(p1.add 0),(w6.cell? (p1.add 0)).getD undef),(0,(p1.add 1),(w6.cell? (p1.add 1)).getD undef),(0,(p1.add 2),(w6.cell? (p1.add 2)).getD undef),(0,(p1.add 3),(w6.cell? (p1.add 3)).getD undef),(0,(p1.add 4),(w6.cell? (p1.add 4)).getD undef),(0,(p1.add 5),(w6.cell? (p1.add 5)).getD undef),(0,(p1.add 6),(w6.cell? (p1.add 6)).getD undef),(0,(p1.add 7),(w6.cell? (p1.add 7)).getD undef),(0,(p1.add 8),(w6.cell? (p1.add 8)).getD undef),(0,(p1.add 9),(w6.cell? (p1.add 9)).getD undef),(0,(p1.add 10),(w6.cell? (p1.add 10)).getD undef)] w9∧(
Bf [.int .i64 x7.1,.int .i64 x7.2.1,.int .i64 x7.2.2.1,.int .i64 x7.2.2.2.1,.int .i64 x7.2.2.2.2.1,.int .i64 x7.2.2.2.2.2.1,.int .i64 x7.2.2.2.2.2.2.1,.int .i64 x7.2.2.2.2.2.2.2.1,.int .i64 x7.2.2.2.2.2.2.2.2.1,.int .i64 x7.2.2.2.2.2.2.2.2.2.1,.bool x7.2.2.2.2.2.2.2.2.2.2.1,.pointer leaps,.bool false,.int .u16 0,.pointer none,.pointer none,.pointer none,.pointer none,.pointer none,.bool false,.int .i64 0,.int .u16 0,.int .i64 0,.int .u16 0,.int .i64 0,.int .i64 0,.pointer r8.1.1,.pointer none] T.Ad6 w9 fun p10 w11=>
Aw [(0,(p1.add 0),(w6.cell? (p1.add 0)).getD undef),(0,(p1.add 1),(w6.cell? (p1.add 1)).getD undef),(0,(p1.add 2),(w6.cell? (p1.add 2)).getD undef),(0,(p1.add 3),(w6.cell? (p1.add 3)).getD undef),(0,(p1.add 4),(w6.cell? (p1.add 4)).getD undef),(0,(p1.add 5),(w6.cell? (p1.add 5)).getD undef),(0,(p1.add 6),(w6.cell? (p1.add 6)).getD undef),(0,(p1.add 7),(w6.cell? (p1.add 7)).getD undef),(0,(p1.add 8),(w6.cell? (p1.add 8)).getD undef),(0,(p1.add 9),(w6.cell? (p1.add 9)).getD undef),(0,(p1.add 10),(w6.cell? (p1.add 10)).getD undef)] w11∧(
ld1 (.i .i64) ((p1.add 1).add 3) w11 fun x12=>
Ae prog F.Xz [.int .i64 x12] w11 true [(false,[.p]),(false,[(.i .i64)])] fun r13 w14=>
Au [.pointer r13.1.1] (p10.add 14) 0 w14 fun w15=>
ld1 (.i .i64) p1 w15 fun x16=>
A8 [(.i .i64),(.i .i64),(.i .i64),(.i .i64)] (p1.add 1) 0 w15 fun x17=>
Ae prog F.Ui [.int .i64 x16,.agg #[.int .i64 x17.1,.int .i64 x17.2.1,.int .i64 x17.2.2.1,.int .i64 x17.2.2.2.1]] w15 true [(false,[.p]),(false,[(.i .i64)])] fun r18 w19=>
Au [.pointer r18.1.1] (p10.add 15) 0 w19 fun w20=>
ld1 (.i .i64) p1 w20 fun x21=>
Ae prog F.Wp [.int .i64 x21] w20 true [(false,[.p]),(false,[(.i .i64)])] fun r22 w23=>
Au [.pointer r22.1.1] (p10.add 16) 0 w23 fun w24=>
ld1 (.i .i64) p1 w24 fun x25=>
Ae prog F.Xq [.int .i64 x25] w24 true [(false,[.p]),(false,[(.i .i64)])] fun r26 w27=>
Au [.pointer r26.1.1] (p10.add 17) 0 w27 fun w28=>
ld1 (.i .i64) (p1.add 8) w28 fun x29=>
Ae prog F.Vm [.int .i64 x29] w28 true [(false,[.p]),(false,[(.i .i64)])] fun r30 w31=>
Au [.pointer r30.1.1] (p10.add 18) 0 w31 fun w32=>
Ae prog F.Jc [.int .i64 8] w32 true [(false,[.p]),(false,[(.i .i64)])] fun r33 w34=>
Au [.pointer r33.1.1] (p10.add 27) 0 w34 fun w35=>
R ((some p10,()),(0,()),()) w35)))
theorem Uz.eq(s0:Int)(s1:Int)(s2:Int)(s3:Int)(s4:Int)(s5:Int)(s6:Int)(s7:Int)(s8:Int)(s9:Int)(s10:Bool)(leaps:Option Addr)(w:World)(R:Value→WP):A7 prog Tryz.f52 (.s .n (.s .n (.s (.pl (.tk 0 (.tk 1 (.ef 2 [] (.tk 3 (.ef 4 [] (.tk 5 .z))))))) .n))) [.agg #[.int .i64 s0,.int .i64 s1,.int .i64 s2,.int .i64 s3,.int .i64 s4,.int .i64 s5,.int .i64 s6,.int .i64 s7,.int .i64 s8,.int .i64 s9,.bool s10],.pointer leaps] w R=Uz.wp s0 s1 s2 s3 s4 s5 s6 s7 s8 s9 s10 leaps w (fun r w=>R (encR true [(false,[.p]),(false,[(.i .i64)])] r) w):=by kernel_rfl
theorem Uz.ok{s0:Int}{s1:Int}{s2:Int}{s3:Int}{s4:Int}{s5:Int}{s6:Int}{s7:Int}{s8:Int}{s9:Int}{s10:Bool}{leaps:Option Addr}{w:World}{R:TR [(false,[.p]),(false,[(.i .i64)])]→WP}(h:Uz.wp s0 s1 s2 s3 s4 s5 s6 s7 s8 s9 s10 leaps w R):Ae prog F.Uz [.agg #[.int .i64 s0,.int .i64 s1,.int .i64 s2,.int .i64 s3,.int .i64 s4,.int .i64 s5,.int .i64 s6,.int .i64 s7,.int .i64 s8,.int .i64 s9,.bool s10],.pointer leaps] w true [(false,[.p]),(false,[(.i .i64)])] R:=
  Aop Aa Tryz.func52 (fun R=>Uz.wp s0 s1 s2 s3 s4 s5 s6 s7 s8 s9 s10 leaps w R) (Uz.eq s0 s1 s2 s3 s4 s5 s6 s7 s8 s9 s10 leaps w) rfl h
def H7.wp(s0:Int)(s1:Int)(s2:Int)(s3:Int)(s4:Int)(s5:Int)(s6:Int)(s7:Int)(s8:Int)(s9:Int)(s10:Option Addr×Nat×Nat)(i:Int)(w:World)(R:TR [(true,[(.i .i64),(.i .i64),(.i .i64),(.i .i64),(.i .i64),(.i .i64),(.i .i64),(.i .i64),(.i .i64),(.i .i64),.b])]→WP):Prop:=
Bf [.int .i64 s0,.int .i64 s1,.int .i64 s2,.int .i64 s3,.int .i64 s4,.int .i64 s5,.int .i64 s6,.int .i64 s7,.int .i64 s8,.int .i64 s9,.slice s10.1 s10.2.1 s10.2.2] T.Vd w fun p1 w2=>
Bf [.int .i64 0,.int .i64 0,.int .i64 0,.int .i64 0,.int .i64 0,.int .i64 0,.int .i64 0,.int .i64 0,.int .i64 0,.int .i64 0,.bool false] T.jP w2 fun p3 w4=>
ld1 (.i .i64) (p1.add 5) w4 fun x5=>
dF (if 1>x5 then 1 else x5) (
Cc (fun(J6:((Int)×Unit)→WP)=>
ld1 .sl (p1.add 10) w4 fun x9=>
Aj (decide (i<(x9.2.1:Int))) (
ld1 .sl (p1.add 10) w4 fun x10=>
Ny x10.1 x10.2.1 i fun a11=>
ld1 (.i .i64) (a11.add (i.toNat*1)) w4 fun x12=>
J6 (x12,()) w4) (
J6 (Int.tmod i (if 1>x5 then 1 else x5),()) w4)) (fun(z7:(Int)×Unit) w8=> ∀_:Nat→Value,
A8 [(.i .i64),(.i .i64),(.i .i64),(.i .i64)] (p1.add 1) 0 w8 fun x13=>
ld1 (.i .i64) (p1.add 5) w8 fun x14=>
ld1 (.i .i64) (p1.add 6) w8 fun x15=>
ld1 (.i .i64) (p1.add 7) w8 fun x16=>
ld1 (.i .i64) (p1.add 8) w8 fun x17=>
ld1 (.i .i64) (p1.add 9) w8 fun x18=>
Au [.int .i64 i,.int .i64 x13.1,.int .i64 x13.2.1,.int .i64 x13.2.2.1,.int .i64 x13.2.2.2.1,.int .i64 x14,.int .i64 x15,.int .i64 z7.1,.int .i64 x16,.int .i64 x17,.bool (i==x18)] p3 0 w8 fun w19=>
A8 [(.i .i64),(.i .i64),(.i .i64),(.i .i64),(.i .i64),(.i .i64),(.i .i64),(.i .i64),(.i .i64),(.i .i64),.b] p3 0 w19 fun x20=>
R ((x20.1,x20.2.1,x20.2.2.1,x20.2.2.2.1,x20.2.2.2.2.1,x20.2.2.2.2.2.1,x20.2.2.2.2.2.2.1,x20.2.2.2.2.2.2.2.1,x20.2.2.2.2.2.2.2.2.1,x20.2.2.2.2.2.2.2.2.2.1,x20.2.2.2.2.2.2.2.2.2.2.1,()),()) w19))
theorem H7.eq(s0:Int)(s1:Int)(s2:Int)(s3:Int)(s4:Int)(s5:Int)(s6:Int)(s7:Int)(s8:Int)(s9:Int)(s10:Option Addr×Nat×Nat)(i:Int)(w:World)(R:Value→WP):A7 prog Tryz.f53 (.s .n (.s .n (.ct [(5,(.i .i64))] .n .n))) [.agg #[.int .i64 s0,.int .i64 s1,.int .i64 s2,.int .i64 s3,.int .i64 s4,.int .i64 s5,.int .i64 s6,.int .i64 s7,.int .i64 s8,.int .i64 s9,.slice s10.1 s10.2.1 s10.2.2],.int .i64 i] w R=H7.wp s0 s1 s2 s3 s4 s5 s6 s7 s8 s9 s10 i w (fun r w=>R (encR false [(true,[(.i .i64),(.i .i64),(.i .i64),(.i .i64),(.i .i64),(.i .i64),(.i .i64),(.i .i64),(.i .i64),(.i .i64),.b])] r) w):=by kernel_rfl
theorem H7.ok{s0:Int}{s1:Int}{s2:Int}{s3:Int}{s4:Int}{s5:Int}{s6:Int}{s7:Int}{s8:Int}{s9:Int}{s10:Option Addr×Nat×Nat}{i:Int}{w:World}{R:TR [(true,[(.i .i64),(.i .i64),(.i .i64),(.i .i64),(.i .i64),(.i .i64),(.i .i64),(.i .i64),(.i .i64),(.i .i64),.b])]→WP}(h:H7.wp s0 s1 s2 s3 s4 s5 s6 s7 s8 s9 s10 i w R):Ae prog F.H7 [.agg #[.int .i64 s0,.int .i64 s1,.int .i64 s2,.int .i64 s3,.int .i64 s4,.int .i64 s5,.int .i64 s6,.int .i64 s7,.int .i64 s8,.int .i64 s9,.slice s10.1 s10.2.1 s10.2.2],.int .i64 i] w false [(true,[(.i .i64),(.i .i64),(.i .i64),(.i .i64),(.i .i64),(.i .i64),(.i .i64),(.i .i64),(.i .i64),(.i .i64),.b])] R:=
  Aop Aa Tryz.func53 (fun R=>H7.wp s0 s1 s2 s3 s4 s5 s6 s7 s8 s9 s10 i w R) (H7.eq s0 s1 s2 s3 s4 s5 s6 s7 s8 s9 s10 i w) rfl h
def Gi.wp(n:Option Addr)(i:Int)(w:World)(R:TR [(false,[.p])]→WP):Prop:=
Aj (Option.isNone n) (
R ((none,()),()) w) (
Aj (decide (i<0)) (
R ((none,()),()) w) (
Aq n fun a1=>
ld1 .sl (a1.add 12) w fun x2=>
Aj (decide (i≥(x2.2.1:Int))) (
R ((none,()),()) w) (
Aq n fun a3=>
ld1 .sl (a3.add 12) w fun x4=>
Ny x4.1 x4.2.1 i fun a5=>
ld1 .p (a5.add (i.toNat*1)) w fun x6=>
R ((x6,()),()) w)))
theorem Gi.eq(n:Option Addr)(i:Int)(w:World)(R:Value→WP):A7 prog Tryz.f54 .n [.pointer n,.int .i64 i] w R=Gi.wp n i w (fun r w=>R (encR false [(false,[.p])] r) w):=by kernel_rfl
theorem Gi.ok{n:Option Addr}{i:Int}{w:World}{R:TR [(false,[.p])]→WP}(h:Gi.wp n i w R):Ae prog F.Gi [.pointer n,.int .i64 i] w false [(false,[.p])] R:=
  Aop Aa Tryz.func54 (fun R=>Gi.wp n i w R) (Gi.eq n i w) rfl h
def Cb.wp(n:Option Addr)(w:World)(R:TR [(true,[.b,(.i .u16),(.i .i64),(.i .i64),.b,.b,(.i .i64),(.i .i64),(.i .i64),.b,(.i .i64),(.i .i64)])]→WP):Prop:=
Bf [.bool false,.int .u16 0,.int .i64 0,.int .i64 0,.bool false,.bool false,.int .i64 0,.int .i64 0,.int .i64 0,.bool false,.int .i64 0,.int .i64 0] T.nK w fun p1 w2=>
Aj (Option.isNone n) (
Au [.bool false,.int .u16 0,.int .i64 0,.int .i64 0,.bool false,.bool false,.int .i64 0,.int .i64 0,.int .i64 0,.bool false,.int .i64 0,.int .i64 0] p1 0 w2 fun w3=>
A8 [.b,(.i .u16),(.i .i64),(.i .i64),.b,.b,(.i .i64),(.i .i64),(.i .i64),.b,(.i .i64),(.i .i64)] p1 0 w3 fun x4=>
R ((x4.1,x4.2.1,x4.2.2.1,x4.2.2.2.1,x4.2.2.2.2.1,x4.2.2.2.2.2.1,x4.2.2.2.2.2.2.1,x4.2.2.2.2.2.2.2.1,x4.2.2.2.2.2.2.2.2.1,x4.2.2.2.2.2.2.2.2.2.1,x4.2.2.2.2.2.2.2.2.2.2.1,x4.2.2.2.2.2.2.2.2.2.2.2.1,()),()) w3) (
Aq n fun a5=>
ld1 .b (a5.add 12) w2 fun x6=>
Aj (!x6) (
Aq n fun a7=>
ld1 (.i .u16) (a7.add 13) w2 fun x8=>
Au [.bool false,.int .u16 x8,.int .i64 0,.int .i64 0,.bool false,.bool false,.int .i64 0,.int .i64 0,.int .i64 0,.bool false,.int .i64 0,.int .i64 0] p1 0 w2 fun w9=>
A8 [.b,(.i .u16),(.i .i64),(.i .i64),.b,.b,(.i .i64),(.i .i64),(.i .i64),.b,(.i .i64),(.i .i64)] p1 0 w9 fun x10=>
R ((x10.1,x10.2.1,x10.2.2.1,x10.2.2.2.1,x10.2.2.2.2.1,x10.2.2.2.2.2.1,x10.2.2.2.2.2.2.1,x10.2.2.2.2.2.2.2.1,x10.2.2.2.2.2.2.2.2.1,x10.2.2.2.2.2.2.2.2.2.1,x10.2.2.2.2.2.2.2.2.2.2.1,x10.2.2.2.2.2.2.2.2.2.2.2.1,()),()) w9) (
Jg w2 fun w11=>
Aq n fun a12=>
ld1 (.i .u16) (a12.add 13) w11 fun x13=>
Aq n fun a14=>
ld1 .p (a14.add 14) w11 fun x15=>
Aq n fun a16=>
ld1 .p (a16.add 15) w11 fun x17=>
Aq x17 fun a18=>
ld1 .p a18 w11 fun x19=>
Aq n fun a20=>
ld1 .p (a20.add 15) w11 fun x21=>
Aq x21 fun a22=>
ld1 .p a22 w11 fun x23=>
Aq n fun a24=>
ld1 .p (a24.add 15) w11 fun x25=>
Aq n fun a26=>
ld1 .p (a26.add 15) w11 fun x27=>
Aq n fun a28=>
ld1 .p (a28.add 16) w11 fun x29=>
Aq n fun a30=>
ld1 .p (a30.add 16) w11 fun x31=>
Aq n fun a32=>
ld1 .p (a32.add 17) w11 fun x33=>
Aq n fun a34=>
ld1 .p (a34.add 27) w11 fun x35=>
Aq n fun a36=>
ld1 .p (a36.add 26) w11 fun x37=>
Ae prog F.Ez [.pointer x15] w11 false [(false,[(.i .i64)])] fun r38 w39=>
Aw [(58,(a36.add 26),(w11.cell? (a36.add 26)).getD undef),(53,(a34.add 27),(w11.cell? (a34.add 27)).getD undef),(48,(a32.add 17),(w11.cell? (a32.add 17)).getD undef),(43,(a30.add 16),(w11.cell? (a30.add 16)).getD undef),(38,(a28.add 16),(w11.cell? (a28.add 16)).getD undef),(33,(a26.add 15),(w11.cell? (a26.add 15)).getD undef),(28,(a24.add 15),(w11.cell? (a24.add 15)).getD undef),(23,a22,(w11.cell? a22).getD undef),(20,(a20.add 15),(w11.cell? (a20.add 15)).getD undef),(15,a18,(w11.cell? a18).getD undef),(12,(a16.add 15),(w11.cell? (a16.add 15)).getD undef),(7,(a14.add 14),(w11.cell? (a14.add 14)).getD undef),(3,(a12.add 13),(w11.cell? (a12.add 13)).getD undef)] w39∧(
Ae prog F.Dc [.pointer x19] w39 false [(false,[(.i .i64)])] fun r40 w41=>
Aw [(58,(a36.add 26),(w11.cell? (a36.add 26)).getD undef),(53,(a34.add 27),(w11.cell? (a34.add 27)).getD undef),(48,(a32.add 17),(w11.cell? (a32.add 17)).getD undef),(43,(a30.add 16),(w11.cell? (a30.add 16)).getD undef),(38,(a28.add 16),(w11.cell? (a28.add 16)).getD undef),(33,(a26.add 15),(w11.cell? (a26.add 15)).getD undef),(28,(a24.add 15),(w11.cell? (a24.add 15)).getD undef),(23,a22,(w11.cell? a22).getD undef),(20,(a20.add 15),(w11.cell? (a20.add 15)).getD undef),(15,a18,(w11.cell? a18).getD undef),(12,(a16.add 15),(w11.cell? (a16.add 15)).getD undef),(7,(a14.add 14),(w11.cell? (a14.add 14)).getD undef),(3,(a12.add 13),(w11.cell? (a12.add 13)).getD undef)] w41∧(
Ae prog F.Bc [.pointer x23] w41 false [(false,[.b])] fun r42 w43=>
Aw [(58,(a36.add 26),(w11.cell? (a36.add 26)).getD undef),(53,(a34.add 27),(w11.cell? (a34.add 27)).getD undef),(48,(a32.add 17),(w11.cell? (a32.add 17)).getD undef),(43,(a30.add 16),(w11.cell? (a30.add 16)).getD undef),(38,(a28.add 16),(w11.cell? (a28.add 16)).getD undef),(33,(a26.add 15),(w11.cell? (a26.add 15)).getD undef),(28,(a24.add 15),(w11.cell? (a24.add 15)).getD undef),(23,a22,(w11.cell? a22).getD undef),(20,(a20.add 15),(w11.cell? (a20.add 15)).getD undef),(15,a18,(w11.cell? a18).getD undef),(12,(a16.add 15),(w11.cell? (a16.add 15)).getD undef),(7,(a14.add 14),(w11.cell? (a14.add 14)).getD undef),(3,(a12.add 13),(w11.cell? (a12.add 13)).getD undef)] w43∧(
Ae prog F.Ba [.pointer x25] w43 false [(false,[.b])] fun r44 w45=>
Aw [(58,(a36.add 26),(w11.cell? (a36.add 26)).getD undef),(53,(a34.add 27),(w11.cell? (a34.add 27)).getD undef),(48,(a32.add 17),(w11.cell? (a32.add 17)).getD undef),(43,(a30.add 16),(w11.cell? (a30.add 16)).getD undef),(38,(a28.add 16),(w11.cell? (a28.add 16)).getD undef),(33,(a26.add 15),(w11.cell? (a26.add 15)).getD undef),(28,(a24.add 15),(w11.cell? (a24.add 15)).getD undef),(23,a22,(w11.cell? a22).getD undef),(20,(a20.add 15),(w11.cell? (a20.add 15)).getD undef),(15,a18,(w11.cell? a18).getD undef),(12,(a16.add 15),(w11.cell? (a16.add 15)).getD undef),(7,(a14.add 14),(w11.cell? (a14.add 14)).getD undef),(3,(a12.add 13),(w11.cell? (a12.add 13)).getD undef)] w45∧(
Ae prog F.Hg [.pointer x27] w45 false [(false,[(.i .i64)])] fun r46 w47=>
Aw [(58,(a36.add 26),(w11.cell? (a36.add 26)).getD undef),(53,(a34.add 27),(w11.cell? (a34.add 27)).getD undef),(48,(a32.add 17),(w11.cell? (a32.add 17)).getD undef),(43,(a30.add 16),(w11.cell? (a30.add 16)).getD undef),(38,(a28.add 16),(w11.cell? (a28.add 16)).getD undef),(33,(a26.add 15),(w11.cell? (a26.add 15)).getD undef),(28,(a24.add 15),(w11.cell? (a24.add 15)).getD undef),(23,a22,(w11.cell? a22).getD undef),(20,(a20.add 15),(w11.cell? (a20.add 15)).getD undef),(15,a18,(w11.cell? a18).getD undef),(12,(a16.add 15),(w11.cell? (a16.add 15)).getD undef),(7,(a14.add 14),(w11.cell? (a14.add 14)).getD undef),(3,(a12.add 13),(w11.cell? (a12.add 13)).getD undef)] w47∧(
Ae prog F.Ja [.pointer x29] w47 false [(false,[(.i .i64)])] fun r48 w49=>
Aw [(58,(a36.add 26),(w11.cell? (a36.add 26)).getD undef),(53,(a34.add 27),(w11.cell? (a34.add 27)).getD undef),(48,(a32.add 17),(w11.cell? (a32.add 17)).getD undef),(43,(a30.add 16),(w11.cell? (a30.add 16)).getD undef),(38,(a28.add 16),(w11.cell? (a28.add 16)).getD undef),(33,(a26.add 15),(w11.cell? (a26.add 15)).getD undef),(28,(a24.add 15),(w11.cell? (a24.add 15)).getD undef),(23,a22,(w11.cell? a22).getD undef),(20,(a20.add 15),(w11.cell? (a20.add 15)).getD undef),(15,a18,(w11.cell? a18).getD undef),(12,(a16.add 15),(w11.cell? (a16.add 15)).getD undef),(7,(a14.add 14),(w11.cell? (a14.add 14)).getD undef),(3,(a12.add 13),(w11.cell? (a12.add 13)).getD undef)] w49∧(
Ae prog F.En [.pointer x31] w49 false [(false,[(.i .i64)])] fun r50 w51=>
Aw [(58,(a36.add 26),(w11.cell? (a36.add 26)).getD undef),(53,(a34.add 27),(w11.cell? (a34.add 27)).getD undef),(48,(a32.add 17),(w11.cell? (a32.add 17)).getD undef),(43,(a30.add 16),(w11.cell? (a30.add 16)).getD undef),(38,(a28.add 16),(w11.cell? (a28.add 16)).getD undef),(33,(a26.add 15),(w11.cell? (a26.add 15)).getD undef),(28,(a24.add 15),(w11.cell? (a24.add 15)).getD undef),(23,a22,(w11.cell? a22).getD undef),(20,(a20.add 15),(w11.cell? (a20.add 15)).getD undef),(15,a18,(w11.cell? a18).getD undef),(12,(a16.add 15),(w11.cell? (a16.add 15)).getD undef),(7,(a14.add 14),(w11.cell? (a14.add 14)).getD undef),(3,(a12.add 13),(w11.cell? (a12.add 13)).getD undef)] w51∧(
Ae prog F.Nv [.pointer x33] w51 false [(false,[.b])] fun r52 w53=>
Aw [(58,(a36.add 26),(w11.cell? (a36.add 26)).getD undef),(53,(a34.add 27),(w11.cell? (a34.add 27)).getD undef),(48,(a32.add 17),(w11.cell? (a32.add 17)).getD undef),(43,(a30.add 16),(w11.cell? (a30.add 16)).getD undef),(38,(a28.add 16),(w11.cell? (a28.add 16)).getD undef),(33,(a26.add 15),(w11.cell? (a26.add 15)).getD undef),(28,(a24.add 15),(w11.cell? (a24.add 15)).getD undef),(23,a22,(w11.cell? a22).getD undef),(20,(a20.add 15),(w11.cell? (a20.add 15)).getD undef),(15,a18,(w11.cell? a18).getD undef),(12,(a16.add 15),(w11.cell? (a16.add 15)).getD undef),(7,(a14.add 14),(w11.cell? (a14.add 14)).getD undef),(3,(a12.add 13),(w11.cell? (a12.add 13)).getD undef)] w53∧(
Ae prog F.Di [.pointer x35] w53 false [(false,[(.i .i64)])] fun r54 w55=>
Aw [(58,(a36.add 26),(w11.cell? (a36.add 26)).getD undef),(53,(a34.add 27),(w11.cell? (a34.add 27)).getD undef),(48,(a32.add 17),(w11.cell? (a32.add 17)).getD undef),(43,(a30.add 16),(w11.cell? (a30.add 16)).getD undef),(38,(a28.add 16),(w11.cell? (a28.add 16)).getD undef),(33,(a26.add 15),(w11.cell? (a26.add 15)).getD undef),(28,(a24.add 15),(w11.cell? (a24.add 15)).getD undef),(23,a22,(w11.cell? a22).getD undef),(20,(a20.add 15),(w11.cell? (a20.add 15)).getD undef),(15,a18,(w11.cell? a18).getD undef),(12,(a16.add 15),(w11.cell? (a16.add 15)).getD undef),(7,(a14.add 14),(w11.cell? (a14.add 14)).getD undef),(3,(a12.add 13),(w11.cell? (a12.add 13)).getD undef)] w55∧(
Ae prog F.Qh [.pointer x37] w55 false [(false,[(.i .i64)])] fun r56 w57=>
Aw [(53,(a34.add 27),(w11.cell? (a34.add 27)).getD undef),(48,(a32.add 17),(w11.cell? (a32.add 17)).getD undef),(43,(a30.add 16),(w11.cell? (a30.add 16)).getD undef),(38,(a28.add 16),(w11.cell? (a28.add 16)).getD undef),(33,(a26.add 15),(w11.cell? (a26.add 15)).getD undef),(28,(a24.add 15),(w11.cell? (a24.add 15)).getD undef),(23,a22,(w11.cell? a22).getD undef),(20,(a20.add 15),(w11.cell? (a20.add 15)).getD undef),(15,a18,(w11.cell? a18).getD undef),(12,(a16.add 15),(w11.cell? (a16.add 15)).getD undef),(7,(a14.add 14),(w11.cell? (a14.add 14)).getD undef),(3,(a12.add 13),(w11.cell? (a12.add 13)).getD undef)] w57∧(
Au [.bool true,.int .u16 x13,.int .i64 r38.1.1,.int .i64 r40.1.1,.bool r42.1.1,.bool r44.1.1,.int .i64 r46.1.1,.int .i64 r48.1.1,.int .i64 r50.1.1,.bool r52.1.1,.int .i64 r54.1.1,.int .i64 r56.1.1] p1 0 w57 fun w58=>
Aw [] w58∧(
A8 [.b,(.i .u16),(.i .i64),(.i .i64),.b,.b,(.i .i64),(.i .i64),(.i .i64),.b,(.i .i64),(.i .i64)] p1 0 w58 fun x59=>
R ((x59.1,x59.2.1,x59.2.2.1,x59.2.2.2.1,x59.2.2.2.2.1,x59.2.2.2.2.2.1,x59.2.2.2.2.2.2.1,x59.2.2.2.2.2.2.2.1,x59.2.2.2.2.2.2.2.2.1,x59.2.2.2.2.2.2.2.2.2.1,x59.2.2.2.2.2.2.2.2.2.2.1,x59.2.2.2.2.2.2.2.2.2.2.2.1,()),()) w58)))))))))))))
theorem Cb.eq(n:Option Addr)(w:World)(R:Value→WP):A7 prog Tryz.f55 (.s .n (.s .n (.s .n (.s (.pl (.tk 0 (.tk 1 (.tk 2 (.tk 3 (.tk 4 (.tk 5 (.tk 6 (.tk 7 (.tk 9 (.tk 10 (.tk 11 (.tk 12 (.tk 13 (.tk 14 (.tk 15 (.tk 17 (.tk 18 (.tk 19 (.tk 20 (.tk 21 (.tk 22 (.tk 23 (.tk 25 (.tk 26 (.tk 27 (.tk 28 (.tk 30 (.tk 31 (.tk 32 (.tk 33 (.tk 35 (.tk 36 (.tk 37 (.tk 38 (.tk 40 (.tk 41 (.tk 42 (.tk 43 (.tk 45 (.tk 46 (.tk 47 (.tk 48 (.tk 50 (.tk 51 (.tk 52 (.tk 53 (.tk 55 (.tk 56 (.tk 57 (.tk 58 (.ef 8 [] (.ef 16 [] (.ef 24 [] (.ef 29 [] (.ef 34 [] (.ef 39 [] (.ef 44 [] (.ef 49 [] (.ef 54 [] (.ef 59 [58] (.tk 60 (.ef 61 [3,7,12,15,20,23,28,33,38,43,48,53] .z))))))))))))))))))))))))))))))))))))))))))))))))))))))))))))))) .n)))) [.pointer n] w R=Cb.wp n w (fun r w=>R (encR false [(true,[.b,(.i .u16),(.i .i64),(.i .i64),.b,.b,(.i .i64),(.i .i64),(.i .i64),.b,(.i .i64),(.i .i64)])] r) w):=by kernel_rfl
theorem Cb.ok{n:Option Addr}{w:World}{R:TR [(true,[.b,(.i .u16),(.i .i64),(.i .i64),.b,.b,(.i .i64),(.i .i64),(.i .i64),.b,(.i .i64),(.i .i64)])]→WP}(h:Cb.wp n w R):Ae prog F.Cb [.pointer n] w false [(true,[.b,(.i .u16),(.i .i64),(.i .i64),.b,.b,(.i .i64),(.i .i64),(.i .i64),.b,(.i .i64),(.i .i64)])] R:=
  Aop Aa Tryz.func55 (fun R=>Cb.wp n w R) (Cb.eq n w) rfl h
def D7.wp(l:Option Addr)(i:Int)(k:Int)(on_:Bool)(w:World)(R:TR [(false,[(.i .i64)])]→WP):Prop:=
Aj (Option.isNone l) (
R ((2,()),()) w) (
Ae prog F.Ec [.pointer l,.int .i64 i,.int .i64 k] w false [(false,[.b])] fun r1 w2=>
Aj (!r1.1.1) (
R ((1,()),()) w2) (
Jg w2 fun w3=>
Aq l fun a4=>
ld1 .sl (a4.add 1) w3 fun x5=>
Ny x5.1 x5.2.1 i fun a6=>
ld1 (.i .u64) (a6.add (i.toNat*1)) w3 fun x7=>
fJ k (
Ny x5.1 x5.2.1 i fun a8=>
Au [.int .u64 (Lm .andNot .u64 x7 (Sz .u64 1 k))] (a8.add (i.toNat*1)) 0 w3 fun w9=>
Aw [] w9∧(
Jg w9 fun w10=>
Aq l fun a11=>
ld1 .sl (a11.add 1) w10 fun x12=>
Ny x12.1 x12.2.1 k fun a13=>
ld1 (.i .u64) (a13.add (k.toNat*1)) w10 fun x14=>
fJ i (
Ny x12.1 x12.2.1 k fun a15=>
Au [.int .u64 (Lm .andNot .u64 x14 (Sz .u64 1 i))] (a15.add (k.toNat*1)) 0 w10 fun w16=>
Aw [] w16∧(
Aj on_ (
Jg w16 fun w17=>
Aq l fun a18=>
ld1 .sl (a18.add 1) w17 fun x19=>
Ny x19.1 x19.2.1 i fun a20=>
ld1 (.i .u64) (a20.add (i.toNat*1)) w17 fun x21=>
fJ k (
Ny x19.1 x19.2.1 i fun a22=>
Au [.int .u64 (Lm .or .u64 x21 (Sz .u64 1 k))] (a22.add (i.toNat*1)) 0 w17 fun w23=>
Aw [] w23∧(
Jg w23 fun w24=>
Aq l fun a25=>
ld1 .sl (a25.add 1) w24 fun x26=>
Ny x26.1 x26.2.1 k fun a27=>
ld1 (.i .u64) (a27.add (k.toNat*1)) w24 fun x28=>
fJ i (
Ny x26.1 x26.2.1 k fun a29=>
Au [.int .u64 (Lm .or .u64 x28 (Sz .u64 1 i))] (a29.add (k.toNat*1)) 0 w24 fun w30=>
Aw [] w30∧(
R ((0,()),()) w30))))) (
R ((0,()),()) w16)))))))
theorem D7.eq(l:Option Addr)(i:Int)(k:Int)(on_:Bool)(w:World)(R:Value→WP):A7 prog Tryz.f58 (.s .n (.s .n (.s (.pl (.tk 0 (.tk 1 (.tk 2 (.tk 3 (.tk 4 (.tk 5 (.tk 6 (.tk 7 (.tk 8 (.tk 9 (.tk 10 (.ef 11 [3,6] .z))))))))))))) (.s (.pl (.tk 0 (.tk 1 (.tk 2 (.tk 3 (.tk 4 (.tk 5 (.tk 6 (.tk 7 (.tk 8 (.tk 9 (.tk 10 (.ef 11 [3,6] .z))))))))))))) (.s (.s .n (.s (.s (.pl (.tk 0 (.tk 1 (.tk 2 (.tk 3 (.tk 4 (.tk 5 (.tk 6 (.tk 7 (.tk 8 (.tk 9 (.tk 10 (.ef 11 [3,6] .z))))))))))))) (.pl (.tk 0 (.tk 1 (.tk 2 (.tk 3 (.tk 4 (.tk 5 (.tk 6 (.tk 7 (.tk 8 (.tk 9 (.tk 10 (.ef 11 [3,6] .z)))))))))))))) .n)) .n))))) [.pointer l,.int .i64 i,.int .i64 k,.bool on_] w R=D7.wp l i k on_ w (fun r w=>R (encR false [(false,[(.i .i64)])] r) w):=by kernel_rfl
theorem D7.ok{l:Option Addr}{i:Int}{k:Int}{on_:Bool}{w:World}{R:TR [(false,[(.i .i64)])]→WP}(h:D7.wp l i k on_ w R):Ae prog F.D7 [.pointer l,.int .i64 i,.int .i64 k,.bool on_] w false [(false,[(.i .i64)])] R:=
  Aop Aa Tryz.func58 (fun R=>D7.wp l i k on_ w R) (D7.eq l i k on_ w) rfl h
def Gz.wp(n:Option Addr)(c0:Option Addr×Nat×Nat)(c1:Option Addr×Nat×Nat)(c2:Option Addr×Nat×Nat)(c3:Option Addr×Nat×Nat)(w:World)(R:TR [(false,[(.i .i64)])]→WP):Prop:=
Bf [.slice c0.1 c0.2.1 c0.2.2,.slice c1.1 c1.2.1 c1.2.2,.slice c2.1 c2.2.1 c2.2.2,.slice c3.1 c3.2.1 c3.2.2] T.Pv w fun p1 w2=>
Aj (Option.isNone n) (
R ((2,()),()) w2) (
Jg w2 fun w3=>
ld1 .sl p1 w3 fun x4=>
Aq n fun a5=>
ld1 .sl (a5.add 12) w3 fun x6=>
Aj ((x4.2.1:Int) !=(x6.2.1:Int)) (
R ((1,()),()) w3) (
ld1 .sl (p1.add 3) w3 fun x7=>
Aq n fun a8=>
ld1 .sl (a8.add 12) w3 fun x9=>
Aj (decide ((x7.2.1:Int)>(x9.2.1:Int))) (
R ((1,()),()) w3) (
ld1 .sl (p1.add 1) w3 fun x10=>
Ae prog F.Ff [.pointer n,.slice x10.1 x10.2.1 x10.2.2] w3 false [(false,[.b])] fun r11 w12=>
Aw [(23,(p1.add 1),(w3.cell? (p1.add 1)).getD undef),(16,(a8.add 12),(w3.cell? (a8.add 12)).getD undef),(11,(p1.add 3),(w3.cell? (p1.add 3)).getD undef),(6,(a5.add 12),(w3.cell? (a5.add 12)).getD undef),(1,p1,(w3.cell? p1).getD undef)] w12∧(
Aj (!r11.1.1) (
R ((1,()),()) w12) (
ld1 .sl (p1.add 2) w12 fun x13=>
Ae prog F.Ff [.pointer n,.slice x13.1 x13.2.1 x13.2.2] w12 false [(false,[.b])] fun r14 w15=>
Aw [(23,(p1.add 1),(w3.cell? (p1.add 1)).getD undef),(16,(a8.add 12),(w3.cell? (a8.add 12)).getD undef),(11,(p1.add 3),(w3.cell? (p1.add 3)).getD undef),(6,(a5.add 12),(w3.cell? (a5.add 12)).getD undef),(1,p1,(w3.cell? p1).getD undef)] w15∧(
Aj (!r14.1.1) (
R ((1,()),()) w15) (
Aq n fun a16=>
ld1 .sl (a16.add 12) w15 fun x17=>
Ci (fun(self18:((Int)×Unit)→WP) (z19:(Int)×Unit) w20=> ∀_:Nat→Value,
Aj (decide (z19.1<(x17.2.1:Int))) (
Ny x17.1 x17.2.1 z19.1 fun a21=>
ld1 .p (a21.add (z19.1.toNat*1)) w20 fun x22=>
ld1 .sl p1 w20 fun x23=>
Ny x23.1 x23.2.1 z19.1 fun a24=>
ld1 (.i .i64) (a24.add (z19.1.toNat*1)) w20 fun x25=>
Ae prog F.Sm [.pointer x22,.int .i64 x25] w20 false [(false,[.b])] fun r26 w27=>
Aj (!r26.1.1) (
R ((1,()),()) w27) (
self18 (wrap .i64 (z19.1+1),()) w27)) (
Aq n fun a28=>
ld1 .sl (a28.add 12) w20 fun x29=>
Ci (fun(self30:((Int)×Unit)→WP) (z31:(Int)×Unit) w32=> ∀_:Nat→Value,
Aj (decide (z31.1<(x29.2.1:Int))) (
Ny x29.1 x29.2.1 z31.1 fun a33=>
ld1 .p (a33.add (z31.1.toNat*1)) w32 fun x34=>
Ae prog F.Cb [.pointer x34] w32 false [(true,[.b,(.i .u16),(.i .i64),(.i .i64),.b,.b,(.i .i64),(.i .i64),(.i .i64),.b,(.i .i64),(.i .i64)])] fun r35 w36=>
Bf [.bool false,.int .u16 0,.int .i64 0,.int .i64 0,.bool false,.bool false,.int .i64 0,.int .i64 0,.int .i64 0,.bool false,.int .i64 0,.int .i64 0] T.nK w36 fun p37 w38=>
Au [.bool r35.1.1,.int .u16 r35.1.2.1,.int .i64 r35.1.2.2.1,.int .i64 r35.1.2.2.2.1,.bool r35.1.2.2.2.2.1,.bool r35.1.2.2.2.2.2.1,.int .i64 r35.1.2.2.2.2.2.2.1,.int .i64 r35.1.2.2.2.2.2.2.2.1,.int .i64 r35.1.2.2.2.2.2.2.2.2.1,.bool r35.1.2.2.2.2.2.2.2.2.2.1,.int .i64 r35.1.2.2.2.2.2.2.2.2.2.2.1,.int .i64 r35.1.2.2.2.2.2.2.2.2.2.2.2.1] p37 0 w38 fun w39=>
Jg w39 fun w40=>
ld1 .b p37 w40 fun x41=>
Aj x41 (
ld1 (.i .i64) (p37.add 2) w40 fun x42=>
ld1 .sl p1 w40 fun x43=>
Ny x43.1 x43.2.1 z31.1 fun a44=>
ld1 (.i .i64) (a44.add (z31.1.toNat*1)) w40 fun x45=>
Aj (decide ((wrap .i64 (x42+x45))>1125899906842624)) (
R ((8,()),()) w40) (
self30 (wrap .i64 (z31.1+1),()) w40)) (
self30 (wrap .i64 (z31.1+1),()) w40)) (
R ((0,()),()) w32)) (0,()) w20)) (0,()) w15)))))))
theorem Gz.eq(n:Option Addr)(c0:Option Addr×Nat×Nat)(c1:Option Addr×Nat×Nat)(c2:Option Addr×Nat×Nat)(c3:Option Addr×Nat×Nat)(w:World)(R:Value→WP):A7 prog Tryz.f59 (.s .n (.s .n (.s (.s (.pl (.tk 0 (.tk 1 (.tk 2 (.tk 3 (.tk 4 (.tk 5 (.tk 6 (.tk 7 (.tk 8 (.tk 9 (.tk 10 (.tk 11 (.tk 12 (.tk 13 (.tk 14 (.tk 15 (.tk 16 (.tk 17 (.tk 18 (.tk 19 (.tk 20 (.tk 21 (.tk 22 (.tk 23 (.ef 24 [] (.tk 25 (.tk 26 (.tk 27 (.tk 28 (.tk 29 (.tk 30 (.ef 31 [30] (.tk 32 (.tk 33 .z))))))))))))))))))))))))))))))))))) .n) (.s (.s .n (.lp [(51,(.i .i64))] .n)) (.s (.s .n (.lp [(70,(.i .i64))] (.s .n (.s .n (.s (.s .n (.s .n (.s (.pl (.tk 0 (.tk 1 (.tk 2 (.tk 3 (.tk 4 (.tk 5 (.tk 6 (.tk 7 (.tk 8 (.tk 9 (.tk 10 (.tk 11 (.tk 12 .z)))))))))))))) .n))) .n))))) .n))))) [.pointer n,.agg #[.slice c0.1 c0.2.1 c0.2.2,.slice c1.1 c1.2.1 c1.2.2,.slice c2.1 c2.2.1 c2.2.2,.slice c3.1 c3.2.1 c3.2.2]] w R=Gz.wp n c0 c1 c2 c3 w (fun r w=>R (encR false [(false,[(.i .i64)])] r) w):=by kernel_rfl
theorem Gz.ok{n:Option Addr}{c0:Option Addr×Nat×Nat}{c1:Option Addr×Nat×Nat}{c2:Option Addr×Nat×Nat}{c3:Option Addr×Nat×Nat}{w:World}{R:TR [(false,[(.i .i64)])]→WP}(h:Gz.wp n c0 c1 c2 c3 w R):Ae prog F.Gz [.pointer n,.agg #[.slice c0.1 c0.2.1 c0.2.2,.slice c1.1 c1.2.1 c1.2.2,.slice c2.1 c2.2.1 c2.2.2,.slice c3.1 c3.2.1 c3.2.2]] w false [(false,[(.i .i64)])] R:=
  Aop Aa Tryz.func59 (fun R=>Gz.wp n c0 c1 c2 c3 w R) (Gz.eq n c0 c1 c2 c3 w) rfl h
def Lr.wp(n:Option Addr)(ticks:Int)(w:World)(R:TR [(false,[(.i .i64)])]→WP):Prop:=
Ae prog F.Cm [.pointer n] w false [(false,[(.i .i64)])] fun r1 w2=>
Aj (r1.1.1 !=0) (
R ((r1.1.1,()),()) w2) (
Aq n fun a3=>
ld1 .p (a3.add 14) w2 fun x4=>
Ae prog F.Qd [.pointer x4,.int .i64 ticks] w2 false [(false,[(.i .i64)])] fun r5 w6=>
R ((r5.1.1,()),()) w6)
theorem Lr.eq(n:Option Addr)(ticks:Int)(w:World)(R:Value→WP):A7 prog Tryz.f60 .n [.pointer n,.int .i64 ticks] w R=Lr.wp n ticks w (fun r w=>R (encR false [(false,[(.i .i64)])] r) w):=by kernel_rfl
theorem Lr.ok{n:Option Addr}{ticks:Int}{w:World}{R:TR [(false,[(.i .i64)])]→WP}(h:Lr.wp n ticks w R):Ae prog F.Lr [.pointer n,.int .i64 ticks] w false [(false,[(.i .i64)])] R:=
  Aop Aa Tryz.func60 (fun R=>Lr.wp n ticks w R) (Lr.eq n ticks w) rfl h
def Ht.wp(n:Option Addr)(c0:Option Addr×Nat×Nat)(c1:Option Addr×Nat×Nat)(c2:Option Addr×Nat×Nat)(c3:Option Addr×Nat×Nat)(w:World)(R:TR [(false,[.sl])]→WP):Prop:=
Bf [.slice c0.1 c0.2.1 c0.2.2,.slice c1.1 c1.2.1 c1.2.2,.slice c2.1 c2.2.1 c2.2.2,.slice c3.1 c3.2.1 c3.2.2] T.Pv w fun p1 w2=>
Aq n fun a3=>
ld1 .sl (a3.add 12) w2 fun x4=>
L9 ((Instr.makeSlice T.Tj (.int .i64 (x4.2.1:Int)) (.int .i64 (x4.2.1:Int))).run prog w2) fun y5 w6=>
Aq n fun a7=>
Au [.int .u64 0] (a7.add 14) 0 w6 fun w8=>
Aq n fun a9=>
ld1 .sl (a9.add 12) w8 fun x10=>
Ci (fun(self11:((Int)×Unit)→WP) (z12:(Int)×Unit) w13=> ∀_:Nat→Value,
Aj (decide (z12.1<(x10.2.1:Int))) (
Ny x10.1 x10.2.1 z12.1 fun a14=>
ld1 .p (a14.add (z12.1.toNat*1)) w13 fun x15=>
Jg w13 fun w16=>
Aq n fun a17=>
ld1 (.i .i64) (a17.add 13) w16 fun x18=>
ld1 .sl (p1.add 1) w16 fun x19=>
Ny x19.1 x19.2.1 z12.1 fun a20=>
ld1 (.i .i64) (a20.add (z12.1.toNat*1)) w16 fun x21=>
Ae prog F.Hy [.pointer x15,.int .i64 x18,.int .i64 x21] w16 true [(false,[.sl]),(false,[(.i .i64)])] fun r22 w23=>
Aw [(8,(p1.add 1),(w16.cell? (p1.add 1)).getD undef)] w23∧(
Ny y5.1 y5.2.1 z12.1 fun a24=>
Au [.slice r22.1.1.1 r22.1.1.2.1 r22.1.1.2.2] (a24.add (z12.1.toNat*1)) 0 w23 fun w25=>
Aw [] w25∧(
Ny y5.1 y5.2.1 z12.1 fun a26=>
ld1 .sl (a26.add (z12.1.toNat*1)) w25 fun x27=>
Aj (decide ((x27.2.1:Int)>0)) (
Jg w25 fun w28=>
Aq n fun a29=>
ld1 (.i .u64) (a29.add 14) w28 fun x30=>
fJ z12.1 (
Aq n fun a31=>
Au [.int .u64 (Lm .or .u64 x30 (Sz .u64 1 z12.1))] (a31.add 14) 0 w28 fun w32=>
Aw [] w32∧(
self11 (wrap .i64 (z12.1+1),()) w32))) (
self11 (wrap .i64 (z12.1+1),()) w25)))) (
R (((y5.1,y5.2.1,y5.2.2),()),()) w13)) (0,()) w8
theorem Ht.eq(n:Option Addr)(c0:Option Addr×Nat×Nat)(c1:Option Addr×Nat×Nat)(c2:Option Addr×Nat×Nat)(c3:Option Addr×Nat×Nat)(w:World)(R:Value→WP):A7 prog Tryz.f61 (.s .n (.s .n (.s .n (.s (.s .n (.lp [(22,(.i .i64))] (.s .n (.s .n (.s (.s .n (.s (.pl (.tk 0 (.tk 1 (.tk 2 (.tk 3 (.tk 4 (.tk 5 (.tk 6 (.tk 7 (.tk 8 (.tk 9 (.tk 10 (.tk 11 (.ef 12 [6,11] (.tk 13 (.tk 14 (.tk 15 (.tk 16 (.ef 17 [8] .z))))))))))))))))))) (.s .n (.s (.pl (.tk 0 (.tk 1 (.tk 2 (.tk 3 (.tk 4 (.tk 5 (.tk 6 (.tk 7 (.tk 8 (.ef 9 [3] .z))))))))))) .n)))) .n))))) .n)))) [.pointer n,.agg #[.slice c0.1 c0.2.1 c0.2.2,.slice c1.1 c1.2.1 c1.2.2,.slice c2.1 c2.2.1 c2.2.2,.slice c3.1 c3.2.1 c3.2.2]] w R=Ht.wp n c0 c1 c2 c3 w (fun r w=>R (encR false [(false,[.sl])] r) w):=by kernel_rfl
theorem Ht.ok{n:Option Addr}{c0:Option Addr×Nat×Nat}{c1:Option Addr×Nat×Nat}{c2:Option Addr×Nat×Nat}{c3:Option Addr×Nat×Nat}{w:World}{R:TR [(false,[.sl])]→WP}(h:Ht.wp n c0 c1 c2 c3 w R):Ae prog F.Ht [.pointer n,.agg #[.slice c0.1 c0.2.1 c0.2.2,.slice c1.1 c1.2.1 c1.2.2,.slice c2.1 c2.2.1 c2.2.2,.slice c3.1 c3.2.1 c3.2.2]] w false [(false,[.sl])] R:=
  Aop Aa Tryz.func61 (fun R=>Ht.wp n c0 c1 c2 c3 w R) (Ht.eq n c0 c1 c2 c3 w) rfl h
def Iz.wp(l:Option Addr)(send:Int)(awake:Int)(lost:Option Addr×Nat×Nat)(w:World)(R:TR [(false,[.sl])]→WP):Prop:=
Bf [.int .u64 0,.int .u64 0,.slice none 0 0] T.aY w fun p1 w2=>
Au [.int .u64 send,.int .u64 awake,.slice lost.1 lost.2.1 lost.2.2] p1 0 w2 fun w3=>
Ae prog F.Bq [.pointer l] w3 false [(false,[(.i .i64)])] fun r4 w5=>
Ci (fun(self6:((Option Addr×Nat×Nat)×(Int)×Unit)→WP) (z7:(Option Addr×Nat×Nat)×(Int)×Unit) w8=> ∀_:Nat→Value,
Aj (decide (z7.2.1<r4.1.1)) (
Jg w8 fun w9=>
A8 [(.i .u64),(.i .u64),.sl] p1 0 w9 fun x10=>
Ae prog F.Ce [.pointer l,.int .i64 z7.2.1] w9 false [(false,[(.i .u64)])] fun r11 w12=>
Aw [(1,(p1.add 0),(w9.cell? (p1.add 0)).getD undef),(1,(p1.add 1),(w9.cell? (p1.add 1)).getD undef),(1,(p1.add 2),(w9.cell? (p1.add 2)).getD undef)] w12∧(
Ae prog F.Gy [.agg #[.int .u64 x10.1,.int .u64 x10.2.1,.slice x10.2.2.1.1 x10.2.2.1.2.1 x10.2.2.1.2.2],.int .i64 z7.2.1,.int .u64 (Lm .and .u64 r11.1.1 send)] w12 false [(true,[(.i .i64),(.i .i64)])] fun r13 w14=>
Aw [(1,(p1.add 0),(w9.cell? (p1.add 0)).getD undef),(1,(p1.add 1),(w9.cell? (p1.add 1)).getD undef),(1,(p1.add 2),(w9.cell? (p1.add 2)).getD undef)] w14∧(
Bf [.int .i64 r13.1.1,.int .i64 r13.1.2.1] T.Me w14 fun p15 w16=>
Aw [(1,(p1.add 0),(w9.cell? (p1.add 0)).getD undef),(1,(p1.add 1),(w9.cell? (p1.add 1)).getD undef),(1,(p1.add 2),(w9.cell? (p1.add 2)).getD undef)] w16∧(
L9 ((Builtin.append_ #[T.Kq,T.Kq] T.Kq #[.slice z7.1.1 z7.1.2.1 z7.1.2.2,.slice (some p15) 1 1]).run prog w16) fun y17 w18=>
Aw [(1,(p1.add 0),(w9.cell? (p1.add 0)).getD undef),(1,(p1.add 1),(w9.cell? (p1.add 1)).getD undef),(1,(p1.add 2),(w9.cell? (p1.add 2)).getD undef)] w18∧(
self6 ((y17.1,y17.2.1,y17.2.2),wrap .i64 (z7.2.1+1),()) w18))))) (
R (((z7.1.1,z7.1.2.1,z7.1.2.2),()),()) w8)) ((none,0,0),0,()) w5
theorem Iz.eq(l:Option Addr)(send:Int)(awake:Int)(lost:Option Addr×Nat×Nat)(w:World)(R:Value→WP):A7 prog Tryz.f62 (.s .n (.s .n (.s .n (.s (.s .n (.lp [(9,.sl),(18,(.i .i64))] (.s .n (.s .n (.s (.s .n (.pl (.tk 0 (.tk 1 (.tk 2 (.tk 3 (.tk 4 (.tk 6 (.ef 5 [] (.tk 7 (.ef 8 [] (.ef 9 [] (.ef 10 [] (.tk 11 .z)))))))))))))) .n))))) .n)))) [.pointer l,.int .u64 send,.int .u64 awake,.slice lost.1 lost.2.1 lost.2.2] w R=Iz.wp l send awake lost w (fun r w=>R (encR false [(false,[.sl])] r) w):=by kernel_rfl
theorem Iz.ok{l:Option Addr}{send:Int}{awake:Int}{lost:Option Addr×Nat×Nat}{w:World}{R:TR [(false,[.sl])]→WP}(h:Iz.wp l send awake lost w R):Ae prog F.Iz [.pointer l,.int .u64 send,.int .u64 awake,.slice lost.1 lost.2.1 lost.2.2] w false [(false,[.sl])] R:=
  Aop Aa Tryz.func62 (fun R=>Iz.wp l send awake lost w R) (Iz.eq l send awake lost w) rfl h
def Ha.wp(n:Option Addr)(w:World)(R:TR [(false,[(.i .u64)])]→WP):Prop:=
Aq n fun a1=>
ld1 .sl (a1.add 12) w fun x2=>
Ci (fun(self3:((Int)×(Int)×Unit)→WP) (z4:(Int)×(Int)×Unit) w5=> ∀_:Nat→Value,
Aj (decide (z4.2.1<(x2.2.1:Int))) (
Ny x2.1 x2.2.1 z4.2.1 fun a6=>
ld1 .p (a6.add (z4.2.1.toNat*1)) w5 fun x7=>
Ae prog F.Iy [.pointer x7] w5 false [(false,[.b])] fun r8 w9=>
Aj r8.1.1 (
fJ z4.2.1 (
self3 (Lm .or .u64 z4.1 (Sz .u64 1 z4.2.1),wrap .i64 (z4.2.1+1),()) w9)) (
self3 (z4.1,wrap .i64 (z4.2.1+1),()) w9)) (
R ((z4.1,()),()) w5)) (0,0,()) w
theorem Ha.eq(n:Option Addr)(w:World)(R:Value→WP):A7 prog Tryz.f63 (.s .n (.s .n (.s (.s .n (.lp [(3,(.i .u64)),(11,(.i .i64))] .n)) .n))) [.pointer n] w R=Ha.wp n w (fun r w=>R (encR false [(false,[(.i .u64)])] r) w):=by kernel_rfl
theorem Ha.ok{n:Option Addr}{w:World}{R:TR [(false,[(.i .u64)])]→WP}(h:Ha.wp n w R):Ae prog F.Ha [.pointer n] w false [(false,[(.i .u64)])] R:=
  Aop Aa Tryz.func63 (fun R=>Ha.wp n w R) (Ha.eq n w) rfl h
def Ia.wp(n:Option Addr)(jitter:Int)(b:Option Addr×Nat×Nat)(w:World)(R:TR [(false,[(.i .i64)])]→WP):Prop:=
Ae prog F.Iu [.pointer n,.int .i64 jitter] w true [(false,[(.i .i64)]),(false,[(.i .i64)])] fun r1 w2=>
Aj (r1.2.1.1 !=0) (
R ((r1.2.1.1,()),()) w2) (
Ae prog F.Ru [.slice b.1 b.2.1 b.2.2] w2 true [(false,[.any]),(false,[(.i .i64)])] fun r3 w4=>
Jg w4 fun w5=>
Aj (r3.2.1.1 !=0) (
R ((r3.2.1.1,()),()) w5) (
Aq n fun a6=>
ld1 (.i .i64) a6 w5 fun x7=>
vY prog r3.1.1 "Sender" [] w5 false [(false,[(.i .i64)])] fun r8 w9=>
Aw [(9,a6,(w5.cell? a6).getD undef)] w9∧(
Aj (r8.1.1==x7) (
R ((r3.2.1.1,()),()) w9) (
Ae prog F.Gm [.pointer n,r3.1.1,.int .i64 r1.1.1] w9 false [(false,[(.i .i64)])] fun r10 w11=>
R ((r10.1.1,()),()) w11))))
theorem Ia.eq(n:Option Addr)(jitter:Int)(b:Option Addr×Nat×Nat)(w:World)(R:Value→WP):A7 prog Tryz.f64 (.s .n (.s .n (.s .n (.s .n (.s (.s (.pl (.tk 0 (.tk 1 (.tk 2 (.tk 3 (.tk 5 (.tk 6 (.tk 7 (.tk 8 (.tk 9 (.ef 4 [] (.tk 10 (.tk 11 .z))))))))))))) .n) .n))))) [.pointer n,.int .i64 jitter,.slice b.1 b.2.1 b.2.2] w R=Ia.wp n jitter b w (fun r w=>R (encR false [(false,[(.i .i64)])] r) w):=by kernel_rfl
theorem Ia.ok{n:Option Addr}{jitter:Int}{b:Option Addr×Nat×Nat}{w:World}{R:TR [(false,[(.i .i64)])]→WP}(h:Ia.wp n jitter b w R):Ae prog F.Ia [.pointer n,.int .i64 jitter,.slice b.1 b.2.1 b.2.2] w false [(false,[(.i .i64)])] R:=
  Aop Aa Tryz.func64 (fun R=>Ia.wp n jitter b w R) (Ia.eq n jitter b w) rfl h
def Bo.wp(n:Option Addr)(i:Int)(w:World)(R:TR [(false,[(.i .i64)])]→WP):Prop:=
Aj (Option.isNone n) (
R ((2,()),()) w) (
Ae prog F.Gi [.pointer n,.int .i64 i] w false [(false,[.p])] fun r1 w2=>
Aj (Option.isNone r1.1.1) (
R ((7,()),()) w2) (
R ((0,()),()) w2))
theorem Bo.eq(n:Option Addr)(i:Int)(w:World)(R:Value→WP):A7 prog Tryz.f65 .n [.pointer n,.int .i64 i] w R=Bo.wp n i w (fun r w=>R (encR false [(false,[(.i .i64)])] r) w):=by kernel_rfl
theorem Bo.ok{n:Option Addr}{i:Int}{w:World}{R:TR [(false,[(.i .i64)])]→WP}(h:Bo.wp n i w R):Ae prog F.Bo [.pointer n,.int .i64 i] w false [(false,[(.i .i64)])] R:=
  Aop Aa Tryz.func65 (fun R=>Bo.wp n i w R) (Bo.eq n i w) rfl h
def D6.wp(n:Option Addr)(w:World)(R:TR [(true,[(.i .i64),(.i .i64),(.i .i64),(.i .u16),(.i .i64)]),(false,[(.i .i64)])]→WP):Prop:=
Bf [.int .i64 0,.int .i64 0,.int .i64 0,.int .u16 0,.int .i64 0] T.Bg w fun p1 w2=>
Ae prog F.Cm [.pointer n] w2 false [(false,[(.i .i64)])] fun r3 w4=>
Aj (r3.1.1 !=0) (
Au [.int .i64 0,.int .i64 0,.int .i64 0,.int .u16 0,.int .i64 0] p1 0 w4 fun w5=>
A8 [(.i .i64),(.i .i64),(.i .i64),(.i .u16),(.i .i64)] p1 0 w5 fun x6=>
R ((x6.1,x6.2.1,x6.2.2.1,x6.2.2.2.1,x6.2.2.2.2.1,()),(r3.1.1,()),()) w5) (
Jg w4 fun w7=>
Aq n fun a8=>
ld1 .p (a8.add 18) w7 fun x9=>
Aq n fun a10=>
ld1 .p (a10.add 15) w7 fun x11=>
Aq n fun a12=>
ld1 .p (a12.add 14) w7 fun x13=>
Ae prog F.Ez [.pointer x13] w7 false [(false,[(.i .i64)])] fun r14 w15=>
Aw [(11,(a12.add 14),(w7.cell? (a12.add 14)).getD undef),(7,(a10.add 15),(w7.cell? (a10.add 15)).getD undef),(3,(a8.add 18),(w7.cell? (a8.add 18)).getD undef)] w15∧(
Ae prog F.Ar [.pointer x9,.pointer x11,.int .i64 r14.1.1] w15 true [(true,[(.i .i64),(.i .i64),(.i .i64),(.i .u16),(.i .i64)]),(false,[(.i .i64)])] fun r16 w17=>
Aw [(11,(a12.add 14),(w7.cell? (a12.add 14)).getD undef)] w17∧(
Au [.int .i64 r16.1.1,.int .i64 r16.1.2.1,.int .i64 r16.1.2.2.1,.int .u16 r16.1.2.2.2.1,.int .i64 r16.1.2.2.2.2.1] p1 0 w17 fun w18=>
Aw [] w18∧(
A8 [(.i .i64),(.i .i64),(.i .i64),(.i .u16),(.i .i64)] p1 0 w18 fun x19=>
R ((x19.1,x19.2.1,x19.2.2.1,x19.2.2.2.1,x19.2.2.2.2.1,()),(r16.2.1.1,()),()) w18))))
theorem D6.eq(n:Option Addr)(w:World)(R:Value→WP):A7 prog Tryz.f66 (.s .n (.s .n (.s (.pl (.tk 0 (.tk 1 (.tk 2 (.tk 3 (.tk 4 (.tk 5 (.tk 6 (.tk 7 (.tk 8 (.tk 9 (.tk 10 (.tk 11 (.ef 12 [] (.ef 13 [3,7] (.tk 14 (.tk 15 (.ef 16 [11] (.tk 17 .z))))))))))))))))))) .n))) [.pointer n] w R=D6.wp n w (fun r w=>R (encR true [(true,[(.i .i64),(.i .i64),(.i .i64),(.i .u16),(.i .i64)]),(false,[(.i .i64)])] r) w):=by kernel_rfl
theorem D6.ok{n:Option Addr}{w:World}{R:TR [(true,[(.i .i64),(.i .i64),(.i .i64),(.i .u16),(.i .i64)]),(false,[(.i .i64)])]→WP}(h:D6.wp n w R):Ae prog F.D6 [.pointer n] w true [(true,[(.i .i64),(.i .i64),(.i .i64),(.i .u16),(.i .i64)]),(false,[(.i .i64)])] R:=
  Aop Aa Tryz.func66 (fun R=>D6.wp n w R) (D6.eq n w) rfl h
def Ji.wp(n:Option Addr)(raw:Int)(w:World)(R:TR [(false,[(.i .i64)])]→WP):Prop:=
Aj (Option.isNone n) (
R ((2,()),()) w) (
Aq n fun a1=>
Au [.bool true] (a1.add 12) 0 w fun w2=>
Aq n fun a3=>
ld1 (.i .u16) (a3.add 13) w2 fun x4=>
Aq n fun a5=>
Au [.int .u16 (wrap .u16 (x4+1))] (a5.add 13) 0 w2 fun w6=>
Aq n fun a7=>
ld1 .p (a7.add 14) w6 fun x8=>
Ae prog F.Nr [.pointer x8,.int .u32 raw] w6 true [] fun r9 w10=>
Jg w10 fun w11=>
Aq n fun a12=>
ld1 .p (a12.add 15) w11 fun x13=>
Aq n fun a14=>
ld1 (.i .u16) (a14.add 13) w11 fun x15=>
Ae prog F.Lh [.pointer x13,.int .u16 x15] w11 true [] fun r16 w17=>
Aw [] w17∧(
Aq n fun a18=>
ld1 .p (a18.add 16) w17 fun x19=>
Ae prog F.Gf [.pointer x19] w17 true [] fun r20 w21=>
Aq n fun a22=>
ld1 .p (a22.add 17) w21 fun x23=>
Ae prog F.Pe [.pointer x23] w21 true [] fun r24 w25=>
Aq n fun a26=>
ld1 .p (a26.add 18) w25 fun x27=>
Ae prog F.Fe [.pointer x27] w25 true [] fun r28 w29=>
Aq n fun a30=>
Ae prog F.Js [.pointer (some (a30.add 19))] w29 true [] fun r31 w32=>
Aq n fun a33=>
ld1 .p (a33.add 26) w32 fun x34=>
Ae prog F.Md [.pointer x34] w32 true [] fun r35 w36=>
Aq n fun a37=>
ld1 .p (a37.add 27) w36 fun x38=>
Ae prog F.Eh [.pointer x38] w36 true [] fun r39 w40=>
R ((0,()),()) w40))
theorem Ji.eq(n:Option Addr)(raw:Int)(w:World)(R:Value→WP):A7 prog Tryz.f67 (.s .n (.s .n (.s .n (.s .n (.s .n (.s (.pl (.tk 0 (.tk 1 (.tk 2 (.tk 3 (.tk 4 (.tk 5 (.tk 6 (.tk 7 (.ef 8 [3,7] .z)))))))))) .n)))))) [.pointer n,.int .u32 raw] w R=Ji.wp n raw w (fun r w=>R (encR false [(false,[(.i .i64)])] r) w):=by kernel_rfl
theorem Ji.ok{n:Option Addr}{raw:Int}{w:World}{R:TR [(false,[(.i .i64)])]→WP}(h:Ji.wp n raw w R):Ae prog F.Ji [.pointer n,.int .u32 raw] w false [(false,[(.i .i64)])] R:=
  Aop Aa Tryz.func67 (fun R=>Ji.wp n raw w R) (Ji.eq n raw w) rfl h
def Qg.wp(n:Option Addr)(w:World)(R:TR [(false,[(.i .i64)])]→WP):Prop:=
Ae prog F.Cm [.pointer n] w false [(false,[(.i .i64)])] fun r1 w2=>
Aj (r1.1.1==0) (
Aq n fun a3=>
Au [.bool false] (a3.add 12) 0 w2 fun w4=>
R ((r1.1.1,()),()) w4) (
R ((r1.1.1,()),()) w2)
theorem Qg.eq(n:Option Addr)(w:World)(R:Value→WP):A7 prog Tryz.f68 .n [.pointer n] w R=Qg.wp n w (fun r w=>R (encR false [(false,[(.i .i64)])] r) w):=by kernel_rfl
theorem Qg.ok{n:Option Addr}{w:World}{R:TR [(false,[(.i .i64)])]→WP}(h:Qg.wp n w R):Ae prog F.Qg [.pointer n] w false [(false,[(.i .i64)])] R:=
  Aop Aa Tryz.func68 (fun R=>Qg.wp n w R) (Qg.eq n w) rfl h
def Qc.wp(n:Option Addr)(tai:Int)(w:World)(R:TR [(false,[(.i .i64)])]→WP):Prop:=
Ae prog F.Cm [.pointer n] w false [(false,[(.i .i64)])] fun r1 w2=>
Aj (r1.1.1 !=0) (
R ((r1.1.1,()),()) w2) (
Aq n fun a3=>
ld1 .b (a3.add 10) w2 fun x4=>
Aj (!x4) (
R ((7,()),()) w2) (
Ae prog F.D6 [.pointer n] w2 true [(true,[(.i .i64),(.i .i64),(.i .i64),(.i .u16),(.i .i64)]),(false,[(.i .i64)])] fun r5 w6=>
Bf [.int .i64 0,.int .i64 0,.int .i64 0,.int .u16 0,.int .i64 0] T.Bg w6 fun p7 w8=>
Au [.int .i64 r5.1.1,.int .i64 r5.1.2.1,.int .i64 r5.1.2.2.1,.int .u16 r5.1.2.2.2.1,.int .i64 r5.1.2.2.2.2.1] p7 0 w8 fun w9=>
Aj (r5.2.1.1 !=0) (
R ((r5.2.1.1,()),()) w9) (
Jg w9 fun w10=>
Aq n fun a11=>
Aq n fun a12=>
ld1 (.i .i64) a12 w10 fun x13=>
A8 [(.i .i64),(.i .i64),(.i .i64),(.i .u16),(.i .i64)] p7 0 w10 fun x14=>
(
Ae prog F.Et [.pointer (some (a11.add 19)),.int .i64 x13,.agg #[.int .i64 x14.1,.int .i64 x14.2.1,.int .i64 x14.2.2.1,.int .u16 x14.2.2.2.1,.int .i64 x14.2.2.2.2.1],.int .i64 tai] w10 true [(true,[(.i .i64),(.i .u16),(.i .i64),(.i .u16),(.i .i64),(.i .i64)]),(false,[(.i .i64)])] fun Zb w16=>
Aw [(8,(p7.add 0),(w10.cell? (p7.add 0)).getD undef),(8,(p7.add 1),(w10.cell? (p7.add 1)).getD undef),(8,(p7.add 2),(w10.cell? (p7.add 2)).getD undef),(8,(p7.add 3),(w10.cell? (p7.add 3)).getD undef),(8,(p7.add 4),(w10.cell? (p7.add 4)).getD undef),(7,a12,(w10.cell? a12).getD undef)] w16∧(
Bf [.int .i64 0,.int .u16 0,.int .i64 0,.int .u16 0,.int .i64 0,.int .i64 0] T.Bh w16 fun p17 w18=>
Aw [(8,(p7.add 0),(w10.cell? (p7.add 0)).getD undef),(8,(p7.add 1),(w10.cell? (p7.add 1)).getD undef),(8,(p7.add 2),(w10.cell? (p7.add 2)).getD undef),(8,(p7.add 3),(w10.cell? (p7.add 3)).getD undef),(8,(p7.add 4),(w10.cell? (p7.add 4)).getD undef),(7,a12,(w10.cell? a12).getD undef)] w18∧(
Au [.int .i64 Zb.1.1,.int .u16 Zb.1.2.1,.int .i64 Zb.1.2.2.1,.int .u16 Zb.1.2.2.2.1,.int .i64 Zb.1.2.2.2.2.1,.int .i64 Zb.1.2.2.2.2.2.1] p17 0 w18 fun w19=>
Aw [] w19∧(
Aj (Zb.2.1.1 !=0) (
R ((Zb.2.1.1,()),()) w19) (
Ae prog F.Ib [.pointer n] w19 false [(false,[(.i .i64)])] fun r20 w21=>
R ((r20.1.1,()),()) w21)))))∧(
Bf [.int .i64 0,.int .u16 0,.int .i64 0,.int .u16 0,.int .i64 0,.int .i64 0] T.Bh w10 fun p22 w23=>
Aw [(8,(p7.add 0),(w10.cell? (p7.add 0)).getD undef),(8,(p7.add 1),(w10.cell? (p7.add 1)).getD undef),(8,(p7.add 2),(w10.cell? (p7.add 2)).getD undef),(8,(p7.add 3),(w10.cell? (p7.add 3)).getD undef),(8,(p7.add 4),(w10.cell? (p7.add 4)).getD undef),(7,a12,(w10.cell? a12).getD undef)] w23∧(
Ae prog F.Et [.pointer (some (a11.add 19)),.int .i64 x13,.agg #[.int .i64 x14.1,.int .i64 x14.2.1,.int .i64 x14.2.2.1,.int .u16 x14.2.2.2.1,.int .i64 x14.2.2.2.2.1],.int .i64 tai] w23 true [(true,[(.i .i64),(.i .u16),(.i .i64),(.i .u16),(.i .i64),(.i .i64)]),(false,[(.i .i64)])] fun r24 w25=>
Aw [] w25∧(
Au [.int .i64 r24.1.1,.int .u16 r24.1.2.1,.int .i64 r24.1.2.2.1,.int .u16 r24.1.2.2.2.1,.int .i64 r24.1.2.2.2.2.1,.int .i64 r24.1.2.2.2.2.2.1] p22 0 w25 fun w26=>
Aw [] w26∧(
Aj (r24.2.1.1 !=0) (
R ((r24.2.1.1,()),()) w26) (
Ae prog F.Ib [.pointer n] w26 false [(false,[(.i .i64)])] fun r27 w28=>
R ((r27.1.1,()),()) w28))))))))
theorem Qc.eq(n:Option Addr)(tai:Int)(w:World)(R:Value→WP):A7 prog Tryz.f69 (.s .n (.s .n (.s .n (.s .n (.s .n (.s (.s (.pl (.tk 0 (.tk 1 (.tk 2 (.tk 3 (.tk 4 (.tk 5 (.tk 6 (.tk 7 (.tk 8 (.tk 9 (.two 10 14 (.tk 11 (.tk 12 (.tk 13 (.ef 14 [] (.ef 15 [7,8] (.tk 16 .z)))))) (.ef 10 [7,8] (.tk 11 (.tk 12 (.tk 13 (.ef 15 [] (.tk 16 .z)))))))))))))))))) .n) .n)))))) [.pointer n,.int .i64 tai] w R=Qc.wp n tai w (fun r w=>R (encR false [(false,[(.i .i64)])] r) w):=by kernel_rfl
theorem Qc.ok{n:Option Addr}{tai:Int}{w:World}{R:TR [(false,[(.i .i64)])]→WP}(h:Qc.wp n tai w R):Ae prog F.Qc [.pointer n,.int .i64 tai] w false [(false,[(.i .i64)])] R:=
  Aop Aa Tryz.func69 (fun R=>Qc.wp n tai w R) (Qc.eq n tai w) rfl h
def Ru.wp(b:Option Addr×Nat×Nat)(w:World)(R:TR [(false,[.any]),(false,[(.i .i64)])]→WP):Prop:=
Aj (decide ((b.2.1:Int)>64)) (
R ((.nilIface,()),(5,()),()) w) (
Ae prog F.Xu [.slice b.1 b.2.1 b.2.2] w false [(false,[.p])] fun r1 w2=>
Ae prog F.Nj [.pointer r1.1.1,.int .i64 1] w2 true [(false,[(.i .u64)]),(false,[.b])] fun r3 w4=>
Ae prog F.Sr [.int .u64 r3.1.1] w4 false [(false,[.any])] fun r5 w6=>
nlK r5.1.1 fun b7=>
Aj b7 (
R ((.nilIface,()),(3,()),()) w6) (
Ae prog F.Qo [r5.1.1] w6 false [(false,[(.i .i64)])] fun r8 w9=>
Aj ((b.2.1:Int) !=(wrap .i64 (r8.1.1+3))) (
R ((.nilIface,()),(3,()),()) w9) (
Ae prog F.Xy [.slice b.1 b.2.1 b.2.2] w9 true [(false,[.sl]),(false,[.b])] fun r10 w11=>
Aj (!r10.2.1.1) (
R ((.nilIface,()),(4,()),()) w11) (
vY prog r5.1.1 "angelus/frame.fields" [] w11 false [(false,[.sl])] fun r12 w13=>
Ci (fun(self14:((Option Addr×Nat×Nat)×(Int)×Unit)→WP) (z15:(Option Addr×Nat×Nat)×(Int)×Unit) w16=> ∀_:Nat→Value,
Aj (decide (z15.2.1<(r12.1.1.2.1:Int))) (
Ny r12.1.1.1 r12.1.1.2.1 z15.2.1 fun a17=>
A8 [(.i .i64),(.i .i64),(.i .i64)] (a17.add (z15.2.1.toNat*3)) 0 w16 fun x18=>
Bf [.int .i64 0,.int .i64 0,.int .i64 0] T.Dl w16 fun p19 w20=>
Au [.int .i64 x18.1,.int .i64 x18.2.1,.int .i64 x18.2.2.1] p19 0 w20 fun w21=>
ld1 (.i .i64) p19 w21 fun x22=>
Ae prog F.Nj [.pointer r1.1.1,.int .i64 x22] w21 true [(false,[(.i .u64)]),(false,[.b])] fun r23 w24=>
Bf [.int .u64 r23.1.1] T.uint64 w24 fun p25 w26=>
L9 ((Builtin.append_ #[T.Ux,T.Ux] T.Ux #[.slice z15.1.1 z15.1.2.1 z15.1.2.2,.slice (some p25) 1 1]).run prog w26) fun y27 w28=>
self14 ((y27.1,y27.2.1,y27.2.2),wrap .i64 (z15.2.1+1),()) w28) (
Ae prog F.Qn [r5.1.1,.slice z15.1.1 z15.1.2.1 z15.1.2.2] w16 false [(false,[.any])] fun r29 w30=>
Ae prog F.Ew [r29.1.1] w30 false [(false,[.b])] fun r31 w32=>
Aj (!r31.1.1) (
R ((.nilIface,()),(3,()),()) w32) (
R ((r29.1.1,()),(0,()),()) w32))) ((none,0,0),0,()) w13))))
theorem Ru.eq(b:Option Addr×Nat×Nat)(w:World)(R:Value→WP):A7 prog Tryz.f70 (.s .n (.s .n (.s .n (.s .n (.s .n (.s .n (.s .n (.s .n (.s (.s .n (.lp [(10,.sl),(47,(.i .i64))] .n)) .n))))))))) [.slice b.1 b.2.1 b.2.2] w R=Ru.wp b w (fun r w=>R (encR true [(false,[.any]),(false,[(.i .i64)])] r) w):=by kernel_rfl
theorem Ru.ok{b:Option Addr×Nat×Nat}{w:World}{R:TR [(false,[.any]),(false,[(.i .i64)])]→WP}(h:Ru.wp b w R):Ae prog F.Ru [.slice b.1 b.2.1 b.2.2] w true [(false,[.any]),(false,[(.i .i64)])] R:=
  Aop Aa Tryz.func70 (fun R=>Ru.wp b w R) (Ru.eq b w) rfl h
end Go.Proofs.YticgocmhmffneaaGreatDoor
