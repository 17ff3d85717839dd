import Derived.Test.YtnjmfbjgcfnanaaGreatNm
namespace Go.Proofs.YtnjmfbjgcfnanaaGreat
open Go.Eng Tryz
open Go.IntKind (wrap)
set_option linter.unusedSimpArgs false
set_option linter.unusedVariables false
set_option maxRecDepth 100000
def Ol.wp(s:Option Addr)(x y:Int)(w:World)(R:TR []→WP):Prop:=
Aq s fun a1=>
ld1 KI a1 w fun x2=>
Aq s fun a3=>
Au [iV (wrap .i64 (x2+1))] a3 0 w fun w4=>
Aq s fun a5=>
ld1 KI (a5.add 1) w4 fun x6=>
Aq s fun a7=>
Au [iV (wrap .i64 (x6+x))] (a7.add 1) 0 w4 fun w8=>
Aq s fun a9=>
ld1 KI (a9.add 2) w8 fun x10=>
Aq s fun a11=>
Au [iV (wrap .i64 (x10+y))] (a11.add 2) 0 w8 fun w12=>
Aq s fun a13=>
ld1 KI (a13.add 3) w12 fun x14=>
Aq s fun a15=>
Au [iV (wrap .i64 (x14+(wrap .i64 (x*y))))] (a15.add 3) 0 w12 fun w16=>
Aq s fun a17=>
ld1 KI (a17.add 4) w16 fun x18=>
Aq s fun a19=>
Au [iV (wrap .i64 (x18+(wrap .i64 (x*x))))] (a19.add 4) 0 w16 fun w20=>
R (()) w20
theorem Ol.ok{s:Option Addr}{x y:Int}{w:World}{R:TR []→WP}:Ol.wp s x y w R→Ae prog F.Ol [.pointer s,iV x,iV y] w true [] R:=
  oks Aa func232 .n
def bits_Mul64.wp(x y:Int)(w:World)(R:TR uH→WP):Prop:=
fJ 32 (
fJ 32 (
fJ 32 (
fJ 32 (
fJ 32 (
R ((wrap .u64 ((wrap .u64 ((wrap .u64 ((Qv .u64 x 32)*(Qv .u64 y 32)))+(Qv .u64 (wrap .u64 ((wrap .u64 ((Qv .u64 x 32)*(Lm .and .u64 y 4294967295)))+(Qv .u64 (wrap .u64 ((Lm .and .u64 x 4294967295)*(Lm .and .u64 y 4294967295))) 32))) 32)))+(Qv .u64 (wrap .u64 ((Lm .and .u64 (wrap .u64 ((wrap .u64 ((Qv .u64 x 32)*(Lm .and .u64 y 4294967295)))+(Qv .u64 (wrap .u64 ((Lm .and .u64 x 4294967295)*(Lm .and .u64 y 4294967295))) 32))) 4294967295)+(wrap .u64 ((Lm .and .u64 x 4294967295)*(Qv .u64 y 32))))) 32)),()),(wrap .u64 (x*y),()),()) w)))))
theorem bits_Mul64.ok{x y:Int}{w:World}{R:TR uH→WP}:bits_Mul64.wp x y w R→Ae prog F.bits_Mul64 [.int .u64 x,.int .u64 y] w true uH R:=
  oks Aa func233 .n
def Bl.wp(s:Option Addr×Nat×Nat)(seq:Value)(w:World)(R:TR H7→WP):Prop:=
Bf [.slice s.1 s.2.1 s.2.2] T.Ox w fun p1 w2=>
RfT prog seq Us w2 (fun x3 k4 w5=>
Bf Vy T.Du w5 fun p11 w12=>
Au [iV x3.1.1,iV x3.1.2.1,iV x3.1.2.2.1] p11 0 w12 fun w13=>
k4 w13 fun go6 lv7 w8=>
ld1 .sl p1 w8 fun x14=>
A8 Ig p11 0 w8 fun x15=>
Bf (encs Ig x15) T.Du w8 fun p16 w17=>
L9 ((Builtin.append_ #[T.Ox,T.Ox] T.Ox #[.slice x14.1 x14.2.1 x14.2.2,.slice (some p16) 1 1]).run prog w17) fun y18 w19=>
Au [.slice y18.1 y18.2.1 y18.2.2] p1 0 w19 fun w20=>
go6 w20) (fun D9 w10=>
ld1 .sl p1 w10 fun x21=>
tkK D9 w10 fun w22=>
R (((x21.1,x21.2.1,x21.2.2),()),()) w22) []
theorem Bl.ok{s:Option Addr×Nat×Nat}{seq:Value}{w:World}{R:TR H7→WP}:Bl.wp s seq w R→Ae prog F.Bl [.slice s.1 s.2.1 s.2.2,seq] w false H7 R:=
  oks Aa func234 (.s .n (.s (.s .n (.rf [(true,[(.i .i64),(.i .i64),(.i .i64)])] .n .n)) .n))
def V8.wp(n:Int)(w:World)(R:TR kZ→WP):Prop:=
Aj (decide (n<0)) (
R ((wrap .u64 (0-(wrap .u64 n)),()),()) w) (
R ((wrap .u64 n,()),()) w)
theorem V8.ok{n:Int}{w:World}{R:TR kZ→WP}:V8.wp n w R→Ae prog F.V8 [iV n] w false kZ R:=
  oks Aa func235 .n
def Vk.wp(hi lo y:Int)(w:World)(R:TR uH→WP):Prop:=
Aj (y==0) (
ld1 .any ⟨0,0,none⟩ w fun x1=>
False) (
Aj (decide (y≤hi)) (
ld1 .any ⟨1,0,none⟩ w fun x2=>
False) (
Aj (hi==0) (
Jg w fun w3=>
dF y (
dF y (
R ((wrap .u64 (Int.tdiv lo y),()),(Int.tmod lo y,()),()) w3))) (
Ae prog F.bits_LeadingZeros64 [.int .u64 y] w false r3' fun r4 w5=>
fJ (wrap .u64 r4.1.1) (
fJ 32 (
fJ (wrap .u64 r4.1.1) (
fJ (wrap .u64 (64-(wrap .u64 r4.1.1))) (
fJ (wrap .u64 r4.1.1) (
fJ 32 (
dF (Qv .u64 (Sz .u64 y (wrap .u64 r4.1.1)) 32) (
Cc (fun(J6:((Int)×Unit)→WP)=>
Ci (fun(self9:((Int)×(Int)×Unit)→WP) (z10:(Int)×(Int)×Unit) w11=> ∀_:Nat→Value,
Cc (fun(J12:Unit→WP)=>
Aj (decide (z10.1≥4294967296)) (
J12 (()) w11) (
Aj (decide ((wrap .u64 (z10.1*(Lm .and .u64 (Sz .u64 y (wrap .u64 r4.1.1)) 4294967295)))>(wrap .u64 ((wrap .u64 (4294967296*z10.2.1))+(Qv .u64 (Sz .u64 lo (wrap .u64 r4.1.1)) 32))))) (
J12 (()) w11) (
J6 (z10.1,()) w11))) (fun(z13:Unit) w14=> ∀_:Nat→Value,
Aj (decide ((wrap .u64 (z10.2.1+(Qv .u64 (Sz .u64 y (wrap .u64 r4.1.1)) 32)))≥4294967296)) (
J6 (wrap .u64 (z10.1-1),()) w14) (
self9 (wrap .u64 (z10.1-1),wrap .u64 (z10.2.1+(Qv .u64 (Sz .u64 y (wrap .u64 r4.1.1)) 32)),()) w14))) (wrap .u64 (Int.tdiv (Lm .or .u64 (Sz .u64 hi (wrap .u64 r4.1.1)) (Qv .u64 lo (wrap .u64 (64-(wrap .u64 r4.1.1))))) (Qv .u64 (Sz .u64 y (wrap .u64 r4.1.1)) 32)),wrap .u64 ((Lm .or .u64 (Sz .u64 hi (wrap .u64 r4.1.1)) (Qv .u64 lo (wrap .u64 (64-(wrap .u64 r4.1.1)))))-(wrap .u64 ((wrap .u64 (Int.tdiv (Lm .or .u64 (Sz .u64 hi (wrap .u64 r4.1.1)) (Qv .u64 lo (wrap .u64 (64-(wrap .u64 r4.1.1))))) (Qv .u64 (Sz .u64 y (wrap .u64 r4.1.1)) 32)))*(Qv .u64 (Sz .u64 y (wrap .u64 r4.1.1)) 32)))),()) w5) (fun(z7:(Int)×Unit) w8=> ∀_:Nat→Value,
dF (Qv .u64 (Sz .u64 y (wrap .u64 r4.1.1)) 32) (
Cc (fun(J15:((Int)×Unit)→WP)=>
Ci (fun(self18:((Int)×(Int)×Unit)→WP) (z19:(Int)×(Int)×Unit) w20=> ∀_:Nat→Value,
Cc (fun(J21:Unit→WP)=>
Aj (decide (z19.2.1≥4294967296)) (
J21 (()) w20) (
Aj (decide ((wrap .u64 (z19.2.1*(Lm .and .u64 (Sz .u64 y (wrap .u64 r4.1.1)) 4294967295)))>(wrap .u64 ((wrap .u64 (4294967296*z19.1))+(Lm .and .u64 (Sz .u64 lo (wrap .u64 r4.1.1)) 4294967295))))) (
J21 (()) w20) (
J15 (z19.2.1,()) w20))) (fun(z22:Unit) w23=> ∀_:Nat→Value,
Aj (decide ((wrap .u64 (z19.1+(Qv .u64 (Sz .u64 y (wrap .u64 r4.1.1)) 32)))≥4294967296)) (
J15 (wrap .u64 (z19.2.1-1),()) w23) (
self18 (wrap .u64 (z19.1+(Qv .u64 (Sz .u64 y (wrap .u64 r4.1.1)) 32)),wrap .u64 (z19.2.1-1),()) w23))) (wrap .u64 ((wrap .u64 ((wrap .u64 ((wrap .u64 ((Lm .or .u64 (Sz .u64 hi (wrap .u64 r4.1.1)) (Qv .u64 lo (wrap .u64 (64-(wrap .u64 r4.1.1)))))*4294967296))+(Qv .u64 (Sz .u64 lo (wrap .u64 r4.1.1)) 32)))-(wrap .u64 (z7.1*(Sz .u64 y (wrap .u64 r4.1.1))))))-(wrap .u64 ((wrap .u64 (Int.tdiv (wrap .u64 ((wrap .u64 ((wrap .u64 ((Lm .or .u64 (Sz .u64 hi (wrap .u64 r4.1.1)) (Qv .u64 lo (wrap .u64 (64-(wrap .u64 r4.1.1)))))*4294967296))+(Qv .u64 (Sz .u64 lo (wrap .u64 r4.1.1)) 32)))-(wrap .u64 (z7.1*(Sz .u64 y (wrap .u64 r4.1.1)))))) (Qv .u64 (Sz .u64 y (wrap .u64 r4.1.1)) 32)))*(Qv .u64 (Sz .u64 y (wrap .u64 r4.1.1)) 32)))),wrap .u64 (Int.tdiv (wrap .u64 ((wrap .u64 ((wrap .u64 ((Lm .or .u64 (Sz .u64 hi (wrap .u64 r4.1.1)) (Qv .u64 lo (wrap .u64 (64-(wrap .u64 r4.1.1)))))*4294967296))+(Qv .u64 (Sz .u64 lo (wrap .u64 r4.1.1)) 32)))-(wrap .u64 (z7.1*(Sz .u64 y (wrap .u64 r4.1.1)))))) (Qv .u64 (Sz .u64 y (wrap .u64 r4.1.1)) 32)),()) w8) (fun(z16:(Int)×Unit) w17=> ∀_:Nat→Value,
fJ (wrap .u64 r4.1.1) (
R ((wrap .u64 ((wrap .u64 (z7.1*4294967296))+z16.1),()),(Qv .u64 (wrap .u64 ((wrap .u64 ((wrap .u64 ((wrap .u64 ((wrap .u64 ((wrap .u64 ((Lm .or .u64 (Sz .u64 hi (wrap .u64 r4.1.1)) (Qv .u64 lo (wrap .u64 (64-(wrap .u64 r4.1.1)))))*4294967296))+(Qv .u64 (Sz .u64 lo (wrap .u64 r4.1.1)) 32)))-(wrap .u64 (z7.1*(Sz .u64 y (wrap .u64 r4.1.1))))))*4294967296))+(Lm .and .u64 (Sz .u64 lo (wrap .u64 r4.1.1)) 4294967295)))-(wrap .u64 (z16.1*(Sz .u64 y (wrap .u64 r4.1.1)))))) (wrap .u64 r4.1.1),()),()) w17))))))))))))))
theorem Vk.ok{hi lo y:Int}{w:World}{R:TR uH→WP}:Vk.wp hi lo y w R→Ae prog F.Vk [.int .u64 hi,.int .u64 lo,.int .u64 y] w true uH R:=
  oks Aa func236 (hs 3 (.s (.s .n (.s (.s (.pl (ks [0,1,2,3,4,5,6,7] .z)) .n) .n)) (hs 10 (.ct [(15,(.i .u64))] (.lp [(15,(.i .u64)),(16,(.i .u64))] (.ct [] .n .n)) (hs 3 (.ct [(18,(.i .u64))] (.lp [(16,(.i .u64)),(18,(.i .u64))] (.ct [] .n .n)) .n))))))
def Xv.wp(drift:Int)(list:Option Addr×Nat×Nat)(w:World)(R:TR dH→WP):Prop:=
Aj (decide ((list.2.1:Int)<2)) (
R ((0,()),(1,()),()) w) (
Aj (decide ((list.2.1:Int)>8)) (
R ((0,()),(1,()),()) w) (
Ci (fun(self1:((Int)×Unit)→WP) (z2:(Int)×Unit) w3=> ∀_:Nat→Value,
Aj (decide (z2.1<(list.2.1:Int))) (
Ny list.1 list.2.1 z2.1 fun a4=>
A8 Ig (a4.add (z2.1.toNat*3)) 0 w3 fun x5=>
Bf Vy T.D7 w3 fun p6 w7=>
Au (encs Ig x5) p6 0 w7 fun w8=>
A8 Ig p6 0 w8 fun x9=>
Ae prog F.Nz [Sv Ig x9] w8 false r0' fun r10 w11=>
Aj (!r10.1.1) (
R ((0,()),(1,()),()) w11) (
self1 (wrap .i64 (z2.1+1),()) w11)) (
Ci (fun(self12:((Int)×(Int)×(Int)×(Int)×(Int)×Unit)→WP) (z13:(Int)×(Int)×(Int)×(Int)×(Int)×Unit) w14=> ∀_:Nat→Value,
Aj (decide (z13.2.2.2.2.1<(list.2.1:Int))) (
Ny list.1 list.2.1 z13.2.2.2.2.1 fun a15=>
A8 Ig (a15.add (z13.2.2.2.2.1.toNat*3)) 0 w14 fun x16=>
Bf Vy T.D7 w14 fun p17 w18=>
Au (encs Ig x16) p17 0 w18 fun w19=>
Jg w19 fun w20=>
ld1 KI p17 w20 fun x21=>
Ny list.1 list.2.1 0 fun a22=>
ld1 KI (a22.add ((0:Int).toNat*3)) w20 fun x23=>
Jg w20 fun w24=>
ld1 KI (p17.add 1) w24 fun x25=>
Ny list.1 list.2.1 0 fun a26=>
ld1 KI ((a26.add ((0:Int).toNat*3)).add 1) w24 fun x27=>
Aj (decide ((wrap .i64 (x21-x23))<0)) (
R ((0,()),(1,()),()) w24) (
Aj (decide ((wrap .i64 (x21-x23))>4194304)) (
R ((0,()),(1,()),()) w24) (
Aj (decide ((wrap .i64 (x25-x27))<(Int.negSucc 4194303))) (
R ((0,()),(1,()),()) w24) (
Aj (decide ((wrap .i64 (x25-x27))>4194304)) (
R ((0,()),(1,()),()) w24) (
self12 (wrap .i64 (z13.1+(wrap .i64 (x21-x23))),wrap .i64 (z13.2.1+(wrap .i64 (x25-x27))),wrap .i64 (z13.2.2.1+(wrap .i64 ((wrap .i64 (x21-x23))*(wrap .i64 (x25-x27))))),wrap .i64 (z13.2.2.2.1+(wrap .i64 ((wrap .i64 (x21-x23))*(wrap .i64 (x21-x23))))),wrap .i64 (z13.2.2.2.2.1+1),()) w24))))) (
Aj (decide ((wrap .i64 ((wrap .i64 ((list.2.1:Int)*z13.2.2.2.1))-(wrap .i64 (z13.1*z13.1))))≤0)) (
R ((0,()),(1,()),()) w14) (
Ae prog F.Vp [iV drift] w14 true dH fun r28 w29=>
Cc (fun(J30:Unit→WP)=>
Aj (decide ((wrap .i64 ((wrap .i64 ((list.2.1:Int)*z13.2.2.1))-(wrap .i64 (z13.1*z13.2.1))))>0)) (
Ae prog F.Tf [iV (wrap .i64 ((wrap .i64 ((list.2.1:Int)*z13.2.2.1))-(wrap .i64 (z13.1*z13.2.1)))),iV (wrap .i64 ((wrap .i64 ((list.2.1:Int)*z13.2.2.2.1))-(wrap .i64 (z13.1*z13.1)))),iV r28.1.1,iV r28.2.1.1] w29 false r0' fun r33 w34=>
Aj r33.1.1 (
R ((r28.1.1,()),(r28.2.1.1,()),()) w34) (
J30 (()) w34)) (
J30 (()) w29)) (fun(z31:Unit) w32=> ∀_:Nat→Value,
Aj (decide ((wrap .i64 ((wrap .i64 ((list.2.1:Int)*z13.2.2.1))-(wrap .i64 (z13.1*z13.2.1))))<0)) (
Ae prog F.Tf [iV (wrap .i64 (0-(wrap .i64 ((wrap .i64 ((list.2.1:Int)*z13.2.2.1))-(wrap .i64 (z13.1*z13.2.1)))))),iV (wrap .i64 ((wrap .i64 ((list.2.1:Int)*z13.2.2.2.1))-(wrap .i64 (z13.1*z13.1)))),iV r28.1.1,iV r28.2.1.1] w32 false r0' fun r35 w36=>
Aj r35.1.1 (
R ((wrap .i64 (0-r28.1.1),()),(r28.2.1.1,()),()) w36) (
R ((wrap .i64 ((wrap .i64 ((list.2.1:Int)*z13.2.2.1))-(wrap .i64 (z13.1*z13.2.1))),()),(wrap .i64 ((wrap .i64 ((list.2.1:Int)*z13.2.2.2.1))-(wrap .i64 (z13.1*z13.1))),()),()) w36)) (
R ((wrap .i64 ((wrap .i64 ((list.2.1:Int)*z13.2.2.1))-(wrap .i64 (z13.1*z13.2.1))),()),(wrap .i64 ((wrap .i64 ((list.2.1:Int)*z13.2.2.2.1))-(wrap .i64 (z13.1*z13.1))),()),()) w32))))) (0,0,0,0,0,()) w3)) (0,()) w))
theorem Xv.ok{drift:Int}{list:Option Addr×Nat×Nat}{w:World}{R:TR dH→WP}:Xv.wp drift list w R→Ae prog F.Xv [iV drift,.slice list.1 list.2.1 list.2.2] w true dH R:=
  oks Aa func240 (hs 4 (.s (.s .n (.lp [(31,(.i .i64))] .n)) (.s (.s .n (.lp [(7,(.i .i64)),(8,(.i .i64)),(9,(.i .i64)),(10,(.i .i64)),(41,(.i .i64))] (hs 2 (.s (.s .n (.s (.pl (ks [0,1,2,3,4,5,6,7] .z)) (.s (.pl (ks [0,1,2,3,4,5,6,7] .z)) .n))) .n)))) (hs 4 (.ct [] .n .n)))))
def Vf.wp(list:Option Addr×Nat×Nat)(w:World)(R:TR r3'→WP):Prop:=
Ci (fun(self1:((Int)×(Int)×Unit)→WP) (z2:(Int)×(Int)×Unit) w3=> ∀_:Nat→Value,
Aj (decide (z2.2.1<(list.2.1:Int))) (
Ny list.1 list.2.1 z2.2.1 fun a4=>
A8 Ig (a4.add (z2.2.1.toNat*3)) 0 w3 fun x5=>
Bf Vy T.D7 w3 fun p6 w7=>
Au (encs Ig x5) p6 0 w7 fun w8=>
ld1 KI (p6.add 2) w8 fun x9=>
self1 ((if x9>z2.1 then x9 else z2.1),wrap .i64 (z2.2.1+1),()) w8) (
R ((z2.1,()),()) w3)) (0,0,()) w
theorem Vf.ok{list:Option Addr×Nat×Nat}{w:World}{R:TR r3'→WP}:Vf.wp list w R→Ae prog F.Vf [.slice list.1 list.2.1 list.2.2] w false r3' R:=
  oks Aa func241 (hs 2 (.s (.s .n (.lp [(3,(.i .i64)),(8,(.i .i64))] .n)) .n))
def Wx.wp(m0 m1 m2 m3 m4 local_:Int)(w:World)(R:TR r3'→WP):Prop:=
Bf [iV m0,iV m1,iV m2,iV m3,iV m4] T.bW w fun p1 w2=>
Jg w2 fun w3=>
ld1 KI (p1.add 1) w3 fun x4=>
ld1 KI (p1.add 2) w3 fun x5=>
ld1 KI (p1.add 3) w3 fun x6=>
ld1 KI p1 w3 fun x7=>
Ae prog F.Vh [iV x5,iV x6,iV (wrap .i64 (local_-x7))] w3 false r3' fun r8 w9=>
Hold [hd 10 p1 w3,hd 2 (p1.add 1) w3] w9∧(
R ((wrap .i64 ((wrap .i64 (local_+x4))+r8.1.1),()),()) w9)
theorem Wx.ok{m0 m1 m2 m3 m4 local_:Int}{w:World}{R:TR r3'→WP}:Wx.wp m0 m1 m2 m3 m4 local_ w R→Ae prog F.Wx [.agg #[iV m0,iV m1,iV m2,iV m3,iV m4],iV local_] w false r3' R:=
  oks Aa func242 (.s .n (.s (.pl (ks [0,1,2,3,4,5,6,7,8,9,10,11] (.ef 12 [5,7] (.tk 13 (.tk 14 .z))))) .n))
def bits_LeadingZeros64.wp(x:Int)(w:World)(R:TR r3'→WP):Prop:=
Ae prog F.bits_Len64 [.int .u64 x] w false r3' fun r1 w2=>
R ((wrap .i64 (64-r1.1.1),()),()) w2
theorem bits_LeadingZeros64.ok{x:Int}{w:World}{R:TR r3'→WP}:bits_LeadingZeros64.wp x w R→Ae prog F.bits_LeadingZeros64 [.int .u64 x] w false r3' R:=
  oks Aa func243 .n
def Vp.wp(drift:Int)(w:World)(R:TR dH→WP):Prop:=
R ((wrap .i64 (2*(if 10<(if 0>drift then 0 else drift) then 10 else(if 0>drift then 0 else drift))),()),(wrap .i64 (1000-(if 10<(if 0>drift then 0 else drift) then 10 else(if 0>drift then 0 else drift))),()),()) w
theorem Vp.ok{drift:Int}{w:World}{R:TR dH→WP}:Vp.wp drift w R→Ae prog F.Vp [iV drift] w true dH R:=
  oks Aa func247 .n
def Tf.wp(a b c d:Int)(w:World)(R:TR r0'→WP):Prop:=
Ci (fun(self1:((Int)×(Int)×(Int)×Unit)→WP) (z2:(Int)×(Int)×(Int)×Unit) w3=> ∀_:Nat→Value,
Aj (decide (z2.2.2.1≥0)) (
Cc (fun(J4:((Int)×(Int)×Unit)→WP)=>
Aj (decide ((wrap .i64 (2*z2.2.1))≥b)) (
J4 (wrap .i64 ((wrap .i64 (2*z2.1))+1),wrap .i64 ((wrap .i64 (2*z2.2.1))-b),()) w3) (
J4 (wrap .i64 (2*z2.1),wrap .i64 (2*z2.2.1),()) w3)) (fun(z5:(Int)×(Int)×Unit) w6=> ∀_:Nat→Value,
fJ (wrap .u64 z2.2.2.1) (
dF 2 (
Aj ((Int.tmod (Qv .i64 d (wrap .u64 z2.2.2.1)) 2)==1) (
dF b (
dF b (
Aj (decide ((wrap .i64 (z5.2.1+(Int.tmod a b)))≥b)) (
self1 (wrap .i64 ((wrap .i64 (z5.1+(wrap .i64 (Int.tdiv a b))))+1),wrap .i64 ((wrap .i64 (z5.2.1+(Int.tmod a b)))-b),wrap .i64 (z2.2.2.1-1),()) w6) (
self1 (wrap .i64 (z5.1+(wrap .i64 (Int.tdiv a b))),wrap .i64 (z5.2.1+(Int.tmod a b)),wrap .i64 (z2.2.2.1-1),()) w6)))) (
self1 (z5.1,z5.2.1,wrap .i64 (z2.2.2.1-1),()) w6))))) (
Aj (decide (z2.1>c)) (
R ((true,()),()) w3) (
Aj (z2.1==c) (
R ((decide (z2.2.1>0),()),()) w3) (
R ((false,()),()) w3)))) (0,0,9,()) w
theorem Tf.ok{a b c d:Int}{w:World}{R:TR r0'→WP}:Tf.wp a b c d w R→Ae prog F.Tf [iV a,iV b,iV c,iV d] w false r0' R:=
  oks Aa func248 (hs 3 (.s (.s .n (.lp [(9,(.i .i64)),(10,(.i .i64)),(11,(.i .i64))] (.s .n (.s (hs 2 (.ct [(9,(.i .i64)),(10,(.i .i64))] .n .n)) .n)))) .n))
def Vh.wp(num den ticks:Int)(w:World)(R:TR r3'→WP):Prop:=
Ae prog F.Rk [iV num,iV ticks,iV den] w true Zz fun r1 w2=>
R ((r1.1.1,()),()) w2
theorem Vh.ok{num den ticks:Int}{w:World}{R:TR r3'→WP}:Vh.wp num den ticks w R→Ae prog F.Vh [iV num,iV den,iV ticks] w false r3' R:=
  oks Aa func249 .n
def bits_Len64.wp(x:Int)(w:World)(R:TR r3'→WP):Prop:=
Cc (fun(J1:((Int)×(Int)×Unit)→WP)=>
Aj (decide (x≥4294967296)) (
fJ 32 (
J1 (Qv .u64 x 32,32,()) w)) (
J1 (x,0,()) w)) (fun(z2:(Int)×(Int)×Unit) w3=> ∀_:Nat→Value,
Cc (fun(J4:((Int)×(Int)×Unit)→WP)=>
Aj (decide (z2.1≥65536)) (
fJ 16 (
J4 (Qv .u64 z2.1 16,wrap .i64 (z2.2.1+16),()) w3)) (
J4 (z2.1,z2.2.1,()) w3)) (fun(z5:(Int)×(Int)×Unit) w6=> ∀_:Nat→Value,
Cc (fun(J7:((Int)×(Int)×Unit)→WP)=>
Aj (decide (z5.1≥256)) (
fJ 8 (
J7 (Qv .u64 z5.1 8,wrap .i64 (z5.2.1+8),()) w6)) (
J7 (z5.1,z5.2.1,()) w6)) (fun(z8:(Int)×(Int)×Unit) w9=> ∀_:Nat→Value,
siK ⟨#[0,1,2,2,3,3,3,3,4,4,4,4,4,4,4,4,5,5,5,5,5,5,5,5,5,5,5,5,5,5,5,5,6,6,6,6,6,6,6,6,6,6,6,6,6,6,6,6,6,6,6,6,6,6,6,6,6,6,6,6,6,6,6,6,7,7,7,7,7,7,7,7,7,7,7,7,7,7,7,7,7,7,7,7,7,7,7,7,7,7,7,7,7,7,7,7,7,7,7,7,7,7,7,7,7,7,7,7,7,7,7,7,7,7,7,7,7,7,7,7,7,7,7,7,7,7,7,7,8,8,8,8,8,8,8,8,8,8,8,8,8,8,8,8,8,8,8,8,8,8,8,8,8,8,8,8,8,8,8,8,8,8,8,8,8,8,8,8,8,8,8,8,8,8,8,8,8,8,8,8,8,8,8,8,8,8,8,8,8,8,8,8,8,8,8,8,8,8,8,8,8,8,8,8,8,8,8,8,8,8,8,8,8,8,8,8,8,8,8,8,8,8,8,8,8,8,8,8,8,8,8,8,8,8,8,8,8,8,8,8,8,8,8,8,8,8,8,8,8,8,8,8,8,8,8,8]⟩ (wrap .u8 z8.1) fun c10=>
R ((wrap .i64 (z8.2.1+(wrap .i64 c10)),()),()) w9)))
theorem bits_Len64.ok{x:Int}{w:World}{R:TR r3'→WP}:bits_Len64.wp x w R→Ae prog F.bits_Len64 [.int .u64 x] w false r3' R:=
  oks Aa func250 (.s .n (.ct [(0,(.i .u64)),(2,(.i .i64))] .n (.ct [(0,(.i .u64)),(2,(.i .i64))] .n (.ct [(0,(.i .u64)),(2,(.i .i64))] .n .n))))
def Rk.wp(a b c:Int)(w:World)(R:TR Zz→WP):Prop:=
Aj (decide (c<1)) (
R ((0,()),(false,()),()) w) (
Ae prog F.Tn [iV a] w false kZ fun r1 w2=>
Ae prog F.Tn [iV b] w2 false kZ fun r3 w4=>
Ae prog F.Ue [.int .u64 r1.1.1,.int .u64 r3.1.1] w4 false Akn fun r5 w6=>
Ae prog F.Vd [Sv Aku r5.1,.int .u64 (wrap .u64 c)] w6 true Ajx fun r7 w8=>
Aj (!r7.2.2.1.1) (
R ((0,()),(false,()),()) w8) (
Cc (fun(J9:((Bool)×Unit)→WP)=>
Aj ((decide (a<0))==(decide (b<0))) (
J9 (true,()) w8) (
Aj (r7.1.1==0) (
J9 ((r7.2.1.1==0),()) w8) (
J9 (false,()) w8))) (fun(z10:(Bool)×Unit) w11=> ∀_:Nat→Value,
Aj z10.1 (
Aj (decide (r7.1.1>9223372036854775807)) (
R ((0,()),(false,()),()) w11) (
R ((wrap .i64 r7.1.1,()),(true,()),()) w11)) (
Cc (fun(J12:((Int)×Unit)→WP)=>
Aj (decide (r7.2.1.1>0)) (
Aj (decide (r7.1.1≥9223372036854775808)) (
R ((0,()),(false,()),()) w11) (
J12 (wrap .u64 (r7.1.1+1),()) w11)) (
J12 (r7.1.1,()) w11)) (fun(z13:(Int)×Unit) w14=> ∀_:Nat→Value,
Aj (decide (z13.1>9223372036854775808)) (
R ((0,()),(false,()),()) w14) (
Aj (z13.1==0) (
R ((0,()),(true,()),()) w14) (
R ((wrap .i64 ((wrap .i64 (0-(wrap .i64 (wrap .u64 (z13.1-1)))))-1),()),(true,()),()) w14)))))))
theorem Rk.ok{a b c:Int}{w:World}{R:TR Zz→WP}:Rk.wp a b c w R→Ae prog F.Rk [iV a,iV b,iV c] w true Zz R:=
  oks Aa func252 (hs 4 (.s (.ct [(39,.b)] .n .n) (.ct [(8,(.i .u64))] .n .n)))
def Vd.wp(w_0 w_1 w_2 w_3 c:Int)(w:World)(R:TR Ajx→WP):Prop:=
Bf [.int .u64 w_0,.int .u64 w_1,.int .u64 w_2,.int .u64 w_3] T.jU w fun p1 w2=>
Ci (fun(self3:((Int)×(Int)×(Bool)×(Int)×Unit)→WP) (z4:(Int)×(Int)×(Bool)×(Int)×Unit) w5=> ∀_:Nat→Value,
Aj (decide (z4.2.2.2.1≥0)) (
dF 32 (
Ny (some p1) 4 (wrap .i64 (Int.tdiv z4.2.2.2.1 32)) fun a6=>
ld1 (.i .u64) (a6.add ((wrap .i64 (Int.tdiv z4.2.2.2.1 32)).toNat*1)) w5 fun x7=>
dF 32 (
fJ (wrap .u64 (Int.tmod z4.2.2.2.1 32)) (
Cc (fun(J8:((Bool)×Unit)→WP)=>
Aj (decide (z4.1≥9223372036854775808)) (
J8 (false,()) w5) (
J8 (z4.2.2.1,()) w5)) (fun(z9:(Bool)×Unit) w10=> ∀_:Nat→Value,
Aj (decide ((wrap .u64 ((wrap .u64 (2*z4.2.1))+(Lm .and .u64 (Qv .u64 x7 (wrap .u64 (Int.tmod z4.2.2.2.1 32))) 1)))≥c)) (
self3 (wrap .u64 ((wrap .u64 (2*z4.1))+1),wrap .u64 ((wrap .u64 ((wrap .u64 (2*z4.2.1))+(Lm .and .u64 (Qv .u64 x7 (wrap .u64 (Int.tmod z4.2.2.2.1 32))) 1)))-c),z9.1,wrap .i64 (z4.2.2.2.1-1),()) w10) (
self3 (wrap .u64 (2*z4.1),wrap .u64 ((wrap .u64 (2*z4.2.1))+(Lm .and .u64 (Qv .u64 x7 (wrap .u64 (Int.tmod z4.2.2.2.1 32))) 1)),z9.1,wrap .i64 (z4.2.2.2.1-1),()) w10)))))) (
R ((z4.1,()),(z4.2.1,()),(z4.2.2.1,()),()) w5)) (0,0,true,127,()) w2
theorem Vd.ok{w_0 w_1 w_2 w_3 c:Int}{w:World}{R:TR Ajx→WP}:Vd.wp w_0 w_1 w_2 w_3 c w R→Ae prog F.Vd [.agg #[.int .u64 w_0,.int .u64 w_1,.int .u64 w_2,.int .u64 w_3],.int .u64 c] w true Ajx R:=
  oks Aa func253 (hs 4 (.s (.s .n (.lp [(7,(.i .u64)),(8,(.i .u64)),(9,.b),(10,(.i .i64))] (.s .n (.s (.s .n (.ct [(9,.b)] .n .n)) .n)))) .n))
def Ue.wp(a b:Int)(w:World)(R:TR Akn→WP):Prop:=
Bf Ao4 T.jU w fun p1 w2=>
fJ 32 (
Bf [.int .u64 0,.int .u64 0] T.uM w2 fun p3 w4=>
Au [.int .u64 (Lm .and .u64 a 4294967295),.int .u64 (Qv .u64 a 32)] p3 0 w4 fun w5=>
fJ 32 (
Bf [.int .u64 0,.int .u64 0] T.uM w5 fun p6 w7=>
Au [.int .u64 (Lm .and .u64 b 4294967295),.int .u64 (Qv .u64 b 32)] p6 0 w7 fun w8=>
Bf Ao4 T.jU w8 fun p9 w10=>
Ci (fun(self11:((Int)×Unit)→WP) (z12:(Int)×Unit) w13=> ∀_:Nat→Value,
Aj (decide (z12.1<2)) (
Ci (fun(self14:((Int)×(Int)×Unit)→WP) (z15:(Int)×(Int)×Unit) w16=> ∀_:Nat→Value,
Aj (decide (z15.2.1<2)) (
Jg w16 fun w17=>
Ny (some p9) 4 (wrap .i64 (z12.1+z15.2.1)) fun a18=>
ld1 (.i .u64) (a18.add ((wrap .i64 (z12.1+z15.2.1)).toNat*1)) w17 fun x19=>
Ny (some p3) 2 z12.1 fun a20=>
ld1 (.i .u64) (a20.add (z12.1.toNat*1)) w17 fun x21=>
Ny (some p6) 2 z15.2.1 fun a22=>
ld1 (.i .u64) (a22.add (z15.2.1.toNat*1)) w17 fun x23=>
Ny (some p9) 4 (wrap .i64 (z12.1+z15.2.1)) fun a24=>
Au [.int .u64 (Lm .and .u64 (wrap .u64 ((wrap .u64 (x19+(wrap .u64 (x21*x23))))+z15.1)) 4294967295)] (a24.add ((wrap .i64 (z12.1+z15.2.1)).toNat*1)) 0 w17 fun w25=>
fJ 32 (
self14 (Qv .u64 (wrap .u64 ((wrap .u64 (x19+(wrap .u64 (x21*x23))))+z15.1)) 32,wrap .i64 (z15.2.1+1),()) w25)) (
Ny (some p9) 4 (wrap .i64 (z12.1+2)) fun a26=>
ld1 (.i .u64) (a26.add ((wrap .i64 (z12.1+2)).toNat*1)) w16 fun x27=>
Ny (some p9) 4 (wrap .i64 (z12.1+2)) fun a28=>
Au [.int .u64 (wrap .u64 (x27+z15.1))] (a28.add ((wrap .i64 (z12.1+2)).toNat*1)) 0 w16 fun w29=>
self11 (wrap .i64 (z12.1+1),()) w29)) (0,0,()) w13) (
A8 Aku p9 0 w13 fun x30=>
Au (encs Aku x30) p1 0 w13 fun w31=>
A8 Aku p1 0 w31 fun x32=>
R (x32,()) w31)) (0,()) w10))
theorem Ue.ok{a b:Int}{w:World}{R:TR Akn→WP}:Ue.wp a b w R→Ae prog F.Ue [.int .u64 a,.int .u64 b] w false Akn R:=
  oks Aa func254 (hs 4 (.s (.s .n (.lp [(8,(.i .i64))] (.s .n (.s (.s .n (.s (.s .n (.lp [(9,(.i .u64)),(10,(.i .i64))] (.s .n (.s (.s (.pl (ks [0,1,2,3,4,5,6,7,8,9,10,11,12,13,14,15] .z)) .n) .n)))) .n)) .n)))) .n))
def Tn.wp(n:Int)(w:World)(R:TR kZ→WP):Prop:=
Aj (decide (n≥0)) (
R ((wrap .u64 n,()),()) w) (
R ((wrap .u64 ((wrap .u64 (wrap .i64 (0-(wrap .i64 (n+1)))))+1),()),()) w)
theorem Tn.ok{n:Int}{w:World}{R:TR kZ→WP}:Tn.wp n w R→Ae prog F.Tn [iV n] w false kZ R:=
  oks Aa func255 .n
def Ll.wp(f0 f1 f2 f3 f4 f5:Int)(w:World)(R:TR r3'→WP):Prop:=
Bf [iV f0,uV f1,iV f2,uV f3,iV f4,iV f5] T.Bh w fun p1 w2=>
ld1 KI p1 w2 fun x3=>
R ((x3,()),()) w2
theorem Ll.ok{f0 f1 f2 f3 f4 f5:Int}{w:World}{R:TR r3'→WP}:Ll.wp f0 f1 f2 f3 f4 f5 w R→Ae prog F.Ll [.agg #[iV f0,uV f1,iV f2,uV f3,iV f4,iV f5]] w false r3' R:=
  oks Aa func276 .n
def Dt.wp(f0 f1 f2 f3 f4 f5:Int)(w:World)(R:TR H7→WP):Prop:=
Bf [iV f0,uV f1,iV f2,uV f3,iV f4,iV f5] T.Bh w fun p1 w2=>
Jg w2 fun w3=>
ld1 KI p1 w3 fun x4=>
ld1 KU (p1.add 1) w3 fun x5=>
ld1 KI (p1.add 2) w3 fun x6=>
ld1 KU (p1.add 3) w3 fun x7=>
ld1 KI (p1.add 4) w3 fun x8=>
ld1 KI (p1.add 5) w3 fun x9=>
Ae prog F.D5 [iV x4] w3 false Us fun r10 w11=>
Hold [hd 16 (p1.add 5) w3,hd 13 (p1.add 4) w3,hd 10 (p1.add 3) w3,hd 7 (p1.add 2) w3,hd 4 (p1.add 1) w3,hd 1 p1 w3] w11∧(
Ae prog F.E5 [uV x5] w11 false Us fun r12 w13=>
Hold [hd 16 (p1.add 5) w3,hd 13 (p1.add 4) w3,hd 10 (p1.add 3) w3,hd 7 (p1.add 2) w3,hd 4 (p1.add 1) w3,hd 1 p1 w3] w13∧(
Ae prog F.D5 [iV x6] w13 false Us fun r14 w15=>
Hold [hd 16 (p1.add 5) w3,hd 13 (p1.add 4) w3,hd 10 (p1.add 3) w3,hd 7 (p1.add 2) w3,hd 4 (p1.add 1) w3,hd 1 p1 w3] w15∧(
Ae prog F.E5 [uV x7] w15 false Us fun r16 w17=>
Hold [hd 16 (p1.add 5) w3,hd 13 (p1.add 4) w3,hd 10 (p1.add 3) w3,hd 7 (p1.add 2) w3,hd 4 (p1.add 1) w3,hd 1 p1 w3] w17∧(
Ae prog F.Gn [iV x8] w17 false Us fun r18 w19=>
Hold [hd 16 (p1.add 5) w3,hd 13 (p1.add 4) w3,hd 10 (p1.add 3) w3,hd 7 (p1.add 2) w3,hd 4 (p1.add 1) w3,hd 1 p1 w3] w19∧(
Ae prog F.Gn [iV x9] w19 false Us fun r20 w21=>
Hold [hd 16 (p1.add 5) w3,hd 13 (p1.add 4) w3,hd 10 (p1.add 3) w3,hd 7 (p1.add 2) w3,hd 4 (p1.add 1) w3,hd 1 p1 w3] w21∧(
Bf [iV r10.1.1,iV r10.1.2.1,iV r10.1.2.2.1,iV r12.1.1,iV r12.1.2.1,iV r12.1.2.2.1,iV r14.1.1,iV r14.1.2.1,iV r14.1.2.2.1,iV r16.1.1,iV r16.1.2.1,iV r16.1.2.2.1,iV r18.1.1,iV r18.1.2.1,iV r18.1.2.2.1,iV r20.1.1,iV r20.1.2.1,iV r20.1.2.2.1] T.Dl w21 fun p22 w23=>
Hold [hd 16 (p1.add 5) w3,hd 13 (p1.add 4) w3,hd 10 (p1.add 3) w3,hd 7 (p1.add 2) w3,hd 4 (p1.add 1) w3,hd 1 p1 w3] w23∧(
R (((some p22,6,6),()),()) w23)))))))
theorem Dt.ok{f0 f1 f2 f3 f4 f5:Int}{w:World}{R:TR H7→WP}:Dt.wp f0 f1 f2 f3 f4 f5 w R→Ae prog F.Dt [.agg #[iV f0,uV f1,iV f2,uV f3,iV f4,iV f5]] w false H7 R:=
  oks Aa func277 (.s .n (.s (.pl (ks [0,1,3,4,6,7,9,10,12,13,15,16] (.ef 2 [] (.ef 5 [] (.ef 8 [] (.ef 11 [] (.ef 14 [] (.ef 17 [] (.ef 18 [] (.tk 19 .z)))))))))) .n))
def D5.wp(n:Int)(w:World)(R:TR Us→WP):Prop:=
Bf Vy T.Dl w fun p1 w2=>
Au [iV 1,iV n,iV 63] p1 0 w2 fun w3=>
A8 Ig p1 0 w3 fun x4=>
R (x4,()) w3
theorem D5.ok{n:Int}{w:World}{R:TR Us→WP}:D5.wp n w R→Ae prog F.D5 [iV n] w false Us R:=
  oks Aa func278 .n
def E5.wp(n:Int)(w:World)(R:TR Us→WP):Prop:=
Bf Vy T.Dl w fun p1 w2=>
Au [iV 2,iV (wrap .i64 n),iV 65535] p1 0 w2 fun w3=>
A8 Ig p1 0 w3 fun x4=>
R (x4,()) w3
theorem E5.ok{n:Int}{w:World}{R:TR Us→WP}:E5.wp n w R→Ae prog F.E5 [uV n] w false Us R:=
  oks Aa func279 .n
def Gn.wp(n:Int)(w:World)(R:TR Us→WP):Prop:=
Bf Vy T.Dl w fun p1 w2=>
Au [iV 8,iV n,iV 1125899906842624] p1 0 w2 fun w3=>
A8 Ig p1 0 w3 fun x4=>
R (x4,()) w3
theorem Gn.ok{n:Int}{w:World}{R:TR Us→WP}:Gn.wp n w R→Ae prog F.Gn [iV n] w false Us R:=
  oks Aa func280 .n
def Ob.wp(f0 f1 f2 f3 f4 f5:Int)(w:World)(R:TR r3'→WP):Prop:=
Bf [iV f0,iV f1,uV f2,uV f3,iV f4,iV f5] T.Dy w fun p1 w2=>
ld1 KI p1 w2 fun x3=>
R ((x3,()),()) w2
theorem Ob.ok{f0 f1 f2 f3 f4 f5:Int}{w:World}{R:TR r3'→WP}:Ob.wp f0 f1 f2 f3 f4 f5 w R→Ae prog F.Ob [.agg #[iV f0,iV f1,uV f2,uV f3,iV f4,iV f5]] w false r3' R:=
  oks Aa func281 .n
def Dh.wp(f0 f1 f2 f3 f4 f5:Int)(w:World)(R:TR H7→WP):Prop:=
Bf [iV f0,iV f1,uV f2,uV f3,iV f4,iV f5] T.Dy w fun p1 w2=>
Jg w2 fun w3=>
ld1 KI p1 w3 fun x4=>
ld1 KI (p1.add 1) w3 fun x5=>
ld1 KU (p1.add 2) w3 fun x6=>
ld1 KU (p1.add 3) w3 fun x7=>
ld1 KI (p1.add 4) w3 fun x8=>
ld1 KI (p1.add 5) w3 fun x9=>
Ae prog F.D5 [iV x4] w3 false Us fun r10 w11=>
Hold [hd 16 (p1.add 5) w3,hd 13 (p1.add 4) w3,hd 10 (p1.add 3) w3,hd 7 (p1.add 2) w3,hd 4 (p1.add 1) w3,hd 1 p1 w3] w11∧(
Ae prog F.D5 [iV x5] w11 false Us fun r12 w13=>
Hold [hd 16 (p1.add 5) w3,hd 13 (p1.add 4) w3,hd 10 (p1.add 3) w3,hd 7 (p1.add 2) w3,hd 4 (p1.add 1) w3,hd 1 p1 w3] w13∧(
Ae prog F.E5 [uV x6] w13 false Us fun r14 w15=>
Hold [hd 16 (p1.add 5) w3,hd 13 (p1.add 4) w3,hd 10 (p1.add 3) w3,hd 7 (p1.add 2) w3,hd 4 (p1.add 1) w3,hd 1 p1 w3] w15∧(
Ae prog F.E5 [uV x7] w15 false Us fun r16 w17=>
Hold [hd 16 (p1.add 5) w3,hd 13 (p1.add 4) w3,hd 10 (p1.add 3) w3,hd 7 (p1.add 2) w3,hd 4 (p1.add 1) w3,hd 1 p1 w3] w17∧(
Ae prog F.Qp [iV x8] w17 false Us fun r18 w19=>
Hold [hd 16 (p1.add 5) w3,hd 13 (p1.add 4) w3,hd 10 (p1.add 3) w3,hd 7 (p1.add 2) w3,hd 4 (p1.add 1) w3,hd 1 p1 w3] w19∧(
Ae prog F.Gn [iV x9] w19 false Us fun r20 w21=>
Hold [hd 16 (p1.add 5) w3,hd 13 (p1.add 4) w3,hd 10 (p1.add 3) w3,hd 7 (p1.add 2) w3,hd 4 (p1.add 1) w3,hd 1 p1 w3] w21∧(
Bf [iV r10.1.1,iV r10.1.2.1,iV r10.1.2.2.1,iV r12.1.1,iV r12.1.2.1,iV r12.1.2.2.1,iV r14.1.1,iV r14.1.2.1,iV r14.1.2.2.1,iV r16.1.1,iV r16.1.2.1,iV r16.1.2.2.1,iV r18.1.1,iV r18.1.2.1,iV r18.1.2.2.1,iV r20.1.1,iV r20.1.2.1,iV r20.1.2.2.1] T.Dl w21 fun p22 w23=>
Hold [hd 16 (p1.add 5) w3,hd 13 (p1.add 4) w3,hd 10 (p1.add 3) w3,hd 7 (p1.add 2) w3,hd 4 (p1.add 1) w3,hd 1 p1 w3] w23∧(
R (((some p22,6,6),()),()) w23)))))))
theorem Dh.ok{f0 f1 f2 f3 f4 f5:Int}{w:World}{R:TR H7→WP}:Dh.wp f0 f1 f2 f3 f4 f5 w R→Ae prog F.Dh [.agg #[iV f0,iV f1,uV f2,uV f3,iV f4,iV f5]] w false H7 R:=
  oks Aa func282 (.s .n (.s (.pl (ks [0,1,3,4,6,7,9,10,12,13,15,16] (.ef 2 [] (.ef 5 [] (.ef 8 [] (.ef 11 [] (.ef 14 [] (.ef 17 [] (.ef 18 [] (.tk 19 .z)))))))))) .n))
def Qp.wp(n:Int)(w:World)(R:TR Us→WP):Prop:=
Bf Vy T.Dl w fun p1 w2=>
Au [iV 1,iV n,iV 63] p1 0 w2 fun w3=>
A8 Ig p1 0 w3 fun x4=>
R (x4,()) w3
theorem Qp.ok{n:Int}{w:World}{R:TR Us→WP}:Qp.wp n w R→Ae prog F.Qp [iV n] w false Us R:=
  oks Aa func283 .n
def Oh.wp(f0:Int)(w:World)(R:TR r3'→WP):Prop:=
Bf [iV f0] T.Gp w fun p1 w2=>
ld1 KI p1 w2 fun x3=>
R ((x3,()),()) w2
theorem Oh.ok{f0:Int}{w:World}{R:TR r3'→WP}:Oh.wp f0 w R→Ae prog F.Oh [.agg #[iV f0]] w false r3' R:=
  oks Aa func285 .n
def D8.wp(f0:Int)(w:World)(R:TR H7→WP):Prop:=
Bf [iV f0] T.Gp w fun p1 w2=>
ld1 KI p1 w2 fun x3=>
Ae prog F.D5 [iV x3] w2 false Us fun r4 w5=>
Bf (encs Ig r4.1) T.Dl w5 fun p6 w7=>
R (((some p6,1,1),()),()) w7
theorem D8.ok{f0:Int}{w:World}{R:TR H7→WP}:D8.wp f0 w R→Ae prog F.D8 [.agg #[iV f0]] w false H7 R:=
  oks Aa func286 .n
def L8.wp(f0 f1 f2:Int)(w:World)(R:TR r3'→WP):Prop:=
Bf [iV f0,iV f1,iV f2] T.Ef w fun p1 w2=>
ld1 KI p1 w2 fun x3=>
R ((x3,()),()) w2
theorem L8.ok{f0 f1 f2:Int}{w:World}{R:TR r3'→WP}:L8.wp f0 f1 f2 w R→Ae prog F.L8 [.agg #[iV f0,iV f1,iV f2]] w false r3' R:=
  oks Aa func287 .n
def He.wp(f0 f1 f2:Int)(w:World)(R:TR H7→WP):Prop:=
Bf [iV f0,iV f1,iV f2] T.Ef w fun p1 w2=>
Jg w2 fun w3=>
ld1 KI p1 w3 fun x4=>
ld1 KI (p1.add 1) w3 fun x5=>
ld1 KI (p1.add 2) w3 fun x6=>
Ae prog F.D5 [iV x4] w3 false Us fun r7 w8=>
Hold [hd 7 (p1.add 2) w3,hd 4 (p1.add 1) w3,hd 1 p1 w3] w8∧(
Ae prog F.D5 [iV x5] w8 false Us fun r9 w10=>
Hold [hd 7 (p1.add 2) w3,hd 4 (p1.add 1) w3,hd 1 p1 w3] w10∧(
Ae prog F.Gn [iV x6] w10 false Us fun r11 w12=>
Hold [hd 7 (p1.add 2) w3,hd 4 (p1.add 1) w3,hd 1 p1 w3] w12∧(
Bf [iV r7.1.1,iV r7.1.2.1,iV r7.1.2.2.1,iV r9.1.1,iV r9.1.2.1,iV r9.1.2.2.1,iV r11.1.1,iV r11.1.2.1,iV r11.1.2.2.1] T.Dl w12 fun p13 w14=>
Hold [hd 7 (p1.add 2) w3,hd 4 (p1.add 1) w3,hd 1 p1 w3] w14∧(
R (((some p13,3,3),()),()) w14))))
theorem He.ok{f0 f1 f2:Int}{w:World}{R:TR H7→WP}:He.wp f0 f1 f2 w R→Ae prog F.He [.agg #[iV f0,iV f1,iV f2]] w false H7 R:=
  oks Aa func288 (.s .n (.s (.pl (ks [0,1,3,4,6,7] (.ef 2 [] (.ef 5 [] (.ef 8 [] (.ef 9 [] (.tk 10 .z))))))) .n))
def N9.wp(f0 f1:Int)(w:World)(R:TR r3'→WP):Prop:=
Bf [iV f0,iV f1] T.Gj w fun p1 w2=>
ld1 KI p1 w2 fun x3=>
R ((x3,()),()) w2
theorem N9.ok{f0 f1:Int}{w:World}{R:TR r3'→WP}:N9.wp f0 f1 w R→Ae prog F.N9 [.agg #[iV f0,iV f1]] w false r3' R:=
  oks Aa func289 .n
def Ic.wp(f0 f1:Int)(w:World)(R:TR H7→WP):Prop:=
Bf [iV f0,iV f1] T.Gj w fun p1 w2=>
Jg w2 fun w3=>
ld1 KI p1 w3 fun x4=>
ld1 KI (p1.add 1) w3 fun x5=>
Ae prog F.D5 [iV x4] w3 false Us fun r6 w7=>
Hold [hd 4 (p1.add 1) w3,hd 1 p1 w3] w7∧(
Ae prog F.Qp [iV x5] w7 false Us fun r8 w9=>
Hold [hd 4 (p1.add 1) w3,hd 1 p1 w3] w9∧(
Bf [iV r6.1.1,iV r6.1.2.1,iV r6.1.2.2.1,iV r8.1.1,iV r8.1.2.1,iV r8.1.2.2.1] T.Dl w9 fun p10 w11=>
Hold [hd 4 (p1.add 1) w3,hd 1 p1 w3] w11∧(
R (((some p10,2,2),()),()) w11)))
theorem Ic.ok{f0 f1:Int}{w:World}{R:TR H7→WP}:Ic.wp f0 f1 w R→Ae prog F.Ic [.agg #[iV f0,iV f1]] w false H7 R:=
  oks Aa func290 (.s .n (.s (.pl (ks [0,1,3,4] (.ef 2 [] (.ef 5 [] (.ef 6 [] (.tk 7 .z)))))) .n))
def Pj.wp(n:Option Addr)(stamp:Int)(w:World)(R:TR fE→WP):Prop:=
Bf [] T.nH w fun p1 w2=>
Cc (fun(J3:Unit→WP)=>
Jg w2 fun w6=>
Aq n fun a7=>
ld1 .p (a7.add 18) w6 fun x8=>
Aq n fun a9=>
ld1 .p (a9.add 15) w6 fun x10=>
(
Ae prog F.Ar [.pointer x8,.pointer x10,iV stamp] w6 true aT fun r11 w12=>
Hold [hd 7 (a9.add 15) w6,hd 3 (a7.add 18) w6] w12∧(
Bf z3' T.Bg w12 fun p13 w14=>
Hold [hd 7 (a9.add 15) w6,hd 3 (a7.add 18) w6] w14∧(
Au (encs Xf r11.1) p13 0 w14 fun w15=>
Hold [] w15∧(
Aj (r11.2.1.1 !=0) (
R ((.nilIface,()),(false,()),()) w15) (
J3 (()) w15)))))∧(
Bf z3' T.Bg w6 fun p16 w17=>
Hold [hd 7 (a9.add 15) w6,hd 3 (a7.add 18) w6] w17∧(
Ae prog F.Ar [.pointer x8,.pointer x10,iV stamp] w17 true aT fun r18 w19=>
Hold [] w19∧(
Au (encs Xf r18.1) p16 0 w19 fun w20=>
Hold [] w20∧(
Aj (r18.2.1.1 !=0) (
R ((.nilIface,()),(false,()),()) w20) (
J3 (()) w20)))))) (fun(z4:Unit) w5=> ∀_:Nat→Value,
Jg w5 fun w21=>
Aq n fun a22=>
ld1 .p (a22.add 16) w21 fun x23=>
Aq n fun a24=>
ld1 .p (a24.add 15) w21 fun x25=>
Ae prog F.Ba [.pointer x25] w21 false r0' fun r26 w27=>
Hold [hd 7 (a24.add 15) w21,hd 3 (a22.add 16) w21] w27∧(
Ae prog F.Kr [.pointer x23,.bool r26.1.1] w27 true Aja fun r28 w29=>
Hold [hd 7 (a24.add 15) w21] w29∧(
R ((.iface T.Gj (.agg #[iV r28.1.1,iV r28.1.2.1]),()),(r28.2.1.1,()),()) w29)))
theorem Pj.ok{n:Option Addr}{stamp:Int}{w:World}{R:TR fE→WP}:Pj.wp n stamp w R→Ae prog F.Pj [.agg #[],.pointer n,iV stamp] w true fE R:=
  oks Aa func291 (.s .n (.ct [] (.s (.pl (ks [0,1,2,3,4,5,6,7,8] (.two 9 13 (ks [10,11,12] (.ef 13 [] (.ef 14 [3,7] (.tk 15 .z)))) (.ef 9 [3,7] (ks [10,11,12] (.ef 14 [] (.tk 15 .z))))))) .n) (.s (.pl (ks [0,1,2,3,4,5,6,7] (.ef 8 [] (.ef 9 [3] (ks [10,11,12,13,14] .z))))) .n)))
def Kr.wp(l:Option Addr)(itself:Bool)(w:World)(R:TR Aja→WP):Prop:=
Bf [iV 0,iV 0] T.Gj w fun p1 w2=>
Aj (Option.isNone l) (
Au [iV 0,iV 0] p1 0 w2 fun w3=>
A8 [KI,KI] p1 0 w3 fun x4=>
R ((x4.1,x4.2.1,()),(false,()),()) w3) (
Aj itself (
Aq l fun a5=>
ld1 KI a5 w2 fun x6=>
Au [iV x6,iV 0] p1 0 w2 fun w7=>
A8 [KI,KI] p1 0 w7 fun x8=>
R ((x8.1,x8.2.1,()),(true,()),()) w7) (
Aq l fun a9=>
ld1 KI (a9.add 1) w2 fun x10=>
Aj (decide (x10<0)) (
Au [iV 0,iV 0] p1 0 w2 fun w11=>
A8 [KI,KI] p1 0 w11 fun x12=>
R ((x12.1,x12.2.1,()),(false,()),()) w11) (
Jg w2 fun w13=>
Aq l fun a14=>
ld1 KI a14 w13 fun x15=>
Aq l fun a16=>
ld1 KI (a16.add 1) w13 fun x17=>
Au [iV x15,iV x17] p1 0 w13 fun w18=>
Hold [] w18∧(
A8 [KI,KI] p1 0 w18 fun x19=>
R ((x19.1,x19.2.1,()),(true,()),()) w18))))
theorem Kr.ok{l:Option Addr}{itself:Bool}{w:World}{R:TR Aja→WP}:Kr.wp l itself w R→Ae prog F.Kr [.pointer l,.bool itself] w true Aja R:=
  oks Aa func292 (hs 2 (.s (.pl (ks [0,1,2,3,4,5,6,7,8] (.ef 9 [3,7] (.tk 10 .z)))) .n))
def Nk.wp(r0 r1 r2 r3 r4 r5 r6:Int)(n:Option Addr)(stamp:Int)(w:World)(R:TR fE→WP):Prop:=
Bf [iV r0,iV r1,iV r2,iV r3,iV r4,uV r5,iV r6] T.jZ w fun p1 w2=>
Cc (fun(J3:((Addr)×(Int)×Unit)→WP)=>
Jg w2 fun w6=>
Aq n fun a7=>
ld1 .p (a7.add 18) w6 fun x8=>
Aq n fun a9=>
ld1 .p (a9.add 15) w6 fun x10=>
(
Ae prog F.Ar [.pointer x8,.pointer x10,iV stamp] w6 true aT fun r11 w12=>
Hold [hd 7 (a9.add 15) w6,hd 3 (a7.add 18) w6] w12∧(
Bf z3' T.Bg w12 fun p13 w14=>
Hold [hd 7 (a9.add 15) w6,hd 3 (a7.add 18) w6] w14∧(
Au (encs Xf r11.1) p13 0 w14 fun w15=>
Hold [] w15∧(
J3 (p13,r11.2.1.1,()) w15))))∧(
Bf z3' T.Bg w6 fun p16 w17=>
Hold [hd 7 (a9.add 15) w6,hd 3 (a7.add 18) w6] w17∧(
Ae prog F.Ar [.pointer x8,.pointer x10,iV stamp] w17 true aT fun r18 w19=>
Hold [] w19∧(
Au (encs Xf r18.1) p16 0 w19 fun w20=>
Hold [] w20∧(
J3 (p16,r18.2.1.1,()) w20))))) (fun(z4:(Addr)×(Int)×Unit) w5=> ∀_:Nat→Value,
Aj (z4.2.1 !=0) (
R ((.nilIface,()),(false,()),()) w5) (
A8 [KI,KU] (z4.1.add 2) 0 w5 fun x21=>
A8 [KI,KU] ((p1.add 2).add 2) 0 w5 fun x22=>
Aj (!((x21.1==x22.1)&&((x21.2.1==x22.2.1)&&true))) (
R ((.nilIface,()),(false,()),()) w5) (
Jg w5 fun w23=>
Aq n fun a24=>
ld1 KI a24 w23 fun x25=>
ld1 KI p1 w23 fun x26=>
ld1 KI (p1.add 1) w23 fun x27=>
ld1 KI (p1.add 2) w23 fun x28=>
ld1 KI z4.1 w23 fun x29=>
ld1 KI (z4.1.add 2) w23 fun x30=>
ld1 KU ((z4.1.add 2).add 1) w23 fun x31=>
ld1 KI (z4.1.add 1) w23 fun x32=>
ld1 KI ((p1.add 2).add 1) w23 fun x33=>
R ((.iface T.Gl (.agg #[iV x25,iV x26,iV x27,iV x28,iV x29,iV x30,uV x31,iV (if x33>x32 then x33 else x32)]),()),(true,()),()) w23)))
theorem Nk.ok{r0 r1 r2 r3 r4 r5 r6:Int}{n:Option Addr}{stamp:Int}{w:World}{R:TR fE→WP}:Nk.wp r0 r1 r2 r3 r4 r5 r6 n stamp w R→Ae prog F.Nk [.agg #[iV r0,iV r1,iV r2,iV r3,iV r4,uV r5,iV r6],.pointer n,iV stamp] w true fE R:=
  oks Aa func293 (.s .n (.ct [(8,.a),(9,(.i .i64))] (.pl (ks [0,1,2,3,4,5,6,7,8] (.two 9 13 (ks [10,11,12] (.ef 13 [] (.ef 14 [3,7] (.tk 15 .z)))) (.ef 9 [3,7] (ks [10,11,12] (.ef 14 [] (.tk 15 .z))))))) (.s .n (.s (.pl (ks [0,1,2,3,4,5,6,7,8,9,10,11,12,13,14,15,16,17,18,19,20,21,22,23,24,25,26,27,28,29] .z)) .n))))
def Lu.wp(f0 f1 f2 f3 f4 f5 f6 f7:Int)(w:World)(R:TR r3'→WP):Prop:=
Bf [iV f0,iV f1,iV f2,iV f3,iV f4,iV f5,uV f6,iV f7] T.Gl w fun p1 w2=>
ld1 KI p1 w2 fun x3=>
R ((x3,()),()) w2
theorem Lu.ok{f0 f1 f2 f3 f4 f5 f6 f7:Int}{w:World}{R:TR r3'→WP}:Lu.wp f0 f1 f2 f3 f4 f5 f6 f7 w R→Ae prog F.Lu [.agg #[iV f0,iV f1,iV f2,iV f3,iV f4,iV f5,uV f6,iV f7]] w false r3' R:=
  oks Aa func294 .n
def G7.wp(f0 f1 f2 f3 f4 f5 f6 f7:Int)(w:World)(R:TR H7→WP):Prop:=
Bf [iV f0,iV f1,iV f2,iV f3,iV f4,iV f5,uV f6,iV f7] T.Gl w fun p1 w2=>
Jg w2 fun w3=>
ld1 KI p1 w3 fun x4=>
ld1 KI (p1.add 1) w3 fun x5=>
ld1 KI (p1.add 2) w3 fun x6=>
ld1 KI (p1.add 3) w3 fun x7=>
ld1 KI (p1.add 4) w3 fun x8=>
ld1 KI (p1.add 5) w3 fun x9=>
ld1 KU (p1.add 6) w3 fun x10=>
ld1 KI (p1.add 7) w3 fun x11=>
Ae prog F.D5 [iV x4] w3 false Us fun r12 w13=>
Hold [hd 22 (p1.add 7) w3,hd 19 (p1.add 6) w3,hd 16 (p1.add 5) w3,hd 13 (p1.add 4) w3,hd 10 (p1.add 3) w3,hd 7 (p1.add 2) w3,hd 4 (p1.add 1) w3,hd 1 p1 w3] w13∧(
Ae prog F.D5 [iV x5] w13 false Us fun r14 w15=>
Hold [hd 22 (p1.add 7) w3,hd 19 (p1.add 6) w3,hd 16 (p1.add 5) w3,hd 13 (p1.add 4) w3,hd 10 (p1.add 3) w3,hd 7 (p1.add 2) w3,hd 4 (p1.add 1) w3,hd 1 p1 w3] w15∧(
Ae prog F.Gn [iV x6] w15 false Us fun r16 w17=>
Hold [hd 22 (p1.add 7) w3,hd 19 (p1.add 6) w3,hd 16 (p1.add 5) w3,hd 13 (p1.add 4) w3,hd 10 (p1.add 3) w3,hd 7 (p1.add 2) w3,hd 4 (p1.add 1) w3,hd 1 p1 w3] w17∧(
Ae prog F.Gn [iV x7] w17 false Us fun r18 w19=>
Hold [hd 22 (p1.add 7) w3,hd 19 (p1.add 6) w3,hd 16 (p1.add 5) w3,hd 13 (p1.add 4) w3,hd 10 (p1.add 3) w3,hd 7 (p1.add 2) w3,hd 4 (p1.add 1) w3,hd 1 p1 w3] w19∧(
Ae prog F.Gn [iV x8] w19 false Us fun r20 w21=>
Hold [hd 22 (p1.add 7) w3,hd 19 (p1.add 6) w3,hd 16 (p1.add 5) w3,hd 13 (p1.add 4) w3,hd 10 (p1.add 3) w3,hd 7 (p1.add 2) w3,hd 4 (p1.add 1) w3,hd 1 p1 w3] w21∧(
Ae prog F.D5 [iV x9] w21 false Us fun r22 w23=>
Hold [hd 22 (p1.add 7) w3,hd 19 (p1.add 6) w3,hd 16 (p1.add 5) w3,hd 13 (p1.add 4) w3,hd 10 (p1.add 3) w3,hd 7 (p1.add 2) w3,hd 4 (p1.add 1) w3,hd 1 p1 w3] w23∧(
Ae prog F.E5 [uV x10] w23 false Us fun r24 w25=>
Hold [hd 22 (p1.add 7) w3,hd 19 (p1.add 6) w3,hd 16 (p1.add 5) w3,hd 13 (p1.add 4) w3,hd 10 (p1.add 3) w3,hd 7 (p1.add 2) w3,hd 4 (p1.add 1) w3,hd 1 p1 w3] w25∧(
Ae prog F.Qp [iV x11] w25 false Us fun r26 w27=>
Hold [hd 22 (p1.add 7) w3,hd 19 (p1.add 6) w3,hd 16 (p1.add 5) w3,hd 13 (p1.add 4) w3,hd 10 (p1.add 3) w3,hd 7 (p1.add 2) w3,hd 4 (p1.add 1) w3,hd 1 p1 w3] w27∧(
Bf [iV r12.1.1,iV r12.1.2.1,iV r12.1.2.2.1,iV r14.1.1,iV r14.1.2.1,iV r14.1.2.2.1,iV r16.1.1,iV r16.1.2.1,iV r16.1.2.2.1,iV r18.1.1,iV r18.1.2.1,iV r18.1.2.2.1,iV r20.1.1,iV r20.1.2.1,iV r20.1.2.2.1,iV r22.1.1,iV r22.1.2.1,iV r22.1.2.2.1,iV r24.1.1,iV r24.1.2.1,iV r24.1.2.2.1,iV r26.1.1,iV r26.1.2.1,iV r26.1.2.2.1] T.Dl w27 fun p28 w29=>
Hold [hd 22 (p1.add 7) w3,hd 19 (p1.add 6) w3,hd 16 (p1.add 5) w3,hd 13 (p1.add 4) w3,hd 10 (p1.add 3) w3,hd 7 (p1.add 2) w3,hd 4 (p1.add 1) w3,hd 1 p1 w3] w29∧(
R (((some p28,8,8),()),()) w29)))))))))
theorem G7.ok{f0 f1 f2 f3 f4 f5 f6 f7:Int}{w:World}{R:TR H7→WP}:G7.wp f0 f1 f2 f3 f4 f5 f6 f7 w R→Ae prog F.G7 [.agg #[iV f0,iV f1,iV f2,iV f3,iV f4,iV f5,uV f6,iV f7]] w false H7 R:=
  oks Aa func295 (.s .n (.s (.pl (ks [0,1,3,4,6,7,9,10,12,13,15,16,18,19,21,22] (.ef 2 [] (.ef 5 [] (.ef 8 [] (.ef 11 [] (.ef 14 [] (.ef 17 [] (.ef 20 [] (.ef 23 [] (.ef 24 [] (.tk 25 .z)))))))))))) .n))
def Qi.wp(n:Option Addr)(p2:Int)(w:World)(R:TR fE→WP):Prop:=
Bf [] T.Yr w fun p1 w2=>
Aq n fun a3=>
Ae prog F.Nc [.pointer (some (a3.add 19))] w2 true Ak4 fun r4 w5=>
Bf pY T.Bh w5 fun p6 w7=>
Au (encs Zy r4.1) p6 0 w7 fun w8=>
Aq n fun a9=>
ld1 KI a9 w8 fun x10=>
Au [iV x10] p6 0 w8 fun w11=>
A8 Zy p6 0 w11 fun x12=>
R ((.iface T.Bh (Sv Zy x12),()),(r4.2.1.1,()),()) w11
theorem Qi.ok{n:Option Addr}{p2:Int}{w:World}{R:TR fE→WP}:Qi.wp n p2 w R→Ae prog F.Qi [.agg #[],.pointer n,iV p2] w true fE R:=
  oks Aa func297 .n
def Nc.wp(b:Option Addr)(w:World)(R:TR Ak4→WP):Prop:=
Bf pY T.Bh w fun p1 w2=>
Aj (Option.isNone b) (
Au pY p1 0 w2 fun w3=>
A8 Zy p1 0 w3 fun x4=>
R (x4,(false,()),()) w3) (
Jg w2 fun w5=>
Aq b fun a6=>
A8 Zy (a6.add 1) 0 w5 fun x7=>
Aq b fun a8=>
ld1 .b a8 w5 fun x9=>
Au (encs Zy x7) p1 0 w5 fun w10=>
Hold [hd 7 a8 w5] w10∧(
A8 Zy p1 0 w10 fun x11=>
R (x11,(x9,()),()) w10))
theorem Nc.ok{b:Option Addr}{w:World}{R:TR Ak4→WP}:Nc.wp b w R→Ae prog F.Nc [.pointer b] w true Ak4 R:=
  oks Aa func298 (hs 2 (.s (.pl (ks [0,1,2,3,4,5,6,7] (.ef 8 [3] (.tk 9 .z)))) .n))
end Go.Proofs.YtnjmfbjgcfnanaaGreat
