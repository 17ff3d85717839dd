import Derived.Test.YticgocmhmffneaaGreatDoorNm
namespace Go.Proofs.YticgocmhmffneaaGreatDoor
open Go.Eng Tryz
open Go.IntKind (wrap)
set_option linter.unusedSimpArgs false
set_option linter.unusedVariables false
set_option maxRecDepth 100000
def Oa.wp(n:Option Addr)(f0 f1 f2 stamp:Int)(w:World)(R:TR iT→WP):Prop:=
Cc (λ(J1:((Addr)×(Int)×Unit)→WP)=>
Jg w λw4=>
Aq n λa5=>
ld1 .p (a5.add 18) w4 λx6=>
Aq n λa7=>
ld1 .p (a7.add 15) w4 λx8=>
(
Ae prog F.Ar [.pointer x6,.pointer x8,iV stamp] w4 true oI λr9 w10=>
A7 [hd 7 (a7.add 15) w4,hd 3 (a5.add 18) w4] w10∧(
Bf dE T.Bg w10 λp11 w12=>
A7 [hd 7 (a7.add 15) w4,hd 3 (a5.add 18) w4] w12∧(
Au (encs Tu r9.1) p11 0 w12 λw13=>
A7 [] w13∧(
J1 (p11,r9.2.1.1,()) w13))))∧(
Bf dE T.Bg w4 λp14 w15=>
A7 [hd 7 (a7.add 15) w4,hd 3 (a5.add 18) w4] w15∧(
Ae prog F.Ar [.pointer x6,.pointer x8,iV stamp] w15 true oI λr16 w17=>
A7 [] w17∧(
Au (encs Tu r16.1) p14 0 w17 λw18=>
A7 [] w18∧(
J1 (p14,r16.2.1.1,()) w18))))) (λ(z2:(Addr)×(Int)×Unit) w3=> ∀_:Nat→Value,
Bf Ao4 T.Ef w3 λp19 w20=>
Au [iV f0,iV f1,iV f2] p19 0 w20 λw21=>
Cc (λ(J22:((Bool)×Unit)→WP)=>
Jg w21 λw25=>
Aj (z2.2.1==0) (
ld1 KI (p19.add 1) w25 λx26=>
Aq n λa27=>
ld1 KI a27 w25 λx28=>
J22 ((x26==x28),()) w25) (
J22 (false,()) w25)) (λ(z23:(Bool)×Unit) w24=> ∀_:Nat→Value,
Aj z23.1 (
Jg w24 λw29=>
Aq n λa30=>
ld1 .p (a30.add 27) w29 λx31=>
ld1 KI p19 w29 λx32=>
ld1 KI (p19.add 2) w29 λx33=>
A8 Tu z2.1 0 w29 λx34=>
Ae prog F.Cj [.pointer x31,.iface T.jZ (.agg #[iV x32,iV x33,iV x34.1,iV x34.2.1,iV x34.2.2.1,uV x34.2.2.2.1,iV x34.2.2.2.2.1])] w29 false iT λr35 w36=>
A7 [hd 8 (z2.1.add 0) w29,hd 8 (z2.1.add 1) w29,hd 8 (z2.1.add 2) w29,hd 8 (z2.1.add 3) w29,hd 8 (z2.1.add 4) w29,hd 7 (p19.add 2) w29,hd 5 p19 w29] w36∧(
R ((r35.1.1,()),()) w36)) (
R ((0,()),()) w24)))
theorem Oa.ok{n:Option Addr}{f0 f1 f2 stamp:Int}{w:World}{R:TR iT→WP}:Oa.wp n f0 f1 f2 stamp w R→Ae prog F.Gm [.pointer n,.iface T.Ef (.agg #[iV f0,iV f1,iV f2]),iV stamp] w false iT R:=
 oks Aa Tryz.func126 (.s .n (.ct [(7,.a),(8,(.i .i64))] (.pl (ks [0,1,2,3,4,5,6,7,8] (.two 9 13 (ks [10,11,12] (.ef 13 [] (.ef 14 [3,7] (.tk 15 .z)))) (.ef 9 [3,7] (ks [10,11,12] (.ef 14 [] (.tk 15 .z))))))) (.s (hs 8 (.s (.s .n (.ct [(82,.b)] (.pl (ks [0,1,2,3,4,5,6,7,8,9,10,11] .z)) (.s (.s (.pl (ks [0,1,2,3,4,5,6,7,8,9,10] (.ef 11 [3] (.tk 12 .z)))) .n) .n))) .n)) .n)))
def Og.wp(n:Option Addr)(f0 f1 f2 f3 f4 f5 f6 f7 stamp:Int)(w:World)(R:TR iT→WP):Prop:=
Cc (λ(J1:((Addr)×(Int)×Unit)→WP)=>
Jg w λw4=>
Aq n λa5=>
ld1 .p (a5.add 18) w4 λx6=>
Aq n λa7=>
ld1 .p (a7.add 15) w4 λx8=>
(
Ae prog F.Ar [.pointer x6,.pointer x8,iV stamp] w4 true oI λr9 w10=>
A7 [hd 7 (a7.add 15) w4,hd 3 (a5.add 18) w4] w10∧(
Bf dE T.Bg w10 λp11 w12=>
A7 [hd 7 (a7.add 15) w4,hd 3 (a5.add 18) w4] w12∧(
Au (encs Tu r9.1) p11 0 w12 λw13=>
A7 [] w13∧(
J1 (p11,r9.2.1.1,()) w13))))∧(
Bf dE T.Bg w4 λp14 w15=>
A7 [hd 7 (a7.add 15) w4,hd 3 (a5.add 18) w4] w15∧(
Ae prog F.Ar [.pointer x6,.pointer x8,iV stamp] w15 true oI λr16 w17=>
A7 [] w17∧(
Au (encs Tu r16.1) p14 0 w17 λw18=>
A7 [] w18∧(
J1 (p14,r16.2.1.1,()) w18))))) (λ(z2:(Addr)×(Int)×Unit) w3=> ∀_:Nat→Value,
Bf Axh T.Gl w3 λp19 w20=>
Au [iV f0,iV f1,iV f2,iV f3,iV f4,iV f5,uV f6,iV f7] p19 0 w20 λw21=>
Cc (λ(J22:((Addr)×(Bool)×Unit)→WP)=>
Jg w21 λw25=>
Aq n λa26=>
ld1 .p (a26.add 17) w25 λx27=>
A8 Aue p19 0 w25 λx28=>
(
Ae prog F.Jo [.pointer x27,Sv Aue x28,iV stamp] w25 true Aar λr29 w30=>
A7 [hd 4 (p19.add 0) w25,hd 4 (p19.add 1) w25,hd 4 (p19.add 2) w25,hd 4 (p19.add 3) w25,hd 4 (p19.add 4) w25,hd 4 (p19.add 5) w25,hd 4 (p19.add 6) w25,hd 4 (p19.add 7) w25,hd 3 (a26.add 17) w25] w30∧(
Bf Ao4 T.Du w30 λp31 w32=>
A7 [hd 4 (p19.add 0) w25,hd 4 (p19.add 1) w25,hd 4 (p19.add 2) w25,hd 4 (p19.add 3) w25,hd 4 (p19.add 4) w25,hd 4 (p19.add 5) w25,hd 4 (p19.add 6) w25,hd 4 (p19.add 7) w25,hd 3 (a26.add 17) w25] w32∧(
Au (encs Aab r29.1) p31 0 w32 λw33=>
A7 [] w33∧(
J22 (p31,r29.2.1.1,()) w33))))∧(
Bf Ao4 T.Du w25 λp34 w35=>
A7 [hd 4 (p19.add 0) w25,hd 4 (p19.add 1) w25,hd 4 (p19.add 2) w25,hd 4 (p19.add 3) w25,hd 4 (p19.add 4) w25,hd 4 (p19.add 5) w25,hd 4 (p19.add 6) w25,hd 4 (p19.add 7) w25,hd 3 (a26.add 17) w25] w35∧(
Ae prog F.Jo [.pointer x27,Sv Aue x28,iV stamp] w35 true Aar λr36 w37=>
A7 [] w37∧(
Au (encs Aab r36.1) p34 0 w37 λw38=>
A7 [] w38∧(
J22 (p34,r36.2.1.1,()) w38))))) (λ(z23:(Addr)×(Bool)×Unit) w24=> ∀_:Nat→Value,
Aj z23.2.1 (
Jg w24 λw39=>
Aq n λa40=>
ld1 .p (a40.add 18) w39 λx41=>
A8 Aab z23.1 0 w39 λx42=>
ld1 KI (p19.add 5) w39 λx43=>
ld1 KU (p19.add 6) w39 λx44=>
Ae prog F.Je [.pointer x41,Sv Aab x42,.agg #[iV x43,uV x44]] w39 false iT λr45 w46=>
A7 [hd 8 (p19.add 6) w39,hd 6 (p19.add 5) w39] w46∧(
R ((0,()),()) w46)) (
R ((0,()),()) w24)))
theorem Og.ok{n:Option Addr}{f0 f1 f2 f3 f4 f5 f6 f7 stamp:Int}{w:World}{R:TR iT→WP}:Og.wp n f0 f1 f2 f3 f4 f5 f6 f7 stamp w R→Ae prog F.Gm [.pointer n,.iface T.Gl (.agg #[iV f0,iV f1,iV f2,iV f3,iV f4,iV f5,uV f6,iV f7]),iV stamp] w false iT R:=
 oks Aa Tryz.func126 (.s .n (.ct [(7,.a),(8,(.i .i64))] (.pl (ks [0,1,2,3,4,5,6,7,8] (.two 9 13 (ks [10,11,12] (.ef 13 [] (.ef 14 [3,7] (.tk 15 .z)))) (.ef 9 [3,7] (ks [10,11,12] (.ef 14 [] (.tk 15 .z))))))) (.s (hs 10 (.s (.s .n (.ct [(14,.a),(15,.b)] (.pl (ks [0,1,2,3,4,5] (.two 6 10 (ks [7,8,9] (.ef 10 [] (.ef 11 [3,4] (.tk 12 .z)))) (.ef 6 [3,4] (ks [7,8,9] (.ef 11 [] (.tk 12 .z))))))) (.s .n (.s (.pl (ks [0,1,2,3,4,5,6,7,8,9] (.ef 10 [3,4] .z))) .n)))) .n)) .n)))
def Ar.wp(s f:Option Addr)(local_:Int)(w:World)(R:TR oI→WP):Prop:=
Bf dE T.Bg w λp1 w2=>
Cc (λ(J3:((Bool)×Unit)→WP)=>
Aj (Option.isNone s) (
J3 (true,()) w2) (
J3 ((Option.isNone f),()) w2)) (λ(z4:(Bool)×Unit) w5=> ∀_:Nat→Value,
Aj z4.1 (
Au dE p1 0 w5 λw6=>
A8 Tu p1 0 w6 λx7=>
R (x7,(2,()),()) w6) (
Ae prog F.Ba [.pointer f] w5 false r0' λr8 w9=>
Aj r8.1.1 (
Ae prog F.Oo [.pointer f,iV local_] w9 true oI λr10 w11=>
Au (encs Tu r10.1) p1 0 w11 λw12=>
A8 Tu p1 0 w12 λx13=>
R (x13,(r10.2.1.1,()),()) w12) (
Aq s λa14=>
ld1 .b (a14.add 7) w9 λx15=>
Aj (!x15) (
Au dE p1 0 w9 λw16=>
A8 Tu p1 0 w16 λx17=>
R (x17,(9,()),()) w16) (
Aj (decide (local_<0)) (
Au dE p1 0 w9 λw18=>
A8 Tu p1 0 w18 λx19=>
R (x19,(8,()),()) w18) (
Aj (decide (local_>1125899906842624)) (
Au dE p1 0 w9 λw20=>
A8 Tu p1 0 w20 λx21=>
R (x21,(8,()),()) w20) (
Aq s λa22=>
ld1 KI ((a22.add 1).add 1) w9 λx23=>
Aj (decide ((wrap .i64 (local_+x23))<0)) (
Au dE p1 0 w9 λw24=>
A8 Tu p1 0 w24 λx25=>
R (x25,(8,()),()) w24) (
Aj (decide ((wrap .i64 (local_+x23))>1125899906842624)) (
Au dE p1 0 w9 λw26=>
A8 Tu p1 0 w26 λx27=>
R (x27,(8,()),()) w26) (
Jg w9 λw28=>
Aq s λa29=>
ld1 KI ((a29.add 1).add 2) w28 λx30=>
Aq s λa31=>
A8 [KI,KU] (a31.add 4) 0 w28 λx32=>
Au [iV (wrap .i64 (local_+x23)),iV x30,iV x32.1,uV x32.2.1,iV 3] p1 0 w28 λw33=>
A7 [] w33∧(
A8 Tu p1 0 w33 λx34=>
R (x34,(0,()),()) w33)))))))))
theorem Ar.ok{s f:Option Addr}{local_:Int}{w:World}{R:TR oI→WP}:Ar.wp s f local_ w R→Ae prog F.Ar [.pointer s,.pointer f,iV local_] w true oI R:=
 oks Aa Tryz.func127 (.s .n (.s (.ct [(9,.b)] .n .n) (hs 2 (.s (.pl (ks [0,1,2,3,4,5,6,7,8,9,10] (.ef 11 [5,9] (.tk 12 .z)))) .n))))
def Nr.wp(c:Option Addr)(raw:Int)(w:World)(R:TR []→WP):Prop:=
Aj (!(Option.isNone c)) (
Aq c λa1=>
Au [.int .u32 raw] (a1.add 1) 0 w λw2=>
Aq c λa3=>
Au [iV (wrap .i64 raw)] (a3.add 2) 0 w2 λw4=>
R (()) w4) (
R (()) w)
theorem Nr.ok{c:Option Addr}{raw:Int}{w:World}{R:TR []→WP}:Nr.wp c raw w R→Ae prog F.Nr [.pointer c,.int .u32 raw] w true [] R:=
 oks Aa Tryz.func128 .n
def Lh.wp(f:Option Addr)(boot:Int)(w:World)(R:TR []→WP):Prop:=
Aj (!(Option.isNone f)) (
Aq f λa1=>
ld1 .p a1 w λx2=>
Ae prog F.Hr [.pointer x2,uV boot] w true [] λr3 w4=>
Ae prog F.Em [.pointer f] w4 true [] λr5 w6=>
R (()) w6) (
R (()) w)
theorem Lh.ok{f:Option Addr}{boot:Int}{w:World}{R:TR []→WP}:Lh.wp f boot w R→Ae prog F.Lh [.pointer f,uV boot] w true [] R:=
 oks Aa Tryz.func129 .n
def Gf.wp(l:Option Addr)(w:World)(R:TR []→WP):Prop:=
Aj (!(Option.isNone l)) (
Aq l λa1=>
Au [iV (Int.negSucc 0)] (a1.add 1) 0 w λw2=>
Aq l λa3=>
Au [iV (Int.negSucc 0)] (a3.add 2) 0 w2 λw4=>
R (()) w4) (
R (()) w)
theorem Gf.ok{l:Option Addr}{w:World}{R:TR []→WP}:Gf.wp l w R→Ae prog F.Gf [.pointer l] w true [] R:=
 oks Aa Tryz.func130 .n
def Pe.wp(p:Option Addr)(w:World)(R:TR []→WP):Prop:=
Aj (!(Option.isNone p)) (
Aq p λa1=>
ld1 KI a1 w λx2=>
Aq p λa3=>
Au [iV x2,iV 0,iV 0,.bool false,iV 0,iV 0,iV 0] a3 0 w λw4=>
R (()) w4) (
R (()) w)
theorem Pe.ok{p:Option Addr}{w:World}{R:TR []→WP}:Pe.wp p w R→Ae prog F.Pe [.pointer p] w true [] R:=
 oks Aa Tryz.func131 .n
def Fe.wp(s:Option Addr)(w:World)(R:TR []→WP):Prop:=
Aj (!(Option.isNone s)) (
Aq s λa1=>
ld1 KI a1 w λx2=>
Aq s λa3=>
Au [iV x2,iV 0,iV 0,iV 0,iV 0,uV 0,iV 0,.bool false] a3 0 w λw4=>
R (()) w4) (
R (()) w)
theorem Fe.ok{s:Option Addr}{w:World}{R:TR []→WP}:Fe.wp s w R→Ae prog F.Fe [.pointer s] w true [] R:=
 oks Aa Tryz.func132 .n
def Js.wp(b:Option Addr)(w:World)(R:TR []→WP):Prop:=
Aj (!(Option.isNone b)) (
Aq b λa1=>
Au Axy a1 0 w λw2=>
R (()) w2) (
R (()) w)
theorem Js.ok{b:Option Addr}{w:World}{R:TR []→WP}:Js.wp b w R→Ae prog F.Js [.pointer b] w true [] R:=
 oks Aa Tryz.func133 .n
def Md.wp(l:Option Addr)(w:World)(R:TR []→WP):Prop:=
Aj (!(Option.isNone l)) (
Aq l λa1=>
ld1 .p a1 w λx2=>
Ae prog F.Dw [.pointer x2] w true [] λr3 w4=>
Aq l λa5=>
Au [iV 0] (a5.add 1) 0 w4 λw6=>
R (()) w6) (
R (()) w)
theorem Md.ok{l:Option Addr}{w:World}{R:TR []→WP}:Md.wp l w R→Ae prog F.Md [.pointer l] w true [] R:=
 oks Aa Tryz.func134 .n
def Eh.wp(r:Option Addr)(w:World)(R:TR []→WP):Prop:=
Aj (!(Option.isNone r)) (
Aq r λa1=>
ld1 .sl a1 w λx2=>
crK prog #[T.Zh] T.t0 (.slice x2.1 x2.2.1 x2.2.2) w λw3=>
Aq r λa4=>
Au [iV 0] (a4.add 1) 0 w3 λw5=>
Aq r λa6=>
Au [iV 0] (a6.add 2) 0 w5 λw7=>
R (()) w7) (
R (()) w)
theorem Eh.ok{r:Option Addr}{w:World}{R:TR []→WP}:Eh.wp r w R→Ae prog F.Eh [.pointer r] w true [] R:=
 oks Aa Tryz.func135 .n
def Et.wp(b:Option Addr)(me t0 t1 t2 t3 t4 tai:Int)(w:World)(R:TR Aii→WP):Prop:=
Bf [iV t0,iV t1,iV t2,uV t3,iV t4] T.Bg w λp1 w2=>
Bf Aph T.Bh w2 λp3 w4=>
Aj (Option.isNone b) (
Au Aph p3 0 w4 λw5=>
A8 U9 p3 0 w5 λx6=>
R (x6,(2,()),()) w5) (
Cc (λ(J7:((Addr)×Unit)→WP)=>
Jg w4 λw10=>
Aq b λa11=>
ld1 KU ((a11.add 1).add 1) w10 λx12=>
ld1 KI (p1.add 2) w10 λx13=>
ld1 KU ((p1.add 2).add 1) w10 λx14=>
ld1 KI p1 w10 λx15=>
(
Ae prog F.Qu [uV x12] w10 false Ar0 λr16 w17=>
A7 [hd 14 p1 w10,hd 12 ((p1.add 2).add 1) w10,hd 9 (p1.add 2) w10,hd 5 ((a11.add 1).add 1) w10] w17∧(
Bf Aph T.Bh w17 λp18 w19=>
A7 [hd 14 p1 w10,hd 12 ((p1.add 2).add 1) w10,hd 9 (p1.add 2) w10,hd 5 ((a11.add 1).add 1) w10] w19∧(
Au [iV me,uV r16.1.1,iV x13,uV x14,iV x15,iV tai] p18 0 w19 λw20=>
A7 [] w20∧(
J7 (p18,()) w20))))∧(
Bf Aph T.Bh w10 λp21 w22=>
A7 [hd 14 p1 w10,hd 12 ((p1.add 2).add 1) w10,hd 9 (p1.add 2) w10,hd 5 ((a11.add 1).add 1) w10] w22∧(
Ae prog F.Qu [uV x12] w22 false Ar0 λr23 w24=>
A7 [hd 14 p1 w10,hd 12 ((p1.add 2).add 1) w10,hd 9 (p1.add 2) w10] w24∧(
Au [iV me,uV r23.1.1,iV x13,uV x14,iV x15,iV tai] p21 0 w24 λw25=>
A7 [] w25∧(
J7 (p21,()) w25))))) (λ(z8:(Addr)×Unit) w9=> ∀_:Nat→Value,
A8 U9 z8.1 0 w9 λx26=>
Ae prog F.Ew [.iface T.Bh (Sv U9 x26)] w9 false r0' λr27 w28=>
Aj (!r27.1.1) (
Au Aph p3 0 w28 λw29=>
A8 U9 p3 0 w29 λx30=>
R (x30,(1,()),()) w29) (
Jg w28 λw31=>
A8 U9 z8.1 0 w31 λx32=>
Aq b λa33=>
Au [.bool true] a33 0 w31 λw34=>
A7 [hd 2 (z8.1.add 0) w31,hd 2 (z8.1.add 1) w31,hd 2 (z8.1.add 2) w31,hd 2 (z8.1.add 3) w31,hd 2 (z8.1.add 4) w31,hd 2 (z8.1.add 5) w31] w34∧(
Aq b λa35=>
Au (encs U9 x32) (a35.add 1) 0 w34 λw36=>
A7 [] w36∧(
A8 U9 z8.1 0 w36 λx37=>
Au (encs U9 x37) p3 0 w36 λw38=>
A8 U9 p3 0 w38 λx39=>
R (x39,(0,()),()) w38)))))
theorem Et.ok{b:Option Addr}{me t0 t1 t2 t3 t4 tai:Int}{w:World}{R:TR Aii→WP}:Et.wp b me t0 t1 t2 t3 t4 tai w R→Ae prog F.Et [.pointer b,iV me,.agg #[iV t0,iV t1,iV t2,uV t3,iV t4],iV tai] w true Aii R:=
 oks Aa Tryz.func136 (hs 2 (.ct [(10,.a)] (.pl (ks [0,1,2,3,4,5,7,8,9,10,11,12,13,14,15] (.two 6 17 (.tk 16 (.ef 17 [] (.ef 18 [5,9,12,14] .z))) (.ef 6 [5] (.tk 16 (.ef 18 [9,12,14] .z)))))) (.s .n (.s (.pl (ks [0,1,2,3,4] (.ef 5 [] (.tk 6 (.tk 7 (.ef 8 [2] .z)))))) .n))))
def Ib.wp(n:Option Addr)(w:World)(R:TR iT→WP):Prop:=
Ae prog F.O7 [.pointer n] w false r0' λr1 w2=>
Aj r1.1.1 (
R ((0,()),()) w2) (
Aq n λa3=>
ld1 .p (a3.add 27) w2 λx4=>
Ae prog F.Cj [.pointer x4,.iface T.Yr (.agg #[])] w2 false iT λr5 w6=>
R ((r5.1.1,()),()) w6)
theorem Ib.ok{n:Option Addr}{w:World}{R:TR iT→WP}:Ib.wp n w R→Ae prog F.Ib [.pointer n] w false iT R:=
 oks Aa Tryz.func137 .n
def Xu.wp(b:Option Addr×Nat×Nat)(w:World)(R:TR Arw→WP):Prop:=
L9 ((Builtin.append_ #[T.Fh,T.Fh] T.Fh #[.slice none 0 0,.slice b.1 b.2.1 b.2.2]).run prog w) λy1 w2=>
Bf [.slice y1.1 y1.2.1 y1.2.2,iV 0] T.Adv w2 λp3 w4=>
R ((some p3,()),()) w4
theorem Xu.ok{b:Option Addr×Nat×Nat}{w:World}{R:TR Arw→WP}:Xu.wp b w R→Ae prog F.Xu [.slice b.1 b.2.1 b.2.2] w false Arw R:=
 oks Aa Tryz.func138 .n
def Nj.wp(e:Option Addr)(size:Int)(w:World)(R:TR Zz→WP):Prop:=
Aj (decide (size<0)) (
R ((0,()),(false,()),()) w) (
Aj (decide (size>8)) (
R ((0,()),(false,()),()) w) (
Ae prog F.Oj [.pointer e] w false iT λr1 w2=>
Aj (decide (size>r1.1.1)) (
R ((0,()),(false,()),()) w2) (
Ci (λ(self3:((Int)×(Int)×Unit)→WP) (z4:(Int)×(Int)×Unit) w5=> ∀_:Nat→Value,
Aj (decide (z4.2.1<size)) (
Jg w5 λw6=>
fJ 8 (
Aq e λa7=>
ld1 .sl a7 w6 λx8=>
Aq e λa9=>
ld1 KI (a9.add 1) w6 λx10=>
Ny x8.1 x8.2.1 x10 λa11=>
ld1 (.i .u8) (a11.add (x10.toNat*1)) w6 λx12=>
Aq e λa13=>
ld1 KI (a13.add 1) w6 λx14=>
Aq e λa15=>
Au [iV (wrap .i64 (x14+1))] (a15.add 1) 0 w6 λw16=>
self3 (Lm .or .u64 (Sz .u64 z4.1 8) (wrap .u64 x12),wrap .i64 (z4.2.1+1),()) w16)) (
R ((z4.1,()),(true,()),()) w5)) (0,0,()) w2)))
theorem Nj.ok{e:Option Addr}{size:Int}{w:World}{R:TR Zz→WP}:Nj.wp e size w R→Ae prog F.Nj [.pointer e,iV size] w true Zz R:=
 oks Aa Tryz.func139 (hs 3 (.s (.s .n (.lp [(6,(.i .u64)),(20,(.i .i64))] (hs 2 (.s (.s (.pl (ks [0,1,2,3,4,5,6,7,8,9,10,11,12,13,14] .z)) .n) .n)))) .n))
def Sr.wp(k:Int)(w:World)(R:TR fC→WP):Prop:=
Aj (k==1) (
R ((.iface T.Dy (.agg #[iV 0,iV 0,uV 0,uV 0,iV 0,iV 0]),()),()) w) (
Aj (k==2) (
R ((.iface T.Gj (.agg #[iV 0,iV 0]),()),()) w) (
Aj (k==3) (
R ((.iface T.Gp (.agg #[iV 0]),()),()) w) (
Aj (k==4) (
R ((.iface T.Ef (.agg #[iV 0,iV 0,iV 0]),()),()) w) (
Aj (k==5) (
R ((.iface T.Gl (.agg #[iV 0,iV 0,iV 0,iV 0,iV 0,iV 0,uV 0,iV 0]),()),()) w) (
Aj (k==6) (
R ((.iface T.Bh (.agg #[iV 0,uV 0,iV 0,uV 0,iV 0,iV 0]),()),()) w) (
R ((.nilIface,()),()) w))))))
theorem Sr.ok{k:Int}{w:World}{R:TR fC→WP}:Sr.wp k w R→Ae prog F.Sr [.int .u64 k] w false fC R:=
 oks Aa Tryz.func140 .n
def Qr.wp(f0 f1 f2 f3 f4 f5:Int)(w:World)(R:TR iT→WP):Prop:=
Ae prog F.Dt [.agg #[iV f0,uV f1,iV f2,uV f3,iV f4,iV f5]] w false dH λr1 w2=>
Ci (λ(self3:((Int)×(Int)×Unit)→WP) (z4:(Int)×(Int)×Unit) w5=> ∀_:Nat→Value,
Aj (decide (z4.2.1<(r1.1.1.2.1:Int))) (
Ny r1.1.1.1 r1.1.1.2.1 z4.2.1 λa6=>
A8 Aab (a6.add (z4.2.1.toNat*3)) 0 w5 λx7=>
Bf Ao4 T.Dl w5 λp8 w9=>
Au (encs Aab x7) p8 0 w9 λw10=>
ld1 KI p8 w10 λx11=>
self3 (wrap .i64 (z4.1+x11),wrap .i64 (z4.2.1+1),()) w10) (
R ((z4.1,()),()) w5)) (0,0,()) w2
theorem Qr.ok{f0 f1 f2 f3 f4 f5:Int}{w:World}{R:TR iT→WP}:Qr.wp f0 f1 f2 f3 f4 f5 w R→Ae prog F.Qo [.iface T.Bh (.agg #[iV f0,uV f1,iV f2,uV f3,iV f4,iV f5])] w false iT R:=
 oks Aa Tryz.func141 (hs 2 (.s (.s .n (.lp [(3,(.i .i64)),(9,(.i .i64))] .n)) .n))
def Ry.wp(f0 f1 f2 f3 f4 f5:Int)(w:World)(R:TR iT→WP):Prop:=
Ae prog F.Dh [.agg #[iV f0,iV f1,uV f2,uV f3,iV f4,iV f5]] w false dH λr1 w2=>
Ci (λ(self3:((Int)×(Int)×Unit)→WP) (z4:(Int)×(Int)×Unit) w5=> ∀_:Nat→Value,
Aj (decide (z4.2.1<(r1.1.1.2.1:Int))) (
Ny r1.1.1.1 r1.1.1.2.1 z4.2.1 λa6=>
A8 Aab (a6.add (z4.2.1.toNat*3)) 0 w5 λx7=>
Bf Ao4 T.Dl w5 λp8 w9=>
Au (encs Aab x7) p8 0 w9 λw10=>
ld1 KI p8 w10 λx11=>
self3 (wrap .i64 (z4.1+x11),wrap .i64 (z4.2.1+1),()) w10) (
R ((z4.1,()),()) w5)) (0,0,()) w2
theorem Ry.ok{f0 f1 f2 f3 f4 f5:Int}{w:World}{R:TR iT→WP}:Ry.wp f0 f1 f2 f3 f4 f5 w R→Ae prog F.Qo [.iface T.Dy (.agg #[iV f0,iV f1,uV f2,uV f3,iV f4,iV f5])] w false iT R:=
 oks Aa Tryz.func141 (hs 2 (.s (.s .n (.lp [(3,(.i .i64)),(9,(.i .i64))] .n)) .n))
def Rn.wp(f0 f1:Int)(w:World)(R:TR iT→WP):Prop:=
Ae prog F.Ic [.agg #[iV f0,iV f1]] w false dH λr1 w2=>
Ci (λ(self3:((Int)×(Int)×Unit)→WP) (z4:(Int)×(Int)×Unit) w5=> ∀_:Nat→Value,
Aj (decide (z4.2.1<(r1.1.1.2.1:Int))) (
Ny r1.1.1.1 r1.1.1.2.1 z4.2.1 λa6=>
A8 Aab (a6.add (z4.2.1.toNat*3)) 0 w5 λx7=>
Bf Ao4 T.Dl w5 λp8 w9=>
Au (encs Aab x7) p8 0 w9 λw10=>
ld1 KI p8 w10 λx11=>
self3 (wrap .i64 (z4.1+x11),wrap .i64 (z4.2.1+1),()) w10) (
R ((z4.1,()),()) w5)) (0,0,()) w2
theorem Rn.ok{f0 f1:Int}{w:World}{R:TR iT→WP}:Rn.wp f0 f1 w R→Ae prog F.Qo [.iface T.Gj (.agg #[iV f0,iV f1])] w false iT R:=
 oks Aa Tryz.func141 (hs 2 (.s (.s .n (.lp [(3,(.i .i64)),(9,(.i .i64))] .n)) .n))
def Sj.wp(f0:Int)(w:World)(R:TR iT→WP):Prop:=
Ae prog F.D8 [.agg #[iV f0]] w false dH λr1 w2=>
Ci (λ(self3:((Int)×(Int)×Unit)→WP) (z4:(Int)×(Int)×Unit) w5=> ∀_:Nat→Value,
Aj (decide (z4.2.1<(r1.1.1.2.1:Int))) (
Ny r1.1.1.1 r1.1.1.2.1 z4.2.1 λa6=>
A8 Aab (a6.add (z4.2.1.toNat*3)) 0 w5 λx7=>
Bf Ao4 T.Dl w5 λp8 w9=>
Au (encs Aab x7) p8 0 w9 λw10=>
ld1 KI p8 w10 λx11=>
self3 (wrap .i64 (z4.1+x11),wrap .i64 (z4.2.1+1),()) w10) (
R ((z4.1,()),()) w5)) (0,0,()) w2
theorem Sj.ok{f0:Int}{w:World}{R:TR iT→WP}:Sj.wp f0 w R→Ae prog F.Qo [.iface T.Gp (.agg #[iV f0])] w false iT R:=
 oks Aa Tryz.func141 (hs 2 (.s (.s .n (.lp [(3,(.i .i64)),(9,(.i .i64))] .n)) .n))
def Rh.wp(f0 f1 f2:Int)(w:World)(R:TR iT→WP):Prop:=
Ae prog F.He [.agg #[iV f0,iV f1,iV f2]] w false dH λr1 w2=>
Ci (λ(self3:((Int)×(Int)×Unit)→WP) (z4:(Int)×(Int)×Unit) w5=> ∀_:Nat→Value,
Aj (decide (z4.2.1<(r1.1.1.2.1:Int))) (
Ny r1.1.1.1 r1.1.1.2.1 z4.2.1 λa6=>
A8 Aab (a6.add (z4.2.1.toNat*3)) 0 w5 λx7=>
Bf Ao4 T.Dl w5 λp8 w9=>
Au (encs Aab x7) p8 0 w9 λw10=>
ld1 KI p8 w10 λx11=>
self3 (wrap .i64 (z4.1+x11),wrap .i64 (z4.2.1+1),()) w10) (
R ((z4.1,()),()) w5)) (0,0,()) w2
theorem Rh.ok{f0 f1 f2:Int}{w:World}{R:TR iT→WP}:Rh.wp f0 f1 f2 w R→Ae prog F.Qo [.iface T.Ef (.agg #[iV f0,iV f1,iV f2])] w false iT R:=
 oks Aa Tryz.func141 (hs 2 (.s (.s .n (.lp [(3,(.i .i64)),(9,(.i .i64))] .n)) .n))
def Rf.wp(f0 f1 f2 f3 f4 f5 f6 f7:Int)(w:World)(R:TR iT→WP):Prop:=
Ae prog F.G7 [.agg #[iV f0,iV f1,iV f2,iV f3,iV f4,iV f5,uV f6,iV f7]] w false dH λr1 w2=>
Ci (λ(self3:((Int)×(Int)×Unit)→WP) (z4:(Int)×(Int)×Unit) w5=> ∀_:Nat→Value,
Aj (decide (z4.2.1<(r1.1.1.2.1:Int))) (
Ny r1.1.1.1 r1.1.1.2.1 z4.2.1 λa6=>
A8 Aab (a6.add (z4.2.1.toNat*3)) 0 w5 λx7=>
Bf Ao4 T.Dl w5 λp8 w9=>
Au (encs Aab x7) p8 0 w9 λw10=>
ld1 KI p8 w10 λx11=>
self3 (wrap .i64 (z4.1+x11),wrap .i64 (z4.2.1+1),()) w10) (
R ((z4.1,()),()) w5)) (0,0,()) w2
theorem Rf.ok{f0 f1 f2 f3 f4 f5 f6 f7:Int}{w:World}{R:TR iT→WP}:Rf.wp f0 f1 f2 f3 f4 f5 f6 f7 w R→Ae prog F.Qo [.iface T.Gl (.agg #[iV f0,iV f1,iV f2,iV f3,iV f4,iV f5,uV f6,iV f7])] w false iT R:=
 oks Aa Tryz.func141 (hs 2 (.s (.s .n (.lp [(3,(.i .i64)),(9,(.i .i64))] .n)) .n))
def Xy.wp(b:Option Addr×Nat×Nat)(w:World)(R:TR bF→WP):Prop:=
Aj (decide ((b.2.1:Int)<2)) (
R (((none,0,0),()),(false,()),()) w) (
Ae prog F.Rl [.slice b.1 b.2.1 b.2.2] w false Ar0 λr1 w2=>
Aj (r1.1.1 !=0) (
R (((none,0,0),()),(false,()),()) w2) (
sQ 0 (wrap .i64 ((b.2.1:Int)-2)) b.2.2 (
L9 ((Builtin.append_ #[T.Fh,T.Fh] T.Fh #[.slice none 0 0,.slice (dG b.1 b.2.2 (Int.toNat 0) 1) ((Int.toNat (wrap .i64 ((b.2.1:Int)-2)))-(Int.toNat 0)) (b.2.2-Int.toNat 0)]).run prog w2) λy3 w4=>
R (((y3.1,y3.2.1,y3.2.2),()),(true,()),()) w4)))
theorem Xy.ok{b:Option Addr×Nat×Nat}{w:World}{R:TR bF→WP}:Xy.wp b w R→Ae prog F.Xy [.slice b.1 b.2.1 b.2.2] w true bF R:=
 oks Aa Tryz.func142 .n
def Qq.wp(f0 f1 f2 f3 f4 f5:Int)(n:Option Addr×Nat×Nat)(w:World)(R:TR fC→WP):Prop:=
Bf [.slice n.1 n.2.1 n.2.2] T.Ux w λp1 w2=>
Ae prog F.Dp [iV 0,.pointer (some p1)] w2 false iT λr3 w4=>
Ae prog F.Po [iV 1,.pointer (some p1)] w4 false Ar0 λr5 w6=>
Ae prog F.Dp [iV 2,.pointer (some p1)] w6 false iT λr7 w8=>
Ae prog F.Po [iV 3,.pointer (some p1)] w8 false Ar0 λr9 w10=>
Ae prog F.Dp [iV 4,.pointer (some p1)] w10 false iT λr11 w12=>
Ae prog F.Dp [iV 5,.pointer (some p1)] w12 false iT λr13 w14=>
R ((.iface T.Bh (.agg #[iV r3.1.1,uV r5.1.1,iV r7.1.1,uV r9.1.1,iV r11.1.1,iV r13.1.1]),()),()) w14
theorem Qq.ok{f0 f1 f2 f3 f4 f5:Int}{n:Option Addr×Nat×Nat}{w:World}{R:TR fC→WP}:Qq.wp f0 f1 f2 f3 f4 f5 n w R→Ae prog F.Qn [.iface T.Bh (.agg #[iV f0,uV f1,iV f2,uV f3,iV f4,iV f5]),.slice n.1 n.2.1 n.2.2] w false fC R:=
 oks Aa Tryz.func143 .n
def Rj.wp(f0 f1 f2 f3 f4 f5:Int)(n:Option Addr×Nat×Nat)(w:World)(R:TR fC→WP):Prop:=
Bf [.slice n.1 n.2.1 n.2.2] T.Ux w λp1 w2=>
Ae prog F.Dp [iV 0,.pointer (some p1)] w2 false iT λr3 w4=>
Ae prog F.Dp [iV 1,.pointer (some p1)] w4 false iT λr5 w6=>
Ae prog F.Po [iV 2,.pointer (some p1)] w6 false Ar0 λr7 w8=>
Ae prog F.Po [iV 3,.pointer (some p1)] w8 false Ar0 λr9 w10=>
Ae prog F.Dp [iV 4,.pointer (some p1)] w10 false iT λr11 w12=>
Ae prog F.Dp [iV 5,.pointer (some p1)] w12 false iT λr13 w14=>
R ((.iface T.Dy (.agg #[iV r3.1.1,iV r5.1.1,uV r7.1.1,uV r9.1.1,iV r11.1.1,iV r13.1.1]),()),()) w14
theorem Rj.ok{f0 f1 f2 f3 f4 f5:Int}{n:Option Addr×Nat×Nat}{w:World}{R:TR fC→WP}:Rj.wp f0 f1 f2 f3 f4 f5 n w R→Ae prog F.Qn [.iface T.Dy (.agg #[iV f0,iV f1,uV f2,uV f3,iV f4,iV f5]),.slice n.1 n.2.1 n.2.2] w false fC R:=
 oks Aa Tryz.func143 .n
def Rz.wp(f0 f1:Int)(n:Option Addr×Nat×Nat)(w:World)(R:TR fC→WP):Prop:=
Bf [.slice n.1 n.2.1 n.2.2] T.Ux w λp1 w2=>
Ae prog F.Dp [iV 0,.pointer (some p1)] w2 false iT λr3 w4=>
Ae prog F.Dp [iV 1,.pointer (some p1)] w4 false iT λr5 w6=>
R ((.iface T.Gj (.agg #[iV r3.1.1,iV r5.1.1]),()),()) w6
theorem Rz.ok{f0 f1:Int}{n:Option Addr×Nat×Nat}{w:World}{R:TR fC→WP}:Rz.wp f0 f1 n w R→Ae prog F.Qn [.iface T.Gj (.agg #[iV f0,iV f1]),.slice n.1 n.2.1 n.2.2] w false fC R:=
 oks Aa Tryz.func143 .n
def Ro.wp(f0:Int)(n:Option Addr×Nat×Nat)(w:World)(R:TR fC→WP):Prop:=
Bf [.slice n.1 n.2.1 n.2.2] T.Ux w λp1 w2=>
Ae prog F.Dp [iV 0,.pointer (some p1)] w2 false iT λr3 w4=>
R ((.iface T.Gp (.agg #[iV r3.1.1]),()),()) w4
theorem Ro.ok{f0:Int}{n:Option Addr×Nat×Nat}{w:World}{R:TR fC→WP}:Ro.wp f0 n w R→Ae prog F.Qn [.iface T.Gp (.agg #[iV f0]),.slice n.1 n.2.1 n.2.2] w false fC R:=
 oks Aa Tryz.func143 .n
def Ko.wp(f0 f1 f2:Int)(n:Option Addr×Nat×Nat)(w:World)(R:TR fC→WP):Prop:=
Bf [.slice n.1 n.2.1 n.2.2] T.Ux w λp1 w2=>
Ae prog F.Dp [iV 0,.pointer (some p1)] w2 false iT λr3 w4=>
Ae prog F.Dp [iV 1,.pointer (some p1)] w4 false iT λr5 w6=>
Ae prog F.Dp [iV 2,.pointer (some p1)] w6 false iT λr7 w8=>
R ((.iface T.Ef (.agg #[iV r3.1.1,iV r5.1.1,iV r7.1.1]),()),()) w8
theorem Ko.ok{f0 f1 f2:Int}{n:Option Addr×Nat×Nat}{w:World}{R:TR fC→WP}:Ko.wp f0 f1 f2 n w R→Ae prog F.Qn [.iface T.Ef (.agg #[iV f0,iV f1,iV f2]),.slice n.1 n.2.1 n.2.2] w false fC R:=
 oks Aa Tryz.func143 .n
def Qz.wp(f0 f1 f2 f3 f4 f5 f6 f7:Int)(n:Option Addr×Nat×Nat)(w:World)(R:TR fC→WP):Prop:=
Bf [.slice n.1 n.2.1 n.2.2] T.Ux w λp1 w2=>
Ae prog F.Dp [iV 0,.pointer (some p1)] w2 false iT λr3 w4=>
Ae prog F.Dp [iV 1,.pointer (some p1)] w4 false iT λr5 w6=>
Ae prog F.Dp [iV 2,.pointer (some p1)] w6 false iT λr7 w8=>
Ae prog F.Dp [iV 3,.pointer (some p1)] w8 false iT λr9 w10=>
Ae prog F.Dp [iV 4,.pointer (some p1)] w10 false iT λr11 w12=>
Ae prog F.Dp [iV 5,.pointer (some p1)] w12 false iT λr13 w14=>
Ae prog F.Po [iV 6,.pointer (some p1)] w14 false Ar0 λZb w16=>
Ae prog F.Dp [iV 7,.pointer (some p1)] w16 false iT λr17 w18=>
R ((.iface T.Gl (.agg #[iV r3.1.1,iV r5.1.1,iV r7.1.1,iV r9.1.1,iV r11.1.1,iV r13.1.1,uV Zb.1.1,iV r17.1.1]),()),()) w18
theorem Qz.ok{f0 f1 f2 f3 f4 f5 f6 f7:Int}{n:Option Addr×Nat×Nat}{w:World}{R:TR fC→WP}:Qz.wp f0 f1 f2 f3 f4 f5 f6 f7 n w R→Ae prog F.Qn [.iface T.Gl (.agg #[iV f0,iV f1,iV f2,iV f3,iV f4,iV f5,uV f6,iV f7]),.slice n.1 n.2.1 n.2.2] w false fC R:=
 oks Aa Tryz.func143 .n
def Ej.wp(f0 f1 f2 f3 f4 f5:Int)(w:World)(R:TR r0'→WP):Prop:=
Ae prog F.Fa [.iface T.Bh (.agg #[iV f0,uV f1,iV f2,uV f3,iV f4,iV f5])] w false uH λr1 w2=>
Aj (r1.1.1==0) (
R ((false,()),()) w2) (
Ae prog F.Dt [.agg #[iV f0,uV f1,iV f2,uV f3,iV f4,iV f5]] w2 false dH λr3 w4=>
Ci (λ(self5:((Int)×Unit)→WP) (z6:(Int)×Unit) w7=> ∀_:Nat→Value,
Aj (decide (z6.1<(r3.1.1.2.1:Int))) (
Ny r3.1.1.1 r3.1.1.2.1 z6.1 λa8=>
A8 Aab (a8.add (z6.1.toNat*3)) 0 w7 λx9=>
Bf Ao4 T.Dl w7 λp10 w11=>
Au (encs Aab x9) p10 0 w11 λw12=>
ld1 KI (p10.add 1) w12 λx13=>
Aj (decide (x13<0)) (
R ((false,()),()) w12) (
ld1 KI (p10.add 1) w12 λx14=>
ld1 KI (p10.add 2) w12 λx15=>
Aj (decide (x14>x15)) (
R ((false,()),()) w12) (
self5 (wrap .i64 (z6.1+1),()) w12))) (
R ((true,()),()) w7)) (0,()) w4)
theorem Ej.ok{f0 f1 f2 f3 f4 f5:Int}{w:World}{R:TR r0'→WP}:Ej.wp f0 f1 f2 f3 f4 f5 w R→Ae prog F.Ew [.iface T.Bh (.agg #[iV f0,uV f1,iV f2,uV f3,iV f4,iV f5])] w false r0' R:=
 oks Aa Tryz.func144 (hs 2 (.s (.s .n (.lp [(11,(.i .i64))] .n)) .n))
def Fp.wp(f0 f1 f2 f3 f4 f5:Int)(w:World)(R:TR r0'→WP):Prop:=
Ae prog F.Fa [.iface T.Dy (.agg #[iV f0,iV f1,uV f2,uV f3,iV f4,iV f5])] w false uH λr1 w2=>
Aj (r1.1.1==0) (
R ((false,()),()) w2) (
Ae prog F.Dh [.agg #[iV f0,iV f1,uV f2,uV f3,iV f4,iV f5]] w2 false dH λr3 w4=>
Ci (λ(self5:((Int)×Unit)→WP) (z6:(Int)×Unit) w7=> ∀_:Nat→Value,
Aj (decide (z6.1<(r3.1.1.2.1:Int))) (
Ny r3.1.1.1 r3.1.1.2.1 z6.1 λa8=>
A8 Aab (a8.add (z6.1.toNat*3)) 0 w7 λx9=>
Bf Ao4 T.Dl w7 λp10 w11=>
Au (encs Aab x9) p10 0 w11 λw12=>
ld1 KI (p10.add 1) w12 λx13=>
Aj (decide (x13<0)) (
R ((false,()),()) w12) (
ld1 KI (p10.add 1) w12 λx14=>
ld1 KI (p10.add 2) w12 λx15=>
Aj (decide (x14>x15)) (
R ((false,()),()) w12) (
self5 (wrap .i64 (z6.1+1),()) w12))) (
R ((true,()),()) w7)) (0,()) w4)
theorem Fp.ok{f0 f1 f2 f3 f4 f5:Int}{w:World}{R:TR r0'→WP}:Fp.wp f0 f1 f2 f3 f4 f5 w R→Ae prog F.Ew [.iface T.Dy (.agg #[iV f0,iV f1,uV f2,uV f3,iV f4,iV f5])] w false r0' R:=
 oks Aa Tryz.func144 (hs 2 (.s (.s .n (.lp [(11,(.i .i64))] .n)) .n))
def Rw.wp(f0 f1:Int)(w:World)(R:TR r0'→WP):Prop:=
Ae prog F.Fa [.iface T.Gj (.agg #[iV f0,iV f1])] w false uH λr1 w2=>
Aj (r1.1.1==0) (
R ((false,()),()) w2) (
Ae prog F.Ic [.agg #[iV f0,iV f1]] w2 false dH λr3 w4=>
Ci (λ(self5:((Int)×Unit)→WP) (z6:(Int)×Unit) w7=> ∀_:Nat→Value,
Aj (decide (z6.1<(r3.1.1.2.1:Int))) (
Ny r3.1.1.1 r3.1.1.2.1 z6.1 λa8=>
A8 Aab (a8.add (z6.1.toNat*3)) 0 w7 λx9=>
Bf Ao4 T.Dl w7 λp10 w11=>
Au (encs Aab x9) p10 0 w11 λw12=>
ld1 KI (p10.add 1) w12 λx13=>
Aj (decide (x13<0)) (
R ((false,()),()) w12) (
ld1 KI (p10.add 1) w12 λx14=>
ld1 KI (p10.add 2) w12 λx15=>
Aj (decide (x14>x15)) (
R ((false,()),()) w12) (
self5 (wrap .i64 (z6.1+1),()) w12))) (
R ((true,()),()) w7)) (0,()) w4)
theorem Rw.ok{f0 f1:Int}{w:World}{R:TR r0'→WP}:Rw.wp f0 f1 w R→Ae prog F.Ew [.iface T.Gj (.agg #[iV f0,iV f1])] w false r0' R:=
 oks Aa Tryz.func144 (hs 2 (.s (.s .n (.lp [(11,(.i .i64))] .n)) .n))
def Gq.wp(f0:Int)(w:World)(R:TR r0'→WP):Prop:=
Ae prog F.Fa [.iface T.Gp (.agg #[iV f0])] w false uH λr1 w2=>
Aj (r1.1.1==0) (
R ((false,()),()) w2) (
Ae prog F.D8 [.agg #[iV f0]] w2 false dH λr3 w4=>
Ci (λ(self5:((Int)×Unit)→WP) (z6:(Int)×Unit) w7=> ∀_:Nat→Value,
Aj (decide (z6.1<(r3.1.1.2.1:Int))) (
Ny r3.1.1.1 r3.1.1.2.1 z6.1 λa8=>
A8 Aab (a8.add (z6.1.toNat*3)) 0 w7 λx9=>
Bf Ao4 T.Dl w7 λp10 w11=>
Au (encs Aab x9) p10 0 w11 λw12=>
ld1 KI (p10.add 1) w12 λx13=>
Aj (decide (x13<0)) (
R ((false,()),()) w12) (
ld1 KI (p10.add 1) w12 λx14=>
ld1 KI (p10.add 2) w12 λx15=>
Aj (decide (x14>x15)) (
R ((false,()),()) w12) (
self5 (wrap .i64 (z6.1+1),()) w12))) (
R ((true,()),()) w7)) (0,()) w4)
theorem Gq.ok{f0:Int}{w:World}{R:TR r0'→WP}:Gq.wp f0 w R→Ae prog F.Ew [.iface T.Gp (.agg #[iV f0])] w false r0' R:=
 oks Aa Tryz.func144 (hs 2 (.s (.s .n (.lp [(11,(.i .i64))] .n)) .n))
def Qx.wp(f0 f1 f2:Int)(w:World)(R:TR r0'→WP):Prop:=
Ae prog F.Fa [.iface T.Ef (.agg #[iV f0,iV f1,iV f2])] w false uH λr1 w2=>
Aj (r1.1.1==0) (
R ((false,()),()) w2) (
Ae prog F.He [.agg #[iV f0,iV f1,iV f2]] w2 false dH λr3 w4=>
Ci (λ(self5:((Int)×Unit)→WP) (z6:(Int)×Unit) w7=> ∀_:Nat→Value,
Aj (decide (z6.1<(r3.1.1.2.1:Int))) (
Ny r3.1.1.1 r3.1.1.2.1 z6.1 λa8=>
A8 Aab (a8.add (z6.1.toNat*3)) 0 w7 λx9=>
Bf Ao4 T.Dl w7 λp10 w11=>
Au (encs Aab x9) p10 0 w11 λw12=>
ld1 KI (p10.add 1) w12 λx13=>
Aj (decide (x13<0)) (
R ((false,()),()) w12) (
ld1 KI (p10.add 1) w12 λx14=>
ld1 KI (p10.add 2) w12 λx15=>
Aj (decide (x14>x15)) (
R ((false,()),()) w12) (
self5 (wrap .i64 (z6.1+1),()) w12))) (
R ((true,()),()) w7)) (0,()) w4)
theorem Qx.ok{f0 f1 f2:Int}{w:World}{R:TR r0'→WP}:Qx.wp f0 f1 f2 w R→Ae prog F.Ew [.iface T.Ef (.agg #[iV f0,iV f1,iV f2])] w false r0' R:=
 oks Aa Tryz.func144 (hs 2 (.s (.s .n (.lp [(11,(.i .i64))] .n)) .n))
def Qy.wp(f0 f1 f2 f3 f4 f5 f6 f7:Int)(w:World)(R:TR r0'→WP):Prop:=
Ae prog F.Fa [.iface T.Gl (.agg #[iV f0,iV f1,iV f2,iV f3,iV f4,iV f5,uV f6,iV f7])] w false uH λr1 w2=>
Aj (r1.1.1==0) (
R ((false,()),()) w2) (
Ae prog F.G7 [.agg #[iV f0,iV f1,iV f2,iV f3,iV f4,iV f5,uV f6,iV f7]] w2 false dH λr3 w4=>
Ci (λ(self5:((Int)×Unit)→WP) (z6:(Int)×Unit) w7=> ∀_:Nat→Value,
Aj (decide (z6.1<(r3.1.1.2.1:Int))) (
Ny r3.1.1.1 r3.1.1.2.1 z6.1 λa8=>
A8 Aab (a8.add (z6.1.toNat*3)) 0 w7 λx9=>
Bf Ao4 T.Dl w7 λp10 w11=>
Au (encs Aab x9) p10 0 w11 λw12=>
ld1 KI (p10.add 1) w12 λx13=>
Aj (decide (x13<0)) (
R ((false,()),()) w12) (
ld1 KI (p10.add 1) w12 λx14=>
ld1 KI (p10.add 2) w12 λx15=>
Aj (decide (x14>x15)) (
R ((false,()),()) w12) (
self5 (wrap .i64 (z6.1+1),()) w12))) (
R ((true,()),()) w7)) (0,()) w4)
theorem Qy.ok{f0 f1 f2 f3 f4 f5 f6 f7:Int}{w:World}{R:TR r0'→WP}:Qy.wp f0 f1 f2 f3 f4 f5 f6 f7 w R→Ae prog F.Ew [.iface T.Gl (.agg #[iV f0,iV f1,iV f2,iV f3,iV f4,iV f5,uV f6,iV f7])] w false r0' R:=
 oks Aa Tryz.func144 (hs 2 (.s (.s .n (.lp [(11,(.i .i64))] .n)) .n))
def Qk.wp(l:Option Addr)(label:ByteArray)(local_ when0 when1 when2 when3 when4:Int)(w:World)(R:TR xB→WP):Prop:=
Bf [iV when0,iV when1,iV when2,uV when3,iV when4] T.Bg w λp1 w2=>
Aj (Option.isNone l) (
R ((0,()),(2,()),()) w2) (
Ae prog F.Vo [.string label] w2 false r0' λr3 w4=>
Aj (!r3.1.1) (
R ((0,()),(1,()),()) w4) (
Jg w4 λw5=>
Aq l λa6=>
ld1 .p a6 w5 λx7=>
Aq l λa8=>
ld1 KI (a8.add 1) w5 λx9=>
A8 Tu p1 0 w5 λx10=>
Ae prog F.Dz [.pointer x7,.agg #[iV (wrap .i64 (x9+1)),.string label,iV local_,iV x10.1,iV x10.2.1,iV x10.2.2.1,uV x10.2.2.2.1,iV x10.2.2.2.2.1]] w5 false iT λr11 w12=>
A7 [hd 11 (p1.add 0) w5,hd 11 (p1.add 1) w5,hd 11 (p1.add 2) w5,hd 11 (p1.add 3) w5,hd 11 (p1.add 4) w5,hd 7 (a8.add 1) w5] w12∧(
Aj (r11.1.1 !=0) (
R ((0,()),(r11.1.1,()),()) w12) (
Aq l λa13=>
ld1 KI (a13.add 1) w12 λx14=>
Aq l λa15=>
Au [iV (wrap .i64 (x14+1))] (a15.add 1) 0 w12 λw16=>
Aq l λa17=>
ld1 KI (a17.add 1) w16 λx18=>
R ((x18,()),(0,()),()) w16))))
theorem Qk.ok{l:Option Addr}{label:ByteArray}{local_ when0 when1 when2 when3 when4:Int}{w:World}{R:TR xB→WP}:Qk.wp l label local_ when0 when1 when2 when3 when4 w R→Ae prog F.Qk [.pointer l,.string label,iV local_,.agg #[iV when0,iV when1,iV when2,uV when3,iV when4]] w true xB R:=
 oks Aa Tryz.func146 (hs 2 (.s (.s (.pl (ks [0,1,2,3,4,5,6,7,8,9,10,11,12] (.ef 13 [3] (.tk 14 .z)))) .n) .n))
def Ou.wp(l:Option Addr)(w:World)(R:TR Us→WP):Prop:=
Bf z8' T.U1 w λp1 w2=>
Aj (Option.isNone l) (
Au z8' p1 0 w2 λw3=>
A8 Ig p1 0 w3 λx4=>
R (x4,(false,()),()) w3) (
Aq l λa5=>
ld1 .p a5 w2 λx6=>
Ae prog F.Eb [.pointer x6] w2 true Us λr7 w8=>
Au (encs Ig r7.1) p1 0 w8 λw9=>
A8 Ig p1 0 w9 λx10=>
R (x10,(r7.2.1.1,()),()) w9)
theorem Ou.ok{l:Option Addr}{w:World}{R:TR Us→WP}:Ou.wp l w R→Ae prog F.Ou [.pointer l] w true Us R:=
 oks Aa Tryz.func147 .n
def oQ.wp(b t:Option Addr)(w_0 w_1 time:Int)(w:World)(R:TR Aa9→WP):Prop:=
Bf [iV w_0,uV w_1] T.lK w λp1 w2=>
Bf Vy T.Ajc w2 λp3 w4=>
A8 [KI,KU] p1 0 w4 λx5=>
Ae prog F.Qw [.pointer b,.agg #[iV x5.1,uV x5.2.1],iV time] w4 true Akn λr6 w7=>
Bf [iV 0,iV 0] T.uF w7 λp8 w9=>
Au [iV r6.1.1,iV r6.1.2.1] p8 0 w9 λw10=>
Aj (r6.2.1.1 !=0) (
Au Vy p3 0 w10 λw11=>
A8 fH p3 0 w11 λx12=>
R (x12,(0,()),(r6.2.1.1,()),()) w11) (
ld1 KI p8 w10 λx13=>
Ae prog F.Adc [.pointer t,iV x13] w10 true kZ λr14 w15=>
Bf Vy T.Ajc w15 λp16 w17=>
Au (encs fH r14.1) p16 0 w17 λw18=>
Aj (r14.2.1.1 !=0) (
Au Vy p3 0 w18 λw19=>
A8 fH p3 0 w19 λx20=>
R (x20,(0,()),(r14.2.1.1,()),()) w19) (
Jg w18 λw21=>
A8 fH p16 0 w21 λx22=>
ld1 KI (p8.add 1) w21 λx23=>
Au (encs fH x22) p3 0 w21 λw24=>
A7 [hd 2 (p8.add 1) w21] w24∧(
A8 fH p3 0 w24 λx25=>
R (x25,(x23,()),(0,()),()) w24)))
theorem oQ.ok{b t:Option Addr}{w_0 w_1 time:Int}{w:World}{R:TR Aa9→WP}:oQ.wp b t w_0 w_1 time w R→Ae prog F.oQ [.pointer b,.pointer t,.agg #[iV w_0,uV w_1],iV time] w true Aa9 R:=
 oks Aa Tryz.func148 (hs 5 (.s (.pl (ks [0,1,2] (.ef 3 [0] (.tk 4 (.tk 5 .z))))) .n))
def Ae5.wp(n:Int)(w:World)(R:TR r0'→WP):Prop:=
Aj (decide (n≥(Int.negSucc 719161))) (
R ((decide (n≤2932896),()),()) w) (
R ((false,()),()) w)
theorem Ae5.ok{n:Int}{w:World}{R:TR r0'→WP}:Ae5.wp n w R→Ae prog F.Ae5 [iV n] w false r0' R:=
 oks Aa Tryz.func152 .n
def Tf.wp(s:Option Addr×Nat×Nat)(w:World)(R:TR r0'→WP):Prop:=
Ae prog F.rP [.slice s.1 s.2.1 s.2.2,.func (.func F.dJ) #[] #[]] w false iT λr1 w2=>
R ((decide (r1.1.1≥0),()),()) w2
theorem Tf.ok{s:Option Addr×Nat×Nat}{w:World}{R:TR r0'→WP}:Tf.wp s w R→Ae prog F.lI [.slice s.1 s.2.1 s.2.2,.func (.func F.dJ) #[] #[]] w false r0' R:=
 oks Aa Tryz.func153 .n
def dJ.wp(l0 l1:Int)(w:World)(R:TR r0'→WP):Prop:=
Bf [iV l0,iV l1] T.Ags w λp1 w2=>
ld1 KI (p1.add 1) w2 λx3=>
Aj (x3 !=1) (
ld1 KI (p1.add 1) w2 λx4=>
R (((x4 !=(Int.negSucc 0)),()),()) w2) (
R ((false,()),()) w2)
theorem dJ.ok{l0 l1:Int}{w:World}{R:TR r0'→WP}:dJ.wp l0 l1 w R→Ae prog F.dJ [.agg #[iV l0,iV l1]] w false r0' R:=
 oks Aa Tryz.func154 .n
def Kq.wp(s:Option Addr×Nat×Nat)(w:World)(R:TR dH→WP):Prop:=
Aj (Option.isNone s.1) (
R (((none,0,0),()),()) w) (
Bf [] T.Ags w λp1 w2=>
L9 ((Builtin.append_ #[T.Aen,T.Aen] T.Aen #[.slice (some p1) 0 0,.slice s.1 s.2.1 s.2.2]).run prog w2) λy3 w4=>
R (((y3.1,y3.2.1,y3.2.2),()),()) w4)
theorem Kq.ok{s:Option Addr×Nat×Nat}{w:World}{R:TR dH→WP}:Kq.wp s w R→Ae prog F.Kq [.slice s.1 s.2.1 s.2.2] w false dH R:=
 oks Aa Tryz.func155 .n
def Oi.wp(a b:Int)(w:World)(R:TR Aix→WP):Prop:=
Aj (decide (b<1)) (
R ((0,()),(0,()),(false,()),()) w) (
Jg w λw1=>
dF b (
dF b (
Aj (decide ((Int.tmod a b)<0)) (
R ((wrap .i64 ((wrap .i64 (Int.tdiv a b))-1),()),(wrap .i64 ((Int.tmod a b)+b),()),(true,()),()) w1) (
R ((wrap .i64 (Int.tdiv a b),()),(Int.tmod a b,()),(true,()),()) w1))))
theorem Oi.ok{a b:Int}{w:World}{R:TR Aix→WP}:Oi.wp a b w R→Ae prog F.Oi [iV a,iV b] w true Aix R:=
 oks Aa Tryz.func176 (hs 2 (.s (.pl (ks [0,1,2,3,4,5,6,7] .z)) .n))
def Ae6.wp(t:Option Addr)(d:Int)(w:World)(R:TR fE→WP):Prop:=
Ae prog F.aF [.pointer t,iV d] w true fE λr1 w2=>
R ((wrap .i64 ((wrap .i64 (86400*d))+r1.1.1),()),(r1.2.1.1,()),()) w2
theorem Ae6.ok{t:Option Addr}{d:Int}{w:World}{R:TR fE→WP}:Ae6.wp t d w R→Ae prog F.Ae6 [.pointer t,iV d] w true fE R:=
 oks Aa Tryz.func177 .n
def rE.wp(t:Option Addr)(day:Int)(w:World)(R:TR iT→WP):Prop:=
Bf [.pointer t] T.Aq0 w λp1 w2=>
Bf [iV day] T.int w2 λp3 w4=>
ld1 .p p1 w4 λx5=>
Aj (Option.isNone x5) (
R ((0,()),()) w4) (
ld1 .p p1 w4 λx6=>
Aq x6 λa7=>
ld1 .sl (a7.add 3) w4 λx8=>
Ae prog F.sort_Search [iV (x8.2.1:Int),.func (.func F.aA) #[] #[.pointer (some p1),.pointer (some p3)]] w4 false iT λr9 w10=>
Cc (λ(J11:((Bool)×Unit)→WP)=>
Jg w10 λw14=>
ld1 .p p1 w14 λx15=>
Aq x15 λa16=>
ld1 .sl (a16.add 3) w14 λx17=>
Aj (decide (r9.1.1<(x17.2.1:Int))) (
ld1 .p p1 w14 λx18=>
Aq x18 λa19=>
ld1 .sl (a19.add 3) w14 λx20=>
Ny x20.1 x20.2.1 r9.1.1 λa21=>
ld1 KI (a21.add (r9.1.1.toNat*2)) w14 λx22=>
ld1 KI p3 w14 λx23=>
J11 ((x22==x23),()) w14) (
J11 (false,()) w14)) (λ(z12:(Bool)×Unit) w13=> ∀_:Nat→Value,
Aj z12.1 (
ld1 .p p1 w13 λx24=>
Aq x24 λa25=>
ld1 .sl (a25.add 3) w13 λx26=>
Ny x26.1 x26.2.1 r9.1.1 λa27=>
ld1 KI ((a27.add (r9.1.1.toNat*2)).add 1) w13 λx28=>
R ((x28,()),()) w13) (
R ((0,()),()) w13)))
theorem rE.ok{t:Option Addr}{day:Int}{w:World}{R:TR iT→WP}:rE.wp t day w R→Ae prog F.rE [.pointer t,iV day] w false iT R:=
 oks Aa Tryz.func178 (hs 3 (.s (.ct [(33,.b)] (.pl (ks [0,1,2,3,4,5,6,7,8,9,10,11,12,13,14,15,16,17,18] .z)) .n) .n))
def Ajk.wp(d s:Int)(w:World)(R:TR Amg→WP):Prop:=
Bf Vy T.Ajc w λp1 w2=>
Ae prog F.Ahn [iV d] w2 true Aar λr3 w4=>
Bf Ao4 T.An9 w4 λp5 w6=>
Au (encs Aab r3.1) p5 0 w6 λw7=>
Aj (decide (s≥86400)) (
A8 Aab p5 0 w7 λx8=>
Au [iV x8.1,iV x8.2.1,iV x8.2.2.1,iV 23,iV 59,iV (wrap .i64 ((wrap .i64 ((wrap .i64 (59+s))-86400))+1))] p1 0 w7 λw9=>
A8 fH p1 0 w9 λx10=>
R (x10,()) w9) (
A8 Aab p5 0 w7 λx11=>
dF 3600 (
dF 60 (
dF 60 (
dF 60 (
Au [iV x11.1,iV x11.2.1,iV x11.2.2.1,iV (wrap .i64 (Int.tdiv s 3600)),iV (Int.tmod (wrap .i64 (Int.tdiv s 60)) 60),iV (Int.tmod s 60)] p1 0 w7 λw12=>
A8 fH p1 0 w12 λx13=>
R (x13,()) w12)))))
theorem Ajk.ok{d s:Int}{w:World}{R:TR Amg→WP}:Ajk.wp d s w R→Ae prog F.Ajk [iV d,iV s] w false Amg R:=
 oks Aa Tryz.func179 .n
def Ve.wp(me timeout ignore:Int)(w:World)(R:TR r0'→WP):Prop:=
Aj (decide (me≥0)) (
Aj (decide (me<64)) (
Aj (decide (timeout≥1)) (
Aj (decide (timeout≤1000)) (
Aj (decide (ignore≥0)) (
R ((decide (ignore≤1000),()),()) w) (
R ((false,()),()) w)) (
R ((false,()),()) w)) (
R ((false,()),()) w)) (
R ((false,()),()) w)) (
R ((false,()),()) w)
theorem Ve.ok{me timeout ignore:Int}{w:World}{R:TR r0'→WP}:Ve.wp me timeout ignore w R→Ae prog F.Ve [iV me,iV timeout,iV ignore] w false r0' R:=
 oks Aa Tryz.func180 .n
def Hu.wp(r0 r1 r2 r3:Int)(w:World)(R:TR r0'→WP):Prop:=
Bf [iV r0,iV r1,iV r2,iV r3] T.fQ w λp1 w2=>
A8 [KI,KI] p1 0 w2 λx3=>
Ae prog F.Hq [.agg #[iV x3.1,iV x3.2.1]] w2 false r0' λr4 w5=>
Aj r4.1.1 (
ld1 KI (p1.add 2) w5 λx6=>
Aj (decide (x6≥1)) (
ld1 KI (p1.add 2) w5 λx7=>
Aj (decide (x7≤8)) (
ld1 KI (p1.add 3) w5 λx8=>
Aj (decide (x8≥0)) (
ld1 KI (p1.add 3) w5 λx9=>
R ((decide (x9≤10),()),()) w5) (
R ((false,()),()) w5)) (
R ((false,()),()) w5)) (
R ((false,()),()) w5)) (
R ((false,()),()) w5)
theorem Hu.ok{r0 r1 r2 r3:Int}{w:World}{R:TR r0'→WP}:Hu.wp r0 r1 r2 r3 w R→Ae prog F.Hu [.agg #[iV r0,iV r1,iV r2,iV r3]] w false r0' R:=
 oks Aa Tryz.func181 .n
def Ie.wp(p0 p1 p2:Int)(w:World)(R:TR r0'→WP):Prop:=
Bf [iV p0,iV p1,iV p2] T.bU w λp3 w4=>
ld1 KI p3 w4 λx5=>
Aj (decide (x5≥1)) (
ld1 KI p3 w4 λx6=>
Aj (decide (x6≤64)) (
ld1 KI (p3.add 1) w4 λx7=>
Aj (decide (x7≥1)) (
ld1 KI (p3.add 1) w4 λx8=>
ld1 KI p3 w4 λx9=>
Aj (decide (x8≤x9)) (
ld1 KI (p3.add 2) w4 λx10=>
Aj (decide (x10≥0)) (
ld1 KI (p3.add 2) w4 λx11=>
ld1 KI p3 w4 λx12=>
R ((decide (x11<x12),()),()) w4) (
R ((false,()),()) w4)) (
R ((false,()),()) w4)) (
R ((false,()),()) w4)) (
R ((false,()),()) w4)) (
R ((false,()),()) w4)
theorem Ie.ok{p0 p1 p2:Int}{w:World}{R:TR r0'→WP}:Ie.wp p0 p1 p2 w R→Ae prog F.Ie [.agg #[iV p0,iV p1,iV p2]] w false r0' R:=
 oks Aa Tryz.func182 .n
def Gt.wp(room:Int)(w:World)(R:TR r2'→WP):Prop:=
Aj (decide (room<1)) (
R ((none,()),(1,()),()) w) (
Aj (decide (room>64)) (
R ((none,()),(1,()),()) w) (
L9 ((Instr.makeSlice T.Yo (iV room) (iV room)).run prog w) λy1 w2=>
Bf [.slice y1.1 y1.2.1 y1.2.2,iV 0,iV 0] T.fB w2 λp3 w4=>
R ((some p3,()),(0,()),()) w4))
theorem Gt.ok{room:Int}{w:World}{R:TR r2'→WP}:Gt.wp room w R→Ae prog F.Gt [iV room] w true r2' R:=
 oks Aa Tryz.func183 .n
def Wv.wp(me r0 r1:Int)(w:World)(R:TR r2'→WP):Prop:=
Bf [iV r0,iV r1] T.nU w λp1 w2=>
Aj (decide (me<0)) (
R ((none,()),(1,()),()) w2) (
Aj (decide (me≥64)) (
R ((none,()),(1,()),()) w2) (
A8 [KI,KI] p1 0 w2 λx3=>
Ae prog F.Hq [.agg #[iV x3.1,iV x3.2.1]] w2 false r0' λr4 w5=>
Aj (!r4.1.1) (
R ((none,()),(1,()),()) w5) (
A8 [KI,KI] p1 0 w5 λx6=>
Bf [iV me,iV x6.1,iV x6.2.1,uV 0,uV 0,iV 0,iV 0,iV 0,.map none] T.Aaw w5 λp7 w8=>
Ae prog F.Hr [.pointer (some p7),uV 0] w8 true [] λr9 w10=>
R ((some p7,()),(0,()),()) w10)))
theorem Wv.ok{me r0 r1:Int}{w:World}{R:TR r2'→WP}:Wv.wp me r0 r1 w R→Ae prog F.Wv [iV me,.agg #[iV r0,iV r1]] w true r2' R:=
 oks Aa Tryz.func184 .n
def Dk.wp(t:Option Addr)(w:World)(R:TR iT→WP):Prop:=
Aj (Option.isNone t) (
R ((0,()),()) w) (
Aq t λa1=>
ld1 .sl a1 w λx2=>
R (((x2.2.1:Int),()),()) w)
theorem Dk.ok{t:Option Addr}{w:World}{R:TR iT→WP}:Dk.wp t w R→Ae prog F.Dk [.pointer t] w false iT R:=
 oks Aa Tryz.func185 .n
def Dj.wp(r:Option Addr)(w:World)(R:TR iT→WP):Prop:=
Aj (Option.isNone r) (
R ((0,()),()) w) (
Aq r λa1=>
ld1 KI (a1.add 2) w λx2=>
R ((x2,()),()) w)
theorem Dj.ok{r:Option Addr}{w:World}{R:TR iT→WP}:Dj.wp r w R→Ae prog F.Dj [.pointer r] w false iT R:=
 oks Aa Tryz.func186 .n
def Ep.wp(l:Option Addr)(i:Int)(w:World)(R:TR r0'→WP):Prop:=
Aj (decide (i≥0)) (
Ae prog F.Fb [.pointer l] w false iT λr1 w2=>
R ((decide (i<r1.1.1),()),()) w2) (
R ((false,()),()) w)
theorem Ep.ok{l:Option Addr}{i:Int}{w:World}{R:TR r0'→WP}:Ep.wp l i w R→Ae prog F.Ep [.pointer l,iV i] w false r0' R:=
 oks Aa Tryz.func187 .n
def Iq.wp(c:Option Addr)(ticks:Int)(w:World)(R:TR r0'→WP):Prop:=
Aj (!(Option.isNone c)) (
Aq c λa1=>
ld1 KI a1 w λx2=>
Aj (decide (ticks≥(wrap .i64 (1000-x2)))) (
Aq c λa3=>
ld1 KI a3 w λx4=>
R ((decide (ticks≤(wrap .i64 (1000+x4))),()),()) w) (
R ((false,()),()) w)) (
R ((false,()),()) w)
theorem Iq.ok{c:Option Addr}{ticks:Int}{w:World}{R:TR r0'→WP}:Iq.wp c ticks w R→Ae prog F.Iq [.pointer c,iV ticks] w false r0' R:=
 oks Aa Tryz.func188 .n
def Ug.wp(last raw:Int)(w:World)(R:TR fE→WP):Prop:=
Aj (decide (last<0)) (
R ((0,()),(false,()),()) w) (
Aj (decide (last>1125899906842624)) (
R ((0,()),(false,()),()) w) (
Aj (decide ((wrap .i64 (last+(wrap .i64 (wrap .u32 (raw-(wrap .u32 last))))))>1125899906842624)) (
R ((0,()),(false,()),()) w) (
R ((wrap .i64 (last+(wrap .i64 (wrap .u32 (raw-(wrap .u32 last))))),()),(true,()),()) w)))
theorem Ug.ok{last raw:Int}{w:World}{R:TR fE→WP}:Ug.wp last raw w R→Ae prog F.Ug [iV last,.int .u32 raw] w true fE R:=
 oks Aa Tryz.func189 .n
def Om.wp(p0 p1 p2 step:Int)(w:World)(R:TR r0'→WP):Prop:=
Bf [iV p0,iV p1,iV p2] T.bU w λp3 w4=>
Jg w4 λw5=>
A8 Aab p3 0 w5 λx6=>
Ae prog F.Ie [Sv Aab x6] w5 false r0' λr7 w8=>
A7 [] w8∧(
Aj r7.1.1 (
Aj (decide (step≥0)) (
ld1 KI p3 w8 λx9=>
dF x9 (
ld1 KI (p3.add 2) w8 λx10=>
R ((((Int.tmod step x9)==x10),()),()) w8)) (
R ((false,()),()) w8)) (
R ((false,()),()) w8))
theorem Om.ok{p0 p1 p2 step:Int}{w:World}{R:TR r0'→WP}:Om.wp p0 p1 p2 step w R→Ae prog F.Om [.agg #[iV p0,iV p1,iV p2],iV step] w false r0' R:=
 oks Aa Tryz.func190 (.s .n (.s (.pl (.tk 0 (.ef 1 [0] (ks [2,3,4,5,6,7,8,9,10,11,12,13,14,15] .z)))) .n))
def Kt.wp(f:Option Addr)(local_:Int)(w:World)(R:TR Arv→WP):Prop:=
Bf Aae T.Dy w λp1 w2=>
Aj (Option.isNone f) (
Au Aae p1 0 w2 λw3=>
A8 Xx p1 0 w3 λx4=>
R (x4,(false,()),()) w3) (
Cc (λ(J5:Unit→WP)=>
Aq f λa8=>
ld1 .p a8 w2 λx9=>
Ae prog F.Jt [.pointer x9] w2 false r0' λr10 w11=>
Aj r10.1.1 (
Ae prog F.Em [.pointer f] w11 true [] λr12 w13=>
J5 (()) w13) (
J5 (()) w11)) (λ(z6:Unit) w7=> ∀_:Nat→Value,
Aj (decide (local_<0)) (
Au Aae p1 0 w7 λw14=>
A8 Xx p1 0 w14 λx15=>
R (x15,(false,()),()) w14) (
Aj (decide (local_>1125899906842624)) (
Au Aae p1 0 w7 λw16=>
A8 Xx p1 0 w16 λx17=>
R (x17,(false,()),()) w16) (
Ae prog F.La [.pointer f,iV local_] w7 true Arv λr18 w19=>
Bf Aae T.Dy w19 λp20 w21=>
Au (encs Xx r18.1) p20 0 w21 λw22=>
Aj (!r18.2.1.1) (
Au Aae p1 0 w22 λw23=>
A8 Xx p1 0 w23 λx24=>
R (x24,(false,()),()) w23) (
A8 Xx p20 0 w22 λx25=>
Au (encs Xx x25) p1 0 w22 λw26=>
A8 Xx p1 0 w26 λx27=>
R (x27,(true,()),()) w26)))))
theorem Kt.ok{f:Option Addr}{local_:Int}{w:World}{R:TR Arv→WP}:Kt.wp f local_ w R→Ae prog F.Kt [.pointer f,iV local_] w true Arv R:=
 oks Aa Tryz.func191 (hs 2 (.ct [] .n .n))
def Eo.wp(s:Option Addr)(w:World)(R:TR []→WP):Prop:=
Aj (Option.isNone s) (
R (()) w) (
Aq s λa1=>
ld1 .b (a1.add 7) w λx2=>
Aj (!x2) (
R (()) w) (
Aq s λa3=>
ld1 KI (a3.add 6) w λx4=>
Aq s λa5=>
Au [iV (wrap .i64 (x4+1))] (a5.add 6) 0 w λw6=>
Jg w6 λw7=>
Aq s λa8=>
ld1 KI (a8.add 6) w7 λx9=>
Aq s λa10=>
ld1 KI a10 w7 λx11=>
Aj (decide (x9≥x11)) (
Ae prog F.Fe [.pointer s] w7 true [] λr12 w13=>
R (()) w13) (
R (()) w7)))
theorem Eo.ok{s:Option Addr}{w:World}{R:TR []→WP}:Eo.wp s w R→Ae prog F.Eo [.pointer s] w true [] R:=
 oks Aa Tryz.func192 (hs 2 (.s (.pl (ks [0,1,2,3,4,5,6,7,8] .z)) .n))
def Hz.wp(p:Option Addr)(w:World)(R:TR r0'→WP):Prop:=
Aj (Option.isNone p) (
R ((false,()),()) w) (
Aq p λa1=>
ld1 .b (a1.add 3) w λx2=>
Aj (!x2) (
Aq p λa3=>
ld1 KI (a3.add 6) w λx4=>
Aq p λa5=>
Au [iV (if 0>(wrap .i64 (x4-1)) then 0 else(wrap .i64 (x4-1)))] (a5.add 6) 0 w λw6=>
R ((false,()),()) w6) (
Aq p λa7=>
ld1 KI (a7.add 4) w λx8=>
Aq p λa9=>
Au [iV (wrap .i64 (x8+1))] (a9.add 4) 0 w λw10=>
Aq p λa11=>
ld1 KI (a11.add 4) w10 λx12=>
Aj (decide (x12<2)) (
R ((false,()),()) w10) (
Aq p λa13=>
Au [.bool false] (a13.add 3) 0 w10 λw14=>
Aq p λa15=>
ld1 KI (a15.add 5) w14 λx16=>
Aq p λa17=>
Au [iV (wrap .i64 (x16+1))] (a17.add 5) 0 w14 λw18=>
Aq p λa19=>
ld1 KI (a19.add 5) w18 λx20=>
fJ x20 (
Aq p λa21=>
Au [iV (wrap .i64 ((Sz .i64 1 x20)-1))] (a21.add 6) 0 w18 λw22=>
Aq p λa23=>
ld1 KI (a23.add 5) w22 λx24=>
Aj (decide (x24<3)) (
R ((false,()),()) w22) (
Aq p λa25=>
Au [iV 0] (a25.add 5) 0 w22 λw26=>
Aq p λa27=>
Au [iV 0] (a27.add 6) 0 w26 λw28=>
R ((true,()),()) w28)))))
theorem Hz.ok{p:Option Addr}{w:World}{R:TR r0'→WP}:Hz.wp p w R→Ae prog F.Hz [.pointer p] w false r0' R:=
 oks Aa Tryz.func193 .n
def Jh.wp(o:Option Addr)(f:Value)(ok:Bool)(w:World)(R:TR []→WP):Prop:=
Aj (!ok) (
R (()) w) (
Aq o λa1=>
ld1 .sl a1 w λx2=>
Aj (decide ((x2.2.1:Int)≥3)) (
R (()) w) (
Ae prog F.Il [f] w true xA λr3 w4=>
Aj (r3.2.1.1==0) (
Aq o λa5=>
ld1 .sl a5 w4 λx6=>
Bf [.slice r3.1.1.1 r3.1.1.2.1 r3.1.1.2.2] T.Fh w4 λp7 w8=>
L9 ((Builtin.append_ #[T.iF,T.iF] T.iF #[.slice x6.1 x6.2.1 x6.2.2,.slice (some p7) 1 1]).run prog w8) λy9 w10=>
Aq o λa11=>
Au [.slice y9.1 y9.2.1 y9.2.2] a11 0 w10 λw12=>
R (()) w12) (
R (()) w4)))
theorem Jh.ok{o:Option Addr}{f:Value}{ok:Bool}{w:World}{R:TR []→WP}:Jh.wp o f ok w R→Ae prog F.Jh [.pointer o,f,.bool ok] w true [] R:=
 oks Aa Tryz.func194 .n
def Fq.wp(r:Option Addr)(w:World)(R:TR Yk→WP):Prop:=
Ae prog F.Di [.pointer r] w false iT λr1 w2=>
Aj (r1.1.1==0) (
R ((.nilIface,()),(false,()),()) w2) (
Jg w2 λw3=>
Aq r λa4=>
ld1 .sl a4 w3 λx5=>
Aq r λa6=>
ld1 KI (a6.add 1) w3 λx7=>
Ny x5.1 x5.2.1 x7 λa8=>
ld1 .any (a8.add (x7.toNat*1)) w3 λx9=>
Jg w3 λw10=>
Aq r λa11=>
ld1 .sl a11 w10 λx12=>
Aq r λa13=>
ld1 KI (a13.add 1) w10 λx14=>
Ny x12.1 x12.2.1 x14 λa15=>
Au [.nilIface] (a15.add (x14.toNat*1)) 0 w10 λw16=>
A7 [] w16∧(
Jg w16 λw17=>
Aq r λa18=>
ld1 KI (a18.add 1) w17 λx19=>
Aq r λa20=>
ld1 .sl a20 w17 λx21=>
dF (x21.2.1:Int) (
Aq r λa22=>
Au [iV (Int.tmod (wrap .i64 (x19+1)) (x21.2.1:Int))] (a22.add 1) 0 w17 λw23=>
A7 [] w23∧(
Aq r λa24=>
ld1 KI (a24.add 2) w23 λx25=>
Aq r λa26=>
Au [iV (wrap .i64 (x25-1))] (a26.add 2) 0 w23 λw27=>
R ((x9,()),(true,()),()) w27))))
theorem Fq.ok{r:Option Addr}{w:World}{R:TR Yk→WP}:Fq.wp r w R→Ae prog F.Fq [.pointer r] w true Yk R:=
 oks Aa Tryz.func195 (hs 3 (.s (.pl (ks [0,1,2,3,4,5,6,7,8,9,10] .z)) (.s (.pl (ks [0,1,2,3,4,5,6,7,8,9] (.ef 10 [3,7] .z))) (.s (.pl (ks [0,1,2,3,4,5,6,7,8,9,10,11,12,13] (.ef 14 [4,9] .z))) .n))))
def Oz.wp(n:Option Addr)(stamp:Int)(w:World)(R:TR Yk→WP):Prop:=
Aq n λa1=>
ld1 .p (a1.add 16) w λx2=>
Ae prog F.En [.pointer x2] w false iT λr3 w4=>
Aj (decide (r3.1.1<0)) (
Aq n λa5=>
ld1 KI a5 w4 λx6=>
R ((.iface T.Gp (.agg #[iV x6]),()),(true,()),()) w4) (
Jg w4 λw7=>
Aq n λa8=>
ld1 .p (a8.add 17) w7 λx9=>
Aq n λa10=>
ld1 .p (a10.add 16) w7 λx11=>
Ae prog F.En [.pointer x11] w7 false iT λr12 w13=>
A7 [hd 7 (a10.add 16) w7,hd 3 (a8.add 17) w7] w13∧(
Ae prog F.Qb [.pointer x9,iV r12.1.1,iV stamp] w13 true Aar λr14 w15=>
A7 [hd 7 (a10.add 16) w7] w15∧(
R ((.iface T.Ef (Sv Aab r14.1),()),(r14.2.1.1,()),()) w15)))
theorem Oz.ok{n:Option Addr}{stamp:Int}{w:World}{R:TR Yk→WP}:Oz.wp n stamp w R→Ae prog F.Oz [.pointer n,iV stamp] w true Yk R:=
 oks Aa Tryz.func196 (hs 2 (.s (.pl (ks [0,1,2,3,4,5,6,7,9] (.ef 8 [] (.ef 10 [3] (ks [11,12,13,14,15] .z))))) .n))
def Np.wp(set_ i:Int)(w:World)(R:TR r0'→WP):Prop:=
fJ i (
R ((((Lm .and .u64 (Qv .u64 set_ i) 1)==1),()),()) w)
theorem Np.ok{set_ i:Int}{w:World}{R:TR r0'→WP}:Np.wp set_ i w R→Ae prog F.Np [.int .u64 set_,iV i] w false r0' R:=
 oks Aa Tryz.func198 .n
def Hw.wp(f:Option Addr)(local_:Int)(w:World)(R:TR Ajr→WP):Prop:=
Aj (Option.isNone f) (
R ((0,()),(0,()),(2,()),()) w) (
Ae prog F.Ba [.pointer f] w false r0' λr1 w2=>
Aj (!r1.1.1) (
R ((0,()),(0,()),(9,()),()) w2) (
Cc (λ(J3:((Bool)×Unit)→WP)=>
Aj (decide (local_<0)) (
J3 (true,()) w2) (
J3 (decide (local_>1125899906842624),()) w2)) (λ(z4:(Bool)×Unit) w5=> ∀_:Nat→Value,
Aj z4.1 (
R ((0,()),(0,()),(8,()),()) w5) (
Aq f λa6=>
ld1 .p a6 w5 λx7=>
Ae prog F.Bc [.pointer x7] w5 false r0' λr8 w9=>
Aj r8.1.1 (
R ((local_,()),(0,()),(0,()),()) w9) (
Cc (λ(J10:((Addr)×Unit)→WP)=>
Jg w9 λw13=>
Aq f λa14=>
ld1 KI ((a14.add 2).add 3) w13 λx15=>
Aq f λa16=>
(
Ae prog F.V7 [iV x15,.pointer (some (a16.add 6))] w13 true Ajx λr17 w18=>
A7 [hd 4 ((a14.add 2).add 3) w13] w18∧(
Bf z23' T.iO w18 λp19 w20=>
A7 [hd 4 ((a14.add 2).add 3) w13] w20∧(
Au (encs vP r17.1) p19 0 w20 λw21=>
A7 [] w21∧(
J10 (p19,()) w21))))∧(
Bf z23' T.iO w13 λp22 w23=>
A7 [hd 4 ((a14.add 2).add 3) w13] w23∧(
Ae prog F.V7 [iV x15,.pointer (some (a16.add 6))] w23 true Ajx λr24 w25=>
A7 [] w25∧(
Au (encs vP r24.1) p22 0 w25 λw26=>
A7 [] w26∧(
J10 (p22,()) w26))))) (λ(z11:(Addr)×Unit) w12=> ∀_:Nat→Value,
A8 vP z11.1 0 w12 λx27=>
Ae prog F.Jp [Sv vP x27,iV local_] w12 true fE λr28 w29=>
Aj (!r28.2.1.1) (
R ((0,()),(0,()),(8,()),()) w29) (
Jg w29 λw30=>
ld1 KI (z11.1.add 4) w30 λx31=>
R ((r28.1.1,()),(x31,()),(0,()),()) w30)))))))
theorem Hw.ok{f:Option Addr}{local_:Int}{w:World}{R:TR Ajr→WP}:Hw.wp f local_ w R→Ae prog F.Hw [.pointer f,iV local_] w true Ajr R:=
 oks Aa Tryz.func199 (.s .n (.s (hs 4 (.ct [(18,.b)] .n .n)) (.ct [(7,.a)] (.pl (ks [0,1,2,3,4,5,6,7] (.two 8 12 (ks [9,10,11] (.ef 12 [] (.ef 13 [4] (.tk 14 .z)))) (.ef 8 [4] (ks [9,10,11] (.ef 13 [] (.tk 14 .z))))))) (hs 2 (.s (.pl (ks [0,1,2,3,4,5] .z)) .n)))))
def Nb.wp(p0 p1 p2 time guard:Int)(w:World)(R:TR r0'→WP):Prop:=
Bf [iV p0,iV p1,iV p2] T.bU w λp3 w4=>
A8 Aab p3 0 w4 λx5=>
Ae prog F.Ie [Sv Aab x5] w4 false r0' λr6 w7=>
Aj (!r6.1.1) (
R ((true,()),()) w7) (
Aj (decide (guard<0)) (
R ((true,()),()) w7) (
A8 Aab p3 0 w7 λx8=>
Ae prog F.Gu [Sv Aab x8] w7 false iT λr9 w10=>
Ae prog F.Oi [iV time,iV r9.1.1] w10 true Aix λr11 w12=>
A8 Aab p3 0 w12 λx13=>
Ae prog F.Gu [Sv Aab x13] w12 false iT λr14 w15=>
ld1 KI (p3.add 1) w15 λx16=>
Aj (decide (r11.2.1.1<(wrap .i64 ((wrap .i64 (x16*1000))+(if r14.1.1<guard then r14.1.1 else guard))))) (
R ((true,()),()) w15) (
A8 Aab p3 0 w15 λx17=>
Ae prog F.Gu [Sv Aab x17] w15 false iT λr18 w19=>
R ((decide (r11.2.1.1≥(wrap .i64 (r18.1.1-(if r14.1.1<guard then r14.1.1 else guard)))),()),()) w19)))
theorem Nb.ok{p0 p1 p2 time guard:Int}{w:World}{R:TR r0'→WP}:Nb.wp p0 p1 p2 time guard w R→Ae prog F.Nb [.agg #[iV p0,iV p1,iV p2],iV time,iV guard] w false r0' R:=
 oks Aa Tryz.func200 .n
def Xw.wp(r0 r1 r2 r3 p0 p1 p2 jitter:Int)(w:World)(R:TR Af4→WP):Prop:=
Bf [iV r0,iV r1,iV r2,iV r3] T.fQ w λp3 w4=>
Bf [iV p0,iV p1,iV p2] T.bU w4 λp5 w6=>
Bf Awu T.Xh w6 λp7 w8=>
ld1 KI (p3.add 3) w8 λx9=>
ld1 KI p3 w8 λx10=>
ld1 KI p5 w8 λx11=>
Au [iV x9,iV jitter,iV x10,iV x11] p7 0 w8 λw12=>
A8 aU p7 0 w12 λx13=>
R (x13,()) w12
theorem Xw.ok{r0 r1 r2 r3 p0 p1 p2 jitter:Int}{w:World}{R:TR Af4→WP}:Xw.wp r0 r1 r2 r3 p0 p1 p2 jitter w R→Ae prog F.Xw [.agg #[iV r0,iV r1,iV r2,iV r3],.agg #[iV p0,iV p1,iV p2],iV jitter] w false Af4 R:=
 oks Aa Tryz.func201 .n
def I9.wp(t0 t1 t2 t3 hops:Int)(w:World)(R:TR iT→WP):Prop:=
Bf [iV t0,iV t1,iV t2,iV t3] T.Xh w λp1 w2=>
Aj (decide (hops<0)) (
R ((0,()),()) w2) (
Aj (decide (hops>63)) (
R ((0,()),()) w2) (
Jg w2 λw3=>
A8 aU p1 0 w3 λx4=>
A8 aU p1 0 w3 λx5=>
Ae prog F.Nh [Sv aU x4] w3 false iT λr6 w7=>
A7 [hd 3 (p1.add 0) w3,hd 3 (p1.add 1) w3,hd 3 (p1.add 2) w3,hd 3 (p1.add 3) w3,hd 1 (p1.add 0) w3,hd 1 (p1.add 1) w3,hd 1 (p1.add 2) w3,hd 1 (p1.add 3) w3] w7∧(
Ae prog F.Kz [Sv aU x5] w7 false iT λr8 w9=>
A7 [hd 1 (p1.add 0) w3,hd 1 (p1.add 1) w3,hd 1 (p1.add 2) w3,hd 1 (p1.add 3) w3] w9∧(
R ((wrap .i64 (hops*(wrap .i64 (r6.1.1+r8.1.1))),()),()) w9))))
theorem I9.ok{t0 t1 t2 t3 hops:Int}{w:World}{R:TR iT→WP}:I9.wp t0 t1 t2 t3 hops w R→Ae prog F.I9 [.agg #[iV t0,iV t1,iV t2,iV t3],iV hops] w false iT R:=
 oks Aa Tryz.func202 (hs 2 (.s (.pl (ks [0,1,3] (.ef 2 [] (.ef 4 [3] (ks [5,6,7] .z))))) .n))
def Qs.wp(x low high:Int)(w:World)(R:TR iT→WP):Prop:=
R (((if low>(if high<x then high else x) then low else(if high<x then high else x)),()),()) w
theorem Qs.ok{x low high:Int}{w:World}{R:TR iT→WP}:Qs.wp x low high w R→Ae prog F.Qs [iV x,iV low,iV high] w false iT R:=
 oks Aa Tryz.func203 .n
def Le.wp(f:Option Addr)(s0 s1 s2 s3 s4 s5 local_:Int)(w:World)(R:TR iT→WP):Prop:=
Bf [iV s0,iV s1,uV s2,uV s3,iV s4,iV s5] T.Dy w λp1 w2=>
Aj (Option.isNone f) (
R ((0,()),()) w2) (
ld1 KI (p1.add 4) w2 λx3=>
Aj (decide (x3<0)) (
R ((0,()),()) w2) (
ld1 KI (p1.add 4) w2 λx4=>
Aj (decide (x4≥63)) (
R ((0,()),()) w2) (
Aj (decide (local_<0)) (
R ((0,()),()) w2) (
Aj (decide (local_>1125899906842624)) (
R ((0,()),()) w2) (
ld1 KI (p1.add 5) w2 λx5=>
Aj (decide (x5<0)) (
R ((0,()),()) w2) (
ld1 KI (p1.add 5) w2 λx6=>
Aj (decide (x6>1125899906842624)) (
R ((0,()),()) w2) (
Jg w2 λw7=>
Aq f λa8=>
ld1 .p a8 w7 λx9=>
ld1 KI (p1.add 1) w7 λx10=>
ld1 KU (p1.add 2) w7 λx11=>
ld1 KU (p1.add 3) w7 λx12=>
Ae prog F.Lc [.pointer x9,iV x10,.agg #[uV x11,uV x12]] w7 false iT λr13 w14=>
A7 [hd 9 (p1.add 3) w7,hd 7 (p1.add 2) w7] w14∧(
Aj (r13.1.1==0) (
R ((r13.1.1,()),()) w14) (
Cc (λ(J15:Unit→WP)=>
Aj (r13.1.1==2) (
Ae prog F.Em [.pointer f] w14 true [] λr18 w19=>
J15 (()) w19) (
J15 (()) w14)) (λ(z16:Unit) w17=> ∀_:Nat→Value,
ld1 KI (p1.add 5) w17 λx20=>
ld1 KI (p1.add 4) w17 λx21=>
Bf Ao4 T.Du w17 λp22 w23=>
Au [iV local_,iV (wrap .i64 (x20-local_)),iV (wrap .i64 (x21+1))] p22 0 w23 λw24=>
Cc (λ(J25:Unit→WP)=>
Jg w24 λw28=>
Aq f λa29=>
A8 Aab p22 0 w28 λx30=>
Ae prog F.Ed [.pointer (some (a29.add 6)),Sv Aab x30] w28 false iT λr31 w32=>
A7 [] w32∧(
Aj (r31.1.1 !=0) (
Aq f λa33=>
Ae prog F.Gg [.pointer (some (a33.add 6))] w32 true [] λr34 w35=>
Jg w35 λw36=>
Aq f λa37=>
A8 Aab p22 0 w36 λx38=>
Ae prog F.Ed [.pointer (some (a37.add 6)),Sv Aab x38] w36 false iT λr39 w40=>
A7 [] w40∧(
J25 (()) w40)) (
J25 (()) w32))) (λ(z26:Unit) w27=> ∀_:Nat→Value,
ld1 KI (p1.add 5) w27 λx41=>
ld1 KI (p1.add 4) w27 λx42=>
Aq f λa43=>
Au [iV local_,iV x41,iV (wrap .i64 (x42+1))] (a43.add 7) 0 w27 λw44=>
R ((r13.1.1,()),()) w44)))))))))))
theorem Le.ok{f:Option Addr}{s0 s1 s2 s3 s4 s5 local_:Int}{w:World}{R:TR iT→WP}:Le.wp f s0 s1 s2 s3 s4 s5 local_ w R→Ae prog F.Le [.pointer f,.agg #[iV s0,iV s1,uV s2,uV s3,iV s4,iV s5],iV local_] w false iT R:=
 oks Aa Tryz.func204 (hs 2 (.s (.pl (ks [0,1,2,3,4,5,6,7,8,9,10] (.ef 11 [3,5] (.tk 12 .z)))) (.s .n (.ct [] .n (.s .n (.ct [] (.s (.pl (ks [0,1,2,3] (.ef 4 [3] (.tk 5 .z)))) (.s (.s .n (.pl (ks [0,1,2,3] (.ef 4 [3] .z)))) .n)) .n))))))
def Kv.wp(l:Option Addr)(f0 f1:Int)(w:World)(R:TR r0'→WP):Prop:=
Bf [iV f0,iV f1] T.Gj w λp1 w2=>
Jg w2 λw3=>
Aj (Option.isNone l) (
R ((false,()),()) w3) (
A8 [KI,KI] p1 0 w3 λx4=>
Ae prog F.Ew [.iface T.Gj (.agg #[iV x4.1,iV x4.2.1])] w3 false r0' λr5 w6=>
A7 [hd 3 (p1.add 0) w3,hd 3 (p1.add 1) w3] w6∧(
Aj (!r5.1.1) (
R ((false,()),()) w6) (
ld1 KI p1 w6 λx7=>
Aq l λa8=>
ld1 KI a8 w6 λx9=>
Aj (x7==x9) (
R ((false,()),()) w6) (
ld1 KI (p1.add 1) w6 λx10=>
Cc (λ(J11:Unit→WP)=>
Cc (λ(J14:((Bool)×Unit)→WP)=>
Jg w6 λw17=>
ld1 KI p1 w17 λx18=>
Aq l λa19=>
ld1 KI (a19.add 2) w17 λx20=>
Aj (x18==x20) (
J14 (decide ((wrap .i64 (x10+1))>63),()) w17) (
J14 (false,()) w17)) (λ(z15:(Bool)×Unit) w16=> ∀_:Nat→Value,
Aj z15.1 (
Ae prog F.Gf [.pointer l] w16 true [] λr21 w22=>
R ((true,()),()) w22) (
Jg w16 λw23=>
Aj (decide ((wrap .i64 (x10+1))>63)) (
R ((false,()),()) w23) (
ld1 KI p1 w23 λx24=>
Aq l λa25=>
ld1 KI (a25.add 2) w23 λx26=>
Aj (x24 !=x26) (
Aq l λa27=>
ld1 KI (a27.add 1) w23 λx28=>
Aj (decide (x28≥0)) (
Aq l λa29=>
ld1 KI (a29.add 1) w23 λx30=>
Aj (decide ((wrap .i64 (x10+1))≥x30)) (
R ((false,()),()) w23) (
ld1 KI p1 w23 λx31=>
Aq l λa32=>
ld1 KI (a32.add 2) w23 λx33=>
Aj (x31==x33) (
Aq l λa34=>
ld1 KI (a34.add 1) w23 λx35=>
Aj ((wrap .i64 (x10+1))==x35) (
R ((false,()),()) w23) (
J11 (()) w23)) (
J11 (()) w23))) (
ld1 KI p1 w23 λx36=>
Aq l λa37=>
ld1 KI (a37.add 2) w23 λx38=>
Aj (x36==x38) (
Aq l λa39=>
ld1 KI (a39.add 1) w23 λx40=>
Aj ((wrap .i64 (x10+1))==x40) (
R ((false,()),()) w23) (
J11 (()) w23)) (
J11 (()) w23))) (
ld1 KI p1 w23 λx41=>
Aq l λa42=>
ld1 KI (a42.add 2) w23 λx43=>
Aj (x41==x43) (
Aq l λa44=>
ld1 KI (a44.add 1) w23 λx45=>
Aj ((wrap .i64 (x10+1))==x45) (
R ((false,()),()) w23) (
J11 (()) w23)) (
J11 (()) w23)))))) (λ(z12:Unit) w13=> ∀_:Nat→Value,
Jg w13 λw46=>
ld1 KI p1 w46 λx47=>
Aq l λa48=>
Au [iV (wrap .i64 (x10+1))] (a48.add 1) 0 w46 λw49=>
A7 [hd 4 p1 w46] w49∧(
Aq l λa50=>
Au [iV x47] (a50.add 2) 0 w49 λw51=>
A7 [] w51∧(
R ((true,()),()) w51)))))))
theorem Kv.ok{l:Option Addr}{f0 f1:Int}{w:World}{R:TR r0'→WP}:Kv.wp l f0 f1 w R→Ae prog F.Kv [.pointer l,.agg #[iV f0,iV f1]] w false r0' R:=
 oks Aa Tryz.func205 (.s .n (.s (.s (.pl (ks [0,1,2,3,4] (.ef 5 [] (ks [6,7,8,9,10,11,12,13,14,15,16] .z)))) .n) (.s .n (.ct [] (.ct [(26,.b)] (.pl (ks [0,1,2,3,4,5,6,7,8,9,10,11] .z)) (.s .n (.s (.pl (ks [0,1,2,3,4,5,6,7,8,9,10,11,12,13,14,15,16,17,18,19,20,21,22,23,24,25,26,27,28,29,30,31,32,33,34,35,36,37,38,39,40,41,42,43] .z)) .n))) (.s (.pl (ks [0,1,2,3,4,5,6] (.ef 7 [] (.tk 8 (.tk 9 (.ef 10 [4] .z)))))) .n)))))
def Cj.wp(r:Option Addr)(x:Value)(w:World)(R:TR iT→WP):Prop:=
Aj (Option.isNone r) (
R ((2,()),()) w) (
Jg w λw1=>
Aq r λa2=>
ld1 KI (a2.add 2) w1 λx3=>
Aq r λa4=>
ld1 .sl a4 w1 λx5=>
Aj (x3==(x5.2.1:Int)) (
R ((6,()),()) w1) (
Jg w1 λw6=>
Aq r λa7=>
ld1 .sl a7 w6 λx8=>
Aq r λa9=>
ld1 KI (a9.add 1) w6 λx10=>
Aq r λa11=>
ld1 KI (a11.add 2) w6 λx12=>
Aq r λa13=>
ld1 .sl a13 w6 λx14=>
dF (x14.2.1:Int) (
Ny x8.1 x8.2.1 (Int.tmod (wrap .i64 (x10+x12)) (x14.2.1:Int)) λa15=>
Au [x] (a15.add ((Int.tmod (wrap .i64 (x10+x12)) (x14.2.1:Int)).toNat*1)) 0 w6 λw16=>
A7 [] w16∧(
Aq r λa17=>
ld1 KI (a17.add 2) w16 λx18=>
Aq r λa19=>
Au [iV (wrap .i64 (x18+1))] (a19.add 2) 0 w16 λw20=>
R ((0,()),()) w20))))
theorem Cj.ok{r:Option Addr}{x:Value}{w:World}{R:TR iT→WP}:Cj.wp r x w R→Ae prog F.Cj [.pointer r,x] w false iT R:=
 oks Aa Tryz.func206 (.s .n (.s (hs 2 (.s (.pl (ks [0,1,2,3,4,5,6,7,8,9,10] .z)) .n)) (.s (.pl (ks [0,1,2,3,4,5,6,7,8,9,10,11,12,13,14,15,16,17,18,19,20] (.ef 21 [3,7,11,16] .z))) .n)))
def Jo.wp(p:Option Addr)(r0 r1 r2 r3 r4 r5 r6 r7 local_:Int)(w:World)(R:TR Aar→WP):Prop:=
Bf [iV r0,iV r1,iV r2,iV r3,iV r4,iV r5,uV r6,iV r7] T.Gl w λp1 w2=>
Bf Ao4 T.Du w2 λp3 w4=>
Jg w4 λw5=>
Aj (Option.isNone p) (
Au Ao4 p3 0 w5 λw6=>
A8 Aab p3 0 w6 λx7=>
R (x7,(false,()),()) w6) (
Aq p λa8=>
ld1 .b (a8.add 3) w5 λx9=>
Aj (!x9) (
Au Ao4 p3 0 w5 λw10=>
A8 Aab p3 0 w10 λx11=>
R (x11,(false,()),()) w10) (
ld1 KI (p1.add 1) w5 λx12=>
Aq p λa13=>
ld1 KI a13 w5 λx14=>
Aj (x12 !=x14) (
Au Ao4 p3 0 w5 λw15=>
A8 Aab p3 0 w15 λx16=>
R (x16,(false,()),()) w15) (
ld1 KI p1 w5 λx17=>
Aq p λa18=>
ld1 KI (a18.add 1) w5 λx19=>
Aj (x17 !=x19) (
Au Ao4 p3 0 w5 λw20=>
A8 Aab p3 0 w20 λx21=>
R (x21,(false,()),()) w20) (
ld1 KI (p1.add 2) w5 λx22=>
Aq p λa23=>
ld1 KI (a23.add 2) w5 λx24=>
Aj (x22 !=x24) (
Au Ao4 p3 0 w5 λw25=>
A8 Aab p3 0 w25 λx26=>
R (x26,(false,()),()) w25) (
ld1 KI (p1.add 2) w5 λx27=>
ld1 KI (p1.add 3) w5 λx28=>
ld1 KI (p1.add 4) w5 λx29=>
Bf Awu T.jL w5 λp30 w31=>
Au [iV x27,iV x28,iV x29,iV local_] p30 0 w31 λw32=>
Cc (λ(J33:((Addr)×Unit)→WP)=>
Jg w32 λw36=>
A8 aU p30 0 w36 λx37=>
ld1 KI (p1.add 7) w36 λx38=>
(
Ae prog F.Gw [Sv aU x37] w36 false iT λr39 w40=>
A7 [hd 4 (p1.add 7) w36,hd 1 (p30.add 0) w36,hd 1 (p30.add 1) w36,hd 1 (p30.add 2) w36,hd 1 (p30.add 3) w36] w40∧(
Bf Ao4 T.Du w40 λp41 w42=>
A7 [hd 4 (p1.add 7) w36,hd 1 (p30.add 0) w36,hd 1 (p30.add 1) w36,hd 1 (p30.add 2) w36,hd 1 (p30.add 3) w36] w42∧(
Au [iV local_,iV r39.1.1,iV (wrap .i64 (x38+1))] p41 0 w42 λw43=>
A7 [] w43∧(
J33 (p41,()) w43))))∧(
Bf Ao4 T.Du w36 λp44 w45=>
A7 [hd 4 (p1.add 7) w36,hd 1 (p30.add 0) w36,hd 1 (p30.add 1) w36,hd 1 (p30.add 2) w36,hd 1 (p30.add 3) w36] w45∧(
Ae prog F.Gw [Sv aU x37] w45 false iT λr46 w47=>
A7 [hd 4 (p1.add 7) w36] w47∧(
Au [iV local_,iV r46.1.1,iV (wrap .i64 (x38+1))] p44 0 w47 λw48=>
A7 [] w48∧(
J33 (p44,()) w48))))) (λ(z34:(Addr)×Unit) w35=> ∀_:Nat→Value,
A8 aU p30 0 w35 λx49=>
Ae prog F.Iw [Sv aU x49] w35 false r0' λr50 w51=>
Aj (!r50.1.1) (
Au Ao4 p3 0 w51 λw52=>
A8 Aab p3 0 w52 λx53=>
R (x53,(false,()),()) w52) (
A8 Aab z34.1 0 w51 λx54=>
Ae prog F.C9 [Sv Aab x54] w51 false r0' λr55 w56=>
Aj (!r55.1.1) (
Au Ao4 p3 0 w56 λw57=>
A8 Aab p3 0 w57 λx58=>
R (x58,(false,()),()) w57) (
Aq p λa59=>
Au [.bool false] (a59.add 3) 0 w56 λw60=>
Aq p λa61=>
Au [iV 0] (a61.add 5) 0 w60 λw62=>
A8 Aab z34.1 0 w62 λx63=>
Au (encs Aab x63) p3 0 w62 λkJ=>
A8 Aab p3 0 kJ λx65=>
R (x65,(true,()),()) kJ))))))))
theorem Jo.ok{p:Option Addr}{r0 r1 r2 r3 r4 r5 r6 r7 local_:Int}{w:World}{R:TR Aar→WP}:Jo.wp p r0 r1 r2 r3 r4 r5 r6 r7 local_ w R→Ae prog F.Jo [.pointer p,.agg #[iV r0,iV r1,iV r2,iV r3,iV r4,iV r5,uV r6,iV r7],iV local_] w true Aar R:=
 oks Aa Tryz.func207 (.s .n (.s (.s (.pl (ks [0,1,2,3,4,5,6,7,8,9,10,11,12,13,14,15,16,17,18,19,20,21,22,23,24,25,26,27,28,29,30,31,32,33,34,35] .z)) .n) (.s .n (.ct [(9,.a)] (.pl (ks [0,1,3,4,5] (.two 2 7 (.tk 6 (.ef 7 [] (.ef 8 [1,4] .z))) (.ef 2 [1] (.tk 6 (.ef 8 [4] .z)))))) .n))))
def Je.wp(s:Option Addr)(e0 e1 e2 w_0 w_1:Int)(w:World)(R:TR iT→WP):Prop:=
Bf [iV e0,iV e1,iV e2] T.Du w λp1 w2=>
Bf [iV w_0,uV w_1] T.lK w2 λp3 w4=>
Aj (Option.isNone s) (
R ((2,()),()) w4) (
A8 Aab p1 0 w4 λx5=>
Ae prog F.C9 [Sv Aab x5] w4 false r0' λr6 w7=>
Aj (!r6.1.1) (
R ((1,()),()) w7) (
ld1 KI p3 w7 λx8=>
Aj (decide (x8<0)) (
R ((1,()),()) w7) (
ld1 KI p3 w7 λx9=>
Aj (decide (x9≥64)) (
R ((1,()),()) w7) (
Jg w7 λw10=>
A8 Aab p1 0 w10 λx11=>
A8 [KI,KU] p3 0 w10 λx12=>
Aq s λa13=>
Au (encs Aab x11) (a13.add 1) 0 w10 λw14=>
A7 [hd 5 (p3.add 0) w10,hd 5 (p3.add 1) w10] w14∧(
Aq s λa15=>
Au [iV x12.1,uV x12.2.1] (a15.add 4) 0 w14 λw16=>
A7 [] w16∧(
Aq s λa17=>
Au [iV 0] (a17.add 6) 0 w16 λw18=>
A7 [] w18∧(
Aq s λa19=>
Au [.bool true] (a19.add 7) 0 w18 λw20=>
A7 [] w20∧(
R ((0,()),()) w20))))))))
theorem Je.ok{s:Option Addr}{e0 e1 e2 w_0 w_1:Int}{w:World}{R:TR iT→WP}:Je.wp s e0 e1 e2 w_0 w_1 w R→Ae prog F.Je [.pointer s,.agg #[iV e0,iV e1,iV e2],.agg #[iV w_0,uV w_1]] w false iT R:=
 oks Aa Tryz.func208 (hs 2 (.s (.pl (ks [0,1,2,3,4,5,6,7] (.ef 8 [4] (.tk 9 (.tk 10 (.ef 11 [5] (.tk 12 (.tk 13 (.ef 14 [] (.tk 15 (.tk 16 (.ef 17 [] .z)))))))))))) .n))
def Gh.wp(b:Option Addr)(a0 a1 a2 a3 a4 a5:Int)(w:World)(R:TR r0'→WP):Prop:=
Bf [iV a0,uV a1,iV a2,uV a3,iV a4,iV a5] T.Bh w λp1 w2=>
Cc (λ(J3:Unit→WP)=>
Jg w2 λw6=>
Aj (Option.isNone b) (
R ((false,()),()) w6) (
A8 U9 p1 0 w6 λx7=>
Ae prog F.Ew [.iface T.Bh (Sv U9 x7)] w6 false r0' λr8 w9=>
A7 [hd 3 (p1.add 0) w6,hd 3 (p1.add 1) w6,hd 3 (p1.add 2) w6,hd 3 (p1.add 3) w6,hd 3 (p1.add 4) w6,hd 3 (p1.add 5) w6] w9∧(
Aj (!r8.1.1) (
R ((false,()),()) w9) (
Aq b λa10=>
ld1 .b a10 w9 λx11=>
Aj x11 (
ld1 KU (p1.add 1) w9 λx12=>
Aq b λa13=>
ld1 KU ((a13.add 1).add 1) w9 λx14=>
Ae prog F.Pz [uV x12,uV x14] w9 false r0' λZb w16=>
A7 [hd 12 a10 w9,hd 3 (p1.add 0) w6,hd 3 (p1.add 1) w6,hd 3 (p1.add 2) w6,hd 3 (p1.add 3) w6,hd 3 (p1.add 4) w6,hd 3 (p1.add 5) w6] w16∧(
Aj (!Zb.1.1) (
R ((false,()),()) w16) (
J3 (()) w16))) (
J3 (()) w9))))) (λ(z4:Unit) w5=> ∀_:Nat→Value,
Jg w5 λw17=>
A8 U9 p1 0 w17 λx18=>
Aq b λa19=>
Au [.bool true] a19 0 w17 λw20=>
A7 [hd 2 (p1.add 0) w17,hd 2 (p1.add 1) w17,hd 2 (p1.add 2) w17,hd 2 (p1.add 3) w17,hd 2 (p1.add 4) w17,hd 2 (p1.add 5) w17] w20∧(
Aq b λa21=>
Au (encs U9 x18) (a21.add 1) 0 w20 λw22=>
A7 [] w22∧(
R ((true,()),()) w22)))
theorem Gh.ok{b:Option Addr}{a0 a1 a2 a3 a4 a5:Int}{w:World}{R:TR r0'→WP}:Gh.wp b a0 a1 a2 a3 a4 a5 w R→Ae prog F.Gh [.pointer b,.agg #[iV a0,uV a1,iV a2,uV a3,iV a4,iV a5]] w false r0' R:=
 oks Aa Tryz.func209 (.s .n (.ct [] (.s (.pl (ks [0,1,2,3,4] (.ef 5 [] (ks [6,7,8,9,10,11,12,13,14,15,16,17,18,19,20] (.ef 21 [15,20] (ks [22,23,24] .z)))))) .n) (.s (.pl (ks [0,1,2,3,4] (.ef 5 [] (.tk 6 (.tk 7 (.ef 8 [2] .z)))))) .n)))
def Oo.wp(f:Option Addr)(local_:Int)(w:World)(R:TR oI→WP):Prop:=
Bf dE T.Bg w λp1 w2=>
Ae prog F.Hw [.pointer f,iV local_] w2 true Ajr λr3 w4=>
Aj (r3.2.2.1.1 !=0) (
Au dE p1 0 w4 λw5=>
A8 Tu p1 0 w5 λx6=>
R (x6,(r3.2.2.1.1,()),()) w5) (
Aq f λa7=>
ld1 .p a7 w4 λx8=>
Ae prog F.Hl [.pointer x8] w4 true dB λr9 w10=>
Bf [uV 0,uV 0] T.yB w10 λp11 w12=>
Au [uV r9.1.1,uV r9.1.2.1] p11 0 w12 λw13=>
Cc (λ(J14:((Addr)×Unit)→WP)=>
Jg w13 λw17=>
Aq f λa18=>
ld1 .p a18 w17 λx19=>
ld1 KU p11 w17 λx20=>
(
Ae prog F.Dc [.pointer x19] w17 false iT λr21 w22=>
A7 [hd 8 p11 w17,hd 5 a18 w17] w22∧(
Bf dE T.Bg w22 λp23 w24=>
A7 [hd 8 p11 w17,hd 5 a18 w17] w24∧(
Au [iV r3.1.1,iV r3.2.1.1,iV r21.1.1,uV x20,iV 2] p23 0 w24 λw25=>
A7 [] w25∧(
J14 (p23,()) w25))))∧(
Bf dE T.Bg w17 λp26 w27=>
A7 [hd 8 p11 w17,hd 5 a18 w17] w27∧(
Ae prog F.Dc [.pointer x19] w27 false iT λr28 w29=>
A7 [hd 8 p11 w17] w29∧(
Au [iV r3.1.1,iV r3.2.1.1,iV r28.1.1,uV x20,iV 2] p26 0 w29 λw30=>
A7 [] w30∧(
J14 (p26,()) w30))))) (λ(z15:(Addr)×Unit) w16=> ∀_:Nat→Value,
Aq f λa31=>
ld1 .p a31 w16 λx32=>
Ae prog F.Bc [.pointer x32] w16 false r0' λr33 w34=>
Aj r33.1.1 (
Au [iV 1] (z15.1.add 4) 0 w34 λw35=>
A8 Tu z15.1 0 w35 λx36=>
Au (encs Tu x36) p1 0 w35 λw37=>
A8 Tu p1 0 w37 λx38=>
R (x38,(0,()),()) w37) (
A8 Tu z15.1 0 w34 λx39=>
Au (encs Tu x39) p1 0 w34 λw40=>
A8 Tu p1 0 w40 λx41=>
R (x41,(0,()),()) w40)))
theorem Oo.ok{f:Option Addr}{local_:Int}{w:World}{R:TR oI→WP}:Oo.wp f local_ w R→Ae prog F.Oo [.pointer f,iV local_] w true oI R:=
 oks Aa Tryz.func210 (hs 4 (.ct [(11,.a)] (.pl (ks [0,1,2,3,4,5,7,8] (.two 6 11 (.tk 9 (.tk 10 (.ef 11 [] (.ef 12 [5,8] .z)))) (.ef 6 [5] (.tk 9 (.tk 10 (.ef 12 [8] .z))))))) .n))
def Hr.wp(e:Option Addr)(boot:Int)(w:World)(R:TR []→WP):Prop:=
Aj (!(Option.isNone e)) (
Jg w λw1=>
Aq e λa2=>
ld1 KI a2 w1 λx3=>
Aq e λa4=>
A8 [KI,KI] (a4.add 1) 0 w1 λx5=>
maK prog T.O9 w1 λm6 w7=>
A7 [hd 8 ((a4.add 1).add 0) w1,hd 8 ((a4.add 1).add 1) w1,hd 4 a2 w1] w7∧(
Aq e λa8=>
Au [iV x3,iV x5.1,iV x5.2.1,uV boot,uV 0,iV (Int.negSucc 0),iV 0,iV 0,.map (some m6)] a8 0 w7 λw9=>
A7 [] w9∧(
R (()) w9))) (
R (()) w)
theorem Hr.ok{e:Option Addr}{boot:Int}{w:World}{R:TR []→WP}:Hr.wp e boot w R→Ae prog F.Hr [.pointer e,uV boot] w true [] R:=
 oks Aa Tryz.func211 (.s .n (.s (.pl (ks [0,1,2,3,4,5,6,7,8,9] (.ef 10 [] (.tk 11 (.tk 12 (.ef 13 [4,8] .z)))))) .n))
def Em.wp(f:Option Addr)(w:World)(R:TR []→WP):Prop:=
Aq f λa1=>
Ae prog F.Gg [.pointer (some (a1.add 6))] w true [] λr2 w3=>
Aq f λa4=>
Au Ao4 (a4.add 7) 0 w3 λw5=>
R (()) w5
theorem Em.ok{f:Option Addr}{w:World}{R:TR []→WP}:Em.wp f w R→Ae prog F.Em [.pointer f] w true [] R:=
 oks Aa Tryz.func212 .n
def Dw.wp(r:Option Addr)(w:World)(R:TR []→WP):Prop:=
Aj (!(Option.isNone r)) (
Aq r λa1=>
ld1 .sl a1 w λx2=>
crK prog #[T.Yo] T.t0 (.slice x2.1 x2.2.1 x2.2.2) w λw3=>
Aq r λa4=>
Au [iV 0] (a4.add 1) 0 w3 λw5=>
Aq r λa6=>
Au [iV 0] (a6.add 2) 0 w5 λw7=>
R (()) w7) (
R (()) w)
theorem Dw.ok{r:Option Addr}{w:World}{R:TR []→WP}:Dw.wp r w R→Ae prog F.Dw [.pointer r] w true [] R:=
 oks Aa Tryz.func213 .n
def Qu.wp(a:Int)(w:World)(R:TR Ar0→WP):Prop:=
R ((wrap .u16 (a+1),()),()) w
theorem Qu.ok{a:Int}{w:World}{R:TR Ar0→WP}:Qu.wp a w R→Ae prog F.Qu [uV a] w false Ar0 R:=
 oks Aa Tryz.func214 .n
def O7.wp(n:Option Addr)(w:World)(R:TR r0'→WP):Prop:=
Bf [.bool false] T.bool w λp1 w2=>
Aq n λa3=>
ld1 .p (a3.add 27) w2 λx4=>
Ae prog F.Jj [.pointer x4] w2 false fC λr5 w6=>
RfT prog r5.1.1 fC w6 (λx7 k8 w9=>
k8 w9 λgo10 lv11 w12=>
taV prog x7.1.1 T.Yr true true [] λx15 b16=>
Bf [] T.Yr w12 λp17 w18=>
Au [] p17 0 w18 λw19=>
Aj b16 (
Au [.bool true] p1 0 w19 λw20=>
lv11 0 w20) (
go10 w19)) (λD13 w14=>
Au [.bool false] p1 0 w14 λw21=>
tkK D13 w21 λw22=>
ld1 .b p1 w22 λx23=>
R ((x23,()),()) w22) [(0,λD13 w14=>
tkK D13 w14 λw24=>
ld1 .b p1 w24 λx25=>
R ((x25,()),()) w24)]
theorem O7.ok{n:Option Addr}{w:World}{R:TR r0'→WP}:O7.wp n w R→Ae prog F.O7 [.pointer n] w false r0' R:=
 oks Aa Tryz.func215 (.s .n (.s (.s .n (.rf [(false,[.any])] .n .n)) .n))
def Oj.wp(e:Option Addr)(w:World)(R:TR iT→WP):Prop:=
Aj (Option.isNone e) (
R ((0,()),()) w) (
Jg w λw1=>
Aq e λa2=>
ld1 .sl a2 w1 λx3=>
Aq e λa4=>
ld1 KI (a4.add 1) w1 λx5=>
R ((wrap .i64 ((x3.2.1:Int)-x5),()),()) w1)
theorem Oj.ok{e:Option Addr}{w:World}{R:TR iT→WP}:Oj.wp e w R→Ae prog F.Oj [.pointer e] w false iT R:=
 oks Aa Tryz.func216 (hs 2 (.s (.pl (ks [0,1,2,3,4,5,6,7,8,9,10] .z)) .n))
def Rl.wp(b:Option Addr×Nat×Nat)(w:World)(R:TR Ar0→WP):Prop:=
Ae prog F.X0 [uV 65535,.slice b.1 b.2.1 b.2.2] w false Ar0 λr1 w2=>
R ((r1.1.1,()),()) w2
theorem Rl.ok{b:Option Addr×Nat×Nat}{w:World}{R:TR Ar0→WP}:Rl.wp b w R→Ae prog F.Rl [.slice b.1 b.2.1 b.2.2] w false Ar0 R:=
 oks Aa Tryz.func217 .n
def Dp.wp(i:Int)(c_cap0:Addr)(w:World)(R:TR iT→WP):Prop:=
ld1 .sl c_cap0 w λx1=>
Ny x1.1 x1.2.1 i λa2=>
ld1 (.i .u64) (a2.add (i.toNat*1)) w λx3=>
R ((wrap .i64 x3,()),()) w
theorem Dp.ok{i:Int}{c_cap0:Addr}{w:World}{R:TR iT→WP}:Dp.wp i c_cap0 w R→Ae prog F.Dp [iV i,.pointer (some c_cap0)] w false iT R:=
 oks Aa Tryz.func218 .n
def Po.wp(i:Int)(c_cap0:Addr)(w:World)(R:TR Ar0→WP):Prop:=
ld1 .sl c_cap0 w λx1=>
Ny x1.1 x1.2.1 i λa2=>
ld1 (.i .u64) (a2.add (i.toNat*1)) w λx3=>
R ((wrap .u16 x3,()),()) w
theorem Po.ok{i:Int}{c_cap0:Addr}{w:World}{R:TR Ar0→WP}:Po.wp i c_cap0 w R→Ae prog F.Po [iV i,.pointer (some c_cap0)] w false Ar0 R:=
 oks Aa Tryz.func219 .n
def F5.wp(f0 f1 f2 f3 f4 f5:Int)(w:World)(R:TR uH→WP):Prop:=
R ((6,()),()) w
theorem F5.ok{f0 f1 f2 f3 f4 f5:Int}{w:World}{R:TR uH→WP}:F5.wp f0 f1 f2 f3 f4 f5 w R→Ae prog F.Fa [.iface T.Bh (.agg #[iV f0,uV f1,iV f2,uV f3,iV f4,iV f5])] w false uH R:=
 oks Aa Tryz.func220 .n
def Fv.wp(f0 f1 f2 f3 f4 f5:Int)(w:World)(R:TR uH→WP):Prop:=
R ((1,()),()) w
theorem Fv.ok{f0 f1 f2 f3 f4 f5:Int}{w:World}{R:TR uH→WP}:Fv.wp f0 f1 f2 f3 f4 f5 w R→Ae prog F.Fa [.iface T.Dy (.agg #[iV f0,iV f1,uV f2,uV f3,iV f4,iV f5])] w false uH R:=
 oks Aa Tryz.func220 .n
def Rx.wp(f0 f1:Int)(w:World)(R:TR uH→WP):Prop:=
R ((2,()),()) w
theorem Rx.ok{f0 f1:Int}{w:World}{R:TR uH→WP}:Rx.wp f0 f1 w R→Ae prog F.Fa [.iface T.Gj (.agg #[iV f0,iV f1])] w false uH R:=
 oks Aa Tryz.func220 .n
def Fz.wp(f0:Int)(w:World)(R:TR uH→WP):Prop:=
R ((3,()),()) w
theorem Fz.ok{f0:Int}{w:World}{R:TR uH→WP}:Fz.wp f0 w R→Ae prog F.Fa [.iface T.Gp (.agg #[iV f0])] w false uH R:=
 oks Aa Tryz.func220 .n
def Q5.wp(f0 f1 f2:Int)(w:World)(R:TR uH→WP):Prop:=
R ((4,()),()) w
theorem Q5.ok{f0 f1 f2:Int}{w:World}{R:TR uH→WP}:Q5.wp f0 f1 f2 w R→Ae prog F.Fa [.iface T.Ef (.agg #[iV f0,iV f1,iV f2])] w false uH R:=
 oks Aa Tryz.func220 .n
def Q9.wp(f0 f1 f2 f3 f4 f5 f6 f7:Int)(w:World)(R:TR uH→WP):Prop:=
R ((5,()),()) w
theorem Q9.ok{f0 f1 f2 f3 f4 f5 f6 f7:Int}{w:World}{R:TR uH→WP}:Q9.wp f0 f1 f2 f3 f4 f5 f6 f7 w R→Ae prog F.Fa [.iface T.Gl (.agg #[iV f0,iV f1,iV f2,iV f3,iV f4,iV f5,uV f6,iV f7])] w false uH R:=
 oks Aa Tryz.func220 .n
def Vo.wp(label:ByteArray)(w:World)(R:TR r0'→WP):Prop:=
rgK label w λit1 w2=>
Ci (λ(self3:((Int)×Unit)→WP) (z4:(Int)×Unit) w5=> ∀_:Nat→Value,
nxK it1 w5 (λw6=>
Aj (decide (z4.1≥1)) (
R ((decide (z4.1≤12),()),()) w6) (
R ((false,()),()) w6)) λi8 c9 w7=>
Aj (c9 !=95) (
Aj (decide (c9<97)) (
Aj (decide (c9<48)) (
R ((false,()),()) w7) (
Aj (decide (c9>57)) (
R ((false,()),()) w7) (
self3 (wrap .i64 (z4.1+1),()) w7))) (
Aj (decide (c9>122)) (
Aj (decide (c9<48)) (
R ((false,()),()) w7) (
Aj (decide (c9>57)) (
R ((false,()),()) w7) (
self3 (wrap .i64 (z4.1+1),()) w7))) (
self3 (wrap .i64 (z4.1+1),()) w7))) (
self3 (wrap .i64 (z4.1+1),()) w7)) (0,()) w2
theorem Vo.ok{label:ByteArray}{w:World}{R:TR r0'→WP}:Vo.wp label w R→Ae prog F.Vo [.string label] w false r0' R:=
 oks Aa Tryz.func223 (hs 2 (.s (.s .n (.lp [(3,(.i .i64))] .n)) .n))
def Dz.wp(r:Option Addr)(x0:Int)(x1:ByteArray)(x2 x3 x4 x5 x6 x7:Int)(w:World)(R:TR iT→WP):Prop:=
Bf [iV x0,.string x1,iV x2,iV x3,iV x4,iV x5,uV x6,iV x7] T.U1 w λp1 w2=>
Aj (Option.isNone r) (
R ((2,()),()) w2) (
Jg w2 λw3=>
Aq r λa4=>
ld1 KI (a4.add 2) w3 λx8=>
Aq r λa9=>
ld1 .sl a9 w3 λx10=>
Aj (x8==(x10.2.1:Int)) (
R ((6,()),()) w3) (
Jg w3 λw11=>
Aq r λa12=>
ld1 .sl a12 w11 λx13=>
Aq r λa14=>
ld1 KI (a14.add 1) w11 λx15=>
Aq r λa16=>
ld1 KI (a16.add 2) w11 λx17=>
Aq r λa18=>
ld1 .sl a18 w11 λx19=>
dF (x19.2.1:Int) (
A8 Ig p1 0 w11 λx20=>
Ny x13.1 x13.2.1 (Int.tmod (wrap .i64 (x15+x17)) (x19.2.1:Int)) λa21=>
Au (encs Ig x20) (a21.add ((Int.tmod (wrap .i64 (x15+x17)) (x19.2.1:Int)).toNat*8)) 0 w11 λw22=>
A7 [] w22∧(
Aq r λa23=>
ld1 KI (a23.add 2) w22 λx24=>
Aq r λa25=>
Au [iV (wrap .i64 (x24+1))] (a25.add 2) 0 w22 λw26=>
R ((0,()),()) w26))))
theorem Dz.ok{r:Option Addr}{x0:Int}{x1:ByteArray}{x2 x3 x4 x5 x6 x7:Int}{w:World}{R:TR iT→WP}:Dz.wp r x0 x1 x2 x3 x4 x5 x6 x7 w R→Ae prog F.Dz [.pointer r,.agg #[iV x0,.string x1,iV x2,iV x3,iV x4,iV x5,uV x6,iV x7]] w false iT R:=
 oks Aa Tryz.func224 (.s .n (.s (hs 2 (.s (.pl (ks [0,1,2,3,4,5,6,7,8,9,10] .z)) .n)) (.s (.pl (ks [0,1,2,3,4,5,6,7,8,9,10,11,12,13,14,15,16,17,18,19,20] (.ef 21 [3,7,11,16,19] .z))) .n)))
def Eb.wp(r:Option Addr)(w:World)(R:TR Us→WP):Prop:=
Bf z8' T.U1 w λp1 w2=>
Bf z8' T.U1 w2 λp3 w4=>
Ae prog F.Dj [.pointer r] w4 false iT λr5 w6=>
Aj (r5.1.1==0) (
A8 Ig p3 0 w6 λx7=>
Au (encs Ig x7) p1 0 w6 λw8=>
A8 Ig p1 0 w8 λx9=>
R (x9,(false,()),()) w8) (
Jg w6 λw10=>
Aq r λa11=>
ld1 .sl a11 w10 λx12=>
Aq r λa13=>
ld1 KI (a13.add 1) w10 λx14=>
Ny x12.1 x12.2.1 x14 λa15=>
A8 Ig (a15.add (x14.toNat*8)) 0 w10 λx16=>
Bf z8' T.U1 w10 λp17 w18=>
A7 [(9,((a15.add (x14.toNat*8)).add 0),(w10.cell? ((a15.add (x14.toNat*8)).add 0)).getD undef),(9,((a15.add (x14.toNat*8)).add 1),(w10.cell? ((a15.add (x14.toNat*8)).add 1)).getD undef),(9,((a15.add (x14.toNat*8)).add 2),(w10.cell? ((a15.add (x14.toNat*8)).add 2)).getD undef),(9,((a15.add (x14.toNat*8)).add 3),(w10.cell? ((a15.add (x14.toNat*8)).add 3)).getD undef),(9,((a15.add (x14.toNat*8)).add 4),(w10.cell? ((a15.add (x14.toNat*8)).add 4)).getD undef),(9,((a15.add (x14.toNat*8)).add 5),(w10.cell? ((a15.add (x14.toNat*8)).add 5)).getD undef),(9,((a15.add (x14.toNat*8)).add 6),(w10.cell? ((a15.add (x14.toNat*8)).add 6)).getD undef),(9,((a15.add (x14.toNat*8)).add 7),(w10.cell? ((a15.add (x14.toNat*8)).add 7)).getD undef),hd 7 (a13.add 1) w10,hd 3 a11 w10] w18∧(
Au (encs Ig x16) p17 0 w18 λw19=>
A7 [] w19∧(
Jg w19 λw20=>
Aq r λa21=>
ld1 .sl a21 w20 λx22=>
Aq r λa23=>
ld1 KI (a23.add 1) w20 λx24=>
A8 Ig p3 0 w20 λx25=>
Ny x22.1 x22.2.1 x24 λa26=>
Au (encs Ig x25) (a26.add (x24.toNat*8)) 0 w20 λw27=>
A7 [] w27∧(
Jg w27 λw28=>
Aq r λa29=>
ld1 KI (a29.add 1) w28 λx30=>
Aq r λa31=>
ld1 .sl a31 w28 λx32=>
dF (x32.2.1:Int) (
Aq r λa33=>
Au [iV (Int.tmod (wrap .i64 (x30+1)) (x32.2.1:Int))] (a33.add 1) 0 w28 λw34=>
A7 [] w34∧(
Aq r λa35=>
ld1 KI (a35.add 2) w34 λx36=>
Aq r λa37=>
Au [iV (wrap .i64 (x36-1))] (a37.add 2) 0 w34 λw38=>
A8 Ig p17 0 w38 λx39=>
Au (encs Ig x39) p1 0 w38 λw40=>
A8 Ig p1 0 w40 λx41=>
R (x41,(true,()),()) w40))))))
theorem Eb.ok{r:Option Addr}{w:World}{R:TR Us→WP}:Eb.wp r w R→Ae prog F.Eb [.pointer r] w true Us R:=
 oks Aa Tryz.func225 (hs 3 (.s (.pl (ks [0,1,2,3,4,5,6,7,8,9] (.ef 10 [] (.ef 11 [3,7,9] .z)))) (.s (.pl (ks [0,1,2,3,4,5,6,7,8,9] (.ef 10 [3,7,8] .z))) (.s (.pl (ks [0,1,2,3,4,5,6,7,8,9,10,11,12,13] (.ef 14 [4,9] .z))) .n))))
def Qw.wp(b:Option Addr)(w_0 w_1 time:Int)(w:World)(R:TR Akn→WP):Prop:=
Bf [iV w_0,uV w_1] T.lK w λp1 w2=>
Bf [iV 0,iV 0] T.uF w2 λp3 w4=>
Aj (Option.isNone b) (
Au [iV 0,iV 0] p3 0 w4 λw5=>
A8 [KI,KI] p3 0 w5 λx6=>
R ((x6.1,x6.2.1,()),(2,()),()) w5) (
Aq b λa7=>
ld1 .b a7 w4 λx8=>
Aj (!x8) (
Au [iV 0,iV 0] p3 0 w4 λw9=>
A8 [KI,KI] p3 0 w9 λx10=>
R ((x10.1,x10.2.1,()),(7,()),()) w9) (
Cc (λ(J11:((Bool)×Unit)→WP)=>
Jg w4 λw14=>
Aq b λa15=>
ld1 KI ((a15.add 1).add 2) w14 λx16=>
ld1 KI p1 w14 λx17=>
Aj (x16 !=x17) (
J11 (true,()) w14) (
Aq b λa18=>
ld1 KU ((a18.add 1).add 3) w14 λx19=>
ld1 KU (p1.add 1) w14 λx20=>
J11 ((x19 !=x20),()) w14)) (λ(z12:(Bool)×Unit) w13=> ∀_:Nat→Value,
Aj z12.1 (
Au [iV 0,iV 0] p3 0 w13 λw21=>
A8 [KI,KI] p3 0 w21 λx22=>
R ((x22.1,x22.2.1,()),(9,()),()) w21) (
Aj (decide (time<0)) (
Au [iV 0,iV 0] p3 0 w13 λw23=>
A8 [KI,KI] p3 0 w23 λx24=>
R ((x24.1,x24.2.1,()),(8,()),()) w23) (
Aj (decide (time>1125899906842624)) (
Au [iV 0,iV 0] p3 0 w13 λw25=>
A8 [KI,KI] p3 0 w25 λx26=>
R ((x26.1,x26.2.1,()),(8,()),()) w25) (
Aq b λa27=>
ld1 KI ((a27.add 1).add 4) w13 λx28=>
Ae prog F.Oi [iV (wrap .i64 (time-x28)),iV 1000] w13 true Aix λr29 w30=>
Aq b λa31=>
ld1 KI ((a31.add 1).add 5) w30 λx32=>
Au [iV (wrap .i64 (x32+r29.1.1)),iV r29.2.1.1] p3 0 w30 λw33=>
A8 [KI,KI] p3 0 w33 λx34=>
R ((x34.1,x34.2.1,()),(0,()),()) w33))))))
theorem Qw.ok{b:Option Addr}{w_0 w_1 time:Int}{w:World}{R:TR Akn→WP}:Qw.wp b w_0 w_1 time w R→Ae prog F.Qw [.pointer b,.agg #[iV w_0,uV w_1],iV time] w true Akn R:=
 oks Aa Tryz.func226 (.s .n (.s (hs 4 (.ct [(22,.b)] (.pl (ks [0,1,2,3,4,5,6,7,8,9,10,11,12,13,14,15,16,17,18] .z)) .n)) .n))
def Vj.wp(s:Option Addr×Nat×Nat)(w:World)(R:TR iT→WP):Prop:=
Ci (λ(self1:((Int)×Unit)→WP) (z2:(Int)×Unit) w3=> ∀_:Nat→Value,
Aj (decide (z2.1<(s.2.1:Int))) (
Ny s.1 s.2.1 z2.1 λa4=>
A8 [KI,KI] (a4.add (z2.1.toNat*2)) 0 w3 λx5=>
Ae prog F.dJ [.agg #[iV x5.1,iV x5.2.1]] w3 false r0' λr6 w7=>
Aj r6.1.1 (
R ((z2.1,()),()) w7) (
self1 (wrap .i64 (z2.1+1),()) w7)) (
R (((Int.negSucc 0),()),()) w3)) (0,()) w
theorem Vj.ok{s:Option Addr×Nat×Nat}{w:World}{R:TR iT→WP}:Vj.wp s w R→Ae prog F.rP [.slice s.1 s.2.1 s.2.2,.func (.func F.dJ) #[] #[]] w false iT R:=
 oks Aa Tryz.func228 (.s .n (.s (.s .n (.lp [(8,(.i .i64))] .n)) .n))
def Aee.wp(t0 t1 t2:Int)(t3:Option Addr×Nat×Nat)(day:Int)(w:World)(R:TR iT→WP):Prop:=
Bf [iV t0,iV t1,iV t2,.slice t3.1 t3.2.1 t3.2.2] T.Ai1 w λp1 w2=>
A8 vY p1 0 w2 λx3=>
Ae prog F.Abv [Sv vY x3,iV day] w2 false iT λr4 w5=>
R ((wrap .i64 ((wrap .i64 (86400*day))+r4.1.1),()),()) w5
theorem Aee.ok{t0 t1 t2:Int}{t3:Option Addr×Nat×Nat}{day:Int}{w:World}{R:TR iT→WP}:Aee.wp t0 t1 t2 t3 day w R→Ae prog F.Aee [.agg #[iV t0,iV t1,iV t2,.slice t3.1 t3.2.1 t3.2.2],iV day] w false iT R:=
 oks Aa Tryz.func231 .n
def Af1.wp(t0 t1 t2:Int)(t3:Option Addr×Nat×Nat)(day:Int)(w:World)(R:TR iT→WP):Prop:=
Bf [iV t0,iV t1,iV t2,.slice t3.1 t3.2.1 t3.2.2] T.Ai1 w λp1 w2=>
ld1 .sl (p1.add 3) w2 λx3=>
Ci (λ(self4:((Int)×Unit)→WP) (z5:(Int)×Unit) w6=> ∀_:Nat→Value,
Aj (decide (z5.1<(x3.2.1:Int))) (
Ny x3.1 x3.2.1 z5.1 λa7=>
A8 [KI,KI] (a7.add (z5.1.toNat*2)) 0 w6 λx8=>
Bf [iV 0,iV 0] T.Alg w6 λp9 w10=>
Au [iV x8.1,iV x8.2.1] p9 0 w10 λw11=>
ld1 KI p9 w11 λx12=>
Aj (x12==day) (
ld1 KI (p9.add 1) w11 λx13=>
R ((x13,()),()) w11) (
self4 (wrap .i64 (z5.1+1),()) w11)) (
R ((0,()),()) w6)) (0,()) w2
theorem Af1.ok{t0 t1 t2:Int}{t3:Option Addr×Nat×Nat}{day:Int}{w:World}{R:TR iT→WP}:Af1.wp t0 t1 t2 t3 day w R→Ae prog F.Af1 [.agg #[iV t0,iV t1,iV t2,.slice t3.1 t3.2.1 t3.2.2],iV day] w false iT R:=
 oks Aa Tryz.func232 (.s .n (.s (.s .n (.lp [(10,(.i .i64))] .n)) .n))
def aF.wp(t:Option Addr)(day:Int)(w:World)(R:TR fE→WP):Prop:=
Bf [iV day] T.int w λp1 w2=>
Jg w2 λw3=>
Aj (Option.isNone t) (
R ((0,()),(false,()),()) w3) (
ld1 KI p1 w3 λx4=>
Aq t λa5=>
ld1 KI a5 w3 λx6=>
Aj (decide (x4<x6)) (
R ((0,()),(false,()),()) w3) (
ld1 KI p1 w3 λx7=>
Aq t λa8=>
ld1 KI (a8.add 2) w3 λx9=>
Aj (decide (x7≥x9)) (
R ((0,()),(false,()),()) w3) (
Aq t λa10=>
ld1 KI (a10.add 1) w3 λx11=>
Bf [iV 0] T.int w3 λp12 w13=>
Au [iV x11] p12 0 w13 λw14=>
Ae prog F.uO [.pointer t] w14 false fC λZb w16=>
RfT prog Zb.1.1 Aj7 w16 (λx17 k18 w19=>
Bf [iV 0,iV 0] T.Ags w19 λp25 w26=>
Au [iV x17.1.1,iV x17.1.2.1] p25 0 w26 λw27=>
k18 w27 λgo20 lv21 w22=>
ld1 KI p25 w22 λx28=>
ld1 KI p1 w22 λx29=>
Aj (decide (x28<x29)) (
ld1 KI p12 w22 λx30=>
ld1 KI (p25.add 1) w22 λx31=>
Au [iV (wrap .i64 (x30+x31))] p12 0 w22 λw32=>
go20 w32) (
go20 w22)) (λD23 w24=>
ld1 KI p12 w24 λx33=>
tkK D23 w24 λw34=>
R ((x33,()),(true,()),()) w34) [])))
theorem aF.ok{t:Option Addr}{day:Int}{w:World}{R:TR fE→WP}:aF.wp t day w R→Ae prog F.aF [.pointer t,iV day] w true fE R:=
 oks Aa Tryz.func254 (.s .n (.s (.s (.pl (ks [0,1,2,3,4,5,6,7,8,9,10,11,12,13,14,15,16,17] .z)) .n) (.s .n (.s (.s .n (.rf [(true,[(.i .i64),(.i .i64)])] .n .n)) .n))))
def kE.wp(n:Int)(f_c0 f_c1:Addr)(w:World)(R:TR iT→WP):Prop:=
Ci (λ(self1:((Int)×(Int)×Unit)→WP) (z2:(Int)×(Int)×Unit) w3=> ∀_:Nat→Value,
Aj (decide (z2.1<z2.2.1)) (
fJ 1 (
Ae prog F.aA [iV (wrap .i64 (Qv .u64 (wrap .u64 (wrap .i64 (z2.1+z2.2.1))) 1)),.pointer (some f_c0),.pointer (some f_c1)] w3 false r0' λr4 w5=>
Aj (!r4.1.1) (
self1 (wrap .i64 ((wrap .i64 (Qv .u64 (wrap .u64 (wrap .i64 (z2.1+z2.2.1))) 1))+1),z2.2.1,()) w5) (
self1 (z2.1,wrap .i64 (Qv .u64 (wrap .u64 (wrap .i64 (z2.1+z2.2.1))) 1),()) w5))) (
R ((z2.1,()),()) w3)) (0,n,()) w
theorem kE.ok{n:Int}{f_c0 f_c1:Addr}{w:World}{R:TR iT→WP}:kE.wp n f_c0 f_c1 w R→Ae prog F.sort_Search [iV n,.func (.func F.aA) #[] #[.pointer (some f_c0),.pointer (some f_c1)]] w false iT R:=
 oks Aa Tryz.func255 (hs 2 (.s (.lp [(5,(.i .i64)),(6,(.i .i64))] .n) .n))
def aA.wp(i:Int)(c_cap0 c_cap1:Addr)(w:World)(R:TR r0'→WP):Prop:=
Jg w λw1=>
ld1 .p c_cap0 w1 λx2=>
Aq x2 λa3=>
ld1 .sl (a3.add 3) w1 λx4=>
Ny x4.1 x4.2.1 i λa5=>
ld1 KI (a5.add (i.toNat*2)) w1 λx6=>
ld1 KI c_cap1 w1 λx7=>
R ((decide (x6≥x7),()),()) w1
theorem aA.ok{i:Int}{c_cap0 c_cap1:Addr}{w:World}{R:TR r0'→WP}:aA.wp i c_cap0 c_cap1 w R→Ae prog F.aA [iV i,.pointer (some c_cap0),.pointer (some c_cap1)] w false r0' R:=
 oks Aa Tryz.func256 (.s .n (.s (.pl (ks [0,1,2,3,4,5,6,7,8,9,10] .z)) .n))
def Ahn.wp(number:Int)(w:World)(R:TR Aar→WP):Prop:=
Bf Ao4 T.An9 w λp1 w2=>
Aj (decide (number<(Int.negSucc 719161))) (
Au Ao4 p1 0 w2 λw3=>
A8 Aab p1 0 w3 λx4=>
R (x4,(false,()),()) w3) (
Aj (decide (number>2932896)) (
Au Ao4 p1 0 w2 λw5=>
A8 Aab p1 0 w5 λx6=>
R (x6,(false,()),()) w5) (
dF 366 (
Ci (λ(self7:((Int)×Unit)→WP) (z8:(Int)×Unit) w9=> ∀_:Nat→Value,
Ae prog F.Aac [iV (wrap .i64 (z8.1+1))] w9 false iT λr10 w11=>
Aj (decide (r10.1.1≤(wrap .i64 (number-(Int.negSucc 719161))))) (
self7 (wrap .i64 (z8.1+1),()) w11) (
Ae prog F.Aac [iV z8.1] w11 false iT λr12 w13=>
Ci (λ(self14:((Int)×(Int)×Unit)→WP) (z15:(Int)×(Int)×Unit) w16=> ∀_:Nat→Value,
Ae prog F.Aad [iV z8.1,iV z15.2.1] w16 false iT λr17 w18=>
Aj (decide (z15.1≥r17.1.1)) (
Ae prog F.Aad [iV z8.1,iV z15.2.1] w18 false iT λr19 w20=>
self14 (wrap .i64 (z15.1-r19.1.1),wrap .i64 (z15.2.1+1),()) w20) (
Au [iV z8.1,iV z15.2.1,iV (wrap .i64 (z15.1+1))] p1 0 w18 λw21=>
A8 Aab p1 0 w21 λx22=>
R (x22,(true,()),()) w21)) (wrap .i64 ((wrap .i64 (number-(Int.negSucc 719161)))-r12.1.1),1,()) w13)) (wrap .i64 ((wrap .i64 (Int.tdiv (wrap .i64 (number-(Int.negSucc 719161))) 366))+1),()) w2)))
theorem Ahn.ok{number:Int}{w:World}{R:TR Aar→WP}:Ahn.wp number w R→Ae prog F.Ahn [iV number] w true Aar R:=
 oks Aa Tryz.func257 (hs 4 (.s (.lp [(5,(.i .i64))] .n) (hs 2 (.s (.lp [(4,(.i .i64)),(6,(.i .i64))] .n) .n))))
def Hq.wp(r0 r1:Int)(w:World)(R:TR r0'→WP):Prop:=
Bf [iV r0,iV r1] T.nU w λp1 w2=>
ld1 KI p1 w2 λx3=>
Aj (decide (x3≥1)) (
ld1 KI p1 w2 λx4=>
Aj (decide (x4≤1000)) (
ld1 KI (p1.add 1) w2 λx5=>
Aj (decide (x5≥0)) (
ld1 KI (p1.add 1) w2 λx6=>
R ((decide (x6≤1000),()),()) w2) (
R ((false,()),()) w2)) (
R ((false,()),()) w2)) (
R ((false,()),()) w2)
theorem Hq.ok{r0 r1:Int}{w:World}{R:TR r0'→WP}:Hq.wp r0 r1 w R→Ae prog F.Hq [.agg #[iV r0,iV r1]] w false r0' R:=
 oks Aa Tryz.func258 .n
def Jt.wp(e:Option Addr)(w:World)(R:TR r0'→WP):Prop:=
Aj (Option.isNone e) (
R ((false,()),()) w) (
Ae prog F.Bc [.pointer e] w false r0' λr1 w2=>
Aj r1.1.1 (
Aq e λa3=>
ld1 KI (a3.add 7) w2 λx4=>
Aq e λa5=>
Au [iV (if 0>(wrap .i64 (x4-1)) then 0 else(wrap .i64 (x4-1)))] (a5.add 7) 0 w2 λw6=>
R ((false,()),()) w6) (
Aq e λa7=>
ld1 KI (a7.add 6) w2 λx8=>
Aq e λa9=>
Au [iV (wrap .i64 (x8+1))] (a9.add 6) 0 w2 λw10=>
Jg w10 λw11=>
Aq e λa12=>
ld1 KI (a12.add 6) w11 λx13=>
Aq e λa14=>
ld1 KI (a14.add 1) w11 λx15=>
Aj (decide (x13<x15)) (
R ((false,()),()) w11) (
Jg w11 λw16=>
Aq e λa17=>
ld1 KI a17 w16 λx18=>
Aq e λa19=>
ld1 KI ((a19.add 1).add 1) w16 λx20=>
Aq e λa21=>
Au [iV x18] (a21.add 5) 0 w16 λw22=>
A7 [] w22∧(
Aq e λa23=>
Au [iV 0] (a23.add 6) 0 w22 λw24=>
A7 [] w24∧(
Aq e λa25=>
Au [iV x20] (a25.add 7) 0 w24 λw26=>
A7 [] w26∧(
R ((true,()),()) w26))))))
theorem Jt.ok{e:Option Addr}{w:World}{R:TR r0'→WP}:Jt.wp e w R→Ae prog F.Jt [.pointer e] w false r0' R:=
 oks Aa Tryz.func259 (hs 3 (.s (.s (.pl (ks [0,1,2,3,4,5,6,7,8,9] .z)) .n) (.s (.pl (ks [0,1,2,3,4,5,6,7,8,9,10,11,12,13] (.ef 14 [6,11] (.tk 15 (.tk 16 (.ef 17 [] (.tk 18 (.tk 19 (.ef 20 [] .z))))))))) .n)))
def La.wp(f:Option Addr)(local_:Int)(w:World)(R:TR Arv→WP):Prop:=
Bf Aae T.Dy w λp1 w2=>
Aq f λa3=>
ld1 .p a3 w2 λx4=>
Ae prog F.Bc [.pointer x4] w2 false r0' λr5 w6=>
Aj r5.1.1 (
Aq f λa7=>
ld1 .p a7 w6 λx8=>
Ae prog F.I5 [.pointer x8] w6 true dB λr9 w10=>
Bf [uV 0,uV 0] T.yB w10 λp11 w12=>
Au [uV r9.1.1,uV r9.1.2.1] p11 0 w12 λw13=>
Jg w13 λw14=>
Aq f λa15=>
ld1 KI (a15.add 1) w14 λx16=>
Aq f λa17=>
ld1 KI (a17.add 1) w14 λx18=>
ld1 KU p11 w14 λx19=>
ld1 KU (p11.add 1) w14 λx20=>
Au [iV x16,iV x18,uV x19,uV x20,iV 0,iV local_] p1 0 w14 λw21=>
A7 [] w21∧(
A8 Xx p1 0 w21 λx22=>
R (x22,(true,()),()) w21)) (
Ae prog F.Ba [.pointer f] w6 false r0' λr23 w24=>
Aj (!r23.1.1) (
Au Aae p1 0 w24 λw25=>
A8 Xx p1 0 w25 λx26=>
R (x26,(false,()),()) w25) (
Aq f λa27=>
ld1 .p a27 w24 λx28=>
Ae prog F.Hl [.pointer x28] w24 true dB λr29 w30=>
Bf [uV 0,uV 0] T.yB w30 λp31 w32=>
Au [uV r29.1.1,uV r29.1.2.1] p31 0 w32 λw33=>
Cc (λ(J34:((Addr)×Unit)→WP)=>
Jg w33 λw37=>
Aq f λa38=>
ld1 KI (a38.add 1) w37 λx39=>
Aq f λa40=>
ld1 .p a40 w37 λx41=>
ld1 KU p31 w37 λx42=>
ld1 KU (p31.add 1) w37 λx43=>
Aq f λa44=>
ld1 KI ((a44.add 7).add 2) w37 λx45=>
Aq f λa46=>
ld1 KI ((a46.add 7).add 1) w37 λx47=>
Aq f λa48=>
ld1 KI (a48.add 7) w37 λx49=>
(
Ae prog F.Dc [.pointer x41] w37 false iT λr50 w51=>
A7 [hd 29 (a48.add 7) w37,hd 22 ((a46.add 7).add 1) w37,hd 17 ((a44.add 7).add 2) w37,hd 12 (p31.add 1) w37,hd 10 p31 w37,hd 7 a40 w37,hd 3 (a38.add 1) w37] w51∧(
Bf Aae T.Dy w51 λp52 w53=>
A7 [hd 29 (a48.add 7) w37,hd 22 ((a46.add 7).add 1) w37,hd 17 ((a44.add 7).add 2) w37,hd 12 (p31.add 1) w37,hd 10 p31 w37,hd 7 a40 w37,hd 3 (a38.add 1) w37] w53∧(
Au [iV x39,iV r50.1.1,uV x42,uV x43,iV x45,iV (wrap .i64 ((wrap .i64 (x47+local_))-x49))] p52 0 w53 λw54=>
A7 [] w54∧(
J34 (p52,()) w54))))∧(
Bf Aae T.Dy w37 λp55 w56=>
A7 [hd 29 (a48.add 7) w37,hd 22 ((a46.add 7).add 1) w37,hd 17 ((a44.add 7).add 2) w37,hd 12 (p31.add 1) w37,hd 10 p31 w37,hd 7 a40 w37,hd 3 (a38.add 1) w37] w56∧(
Ae prog F.Dc [.pointer x41] w56 false iT λr57 w58=>
A7 [hd 29 (a48.add 7) w37,hd 22 ((a46.add 7).add 1) w37,hd 17 ((a44.add 7).add 2) w37,hd 12 (p31.add 1) w37,hd 10 p31 w37,hd 3 (a38.add 1) w37] w58∧(
Au [iV x39,iV r57.1.1,uV x42,uV x43,iV x45,iV (wrap .i64 ((wrap .i64 (x47+local_))-x49))] p55 0 w58 λw59=>
A7 [] w59∧(
J34 (p55,()) w59))))) (λ(z35:(Addr)×Unit) w36=> ∀_:Nat→Value,
Jg w36 λw60=>
A8 Xx z35.1 0 w60 λx61=>
A8 Xx z35.1 0 w60 λx62=>
Ae prog F.Ew [.iface T.Dy (Sv Xx x62)] w60 false r0' λr63 kJ=>
A7 [hd 1 (z35.1.add 0) w60,hd 1 (z35.1.add 1) w60,hd 1 (z35.1.add 2) w60,hd 1 (z35.1.add 3) w60,hd 1 (z35.1.add 4) w60,hd 1 (z35.1.add 5) w60,hd 0 (z35.1.add 0) w60,hd 0 (z35.1.add 1) w60,hd 0 (z35.1.add 2) w60,hd 0 (z35.1.add 3) w60,hd 0 (z35.1.add 4) w60,hd 0 (z35.1.add 5) w60] kJ∧(
Au (encs Xx x61) p1 0 kJ λw65=>
A7 [hd 1 (z35.1.add 0) w60,hd 1 (z35.1.add 1) w60,hd 1 (z35.1.add 2) w60,hd 1 (z35.1.add 3) w60,hd 1 (z35.1.add 4) w60,hd 1 (z35.1.add 5) w60] w65∧(
A8 Xx p1 0 w65 λx66=>
R (x66,(r63.1.1,()),()) w65)))))
theorem La.ok{f:Option Addr}{local_:Int}{w:World}{R:TR Arv→WP}:La.wp f local_ w R→Ae prog F.La [.pointer f,iV local_] w true Arv R:=
 oks Aa Tryz.func260 (.s .n (.s (.s .n (.s (.s .n (.s (.pl (ks [0,1,2,3,4,5,6,7,8,9,10,11,12,13] (.ef 14 [3,7,9,11] (.tk 15 .z)))) .n)) .n)) (hs 2 (.ct [(10,.a)] (.pl (ks [0,1,2,3,4,5,6,7,9,10,11,12,13,14,15,16,17,18,19,20,21,22,23,24,25,26,27,28,29,30] (.two 8 32 (.tk 31 (.ef 32 [] (.ef 33 [3,7,10,12,17,22,29] .z))) (.ef 8 [7] (.tk 31 (.ef 33 [3,10,12,17,22,29] .z)))))) (.s (.pl (ks [0,1,2] (.ef 3 [] (.ef 4 [0] (.tk 5 .z))))) .n)))))
def Pn.wp(f0 f1 f2 f3 f4 f5:Int)(w:World)(R:TR xA→WP):Prop:=
Ae prog F.Ew [.iface T.Bh (.agg #[iV f0,uV f1,iV f2,uV f3,iV f4,iV f5])] w false r0' λr1 w2=>
Aj (!r1.1.1) (
R (((none,0,0),()),(1,()),()) w2) (
Bf [.slice none 0 0] T.Vh w2 λp3 w4=>
Ae prog F.Fa [.iface T.Bh (.agg #[iV f0,uV f1,iV f2,uV f3,iV f4,iV f5])] w4 false uH λr5 w6=>
Ae prog F.Bv [.pointer (some p3),iV 1,.int .u64 (wrap .u64 r5.1.1)] w6 false Arw λr7 w8=>
Ae prog F.Dt [.agg #[iV f0,uV f1,iV f2,uV f3,iV f4,iV f5]] w8 false dH λr9 w10=>
Ci (λ(self11:((Int)×Unit)→WP) (z12:(Int)×Unit) w13=> ∀_:Nat→Value,
Aj (decide (z12.1<(r9.1.1.2.1:Int))) (
Ny r9.1.1.1 r9.1.1.2.1 z12.1 λa14=>
A8 Aab (a14.add (z12.1.toNat*3)) 0 w13 λx15=>
Bf Ao4 T.Dl w13 λp16 w17=>
Au (encs Aab x15) p16 0 w17 λw18=>
ld1 KI p16 w18 λx19=>
ld1 KI (p16.add 1) w18 λx20=>
Ae prog F.Bv [.pointer (some p3),iV x19,.int .u64 (wrap .u64 x20)] w18 false Arw λr21 w22=>
self11 (wrap .i64 (z12.1+1),()) w22) (
Ae prog F.Fj [.pointer (some p3)] w13 false dH λr23 w24=>
Ae prog F.Tz [.slice r23.1.1.1 r23.1.1.2.1 r23.1.1.2.2] w24 false dH λr25 w26=>
R (((r25.1.1.1,r25.1.1.2.1,r25.1.1.2.2),()),(0,()),()) w26)) (0,()) w10)
theorem Pn.ok{f0 f1 f2 f3 f4 f5:Int}{w:World}{R:TR xA→WP}:Pn.wp f0 f1 f2 f3 f4 f5 w R→Ae prog F.Il [.iface T.Bh (.agg #[iV f0,uV f1,iV f2,uV f3,iV f4,iV f5])] w true xA R:=
 oks Aa Tryz.func261 (hs 4 (.s (.s .n (.lp [(17,(.i .i64))] .n)) .n))
def G8.wp(f0 f1 f2 f3 f4 f5:Int)(w:World)(R:TR xA→WP):Prop:=
Ae prog F.Ew [.iface T.Dy (.agg #[iV f0,iV f1,uV f2,uV f3,iV f4,iV f5])] w false r0' λr1 w2=>
Aj (!r1.1.1) (
R (((none,0,0),()),(1,()),()) w2) (
Bf [.slice none 0 0] T.Vh w2 λp3 w4=>
Ae prog F.Fa [.iface T.Dy (.agg #[iV f0,iV f1,uV f2,uV f3,iV f4,iV f5])] w4 false uH λr5 w6=>
Ae prog F.Bv [.pointer (some p3),iV 1,.int .u64 (wrap .u64 r5.1.1)] w6 false Arw λr7 w8=>
Ae prog F.Dh [.agg #[iV f0,iV f1,uV f2,uV f3,iV f4,iV f5]] w8 false dH λr9 w10=>
Ci (λ(self11:((Int)×Unit)→WP) (z12:(Int)×Unit) w13=> ∀_:Nat→Value,
Aj (decide (z12.1<(r9.1.1.2.1:Int))) (
Ny r9.1.1.1 r9.1.1.2.1 z12.1 λa14=>
A8 Aab (a14.add (z12.1.toNat*3)) 0 w13 λx15=>
Bf Ao4 T.Dl w13 λp16 w17=>
Au (encs Aab x15) p16 0 w17 λw18=>
ld1 KI p16 w18 λx19=>
ld1 KI (p16.add 1) w18 λx20=>
Ae prog F.Bv [.pointer (some p3),iV x19,.int .u64 (wrap .u64 x20)] w18 false Arw λr21 w22=>
self11 (wrap .i64 (z12.1+1),()) w22) (
Ae prog F.Fj [.pointer (some p3)] w13 false dH λr23 w24=>
Ae prog F.Tz [.slice r23.1.1.1 r23.1.1.2.1 r23.1.1.2.2] w24 false dH λr25 w26=>
R (((r25.1.1.1,r25.1.1.2.1,r25.1.1.2.2),()),(0,()),()) w26)) (0,()) w10)
theorem G8.ok{f0 f1 f2 f3 f4 f5:Int}{w:World}{R:TR xA→WP}:G8.wp f0 f1 f2 f3 f4 f5 w R→Ae prog F.Il [.iface T.Dy (.agg #[iV f0,iV f1,uV f2,uV f3,iV f4,iV f5])] w true xA R:=
 oks Aa Tryz.func261 (hs 4 (.s (.s .n (.lp [(17,(.i .i64))] .n)) .n))
def Qm.wp(f0 f1:Int)(w:World)(R:TR xA→WP):Prop:=
Ae prog F.Ew [.iface T.Gj (.agg #[iV f0,iV f1])] w false r0' λr1 w2=>
Aj (!r1.1.1) (
R (((none,0,0),()),(1,()),()) w2) (
Bf [.slice none 0 0] T.Vh w2 λp3 w4=>
Ae prog F.Fa [.iface T.Gj (.agg #[iV f0,iV f1])] w4 false uH λr5 w6=>
Ae prog F.Bv [.pointer (some p3),iV 1,.int .u64 (wrap .u64 r5.1.1)] w6 false Arw λr7 w8=>
Ae prog F.Ic [.agg #[iV f0,iV f1]] w8 false dH λr9 w10=>
Ci (λ(self11:((Int)×Unit)→WP) (z12:(Int)×Unit) w13=> ∀_:Nat→Value,
Aj (decide (z12.1<(r9.1.1.2.1:Int))) (
Ny r9.1.1.1 r9.1.1.2.1 z12.1 λa14=>
A8 Aab (a14.add (z12.1.toNat*3)) 0 w13 λx15=>
Bf Ao4 T.Dl w13 λp16 w17=>
Au (encs Aab x15) p16 0 w17 λw18=>
ld1 KI p16 w18 λx19=>
ld1 KI (p16.add 1) w18 λx20=>
Ae prog F.Bv [.pointer (some p3),iV x19,.int .u64 (wrap .u64 x20)] w18 false Arw λr21 w22=>
self11 (wrap .i64 (z12.1+1),()) w22) (
Ae prog F.Fj [.pointer (some p3)] w13 false dH λr23 w24=>
Ae prog F.Tz [.slice r23.1.1.1 r23.1.1.2.1 r23.1.1.2.2] w24 false dH λr25 w26=>
R (((r25.1.1.1,r25.1.1.2.1,r25.1.1.2.2),()),(0,()),()) w26)) (0,()) w10)
theorem Qm.ok{f0 f1:Int}{w:World}{R:TR xA→WP}:Qm.wp f0 f1 w R→Ae prog F.Il [.iface T.Gj (.agg #[iV f0,iV f1])] w true xA R:=
 oks Aa Tryz.func261 (hs 4 (.s (.s .n (.lp [(17,(.i .i64))] .n)) .n))
def G9.wp(f0:Int)(w:World)(R:TR xA→WP):Prop:=
Ae prog F.Ew [.iface T.Gp (.agg #[iV f0])] w false r0' λr1 w2=>
Aj (!r1.1.1) (
R (((none,0,0),()),(1,()),()) w2) (
Bf [.slice none 0 0] T.Vh w2 λp3 w4=>
Ae prog F.Fa [.iface T.Gp (.agg #[iV f0])] w4 false uH λr5 w6=>
Ae prog F.Bv [.pointer (some p3),iV 1,.int .u64 (wrap .u64 r5.1.1)] w6 false Arw λr7 w8=>
Ae prog F.D8 [.agg #[iV f0]] w8 false dH λr9 w10=>
Ci (λ(self11:((Int)×Unit)→WP) (z12:(Int)×Unit) w13=> ∀_:Nat→Value,
Aj (decide (z12.1<(r9.1.1.2.1:Int))) (
Ny r9.1.1.1 r9.1.1.2.1 z12.1 λa14=>
A8 Aab (a14.add (z12.1.toNat*3)) 0 w13 λx15=>
Bf Ao4 T.Dl w13 λp16 w17=>
Au (encs Aab x15) p16 0 w17 λw18=>
ld1 KI p16 w18 λx19=>
ld1 KI (p16.add 1) w18 λx20=>
Ae prog F.Bv [.pointer (some p3),iV x19,.int .u64 (wrap .u64 x20)] w18 false Arw λr21 w22=>
self11 (wrap .i64 (z12.1+1),()) w22) (
Ae prog F.Fj [.pointer (some p3)] w13 false dH λr23 w24=>
Ae prog F.Tz [.slice r23.1.1.1 r23.1.1.2.1 r23.1.1.2.2] w24 false dH λr25 w26=>
R (((r25.1.1.1,r25.1.1.2.1,r25.1.1.2.2),()),(0,()),()) w26)) (0,()) w10)
theorem G9.ok{f0:Int}{w:World}{R:TR xA→WP}:G9.wp f0 w R→Ae prog F.Il [.iface T.Gp (.agg #[iV f0])] w true xA R:=
 oks Aa Tryz.func261 (hs 4 (.s (.s .n (.lp [(17,(.i .i64))] .n)) .n))
def Qa.wp(f0 f1 f2:Int)(w:World)(R:TR xA→WP):Prop:=
Ae prog F.Ew [.iface T.Ef (.agg #[iV f0,iV f1,iV f2])] w false r0' λr1 w2=>
Aj (!r1.1.1) (
R (((none,0,0),()),(1,()),()) w2) (
Bf [.slice none 0 0] T.Vh w2 λp3 w4=>
Ae prog F.Fa [.iface T.Ef (.agg #[iV f0,iV f1,iV f2])] w4 false uH λr5 w6=>
Ae prog F.Bv [.pointer (some p3),iV 1,.int .u64 (wrap .u64 r5.1.1)] w6 false Arw λr7 w8=>
Ae prog F.He [.agg #[iV f0,iV f1,iV f2]] w8 false dH λr9 w10=>
Ci (λ(self11:((Int)×Unit)→WP) (z12:(Int)×Unit) w13=> ∀_:Nat→Value,
Aj (decide (z12.1<(r9.1.1.2.1:Int))) (
Ny r9.1.1.1 r9.1.1.2.1 z12.1 λa14=>
A8 Aab (a14.add (z12.1.toNat*3)) 0 w13 λx15=>
Bf Ao4 T.Dl w13 λp16 w17=>
Au (encs Aab x15) p16 0 w17 λw18=>
ld1 KI p16 w18 λx19=>
ld1 KI (p16.add 1) w18 λx20=>
Ae prog F.Bv [.pointer (some p3),iV x19,.int .u64 (wrap .u64 x20)] w18 false Arw λr21 w22=>
self11 (wrap .i64 (z12.1+1),()) w22) (
Ae prog F.Fj [.pointer (some p3)] w13 false dH λr23 w24=>
Ae prog F.Tz [.slice r23.1.1.1 r23.1.1.2.1 r23.1.1.2.2] w24 false dH λr25 w26=>
R (((r25.1.1.1,r25.1.1.2.1,r25.1.1.2.2),()),(0,()),()) w26)) (0,()) w10)
theorem Qa.ok{f0 f1 f2:Int}{w:World}{R:TR xA→WP}:Qa.wp f0 f1 f2 w R→Ae prog F.Il [.iface T.Ef (.agg #[iV f0,iV f1,iV f2])] w true xA R:=
 oks Aa Tryz.func261 (hs 4 (.s (.s .n (.lp [(17,(.i .i64))] .n)) .n))
def P9.wp(f0 f1 f2 f3 f4 f5 f6 f7:Int)(w:World)(R:TR xA→WP):Prop:=
Ae prog F.Ew [.iface T.Gl (.agg #[iV f0,iV f1,iV f2,iV f3,iV f4,iV f5,uV f6,iV f7])] w false r0' λr1 w2=>
Aj (!r1.1.1) (
R (((none,0,0),()),(1,()),()) w2) (
Bf [.slice none 0 0] T.Vh w2 λp3 w4=>
Ae prog F.Fa [.iface T.Gl (.agg #[iV f0,iV f1,iV f2,iV f3,iV f4,iV f5,uV f6,iV f7])] w4 false uH λr5 w6=>
Ae prog F.Bv [.pointer (some p3),iV 1,.int .u64 (wrap .u64 r5.1.1)] w6 false Arw λr7 w8=>
Ae prog F.G7 [.agg #[iV f0,iV f1,iV f2,iV f3,iV f4,iV f5,uV f6,iV f7]] w8 false dH λr9 w10=>
Ci (λ(self11:((Int)×Unit)→WP) (z12:(Int)×Unit) w13=> ∀_:Nat→Value,
Aj (decide (z12.1<(r9.1.1.2.1:Int))) (
Ny r9.1.1.1 r9.1.1.2.1 z12.1 λa14=>
A8 Aab (a14.add (z12.1.toNat*3)) 0 w13 λx15=>
Bf Ao4 T.Dl w13 λp16 w17=>
Au (encs Aab x15) p16 0 w17 λw18=>
ld1 KI p16 w18 λx19=>
ld1 KI (p16.add 1) w18 λx20=>
Ae prog F.Bv [.pointer (some p3),iV x19,.int .u64 (wrap .u64 x20)] w18 false Arw λr21 w22=>
self11 (wrap .i64 (z12.1+1),()) w22) (
Ae prog F.Fj [.pointer (some p3)] w13 false dH λr23 w24=>
Ae prog F.Tz [.slice r23.1.1.1 r23.1.1.2.1 r23.1.1.2.2] w24 false dH λr25 w26=>
R (((r25.1.1.1,r25.1.1.2.1,r25.1.1.2.2),()),(0,()),()) w26)) (0,()) w10)
theorem P9.ok{f0 f1 f2 f3 f4 f5 f6 f7:Int}{w:World}{R:TR xA→WP}:P9.wp f0 f1 f2 f3 f4 f5 f6 f7 w R→Ae prog F.Il [.iface T.Gl (.agg #[iV f0,iV f1,iV f2,iV f3,iV f4,iV f5,uV f6,iV f7])] w true xA R:=
 oks Aa Tryz.func261 (hs 4 (.s (.s .n (.lp [(17,(.i .i64))] .n)) .n))
end Go.Proofs.YticgocmhmffneaaGreatDoor
