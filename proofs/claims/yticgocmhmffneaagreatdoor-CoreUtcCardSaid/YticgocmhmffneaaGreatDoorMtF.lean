import Derived.Test.YticgocmhmffneaaGreatDoorMtD
import Derived.Test.YticgocmhmffneaaGreatDoorMtE
import Derived.Test.YticgocmhmffneaaGreatDoorEngR
namespace Go.Proofs.YticgocmhmffneaaGreatDoor
open Go Go.Eng Tryz
set_option linter.unusedSimpArgs false
set_option linter.unusedVariables false
set_option maxRecDepth 100000
set_option maxHeartbeats 8000000
abbrev qR:List CK:=[KI,KI,KI,.b,.i .u32,.s,.sl,.sl,.sl,.sl,.sl]
abbrev TAc:=Jf qR
structure Sml(x:TAc):Prop where
 b:x.2.2.2.2.2.2.1.2.1≤200
 s:x.2.2.2.2.2.1.size≤100
 t:x.2.2.2.2.2.2.2.1.2.1≤100
 c:x.2.2.2.2.2.2.2.2.1.2.1≤100
 h:x.2.2.2.2.2.2.2.2.2.1.2.1≤100
 l:x.2.2.2.2.2.2.2.2.2.2.1.2.1≤100
theorem law27_great.cl{a0 a1 a2 a4:Int}{a3:Bool}{a5:ByteArray}{a6 a7 a8 a9 a10:Sl}{w:World}{K:TR Wh→WP}(h1: ∀w',Af w w'→K ((true,()),()) w')(h0:Sml (a0,a1,a2,a3,a4,a5,a6,a7,a8,a9,a10,())→ ∀w',Af w w'→K ((false,()),()) w'):
  Ae prog F.law27_great [.agg #[iV a0,iV a1,iV a2,.bool a3,.int .u32 a4,.string a5,bP a6,bP a7,bP a8,bP a9,bP a10]] w false Wh K:=by
 refine law27_great.ok ?_
 unfold law27_great.wp
 refine Ad λp1 w2 e1 k1 u1=>?_
 change Az w2 p1 [iV a0,iV a1,iV a2,.bool a3,.int .u32 a4,.string a5,bP a6,bP a7,bP a8,bP a9,bP a10] at k1
 refine k1.cN 7 (cs:=K4s) (a7,a8,a9,a10,()) rfl (Ad λp4 w5 e4 k4 u4=>k4.Fg [bP a7,bP a8,bP a9,bP a10] rfl rfl λw6 k6 u6=>?_)
 have g6:Af w w6:=Af.fresh u1 u4 u6 e4
 have lt:=k1.lt
 have k1:=(k1.Ai u4).upd u6 (by omega)
 refine k1.c1 6 (c:=.sl) (x:=a6) rfl (Dx (λ_=>h1 w6 g6) λc1=>k1.c1 5 (c:=.s) (x:=a5) rfl (Dx (λ_=>h1 w6 g6) λc2=>k6.c0 (c:=.sl) (x:=a7) rfl (Dx (λ_=>h1 w6 g6) λc3=>k6.c1 1 (c:=.sl) (x:=a8) rfl (Dx (λ_=>h1 w6 g6) λc4=>k6.c1 2 (c:=.sl) (x:=a9) rfl (Dx (λ_=>h1 w6 g6) λc5=>k6.c1 3 (c:=.sl) (x:=a10) rfl ?_)))))
 have c1: ¬(a6.2.1:Int)>200:=c1
 have c2: ¬(a5.size:Int)>100:=c2
 have c3: ¬(a7.2.1:Int)>100:=c3
 have c4: ¬(a8.2.1:Int)>100:=c4
 have c5: ¬(a9.2.1:Int)>100:=c5
 by_cases c6:(a10.2.1:Int)>100
 ·have e:decide ((a10.2.1:Int)>100)=true:=decide_eq_true c6
  show K ((decide ((a10.2.1:Int)>100),()),()) w6
  rw[e];exact h1 w6 g6
 ·have e:decide ((a10.2.1:Int)>100)=false:=decide_eq_false c6
  show K ((decide ((a10.2.1:Int)>100),()),()) w6
  rw[e]
  exact h0 ⟨by show a6.2.1≤200;omega,by show a5.size≤100;omega,by show a7.2.1≤100;omega,by show a8.2.1≤100;omega,by show a9.2.1≤100;omega,by show a10.2.1≤100;omega⟩ w6 g6
end Go.Proofs.YticgocmhmffneaaGreatDoor
namespace Go.Proofs.YticgocmhmffneaaGreatDoor
open Go Go.Eng
set_option linter.unusedSimpArgs false
set_option linter.unusedVariables false
set_option maxRecDepth 100000
set_option maxHeartbeats 8000000
theorem Aml{n:Int}(h:(Lit.int .u32 n).wf=true):0≤n∧n<4294967296:=by
 have h:((Lit.int .u32 n).wf=true):=h
 simp[Lit.wf,IntKind.min,IntKind.max,IntKind.signed,IntKind.bits] at h
 omega
theorem Aov{n:Int}(h:(Lit.int .u8 n).wf=true):0≤n∧n<256:=by
 have h:((Lit.int .u8 n).wf=true):=h
 simp[Lit.wf,IntKind.min,IntKind.max,IntKind.signed,IntKind.bits] at h
 omega
theorem Aua{n:Int}(h:(Lit.int .u64 n).wf=true):0≤n∧n<18446744073709551616:=by
 have h:((Lit.int .u64 n).wf=true):=h
 simp[Lit.wf,IntKind.min,IntKind.max,IntKind.signed,IntKind.bits] at h
 omega
theorem sF: ∀{w:World} (rows:List (List Value)),(∀r∈rows,r.length=1∧zL w (.i .u8) r)→ ∃xs:List Nat,rows.flatten=dV xs∧eH xs
 |w,[],_=>⟨[],rfl,λx hx=>by cases hx⟩
 |w,r::rows,h=>by
  obtain⟨xs,e,hx⟩:=sF (w:=w) rows λq hq=>h q (by simp[hq])
  obtain⟨_,m,rfl,hm⟩:=h r (by simp)
  have hm:=Aov hm
  refine⟨m.toNat::xs,?_,λx hq=>?_⟩
  ·rw[List.flatten_cons,e]
   have:((m.toNat:Nat):Int)=m:=by omega
   show[Value.int .u8 m]++dV xs=Value.int .u8 ((m.toNat:Nat):Int)::dV xs
   rw[this];rfl
  ·rcases List.mem_cons.1 hq with rfl|hq
   ·omega
   ·exact hx x hq
theorem Ahq: ∀{w:World} (rows:List (List Value)),(∀r∈rows,r.length=1∧zL w (.i .u64) r)→ ∃xs:List Nat,rows.flatten=iY xs∧ ∀x∈xs,x<18446744073709551616
 |w,[],_=>⟨[],rfl,λx hx=>by cases hx⟩
 |w,r::rows,h=>by
  obtain⟨xs,e,hx⟩:=Ahq (w:=w) rows λq hq=>h q (by simp[hq])
  obtain⟨_,m,rfl,hm⟩:=h r (by simp)
  have hm:=Aua hm
  refine⟨m.toNat::xs,?_,λx hq=>?_⟩
  ·rw[List.flatten_cons,e]
   have:((m.toNat:Nat):Int)=m:=by omega
   show[Value.int .u64 m]++iY xs=Value.int .u64 ((m.toNat:Nat):Int)::iY xs
   rw[this];rfl
  ·rcases List.mem_cons.1 hq with rfl|hq
   ·omega
   ·exact hx x hq
theorem Ah6: ∀{w:World} (rows:List (List Value)),(∀r∈rows,r.length=1∧zL w (.i .i64) r)→ ∃xs:List Int,rows.flatten=Na xs
 |w,[],_=>⟨[],rfl⟩
 |w,r::rows,h=>by
  obtain⟨xs,e⟩:=Ah6 (w:=w) rows λq hq=>h q (by simp[hq])
  obtain⟨_,m,rfl,_⟩:=h r (by simp)
  exact⟨m::xs,by rw[List.flatten_cons,e];rfl⟩
theorem Alo{s' s:Sl}(e:[bP s]=[.slice s'.1 s'.2.1 s'.2.2]):s'=s:=by
 simp only[List.cons.injEq,Value.slice.injEq,and_true] at e
 obtain⟨a,b,c⟩:=s
 obtain⟨a',b',c'⟩:=s'
 simp only at e
 rw[e.1,e.2.1,e.2.2]
theorem rJ{w:World}{s:Sl}(h:zL w (.sl 1 (.i .u8)) [bP s]): ∃xs:List Nat,Ur w s xs∧s.2.1≤s.2.2∧eH xs:=by
 obtain⟨s',e,hc,_,rows,hl,hr,ho⟩:=h
 have e:=Alo e
 subst e
 obtain⟨xs,ex,hx⟩:=sF rows ho
 rw[ex] at hr
 exact⟨xs,hr,hc,hx⟩
theorem Aom{w:World}{s:Sl}(h:zL w (.sl 1 (.i .u64)) [bP s]): ∃xs:List Nat,Row w s 1 (iY xs)∧ ∀x∈xs,x<18446744073709551616:=by
 obtain⟨s',e,hc,_,rows,hl,hr,ho⟩:=h
 have e:=Alo e
 subst e
 obtain⟨xs,ex,hx⟩:=Ahq rows ho
 rw[ex] at hr
 exact⟨xs,hr,hx⟩
theorem sV{w:World}{s:Sl}(h:zL w (.sl 1 (.i .i64)) [bP s]): ∃xs:List Int,Row w s 1 (Na xs):=by
 obtain⟨s',e,hc,_,rows,hl,hr,ho⟩:=h
 have e:=Alo e
 subst e
 obtain⟨xs,ex⟩:=Ah6 rows ho
 rw[ex] at hr
 exact⟨xs,hr⟩
abbrev shT:Shp:=.cons 1 (.i .i64) (.cons 1 (.i .i64) (.cons 1 (.i .i64) (.cons 1 (.i .i64) (.cons 1 (.i .i64) (.cons 1 (.i .i64) (.cons 1 (.i .i64) (.cons 1 (.i .i64) (.cons 1 (.i .i64) (.cons 1 (.i .i64) (.cons 1 (.sl 1 (.i .i64)) (.nil)))))))))))
theorem kK{w:World}{cs:List Value}(h:zL w shT cs): ∃(S:dI) (so:Sl),cs=Q4 S so∧Row w so 1 (Na S.own):=by
 obtain⟨_,_,rfl,_,⟨a0,rfl,_⟩,_,_,rfl,_,⟨a1,rfl,_⟩,_,_,rfl,_,⟨a2,rfl,_⟩,_,_,rfl,_,⟨a3,rfl,_⟩,_,_,rfl,_,⟨a4,rfl,_⟩,_,_,rfl,_,⟨a5,rfl,_⟩,_,_,rfl,_,⟨a6,rfl,_⟩,_,_,rfl,_,⟨a7,rfl,_⟩,_,_,rfl,_,⟨a8,rfl,_⟩,_,_,rfl,_,⟨a9,rfl,_⟩,_,_,rfl,_,hsl,hn⟩:=h
 have hn:_=[]:=hn
 subst hn
 obtain⟨s,rfl,hr⟩:=hsl
 obtain⟨xs,h1⟩:=sV (w:=w) (s:=s) ⟨s,rfl,hr⟩
 exact⟨⟨a0,a1,a2,a3,a4,a5,a6,a7,a8,a9,xs⟩,s,rfl,h1⟩
abbrev Amh:Shp:=.cons 1 (.i .i64) (.cons 1 (.i .i64) (.cons 1 (.i .i64) (.cons 1 (.b) (.cons 1 (.i .u32) (.cons 1 (.s) (.cons 1 (.sl 1 (.i .u8)) (.cons 4 (.cons 1 (.sl 1 (.i .i64)) (.cons 1 (.sl 1 (.i .i64)) (.cons 1 (.sl 1 (.i .i64)) (.cons 1 (.sl 1 (.i .u64)) (.nil))))) (.nil))))))))
structure AR(w:World)(x:TAc)(bs:List Nat)(c:Ch):Prop where
 raw:0≤x.2.2.2.2.1∧x.2.2.2.2.1<4294967296
 b:Ur w x.2.2.2.2.2.2.1 bs
 bc:x.2.2.2.2.2.2.1.2.1≤x.2.2.2.2.2.2.1.2.2
 by':eH bs
 t:Row w x.2.2.2.2.2.2.2.1 1 (Na c.ticks)
 s:Row w x.2.2.2.2.2.2.2.2.1 1 (Na c.send)
 h:Row w x.2.2.2.2.2.2.2.2.2.1 1 (Na c.hear)
 l:Row w x.2.2.2.2.2.2.2.2.2.2.1 1 (iY c.lost)
 lb: ∀x∈c.lost,x<18446744073709551616
def AO(w:World)(x:TAc):Prop:= ∃bs c,AR w x bs c
theorem Aqf{w:World}{r:List Value}(h:zL w Amh r): ∃x:TAc,r=encs qR x∧AO w x:=by
 obtain⟨_,_,rfl,_,⟨kd,rfl,_⟩,_,_,rfl,_,⟨i,rfl,_⟩,_,_,rfl,_,⟨k,rfl,_⟩,_,_,rfl,_,⟨fl,rfl⟩,_,_,rfl,_,⟨raw,rfl,hraw⟩,_,_,rfl,_,⟨lab,rfl,_⟩,_,_,rfl,_,hb,_,_,rfl,_,⟨_,_,rfl,_,h0,_,_,rfl,_,h1,_,_,rfl,_,h2,_,_,rfl,_,h3,hx⟩,hn⟩:=h
 have hn:_=[]:=hn
 have hx:_=[]:=hx
 subst hn hx
 obtain⟨sb,rfl,hb⟩:=hb
 obtain⟨s0,rfl,h0⟩:=h0
 obtain⟨s1,rfl,h1⟩:=h1
 obtain⟨s2,rfl,h2⟩:=h2
 obtain⟨s3,rfl,h3⟩:=h3
 obtain⟨bs,b1,b2,b3⟩:=rJ (w:=w) (s:=sb) ⟨sb,rfl,hb⟩
 obtain⟨t,t1⟩:=sV (w:=w) (s:=s0) ⟨s0,rfl,h0⟩
 obtain⟨s,q1⟩:=sV (w:=w) (s:=s1) ⟨s1,rfl,h1⟩
 obtain⟨hh,r1⟩:=sV (w:=w) (s:=s2) ⟨s2,rfl,h2⟩
 obtain⟨l,l1,l2⟩:=Aom (w:=w) (s:=s3) ⟨s3,rfl,h3⟩
 exact⟨(kd,i,k,fl,raw,lab,sb,s0,s1,s2,s3,()),rfl,bs,⟨t,s,hh,l⟩,Aml hraw,b1,b2,b3,t1,q1,r1,l1,l2⟩
theorem kF{w:World}{s:Sl}(h:zL w (.sl 11 Amh) [bP s]): ∃xs:List TAc,aP w s qR xs∧ ∀x∈xs,AO w x:=by
 obtain⟨s',e,hc,_,rows,hl,hr,ho⟩:=h
 have e:=Alo e
 subst e
 obtain⟨xs,ex,_,hx⟩:=qQ (cs:=qR) (Q:=λ_=>True) (R:=AO w) rows λr hr=>by
  obtain⟨x,h1,h2⟩:=Aqf (ho r hr).2
  exact⟨x,h1,h2⟩
 rw[ex] at hr
 exact⟨xs,hr,hx⟩
theorem AO.Ai{w w':World}{x:TAc}(h:AO w x)(u:Af w w'):AO w' x:=by
 obtain⟨bs,c,a⟩:=h
 exact⟨bs,c,a.raw,Row.Ai a.b u,a.bc,a.by',Row.Ai a.t u,Row.Ai a.s u,Row.Ai a.h u,Row.Ai a.l u,a.lb⟩
end Go.Proofs.YticgocmhmffneaaGreatDoor
namespace Go.Proofs.YticgocmhmffneaaGreatDoor
open Go Go.Eng Tryz
set_option linter.unusedSimpArgs false
set_option linter.unusedVariables false
set_option maxRecDepth 100000
set_option maxHeartbeats 8000000
def doT(x:TAc)(bs:List Nat)(c:Ch)(t:Nt):Nt×Int:=
 if x.1=0 then t.link x.2.1 x.2.2.1 x.2.2.2.1
 else if x.1=1 then t.act x.2.1 λd=>(d.turn x.2.2.2.2.1,0)
 else if x.1=2 then t.act x.2.1 Nd.off
 else if x.1=3∨x.1=4∨x.1=5∨x.1=6 then t.step c
 else if x.1=9 then t.act x.2.1 λd=>d.fix x.2.2.1
 else if x.1=10 then t.act x.2.1 (nX bs)
 else(t,0)
structure Aax(w W:World)(Z Y:NP)(n m:Nat)(t:Nt):Prop where
 a:dW w W Z n t
 b:dW w W Y m t
 d: ∀z,Z z→Y z→False
theorem Aax.Ai{w W W':World}{Z Y:NP}{n m:Nat}{t:Nt}(l:Aax w W Z Y n m t)(u:Af W W'):Aax w W' Z Y n m t:=⟨l.a.Ai u,l.b.Ai u,l.d⟩
theorem Aax.both{w W W1 W2:World}{Z Y Z' Y':NP}{n m:Nat}{t t':Nt}(l:Aax w W Z Y n m t)(h1:TW W1 Z' n t')(x1:Nx Z W Z' W1)(h2:TW W2 Y' m t')(x2:Nx Y W1 Y' W2):Aax w W2 Z' Y' n m t':=by
 have lt1:=h1.lt
 have ltY:=l.b.h.lt
 have dz: ∀z,Z' z→Y z→False:=λz hz hy=>(x1.sub z hz).elim (λq=>l.d z q hy) λq=>by have:=ltY z hy;omega
 have hb:TW W1 Y m t:=l.b.h.upd x1.u λz hy hz=>l.d z hz hy
 have A:=l.a.nx h1 x1
 have B:dW w W1 Y m t:=⟨hb,A.g,l.b.z⟩
 have B2:=B.nx h2 x2
 refine⟨⟨h1.upd x2.u λz hz hy=>dz z hz hy,B2.g,A.z⟩,B2,λz hz hy=>(x2.sub z hy).elim (dz z hz) λq=>by have:=lt1 z hz;omega⟩
theorem Aax.snd{w W W1:World}{Z Y Z':NP}{n m:Nat}{t:Nt}(l:Aax w W Z Y n m t)(x1:Nx Z W Z' W1):TW W1 Y m t:=l.b.h.upd x1.u λz hy hz=>l.d z hz hy
structure Nx2(Z Y:NP)(w:World)(Z' Y':NP)(w':World):Prop where
 u:Am (λz=>Z z∨Y z) w w'
 a: ∀z,Z' z→Z z∨w.heap.size≤z
 b: ∀z,Y' z→Y z∨w.heap.size≤z
theorem Nx2.both{Z Y Z' Y':NP}{w w1 w2 w3:World}(g:Af w w1)(x:Nx Z w1 Z' w2)(y:Nx Y w2 Y' w3):Nx2 Z Y w Z' Y' w3:=
 ⟨Am.trans (Am.trans (Am.Bj g) (x.u.mono λ_ h=>.inl h) λ_ _ h=>h) (y.u.mono λ_ h=>.inr h) λ_ _ h=>h,λz h=>(x.sub z h).elim .inl λq=>.inr (Nat.le_trans g.size q),λz h=>(y.sub z h).elim .inl λq=>.inr (Nat.le_trans (Nat.le_trans g.size x.u.size) q)⟩
theorem Nx2.of{Z Y:NP}{w w':World}(g:Af w w'):Nx2 Z Y w Z Y w':=⟨Am.Bj g,λ_ h=>.inl h,λ_ h=>.inl h⟩
theorem Va(v:Int):(v==v)=true:=beq_self_eq_true v
theorem law27_twice.t{w W:World}{Z Y:NP}{n m:Nat}{t:Nt}{a0 a1 a2 a4:Int}{a3:Bool}{a5:ByteArray}{a6 a7 a8 a9 a10:Sl}{bs:List Nat}{c:Ch}(l:Aax w W Z Y n m t)(hT:Tb w)(A:AR w (a0,a1,a2,a3,a4,a5,a6,a7,a8,a9,a10,()) bs c)(sm:Sml (a0,a1,a2,a3,a4,a5,a6,a7,a8,a9,a10,())){K:TR Wh→WP}
  (hk: ∀W' Z' Y',Aax w W' Z' Y' n m (doT (a0,a1,a2,a3,a4,a5,a6,a7,a8,a9,a10,()) bs c t).1→Nx2 Z Y W Z' Y' W'→K ((true,()),()) W'):
  Ae prog F.law27_twice [pB n,pB m,.agg #[iV a0,iV a1,iV a2,.bool a3,.int .u32 a4,.string a5,bP a6,bP a7,bP a8,bP a9,bP a10]] W false Wh K:=by
 refine law27_twice.ok ?_
 unfold law27_twice.wp
 refine Ad λp1 w2 ep k1 u1=>?_
 change Az w2 p1 [iV a0,iV a1,iV a2,.bool a3,.int .u32 a4,.string a5,bP a6,bP a7,bP a8,bP a9,bP a10] at k1
 have ltZ:=l.a.h.lt
 have ltY:=l.b.h.lt
 have nZ: ¬Z p1:=λq=>by have:=ltZ p1 q;omega
 have nY: ¬Y p1:=λq=>by have:=ltY p1 q;omega
 have L:=l.Ai u1
 have raw:=A.raw
 refine k1.c0 (c:=KI) (x:=a0) rfl (Yl (λe=>?_) λe0=>Yl (λe=>?_) λe1=>Yl (λe=>?_) λe2=>?_)
 ·have hd:doT (a0,a1,a2,a3,a4,a5,a6,a7,a8,a9,a10,()) bs c t=t.link a1 a2 a3:=by unfold doT;exact if_pos e
  rw[hd] at hk
  rw[Be]
  have L:=L.Ai (Af.drew w2)
  have q:=k1.drew
  have G12:=u1.trans (Af.drew w2)
  generalize w2.drew=w12 at*
  refine q.c1 1 (c:=KI) (x:=a1) rfl (q.c1 2 (c:=KI) (x:=a2) rfl (q.c1 3 (c:=.b) (x:=a3) rfl (q.c1 1 (c:=KI) (x:=a1) rfl (q.c1 2 (c:=KI) (x:=a2) rfl (q.c1 3 (c:=.b) (x:=a3) rfl ?_)))))
  refine Cf.t L.a.h λw20 h1 v1=>?_
  have x1:Nx Z w12 Z w20:=⟨v1,λz h=>.inl h⟩
  refine⟨⟨q.hold v1 nZ 3 (by simp),q.hold v1 nZ 2 (by simp),q.hold v1 nZ 1 (by simp),q.hold v1 nZ 3 (by simp),q.hold v1 nZ 2 (by simp),q.hold v1 nZ 1 (by simp),trivial⟩,?_⟩
  refine Cf.t (L.snd x1) λw22 h2 v2=>?_
  have V:Am (λz=>Z z∨Y z) w12 w22:=Am.trans (v1.mono λ_ h=>.inl h) v2 λ_ _ h=>.inr h
  have nV: ¬(Z p1∨Y p1):=λh=>h.elim nZ nY
  refine⟨⟨q.hold V nV 3 (by simp),q.hold V nV 2 (by simp),q.hold V nV 1 (by simp),trivial⟩,?_⟩
  have:=hk w22 Z Y (L.both h1 x1 h2 ⟨v2,λz h=>.inl h⟩) (Nx2.both G12 x1 ⟨v2,λz h=>.inl h⟩)
  show K ((((t.link a1 a2 a3).2==(t.link a1 a2 a3).2),()),()) w22
  rw[Va];exact this
 ·have hd:doT (a0,a1,a2,a3,a4,a5,a6,a7,a8,a9,a10,()) bs c t=t.act a1 λd=>(d.turn a4,0):=by unfold doT;rw[if_neg e0];exact if_pos e
  rw[hd] at hk
  rw[Be]
  have L:=L.Ai (Af.drew w2)
  have q:=k1.drew
  have G12:=u1.trans (Af.drew w2)
  generalize w2.drew=w12 at*
  refine q.c1 1 (c:=KI) (x:=a1) rfl (q.c1 4 (c:=.i .u32) (x:=a4) rfl (q.c1 1 (c:=KI) (x:=a1) rfl (q.c1 4 (c:=.i .u32) (x:=a4) rfl ?_)))
  refine D7.t L.a.h raw.1 raw.2 λw20 Z1 h1 x1=>?_
  refine⟨⟨q.hold x1.u nZ 4 (by simp),q.hold x1.u nZ 1 (by simp),q.hold x1.u nZ 4 (by simp),q.hold x1.u nZ 1 (by simp),trivial⟩,?_⟩
  refine D7.t (L.snd x1) raw.1 raw.2 λw22 Y1 h2 x2=>?_
  have V:Am (λz=>Z z∨Y z) w12 w22:=Am.trans (x1.u.mono λ_ h=>.inl h) x2.u λ_ _ h=>.inr h
  have nV: ¬(Z p1∨Y p1):=λh=>h.elim nZ nY
  refine⟨⟨q.hold V nV 4 (by simp),q.hold V nV 1 (by simp),trivial⟩,?_⟩
  have:=hk w22 Z1 Y1 (L.both h1 x1 h2 x2) (Nx2.both G12 x1 x2)
  show K ((((t.act a1 λd=>(d.turn a4,0)).2==(t.act a1 λd=>(d.turn a4,0)).2),()),()) w22
  rw[Va];exact this
 ·have hd:doT (a0,a1,a2,a3,a4,a5,a6,a7,a8,a9,a10,()) bs c t=t.act a1 Nd.off:=by unfold doT;rw[if_neg e0,if_neg e1];exact if_pos e
  rw[hd] at hk
  rw[Be]
  have L:=L.Ai (Af.drew w2)
  have q:=k1.drew
  have G12:=u1.trans (Af.drew w2)
  generalize w2.drew=w12 at*
  refine q.c1 1 (c:=KI) (x:=a1) rfl (q.c1 1 (c:=KI) (x:=a1) rfl ?_)
  refine Gy.t L.a.h λw20 Z1 h1 x1=>?_
  refine⟨⟨q.hold x1.u nZ 1 (by simp),q.hold x1.u nZ 1 (by simp),trivial⟩,?_⟩
  refine Gy.t (L.snd x1) λw22 Y1 h2 x2=>?_
  have V:Am (λz=>Z z∨Y z) w12 w22:=Am.trans (x1.u.mono λ_ h=>.inl h) x2.u λ_ _ h=>.inr h
  have nV: ¬(Z p1∨Y p1):=λh=>h.elim nZ nY
  refine⟨⟨q.hold V nV 1 (by simp),trivial⟩,?_⟩
  have:=hk w22 Z1 Y1 (L.both h1 x1 h2 x2) (Nx2.both G12 x1 x2)
  show K ((((t.act a1 Nd.off).2==(t.act a1 Nd.off).2),()),()) w22
  rw[Va];exact this
 ·refine Cc.by (λz W=>z=(decide (a0=3∨a0=4∨a0=5∨a0=6),())∧W=w2) ?_ ?_
  ·refine Yl (λe=>⟨by rw[e];rfl,rfl⟩) λe3=>Yl (λe=>⟨by rw[e];rfl,rfl⟩) λe4=>Yl (λe=>⟨by rw[e];rfl,rfl⟩) λe5=>⟨?_,rfl⟩
   by_cases e6:a0=6
   ·rw[e6];rfl
   ·rw[beq_false_of_ne e6,decide_eq_false (by omega)]
  rintro z W' ⟨rfl,rfl⟩ _
  refine bM (λe=>?_) λe=>?_
  ·have e:a0=3∨a0=4∨a0=5∨a0=6:=of_decide_eq_true e
   have hd:doT (a0,a1,a2,a3,a4,a5,a6,a7,a8,a9,a10,()) bs c t=t.step c:=by unfold doT;rw[if_neg e0,if_neg e1,if_neg e2];exact if_pos e
   rw[hd] at hk
   rw[Be]
   have L:=L.Ai (Af.drew W')
   have q:=k1.drew
   have G12:=u1.trans (Af.drew W')
   generalize W'.drew=w12 at*
   have G:=L.a.g
   have cl:Ajq c:=⟨by have:=Me A.t;have:=sm.t;omega,by have:=Me A.s;have:=sm.c;omega,by have:=Me A.h;have:=sm.h;omega,by have h:=Row.Abk A.l;rw[List.length_map] at h;have:=sm.l;omega⟩
   refine q.cN 7 (cs:=K4s) (a7,a8,a9,a10,()) rfl (q.cN 7 (cs:=K4s) (a7,a8,a9,a10,()) rfl ?_)
   refine law27_choice.cl (c:=c) (Row.Ai A.t G) (Row.Ai A.s G) (Row.Ai A.h G) (Row.Ai A.l G) A.lb cl λy0 y1 y2 y3 w46 u46 hC=>⟨⟨q.X3 u46 (λx=>x) 7 0 (by simp),q.X3 u46 (λx=>x) 7 1 (by simp),q.X3 u46 (λx=>x) 7 2 (by simp),q.X3 u46 (λx=>x) 7 3 (by simp),q.X3 u46 (λx=>x) 7 0 (by simp),q.X3 u46 (λx=>x) 7 1 (by simp),q.X3 u46 (λx=>x) 7 2 (by simp),q.X3 u46 (λx=>x) 7 3 (by simp),trivial⟩,?_⟩
   have L46:=L.Ai u46
   refine Ce.g (t:=t) (c:=c) L46.a.h (hT.Ai L46.a.g) (L46.a.n0 hT) (hC Z L.a.h.lt) λw48 Z1 h1 x1=>?_
   have V1:Am Z w12 w48:=Am.trans (Am.Bj u46) x1.u λ_ _ h=>h
   refine⟨⟨q.X3 V1 nZ 7 0 (by simp),q.X3 V1 nZ 7 1 (by simp),q.X3 V1 nZ 7 2 (by simp),q.X3 V1 nZ 7 3 (by simp),q.X3 V1 nZ 7 0 (by simp),q.X3 V1 nZ 7 1 (by simp),q.X3 V1 nZ 7 2 (by simp),q.X3 V1 nZ 7 3 (by simp),trivial⟩,?_⟩
   have A48:=L46.a.nx h1 x1
   have B48:=L46.snd x1
   have G48:=A48.g
   refine law27_choice.cl (c:=c) (Row.Ai A.t G48) (Row.Ai A.s G48) (Row.Ai A.h G48) (Row.Ai A.l G48) A.lb cl λy4 y5 y6 y7 w50 u50 hD=>?_
   have V2:Am Z w12 w50:=V1.Ai u50
   refine⟨⟨q.X3 V2 nZ 7 0 (by simp),q.X3 V2 nZ 7 1 (by simp),q.X3 V2 nZ 7 2 (by simp),q.X3 V2 nZ 7 3 (by simp),q.X3 V2 nZ 7 0 (by simp),q.X3 V2 nZ 7 1 (by simp),q.X3 V2 nZ 7 2 (by simp),q.X3 V2 nZ 7 3 (by simp),trivial⟩,?_⟩
   refine Ce.g (t:=t) (c:=c) (B48.Ai u50) (hT.Ai (G48.trans u50)) (L46.b.n0 hT) (hD Y B48.lt) λw52 Y1 h2 x2=>?_
   have x2':Nx Y w48 Y1 w52:=Nx.pre u50 x2
   have V3:Am (λz=>Z z∨Y z) w12 w52:=Am.trans (V2.mono λ_ h=>.inl h) x2.u λ_ _ h=>.inr h
   have nV: ¬(Z p1∨Y p1):=λh=>h.elim nZ nY
   refine⟨⟨q.X3 V3 nV 7 0 (by simp),q.X3 V3 nV 7 1 (by simp),q.X3 V3 nV 7 2 (by simp),q.X3 V3 nV 7 3 (by simp),q.X3 V3 nV 7 0 (by simp),q.X3 V3 nV 7 1 (by simp),q.X3 V3 nV 7 2 (by simp),q.X3 V3 nV 7 3 (by simp),trivial⟩,?_⟩
   have:=hk w52 Z1 Y1 (L46.both h1 x1 h2 x2') (Nx2.both (G12.trans u46) x1 x2')
   show K ((((t.step c).2==(t.step c).2),()),()) w52
   rw[Va];exact this
  have e: ¬(a0=3∨a0=4∨a0=5∨a0=6):=of_decide_eq_false e
  refine Yl (λe9=>?_) λe9=>Yl (λe10=>?_) λe10=>?_
  ·have hd:doT (a0,a1,a2,a3,a4,a5,a6,a7,a8,a9,a10,()) bs c t=t.act a1 λd=>d.fix a2:=by unfold doT;rw[if_neg e0,if_neg e1,if_neg e2,if_neg e];exact if_pos e9
   rw[hd] at hk
   rw[Be]
   have L:=L.Ai (Af.drew W')
   have q:=k1.drew
   have G12:=u1.trans (Af.drew W')
   generalize W'.drew=w12 at*
   have G:=L.a.g
   refine q.c1 1 (c:=KI) (x:=a1) rfl (q.c1 2 (c:=KI) (x:=a2) rfl (q.c1 1 (c:=KI) (x:=a1) rfl (q.c1 2 (c:=KI) (x:=a2) rfl ?_)))
   refine Gz.t L.a.h λw20 Z1 h1 x1=>?_
   refine⟨⟨q.hold x1.u nZ 2 (by simp),q.hold x1.u nZ 1 (by simp),q.hold x1.u nZ 2 (by simp),q.hold x1.u nZ 1 (by simp),trivial⟩,?_⟩
   have G20:=(L.a.nx h1 x1).g
   refine Gz.t (L.snd x1) λw22 Y1 h2 x2=>?_
   have V:Am (λz=>Z z∨Y z) w12 w22:=Am.trans (x1.u.mono λ_ h=>.inl h) x2.u λ_ _ h=>.inr h
   have nV: ¬(Z p1∨Y p1):=λh=>h.elim nZ nY
   refine⟨⟨q.hold V nV 2 (by simp),q.hold V nV 1 (by simp),trivial⟩,?_⟩
   have:=hk w22 Z1 Y1 (L.both h1 x1 h2 x2) (Nx2.both G12 x1 x2)
   show K ((((t.act a1 λd=>d.fix a2).2==(t.act a1 λd=>d.fix a2).2),()),()) w22
   rw[Va];exact this
  ·have hd:doT (a0,a1,a2,a3,a4,a5,a6,a7,a8,a9,a10,()) bs c t=t.act a1 (nX bs):=by unfold doT;rw[if_neg e0,if_neg e1,if_neg e2,if_neg e,if_neg e9];exact if_pos e10
   rw[hd] at hk
   rw[Be]
   have L:=L.Ai (Af.drew W')
   have q:=k1.drew
   have G12:=u1.trans (Af.drew W')
   generalize W'.drew=w12 at*
   have G:=L.a.g
   refine q.c1 1 (c:=KI) (x:=a1) rfl (q.c1 6 (c:=.sl) (x:=a6) rfl (q.c1 1 (c:=KI) (x:=a1) rfl (q.c1 6 (c:=.sl) (x:=a6) rfl ?_)))
   refine Eg.t L.a.h A.by' (Row.Ai A.b G) A.bc λw20 Z1 h1 x1=>?_
   refine⟨⟨q.hold x1.u nZ 6 (by simp),q.hold x1.u nZ 1 (by simp),q.hold x1.u nZ 6 (by simp),q.hold x1.u nZ 1 (by simp),trivial⟩,?_⟩
   have G20:=(L.a.nx h1 x1).g
   refine Eg.t (L.snd x1) A.by' (Row.Ai A.b G20) A.bc λw22 Y1 h2 x2=>?_
   have V:Am (λz=>Z z∨Y z) w12 w22:=Am.trans (x1.u.mono λ_ h=>.inl h) x2.u λ_ _ h=>.inr h
   have nV: ¬(Z p1∨Y p1):=λh=>h.elim nZ nY
   refine⟨⟨q.hold V nV 6 (by simp),q.hold V nV 1 (by simp),trivial⟩,?_⟩
   have:=hk w22 Z1 Y1 (L.both h1 x1 h2 x2) (Nx2.both G12 x1 x2)
   show K ((((t.act a1 (nX bs)).2==(t.act a1 (nX bs)).2),()),()) w22
   rw[Va];exact this
  ·have hd:doT (a0,a1,a2,a3,a4,a5,a6,a7,a8,a9,a10,()) bs c t=(t,0):=by unfold doT;rw[if_neg e0,if_neg e1,if_neg e2,if_neg e,if_neg e9];exact if_neg e10
   rw[hd] at hk
   exact hk _ Z Y L (Nx2.of u1)
end Go.Proofs.YticgocmhmffneaaGreatDoor
