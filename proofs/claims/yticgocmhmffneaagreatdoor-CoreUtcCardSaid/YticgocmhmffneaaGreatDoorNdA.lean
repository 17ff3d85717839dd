import Derived.Test.YticgocmhmffneaaGreatDoorCfrmB
import Derived.Test.YticgocmhmffneaaGreatDoorCsrc2
namespace Go.Proofs.YticgocmhmffneaaGreatDoor
open Go Go.Eng Tryz
open Go.IntKind (wrap)
set_option linter.unusedSimpArgs false
set_option linter.unusedVariables false
set_option maxRecDepth 100000
set_option maxHeartbeats 8000000
theorem Aba{α:Type}{P:List α→Prop}(h0:P [])(h1: ∀l x,P l→P (l++[x])): ∀l,P l:=λl=>by
 rw[←List.reverse_reverse l]
 induction l.reverse with
 |nil=>exact h0
 |cons x t ih=>rw[List.reverse_cons];exact h1 _ _ ih
abbrev bP(v:Sl):Value:=.slice v.1 v.2.1 v.2.2
structure nS where
 me:Int
 tmo:Int
 ign:Int
 need:Int
 Aw:Int
 rnd:Int
 opn:Int
 own:Int
 lim:Int
 jit:Int
 gate:Bool
def kD(s:nS):List Value:=[iV s.me,iV s.tmo,iV s.ign,iV s.need,iV s.Aw,iV s.rnd,iV s.opn,iV s.own,iV s.lim,iV s.jit,.bool s.gate]
abbrev KSt:List CK:=[KI,KI,KI,KI,KI,KI,KI,KI,KI,KI,.b]
def stT(s:nS):Jf KSt:=(s.me,s.tmo,s.ign,s.need,s.Aw,s.rnd,s.opn,s.own,s.lim,s.jit,s.gate,())
def Yj(s:nS):Bool:=decide (0≤s.me)&&decide (s.me<64)&&tV s.tmo s.ign s.need s.Aw&&sK s.rnd s.opn s.own&&decide (1≤s.lim)&&decide (s.lim≤s.tmo)&&decide (0≤s.jit)&&decide (s.jit≤20)
theorem Uj{s:nS}:Yj s=true↔0≤s.me∧s.me<64∧tV s.tmo s.ign s.need s.Aw=true∧sK s.rnd s.opn s.own=true∧1≤s.lim∧s.lim≤s.tmo∧0≤s.jit∧s.jit≤20:=by unfold Yj;simp[and_assoc]
theorem Aag{s:nS}(h: ¬(0≤s.me∧s.me<64∧tV s.tmo s.ign s.need s.Aw=true∧sK s.rnd s.opn s.own=true∧1≤s.lim∧s.lim≤s.tmo∧0≤s.jit∧s.jit≤20)):Yj s=false:=by
 cases hb:Yj s
 ·rfl
 ·exact absurd (Uj.1 hb) h
abbrev K4i:List CK:=[KI,KI,KI,KI]
abbrev K3i:List CK:=[KI,KI,KI]
theorem Nq.cl{s:nS}{w:World}{k:TR Wh→WP}(h: ∀w',Af w w'→k ((Yj s,()),()) w'):Ae prog F.Nq [.agg (kD s).toArray] w false Wh k:=by
 refine Nq.ok ?_
 unfold Nq.wp
 refine Ad λp w2 e2 k2 u2=>?_
 change Az w2 p (kD s) at k2
 have no: ∀w',Af w w'→ ¬(0≤s.me∧s.me<64∧tV s.tmo s.ign s.need s.Aw=true∧sK s.rnd s.opn s.own=true∧1≤s.lim∧s.lim≤s.tmo∧0≤s.jit∧s.jit≤20)→k ((false,()),()) w':=λw' g hn=>by have:=h w' g;rw[Aag hn] at this;exact this
 refine k2.c0 (c:=KI) (x:=s.me) rfl (Dx (λc1=>?_) λn=>no w2 u2 λq=>n q.1)
 refine k2.c0 (c:=KI) (x:=s.me) rfl (Dx (λc2=>?_) λn=>no w2 u2 λq=>n q.2.1)
 refine k2.cN 1 (cs:=K4i) (s.tmo,s.ign,s.need,s.Aw,()) rfl (Hu.cl λw7 u7=>?_)
 have g7:=u2.trans u7
 have k7:=k2.Ai u7
 refine bM (λc3=>?_) λn=>no w7 g7 λq=>by have n:tV s.tmo s.ign s.need s.Aw=false:=n;rw[n] at q;exact absurd q.2.2.1 (by decide)
 refine k7.cN 5 (cs:=K3i) (s.rnd,s.opn,s.own,()) rfl (Ie.cl λw10 u10=>?_)
 have g10:=g7.trans u10
 have k10:=k7.Ai u10
 refine bM (λc4=>?_) λn=>no w10 g10 λq=>by have n:sK s.rnd s.opn s.own=false:=n;rw[n] at q;exact absurd q.2.2.2.1 (by decide)
 refine k10.c1 8 (c:=KI) (x:=s.lim) rfl (Dx (λc5=>?_) λn=>no w10 g10 λq=>n q.2.2.2.2.1)
 refine k10.c1 8 (c:=KI) (x:=s.lim) rfl (k10.c1 1 (c:=KI) (x:=s.tmo) rfl (Dx (λc6=>?_) λn=>no w10 g10 λq=>n q.2.2.2.2.2.1))
 refine k10.c1 9 (c:=KI) (x:=s.jit) rfl (Dx (λc7=>?_) λn=>no w10 g10 λq=>n q.2.2.2.2.2.2.1)
 refine k10.c1 9 (c:=KI) (x:=s.jit) rfl ?_
 have:=h w10 g10
 have e:Yj s=decide (s.jit≤20):=by
  unfold Yj
  rw[decide_eq_true (show 0≤s.me from c1),decide_eq_true (show s.me<64 from c2),show tV s.tmo s.ign s.need s.Aw=true from c3,show sK s.rnd s.opn s.own=true from c4,decide_eq_true (show 1≤s.lim from c5),decide_eq_true (show s.lim≤s.tmo from c6),decide_eq_true (show 0≤s.jit from c7)];rfl
 rw[e] at this
 exact this
abbrev R8:=Int×Int×Int×Int×Int×Int×Int×Int
inductive Fr where
 |sync (s:S6)|find (x:Int×Int)|want (m:Int)|pulse (x:Int×Int×Int)|reply (r:R8)|anchor (a:A6)
def tY(x:Int×Int):List E3:=[(1,x.1,63),(1,x.2,63)]
def flU(x:Int×Int×Int):List E3:=[(1,x.1,63),(1,x.2.1,63),(8,x.2.2,1125899906842624)]
def flR(r:R8):List E3:=[(1,r.1,63),(1,r.2.1,63),(8,r.2.2.1,1125899906842624),(8,r.2.2.2.1,1125899906842624),(8,r.2.2.2.2.1,1125899906842624),(1,r.2.2.2.2.2.1,63),(2,wrap .i64 r.2.2.2.2.2.2.1,65535),(1,r.2.2.2.2.2.2.2,63)]
def mG(a:A6):List E3:=[(1,a.1,63),(2,wrap .i64 a.2.1,65535),(1,a.2.2.1,63),(2,wrap .i64 a.2.2.2.1,65535),(8,a.2.2.2.2.1,1125899906842624),(8,a.2.2.2.2.2,1125899906842624)]
def Fr.kd:Fr→Nat
 | .sync _=>1| .find _=>2| .want _=>3| .pulse _=>4| .reply _=>5| .anchor _=>6
def Fr.fs:Fr→List E3
 | .sync s=>Z4 s| .find x=>tY x| .want m=>lW m| .pulse x=>flU x| .reply r=>flR r| .anchor a=>mG a
def Fr.cs:Fr→List Value
 | .sync s=>[iV s.1,iV s.2.1,uV s.2.2.1,uV s.2.2.2.1,iV s.2.2.2.2.1,iV s.2.2.2.2.2]
 | .find x=>[iV x.1,iV x.2]
 | .want m=>[iV m]
 | .pulse x=>[iV x.1,iV x.2.1,iV x.2.2]
 | .reply r=>[iV r.1,iV r.2.1,iV r.2.2.1,iV r.2.2.2.1,iV r.2.2.2.2.1,iV r.2.2.2.2.2.1,uV r.2.2.2.2.2.2.1,iV r.2.2.2.2.2.2.2]
 | .anchor a=>[iV a.1,uV a.2.1,iV a.2.2.1,uV a.2.2.2.1,iV a.2.2.2.2.1,iV a.2.2.2.2.2]
def Fr.val:Fr→Value
 | .sync s=>.iface T.Dy (.agg #[iV s.1,iV s.2.1,uV s.2.2.1,uV s.2.2.2.1,iV s.2.2.2.2.1,iV s.2.2.2.2.2])
 | .find x=>.iface T.Gj (.agg #[iV x.1,iV x.2])
 | .want m=>.iface T.Gp (.agg #[iV m])
 | .pulse x=>.iface T.Ef (.agg #[iV x.1,iV x.2.1,iV x.2.2])
 | .reply r=>.iface T.Gl (.agg #[iV r.1,iV r.2.1,iV r.2.2.1,iV r.2.2.2.1,iV r.2.2.2.2.1,iV r.2.2.2.2.2.1,uV r.2.2.2.2.2.2.1,iV r.2.2.2.2.2.2.2])
 | .anchor a=>.iface T.Bh (.agg #[iV a.1,uV a.2.1,iV a.2.2.1,uV a.2.2.2.1,iV a.2.2.2.2.1,iV a.2.2.2.2.2])
def Fr.ok(f:Fr):Bool:=okF f.fs
def Fr.by(f:Fr):List Nat:=aK f.kd f.fs
def Fr.from:Fr→Int
 | .sync s=>s.1| .find x=>x.1| .want m=>m| .pulse x=>x.1| .reply r=>r.1| .anchor a=>a.1
def Fr.u:Fr→Prop
 | .sync s=>Xe s.2.2.1∧Xe s.2.2.2.1| .reply r=>Xe r.2.2.2.2.2.2.1| .anchor a=>Xe a.2.1∧Xe a.2.2.2.1|_=>True
def Fr.pl:Fr→kC
 | .sync s=>(1,s.1,0,s.2.1,s.2.2.1,s.2.2.2.1,s.2.2.2.2.1,s.2.2.2.2.2,0,0,0,0,0,0,())
 | .find x=>(2,x.1,0,0,0,0,0,0,x.2,0,0,0,0,0,())
 | .want m=>(3,m,0,0,0,0,0,0,0,0,0,0,0,0,())
 | .pulse x=>(4,x.1,x.2.1,0,0,0,0,0,0,x.2.2,0,0,0,0,())
 | .reply r=>(5,r.1,r.2.1,r.2.2.2.2.2.1,r.2.2.2.2.2.2.1,0,r.2.2.2.2.2.2.2,0,0,r.2.2.1,r.2.2.2.1,r.2.2.2.2.1,0,0,())
 | .anchor a=>(6,a.1,0,a.2.2.1,a.2.2.2.1,a.2.1,0,0,0,0,0,0,a.2.2.2.2.1,a.2.2.2.2.2,())
def P7:Nat→List (Nat×Nat)
 |1=>[(1,63),(1,63),(2,65535),(2,65535),(1,63),(8,1125899906842624)]
 |2=>[(1,63),(1,63)]
 |3=>[(1,63)]
 |4=>[(1,63),(1,63),(8,1125899906842624)]
 |5=>[(1,63),(1,63),(8,1125899906842624),(8,1125899906842624),(8,1125899906842624),(1,63),(2,65535),(1,63)]
 |6=>[(1,63),(2,65535),(1,63),(2,65535),(8,1125899906842624),(8,1125899906842624)]
 |_=>[]
def Zx(l:List (Nat×Nat)):Nat:=l.foldl (λn x=>n+x.1) 0
def aV(xs:List Nat):Nat:=xs.foldl (λn x=>n*256+x) 0
def Yd:List (Nat×Nat)→List Nat→List Nat
 |[],_=>[]
 |s::ss,b=>aV (b.take s.1)::Yd ss (b.drop s.1)
def iD:List (Nat×Nat)→List Nat→Bool
 |[],_=>true
 |s::ss,v=>decide (v.headD 0≤s.2)&&iD ss v.tail
def mJ(k:Nat)(v:List Nat):Fr:=
 let n:=λi=>((v.getD i 0:Nat):Int)
 if k=1 then .sync (n 0,n 1,n 2,n 3,n 4,n 5)
 else if k=2 then .find (n 0,n 1)
 else if k=3 then .want (n 0)
 else if k=4 then .pulse (n 0,n 1,n 2)
 else if k=5 then .reply (n 0,n 1,n 2,n 3,n 4,n 5,n 6,n 7)
 else .anchor (n 0,n 1,n 2,n 3,n 4,n 5)
def Xg(b:List Nat):Except Int Fr:=
 if b.length>64 then .error 5
 else if b.length=0 then .error 3
 else if P7 (b.headD 0)=[]∨b.length≠Zx (P7 (b.headD 0))+3 then .error 3
 else if Uh 65535 b≠0 then .error 4
 else if iD (P7 (b.headD 0)) (Yd (P7 (b.headD 0)) b.tail)=false then .error 3
 else .ok (mJ (b.headD 0) (Yd (P7 (b.headD 0)) b.tail))
inductive Jb where
 |find|tie|reply (to sent:Int) (got:A5)
structure Ev where
 id:Int
 lab:ByteArray
 loc:Int
 a:A5
def Jb.Zt:Jb→Bool| .tie=>true|_=>false
def fD(c:UInt8):Bool:=c==95||(decide (97≤c)&&decide (c≤122))||(decide (48≤c)&&decide (c≤57))
def jV(s:ByteArray):Bool:=s.data.toList.all fD&&decide (1≤s.size)&&decide (s.size≤12)
def N7(me lev par:Int)(x:Int×Int):(Int×Int)×Bool:=
 if okF (tY x)=false∨x.1=me then((lev,par),false)
 else if x.1=par∧x.2+1>63 then((-1,-1),true)
 else if x.2+1>63∨(x.1≠par∧lev≥0∧x.2+1≥lev)∨(x.1=par∧x.2+1=lev) then((lev,par),false)
 else((x.2+1,x.1),true)
def U5(p:Pr)(to loc:Int):Bool:=!(p.waits||decide (p.rest>0)||to==p.me||!okF (flU (p.me,to,loc)))
def dD(p:Pr)(to loc:Int):Pr:=if U5 p to loc=true then{p with waits:=true,waited:=0,to:=to,sent:=loc} else p
def oW(sent got back came:Int):Bool:=inT sent&&inT got&&inT back&&inT came&&decide (came≥sent)
def Py(r:R8)(loc:Int):E3:=(loc,(r.2.2.2.1-r.2.2.1+r.2.2.2.2.1-loc)/2,r.2.2.2.2.2.2.2+1)
def Ij(p:Pr)(r:R8)(loc:Int):Bool:=
 p.waits&&r.2.1==p.me&&r.1==p.to&&r.2.2.1==p.sent&&oW r.2.2.1 r.2.2.2.1 r.2.2.2.2.1 loc&&Jm (Py r loc)
def Xp(p:Pr)(r:R8)(loc:Int):Pr:=if Ij p r loc=true then{p with waits:=false,tries:=0} else p
def Ub(p:Pr):Bool:=p.waits&&decide (p.waited+1≥2)&&decide (p.tries+1≥3)
def Vz(p:Pr):Pr:=
 if p.waits=false then{p with rest:=max (p.rest-1) 0}
 else if p.waited+1<2 then{p with waited:=p.waited+1}
 else if p.tries+1<3 then{p with waited:=p.waited+1,waits:=false,tries:=p.tries+1,rest:=if p.tries+1=1 then 1 else 3}
 else{p with waited:=p.waited+1,waits:=false,tries:=0,rest:=0}
structure PrG(p:Pr):Prop where
 waited:0≤p.waited∧p.waited≤2
 tries:0≤p.tries∧p.tries≤2
 rest:0≤p.rest∧p.rest≤7
 w1:p.waits=true→p.waited≤1
structure Nd where
 s:nS
 lp:Option Addr
 on:Bool
 boot:Int
 bh:Bool
 ba:A6
 now:Int
 lev:Int
 par:Int
 pr:Pr
 so:So
 f:Fl
 e:El
 l:Um
 es:List E3
 jobs:List Jb
 evs:List Ev
 last:Int
def Nd.syn(d:Nd):Bool:=Xb d.f d.e d.es.length
def Nd.tm(d:Nd)(t:Int):A5×Int:=qL d.so d.f d.e d.l d.es t
def Nd.Yf(d:Nd)(j:Int):Int×Int:=if d.on=false then(0,10) else if j< -d.s.jit∨j>d.s.jit then(0,1) else(clamp (d.now+j) 0 1125899906842624,0)
def gZ(a b:A5):Bool:=a.2.2.1==b.2.2.1&&a.2.2.2.1==b.2.2.2.1
def Nd.made(d:Nd)(st:Int):Jb→Option Fr
 | .find=>if(d.tm st).2≠0 then none else if d.syn=true then some (.find (d.s.me,0)) else if d.lev<0 then none else some (.find (d.s.me,d.lev))
 | .tie=>if d.bh=true then some (.anchor (d.s.me,d.ba.2)) else none
 | .reply to sent got=>if(d.tm st).2≠0∨gZ (d.tm st).1 got=false then none
  else some (.reply (d.s.me,to,sent,got.1,(d.tm st).1.1,(d.tm st).1.2.2.1,(d.tm st).1.2.2.2.1,max (d.tm st).1.2.1 got.2.1))
def Y4(out:List Fr):Option Fr→List Fr
 |some f=>if f.ok=true∧out.length<3 then out++[f] else out
 |none=>out
def Nd.pop(d:Nd)(st:Int):List Jb→List Fr→List Jb×List Fr
 |[],out=>([],out)
 |j::js,out=>if out.length<3 then d.pop st js (Y4 out (d.made st j)) else(j::js,out)
def Nd.Ri(d:Nd)(st:Int):Nd:=
 {d with f:=nD d.f d.e,e:=yL d.e st,es:=b1l d.e d.es,so:=Aj3 d.so,pr:=Vz d.pr,lev:=if Ub d.pr=true then-1 else d.lev,par:=if Ub d.pr=true then-1 else d.par}
def Nd.Yg(d:Nd)(st:Int):Option Fr:=if(sH d.f d.e d.l d.es st).2=true then some (.sync (sH d.f d.e d.l d.es st).1) else none
def Nd.word(d:Nd)(st:Int):Nd×Option Fr:=
 if d.par<0 then(d,some (.want d.s.me))
 else({d with pr:=dD d.pr d.par st},if U5 d.pr d.par st=true then some (.pulse (d.s.me,d.par,st)) else none)
def Nd.Yi(d:Nd)(st:Int)(p:List Jb×List Fr):Nd×List Fr:=
 let d2:={d with jobs:=p.1}
 if d2.syn=false∧p.2.length<3 then((d2.word st).1,Y4 p.2 (d2.word st).2) else(d2,p.2)
def Nd.iH(d:Nd)(st:Int):Nd×List Fr:=(d.Ri st).Yi st ((d.Ri st).pop st d.jobs (Y4 [] (d.Yg st)))
def Nd.send(d:Nd)(step j:Int):Nd×List Fr×Int:=
 if(d.Yf j).2≠0 then(d,[],(d.Yf j).2) else if miG d.s.rnd d.s.own step=false then(d,[],0) else((d.iH (d.Yf j).1).1,(d.iH (d.Yf j).1).2,0)
def Nd.push(d:Nd)(j:Jb):Nd×Int:=if d.jobs.length≥8 then(d,6) else({d with jobs:=d.jobs++[j]},0)
def Nd.pass(d:Nd):Nd×Int:=if d.jobs.any Jb.Zt=true then(d,0) else d.push .tie
def Nd.aH(d:Nd)(s:S6)(t:Int):Nd:=
 let c:=hrF d.e d.l s t
 if c=0 then d else{d with f:=hfF d.f s t,e:=xU d.e s.2.1,l:=Xd d.l s.2.1 (yH s),es:=esF c d.es s t}
def Zi(bh:Bool)(ba a:A6):Bool:=okF (mG a)&&(!bh||tC a.2.1 ba.2.1)
def Nd.take(d:Nd)(f:Fr)(t:Int):Nd×Int:=
 match f with
 | .sync s=>(d.aH s t,0)
 | .find x=>if d.syn=true then(d,0) else({d with lev:=(N7 d.s.me d.lev d.par x).1.1,par:=(N7 d.s.me d.lev d.par x).1.2},0)
 | .want _=>if(d.tm t).2=0 then d.push .find else(d,0)
 | .pulse x=>if(d.tm t).2=0∧x.2.1=d.s.me then d.push (.reply x.1 x.2.2 (d.tm t).1) else(d,0)
 | .reply r=>if Ij d.pr r t=true then({d with pr:=Xp d.pr r t,so:=aG d.so (Py r t) r.2.2.2.2.2.1 r.2.2.2.2.2.2.1},0) else(d,0)
 | .anchor a=>if Zi d.bh d.ba a=true then({d with bh:=true,ba:=a}:Nd).pass else(d,0)
def Nd.heard(d:Nd)(f:Fr)(t:Int):Nd×Int:=if f.from=d.s.me then(d,0) else d.take f t
def Nd.hear(d:Nd)(j:Int)(b:List Nat):Nd×Int:=
 if(d.Yf j).2≠0 then(d,(d.Yf j).2) else match Xg b with
  | .error e=>(d,e)
  | .ok f=>d.heard f (d.Yf j).1
def Nd.time(d:Nd):A5×Int:=if d.on=false then((0,0,0,0,0),10) else d.tm d.now
def Nd.tag(d:Nd)(s:ByteArray):Nd×Int×Int:=
 if d.time.2≠0 then(d,0,d.time.2) else if jV s=false then(d,0,1) else if d.evs.length≥16 then(d,0,6)
 else({d with evs:=d.evs++[⟨wrap .i64 (d.last+1),s,d.now,d.time.1⟩],last:=wrap .i64 (d.last+1)},wrap .i64 (d.last+1),0)
def Nd.Ua(d:Nd):Nd×Option Ev:=if d.on=false then(d,none) else({d with evs:=d.evs.tail},d.evs.head?)
def Nd.Tc(d:Nd)(a:A5)(tai:Int):A6:=(d.s.me,wrap .u16 (d.ba.2.1+1),a.2.2.1,a.2.2.2.1,a.1,tai)
def Nd.fix(d:Nd)(tai:Int):Nd×Int:=
 if d.on=false then(d,10) else if d.s.gate=false then(d,7) else if d.time.2≠0 then(d,d.time.2)
 else if okF (mG (d.Tc d.time.1 tai))=false then(d,1) else({d with bh:=true,ba:=d.Tc d.time.1 tai}:Nd).pass
def Nd.go(d:Nd)(t:Int):Nd×Int:=if d.on=false then(d,10) else({d with now:=if goT d.s.Aw d.now t=0 then d.now+t else d.now},goT d.s.Aw d.now t)
def a60:A6:=(0,0,0,0,0,0)
def so0(lim:Int):So:=⟨lim,(0,0,0),0,0,0,false⟩
def Nd.turn(d:Nd)(raw:Int):Nd:={d with on:=true,boot:=wrap .u16 (d.boot+1),bh:=false,ba:=a60,now:=raw,lev:= -1,par:= -1,pr:=prN d.pr.me,so:=so0 d.so.limit,f:=fgF d.f,e:=zX d.e (wrap .u16 (d.boot+1)),l:=[],es:=[],jobs:=[],evs:=[],last:=0}
def Nd.off(d:Nd):Nd×Int:=if d.on=false then(d,10) else({d with on:=false},0)
def nd0(s:nS)(lp:Option Addr):Nd:=⟨s,lp,false,0,false,a60,0,-1,-1,prN s.me,so0 s.lim,⟨s.me,s.tmo,s.ign,s.need,s.Aw,0,0,0⟩,⟨s.me,s.tmo,s.ign,0,0,-1,0,0⟩,[],[],[],[],0⟩
structure Xn(d:Nd):Prop where
 s:Yj d.s=true
 now:0≤d.now∧d.now≤1125899906842624
 pr:PrG d.pr
 me:d.pr.me=d.s.me
 lim:d.so.limit=d.s.lim
 bk:Xe d.ba.2.1∧Xe d.ba.2.2.2.1
 fme:d.f.me=d.s.me∧d.e.me=d.s.me
theorem Xn.go{d:Nd}(h:Xn d)(t:Int):Xn (d.go t).1:=by
 unfold Nd.go
 split
 ·exact h
 ·refine⟨h.s,?_,h.pr,h.me,h.lim,h.bk,h.fme⟩
  show 0≤(if goT d.s.Aw d.now t=0 then d.now+t else d.now)∧(if goT d.s.Aw d.now t=0 then d.now+t else d.now)≤_
  obtain⟨m0,m1,gf,_⟩:=Uj.1 h.s
  have g:=Ya.1 gf
  have hn:=h.now
  split
  ·rename_i hg
   unfold goT at hg
   split at hg
   ·rename_i hf
    have hf:=mF.1 hf
    split at hg
    ·cases hg
    ·omega
   ·cases hg
  ·exact hn
theorem Ye{P:Program}{t:TypeId}{v v':Value}{nm:String}{g:FuncId}{args:List Value}{w:World}{tup:Bool}{rs:List (Bool×List CK)}{k:TR rs→WP}
  (hm:ev P (method (P.types.size+Made.depth) t v nm)=some (g,v')) (hc:callable P g=true) (h:Ae P g (v'::args) w tup rs k):ivK P (.iface t v) nm args w tup rs k:=by
 unfold ivK
 simp only[hm,hc]
 exact h
theorem aB{q:Sl}{fs:List E3}{w:World}(hE:Ku w q fs)(h100:fs.length≤100){R:TR Wh→WP}(h: ∀w',Af w w'→R ((okF fs,()),()) w'):
  Ci (λ(self5:((Int)×Unit)→WP) (z6:(Int)×Unit) w7=> ∀_:Nat→Value,
Aj (decide (z6.1<(q.2.1:Int))) (
Ny q.1 q.2.1 z6.1 λa8=>
A8 [KI,KI,KI] (a8.add (z6.1.toNat*3)) 0 w7 λx9=>
Bf [iV 0,iV 0,iV 0] T.Dl w7 λp10 w11=>
Au [iV x9.1,iV x9.2.1,iV x9.2.2.1] p10 0 w11 λw12=>
ld1 KI (p10.add 1) w12 λx13=>
Aj (decide (x13<0)) (
R ((false,()),()) w12) (
ld1 KI (p10.add 1) w12 λx14=>
ld1 KI (p10.add 2) w12 λx15=>
Aj (decide (x14>x15)) (
R ((false,()),()) w12) (
self5 (wrap .i64 (z6.1+1),()) w12))) (
R ((true,()),()) w7)) (0,()) w:=by
 have hl:=hE.len
 refine Ci.by (λz w'=>Af w w'∧ ∃i:Nat,z=((i:Int),())∧i≤fs.length∧ ∀e∈fs.take i,Yy e=true) (λz=>(1000-z.1).toNat) ⟨Af.refl _,0,rfl,by omega,by simp⟩ ?_
 rintro z w7 ⟨g,i,rfl,hi,hgood⟩ _
 have out: ∀w',Af w w'→okF fs=false→R ((false,()),()) w':=λw' g h0=>by
  have:=h w' g
  rw[h0] at this;exact this
 refine Dx (λc=>?_) λc=>?_
 ·have hi':i<fs.length:=by have c:(i:Int)<(q.2.1:Int):=c;omega
  have he:fs[i]? =some fs[i]:=List.getElem?_eq_getElem hi'
  generalize fs[i]=e at he
  have hE7:=hE.Ai g
  refine hE7.ix (z:=(i:Int)) rfl he λad ha=>hE7.A8 ha he ?_
  refine Ad λp10 w11 e10 k10 u11=>k10.Fg _ rfl rfl λw12 k12 u12=>k12.i1 1 rfl ?_
  have g12:=Af.fresh g u11 u12 e10
  refine Dx (λc=>out w12 g12 (Zo he ?_)) λc1=>k12.i1 1 rfl (k12.i1 2 rfl (Dx (λc=>out w12 g12 (Zo he ?_)) λc2=>⟨⟨g12,i+1,?_,by omega,?_⟩,?_⟩))
  ·have c:e.2.1<0:=c
   cases hb:Yy e
   ·rfl
   ·have:=Rq.1 hb;omega
  ·have c:e.2.1>e.2.2:=c
   cases hb:Yy e
   ·rfl
   ·have:=Rq.1 hb;omega
  ·show(wrap .i64 ((i:Int)+1),())=_
   rw[Ah (by unfold I64;omega)];rfl
  ·have c1: ¬e.2.1<0:=c1
   have c2: ¬e.2.1>e.2.2:=c2
   rw[List.take_add_one,he]
   intro x hx
   rcases List.mem_append.1 hx with hx|hx
   ·exact hgood x hx
   ·have:x=e:=by simpa using hx
    subst this
    exact Rq.2 ⟨by omega,by omega⟩
  ·show(1000-wrap .i64 ((i:Int)+1)).toNat<(1000-(i:Int)).toNat
   rw[Ah (by unfold I64;omega)];omega
 ·have hi':i=fs.length:=by have c: ¬(i:Int)<(q.2.1:Int):=c;omega
  subst hi'
  rw[List.take_length] at hgood
  have:=h w7 g
  rw[bV hgood] at this
  exact this
def zD(fs:List E3):Int:=fs.foldl (λn e=>n+e.1) 0
theorem zC(fs:List E3)(e:E3):zD (fs++[e])=zD fs+e.1:=by unfold zD;rw[List.foldl_append];rfl
theorem Ajn: ∀(fs:List E3),(∀e∈fs,0≤e.1∧e.1≤8)→0≤zD fs∧zD fs≤8*fs.length:=by
 refine Aba ?_ ?_
 ·intro _;decide
 ·intro fs e ih h
  rw[zC]
  have h1:=ih λx hx=>h x (List.mem_append_left _ hx)
  have h2:=h e (by simp)
  rw[List.length_append]
  simp only[List.length_cons,List.length_nil]
  omega
theorem Vf{q:Sl}{fs:List E3}{w:World}(hE:Ku w q fs)(h100:fs.length≤100)(hF: ∀e∈fs,0≤e.1∧e.1≤8){R:TR Si→WP}(h: ∀w',Af w w'→R ((zD fs,()),()) w'):
  Ci (λ(self3:((Int)×(Int)×Unit)→WP) (z4:(Int)×(Int)×Unit) w5=> ∀_:Nat→Value,
Aj (decide (z4.2.1<(q.2.1:Int))) (
Ny q.1 q.2.1 z4.2.1 λa6=>
A8 [KI,KI,KI] (a6.add (z4.2.1.toNat*3)) 0 w5 λx7=>
Bf [iV 0,iV 0,iV 0] T.Dl w5 λp8 w9=>
Au [iV x7.1,iV x7.2.1,iV x7.2.2.1] p8 0 w9 λw10=>
ld1 KI p8 w10 λx11=>
self3 (wrap .i64 (z4.1+x11),wrap .i64 (z4.2.1+1),()) w10) (
R ((z4.1,()),()) w5)) (0,0,()) w:=by
 have hl:=hE.len
 refine Ci.by (λz w'=>Af w w'∧ ∃i:Nat,z=(zD (fs.take i),(i:Int),())∧i≤fs.length) (λz=>(1000-z.2.1).toNat) ⟨Af.refl _,0,rfl,by omega⟩ ?_
 rintro z w7 ⟨g,i,rfl,hi⟩ _
 refine Dx (λc=>?_) λc=>?_
 ·have hi':i<fs.length:=by have c:(i:Int)<(q.2.1:Int):=c;omega
  have he:fs[i]? =some fs[i]:=List.getElem?_eq_getElem hi'
  have hm:fs[i]∈fs:=List.getElem_mem hi'
  generalize fs[i]=e at he hm
  have hE7:=hE.Ai g
  have h1:=Ajn (fs.take i) λx hx=>hF x (List.mem_of_mem_take hx)
  rw[List.length_take] at h1
  have h2:=hF e hm
  refine hE7.ix (z:=(i:Int)) rfl he λad ha=>hE7.A8 ha he ?_
  refine Ad λp10 w11 e10 k10 u11=>k10.Fg _ rfl rfl λw12 k12 u12=>k12.i0 rfl ⟨⟨Af.fresh g u11 u12 e10,i+1,?_,by omega⟩,?_⟩
  ·show(wrap .i64 (zD (fs.take i)+e.1),wrap .i64 ((i:Int)+1),())=_
   rw[Ah (n:=zD (fs.take i)+e.1) (by unfold I64;omega),Ah (n:=(i:Int)+1) (by unfold I64;omega),List.take_add_one,he]
   simp only[Option.toList_some]
   rw[zC];rfl
  ·show(1000-wrap .i64 ((i:Int)+1)).toNat<(1000-(i:Int)).toNat
   rw[Ah (by unfold I64;omega)];omega
 ·have hi':i=fs.length:=by have c: ¬(i:Int)<(q.2.1:Int):=c;omega
  subst hi'
  rw[List.take_length]
  exact h w7 g
abbrev iY(v:List Nat):List Value:=v.map λ(x:Nat)=>Value.int .u64 (x:Int)
def wI(v:List Nat)(i:Nat):Int:=wrap .i64 ((v.getD i 0:Nat):Int)
def wH(v:List Nat)(i:Nat):Int:=wrap .u16 ((v.getD i 0:Nat):Int)
theorem Vs{q:Nat}{n:Sl}{v:List Nat}{w:World}(hB:Az w q [.slice n.1 n.2.1 n.2.2])(hR:Row w n 1 (iY v)){i:Nat}{z:Int}(hz:z=i)(hi:i<v.length){k:TR Si→WP}(h:k ((wI v i,()),()) w):
  Ae prog F.Dp [iV z,.pointer (some ⟨q,0,none⟩)] w false Si k:=by
 subst hz
 refine Dp.ok ?_
 unfold Dp.wp
 have he:(iY v)[i]? =some (.int .u64 ((v[i]:Nat):Int)):=by rw[List.getElem?_map,List.getElem?_eq_getElem hi];rfl
 refine hB.sl0 (s:=n) (hR.ixc (c:=.i .u64) (z:=(i:Int)) (x:=((v[i]:Nat):Int)) rfl he rfl ?_)
 have e:wI v i=wrap .i64 ((v[i]:Nat):Int):=by unfold wI;rw[List.getD_eq_getElem?_getD,List.getElem?_eq_getElem hi];rfl
 rw[e] at h;exact h
theorem pV{q:Nat}{n:Sl}{v:List Nat}{w:World}(hB:Az w q [.slice n.1 n.2.1 n.2.2])(hR:Row w n 1 (iY v)){i:Nat}{z:Int}(hz:z=i)(hi:i<v.length){k:TR [(false,[KU])]→WP}(h:k ((wH v i,()),()) w):
  Ae prog F.Po [iV z,.pointer (some ⟨q,0,none⟩)] w false [(false,[KU])] k:=by
 subst hz
 refine Po.ok ?_
 unfold Po.wp
 have he:(iY v)[i]? =some (.int .u64 ((v[i]:Nat):Int)):=by rw[List.getElem?_map,List.getElem?_eq_getElem hi];rfl
 refine hB.sl0 (s:=n) (hR.ixc (c:=.i .u64) (z:=(i:Int)) (x:=((v[i]:Nat):Int)) rfl he rfl ?_)
 have e:wH v i=wrap .u16 ((v[i]:Nat):Int):=by unfold wH;rw[List.getD_eq_getElem?_getD,List.getElem?_eq_getElem hi];rfl
 rw[e] at h;exact h
theorem mD{s:S6}{w:World}{k:TR jG→WP}(h: ∀(q:Sl) w',Af w w'→Ku w' q (Fr.fs (.sync s))→(∀a,q.1=some a→w.heap.size≤a.block)→k ((q,()),()) w'):Ae prog F.Dh [.agg #[iV s.1,iV s.2.1,uV s.2.2.1,uV s.2.2.2.1,iV s.2.2.2.2.1,iV s.2.2.2.2.2]] w false jG k:=by
 exact Dh.clF (s:=s) h
theorem yT{s:S6}{w:World}{k:TR [(false,[.i .u8])]→WP}(h:k ((1,()),()) w):Ae prog F.Fa [(.iface T.Dy (.agg #[iV s.1,iV s.2.1,uV s.2.2.1,uV s.2.2.2.1,iV s.2.2.2.2.1,iV s.2.2.2.2.2]))] w false [(false,[.i .u8])] k:=by
 refine Fv.ok (f0:=s.1) (f1:=s.2.1) (f2:=s.2.2.1) (f3:=s.2.2.2.1) (f4:=s.2.2.2.2.1) (f5:=s.2.2.2.2.2) ?_
 unfold Fv.wp
 exact h
theorem Aat{s:S6}{w:World}{k:TR Wh→WP}(h: ∀w',Af w w'→k ((okF (Fr.fs (.sync s)),()),()) w'):Ae prog F.Ew [(.iface T.Dy (.agg #[iV s.1,iV s.2.1,uV s.2.2.1,uV s.2.2.2.1,iV s.2.2.2.2.1,iV s.2.2.2.2.2]))] w false Wh k:=by
 refine Fp.ok (f0:=s.1) (f1:=s.2.1) (f2:=s.2.2.1) (f3:=s.2.2.2.1) (f4:=s.2.2.2.2.1) (f5:=s.2.2.2.2.2) ?_
 unfold Fp.wp
 refine yT (Jl rfl (mD λq w4 u4 hE _=>aB (fs:=(Fr.fs (.sync s))) hE (by show 6≤100;decide) λw' g=>h w' (u4.trans g)))
theorem bZ(s:S6): ∀e∈(Fr.fs (.sync s)),0≤e.1∧e.1≤8∧e.2.2≤1125899906842624:=by
 intro e he
 simp only[Fr.fs,Z4,tY,lW,flU,flR,mG,List.mem_cons,List.not_mem_nil,or_false] at he
 rcases he with rfl|rfl|rfl|rfl|rfl|rfl<;>refine⟨?_,?_,?_⟩<;>dsimp only<;>omega
theorem Ahz{s:S6}{w:World}{k:TR xK→WP}(hn:okF (Fr.fs (.sync s))=false→ ∀w',Af w w'→k (((none,0,0),()),(1,()),()) w')
  (h:okF (Fr.fs (.sync s))=true→ ∀(y:Sl) w',OwnB w' w.heap.size y (aK 1 (Fr.fs (.sync s)))→Af w w'→k (((y.1,y.2.1,y.2.2),()),(0,()),()) w'):Ae prog F.Il [(.iface T.Dy (.agg #[iV s.1,iV s.2.1,uV s.2.2.1,uV s.2.2.2.1,iV s.2.2.2.2.1,iV s.2.2.2.2.2]))] w true xK k:=by
 refine G8.ok (f0:=s.1) (f1:=s.2.1) (f2:=s.2.2.1) (f3:=s.2.2.2.1) (f4:=s.2.2.2.2.1) (f5:=s.2.2.2.2.2) ?_
 unfold G8.wp
 refine Aat λw2 u2=>Ee (λc=>hn c w2 u2) λc=>?_
 have c:okF (Fr.fs (.sync s))=true:=c
 refine Ad λp w4 e4 k4 u4=>yT ?_
 have P4:=sG.new k4
 refine Bv.cl (n:=1) (v:=1) (by decide) (by simp) P4 λw8 O8 P8 X8=>?_
 have g8:Af w w8:=Am.trans (u2.trans u4) X8.u λz hz h=>by have:=u2.size;omega
 have hO: ∀z,O8 z→w2.heap.size≤z:=λz hz=>by
  rcases X8.sub z hz with h1|h1
  ·omega
  ·have:=u4.size;omega
 refine mD λq w10 u10 hE hqf=>?_
 have hq: ∀a,q.1=some a→ ¬O8 a.block:=λa ha hz=>by
  have:=hqf a ha
  have:=P8.lt _ hz
  omega
 exact Zl (kd:=1) (Y6 c (by show 6≤100;decide) (bZ s)) hE hq (by decide) (P8.Ai u10) (g8.trans u10) (λz hz=>Nat.le_trans u2.size (hO z hz)) (h c)
theorem Ahv{s:S6}{w:World}{k:TR Si→WP}(h: ∀w',Af w w'→k ((zD (Fr.fs (.sync s)),()),()) w'):Ae prog F.Qo [(.iface T.Dy (.agg #[iV s.1,iV s.2.1,uV s.2.2.1,uV s.2.2.2.1,iV s.2.2.2.2.1,iV s.2.2.2.2.2]))] w false Si k:=by
 refine Ry.ok (f0:=s.1) (f1:=s.2.1) (f2:=s.2.2.1) (f3:=s.2.2.2.1) (f4:=s.2.2.2.2.1) (f5:=s.2.2.2.2.2) ?_
 unfold Ry.wp
 refine mD λq w4 u4 hE _=>Vf (fs:=(Fr.fs (.sync s))) hE (by show 6≤100;decide) (λe he=>⟨(bZ s e he).1,(bZ s e he).2.1⟩) λw' g=>h w' (u4.trans g)
theorem Ahi{s:S6}{n:Sl}{v:List Nat}{w:World}(hR:Row w n 1 (iY v))(hl:v.length=6){k:TR [(false,[.any])]→WP}(h: ∀w',Af w w'→k ((Fr.val (.sync (wI v 0,wI v 1,wH v 2,wH v 3,wI v 4,wI v 5)),()),()) w'):Ae prog F.Qn [(.iface T.Dy (.agg #[iV s.1,iV s.2.1,uV s.2.2.1,uV s.2.2.2.1,iV s.2.2.2.2.1,iV s.2.2.2.2.2])),.slice n.1 n.2.1 n.2.2] w false [(false,[.any])] k:=by
 refine Rj.ok (n:=n) (f0:=s.1) (f1:=s.2.1) (f2:=s.2.2.1) (f3:=s.2.2.2.1) (f4:=s.2.2.2.2.1) (f5:=s.2.2.2.2.2) ?_
 unfold Rj.wp
 refine Ad λp w2 e2 k2 u2=>?_
 have R2:=hR.Ai u2
 exact Vs k2 R2 (i:=0) rfl (by omega) (Vs k2 R2 (i:=1) rfl (by omega) (pV k2 R2 (i:=2) rfl (by omega) (pV k2 R2 (i:=3) rfl (by omega) (Vs k2 R2 (i:=4) rfl (by omega) (Vs k2 R2 (i:=5) rfl (by omega) ((h w2 u2)))))))
theorem Agc{s:S6}{w:World}{k:TR Si→WP}(h: ∀w',Af w w'→k ((s.1,()),()) w'):Ae prog F.Ob [.agg #[iV s.1,iV s.2.1,uV s.2.2.1,uV s.2.2.2.1,iV s.2.2.2.2.1,iV s.2.2.2.2.2]] w false Si k:=by
 refine Ob.ok (f0:=s.1) (f1:=s.2.1) (f2:=s.2.2.1) (f3:=s.2.2.2.1) (f4:=s.2.2.2.2.1) (f5:=s.2.2.2.2.2) ?_
 unfold Ob.wp
 exact Ad λp w2 e2 k2 u2=>k2.c0 (c:=KI) rfl (h w2 u2)
theorem kY{x:Int×Int}{w:World}{k:TR jG→WP}(h: ∀(q:Sl) w',Af w w'→Ku w' q (Fr.fs (.find x))→(∀a,q.1=some a→w.heap.size≤a.block)→k ((q,()),()) w'):Ae prog F.Ic [.agg #[iV x.1,iV x.2]] w false jG k:=by
 refine Ic.ok (f0:=x.1) (f1:=x.2) ?_
 unfold Ic.wp
 refine Ad λp1 w2 e1 k1 u1=>?_
 rw[Be]
 have k3:=k1.drew
 have hold: ∀{w':World},Af w2.drew w'→ ∀j,j<2→w'.cell? (Addr.add ⟨p1,0,none⟩ j)=some ((w2.drew.cell? (Addr.add ⟨p1,0,none⟩ j)).getD undef):=λu j hj=>k3.hold u (λx=>x) j (by simpa using hj)
 refine k3.c0 (c:=KI) rfl (k3.c1 1 (c:=KI) rfl (?_))
 refine D5.cl λw10 u10=>?_
 have g10:=u10
 refine⟨⟨hold g10 1 (by decide),hold g10 0 (by decide),trivial⟩,?_⟩
 refine Qp.cl λw11 u11=>?_
 have g11:=g10.trans u11
 refine⟨⟨hold g11 1 (by decide),hold g11 0 (by decide),trivial⟩,?_⟩
 refine Ad λp22 w23 e22 k22 u22=>⟨⟨hold (g11.trans u22) 1 (by decide),hold (g11.trans u22) 0 (by decide),trivial⟩,h (some ⟨p22,0,none⟩,2,2) w23 (((Am.drew u1).trans g11 λ_ _ x=>x).trans u22 λ_ _ x=>x) (Yq k22 rfl rfl) λa ha=>?_⟩
 cases ha;exact Nat.le_trans (Nat.le_trans u1.size g11.size) (Nat.le_of_eq e22)
theorem Aap{x:Int×Int}{w:World}{k:TR [(false,[.i .u8])]→WP}(h:k ((2,()),()) w):Ae prog F.Fa [(.iface T.Gj (.agg #[iV x.1,iV x.2]))] w false [(false,[.i .u8])] k:=by
 refine Rx.ok (f0:=x.1) (f1:=x.2) ?_
 unfold Rx.wp
 exact h
theorem qO{x:Int×Int}{w:World}{k:TR Wh→WP}(h: ∀w',Af w w'→k ((okF (Fr.fs (.find x)),()),()) w'):Ae prog F.Ew [(.iface T.Gj (.agg #[iV x.1,iV x.2]))] w false Wh k:=by
 refine Rw.ok (f0:=x.1) (f1:=x.2) ?_
 unfold Rw.wp
 refine Aap (Jl rfl (kY λq w4 u4 hE _=>aB (fs:=(Fr.fs (.find x))) hE (by show 2≤100;decide) λw' g=>h w' (u4.trans g)))
theorem cZ(x:Int×Int): ∀e∈(Fr.fs (.find x)),0≤e.1∧e.1≤8∧e.2.2≤1125899906842624:=by
 intro e he
 simp only[Fr.fs,Z4,tY,lW,flU,flR,mG,List.mem_cons,List.not_mem_nil,or_false] at he
 rcases he with rfl|rfl<;>refine⟨?_,?_,?_⟩<;>dsimp only<;>omega
theorem Af7{x:Int×Int}{w:World}{k:TR xK→WP}(hn:okF (Fr.fs (.find x))=false→ ∀w',Af w w'→k (((none,0,0),()),(1,()),()) w')
  (h:okF (Fr.fs (.find x))=true→ ∀(y:Sl) w',OwnB w' w.heap.size y (aK 2 (Fr.fs (.find x)))→Af w w'→k (((y.1,y.2.1,y.2.2),()),(0,()),()) w'):Ae prog F.Il [(.iface T.Gj (.agg #[iV x.1,iV x.2]))] w true xK k:=by
 refine Qm.ok (f0:=x.1) (f1:=x.2) ?_
 unfold Qm.wp
 refine qO λw2 u2=>Ee (λc=>hn c w2 u2) λc=>?_
 have c:okF (Fr.fs (.find x))=true:=c
 refine Ad λp w4 e4 k4 u4=>Aap ?_
 have P4:=sG.new k4
 refine Bv.cl (n:=1) (v:=2) (by decide) (by simp) P4 λw8 O8 P8 X8=>?_
 have g8:Af w w8:=Am.trans (u2.trans u4) X8.u λz hz h=>by have:=u2.size;omega
 have hO: ∀z,O8 z→w2.heap.size≤z:=λz hz=>by
  rcases X8.sub z hz with h1|h1
  ·omega
  ·have:=u4.size;omega
 refine kY λq w10 u10 hE hqf=>?_
 have hq: ∀a,q.1=some a→ ¬O8 a.block:=λa ha hz=>by
  have:=hqf a ha
  have:=P8.lt _ hz
  omega
 exact Zl (kd:=2) (Y6 c (by show 2≤100;decide) (cZ x)) hE hq (by decide) (P8.Ai u10) (g8.trans u10) (λz hz=>Nat.le_trans u2.size (hO z hz)) (h c)
theorem Ah7{x:Int×Int}{w:World}{k:TR Si→WP}(h: ∀w',Af w w'→k ((zD (Fr.fs (.find x)),()),()) w'):Ae prog F.Qo [(.iface T.Gj (.agg #[iV x.1,iV x.2]))] w false Si k:=by
 refine Rn.ok (f0:=x.1) (f1:=x.2) ?_
 unfold Rn.wp
 refine kY λq w4 u4 hE _=>Vf (fs:=(Fr.fs (.find x))) hE (by show 2≤100;decide) (λe he=>⟨(cZ x e he).1,(cZ x e he).2.1⟩) λw' g=>h w' (u4.trans g)
theorem Afx{x:Int×Int}{n:Sl}{v:List Nat}{w:World}(hR:Row w n 1 (iY v))(hl:v.length=2){k:TR [(false,[.any])]→WP}(h: ∀w',Af w w'→k ((Fr.val (.find (wI v 0,wI v 1)),()),()) w'):Ae prog F.Qn [(.iface T.Gj (.agg #[iV x.1,iV x.2])),.slice n.1 n.2.1 n.2.2] w false [(false,[.any])] k:=by
 refine Rz.ok (n:=n) (f0:=x.1) (f1:=x.2) ?_
 unfold Rz.wp
 refine Ad λp w2 e2 k2 u2=>?_
 have R2:=hR.Ai u2
 exact Vs k2 R2 (i:=0) rfl (by omega) (Vs k2 R2 (i:=1) rfl (by omega) ((h w2 u2)))
theorem Af8{x:Int×Int}{w:World}{k:TR Si→WP}(h: ∀w',Af w w'→k ((x.1,()),()) w'):Ae prog F.N9 [.agg #[iV x.1,iV x.2]] w false Si k:=by
 refine N9.ok (f0:=x.1) (f1:=x.2) ?_
 unfold N9.wp
 exact Ad λp w2 e2 k2 u2=>k2.c0 (c:=KI) rfl (h w2 u2)
theorem lV{x:Int}{w:World}{k:TR jG→WP}(h: ∀(q:Sl) w',Af w w'→Ku w' q (Fr.fs (.want x))→(∀a,q.1=some a→w.heap.size≤a.block)→k ((q,()),()) w'):Ae prog F.D8 [.agg #[iV x]] w false jG k:=by
 exact D8.clF (me:=x) h
theorem Aa1{x:Int}{w:World}{k:TR [(false,[.i .u8])]→WP}(h:k ((3,()),()) w):Ae prog F.Fa [(.iface T.Gp (.agg #[iV x]))] w false [(false,[.i .u8])] k:=by
 refine Fz.ok (f0:=x) ?_
 unfold Fz.wp
 exact h
theorem Aah{x:Int}{w:World}{k:TR Wh→WP}(h: ∀w',Af w w'→k ((okF (Fr.fs (.want x)),()),()) w'):Ae prog F.Ew [(.iface T.Gp (.agg #[iV x]))] w false Wh k:=by
 refine Gq.ok (f0:=x) ?_
 unfold Gq.wp
 refine Aa1 (Jl rfl (lV λq w4 u4 hE _=>aB (fs:=(Fr.fs (.want x))) hE (by show 1≤100;decide) λw' g=>h w' (u4.trans g)))
theorem bT(x:Int): ∀e∈(Fr.fs (.want x)),0≤e.1∧e.1≤8∧e.2.2≤1125899906842624:=by
 intro e he
 simp only[Fr.fs,Z4,tY,lW,flU,flR,mG,List.mem_cons,List.not_mem_nil,or_false] at he
 subst he;refine⟨?_,?_,?_⟩<;>dsimp only<;>omega
theorem Aif{x:Int}{w:World}{k:TR xK→WP}(hn:okF (Fr.fs (.want x))=false→ ∀w',Af w w'→k (((none,0,0),()),(1,()),()) w')
  (h:okF (Fr.fs (.want x))=true→ ∀(y:Sl) w',OwnB w' w.heap.size y (aK 3 (Fr.fs (.want x)))→Af w w'→k (((y.1,y.2.1,y.2.2),()),(0,()),()) w'):Ae prog F.Il [(.iface T.Gp (.agg #[iV x]))] w true xK k:=by
 refine G9.ok (f0:=x) ?_
 unfold G9.wp
 refine Aah λw2 u2=>Ee (λc=>hn c w2 u2) λc=>?_
 have c:okF (Fr.fs (.want x))=true:=c
 refine Ad λp w4 e4 k4 u4=>Aa1 ?_
 have P4:=sG.new k4
 refine Bv.cl (n:=1) (v:=3) (by decide) (by simp) P4 λw8 O8 P8 X8=>?_
 have g8:Af w w8:=Am.trans (u2.trans u4) X8.u λz hz h=>by have:=u2.size;omega
 have hO: ∀z,O8 z→w2.heap.size≤z:=λz hz=>by
  rcases X8.sub z hz with h1|h1
  ·omega
  ·have:=u4.size;omega
 refine lV λq w10 u10 hE hqf=>?_
 have hq: ∀a,q.1=some a→ ¬O8 a.block:=λa ha hz=>by
  have:=hqf a ha
  have:=P8.lt _ hz
  omega
 exact Zl (kd:=3) (Y6 c (by show 1≤100;decide) (bT x)) hE hq (by decide) (P8.Ai u10) (g8.trans u10) (λz hz=>Nat.le_trans u2.size (hO z hz)) (h c)
theorem Aie{x:Int}{w:World}{k:TR Si→WP}(h: ∀w',Af w w'→k ((zD (Fr.fs (.want x)),()),()) w'):Ae prog F.Qo [(.iface T.Gp (.agg #[iV x]))] w false Si k:=by
 refine Sj.ok (f0:=x) ?_
 unfold Sj.wp
 refine lV λq w4 u4 hE _=>Vf (fs:=(Fr.fs (.want x))) hE (by show 1≤100;decide) (λe he=>⟨(bT x e he).1,(bT x e he).2.1⟩) λw' g=>h w' (u4.trans g)
theorem Agp{x:Int}{n:Sl}{v:List Nat}{w:World}(hR:Row w n 1 (iY v))(hl:v.length=1){k:TR [(false,[.any])]→WP}(h: ∀w',Af w w'→k ((Fr.val (.want (wI v 0)),()),()) w'):Ae prog F.Qn [(.iface T.Gp (.agg #[iV x])),.slice n.1 n.2.1 n.2.2] w false [(false,[.any])] k:=by
 refine Ro.ok (n:=n) (f0:=x) ?_
 unfold Ro.wp
 refine Ad λp w2 e2 k2 u2=>?_
 have R2:=hR.Ai u2
 exact Vs k2 R2 (i:=0) rfl (by omega) ((h w2 u2))
theorem Ag3{x:Int}{w:World}{k:TR Si→WP}(h: ∀w',Af w w'→k ((x,()),()) w'):Ae prog F.Oh [.agg #[iV x]] w false Si k:=by
 refine Oh.ok (f0:=x) ?_
 unfold Oh.wp
 exact Ad λp w2 e2 k2 u2=>k2.c0 (c:=KI) rfl (h w2 u2)
theorem iR{x:Int×Int×Int}{w:World}{k:TR jG→WP}(h: ∀(q:Sl) w',Af w w'→Ku w' q (Fr.fs (.pulse x))→(∀a,q.1=some a→w.heap.size≤a.block)→k ((q,()),()) w'):Ae prog F.He [.agg #[iV x.1,iV x.2.1,iV x.2.2]] w false jG k:=by
 refine He.ok (f0:=x.1) (f1:=x.2.1) (f2:=x.2.2) ?_
 unfold He.wp
 refine Ad λp1 w2 e1 k1 u1=>?_
 rw[Be]
 have k3:=k1.drew
 have hold: ∀{w':World},Af w2.drew w'→ ∀j,j<3→w'.cell? (Addr.add ⟨p1,0,none⟩ j)=some ((w2.drew.cell? (Addr.add ⟨p1,0,none⟩ j)).getD undef):=λu j hj=>k3.hold u (λx=>x) j (by simpa using hj)
 refine k3.c0 (c:=KI) rfl (k3.c1 1 (c:=KI) rfl (k3.c1 2 (c:=KI) rfl (?_)))
 refine D5.cl λw10 u10=>?_
 have g10:=u10
 refine⟨⟨hold g10 2 (by decide),hold g10 1 (by decide),hold g10 0 (by decide),trivial⟩,?_⟩
 refine D5.cl λw11 u11=>?_
 have g11:=g10.trans u11
 refine⟨⟨hold g11 2 (by decide),hold g11 1 (by decide),hold g11 0 (by decide),trivial⟩,?_⟩
 refine Gn.cl λw12 u12=>?_
 have g12:=g11.trans u12
 refine⟨⟨hold g12 2 (by decide),hold g12 1 (by decide),hold g12 0 (by decide),trivial⟩,?_⟩
 refine Ad λp22 w23 e22 k22 u22=>⟨⟨hold (g12.trans u22) 2 (by decide),hold (g12.trans u22) 1 (by decide),hold (g12.trans u22) 0 (by decide),trivial⟩,h (some ⟨p22,0,none⟩,3,3) w23 (((Am.drew u1).trans g12 λ_ _ x=>x).trans u22 λ_ _ x=>x) (Yq k22 rfl rfl) λa ha=>?_⟩
 cases ha;exact Nat.le_trans (Nat.le_trans u1.size g12.size) (Nat.le_of_eq e22)
theorem uZ{x:Int×Int×Int}{w:World}{k:TR [(false,[.i .u8])]→WP}(h:k ((4,()),()) w):Ae prog F.Fa [(.iface T.Ef (.agg #[iV x.1,iV x.2.1,iV x.2.2]))] w false [(false,[.i .u8])] k:=by
 refine Q5.ok (f0:=x.1) (f1:=x.2.1) (f2:=x.2.2) ?_
 unfold Q5.wp
 exact h
theorem mV{x:Int×Int×Int}{w:World}{k:TR Wh→WP}(h: ∀w',Af w w'→k ((okF (Fr.fs (.pulse x)),()),()) w'):Ae prog F.Ew [(.iface T.Ef (.agg #[iV x.1,iV x.2.1,iV x.2.2]))] w false Wh k:=by
 refine Qx.ok (f0:=x.1) (f1:=x.2.1) (f2:=x.2.2) ?_
 unfold Qx.wp
 refine uZ (Jl rfl (iR λq w4 u4 hE _=>aB (fs:=(Fr.fs (.pulse x))) hE (by show 3≤100;decide) λw' g=>h w' (u4.trans g)))
theorem Z5(x:Int×Int×Int): ∀e∈(Fr.fs (.pulse x)),0≤e.1∧e.1≤8∧e.2.2≤1125899906842624:=by
 intro e he
 simp only[Fr.fs,Z4,tY,lW,flU,flR,mG,List.mem_cons,List.not_mem_nil,or_false] at he
 rcases he with rfl|rfl|rfl<;>refine⟨?_,?_,?_⟩<;>dsimp only<;>omega
theorem Aez{x:Int×Int×Int}{w:World}{k:TR xK→WP}(hn:okF (Fr.fs (.pulse x))=false→ ∀w',Af w w'→k (((none,0,0),()),(1,()),()) w')
  (h:okF (Fr.fs (.pulse x))=true→ ∀(y:Sl) w',OwnB w' w.heap.size y (aK 4 (Fr.fs (.pulse x)))→Af w w'→k (((y.1,y.2.1,y.2.2),()),(0,()),()) w'):Ae prog F.Il [(.iface T.Ef (.agg #[iV x.1,iV x.2.1,iV x.2.2]))] w true xK k:=by
 refine Qa.ok (f0:=x.1) (f1:=x.2.1) (f2:=x.2.2) ?_
 unfold Qa.wp
 refine mV λw2 u2=>Ee (λc=>hn c w2 u2) λc=>?_
 have c:okF (Fr.fs (.pulse x))=true:=c
 refine Ad λp w4 e4 k4 u4=>uZ ?_
 have P4:=sG.new k4
 refine Bv.cl (n:=1) (v:=4) (by decide) (by simp) P4 λw8 O8 P8 X8=>?_
 have g8:Af w w8:=Am.trans (u2.trans u4) X8.u λz hz h=>by have:=u2.size;omega
 have hO: ∀z,O8 z→w2.heap.size≤z:=λz hz=>by
  rcases X8.sub z hz with h1|h1
  ·omega
  ·have:=u4.size;omega
 refine iR λq w10 u10 hE hqf=>?_
 have hq: ∀a,q.1=some a→ ¬O8 a.block:=λa ha hz=>by
  have:=hqf a ha
  have:=P8.lt _ hz
  omega
 exact Zl (kd:=4) (Y6 c (by show 3≤100;decide) (Z5 x)) hE hq (by decide) (P8.Ai u10) (g8.trans u10) (λz hz=>Nat.le_trans u2.size (hO z hz)) (h c)
theorem Ae0{x:Int×Int×Int}{w:World}{k:TR Si→WP}(h: ∀w',Af w w'→k ((zD (Fr.fs (.pulse x)),()),()) w'):Ae prog F.Qo [(.iface T.Ef (.agg #[iV x.1,iV x.2.1,iV x.2.2]))] w false Si k:=by
 refine Rh.ok (f0:=x.1) (f1:=x.2.1) (f2:=x.2.2) ?_
 unfold Rh.wp
 refine iR λq w4 u4 hE _=>Vf (fs:=(Fr.fs (.pulse x))) hE (by show 3≤100;decide) (λe he=>⟨(Z5 x e he).1,(Z5 x e he).2.1⟩) λw' g=>h w' (u4.trans g)
theorem Adr{x:Int×Int×Int}{n:Sl}{v:List Nat}{w:World}(hR:Row w n 1 (iY v))(hl:v.length=3){k:TR [(false,[.any])]→WP}(h: ∀w',Af w w'→k ((Fr.val (.pulse (wI v 0,wI v 1,wI v 2)),()),()) w'):Ae prog F.Qn [(.iface T.Ef (.agg #[iV x.1,iV x.2.1,iV x.2.2])),.slice n.1 n.2.1 n.2.2] w false [(false,[.any])] k:=by
 refine Ko.ok (n:=n) (f0:=x.1) (f1:=x.2.1) (f2:=x.2.2) ?_
 unfold Ko.wp
 refine Ad λp w2 e2 k2 u2=>?_
 have R2:=hR.Ai u2
 exact Vs k2 R2 (i:=0) rfl (by omega) (Vs k2 R2 (i:=1) rfl (by omega) (Vs k2 R2 (i:=2) rfl (by omega) ((h w2 u2))))
theorem Ad2{x:Int×Int×Int}{w:World}{k:TR Si→WP}(h: ∀w',Af w w'→k ((x.1,()),()) w'):Ae prog F.Hf [.agg #[iV x.1,iV x.2.1,iV x.2.2]] w false Si k:=by
 refine Hf.ok (f0:=x.1) (f1:=x.2.1) (f2:=x.2.2) ?_
 unfold Hf.wp
 exact Ad λp w2 e2 k2 u2=>k2.c0 (c:=KI) rfl (h w2 u2)
theorem iJ{x:R8}{w:World}{k:TR jG→WP}(h: ∀(q:Sl) w',Af w w'→Ku w' q (Fr.fs (.reply x))→(∀a,q.1=some a→w.heap.size≤a.block)→k ((q,()),()) w'):Ae prog F.G7 [.agg #[iV x.1,iV x.2.1,iV x.2.2.1,iV x.2.2.2.1,iV x.2.2.2.2.1,iV x.2.2.2.2.2.1,uV x.2.2.2.2.2.2.1,iV x.2.2.2.2.2.2.2]] w false jG k:=by
 refine G7.ok (f0:=x.1) (f1:=x.2.1) (f2:=x.2.2.1) (f3:=x.2.2.2.1) (f4:=x.2.2.2.2.1) (f5:=x.2.2.2.2.2.1) (f6:=x.2.2.2.2.2.2.1) (f7:=x.2.2.2.2.2.2.2) ?_
 unfold G7.wp
 refine Ad λp1 w2 e1 k1 u1=>?_
 rw[Be]
 have k3:=k1.drew
 have hold: ∀{w':World},Af w2.drew w'→ ∀j,j<8→w'.cell? (Addr.add ⟨p1,0,none⟩ j)=some ((w2.drew.cell? (Addr.add ⟨p1,0,none⟩ j)).getD undef):=λu j hj=>k3.hold u (λx=>x) j (by simpa using hj)
 refine k3.c0 (c:=KI) rfl (k3.c1 1 (c:=KI) rfl (k3.c1 2 (c:=KI) rfl (k3.c1 3 (c:=KI) rfl (k3.c1 4 (c:=KI) rfl (k3.c1 5 (c:=KI) rfl (k3.c1 6 (c:=KU) rfl (k3.c1 7 (c:=KI) rfl (?_))))))))
 refine D5.cl λw10 u10=>?_
 have g10:=u10
 refine⟨⟨hold g10 7 (by decide),hold g10 6 (by decide),hold g10 5 (by decide),hold g10 4 (by decide),hold g10 3 (by decide),hold g10 2 (by decide),hold g10 1 (by decide),hold g10 0 (by decide),trivial⟩,?_⟩
 refine D5.cl λw11 u11=>?_
 have g11:=g10.trans u11
 refine⟨⟨hold g11 7 (by decide),hold g11 6 (by decide),hold g11 5 (by decide),hold g11 4 (by decide),hold g11 3 (by decide),hold g11 2 (by decide),hold g11 1 (by decide),hold g11 0 (by decide),trivial⟩,?_⟩
 refine Gn.cl λw12 u12=>?_
 have g12:=g11.trans u12
 refine⟨⟨hold g12 7 (by decide),hold g12 6 (by decide),hold g12 5 (by decide),hold g12 4 (by decide),hold g12 3 (by decide),hold g12 2 (by decide),hold g12 1 (by decide),hold g12 0 (by decide),trivial⟩,?_⟩
 refine Gn.cl λw13 u13=>?_
 have g13:=g12.trans u13
 refine⟨⟨hold g13 7 (by decide),hold g13 6 (by decide),hold g13 5 (by decide),hold g13 4 (by decide),hold g13 3 (by decide),hold g13 2 (by decide),hold g13 1 (by decide),hold g13 0 (by decide),trivial⟩,?_⟩
 refine Gn.cl λw14 u14=>?_
 have g14:=g13.trans u14
 refine⟨⟨hold g14 7 (by decide),hold g14 6 (by decide),hold g14 5 (by decide),hold g14 4 (by decide),hold g14 3 (by decide),hold g14 2 (by decide),hold g14 1 (by decide),hold g14 0 (by decide),trivial⟩,?_⟩
 refine D5.cl λw15 u15=>?_
 have g15:=g14.trans u15
 refine⟨⟨hold g15 7 (by decide),hold g15 6 (by decide),hold g15 5 (by decide),hold g15 4 (by decide),hold g15 3 (by decide),hold g15 2 (by decide),hold g15 1 (by decide),hold g15 0 (by decide),trivial⟩,?_⟩
 refine E5.clw λw16 u16=>?_
 have g16:=g15.trans u16
 refine⟨⟨hold g16 7 (by decide),hold g16 6 (by decide),hold g16 5 (by decide),hold g16 4 (by decide),hold g16 3 (by decide),hold g16 2 (by decide),hold g16 1 (by decide),hold g16 0 (by decide),trivial⟩,?_⟩
 refine Qp.cl λw17 u17=>?_
 have g17:=g16.trans u17
 refine⟨⟨hold g17 7 (by decide),hold g17 6 (by decide),hold g17 5 (by decide),hold g17 4 (by decide),hold g17 3 (by decide),hold g17 2 (by decide),hold g17 1 (by decide),hold g17 0 (by decide),trivial⟩,?_⟩
 refine Ad λp22 w23 e22 k22 u22=>⟨⟨hold (g17.trans u22) 7 (by decide),hold (g17.trans u22) 6 (by decide),hold (g17.trans u22) 5 (by decide),hold (g17.trans u22) 4 (by decide),hold (g17.trans u22) 3 (by decide),hold (g17.trans u22) 2 (by decide),hold (g17.trans u22) 1 (by decide),hold (g17.trans u22) 0 (by decide),trivial⟩,h (some ⟨p22,0,none⟩,8,8) w23 (((Am.drew u1).trans g17 λ_ _ x=>x).trans u22 λ_ _ x=>x) (Yq k22 rfl rfl) λa ha=>?_⟩
 cases ha;exact Nat.le_trans (Nat.le_trans u1.size g17.size) (Nat.le_of_eq e22)
theorem vF{x:R8}{w:World}{k:TR [(false,[.i .u8])]→WP}(h:k ((5,()),()) w):Ae prog F.Fa [(.iface T.Gl (.agg #[iV x.1,iV x.2.1,iV x.2.2.1,iV x.2.2.2.1,iV x.2.2.2.2.1,iV x.2.2.2.2.2.1,uV x.2.2.2.2.2.2.1,iV x.2.2.2.2.2.2.2]))] w false [(false,[.i .u8])] k:=by
 refine Q9.ok (f0:=x.1) (f1:=x.2.1) (f2:=x.2.2.1) (f3:=x.2.2.2.1) (f4:=x.2.2.2.2.1) (f5:=x.2.2.2.2.2.1) (f6:=x.2.2.2.2.2.2.1) (f7:=x.2.2.2.2.2.2.2) ?_
 unfold Q9.wp
 exact h
theorem wC{x:R8}{w:World}{k:TR Wh→WP}(h: ∀w',Af w w'→k ((okF (Fr.fs (.reply x)),()),()) w'):Ae prog F.Ew [(.iface T.Gl (.agg #[iV x.1,iV x.2.1,iV x.2.2.1,iV x.2.2.2.1,iV x.2.2.2.2.1,iV x.2.2.2.2.2.1,uV x.2.2.2.2.2.2.1,iV x.2.2.2.2.2.2.2]))] w false Wh k:=by
 refine Qy.ok (f0:=x.1) (f1:=x.2.1) (f2:=x.2.2.1) (f3:=x.2.2.2.1) (f4:=x.2.2.2.2.1) (f5:=x.2.2.2.2.2.1) (f6:=x.2.2.2.2.2.2.1) (f7:=x.2.2.2.2.2.2.2) ?_
 unfold Qy.wp
 refine vF (Jl rfl (iJ λq w4 u4 hE _=>aB (fs:=(Fr.fs (.reply x))) hE (by show 8≤100;decide) λw' g=>h w' (u4.trans g)))
theorem aC(x:R8): ∀e∈(Fr.fs (.reply x)),0≤e.1∧e.1≤8∧e.2.2≤1125899906842624:=by
 intro e he
 simp only[Fr.fs,Z4,tY,lW,flU,flR,mG,List.mem_cons,List.not_mem_nil,or_false] at he
 rcases he with rfl|rfl|rfl|rfl|rfl|rfl|rfl|rfl<;>refine⟨?_,?_,?_⟩<;>dsimp only<;>omega
theorem Aeh{x:R8}{w:World}{k:TR xK→WP}(hn:okF (Fr.fs (.reply x))=false→ ∀w',Af w w'→k (((none,0,0),()),(1,()),()) w')
  (h:okF (Fr.fs (.reply x))=true→ ∀(y:Sl) w',OwnB w' w.heap.size y (aK 5 (Fr.fs (.reply x)))→Af w w'→k (((y.1,y.2.1,y.2.2),()),(0,()),()) w'):Ae prog F.Il [(.iface T.Gl (.agg #[iV x.1,iV x.2.1,iV x.2.2.1,iV x.2.2.2.1,iV x.2.2.2.2.1,iV x.2.2.2.2.2.1,uV x.2.2.2.2.2.2.1,iV x.2.2.2.2.2.2.2]))] w true xK k:=by
 refine P9.ok (f0:=x.1) (f1:=x.2.1) (f2:=x.2.2.1) (f3:=x.2.2.2.1) (f4:=x.2.2.2.2.1) (f5:=x.2.2.2.2.2.1) (f6:=x.2.2.2.2.2.2.1) (f7:=x.2.2.2.2.2.2.2) ?_
 unfold P9.wp
 refine wC λw2 u2=>Ee (λc=>hn c w2 u2) λc=>?_
 have c:okF (Fr.fs (.reply x))=true:=c
 refine Ad λp w4 e4 k4 u4=>vF ?_
 have P4:=sG.new k4
 refine Bv.cl (n:=1) (v:=5) (by decide) (by simp) P4 λw8 O8 P8 X8=>?_
 have g8:Af w w8:=Am.trans (u2.trans u4) X8.u λz hz h=>by have:=u2.size;omega
 have hO: ∀z,O8 z→w2.heap.size≤z:=λz hz=>by
  rcases X8.sub z hz with h1|h1
  ·omega
  ·have:=u4.size;omega
 refine iJ λq w10 u10 hE hqf=>?_
 have hq: ∀a,q.1=some a→ ¬O8 a.block:=λa ha hz=>by
  have:=hqf a ha
  have:=P8.lt _ hz
  omega
 exact Zl (kd:=5) (Y6 c (by show 8≤100;decide) (aC x)) hE hq (by decide) (P8.Ai u10) (g8.trans u10) (λz hz=>Nat.le_trans u2.size (hO z hz)) (h c)
theorem Aeq{x:R8}{w:World}{k:TR Si→WP}(h: ∀w',Af w w'→k ((zD (Fr.fs (.reply x)),()),()) w'):Ae prog F.Qo [(.iface T.Gl (.agg #[iV x.1,iV x.2.1,iV x.2.2.1,iV x.2.2.2.1,iV x.2.2.2.2.1,iV x.2.2.2.2.2.1,uV x.2.2.2.2.2.2.1,iV x.2.2.2.2.2.2.2]))] w false Si k:=by
 refine Rf.ok (f0:=x.1) (f1:=x.2.1) (f2:=x.2.2.1) (f3:=x.2.2.2.1) (f4:=x.2.2.2.2.1) (f5:=x.2.2.2.2.2.1) (f6:=x.2.2.2.2.2.2.1) (f7:=x.2.2.2.2.2.2.2) ?_
 unfold Rf.wp
 refine iJ λq w4 u4 hE _=>Vf (fs:=(Fr.fs (.reply x))) hE (by show 8≤100;decide) (λe he=>⟨(aC x e he).1,(aC x e he).2.1⟩) λw' g=>h w' (u4.trans g)
theorem Ad0{x:R8}{n:Sl}{v:List Nat}{w:World}(hR:Row w n 1 (iY v))(hl:v.length=8){k:TR [(false,[.any])]→WP}(h: ∀w',Af w w'→k ((Fr.val (.reply (wI v 0,wI v 1,wI v 2,wI v 3,wI v 4,wI v 5,wH v 6,wI v 7)),()),()) w'):Ae prog F.Qn [(.iface T.Gl (.agg #[iV x.1,iV x.2.1,iV x.2.2.1,iV x.2.2.2.1,iV x.2.2.2.2.1,iV x.2.2.2.2.2.1,uV x.2.2.2.2.2.2.1,iV x.2.2.2.2.2.2.2])),.slice n.1 n.2.1 n.2.2] w false [(false,[.any])] k:=by
 refine Qz.ok (n:=n) (f0:=x.1) (f1:=x.2.1) (f2:=x.2.2.1) (f3:=x.2.2.2.1) (f4:=x.2.2.2.2.1) (f5:=x.2.2.2.2.2.1) (f6:=x.2.2.2.2.2.2.1) (f7:=x.2.2.2.2.2.2.2) ?_
 unfold Qz.wp
 refine Ad λp w2 e2 k2 u2=>?_
 have R2:=hR.Ai u2
 exact Vs k2 R2 (i:=0) rfl (by omega) (Vs k2 R2 (i:=1) rfl (by omega) (Vs k2 R2 (i:=2) rfl (by omega) (Vs k2 R2 (i:=3) rfl (by omega) (Vs k2 R2 (i:=4) rfl (by omega) (Vs k2 R2 (i:=5) rfl (by omega) (pV k2 R2 (i:=6) rfl (by omega) (Vs k2 R2 (i:=7) rfl (by omega) ((h w2 u2)))))))))
theorem Aeg{x:R8}{w:World}{k:TR Si→WP}(h: ∀w',Af w w'→k ((x.1,()),()) w'):Ae prog F.Lu [.agg #[iV x.1,iV x.2.1,iV x.2.2.1,iV x.2.2.2.1,iV x.2.2.2.2.1,iV x.2.2.2.2.2.1,uV x.2.2.2.2.2.2.1,iV x.2.2.2.2.2.2.2]] w false Si k:=by
 refine Lu.ok (f0:=x.1) (f1:=x.2.1) (f2:=x.2.2.1) (f3:=x.2.2.2.1) (f4:=x.2.2.2.2.1) (f5:=x.2.2.2.2.2.1) (f6:=x.2.2.2.2.2.2.1) (f7:=x.2.2.2.2.2.2.2) ?_
 unfold Lu.wp
 exact Ad λp w2 e2 k2 u2=>k2.c0 (c:=KI) rfl (h w2 u2)
theorem dP{x:A6}{w:World}{k:TR jG→WP}(h: ∀(q:Sl) w',Af w w'→Ku w' q (Fr.fs (.anchor x))→(∀a,q.1=some a→w.heap.size≤a.block)→k ((q,()),()) w'):Ae prog F.Dt [.agg #[iV x.1,uV x.2.1,iV x.2.2.1,uV x.2.2.2.1,iV x.2.2.2.2.1,iV x.2.2.2.2.2]] w false jG k:=by
 refine Dt.ok (f0:=x.1) (f1:=x.2.1) (f2:=x.2.2.1) (f3:=x.2.2.2.1) (f4:=x.2.2.2.2.1) (f5:=x.2.2.2.2.2) ?_
 unfold Dt.wp
 refine Ad λp1 w2 e1 k1 u1=>?_
 rw[Be]
 have k3:=k1.drew
 have hold: ∀{w':World},Af w2.drew w'→ ∀j,j<6→w'.cell? (Addr.add ⟨p1,0,none⟩ j)=some ((w2.drew.cell? (Addr.add ⟨p1,0,none⟩ j)).getD undef):=λu j hj=>k3.hold u (λx=>x) j (by simpa using hj)
 refine k3.c0 (c:=KI) rfl (k3.c1 1 (c:=KU) rfl (k3.c1 2 (c:=KI) rfl (k3.c1 3 (c:=KU) rfl (k3.c1 4 (c:=KI) rfl (k3.c1 5 (c:=KI) rfl (?_))))))
 refine D5.cl λw10 u10=>?_
 have g10:=u10
 refine⟨⟨hold g10 5 (by decide),hold g10 4 (by decide),hold g10 3 (by decide),hold g10 2 (by decide),hold g10 1 (by decide),hold g10 0 (by decide),trivial⟩,?_⟩
 refine E5.clw λw11 u11=>?_
 have g11:=g10.trans u11
 refine⟨⟨hold g11 5 (by decide),hold g11 4 (by decide),hold g11 3 (by decide),hold g11 2 (by decide),hold g11 1 (by decide),hold g11 0 (by decide),trivial⟩,?_⟩
 refine D5.cl λw12 u12=>?_
 have g12:=g11.trans u12
 refine⟨⟨hold g12 5 (by decide),hold g12 4 (by decide),hold g12 3 (by decide),hold g12 2 (by decide),hold g12 1 (by decide),hold g12 0 (by decide),trivial⟩,?_⟩
 refine E5.clw λw13 u13=>?_
 have g13:=g12.trans u13
 refine⟨⟨hold g13 5 (by decide),hold g13 4 (by decide),hold g13 3 (by decide),hold g13 2 (by decide),hold g13 1 (by decide),hold g13 0 (by decide),trivial⟩,?_⟩
 refine Gn.cl λw14 u14=>?_
 have g14:=g13.trans u14
 refine⟨⟨hold g14 5 (by decide),hold g14 4 (by decide),hold g14 3 (by decide),hold g14 2 (by decide),hold g14 1 (by decide),hold g14 0 (by decide),trivial⟩,?_⟩
 refine Gn.cl λw15 u15=>?_
 have g15:=g14.trans u15
 refine⟨⟨hold g15 5 (by decide),hold g15 4 (by decide),hold g15 3 (by decide),hold g15 2 (by decide),hold g15 1 (by decide),hold g15 0 (by decide),trivial⟩,?_⟩
 refine Ad λp22 w23 e22 k22 u22=>⟨⟨hold (g15.trans u22) 5 (by decide),hold (g15.trans u22) 4 (by decide),hold (g15.trans u22) 3 (by decide),hold (g15.trans u22) 2 (by decide),hold (g15.trans u22) 1 (by decide),hold (g15.trans u22) 0 (by decide),trivial⟩,h (some ⟨p22,0,none⟩,6,6) w23 (((Am.drew u1).trans g15 λ_ _ x=>x).trans u22 λ_ _ x=>x) (Yq k22 rfl rfl) λa ha=>?_⟩
 cases ha;exact Nat.le_trans (Nat.le_trans u1.size g15.size) (Nat.le_of_eq e22)
theorem pX{x:A6}{w:World}{k:TR [(false,[.i .u8])]→WP}(h:k ((6,()),()) w):Ae prog F.Fa [(.iface T.Bh (.agg #[iV x.1,uV x.2.1,iV x.2.2.1,uV x.2.2.2.1,iV x.2.2.2.2.1,iV x.2.2.2.2.2]))] w false [(false,[.i .u8])] k:=by
 refine F5.ok (f0:=x.1) (f1:=x.2.1) (f2:=x.2.2.1) (f3:=x.2.2.2.1) (f4:=x.2.2.2.2.1) (f5:=x.2.2.2.2.2) ?_
 unfold F5.wp
 exact h
theorem dO{x:A6}{w:World}{k:TR Wh→WP}(h: ∀w',Af w w'→k ((okF (Fr.fs (.anchor x)),()),()) w'):Ae prog F.Ew [(.iface T.Bh (.agg #[iV x.1,uV x.2.1,iV x.2.2.1,uV x.2.2.2.1,iV x.2.2.2.2.1,iV x.2.2.2.2.2]))] w false Wh k:=by
 refine Ej.ok (f0:=x.1) (f1:=x.2.1) (f2:=x.2.2.1) (f3:=x.2.2.2.1) (f4:=x.2.2.2.2.1) (f5:=x.2.2.2.2.2) ?_
 unfold Ej.wp
 refine pX (Jl rfl (dP λq w4 u4 hE _=>aB (fs:=(Fr.fs (.anchor x))) hE (by show 6≤100;decide) λw' g=>h w' (u4.trans g)))
theorem Yx(x:A6): ∀e∈(Fr.fs (.anchor x)),0≤e.1∧e.1≤8∧e.2.2≤1125899906842624:=by
 intro e he
 simp only[Fr.fs,Z4,tY,lW,flU,flR,mG,List.mem_cons,List.not_mem_nil,or_false] at he
 rcases he with rfl|rfl|rfl|rfl|rfl|rfl<;>refine⟨?_,?_,?_⟩<;>dsimp only<;>omega
theorem Acn{x:A6}{w:World}{k:TR xK→WP}(hn:okF (Fr.fs (.anchor x))=false→ ∀w',Af w w'→k (((none,0,0),()),(1,()),()) w')
  (h:okF (Fr.fs (.anchor x))=true→ ∀(y:Sl) w',OwnB w' w.heap.size y (aK 6 (Fr.fs (.anchor x)))→Af w w'→k (((y.1,y.2.1,y.2.2),()),(0,()),()) w'):Ae prog F.Il [(.iface T.Bh (.agg #[iV x.1,uV x.2.1,iV x.2.2.1,uV x.2.2.2.1,iV x.2.2.2.2.1,iV x.2.2.2.2.2]))] w true xK k:=by
 refine Pn.ok (f0:=x.1) (f1:=x.2.1) (f2:=x.2.2.1) (f3:=x.2.2.2.1) (f4:=x.2.2.2.2.1) (f5:=x.2.2.2.2.2) ?_
 unfold Pn.wp
 refine dO λw2 u2=>Ee (λc=>hn c w2 u2) λc=>?_
 have c:okF (Fr.fs (.anchor x))=true:=c
 refine Ad λp w4 e4 k4 u4=>pX ?_
 have P4:=sG.new k4
 refine Bv.cl (n:=1) (v:=6) (by decide) (by simp) P4 λw8 O8 P8 X8=>?_
 have g8:Af w w8:=Am.trans (u2.trans u4) X8.u λz hz h=>by have:=u2.size;omega
 have hO: ∀z,O8 z→w2.heap.size≤z:=λz hz=>by
  rcases X8.sub z hz with h1|h1
  ·omega
  ·have:=u4.size;omega
 refine dP λq w10 u10 hE hqf=>?_
 have hq: ∀a,q.1=some a→ ¬O8 a.block:=λa ha hz=>by
  have:=hqf a ha
  have:=P8.lt _ hz
  omega
 exact Zl (kd:=6) (Y6 c (by show 6≤100;decide) (Yx x)) hE hq (by decide) (P8.Ai u10) (g8.trans u10) (λz hz=>Nat.le_trans u2.size (hO z hz)) (h c)
theorem Ack{x:A6}{w:World}{k:TR Si→WP}(h: ∀w',Af w w'→k ((zD (Fr.fs (.anchor x)),()),()) w'):Ae prog F.Qo [(.iface T.Bh (.agg #[iV x.1,uV x.2.1,iV x.2.2.1,uV x.2.2.2.1,iV x.2.2.2.2.1,iV x.2.2.2.2.2]))] w false Si k:=by
 refine Qr.ok (f0:=x.1) (f1:=x.2.1) (f2:=x.2.2.1) (f3:=x.2.2.2.1) (f4:=x.2.2.2.2.1) (f5:=x.2.2.2.2.2) ?_
 unfold Qr.wp
 refine dP λq w4 u4 hE _=>Vf (fs:=(Fr.fs (.anchor x))) hE (by show 6≤100;decide) (λe he=>⟨(Yx x e he).1,(Yx x e he).2.1⟩) λw' g=>h w' (u4.trans g)
theorem Acl{x:A6}{n:Sl}{v:List Nat}{w:World}(hR:Row w n 1 (iY v))(hl:v.length=6){k:TR [(false,[.any])]→WP}(h: ∀w',Af w w'→k ((Fr.val (.anchor (wI v 0,wH v 1,wI v 2,wH v 3,wI v 4,wI v 5)),()),()) w'):Ae prog F.Qn [(.iface T.Bh (.agg #[iV x.1,uV x.2.1,iV x.2.2.1,uV x.2.2.2.1,iV x.2.2.2.2.1,iV x.2.2.2.2.2])),.slice n.1 n.2.1 n.2.2] w false [(false,[.any])] k:=by
 refine Qq.ok (n:=n) (f0:=x.1) (f1:=x.2.1) (f2:=x.2.2.1) (f3:=x.2.2.2.1) (f4:=x.2.2.2.2.1) (f5:=x.2.2.2.2.2) ?_
 unfold Qq.wp
 refine Ad λp w2 e2 k2 u2=>?_
 have R2:=hR.Ai u2
 exact Vs k2 R2 (i:=0) rfl (by omega) (pV k2 R2 (i:=1) rfl (by omega) (Vs k2 R2 (i:=2) rfl (by omega) (pV k2 R2 (i:=3) rfl (by omega) (Vs k2 R2 (i:=4) rfl (by omega) (Vs k2 R2 (i:=5) rfl (by omega) ((h w2 u2)))))))
theorem Aca{x:A6}{w:World}{k:TR Si→WP}(h: ∀w',Af w w'→k ((x.1,()),()) w'):Ae prog F.Ll [.agg #[iV x.1,uV x.2.1,iV x.2.2.1,uV x.2.2.2.1,iV x.2.2.2.2.1,iV x.2.2.2.2.2]] w false Si k:=by
 refine Ll.ok (f0:=x.1) (f1:=x.2.1) (f2:=x.2.2.1) (f3:=x.2.2.2.1) (f4:=x.2.2.2.2.1) (f5:=x.2.2.2.2.2) ?_
 unfold Ll.wp
 exact Ad λp w2 e2 k2 u2=>k2.c0 (c:=KI) rfl (h w2 u2)
theorem Fr.good(f:Fr){w:World}{k:TR Wh→WP}(h: ∀w',Af w w'→k ((f.ok,()),()) w'):Ae prog F.Ew [f.val] w false Wh k:=by
 cases f with
 |sync s=>exact Aat h
 |find x=>exact qO h
 |want x=>exact Aah h
 |pulse x=>exact mV h
 |reply x=>exact wC h
 |anchor x=>exact dO h
theorem Fr.enc(f:Fr){w:World}{k:TR xK→WP}(hn:f.ok=false→ ∀w',Af w w'→k (((none,0,0),()),(1,()),()) w')(h:f.ok=true→ ∀(y:Sl) w',OwnB w' w.heap.size y f.by→Af w w'→k (((y.1,y.2.1,y.2.2),()),(0,()),()) w'):Ae prog F.Il [f.val] w true xK k:=by
 cases f with
 |sync s=>exact Ahz hn h
 |find x=>exact Af7 hn h
 |want x=>exact Aif hn h
 |pulse x=>exact Aez hn h
 |reply x=>exact Aeh hn h
 |anchor x=>exact Acn hn h
theorem Fr.Aon(f:Fr){w:World}{k:TR Si→WP}(h: ∀w',Af w w'→k ((zD f.fs,()),()) w'):Ae prog F.Qo [f.val] w false Si k:=by
 cases f with
 |sync s=>exact Ahv h
 |find x=>exact Ah7 h
 |want x=>exact Aie h
 |pulse x=>exact Ae0 h
 |reply x=>exact Aeq h
 |anchor x=>exact Ack h
theorem Fr.Ajs(f:Fr){w:World}{k:TR jG→WP}(h: ∀(q:Sl) w',Af w w'→Ku w' q f.fs→(∀a,q.1=some a→w.heap.size≤a.block)→k ((q,()),()) w'):ivK prog f.val "angelus/frame.fields" [] w false jG k:=by
 cases f with
 |sync s=>exact Ye (g:=F.Dh) (by kernel_rfl) (by kernel_rfl) (mD h)
 |find x=>exact Ye (g:=F.Ic) (by kernel_rfl) (by kernel_rfl) (kY h)
 |want x=>exact Ye (g:=F.D8) (by kernel_rfl) (by kernel_rfl) (lV h)
 |pulse x=>exact Ye (g:=F.He) (by kernel_rfl) (by kernel_rfl) (iR h)
 |reply x=>exact Ye (g:=F.G7) (by kernel_rfl) (by kernel_rfl) (iJ h)
 |anchor x=>exact Ye (g:=F.Dt) (by kernel_rfl) (by kernel_rfl) (dP h)
theorem Fr.Akh(f:Fr){w:World}{k:TR Si→WP}(h: ∀w',Af w w'→k ((f.from,()),()) w'):ivK prog f.val "Sender" [] w false Si k:=by
 cases f with
 |sync s=>exact Ye (g:=F.Ob) (by kernel_rfl) (by kernel_rfl) (Agc h)
 |find x=>exact Ye (g:=F.N9) (by kernel_rfl) (by kernel_rfl) (Af8 h)
 |want x=>exact Ye (g:=F.Oh) (by kernel_rfl) (by kernel_rfl) (Ag3 h)
 |pulse x=>exact Ye (g:=F.Hf) (by kernel_rfl) (by kernel_rfl) (Ad2 h)
 |reply x=>exact Ye (g:=F.Lu) (by kernel_rfl) (by kernel_rfl) (Aeg h)
 |anchor x=>exact Ye (g:=F.Ll) (by kernel_rfl) (by kernel_rfl) (Aca h)
def kG(k:Nat)(v:List Nat):Fr:=
 if k=1 then .sync (wI v 0,wI v 1,wH v 2,wH v 3,wI v 4,wI v 5)
 else if k=2 then .find (wI v 0,wI v 1)
 else if k=3 then .want (wI v 0)
 else if k=4 then .pulse (wI v 0,wI v 1,wI v 2)
 else if k=5 then .reply (wI v 0,wI v 1,wI v 2,wI v 3,wI v 4,wI v 5,wH v 6,wI v 7)
 else .anchor (wI v 0,wH v 1,wI v 2,wH v 3,wI v 4,wI v 5)
theorem Fr.Apa(f:Fr){n:Sl}{v:List Nat}{w:World}(hR:Row w n 1 (iY v))(hl:v.length=f.fs.length){k:TR [(false,[.any])]→WP}(h: ∀w',Af w w'→k (((kG f.kd v).val,()),()) w'):Ae prog F.Qn [f.val,.slice n.1 n.2.1 n.2.2] w false [(false,[.any])] k:=by
 cases f with
 |sync s=>exact Ahi hR hl h
 |find x=>exact Afx hR hl h
 |want x=>exact Agp hR hl h
 |pulse x=>exact Adr hR hl h
 |reply x=>exact Ad0 hR hl h
 |anchor x=>exact Acl hR hl h
theorem Fr.small(f:Fr): ∀e∈f.fs,0≤e.1∧e.1≤8∧e.2.2≤1125899906842624:=by
 cases f with
 |sync s=>exact bZ s
 |find x=>exact cZ x
 |want x=>exact bT x
 |pulse x=>exact Z5 x
 |reply x=>exact aC x
 |anchor x=>exact Yx x
theorem Fr.few(f:Fr):f.fs.length≤8:=by cases f<;>simp[Fr.fs,Z4,tY,lW,flU,flR,mG]
end Go.Proofs.YticgocmhmffneaaGreatDoor
