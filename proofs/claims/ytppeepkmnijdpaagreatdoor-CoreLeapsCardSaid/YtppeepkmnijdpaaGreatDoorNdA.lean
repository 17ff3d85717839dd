import Derived.Test.YtppeepkmnijdpaaGreatDoorCfrmB
import Derived.Test.YtppeepkmnijdpaaGreatDoorCsrc2
namespace Go.Proofs.YtppeepkmnijdpaaGreatDoor
open Go Go.Eng Tryz
open Go.IntKind (wrap)
set_option linter.unusedSimpArgs false
set_option linter.unusedVariables false
set_option maxRecDepth 100000
set_option maxHeartbeats 8000000
theorem Ace{α:Type}{P:List α→Prop}(h0:P [])(h1: ∀l x,P l→P (l++[x])): ∀l,P l:=λl=>by
 rw[←List.reverse_reverse l]
 induction l.reverse with
 |nil=>exact h0
 |cons x t ih=>rw[List.reverse_cons];exact h1 _ _ ih
abbrev Uz(v:Sl):Value:=.slice v.1 v.2.1 v.2.2
structure zG where
 me:Int
 tmo:Int
 ign:Int
 need:Int
 drift:Int
 rnd:Int
 opn:Int
 own:Int
 lim:Int
 jit:Int
 gate:Bool
def stC(s:zG):List Value:=[iV s.me,iV s.tmo,iV s.ign,iV s.need,iV s.drift,iV s.rnd,iV s.opn,iV s.own,iV s.lim,iV s.jit,.bool s.gate]
abbrev KSt:List CK:=[KI,KI,KI,KI,KI,KI,KI,KI,KI,KI,.b]
def stT(s:zG):Ky KSt:=(s.me,s.tmo,s.ign,s.need,s.drift,s.rnd,s.opn,s.own,s.lim,s.jit,s.gate,())
def U1(s:zG):Bool:=decide (0≤s.me)&&decide (s.me<64)&&flG s.tmo s.ign s.need s.drift&&plG s.rnd s.opn s.own&&decide (1≤s.lim)&&decide (s.lim≤s.tmo)&&decide (0≤s.jit)&&decide (s.jit≤20)
theorem Lj{s:zG}:U1 s=true↔0≤s.me∧s.me<64∧flG s.tmo s.ign s.need s.drift=true∧plG s.rnd s.opn s.own=true∧1≤s.lim∧s.lim≤s.tmo∧0≤s.jit∧s.jit≤20:=by unfold U1;simp[and_assoc]
theorem Al1{s:zG}(h: ¬(0≤s.me∧s.me<64∧flG s.tmo s.ign s.need s.drift=true∧plG s.rnd s.opn s.own=true∧1≤s.lim∧s.lim≤s.tmo∧0≤s.jit∧s.jit≤20)):U1 s=false:=by
 cases hb:U1 s
 ·rfl
 ·exact absurd (Lj.1 hb) h
abbrev K4i:List CK:=[KI,KI,KI,KI]
abbrev K3i:List CK:=[KI,KI,KI]
theorem Mc.cl{s:zG}{w:World}{k:TR Vl→WP}(h: ∀w',Ah w w'→k ((U1 s,()),()) w'):Ad prog F.Mc [.agg (stC s).toArray] w false Vl k:=by
 refine Mc.ok ?_
 refine Ae λp w2 e2 k2 u2=>?_
 change Ar w2 p (stC s) at k2
 have no: ∀w',Ah w w'→ ¬(0≤s.me∧s.me<64∧flG s.tmo s.ign s.need s.drift=true∧plG s.rnd s.opn s.own=true∧1≤s.lim∧s.lim≤s.tmo∧0≤s.jit∧s.jit≤20)→k ((false,()),()) w':=λw' g hn=>by have:=h w' g;rw[Al1 hn] at this;exact this
 refine k2.c0 (c:=KI) (x:=s.me) rfl (Cf (λc1=>?_) λn=>no w2 u2 λq=>n q.1)
 refine k2.c0 (c:=KI) (x:=s.me) rfl (Cf (λc2=>?_) λn=>no w2 u2 λq=>n q.2.1)
 refine k2.cN 1 (cs:=K4i) (s.tmo,s.ign,s.need,s.drift,()) rfl (Gz.cl λw7 u7=>?_)
 have g7:=u2.trans u7
 have k7:=k2.Ai u7
 refine bQ (λc3=>?_) λn=>no w7 g7 λq=>by have n:flG s.tmo s.ign s.need s.drift=false:=n;rw[n] at q;exact absurd q.2.2.1 (by decide)
 refine k7.cN 5 (cs:=K3i) (s.rnd,s.opn,s.own,()) rfl (Gn.cl λw10 u10=>?_)
 have g10:=g7.trans u10
 have k10:=k7.Ai u10
 refine bQ (λc4=>?_) λn=>no w10 g10 λq=>by have n:plG s.rnd s.opn s.own=false:=n;rw[n] at q;exact absurd q.2.2.2.1 (by decide)
 refine k10.c1 8 (c:=KI) (x:=s.lim) rfl (Cf (λc5=>?_) λn=>no w10 g10 λq=>n q.2.2.2.2.1)
 refine k10.c1 8 (c:=KI) (x:=s.lim) rfl (k10.c1 1 (c:=KI) (x:=s.tmo) rfl (Cf (λc6=>?_) λn=>no w10 g10 λq=>n q.2.2.2.2.2.1))
 refine k10.c1 9 (c:=KI) (x:=s.jit) rfl (Cf (λc7=>?_) λn=>no w10 g10 λq=>n q.2.2.2.2.2.2.1)
 refine k10.c1 9 (c:=KI) (x:=s.jit) rfl ?_
 have:=h w10 g10
 have e:U1 s=decide (s.jit≤20):=by
  unfold U1
  rw[decide_eq_true (show 0≤s.me from c1),decide_eq_true (show s.me<64 from c2),show flG s.tmo s.ign s.need s.drift=true from c3,show plG s.rnd s.opn s.own=true from c4,decide_eq_true (show 1≤s.lim from c5),decide_eq_true (show s.lim≤s.tmo from c6),decide_eq_true (show 0≤s.jit from c7)];rfl
 rw[e] at this
 exact this
abbrev R8:=Int×Int×Int×Int×Int×Int×Int×Int
inductive Fr where
 |sync (s:S6)|find (x:Int×Int)|want (m:Int)|pulse (x:Int×Int×Int)|reply (r:R8)|anchor (a:A6)
def flD(x:Int×Int):List E3:=[(1,x.1,63),(1,x.2,63)]
def flU(x:Int×Int×Int):List E3:=[(1,x.1,63),(1,x.2.1,63),(8,x.2.2,1125899906842624)]
def flR(r:R8):List E3:=[(1,r.1,63),(1,r.2.1,63),(8,r.2.2.1,1125899906842624),(8,r.2.2.2.1,1125899906842624),(8,r.2.2.2.2.1,1125899906842624),(1,r.2.2.2.2.2.1,63),(2,wrap .i64 r.2.2.2.2.2.2.1,65535),(1,r.2.2.2.2.2.2.2,63)]
def flN(a:A6):List E3:=[(1,a.1,63),(2,wrap .i64 a.2.1,65535),(1,a.2.2.1,63),(2,wrap .i64 a.2.2.2.1,65535),(8,a.2.2.2.2.1,1125899906842624),(8,a.2.2.2.2.2,1125899906842624)]
def Fr.kd:Fr→Nat
 | .sync _=>1| .find _=>2| .want _=>3| .pulse _=>4| .reply _=>5| .anchor _=>6
def Fr.fs:Fr→List E3
 | .sync s=>qZ s| .find x=>flD x| .want m=>flW m| .pulse x=>flU x| .reply r=>flR r| .anchor a=>flN a
def Fr.val:Fr→Value
 | .sync s=>.iface T.Ci (.agg #[iV s.1,iV s.2.1,uV s.2.2.1,uV s.2.2.2.1,iV s.2.2.2.2.1,iV s.2.2.2.2.2])
 | .find x=>.iface T.Du (.agg #[iV x.1,iV x.2])
 | .want m=>.iface T.Ep (.agg #[iV m])
 | .pulse x=>.iface T.Dc (.agg #[iV x.1,iV x.2.1,iV x.2.2])
 | .reply r=>.iface T.Dx (.agg #[iV r.1,iV r.2.1,iV r.2.2.1,iV r.2.2.2.1,iV r.2.2.2.2.1,iV r.2.2.2.2.2.1,uV r.2.2.2.2.2.2.1,iV r.2.2.2.2.2.2.2])
 | .anchor a=>.iface T.Bv (.agg #[iV a.1,uV a.2.1,iV a.2.2.1,uV a.2.2.2.1,iV a.2.2.2.2.1,iV a.2.2.2.2.2])
def Fr.ok(f:Fr):Bool:=okF f.fs
def Fr.by(f:Fr):List Nat:=wB f.kd f.fs
def Fr.from:Fr→Int
 | .sync s=>s.1| .find x=>x.1| .want m=>m| .pulse x=>x.1| .reply r=>r.1| .anchor a=>a.1
def Fr.u:Fr→Prop
 | .sync s=>Y8 s.2.2.1∧Y8 s.2.2.2.1| .reply r=>Y8 r.2.2.2.2.2.2.1| .anchor a=>Y8 a.2.1∧Y8 a.2.2.2.1|_=>True
def Ob:Nat→List (Nat×Nat)
 |1=>[(1,63),(1,63),(2,65535),(2,65535),(1,63),(8,1125899906842624)]
 |2=>[(1,63),(1,63)]
 |3=>[(1,63)]
 |4=>[(1,63),(1,63),(8,1125899906842624)]
 |5=>[(1,63),(1,63),(8,1125899906842624),(8,1125899906842624),(8,1125899906842624),(1,63),(2,65535),(1,63)]
 |6=>[(1,63),(2,65535),(1,63),(2,65535),(8,1125899906842624),(8,1125899906842624)]
 |_=>[]
def mP(l:List (Nat×Nat)):Nat:=l.foldl (λn x=>n+x.1) 0
def jE(xs:List Nat):Nat:=xs.foldl (λn x=>n*256+x) 0
def U3:List (Nat×Nat)→List Nat→List Nat
 |[],_=>[]
 |s::ss,b=>jE (b.take s.1)::U3 ss (b.drop s.1)
def vP:List (Nat×Nat)→List Nat→Bool
 |[],_=>true
 |s::ss,v=>decide (v.headD 0≤s.2)&&vP ss v.tail
def mkF(k:Nat)(v:List Nat):Fr:=
 let n:=λi=>((v.getD i 0:Nat):Int)
 if k=1 then .sync (n 0,n 1,n 2,n 3,n 4,n 5)
 else if k=2 then .find (n 0,n 1)
 else if k=3 then .want (n 0)
 else if k=4 then .pulse (n 0,n 1,n 2)
 else if k=5 then .reply (n 0,n 1,n 2,n 3,n 4,n 5,n 6,n 7)
 else .anchor (n 0,n 1,n 2,n 3,n 4,n 5)
def jP(b:List Nat):Except Int Fr:=
 if b.length>64 then .error 5
 else if b.length=0 then .error 3
 else if Ob (b.headD 0)=[]∨b.length≠mP (Ob (b.headD 0))+3 then .error 3
 else if Xi 65535 b≠0 then .error 4
 else if vP (Ob (b.headD 0)) (U3 (Ob (b.headD 0)) b.tail)=false then .error 3
 else .ok (mkF (b.headD 0) (U3 (Ob (b.headD 0)) b.tail))
inductive Jb where
 |find|tie|reply (to sent:Int) (got:A5)
structure Ev where
 id:Int
 lab:ByteArray
 loc:Int
 a:A5
def Jb.fV:Jb→Bool| .tie=>true|_=>false
def V4(me lev par:Int)(x:Int×Int):(Int×Int)×Bool:=
 if okF (flD x)=false∨x.1=me then((lev,par),false)
 else if x.1=par∧x.2+1>63 then((-1,-1),true)
 else if x.2+1>63∨(x.1≠par∧lev≥0∧x.2+1≥lev)∨(x.1=par∧x.2+1=lev) then((lev,par),false)
 else((x.2+1,x.1),true)
def Yu(p:Pr)(to loc:Int):Bool:=!(p.waits||decide (p.rest>0)||to==p.me||!okF (flU (p.me,to,loc)))
def kQ(p:Pr)(to loc:Int):Pr:=if Yu p to loc=true then{p with waits:=true,waited:=0,to:=to,sent:=loc} else p
def tsG(sent got back came:Int):Bool:=inT sent&&inT got&&inT back&&inT came&&decide (came≥sent)
def Vp(r:R8)(loc:Int):E3:=(loc,(r.2.2.2.1-r.2.2.1+r.2.2.2.2.1-loc)/2,r.2.2.2.2.2.2.2+1)
def Qv(p:Pr)(r:R8)(loc:Int):Bool:=
 p.waits&&r.2.1==p.me&&r.1==p.to&&r.2.2.1==p.sent&&tsG r.2.2.1 r.2.2.2.1 r.2.2.2.2.1 loc&&J8 (Vp r loc)
def Zw(p:Pr)(r:R8)(loc:Int):Pr:=if Qv p r loc=true then{p with waits:=false,tries:=0} else p
def Wh(p:Pr):Bool:=p.waits&&decide (p.waited+1≥2)&&decide (p.tries+1≥3)
def Xh(p:Pr):Pr:=
 if p.waits=false then{p with rest:=max (p.rest-1) 0}
 else if p.waited+1<2 then{p with waited:=p.waited+1}
 else if p.tries+1<3 then{p with waited:=p.waited+1,waits:=false,tries:=p.tries+1,rest:=if p.tries+1=1 then 1 else 3}
 else{p with waited:=p.waited+1,waits:=false,tries:=0,rest:=0}
structure PrG(p:Pr):Prop where
 waited:0≤p.waited∧p.waited≤2
 tries:0≤p.tries∧p.tries≤2
 rest:0≤p.rest∧p.rest≤7
 w1:p.waits=true→p.waited≤1
structure Nd where
 s:zG
 lp:Option Addr
 on:Bool
 boot:Int
 bh:Bool
 ba:A6
 now:Int
 lev:Int
 par:Int
 pr:Pr
 so:So
 f:Fl
 e:El
 l:Tz
 es:List E3
 jobs:List Jb
 evs:List Ev
 last:Int
def Nd.syn(d:Nd):Bool:=Xm d.f d.e d.es.length
def Nd.tm(d:Nd)(t:Int):A5×Int:=An6 d.so d.f d.e d.l d.es t
def Nd.Ui(d:Nd)(j:Int):Int×Int:=if d.on=false then(0,10) else if j< -d.s.jit∨j>d.s.jit then(0,1) else(clamp (d.now+j) 0 1125899906842624,0)
def yA(a b:A5):Bool:=a.2.2.1==b.2.2.1&&a.2.2.2.1==b.2.2.2.1
def Nd.made(d:Nd)(st:Int):Jb→Option Fr
 | .find=>if(d.tm st).2≠0 then none else if d.syn=true then some (.find (d.s.me,0)) else if d.lev<0 then none else some (.find (d.s.me,d.lev))
 | .tie=>if d.bh=true then some (.anchor (d.s.me,d.ba.2)) else none
 | .reply to sent got=>if(d.tm st).2≠0∨yA (d.tm st).1 got=false then none
  else some (.reply (d.s.me,to,sent,got.1,(d.tm st).1.1,(d.tm st).1.2.2.1,(d.tm st).1.2.2.2.1,max (d.tm st).1.2.1 got.2.1))
def dV(out:List Fr):Option Fr→List Fr
 |some f=>if f.ok=true∧out.length<3 then out++[f] else out
 |none=>out
def Nd.pop(d:Nd)(st:Int):List Jb→List Fr→List Jb×List Fr
 |[],out=>([],out)
 |j::js,out=>if out.length<3 then d.pop st js (dV out (d.made st j)) else(j::js,out)
def Nd.Si(d:Nd)(st:Int):Nd:=
 {d with f:=b1f d.f d.e,e:=b2e d.e st,es:=b1l d.e d.es,so:=Aeq d.so,pr:=Xh d.pr,lev:=if Wh d.pr=true then-1 else d.lev,par:=if Wh d.pr=true then-1 else d.par}
def Nd.fZ(d:Nd)(st:Int):Option Fr:=if(btF d.f d.e d.l d.es st).2=true then some (.sync (btF d.f d.e d.l d.es st).1) else none
def Nd.word(d:Nd)(st:Int):Nd×Option Fr:=
 if d.par<0 then(d,some (.want d.s.me))
 else({d with pr:=kQ d.pr d.par st},if Yu d.pr d.par st=true then some (.pulse (d.s.me,d.par,st)) else none)
def Nd.Uy(d:Nd)(st:Int)(p:List Jb×List Fr):Nd×List Fr:=
 let d2:={d with jobs:=p.1}
 if d2.syn=false∧p.2.length<3 then((d2.word st).1,dV p.2 (d2.word st).2) else(d2,p.2)
def Nd.sV(d:Nd)(st:Int):Nd×List Fr:=(d.Si st).Uy st ((d.Si st).pop st d.jobs (dV [] (d.fZ st)))
def Nd.send(d:Nd)(step j:Int):Nd×List Fr×Int:=
 if(d.Ui j).2≠0 then(d,[],(d.Ui j).2) else if miG d.s.rnd d.s.own step=false then(d,[],0) else((d.sV (d.Ui j).1).1,(d.sV (d.Ui j).1).2,0)
def Nd.push(d:Nd)(j:Jb):Nd×Int:=if d.jobs.length≥8 then(d,6) else({d with jobs:=d.jobs++[j]},0)
def Nd.pass(d:Nd):Nd×Int:=if d.jobs.any Jb.fV=true then(d,0) else d.push .tie
def Nd.Xp(d:Nd)(s:S6)(t:Int):Nd:=
 let c:=hrF d.e d.l s t
 if c=0 then d else{d with f:=hfF d.f s t,e:=hrE d.e s.2.1,l:=bM d.l s.2.1 (mrk s),es:=esF c d.es s t}
def iU(bh:Bool)(ba a:A6):Bool:=okF (flN a)&&(!bh||nwr a.2.1 ba.2.1)
def Nd.take(d:Nd)(f:Fr)(t:Int):Nd×Int:=
 match f with
 | .sync s=>(d.Xp s t,0)
 | .find x=>if d.syn=true then(d,0) else({d with lev:=(V4 d.s.me d.lev d.par x).1.1,par:=(V4 d.s.me d.lev d.par x).1.2},0)
 | .want _=>if(d.tm t).2=0 then d.push .find else(d,0)
 | .pulse x=>if(d.tm t).2=0∧x.2.1=d.s.me then d.push (.reply x.1 x.2.2 (d.tm t).1) else(d,0)
 | .reply r=>if Qv d.pr r t=true then({d with pr:=Zw d.pr r t,so:=iT d.so (Vp r t) r.2.2.2.2.2.1 r.2.2.2.2.2.2.1},0) else(d,0)
 | .anchor a=>if iU d.bh d.ba a=true then({d with bh:=true,ba:=a}:Nd).pass else(d,0)
def Nd.heard(d:Nd)(f:Fr)(t:Int):Nd×Int:=if f.from=d.s.me then(d,0) else d.take f t
def Nd.hear(d:Nd)(j:Int)(b:List Nat):Nd×Int:=
 if(d.Ui j).2≠0 then(d,(d.Ui j).2) else match jP b with
  | .error e=>(d,e)
  | .ok f=>d.heard f (d.Ui j).1
def Nd.time(d:Nd):A5×Int:=if d.on=false then((0,0,0,0,0),10) else d.tm d.now
def Nd.go(d:Nd)(t:Int):Nd×Int:=if d.on=false then(d,10) else({d with now:=if goT d.s.drift d.now t=0 then d.now+t else d.now},goT d.s.drift d.now t)
def a60:A6:=(0,0,0,0,0,0)
def so0(lim:Int):So:=⟨lim,(0,0,0),0,0,0,false⟩
def Nd.turn(d:Nd)(raw:Int):Nd:={d with on:=true,boot:=wrap .u16 (d.boot+1),bh:=false,ba:=a60,now:=raw,lev:= -1,par:= -1,pr:=prN d.pr.me,so:=so0 d.so.limit,f:=fgF d.f,e:=Agh d.e (wrap .u16 (d.boot+1)),l:=[],es:=[],jobs:=[],evs:=[],last:=0}
def nd0(s:zG)(lp:Option Addr):Nd:=⟨s,lp,false,0,false,a60,0,-1,-1,prN s.me,so0 s.lim,⟨s.me,s.tmo,s.ign,s.need,s.drift,0,0,0⟩,⟨s.me,s.tmo,s.ign,0,0,-1,0,0⟩,[],[],[],[],0⟩
structure Zf(d:Nd):Prop where
 s:U1 d.s=true
 now:0≤d.now∧d.now≤1125899906842624
 pr:PrG d.pr
 me:d.pr.me=d.s.me
 lim:d.so.limit=d.s.lim
 bk:Y8 d.ba.2.1∧Y8 d.ba.2.2.2.1
 fme:d.f.me=d.s.me∧d.e.me=d.s.me
theorem Zf.go{d:Nd}(h:Zf d)(t:Int):Zf (d.go t).1:=by
 unfold Nd.go
 split
 ·exact h
 ·refine⟨h.s,?_,h.pr,h.me,h.lim,h.bk,h.fme⟩
  show 0≤(if goT d.s.drift d.now t=0 then d.now+t else d.now)∧(if goT d.s.drift d.now t=0 then d.now+t else d.now)≤_
  obtain⟨m0,m1,gf,_⟩:=Lj.1 h.s
  have g:=Vg.1 gf
  have hn:=h.now
  split
  ·rename_i hg
   unfold goT at hg
   split at hg
   ·rename_i hf
    have hf:=lT.1 hf
    split at hg
    ·cases hg
    ·omega
   ·cases hg
  ·exact hn
theorem Ux{P:Program}{t:TypeId}{v v':Value}{nm:String}{g:FuncId}{args:List Value}{w:World}{tup:Bool}{rs:List (Bool×List CK)}{k:TR rs→WP}
  (hm:ev P (method (P.types.size+Made.depth) t v nm)=some (g,v')) (hc:callable P g=true) (h:Ad P g (v'::args) w tup rs k):ivK P (.iface t v) nm args w tup rs k:=by
 unfold ivK
 simp only[hm,hc]
 exact h
theorem Ya{q:Sl}{fs:List E3}{w:World}(hE:Nu w q fs)(h100:fs.length≤100){R:TR Vl→WP}(h: ∀w',Ah w w'→R ((okF fs,()),()) w'):
  Aw (λ(self5:((Int)×Unit)→WP) (z6:(Int)×Unit) w7=> ∀_:Nat→Value,
Aj (decide (z6.1<(q.2.1:Int))) (
Hf q.1 q.2.1 z6.1 λa8=>
Bc [KI,KI,KI] (a8.add (z6.1.toNat*3)) 0 w7 λx9=>
Bj [iV 0,iV 0,iV 0] T.Bf w7 λp10 w11=>
Au [iV x9.1,iV x9.2.1,iV x9.2.2.1] p10 0 w11 λw12=>
ld1 KI (p10.add 1) w12 λx13=>
Aj (decide (x13<0)) (
R ((false,()),()) w12) (
ld1 KI (p10.add 1) w12 λx14=>
ld1 KI (p10.add 2) w12 λx15=>
Aj (decide (x14>x15)) (
R ((false,()),()) w12) (
self5 (wrap .i64 (z6.1+1),()) w12))) (
R ((true,()),()) w7)) (0,()) w:=by
 have hl:=hE.len
 refine Aw.by (λz w'=>Ah w w'∧ ∃i:Nat,z=((i:Int),())∧i≤fs.length∧ ∀e∈fs.take i,aI e=true) (λz=>(1000-z.1).toNat) ⟨Ah.refl _,0,rfl,by omega,by simp⟩ ?_
 rintro z w7 ⟨g,i,rfl,hi,hgood⟩ _
 have out: ∀w',Ah w w'→okF fs=false→R ((false,()),()) w':=λw' g h0=>by
  have:=h w' g
  rw[h0] at this;exact this
 refine Cf (λc=>?_) λc=>?_
 ·have hi':i<fs.length:=by have c:(i:Int)<(q.2.1:Int):=c;omega
  have he:fs[i]? =some fs[i]:=List.getElem?_eq_getElem hi'
  generalize fs[i]=e at he
  have hE7:=hE.Ai g
  refine hE7.ix (z:=(i:Int)) rfl he λad ha=>hE7.Bc ha he ?_
  refine Ae λp10 w11 e10 k10 u11=>k10.E5 _ rfl rfl λw12 k12 u12=>k12.i1 1 rfl ?_
  have g12:=Ah.fresh g u11 u12 e10
  refine Cf (λc=>out w12 g12 (zT he ?_)) λc1=>k12.i1 1 rfl (k12.i1 2 rfl (Cf (λc=>out w12 g12 (zT he ?_)) λc2=>⟨⟨g12,i+1,?_,by omega,?_⟩,?_⟩))
  ·have c:e.2.1<0:=c
   cases hb:aI e
   ·rfl
   ·have:=dD.1 hb;omega
  ·have c:e.2.1>e.2.2:=c
   cases hb:aI e
   ·rfl
   ·have:=dD.1 hb;omega
  ·show(wrap .i64 ((i:Int)+1),())=_
   rw[Af (by unfold I64;omega)];rfl
  ·have c1: ¬e.2.1<0:=c1
   have c2: ¬e.2.1>e.2.2:=c2
   rw[List.take_add_one,he]
   intro x hx
   rcases List.mem_append.1 hx with hx|hx
   ·exact hgood x hx
   ·have:x=e:=by simpa using hx
    subst this
    exact dD.2 ⟨by omega,by omega⟩
  ·show(1000-wrap .i64 ((i:Int)+1)).toNat<(1000-(i:Int)).toNat
   rw[Af (by unfold I64;omega)];omega
 ·have hi':i=fs.length:=by have c: ¬(i:Int)<(q.2.1:Int):=c;omega
  subst hi'
  rw[List.take_length] at hgood
  have:=h w7 g
  rw[Abp hgood] at this
  exact this
def szF(fs:List E3):Int:=fs.foldl (λn e=>n+e.1) 0
theorem Aa6(fs:List E3)(e:E3):szF (fs++[e])=szF fs+e.1:=by unfold szF;rw[List.foldl_append];rfl
theorem Anw: ∀(fs:List E3),(∀e∈fs,0≤e.1∧e.1≤8)→0≤szF fs∧szF fs≤8*fs.length:=by
 refine Ace ?_ ?_
 ·intro _;decide
 ·intro fs e ih h
  rw[Aa6]
  have h1:=ih λx hx=>h x (List.mem_append_left _ hx)
  have h2:=h e (by simp)
  rw[List.length_append]
  simp only[List.length_cons,List.length_nil]
  omega
theorem X9{q:Sl}{fs:List E3}{w:World}(hE:Nu w q fs)(h100:fs.length≤100)(hF: ∀e∈fs,0≤e.1∧e.1≤8){R:TR Kt→WP}(h: ∀w',Ah w w'→R ((szF fs,()),()) w'):
  Aw (λ(self3:((Int)×(Int)×Unit)→WP) (z4:(Int)×(Int)×Unit) w5=> ∀_:Nat→Value,
Aj (decide (z4.2.1<(q.2.1:Int))) (
Hf q.1 q.2.1 z4.2.1 λa6=>
Bc [KI,KI,KI] (a6.add (z4.2.1.toNat*3)) 0 w5 λx7=>
Bj [iV 0,iV 0,iV 0] T.Bf w5 λp8 w9=>
Au [iV x7.1,iV x7.2.1,iV x7.2.2.1] p8 0 w9 λw10=>
ld1 KI p8 w10 λx11=>
self3 (wrap .i64 (z4.1+x11),wrap .i64 (z4.2.1+1),()) w10) (
R ((z4.1,()),()) w5)) (0,0,()) w:=by
 have hl:=hE.len
 refine Aw.by (λz w'=>Ah w w'∧ ∃i:Nat,z=(szF (fs.take i),(i:Int),())∧i≤fs.length) (λz=>(1000-z.2.1).toNat) ⟨Ah.refl _,0,rfl,by omega⟩ ?_
 rintro z w7 ⟨g,i,rfl,hi⟩ _
 refine Cf (λc=>?_) λc=>?_
 ·have hi':i<fs.length:=by have c:(i:Int)<(q.2.1:Int):=c;omega
  have he:fs[i]? =some fs[i]:=List.getElem?_eq_getElem hi'
  have hm:fs[i]∈fs:=List.getElem_mem hi'
  generalize fs[i]=e at he hm
  have hE7:=hE.Ai g
  have h1:=Anw (fs.take i) λx hx=>hF x (List.mem_of_mem_take hx)
  rw[List.length_take] at h1
  have h2:=hF e hm
  refine hE7.ix (z:=(i:Int)) rfl he λad ha=>hE7.Bc ha he ?_
  refine Ae λp10 w11 e10 k10 u11=>k10.E5 _ rfl rfl λw12 k12 u12=>k12.i0 rfl ⟨⟨Ah.fresh g u11 u12 e10,i+1,?_,by omega⟩,?_⟩
  ·show(wrap .i64 (szF (fs.take i)+e.1),wrap .i64 ((i:Int)+1),())=_
   rw[Af (n:=szF (fs.take i)+e.1) (by unfold I64;omega),Af (n:=(i:Int)+1) (by unfold I64;omega),List.take_add_one,he]
   simp only[Option.toList_some]
   rw[Aa6];rfl
  ·show(1000-wrap .i64 ((i:Int)+1)).toNat<(1000-(i:Int)).toNat
   rw[Af (by unfold I64;omega)];omega
 ·have hi':i=fs.length:=by have c: ¬(i:Int)<(q.2.1:Int):=c;omega
  subst hi'
  rw[List.take_length]
  exact h w7 g
abbrev Ry(v:List Nat):List Value:=v.map λ(x:Nat)=>Value.int .u64 (x:Int)
def wI(v:List Nat)(i:Nat):Int:=wrap .i64 ((v.getD i 0:Nat):Int)
def wH(v:List Nat)(i:Nat):Int:=wrap .u16 ((v.getD i 0:Nat):Int)
theorem P7{q:Nat}{n:Sl}{v:List Nat}{w:World}(hB:Ar w q [.slice n.1 n.2.1 n.2.2])(hR:Row w n 1 (Ry v)){i:Nat}{z:Int}(hz:z=i)(hi:i<v.length){k:TR Kt→WP}(h:k ((wI v i,()),()) w):
  Ad prog F.Ce [iV z,.pointer (some ⟨q,0,none⟩)] w false Kt k:=by
 subst hz
 refine Ce.ok ?_
 have he:(Ry v)[i]? =some (.int .u64 ((v[i]:Nat):Int)):=by rw[List.getElem?_map,List.getElem?_eq_getElem hi];rfl
 refine hB.sl0 (s:=n) (hR.ixc (c:=.i .u64) (z:=(i:Int)) (x:=((v[i]:Nat):Int)) rfl he rfl ?_)
 have e:wI v i=wrap .i64 ((v[i]:Nat):Int):=by unfold wI;rw[List.getD_eq_getElem?_getD,List.getElem?_eq_getElem hi];rfl
 rw[e] at h;exact h
theorem qM{q:Nat}{n:Sl}{v:List Nat}{w:World}(hB:Ar w q [.slice n.1 n.2.1 n.2.2])(hR:Row w n 1 (Ry v)){i:Nat}{z:Int}(hz:z=i)(hi:i<v.length){k:TR [(false,[KU])]→WP}(h:k ((wH v i,()),()) w):
  Ad prog F.Np [iV z,.pointer (some ⟨q,0,none⟩)] w false [(false,[KU])] k:=by
 subst hz
 refine Np.ok ?_
 have he:(Ry v)[i]? =some (.int .u64 ((v[i]:Nat):Int)):=by rw[List.getElem?_map,List.getElem?_eq_getElem hi];rfl
 refine hB.sl0 (s:=n) (hR.ixc (c:=.i .u64) (z:=(i:Int)) (x:=((v[i]:Nat):Int)) rfl he rfl ?_)
 have e:wH v i=wrap .u16 ((v[i]:Nat):Int):=by unfold wH;rw[List.getD_eq_getElem?_getD,List.getElem?_eq_getElem hi];rfl
 rw[e] at h;exact h
theorem kZ{s:S6}{w:World}{k:TR pX→WP}(h: ∀(q:Sl) w',Ah w w'→Nu w' q (Fr.fs (.sync s))→(∀a,q.1=some a→w.heap.size≤a.block)→k ((q,()),()) w'):Ad prog F.Df [.agg #[iV s.1,iV s.2.1,uV s.2.2.1,uV s.2.2.2.1,iV s.2.2.2.2.1,iV s.2.2.2.2.2]] w false pX k:=by
 exact Df.clF (s:=s) h
theorem Adb{s:S6}{w:World}{k:TR [(false,[.i .u8])]→WP}(h:k ((1,()),()) w):Ad prog F.Dv [(.iface T.Ci (.agg #[iV s.1,iV s.2.1,uV s.2.2.1,uV s.2.2.2.1,iV s.2.2.2.2.1,iV s.2.2.2.2.2]))] w false [(false,[.i .u8])] k:=by
 refine Kw.ok (f0:=s.1) (f1:=s.2.1) (f2:=s.2.2.1) (f3:=s.2.2.2.1) (f4:=s.2.2.2.2.1) (f5:=s.2.2.2.2.2) ?_
 exact h
theorem Abj{s:S6}{w:World}{k:TR Vl→WP}(h: ∀w',Ah w w'→k ((okF (Fr.fs (.sync s)),()),()) w'):Ad prog F.Dw [(.iface T.Ci (.agg #[iV s.1,iV s.2.1,uV s.2.2.1,uV s.2.2.2.1,iV s.2.2.2.2.1,iV s.2.2.2.2.2]))] w false Vl k:=by
 refine Kv.ok (f0:=s.1) (f1:=s.2.1) (f2:=s.2.2.1) (f3:=s.2.2.2.1) (f4:=s.2.2.2.2.1) (f5:=s.2.2.2.2.2) ?_
 refine Adb (Le rfl (kZ λq w4 u4 hE _=>Ya (fs:=(Fr.fs (.sync s))) hE (by show 6≤100;decide) λw' g=>h w' (u4.trans g)))
theorem kV(s:S6): ∀e∈(Fr.fs (.sync s)),0≤e.1∧e.1≤8∧e.2.2≤1125899906842624:=by
 intro e he
 simp only[Fr.fs,qZ,flD,flW,flU,flR,flN,List.mem_cons,List.not_mem_nil,or_false] at he
 rcases he with rfl|rfl|rfl|rfl|rfl|rfl<;>refine⟨?_,?_,?_⟩<;>dsimp only<;>omega
theorem Ame{s:S6}{w:World}{k:TR RSI→WP}(hn:okF (Fr.fs (.sync s))=false→ ∀w',Ah w w'→k (((none,0,0),()),(1,()),()) w')
  (h:okF (Fr.fs (.sync s))=true→ ∀(y:Sl) w',OwnB w' w.heap.size y (wB 1 (Fr.fs (.sync s)))→Ah w w'→k (((y.1,y.2.1,y.2.2),()),(0,()),()) w'):Ad prog F.Gf [(.iface T.Ci (.agg #[iV s.1,iV s.2.1,uV s.2.2.1,uV s.2.2.2.1,iV s.2.2.2.2.1,iV s.2.2.2.2.2]))] w true RSI k:=by
 refine Yw.ok (f0:=s.1) (f1:=s.2.1) (f2:=s.2.2.1) (f3:=s.2.2.2.1) (f4:=s.2.2.2.2.1) (f5:=s.2.2.2.2.2) ?_
 refine Abj λw2 u2=>En (λc=>hn c w2 u2) λc=>?_
 have c:okF (Fr.fs (.sync s))=true:=c
 refine Ae λp w4 e4 k4 u4=>Adb ?_
 have P4:=xC.new k4
 refine Bo.cl (n:=1) (v:=1) (by decide) (by simp) P4 λw8 O8 P8 X8=>?_
 have g8:Ah w w8:=Ap.trans (u2.trans u4) X8.u λz hz h=>by have:=u2.size;omega
 have hO: ∀z,O8 z→w2.heap.size≤z:=λz hz=>by
  rcases X8.sub z hz with h1|h1
  ·omega
  ·have:=u4.size;omega
 refine kZ λq w10 u10 hE hqf=>?_
 have hq: ∀a,q.1=some a→ ¬O8 a.block:=λa ha hz=>by
  have:=hqf a ha
  have:=P8.lt _ hz
  omega
 exact bC (kd:=1) (iH c (by show 6≤100;decide) (kV s)) hE hq (by decide) (P8.Ai u10) (g8.trans u10) (λz hz=>Nat.le_trans u2.size (hO z hz)) (h c)
theorem Ait{s:S6}{w:World}{k:TR Kt→WP}(h: ∀w',Ah w w'→k ((szF (Fr.fs (.sync s)),()),()) w'):Ad prog F.Ii [(.iface T.Ci (.agg #[iV s.1,iV s.2.1,uV s.2.2.1,uV s.2.2.2.1,iV s.2.2.2.2.1,iV s.2.2.2.2.2]))] w false Kt k:=by
 refine aF.ok (f0:=s.1) (f1:=s.2.1) (f2:=s.2.2.1) (f3:=s.2.2.2.1) (f4:=s.2.2.2.2.1) (f5:=s.2.2.2.2.2) ?_
 refine kZ λq w4 u4 hE _=>X9 (fs:=(Fr.fs (.sync s))) hE (by show 6≤100;decide) (λe he=>⟨(kV s e he).1,(kV s e he).2.1⟩) λw' g=>h w' (u4.trans g)
theorem Ami{s:S6}{n:Sl}{v:List Nat}{w:World}(hR:Row w n 1 (Ry v))(hl:v.length=6){k:TR [(false,[.any])]→WP}(h: ∀w',Ah w w'→k ((Fr.val (.sync (wI v 0,wI v 1,wH v 2,wH v 3,wI v 4,wI v 5)),()),()) w'):Ad prog F.Ir [(.iface T.Ci (.agg #[iV s.1,iV s.2.1,uV s.2.2.1,uV s.2.2.2.1,iV s.2.2.2.2.1,iV s.2.2.2.2.2])),.slice n.1 n.2.1 n.2.2] w false [(false,[.any])] k:=by
 refine Zx.ok (n:=n) (f0:=s.1) (f1:=s.2.1) (f2:=s.2.2.1) (f3:=s.2.2.2.1) (f4:=s.2.2.2.2.1) (f5:=s.2.2.2.2.2) ?_
 refine Ae λp w2 e2 k2 u2=>?_
 have R2:=hR.Ai u2
 exact P7 k2 R2 (i:=0) rfl (by omega) (P7 k2 R2 (i:=1) rfl (by omega) (qM k2 R2 (i:=2) rfl (by omega) (qM k2 R2 (i:=3) rfl (by omega) (P7 k2 R2 (i:=4) rfl (by omega) (P7 k2 R2 (i:=5) rfl (by omega) ((h w2 u2)))))))
theorem Ajj{s:S6}{w:World}{k:TR Kt→WP}(h: ∀w',Ah w w'→k ((s.1,()),()) w'):Ad prog F.Ph [.agg #[iV s.1,iV s.2.1,uV s.2.2.1,uV s.2.2.2.1,iV s.2.2.2.2.1,iV s.2.2.2.2.2]] w false Kt k:=by
 refine Ph.ok (f0:=s.1) (f1:=s.2.1) (f2:=s.2.2.1) (f3:=s.2.2.2.1) (f4:=s.2.2.2.2.1) (f5:=s.2.2.2.2.2) ?_
 exact Ae λp w2 e2 k2 u2=>k2.c0 (c:=KI) rfl (h w2 u2)
theorem lH{x:Int×Int}{w:World}{k:TR pX→WP}(h: ∀(q:Sl) w',Ah w w'→Nu w' q (Fr.fs (.find x))→(∀a,q.1=some a→w.heap.size≤a.block)→k ((q,()),()) w'):Ad prog F.He [.agg #[iV x.1,iV x.2]] w false pX k:=by
 refine He.ok (f0:=x.1) (f1:=x.2) ?_
 refine Ae λp1 w2 e1 k1 u1=>?_
 rw[Aq]
 have k3:=k1.drew
 have hold: ∀{w':World},Ah w2.drew w'→ ∀j,j<2→w'.cell? (Addr.add ⟨p1,0,none⟩ j)=some ((w2.drew.cell? (Addr.add ⟨p1,0,none⟩ j)).getD undef):=λu j hj=>k3.hold u (λx=>x) j (by simpa using hj)
 refine k3.c0 (c:=KI) rfl (k3.c1 1 (c:=KI) rfl (?_))
 refine Dn.cl λw10 u10=>?_
 have g10:=u10
 refine⟨⟨hold g10 1 (by decide),hold g10 0 (by decide),trivial⟩,?_⟩
 refine Oi.cl λw11 u11=>?_
 have g11:=g10.trans u11
 refine⟨⟨hold g11 1 (by decide),hold g11 0 (by decide),trivial⟩,?_⟩
 refine Ae λp22 w23 e22 k22 u22=>⟨⟨hold (g11.trans u22) 1 (by decide),hold (g11.trans u22) 0 (by decide),trivial⟩,h (some ⟨p22,0,none⟩,2,2) w23 (((Ap.drew u1).trans g11 λ_ _ x=>x).trans u22 λ_ _ x=>x) (bF k22 rfl rfl) λa ha=>?_⟩
 cases ha;exact Nat.le_trans (Nat.le_trans u1.size g11.size) (Nat.le_of_eq e22)
theorem Abt{x:Int×Int}{w:World}{k:TR [(false,[.i .u8])]→WP}(h:k ((2,()),()) w):Ad prog F.Dv [(.iface T.Du (.agg #[iV x.1,iV x.2]))] w false [(false,[.i .u8])] k:=by
 refine aH.ok (f0:=x.1) (f1:=x.2) ?_
 exact h
theorem uK{x:Int×Int}{w:World}{k:TR Vl→WP}(h: ∀w',Ah w w'→k ((okF (Fr.fs (.find x)),()),()) w'):Ad prog F.Dw [(.iface T.Du (.agg #[iV x.1,iV x.2]))] w false Vl k:=by
 refine Z7.ok (f0:=x.1) (f1:=x.2) ?_
 refine Abt (Le rfl (lH λq w4 u4 hE _=>Ya (fs:=(Fr.fs (.find x))) hE (by show 2≤100;decide) λw' g=>h w' (u4.trans g)))
theorem kT(x:Int×Int): ∀e∈(Fr.fs (.find x)),0≤e.1∧e.1≤8∧e.2.2≤1125899906842624:=by
 intro e he
 simp only[Fr.fs,qZ,flD,flW,flU,flR,flN,List.mem_cons,List.not_mem_nil,or_false] at he
 rcases he with rfl|rfl<;>refine⟨?_,?_,?_⟩<;>dsimp only<;>omega
theorem Ai4{x:Int×Int}{w:World}{k:TR RSI→WP}(hn:okF (Fr.fs (.find x))=false→ ∀w',Ah w w'→k (((none,0,0),()),(1,()),()) w')
  (h:okF (Fr.fs (.find x))=true→ ∀(y:Sl) w',OwnB w' w.heap.size y (wB 2 (Fr.fs (.find x)))→Ah w w'→k (((y.1,y.2.1,y.2.2),()),(0,()),()) w'):Ad prog F.Gf [(.iface T.Du (.agg #[iV x.1,iV x.2]))] w true RSI k:=by
 refine Yc.ok (f0:=x.1) (f1:=x.2) ?_
 refine uK λw2 u2=>En (λc=>hn c w2 u2) λc=>?_
 have c:okF (Fr.fs (.find x))=true:=c
 refine Ae λp w4 e4 k4 u4=>Abt ?_
 have P4:=xC.new k4
 refine Bo.cl (n:=1) (v:=2) (by decide) (by simp) P4 λw8 O8 P8 X8=>?_
 have g8:Ah w w8:=Ap.trans (u2.trans u4) X8.u λz hz h=>by have:=u2.size;omega
 have hO: ∀z,O8 z→w2.heap.size≤z:=λz hz=>by
  rcases X8.sub z hz with h1|h1
  ·omega
  ·have:=u4.size;omega
 refine lH λq w10 u10 hE hqf=>?_
 have hq: ∀a,q.1=some a→ ¬O8 a.block:=λa ha hz=>by
  have:=hqf a ha
  have:=P8.lt _ hz
  omega
 exact bC (kd:=2) (iH c (by show 2≤100;decide) (kT x)) hE hq (by decide) (P8.Ai u10) (g8.trans u10) (λz hz=>Nat.le_trans u2.size (hO z hz)) (h c)
theorem Amc{x:Int×Int}{w:World}{k:TR Kt→WP}(h: ∀w',Ah w w'→k ((szF (Fr.fs (.find x)),()),()) w'):Ad prog F.Ii [(.iface T.Du (.agg #[iV x.1,iV x.2]))] w false Kt k:=by
 refine Zy.ok (f0:=x.1) (f1:=x.2) ?_
 refine lH λq w4 u4 hE _=>X9 (fs:=(Fr.fs (.find x))) hE (by show 2≤100;decide) (λe he=>⟨(kT x e he).1,(kT x e he).2.1⟩) λw' g=>h w' (u4.trans g)
theorem Amz{x:Int×Int}{n:Sl}{v:List Nat}{w:World}(hR:Row w n 1 (Ry v))(hl:v.length=2){k:TR [(false,[.any])]→WP}(h: ∀w',Ah w w'→k ((Fr.val (.find (wI v 0,wI v 1)),()),()) w'):Ad prog F.Ir [(.iface T.Du (.agg #[iV x.1,iV x.2])),.slice n.1 n.2.1 n.2.2] w false [(false,[.any])] k:=by
 refine aA.ok (n:=n) (f0:=x.1) (f1:=x.2) ?_
 refine Ae λp w2 e2 k2 u2=>?_
 have R2:=hR.Ai u2
 exact P7 k2 R2 (i:=0) rfl (by omega) (P7 k2 R2 (i:=1) rfl (by omega) ((h w2 u2)))
theorem Al4{x:Int×Int}{w:World}{k:TR Kt→WP}(h: ∀w',Ah w w'→k ((x.1,()),()) w'):Ad prog F.Pi [.agg #[iV x.1,iV x.2]] w false Kt k:=by
 refine Pi.ok (f0:=x.1) (f1:=x.2) ?_
 exact Ae λp w2 e2 k2 u2=>k2.c0 (c:=KI) rfl (h w2 u2)
theorem lN{x:Int}{w:World}{k:TR pX→WP}(h: ∀(q:Sl) w',Ah w w'→Nu w' q (Fr.fs (.want x))→(∀a,q.1=some a→w.heap.size≤a.block)→k ((q,()),()) w'):Ad prog F.Ej [.agg #[iV x]] w false pX k:=by
 exact Ej.clF (me:=x) h
theorem Abd{x:Int}{w:World}{k:TR [(false,[.i .u8])]→WP}(h:k ((3,()),()) w):Ad prog F.Dv [(.iface T.Ep (.agg #[iV x]))] w false [(false,[.i .u8])] k:=by
 refine Z4.ok (f0:=x) ?_
 exact h
theorem Aa9{x:Int}{w:World}{k:TR Vl→WP}(h: ∀w',Ah w w'→k ((okF (Fr.fs (.want x)),()),()) w'):Ad prog F.Dw [(.iface T.Ep (.agg #[iV x]))] w false Vl k:=by
 refine Zz.ok (f0:=x) ?_
 refine Abd (Le rfl (lN λq w4 u4 hE _=>Ya (fs:=(Fr.fs (.want x))) hE (by show 1≤100;decide) λw' g=>h w' (u4.trans g)))
theorem mD(x:Int): ∀e∈(Fr.fs (.want x)),0≤e.1∧e.1≤8∧e.2.2≤1125899906842624:=by
 intro e he
 simp only[Fr.fs,qZ,flD,flW,flU,flR,flN,List.mem_cons,List.not_mem_nil,or_false] at he
 subst he;refine⟨?_,?_,?_⟩<;>dsimp only<;>omega
theorem Akr{x:Int}{w:World}{k:TR RSI→WP}(hn:okF (Fr.fs (.want x))=false→ ∀w',Ah w w'→k (((none,0,0),()),(1,()),()) w')
  (h:okF (Fr.fs (.want x))=true→ ∀(y:Sl) w',OwnB w' w.heap.size y (wB 3 (Fr.fs (.want x)))→Ah w w'→k (((y.1,y.2.1,y.2.2),()),(0,()),()) w'):Ad prog F.Gf [(.iface T.Ep (.agg #[iV x]))] w true RSI k:=by
 refine Yq.ok (f0:=x) ?_
 refine Aa9 λw2 u2=>En (λc=>hn c w2 u2) λc=>?_
 have c:okF (Fr.fs (.want x))=true:=c
 refine Ae λp w4 e4 k4 u4=>Abd ?_
 have P4:=xC.new k4
 refine Bo.cl (n:=1) (v:=3) (by decide) (by simp) P4 λw8 O8 P8 X8=>?_
 have g8:Ah w w8:=Ap.trans (u2.trans u4) X8.u λz hz h=>by have:=u2.size;omega
 have hO: ∀z,O8 z→w2.heap.size≤z:=λz hz=>by
  rcases X8.sub z hz with h1|h1
  ·omega
  ·have:=u4.size;omega
 refine lN λq w10 u10 hE hqf=>?_
 have hq: ∀a,q.1=some a→ ¬O8 a.block:=λa ha hz=>by
  have:=hqf a ha
  have:=P8.lt _ hz
  omega
 exact bC (kd:=3) (iH c (by show 1≤100;decide) (mD x)) hE hq (by decide) (P8.Ai u10) (g8.trans u10) (λz hz=>Nat.le_trans u2.size (hO z hz)) (h c)
theorem Akx{x:Int}{w:World}{k:TR Kt→WP}(h: ∀w',Ah w w'→k ((szF (Fr.fs (.want x)),()),()) w'):Ad prog F.Ii [(.iface T.Ep (.agg #[iV x]))] w false Kt k:=by
 refine Z9.ok (f0:=x) ?_
 refine lN λq w4 u4 hE _=>X9 (fs:=(Fr.fs (.want x))) hE (by show 1≤100;decide) (λe he=>⟨(mD x e he).1,(mD x e he).2.1⟩) λw' g=>h w' (u4.trans g)
theorem Ajw{x:Int}{n:Sl}{v:List Nat}{w:World}(hR:Row w n 1 (Ry v))(hl:v.length=1){k:TR [(false,[.any])]→WP}(h: ∀w',Ah w w'→k ((Fr.val (.want (wI v 0)),()),()) w'):Ad prog F.Ir [(.iface T.Ep (.agg #[iV x])),.slice n.1 n.2.1 n.2.2] w false [(false,[.any])] k:=by
 refine Z5.ok (n:=n) (f0:=x) ?_
 refine Ae λp w2 e2 k2 u2=>?_
 have R2:=hR.Ai u2
 exact P7 k2 R2 (i:=0) rfl (by omega) ((h w2 u2))
theorem Akz{x:Int}{w:World}{k:TR Kt→WP}(h: ∀w',Ah w w'→k ((x,()),()) w'):Ad prog F.Pj [.agg #[iV x]] w false Kt k:=by
 refine Pj.ok (f0:=x) ?_
 exact Ae λp w2 e2 k2 u2=>k2.c0 (c:=KI) rfl (h w2 u2)
theorem iI{x:Int×Int×Int}{w:World}{k:TR pX→WP}(h: ∀(q:Sl) w',Ah w w'→Nu w' q (Fr.fs (.pulse x))→(∀a,q.1=some a→w.heap.size≤a.block)→k ((q,()),()) w'):Ad prog F.Gi [.agg #[iV x.1,iV x.2.1,iV x.2.2]] w false pX k:=by
 refine Gi.ok (f0:=x.1) (f1:=x.2.1) (f2:=x.2.2) ?_
 refine Ae λp1 w2 e1 k1 u1=>?_
 rw[Aq]
 have k3:=k1.drew
 have hold: ∀{w':World},Ah w2.drew w'→ ∀j,j<3→w'.cell? (Addr.add ⟨p1,0,none⟩ j)=some ((w2.drew.cell? (Addr.add ⟨p1,0,none⟩ j)).getD undef):=λu j hj=>k3.hold u (λx=>x) j (by simpa using hj)
 refine k3.c0 (c:=KI) rfl (k3.c1 1 (c:=KI) rfl (k3.c1 2 (c:=KI) rfl (?_)))
 refine Dn.cl λw10 u10=>?_
 have g10:=u10
 refine⟨⟨hold g10 2 (by decide),hold g10 1 (by decide),hold g10 0 (by decide),trivial⟩,?_⟩
 refine Dn.cl λw11 u11=>?_
 have g11:=g10.trans u11
 refine⟨⟨hold g11 2 (by decide),hold g11 1 (by decide),hold g11 0 (by decide),trivial⟩,?_⟩
 refine Ff.cl λw12 u12=>?_
 have g12:=g11.trans u12
 refine⟨⟨hold g12 2 (by decide),hold g12 1 (by decide),hold g12 0 (by decide),trivial⟩,?_⟩
 refine Ae λp22 w23 e22 k22 u22=>⟨⟨hold (g12.trans u22) 2 (by decide),hold (g12.trans u22) 1 (by decide),hold (g12.trans u22) 0 (by decide),trivial⟩,h (some ⟨p22,0,none⟩,3,3) w23 (((Ap.drew u1).trans g12 λ_ _ x=>x).trans u22 λ_ _ x=>x) (bF k22 rfl rfl) λa ha=>?_⟩
 cases ha;exact Nat.le_trans (Nat.le_trans u1.size g12.size) (Nat.le_of_eq e22)
theorem wS{x:Int×Int×Int}{w:World}{k:TR [(false,[.i .u8])]→WP}(h:k ((4,()),()) w):Ad prog F.Dv [(.iface T.Dc (.agg #[iV x.1,iV x.2.1,iV x.2.2]))] w false [(false,[.i .u8])] k:=by
 refine Zk.ok (f0:=x.1) (f1:=x.2.1) (f2:=x.2.2) ?_
 exact h
theorem nC{x:Int×Int×Int}{w:World}{k:TR Vl→WP}(h: ∀w',Ah w w'→k ((okF (Fr.fs (.pulse x)),()),()) w'):Ad prog F.Dw [(.iface T.Dc (.agg #[iV x.1,iV x.2.1,iV x.2.2]))] w false Vl k:=by
 refine Za.ok (f0:=x.1) (f1:=x.2.1) (f2:=x.2.2) ?_
 refine wS (Le rfl (iI λq w4 u4 hE _=>Ya (fs:=(Fr.fs (.pulse x))) hE (by show 3≤100;decide) λw' g=>h w' (u4.trans g)))
theorem iG(x:Int×Int×Int): ∀e∈(Fr.fs (.pulse x)),0≤e.1∧e.1≤8∧e.2.2≤1125899906842624:=by
 intro e he
 simp only[Fr.fs,qZ,flD,flW,flU,flR,flN,List.mem_cons,List.not_mem_nil,or_false] at he
 rcases he with rfl|rfl|rfl<;>refine⟨?_,?_,?_⟩<;>dsimp only<;>omega
theorem Ah8{x:Int×Int×Int}{w:World}{k:TR RSI→WP}(hn:okF (Fr.fs (.pulse x))=false→ ∀w',Ah w w'→k (((none,0,0),()),(1,()),()) w')
  (h:okF (Fr.fs (.pulse x))=true→ ∀(y:Sl) w',OwnB w' w.heap.size y (wB 4 (Fr.fs (.pulse x)))→Ah w w'→k (((y.1,y.2.1,y.2.2),()),(0,()),()) w'):Ad prog F.Gf [(.iface T.Dc (.agg #[iV x.1,iV x.2.1,iV x.2.2]))] w true RSI k:=by
 refine Xr.ok (f0:=x.1) (f1:=x.2.1) (f2:=x.2.2) ?_
 refine nC λw2 u2=>En (λc=>hn c w2 u2) λc=>?_
 have c:okF (Fr.fs (.pulse x))=true:=c
 refine Ae λp w4 e4 k4 u4=>wS ?_
 have P4:=xC.new k4
 refine Bo.cl (n:=1) (v:=4) (by decide) (by simp) P4 λw8 O8 P8 X8=>?_
 have g8:Ah w w8:=Ap.trans (u2.trans u4) X8.u λz hz h=>by have:=u2.size;omega
 have hO: ∀z,O8 z→w2.heap.size≤z:=λz hz=>by
  rcases X8.sub z hz with h1|h1
  ·omega
  ·have:=u4.size;omega
 refine iI λq w10 u10 hE hqf=>?_
 have hq: ∀a,q.1=some a→ ¬O8 a.block:=λa ha hz=>by
  have:=hqf a ha
  have:=P8.lt _ hz
  omega
 exact bC (kd:=4) (iH c (by show 3≤100;decide) (iG x)) hE hq (by decide) (P8.Ai u10) (g8.trans u10) (λz hz=>Nat.le_trans u2.size (hO z hz)) (h c)
theorem Ag4{x:Int×Int×Int}{w:World}{k:TR Kt→WP}(h: ∀w',Ah w w'→k ((szF (Fr.fs (.pulse x)),()),()) w'):Ad prog F.Ii [(.iface T.Dc (.agg #[iV x.1,iV x.2.1,iV x.2.2]))] w false Kt k:=by
 refine Zd.ok (f0:=x.1) (f1:=x.2.1) (f2:=x.2.2) ?_
 refine iI λq w4 u4 hE _=>X9 (fs:=(Fr.fs (.pulse x))) hE (by show 3≤100;decide) (λe he=>⟨(iG x e he).1,(iG x e he).2.1⟩) λw' g=>h w' (u4.trans g)
theorem Ahc{x:Int×Int×Int}{n:Sl}{v:List Nat}{w:World}(hR:Row w n 1 (Ry v))(hl:v.length=3){k:TR [(false,[.any])]→WP}(h: ∀w',Ah w w'→k ((Fr.val (.pulse (wI v 0,wI v 1,wI v 2)),()),()) w'):Ad prog F.Ir [(.iface T.Dc (.agg #[iV x.1,iV x.2.1,iV x.2.2])),.slice n.1 n.2.1 n.2.2] w false [(false,[.any])] k:=by
 refine Ze.ok (n:=n) (f0:=x.1) (f1:=x.2.1) (f2:=x.2.2) ?_
 refine Ae λp w2 e2 k2 u2=>?_
 have R2:=hR.Ai u2
 exact P7 k2 R2 (i:=0) rfl (by omega) (P7 k2 R2 (i:=1) rfl (by omega) (P7 k2 R2 (i:=2) rfl (by omega) ((h w2 u2))))
theorem Aie{x:Int×Int×Int}{w:World}{k:TR Kt→WP}(h: ∀w',Ah w w'→k ((x.1,()),()) w'):Ad prog F.Oj [.agg #[iV x.1,iV x.2.1,iV x.2.2]] w false Kt k:=by
 refine Oj.ok (f0:=x.1) (f1:=x.2.1) (f2:=x.2.2) ?_
 exact Ae λp w2 e2 k2 u2=>k2.c0 (c:=KI) rfl (h w2 u2)
theorem gQ{x:R8}{w:World}{k:TR pX→WP}(h: ∀(q:Sl) w',Ah w w'→Nu w' q (Fr.fs (.reply x))→(∀a,q.1=some a→w.heap.size≤a.block)→k ((q,()),()) w'):Ad prog F.Gq [.agg #[iV x.1,iV x.2.1,iV x.2.2.1,iV x.2.2.2.1,iV x.2.2.2.2.1,iV x.2.2.2.2.2.1,uV x.2.2.2.2.2.2.1,iV x.2.2.2.2.2.2.2]] w false pX k:=by
 refine Gq.ok (f0:=x.1) (f1:=x.2.1) (f2:=x.2.2.1) (f3:=x.2.2.2.1) (f4:=x.2.2.2.2.1) (f5:=x.2.2.2.2.2.1) (f6:=x.2.2.2.2.2.2.1) (f7:=x.2.2.2.2.2.2.2) ?_
 refine Ae λp1 w2 e1 k1 u1=>?_
 rw[Aq]
 have k3:=k1.drew
 have hold: ∀{w':World},Ah w2.drew w'→ ∀j,j<8→w'.cell? (Addr.add ⟨p1,0,none⟩ j)=some ((w2.drew.cell? (Addr.add ⟨p1,0,none⟩ j)).getD undef):=λu j hj=>k3.hold u (λx=>x) j (by simpa using hj)
 refine k3.c0 (c:=KI) rfl (k3.c1 1 (c:=KI) rfl (k3.c1 2 (c:=KI) rfl (k3.c1 3 (c:=KI) rfl (k3.c1 4 (c:=KI) rfl (k3.c1 5 (c:=KI) rfl (k3.c1 6 (c:=KU) rfl (k3.c1 7 (c:=KI) rfl (?_))))))))
 refine Dn.cl λw10 u10=>?_
 have g10:=u10
 refine⟨⟨hold g10 7 (by decide),hold g10 6 (by decide),hold g10 5 (by decide),hold g10 4 (by decide),hold g10 3 (by decide),hold g10 2 (by decide),hold g10 1 (by decide),hold g10 0 (by decide),trivial⟩,?_⟩
 refine Dn.cl λw11 u11=>?_
 have g11:=g10.trans u11
 refine⟨⟨hold g11 7 (by decide),hold g11 6 (by decide),hold g11 5 (by decide),hold g11 4 (by decide),hold g11 3 (by decide),hold g11 2 (by decide),hold g11 1 (by decide),hold g11 0 (by decide),trivial⟩,?_⟩
 refine Ff.cl λw12 u12=>?_
 have g12:=g11.trans u12
 refine⟨⟨hold g12 7 (by decide),hold g12 6 (by decide),hold g12 5 (by decide),hold g12 4 (by decide),hold g12 3 (by decide),hold g12 2 (by decide),hold g12 1 (by decide),hold g12 0 (by decide),trivial⟩,?_⟩
 refine Ff.cl λw13 u13=>?_
 have g13:=g12.trans u13
 refine⟨⟨hold g13 7 (by decide),hold g13 6 (by decide),hold g13 5 (by decide),hold g13 4 (by decide),hold g13 3 (by decide),hold g13 2 (by decide),hold g13 1 (by decide),hold g13 0 (by decide),trivial⟩,?_⟩
 refine Ff.cl λw14 u14=>?_
 have g14:=g13.trans u14
 refine⟨⟨hold g14 7 (by decide),hold g14 6 (by decide),hold g14 5 (by decide),hold g14 4 (by decide),hold g14 3 (by decide),hold g14 2 (by decide),hold g14 1 (by decide),hold g14 0 (by decide),trivial⟩,?_⟩
 refine Dn.cl λw15 u15=>?_
 have g15:=g14.trans u15
 refine⟨⟨hold g15 7 (by decide),hold g15 6 (by decide),hold g15 5 (by decide),hold g15 4 (by decide),hold g15 3 (by decide),hold g15 2 (by decide),hold g15 1 (by decide),hold g15 0 (by decide),trivial⟩,?_⟩
 refine Gl.clw λw16 u16=>?_
 have g16:=g15.trans u16
 refine⟨⟨hold g16 7 (by decide),hold g16 6 (by decide),hold g16 5 (by decide),hold g16 4 (by decide),hold g16 3 (by decide),hold g16 2 (by decide),hold g16 1 (by decide),hold g16 0 (by decide),trivial⟩,?_⟩
 refine Oi.cl λw17 u17=>?_
 have g17:=g16.trans u17
 refine⟨⟨hold g17 7 (by decide),hold g17 6 (by decide),hold g17 5 (by decide),hold g17 4 (by decide),hold g17 3 (by decide),hold g17 2 (by decide),hold g17 1 (by decide),hold g17 0 (by decide),trivial⟩,?_⟩
 refine Ae λp22 w23 e22 k22 u22=>⟨⟨hold (g17.trans u22) 7 (by decide),hold (g17.trans u22) 6 (by decide),hold (g17.trans u22) 5 (by decide),hold (g17.trans u22) 4 (by decide),hold (g17.trans u22) 3 (by decide),hold (g17.trans u22) 2 (by decide),hold (g17.trans u22) 1 (by decide),hold (g17.trans u22) 0 (by decide),trivial⟩,h (some ⟨p22,0,none⟩,8,8) w23 (((Ap.drew u1).trans g17 λ_ _ x=>x).trans u22 λ_ _ x=>x) (bF k22 rfl rfl) λa ha=>?_⟩
 cases ha;exact Nat.le_trans (Nat.le_trans u1.size g17.size) (Nat.le_of_eq e22)
theorem wG{x:R8}{w:World}{k:TR [(false,[.i .u8])]→WP}(h:k ((5,()),()) w):Ad prog F.Dv [(.iface T.Dx (.agg #[iV x.1,iV x.2.1,iV x.2.2.1,iV x.2.2.2.1,iV x.2.2.2.2.1,iV x.2.2.2.2.2.1,uV x.2.2.2.2.2.2.1,iV x.2.2.2.2.2.2.2]))] w false [(false,[.i .u8])] k:=by
 refine Zh.ok (f0:=x.1) (f1:=x.2.1) (f2:=x.2.2.1) (f3:=x.2.2.2.1) (f4:=x.2.2.2.2.1) (f5:=x.2.2.2.2.2.1) (f6:=x.2.2.2.2.2.2.1) (f7:=x.2.2.2.2.2.2.2) ?_
 exact h
theorem xE{x:R8}{w:World}{k:TR Vl→WP}(h: ∀w',Ah w w'→k ((okF (Fr.fs (.reply x)),()),()) w'):Ad prog F.Dw [(.iface T.Dx (.agg #[iV x.1,iV x.2.1,iV x.2.2.1,iV x.2.2.2.1,iV x.2.2.2.2.1,iV x.2.2.2.2.2.1,uV x.2.2.2.2.2.2.1,iV x.2.2.2.2.2.2.2]))] w false Vl k:=by
 refine Zg.ok (f0:=x.1) (f1:=x.2.1) (f2:=x.2.2.1) (f3:=x.2.2.2.1) (f4:=x.2.2.2.2.1) (f5:=x.2.2.2.2.2.1) (f6:=x.2.2.2.2.2.2.1) (f7:=x.2.2.2.2.2.2.2) ?_
 refine wG (Le rfl (gQ λq w4 u4 hE _=>Ya (fs:=(Fr.fs (.reply x))) hE (by show 8≤100;decide) λw' g=>h w' (u4.trans g)))
theorem gX(x:R8): ∀e∈(Fr.fs (.reply x)),0≤e.1∧e.1≤8∧e.2.2≤1125899906842624:=by
 intro e he
 simp only[Fr.fs,qZ,flD,flW,flU,flR,flN,List.mem_cons,List.not_mem_nil,or_false] at he
 rcases he with rfl|rfl|rfl|rfl|rfl|rfl|rfl|rfl<;>refine⟨?_,?_,?_⟩<;>dsimp only<;>omega
theorem Ahf{x:R8}{w:World}{k:TR RSI→WP}(hn:okF (Fr.fs (.reply x))=false→ ∀w',Ah w w'→k (((none,0,0),()),(1,()),()) w')
  (h:okF (Fr.fs (.reply x))=true→ ∀(y:Sl) w',OwnB w' w.heap.size y (wB 5 (Fr.fs (.reply x)))→Ah w w'→k (((y.1,y.2.1,y.2.2),()),(0,()),()) w'):Ad prog F.Gf [(.iface T.Dx (.agg #[iV x.1,iV x.2.1,iV x.2.2.1,iV x.2.2.2.1,iV x.2.2.2.2.1,iV x.2.2.2.2.2.1,uV x.2.2.2.2.2.2.1,iV x.2.2.2.2.2.2.2]))] w true RSI k:=by
 refine Xu.ok (f0:=x.1) (f1:=x.2.1) (f2:=x.2.2.1) (f3:=x.2.2.2.1) (f4:=x.2.2.2.2.1) (f5:=x.2.2.2.2.2.1) (f6:=x.2.2.2.2.2.2.1) (f7:=x.2.2.2.2.2.2.2) ?_
 refine xE λw2 u2=>En (λc=>hn c w2 u2) λc=>?_
 have c:okF (Fr.fs (.reply x))=true:=c
 refine Ae λp w4 e4 k4 u4=>wG ?_
 have P4:=xC.new k4
 refine Bo.cl (n:=1) (v:=5) (by decide) (by simp) P4 λw8 O8 P8 X8=>?_
 have g8:Ah w w8:=Ap.trans (u2.trans u4) X8.u λz hz h=>by have:=u2.size;omega
 have hO: ∀z,O8 z→w2.heap.size≤z:=λz hz=>by
  rcases X8.sub z hz with h1|h1
  ·omega
  ·have:=u4.size;omega
 refine gQ λq w10 u10 hE hqf=>?_
 have hq: ∀a,q.1=some a→ ¬O8 a.block:=λa ha hz=>by
  have:=hqf a ha
  have:=P8.lt _ hz
  omega
 exact bC (kd:=5) (iH c (by show 8≤100;decide) (gX x)) hE hq (by decide) (P8.Ai u10) (g8.trans u10) (λz hz=>Nat.le_trans u2.size (hO z hz)) (h c)
theorem Ahi{x:R8}{w:World}{k:TR Kt→WP}(h: ∀w',Ah w w'→k ((szF (Fr.fs (.reply x)),()),()) w'):Ad prog F.Ii [(.iface T.Dx (.agg #[iV x.1,iV x.2.1,iV x.2.2.1,iV x.2.2.2.1,iV x.2.2.2.2.1,iV x.2.2.2.2.2.1,uV x.2.2.2.2.2.2.1,iV x.2.2.2.2.2.2.2]))] w false Kt k:=by
 refine Zj.ok (f0:=x.1) (f1:=x.2.1) (f2:=x.2.2.1) (f3:=x.2.2.2.1) (f4:=x.2.2.2.2.1) (f5:=x.2.2.2.2.2.1) (f6:=x.2.2.2.2.2.2.1) (f7:=x.2.2.2.2.2.2.2) ?_
 refine gQ λq w4 u4 hE _=>X9 (fs:=(Fr.fs (.reply x))) hE (by show 8≤100;decide) (λe he=>⟨(gX x e he).1,(gX x e he).2.1⟩) λw' g=>h w' (u4.trans g)
theorem Ahd{x:R8}{n:Sl}{v:List Nat}{w:World}(hR:Row w n 1 (Ry v))(hl:v.length=8){k:TR [(false,[.any])]→WP}(h: ∀w',Ah w w'→k ((Fr.val (.reply (wI v 0,wI v 1,wI v 2,wI v 3,wI v 4,wI v 5,wH v 6,wI v 7)),()),()) w'):Ad prog F.Ir [(.iface T.Dx (.agg #[iV x.1,iV x.2.1,iV x.2.2.1,iV x.2.2.2.1,iV x.2.2.2.2.1,iV x.2.2.2.2.2.1,uV x.2.2.2.2.2.2.1,iV x.2.2.2.2.2.2.2])),.slice n.1 n.2.1 n.2.2] w false [(false,[.any])] k:=by
 refine Y9.ok (n:=n) (f0:=x.1) (f1:=x.2.1) (f2:=x.2.2.1) (f3:=x.2.2.2.1) (f4:=x.2.2.2.2.1) (f5:=x.2.2.2.2.2.1) (f6:=x.2.2.2.2.2.2.1) (f7:=x.2.2.2.2.2.2.2) ?_
 refine Ae λp w2 e2 k2 u2=>?_
 have R2:=hR.Ai u2
 exact P7 k2 R2 (i:=0) rfl (by omega) (P7 k2 R2 (i:=1) rfl (by omega) (P7 k2 R2 (i:=2) rfl (by omega) (P7 k2 R2 (i:=3) rfl (by omega) (P7 k2 R2 (i:=4) rfl (by omega) (P7 k2 R2 (i:=5) rfl (by omega) (qM k2 R2 (i:=6) rfl (by omega) (P7 k2 R2 (i:=7) rfl (by omega) ((h w2 u2)))))))))
theorem Ags{x:R8}{w:World}{k:TR Kt→WP}(h: ∀w',Ah w w'→k ((x.1,()),()) w'):Ad prog F.Ny [.agg #[iV x.1,iV x.2.1,iV x.2.2.1,iV x.2.2.2.1,iV x.2.2.2.2.1,iV x.2.2.2.2.2.1,uV x.2.2.2.2.2.2.1,iV x.2.2.2.2.2.2.2]] w false Kt k:=by
 refine Ny.ok (f0:=x.1) (f1:=x.2.1) (f2:=x.2.2.1) (f3:=x.2.2.2.1) (f4:=x.2.2.2.2.1) (f5:=x.2.2.2.2.2.1) (f6:=x.2.2.2.2.2.2.1) (f7:=x.2.2.2.2.2.2.2) ?_
 exact Ae λp w2 e2 k2 u2=>k2.c0 (c:=KI) rfl (h w2 u2)
theorem dE{x:A6}{w:World}{k:TR pX→WP}(h: ∀(q:Sl) w',Ah w w'→Nu w' q (Fr.fs (.anchor x))→(∀a,q.1=some a→w.heap.size≤a.block)→k ((q,()),()) w'):Ad prog F.Fv [.agg #[iV x.1,uV x.2.1,iV x.2.2.1,uV x.2.2.2.1,iV x.2.2.2.2.1,iV x.2.2.2.2.2]] w false pX k:=by
 refine Fv.ok (f0:=x.1) (f1:=x.2.1) (f2:=x.2.2.1) (f3:=x.2.2.2.1) (f4:=x.2.2.2.2.1) (f5:=x.2.2.2.2.2) ?_
 refine Ae λp1 w2 e1 k1 u1=>?_
 rw[Aq]
 have k3:=k1.drew
 have hold: ∀{w':World},Ah w2.drew w'→ ∀j,j<6→w'.cell? (Addr.add ⟨p1,0,none⟩ j)=some ((w2.drew.cell? (Addr.add ⟨p1,0,none⟩ j)).getD undef):=λu j hj=>k3.hold u (λx=>x) j (by simpa using hj)
 refine k3.c0 (c:=KI) rfl (k3.c1 1 (c:=KU) rfl (k3.c1 2 (c:=KI) rfl (k3.c1 3 (c:=KU) rfl (k3.c1 4 (c:=KI) rfl (k3.c1 5 (c:=KI) rfl (?_))))))
 refine Dn.cl λw10 u10=>?_
 have g10:=u10
 refine⟨⟨hold g10 5 (by decide),hold g10 4 (by decide),hold g10 3 (by decide),hold g10 2 (by decide),hold g10 1 (by decide),hold g10 0 (by decide),trivial⟩,?_⟩
 refine Gl.clw λw11 u11=>?_
 have g11:=g10.trans u11
 refine⟨⟨hold g11 5 (by decide),hold g11 4 (by decide),hold g11 3 (by decide),hold g11 2 (by decide),hold g11 1 (by decide),hold g11 0 (by decide),trivial⟩,?_⟩
 refine Dn.cl λw12 u12=>?_
 have g12:=g11.trans u12
 refine⟨⟨hold g12 5 (by decide),hold g12 4 (by decide),hold g12 3 (by decide),hold g12 2 (by decide),hold g12 1 (by decide),hold g12 0 (by decide),trivial⟩,?_⟩
 refine Gl.clw λw13 u13=>?_
 have g13:=g12.trans u13
 refine⟨⟨hold g13 5 (by decide),hold g13 4 (by decide),hold g13 3 (by decide),hold g13 2 (by decide),hold g13 1 (by decide),hold g13 0 (by decide),trivial⟩,?_⟩
 refine Ff.cl λw14 u14=>?_
 have g14:=g13.trans u14
 refine⟨⟨hold g14 5 (by decide),hold g14 4 (by decide),hold g14 3 (by decide),hold g14 2 (by decide),hold g14 1 (by decide),hold g14 0 (by decide),trivial⟩,?_⟩
 refine Ff.cl λw15 u15=>?_
 have g15:=g14.trans u15
 refine⟨⟨hold g15 5 (by decide),hold g15 4 (by decide),hold g15 3 (by decide),hold g15 2 (by decide),hold g15 1 (by decide),hold g15 0 (by decide),trivial⟩,?_⟩
 refine Ae λp22 w23 e22 k22 u22=>⟨⟨hold (g15.trans u22) 5 (by decide),hold (g15.trans u22) 4 (by decide),hold (g15.trans u22) 3 (by decide),hold (g15.trans u22) 2 (by decide),hold (g15.trans u22) 1 (by decide),hold (g15.trans u22) 0 (by decide),trivial⟩,h (some ⟨p22,0,none⟩,6,6) w23 (((Ap.drew u1).trans g15 λ_ _ x=>x).trans u22 λ_ _ x=>x) (bF k22 rfl rfl) λa ha=>?_⟩
 cases ha;exact Nat.le_trans (Nat.le_trans u1.size g15.size) (Nat.le_of_eq e22)
theorem rG{x:A6}{w:World}{k:TR [(false,[.i .u8])]→WP}(h:k ((6,()),()) w):Ad prog F.Dv [(.iface T.Bv (.agg #[iV x.1,uV x.2.1,iV x.2.2.1,uV x.2.2.2.1,iV x.2.2.2.2.1,iV x.2.2.2.2.2]))] w false [(false,[.i .u8])] k:=by
 refine Yr.ok (f0:=x.1) (f1:=x.2.1) (f2:=x.2.2.1) (f3:=x.2.2.2.1) (f4:=x.2.2.2.2.1) (f5:=x.2.2.2.2.2) ?_
 exact h
theorem jH{x:A6}{w:World}{k:TR Vl→WP}(h: ∀w',Ah w w'→k ((okF (Fr.fs (.anchor x)),()),()) w'):Ad prog F.Dw [(.iface T.Bv (.agg #[iV x.1,uV x.2.1,iV x.2.2.1,uV x.2.2.2.1,iV x.2.2.2.2.1,iV x.2.2.2.2.2]))] w false Vl k:=by
 refine Yt.ok (f0:=x.1) (f1:=x.2.1) (f2:=x.2.2.1) (f3:=x.2.2.2.1) (f4:=x.2.2.2.2.1) (f5:=x.2.2.2.2.2) ?_
 refine rG (Le rfl (dE λq w4 u4 hE _=>Ya (fs:=(Fr.fs (.anchor x))) hE (by show 6≤100;decide) λw' g=>h w' (u4.trans g)))
theorem dA(x:A6): ∀e∈(Fr.fs (.anchor x)),0≤e.1∧e.1≤8∧e.2.2≤1125899906842624:=by
 intro e he
 simp only[Fr.fs,qZ,flD,flW,flU,flR,flN,List.mem_cons,List.not_mem_nil,or_false] at he
 rcases he with rfl|rfl|rfl|rfl|rfl|rfl<;>refine⟨?_,?_,?_⟩<;>dsimp only<;>omega
theorem Aek{x:A6}{w:World}{k:TR RSI→WP}(hn:okF (Fr.fs (.anchor x))=false→ ∀w',Ah w w'→k (((none,0,0),()),(1,()),()) w')
  (h:okF (Fr.fs (.anchor x))=true→ ∀(y:Sl) w',OwnB w' w.heap.size y (wB 6 (Fr.fs (.anchor x)))→Ah w w'→k (((y.1,y.2.1,y.2.2),()),(0,()),()) w'):Ad prog F.Gf [(.iface T.Bv (.agg #[iV x.1,uV x.2.1,iV x.2.2.1,uV x.2.2.2.1,iV x.2.2.2.2.1,iV x.2.2.2.2.2]))] w true RSI k:=by
 refine Xg.ok (f0:=x.1) (f1:=x.2.1) (f2:=x.2.2.1) (f3:=x.2.2.2.1) (f4:=x.2.2.2.2.1) (f5:=x.2.2.2.2.2) ?_
 refine jH λw2 u2=>En (λc=>hn c w2 u2) λc=>?_
 have c:okF (Fr.fs (.anchor x))=true:=c
 refine Ae λp w4 e4 k4 u4=>rG ?_
 have P4:=xC.new k4
 refine Bo.cl (n:=1) (v:=6) (by decide) (by simp) P4 λw8 O8 P8 X8=>?_
 have g8:Ah w w8:=Ap.trans (u2.trans u4) X8.u λz hz h=>by have:=u2.size;omega
 have hO: ∀z,O8 z→w2.heap.size≤z:=λz hz=>by
  rcases X8.sub z hz with h1|h1
  ·omega
  ·have:=u4.size;omega
 refine dE λq w10 u10 hE hqf=>?_
 have hq: ∀a,q.1=some a→ ¬O8 a.block:=λa ha hz=>by
  have:=hqf a ha
  have:=P8.lt _ hz
  omega
 exact bC (kd:=6) (iH c (by show 6≤100;decide) (dA x)) hE hq (by decide) (P8.Ai u10) (g8.trans u10) (λz hz=>Nat.le_trans u2.size (hO z hz)) (h c)
theorem Ae1{x:A6}{w:World}{k:TR Kt→WP}(h: ∀w',Ah w w'→k ((szF (Fr.fs (.anchor x)),()),()) w'):Ad prog F.Ii [(.iface T.Bv (.agg #[iV x.1,uV x.2.1,iV x.2.2.1,uV x.2.2.2.1,iV x.2.2.2.2.1,iV x.2.2.2.2.2]))] w false Kt k:=by
 refine Ye.ok (f0:=x.1) (f1:=x.2.1) (f2:=x.2.2.1) (f3:=x.2.2.2.1) (f4:=x.2.2.2.2.1) (f5:=x.2.2.2.2.2) ?_
 refine dE λq w4 u4 hE _=>X9 (fs:=(Fr.fs (.anchor x))) hE (by show 6≤100;decide) (λe he=>⟨(dA x e he).1,(dA x e he).2.1⟩) λw' g=>h w' (u4.trans g)
theorem Aem{x:A6}{n:Sl}{v:List Nat}{w:World}(hR:Row w n 1 (Ry v))(hl:v.length=6){k:TR [(false,[.any])]→WP}(h: ∀w',Ah w w'→k ((Fr.val (.anchor (wI v 0,wH v 1,wI v 2,wH v 3,wI v 4,wI v 5)),()),()) w'):Ad prog F.Ir [(.iface T.Bv (.agg #[iV x.1,uV x.2.1,iV x.2.2.1,uV x.2.2.2.1,iV x.2.2.2.2.1,iV x.2.2.2.2.2])),.slice n.1 n.2.1 n.2.2] w false [(false,[.any])] k:=by
 refine Yv.ok (n:=n) (f0:=x.1) (f1:=x.2.1) (f2:=x.2.2.1) (f3:=x.2.2.2.1) (f4:=x.2.2.2.2.1) (f5:=x.2.2.2.2.2) ?_
 refine Ae λp w2 e2 k2 u2=>?_
 have R2:=hR.Ai u2
 exact P7 k2 R2 (i:=0) rfl (by omega) (qM k2 R2 (i:=1) rfl (by omega) (P7 k2 R2 (i:=2) rfl (by omega) (qM k2 R2 (i:=3) rfl (by omega) (P7 k2 R2 (i:=4) rfl (by omega) (P7 k2 R2 (i:=5) rfl (by omega) ((h w2 u2)))))))
theorem Aef{x:A6}{w:World}{k:TR Kt→WP}(h: ∀w',Ah w w'→k ((x.1,()),()) w'):Ad prog F.Nl [.agg #[iV x.1,uV x.2.1,iV x.2.2.1,uV x.2.2.2.1,iV x.2.2.2.2.1,iV x.2.2.2.2.2]] w false Kt k:=by
 refine Nl.ok (f0:=x.1) (f1:=x.2.1) (f2:=x.2.2.1) (f3:=x.2.2.2.1) (f4:=x.2.2.2.2.1) (f5:=x.2.2.2.2.2) ?_
 exact Ae λp w2 e2 k2 u2=>k2.c0 (c:=KI) rfl (h w2 u2)
theorem Fr.good(f:Fr){w:World}{k:TR Vl→WP}(h: ∀w',Ah w w'→k ((f.ok,()),()) w'):Ad prog F.Dw [f.val] w false Vl k:=by
 cases f with
 |sync s=>exact Abj h
 |find x=>exact uK h
 |want x=>exact Aa9 h
 |pulse x=>exact nC h
 |reply x=>exact xE h
 |anchor x=>exact jH h
theorem Fr.enc(f:Fr){w:World}{k:TR RSI→WP}(hn:f.ok=false→ ∀w',Ah w w'→k (((none,0,0),()),(1,()),()) w')(h:f.ok=true→ ∀(y:Sl) w',OwnB w' w.heap.size y f.by→Ah w w'→k (((y.1,y.2.1,y.2.2),()),(0,()),()) w'):Ad prog F.Gf [f.val] w true RSI k:=by
 cases f with
 |sync s=>exact Ame hn h
 |find x=>exact Ai4 hn h
 |want x=>exact Akr hn h
 |pulse x=>exact Ah8 hn h
 |reply x=>exact Ahf hn h
 |anchor x=>exact Aek hn h
theorem Fr.Avs(f:Fr){w:World}{k:TR Kt→WP}(h: ∀w',Ah w w'→k ((szF f.fs,()),()) w'):Ad prog F.Ii [f.val] w false Kt k:=by
 cases f with
 |sync s=>exact Ait h
 |find x=>exact Amc h
 |want x=>exact Akx h
 |pulse x=>exact Ag4 h
 |reply x=>exact Ahi h
 |anchor x=>exact Ae1 h
theorem Fr.Aon(f:Fr){w:World}{k:TR pX→WP}(h: ∀(q:Sl) w',Ah w w'→Nu w' q f.fs→(∀a,q.1=some a→w.heap.size≤a.block)→k ((q,()),()) w'):ivK prog f.val "angelus/frame.fields" [] w false pX k:=by
 cases f with
 |sync s=>exact Ux (g:=F.Df) (by kernel_rfl) (by kernel_rfl) (kZ h)
 |find x=>exact Ux (g:=F.He) (by kernel_rfl) (by kernel_rfl) (lH h)
 |want x=>exact Ux (g:=F.Ej) (by kernel_rfl) (by kernel_rfl) (lN h)
 |pulse x=>exact Ux (g:=F.Gi) (by kernel_rfl) (by kernel_rfl) (iI h)
 |reply x=>exact Ux (g:=F.Gq) (by kernel_rfl) (by kernel_rfl) (gQ h)
 |anchor x=>exact Ux (g:=F.Fv) (by kernel_rfl) (by kernel_rfl) (dE h)
theorem Fr.Apn(f:Fr){w:World}{k:TR Kt→WP}(h: ∀w',Ah w w'→k ((f.from,()),()) w'):ivK prog f.val "Sender" [] w false Kt k:=by
 cases f with
 |sync s=>exact Ux (g:=F.Ph) (by kernel_rfl) (by kernel_rfl) (Ajj h)
 |find x=>exact Ux (g:=F.Pi) (by kernel_rfl) (by kernel_rfl) (Al4 h)
 |want x=>exact Ux (g:=F.Pj) (by kernel_rfl) (by kernel_rfl) (Akz h)
 |pulse x=>exact Ux (g:=F.Oj) (by kernel_rfl) (by kernel_rfl) (Aie h)
 |reply x=>exact Ux (g:=F.Ny) (by kernel_rfl) (by kernel_rfl) (Ags h)
 |anchor x=>exact Ux (g:=F.Nl) (by kernel_rfl) (by kernel_rfl) (Aef h)
def kF(k:Nat)(v:List Nat):Fr:=
 if k=1 then .sync (wI v 0,wI v 1,wH v 2,wH v 3,wI v 4,wI v 5)
 else if k=2 then .find (wI v 0,wI v 1)
 else if k=3 then .want (wI v 0)
 else if k=4 then .pulse (wI v 0,wI v 1,wI v 2)
 else if k=5 then .reply (wI v 0,wI v 1,wI v 2,wI v 3,wI v 4,wI v 5,wH v 6,wI v 7)
 else .anchor (wI v 0,wH v 1,wI v 2,wH v 3,wI v 4,wI v 5)
theorem Fr.Avq(f:Fr){n:Sl}{v:List Nat}{w:World}(hR:Row w n 1 (Ry v))(hl:v.length=f.fs.length){k:TR [(false,[.any])]→WP}(h: ∀w',Ah w w'→k (((kF f.kd v).val,()),()) w'):Ad prog F.Ir [f.val,.slice n.1 n.2.1 n.2.2] w false [(false,[.any])] k:=by
 cases f with
 |sync s=>exact Ami hR hl h
 |find x=>exact Amz hR hl h
 |want x=>exact Ajw hR hl h
 |pulse x=>exact Ahc hR hl h
 |reply x=>exact Ahd hR hl h
 |anchor x=>exact Aem hR hl h
theorem Fr.small(f:Fr): ∀e∈f.fs,0≤e.1∧e.1≤8∧e.2.2≤1125899906842624:=by
 cases f with
 |sync s=>exact kV s
 |find x=>exact kT x
 |want x=>exact mD x
 |pulse x=>exact iG x
 |reply x=>exact gX x
 |anchor x=>exact dA x
theorem Fr.few(f:Fr):f.fs.length≤8:=by cases f<;>simp[Fr.fs,qZ,flD,flW,flU,flR,flN]
end Go.Proofs.YtppeepkmnijdpaaGreatDoor
