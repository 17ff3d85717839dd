import Derived.Test.YticgocmhmffneaaGreatDoorMtI
import Derived.Test.YticgocmhmffneaaGreatDoorMtF
namespace Go.Proofs.YticgocmhmffneaaGreatDoor
open Go Go.Eng
open Go.IntKind (wrap)
set_option linter.unusedSimpArgs false
set_option linter.unusedVariables false
set_option maxRecDepth 100000
set_option maxHeartbeats 8000000
def doA(x:TAc)(bs:List Nat)(c:Ch)(t:Nt):Nt×Int:=
 if x.1=7 then t.act x.2.1 λd=>((d.tag x.2.2.2.2.2.1).1,(d.tag x.2.2.2.2.2.1).2.2)
 else if x.1=8 then((t.act x.2.1 λd=>(d.Ua.1,0)).1,0)
 else doT x bs c t
theorem Ab6(bs:List Nat)(d:Nd):(nX bs d).1=d∧(nX bs d).2≠0:=by
 unfold nX
 cases hd:Xg bs with
 |ok f=>exact⟨rfl,by show(1:Int)≠0;decide⟩
 |error e=>exact Air hd (Atx hd)
structure Kp(d d':Nd):Prop where
 e:d'.e=d.e
 l:d'.l=d.l
 s:d'.es=d.es
 b:d'.boot=d.boot
 o:d'.on=true→d.on=true
theorem Kp.refl(d:Nd):Kp d d:=⟨rfl,rfl,rfl,rfl,id⟩
theorem Kp.off(d:Nd):Kp d d.off.1:=by unfold Nd.off;split;exact Kp.refl d;exact⟨rfl,rfl,rfl,rfl,λh=>by cases h⟩
theorem Kp.tag(d:Nd)(s:ByteArray):Kp d (d.tag s).1:=by
 unfold Nd.tag
 split
 ·exact Kp.refl d
 split
 ·exact Kp.refl d
 split<;>exact⟨rfl,rfl,rfl,rfl,id⟩
theorem Kp.Ua(d:Nd):Kp d d.Ua.1:=by unfold Nd.Ua;split<;>exact⟨rfl,rfl,rfl,rfl,id⟩
theorem Kp.push(d:Nd)(j:Jb):Kp d (d.push j).1:=by unfold Nd.push;split<;>exact⟨rfl,rfl,rfl,rfl,id⟩
theorem Kp.pass(d:Nd):Kp d d.pass.1:=by unfold Nd.pass;split;exact Kp.refl d;exact Kp.push d _
theorem Kp.fix(d:Nd)(t:Int):Kp d (d.fix t).1:=by
 unfold Nd.fix
 split
 ·exact Kp.refl d
 split
 ·exact Kp.refl d
 split
 ·exact Kp.refl d
 split
 ·exact Kp.refl d
 ·have p:=Kp.pass {d with bh:=true,ba:=d.Tc d.time.1 t}
  exact⟨p.e,p.l,p.s,p.b,p.o⟩
theorem Ar9{t:Nt}{i:Int}{f:Nd→Nd×Int}{j:Nat}{d':Nd}(h:(t.act i f).1.ds[j]? =some d'):t.ds[j]? =some d'∨ ∃d,t.ds[j]? =some d∧d'=(f d).1:=by
 cases ha:t.at i with
 |none=>rw[Nt.Qe ha] at h;exact .inl h
 |some d=>
  rw[Nt.Q3 ha] at h
  have hd:=(Nt.Xv ha).2
  have h:(t.ds.set i.toNat (f d).1)[j]? =some d':=h
  rw[List.getElem?_set] at h
  by_cases c:i.toNat=j
  ·subst c
   rw[if_pos rfl,if_pos (List.getElem?_eq_some_iff.1 hd).1] at h
   injection h with h
   exact .inr ⟨d,hd,h.symm⟩
  ·rw[if_neg c] at h
   exact .inl h
theorem As2(t:Nt)(i k:Int)(on:Bool):(t.link i k on).1.ds=t.ds:=by unfold Nt.link;split<;>rfl
def Akz(x:TAc):Prop:=x.1=3∨x.1=4∨x.1=5∨x.1=6
theorem xE{t:Nt}{i:Int}{f:Nd→Nd×Int}(h: ∀d,Kp d (f d).1∨ ∃raw,(f d).1=d.turn raw)(j:Nat)(d':Nd)(h':(t.act i f).1.ds[j]? =some d'): ∃d,t.ds[j]? =some d∧(Kp d d'∨ ∃raw,d'=d.turn raw):=by
 rcases Ar9 h' with q|⟨d,hd,rfl⟩
 ·exact⟨d',q,.inl (Kp.refl d')⟩
 ·exact⟨d,hd,h d⟩
theorem Abf(x:TAc)(bs:List Nat)(c:Ch)(t:Nt):(Akz x∧t.chk c=0∧(doA x bs c t).1=(t.step c).1∧(doA x bs c t).1.ds=t.d3 c)∨ ∀(j:Nat) (d':Nd),(doA x bs c t).1.ds[j]? =some d'→ ∃d,t.ds[j]? =some d∧(Kp d d'∨ ∃raw,d'=d.turn raw):=by
 unfold doA doT
 split
 ·exact .inr (xE λd=>.inl (Kp.tag d _))
 split
 ·exact .inr (xE λd=>.inl (Kp.Ua d))
 split
 ·exact .inr λj d' h=>⟨d',by rw[As2] at h;exact h,.inl (Kp.refl d')⟩
 split
 ·exact .inr (xE λd=>.inr ⟨_,rfl⟩)
 split
 ·exact .inr (xE λd=>.inl (Kp.off d))
 split
 ·rename_i hx
  by_cases hc:t.chk c=0
  ·have e:t.step c=({t with ds:=t.d3 c,steps:=wrap .i64 (t.steps+1),sent:=t.Ue c,ears:=t.We c},0):=by
    unfold Nt.step
    exact if_neg λq=>q hc
   exact .inl ⟨hx,hc,rfl,by rw[e]⟩
  ·have e:t.step c=(t,t.chk c):=by
    unfold Nt.step
    exact if_pos hc
   exact .inr λj d' h=>⟨d',by rw[e] at h;exact h,.inl (Kp.refl d')⟩
 split
 ·exact .inr (xE λd=>.inl (Kp.fix d _))
 split
 ·exact .inr (xE λd=>.inl (by rw[(Ab6 _ d).1];exact Kp.refl d))
 ·exact .inr λj d' h=>⟨d',h,.inl (Kp.refl d')⟩
theorem Adz(d:Nd)(raw:Int):(d.turn raw).boot≠d.boot:=by
 show wrap .u16 (d.boot+1)≠d.boot
 rw[oL]
 omega
theorem Iss.act{K:Int}(h0:0≤K)(hK:K≤50000){H:Int→Jf MK→Prop}{t:Nt}(g:Ql t)(h:Iss K H t)(x:TAc)(bs:List Nat)(c:Ch):Iss (K+1) (λr m=>H r m∨Nw (doA x bs c t).1 r m) (doA x bs c t).1:=by
 rcases Abf x bs c t with ⟨_,_,_,e⟩|q
 ·exact Iss.step h0 hK g h c _ e
 ·intro j d' hd'
  obtain⟨d,hd,k|⟨raw,rfl⟩⟩:=q j d' hd'
  ·exact((h j d hd).same k.b k.e k.l).mono (by omega) λr m h=>.inl h
  ·exact((h j d hd).turn h0 hK raw).mono (Int.le_refl _) λr m h=>.inl h
theorem Alz{S:dI}{lp:Option Addr}{i:Nat}{d:Nd}(h:(wB S lp).ds[i]? =some d):d=nd0 (ndS S i) lp:=by
 have h:((List.range S.nodes.toNat).map λi=>nd0 (ndS S i) lp)[i]? =some d:=h
 rw[List.getElem?_map] at h
 by_cases c:i<S.nodes.toNat
 ·rw[List.getElem?_range c] at h
  injection h with h
  exact h.symm
 ·rw[List.getElem?_eq_none (by simpa using (by omega:S.nodes.toNat≤i))] at h
  cases h
theorem Mv.act{K:Int}(h0:0≤K)(hK:K≤20000){H:Int→Jf MK→Prop}{t:Nt}(g:Ql t)(h:Iss K H t){x:TAc}{bs:List Nat}{c:Ch}{i:Nat}{d d':Nd}(hd:t.ds[i]? =some d)(hd':(doA x bs c t).1.ds[i]? =some d')(b:d'.boot=d.boot):Mv d d':=by
 rcases Abf x bs c t with ⟨_,_,_,e⟩|q
 ·rw[e] at hd'
  exact h.mv h0 hK g hd hd'
 ·obtain⟨d1,h1,k|⟨raw,k⟩⟩:=q i d' hd'
  ·rw[hd] at h1
   injection h1 with h1
   subst h1
   exact Mv.same k.e k.l k.s
  ·rw[hd] at h1
   injection h1 with h1
   subst h1
   subst k
   exact absurd b (Adz _ _)
theorem AR.Abk{w:World}{x:TAc}{bs:List Nat}{c:Ch}(A:AR w x bs c)(sm:Sml x):Ajq c:=
 ⟨by have:=Me A.t;have:=sm.t;omega,by have:=Me A.s;have:=sm.c;omega,by have:=Me A.h;have:=sm.h;omega,by have h:=Row.Abk A.l;rw[List.length_map] at h;have:=sm.l;omega⟩
structure Idl(S:dI)(t:Nt):Prop where
 s:t.s=S
 d:t.ds=(wB S none).ds
 n:t.sent=0
 e: ∀e∈t.ears,e=((-1,0):Int×Int)
theorem Idl.link{S:dI}{t:Nt}(h:Idl S t)(i k:Int)(on:Bool):Idl S (t.link i k on).1:=by
 unfold Nt.link
 split
 ·exact⟨h.s,h.d,h.n,h.e⟩
 ·exact h
theorem Idl.off{S:dI}{t:Nt}(h:Idl S t)(i:Nat)(d:Nd)(hd:t.ds[i]? =some d):d.on=false:=by
 rw[h.d] at hd
 rw[Alz hd]
 rfl
theorem Idl.step{S:dI}{t:Nt}(h:Idl S t)(c:Ch):Idl S (t.step c).1∧(t.step c).1.steps=if(t.step c).2=0 then wrap .i64 (t.steps+1) else t.steps:=by
 unfold Nt.step
 by_cases q:t.chk c≠0
 ·rw[if_pos q]
  exact⟨h,(if_neg q).symm⟩
 ·rw[if_neg q]
  obtain⟨_,_,e3,e4,e5⟩:=Nt.idle (c:=c) h.off
  exact⟨⟨h.s,e4.trans h.d,e3,e5⟩,(if_pos rfl).symm⟩
theorem Idl.tells{S:dI}{t:Nt}(h:Idl S t){i:Nat}(hi:i<S.nodes.toNat):(t.tim (i:Int)).2=10∧t.rO (i:Int)=zSt:=by
 have e:t.at (i:Int)=some (nd0 (ndS S i) none):=by
  unfold Nt.at
  rw[if_neg (by omega),Int.toNat_natCast,h.d]
  show((List.range S.nodes.toNat).map λi=>nd0 (ndS S i) none)[i]? =_
  rw[List.getElem?_map,List.getElem?_range hi]
  rfl
 constructor
 ·unfold Nt.tim;rw[e];rfl
 ·unfold Nt.rO;rw[e];rfl
abbrev Wd:=Int×Int×Int
def wdM(r:Int)(m:Jf MK):Wd:=(r,m.1,m.2.1)
theorem Akf{r r':Int}{m m':Jf MK}(h:wdM r m=wdM r' m'):r=r'∧m=m':=by
 obtain⟨a,b,⟨⟩⟩:=m
 obtain⟨a',b',⟨⟩⟩:=m'
 unfold wdM at h
 simp only[Prod.mk.injEq] at h
 obtain⟨rfl,rfl,rfl⟩:=h
 exact⟨rfl,rfl⟩
structure Onc(tk:List Wd)(la:Wd)(d:Nd):Prop where
 tk: ∀p∈tk,∃r m m',p=wdM r m∧Vu d.l r=some m'∧leM m m'
 la:(la=(-1,0,0)∧(d.e.root<0∨mine d.e=true))∨ ∃m,la=wdM d.e.root m∧Vu d.l d.e.root=some m
theorem Onc.new(d:Nd)(raw:Int):Onc [] (-1,0,0) (d.turn raw):=⟨λp h=>(by cases h),.inl ⟨rfl,.inl (by show(-1:Int)<0;decide)⟩⟩
theorem Ale{tk:List Wd}{l l':Um}(h: ∀p∈tk,∃r m m',p=wdM r m∧Vu l r=some m'∧leM m m')(k:Ac1 l l'): ∀p∈tk,∃r m m',p=wdM r m∧Vu l' r=some m'∧leM m m':=λp hp=>by
 obtain⟨r,m,m',e,q,y⟩:=h p hp
 obtain⟨m2,q2,y2⟩:=k r m' q
 exact⟨r,m,m2,e,q2,Adw y y2⟩
theorem Aqk{d:Nd}(k:EI d.e d.l)(hb:mkB d.e=true)(hm:mine d.e=false):0≤d.e.root∧Vu d.l d.e.root=some (oN d.e d.l):=by
 unfold mkB at hb
 split at hb
 ·cases hb
 rename_i c
 have r0:0≤d.e.root:=by omega
 refine⟨r0,?_⟩
 have ne:d.e.root≠d.e.me:=λe=>by rw[(Ph d.e).2 e] at hm;cases hm
 have q:=k.known r0 ne
 unfold oN
 rw[if_neg c,hm,if_neg (by decide)]
 cases hg:Vu d.l d.e.root with
 |none=>rw[hg] at q;cases q
 |some m=>rfl
theorem Onc.goes{tk:List Wd}{la:Wd}{d d':Nd}(O:Onc tk la d)(v:Mv d d')(k:EI d'.e d'.l)(hb:mkB d'.e=true)(hm:mine d'.e=false):
  (wdM d'.e.root (oN d'.e d'.l)≠la→wdM d'.e.root (oN d'.e d'.l)∉tk∧Onc (tk++[wdM d'.e.root (oN d'.e d'.l)]) (wdM d'.e.root (oN d'.e d'.l)) d')∧
  (wdM d'.e.root (oN d'.e d'.l)=la→d'.es.length≤d.es.length∧Onc tk (wdM d'.e.root (oN d'.e d'.l)) d'):=by
 obtain⟨r0,hg⟩:=Aqk k hb hm
 generalize oN d'.e d'.l=m at*
 obtain⟨vm,vl,v3⟩:=v
 have T:=Ale O.tk vl
 have T2: ∀p∈tk++[wdM d'.e.root m],∃r m1 m',p=wdM r m1∧Vu d'.l r=some m'∧leM m1 m':=by
  intro p hp
  rcases List.mem_append.1 hp with hp|hp
  ·exact T p hp
  ·rw[List.mem_singleton.1 hp]
   exact⟨_,_,_,rfl,hg,.inr rfl⟩
 have A:Onc (tk++[wdM d'.e.root m]) (wdM d'.e.root m) d':=⟨T2,.inr ⟨m,rfl,hg⟩⟩
 have B:Onc tk (wdM d'.e.root m) d':=⟨T,.inr ⟨m,rfl,hg⟩⟩
 rcases v3 with v3|⟨r,l,s⟩|⟨r,m',e,q⟩
 ·rw[v3] at hm;cases hm
 ·refine⟨λn=>?_,λ_=>⟨s,B⟩⟩
  exfalso
  rcases O.la with ⟨_,y|y⟩|⟨m2,e2,g2⟩
  ·rw[r] at r0;omega
  ·have:=(Ph _).1 y
   rw[←r,←vm] at this
   rw[(Ph _).2 this] at hm
   cases hm
  ·rw[l,r,g2] at hg
   injection hg with hg
   subst hg
   rw[e2,r] at n
   exact n rfl
 ·rw[hg] at e
  injection e with e
  subst e
  refine⟨λ_=>⟨λhp=>?_,A⟩,λn=>?_⟩
  ·obtain⟨r2,m2,m3,e2,g2,y2⟩:=O.tk _ hp
   obtain⟨rfl,rfl⟩:=Akf e2
   exact Alp _ (Ap3 y2 (q _ g2))
  ·exfalso
   rcases O.la with ⟨y,_⟩|⟨m2,e2,g2⟩
   ·rw[y] at n
    unfold wdM at n
    simp only[Prod.mk.injEq] at n
    omega
   ·rw[e2] at n
    obtain⟨er,rfl⟩:=Akf n
    rw[←er] at g2
    exact Alp _ (q _ g2)
end Go.Proofs.YticgocmhmffneaaGreatDoor
