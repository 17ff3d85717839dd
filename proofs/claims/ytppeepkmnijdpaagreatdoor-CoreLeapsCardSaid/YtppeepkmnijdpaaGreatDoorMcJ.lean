import Derived.Test.YtppeepkmnijdpaaGreatDoorMcG
import Derived.Test.YtppeepkmnijdpaaGreatDoorMcC
namespace Go.Proofs.YtppeepkmnijdpaaGreatDoor
open Go.Eng Go Tryz
open Go.IntKind (wrap)
set_option linter.unusedSimpArgs false
set_option linter.unusedVariables false
set_option maxRecDepth 100000
set_option maxHeartbeats 8000000
def Iw(m:V9)(x:Int):Int:=86400*x+iY m.ah m.ls x
theorem aV{m:V9}(h:Tq m)(x:Int):Iw m (x+1)=Iw m x+86400+Sj m.ls x:=by
 unfold Iw;rw[Anf h.2.2.2];omega
theorem Zq{m:V9}(h:Tq m)(x:Int):86400*x-64≤Iw m x∧Iw m x≤86400*x+163:=by
 have h1:=Aag h.2.1 x m.ah
 have h2:=h.1
 have h3:=h.2.2.1
 unfold Xx at h2
 unfold Iw;omega
theorem jI{m:V9}(h:Tq m)(x:Int): -1≤Sj m.ls x∧Sj m.ls x≤1:=Ap2 h.2.1 x
theorem kM{m:V9}(h:Tq m){x y:Int}(hxy:x<y):Iw m x+86399≤Iw m y:=by
 obtain⟨n,rfl⟩: ∃n:Nat,y=x+1+n:=⟨(y-x-1).toNat,by omega⟩
 clear hxy
 induction n with
 |zero=>have:=aV h x;have:=jI h x;simp only[Int.natCast_zero,Int.add_zero] at*;omega
 |succ n ih=>
  have h1:=aV h (x+1+n)
  have h2:=jI h (x+1+n)
  have e:x+1+((n+1:Nat):Int)=x+1+(n:Int)+1:=by omega
  rw[e];omega
def lG(m:V9)(tai x:Int):Prop:=inR m x∧Iw m x≤tai∧tai<Iw m (x+1)
theorem lG.uniq{m:V9}(h:Tq m){tai x y:Int}(hx:lG m tai x)(hy:lG m tai y):x=y:=by
 obtain⟨_,x1,x2⟩:=hx
 obtain⟨_,y1,y2⟩:=hy
 rcases Int.lt_trichotomy x y with c|c|c
 ·rcases aN (x+1) y with c2|c2
  ·have:=kM h c2;omega
  ·have:x+1=y:=by omega
   rw[this] at x2;omega
 ·exact c
 ·rcases aN (y+1) x with c2|c2
  ·have:=kM h c2;omega
  ·have:y+1=x:=by omega
   rw[this] at y2;omega
def uOf(d:D3)(s:Int):U6:=if s=86400 then(d.1,d.2.1,d.2.2,23,59,60) else(d.1,d.2.1,d.2.2,s/3600,s%3600/60,s%60)
theorem Alh{d:D3}(h:F8 d){s:Int}(h0:0≤s)(h1:s≤86400):iZ (uOf d s)∧dU (uOf d s)=d∧lK (uOf d s)=s:=by
 unfold uOf
 split
 ·rename_i c
  refine⟨⟨h,?_⟩,rfl,?_⟩
  ·simp
  ·unfold lK;simp;omega
 ·rename_i c
  refine⟨⟨h,?_⟩,rfl,?_⟩
  ·dsimp only;omega
  ·unfold lK;dsimp only;omega
theorem Ane{u:U6}(h:iZ u):0≤lK u∧lK u≤86400:=by
 obtain⟨_,a1,a2,a3,a4,a5,a6⟩:=h
 unfold lK;omega
abbrev RU1:List (Bool×List CK):=[(true,KU6)]
abbrev RUE:List (Bool×List CK):=[(true,KU6),(false,[KI])]
abbrev Avk:List (Bool×List CK):=[(true,KU6),(false,[.b])]
abbrev RII:List (Bool×List CK):=[(false,[KI]),(false,[KI])]
abbrev RIB:List (Bool×List CK):=[(false,[KI]),(false,[.b])]
theorem Ti.cl{w:World}{b:Nat}{m:V9}(hT:TbW w b m)(hg:Tq m){x:Int}{k:TR RIB→WP}
  (h0: ¬inR m x→ ∀n w',Ah w w'→k ((n,()),(false,()),()) w') (h1:inR m x→ ∀w',Ah w w'→k ((Iw m x,()),(true,()),()) w'):
  Ad prog F.Ti [.pointer (some ⟨b,0,none⟩),iV x] w true RIB k:=by
 refine Ti.ok ?_
 refine Jn.cl hT hg (λc w2 u2=>h0 c _ w2 u2) λc w2 u2=>?_
 have:=h1 c w2 u2
 have br:=Zq hg x
 have hr:=hg.1
 unfold Xx at hr
 obtain⟨c1,c2⟩:=c
 unfold Iw at br this
 rw[show wrap .i64 (wrap .i64 (86400*x)+(((iY m.ah m.ls x,()),(true,()),()):TR RIB).1.1)=86400*x+iY m.ah m.ls x from by
  show wrap .i64 (wrap .i64 (86400*x)+iY m.ah m.ls x)=_
  rw[Af (n:=86400*x) (by unfold I64;omega),Af (by unfold I64;omega)]]
 exact this
theorem Ih.cl{w:World}{m:V9}{s:Sl}(hR:Ox w s m.ls)(hg:Tq m){x:Int}(hx: -10000000≤x∧x≤10000000){k:TR Tm→WP}(h: ∀w',Ah w w'→k ((Iw m x,()),()) w'):
  Ad prog F.Ih [vT m s,iV x] w false Tm k:=by
 refine Ih.ok ?_
 refine Ae λp1 w2 e1 k1 u1=>k1.cA (cs:=[KI,KI,KI,.sl]) (m.st,m.ah,m.en,s,()) rfl (Tf.cl (m:=m) (s:=s) (hR.Ai u1) hg λw5 u5=>?_)
 have:=h w5 (u1.trans u5)
 have br:=Zq hg x
 unfold Iw at br this
 rw[show wrap .i64 (wrap .i64 (86400*x)+(((iY m.ah m.ls x,()),()):TR Tm).1.1)=86400*x+iY m.ah m.ls x from by
  show wrap .i64 (wrap .i64 (86400*x)+iY m.ah m.ls x)=_
  rw[Af (n:=86400*x) (by unfold I64;omega),Af (by unfold I64;omega)]]
 exact this
theorem jX.cl{x s:Int}(hx: -719162≤x∧x≤2932896)(hs:0≤s∧s≤86400){w:World}{k:TR RU1→WP}(h: ∀d,F8 d→Ja d=x→ ∀w',Ah w w'→k (tU (uOf d s),()) w'):
  Ad prog F.jX [iV x,iV s] w false RU1 k:=by
 refine jX.ok ?_
 refine Ae λp1 w2 e1 k1 u1=>Vb.cl (by unfold I64;omega) (λc=>by omega) λ_ _ d hd hn w4 u4=>?_
 have l1:=k1.lt
 have h:=h d hd hn
 refine Ae λp5 w6 e5 k5 u6=>k5.E5 _ rfl rfl λw7 k7 u7=>?_
 have g7:Ah w2 w7:=Ah.fresh u4 u6 u7 e5
 have q1:=k1.Ai g7
 have fin: ∀{w9},Ap (λx=>x=p1) w7 w9→Ah w w9:=λu=>Ap.trans (u1.trans g7) u λi hi h=>by omega
 unfold uOf at h
 refine Cf (λc=>?_) λc=>?_
 ·have c:s≥86400:=c
  have:s=86400:=by omega
  subst this
  rw[if_pos rfl] at h
  refine k7.Xd (q1.E5 _ rfl rfl λw9 k9 u9=>k9.cA (cs:=KU6) (d.1,d.2.1,d.2.2,23,59,60,()) rfl (h w9 (fin u9)))
 ·have c: ¬s≥86400:=c
  rw[if_neg (by omega)] at h
  refine k7.Xd ?_
  rw[Gm (by decide),Gm (by decide),Gm (by decide),Gm (by decide),lS hs.1,lS hs.1,rJ hs.1,Af (n:=s/3600) (by unfold I64;omega),Af (n:=s/60) (by unfold I64;omega),rJ (by omega),
   show s/60%60=s%3600/60 by omega]
  refine q1.E5 _ rfl rfl λw9 k9 u9=>k9.cA (cs:=KU6) (d.1,d.2.1,d.2.2,s/3600,s%3600/60,s%60,()) rfl (h w9 (fin u9))
theorem Aq3{l:List Int}{n i:Nat}{ix v:Int}(hi:ix=i)(hn:i<n)(hv:l[i]? =some v){k:Int→Prop}(hk:k v):aiK l n ix k:=by
 subst hi
 unfold aiK
 rw[if_pos (by omega),Int.toNat_natCast,hv];exact hk
abbrev z6:U6:=(0,0,0,0,0,0)
theorem kE.cl{w:World}{b:Nat}{m:V9}(hT:TbW w b m)(hg:Tq m){tai:Int}(ht:I64 tai){k:TR RUE→WP}
  (h0:(∀x,¬lG m tai x)→ ∀w',Ah w w'→k (tU z6,(11,()),()) w')
  (h1: ∀x,lG m tai x→ ∀d,F8 d→Ja d=x→ ∀w',Ah w w'→k (tU (uOf d (tai-Iw m x)),(0,()),()) w'):
  Ad prog F.kE [.pointer (some ⟨b,0,none⟩),iV tai] w true RUE k:=by
 refine kE.ok ?_
 refine Ae λp1 w2 e1 k1 u1=>Le rfl (Jm.cl ht (by decide) λw6 u6=>?_)
 have l1:=k1.lt
 have k6:=k1.Ai u6
 have g6:=u1.trans u6
 have hT6:=hT.Ai g6
 have ef:fD tai 86400=tai/86400:=rfl
 rw[ef]
 have ht':=ht
 unfold I64 at ht'
 have hr:=hg.1
 unfold Xx at hr
 generalize hd:tai/86400=d
 have ea:wrap .i64 (d-1)=d-1:=Af (by unfold I64;omega)
 have eb:wrap .i64 (d+1)=d+1:=Af (by unfold I64;omega)
 rw[show(((d,()),(nJ tai 86400,()),(!decide ((86400:Int)<1),()),()):TR [(false,[CK.i .i64]),(false,[CK.i .i64]),(false,[CK.b])]).1.1=d from rfl,ea,eb]
 have fin: ∀{w' w''},Ah w2 w'→Ap (λx=>x=p1) w' w''→Ah w w'':=λg u=>Ap.trans (u1.trans g) u λi hi h=>by omega
 refine Aw.by (λz W=> ∃i:Nat,z.1=i∧i≤3∧(∀j:Nat,j<i→ ¬lG m tai (d-1+j))∧Ah w2 W) (λz=>(3-z.1).toNat) ⟨0,rfl,by omega,λj h=>by omega,u6⟩ ?_
 rintro⟨z,_⟩ W ⟨i,hz,hi,hno,hG⟩ _
 dsimp only at hz
 subst hz
 refine Cf (λc=>?_) λc=>?_
 ·have c:(i:Int)<3:=c
  have hv:[d-1,d,d+1][i]? =some (d-1+i):=by
   have:i=0∨i=1∨i=2:=by omega
   rcases this with rfl|rfl|rfl
   ·simp
   ·show some d=_;congr 1;omega
   ·show some (d+1)=_;congr 1;omega
  have hTW:=hT.Ai (u1.trans hG)
  have next: ¬lG m tai (d-1+i)→ ∀{W'},Ah W W'→((∃i':Nat,wrap .i64 ((i:Int)+1)=i'∧i'≤3∧(∀j:Nat,j<i'→ ¬lG m tai (d-1+j))∧Ah w2 W')∧(3-wrap .i64 ((i:Int)+1)).toNat<(3-(i:Int)).toNat):=by
   intro hn W' g
   have ei:wrap .i64 ((i:Int)+1)=((i+1:Nat):Int):=by rw[Af (by unfold I64;omega)];omega
   refine⟨⟨i+1,ei,by omega,λj hj=>?_,hG.trans g⟩,by rw[ei];omega⟩
   rcases Nat.lt_or_ge j i with h|h
   ·exact hno j h
   ·have:j=i:=by omega
    subst this;exact hn
  refine Aq3 rfl (by omega) hv (Ti.cl hTW hg (λhn n w12 u12=>?_) λhin w12 u12=>?_)
  ·exact Le rfl (next (λx=>hn x.1) u12)
  ·have br:=Zq hg (d-1+i)
   have bs:=aV hg (d-1+i)
   have sr:=jI hg (d-1+i)
   obtain⟨hi1,hi2⟩:=hin
   have es:wrap .i64 (tai-Iw m (d-1+i))=tai-Iw m (d-1+i):=Af (by unfold I64;omega)
   refine We rfl ?_
   rw[show wrap .i64 (tai-(((Iw m (d-1+i),()),(true,()),()):TR RIB).1.1)=tai-Iw m (d-1+i) from es]
   refine Cf (λc2=>Hw.cl (hTW.Ai u12) hg λw14 u14=>?_) λc2=>next (λx=>c2 (by have:=x.2.1;omega)) u12
   have eg:wrap .i64 (86400+Sj m.ls (d-1+i))=86400+Sj m.ls (d-1+i):=Af (by unfold I64;omega)
   rw[show wrap .i64 (86400+(((Sj m.ls (d-1+i),()),()):TR Tm).1.1)=86400+Sj m.ls (d-1+i) from eg]
   refine Cf (λc3=>?_) λc3=>next (λx=>c3 (by have:=x.2.2;omega)) (u12.trans u14)
   have hIs:lG m tai (d-1+i):=⟨⟨hi1,hi2⟩,by omega,by omega⟩
   refine jX.cl (by omega) (by omega) λdd hd2 hn w16 u16=>(k1.Ai (((hG.trans u12).trans u14).trans u16)).E5 _ rfl rfl λw17 k17 u17=>?_
   refine k17.cA (cs:=KU6) (tU (uOf dd (tai-Iw m (d-1+i)))) rfl ?_
   exact h1 _ hIs dd hd2 hn w17 (fin (((hG.trans u12).trans u14).trans u16) u17)
 ·have c: ¬(i:Int)<3:=c
  have:i=3:=by omega
  subst this
  refine(k1.Ai hG).E5 _ rfl rfl λw19 k19 u19=>k19.cA (cs:=KU6) (tU z6) rfl (h0 (λx hx=>?_) w19 (fin hG u19))
  have h00:=hno 0 (by omega)
  have h01:=hno 1 (by omega)
  have h02:=hno 2 (by omega)
  have br:=Zq hg x
  have br2:=Zq hg (x+1)
  have hx':=hx
  obtain⟨_,x1,x2⟩:=hx
  have:x=d-1+((0:Nat):Int)∨x=d-1+((1:Nat):Int)∨x=d-1+((2:Nat):Int):=by omega
  rcases this with e|e|e
  ·exact h00 (e▸hx')
  ·exact h01 (e▸hx')
  ·exact h02 (e▸hx')
def Aac(m:V9)(u:U6):Int×Int:=if¬iZ u then(0,1) else if¬inR m (Ja (dU u)) then(0,11) else if lK u≥86400+Sj m.ls (Ja (dU u)) then(0,7) else(Iw m (Ja (dU u))+lK u,0)
theorem dG.cl{w:World}{b:Nat}{m:V9}(hT:TbW w b m)(hg:Tq m){u:U6}{k:TR RII→WP}(h: ∀w',Ah w w'→k (((Aac m u).1,()),((Aac m u).2,()),()) w'):
  Ad prog F.dG [.pointer (some ⟨b,0,none⟩),vU u] w true RII k:=by
 refine dG.ok ?_
 have out: ∀{a:Int×Int},Aac m u=a→ ∀w',Ah w w'→k ((a.1,()),(a.2,()),()) w':=λe=>by subst e;exact h
 clear h
 refine Ae λp1 w2 e1 k1 u1=>Le rfl (Ar.ldU (u:=u) k1 (Ri.cl λw5 u5=>En (λc=>?_) λc=>?_))
 ·have c:rZ u=false:=c
  exact out (a:=(0,1)) (by unfold Aac;rw[if_pos (of_decide_eq_false c)]) w5 (u1.trans u5)
 have c:iZ u:=of_decide_eq_true c
 have hcd:Q4 (dU u)=true:=decide_eq_true c.1
 have k5:=k1.Ai u5
 refine Ar.Aox (u:=u) k5 (F5.cl (d:=dU u) (λx=>by rw[hcd] at x;cases x) λ_ w8 u8=>?_)
 have g8:=(u1.trans u5).trans u8
 refine Ti.cl (hT.Ai g8) hg (λhn n w10 u10=>We rfl ?_) λhin w10 u10=>Le rfl ?_
 ·exact out (a:=(0,11)) (by unfold Aac;rw[if_neg (λx=>x c),if_pos hn]) w10 (g8.trans u10)
 have k10:=(k5.Ai u8).Ai u10
 have g10:=g8.trans u10
 refine k10.i1 3 rfl (k10.i1 4 rfl (k10.i1 5 rfl (Hw.cl (hT.Ai g10) hg λw15 u15=>?_)))
 have sr:=jI hg (Ja (dU u))
 have br:=Zq hg (Ja (dU u))
 have nr:=jG c.1
 have secr:=Ane c
 have cc:=c
 obtain⟨_,a1,a2,a3,a4,a5,a6⟩:=c
 have es:wrap .i64 (wrap .i64 (wrap .i64 (3600*u.2.2.2.1)+wrap .i64 (60*u.2.2.2.2.1))+u.2.2.2.2.2)=lK u:=by
  rw[Af (n:=3600*u.2.2.2.1) (by unfold I64;omega),Af (n:=60*u.2.2.2.2.1) (by unfold I64;omega),Af (n:=3600*u.2.2.2.1+60*u.2.2.2.2.1) (by unfold I64;omega),Af (by unfold I64;omega)];rfl
 rw[es]
 have eg:wrap .i64 (86400+Sj m.ls (Ja (dU u)))=86400+Sj m.ls (Ja (dU u)):=Af (by unfold I64;omega)
 have ef:wrap .i64 (Iw m (Ja (dU u))+lK u)=Iw m (Ja (dU u))+lK u:=Af (by unfold I64;omega)
 rw[show wrap .i64 (86400+(((Sj m.ls (Ja (dU u)),()),()):TR Tm).1.1)=86400+Sj m.ls (Ja (dU u)) from eg,
  show wrap .i64 ((((Iw m (Ja (dU u)),()),(true,()),()):TR RIB).1.1+lK u)=Iw m (Ja (dU u))+lK u from ef]
 refine Cf (λc2=>?_) λc2=>?_
 ·exact out (a:=(0,7)) (by unfold Aac;rw[if_neg (λx=>x cc),if_neg (λx=>x hin),if_pos c2]) w15 (g10.trans u15)
 ·exact out (a:=(Iw m (Ja (dU u))+lK u,0)) (by unfold Aac;rw[if_neg (λx=>x cc),if_neg (λx=>x hin),if_neg c2]) w15 (g10.trans u15)
end Go.Proofs.YtppeepkmnijdpaaGreatDoor
namespace Go.Proofs.YtppeepkmnijdpaaGreatDoor
open Go.Eng Go Tryz
open Go.IntKind (wrap)
set_option linter.unusedSimpArgs false
set_option linter.unusedVariables false
set_option maxRecDepth 100000
set_option maxHeartbeats 8000000
abbrev K4:List CK:=[KI,KI,KI,.sl]
theorem Ar.ldT{w:World}{b:Nat}{m:V9}{s:Sl}(h:Ar w b (cT m s)){k:Ky K4→Prop}(hk:k (m.st,m.ah,m.en,s,())):Bc K4 ⟨b,0,none⟩ 0 w k:=h.cA (cs:=K4) (m.st,m.ah,m.en,s,()) rfl hk
theorem Xc.cl{w:World}{m:V9}{s:Sl}(hR:Ox w s m.ls)(hg:Tq m){tai:Int}(ht:I64 tai){k:TR Avk→WP}
  (h0:(∀x,¬lG m tai x)→ ∀w',Ah w w'→k (tU z6,(false,()),()) w')
  (h1: ∀x,lG m tai x→ ∀d,F8 d→Ja d=x→ ∀w',Ah w w'→k (tU (uOf d (tai-Iw m x)),(true,()),()) w'):
  Ad prog F.Xc [vT m s,iV tai] w true Avk k:=by
 refine Xc.ok ?_
 have hr:=hg.1
 unfold Xx at hr
 have ht':=ht
 unfold I64 at ht'
 refine Ae λp1 w2 e1 k1 u1=>Ae λp3 w4 e3 k3 u3=>?_
 have l1:=k1.lt
 have l3:=k3.lt
 have g4:=u1.trans u3
 have q1:=k1.Ai u3
 refine q1.i0 rfl (q1.i1 2 rfl ?_)
 rw[Aq]
 have q1:=q1.drew
 have q3:=k3.drew
 have g7:=g4.trans (Ah.drew w4)
 have fin: ∀{w' w'':World},Ah w4.drew w'→Ap (λx=>x=p3) w' w''→Ah w w'':=λg u=>Ap.trans (g7.trans g) u λi hi h=>by omega
 generalize w4.drew=w7 at q1 q3 g7 fin
 have hh: ∀{a b},Ar a p1 (cT m s)→Ah a b→ ∀i,i<4→b.cell? (Addr.add ⟨p1,0,none⟩ i)=some ((a.cell? (Addr.add ⟨p1,0,none⟩ i)).getD undef):=λq u i hi=>q.hold u (λx=>x) i (by simpa using hi)
 have wu: ∀x,lG m tai x→Iw m m.st≤tai∧tai<Iw m (m.en-1+1):=λx hx=>by
  obtain⟨⟨x1,x2⟩,x3,x4⟩:=hx
  constructor
  ·rcases aN m.st x with c|c
   ·have:=kM hg c;omega
   ·have:x=m.st:=by omega
    subst this;exact x3
  ·rcases aN (x+1) m.en with c|c
   ·have:=kM hg c;rw[show m.en-1+1=m.en by omega];omega
   ·have:x+1=m.en:=by omega
    rw[show m.en-1+1=m.en by omega,←this];exact x4
 refine Ar.ldT q1 (Ih.cl (hR.Ai g7) hg (by omega) λw10 u10=>⟨⟨hh q1 u10 0 (by decide),hh q1 u10 1 (by decide),hh q1 u10 2 (by decide),hh q1 u10 3 (by decide),trivial⟩,?_⟩)
 refine Cf (λc=>(q3.Ai u10).E5 _ rfl rfl λw11 k11 u11=>k11.cA (cs:=KU6) (tU z6) rfl (h0 (λx hx=>by have:=(wu x hx).1;have c:tai<Iw m m.st:=c;omega) w11 (fin u10 u11))) λc1=>?_
 have c1: ¬tai<Iw m m.st:=c1
 have r1:=q1.Ai u10
 have ee:wrap .i64 (m.en-1)=m.en-1:=Af (by unfold I64;omega)
 refine Ar.ldT r1 (Ar.ldT r1 ?_)
 rw[ee]
 have h0': ∀{a b},Ah w10 a→Ah a b→Ah w10 b:=λg u=>g.trans u
 refine Ih.cl (hR.Ai (g7.trans u10)) hg (by omega) λw16 u16=>⟨⟨hh r1 u16 0 (by decide),hh r1 u16 1 (by decide),hh r1 u16 2 (by decide),hh r1 u16 3 (by decide),hh r1 u16 0 (by decide),hh r1 u16 1 (by decide),hh r1 u16 2 (by decide),hh r1 u16 3 (by decide),
  hh q1 (u10.trans u16) 0 (by decide),hh q1 (u10.trans u16) 1 (by decide),hh q1 (u10.trans u16) 2 (by decide),hh q1 (u10.trans u16) 3 (by decide),trivial⟩,?_⟩
 refine Qr.cl (hR.Ai ((g7.trans u10).trans u16)) (by have:=hg.2.2.1;omega) λw18 u18=>⟨⟨hh r1 (u16.trans u18) 0 (by decide),hh r1 (u16.trans u18) 1 (by decide),hh r1 (u16.trans u18) 2 (by decide),hh r1 (u16.trans u18) 3 (by decide),
  hh q1 ((u10.trans u16).trans u18) 0 (by decide),hh q1 ((u10.trans u16).trans u18) 1 (by decide),hh q1 ((u10.trans u16).trans u18) 2 (by decide),hh q1 ((u10.trans u16).trans u18) 3 (by decide),trivial⟩,?_⟩
 have bs:=aV hg (m.en-1)
 have br:=Zq hg (m.en-1)
 have sr:=jI hg (m.en-1)
 have eg:wrap .i64 (wrap .i64 (Iw m (m.en-1)+86400)+Sj m.ls (m.en-1))=Iw m (m.en-1+1):=by
  rw[Af (n:=Iw m (m.en-1)+86400) (by unfold I64;omega),Af (by unfold I64;omega),bs]
 rw[show wrap .i64 (wrap .i64 ((((Iw m (m.en-1),()),()):TR Tm).1.1+86400)+(((Sj m.ls (m.en-1),()),()):TR Tm).1.1)=Iw m (m.en-1+1) from eg]
 have G18:=(u10.trans u16).trans u18
 refine Cf (λc=>(q3.Ai G18).E5 _ rfl rfl λw11 k11 u11=>k11.cA (cs:=KU6) (tU z6) rfl (h0 (λx hx=>by have:=(wu x hx).2;have c:tai≥Iw m (m.en-1+1):=c;omega) w11 (fin G18 u11))) λc2=>?_
 have c2: ¬tai≥Iw m (m.en-1+1):=c2
 refine Aw.by (λz W=>m.st≤z.1∧z.1≤z.2.1∧z.2.1<m.en∧Iw m z.1≤tai∧tai<Iw m (z.2.1+1)∧Ah w7 W) (λz=>(z.2.1-z.1).toNat) ⟨by show m.st≤m.st;omega,by show m.st≤m.en-1;omega,by show m.en-1<m.en;omega,by show Iw m m.st≤tai;omega,by show tai<Iw m (m.en-1+1);omega,G18⟩ ?_
 rintro⟨lo,hi,_⟩ W ⟨i1,i2,i3,i4,i5,hG⟩ _
 dsimp only at i1 i2 i3 i4 i5
 have qW:=q1.Ai hG
 refine Cf (λc=>?_) λc=>?_
 ·have c:lo<hi:=c
  rw[Gm (by decide)]
  have em:wrap .i64 (lo+wrap .i64 (Int.tdiv (wrap .i64 (wrap .i64 (hi-lo)+1)) 2))=lo+(hi-lo+1)/2:=by
   rw[Af (n:=hi-lo) (by unfold I64;omega),Af (n:=hi-lo+1) (by unfold I64;omega),lS (by omega),Af (n:=(hi-lo+1)/2) (by unfold I64;omega),Af (by unfold I64;omega)]
  rw[show wrap .i64 (((lo,hi,()):Int×Int×Unit).1+wrap .i64 (Int.tdiv (wrap .i64 (wrap .i64 (((lo,hi,()):Int×Int×Unit).2.1-((lo,hi,()):Int×Int×Unit).1)+1)) 2))=lo+(hi-lo+1)/2 from em]
  generalize hmid:lo+(hi-lo+1)/2=mid
  have ei:wrap .i64 (mid-1)=mid-1:=Af (by unfold I64;omega)
  refine Ar.ldT qW (Ih.cl (hR.Ai (g7.trans hG)) hg (by omega) λw26 u26=>Cf (λc3=>⟨⟨by show m.st≤mid;omega,by show mid≤hi;omega,i3,c3,i5,hG.trans u26⟩,by show(hi-mid).toNat<(hi-lo).toNat;omega⟩) λc3=>?_)
  have c3: ¬Iw m mid≤tai:=c3
  refine⟨⟨i1,by show lo≤wrap .i64 (mid-1);omega,by show wrap .i64 (mid-1)<m.en;omega,i4,?_,hG.trans u26⟩,by show(wrap .i64 (mid-1)-lo).toNat<(hi-lo).toNat;omega⟩
  show tai<Iw m (wrap .i64 (mid-1)+1)
  rw[ei,show mid-1+1=mid by omega];omega
 ·have c: ¬lo<hi:=c
  have:lo=hi:=by omega
  subst this
  have hIs:lG m tai lo:=⟨⟨i1,i3⟩,i4,i5⟩
  have h1:=h1 lo hIs
  have bs:=aV hg lo
  have br:=Zq hg lo
  have sr:=jI hg lo
  have es:wrap .i64 (tai-Iw m lo)=tai-Iw m lo:=Af (by unfold I64;omega)
  refine Ar.ldT qW (Ih.cl (hR.Ai (g7.trans hG)) hg (by show-10000000≤lo∧lo≤10000000;omega) λw29 u29=>Ur.cl (by show-719162≤lo;omega) (by show lo≤2932896;omega) λd hd hn w31 u31=>?_)
  have h1:=h1 d hd hn
  rw[show wrap .i64 (tai-(((Iw m lo,()),()):TR Tm).1.1)=tai-Iw m lo from es]
  refine Ae λp32 w33 e32 k32 u33=>k32.E5 _ rfl rfl λw34 k34 u34=>?_
  have g34:Ah w7 w34:=Ah.fresh ((hG.trans u29).trans u31) u33 u34 e32
  unfold uOf at h1
  have q34:=q3.Ai g34
  refine Vh (λc2=>?_) λc2=>?_
  ·rw[if_pos c2] at h1
   refine k34.Xd (q34.E5 _ rfl rfl λw36 k36 u36=>k36.cA (cs:=KU6) (d.1,d.2.1,d.2.2,23,59,60,()) rfl (h1 w36 (fin g34 u36)))
  ·rw[if_neg c2] at h1
   refine k34.Xd ?_
   have s0:0≤tai-Iw m lo:=by omega
   have s1:tai-Iw m lo≤86400:=by omega
   generalize tai-Iw m lo=sec at*
   rw[Gm (by decide),Gm (by decide),Gm (by decide),Gm (by decide),lS s0,rJ s0,rJ s0,Af (n:=sec/3600) (by unfold I64;omega),lS (by omega),Af (n:=sec%3600/60) (by unfold I64;omega)]
   exact q34.E5 _ rfl rfl λw36 k36 u36=>k36.cA (cs:=KU6) (d.1,d.2.1,d.2.2,sec/3600,sec%3600/60,sec%60,()) rfl (h1 w36 (fin g34 u36))
end Go.Proofs.YtppeepkmnijdpaaGreatDoor
