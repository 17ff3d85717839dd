import Derived.Test.YticgocmhmffneaaGreatDoorMcU
import Derived.Laws.BytesString
import Derived.Laws.IdiomStrings
import Derived.Test.YticgocmhmffneaaGreatDoorCfix
namespace Go.Proofs.YticgocmhmffneaaGreatDoor
open Go.Eng Go
set_option linter.unusedSimpArgs false
set_option linter.unusedVariables false
set_option maxRecDepth 100000
set_option maxHeartbeats 8000000
abbrev KU6:List CK:=[KI,KI,KI,KI,KI,KI]
abbrev tU(u:U6):Jf KU6:=(u.1,u.2.1,u.2.2.1,u.2.2.2.1,u.2.2.2.2.1,u.2.2.2.2.2,())
abbrev cU(u:U6):List Value:=[iV u.1,iV u.2.1,iV u.2.2.1,iV u.2.2.2.1,iV u.2.2.2.2.1,iV u.2.2.2.2.2]
theorem Az.ldU{w:World}{b:Nat}{u:U6}(h:Az w b (cU u)){k:Jf KU6→Prop}(hk:k (tU u)):A8 KU6 ⟨b,0,none⟩ 0 w k:=h.cA (cs:=KU6) (tU u) rfl hk
end Go.Proofs.YticgocmhmffneaaGreatDoor
namespace Go.Proofs.YticgocmhmffneaaGreatDoor
open Go.Eng Go Tryz
open Go.IntKind (wrap)
set_option linter.unusedSimpArgs false
set_option linter.unusedVariables false
set_option maxRecDepth 100000
set_option maxHeartbeats 8000000
def Ajy(m:TbL)(x:Int):Int:=86400*x+ahS m.ah m.ls x
theorem Aod{m:TbL}(h:Ai5 m)(x:Int):Ajy m (x+1)=Ajy m x+86400+Ai0 m.ls x:=by
 unfold Ajy;rw[Avj h.2.2.2];omega
theorem Al5{m:TbL}(h:Ai5 m)(x:Int):86400*x-64≤Ajy m x∧Ajy m x≤86400*x+163:=by
 have h1:=Aqz h.2.1 x m.ah
 have h2:=h.1
 have h3:=h.2.2.1
 unfold Ap8 at h2
 unfold Ajy;omega
theorem As3{m:TbL}(h:Ai5 m)(x:Int): -1≤Ai0 m.ls x∧Ai0 m.ls x≤1:=Aw4 h.2.1 x
theorem Arn{m:TbL}(h:Ai5 m){x y:Int}(hxy:x<y):Ajy m x+86399≤Ajy m y:=by
 obtain⟨n,rfl⟩: ∃n:Nat,y=x+1+n:=⟨(y-x-1).toNat,by omega⟩
 clear hxy
 induction n with
 |zero=>have:=Aod h x;have:=As3 h x;simp only[Int.natCast_zero,Int.add_zero] at*;omega
 |succ n ih=>
  have h1:=Aod h (x+1+n)
  have h2:=As3 h (x+1+n)
  have e:x+1+((n+1:Nat):Int)=x+1+(n:Int)+1:=by omega
  rw[e];omega
def An8(m:TbL)(tai x:Int):Prop:=inR m x∧Ajy m x≤tai∧tai<Ajy m (x+1)
instance instNnCutc_1459 (m:TbL) (tai x:Int):Decidable (An8 m tai x):=by unfold An8;exact inferInstance
theorem An8.uniq{m:TbL}(h:Ai5 m){tai x y:Int}(hx:An8 m tai x)(hy:An8 m tai y):x=y:=by
 obtain⟨_,x1,x2⟩:=hx
 obtain⟨_,y1,y2⟩:=hy
 rcases Int.lt_trichotomy x y with c|c|c
 ·rcases Aq1 (x+1) y with c2|c2
  ·have:=Arn h c2;omega
  ·have:x+1=y:=by omega
   rw[this] at x2;omega
 ·exact c
 ·rcases Aq1 (y+1) x with c2|c2
  ·have:=Arn h c2;omega
  ·have:y+1=x:=by omega
   rw[this] at y2;omega
def uOf(d:D3)(s:Int):U6:=if s=86400 then(d.1,d.2.1,d.2.2,23,59,60) else(d.1,d.2.1,d.2.2,s/3600,s%3600/60,s%60)
abbrev RU1:List (Bool×List CK):=[(true,KU6)]
abbrev RUE:List (Bool×List CK):=[(true,KU6),(false,[KI])]
abbrev RIB:List (Bool×List CK):=[(false,[KI]),(false,[.b])]
theorem Ae6.cl{w:World}{b:Nat}{m:TbL}(hT:TbW w b m)(hg:Ai5 m){x:Int}{k:TR RIB→WP}
  (h0: ¬inR m x→ ∀n w',Af w w'→k ((n,()),(false,()),()) w') (h1:inR m x→ ∀w',Af w w'→k ((Ajy m x,()),(true,()),()) w'):
  Ae prog F.Ae6 [.pointer (some ⟨b,0,none⟩),iV x] w true RIB k:=by
 refine Ae6.ok ?_
 unfold Ae6.wp
 refine aF.cl hT hg (λc w2 u2=>h0 c _ w2 u2) λc w2 u2=>?_
 have:=h1 c w2 u2
 have br:=Al5 hg x
 have hr:=hg.1
 unfold Ap8 at hr
 obtain⟨c1,c2⟩:=c
 unfold Ajy at br this
 rw[show wrap .i64 (wrap .i64 (86400*x)+(((ahS m.ah m.ls x,()),(true,()),()):TR RIB).1.1)=86400*x+ahS m.ah m.ls x from by
  show wrap .i64 (wrap .i64 (86400*x)+ahS m.ah m.ls x)=_
  rw[Ah (n:=86400*x) (by unfold I64;omega),Ah (by unfold I64;omega)]]
 exact this
theorem Aee.cl{w:World}{m:TbL}{s:Sl}(hR:Abg w s m.ls)(hg:Ai5 m){x:Int}(hx: -10000000≤x∧x≤10000000){k:TR Ajt→WP}(h: ∀w',Af w w'→k ((Ajy m x,()),()) w'):
  Ae prog F.Aee [vT m s,iV x] w false Ajt k:=by
 refine Aee.ok ?_
 unfold Aee.wp
 refine Ad λp1 w2 e1 k1 u1=>k1.cA (cs:=[KI,KI,KI,.sl]) (m.st,m.ah,m.en,s,()) rfl (Abv.cl (m:=m) (s:=s) (hR.Ai u1) hg λw5 u5=>?_)
 have:=h w5 (u1.trans u5)
 have br:=Al5 hg x
 unfold Ajy at br this
 rw[show wrap .i64 (wrap .i64 (86400*x)+(((ahS m.ah m.ls x,()),()):TR Ajt).1.1)=86400*x+ahS m.ah m.ls x from by
  show wrap .i64 (wrap .i64 (86400*x)+ahS m.ah m.ls x)=_
  rw[Ah (n:=86400*x) (by unfold I64;omega),Ah (by unfold I64;omega)]]
 exact this
theorem Ajk.cl{x s:Int}(hx: -719162≤x∧x≤2932896)(hs:0≤s∧s≤86400){w:World}{k:TR RU1→WP}(h: ∀d,Ai3 d→Anx d=x→ ∀w',Af w w'→k (tU (uOf d s),()) w'):
  Ae prog F.Ajk [iV x,iV s] w false RU1 k:=by
 refine Ajk.ok ?_
 unfold Ajk.wp
 refine Ad λp1 w2 e1 k1 u1=>Ahn.cl (by unfold I64;omega) (λc=>by omega) λ_ _ d hd hn w4 u4=>?_
 have l1:=k1.lt
 have h:=h d hd hn
 refine Ad λp5 w6 e5 k5 u6=>k5.Fg _ rfl rfl λw7 k7 u7=>?_
 have g7:Af w2 w7:=Af.fresh u4 u6 u7 e5
 have q1:=k1.Ai g7
 have fin: ∀{w9},Am (λx=>x=p1) w7 w9→Af w w9:=λu=>Am.trans (u1.trans g7) u λi hi h=>by omega
 unfold uOf at h
 refine Dx (λc=>?_) λc=>?_
 ·have c:s≥86400:=c
  have:s=86400:=by omega
  subst this
  rw[if_pos rfl] at h
  refine k7.bC (q1.Fg _ rfl rfl λw9 k9 u9=>k9.cA (cs:=KU6) (d.1,d.2.1,d.2.2,23,59,60,()) rfl (h w9 (fin u9)))
 ·have c: ¬s≥86400:=c
  rw[if_neg (by omega)] at h
  refine k7.bC ?_
  rw[Pg (by decide),Pg (by decide),Pg (by decide),Pg (by decide),Atl hs.1,Atl hs.1,Atf hs.1,Ah (n:=s/3600) (by unfold I64;omega),Ah (n:=s/60) (by unfold I64;omega),Atf (by omega),
   show s/60%60=s%3600/60 by omega]
  refine q1.Fg _ rfl rfl λw9 k9 u9=>k9.cA (cs:=KU6) (d.1,d.2.1,d.2.2,s/3600,s%3600/60,s%60,()) rfl (h w9 (fin u9))
theorem Azh{l:List Int}{n i:Nat}{ix v:Int}(hi:ix=i)(hn:i<n)(hv:l[i]? =some v){k:Int→Prop}(hk:k v):aiK l n ix k:=by
 subst hi
 unfold aiK
 rw[if_pos (by omega),Int.toNat_natCast,hv];exact hk
abbrev z6:U6:=(0,0,0,0,0,0)
theorem A0j{w:World}{b:Nat}{u:U6}(h:Az w b (cU u)){k:WP}{v:U6}(hk: ∀w',Az w' b (cU v)→Am (λx=>x=b) w w'→k w'):Au (cU v) ⟨b,0,none⟩ 0 w k:=h.Fg _ rfl rfl hk
theorem Adc.nil{tai:Int}{w:World}{k:TR RUE→WP}(h: ∀w',Af w w'→k (tU z6,(2,()),()) w'):Ae prog F.Adc [.pointer none,iV tai] w true RUE k:=by
 refine Adc.ok ?_
 unfold Adc.wp
 refine Ad λp1 w2 e1 k1 u1=>Vt rfl (k1.Fg _ rfl rfl λw3 k3 u3=>k3.cA (cs:=KU6) (tU z6) rfl (h w3 (Af.fresh (Af.refl _) u1 u3 e1)))
theorem Adc.cl{w:World}{b:Nat}{m:TbL}(hT:TbW w b m)(hg:Ai5 m){tai:Int}(ht:I64 tai){k:TR RUE→WP}
  (h0:(∀x,¬An8 m tai x)→ ∀w',Af w w'→k (tU z6,(11,()),()) w')
  (h1: ∀x,An8 m tai x→ ∀d,Ai3 d→Anx d=x→ ∀w',Af w w'→k (tU (uOf d (tai-Ajy m x)),(0,()),()) w'):
  Ae prog F.Adc [.pointer (some ⟨b,0,none⟩),iV tai] w true RUE k:=by
 refine Adc.ok ?_
 unfold Adc.wp
 refine Ad λp1 w2 e1 k1 u1=>Jl rfl (Oi.cl ht (by decide) λw6 u6=>?_)
 have l1:=k1.lt
 have k6:=k1.Ai u6
 have g6:=u1.trans u6
 have hT6:=hT.Ai g6
 have ef:dQ tai 86400=tai/86400:=rfl
 rw[ef]
 have ht':=ht
 unfold I64 at ht'
 have hr:=hg.1
 unfold Ap8 at hr
 generalize hd:tai/86400=d
 have ea:wrap .i64 (d-1)=d-1:=Ah (by unfold I64;omega)
 have eb:wrap .i64 (d+1)=d+1:=Ah (by unfold I64;omega)
 rw[show(((d,()),(jW tai 86400,()),(!decide ((86400:Int)<1),()),()):TR [(false,[CK.i .i64]),(false,[CK.i .i64]),(false,[CK.b])]).1.1=d from rfl,ea,eb]
 have fin: ∀{w' w''},Af w2 w'→Am (λx=>x=p1) w' w''→Af w w'':=λg u=>Am.trans (u1.trans g) u λi hi h=>by omega
 refine Ci.by (λz W=> ∃i:Nat,z.1=i∧i≤3∧(∀j:Nat,j<i→ ¬An8 m tai (d-1+j))∧Af w2 W) (λz=>(3-z.1).toNat) ⟨0,rfl,by omega,λj h=>by omega,u6⟩ ?_
 rintro⟨z,_⟩ W ⟨i,hz,hi,hno,hG⟩ _
 dsimp only at hz
 subst hz
 refine Dx (λc=>?_) λc=>?_
 ·have c:(i:Int)<3:=c
  have hv:[d-1,d,d+1][i]? =some (d-1+i):=by
   have:i=0∨i=1∨i=2:=by omega
   rcases this with rfl|rfl|rfl
   ·simp
   ·show some d=_;congr 1;omega
   ·show some (d+1)=_;congr 1;omega
  have hTW:=hT.Ai (u1.trans hG)
  have next: ¬An8 m tai (d-1+i)→ ∀{W'},Af W W'→((∃i':Nat,wrap .i64 ((i:Int)+1)=i'∧i'≤3∧(∀j:Nat,j<i'→ ¬An8 m tai (d-1+j))∧Af w2 W')∧(3-wrap .i64 ((i:Int)+1)).toNat<(3-(i:Int)).toNat):=by
   intro hn W' g
   have ei:wrap .i64 ((i:Int)+1)=((i+1:Nat):Int):=by rw[Ah (by unfold I64;omega)];omega
   refine⟨⟨i+1,ei,by omega,λj hj=>?_,hG.trans g⟩,by rw[ei];omega⟩
   rcases Nat.lt_or_ge j i with h|h
   ·exact hno j h
   ·have:j=i:=by omega
    subst this;exact hn
  refine Azh rfl (by omega) hv (Ae6.cl hTW hg (λhn n w12 u12=>?_) λhin w12 u12=>?_)
  ·exact Jl rfl (next (λx=>hn x.1) u12)
  ·have br:=Al5 hg (d-1+i)
   have bs:=Aod hg (d-1+i)
   have sr:=As3 hg (d-1+i)
   obtain⟨hi1,hi2⟩:=hin
   have es:wrap .i64 (tai-Ajy m (d-1+i))=tai-Ajy m (d-1+i):=Ah (by unfold I64;omega)
   refine Vt rfl ?_
   rw[show wrap .i64 (tai-(((Ajy m (d-1+i),()),(true,()),()):TR RIB).1.1)=tai-Ajy m (d-1+i) from es]
   refine Dx (λc2=>rE.cl (hTW.Ai u12) hg λw14 u14=>?_) λc2=>next (λx=>c2 (by have:=x.2.1;omega)) u12
   have eg:wrap .i64 (86400+Ai0 m.ls (d-1+i))=86400+Ai0 m.ls (d-1+i):=Ah (by unfold I64;omega)
   rw[show wrap .i64 (86400+(((Ai0 m.ls (d-1+i),()),()):TR Ajt).1.1)=86400+Ai0 m.ls (d-1+i) from eg]
   refine Dx (λc3=>?_) λc3=>next (λx=>c3 (by have:=x.2.2;omega)) (u12.trans u14)
   have hIs:An8 m tai (d-1+i):=⟨⟨hi1,hi2⟩,by omega,by omega⟩
   refine Ajk.cl (by omega) (by omega) λdd hd2 hn w16 u16=>(k1.Ai (((hG.trans u12).trans u14).trans u16)).Fg _ rfl rfl λw17 k17 u17=>?_
   refine k17.cA (cs:=KU6) (tU (uOf dd (tai-Ajy m (d-1+i)))) rfl ?_
   exact h1 _ hIs dd hd2 hn w17 (fin (((hG.trans u12).trans u14).trans u16) u17)
 ·have c: ¬(i:Int)<3:=c
  have:i=3:=by omega
  subst this
  refine(k1.Ai hG).Fg _ rfl rfl λw19 k19 u19=>k19.cA (cs:=KU6) (tU z6) rfl (h0 (λx hx=>?_) w19 (fin hG u19))
  have h00:=hno 0 (by omega)
  have h01:=hno 1 (by omega)
  have h02:=hno 2 (by omega)
  have br:=Al5 hg x
  have br2:=Al5 hg (x+1)
  have hx':=hx
  obtain⟨_,x1,x2⟩:=hx
  have:x=d-1+((0:Nat):Int)∨x=d-1+((1:Nat):Int)∨x=d-1+((2:Nat):Int):=by omega
  rcases this with e|e|e
  ·exact h00 (e▸hx')
  ·exact h01 (e▸hx')
  ·exact h02 (e▸hx')
end Go.Proofs.YticgocmhmffneaaGreatDoor
