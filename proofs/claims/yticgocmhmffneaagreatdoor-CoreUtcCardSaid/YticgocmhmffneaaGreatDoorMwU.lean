import Derived.Test.YticgocmhmffneaaGreatDoorMtU
import Derived.Test.YticgocmhmffneaaGreatDoorMcV
import Derived.Test.YticgocmhmffneaaGreatDoorMtK
namespace Go.Proofs.YticgocmhmffneaaGreatDoor
open Go Go.Eng Tryz
open Go.IntKind (wrap)
set_option linter.unusedSimpArgs false
set_option linter.unusedVariables false
set_option maxRecDepth 100000
set_option maxHeartbeats 8000000
abbrev RMm:List (Bool×List CK):=[(true,[KI,KI]),(false,[KI])]
def Aj0(has:Bool)(a:A6)(root boot t:Int):Int×Int×Int:=
 if has=false then(0,0,7) else if a.2.2.1≠root∨a.2.2.2.1≠boot then(0,0,9) else if t<0∨t>1125899906842624 then(0,0,8) else(a.2.2.2.2.2+(t-a.2.2.2.2.1)/1000,(t-a.2.2.2.2.1)%1000,0)
theorem Aqt{a:A6}(hg:okF (mG a)=true):0≤a.2.2.2.2.1∧a.2.2.2.2.1≤1125899906842624∧0≤a.2.2.2.2.2∧a.2.2.2.2.2≤1125899906842624:=by
 unfold okF at hg
 rw[List.all_eq_true] at hg
 have g4:=Rq.1 (hg (8,a.2.2.2.2.1,1125899906842624) (by simp[mG]))
 have g5:=Rq.1 (hg (8,a.2.2.2.2.2,1125899906842624) (by simp[mG]))
 exact⟨g4.1,g4.2,g5.1,g5.2⟩
theorem Qw.in{N:NB}{bf:Nat}{d:Nd}{root boot t:Int}{w:World}(hB:Az w (N 0) (ndC N bf d))(hg:d.bh=true→okF (mG d.ba)=true){k:TR RMm→WP}
  (hk: ∀w',Af w w'→k (((Aj0 d.bh d.ba root boot t).1,(Aj0 d.bh d.ba root boot t).2.1,()),((Aj0 d.bh d.ba root boot t).2.2,()),()) w'):
  Ae prog F.Qw [.pointer (some (Addr.add ⟨N 0,0,none⟩ 19)),.agg #[iV root,uV boot],iV t] w true RMm k:=by
 have out: ∀{x:Int×Int×Int},Aj0 d.bh d.ba root boot t=x→ ∀{w'},Af w w'→k ((x.1,x.2.1,()),(x.2.2,()),()) w':=λe w' g=>by subst e;exact hk w' g
 refine Qw.ok ?_
 unfold Qw.wp
 have lb:=hB.lt
 refine Ad λp1 w2 e1 k1 u1=>Ad λp3 w4 e3 k3 u3=>Jl rfl ?_
 have g4:=u1.trans u3
 have B4:=hB.Ai g4
 have q1:=k1.Ai u3
 have fin: ∀{x:Int×Int×Int},Aj0 d.bh d.ba root boot t=(0,0,x.2.2)→ ∀{w'},Af w4 w'→Au [iV 0,iV 0] ⟨p3,0,none⟩ 0 w' λw5=>A8 [KI,KI] ⟨p3,0,none⟩ 0 w5 λx6=>k ((x6.1,x6.2.1,()),(x.2.2,()),()) w5:=λ{x} e w' g=>
  (k3.Ai g).Fg _ rfl rfl λw5 k5 u5=>k5.ld2 (out (x:=(0,0,x.2.2)) e (Am.trans (g4.trans g) u5 λi hi h=>by have:=u1.size;omega))
 rw[Ac]
 refine B4.c1 19 (c:=.b) (x:=d.bh) rfl (Ee (λc=>?_) λch=>?_)
 ·exact fin (x:=(0,0,7)) (by unfold Aj0;rw[if_pos (show d.bh=false from c)]) (Af.refl _)
 have ch:d.bh=true:=ch
 have nh: ¬d.bh=false:=by rw[ch];simp
 obtain⟨r1,r2,r3,r4⟩:=Aqt (hg ch)
 refine Cc.by (λz w'=>Af w4 w'∧z.1=decide (d.ba.2.2.1≠root∨d.ba.2.2.2.1≠boot)) ?_ ?_
 ·rw[Be,Ac]
  refine Az.c3 B4.drew 19 1 2 (c:=KI) (x:=d.ba.2.2.1) rfl (q1.drew.c0 (c:=KI) (x:=root) rfl (bK (λc=>⟨Af.drew _,(decide_eq_true (.inl c)).symm⟩) λc1=>?_))
  have c1:d.ba.2.2.1=root:=c1
  rw[Ac]
  refine Az.c3 B4.drew 19 1 3 (c:=KU) (x:=d.ba.2.2.2.1) rfl (q1.drew.c1 1 (c:=KU) (x:=boot) rfl ⟨Af.drew _,bq ?_⟩)
  rw[bne_iff_ne]
  exact⟨λh=>.inr h,λh=>h.resolve_left λx=>x c1⟩
 ·rintro⟨z,_⟩ w13 ⟨g13,hz⟩ _
  dsimp only at hz
  subst hz
  refine Dx (λc=>fin (x:=(0,0,9)) (by unfold Aj0;rw[if_neg nh,if_pos c]) g13) λc2=>?_
  refine Dx (λc=>fin (x:=(0,0,8)) (by unfold Aj0;rw[if_neg nh,if_neg c2,if_pos (.inl c)]) g13) λc3=>?_
  refine Dx (λc=>fin (x:=(0,0,8)) (by unfold Aj0;rw[if_neg nh,if_neg c2,if_pos (.inr c)]) g13) λc4=>?_
  have c3: ¬t<0:=c3
  have c4: ¬t>1125899906842624:=c4
  have B13:=B4.Ai g13
  rw[Ac]
  refine Az.c3 B13 19 1 4 (c:=KI) (x:=d.ba.2.2.2.2.1) rfl ?_
  rw[Ah (n:=t-d.ba.2.2.2.2.1) (by unfold I64;omega)]
  refine Oi.cl (by unfold I64;omega) (by unfold I64;omega) λw30 u30=>?_
  rw[Ac]
  refine Az.c3 (B13.Ai u30) 19 1 5 (c:=KI) (x:=d.ba.2.2.2.2.2) rfl ?_
  have e:dQ (t-d.ba.2.2.2.2.1) 1000=(t-d.ba.2.2.2.2.1)/1000:=by unfold dQ;rw[if_neg (by decide)]
  have e':jW (t-d.ba.2.2.2.2.1) 1000=(t-d.ba.2.2.2.2.1)%1000:=by unfold jW;rw[if_neg (by decide)]
  dsimp only
  rw[e,e',Ah (n:=d.ba.2.2.2.2.2+(t-d.ba.2.2.2.2.1)/1000) (by unfold I64;omega)]
  have g30:=g13.trans u30
  refine(k3.Ai g30).Fg _ rfl rfl λw33 k33 u33=>k33.ld2 (out (x:=(d.ba.2.2.2.2.2+(t-d.ba.2.2.2.2.1)/1000,(t-d.ba.2.2.2.2.1)%1000,0)) ?_ (Am.trans (g4.trans g30) u33 λi hi h=>by have:=u1.size;omega))
  unfold Aj0
  rw[if_neg nh,if_neg c2,if_neg (by omega)]
def TbO(w:World)(tp:Option Addr)(t:Option TbL):Prop:=(tp=none∧t=none)∨ ∃b m,tp=some ⟨b,0,none⟩∧t=some m∧TbW w b m∧Ai5 m
theorem TbO.Ai{w w':World}{tp:Option Addr}{t:Option TbL}(h:TbO w tp t)(u:Af w w'):TbO w' tp t:=by
 rcases h with h|⟨b,m,h1,h2,h3,h4⟩
 ·exact .inl h
 ·exact .inr ⟨b,m,h1,h2,h3.Ai u,h4⟩
def OfR(t:Option TbL)(tai:Int)(u:U6)(e:Int):Prop:=match t with
 |none=>u=z6∧e=2
 |some m=>((∀x,¬An8 m tai x)∧u=z6∧e=11)∨ ∃x d,An8 m tai x∧Ai3 d∧Anx d=x∧u=uOf d (tai-Ajy m x)∧e=0
theorem OfR.uniq{t:Option TbL}(hg: ∀m,t=some m→Ai5 m){tai:Int}{u v:U6}{e f:Int}(h:OfR t tai u e)(k:OfR t tai v f):u=v∧e=f:=by
 cases t with
 |none=>exact⟨h.1.trans k.1.symm,h.2.trans k.2.symm⟩
 |some m=>
  rcases h with ⟨h0,h1,h2⟩|⟨x,d,h1,h2,h3,h4,h5⟩<;>rcases k with ⟨k0,k1,k2⟩|⟨y,d',k1,k2,k3,k4,k5⟩
  ·exact⟨h1.trans k1.symm,h2.trans k2.symm⟩
  ·exact absurd k1 (h0 y)
  ·exact absurd h1 (k0 x)
  ·have:x=y:=h1.uniq (hg m rfl) k1
   subst this
   have:d=d':=Avg h2 k2 (h3.trans k3.symm)
   subst this
   exact⟨h4.trans k4.symm,h5.trans k5.symm⟩
theorem OfR.err{t:Option TbL}{tai:Int}{u:U6}{e:Int}(h:OfR t tai u e)(he:e≠0):u=z6:=by
 cases t with
 |none=>exact h.1
 |some m=>
  rcases h with ⟨_,h,_⟩|⟨_,_,_,_,_,_,h⟩
  ·exact h
  ·exact absurd h he
theorem Adc.o{w:World}{tp:Option Addr}{t:Option TbL}(hT:TbO w tp t){tai:Int}(ht:I64 tai){k:TR RUE→WP}(h: ∀u e w',OfR t tai u e→Af w w'→k (tU u,(e,()),()) w'):
  Ae prog F.Adc [.pointer tp,iV tai] w true RUE k:=by
 rcases hT with ⟨rfl,rfl⟩|⟨b,m,rfl,rfl,hT,hg⟩
 ·exact Adc.nil λw' u=>h z6 2 w' ⟨rfl,rfl⟩ u
 ·exact Adc.cl hT hg ht (λhno w' u=>h z6 11 w' (.inl ⟨hno,rfl,rfl⟩) u) λx hx d hd hn w' u=>h _ 0 w' (.inr ⟨x,d,hx,hd,hn,rfl,rfl⟩) u
abbrev Arf:List (Bool×List CK):=[(true,KU6),(false,[KI]),(false,[KI])]
def Ann(t:Option TbL)(v:Int×Int×Int)(u:U6)(n e:Int):Prop:=if v.2.2≠0 then u=z6∧n=0∧e=v.2.2 else OfR t v.1 u e∧n=if e≠0 then 0 else v.2.1
theorem Ann.mk0{t:Option TbL}{v:Int×Int×Int}(h:v.2.2≠0):Ann t v z6 0 v.2.2:=by unfold Ann;rw[if_pos h];exact⟨rfl,rfl,rfl⟩
theorem Ann.mk1{t:Option TbL}{v:Int×Int×Int}(h:v.2.2=0){u:U6}{e:Int}(hu:OfR t v.1 u e):Ann t v u (if e≠0 then 0 else v.2.1) e:=by unfold Ann;rw[if_neg (λx=>x h)];exact⟨hu,rfl⟩
theorem oQ.in{N:NB}{bf:Nat}{d:Nd}{root boot t:Int}{tp:Option Addr}{tt:Option TbL}{w:World}(hB:Az w (N 0) (ndC N bf d))(hg:d.bh=true→okF (mG d.ba)=true)(hT:TbO w tp tt){k:TR Arf→WP}
  (hk: ∀u n e w',Ann tt (Aj0 d.bh d.ba root boot t) u n e→Af w w'→k (tU u,(n,()),(e,()),()) w'):
  Ae prog F.oQ [.pointer (some (Addr.add ⟨N 0,0,none⟩ 19)),.pointer tp,.agg #[iV root,uV boot],iV t] w true Arf k:=by
 refine oQ.ok ?_
 unfold oQ.wp
 refine Ad λp1 w2 e1 k1 u1=>Ad λp3 w4 e3 k3 u3=>?_
 have g4:=u1.trans u3
 have l3:=k3.lt
 have s1:=u1.size
 refine(k1.Ai u3).cA (cs:=[KI,KU]) (root,boot,()) rfl (Qw.in (hB.Ai g4) hg λw7 u7=>Ad λp8 w9 e8 k8 u9=>k8.Fg _ rfl rfl λw10 k10 u10=>?_)
 obtain⟨v,hv⟩: ∃v,v=Aj0 d.bh d.ba root boot t:=⟨_,rfl⟩
 have tr:v.2.2=0→I64 v.1:=by
  intro h
  rw[hv] at h⊢
  unfold Aj0 at h⊢
  split at h
  ·cases h
  split at h
  ·cases h
  split at h
  ·cases h
  rename_i h1 h2 h3
  rw[if_neg h1,if_neg h2,if_neg h3]
  obtain⟨r1,r2,r3,r4⟩:=Aqt (hg (by cases hb:d.bh;exact absurd hb h1;rfl))
  show I64 (d.ba.2.2.2.2.2+(t-d.ba.2.2.2.2.1)/1000)
  unfold I64;omega
 rw[←hv] at hk k10⊢
 have g10:Af w4 w10:=Af.fresh u7 u9 u10 e8
 have q3:=k3.Ai g10
 have fin: ∀{w' w''},Af w4 w'→Am (λx=>x=p3) w' w''→Af w w'':=λg u=>Am.trans (g4.trans g) u λi hi h=>by omega
 refine bK (λc=>?_) λc=>?_
 ·have c:v.2.2≠0:=c
  exact q3.Fg _ rfl rfl λw11 k11 u11=>Az.ldU (u:=z6) k11 (hk z6 0 v.2.2 w11 (Ann.mk0 c) (fin g10 u11))
 ·have c:v.2.2=0:=c
  have tr:=tr c
  refine k10.i0 rfl (Adc.o (hT.Ai (g4.trans g10)) tr λu e w15 hu u15=>Ad λp16 w17 e16 k16 u17=>k16.Fg _ rfl rfl λw18 k18 u18=>?_)
  have g18:Af w4 w18:=g10.trans (Af.fresh u15 u17 u18 e16)
  have l16:=k18.lt
  refine bK (λc2=>?_) λc2=>?_
  ·have c2:e≠0:=c2
   have hR:=Ann.mk1 (v:=v) c hu
   rw[if_pos c2] at hR
   have:=hk u 0 e
   have hz:=hu.err c2
   subst hz
   exact(k3.Ai g18).Fg _ rfl rfl λw19 k19 u19=>Az.ldU (u:=z6) k19 (this w19 hR (fin g18 u19))
  ·have c2:e=0:=c2
   have hR:=Ann.mk1 (v:=v) c hu
   rw[if_neg (λh=>h c2)] at hR
   have:=hk u v.2.1 e
   rw[Be]
   have K16:=k18.drew
   have K8:=(k10.Ai (Af.fresh u15 u17 u18 e16)).drew
   have K3:=(k3.Ai g18).drew
   have gd:=g18.trans (Af.drew w18)
   generalize w18.drew=w21 at K16 K8 K3 gd
   have n38: ¬(p8=p3):=by have:=u7.size;omega
   refine Az.ldU (u:=u) K16 (K8.i1 1 rfl (A0j (u:=z6) (v:=u) K3 λw24 k24 u24=>⟨⟨K8.hold u24 n38 1 (by simp),trivial⟩,Az.ldU (u:=u) k24 ?_⟩))
   subst c2
   exact this w24 hR (fin gd u24)
def Nd.Anw(d:Nd)(tt:Option TbL)(u:U6)(n e:Int):Prop:=if d.time.2≠0 then u=z6∧n=0∧e=d.time.2 else Ann tt (Aj0 d.bh d.ba d.time.1.2.2.1 d.time.1.2.2.2.1 d.time.1.1) u n e
theorem aN.n{w:World}{O:NP}{N:NB}{bf be:Nat}{d:Nd}{tt:Option TbL}(h:NW w O N bf be d)(hg:d.bh=true→okF (mG d.ba)=true)(hT:TbO w d.lp tt){k:TR Arf→WP}
  (hk: ∀u n e w',d.Anw tt u n e→Af w w'→k (tU u,(n,()),(e,()),()) w'):Ae prog F.aN [pB (N 0)] w true Arf k:=by
 refine aN.ok ?_
 unfold aN.wp
 refine Ad λp1 w2 e1 k1 u1=>D6.n (h.Ai u1) λw4 u4=>Ad λp5 w6 e5 k5 u6=>k5.Fg (encs K5 (Yc d.time.1)) rfl rfl λw7 k7 u7=>?_
 have g7:Af w2 w7:=Af.fresh u4 u6 u7 e5
 have l1:=k1.lt
 have q1:=k1.Ai g7
 have fin: ∀{w' w''},Af w2 w'→Am (λx=>x=p1) w' w''→Af w w'':=λg u=>Am.trans (u1.trans g) u λi hi h=>by omega
 refine bK (λc=>?_) λc=>?_
 ·have c:d.time.2≠0:=c
  exact q1.Fg _ rfl rfl λw8 k8 u8=>Az.ldU (u:=z6) k8 (hk z6 0 d.time.2 w8 (by unfold Nd.Anw;rw[if_pos c];exact⟨rfl,rfl,rfl⟩) (fin g7 u8))
 have c:d.time.2=0:=c
 rw[Be,Ac,Ac]
 have H:=(h.Ai (u1.trans g7)).drew
 have K7:=k7.drew
 have gd:=g7.trans (Af.drew w7)
 refine H.n0 11 (c:=.p) (x:=d.lp) rfl ?_
 refine K7.cN 2 (cs:=[KI,KU]) (d.time.1.2.2.1,d.time.1.2.2.2.1,()) rfl (K7.c0 (c:=KI) (x:=d.time.1.1) rfl ?_)
 refine oQ.in H.nb hg (hT.Ai (u1.trans gd)) λu n e w17 hR u17=>⟨trivial,?_⟩
 refine(k1.Ai (gd.trans u17)).Fg (cU u) rfl rfl λw18 k18 u18=>⟨trivial,Az.ldU (u:=u) k18 (hk u n e w18 ?_ (fin (gd.trans u17) u18))⟩
 unfold Nd.Anw
 rw[if_neg (λq=>q c)]
 exact hR
theorem aN.o{w:World}{B:NP}{b:Nat}{d:Nd}{tt:Option TbL}(h:No w B b d)(hg:d.bh=true→okF (mG d.ba)=true)(hT:TbO w d.lp tt){k:TR Arf→WP}
  (hk: ∀u n e w',d.Anw tt u n e→Af w w'→k (tU u,(n,()),(e,()),()) w'):Ae prog F.aN [pB b] w true Arf k:=by
 obtain⟨K,O,N,bf,be,e,hB,nw⟩:=h
 subst e
 exact aN.n nw hg hT hk
def Nt.Anw(t:Nt)(tt:Option TbL)(i:Int)(u:U6)(n e:Int):Prop:=match t.at i with|some d=>d.Anw tt u n e|none=>u=z6∧n=0∧e=7
theorem Aco.t{w:World}{Z:NP}{n:Nat}{t:Nt}{tp:Option Addr}{tt:Option TbL}(h:TW w Z n t)(hT:TbO w tp tt)(hg: ∀(i:Nat) (d:Nd),t.ds[i]? =some d→d.lp=tp∧(d.bh=true→okF (mG d.ba)=true)){i:Int}{K:TR Arf→WP}
  (hk: ∀u m e w',t.Anw tt i u m e→Af w w'→K (tU u,(m,()),(e,()),()) w'):Ae prog F.Aco [pB n,iV i] w true Arf K:=by
 obtain⟨g,q,hZ,X⟩:=h.q
 refine Aco.ok ?_
 unfold Aco.wp
 refine Ad λp1 w2 e1 k1 u1=>?_
 have X2:TQ w2 n q t:=X.Ai u1
 refine Ec.q X2 g (λe=>Vt rfl ?_) λd e=>Jl rfl (X2.Anu e (aN.o (tt:=tt) (X2.nd _ _ (Nt.Xv e).2) (hg _ d (Nt.Xv e).2).2 ((by rw[(hg _ d (Nt.Xv e).2).1];exact hT.Ai u1)) λu m f w12 hu u12=>?_))
 ·exact k1.Fg (cU z6) rfl rfl λw5 k5 u5=>Az.ldU (u:=z6) k5 (hk z6 0 7 w5 (by unfold Nt.Anw;rw[e];exact⟨rfl,rfl,rfl⟩) (Af.fresh (Af.refl _) u1 u5 e1))
 ·exact(k1.Ai u12).Fg (cU u) rfl rfl λw13 k13 u13=>Az.ldU (u:=u) k13 (hk u m f w13 (by unfold Nt.Anw;rw[e];exact hu) (Af.fresh (Af.refl _) (u1.trans u12) u13 e1))
abbrev Ay0(w:World)(base:Nat)(s:Sl)(ls:L2):Prop:=Gs w base T.Ags 2 s ls.length ((ls.map t2).flatMap (encs K2))
theorem Aiz.cl{w:World}{m:TbL}{s:Sl}(hR:Abg w s m.ls)(hn:m.ls.length≤100000)(hI: ∀l∈m.ls,I64 l.1∧I64 l.2){k:TR [(false,[.p])]→WP}(h: ∀tp t w',TbO w' tp t→Af w w'→k ((tp,()),()) w'):
  Ae prog F.Aiz [vT m s] w false [(false,[.p])] k:=by
 refine Aiz.ok ?_
 unfold Aiz.wp
 have hl:=hR.len
 refine Ad λp1 w2 e1 k1 u1=>k1.c1 3 (c:=.sl) (x:=s) rfl ?_
 have l1:=k1.lt
 refine Ci.by (λz W=> ∃i:Nat,z.2.1=i∧i≤m.ls.length∧Ay0 W w2.heap.size z.1 (m.ls.take i)∧Af w2 W) (λz=>((m.ls.length:Int)-z.2.1).toNat) ⟨0,rfl,by omega,Gs.nil _ _ _ _,Af.refl _⟩ ?_
 rintro⟨sl,z2,_⟩ W ⟨i,e2,hi,hO,hG⟩ _
 dsimp only at e2 hO
 subst e2
 refine Dx (λc=>?_) λc=>?_
 ·have c:(i:Int)<s.2.1:=c
  have hi':i<m.ls.length:=by omega
  have hx:m.ls[i]? =some m.ls[i]:=List.getElem?_eq_getElem hi'
  have tk:m.ls.take (i+1)=m.ls.take i++[m.ls[i]]:=by rw[List.take_add_one,hx];rfl
  generalize m.ls[i]=x at*
  have hRW:=hR.Ai (u1.trans hG)
  refine hRW.ix rfl hx λa ha=>hRW.A8 ha hx (Ad λp9 w10 e9 k9 u10=>k9.Fg _ rfl rfl λw11 k11 u11=>k11.ld2 (Ad λp13 w14 e13 k13 u14=>?_))
  have g14:Af W w14:=(Af.fresh (Af.refl _) u10 u11 e9).trans u14
  have hO14:=hO.Ai g14
  have hsz:=g14.size
  have hG2:=hG.size
  refine Vx (s:=sl) (x:=(some ⟨p13,0,none⟩,1,1)) (e:=T.Ags) (size:=2) (base:=w2.heap.size) (n:=(m.ls.take i).length) (xs:=((m.ls.take i).map t2).flatMap (encs K2)) (news:=encs K2 (t2 x)) (by kernel_rfl) (by kernel_rfl) (by decide) hO14
   ⟨rfl,λ_=>⟨_,rfl,k13.news⟩⟩ ?_ (by show(m.ls.take i).length+1≤_;rw[List.length_take];omega) (by omega) λs' w16 o16 u16 hb=>?_
  ·intro u hu
   simp only[t2,encs,enc,List.mem_cons,List.not_mem_nil,or_false] at hu
   rcases hu with rfl|rfl<;>rfl
  ·have ei:=Amv hi' (show m.ls.length≤1000000000 by omega)
   refine⟨⟨i+1,ei,by omega,?_,?_⟩,?_⟩
   ·show Ay0 w16 w2.heap.size s' (m.ls.take (i+1))
    rw[tk]
    unfold Ay0
    rw[List.length_append,List.map_append,List.flatMap_append]
    simpa using o16
   ·exact Am.trans (hG.trans g14) u16 λj hj ⟨a,ha,hb⟩=>by have:=(hO14.blk ha).1;omega
   ·show((m.ls.length:Int)-wrap .i64 ((i:Int)+1)).toNat<((m.ls.length:Int)-(i:Int)).toNat
    rw[ei];omega
 ·have c: ¬(i:Int)<s.2.1:=c
  have:i=m.ls.length:=by omega
  subst this
  rw[List.take_length] at hO
  have kW:=k1.Ai hG
  refine kW.i0 rfl (kW.i1 1 rfl (kW.i1 2 rfl (Ae8.cl (m:=m) (s:=sl) hO.row (by omega) hI (λhne w21 u21=>?_) λhe b w21 hb hT u21=>?_)))
  ·exact h none none w21 (.inl ⟨rfl,rfl⟩) ((u1.trans hG).trans u21)
  ·exact h _ (some m) w21 (.inr ⟨b,m,rfl,rfl,hT,Auc he⟩) ((u1.trans hG).trans u21)
theorem TbO.good{w:World}{tp:Option Addr}{t:Option TbL}(h:TbO w tp t): ∀m,t=some m→Ai5 m:=by
 intro m hm
 rcases h with ⟨_,h⟩|⟨b,m',_,h2,_,h4⟩
 ·rw[h] at hm;cases hm
 ·rw[h2] at hm;cases hm;exact h4
end Go.Proofs.YticgocmhmffneaaGreatDoor
namespace Go.Proofs.YticgocmhmffneaaGreatDoor
open Go Go.Eng
open Go.IntKind (wrap)
set_option linter.unusedSimpArgs false
set_option linter.unusedVariables false
set_option maxRecDepth 100000
set_option maxHeartbeats 8000000
abbrev TiP:=Int→Int→Int→Int→Prop
def Azg(H:TiP)(a:A6):Prop:=H a.2.2.1 a.2.2.2.1 a.2.2.2.2.1 a.2.2.2.2.2
structure AnD(H:TiP)(p:Option Addr)(d:Nd):Prop where
 l:d.lp=p
 h:d.bh=true→Azg H d.ba∧okF (mG d.ba)=true
def Nd.an(d:Nd):Option Addr×Bool×A6:=(d.lp,d.bh,d.ba)
theorem AnD.same{H:TiP}{p:Option Addr}{d d':Nd}(h:AnD H p d)(e:d'.an=d.an):AnD H p d':=by
 have e1:d'.lp=d.lp:=congrArg (λx=>x.1) e
 have e2:d'.bh=d.bh:=congrArg (λx=>x.2.1) e
 have e3:d'.ba=d.ba:=congrArg (λx=>x.2.2) e
 exact⟨by rw[e1];exact h.l,by rw[e2,e3];exact h.h⟩
theorem AnD.mono{H H':TiP}{p:Option Addr}{d:Nd}(h:AnD H p d)(hm: ∀r b s k,H r b s k→H' r b s k):AnD H' p d:=⟨h.l,λq=>⟨hm _ _ _ _ (h.h q).1,(h.h q).2⟩⟩
theorem Aqq(d:Nd)(j:Jb):(d.push j).1.an=d.an:=by unfold Nd.push;split<;>rfl
theorem Atj(d:Nd):d.pass.1.an=d.an:=by unfold Nd.pass;split;rfl;exact Aqq d _
theorem Aw2(d:Nd)(st:Int):(d.word st).1.an=d.an:=by unfold Nd.word;split<;>rfl
theorem Avm(d:Nd)(st:Int)(p:List Jb×List Fr):(d.Yi st p).1.an=d.an:=by
 unfold Nd.Yi
 dsimp only
 split
 ·exact Aw2 {d with jobs:=p.1} st
 ·rfl
theorem Aw0(d:Nd)(step j:Int):(d.send step j).1.an=d.an:=by
 unfold Nd.send
 split
 ·rfl
 split
 ·rfl
 ·exact Avm (d.Ri _) _ _
theorem Ayg(d:Nd)(t:Int):(d.go t).1.an=d.an:=by unfold Nd.go;split<;>rfl
theorem Ayx(d:Nd):d.off.1.an=d.an:=by unfold Nd.off;split<;>rfl
theorem Azb(d:Nd)(s:ByteArray):(d.tag s).1.an=d.an:=by
 unfold Nd.tag
 split
 ·rfl
 split
 ·rfl
 split<;>rfl
theorem Avc(d:Nd):d.Ua.1.an=d.an:=by unfold Nd.Ua;split<;>rfl
theorem Az4{k:Nat}(h:k=1∨k=2∨k=3∨k=4∨k=5)(v:List Nat)(a:A6):mJ k v≠ .anchor a:=by
 intro e
 unfold mJ at e
 rcases h with rfl|rfl|rfl|rfl|rfl<;>(simp at e)
theorem As7{f:Fr}{a:A6}(ho:f.ok=true)(hu: ∀a',f=.anchor a'→Xe a'.2.1∧Xe a'.2.2.2.1)(h:Xg f.by=.ok (.anchor a)):f=.anchor a:=by
 by_cases c: ∃s',f=.anchor s'
 ·obtain⟨s',rfl⟩:=c
  rw[Aui ho (hu s' rfl)] at h
  injection h
 ·exfalso
  have hk:f.kd=1∨f.kd=2∨f.kd=3∨f.kd=4∨f.kd=5:=by cases f<;>first|(exact absurd ⟨_,rfl⟩ c)|(simp only[Fr.kd];decide)
  unfold Xg at h
  split at h
  ·cases h
  split at h
  ·cases h
  split at h
  ·cases h
  split at h
  ·cases h
  split at h
  ·cases h
  ·injection h with h
   exact Az4 (show f.by.headD 0=1∨f.by.headD 0=2∨f.by.headD 0=3∨f.by.headD 0=4∨f.by.headD 0=5 from hk) _ _ h
def FrA(H:TiP)(f:Fr):Prop:=f.ok=true∧ ∀a,f=.anchor a→Azg H a∧Xe a.2.1∧Xe a.2.2.2.1
theorem AnD.hear{H:TiP}{p:Option Addr}{d:Nd}(h:AnD H p d){f:Fr}(hf:FrA H f)(j:Int):AnD H p (d.hear j f.by).1:=by
 unfold Nd.hear
 split
 ·exact h
 cases hd:Xg f.by with
 |error e=>exact h
 |ok g=>
  show AnD H p (d.heard g (d.Yf j).1).1
  unfold Nd.heard
  split
  ·exact h
  cases g with
  |sync s=>
   show AnD H p (d.aH s (d.Yf j).1)
   unfold Nd.aH
   dsimp only
   split<;>exact h.same rfl
  |find x=>unfold Nd.take;dsimp only;split<;>exact h.same rfl
  |want m=>unfold Nd.take;dsimp only;split;exact h.same (Aqq d _);exact h
  |pulse x=>unfold Nd.take;dsimp only;split;exact h.same (Aqq d _);exact h
  |reply r=>unfold Nd.take;dsimp only;split<;>exact h.same rfl
  |anchor a=>
   have ef:=As7 hf.1 (λa' e=>(hf.2 a' e).2) hd
   unfold Nd.take;dsimp only;split
   ·rename_i c
    unfold Zi at c
    simp only[Bool.and_eq_true] at c
    have q:AnD H p {d with bh:=true,ba:=a}:=⟨h.l,λ_=>⟨(hf.2 a ef).1,c.1⟩⟩
    exact q.same (Atj _)
   ·exact h
theorem AnD.Jw{H:TiP}{p:Option Addr}(j:Int): ∀(ws:List Fr) {d:Nd},AnD H p d→(∀f∈ws,FrA H f)→AnD H p (Jw d j ws)
 |[],d,h,_=>h
 |f::ws,d,h,hf=>AnD.Jw j ws (h.hear (hf f (by simp)) j) λg hg=>hf g (by simp[hg])
theorem Ay4{d:Nd}{st:Int}{j:Jb}{a:A6}(h:d.made st j=some (.anchor a)):d.bh=true∧a.2=d.ba.2:=by
 cases j with
 |find=>
  unfold Nd.made at h
  dsimp only at h
  split at h
  ·cases h
  split at h
  ·injection h with h;cases h
  split at h
  ·cases h
  ·injection h with h;cases h
 |tie=>
  unfold Nd.made at h
  dsimp only at h
  split at h
  ·rename_i c
   injection h with h
   injection h with h
   exact⟨c,by rw[←h]⟩
  ·cases h
 |reply a b c=>
  unfold Nd.made at h
  dsimp only at h
  split at h
  ·cases h
  ·injection h with h;cases h
theorem Ax6{d:Nd}{st:Int}{a:A6}: ∀(js:List Jb) (out:List Fr),Fr.anchor a∈(d.pop st js out).2→Fr.anchor a∈out∨(d.bh=true∧a.2=d.ba.2)
 |[],out,h=>.inl h
 |j::js,out,h=>by
  unfold Nd.pop at h
  split at h
  ·rcases Ax6 js _ h with h|h
   ·rcases Wx h with q|q
    ·exact .inl q
    ·exact .inr (Ay4 q.1)
   ·exact .inr h
  ·exact .inl h
theorem Azc(d:Nd)(st:Int)(a:A6):(d.word st).2≠some (.anchor a):=by
 intro h
 unfold Nd.word at h
 split at h
 ·injection h with h;cases h
 ·dsimp only at h
  split at h
  ·injection h with h;cases h
  ·cases h
theorem Ayy{d:Nd}{step j:Int}{a:A6}(h:Fr.anchor a∈(d.send step j).2.1):d.bh=true∧a.2=d.ba.2:=by
 unfold Nd.send at h
 split at h
 ·cases h
 split at h
 ·cases h
 have h:Fr.anchor a∈((d.Ri (d.Yf j).1).Yi (d.Yf j).1 ((d.Ri (d.Yf j).1).pop (d.Yf j).1 d.jobs (Y4 [] (d.Yg (d.Yf j).1)))).2:=h
 have hp:Fr.anchor a∈((d.Ri (d.Yf j).1).pop (d.Yf j).1 d.jobs (Y4 [] (d.Yg (d.Yf j).1))).2:=by
  unfold Nd.Yi at h
  dsimp only at h
  split at h
  ·rcases Wx h with q|q
   ·exact q
   ·exact absurd q.1 (Azc _ _ a)
  ·exact h
 rcases Ax6 _ _ hp with q|q
 ·rcases Wx q with q|q
  ·cases q
  ·exfalso
   have q:=q.1
   unfold Nd.Yg at q
   split at q
   ·injection q with q;cases q
   ·cases q
 ·exact q
def Ans(H:TiP)(p:Option Addr)(t:Nt):Prop:= ∀(i:Nat) (d:Nd),t.ds[i]? =some d→AnD H p d
theorem Ans.words{H:TiP}{p:Option Addr}{t:Nt}(g:Ql t)(h:Ans H p t)(c:Ch): ∀k,∀f∈(t.wds c).getD k [],FrA H f:=by
 intro k f hf
 rw[List.getD_eq_getElem?_getD] at hf
 cases hd:t.ds[k]? with
 |none=>
  have:(t.wds c)[k]? =none:=by rw[List.getElem?_eq_none_iff] at hd⊢;rwa [Nt.Akp]
  rw[this] at hf;cases hf
 |some d=>
  rw[Nt.Wn hd] at hf
  have hf:f∈((d.go (Nz c.ticks k)).1.send t.steps (Nz c.send k)).2.1:=hf
  refine⟨Apo f hf,λa ea=>?_⟩
  subst ea
  have q:AnD H p (d.go (Nz c.ticks k)).1:=(h k d hd).same (Ayg _ _)
  have kd:=((g.nd k d hd).1.go (Nz c.ticks k)).g.bk
  obtain⟨b,e⟩:=Ayy hf
  have r:=(q.h b).1
  unfold Azg at r⊢
  rw[e]
  exact⟨r,kd⟩
theorem Ans.step{H:TiP}{p:Option Addr}{t:Nt}(g:Ql t)(h:Ans H p t)(c:Ch)(t':Nt)(ht:t'.ds=t.d3 c):Ans H p t':=by
 intro i d' hd'
 rw[ht] at hd'
 have hi:i<t.ds.length:=by have:=(List.getElem?_eq_some_iff.1 hd').1;rwa [Nt.Abs] at this
 obtain⟨d,hd⟩:=g.at hi
 rw[Nt.gK hd] at hd'
 injection hd' with hd'
 subst hd'
 have h2:AnD H p ((d.go (Nz c.ticks i)).1.send t.steps (Nz c.send i)).1:=(h i d hd).same ((Aw0 _ _ _).trans (Ayg _ _))
 unfold X9
 split
 ·exact AnD.Jw _ _ h2 (h.words g c _)
 ·exact h2
theorem AnD.turn{H:TiP}{p:Option Addr}{d:Nd}(h:AnD H p d)(raw:Int):AnD H p (d.turn raw):=⟨h.l,λq=>by cases q⟩
theorem Ayz{t:Nt}{i:Int}{f:Nd→Nd×Int}{j:Nat}{d':Nd}(h:(t.act i f).1.ds[j]? =some d'):t.ds[j]? =some d'∨ ∃d,t.at i=some d∧t.ds[j]? =some d∧j=i.toNat∧d'=(f d).1∧(t.act i f).2=(f d).2:=by
 cases ha:t.at i with
 |none=>rw[Nt.Qe ha] at h;exact .inl h
 |some d=>
  rw[Nt.Q3 ha] at h⊢
  have hd:=(Nt.Xv ha).2
  have h:(t.ds.set i.toNat (f d).1)[j]? =some d':=h
  rw[List.getElem?_set] at h
  by_cases c:i.toNat=j
  ·subst c
   rw[if_pos rfl,if_pos (List.getElem?_eq_some_iff.1 hd).1] at h
   injection h with h
   exact .inr ⟨d,rfl,hd,rfl,h.symm,rfl⟩
  ·rw[if_neg c] at h
   exact .inl h
theorem Ans.Ats{H H':TiP}{p:Option Addr}{t:Nt}(h:Ans H p t)(hm: ∀r b s k,H r b s k→H' r b s k){i:Int}{f:Nd→Nd×Int}(hf: ∀d,t.at i=some d→AnD H p d→AnD H' p (f d).1):Ans H' p (t.act i f).1:=by
 intro j d' hd'
 rcases Ayz hd' with q|⟨d,h1,h2,_,rfl,_⟩
 ·exact(h j d' q).mono hm
 ·exact hf d h1 (h j d h2)
theorem Ans.act{H H':TiP}{p:Option Addr}{t:Nt}(g:Ql t)(h:Ans H p t)(x:TAc)(bs:List Nat)(c:Ch)(hm: ∀r b s k,H r b s k→H' r b s k)
  (hn:x.1=9→x.2.1=t.s.gate→(t.tim x.2.1).2=0→((doA x bs c t).2=0∨(doA x bs c t).2=6)→H' (t.tim x.2.1).1.2.2.1 (t.tim x.2.1).1.2.2.2.1 (t.tim x.2.1).1.1 x.2.2.1):Ans H' p (doA x bs c t).1:=by
 have M:Ans H' p t:=λj d hd=>(h j d hd).mono hm
 unfold doA doT at hn⊢
 split
 ·exact h.Ats hm λd _ q=>(q.same (Azb d _)).mono hm
 split
 ·exact h.Ats hm λd _ q=>(q.same (Avc d)).mono hm
 split
 ·intro j d hd;rw[As2] at hd;exact M j d hd
 split
 ·exact h.Ats hm λd _ q=>(q.turn _).mono hm
 split
 ·exact h.Ats hm λd _ q=>(q.same (Ayx d)).mono hm
 split
 ·by_cases hc:t.chk c=0
  ·have e:t.step c=({t with ds:=t.d3 c,steps:=wrap .i64 (t.steps+1),sent:=t.Ue c,ears:=t.We c},0):=by
    unfold Nt.step
    exact if_neg λq=>q hc
   exact Ans.step g M c _ (by rw[e])
  ·have e:t.step c=(t,t.chk c):=by
    unfold Nt.step
    exact if_pos hc
   rw[e];exact M
 split
 ·rename_i n7 n8 n0 n1 n2 n3 h9
  rw[if_neg n7,if_neg n8,if_neg n0,if_neg n1,if_neg n2,if_neg n3,if_pos h9] at hn
  refine h.Ats hm λd hd q=>?_
  have at2:=Nt.Xv hd
  have hs:d.s=ndS t.s x.2.1.toNat:=(g.nd _ d at2.2).2
  have ht:t.tim x.2.1=d.time:=by unfold Nt.tim;rw[hd]
  rw[ht,Nt.Q3 hd] at hn
  dsimp only at hn
  unfold Nd.fix at hn⊢
  split
  ·exact q.mono hm
  rename_i f1
  rw[if_neg f1] at hn
  split
  ·exact q.mono hm
  rename_i f2
  rw[if_neg f2] at hn
  split
  ·exact q.mono hm
  rename_i f3
  rw[if_neg f3] at hn
  split
  ·exact q.mono hm
  rename_i f4
  rw[if_neg f4] at hn
  have hg:x.2.1=t.s.gate:=by
   have f2:d.s.gate=true:=by simpa using f2
   rw[hs] at f2
   have f2:((x.2.1.toNat:Int)==t.s.gate)=true:=f2
   exact(Int.toNat_of_nonneg at2.1).symm.trans (eq_of_beq f2)
  have p6: ∀e:Nd,e.pass.2=0∨e.pass.2=6:=λe=>by
   unfold Nd.pass
   split
   ·exact .inl rfl
   ·unfold Nd.push
    split
    ·exact .inr rfl
    ·exact .inl rfl
  have hh:=hn h9 hg (Decidable.not_not.1 f3) (p6 _)
  have q2:AnD H' p {d with bh:=true,ba:=d.Tc d.time.1 x.2.2.1}:=⟨q.l,λ_=>⟨hh,by simpa using f4⟩⟩
  exact q2.same (Atj _)
 split
 ·exact h.Ats hm λd _ q=>by rw[(Ab6 _ d).1];exact q.mono hm
 ·exact M
theorem Ans.wB{H:TiP}(S:dI)(p:Option Addr):Ans H p (wB S p):=by
 intro i d hd
 rw[Alz hd]
 exact⟨rfl,λq=>by cases q⟩
end Go.Proofs.YticgocmhmffneaaGreatDoor
namespace Go.Proofs.YticgocmhmffneaaGreatDoor
open Go Go.Eng Tryz
open Go.IntKind (wrap)
set_option linter.unusedSimpArgs false
set_option linter.unusedVariables false
set_option maxRecDepth 100000
set_option maxHeartbeats 8000000
abbrev Ti:=Int×Int×Int×Int
abbrev KTi:List CK:=[KI,KU,KI,KI]
def tTi(x:Ti):Jf KTi:=(x.1,x.2.1,x.2.2.1,x.2.2.2,())
abbrev Atu(w:World)(base:Nat)(s:Sl)(l:List Ti):Prop:=Gs w base T.Al7 4 s l.length ((l.map tTi).flatMap (encs KTi))
theorem Axd(l:List Ti): ∀u∈(l.map tTi).flatMap (encs KTi),u.oneCell'=true:=by
 intro u hu
 obtain⟨x,_,hu⟩:=List.mem_flatMap.1 hu
 simp only[encs,enc,List.mem_cons,List.not_mem_nil,or_false] at hu
 rcases hu with rfl|rfl|rfl|rfl<;>rfl
theorem Atu.ap{w:World}{base p:Nat}{s:Sl}{l:List Ti}{x:Ti}(O:Atu w base s l)(k:Az w p (encs KTi (tTi x)))(hl:l.length≤1000000)(hb:base≤w.heap.size){K:Sl→WP}
  (hk: ∀s' w',Atu w' base s' (l++[x])→Am (λb=> ∃a,s.1=some a∧a.block=b) w w'→(∀a,s'.1=some a→(∃a0,s.1=some a0∧a.block=a0.block)∨w.heap.size≤a.block)→K s' w'):
  L9 ((Builtin.append_ #[T.Abj,T.Abj] T.Abj #[.slice s.1 s.2.1 s.2.2,.slice (some ⟨p,0,none⟩) 1 1]).run prog w) K:=by
 refine Vx (s:=s) (x:=(some ⟨p,0,none⟩,1,1)) (e:=T.Al7) (size:=4) (base:=base) (n:=l.length) (xs:=(l.map tTi).flatMap (encs KTi)) (news:=encs KTi (tTi x)) (by kernel_rfl) (by kernel_rfl) (by decide) O
  ⟨rfl,λ_=>⟨_,rfl,k.news⟩⟩ ?_ (by show l.length+1≤_;omega) hb λs' w' o u hs=>hk s' w' ?_ u hs
 ·intro u hu
  exact Axd [x] u (by simpa using hu)
 ·show Gs w' base T.Al7 4 s' (l++[x]).length (((l++[x]).map tTi).flatMap (encs KTi))
  rw[List.length_append,List.map_append,List.flatMap_append]
  simpa using o
theorem tfl(D:Int):(Int.tmod D 1000<0→Int.tdiv D 1000-1=D/1000∧Int.tmod D 1000+1000=D%1000)∧(¬Int.tmod D 1000<0→Int.tdiv D 1000=D/1000∧Int.tmod D 1000=D%1000):=by
 have e1:=Int.mul_tdiv_add_tmod D 1000
 have e2:Int.tmod D 1000<1000:=Int.tmod_lt_of_pos D (by decide)
 have e3: -1000<Int.tmod D 1000:=Int.lt_tmod_of_pos D (by decide)
 generalize Int.tdiv D 1000=q at*
 generalize Int.tmod D 1000=r at*
 constructor<;>intro h<;>omega
theorem Aiw.cl{w:World}{tp:Option Addr}{tt:Option TbL}(hT:TbO w tp tt){s:Sl}{l:List Ti}(hR:aP w s KTi (l.map tTi))(hl:l.length≤1000000)(a:A5)(u:U6)(n:Int){x:Ti}(hx:x∈l)(h1:x.1=a.2.2.1)(h2:x.2.1=a.2.2.2.1)
  (ht:0≤a.1∧a.1≤1125899906842624) (hx3:0≤x.2.2.1∧x.2.2.1≤1125899906842624) (hx4:0≤x.2.2.2∧x.2.2.2≤1125899906842624) (hu:OfR tt (x.2.2.2+(a.1-x.2.2.1)/1000) u 0) (hn:n=(a.1-x.2.2.1)%1000)
  {K:TR Wh→WP} (h: ∀w',Af w w'→K ((true,()),()) w'):
  Ae prog F.Aiw [.pointer tp,.slice s.1 s.2.1 s.2.2,.agg #[iV a.1,iV a.2.1,iV a.2.2.1,uV a.2.2.2.1,iV a.2.2.2.2],.agg #[iV u.1,iV u.2.1,iV u.2.2.1,iV u.2.2.2.1,iV u.2.2.2.2.1,iV u.2.2.2.2.2],iV n] w false Wh K:=by
 refine Aiw.ok (ties:=s) ?_
 unfold Aiw.wp
 refine Ad λp1 w2 e1 k1 u1=>Ad λp3 w4 e3 k3 u3=>?_
 change Az w2 p1 (encs K5 (Yc a)) at k1
 change Az w4 p3 (cU u) at k3
 have g4:=u1.trans u3
 have hn':=aP.len hR (by decide)
 rw[List.length_map] at hn'
 obtain⟨j0,hj0⟩:=List.getElem?_of_mem hx
 have hjl:=(List.getElem?_eq_some_iff.1 hj0).1
 refine Ci.by (λz W=>Af w4 W∧ ∃i:Nat,i≤j0∧z=((i:Int),())) (λz=>l.length-z.1.toNat) ⟨Af.refl _,0,by omega,rfl⟩ ?_
 rintro z W ⟨G,i,hi,rfl⟩ _
 refine Dx (λc=>?_) λc=>absurd (show(i:Int)<(s.2.1:Int) by omega) c
 have hil:i<l.length:=by omega
 have ni:wrap .i64 ((i:Int)+1)=((i+1:Nat):Int):=by rw[Ah (by unfold I64;omega)];rfl
 have hy:l[i]? =some l[i]:=List.getElem?_eq_getElem hil
 generalize l[i]=y at hy
 have hyx:i=j0→y=x:=λe=>by subst e;rw[hj0] at hy;injection hy with hy;exact hy.symm
 obtain⟨y0,y1,y2,y3⟩:=y
 have hm:(l.map tTi)[i]? =some (y0,y1,y2,y3,()):=by rw[List.getElem?_map,hy];rfl
 have hRW:aP W s KTi (l.map tTi):=hR.Ai (g4.trans G)
 have next:i≠j0→ ∀{W'},Af W W'→(Af w4 W'∧ ∃i':Nat,i'≤j0∧(wrap .i64 ((i:Int)+1),())=((i':Int),()))∧l.length-(wrap .i64 ((i:Int)+1),()).1.toNat<l.length-((i:Int),()).1.toNat:=λne W' g=>
  ⟨⟨G.trans g,i+1,by omega,by rw[ni]⟩,by show _-(wrap .i64 ((i:Int)+1)).toNat<_-((i:Int)).toNat;rw[ni,Int.toNat_natCast,Int.toNat_natCast];omega⟩
 refine aP.ix hRW (by decide) (z:=(i:Int)) rfl hm λb hb=>aP.A8 hRW hb hm ?_
 refine Ad λp10 w11 e10 k10 u10=>k10.Fg (encs KTi (y0,y1,y2,y3,())) rfl rfl λw12 k12 u12=>?_
 have g12:Af W w12:=Af.fresh (Af.refl _) u10 u12 e10
 have q1:=(k1.Ai u3).Ai (G.trans g12)
 have q3:=k3.Ai (G.trans g12)
 refine k12.cN 0 (cs:=[KI,KU]) (y0,y1,()) rfl (q1.cN 2 (cs:=[KI,KU]) (a.2.2.1,a.2.2.2.1,()) rfl ?_)
 refine Ee (λc1=>next (λe=>?_) g12) λc1=>?_
 ·have:=hyx e
  subst this
  have c1:((y0==a.2.2.1)&&((y1==a.2.2.2.1)&&true))=false:=c1
  have h1:y0=a.2.2.1:=h1
  have h2:y1=a.2.2.2.1:=h2
  rw[h1,h2] at c1
  simp at c1
 refine q1.c0 (c:=KI) (x:=a.1) rfl (k12.c1 2 (c:=KI) (x:=y2) rfl ?_)
 rw[Pg (by decide),Pg (by decide)]
 refine Cc.by (λz w'=>Af w12 w'∧(i=j0→z.1=(a.1-x.2.2.1)/1000∧z.2.1=(a.1-x.2.2.1)%1000)) ?_ ?_
 ·have ed:i=j0→wrap .i64 (a.1-y2)=a.1-x.2.2.1:=λe=>by
   have:=hyx e
   subst this
   dsimp only at hx3⊢
   rw[Ah (by unfold I64;omega)]
  refine Dx (λc2=>⟨Af.refl _,λe=>?_⟩) λc2=>⟨Af.refl _,λe=>?_⟩
  ·rw[ed e] at c2
   have c2:Int.tmod (a.1-x.2.2.1) 1000<0:=c2
   have q:=(tfl (a.1-x.2.2.1)).1 c2
   show wrap .i64 (wrap .i64 (Int.tdiv (wrap .i64 (a.1-y2)) 1000)-1)=_∧wrap .i64 (Int.tmod (wrap .i64 (a.1-y2)) 1000+1000)=_
   rw[ed e,Ah (n:=Int.tdiv (a.1-x.2.2.1) 1000) (by unfold I64;omega),Ah (by unfold I64;omega),Ah (by unfold I64;omega)]
   exact q
  ·rw[ed e] at c2
   have c2: ¬Int.tmod (a.1-x.2.2.1) 1000<0:=c2
   have q:=(tfl (a.1-x.2.2.1)).2 c2
   show wrap .i64 (Int.tdiv (wrap .i64 (a.1-y2)) 1000)=_∧Int.tmod (wrap .i64 (a.1-y2)) 1000=_
   rw[ed e,Ah (n:=Int.tdiv (a.1-x.2.2.1) 1000) (by unfold I64;omega)]
   exact q
 rintro⟨z1,z2,_⟩ w19 ⟨g19,hz⟩ _
 dsimp only at hz
 have G19:=g12.trans g19
 refine(k12.Ai g19).c1 3 (c:=KI) (x:=y3) rfl ?_
 refine Adc.o (hT.Ai (g4.trans (G.trans G19))) (Az9 _) λv e w22 hv u22=>Ad λp23 w24 e23 k23 u24=>k23.Fg (cU v) rfl rfl λw25 k25 u25=>?_
 have g25:Af w19 w25:=Af.fresh u22 u24 u25 e23
 have G25:=G19.trans g25
 have key:i=j0→v=u∧e=0:=λq=>by
  have:=hyx q
  subst this
  obtain⟨z1e,_⟩:=hz q
  dsimp only at hu hx3 hx4 z1e
  subst z1e
  rw[Ah (by unfold I64;omega)] at hv
  exact OfR.uniq hT.good hv hu
 refine Yl (λc3=>?_) λc3=>next (λq=>c3 (key q).2) G25
 refine Az.ldU (u:=v) k25 (Az.ldU (u:=u) ((q3.Ai g19).Ai g25) (bM (λc4=>?_) λc4=>next (λq=>?_) G25))
 ·exact Yl (λ_=>h _ (g4.trans (G.trans G25))) λc5=>next (λq=>c5 (by rw[hn];exact(hz q).2)) G25
 ·obtain⟨rfl,_⟩:=key q
  simp at c4
end Go.Proofs.YticgocmhmffneaaGreatDoor
namespace Go.Proofs.YticgocmhmffneaaGreatDoor
open Go Go.Eng Tryz
open Go.IntKind (wrap)
set_option linter.unusedSimpArgs false
set_option linter.unusedVariables false
set_option maxRecDepth 100000
set_option maxHeartbeats 8000000
theorem Nt.told{H:TiP}{p:Option Addr}{t:Nt}{tt:Option TbL}{i:Int}{u:U6}{m:Int}(h:Ans H p t)(hu:t.Anw tt i u m 0): ∃x:Ti,H x.1 x.2.1 x.2.2.1 x.2.2.2∧x.1=(t.tim i).1.2.2.1∧x.2.1=(t.tim i).1.2.2.2.1∧
  (0≤(t.tim i).1.1∧(t.tim i).1.1≤1125899906842624)∧(0≤x.2.2.1∧x.2.2.1≤1125899906842624)∧(0≤x.2.2.2∧x.2.2.2≤1125899906842624)∧OfR tt (x.2.2.2+((t.tim i).1.1-x.2.2.1)/1000) u 0∧m=((t.tim i).1.1-x.2.2.1)%1000:=by
 unfold Nt.Anw at hu
 unfold Nt.tim
 cases ha:t.at i with
 |none=>rw[ha] at hu;exact absurd hu.2.2 (by decide)
 |some d=>
  rw[ha] at hu
  dsimp only at hu⊢
  have hd:=h _ d (Nt.Xv ha).2
  unfold Nd.Anw at hu
  split at hu
  ·rename_i c;exact absurd hu.2.2.symm c
  unfold Ann at hu
  split at hu
  ·rename_i c;exact absurd hu.2.2.symm c
  rename_i c
  have c:(Aj0 d.bh d.ba d.time.1.2.2.1 d.time.1.2.2.2.1 d.time.1.1).2.2=0:=Decidable.not_not.1 c
  obtain⟨ho,hm⟩:=hu
  rw[if_neg (λq=>q rfl)] at hm
  unfold Aj0 at c ho hm
  split at c
  ·cases c
  split at c
  ·cases c
  split at c
  ·cases c
  rename_i c1 c2 c3
  rw[if_neg c1,if_neg c2,if_neg c3] at ho hm
  have hb:d.bh=true:=by simpa using c1
  obtain⟨q1,q2⟩:=hd.h hb
  obtain⟨r1,r2,r3,r4⟩:=Aqt q2
  refine⟨(d.ba.2.2.1,d.ba.2.2.2.1,d.ba.2.2.2.2.1,d.ba.2.2.2.2.2),q1,?_,?_,by omega,⟨r1,r2⟩,⟨r3,r4⟩,ho,hm⟩
  ·exact Decidable.not_not.1 λq=>c2 (.inl q)
  ·exact Decidable.not_not.1 λq=>c2 (.inr q)
theorem Aak.cl{S:dI}{m:TbL}{so sl s:Sl}{xs:List TAc}{w:World}(hT:Tb w)(hR:Row w so 1 (Na S.own))(hM:Abg w sl m.ls)(hI: ∀l∈m.ls,I64 l.1∧I64 l.2)(hs:aP w s qR xs)(ha: ∀x∈xs,AO w x):Ae prog F.Aak [.agg (Q4 S so).toArray,vT m sl,.slice s.1 s.2.1 s.2.2] w false Wh (Holds w):=by
 refine Aak.ok (s0:=S.nodes) (s1:=S.tmo) (s2:=S.ign) (s3:=S.need) (s4:=S.Aw) (s5:=S.rnd) (s6:=S.opn) (s7:=S.lim) (s8:=S.jit) (s9:=S.gate) (s10:=so) (m0:=m.st) (m1:=m.ah) (m2:=m.en) (m3:=sl) (script:=s) ?_
 unfold Aak.wp
 refine Ad λp1 w2 e1 k1 u1=>?_
 change Az w2 p1 (Q4 S so) at k1
 refine Ad λp3 w4 e3 k3 u3=>?_
 have g4:=u1.trans u3
 refine Oe.g (hT.Ai g4) λw6 u6=>Jl rfl ?_
 have g6:=g4.trans u6
 have k6:=(k1.Ai u3).Ai u6
 have r6:=k3.Ai u6
 refine k6.cA (cs:=KTs) (tsT S so) rfl (Oc.cl (S:=S) (hs.Ai g6) (by decide) (λw9 u9=>Vt rfl ⟨rfl,g6.trans u9⟩) λn6 c2 c3 hsm w9 u9=>Jl rfl ?_)
 have c2:so.2.1≤100:=c2
 have g9:=g6.trans u9
 have lo:=Me hR
 have ls:=aP.len hs (by decide)
 have lm:=hM.len
 refine(r6.Ai u9).c1 3 (c:=.sl) (x:=sl) rfl (Dx (λc=>⟨rfl,g9⟩) λc64=>?_)
 have c64: ¬(sl.2.1:Int)>64:=c64
 refine(k6.Ai u9).cA (cs:=KTs) (tsT S so) rfl (Ff.g (Row.Ai hR g9) λw13 u13=>Ee (λ_=>⟨rfl,g9.trans u13⟩) λc4=>?_)
 have hg:Wq S=true:=c4
 have g13:=g9.trans u13
 have k13:=(k6.Ai u9).Ai u13
 refine((r6.Ai u9).Ai u13).cA (cs:=[KI,KI,KI,.sl]) (m.st,m.ah,m.en,sl,()) rfl (Aiz.cl (m:=m) (s:=sl) (hM.Ai g13) (by omega) hI λtp tt w16 hTb u16=>?_)
 have g16:=g13.trans u16
 have K1:=k13.Ai u16
 refine K1.cA (cs:=KTs) (tsT S so) rfl (Nl.g (Row.Ai hR g16) (by omega) λsa w19 r19 u19=>?_)
 refine Io.g (lp:=tp) hg r19 (by omega) λn Z w21 h21 z21 u21=>Jl rfl ?_
 have s19:=u19.size
 have L0:dW w16 w21 Z n (wB S tp):=⟨h21,u19.trans u21,λz h=>by have:=z21 z h;omega⟩
 have T2:=hT.Ai g16
 refine Ci.by (λz W=> ∃i:Nat,i≤xs.length∧z.2.1=(i:Int)∧ ∃Z t l,dW w16 W Z n t∧t.s=S∧Atu W w16.heap.size z.1 l∧(∀a,z.1.1=some a→ ¬Z a.block)∧l.length≤i∧Ans (λr b s k=>(r,b,s,k)∈l) tp t) (λz=>xs.length-z.2.1.toNat) ⟨0,by omega,rfl,_,_,[],L0,rfl,Gs.nil _ _ _ _,(λa h=>(by cases h)),Nat.le_refl _,Ans.wB S tp⟩ ?_
 rintro⟨sx,z2,_⟩ W ⟨i,hi,e2,Z,t,l,L,eS,O,sep,ll,AN⟩ _
 dsimp only at e2 O sep
 subst e2
 have G:=g16.trans L.g
 refine Dx (λc5=>?_) λc5=>⟨rfl,G⟩
 have hil:i<xs.length:=by have c5:(i:Int)<(s.2.1:Int):=c5;omega
 have hx:xs[i]? =some xs[i]:=List.getElem?_eq_getElem hil
 have hA:AO w xs[i]:=ha _ (List.getElem_mem hil)
 have sm:=hsm _ (List.getElem_mem hil)
 generalize xs[i]=x at hx hA sm
 obtain⟨a0,a1,a2,a3,a4,a5,a6,a7,a8,a9,a10,⟨⟩⟩:=x
 obtain⟨bs,c,A⟩:=hA.Ai g16
 have hsW:aP W s qR xs:=hs.Ai G
 have ni:wrap .i64 ((i:Int)+1)=((i+1:Nat):Int):=by rw[Ah (by unfold I64;omega)];rfl
 refine aP.ix hsW (by decide) (z:=(i:Int)) rfl hx λa hsa=>aP.A8 hsW hsa hx ?_
 refine Ad λp25 w26 e25 k25 u25=>k25.Fg (encs qR (a0,a1,a2,a3,a4,a5,a6,a7,a8,a9,a10,())) rfl rfl λw27 k27 u27=>?_
 have f27:Af W w27:=Af.fresh (Af.refl _) u25 u27 e25
 have nZ: ¬Z p25:=λq=>by have:=L.h.lt p25 q;omega
 have K27:Az w27 p25 (encs qR (a0,a1,a2,a3,a4,a5,a6,a7,a8,a9,a10,())):=k27
 refine K27.c1 1 (c:=KI) (x:=a1) rfl ?_
 refine Dq.u (L.Ai f27).h λw32 u32=>Ad λp33 w34 e33 k33 u33=>k33.Fg (encs K5 (Yc (t.tim a1).1)) rfl rfl λw35 k35 u35=>?_
 have f35:Af w27 w35:=Af.fresh u32 u33 u35 e33
 have L35:=(L.Ai f27).Ai f35
 have s27:=f27.size
 have s32:=u32.size
 have nZ3: ¬Z p33:=λq=>by have:=L.h.lt p33 q;omega
 have K35:=K27.Ai f35
 refine K35.cA (cs:=qR) (a0,a1,a2,a3,a4,a5,a6,a7,a8,a9,a10,()) rfl ?_
 have g1:=L.h.1
 have Ow35:=(O.Ai f27).Ai f35
 refine Uw.t L35 T2 A sm λW2 Z2 L2 x2=>?_
 have Ow2:=Ow35.upd x2.u sep
 have sep2: ∀a,sx.1=some a→ ¬Z2 a.block:=λa ha h=>(x2.sub _ h).elim (sep a ha) λq=>by have:=(Ow35.blk ha).2.1;omega
 have eS2:=(Avd (a0,a1,a2,a3,a4,a5,a6,a7,a8,a9,a10,()) bs c t).trans eS
 have HN: ∀H':TiP,(∀r b s k,(r,b,s,k)∈l→H' r b s k)→(a0=9→a1=t.s.gate→(t.tim a1).2=0→((doA (a0,a1,a2,a3,a4,a5,a6,a7,a8,a9,a10,()) bs c t).2=0∨(doA (a0,a1,a2,a3,a4,a5,a6,a7,a8,a9,a10,()) bs c t).2=6)→H' (t.tim a1).1.2.2.1 (t.tim a1).1.2.2.2.1 (t.tim a1).1.1 a2)→Ans H' tp (doA (a0,a1,a2,a3,a4,a5,a6,a7,a8,a9,a10,()) bs c t).1:=λH' hm hn=>AN.act g1 (a0,a1,a2,a3,a4,a5,a6,a7,a8,a9,a10,()) bs c hm hn
 have C27:=K35.upd x2.u nZ
 have C33:=k35.upd x2.u nZ3
 have C1:=K1.Ai L2.g
 generalize doA (a0,a1,a2,a3,a4,a5,a6,a7,a8,a9,a10,()) bs c t=D at L2 eS2 HN⊢
 have old: ∀a,sx.1=some a→w16.heap.size≤a.block:=λa ha=>(Ow2.blk ha).1
 refine Cc.by (λz W'=> ∃l',dW w16 W' Z2 n D.1∧Atu W' w16.heap.size z.1 l'∧(∀a,z.1.1=some a→ ¬Z2 a.block)∧l'.length≤i+1∧Ans (λr b s k=>(r,b,s,k)∈l') tp D.1) ?_ ?_
 ·refine Cc.by (λz W'=>W'=W2∧z.1=decide (a0=9∧a1=S.gate∧(t.tim a1).2=0∧(D.2=0∨D.2=6))) ?_ ?_
  ·refine C27.c0 (c:=KI) (x:=a0) rfl (Yl (λe0=>?_) λe0=>⟨rfl,(decide_eq_false λq=>e0 q.1).symm⟩)
   refine C27.c1 1 (c:=KI) (x:=a1) rfl (C1.c1 9 (c:=KI) (x:=S.gate) rfl (Yl (λe1=>?_) λe1=>⟨rfl,(decide_eq_false λq=>e1 q.2.1).symm⟩))
   refine Yl (λe2=>?_) λe2=>⟨rfl,(decide_eq_false λq=>e2 q.2.2.1).symm⟩
   refine Yl (λe3=>⟨rfl,(decide_eq_true ⟨e0,e1,e2,.inl e3⟩).symm⟩) λe3=>⟨rfl,bq ?_⟩
   rw[beq_iff_eq]
   exact⟨λq=>⟨e0,e1,e2,.inr q⟩,λq=>q.2.2.2.resolve_left e3⟩
  ·rintro⟨z,_⟩ _ ⟨rfl,hz⟩ _
   dsimp only at hz
   subst hz
   refine Dx (λq=>?_) λq=>?_
   ·refine C33.cN 2 (cs:=[KI,KU]) ((t.tim a1).1.2.2.1,(t.tim a1).1.2.2.2.1,()) rfl (C33.c0 (c:=KI) (x:=(t.tim a1).1.1) rfl (C27.c1 2 (c:=KI) (x:=a2) rfl (Ad λp51 w52 e51 k51 u51=>?_)))
    change Az w52 p51 (encs KTi (tTi ((t.tim a1).1.2.2.1,(t.tim a1).1.2.2.2.1,(t.tim a1).1.1,a2))) at k51
    have s2:=L2.g.size
    have s52:=u51.size
    refine Atu.ap (Ow2.Ai u51) k51 (by omega) (by omega) λy53 w54 o54 u54 h54=>?_
    refine⟨_,⟨(L2.h.Ai u51).upd u54 λz hz ⟨a,ha,e⟩=>sep2 a ha (e▸hz),Am.trans (L2.g.trans u51) u54 λj hj ⟨a,ha,e⟩=>by have:=old a ha;omega,L2.z⟩,o54,λa ha h=>?_,by rw[List.length_append,List.length_singleton];omega,HN _ (λr b s k h=>List.mem_append.2 (.inl h)) λ_ _ _ _=>List.mem_append.2 (.inr (List.mem_singleton.2 rfl))⟩
    rcases h54 a ha with ⟨a0,h0,e0⟩|q
    ·exact sep2 a0 h0 (e0▸h)
    ·have:=L2.h.lt _ h;omega
   ·exact⟨l,L2,Ow2,sep2,by omega,HN _ (λ_ _ _ _ h=>h) λq0 q1 q2 q3=>absurd ⟨q0,by rw[q1,eS],q2,q3⟩ q⟩
 rintro⟨sy,_⟩ W3 ⟨l',L3,Ow3,sep3,ll3,AN3⟩ _
 dsimp only at Ow3 sep3
 have g2:=L3.h.1
 refine Ci.by (λz W'=>Af W3 W'∧ ∃j:Nat,j≤S.nodes.toNat∧z=((j:Int),())) (λz=>S.nodes.toNat-z.1.toNat) ⟨Af.refl _,0,by omega,rfl⟩ ?_
 rintro z W4 ⟨g4',q,hq,rfl⟩ _
 have L4:=L3.Ai g4'
 refine(K1.Ai L4.g).c0 (c:=KI) (x:=S.nodes) rfl (Dx (λc8=>?_) λc8=>?_)
 ·have hql:q<S.nodes.toNat:=by have c8:(q:Int)<S.nodes:=c8;omega
  have nq:wrap .i64 ((q:Int)+1)=((q+1:Nat):Int):=by rw[Ah (by unfold I64;omega)];rfl
  have next: ∀{W5:World},Af W4 W5→(Af W3 W5∧ ∃j:Nat,j≤S.nodes.toNat∧(wrap .i64 ((q:Int)+1),())=((j:Int),()))∧S.nodes.toNat-(wrap .i64 ((q:Int)+1),()).1.toNat<S.nodes.toNat-((q:Int),()).1.toNat:=λh=>⟨⟨g4'.trans h,q+1,by omega,by rw[nq]⟩,by show _-(wrap .i64 ((q:Int)+1)).toNat<_-((q:Int)).toNat;rw[nq,Int.toNat_natCast,Int.toNat_natCast];omega⟩
  refine Aco.t L4.h (hTb.Ai L4.g) (λi d hd=>⟨(AN3 i d hd).l,λb=>((AN3 i d hd).h b).2⟩) λu m' e w60 hu u60=>?_
  refine Ad λp61 w62 e61 k61 u62=>k61.Fg (cU u) rfl rfl λw63 k63 u63=>?_
  have f63:Af W4 w63:=Af.fresh u60 u62 u63 e61
  refine Dq.u (L4.Ai f63).h λw65 u65=>Ad λp66 w67 e66 k66 u67=>k66.Fg (encs K5 (Yc (D.1.tim (q:Int)).1)) rfl rfl λw68 k68 u68=>?_
  have f68':Af w63 w68:=Af.fresh u65 u67 u68 e66
  have f68:=f63.trans f68'
  refine Yl (λce=>?_) λ_=>next f68
  have ce:e=0:=ce
  subst ce
  obtain⟨x,hxm,x1,x2',xt,x3,x4,xo,xm⟩:=Nt.told AN3 hu
  refine k68.cA (cs:=K5) (Yc (D.1.tim (q:Int)).1) rfl (Az.ldU (u:=u) (k63.Ai f68') ?_)
  refine Aiw.cl (hTb.Ai (L4.g.trans f68)) (Ow3.Ai (g4'.trans f68)).row (by omega) (D.1.tim (q:Int)).1 u m' (x:=x) hxm x1 x2' xt x3 x4 xo xm λw72 u72=>Jl rfl (next (f68.trans u72))
 ·exact⟨⟨i+1,by omega,ni,Z2,D.1,l',L4,eS2,Ow3.Ai g4',sep3,by omega,AN3⟩,by show _-(wrap .i64 ((i:Int)+1)).toNat<_-((i:Int)).toNat;rw[ni,Int.toNat_natCast,Int.toNat_natCast];omega⟩
abbrev A0h:Shp:=.cons 1 (Shp.i .i64) (.cons 1 (Shp.i .i64) (.cons 1 (Shp.i .i64) (.cons 1 (.sl 2 (.cons 1 (Shp.i .i64) (.cons 1 (Shp.i .i64) (.nil)))) (.nil))))
theorem At1{w:World}{cs:List Value}(h:zL w A0h cs): ∃(m:TbL) (s:Sl),cs=cT m s∧Abg w s m.ls∧(∀l∈m.ls,I64 l.1∧I64 l.2):=by
 obtain⟨_,_,rfl,_,⟨a,rfl,wa⟩,_,_,rfl,_,⟨b,rfl,wb⟩,_,_,rfl,_,⟨c,rfl,wc⟩,_,_,rfl,_,⟨s,rfl,hs,_,rows,hl,hR,hrow⟩,rfl⟩:=h
 obtain⟨xs,hf,hlen,hI⟩:=qQ (cs:=K2) (Q:=λ_=>True) (R:=λx=>I64 x.1∧I64 x.2.1) rows λr hr=>by
  obtain⟨_,_,_,rfl,_,⟨x,rfl,wx⟩,_,_,rfl,_,⟨y,rfl,wy⟩,rfl⟩:=hrow r hr
  exact⟨(x,y,()),rfl,Ama wx,Ama wy⟩
 refine⟨⟨a,b,c,xs.map λx=>(x.1,x.2.1)⟩,s,rfl,?_,?_⟩
 ·show Row w s 2 _
  have e:(xs.map λx=>((x.1,x.2.1):P2)).map t2=xs:=by
   rw[List.map_map]
   conv=>rhs;rw[←List.map_id xs]
   rfl
  rw[e,←hf];exact hR
 ·intro l hl
  obtain⟨x,hx,rfl⟩:=List.mem_map.1 hl
  exact hI x hx
theorem Aak.fin{cs cm:List Value}{s:Sl}{w:World}(h:zL w shT cs)(hm:zL w A0h cm)(hs:zL w (.sl 11 Amh) [bP s])(hT:Tb w):Ae prog F.Aak [.agg cs.toArray,.agg cm.toArray,.slice s.1 s.2.1 s.2.2] w false Wh (Holds w):=by
 obtain⟨S,so,rfl,hR⟩:=kK h
 obtain⟨m,sl,rfl,hM,hI⟩:=At1 hm
 obtain⟨xs,h1,h2⟩:=kF hs
 exact Aak.cl hT hR hM hI h1 h2
end Go.Proofs.YticgocmhmffneaaGreatDoor
