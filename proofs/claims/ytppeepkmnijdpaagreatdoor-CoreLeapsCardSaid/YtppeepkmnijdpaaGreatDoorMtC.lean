import Derived.Test.YtppeepkmnijdpaaGreatDoorMtB
import Derived.Test.YtppeepkmnijdpaaGreatDoorMtA
namespace Go.Proofs.YtppeepkmnijdpaaGreatDoor
open Go Go.Eng Tryz
open Go.IntKind (wrap)
set_option linter.unusedSimpArgs false
set_option linter.unusedVariables false
set_option maxRecDepth 100000
set_option maxHeartbeats 8000000
structure ChW(w:World)(Z:NP)(c:Ch)(s0 s1 s2 s3:Sl):Prop where
 t:Row w s0 1 (dR c.ticks)
 s:Row w s1 1 (dR c.send)
 h:Row w s2 1 (dR c.hear)
 l:Row w s3 1 (Ry c.lost)
 lb: ∀x∈c.lost,x<18446744073709551616
 b: ∀s,(s=s0∨s=s1∨s=s2∨s=s3)→ ∀a,s.1=some a→a.block<w.heap.size∧ ¬Z a.block
theorem ChW.nx{w w':World}{Z Z':NP}{c:Ch}{s0 s1 s2 s3:Sl}(h:ChW w Z c s0 s1 s2 s3)(x:Nx Z w Z' w'):ChW w' Z' c s0 s1 s2 s3:=
 ⟨Row.upd h.t x.u λa ha=>(h.b _ (.inl rfl) a ha).2,Row.upd h.s x.u λa ha=>(h.b _ (.inr (.inl rfl)) a ha).2,Row.upd h.h x.u λa ha=>(h.b _ (.inr (.inr (.inl rfl))) a ha).2,Row.upd h.l x.u λa ha=>(h.b _ (.inr (.inr (.inr rfl))) a ha).2,h.lb,
  λs hs a ha=>⟨Nat.lt_of_lt_of_le (h.b s hs a ha).1 x.u.size,λq=>(x.sub _ q).elim (h.b s hs a ha).2 λq=>by have:=(h.b s hs a ha).1;omega⟩⟩
theorem ChW.Ai{w w':World}{Z:NP}{c:Ch}{s0 s1 s2 s3:Sl}(h:ChW w Z c s0 s1 s2 s3)(u:Ah w w'):ChW w' Z c s0 s1 s2 s3:=h.nx (Nx.of u)
theorem Xv{xs:List Int}{i:Nat}(h:i<xs.length):xs[i]? =some (Vj xs i):=by
 unfold Vj;rw[List.getD_eq_getElem?_getD,List.getElem?_eq_getElem h];rfl
theorem Nv.q{w:World}{n:Nat}{q:Q7}{t:Nt}(h:TQ w n q t)(g:dZ t){s:Sl}{xs:List Int}(hR:Row w s 1 (dR xs)){K:TR Vl→WP}(hk:K ((U7 t.s.jit t.ds.length xs,()),()) w):Ad prog F.Nv [pB n,.slice s.1 s.2.1 s.2.2] w false Vl K:=by
 refine Nv.ok (list:=s) ?_
 have hl:=h.sl
 have hx:=fO hR
 have hj:=g.jt
 have hr:=g.rng
 rw[Ac]
 refine h.f.c1 12 (c:=.sl) (x:=q.sn) rfl (dS (λc=>?_) λc=>?_)
 ·have c:(s.2.1:Int)≠(q.sn.2.1:Int):=c
  have e:U7 t.s.jit t.ds.length xs=false:=by
   unfold U7
   rw[decide_eq_false (by omega),Bool.false_and]
  rw[e] at hk;exact hk
 have c:(s.2.1:Int)=(q.sn.2.1:Int):=c
 have no: ∀{i:Nat},i<xs.length→ ¬(-t.s.jit≤Vj xs i∧Vj xs i≤t.s.jit)→U7 t.s.jit t.ds.length xs=false:=λ{i} hi hn=>by
  cases hb:U7 t.s.jit t.ds.length xs with
  |false=>rfl
  |true=>
   unfold U7 at hb
   rw[Bool.and_eq_true,List.all_eq_true] at hb
   have:=hb.2 _ (List.mem_of_getElem? (Xv hi))
   simp only[Bool.and_eq_true,decide_eq_true_eq] at this
   exact absurd this hn
 refine Aw.by (λz W=>W=w∧ ∃i:Nat,i≤xs.length∧z=((i:Int),())∧ ∀j,j<i→ -t.s.jit≤Vj xs j∧Vj xs j≤t.s.jit) (λz=>xs.length-z.1.toNat) ⟨rfl,0,by omega,rfl,λj hj=>by omega⟩ ?_
 rintro z W ⟨rfl,i,hi,rfl,ha⟩ _
 refine Cf (λc1=>?_) λc1=>?_
 ·have hil:i<xs.length:=by have c1:(i:Int)<(s.2.1:Int):=c1;omega
  refine Row.ix hR (z:=(i:Int)) rfl (Xv hil) ?_
  rw[Ac]
  refine h.f.c1 8 (c:=KI) (x:=t.s.jit) rfl ?_
  rw[Af (by unfold I64;omega)]
  refine Cf (λc2=>?_) λc2=>?_
  ·have c2:Vj xs i<0-t.s.jit:=c2
   have e:=no hil (by omega)
   rw[e] at hk;exact hk
  have c2: ¬Vj xs i<0-t.s.jit:=c2
  rw[Ac]
  refine h.f.c1 8 (c:=KI) (x:=t.s.jit) rfl (Cf (λc3=>?_) λc3=>?_)
  ·have c3:Vj xs i>t.s.jit:=c3
   have e:=no hil (by omega)
   rw[e] at hk;exact hk
  have c3: ¬Vj xs i>t.s.jit:=c3
  have nx:wrap .i64 ((i:Int)+1)=((i+1:Nat):Int):=by rw[Af (by unfold I64;omega)];rfl
  refine⟨⟨rfl,i+1,by omega,by rw[nx],λj hj=>?_⟩,by rw[nx,Int.toNat_natCast,Int.toNat_natCast];omega⟩
  by_cases e:j=i
  ·subst e;omega
  ·exact ha j (by omega)
 ·have hil:i=xs.length:=by have c1: ¬(i:Int)<(s.2.1:Int):=c1;omega
  have e:U7 t.s.jit t.ds.length xs=true:=by
   unfold U7
   rw[decide_eq_true (by omega),Bool.true_and,List.all_eq_true]
   intro x hx
   obtain⟨j,hj,e⟩:=List.mem_iff_getElem.1 hx
   have:=ha j (by omega)
   have e2:Vj xs j=x:=by unfold Vj;rw[List.getD_eq_getElem?_getD,List.getElem?_eq_getElem hj,e];rfl
   rw[e2] at this
   simp only[Bool.and_eq_true,decide_eq_true_eq]
   exact this
  rw[e] at hk;exact hk
theorem Px.q{w:World}{n:Nat}{q:Q7}{t:Nt}(h:TQ w n q t)(g:dZ t){Z:NP}{c:Ch}{s0 s1 s2 s3:Sl}(C:ChW w Z c s0 s1 s2 s3){K:TR Kt→WP}(hk: ∀w',Ah w w'→K ((t.chk c,()),()) w'):
  Ad prog F.Px [pB n,.agg #[Uz s0,Uz s1,Uz s2,Uz s3]] w false Kt K:=by
 refine Px.ok (c0:=s0) (c1:=s1) (c2:=s2) (c3:=s3) ?_
 refine Ae λp1 w2 e1 k1 u1=>Le rfl ?_
 change Ar w2 p1 [Uz s0,Uz s1,Uz s2,Uz s3] at k1
 rw[Aq]
 have g3:=u1.trans (Ah.drew w2)
 have k3:=k1.drew
 have X:TQ w2.drew n q t:=h.Ai g3
 have C:=C.Ai g3
 generalize w2.drew=w3 at*
 have hl:=X.sl
 have l0:=fO C.t
 have l3:s3.2.1=c.lost.length:=by have:=Row.Ab2 C.l;rw[List.length_map] at this;exact this
 have hr:=g.rng
 have one:(c.ticks.length≠t.ds.length∨c.lost.length>t.ds.length∨U7 t.s.jit t.ds.length c.send=false∨U7 t.s.jit t.ds.length c.hear=false)→ ∀w',Ah w w'→K ((1,()),()) w':=λhc w' gw=>by
  have:=hk w' gw
  unfold Nt.chk at this
  rw[if_pos hc] at this
  exact this
 refine k3.c0 (c:=.sl) (x:=s0) rfl ?_
 rw[Ac]
 refine X.f.c1 12 (c:=.sl) (x:=q.sn) rfl (dS (λc1=>one (.inl ?_) w3 g3) λc1=>?_)
 ·have c1:(s0.2.1:Int)≠(q.sn.2.1:Int):=c1
  omega
 have c1:(s0.2.1:Int)=(q.sn.2.1:Int):=c1
 refine k3.c1 3 (c:=.sl) (x:=s3) rfl ?_
 rw[Ac]
 refine X.f.c1 12 (c:=.sl) (x:=q.sn) rfl (Cf (λc2=>one (.inr (.inl ?_)) w3 g3) λc2=>?_)
 ·have c2:(s3.2.1:Int)>(q.sn.2.1:Int):=c2
  omega
 have c2: ¬(s3.2.1:Int)>(q.sn.2.1:Int):=c2
 have hold1:=λj hj=>k3.hold (Ah.refl w3) (λx=>x) j hj
 have Zo:=X.f.hold (Ah.refl w3) (λx=>x) 12 (by rw[bY];decide)
 refine k3.c1 1 (c:=.sl) (x:=s1) rfl (Nv.q X g C.s ⟨⟨hold1 1 (by simp),Zo,hold1 3 (by simp),Zo,hold1 0 (by simp),trivial⟩,?_⟩)
 refine En (λc3=>one (.inr (.inr (.inl c3))) w3 g3) λc3=>?_
 have c3:U7 t.s.jit t.ds.length c.send=true:=c3
 refine k3.c1 2 (c:=.sl) (x:=s2) rfl (Nv.q X g C.h ⟨⟨hold1 1 (by simp),Zo,hold1 3 (by simp),Zo,hold1 0 (by simp),trivial⟩,?_⟩)
 refine En (λc4=>one (.inr (.inr (.inr c4))) w3 g3) λc4=>?_
 have c4:U7 t.s.jit t.ds.length c.hear=true:=c4
 have tl:c.ticks.length=t.ds.length:=by omega
 have hk: ∀w',Ah w w'→K ((if((t.ds.zip c.ticks).all λx=>aQ x.1.s.drift x.2)=false then 1 else if((t.ds.zip c.ticks).any λx=>x.1.on&&decide (x.1.now+x.2>1125899906842624))=true then 8 else 0,()),()) w':=λw' gw=>by
  have:=hk w' gw
  unfold Nt.chk at this
  rw[if_neg (by rintro(q|q|q|q);exact q tl;omega;rw[c3] at q;cases q;rw[c4] at q;cases q)] at this
  exact this
 rw[Ac]
 refine X.f.c1 12 (c:=.sl) (x:=q.sn) rfl ?_
 refine Aw.by (λz W=>W=w3∧ ∃i:Nat,i≤t.ds.length∧z=((i:Int),())∧ ∀j d,j<i→t.ds[j]? =some d→aQ d.s.drift (Vj c.ticks j)=true) (λz=>t.ds.length-z.1.toNat) ⟨rfl,0,by omega,rfl,λj d hj=>by omega⟩ ?_
 rintro z W ⟨rfl,i,hi,rfl,ha⟩ _
 refine Cf (λc5=>?_) λc5=>?_
 ·have hil:i<t.ds.length:=by have c5:(i:Int)<(q.sn.2.1:Int):=c5;omega
  obtain⟨d,hd⟩:=g.at hil
  refine X.at (z:=(i:Int)) rfl hil (k3.c0 (c:=.sl) (x:=s0) rfl (Row.ix C.t (z:=(i:Int)) rfl (Xv (by omega)) (Hl.o (X.nd i d hd) (En (λc6=>?_) λc6=>?_))))
  ·have c6:aQ d.s.drift (Vj c.ticks i)=false:=c6
   have e:((t.ds.zip c.ticks).all λx=>aQ x.1.s.drift x.2)=false:=by
    rw[List.all_eq_false]
    exact⟨(d,Vj c.ticks i),qE.2 ⟨i,hd,Xv (by omega)⟩,by rw[c6];decide⟩
   have:=hk W g3
   rw[if_pos e] at this
   exact this
  ·have c6:aQ d.s.drift (Vj c.ticks i)=true:=c6
   have nx:wrap .i64 ((i:Int)+1)=((i+1:Nat):Int):=by rw[Af (by unfold I64;omega)];rfl
   refine⟨⟨rfl,i+1,by omega,by rw[nx],λj x hj hx=>?_⟩,by rw[nx,Int.toNat_natCast,Int.toNat_natCast];omega⟩
   by_cases e:j=i
   ·subst e
    rw[hd] at hx;injection hx with hx;subst hx;exact c6
   ·exact ha j x (by omega) hx
 have hil:i=t.ds.length:=by have c5: ¬(i:Int)<(q.sn.2.1:Int):=c5;omega
 have eall:((t.ds.zip c.ticks).all λx=>aQ x.1.s.drift x.2)=true:=by
  rw[List.all_eq_true]
  intro x hx
  obtain⟨j,h1,h2⟩:=qE.1 hx
  have hj:=(List.getElem?_eq_some_iff.1 h1).1
  have:=ha j _ (by omega) h1
  have e2:Vj c.ticks j=x.2:=by unfold Vj;rw[List.getD_eq_getElem?_getD,h2];rfl
  rw[e2] at this
  exact this
 rw[if_neg (by rw[eall];decide)] at hk
 rw[Ac]
 refine X.f.c1 12 (c:=.sl) (x:=q.sn) rfl ?_
 refine Aw.by (λz W'=>Ah W W'∧ ∃i:Nat,i≤t.ds.length∧z=((i:Int),())∧ ∀j d,j<i→t.ds[j]? =some d→(d.on&&decide (d.now+Vj c.ticks j>1125899906842624))=false) (λz=>t.ds.length-z.1.toNat) ⟨Ah.refl _,0,by omega,rfl,λj d hj=>by omega⟩ ?_
 rintro z W' ⟨gW,i2,hi2,rfl,hb⟩ _
 have G:=g3.trans gW
 refine Cf (λc5=>?_) λc5=>?_
 ·have hil:i2<t.ds.length:=by have c5:(i2:Int)<(q.sn.2.1:Int):=c5;omega
  obtain⟨d,hd⟩:=g.at hil
  have X':TQ W' n q t:=X.Ai gW
  have k':=k3.Ai gW
  have C':=C.Ai gW
  have nx:wrap .i64 ((i2:Int)+1)=((i2+1:Nat):Int):=by rw[Af (by unfold I64;omega)];rfl
  have dk:=(g.nd i2 d hd).1.g
  have dn:=dk.now
  have ft:aQ d.s.drift (Vj c.ticks i2)=true:=ha i2 d (by omega) hd
  have f2:=lT.1 ft
  have dr:0≤d.s.drift∧d.s.drift≤10:=by
   obtain⟨_,_,f,_⟩:=Lj.1 dk.s
   have:=(Vg.1 f).2
   omega
  have on: ∀{w':World},Ah W W'→Ah W w'→(d.on&&decide (d.now+Vj c.ticks i2>1125899906842624))=false→
    (Ah W w'∧ ∃i':Nat,i'≤t.ds.length∧(wrap .i64 ((i2:Int)+1),())=((i':Int),())∧ ∀j d,j<i'→t.ds[j]? =some d→(d.on&&decide (d.now+Vj c.ticks j>1125899906842624))=false)∧t.ds.length-(wrap .i64 ((i2:Int)+1)).toNat<t.ds.length-((i2:Int)).toNat:=λ{w'} _ gw e0=>by
   refine⟨⟨gw,i2+1,by omega,by rw[nx],λj x hj hx=>?_⟩,by rw[nx,Int.toNat_natCast,Int.toNat_natCast];omega⟩
   by_cases e:j=i2
   ·subst e
    rw[hd] at hx;injection hx with hx;subst hx;exact e0
   ·exact hb j x (by omega) hx
  refine X'.at (z:=(i2:Int)) rfl hil (Dt.o (X'.nd i2 d hd) λw36 u36=>Ae λp37 w38 e37 k37 u38=>k37.E5 (encs KSs (zL d)) rfl rfl λw39 k39 u39=>?_)
  have f39:Ah W' w39:=Ah.fresh u36 u38 u39 e37
  rw[Aq]
  have f40:=f39.trans (Ah.drew w39)
  have k40:=k39.drew
  generalize w39.drew=w40 at*
  refine k40.c0 (c:=.b) (x:=(zL d).1) rfl ?_
  rw[Arc]
  refine bQ (λc6=>?_) λc6=>?_
  ·have c6:d.on=true:=c6
   have es:zL d=Abk d:=by unfold zL;rw[if_pos c6]
   rw[es] at k40
   refine k40.c1 2 (c:=KI) (x:=d.now) rfl ((k'.Ai f40).c0 (c:=.sl) (x:=s0) rfl (Row.ix (C'.Ai f40).t (z:=(i2:Int)) rfl (Xv (by omega)) ?_))
   rw[Af (by unfold I64;omega)]
   refine Cf (λc7=>?_) λc7=>?_
   ·have c7:d.now+Vj c.ticks i2>1125899906842624:=c7
    have e:((t.ds.zip c.ticks).any λx=>x.1.on&&decide (x.1.now+x.2>1125899906842624))=true:=by
     rw[List.any_eq_true]
     exact⟨(d,Vj c.ticks i2),qE.2 ⟨i2,hd,Xv (by omega)⟩,by rw[c6,decide_eq_true c7];rfl⟩
    have:=hk w40 (G.trans f40)
    rw[if_pos e] at this
    exact this
   ·have c7: ¬d.now+Vj c.ticks i2>1125899906842624:=c7
    exact on gW (gW.trans f40) (by rw[decide_eq_false c7,Bool.and_false])
  ·have c6:d.on=false:=c6
   exact on gW (gW.trans f40) (by rw[c6,Bool.false_and])
 ·have hil2:i2=t.ds.length:=by have c5: ¬(i2:Int)<(q.sn.2.1:Int):=c5;omega
  have e:((t.ds.zip c.ticks).any λx=>x.1.on&&decide (x.1.now+x.2>1125899906842624))=false:=by
   rw[List.any_eq_false]
   intro x hx
   obtain⟨j,h1,h2⟩:=qE.1 hx
   have hj:=(List.getElem?_eq_some_iff.1 h1).1
   have:=hb j _ (by omega) h1
   have e2:Vj c.ticks j=x.2:=by unfold Vj;rw[List.getD_eq_getElem?_getD,h2];rfl
   rw[e2] at this
   rw[this];decide
  have:=hk W' G
  rw[if_neg (by rw[e];decide)] at this
  exact this
theorem Qa.q{w:World}{n:Nat}{q:Q7}{t:Nt}(h:TQ w n q t)(g:dZ t){K:TR [(false,[.i .u64])]→WP}(hk: ∀w',Ah w w'→K (((Lh (dQ t.ds) t.ds.length:Nat),()),()) w'):
  Ad prog F.Qa [pB n] w false [(false,[.i .u64])] K:=by
 refine Qa.ok ?_
 have hl:=h.sl
 have hr:=g.rng
 rw[Ac]
 refine h.f.c1 12 (c:=.sl) (x:=q.sn) rfl ?_
 refine Aw.by (λz W=>Ah w W∧ ∃i:Nat,i≤t.ds.length∧z=(((Lh (dQ t.ds) i:Nat):Int),(i:Int),())) (λz=>t.ds.length-z.2.1.toNat) ⟨Ah.refl _,0,by omega,rfl⟩ ?_
 rintro z W ⟨gW,i,hi,rfl⟩ _
 refine Cf (λc=>?_) λc=>?_
 ·have hil:i<t.ds.length:=by have c:(i:Int)<(q.sn.2.1:Int):=c;omega
  obtain⟨d,hd⟩:=g.at hil
  have X:TQ W n q t:=h.Ai gW
  have nx:wrap .i64 ((i:Int)+1)=((i+1:Nat):Int):=by rw[Af (by unfold I64;omega)];rfl
  have ea:dQ t.ds i=d.Vo:=by unfold dQ;rw[hd]
  refine X.at (z:=(i:Int)) rfl hil (Gu.o (X.nd i d hd) λw9 u9=>bQ (λc1=>?_) λc1=>?_)
  ·have c1:d.Vo=true:=c1
   rw[Nj (by show(0:Int)≤(i:Int);omega)]
   refine⟨⟨gW.trans u9,i+1,by omega,?_⟩,by show _-(wrap .i64 ((i:Int)+1)).toNat<_-((i:Int)).toNat;rw[nx,Int.toNat_natCast,Int.toNat_natCast];omega⟩
   show(Ez .or .u64 ((Lh (dQ t.ds) i:Nat):Int) (Ib .u64 1 (i:Int)),wrap .i64 ((i:Int)+1),())=_
   rw[nx,sh1 (by omega),Afv (nX _ _ (by omega)) (uB (by omega))]
   have:Lh (dQ t.ds) (i+1)=Lh (dQ t.ds) i|||2^i:=by show(if dQ t.ds i=true then setB i (Lh (dQ t.ds) i) else _)=_;rw[if_pos (by rw[ea];exact c1)];rfl
   rw[this]
  ·have c1:d.Vo=false:=c1
   refine⟨⟨gW.trans u9,i+1,by omega,?_⟩,by show _-(wrap .i64 ((i:Int)+1)).toNat<_-((i:Int)).toNat;rw[nx,Int.toNat_natCast,Int.toNat_natCast];omega⟩
   show(((Lh (dQ t.ds) i:Nat):Int),wrap .i64 ((i:Int)+1),())=_
   have:Lh (dQ t.ds) (i+1)=Lh (dQ t.ds) i:=by show(if dQ t.ds i=true then setB i (Lh (dQ t.ds) i) else _)=_;rw[if_neg (by rw[ea,c1];decide)]
   rw[nx,this]
 ·have hil:i=t.ds.length:=by have c: ¬(i:Int)<(q.sn.2.1:Int):=c;omega
  rw[←hil] at hk
  exact hk W gW
end Go.Proofs.YtppeepkmnijdpaaGreatDoor
namespace Go.Proofs.YtppeepkmnijdpaaGreatDoor
open Go Go.Eng Tryz
open Go.IntKind (wrap)
set_option linter.unusedSimpArgs false
set_option linter.unusedVariables false
set_option maxRecDepth 100000
set_option maxHeartbeats 8000000
structure Xj(i:Nat)(f:Nat→Nd→Nd)(l ds:List Nd):Prop where
 len:ds.length=l.length
 get: ∀j d,l[j]? =some d→ds[j]? =some (if j<i then f j d else d)
theorem Xj.zero(f:Nat→Nd→Nd)(l:List Nd):Xj 0 f l l:=⟨rfl,λj d h=>by rw[if_neg (by omega)];exact h⟩
theorem Xj.at{i:Nat}{f:Nat→Nd→Nd}{l ds:List Nd}{d:Nd}(h:Xj i f l ds)(hd:l[i]? =some d):ds[i]? =some d:=by
 have:=h.get i d hd
 rwa [if_neg (by omega)] at this
theorem Xj.next{i:Nat}{f:Nat→Nd→Nd}{l ds:List Nd}{d:Nd}(h:Xj i f l ds)(hd:l[i]? =some d):Xj (i+1) f l (ds.set i (f i d)):=by
 refine⟨by rw[List.length_set];exact h.len,λj x hx=>?_⟩
 have hj:=(List.getElem?_eq_some_iff.1 hx).1
 have hl:=h.len
 rw[List.getElem?_set]
 by_cases e:i=j
 ·subst e
  rw[hd] at hx;injection hx with hx;subst hx
  rw[if_pos rfl,if_pos (by omega),if_pos (by omega)]
 ·rw[if_neg e,h.get j x hx]
  by_cases c:j<i
  ·rw[if_pos c,if_pos (by omega)]
  ·rw[if_neg c,if_neg (by omega)]
theorem Xj.all{f:Nat→Nd→Nd}{i:Nat}{l ds:List Nd}(h:Xj i f l ds)(hi:i=l.length):ds=l.mapIdx f:=by
 apply List.ext_getElem?
 intro j
 rw[List.getElem?_mapIdx]
 by_cases c:j<l.length
 ·have hd:l[j]? =some l[j]:=List.getElem?_eq_getElem c
  rw[h.get j _ hd,hd,if_pos (by omega)];rfl
 ·have hl:=h.len
  rw[List.getElem?_eq_none (by omega),List.getElem?_eq_none (by omega)];rfl
abbrev Off(w:World)(Z:NP)(s:Sl):Prop:= ∀a,s.1=some a→a.block<w.heap.size∧ ¬Z a.block
structure pK(w:World)(Z:NP)(y:Sl)(us:List Sl)(fs:List Fr):Prop where
 r:Row w y 1 (us.map Uz)
 l:us.length=fs.length
 o:us≠[]→Off w Z y
 g: ∀(j:Nat) (f:Fr),fs[j]? =some f→ ∃u,us[j]? =some u∧Ag0 w u f.by∧(f.by≠[]→Off w Z u)
theorem Off.nx{w w':World}{Z Z':NP}{s:Sl}(h:Off w Z s)(x:Nx Z w Z' w'):Off w' Z' s:=λa ha=>
 ⟨Nat.lt_of_lt_of_le (h a ha).1 x.u.size,λq=>(x.sub _ q).elim (h a ha).2 λq=>by have:=(h a ha).1;omega⟩
theorem Aml{α β:Type}{f:α→β}{l:List α}(h:l.map f≠[]):l≠[]:=λe=>h (by rw[e];rfl)
theorem pK.nx{w w':World}{Z Z':NP}{y:Sl}{us:List Sl}{fs:List Fr}(h:pK w Z y us fs)(x:Nx Z w Z' w'):pK w' Z' y us fs:=
 ⟨Row.Agz h.r x.u λq a ha=>(h.o (Aml q) a ha).2,h.l,λq=>(h.o q).nx x,λj f hf=>by
  obtain⟨u,hu,hr,ho⟩:=h.g j f hf
  exact⟨u,hu,⟨Row.Agz hr.1 x.u λq a ha=>(ho (Aml q) a ha).2,hr.2⟩,λq=>(ho q).nx x⟩⟩
theorem Ake{w:World}{s:Sl}{xs:List Value}{n:Nat}(h:Row w s n xs)(hx:xs≠[]){a:Addr}(ha:s.1=some a):a.block<w.heap.size:=by
 obtain⟨x,l,rfl⟩:=List.exists_cons_of_ne_nil hx
 have:=cell_lt (h.ld ha (k:=0) (v:=x) rfl)
 rwa [add_block] at this
theorem pK.of{w:World}{L:Nat}{Q Z:NP}{y:Sl}{fs:List Fr}(h:vJ w L Q y (fs.map Fr.by))(hZ: ∀z,Z z→Q z∨z<L): ∃us,pK w Z y us fs:=by
 obtain⟨us,r,l,o,g⟩:=h
 have off: ∀{z},L≤z∧ ¬Q z→ ¬Z z:=λ⟨h1,h2⟩ q=>(hZ _ q).elim h2 λq=>by omega
 refine⟨us,r,by rw[l,List.length_map],λq a ha=>⟨Ake r (λe=>q (List.map_eq_nil_iff.1 e)) ha,off (o a ha)⟩,λj f hf=>?_⟩
 obtain⟨v,hv,hr,ho⟩:=g j f.by (by rw[List.getElem?_map,hf];rfl)
 exact⟨v,hv,hr,λq a ha=>⟨Ake hr.1 (λe=>q (List.map_eq_nil_iff.1 e)) ha,off (ho a ha)⟩⟩
theorem TX.reN{w w':World}{n L nb:Nat}{so sn se se':Sl}{b:Nat→Nat}{B:Nat→NP}{t t':Nt}(h:TX w n L nb so sn se b B t)(u:Ap (λz=>z=n) w w')(e1:t'.s=t.s)(e2:t'.near=t.near)(e3:t'.ds=t.ds)
  (k:Ar w' n (ntC t.s so sn se' L t'.steps t'.sent)) (es:U0 w' se' KE (t'.ears.map eT)) (ec:se'.2.1≤se'.2.2) (o:t'.ears≠[]→ ∀a,se'.1=some a→(a.block≠n∧a.block≠L∧a.block≠nb)∧ ∀i,i<t.ds.length→ ¬B i a.block):TX w' n L nb so sn se' b B t':=by
 refine⟨by rw[e1];exact k,?_,?_,?_,es,ec,λi d hd=>?_,?_,λi z hi hz=>?_,h.d1,h.d2,λq a ha=>(o q a ha).1⟩
 ·rw[e1,e2];exact h.lk.upd u (λe=>h.d1.1 e.symm)
 ·rw[e2];exact h.rk.upd u (λe=>h.d1.2.1 e.symm)
 ·rw[e3];exact Row.upd h.ns u λa ha e=>(h.d2 a ha).1 e
 ·rw[e3] at hd
  exact(h.nd i d hd).upd u λz hz e=>(h.st i z (List.getElem?_eq_some_iff.1 hd).1 hz).1 e
 ·rw[e3];exact h.dj
 ·rw[e3] at hi
  have q:=h.st i z hi hz
  exact⟨q.1,q.2.1,q.2.2.1,q.2.2.2.1,λne a ha e=>(o ne a ha).2 i hi (e▸hz)⟩
theorem TX.same{w w':World}{n L nb:Nat}{so sn se:Sl}{b:Nat→Nat}{B:Nat→NP}{t t':Nt}(h:TX w n L nb so sn se b B t)(u:Ap (λz=>z=n) w w')(e1:t'.s=t.s)(e2:t'.near=t.near)(e3:t'.ds=t.ds)(e4:t'.ears=t.ears)
  (k:Ar w' n (ntC t.s so sn se L t'.steps t'.sent)):TX w' n L nb so sn se b B t':=
 h.reN u e1 e2 e3 k (by rw[e4];exact Row.Agz h.es u λq a ha e=>(h.d3 (iD q) a ha).1 e) h.ec λq a ha=>by
  rw[e4] at q
  exact⟨h.d3 q a ha,λi hi hb=>(h.st i _ hi hb).2.2.2.2 q a ha rfl⟩
theorem TQ.stS{w:World}{n:Nat}{q:Q7}{t:Nt}(h:TQ w n q t){s:Nat}{k:WP}(hk: ∀w',TQ w' n q {t with sent:=s}→Ap (λz=>z=n) w w'→k w'):Au [.int .u64 (s:Int)] (Addr.add ⟨n,0,none⟩ 14) 0 w k:=
 h.f.sN 14 [.int .u64 (s:Int)] (by rw[bY];show 15≤16;omega) rfl λw' k' u'=>hk w' (h.same (t':={t with sent:=s}) u' rfl rfl rfl rfl k') u'
theorem TQ.stT{w:World}{n:Nat}{q:Q7}{t:Nt}(h:TQ w n q t){s:Int}{k:WP}(hk: ∀w',TQ w' n q {t with steps:=s}→Ap (λz=>z=n) w w'→k w'):Au [iV s] (Addr.add ⟨n,0,none⟩ 13) 0 w k:=
 h.f.sN 13 [iV s] (by rw[bY];show 14≤16;omega) rfl λw' k' u'=>hk w' (h.same (t':={t with steps:=s}) u' rfl rfl rfl rfl k') u'
def jQ(send Vo:Nat)(lost near:List Nat)(i:Nat):List (Int×Int):=(List.range i).map λj=>vH send Vo lost j (near.getD j 0&&&send)
theorem Aaq(send Vo:Nat)(lost near:List Nat)(i:Nat):jQ send Vo lost near (i+1)=jQ send Vo lost near i++[vH send Vo lost i (near.getD i 0&&&send)]:=by
 unfold jQ;rw[List.range_succ,List.map_append];rfl
def eVs(es:List (Int×Int)):List Value:=(es.map eT).flatMap (encs KE)
theorem Am5(es:List (Int×Int))(e:Int×Int):eVs (es++[e])=eVs es++[iV e.1,iV e.2]:=by
 unfold eVs;rw[List.map_append,List.flatMap_append];rfl
theorem Ug.g{L nb:Nat}{n:Int}{near lost:List Nat}{send Vo:Nat}{s:Sl}{w:World}(hT:Tb w)(kL:Ar w L (lkC n nb near.length))(kN:Ar w nb (Ry near))(hn:(near.length:Int)=n)(hl:near.length≤64)(hb: ∀x∈near,x<18446744073709551616)
  (hs:send<18446744073709551616) (ha:Vo<18446744073709551616) (hR:Row w s 1 (Ry lost)) (lb: ∀x∈lost,x<18446744073709551616) {K:TR pX→WP}
  (hk: ∀y w',Dp w' w.heap.size T.X3 2 y near.length (eVs (jQ send Vo lost near near.length))→Ah w w'→K ((y,()),()) w'):
  Ad prog F.Ug [pB L,.int .u64 (send:Int),.int .u64 (Vo:Int),.slice s.1 s.2.1 s.2.2] w false pX K:=by
 refine Ug.ok (lost:=s) ?_
 refine Ae λp1 w2 e1 k1 u1=>k1.E5 [.int .u64 (send:Int),.int .u64 (Vo:Int),.slice s.1 s.2.1 s.2.2] rfl rfl λw3 k3 u3=>?_
 have g3:Ah w w3:=Ah.fresh (Ah.refl _) u1 u3 e1
 have sz3:p1<w3.heap.size:=k3.lt
 refine Hr.cl (kL.Ai g3) ?_
 refine Aw.by (λz W=> ∃i:Nat,i≤near.length∧ ∃y:Sl,z=(y,(i:Int),())∧Ah w W∧Ah w3 W∧Dp W w3.heap.size T.X3 2 y i (eVs (jQ send Vo lost near i))) (λz=>near.length-z.2.1.toNat) ⟨0,by omega,(none,0,0),rfl,g3,Ah.refl _,Dp.nil _ _ _ _⟩ ?_
 rintro z W ⟨i,hi,y,rfl,gW,g3W,o⟩ _
 refine Cf (λc=>?_) λc=>?_
 ·have hil:i<near.length:=by have c:(i:Int)<n:=c;omega
  rw[Aq]
  have g9:=gW.trans (Ah.drew W)
  have k9:Ar W.drew p1 [.int .u64 (send:Int),.int .u64 (Vo:Int),.slice s.1 s.2.1 s.2.2]:=(k3.Ai g3W).drew
  have o:=o.Ai (Ah.drew W)
  have gd:=Ah.drew W
  generalize W.drew=w9 at*
  have nlt:near.getD i 0<18446744073709551616:=hb _ (List.mem_of_getElem? (getD_some hil))
  refine k9.cA (cs:=[.i .u64,.i .u64,.sl]) ((send:Int),(Vo:Int),s,()) rfl (Jt.cl (kL.Ai g9) (kN.Ai g9) hn hil ?_)
  have hold: ∀{S:NP} {w':World},Ap S w9 w'→ ¬S p1→Ak [hd 1 (Addr.add ⟨p1,0,none⟩ 0) w9,hd 1 (Addr.add ⟨p1,0,none⟩ 1) w9,hd 1 (Addr.add ⟨p1,0,none⟩ 2) w9] w':=λu hS=>⟨k9.hold u hS 0 (by simp),k9.hold u hS 1 (by simp),k9.hold u hS 2 (by simp),trivial⟩
  refine⟨hold (Ah.refl _) (λx=>x),?_⟩
  have e:Ez .and .u64 ((near.getD i 0:Nat):Int) (send:Int)=((near.getD i 0&&&send:Nat):Int):=Ale nlt hs
  show Ad _ _ [_,_,.int .u64 (Ez .and .u64 ((near.getD i 0:Nat):Int) (send:Int))] _ _ _ _
  rw[e]
  refine Pz.cl (hT.Ai g9) hs ha (Nat.lt_of_le_of_lt Nat.and_le_left nlt) (by omega) (Row.Ai hR g9) lb λw14 u14=>⟨hold u14 (λx=>x),?_⟩
  generalize he:vH send Vo lost i (near.getD i 0&&&send)=er
  refine Ae λp15 w16 e15 k15 u15=>⟨hold (u14.trans u15) (λx=>x),?_⟩
  have o16:=(o.Ai u14).Ai u15
  have s9:=gd.size
  have s3:=g3W.size
  have s14:=u14.size
  have s16:=u15.size
  refine S9 (s:=y) (x:=(some ⟨p15,0,none⟩,1,1)) (base:=w3.heap.size) (e:=T.X3) (size:=2) (n:=i) (xs:=eVs (jQ send Vo lost near i)) (news:=[iV er.1,iV er.2]) (by kernel_rfl) (by kernel_rfl) (by decide) o16 (k15.row rfl) (λu hu=>by simp only[List.mem_cons,List.not_mem_nil,or_false] at hu;rcases hu with rfl|rfl<;>rfl) (by show i+1≤1000000000;omega) (by omega) λy2 w18 o18 u18 b18=>?_
  have ny: ∀a,y.1=some a→w3.heap.size≤a.block:=λa ha=>(o16.blk ha).1
  have U18:Ap (λz=> ∃a,y.1=some a∧a.block=z) w9 w18:=Ap.trans (Ap.Ed (u14.trans u15)) u18 λ_ _ h=>h
  refine⟨hold U18 (by rintro⟨a,ha,h⟩;have:=ny a ha;omega),?_⟩
  have nx:wrap .i64 ((i:Int)+1)=((i+1:Nat):Int):=by rw[Af (by unfold I64;omega)];rfl
  have hw:w.heap.size=p1:=e1
  refine⟨⟨i+1,by omega,y2,by rw[nx],?_,?_,?_⟩,by show _-(wrap .i64 ((i:Int)+1)).toNat<_-((i:Int)).toNat;rw[nx,Int.toNat_natCast,Int.toNat_natCast];omega⟩
  ·exact Ap.trans g9 U18 λz hz ⟨a,ha,h⟩=>by have:=ny a ha;omega
  ·exact Ap.trans (g3W.trans gd) U18 λz hz ⟨a,ha,h⟩=>by have:=ny a ha;omega
  ·rw[Aaq,he,Am5];exact o18
 ·have hil:i=near.length:=by have c: ¬(i:Int)<n:=c;omega
  subst hil
  exact hk y W (o.gJ λa ha=>by have:=(o.blk ha).1;have:=g3.size;omega) gW
end Go.Proofs.YtppeepkmnijdpaaGreatDoor
namespace Go.Proofs.YtppeepkmnijdpaaGreatDoor
open Go Go.Eng Tryz
open Go.IntKind (wrap)
set_option linter.unusedSimpArgs false
set_option linter.unusedVariables false
set_option maxRecDepth 100000
set_option maxHeartbeats 8000000
theorem pK.mono{w:World}{Z Z':NP}{y:Sl}{us:List Sl}{fs:List Fr}(h:pK w Z y us fs)(hZ: ∀z,Z' z→Z z):pK w Z' y us fs:=
 ⟨h.r,h.l,λq a ha=>⟨(h.o q a ha).1,λx=>(h.o q a ha).2 (hZ _ x)⟩,λj f hf=>by
  obtain⟨u,hu,hr,ho⟩:=h.g j f hf
  exact⟨u,hu,hr,λq a ha=>⟨(ho q a ha).1,λx=>(ho q a ha).2 (hZ _ x)⟩⟩⟩
structure Agy(w:World)(Z:NP)(y:Sl)(vs:List Sl)(ws:List (List Fr)):Prop where
 r:Row w y 1 (vs.map Uz)
 l:vs.length=ws.length
 o:Off w Z y
 g: ∀(i:Nat) (fs:List Fr),ws[i]? =some fs→ ∃v us,vs[i]? =some v∧pK w Z v us fs
theorem Agy.nx{w w':World}{Z Z':NP}{y:Sl}{vs:List Sl}{ws:List (List Fr)}(h:Agy w Z y vs ws)(x:Nx Z w Z' w'):Agy w' Z' y vs ws:=
 ⟨Row.upd h.r x.u λa ha=>(h.o a ha).2,h.l,h.o.nx x,λi fs hf=>by
  obtain⟨v,us,hv,s⟩:=h.g i fs hf
  exact⟨v,us,hv,s.nx x⟩⟩
theorem TQ.turn{w w':World}{n:Nat}{q:Q7}{t:Nt}(h:TQ w n q t)(g:dZ t){i:Nat}{d d':Nd}(hi:t.ds[i]? =some d)(e:d'.s=d.s){B':NP}(k:No w' B' (q.b i) d')(x:Nx (q.B i) w B' w'):
  dZ {t with ds:=t.ds.set i d'}∧TQ w' n (q.up i B') {t with ds:=t.ds.set i d'}∧Nx (ZQ n q t) w (ZQ n (q.up i B') {t with ds:=t.ds.set i d'}) w'∧ ∀z,ZQ n (q.up i B') {t with ds:=t.ds.set i d'} z→B' z∨z<w.heap.size:=by
 refine⟨g.put hi k.k e,TX.turn h g.rng.1 hi k x,TX.Aqp hi x,λz hz=>?_⟩
 have hs:=h.lt g.rng.1
 rcases hz with q1|q1|q1|q1|q1|⟨j,hj,hz⟩
 ·exact .inr (hs z (.inl q1))
 ·exact .inr (hs z (.inr (.inl q1)))
 ·exact .inr (hs z (.inr (.inr (.inl q1))))
 ·exact .inr (hs z (.inr (.inr (.inr (.inl q1)))))
 ·exact .inr (hs z (.inr (.inr (.inr (.inr (.inl q1))))))
 ·have hj:j<t.ds.length:=by rw[←List.length_set (i:=i) (a:=d')];exact hj
  change (if j=i then B' else q.B j) z at hz
  by_cases c:j=i
  ·rw[if_pos c] at hz;exact .inl hz
  ·rw[if_neg c] at hz
   exact .inr (hs z (.inr (.inr (.inr (.inr (.inr ⟨j,hj,hz⟩))))))
def jS(t:Nt)(c:Ch)(i:Nat)(d:Nd):Nd:=(d.send t.steps (Vj c.send i)).1
def Nt.Ahr(t:Nt)(c:Ch):List (List Fr):=t.ds.mapIdx λi d=>(d.send t.steps (Vj c.send i)).2.1
def Td(t:Nt)(c:Ch)(i:Nat):Bool:=!((t.Ahr c).getD i []).isEmpty
def Nt.Auk(t:Nt)(c:Ch):Nt:={t with ds:=t.ds.mapIdx (jS t c),sent:=Lh (Td t c) t.ds.length}
theorem Ab1{t:Nt}{c:Ch}{i:Nat}{d:Nd}(h:t.ds[i]? =some d):(t.Ahr c)[i]? =some (d.send t.steps (Vj c.send i)).2.1:=by
 unfold Nt.Ahr;rw[List.getElem?_mapIdx,h];rfl
theorem Ao7{t:Nt}{c:Ch}{i:Nat}{d:Nd}(h:t.ds[i]? =some d):Td t c i=!((d.send t.steps (Vj c.send i)).2.1).isEmpty:=by
 unfold Td;rw[List.getD_eq_getElem?_getD,Ab1 h];rfl
theorem Asq(vs:List Sl)(i:Nat)(y:Sl):splice (vs.map Uz) i [Uz y]=(vs.set i y).map Uz:=by
 show(vs.map Uz).set i _=_
 rw[List.map_set]
theorem Aly{w w':World}{Z Z':NP}{b:Nat}(x:Nx Z w Z' w'):Nx (λz=>Z z∨z=b) w (λz=>Z' z∨z=b) w':=
 ⟨x.u.mono λz h=>.inl h,λz h=>h.elim (λh=>(x.sub z h).elim (λh=>.inl (.inl h)) .inr) λh=>.inl (.inr h)⟩
theorem Afe{w w':World}{Z:NP}{b:Nat}(u:Ap (λz=>z=b) w w')(h:Z b):Nx Z w Z w':=⟨u.mono λz e=>e▸h,λz h=>.inl h⟩
structure SnI(w W:World)(Z:NP)(n:Nat)(q:Q7)(t:Nt)(c:Ch)(s0 s1 s2 s3:Sl)(p1 yb:Nat)(i:Nat)(B:Nat→NP)(ds:List Nd)(vs:List Sl):Prop where
 X:TQ W n {q with B:=B} {t with ds:=ds,sent:=Lh (Td t c) i}
 g:dZ {t with ds:=ds,sent:=Lh (Td t c) i}
 u:Xj i (jS t c) t.ds ds
 x:Nx Z w (ZQ n {q with B:=B} {t with ds:=ds,sent:=Lh (Td t c) i}) W
 y:Ar W yb (vs.map Uz)
 l:vs.length=t.ds.length
 s: ∀(j:Nat) d,j<i→t.ds[j]? =some d→ ∃v us,vs[j]? =some v∧pK W (λz=>ZQ n {q with B:=B} {t with ds:=ds,sent:=Lh (Td t c) i} z∨z=yb) v us (d.send t.steps (Vj c.send j)).2.1
 p:Ar W p1 [Uz s0,Uz s1,Uz s2,Uz s3]
 ch:ChW W (λz=>ZQ n {q with B:=B} {t with ds:=ds,sent:=Lh (Td t c) i} z∨z=yb) c s0 s1 s2 s3
 ny: ¬ZQ n {q with B:=B} {t with ds:=ds,sent:=Lh (Td t c) i} yb
 np: ¬ZQ n {q with B:=B} {t with ds:=ds,sent:=Lh (Td t c) i} p1
 py:p1≠yb
theorem Qy.g{w:World}{Z:NP}{n:Nat}{t:Nt}(h:TW w Z n t){c:Ch}{s0 s1 s2 s3:Sl}(C:ChW w Z c s0 s1 s2 s3)(hl:c.send.length=t.ds.length){K:TR pX→WP}
  (hk: ∀y vs w' Z',TW w' Z' n (t.Auk c)→Agy w' Z' y vs (t.Ahr c)→Nx Z w Z' w'→K ((y,()),()) w'):Ad prog F.Qy [pB n,.agg #[Uz s0,Uz s1,Uz s2,Uz s3]] w false pX K:=by
 obtain⟨g,q,hZ,X⟩:=h.q
 have hr:=g.rng
 refine Qy.ok (c0:=s0) (c1:=s1) (c2:=s2) (c3:=s3) ?_
 refine Ae λp1 w2 e1 k1 u1=>?_
 change Ar w2 p1 [Uz s0,Uz s1,Uz s2,Uz s3] at k1
 have X2:TQ w2 n q t:=X.Ai u1
 have hsl:=X.sl
 rw[Ac]
 refine X2.f.c1 12 (c:=.sl) (x:=q.sn) rfl ?_
 refine bD (t:=T.fH) (e:=T.Zp) (size:=1) (bytes:=24) (z:=.slice none 0 0) (l:=t.ds.length) (c:=t.ds.length) (by kernel_rfl) (by kernel_rfl) rfl (by decide) (by omega) (by omega) (by omega) (by omega) λyb w6 e6 k6 o6 g6=>?_
 have k6:Ar w6 yb ((List.replicate t.ds.length ((none,0,0):Sl)).map Uz):=by
  rw[Nat.mul_one,show(Value.slice none 0 0).cells=#[Value.slice none 0 0] from rfl,qV] at k6
  rw[List.map_replicate]
  exact k6
 have g26:=u1.trans g6
 have X6:TQ w6 n q t:=X.Ai g26
 have sz1:=k1.lt
 have sz2:=u1.size
 have lZ:=X.lt hr.1
 have nY: ¬ZQ n q t yb:=λhz=>by have:=lZ yb hz;omega
 have nP: ¬ZQ n q t p1:=λhz=>by have:=lZ p1 hz;omega
 rw[Ac]
 show Au [.int .u64 ((0:Nat):Int)] _ 0 w6 _
 refine X6.stS (s:=0) λw8 X8 u8=>?_
 have x8:Nx (ZQ n q t) w6 (ZQ n q t) w8:=Afe u8 (.inl rfl)
 have hN:Nx Z w (ZQ n q t) w8:=nxB (Nx.pre g26 x8) hZ λ_=>Iff.rfl
 have C6:ChW w8 (λz=>ZQ n q t z∨z=yb) c s0 s1 s2 s3:=⟨(C.nx hN).t,(C.nx hN).s,(C.nx hN).h,(C.nx hN).l,C.lb,λs hs a ha=>⟨((C.nx hN).b s hs a ha).1,λh=>h.elim ((C.nx hN).b s hs a ha).2 λe=>by have:=(C.b s hs a ha).1;omega⟩⟩
 rw[Ac]
 refine X8.f.c1 12 (c:=.sl) (x:=q.sn) rfl ?_
 have i0:SnI w w8 Z n q t c s0 s1 s2 s3 p1 yb 0 q.B t.ds (List.replicate t.ds.length (none,0,0)):=
  ⟨X8,⟨g.s,g.len,g.nd,g.nl,g.nb,by show 0<_;decide,g.el⟩,Xj.zero _ _,hN,k6.upd u8 (λe=>nY (.inl e)),List.length_replicate,λj d hj=>by omega,(k1.Ai g6).upd u8 (λe=>nP (.inl e)),C6,nY,nP,by omega⟩
 refine Aw.by (λz W=> ∃i:Nat,i≤t.ds.length∧z=((i:Int),())∧ ∃B ds vs,SnI w W Z n q t c s0 s1 s2 s3 p1 yb i B ds vs) (λz=>t.ds.length-z.1.toNat) ⟨0,by omega,rfl,_,_,_,i0⟩ ?_
 rintro z W ⟨i,hi,rfl,B,ds,vs,I⟩ _
 refine Cf (λc5=>?_) λc5=>?_
 ·have hil:i<t.ds.length:=by have c5:(i:Int)<(q.sn.2.1:Int):=c5;omega
  obtain⟨d,hd⟩:=g.at hil
  have hd':ds[i]? =some d:=I.u.at hd
  have X:=I.X
  refine X.at (z:=(i:Int)) rfl (by show i<ds.length;rw[I.u.len];exact hil) ?_
  rw[Aq]
  have X:TQ W.drew n {q with B:=B} {t with ds:=ds,sent:=Lh (Td t c) i}:=I.X.Ai (Ah.drew W)
  have kp:=I.p.drew
  have ky:=I.y.drew
  have x0:=I.x.Ai (Ah.drew W)
  have C0:=I.ch.Ai (Ah.drew W)
  have S0:=λj d hj hd=>(I.s j d hj hd)
  have S0: ∀(j:Nat) d,j<i→t.ds[j]? =some d→ ∃v us,vs[j]? =some v∧pK W.drew (λz=>ZQ n {q with B:=B} {t with ds:=ds,sent:=Lh (Td t c) i} z∨z=yb) v us (d.send t.steps (Vj c.send j)).2.1:=λj d hj hd=>by
   obtain⟨v,us,hv,s⟩:=I.s j d hj hd
   exact⟨v,us,hv,s.nx (Nx.of (Ah.drew W))⟩
  generalize W.drew=w16 at*
  rw[Ac]
  refine X.f.c1 13 (c:=KI) (x:=t.steps) rfl (kp.c1 1 (c:=.sl) (x:=s1) rfl (Row.ix C0.s (z:=(i:Int)) rfl (Xv (by omega)) ?_))
  have zB: ∀{z},B i z→ZQ n {q with B:=B} {t with ds:=ds,sent:=Lh (Td t c) i} z:=λh=>.inr (.inr (.inr (.inr (.inr ⟨i,by show i<ds.length;rw[I.u.len];exact hil,h⟩))))
  refine Hm.o (X.nd i d hd') λy w23 B1 nd1 sn1 x1=>⟨⟨kp.hold x1.u (λh=>I.np (zB h)) 1 (by simp),trivial⟩,?_⟩
  obtain⟨g1,X1,xZ,sub⟩:=TQ.turn X I.g hd' (Akg (Aj7 d t.steps (Vj c.send i))) nd1 x1
  have k23:=kp.upd x1.u (λh=>I.np (zB h))
  have y23:=ky.upd x1.u (λh=>I.ny (zB h))
  have ybl:=ky.lt
  have p1l:=kp.lt
  have nY1: ¬ZQ n (({q with B:=B}:Q7).up i B1) {t with ds:=ds.set i (jS t c i d),sent:=Lh (Td t c) i} yb:=λhz=>(xZ.sub _ hz).elim I.ny λq=>by omega
  have nP1: ¬ZQ n (({q with B:=B}:Q7).up i B1) {t with ds:=ds.set i (jS t c i d),sent:=Lh (Td t c) i} p1:=λhz=>(xZ.sub _ hz).elim I.np λq=>by omega
  obtain⟨us,S1⟩:=pK.of (Z:=λz=>ZQ n (({q with B:=B}:Q7).up i B1) {t with ds:=ds.set i (jS t c i d),sent:=Lh (Td t c) i} z∨z=yb) sn1 λz hz=>hz.elim (sub z) λe=>.inr (by omega)
  have sl1:=sn1.len
  rw[List.length_map] at sl1
  have hv:=I.l
  rw[Ip (by dsimp only;omega)]
  rw[Int.toNat_natCast,Nat.mul_one]
  refine y23.sN i [Uz y] (by rw[List.length_map];show i+1≤_;omega) rfl λw25 y25 u25=>⟨trivial,?_⟩
  rw[Asq] at y25
  rw[Ip (by dsimp only;omega)]
  have yat:(vs.set i y)[i]? =some y:=by rw[List.getElem?_set,if_pos rfl,if_pos (by omega)]
  refine y25.c1 i (c:=.sl) (x:=y) (by rw[List.getElem?_map,yat];rfl) ?_
  have nx:wrap .i64 ((i:Int)+1)=((i+1:Nat):Int):=by rw[Af (by unfold I64;omega)];rfl
  have X25:TQ w25 n (({q with B:=B}:Q7).up i B1) {t with ds:=ds.set i (jS t c i d),sent:=Lh (Td t c) i}:=TX.upd X1 u25 λz hz e=>nY1 (e▸hz)
  have xY:Nx (λz=>ZQ n (({q with B:=B}:Q7).up i B1) {t with ds:=ds.set i (jS t c i d),sent:=Lh (Td t c) i} z∨z=yb) w23 (λz=>ZQ n (({q with B:=B}:Q7).up i B1) {t with ds:=ds.set i (jS t c i d),sent:=Lh (Td t c) i} z∨z=yb) w25:=Afe u25 (.inr rfl)
  have sY:w.heap.size≤yb:=by omega
  have fin: ∀{W':World},TQ W' n (({q with B:=B}:Q7).up i B1) {t with ds:=ds.set i (jS t c i d),sent:=Lh (Td t c) (i+1)}→Ap (λz=>z=n) w25 W'→
    (∃i':Nat,i'≤t.ds.length∧(wrap .i64 ((i:Int)+1),())=((i':Int),())∧ ∃B ds vs,SnI w W' Z n q t c s0 s1 s2 s3 p1 yb i' B ds vs)∧t.ds.length-(wrap .i64 ((i:Int)+1)).toNat<t.ds.length-((i:Int)).toNat:=λ{W'} X2 u=>by
   have xN:Nx (ZQ n (({q with B:=B}:Q7).up i B1) {t with ds:=ds.set i (jS t c i d),sent:=Lh (Td t c) i}) w25 (ZQ n (({q with B:=B}:Q7).up i B1) {t with ds:=ds.set i (jS t c i d),sent:=Lh (Td t c) (i+1)}) W':=Afe u (.inl rfl)
   have xx:=Aly (b:=yb) xN
   have x23:=x0.trans xZ
   have x25:Nx Z w (ZQ n (({q with B:=B}:Q7).up i B1) {t with ds:=ds.set i (jS t c i d),sent:=Lh (Td t c) i}) w25:=⟨Ap.trans x23.u u25 λz hz e=>by omega,x23.sub⟩
   refine⟨⟨i+1,by omega,by rw[nx],λj=>if j=i then B1 else B j,ds.set i (jS t c i d),vs.set i y,X2,⟨g1.s,g1.len,g1.nd,g1.nl,g1.nb,nX _ _ (by omega),g1.el⟩,I.u.next hd,x25.trans xN,y25.upd u (λe=>nY1 (.inl e)),by rw[List.length_set];exact hv,λj x hj hx=>?_,(k23.upd u25 I.py).upd u (λe=>nP1 (.inl e)),((C0.nx (Aly xZ)).nx xY).nx xx,nY1,nP1,I.py⟩,by rw[nx,Int.toNat_natCast,Int.toNat_natCast];omega⟩
   by_cases e:j=i
   ·subst e
    rw[hd] at hx;injection hx with hx;subst hx
    exact⟨y,us,yat,(S1.nx xY).nx xx⟩
   ·obtain⟨v,us',hv',sw⟩:=S0 j x (by omega) hx
    exact⟨v,us',by rw[List.getElem?_set,if_neg λh=>e h.symm];exact hv',((sw.nx (Aly xZ)).nx xY).nx xx⟩
  have em:Lh (Td t c) (i+1)=if Td t c i=true then setB i (Lh (Td t c) i) else Lh (Td t c) i:=rfl
  have ep:=Ao7 (c:=c) hd
  refine Cf (λc6=>?_) λc6=>?_
  ·have c6:(y.2.1:Int)>0:=c6
   have e1:Td t c i=true:=by
    rw[ep]
    cases hq:(d.send t.steps (Vj c.send i)).2.1 with
    |nil=>rw[hq] at sl1;simp at sl1;omega
    |cons=>rfl
   rw[e1,if_pos rfl] at em
   rw[Aq]
   have X28:=TX.Ai X25 (Ah.drew w25)
   have u28:=Ah.drew w25
   generalize w25.drew=w28 at*
   have X28:TQ w28 n (({q with B:=B}:Q7).up i B1) {t with ds:=ds.set i (jS t c i d),sent:=Lh (Td t c) i}:=X28
   rw[Ac]
   refine X28.f.c1 14 (c:=.i .u64) (x:=((Lh (Td t c) i:Nat):Int)) rfl ?_
   rw[Nj (by show(0:Int)≤(i:Int);omega),Ac]
   have eo:Ez .or .u64 ((Lh (Td t c) i:Nat):Int) (Ib .u64 1 (i:Int))=((Lh (Td t c) (i+1):Nat):Int):=by
    rw[sh1 (by omega),Afv (nX _ _ (by omega)) (uB (by omega)),em];rfl
   show Au [.int .u64 (Ez .or .u64 ((Lh (Td t c) i:Nat):Int) (Ib .u64 1 (i:Int)))] _ 0 w28 _
   rw[eo]
   exact X28.stS λw32 X32 u32=>⟨trivial,fin X32 (Ap.trans (Ap.Ed u28) u32 λ_ _ h=>h)⟩
  ·have c6: ¬(y.2.1:Int)>0:=c6
   have e1:Td t c i=false:=by
    rw[ep]
    cases hq:(d.send t.steps (Vj c.send i)).2.1 with
    |nil=>rfl
    |cons=>rw[hq] at sl1;simp at sl1;omega
   rw[e1,if_neg (by decide)] at em
   exact fin (by rw[em];exact X25) (Ap.refl _ _)
 ·have hil:i=t.ds.length:=by have c5: ¬(i:Int)<(q.sn.2.1:Int):=c5;omega
  subst hil
  have e:ds=t.ds.mapIdx (jS t c):=I.u.all rfl
  have X:=I.X
  have g':=I.g
  have x:=I.x
  have ny:=I.ny
  have s:=I.s
  rw[e] at X g' x ny s
  refine hk _ vs W _ (TW.of (q:={q with B:=B}) g' X) ⟨I.y.row (by rw[List.length_map,Nat.mul_one];exact I.l.symm),by rw[I.l];unfold Nt.Ahr;rw[List.length_mapIdx],λa ha=>by cases ha;exact⟨I.y.lt,ny⟩,λi fs hf=>?_⟩ x
  have hi:i<t.ds.length:=by have:=(List.getElem?_eq_some_iff.1 hf).1;unfold Nt.Ahr at this;rwa [List.length_mapIdx] at this
  obtain⟨d,hd⟩:=g.at hi
  rw[Ab1 hd] at hf
  injection hf with hf
  subst hf
  obtain⟨v,us,hv,sw⟩:=s i d hi hd
  exact⟨v,us,hv,sw.mono λz h=>.inl h⟩
end Go.Proofs.YtppeepkmnijdpaaGreatDoor
namespace Go.Proofs.YtppeepkmnijdpaaGreatDoor
open Go Go.Eng Tryz
open Go.IntKind (wrap)
set_option linter.unusedSimpArgs false
set_option linter.unusedVariables false
set_option maxRecDepth 100000
set_option maxHeartbeats 8000000
theorem yP{out:List Fr}(h:out.length≤3): ∀o,(dV out o).length≤3
 |none=>h
 |some f=>by
  show(if f.ok=true∧out.length<3 then out++[f] else out).length≤3
  split
  ·rename_i q;rw[List.length_append];have:=q.2;show _+1≤3;omega
  ·exact h
theorem Al0(d:Nd)(st:Int): ∀(js:List Jb) (out:List Fr),out.length≤3→(d.pop st js out).2.length≤3
 |[],out,h=>h
 |j::js,out,h=>by
  unfold Nd.pop
  split
  ·exact Al0 d st js _ (yP h _)
  ·exact h
theorem Aow(d:Nd)(step j:Int):(d.send step j).2.1.length≤3:=by
 unfold Nd.send
 split
 ·exact Nat.zero_le _
 split
 ·exact Nat.zero_le _
 unfold Nd.sV
 have h:=Al0 (d.Si (d.Ui j).1) (d.Ui j).1 d.jobs (dV [] (d.fZ (d.Ui j).1)) (yP (by simp) _)
 unfold Nd.Uy
 dsimp only
 split
 ·exact yP h _
 ·exact h
theorem Axh{t:Nt}{c:Ch}(h:t.chk c=0):c.ticks.length=t.ds.length∧c.send.length=t.ds.length∧c.hear.length=t.ds.length:=by
 unfold Nt.chk at h
 split at h
 ·cases h
 rename_i q
 have q1:c.ticks.length=t.ds.length:=Classical.byContradiction λe=>q (.inl e)
 have q3:U7 t.s.jit t.ds.length c.send=true:=by
  cases e:U7 t.s.jit t.ds.length c.send with
  |true=>rfl
  |false=>exact absurd (.inr (.inr (.inl e))) q
 have q4:U7 t.s.jit t.ds.length c.hear=true:=by
  cases e:U7 t.s.jit t.ds.length c.hear with
  |true=>rfl
  |false=>exact absurd (.inr (.inr (.inr e))) q
 unfold U7 at q3 q4
 rw[Bool.and_eq_true,decide_eq_true_eq] at q3 q4
 exact⟨q1,q3.1,q4.1⟩
theorem Tb.nx{w w':World}{Z Z':NP}(h:Tb w)(x:Nx Z w Z' w')(n0: ¬Z 0):Tb w'∧ ¬Z' 0:=by
 have h0:0<w.heap.size:=cell_lt (h 0 (by decide))
 exact⟨h.upd x.u n0,λq=>(x.sub 0 q).elim n0 λq=>by omega⟩
def goF(c:Ch)(i:Nat)(d:Nd):Nd:=(d.go (Vj c.ticks i)).1
structure GoI(w W:World)(Z:NP)(n:Nat)(q:Q7)(t:Nt)(c:Ch)(s0 s1 s2 s3:Sl)(p1 i:Nat)(B:Nat→NP)(ds:List Nd):Prop where
 X:TQ W n {q with B:=B} {t with ds:=ds}
 g:dZ {t with ds:=ds}
 u:Xj i (goF c) t.ds ds
 x:Nx Z w (ZQ n {q with B:=B} {t with ds:=ds}) W
 p:Ar W p1 [Uz s0,Uz s1,Uz s2,Uz s3]
 np: ¬ZQ n {q with B:=B} {t with ds:=ds} p1
def nhF(t:Nt)(c:Ch)(i:Nat)(d:Nd):Nd:=Ao9 (t.wds c) c.hear (t.oN c) i d
structure HrI(w W:World)(Z:NP)(n:Nat)(q:Q7)(t t3:Nt)(c:Ch)(s0 s1 s2 s3:Sl)(y:Sl)(vs:List Sl)(p1 i:Nat)(f:Nat→Nd→Nd)(B:Nat→NP)(ds:List Nd):Prop where
 X:TQ W n {q with B:=B} {t3 with ds:=ds}
 g:dZ {t3 with ds:=ds}
 u:Xj i f t3.ds ds
 x:Nx Z w (ZQ n {q with B:=B} {t3 with ds:=ds}) W
 s:Agy W (ZQ n {q with B:=B} {t3 with ds:=ds}) y vs (t.wds c)
 p:Ar W p1 [Uz s0,Uz s1,Uz s2,Uz s3]
 ch:ChW W (ZQ n {q with B:=B} {t3 with ds:=ds}) c s0 s1 s2 s3
 np: ¬ZQ n {q with B:=B} {t3 with ds:=ds} p1
theorem Aad(d:Nd)(j:Int)(ws:List Fr)(f:Fr):bW d j (ws++[f])=((bW d j ws).hear j f.by).1:=by
 unfold bW;rw[List.foldl_append];rfl
theorem HrI.Ai{w W W':World}{Z:NP}{n:Nat}{q:Q7}{t t3:Nt}{c:Ch}{s0 s1 s2 s3:Sl}{y:Sl}{vs:List Sl}{p1 i:Nat}{f:Nat→Nd→Nd}{B:Nat→NP}{ds:List Nd}(h:HrI w W Z n q t t3 c s0 s1 s2 s3 y vs p1 i f B ds)(u:Ah W W'):HrI w W' Z n q t t3 c s0 s1 s2 s3 y vs p1 i f B ds:=
 ⟨h.X.Ai u,h.g,h.u,h.x.Ai u,h.s.nx (Nx.of u),h.p.Ai u,h.ch.Ai u,h.np⟩
theorem HrI.turn{w W W':World}{Z:NP}{n:Nat}{q:Q7}{t t3:Nt}{c:Ch}{s0 s1 s2 s3:Sl}{y:Sl}{vs:List Sl}{p1 i k:Nat}{f f':Nat→Nd→Nd}{B:Nat→NP}{ds:List Nd}(h:HrI w W Z n q t t3 c s0 s1 s2 s3 y vs p1 k f B ds)
  {d d':Nd} (hd:ds[i]? =some d) (e:d'.s=d.s) {B':NP} (nd:No W' B' (q.b i) d') (x:Nx (B i) W B' W') (hu:Xj k f' t3.ds (ds.set i d')):
  HrI w W' Z n q t t3 c s0 s1 s2 s3 y vs p1 k f' (λj=>if j=i then B' else B j) (ds.set i d'):=by
 have hil:=(List.getElem?_eq_some_iff.1 hd).1
 obtain⟨g1,X1,xZ,sub⟩:=TQ.turn h.X h.g hd e nd x
 have nb: ¬B i p1:=λhb=>h.np (.inr (.inr (.inr (.inr (.inr ⟨i,hil,hb⟩)))))
 exact⟨X1,g1,hu,h.x.trans xZ,h.s.nx xZ,h.p.upd x.u nb,h.ch.nx xZ,λhz=>(xZ.sub _ hz).elim h.np λq=>by have:=h.p.lt;omega⟩
theorem Xj.low{i:Nat}{f f':Nat→Nd→Nd}{l ds:List Nd}{d:Nd}(h:Xj i f l ds)(hd:l[i]? =some d)(h1: ∀j x,j<i→f' j x=f j x)(h2:f' i d=d):Xj (i+1) f' l ds:=by
 refine⟨h.len,λj x hx=>?_⟩
 rw[h.get j x hx]
 by_cases c:j<i
 ·rw[if_pos c,if_pos (by omega),h1 j x c]
 ·rw[if_neg c]
  by_cases e:j=i
  ·subst e
   rw[hd] at hx;injection hx with hx;subst hx
   rw[if_pos (by omega),h2]
  ·rw[if_neg (by omega)]
theorem Xj.put{i:Nat}{f f':Nat→Nd→Nd}{l ds:List Nd}{d:Nd}(h:Xj (i+1) f l ds)(hd:l[i]? =some d)(h1: ∀j x,j<i→f' j x=f j x):Xj (i+1) f' l (ds.set i (f' i d)):=by
 refine⟨by rw[List.length_set];exact h.len,λj x hx=>?_⟩
 have hj:=(List.getElem?_eq_some_iff.1 hx).1
 have hl:=h.len
 rw[List.getElem?_set]
 by_cases e:i=j
 ·subst e
  rw[hd] at hx;injection hx with hx;subst hx
  rw[if_pos rfl,if_pos (by omega),if_pos (by omega)]
 ·rw[if_neg e,h.get j x hx]
  by_cases c:j<i
  ·rw[if_pos (by omega),if_pos (by omega),h1 j x c]
  ·rw[if_neg (by omega),if_neg (by omega)]
theorem Xj.congr{i:Nat}{f f':Nat→Nd→Nd}{l ds:List Nd}(h:Xj i f l ds)(h1: ∀j x,j<i→l[j]? =some x→f' j x=f j x):Xj i f' l ds:=
 ⟨h.len,λj x hx=>by
  rw[h.get j x hx]
  by_cases c:j<i
  ·rw[if_pos c,if_pos c,h1 j x c hx]
  ·rw[if_neg c,if_neg c]⟩
def fmF(t:Nt)(c:Ch)(i:Nat)(fs:List Fr)(m j:Nat)(d:Nd):Nd:=if j=i then bW d (Vj c.hear i) (fs.take m) else nhF t c j d
theorem Agi(t:Nt)(c:Ch)(i:Nat)(fs:List Fr)(m:Nat)(d:Nd):fmF t c i fs m i d=bW d (Vj c.hear i) (fs.take m):=if_pos rfl
theorem yR{t:Nt}{c:Ch}{i:Nat}{fs:List Fr}{m j:Nat}{d:Nd}(h:j<i):fmF t c i fs m j d=nhF t c j d:=if_neg (by omega)
theorem Q9.g{w:World}{Z:NP}{n:Nat}{t:Nt}(h:TW w Z n t)(hT:Tb w)(hT0: ¬Z 0){c:Ch}{s0 s1 s2 s3:Sl}(C:ChW w Z c s0 s1 s2 s3){K:TR Kt→WP}
  (hk: ∀w' Z',TW w' Z' n (t.step c).1→Nx Z w Z' w'→K (((t.step c).2,()),()) w'):Ad prog F.Q9 [pB n,.agg #[Uz s0,Uz s1,Uz s2,Uz s3]] w false Kt K:=by
 obtain⟨g,q,hZ,X⟩:=h.q
 have hr:=g.rng
 refine Q9.ok (c0:=s0) (c1:=s1) (c2:=s2) (c3:=s3) ?_
 refine Ae λp1 w2 e1 k1 u1=>?_
 change Ar w2 p1 [Uz s0,Uz s1,Uz s2,Uz s3] at k1
 refine k1.cA (cs:=[.sl,.sl,.sl,.sl]) (s0,s1,s2,s3,()) rfl (Px.q (X.Ai u1) g (C.Ai u1) λw5 u5=>dS (λc1=>?_) λc1=>?_)
 ·have c1:t.chk c≠0:=c1
  unfold Nt.step at hk
  rw[if_pos c1] at hk
  exact hk w5 Z (h.Ai (u1.trans u5)) (Nx.of (u1.trans u5))
 have c1:t.chk c=0:=c1
 unfold Nt.step at hk
 rw[if_neg λe=>e c1] at hk
 obtain⟨lt,ls,lh⟩:=Axh c1
 have G5:=u1.trans u5
 have X5:TQ w5 n q t:=X.Ai G5
 have hsl:=X.sl
 have lZ:=X.lt hr.1
 have k5:=k1.Ai u5
 have pl:w.heap.size≤p1:=Nat.le_of_eq e1
 have nP: ¬ZQ n q t p1:=λhz=>by have:=lZ p1 hz;omega
 rw[Ac]
 refine X5.f.c1 12 (c:=.sl) (x:=q.sn) rfl ?_
 have i0:GoI w w5 Z n q t c s0 s1 s2 s3 p1 0 q.B t.ds:=⟨X5,g,Xj.zero _ _,nxB (Nx.of G5) hZ λ_=>Iff.rfl,k5,nP⟩
 refine Aw.by (λz W=> ∃i:Nat,i≤t.ds.length∧z=((i:Int),())∧ ∃B ds,GoI w W Z n q t c s0 s1 s2 s3 p1 i B ds) (λz=>t.ds.length-z.1.toNat) ⟨0,by omega,rfl,_,_,i0⟩ ?_
 rintro z W ⟨i,hi,rfl,B,ds,I⟩ _
 have nx: ∀{i:Nat},i<t.ds.length→wrap .i64 ((i:Int)+1)=((i+1:Nat):Int):=λh=>by rw[Af (by unfold I64;omega)];rfl
 refine Cf (λc5=>?_) λc5=>?_
 ·have hil:i<t.ds.length:=by have c5:(i:Int)<(q.sn.2.1:Int):=c5;omega
  obtain⟨d,hd⟩:=g.at hil
  have hd':ds[i]? =some d:=I.u.at hd
  have zB: ∀{z},B i z→ZQ n {q with B:=B} {t with ds:=ds} z:=λh=>.inr (.inr (.inr (.inr (.inr ⟨i,by show i<ds.length;rw[I.u.len];exact hil,h⟩))))
  refine I.X.at (z:=(i:Int)) rfl (by show i<ds.length;rw[I.u.len];exact hil) (I.p.c0 (c:=.sl) (x:=s0) rfl (Row.ix (C.nx I.x).t (z:=(i:Int)) rfl (Xv (by omega)) (Kz.o (I.X.nd i d hd') λw17 nd1 x1=>?_)))
  obtain⟨g1,X1,xZ,sub⟩:=TQ.turn I.X I.g hd' (Akg (Auu d (Vj c.ticks i))) nd1 x1
  have nP1: ¬ZQ n (({q with B:=B}:Q7).up i (B i)) {t with ds:=ds.set i (goF c i d)} p1:=λhz=>(xZ.sub _ hz).elim I.np λq=>by have:=I.p.lt;omega
  exact⟨⟨i+1,by omega,by rw[nx hil],_,_,⟨X1,g1,I.u.next hd,I.x.trans xZ,I.p.upd x1.u (λh=>I.np (zB h)),nP1⟩⟩,by show _-(wrap .i64 ((i:Int)+1)).toNat<_-((i:Int)).toNat;rw[nx hil,Int.toNat_natCast,Int.toNat_natCast];omega⟩
 have hil:i=t.ds.length:=by have c5: ¬(i:Int)<(q.sn.2.1:Int):=c5;omega
 subst hil
 have ed:ds=t.d1 c:=I.u.all rfl
 subst ed
 have l1:(t.d1 c).length=t.ds.length:=Nt.Alp t c
 refine I.p.cA (cs:=[.sl,.sl,.sl,.sl]) (s0,s1,s2,s3,()) rfl (Qy.g (TW.of I.g I.X) (C.nx I.x) (by show c.send.length=(t.d1 c).length;omega) λy vs w20 Z20 h20 S20 x20=>?_)
 have e2:({t with ds:=t.d1 c}:Nt).Auk c={t with ds:=t.d2 c,sent:=t.fE c}:=by
  show({t with ds:=t.d2 c,sent:=Lh (Td {t with ds:=t.d1 c} c) (t.d1 c).length}:Nt)=_
  rw[l1];rfl
 rw[e2] at h20
 have S20:Agy w20 Z20 y vs (t.wds c):=S20
 have p20:=I.p.upd x20.u I.np
 have nP20: ¬Z20 p1:=λhz=>(x20.sub _ hz).elim I.np λq=>by have:=I.p.lt;omega
 have x20:=I.x.trans x20
 have C20:=C.nx x20
 obtain⟨T20,n20⟩:=hT.nx x20 hT0
 have l2:(t.d2 c).length=t.ds.length:=Nt.Ate t c
 obtain⟨g20,q2,hZ2,X20⟩:=h20.q
 rw[Aq]
 have X21:TQ w20.drew n q2 {t with ds:=t.d2 c,sent:=t.fE c}:=X20.Ai (Ah.drew w20)
 have x21:=x20.Ai (Ah.drew w20)
 have p21:=p20.drew
 have C21:=C20.Ai (Ah.drew w20)
 have T21:=T20.Ai (Ah.drew w20)
 have S21:=S20.nx (Nx.of (Ah.drew w20))
 generalize w20.drew=w21 at*
 rw[Ac]
 refine X21.f.c1 11 (c:=.p) (x:=some ⟨q2.L,0,none⟩) rfl ?_
 rw[Ac]
 refine X21.f.c1 14 (c:=.i .u64) (x:=((t.fE c:Nat):Int)) rfl (p21.c1 3 (c:=.sl) (x:=s3) rfl (Qa.q X21 g20 λw28 u28=>?_))
 refine⟨⟨p21.hold u28 (λx=>x) 3 (by simp),X21.f.hold u28 (λx=>x) 14 (by rw[bY];decide),X21.f.hold u28 (λx=>x) 11 (by rw[bY];decide),trivial⟩,?_⟩
 have X28:TQ w28 n q2 {t with ds:=t.d2 c,sent:=t.fE c}:=X21.Ai u28
 have ea:Lh (dQ (t.d2 c)) (t.d2 c).length=t.Vo c:=by rw[l2];rfl
 have nl:t.near.length=t.ds.length:=g.nl
 show Ad _ _ [_,_,.int .u64 ((Lh (dQ (t.d2 c)) (t.d2 c).length:Nat):Int),_] _ _ _ _
 rw[ea]
 refine Ug.g (near:=t.near) (T21.Ai u28) X28.lk X28.rk (by show(t.near.length:Int)=t.s.nodes;omega) (by omega) g.nb (g.fE c) (g.Vo c) (C21.Ai u28).l C.lb λy2 w30 o30 u30=>⟨trivial,?_⟩
 have ee:jQ (t.fE c) (t.Vo c) c.lost t.near t.near.length=t.oN c:=by rw[nl];rfl
 rw[ee] at o30
 have X30:TQ w30 n q2 {t with ds:=t.d2 c,sent:=t.fE c}:=X28.Ai u30
 have lZ28:=X28.lt g20.rng.1
 have yge: ∀a,y2.1=some a→w28.heap.size≤a.block:=λa ha=>(o30.blk ha).1
 have nlt:n<w28.heap.size:=lZ28 n (.inl rfl)
 rw[Ac]
 refine X30.f.sN 15 [.slice y2.1 y2.2.1 y2.2.2] (by rw[bY];show 16≤16;omega) rfl λw32 k32 u32=>⟨trivial,?_⟩
 have X32:TQ w32 n {q2 with se:=y2} {t with ds:=t.d2 c,sent:=t.fE c,ears:=t.oN c}:=by
  refine TX.reN (t':={t with ds:=t.d2 c,sent:=t.fE c,ears:=t.oN c}) (se':=y2) X30 u32 rfl rfl rfl k32 (Row.upd o30.row u32 λa ha e=>by have:=yge a ha;omega) o30.cap λ_ a ha=>⟨⟨λe=>?_,λe=>?_,λe=>?_⟩,λj hj hb=>?_⟩
  ·have:=yge a ha;have:=lZ28 n (.inl rfl);omega
  ·have e:a.block=q2.L:=e
   have:=yge a ha;have:=lZ28 q2.L (.inr (.inl rfl));omega
  ·have e:a.block=q2.nb:=e
   have:=yge a ha;have:=lZ28 q2.nb (.inr (.inr (.inl rfl)));omega
  ·have:=yge a ha;have:=lZ28 _ (.inr (.inr (.inr (.inr (.inr ⟨j,hj,hb⟩)))));omega
 have g32:dZ {t with ds:=t.d2 c,sent:=t.fE c,ears:=t.oN c}:=⟨g20.s,g20.len,g20.nd,g20.nl,g20.nb,g20.sb,by show(t.oN c).length≤64;rw[Nt.Apr];omega⟩
 have xe:Nx Z20 w28 (ZQ n {q2 with se:=y2} {t with ds:=t.d2 c,sent:=t.fE c,ears:=t.oN c}) w32:=by
  refine⟨Ap.trans (Ap.Ed u30) u32 λz hz e=>e▸(hZ2 n).2 (.inl rfl),?_⟩
  rintro z (e|e|e|e|⟨_,a,ha,rfl⟩|e)
  ·exact .inl ((hZ2 z).2 (.inl e))
  ·exact .inl ((hZ2 z).2 (.inr (.inl e)))
  ·exact .inl ((hZ2 z).2 (.inr (.inr (.inl e))))
  ·exact .inl ((hZ2 z).2 (.inr (.inr (.inr (.inl e)))))
  ·exact .inr (yge a ha)
  ·exact .inl ((hZ2 z).2 (.inr (.inr (.inr (.inr (.inr e))))))
 have p28:=p21.Ai u28
 have x32:=(x21.Ai u28).trans xe
 have i1:HrI w w32 Z n {q2 with se:=y2} t {t with ds:=t.d2 c,sent:=t.fE c,ears:=t.oN c} c s0 s1 s2 s3 y vs p1 0 (nhF t c) q2.B (t.d2 c):=
  ⟨X32,g32,Xj.zero _ _,x32,(S21.nx (Nx.of u28)).nx xe,p28.upd xe.u nP20,(C21.Ai u28).nx xe,λhz=>(xe.sub _ hz).elim nP20 λq=>by have:=p28.lt;omega⟩
 rw[Ac]
 refine X32.f.c1 15 (c:=.sl) (x:=y2) rfl ?_
 have ly2:y2.2.1=t.ds.length:=by rw[o30.len];exact nl
 refine Aw.by (λz W=> ∃i:Nat,i≤t.ds.length∧z=((i:Int),())∧ ∃B ds,HrI w W Z n {q2 with se:=y2} t {t with ds:=t.d2 c,sent:=t.fE c,ears:=t.oN c} c s0 s1 s2 s3 y vs p1 i (nhF t c) B ds) (λz=>t.ds.length-z.1.toNat) ⟨0,by omega,rfl,_,_,i1⟩ ?_
 clear I i0 i1
 rintro z W' ⟨i,hi,rfl,B,ds,I⟩ _
 refine Cf (λc5=>?_) λc5=>?_
 ·have hil:i<t.ds.length:=by have c5:(i:Int)<(y2.2.1:Int):=c5;omega
  obtain⟨d,hd⟩:=g32.at (i:=i) (by show i<(t.d2 c).length;omega)
  have hd':ds[i]? =some d:=I.u.at hd
  obtain⟨er,her⟩: ∃er,(t.oN c)[i]? =some er:=⟨_,Nt.Afm hil⟩
  have her':((t.oN c).map eT)[i]? =some (eT er):=by rw[List.getElem?_map,her];rfl
  refine U0.ix I.X.es (by decide) (z:=(i:Int)) rfl her' λa ha=>U0.Bc I.X.es ha her' ?_
  refine Ae λp40 w41 e40 k40 u40=>k40.E5 [iV er.1,iV er.2] rfl rfl λw42 k42 u42=>?_
  have g42:Ah W' w42:=Ah.fresh (Ah.refl _) u40 u42 e40
  have I2:=I.Ai g42
  have er0:(t.oN c).getD i (0,0)=er:=by rw[List.getD_eq_getElem?_getD,her];rfl
  have step: ∀{W2:World} {B2:Nat→NP} {ds2:List Nd},HrI w W2 Z n {q2 with se:=y2} t {t with ds:=t.d2 c,sent:=t.fE c,ears:=t.oN c} c s0 s1 s2 s3 y vs p1 (i+1) (nhF t c) B2 ds2→
    (∃i':Nat,i'≤t.ds.length∧(wrap .i64 ((i:Int)+1),())=((i':Int),())∧ ∃B ds,HrI w W2 Z n {q2 with se:=y2} t {t with ds:=t.d2 c,sent:=t.fE c,ears:=t.oN c} c s0 s1 s2 s3 y vs p1 i' (nhF t c) B ds)∧t.ds.length-(wrap .i64 ((i:Int)+1)).toNat<t.ds.length-((i:Int)).toNat:=λH=>
   ⟨⟨i+1,by omega,by rw[nx hil],_,_,H⟩,by rw[nx hil,Int.toNat_natCast,Int.toNat_natCast];omega⟩
  refine k42.c1 1 (c:=KI) (x:=er.2) rfl (dS (λc6=>?_) λc6=>?_)
  ·have c6:er.2≠1:=c6
   have eh:nhF t c i d=d:=by unfold nhF Ao9;rw[er0,if_neg c6]
   have U:=I.u.next hd
   rw[eh] at U
   have es:ds.set i d=ds:=by
    apply List.ext_getElem?
    intro j
    rw[List.getElem?_set]
    split
    ·rename_i e;subst e
     rw[if_pos (List.getElem?_eq_some_iff.1 hd').1,hd']
    ·rfl
   rw[es] at U
   exact step ⟨I2.X,I2.g,U,I2.x,I2.s,I2.p,I2.ch,I2.np⟩
  have c6:er.2=1:=c6
  obtain⟨k,ek,kl,_⟩:=Nt.heard g (f:=er.1) hil (by rw[her,←c6])
  obtain⟨dk,hdk⟩:=g.at kl
  obtain⟨fs,hw⟩: ∃fs,(t.wds c)[k]? =some fs:=⟨_,Nt.yU hdk⟩
  have eh:nhF t c i d=bW d (Vj c.hear i) fs:=by
   unfold nhF Ao9
   rw[er0,if_pos c6,ek,Int.toNat_natCast,List.getD_eq_getElem?_getD,hw];rfl
  obtain⟨v,us,hv,sw⟩:=I2.s.g k fs hw
  refine k42.c0 (c:=KI) (x:=er.1) rfl (Row.ixc I2.s.r (c:=.sl) (z:=er.1) (x:=v) ek (by rw[List.getElem?_map,hv];rfl) rfl ?_)
  have lv:v.2.1=fs.length:=by
   have:=sw.r.Ab2
   rw[List.length_map,sw.l] at this;exact this
  have lf:fs.length≤3:=by rw[Nt.yU hdk] at hw;injection hw with hw;rw[←hw];exact Aow _ _ _
  have nm: ∀{m:Nat},m<fs.length→wrap .i64 ((m:Int)+1)=((m+1:Nat):Int):=λh=>by rw[Af (by unfold I64;omega)];rfl
  have j0:HrI w w42 Z n {q2 with se:=y2} t {t with ds:=t.d2 c,sent:=t.fE c,ears:=t.oN c} c s0 s1 s2 s3 y vs p1 (i+1) (fmF t c i fs 0) B ds:=
   ⟨I2.X,I2.g,I2.u.low hd (λj x h=>yR h) (Agi t c i fs 0 d),I2.x,I2.s,I2.p,I2.ch,I2.np⟩
  clear I2 sw
  refine Aw.by (λz W=> ∃m:Nat,m≤fs.length∧z=((m:Int),())∧ ∃B ds,HrI w W Z n {q2 with se:=y2} t {t with ds:=t.d2 c,sent:=t.fE c,ears:=t.oN c} c s0 s1 s2 s3 y vs p1 (i+1) (fmF t c i fs m) B ds) (λz=>fs.length-z.1.toNat) ⟨0,by omega,rfl,_,_,j0⟩ ?_
  clear j0 I
  rintro z W2 ⟨m,hm,rfl,B,ds,J⟩ _
  refine Cf (λc7=>?_) λc7=>?_
  ·have hml:m<fs.length:=by have c7:(m:Int)<(v.2.1:Int):=c7;omega
   obtain⟨f,hf⟩: ∃f,fs[m]? =some f:=⟨_,List.getElem?_eq_getElem hml⟩
   obtain⟨v',us',hv',sw⟩:=J.s.g k fs hw
   rw[hv] at hv';injection hv' with hv';subst hv'
   obtain⟨u,hu,hr2,_⟩:=sw.g m f hf
   refine Row.ixc sw.r (c:=.sl) (z:=(m:Int)) (x:=u) rfl (by rw[List.getElem?_map,hu];rfl) rfl ?_
   rw[Aq]
   have J:=J.Ai (Ah.drew W2)
   have hr2:Ag0 W2.drew u f.by:=⟨Row.Ai hr2.1 (Ah.drew W2),hr2.2⟩
   generalize W2.drew=w52 at*
   have hdm:ds[i]? =some (fmF t c i fs m i d):=by
    have:=J.u.get i d hd
    rwa [if_pos (by omega)] at this
   have hil2:=(List.getElem?_eq_some_iff.1 hdm).1
   have hb: ∀{z},B i z→z≠n∧z≠p1:=λ{z} hz=>⟨(J.X.st i z hil2 hz).1,λe=>J.np (.inr (.inr (.inr (.inr (.inr ⟨i,hil2,e▸hz⟩)))))⟩
   rw[Ac]
   refine J.X.f.c1 12 (c:=.sl) (x:=q2.sn) rfl (J.X.at (z:=(i:Int)) rfl hil2 (J.p.c1 2 (c:=.sl) (x:=s2) rfl (Row.ix J.ch.h (z:=(i:Int)) rfl (Xv (by omega)) ?_)))
   refine Hg.o (J.X.nd i _ hdm) (Atp f) hr2.1 hr2.2 λw61 B' nd x=>⟨⟨J.p.hold x.u (λh=>(hb h).2 rfl) 2 (by simp),J.X.f.hold x.u (λh=>(hb h).1 rfl) 12 (by rw[bY];decide),trivial⟩,?_⟩
   have ef:((fmF t c i fs m i d).hear (Vj c.hear i) f.by).1=fmF t c i fs (m+1) i d:=by
    rw[Agi,Agi,List.take_add_one,hf]
    exact(Aad _ _ _ _).symm
   have es:=Akg (Atf (fmF t c i fs m i d) (Vj c.hear i) f.by)
   rw[ef] at nd es
   have H:=J.turn (f':=fmF t c i fs (m+1)) hdm es nd x (J.u.put hd λj x h=>by rw[yR h,yR h])
   exact⟨⟨m+1,by omega,by rw[nm hml],_,_,H⟩,by show _-(wrap .i64 ((m:Int)+1)).toNat<_-((m:Int)).toNat;rw[nm hml,Int.toNat_natCast,Int.toNat_natCast];omega⟩
  ·have hml:m=fs.length:=by have c7: ¬(m:Int)<(v.2.1:Int):=c7;omega
   subst hml
   exact step ⟨J.X,J.g,J.u.congr λj x hj hx=>by
    by_cases e:j=i
    ·subst e
     rw[hd] at hx;injection hx with hx;subst hx
     rw[Agi,List.take_length,eh]
    ·rw[yR (by omega)],J.x,J.s,J.p,J.ch,J.np⟩
 ·have hil:i=t.ds.length:=by have c5: ¬(i:Int)<(y2.2.1:Int):=c5;omega
  subst hil
  have ed:ds=t.d3 c:=I.u.all l2.symm
  subst ed
  rw[Ac]
  refine I.X.f.c1 13 (c:=KI) (x:=t.steps) rfl ?_
  rw[Ac]
  refine I.X.stT λw65 X65 u65=>?_
  have xs:Nx (ZQ n {q2 with se:=y2,B:=B} {t with ds:=t.d3 c,sent:=t.fE c,ears:=t.oN c}) W' (ZQ n {q2 with se:=y2,B:=B} {t with ds:=t.d3 c,sent:=t.fE c,ears:=t.oN c,steps:=wrap .i64 (t.steps+1)}) w65:=Afe u65 (.inl rfl)
  have gs:dZ {t with ds:=t.d3 c,sent:=t.fE c,ears:=t.oN c,steps:=wrap .i64 (t.steps+1)}:=⟨I.g.s,I.g.len,I.g.nd,I.g.nl,I.g.nb,I.g.sb,I.g.el⟩
  exact hk w65 _ (TW.of (q:={q2 with se:=y2,B:=B}) gs X65) (I.x.trans xs)
end Go.Proofs.YtppeepkmnijdpaaGreatDoor
