import Derived.Test.YticgocmhmffneaaGreatDoorMtK
import Derived.Test.YticgocmhmffneaaGreatDoorEngX
import Derived.Test.YticgocmhmffneaaGreatDoorNwA
namespace Go.Proofs.YticgocmhmffneaaGreatDoor
open Go Go.Eng Tryz
open Go.IntKind (wrap)
set_option linter.unusedSimpArgs false
set_option linter.unusedVariables false
set_option maxRecDepth 100000
set_option maxHeartbeats 8000000
theorem aP.fld{w:World}{s:Sl}{cs:List CK}{xs:List (Jf cs)}(h:aP w s cs xs){a:Addr}(ha:s.1=some a){i:Nat}{x:Jf cs}(hi:xs[i]? =some x)(p:Nat){c:CK}{v:Tv c}(hv:(encs cs x)[p]? =some (enc c v)){k:Tv c→Prop}(hk:k v):ld1 c ((a.add (((i:Int)).toNat*cs.length)).add p) w k:=by
  rw[add_add,Int.toNat_natCast]
  exact Zj (Row.ld h ha (flat_get hi p _ hv)) (lT c v) hk
theorem aP.fl0{w:World}{s:Sl}{cs:List CK}{xs:List (Jf cs)}(h:aP w s cs xs){a:Addr}(ha:s.1=some a){i:Nat}{x:Jf cs}(hi:xs[i]? =some x){c:CK}{v:Tv c}(hv:(encs cs x)[0]? =some (enc c v)){k:Tv c→Prop}(hk:k v):ld1 c (a.add (((i:Int)).toNat*cs.length)) w k:=by
  rw[Int.toNat_natCast]
  exact Zj (Row.ld h ha (flat_get hi 0 _ hv)) (lT c v) hk
def Lk(t:Nt)(f:Nat→Bool):Prop:= ∀i k:Nat,i<t.ds.length→k<t.ds.length→f (64*i+k)=(t.near.getD i 0).testBit k
theorem Lk.new(S:dI):Lk (wB S none) fun _=>false:=by
  intro i k hi hk
  have e:(wB S none).near.getD i 0=0:=by
    show(List.replicate S.nodes.toNat 0).getD i 0=0
    rw[List.getD_eq_getElem?_getD,List.getElem?_replicate]
    split<;>rfl
  rw[e]
  simp
theorem Lk.link{t:Nt}{f:Nat→Bool}(h:Lk t f)(g:Ql t){i k:Int}{on:Bool}(m:Ac7 t.s.nodes i k=true):Lk (t.link i k on).1 (upB (upB f (64*i.toNat+k.toNat) on) (64*k.toNat+i.toNat) on):=by
  have e:=Alr t i k on
  rw[if_pos m] at e
  obtain⟨⟨a0,a1⟩,⟨b0,b1⟩,ne⟩:=Acb.1 m
  have rg:=g.kE
  have nl:=g.nl
  rw[e]
  intro j q hj hq
  have hj:j<t.ds.length:=hj
  have hq:q<t.ds.length:=hq
  show upB (upB f (64*i.toNat+k.toNat) on) (64*k.toNat+i.toNat) on (64*j+q)=((Zu t.near i.toNat k.toNat on).getD j 0).testBit q
  rw[Ae5 g.nb (by omega) (by omega) (by omega) (by omega) (by omega)]
  unfold upB
  by_cases c1:j=k.toNat∧q=i.toNat
  · rw[if_pos (by omega),if_pos (.inr c1)]
  rw[if_neg (by omega)]
  by_cases c2:j=i.toNat∧q=k.toNat
  · rw[if_pos (by omega),if_pos (.inl c2)]
  · rw[if_neg (by omega),if_neg (by omega)]
    exact h j q hj hq
theorem An9{t:Nt}{i k:Int}{on:Bool}(m:Ac7 t.s.nodes i k=false):(t.link i k on).1=t:=by
  rw[Alr,if_neg (by rw[m];decide)]
theorem Zw(t:Nt)(i:Int)(f:Nd→Nd×Int):(t.act i f).1.near=t.near∧(t.act i f).1.ds.length=t.ds.length:=by
  cases e:t.at i with
  |none=>rw[Nt.Qe e];exact⟨rfl,rfl⟩
  |some d=>rw[Nt.Q3 e];exact⟨rfl,by show(t.ds.set _ _).length=_;rw[List.length_set]⟩
theorem Aq1{x:uM}(h:x.1≠0)(bs:List Nat)(c:Ch)(t:Nt):(Ls x bs c t).1.near=t.near∧(Ls x bs c t).1.ds.length=t.ds.length:=by
  unfold Ls
  rw[if_neg h]
  split
  · exact Zw _ _ _
  split
  · exact Zw _ _ _
  split
  · unfold Nt.step
    split
    · exact⟨rfl,rfl⟩
    · exact⟨rfl,Nt.Abs t c⟩
  split
  · exact Zw _ _ _
  split
  · exact Zw _ _ _
  · exact⟨rfl,rfl⟩
theorem aF(t:Nt)(i:Int)(f:Nd→Nd×Int):(t.act i f).1.s=t.s:=by
  cases e:t.at i with
  |none=>rw[Nt.Qe e]
  |some d=>rw[Nt.Q3 e];rfl
theorem Atk(x:uM)(bs:List Nat)(c:Ch)(t:Nt):(Ls x bs c t).1.s=t.s:=by
  unfold Ls
  split
  · unfold Nt.link;split<;>rfl
  split
  · exact aF _ _ _
  split
  · exact aF _ _ _
  split
  · unfold Nt.step;split<;>rfl
  split
  · exact aF _ _ _
  split
  · exact aF _ _ _
  · rfl
theorem Ajt{x:uM}{bs:List Nat}{c:Ch}{t:Nt}(h3: ¬x.1<3)(h6: ¬x.1>6)(ne:(Ls x bs c t).1.steps≠t.steps):(Ls x bs c t).1={t with ds:=t.d3 c,steps:=wrap .i64 (t.steps+1),sent:=t.Ue c,ears:=t.We c}:=by
  have aux: ∀a:Int,¬a<3→ ¬a>6→ ¬a=0∧ ¬a=1∧ ¬a=2∧(a=3∨a=4∨a=5∨a=6):=by intro a;omega
  obtain⟨n0,n1,n2,n3⟩:=aux x.1 h3 h6
  have e:Ls x bs c t=t.step c:=by
    unfold Ls
    rw[if_neg n0,if_neg n1,if_neg n2]
    exact if_pos n3
  rw[e] at ne⊢
  unfold Nt.step at ne⊢
  split
  · rename_i q;rw[if_pos q] at ne;exact absurd rfl ne
  · rfl
theorem V9{a i:Nat}(ha:a<18446744073709551616)(h:i<64):Int.tmod (Qv .u64 (a:Int) (i:Int)) 2=1↔a.testBit i=true:=by
  have e:=Auw ha h
  rw[←e,beq_iff_eq]
theorem law27_NetHeard.cl{S:dI}{so s:Sl}{xs:List uM}{w:World}(hT:Tb w)(hR:Row w so 1 (Na S.own))(hs:aP w s qR xs)(ha: ∀x∈xs,AO w x):Ae prog F.law27_NetHeard [.agg (Q4 S so).toArray,.slice s.1 s.2.1 s.2.2] w false Wh (Holds w):=by
  refine law27_NetHeard.ok (s0:=S.nodes) (s1:=S.tmo) (s2:=S.ign) (s3:=S.need) (s4:=S.drift) (s5:=S.rnd) (s6:=S.opn) (s7:=S.lim) (s8:=S.jit) (s9:=S.gate) (s10:=so) (script:=s) ?_
  unfold law27_NetHeard.wp
  refine Ad fun p1 w2 e1 k1 u1=>?_
  change Az w2 p1 (Q4 S so) at k1
  refine law27_alive.g (hT.Ai u1) fun w4 u4=>Jl rfl ?_
  have g4:=u1.trans u4
  have k4:=k1.Ai u4
  refine k4.c0 (c:=KI) (x:=S.nodes) rfl (Dx (fun _=>⟨rfl,g4⟩) fun c1=>k4.c1 10 (c:=.sl) (x:=so) rfl (Dx (fun _=>⟨rfl,g4⟩) fun c2=>Dx (fun _=>⟨rfl,g4⟩) fun c3=>?_))
  have c2: ¬(so.2.1:Int)>100:=c2
  have c3: ¬(s.2.1:Int)>120:=c3
  have lo:=Me hR
  have ls:=aP.len hs (by decide)
  refine k4.cA (cs:=KTs) (tsT S so) rfl (Ff.g (Row.Ai hR g4) fun w9 u9=>Ee (fun _=>⟨rfl,g4.trans u9⟩) fun c4=>?_)
  have hg:Wq S=true:=c4
  have g9:=g4.trans u9
  refine(k4.Ai u9).cA (cs:=KTs) (tsT S so) rfl (law27_setup.g (Row.Ai hR g9) (by omega) fun sa w12 r12 u12=>?_)
  refine Io.g hg r12 (by omega) fun n Z w14 h14 z14 u14=>?_
  have g14:=(g9.trans u12).trans u14
  refine(((k4.Ai u9).Ai u12).Ai u14).cA (cs:=KTs) (tsT S so) rfl (law27_setup.g (Row.Ai hR g14) (by omega) fun sb w17 r17 u17=>?_)
  refine Io.g hg r17 (by omega) fun m Y w19 h19 z19 u19=>?_
  have b19:=(((((u4.trans u9).trans u12).trans u14).trans u17).trans u19)
  have s12:=((u4.trans u9).trans u12).size
  have s14:=u14.size
  have s17:=u17.size
  have s19:=u19.size
  refine(k1.Ai b19).cA (cs:=KTs) (tsT S so) rfl (Amb.h hg (Row.Ai hR (u1.trans b19)) fun pn pl cs w22 kn kc kl gn gl nnl u22=>Jl rfl (Jl rfl ?_))
  have b22:=b19.trans u22
  have L0:Aax w2 w22 Z Y n m (wB S none):=⟨⟨((h14.Ai u17).Ai u19).Ai u22,b22,fun z h=>by have:=z14 z h;omega⟩,⟨h19.Ai u22,b22,fun z h=>by have:=z19 z h;omega⟩,fun z h1 h2=>by have:=h14.lt z h1;have:=z19 z h2;omega⟩
  have T2:=hT.Ai u1
  have zz: ∀z,Z z→z<w19.heap.size:=fun z h=>by have:=h14.lt z h;omega
  have yy: ∀z,Y z→z<w19.heap.size:=fun z h=>h19.lt z h
  have old:w2.heap.size≤pl:=by have:=b19.size;omega
  refine Ci.by (fun z W=> ∃i:Nat,i≤xs.length∧z=((i:Int),())∧ ∃Z Y t f,Aax w2 W Z Y n m t∧t.s=S∧Az W pn cs∧Az W pl (U8 S.nodes f)∧Lk t f∧(¬Z pn∧ ¬Y pn)∧ ¬Z pl∧ ¬Y pl) (fun z=>xs.length-z.1.toNat) ⟨0,by omega,rfl,Z,Y,_,_,L0,rfl,kn,kl,Lk.new S,⟨fun h=>by have:=zz _ h;omega,fun h=>by have:=yy _ h;omega⟩,fun h=>by have:=zz _ h;omega,fun h=>by have:=yy _ h;omega⟩ ?_
  clear zz yy L0
  rintro z W ⟨i,hi,rfl,Z,Y,t,f,L,eS,Kn,Kl,lk,sn,sl⟩ _
  have G:=u1.trans L.a.g
  refine Dx (fun c5=>?_) fun c5=>⟨rfl,G⟩
  have hil:i<xs.length:=by have c5:(i:Int)<(s.2.1:Int):=c5;omega
  have hx:xs[i]? =some xs[i]:=List.getElem?_eq_getElem hil
  have hA:AO w xs[i]:=ha _ (List.getElem_mem hil)
  generalize xs[i]=x at hx hA
  obtain⟨a0,a1,a2,a3,a4,a5,a6,a7,a8,a9,a10,⟨⟩⟩:=x
  obtain⟨bs,c,A⟩:=hA.Ai u1
  have hsW:aP W s qR xs:=hs.Ai G
  have ni:wrap .i64 ((i:Int)+1)=((i+1:Nat):Int):=by rw[Ah (by unfold I64;omega)];rfl
  refine aP.ix hsW (by decide) (z:=(i:Int)) rfl hx fun a hsa=>aP.A8 hsW hsa hx ?_
  refine Ad fun p25 w26 e25 k25 u25=>k25.Fg (encs qR (a0,a1,a2,a3,a4,a5,a6,a7,a8,a9,a10,())) rfl rfl fun w27 k27 u27=>?_
  have f27:Af W w27:=Af.fresh (Af.refl _) u25 u27 e25
  have ltZ:=L.a.h.lt
  have ltY:=L.b.h.lt
  have nZ: ¬Z p25:=fun q=>by have:=ltZ p25 q;omega
  have nY: ¬Y p25:=fun q=>by have:=ltY p25 q;omega
  have n6: ¬S.nodes>6:=c1
  refine k27.cA (cs:=qR) (a0,a1,a2,a3,a4,a5,a6,a7,a8,a9,a10,()) rfl (law27_great.cl (fun w30 u30=>Vt rfl ⟨rfl,(G.trans f27).trans u30⟩) fun sm w30 u30=>Jl rfl ?_)
  have L30:=(L.Ai f27).Ai u30
  have f30:=f27.trans u30
  have K30:Az w30 p25 (encs qR (a0,a1,a2,a3,a4,a5,a6,a7,a8,a9,a10,())):=k27.Ai u30
  have g1:=L.a.h.1
  refine Bq.t L30.a.h (K30.cA (cs:=qR) (a0,a1,a2,a3,a4,a5,a6,a7,a8,a9,a10,()) rfl ?_)
  refine law27_twice.t L30 T2 A sm fun w33 Z' Y' L33 x33=>Jl rfl ?_
  have K33:=K30.upd x33.u fun h=>h.elim nZ nY
  have N33:=(Kn.Ai f30).upd x33.u fun h=>h.elim sn.1 sn.2
  have C33:=(Kl.Ai f30).upd x33.u fun h=>h.elim sl.1 sl.2
  have nlt:=Kn.lt
  have llt:=Kl.lt
  have z30:=f30.size
  have sn': ¬Z' pn∧ ¬Y' pn:=⟨fun h=>(x33.a _ h).elim sn.1 fun q=>by omega,fun h=>(x33.b _ h).elim sn.2 fun q=>by omega⟩
  have sl': ¬Z' pl∧ ¬Y' pl:=⟨fun h=>(x33.a _ h).elim sl.1 fun q=>by omega,fun h=>(x33.b _ h).elim sl.2 fun q=>by omega⟩
  have eS2:=(Atk (a0,a1,a2,a3,a4,a5,a6,a7,a8,a9,a10,()) bs c t).trans eS
  have MD:=Ajt (x:=(a0,a1,a2,a3,a4,a5,a6,a7,a8,a9,a10,())) (bs:=bs) (c:=c) (t:=t)
  have NR:=fun h=>Aq1 (x:=(a0,a1,a2,a3,a4,a5,a6,a7,a8,a9,a10,())) h bs c t
  have d0:a0=0→(Ls (a0,a1,a2,a3,a4,a5,a6,a7,a8,a9,a10,()) bs c t).1=(t.link a1 a2 a3).1:=fun e=>by unfold Ls;rw[if_pos (show(a0,a1,a2,a3,a4,a5,a6,a7,a8,a9,a10,()).1=0 from e)]
  generalize (Ls (a0,a1,a2,a3,a4,a5,a6,a7,a8,a9,a10,()) bs c t).1=t2 at L33 eS2 MD NR d0
  have hn:=(Tm.1 hg).1
  refine Cc.by (fun _ W'=>Az W' p25 (encs qR (a0,a1,a2,a3,a4,a5,a6,a7,a8,a9,a10,()))∧ ∃f',Aax w2 W' Z' Y' n m t2∧Az W' pn cs∧Az W' pl (U8 S.nodes f')∧Lk t2 f') ?_ ?_
  · refine K33.c0 (c:=KI) (x:=a0) rfl (Yl (fun e=>?_) fun e=>?_)
    · rw[Be,Ac]
      have K33:=K33.drew
      have N33:=N33.drew
      have C33:=C33.drew
      have L33:=L33.Ai (Af.drew w33)
      generalize w33.drew=w43 at*
      refine N33.c1 11 (c:=.p) (x:=some ⟨pl,0,none⟩) kc (K33.c1 1 (c:=KI) (x:=a1) rfl (K33.c1 2 (c:=KI) (x:=a2) rfl (K33.c1 3 (c:=.b) (x:=a3) rfl ?_)))
      have e2:=d0 e
      refine Aak.h C33 (by omega) (fun my=>⟨trivial,K33,f,L33,N33,C33,?_⟩) fun my w50 C50 u50=>⟨trivial,K33.upd u50 ?_,_,⟨⟨L33.a.h.upd u50 fun z hz q=>sl'.1 (q▸hz),Am.trans L33.a.g u50 fun j hj q=>by omega,L33.a.z⟩,⟨L33.b.h.upd u50 fun z hz q=>sl'.2 (q▸hz),Am.trans L33.b.g u50 fun j hj q=>by omega,L33.b.z⟩,L33.d⟩,N33.upd u50 nnl,C50,?_⟩
      · rw[e2,An9 (by rw[eS];exact my)];exact lk
      · omega
      · rw[e2]
        exact lk.link g1 (by rw[eS];exact my)
    · obtain⟨r1,r2⟩:=NR e
      exact⟨K33,f,L33,N33,C33,fun j q hj hq=>by rw[r1];exact lk j q (by rwa [r2] at hj) (by rwa [r2] at hq)⟩
  rintro _ W2 ⟨K2,f2,L2,N2,C2,lk2⟩ _
  have next: ∀{W3:World},Af W2 W3→(∃i':Nat,i'≤xs.length∧(wrap .i64 ((i:Int)+1),())=((i':Int),())∧ ∃Z Y t f,Aax w2 W3 Z Y n m t∧t.s=S∧Az W3 pn cs∧Az W3 pl (U8 S.nodes f)∧Lk t f∧(¬Z pn∧ ¬Y pn)∧ ¬Z pl∧ ¬Y pl)∧xs.length-(wrap .i64 ((i:Int)+1),()).1.toNat<xs.length-((i:Int),()).1.toNat:=fun h=>⟨⟨i+1,by omega,by rw[ni],Z',Y',t2,f2,L2.Ai h,eS2,N2.Ai h,C2.Ai h,lk2,sn',sl'⟩,by show _-(wrap .i64 ((i:Int)+1)).toNat<_-((i:Int)).toNat;rw[ni,Int.toNat_natCast,Int.toNat_natCast];omega⟩
  refine K2.c0 (c:=KI) (x:=a0) rfl (Dx (fun _=>next (Af.refl _)) fun h3=>K2.c0 (c:=KI) (x:=a0) rfl (Dx (fun _=>next (Af.refl _)) fun h6=>Bq.t L2.a.h (Yl (fun _=>next (Af.refl _)) fun ne=>?_)))
  have E:=MD h3 h6 ne
  have ed:t2.ds=t.d3 c:=by rw[E]
  have es:t2.sent=t.Ue c:=by rw[E]
  have ee:t2.ears=t.We c:=by rw[E]
  have en:t2.near=t.near:=by rw[E]
  have nl1:t.ds.length=S.nodes.toNat:=by rw[g1.len,eS]
  have nl2:t2.ds.length=S.nodes.toNat:=by rw[ed,Nt.Abs,nl1]
  have lts:=g1.Ue c
  have on2: ∀(q:Nat) (d:Nd),t.ds[q]? =some d→d.on=true→(t2.rO (q:Int)).1=true:=fun q d hd ho=>by
    have hq:=(List.getElem?_eq_some_iff.1 hd).1
    obtain⟨d',hd'⟩: ∃d',t2.ds[q]? =some d':=⟨_,List.getElem?_eq_getElem (by omega)⟩
    have h3':=hd'
    rw[ed] at h3'
    have s4:=(Nt.Akg hd h3' (g1.nd q d hd).1).1
    unfold Nt.rO Nt.at
    rw[if_neg (by omega),Int.toNat_natCast,hd']
    show(wE d').1=true
    have o':d'.on=true:=by rw[Ajl s4];exact ho
    unfold wE
    rw[if_pos o']
    rfl
  refine Jv.t L2.a.h fun se w56 u56 rE=>?_
  have lE:=aP.len rE (by decide)
  rw[List.length_map,ee,Nt.Aki,nl1] at lE
  refine(k1.Ai (L2.a.g.trans u56)).c0 (c:=KI) (x:=S.nodes) rfl (bK (fun q=>?_) fun _=>?_)
  · exfalso
    have q:(se.2.1:Int)≠S.nodes:=q
    omega
  refine Ci.by (fun z W'=>Af w56 W'∧ ∃j:Nat,j≤S.nodes.toNat∧z=((j:Int),())) (fun z=>S.nodes.toNat-z.1.toNat) ⟨Af.refl _,0,by omega,rfl⟩ ?_
  rintro z W4 ⟨g4',q,hq,rfl⟩ _
  have F4:=u56.trans g4'
  have L4:=L2.Ai F4
  have G4:=L4.a.g
  refine(k1.Ai G4).c0 (c:=KI) (x:=S.nodes) rfl (Dx (fun c7=>?_) fun c7=>?_)
  · have hql:q<S.nodes.toNat:=by have c7:(q:Int)<S.nodes:=c7;omega
    have nq:wrap .i64 ((q:Int)+1)=((q+1:Nat):Int):=by rw[Ah (by unfold I64;omega)];rfl
    have nx: ∀{W5:World},Af W4 W5→(Af w56 W5∧ ∃j:Nat,j≤S.nodes.toNat∧(wrap .i64 ((q:Int)+1),())=((j:Int),()))∧S.nodes.toNat-(wrap .i64 ((q:Int)+1),()).1.toNat<S.nodes.toNat-((q:Int),()).1.toNat:=fun h=>⟨⟨g4'.trans h,q+1,by omega,by rw[nq]⟩,by show _-(wrap .i64 ((q:Int)+1)).toNat<_-((q:Int)).toNat;rw[nq,Int.toNat_natCast,Int.toNat_natCast];omega⟩
    have wq:wrap .u64 (q:Int)=(q:Int):=wuN (by omega)
    have rE4:=rE.Ai g4'
    refine Dv.t L4.a.h ?_
    rw[wq,es,Vg (by omega),Pg (by decide)]
    refine Cc.by (fun _ W'=>Af W4 W') ?_ ?_
    · rw[Be]
      have L5:=L4.Ai (Af.drew W4)
      have g5:=Af.drew W4
      generalize W4.drew=w67 at*
      refine Yl (fun hb=>?_) fun _=>g5
      have hb:(t.Ue c).testBit q=true:=(V9 lts (by omega)).1 hb
      obtain⟨d,hd,ho,hmi⟩:=Nt.Ajy hb
      refine Bo.t L5.a.h fun w69 u69=>⟨trivial,Ee (fun cf=>?_) fun _=>?_⟩
      · exfalso
        have:=on2 q d hd ho
        rw[this] at cf
        cases cf
      have hsd:=(g1.nd q d hd).2
      have pl0:S.rnd≠0:=by
        have hs:=(g1.nd q d hd).1.g.s
        rw[hsd,eS] at hs
        obtain⟨_,_,_,f,_⟩:=Uj.1 hs
        have:=(iK.1 f).1
        have e:(Nu S q).rnd=S.rnd:=rfl
        omega
      have G69:=(G4.trans g5).trans u69
      have q69:=k1.Ai G69
      refine q69.c1 5 (c:=KI) (x:=S.rnd) rfl ?_
      rw[Pg pl0]
      refine q69.cA (cs:=KTs) (tsT S so) rfl (Oy.q (Row.Ai hR (u1.trans G69)) fun w73 u73=>⟨⟨q69.hold u73 (fun x=>x) 5 (by simp[Q4]),trivial⟩,bK (fun hne=>?_) fun _=>(g5.trans u69).trans u73⟩)
      exfalso
      rw[hsd,eS] at hmi
      unfold miG at hmi
      rw[Bool.and_eq_true,decide_eq_true_eq,beq_iff_eq] at hmi
      refine hne ?_
      show Int.tmod t.steps S.rnd=(Nu S q).own
      rw[Int.tmod_eq_emod_of_nonneg hmi.1]
      exact hmi.2
    rintro _ W5 g5 _
    have rE5:=rE4.Ai g5
    have L5:=L4.Ai g5
    obtain⟨er,her⟩: ∃er,(t.We c)[q]? =some er:=⟨_,List.getElem?_eq_getElem (by rw[Nt.Aki];omega)⟩
    have hx5:(t2.ears.map eT)[q]? =some (eT er):=by rw[ee,List.getElem?_map,her];rfl
    refine aP.ix rE5 (by decide) (z:=(q:Int)) rfl hx5 fun a ha5=>aP.fld rE5 ha5 hx5 1 (c:=KI) (v:=er.2) rfl (bK (fun _=>nx g5) fun e1=>?_)
    have e1:er.2=1:=e1
    refine aP.ix rE5 (by decide) (z:=(q:Int)) rfl hx5 fun a ha5=>aP.fl0 rE5 ha5 hx5 (c:=KI) (v:=er.1) rfl ?_
    obtain⟨k,ek,kl',kb,ks,ki,d,hd,ho⟩:=Nt.heard g1 (i:=q) (f:=er.1) (by omega) (by rw[her,←e1])
    refine Yl (fun hb=>?_) fun _=>?_
    · exfalso
      have hb:(t.Ue c).testBit q=true:=(V9 lts (by omega)).1 hb
      rw[ki] at hb
      cases hb
    refine Bo.t L5.a.h fun w79 u79=>Ee (fun cf=>?_) fun _=>Dx (fun cf=>?_) fun _=>?_
    · exfalso
      rw[on2 q d hd ho] at cf
      cases cf
    · exfalso
      have cf:er.1<0:=cf
      omega
    have g79:=g5.trans u79
    have G79:=G4.trans g79
    refine(k1.Ai G79).c0 (c:=KI) (x:=S.nodes) rfl (Dx (fun cf=>?_) fun _=>?_)
    · exfalso
      have cf:er.1≥S.nodes:=cf
      omega
    have N79:=N2.Ai (F4.trans g79)
    have C79:=C2.Ai (F4.trans g79)
    rw[Ac]
    refine N79.c1 11 (c:=.p) (x:=some ⟨pl,0,none⟩) kc ?_
    rw[Ac,Tq ⟨by omega,by omega⟩,Tq ⟨by omega,by omega⟩,add_add,add_add]
    have ei:1+((q:Int).toNat*64+er.1.toNat*1)=1+(64*q+k):=by omega
    rw[ei]
    have hf:f2 (64*q+k)=true:=by
      rw[lk2 q k (by omega) (by omega),en]
      exact kb
    refine C79.c1 (1+(64*q+k)) (c:=.b) (x:=true) (by rw[U8.get _ _ (by omega),hf];rfl) (Jl rfl ?_)
    have L79:=L5.Ai u79
    refine Dv.t L79.a.h ?_
    have wk:wrap .u64 er.1=(k:Int):=by rw[ek];exact wuN (by omega)
    rw[wk,es,Vg (by omega),Pg (by decide)]
    obtain⟨dk,hdk,hok,_⟩:=Nt.Ajy ks
    refine bK (fun cf=>absurd ((V9 lts (by omega)).2 ks) cf) fun _=>?_
    rw[ek]
    refine Bo.t L79.a.h fun w90 u90=>Ee (fun cf=>?_) fun _=>nx (g79.trans u90)
    exfalso
    rw[on2 k dk hdk hok] at cf
    cases cf
  · exact next F4
theorem law27_NetHeard.fin{cs:List Value}{s:Sl}{w:World}(h:zL w shT cs)(hs:zL w (.sl 11 Amh) [bP s])(hT:Tb w):Ae prog F.law27_NetHeard [.agg cs.toArray,.slice s.1 s.2.1 s.2.2] w false Wh (Holds w):=by
  obtain⟨S,so,rfl,hR⟩:=kK h
  obtain⟨xs,h1,h2⟩:=kF hs
  exact law27_NetHeard.cl hT hR h1 h2
end Go.Proofs.YticgocmhmffneaaGreatDoor
