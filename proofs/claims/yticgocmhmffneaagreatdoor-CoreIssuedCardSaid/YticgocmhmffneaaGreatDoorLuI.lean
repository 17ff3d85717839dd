import Derived.Test.YticgocmhmffneaaGreatDoorMtU
namespace Go.Proofs.YticgocmhmffneaaGreatDoor
open Go Go.Eng Tryz
open Go.IntKind (wrap)
set_option linter.unusedSimpArgs false
set_option linter.unusedVariables false
set_option maxRecDepth 100000
set_option maxHeartbeats 8000000
theorem Tf.cl{S:dI}{so s:Sl}{xs:List TAc}{w:World}(hT:Tb w)(hR:Row w so 1 (Na S.own))(hs:aP w s qR xs)(ha: ∀x∈xs,AO w x):Ae prog F.Tf [.agg (Q4 S so).toArray,.slice s.1 s.2.1 s.2.2] w false Wh (Holds w):=by
  refine Tf.ok (s0:=S.nodes) (s1:=S.tmo) (s2:=S.ign) (s3:=S.need) (s4:=S.Aw) (s5:=S.rnd) (s6:=S.opn) (s7:=S.lim) (s8:=S.jit) (s9:=S.gate) (s10:=so) (script:=s) ?_
  unfold Tf.wp
  refine Ad fun p1 w2 e1 k1 u1=>?_
  change Az w2 p1 (Q4 S so) at k1
  refine Oe.g (hT.Ai u1) fun w4 u4=>Jl rfl ?_
  have g4:=u1.trans u4
  have k4:=k1.Ai u4
  refine k4.cA (cs:=KTs) (tsT S so) rfl (Oc.cl (S:=S) (hs.Ai g4) (by decide) (fun w7 u7=>Vt rfl ⟨rfl,g4.trans u7⟩) fun n6 c2 c3 hsm w7 u7=>Jl rfl ?_)
  have c2:so.2.1≤100:=c2
  have g7:=g4.trans u7
  have lo:=Me hR
  have ls:=aP.len hs (by decide)
  refine(k4.Ai u7).cA (cs:=KTs) (tsT S so) rfl (Ff.g (Row.Ai hR g7) fun w10 u10=>Ee (fun _=>⟨rfl,g7.trans u10⟩) fun c4=>?_)
  have hg:Wq S=true:=c4
  have g10:=g7.trans u10
  refine((k4.Ai u7).Ai u10).cA (cs:=KTs) (tsT S so) rfl (Nl.g (Row.Ai hR g10) (by omega) fun sa w13 r13 u13=>?_)
  refine Io.g hg r13 (by omega) fun n Z w15 h15 z15 u15=>Jl rfl ?_
  have b15:=(((u4.trans u7).trans u10).trans u13).trans u15
  have s13:=(((u4.trans u7).trans u10).trans u13).size
  have L0:dW w2 w15 Z n (wB S none):=⟨h15,b15,fun z h=>by have:=z15 z h;omega⟩
  have T2:=hT.Ai u1
  have s15:=b15.size
  refine Ci.by (fun z W=> ∃i:Nat,i≤xs.length∧z.2.1=(i:Int)∧ ∃Z t l,dW w2 W Z n t∧t.s=S∧Anx W w2.heap.size z.1 l∧(∀a,z.1.1=some a→ ¬Z a.block)∧l.length≤6*i∧Iss (i:Int) (fun r m=>wdM r m∈l) t) (fun z=>xs.length-z.2.1.toNat) ⟨0,by omega,rfl,_,_,[],L0,rfl,Gs.nil _ _ _ _,(fun a h=>(by cases h)),by show 0≤_;omega,Iss.wB S⟩ ?_
  rintro⟨sl,z2,_⟩ W ⟨i,hi,e2,Z,t,l,L,eS,O,sep,ll,I⟩ _
  dsimp only at e2 O sep
  subst e2
  have G:=u1.trans L.g
  refine Dx (fun c5=>?_) fun c5=>⟨rfl,G⟩
  have hil:i<xs.length:=by have c5:(i:Int)<(s.2.1:Int):=c5;omega
  have hx:xs[i]? =some xs[i]:=List.getElem?_eq_getElem hil
  have hA:AO w xs[i]:=ha _ (List.getElem_mem hil)
  have sm:=hsm _ (List.getElem_mem hil)
  generalize xs[i]=x at hx hA sm
  obtain⟨a0,a1,a2,a3,a4,a5,a6,a7,a8,a9,a10,⟨⟩⟩:=x
  obtain⟨bs,c,A⟩:=hA.Ai u1
  have hsW:aP W s qR xs:=hs.Ai G
  have ni:wrap .i64 ((i:Int)+1)=((i+1:Nat):Int):=by rw[Ah (by unfold I64;omega)];rfl
  refine aP.ix hsW (by decide) (z:=(i:Int)) rfl hx fun a hsa=>aP.A8 hsW hsa hx ?_
  refine Ad fun p25 w26 e25 k25 u25=>k25.Fg (encs qR (a0,a1,a2,a3,a4,a5,a6,a7,a8,a9,a10,())) rfl rfl fun w27 k27 u27=>?_
  have f27:Af W w27:=Af.fresh (Af.refl _) u25 u27 e25
  have L30:=L.Ai f27
  have nZ: ¬Z p25:=fun q=>by have:=L.h.lt p25 q;omega
  have K27:Az w27 p25 (encs qR (a0,a1,a2,a3,a4,a5,a6,a7,a8,a9,a10,())):=k27
  refine K27.cA (cs:=qR) (a0,a1,a2,a3,a4,a5,a6,a7,a8,a9,a10,()) rfl ?_
  have g1:=L.h.1
  have Ow27:=O.Ai f27
  refine Uw.t L30 T2 A sm fun W2 Z2 L2 x2=>?_
  have Ow2:=Ow27.upd x2.u sep
  have sep2: ∀a,sl.1=some a→ ¬Z2 a.block:=fun a ha h=>(x2.sub _ h).elim (sep a ha) fun q=>by have:=(Ow27.blk ha).2.1;omega
  have eS2:=(Avd (a0,a1,a2,a3,a4,a5,a6,a7,a8,a9,a10,()) bs c t).trans eS
  have I2:=I.act (by omega) (by omega) g1 (a0,a1,a2,a3,a4,a5,a6,a7,a8,a9,a10,()) bs c
  generalize (doA (a0,a1,a2,a3,a4,a5,a6,a7,a8,a9,a10,()) bs c t).1=t2 at L2 eS2 I2
  have g2:=L2.h.1
  have ndl:t2.ds.length=S.nodes.toNat:=by rw[g2.len,eS2]
  refine Ci.by (fun z W'=> ∃m:Nat,m≤S.nodes.toNat∧z.2.1=(m:Int)∧ ∃l',dW w2 W' Z2 n t2∧Anx W' w2.heap.size z.1 l'∧(∀a,z.1.1=some a→ ¬Z2 a.block)∧l'.length≤l.length+m∧(∀x∈l,x∈l')∧ ∀(j:Nat) (d:Nd),j<m→t2.ds[j]? =some d→d.on=true→mine d.e=true→0<d.e.seq→wdM (j:Int) (d.e.boot,d.e.seq,())∈l') (fun z=>S.nodes.toNat-z.2.1.toNat) ⟨0,by omega,rfl,l,L2,Ow2,sep2,by omega,fun x h=>h,fun j d h=>by omega⟩ ?_
  rintro⟨sl3,z3,_⟩ W3 ⟨m,hm,e3,l3,L3,Ow3,sep3,ll3,sub3,all3⟩ _
  dsimp only at e3 Ow3 sep3
  subst e3
  refine(k1.Ai L3.g).c0 (c:=KI) (x:=S.nodes) rfl (Dx (fun c7=>?_) fun c7=>?_)
  · have hml:m<S.nodes.toNat:=by have c7:(m:Int)<S.nodes:=c7;omega
    have nm:wrap .i64 ((m:Int)+1)=((m+1:Nat):Int):=by rw[Ah (by unfold I64;omega)];rfl
    obtain⟨d,hd⟩:=g2.get eS2 hml
    have ex:=Nt.Aot hd
    have em:=Nt.Aqy hd
    have kd:=(g2.nd m d hd).1.i
    refine Ju.t L3.h fun w32 u32=>Ad fun p33 w34 e33 k33 u33=>k33.Fg (encs MK (t2.yH (m:Int)).1) rfl rfl fun w35 k35 u35=>?_
    have f35:Af W3 w35:=Af.fresh u32 u33 u35 e33
    have L35:=L3.Ai f35
    refine Cc.by (fun z W'=>Af w35 W'∧z=((t2.yH (m:Int)).2&&(t2.rO (m:Int)).2.2.2.2.1,())) ?_ ?_
    · refine bM (fun c=>?_) fun c=>?_
      · have c:(t2.yH (m:Int)).2=true:=c
        refine Bo.t L35.h fun w40 u40=>⟨u40,?_⟩
        rw[c,Bool.true_and]
      · have c:(t2.yH (m:Int)).2=false:=c
        exact⟨Af.refl _,by rw[c,Bool.false_and]⟩
    rintro z W5 ⟨g5,rfl⟩ _
    have f5:=f35.trans g5
    have L5:=L3.Ai f5
    have Ow5:=Ow3.Ai f5
    have dec:S.nodes.toNat-(wrap .i64 ((m:Int)+1)).toNat<S.nodes.toNat-((m:Int)).toNat:=by rw[nm,Int.toNat_natCast,Int.toNat_natCast];omega
    refine bM (fun c=>?_) fun c=>?_
    · have b5:=f5.size
      have c:((t2.yH (m:Int)).2&&(t2.rO (m:Int)).2.2.2.2.1)=true:=c
      refine(k35.Ai g5).cA (cs:=MK) (t2.yH (m:Int)).1 rfl (Ad fun p42 w43 e42 k42 u42=>?_)
      change Az w43 p42 (encs KW (tW (wdM (m:Int) (t2.yH (m:Int)).1))) at k42
      have s2:=L3.g.size
      have s43:=u42.size
      refine Anx.ap (Ow5.Ai u42) k42 (by omega) (by omega) fun y44 w45 o45 u45 h45=>?_
      have old: ∀a,sl3.1=some a→w2.heap.size≤a.block:=fun a ha=>(Ow3.blk ha).1
      refine⟨⟨m+1,by omega,nm,_,⟨(L5.h.Ai u42).upd u45 fun z hz ⟨a,ha,e⟩=>sep3 a ha (e▸hz),Am.trans (L5.g.trans u42) u45 fun j hj ⟨a,ha,e⟩=>by have:=old a ha;omega,L5.z⟩,o45,fun a ha h=>?_,by rw[List.length_append,List.length_singleton];omega,fun x h=>List.mem_append.2 (.inl (sub3 x h)),fun j d' hj hd' a1 a2 a3=>?_⟩,dec⟩
      · rcases h45 a ha with ⟨a0,h0,e0⟩|q
        · exact sep3 a0 h0 (e0▸h)
        · have:=L5.h.lt _ h;omega
      · by_cases hjm:j<m
        · exact List.mem_append.2 (.inl (all3 j d' hjm hd' a1 a2 a3))
        · have:j=m:=by omega
          subst this
          rw[hd] at hd'
          injection hd' with hd'
          subst hd'
          rw[em,Aiw kd a1 a2 a3]
          exact List.mem_append.2 (.inr (List.mem_singleton.2 rfl))
    · have c:((t2.yH (m:Int)).2&&(t2.rO (m:Int)).2.2.2.2.1)=false:=c
      refine⟨⟨m+1,by omega,nm,l3,L5,Ow5,sep3,by omega,sub3,fun j d' hj hd' a1 a2 a3=>?_⟩,dec⟩
      by_cases hjm:j<m
      · exact all3 j d' hjm hd' a1 a2 a3
      · exfalso
        have:j=m:=by omega
        subst this
        rw[hd] at hd'
        injection hd' with hd'
        subst hd'
        rw[em,Aiw kd a1 a2 a3,ex,Afs a1] at c
        have c:(true&&mine d.e)=false:=c
        rw[a2] at c
        cases c
  have hmn:m=S.nodes.toNat:=by have c7: ¬(m:Int)<S.nodes:=c7;omega
  have I3:Iss ((i+1:Nat):Int) (fun r m=>wdM r m∈l3) t2:=by
    intro j d hd
    refine(I2 j d hd).mono (by omega) fun r m' h=>?_
    rcases h with h|⟨q,d',hd',a1,a2,a3,rfl,rfl⟩
    · exact sub3 _ h
    · exact all3 q d' (by have:=(List.getElem?_eq_some_iff.1 hd').1;omega) hd' a1 a2 a3
  refine Ci.by (fun z W'=>Af W3 W'∧ ∃j:Nat,j≤S.nodes.toNat∧z=((j:Int),())) (fun z=>S.nodes.toNat-z.1.toNat) ⟨Af.refl _,0,by omega,rfl⟩ ?_
  rintro z W4 ⟨g4',q,hq,rfl⟩ _
  have L4:=L3.Ai g4'
  refine(k1.Ai L4.g).c0 (c:=KI) (x:=S.nodes) rfl (Dx (fun c8=>?_) fun c8=>?_)
  · have hql:q<S.nodes.toNat:=by have c8:(q:Int)<S.nodes:=c8;omega
    have nq:wrap .i64 ((q:Int)+1)=((q+1:Nat):Int):=by rw[Ah (by unfold I64;omega)];rfl
    obtain⟨d,hd⟩:=g2.get eS2 hql
    have ex:=Nt.Aot hd
    have em:=Nt.Aqy hd
    have kd:=(g2.nd q d hd).1.i
    have next: ∀{W5:World},Af W4 W5→(Af W3 W5∧ ∃j:Nat,j≤S.nodes.toNat∧(wrap .i64 ((q:Int)+1),())=((j:Int),()))∧S.nodes.toNat-(wrap .i64 ((q:Int)+1),()).1.toNat<S.nodes.toNat-((q:Int),()).1.toNat:=fun h=>⟨⟨g4'.trans h,q+1,by omega,by rw[nq]⟩,by show _-(wrap .i64 ((q:Int)+1)).toNat<_-((q:Int)).toNat;rw[nq,Int.toNat_natCast,Int.toNat_natCast];omega⟩
    refine Ju.t L4.h fun w51 u51=>Ad fun p52 w53 e52 k52 u52=>k52.Fg (encs MK (t2.yH (q:Int)).1) rfl rfl fun w54 k54 u54=>?_
    have f54:Af W4 w54:=Af.fresh u51 u52 u54 e52
    refine Bo.t (L4.Ai f54).h fun w56 u56=>bM (fun c=>?_) fun _=>next (f54.trans u56)
    have c:(t2.yH (q:Int)).2=true:=c
    rw[em] at c
    obtain⟨on,mk,bb⟩:=Auy c
    have er:(t2.rO (q:Int)).2.2.2.1=d.e.root:=by rw[ex,Afs on];rfl
    refine bK (fun ne=>?_) fun _=>next (f54.trans u56)
    have ne:d.e.root≠(q:Int):=fun h=>ne (er.trans h)
    have mf:mine d.e=false:=by rw[g2.mine hd];exact beq_false_of_ne ne
    have r0:=(Aqk kd bb mf).1
    have hh:=(I3 q d hd).h r0 mf
    rw[←mk,←em,←er] at hh
    refine(k54.Ai u56).cA (cs:=MK) (t2.yH (q:Int)).1 rfl ?_
    refine lI.cl (Ow3.Ai ((g4'.trans f54).trans u56)).row (by omega) _ _ _ (fun _ w59 u59=>Jl rfl (next ((f54.trans u56).trans u59))) fun hn=>absurd hh hn
  · exact⟨⟨i+1,by omega,ni,Z2,t2,l3,L4,eS2,Ow3.Ai g4',sep3,by omega,I3⟩,by show _-(wrap .i64 ((i:Int)+1)).toNat<_-((i:Int)).toNat;rw[ni,Int.toNat_natCast,Int.toNat_natCast];omega⟩
theorem Tf.fin{cs:List Value}{s:Sl}{w:World}(h:zL w shT cs)(hs:zL w (.sl 11 Amh) [bP s])(hT:Tb w):Ae prog F.Tf [.agg cs.toArray,.slice s.1 s.2.1 s.2.2] w false Wh (Holds w):=by
  obtain⟨S,so,rfl,hR⟩:=kK h
  obtain⟨xs,h1,h2⟩:=kF hs
  exact Tf.cl hT hR h1 h2
end Go.Proofs.YticgocmhmffneaaGreatDoor
