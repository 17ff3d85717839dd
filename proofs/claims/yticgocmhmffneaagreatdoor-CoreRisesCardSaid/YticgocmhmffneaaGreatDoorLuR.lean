import Derived.Test.YticgocmhmffneaaGreatDoorMtU
namespace Go.Proofs.YticgocmhmffneaaGreatDoor
open Go Go.Eng Tryz
open Go.IntKind (wrap)
set_option linter.unusedSimpArgs false
set_option linter.unusedVariables false
set_option maxRecDepth 100000
set_option maxHeartbeats 8000000
theorem Hm.cl{S:dI}{so s:Sl}{xs:List TAc}{w:World}(hT:Tb w)(hR:Row w so 1 (Na S.own))(hs:aP w s qR xs)(ha: ∀x∈xs,AO w x):Ae prog F.Hm [.agg (Q4 S so).toArray,.slice s.1 s.2.1 s.2.2] w false Wh (Holds w):=by
  refine Hm.ok (s0:=S.nodes) (s1:=S.tmo) (s2:=S.ign) (s3:=S.need) (s4:=S.Aw) (s5:=S.rnd) (s6:=S.opn) (s7:=S.lim) (s8:=S.jit) (s9:=S.gate) (s10:=so) (script:=s) ?_
  unfold Hm.wp
  refine Ad fun p1 w2 e1 k1 u1=>?_
  change Az w2 p1 (Q4 S so) at k1
  refine Oe.g (hT.Ai u1) fun w4 u4=>Jl rfl ?_
  have g4:=u1.trans u4
  have k4:=k1.Ai u4
  refine k4.cA (cs:=KTs) (tsT S so) rfl (Oc.cl (S:=S) (hs.Ai g4) (by decide) (fun w7 u7=>Vt rfl ⟨rfl,g4.trans u7⟩) fun n6 c2 c3 hsm w7 u7=>Jl rfl ?_)
  have c2:so.2.1≤100:=c2
  have g7:=g4.trans u7
  have lo:=Me hR
  have ls:=aP.len hs (by decide)
  refine(k4.Ai u7).cA (cs:=KTs) (tsT S so) rfl (Ff.g (Row.Ai hR g7) fun w10 u10=>Ee (fun _=>⟨rfl,g7.trans u10⟩) fun c4=>?_)
  have hg:Wq S=true:=c4
  have g10:=g7.trans u10
  refine((k4.Ai u7).Ai u10).cA (cs:=KTs) (tsT S so) rfl (Nl.g (Row.Ai hR g10) (by omega) fun sa w13 r13 u13=>?_)
  refine Io.g hg r13 (by omega) fun n Z w15 h15 z15 u15=>Jl rfl ?_
  have b15:=(((u4.trans u7).trans u10).trans u13).trans u15
  have s13:=(((u4.trans u7).trans u10).trans u13).size
  have L0:dW w2 w15 Z n (wB S none):=⟨h15,b15,fun z h=>by have:=z15 z h;omega⟩
  have T2:=hT.Ai u1
  refine Ci.by (fun z W=> ∃i:Nat,i≤xs.length∧z=((i:Int),())∧ ∃Z t,dW w2 W Z n t∧t.s=S) (fun z=>xs.length-z.1.toNat) ⟨0,by omega,rfl,_,_,L0,rfl⟩ ?_
  rintro z W ⟨i,hi,rfl,Z,t,L,eS⟩ _
  have G:=u1.trans L.g
  refine Dx (fun c5=>?_) fun c5=>⟨rfl,G⟩
  have hil:i<xs.length:=by have c5:(i:Int)<(s.2.1:Int):=c5;omega
  have hx:xs[i]? =some xs[i]:=List.getElem?_eq_getElem hil
  have hA:AO w xs[i]:=ha _ (List.getElem_mem hil)
  have sm:=hsm _ (List.getElem_mem hil)
  generalize xs[i]=x at hx hA sm
  obtain⟨a0,a1,a2,a3,a4,a5,a6,a7,a8,a9,a10,⟨⟩⟩:=x
  obtain⟨bs,c,A⟩:=hA.Ai u1
  have hsW:aP W s qR xs:=hs.Ai G
  have ni:wrap .i64 ((i:Int)+1)=((i+1:Nat):Int):=by rw[Ah (by unfold I64;omega)];rfl
  refine aP.ix hsW (by decide) (z:=(i:Int)) rfl hx fun a hsa=>aP.A8 hsW hsa hx ?_
  refine Ad fun p25 w26 e25 k25 u25=>k25.Fg (encs qR (a0,a1,a2,a3,a4,a5,a6,a7,a8,a9,a10,())) rfl rfl fun w27 k27 u27=>?_
  have f27:Af W w27:=Af.fresh (Af.refl _) u25 u27 e25
  have L30:=L.Ai f27
  have nZ: ¬Z p25:=fun q=>by have:=L.h.lt p25 q;omega
  refine Ad fun p26 w31 e31 k31 u31=>?_
  change Az w31 p26 ((List.replicate 6 zSt).flatMap (encs dL)) at k31
  refine Ci.by (fun z W'=> ∃(j:Nat) (ys:List (Jf dL)),j≤S.nodes.toNat∧z=((j:Int),())∧Am (fun z=>z=p26) w31 W'∧Az W' p26 (ys.flatMap (encs dL))∧ys.length=6∧ ∀m:Nat,m<j→ys[m]? =some (t.rO (m:Int))) (fun z=>S.nodes.toNat-z.1.toNat) ⟨0,_,by omega,rfl,Am.refl _ _,k31,by decide,fun m h=>by omega⟩ ?_
  rintro z W1 ⟨j,ys,hj,rfl,v1,b1,l1,q1⟩ _
  have f1:Af w27 W1:=Af.fresh (Af.refl _) u31 v1 e31
  have L1:=L30.Ai f1
  refine(k1.Ai L1.g).c0 (c:=KI) (x:=S.nodes) rfl (Dx (fun c6=>?_) fun c6=>?_)
  · have hjl:j<S.nodes.toNat:=by have c6:(j:Int)<S.nodes:=c6;omega
    have nj:wrap .i64 ((j:Int)+1)=((j+1:Nat):Int):=by rw[Ah (by unfold I64;omega)];rfl
    refine Bo.t L1.h fun w33 u33=>?_
    rw[Tq ⟨by omega,by omega⟩]
    refine(b1.Ai u33).aN (i:=j) (by omega) (t.rO (j:Int)) rfl (o:=(j:Int).toNat*12) rfl fun w35 b35 u35=>?_
    refine⟨⟨j+1,_,by omega,by rw[nj],(v1.Ai u33).trans u35 fun _ _ h=>h,b35,by rw[List.length_set];exact l1,fun m hm=>?_⟩,by show _-(wrap .i64 ((j:Int)+1)).toNat<_-((j:Int)).toNat;rw[nj,Int.toNat_natCast,Int.toNat_natCast];omega⟩
    rw[List.getElem?_set]
    by_cases e:j=m
    · subst e
      rw[if_pos rfl,if_pos (by omega)]
    · rw[if_neg e]
      exact q1 m (by omega)
  have hjn:j=S.nodes.toNat:=by have c6: ¬(j:Int)<S.nodes:=c6;omega
  have K1:Az W1 p25 (encs qR (a0,a1,a2,a3,a4,a5,a6,a7,a8,a9,a10,())):=k27.Ai f1
  have nY: ¬Z p26:=fun q=>by have:=L30.h.lt p26 q;omega
  have lt2:=b1.lt
  refine Bq.t L1.h (K1.cA (cs:=qR) (a0,a1,a2,a3,a4,a5,a6,a7,a8,a9,a10,()) rfl ?_)
  have g1:=L1.h.1
  refine Uw.t L1 T2 A sm fun W2 Z2 L2 x2=>?_
  have b2:=b1.upd x2.u nY
  have eS2:=(Avd (a0,a1,a2,a3,a4,a5,a6,a7,a8,a9,a10,()) bs c t).trans eS
  have R1:=fun{d d'} m h h'=>Amc (x:=(a0,a1,a2,a3,a4,a5,a6,a7,a8,a9,a10,())) (bs:=bs) (c:=c) g1 (i:=m) (d:=d) (d':=d') h h'
  generalize (doA (a0,a1,a2,a3,a4,a5,a6,a7,a8,a9,a10,()) bs c t).1=t2 at L2 eS2 R1
  have g2:=L2.h.1
  refine Ci.by (fun z W'=>Af W2 W'∧ ∃j:Nat,j≤S.nodes.toNat∧z=((j:Int),())) (fun z=>S.nodes.toNat-z.1.toNat) ⟨Af.refl _,0,by omega,rfl⟩ ?_
  rintro z W4 ⟨g4',m,hm,rfl⟩ _
  have L4:=L2.Ai g4'
  refine(k1.Ai L4.g).c0 (c:=KI) (x:=S.nodes) rfl (Dx (fun c7=>?_) fun c7=>?_)
  · have hml:m<S.nodes.toNat:=by have c7:(m:Int)<S.nodes:=c7;omega
    have nm:wrap .i64 ((m:Int)+1)=((m+1:Nat):Int):=by rw[Ah (by unfold I64;omega)];rfl
    obtain⟨d,hd⟩:=g1.get eS hml
    obtain⟨d',hd'⟩:=g2.get eS2 hml
    have ex:=Nt.Aot hd
    have ex':=Nt.Aot hd'
    refine Bo.t L4.h fun w44 u44=>Ad fun p45 w46 e46 k46 u46=>k46.Fg (encs dL (t2.rO (m:Int))) rfl rfl fun w47 k47 u47=>?_
    have g47:Af W4 w47:=Af.fresh u44 u46 u47 e46
    rw[Be]
    have next: ∀{W5:World},Af w47 W5→(Af W2 W5∧ ∃j:Nat,j≤S.nodes.toNat∧(wrap .i64 ((m:Int)+1),())=((j:Int),()))∧S.nodes.toNat-(wrap .i64 ((m:Int)+1),()).1.toNat<S.nodes.toNat-((m:Int),()).1.toNat:=fun h=>⟨⟨(g4'.trans g47).trans h,m+1,by omega,by rw[nm]⟩,by show _-(wrap .i64 ((m:Int)+1)).toNat<_-((m:Int)).toNat;rw[nm,Int.toNat_natCast,Int.toNat_natCast];omega⟩
    have k48:=k47.drew
    have b48:=(b2.Ai (g4'.trans g47)).drew
    have g48:=Af.drew w47
    generalize w47.drew=w48 at*
    have hy:=q1 m (by omega)
    have IX: ∀{k:Addr→Prop},k ⟨p26,0,none⟩→Ny (some ⟨p26,0,none⟩) 6 (m:Int) k:=fun{k} h=>by rw[Tq ⟨by omega,by omega⟩];exact h
    refine k48.c0 (c:=.b) (x:=(t2.rO (m:Int)).1) rfl (Ee (fun _=>next g48) fun o'=>IX (b48.aA hy (o:=(m:Int).toNat*12) rfl (c:=.b) (v:=(t.rO (m:Int)).1) rfl (Ee (fun _=>next g48) fun o=>?_)))
    refine k48.c1 1 (c:=KU) (x:=(t2.rO (m:Int)).2.1) rfl (IX (b48.aF hy (o:=(m:Int).toNat*12) rfl 1 (c:=KU) (v:=(t.rO (m:Int)).2.1) rfl (bK (fun _=>next g48) fun eb=>?_)))
    have o':d'.on=true:=by rw[←Alq,←ex'];exact o'
    have o:d.on=true:=by rw[←Alq,←ex];exact o
    have eb:d'.boot=d.boot:=by rw[←Aen,←Aen,←ex',←ex];exact eb
    have er':(t2.rO (m:Int)).2.2.2.1=d'.e.root:=by rw[ex',Afs o'];rfl
    have er:(t.rO (m:Int)).2.2.2.1=d.e.root:=by rw[ex,Afs o];rfl
    have em':(t2.rO (m:Int)).2.2.2.2.1=mine d'.e:=by rw[ex',Afs o'];rfl
    have rm:=g2.root hd'
    have mn:=g2.mine hd'
    refine k48.c1 3 (c:=KI) (x:=(t2.rO (m:Int)).2.2.2.1) rfl (Dx (fun q=>?_) fun _=>?_)
    · exfalso
      have q:(t2.rO (m:Int)).2.2.2.1>(m:Int):=q
      rw[er'] at q
      exact absurd q (Int.not_lt.2 rm)
    refine k48.c1 4 (c:=.b) (x:=(t2.rO (m:Int)).2.2.2.2.1) rfl (k48.c1 3 (c:=KI) (x:=(t2.rO (m:Int)).2.2.2.1) rfl (Jl (by rw[em',er',mn];simp) ?_))
    rw[Be]
    have k49:=k48.drew
    have b49:=b48.drew
    have g49:=g48.trans (Af.drew w48)
    generalize w48.drew=w49 at*
    refine IX (b49.aF hy (o:=(m:Int).toNat*12) rfl 3 (c:=KI) (v:=(t.rO (m:Int)).2.2.2.1) rfl (Dx (fun r0=>?_) fun _=>next g49))
    refine k49.c1 3 (c:=KI) (x:=(t2.rO (m:Int)).2.2.2.1) rfl (IX (b49.aF hy (o:=(m:Int).toNat*12) rfl 3 (c:=KI) (v:=(t.rO (m:Int)).2.2.2.1) rfl (Dx (fun rr=>?_) fun _=>next g49)))
    have r0:0≤d.e.root:=by rw[←er];exact r0
    have rr:d'.e.root>d.e.root:=by rw[←er,←er'];exact rr
    obtain⟨y1,y2⟩:=R1 m hd hd' eb r0 rr
    refine k49.c1 3 (c:=KI) (x:=(t2.rO (m:Int)).2.2.2.1) rfl (bK (fun q=>absurd (er'.trans y1) q) fun _=>?_)
    have G49:Af w2 w49:=(L4.g.trans g47).trans g49
    have q49:=k1.Ai G49
    have hsd:=(g1.nd m d hd).2
    have pl:S.rnd≠0:=by
      have hs:=(g1.nd m d hd).1.g.s
      rw[hsd,eS] at hs
      obtain⟨_,_,_,f,_⟩:=Uj.1 hs
      have:=(iK.1 f).1
      have e:(ndS S m).rnd=S.rnd:=rfl
      omega
    refine q49.c1 5 (c:=KI) (x:=S.rnd) rfl ?_
    rw[Pg pl]
    refine q49.cA (cs:=KTs) (tsT S so) rfl (Oy.q (Row.Ai hR (u1.trans G49)) fun w68 u68=>?_)
    have hl:(ys.flatMap (encs dL)).length=72:=by rw[cO,l1];rfl
    have HB:=b49.X3 u68 (fun x=>x) ((m:Int).toNat*12) 3 (by rw[hl,Int.toNat_natCast];omega)
    have HP:=k49.hold u68 (fun x=>x) 3 (by simp[encs])
    refine⟨⟨q49.hold u68 (fun x=>x) 5 (by simp[Q4]),HP,HB,HP,HB,trivial⟩,?_⟩
    refine bK (fun q=>?_) fun _=>next (g49.trans u68)
    have y2:=Asb y2
    rw[hsd,eS] at y2
    exact absurd y2 q
  · exact⟨⟨i+1,by omega,by rw[ni],_,t2,L4,eS2⟩,by show _-(wrap .i64 ((i:Int)+1)).toNat<_-((i:Int)).toNat;rw[ni,Int.toNat_natCast,Int.toNat_natCast];omega⟩
theorem Hm.fin{cs:List Value}{s:Sl}{w:World}(h:zL w shT cs)(hs:zL w (.sl 11 Amh) [bP s])(hT:Tb w):Ae prog F.Hm [.agg cs.toArray,.slice s.1 s.2.1 s.2.2] w false Wh (Holds w):=by
  obtain⟨S,so,rfl,hR⟩:=kK h
  obtain⟨xs,h1,h2⟩:=kF hs
  exact Hm.cl hT hR h1 h2
end Go.Proofs.YticgocmhmffneaaGreatDoor
