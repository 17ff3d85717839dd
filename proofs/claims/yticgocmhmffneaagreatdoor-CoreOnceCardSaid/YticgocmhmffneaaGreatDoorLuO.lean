import Derived.Test.YticgocmhmffneaaGreatDoorNuF
namespace Go.Proofs.YticgocmhmffneaaGreatDoor
open Go Go.Eng Tryz
open Go.IntKind (wrap)
set_option linter.unusedSimpArgs false
set_option linter.unusedVariables false
set_option maxRecDepth 100000
set_option maxHeartbeats 8000000
theorem U8.cl{S:dI}{so s:Sl}{xs:List TAc}{w:World}(hT:Tb w)(hR:Row w so 1 (Na S.own))(hs:aP w s qR xs)(ha: ∀x∈xs,AO w x):Ae prog F.U8 [.agg (Q4 S so).toArray,.slice s.1 s.2.1 s.2.2] w false Wh (Holds w):=by
  refine U8.ok (s0:=S.nodes) (s1:=S.tmo) (s2:=S.ign) (s3:=S.need) (s4:=S.Aw) (s5:=S.rnd) (s6:=S.opn) (s7:=S.lim) (s8:=S.jit) (s9:=S.gate) (s10:=so) (script:=s) ?_
  unfold U8.wp
  refine Ad fun p1 w2 e1 k1 u1=>?_
  change Az w2 p1 (Q4 S so) at k1
  refine Oe.g (hT.Ai u1) fun w4 u4=>Jl rfl ?_
  have g4:=u1.trans u4
  have k4:=k1.Ai u4
  refine k4.cA (cs:=KTs) (tsT S so) rfl (Oc.cl (S:=S) (hs.Ai g4) (by decide) (fun w7 u7=>Vt rfl ⟨rfl,g4.trans u7⟩) fun n6 c2 c3 hsm w7 u7=>Jl rfl ?_)
  have c2:so.2.1≤100:=c2
  have g7:=g4.trans u7
  have lo:=Me hR
  have ls:=aP.len hs (by decide)
  refine(k4.Ai u7).cA (cs:=KTs) (tsT S so) rfl (Ff.g (Row.Ai hR g7) fun w10 u10=>Ee (fun _=>⟨rfl,g7.trans u10⟩) fun c4=>?_)
  have hg:Wq S=true:=c4
  have g10:=g7.trans u10
  refine((k4.Ai u7).Ai u10).cA (cs:=KTs) (tsT S so) rfl (Nl.g (Row.Ai hR g10) (by omega) fun sa w13 r13 u13=>?_)
  refine Io.g hg r13 (by omega) fun n Z w15 h15 z15 u15=>Jl rfl ?_
  have b15:=(((u4.trans u7).trans u10).trans u13).trans u15
  have s13:=(((u4.trans u7).trans u10).trans u13).size
  have L0:dW w2 w15 Z n (wB S none):=⟨h15,b15,fun z h=>by have:=z15 z h;omega⟩
  have T2:=hT.Ai u1
  refine Ad fun p16 w17 e16 k16 u16=>?_
  change Az w17 p16 (((List.replicate 6 ((none,0,0):Sl)).map tSl).flatMap (encs KL)) at k16
  refine Ad fun p18 w19 e18 k18 u18=>?_
  change Az w19 p18 (((List.replicate 6 ((0,0,0):Wd)).map tW).flatMap (encs KW)) at k18
  have s15:=b15.size
  have s17:=u16.size
  have l16:=k16.lt
  have rep: ∀(i:Nat) (s:Sl),(List.replicate 6 ((none,0,0):Sl))[i]? =some s→s=(none,0,0):=fun i s h=>List.eq_of_mem_replicate (List.mem_of_getElem? h)
  have lt15:=h15.lt
  have T0:Tk w19 w2.heap.size Z p16 p18 (List.replicate 6 (none,0,0)) (List.replicate 6 (0,0,0)) (fun _=>[]):=
    ⟨k16.Ai u18,k18,by decide,by decide,fun i s h=>by rw[rep i s h];exact Gs.nil _ _ _ _,fun i j s r a b _ h _ ha _=>by(rw[rep i s h] at ha;cases ha),fun i s a h ha=>by(rw[rep i s h] at ha;cases ha),fun q=>by have:=lt15 _ q;omega,fun q=>by have:=lt15 _ q;omega,by omega,by omega,by omega⟩
  have L19:=(L0.Ai u16).Ai u18
  have On0: ∀(j:Nat) (d:Nd),(wB S none).ds[j]? =some d→d.on=true→ ∀y,(List.replicate 6 ((0,0,0):Wd))[j]? =some y→Onc [] y d:=fun j d hd ho=>by
    rw[Alz hd] at ho
    cases ho
  refine Ci.by (fun z W=> ∃i:Nat,i≤xs.length∧z=((i:Int),())∧ ∃Z t ts ls tk,dW w2 W Z n t∧t.s=S∧Tk W w2.heap.size Z p16 p18 ts ls tk∧(∀j,(tk j).length≤i)∧Iss (i:Int) (fun _ _=>True) t∧ ∀(j:Nat) (d:Nd),t.ds[j]? =some d→d.on=true→ ∀y,ls[j]? =some y→Onc (tk j) y d) (fun z=>xs.length-z.1.toNat) ⟨0,by omega,rfl,_,_,_,_,_,L19,rfl,T0,fun j=>Nat.le_refl _,Iss.wB S,On0⟩ ?_
  rintro z W ⟨i,hi,rfl,Z,t,ts,ls,tk,L,eS,T,lt,I,ON⟩ _
  have G:=u1.trans L.g
  refine Dx (fun c5=>?_) fun c5=>⟨rfl,G⟩
  have hil:i<xs.length:=by have c5:(i:Int)<(s.2.1:Int):=c5;omega
  have hx:xs[i]? =some xs[i]:=List.getElem?_eq_getElem hil
  have hA:AO w xs[i]:=ha _ (List.getElem_mem hil)
  have sm:=hsm _ (List.getElem_mem hil)
  generalize xs[i]=x at hx hA sm
  obtain⟨a0,a1,a2,a3,a4,a5,a6,a7,a8,a9,a10,⟨⟩⟩:=x
  obtain⟨bs,c,A⟩:=hA.Ai u1
  have hsW:aP W s qR xs:=hs.Ai G
  have ni:wrap .i64 ((i:Int)+1)=((i+1:Nat):Int):=by rw[Ah (by unfold I64;omega)];rfl
  refine aP.ix hsW (by decide) (z:=(i:Int)) rfl hx fun a hsa=>aP.A8 hsW hsa hx ?_
  refine Ad fun p25 w26 e25 k25 u25=>k25.Fg (encs qR (a0,a1,a2,a3,a4,a5,a6,a7,a8,a9,a10,())) rfl rfl fun w27 k27 u27=>?_
  have f27:Af W w27:=Af.fresh (Af.refl _) u25 u27 e25
  have L30:=L.Ai f27
  have nZ: ¬Z p25:=fun q=>by have:=L.h.lt p25 q;omega
  refine Ad fun p26 w31 e31 k31 u31=>?_
  change Az w31 p26 ((List.replicate 6 zSt).flatMap (encs dL)) at k31
  refine Ci.by (fun z W'=> ∃(j:Nat) (ys:List (Jf dL)),j≤S.nodes.toNat∧z=((j:Int),())∧Am (fun z=>z=p26) w31 W'∧Az W' p26 (ys.flatMap (encs dL))∧ys.length=6∧ ∀m:Nat,m<j→ys[m]? =some (t.rO (m:Int))) (fun z=>S.nodes.toNat-z.1.toNat) ⟨0,_,by omega,rfl,Am.refl _ _,k31,by decide,fun m h=>by omega⟩ ?_
  rintro z W1 ⟨j,ys,hj,rfl,v1,b1,l1,q1⟩ _
  have f1:Af w27 W1:=Af.fresh (Af.refl _) u31 v1 e31
  have L1:=L30.Ai f1
  refine(k1.Ai L1.g).c0 (c:=KI) (x:=S.nodes) rfl (Dx (fun c6=>?_) fun c6=>?_)
  · have hjl:j<S.nodes.toNat:=by have c6:(j:Int)<S.nodes:=c6;omega
    have nj:wrap .i64 ((j:Int)+1)=((j+1:Nat):Int):=by rw[Ah (by unfold I64;omega)];rfl
    refine Bo.t L1.h fun w33 u33=>?_
    rw[Tq ⟨by omega,by omega⟩]
    refine(b1.Ai u33).aN (i:=j) (by omega) (t.rO (j:Int)) rfl (o:=(j:Int).toNat*12) rfl fun w35 b35 u35=>?_
    refine⟨⟨j+1,_,by omega,by rw[nj],(v1.Ai u33).trans u35 fun _ _ h=>h,b35,by rw[List.length_set];exact l1,fun m hm=>?_⟩,by show _-(wrap .i64 ((j:Int)+1)).toNat<_-((j:Int)).toNat;rw[nj,Int.toNat_natCast,Int.toNat_natCast];omega⟩
    rw[List.getElem?_set]
    by_cases e:j=m
    · subst e
      rw[if_pos rfl,if_pos (by omega)]
    · rw[if_neg e]
      exact q1 m (by omega)
  have hjn:j=S.nodes.toNat:=by have c6: ¬(j:Int)<S.nodes:=c6;omega
  have K1:Az W1 p25 (encs qR (a0,a1,a2,a3,a4,a5,a6,a7,a8,a9,a10,())):=k27.Ai f1
  have nY: ¬Z p26:=fun q=>by have:=L30.h.lt p26 q;omega
  have lt2:=b1.lt
  refine K1.cA (cs:=qR) (a0,a1,a2,a3,a4,a5,a6,a7,a8,a9,a10,()) rfl ?_
  have g1:=L1.h.1
  have T1:=T.Ai (f27.trans f1)
  have n16':p26≠p16:=fun e=>by have:=(T.Ai f27).a.lt;omega
  have n18':p26≠p18:=fun e=>by have:=(T.Ai f27).b.lt;omega
  have F0: ∀(i:Nat) (s:Sl) (a:Addr),ts[i]? =some s→s.1=some a→a.block≠p26:=fun i s a hs ha e=>by have:=(((T.Ai f27).o i s hs).blk ha).2.1;omega
  refine Uw.t L1 T2 A sm fun W2 Z2 L2 x2=>?_
  have b2:=b1.upd x2.u nY
  have eS2:=(Avd (a0,a1,a2,a3,a4,a5,a6,a7,a8,a9,a10,()) bs c t).trans eS
  have TT:=T1.nx x2
  have I2:Iss ((i+1:Nat):Int) (fun _ _=>True) (doA (a0,a1,a2,a3,a4,a5,a6,a7,a8,a9,a10,()) bs c t).1:=fun j d hd=>((I.act (by omega) (by omega) g1 (a0,a1,a2,a3,a4,a5,a6,a7,a8,a9,a10,()) bs c) j d hd).mono (by omega) fun _ _ _=>trivial
  have MV:=fun{d d'} m h h'=>Mv.act (K:=(i:Int)) (by omega) (by omega) g1 I (x:=(a0,a1,a2,a3,a4,a5,a6,a7,a8,a9,a10,())) (bs:=bs) (c:=c) (i:=m) (d:=d) (d':=d') h h'
  have NW:=fun{d d'} m h h'=>Aw3 (x:=(a0,a1,a2,a3,a4,a5,a6,a7,a8,a9,a10,())) (bs:=bs) (c:=c) g1 (i:=m) (d:=d) (d':=d') h h'
  generalize (doA (a0,a1,a2,a3,a4,a5,a6,a7,a8,a9,a10,()) bs c t).1=t2 at L2 eS2 I2 MV NW
  have g2:=L2.h.1
  refine Ci.by (fun z W'=> ∃m:Nat,m≤S.nodes.toNat∧z=((m:Int),())∧ ∃ts ls tk,dW w2 W' Z2 n t2∧Az W' p26 (ys.flatMap (encs dL))∧Tk W' w2.heap.size Z2 p16 p18 ts ls tk∧(∀(i:Nat) (s:Sl) (a:Addr),ts[i]? =some s→s.1=some a→a.block≠p26)∧(∀j,(tk j).length≤i+1)∧(∀j,m≤j→(tk j).length≤i)∧(∀(j:Nat) (d:Nd),j<m→t2.ds[j]? =some d→d.on=true→ ∀y,ls[j]? =some y→Onc (tk j) y d)∧ ∀(j:Nat) (d:Nd),m≤j→t.ds[j]? =some d→d.on=true→ ∀y,ls[j]? =some y→Onc (tk j) y d) (fun z=>S.nodes.toNat-z.1.toNat) ⟨0,by omega,rfl,ts,ls,tk,L2,b2,TT,F0,fun j=>Nat.le_succ_of_le (lt j),fun j _=>lt j,fun j d h=>by omega,fun j d _=>ON j d⟩ ?_
  clear ON lt TT T1 T L0 L19 T0 On0 I
  rintro z W4 ⟨m,hm,rfl,ts,ls,tk,L4,b4,T,fr,l1',l2',D1,D2⟩ _
  refine(k1.Ai L4.g).c0 (c:=KI) (x:=S.nodes) rfl (Dx (fun c7=>?_) fun c7=>?_)
  · have hml:m<S.nodes.toNat:=by have c7:(m:Int)<S.nodes:=c7;omega
    have m6:m<6:=by omega
    have nm:wrap .i64 ((m:Int)+1)=((m+1:Nat):Int):=by rw[Ah (by unfold I64;omega)];rfl
    have dec:S.nodes.toNat-(wrap .i64 ((m:Int)+1)).toNat<S.nodes.toNat-((m:Int)).toNat:=by rw[nm,Int.toNat_natCast,Int.toNat_natCast];omega
    obtain⟨d,hd⟩:=g1.get eS hml
    obtain⟨d',hd'⟩:=g2.get eS2 hml
    have ex:=Nt.Aot hd
    have ex':=Nt.Aot hd'
    have em':=Nt.Aqy hd'
    have kd':=(g2.nd m d' hd').1.i
    have hy:=q1 m (by omega)
    obtain⟨sm0,hs0,hs1⟩:=T.s m6
    obtain⟨la,hl0,hl1⟩:=T.w m6
    have IX: ∀{p:Nat} {k:Addr→Prop},k ⟨p,0,none⟩→Ny (some ⟨p,0,none⟩) 6 (m:Int) k:=fun{p k} h=>by rw[Tq ⟨by omega,by omega⟩];exact h
    have nat1:(m:Int).toNat*1=m*KL.length:=rfl
    have nat3:(m:Int).toNat*3=m*KW.length:=rfl
    have lt2:=L2.h.lt
    have zlt: ∀z,Z2 z→z<W4.heap.size:=fun z hz=>L4.h.lt z hz
    have bs26:p26≠p16∧p26≠p18:=⟨fun e=>n16' e,fun e=>n18' e⟩
    have next: ∀{W5:World} {ts':List Sl} {ls':List Wd} {tk':Nat→List Wd},dW w2 W5 Z2 n t2→Az W5 p26 (ys.flatMap (encs dL))→Tk W5 w2.heap.size Z2 p16 p18 ts' ls' tk'→(∀(i:Nat) (s:Sl) (a:Addr),ts'[i]? =some s→s.1=some a→a.block≠p26)→(∀j,j≠m→ls'[j]? =ls[j]? ∧tk' j=tk j)→(tk' m).length≤i+1→(d'.on=true→ ∀y,ls'[m]? =some y→Onc (tk' m) y d')→
        (∃m':Nat,m'≤S.nodes.toNat∧(wrap .i64 ((m:Int)+1),())=((m':Int),())∧ ∃ts ls tk,dW w2 W5 Z2 n t2∧Az W5 p26 (ys.flatMap (encs dL))∧Tk W5 w2.heap.size Z2 p16 p18 ts ls tk∧(∀(i:Nat) (s:Sl) (a:Addr),ts[i]? =some s→s.1=some a→a.block≠p26)∧(∀j,(tk j).length≤i+1)∧(∀j,m'≤j→(tk j).length≤i)∧(∀(j:Nat) (d:Nd),j<m'→t2.ds[j]? =some d→d.on=true→ ∀y,ls[j]? =some y→Onc (tk j) y d)∧ ∀(j:Nat) (d:Nd),m'≤j→t.ds[j]? =some d→d.on=true→ ∀y,ls[j]? =some y→Onc (tk j) y d)∧S.nodes.toNat-(wrap .i64 ((m:Int)+1),()).1.toNat<S.nodes.toNat-((m:Int),()).1.toNat:=by
      intro W5 ts' ls' tk' h1 h2 h3 hf h4 h5 h6
      refine⟨⟨m+1,by omega,by rw[nm],ts',ls',tk',h1,h2,h3,hf,fun j=>?_,fun j hj=>?_,fun j x hj hx ho y hq=>?_,fun j x hj hx ho y hq=>?_⟩,dec⟩
      · by_cases e:j=m
        · rw[e];exact h5
        · rw[(h4 j e).2];exact l1' j
      · rw[(h4 j (by omega)).2];exact l2' j (by omega)
      · by_cases e:j=m
        · subst e
          rw[hd'] at hx
          injection hx with hx
          subst hx
          exact h6 ho y hq
        · rw[(h4 j e).1] at hq
          rw[(h4 j e).2]
          exact D1 j x (by omega) hx ho y hq
      · rw[(h4 j (by omega)).1] at hq
        rw[(h4 j (by omega)).2]
        exact D2 j x (by omega) hx ho y hq
    have set_ne: ∀(y:Wd) (j:Nat),j≠m→(ls.set m y)[j]? =ls[j]? :=fun y j h=>List.getElem?_set_ne (fun e=>h e.symm)
    have set_at: ∀(y:Wd),(ls.set m y)[m]? =some y:=fun y=>by rw[List.getElem?_set,if_pos rfl,if_pos (by rw[T.lb];exact m6)]
    have frS: ∀(y:Sl),(∀a,y.1=some a→a.block≠p26)→ ∀(i:Nat) (s:Sl) (a:Addr),(ts.set m y)[i]? =some s→s.1=some a→a.block≠p26:=fun y hy j r a hr ha=>by
      rw[List.getElem?_set] at hr
      split at hr
      · split at hr
        · injection hr with hr
          subst hr
          exact hy a ha
        · cases hr
      · exact fr j r a hr ha
    refine Bo.t L4.h fun w46 u46=>Ad fun p47 w48 e47 k47 u47=>k47.Fg (encs dL (t2.rO (m:Int))) rfl rfl fun w49 k49 u49=>?_
    have g49:Af W4 w49:=Af.fresh u46 u47 u49 e47
    refine Cc.by (fun z W'=>Af w49 W'∧z=((!(t2.rO (m:Int)).1||((t2.rO (m:Int)).2.1 !=(t.rO (m:Int)).2.1||!(t.rO (m:Int)).1)),())) ?_ ?_
    · rw[Be]
      have k53:=k49.drew
      have b53:=(b4.Ai g49).drew
      have g53:=Af.drew w49
      generalize w49.drew=w53 at*
      refine k53.c0 (c:=.b) (x:=(t2.rO (m:Int)).1) rfl (Ee (fun c=>⟨g53,?_⟩) fun c=>?_)
      · have c:(t2.rO (m:Int)).1=false:=c
        rw[c];rfl
      have c:(t2.rO (m:Int)).1=true:=c
      refine k53.c1 1 (c:=KU) (x:=(t2.rO (m:Int)).2.1) rfl (IX (b53.aF hy (o:=(m:Int).toNat*12) rfl 1 (c:=KU) (v:=(t.rO (m:Int)).2.1) rfl (bK (fun ne=>⟨g53,?_⟩) fun eq=>?_)))
      · have ne:(t2.rO (m:Int)).2.1≠(t.rO (m:Int)).2.1:=ne
        rw[c,bne_iff_ne.2 ne];rfl
      · have eq:(t2.rO (m:Int)).2.1=(t.rO (m:Int)).2.1:=eq
        refine IX (b53.aA hy (o:=(m:Int).toNat*12) rfl (c:=.b) (v:=(t.rO (m:Int)).1) rfl ⟨g53,?_⟩)
        rw[c,eq,bne_self_eq_false]
        rfl
    rintro z W5 ⟨g5,rfl⟩ _
    have G5:=g49.trans g5
    have L5:=L4.Ai G5
    have T5:=T.Ai G5
    have b5:=b4.Ai G5
    have k5:=k49.Ai g5
    have old16:=T.ba
    have old18:=T.bb
    refine bM (fun c=>?_) fun c=>?_
    ·
      have c:(!(t2.rO (m:Int)).1||((t2.rO (m:Int)).2.1 !=(t.rO (m:Int)).2.1||!(t.rO (m:Int)).1))=true:=c
      refine IX (T5.a.aN (i:=m) (by rw[List.length_map,T.la];exact m6) (tSl (none,0,0)) rfl nat1 fun w61 k61 u61=>IX ?_)
      have T61:=T5.row hs0 (Gs.nil W5 _ _ _) (Am.refl _ _) (fun a h=>by cases h) (fun z hz=>L5.h.lt z hz) k61 u61 (l:=[])
      have L61:=L5.far u61 (fun z hz e=>T.za (e▸hz)) (fun z e=>by rw[e];exact old16)
      refine T61.b.aN (i:=m) (by rw[List.length_map,T.lb];exact m6) (tW (Int.negSucc 0,0,0)) rfl nat3 fun w63 k63 u63=>?_
      refine next (L61.far u63 (fun z hz e=>T.zb (e▸hz)) fun z e=>by rw[e];exact old18) ((b5.upd u61 bs26.1).upd u63 bs26.2) (T61.put k63 u63) (frS (none,0,0) fun a h=>(by cases h)) (fun j hj=>⟨set_ne _ j hj,Ai1 tk _ hj⟩) (by rw[Aac];exact Nat.zero_le _) fun ho y hy=>?_
      rw[set_at] at hy
      injection hy with hy
      subst hy
      rw[Aac]
      obtain⟨raw,rfl⟩:=NW m hd hd' ho (by
        rw[ex,ex',Alq,Alq,Aen,Aen,ho] at c
        have c:(d'.boot !=d.boot||!d.on)=true:=c
        rw[Bool.or_eq_true] at c
        rcases c with c|c
        · exact .inr (bne_iff_ne.1 c)
        · exact .inl (by simpa using c))
      exact Onc.new d raw
    have c:(!(t2.rO (m:Int)).1||((t2.rO (m:Int)).2.1 !=(t.rO (m:Int)).2.1||!(t.rO (m:Int)).1))=false:=c
    rw[ex,ex',Alq,Alq,Aen,Aen] at c
    simp only[Bool.or_eq_false_iff,Bool.not_eq_false',bne_eq_false_iff_eq] at c
    obtain⟨o',eb,o⟩:=c
    have V:=MV m hd hd' eb
    have O:=D2 m d (Nat.le_refl _) hd o la hl0
    have er':(t2.rO (m:Int)).2.2.2.1=d'.e.root:=by rw[ex',Afs o'];rfl
    have emi:(t2.rO (m:Int)).2.2.2.2.1=mine d'.e:=by rw[ex',Afs o'];rfl
    have emk:t2.yH (m:Int)=(oN d'.e d'.l,mkB d'.e):=by rw[em',Auq o']
    refine Ju.t L5.h fun w65 u65=>Ad fun p66 w67 e66 k66 u66=>k66.Fg (encs MK (t2.yH (m:Int)).1) rfl rfl fun w68 k68 u68=>?_
    have g68:Af W5 w68:=Af.fresh u65 u66 u68 e66
    refine(k5.Ai g68).c1 3 (c:=KI) (x:=(t2.rO (m:Int)).2.2.2.1) rfl (k68.cA (cs:=MK) (t2.yH (m:Int)).1 rfl (Ad fun p71 w72 e71 k71 u71=>k71.Fg (encs KW (tW (wdM (t2.rO (m:Int)).2.2.2.1 (t2.yH (m:Int)).1))) rfl rfl fun w73 k73 u73=>?_))
    have g73:Af W5 w73:=g68.trans (Af.fresh (Af.refl _) u71 u73 e71)
    have ew:wdM (t2.rO (m:Int)).2.2.2.1 (t2.yH (m:Int)).1=wdM d'.e.root (oN d'.e d'.l):=by rw[er',emk]
    rw[ew] at k73
    have L73:=L5.Ai g73
    have T73:=T5.Ai g73
    have b73:=b5.Ai g73
    have k47':=k5.Ai g73
    have nob: ∀{w8:World},Af w73 w8→(mkB d'.e=false∨mine d'.e=true)→ ∀{k:WP},(∀w9,(∃m':Nat,m'≤S.nodes.toNat∧(wrap .i64 ((m:Int)+1),())=((m':Int),())∧ ∃ts ls tk,dW w2 w9 Z2 n t2∧Az w9 p26 (ys.flatMap (encs dL))∧Tk w9 w2.heap.size Z2 p16 p18 ts ls tk∧(∀(i:Nat) (s:Sl) (a:Addr),ts[i]? =some s→s.1=some a→a.block≠p26)∧(∀j,(tk j).length≤i+1)∧(∀j,m'≤j→(tk j).length≤i)∧(∀(j:Nat) (d:Nd),j<m'→t2.ds[j]? =some d→d.on=true→ ∀y,ls[j]? =some y→Onc (tk j) y d)∧ ∀(j:Nat) (d:Nd),m'≤j→t.ds[j]? =some d→d.on=true→ ∀y,ls[j]? =some y→Onc (tk j) y d)∧S.nodes.toNat-(wrap .i64 ((m:Int)+1),()).1.toNat<S.nodes.toNat-((m:Int),()).1.toNat→k w9)→Ny (some ⟨p18,0,none⟩) 6 (m:Int) fun a=>Au (encs KW (tW (Int.negSucc 0,0,0))) (a.add ((m:Int).toNat*3)) 0 w8 k:=by
      intro w8 g8 hb k hk
      refine IX ((T73.Ai g8).b.aN (i:=m) (by rw[List.length_map,T.lb];exact m6) (tW (Int.negSucc 0,0,0)) rfl nat3 fun w9 k9 u9=>hk w9 ?_)
      refine next ((L73.Ai g8).far u9 (fun z hz e=>T.zb (e▸hz)) fun z e=>by rw[e];exact old18) ((b73.Ai g8).upd u9 bs26.2) ((T73.Ai g8).put k9 u9) fr (fun j hj=>⟨set_ne _ j hj,rfl⟩) (l1' m) fun ho y hy=>?_
      rw[set_at] at hy
      injection hy with hy
      subst hy
      exact O.nob V hb
    refine Ee (fun c=>nob (Af.refl _) (.inl ?_) fun w9 h=>h) fun c=>?_
    · have c:(t2.yH (m:Int)).2=false:=c
      rw[emk] at c;exact c
    have c:(t2.yH (m:Int)).2=true:=c
    rw[emk] at c
    have hb:mkB d'.e=true:=c
    refine k47'.c1 4 (c:=.b) (x:=(t2.rO (m:Int)).2.2.2.2.1) rfl (bM (fun c=>nob (Af.refl _) (.inr (emi.symm.trans c)) fun w9 h=>h) fun c=>?_)
    have nmi:mine d'.e=false:=emi.symm.trans c
    have GO:=O.goes V kd' hb nmi
    generalize eww:wdM d'.e.root (oN d'.e d'.l)=ww at*
    rw[Be]
    have k79:=k73.drew
    have T79:=T73.Aq0
    have b79:=b73.drew
    have k47d:=k47'.drew
    have g79:=Af.drew w73
    generalize w73.drew=w79 at*
    have L79:=L73.Ai g79
    refine k79.cA (cs:=KW) (tW ww) rfl (IX (T79.b.aL hl1 nat3 (Ee (fun c=>?_) fun c=>?_)))
    ·
      have ne:ww≠la:=fun e=>by
        subst e
        simp[tW] at c
      obtain⟨nin,on⟩:=GO.1 ne
      rw[Be]
      have k83:=k79.drew
      have T83:=T79.Aq0
      have b83:=b79.drew
      have L83:=L79.Ai (Af.drew w79)
      generalize w79.drew=w83 at*
      refine IX (T83.a.aA hs1 nat1 (c:=.sl) (v:=sm0) rfl (k83.cA (cs:=KW) (tW ww) rfl ?_))
      refine lI.cl (T83.o m sm0 hs0).row (by have:=l2' m (Nat.le_refl _);omega) _ _ _ (fun h=>absurd h nin) fun _ w88 u88=>⟨trivial,Jl rfl ?_⟩
      rw[Be]
      have f89:=u88.trans (Af.drew w88)
      have k89:=k83.Ai f89
      have T89:=T83.Ai f89
      have b89:=b83.Ai f89
      have L89:=L83.Ai f89
      generalize w88.drew=w89 at*
      refine IX (T89.a.aA hs1 nat1 (c:=.sl) (v:=sm0) rfl (k89.cA (cs:=KW) (tW ww) rfl (Ad fun p93 w94 e93 k93 u93=>?_)))
      change Az w94 p93 (encs KW (tW ww)) at k93
      have T94:=T89.Ai u93
      have L94:=L89.Ai u93
      have la6:((ts.map tSl).flatMap (encs KL)).length=6:=by rw[cO,List.length_map,T89.la];rfl
      have HA:=fun{Q:NP} {w':World} (u:Am Q w89 w') (hQ: ¬Q p16)=>T89.a.hold u hQ ((m:Int).toNat*1) (by rw[la6,Int.toNat_natCast];omega)
      have HP:=fun{Q:NP} {w':World} (u:Am Q w89 w') (hQ: ¬Q p71) (j:Nat) (hj:j<3)=>k89.hold u hQ j (by exact hj)
      refine⟨⟨HP u93 (fun x=>x) 0 (by decide),HP u93 (fun x=>x) 1 (by decide),HP u93 (fun x=>x) 2 (by decide),HA u93 (fun x=>x),trivial⟩,?_⟩
      have l89:=T89.a.lt
      have own:=T94.o m sm0 hs0
      have s2:=L94.g.size
      refine Anx.ap own k93 (by have:=l2' m (Nat.le_refl _);omega) s2 fun y95 w96 o95 u95 h95=>?_
      have n71: ¬ ∃a,sm0.1=some a∧a.block=p71:=fun⟨a,ha,e⟩=>by
        have q:=((T.o m sm0 hs0).blk ha).2.1
        have z1:=G5.size
        have z2:=g68.size
        omega
      have U95:Am (fun b=> ∃a,sm0.1=some a∧a.block=b) w89 w96:=Am.trans (Am.Bj u93) u95 fun _ _ h=>h
      refine⟨⟨HP U95 n71 0 (by decide),HP U95 n71 1 (by decide),HP U95 n71 2 (by decide),trivial⟩,?_⟩
      have a96:=T94.a.upd u95 fun⟨a,ha,e⟩=>(T94.z m sm0 a hs0 ha).2.1 e
      refine IX (a96.aN (i:=m) (by rw[List.length_map,T94.la];exact m6) (tSl y95) rfl nat1 fun w98 k98 u98=>⟨trivial,?_⟩)
      have T98:=T94.row hs0 o95 u95 h95 (fun z hz=>L94.h.lt z hz) k98 u98
      have L96:=L94.far u95 (fun z hz ⟨a,ha,e⟩=>(T94.z m sm0 a hs0 ha).1 (e▸hz)) fun z ⟨a,ha,e⟩=>e▸(own.blk ha).1
      have L98:=L96.far u98 (fun z hz e=>T.za (e▸hz)) fun z e=>by rw[e];exact old16
      have n16:p71≠p16:=by
        have q:=T.a.lt
        have z1:=G5.size
        have z2:=g68.size
        omega
      have n26: ¬ ∃a,sm0.1=some a∧a.block=p26:=fun⟨a,ha,e⟩=>fr m sm0 a hs0 ha e
      have k98':=((k89.Ai u93).upd u95 n71).upd u98 n16
      have b98:=((b89.Ai u93).upd u95 n26).upd u98 bs26.1
      refine k98'.cA (cs:=KW) (tW ww) rfl (IX (T98.b.aN (i:=m) (by rw[List.length_map,T98.lb];exact m6) (tW ww) rfl nat3 fun w101 k101 u101=>?_))
      refine next (L98.far u101 (fun z hz e=>T.zb (e▸hz)) fun z e=>by rw[e];exact old18) (b98.upd u101 bs26.2) (T98.put k101 u101) (frS y95 fun a ha e=>(h95 a ha).elim (fun⟨a0,h0,e0⟩=>fr m sm0 a0 hs0 h0 (e0▸e)) fun q=>by have:=(b89.Ai u93).lt;omega) (fun j hj=>⟨set_ne _ j hj,Ai1 tk _ hj⟩) (by rw[Aac,List.length_append,List.length_singleton];have:=l2' m (Nat.le_refl _);omega) fun ho y hy=>?_
      rw[set_at] at hy
      injection hy with hy
      subst hy
      rw[Aac]
      exact on
    ·
      have eq:ww=la:=by
        simp only[tW,Bool.and_true,Bool.and_eq_true,beq_iff_eq] at c
        obtain⟨x0,x1,x2⟩:=ww
        obtain⟨y0,y1,y2⟩:=la
        obtain⟨c1,c2,c3⟩:=c
        dsimp only at c1 c2 c3
        rw[c1,c2,c3]
      obtain⟨le,on⟩:=GO.2 eq
      rw[Be]
      have k83:=k79.drew
      have T83:=T79.Aq0
      have b83:=b79.drew
      have L83:=L79.Ai (Af.drew w79)
      have k47e:=(k47d.Ai (Af.refl _)).drew
      generalize w79.drew=w83 at*
      have ee':(t2.rO (m:Int)).2.2.2.2.2.2.1=(d'.es.length:Int):=by rw[ex',Afs o'];rfl
      have ee:(t.rO (m:Int)).2.2.2.2.2.2.1=(d.es.length:Int):=by rw[ex,Afs o];rfl
      refine k47e.c1 6 (c:=KI) (x:=(t2.rO (m:Int)).2.2.2.2.2.2.1) rfl (IX (b83.aF hy (o:=(m:Int).toNat*12) rfl 6 (c:=KI) (v:=(t.rO (m:Int)).2.2.2.2.2.2.1) rfl (Dx (fun q=>?_) fun _=>?_)))
      · exfalso
        have q:(t2.rO (m:Int)).2.2.2.2.2.2.1>(t.rO (m:Int)).2.2.2.2.2.2.1:=q
        rw[ee,ee'] at q
        have q:(d'.es.length:Int)>(d.es.length:Int):=q
        omega
      refine k83.cA (cs:=KW) (tW ww) rfl (IX (T83.b.aN (i:=m) (by rw[List.length_map,T83.lb];exact m6) (tW ww) rfl nat3 fun w9 k9 u9=>?_))
      refine next (L83.far u9 (fun z hz e=>T.zb (e▸hz)) fun z e=>by rw[e];exact old18) (b83.upd u9 bs26.2) (T83.put k9 u9) fr (fun j hj=>⟨set_ne _ j hj,rfl⟩) (l1' m) fun ho y hy=>?_
      rw[set_at] at hy
      injection hy with hy
      subst hy
      exact on
  · exact⟨⟨i+1,by omega,by rw[ni],Z2,t2,ts,ls,tk,L4,eS2,T,fun j=>l1' j,I2,fun j x hx ho y hy=>D1 j x (by have:=(List.getElem?_eq_some_iff.1 hx).1;rw[g2.len,eS2] at this;have c7: ¬(m:Int)<S.nodes:=c7;omega) hx ho y hy⟩,by show _-(wrap .i64 ((i:Int)+1)).toNat<_-((i:Int)).toNat;rw[ni,Int.toNat_natCast,Int.toNat_natCast];omega⟩
theorem U8.fin{cs:List Value}{s:Sl}{w:World}(h:zL w shT cs)(hs:zL w (.sl 11 Amh) [bP s])(hT:Tb w):Ae prog F.U8 [.agg cs.toArray,.slice s.1 s.2.1 s.2.2] w false Wh (Holds w):=by
  obtain⟨S,so,rfl,hR⟩:=kK h
  obtain⟨xs,h1,h2⟩:=kF hs
  exact U8.cl hT hR h1 h2
end Go.Proofs.YticgocmhmffneaaGreatDoor
