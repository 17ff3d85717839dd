import Derived.Test.YticgocmhmffneaaGreatDoorMtK
namespace Go.Proofs.YticgocmhmffneaaGreatDoor
open Go Go.Eng Tryz
open Go.IntKind (wrap)
set_option linter.unusedSimpArgs false
set_option linter.unusedVariables false
set_option maxRecDepth 100000
set_option maxHeartbeats 8000000
theorem law27_NetIdle.cl{S:dI}{so s:Sl}{xs:List TAc}{w:World}(hT:Tb w)(hR:Row w so 1 (Na S.own))(hs:aP w s qR xs)(ha: ∀x∈xs,AO w x):Ae prog F.law27_NetIdle [.agg (Q4 S so).toArray,.slice s.1 s.2.1 s.2.2] w false Wh (Holds w):=by
  refine law27_NetIdle.ok (s0:=S.nodes) (s1:=S.tmo) (s2:=S.ign) (s3:=S.need) (s4:=S.Aw) (s5:=S.rnd) (s6:=S.opn) (s7:=S.lim) (s8:=S.jit) (s9:=S.gate) (s10:=so) (script:=s) ?_
  unfold law27_NetIdle.wp
  refine Ad fun p1 w2 e1 k1 u1=>?_
  change Az w2 p1 (Q4 S so) at k1
  refine law27_alive.g (hT.Ai u1) fun w4 u4=>Jl rfl ?_
  have g4:=u1.trans u4
  have k4:=k1.Ai u4
  refine k4.c0 (c:=KI) (x:=S.nodes) rfl (Dx (fun _=>⟨rfl,g4⟩) fun c1=>k4.c1 10 (c:=.sl) (x:=so) rfl (Dx (fun _=>⟨rfl,g4⟩) fun c2=>Dx (fun _=>⟨rfl,g4⟩) fun c3=>?_))
  have c2: ¬(so.2.1:Int)>100:=c2
  have c3: ¬(s.2.1:Int)>100:=c3
  have lo:=Me hR
  have ls:=aP.len hs (by decide)
  refine k4.cA (cs:=KTs) (tsT S so) rfl (Ff.g (Row.Ai hR g4) fun w9 u9=>Ee (fun _=>⟨rfl,g4.trans u9⟩) fun c4=>?_)
  have hg:Wq S=true:=c4
  have g9:=g4.trans u9
  refine(k4.Ai u9).cA (cs:=KTs) (tsT S so) rfl (law27_setup.g (Row.Ai hR g9) (by omega) fun sa w12 r12 u12=>?_)
  refine Io.g hg r12 (by omega) fun n Z w14 h14 z14 u14=>Jl rfl ?_
  have b14:=((u4.trans u9).trans u12).trans u14
  have s12:=((u4.trans u9).trans u12).size
  have L0:dW w2 w14 Z n (wB S none):=⟨h14,b14,fun z h=>by have:=z14 z h;omega⟩
  have T2:=hT.Ai u1
  refine Ci.by (fun z W=> ∃i:Nat,i≤xs.length∧ ∃Z t,dW w2 W Z n t∧Idl S t∧z=(t.steps,(i:Int),())) (fun z=>xs.length-z.2.1.toNat) ⟨0,by omega,_,_,L0,Idl.wB S,rfl⟩ ?_
  rintro z W ⟨i,hi,Z,t,L,D,rfl⟩ _
  have G:=u1.trans L.g
  refine Dx (fun c5=>?_) fun c5=>⟨rfl,G⟩
  have hil:i<xs.length:=by have c5:(i:Int)<(s.2.1:Int):=c5;omega
  have hx:xs[i]? =some xs[i]:=List.getElem?_eq_getElem hil
  have hA:AO w xs[i]:=ha _ (List.getElem_mem hil)
  generalize xs[i]=x at hx hA
  obtain⟨a0,a1,a2,a3,a4,a5,a6,a7,a8,a9,a10,⟨⟩⟩:=x
  obtain⟨bs,c,A⟩:=hA.Ai u1
  have hsW:aP W s qR xs:=hs.Ai G
  refine aP.ix hsW (by decide) (z:=(i:Int)) rfl hx fun a hsa=>aP.A8 hsW hsa hx ?_
  refine Ad fun p25 w26 e25 k25 u25=>k25.Fg (encs qR (a0,a1,a2,a3,a4,a5,a6,a7,a8,a9,a10,())) rfl rfl fun w27 k27 u27=>?_
  have f27:Af W w27:=Af.fresh (Af.refl _) u25 u27 e25
  refine k27.cA (cs:=qR) (a0,a1,a2,a3,a4,a5,a6,a7,a8,a9,a10,()) rfl (law27_great.cl (fun w30 u30=>Vt rfl ⟨rfl,(G.trans f27).trans u30⟩) fun sm w30 u30=>Jl rfl ?_)
  have T':=T2
  have L30:=(L.Ai f27).Ai u30
  have K30:Az w30 p25 (encs qR (a0,a1,a2,a3,a4,a5,a6,a7,a8,a9,a10,())):=k27.Ai u30
  have nZ: ¬Z p25:=fun q=>by have:=L.h.lt p25 q;omega
  refine Cc.by (fun _ W'=>Az W' p25 (encs qR (a0,a1,a2,a3,a4,a5,a6,a7,a8,a9,a10,()))∧ ∃Z t',dW w2 W' Z n t'∧Idl S t'∧t'.steps=t.steps) ?_ ?_
  · refine K30.c0 (c:=KI) (x:=a0) rfl (Yl (fun e=>?_) fun e=>⟨K30,_,t,L30,D,rfl⟩)
    refine K30.c1 1 (c:=KI) (x:=a1) rfl (K30.c1 2 (c:=KI) (x:=a2) rfl (K30.c1 3 (c:=.b) (x:=a3) rfl ?_))
    exact Cf.t L30.h fun w20 h1 v1=>⟨K30.upd v1 nZ,Z,_,L30.nx h1 ⟨v1,fun z h=>.inl h⟩,D.link _ _ _,Ai5 _ _ _ _⟩
  rintro z W' ⟨K1,Z1,t1,L1,D1,es⟩ _
  refine Cc.by (fun z W''=> ∃Z2 t2,dW w2 W'' Z2 n t2∧Idl S t2∧z=(t2.steps,())) ?_ ?_
  · refine K1.c0 (c:=KI) (x:=a0) rfl (Dx (fun d1=>?_) fun d1=>⟨_,_,L1,D1,by rw[es]⟩)
    refine K1.c0 (c:=KI) (x:=a0) rfl (Dx (fun d2=>?_) fun d2=>⟨_,_,L1,D1,by rw[es]⟩)
    have G1:=L1.g
    have cl:Ajq c:=A.Abk sm
    refine K1.cN 7 (cs:=K4s) (a7,a8,a9,a10,()) rfl ?_
    refine law27_choice.cl (c:=c) (Row.Ai A.t G1) (Row.Ai A.s G1) (Row.Ai A.h G1) (Row.Ai A.l G1) A.lb cl fun y0 y1 y2 y3 w46 u46 hC=>?_
    have L46:=L1.Ai u46
    refine Ce.g (t:=t1) (c:=c) L46.h (T2.Ai L46.g) (L46.n0 T2) (hC Z1 L1.h.lt) fun w48 Z2 h2 x2=>?_
    have st:=D1.step c
    refine Yl (fun e=>⟨Z2,_,L46.nx h2 x2,st.1,?_⟩) fun e=>⟨Z2,_,L46.nx h2 x2,st.1,?_⟩
    · rw[st.2,if_pos e,es]
    · rw[st.2,if_neg e,es]
  rintro z W3 ⟨Z2,t2,L2,D2,rfl⟩ _
  refine Dv.t L2.h (Jl (by show((t2.sent:Int) !=0)=false;rw[D2.n];rfl) (Bq.t L2.h (Jl (by simp) ?_)))
  refine Jv.t L2.h fun se w50 u50 rE=>?_
  have lE:=aP.len rE (by decide)
  rw[List.length_map] at lE
  refine Ci.by (fun z W4=>Af W3 W4∧aP W4 se KE (t2.ears.map eT)∧ ∃j:Nat,j≤t2.ears.length∧z=((j:Int),())) (fun z=>t2.ears.length-z.1.toNat) ⟨u50,rE,0,by omega,rfl⟩ ?_
  rintro z W4 ⟨g4',rE4,j,hj,rfl⟩ _
  refine Dx (fun c6=>?_) fun c6=>?_
  · have hjl:j<t2.ears.length:=by have c6:(j:Int)<(se.2.1:Int):=c6;omega
    have hy:t2.ears[j]? =some (-1,0):=by
      rw[List.getElem?_eq_getElem hjl]
      exact congrArg some (D2.e _ (List.getElem_mem hjl))
    have hx:(t2.ears.map eT)[j]? =some (-1,0,()):=by rw[List.getElem?_map,hy];rfl
    have nx:wrap .i64 ((j:Int)+1)=((j+1:Nat):Int):=by
      have:=L2.h.1.el
      rw[Ah (by unfold I64;omega)];rfl
    refine aP.ix rE4 (by decide) (z:=(j:Int)) rfl hx fun a hsa=>aP.A8 rE4 hsa hx ?_
    refine Ad fun p56 w57 e56 k56 u56=>k56.Fg (encs KE (-1,0,())) rfl rfl fun w58 k58 u58=>?_
    have f58:Af W4 w58:=Af.fresh (Af.refl _) u56 u58 e56
    refine k58.c0 (c:=KI) (x:= -1) rfl (Jl rfl (k58.c1 1 (c:=KI) (x:=0) rfl (Jl rfl ?_)))
    exact⟨⟨g4'.trans f58,rE4.Ai f58,j+1,by omega,by rw[nx]⟩,by show _-(wrap .i64 ((j:Int)+1)).toNat<_-((j:Int)).toNat;rw[nx,Int.toNat_natCast,Int.toNat_natCast];omega⟩
  · refine Ci.by (fun z W5=>Af W4 W5∧ ∃j:Nat,j≤S.nodes.toNat∧z=((j:Int),())) (fun z=>S.nodes.toNat-z.1.toNat) ⟨Af.refl _,0,by omega,rfl⟩ ?_
    rintro z W5 ⟨g5,q,hq,rfl⟩ _
    have L5:=(L2.Ai g4').Ai g5
    have kW:=k1.Ai L5.g
    have n6: ¬S.nodes>6:=c1
    refine kW.c0 (c:=KI) (x:=S.nodes) rfl (Dx (fun c7=>?_) fun c7=>?_)
    · have hql:q<S.nodes.toNat:=by have c7:(q:Int)<S.nodes:=c7;omega
      have nx:wrap .i64 ((q:Int)+1)=((q+1:Nat):Int):=by rw[Ah (by unfold I64;omega)];rfl
      have tl:=D2.tells hql
      refine Dq.u L5.h fun w66 u66=>Ad fun p67 w68 e67 k67 u67=>k67.Fg (encs K5 (Yc (t2.tim q).1)) rfl rfl fun w69 k69 u69=>?_
      have f69:Af W5 w69:=Af.fresh u66 u67 u69 e67
      refine Jl (by show((t2.tim (q:Int)).2 !=10)=false;rw[tl.1];rfl) ?_
      refine Bo.t (L5.Ai f69).h fun w71 u71=>Jl (by rw[tl.2];rfl) ?_
      exact⟨⟨(g5.trans f69).trans u71,q+1,by omega,by rw[nx]⟩,by show _-(wrap .i64 ((q:Int)+1)).toNat<_-((q:Int)).toNat;rw[nx,Int.toNat_natCast,Int.toNat_natCast];omega⟩
    · have ni:wrap .i64 ((i:Int)+1)=((i+1:Nat):Int):=by rw[Ah (by unfold I64;omega)];rfl
      exact⟨⟨i+1,by omega,_,t2,L5,D2,by rw[ni]⟩,by show _-(wrap .i64 ((i:Int)+1)).toNat<_-((i:Int)).toNat;rw[ni,Int.toNat_natCast,Int.toNat_natCast];omega⟩
theorem law27_NetIdle.fin{cs:List Value}{s:Sl}{w:World}(h:zL w shT cs)(hs:zL w (.sl 11 Amh) [bP s])(hT:Tb w):Ae prog F.law27_NetIdle [.agg cs.toArray,.slice s.1 s.2.1 s.2.2] w false Wh (Holds w):=by
  obtain⟨S,so,rfl,hR⟩:=kK h
  obtain⟨xs,h1,h2⟩:=kF hs
  exact law27_NetIdle.cl hT hR h1 h2
end Go.Proofs.YticgocmhmffneaaGreatDoor
