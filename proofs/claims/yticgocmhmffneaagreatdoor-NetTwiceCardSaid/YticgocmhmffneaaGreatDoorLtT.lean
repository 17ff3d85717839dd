import Derived.Test.YticgocmhmffneaaGreatDoorMtF
namespace Go.Proofs.YticgocmhmffneaaGreatDoor
open Go Go.Eng Tryz
open Go.IntKind (wrap)
set_option linter.unusedSimpArgs false
set_option linter.unusedVariables false
set_option maxRecDepth 100000
set_option maxHeartbeats 8000000
theorem law27_NetTwice.cl{S:dI}{so s:Sl}{xs:List TAc}{w:World}(hT:Tb w)(hR:Row w so 1 (Na S.own))(hs:aP w s qR xs)(ha: ∀x∈xs,AO w x):Ae prog F.law27_NetTwice [.agg (Q4 S so).toArray,.slice s.1 s.2.1 s.2.2] w false Wh (Holds w):=by
  refine law27_NetTwice.ok (s0:=S.nodes) (s1:=S.tmo) (s2:=S.ign) (s3:=S.need) (s4:=S.Aw) (s5:=S.rnd) (s6:=S.opn) (s7:=S.lim) (s8:=S.jit) (s9:=S.gate) (s10:=so) (script:=s) ?_
  unfold law27_NetTwice.wp
  refine Ad fun p1 w2 e1 k1 u1=>?_
  change Az w2 p1 (Q4 S so) at k1
  refine law27_alive.g (hT.Ai u1) fun w4 u4=>Jl rfl ?_
  have g4:=u1.trans u4
  have k4:=k1.Ai u4
  refine k4.c0 (c:=KI) (x:=S.nodes) rfl (Dx (fun _=>⟨rfl,g4⟩) fun c1=>k4.c1 10 (c:=.sl) (x:=so) rfl (Dx (fun _=>⟨rfl,g4⟩) fun c2=>Dx (fun _=>⟨rfl,g4⟩) fun c3=>?_))
  have c2: ¬(so.2.1:Int)>100:=c2
  have c3: ¬(s.2.1:Int)>120:=c3
  have lo:=Me hR
  have ls:=aP.len hs (by decide)
  refine k4.cA (cs:=KTs) (tsT S so) rfl (Ff.g (Row.Ai hR g4) fun w9 u9=>Ee (fun _=>⟨rfl,g4.trans u9⟩) fun c4=>?_)
  have hg:Wq S=true:=c4
  have g9:=g4.trans u9
  refine(k4.Ai u9).cA (cs:=KTs) (tsT S so) rfl (law27_setup.g (Row.Ai hR g9) (by omega) fun sa w12 r12 u12=>?_)
  refine Io.g hg r12 (by omega) fun n Z w14 h14 z14 u14=>?_
  have g14:=(g9.trans u12).trans u14
  refine(((k4.Ai u9).Ai u12).Ai u14).cA (cs:=KTs) (tsT S so) rfl (law27_setup.g (Row.Ai hR g14) (by omega) fun sb w17 r17 u17=>?_)
  refine Io.g hg r17 (by omega) fun m Y w19 h19 z19 u19=>Jl rfl (Jl rfl ?_)
  have b19:=(((((u4.trans u9).trans u12).trans u14).trans u17).trans u19)
  have s12:=((u4.trans u9).trans u12).size
  have s14:=u14.size
  have s17:=u17.size
  have L0:Aax w2 w19 Z Y n m (wB S none):=⟨⟨(h14.Ai u17).Ai u19,b19,fun z h=>by have:=z14 z h;omega⟩,⟨h19,b19,fun z h=>by have:=z19 z h;omega⟩,fun z h1 h2=>by have:=h14.lt z h1;have:=z19 z h2;omega⟩
  have T2:=hT.Ai u1
  refine Ci.by (fun z W=> ∃i:Nat,i≤xs.length∧z=((i:Int),())∧ ∃Z Y t,Aax w2 W Z Y n m t) (fun z=>xs.length-z.1.toNat) ⟨0,by omega,rfl,_,_,_,L0⟩ ?_
  rintro z W ⟨i,hi,rfl,Z,Y,t,L⟩ _
  have G:=u1.trans L.a.g
  refine Dx (fun c5=>?_) fun c5=>⟨rfl,G⟩
  have hil:i<xs.length:=by have c5:(i:Int)<(s.2.1:Int):=c5;omega
  have hx:xs[i]? =some xs[i]:=List.getElem?_eq_getElem hil
  have hA:AO w xs[i]:=ha _ (List.getElem_mem hil)
  generalize xs[i]=x at hx hA
  obtain⟨a0,a1,a2,a3,a4,a5,a6,a7,a8,a9,a10,⟨⟩⟩:=x
  obtain⟨bs,c,A⟩:=hA.Ai u1
  have hsW:aP W s qR xs:=hs.Ai G
  refine aP.ix hsW (by decide) (z:=(i:Int)) rfl hx fun a hsa=>aP.A8 hsW hsa hx ?_
  refine Ad fun p25 w26 e25 k25 u25=>k25.Fg (encs qR (a0,a1,a2,a3,a4,a5,a6,a7,a8,a9,a10,())) rfl rfl fun w27 k27 u27=>?_
  have f27:Af W w27:=Af.fresh (Af.refl _) u25 u27 e25
  refine k27.cA (cs:=qR) (a0,a1,a2,a3,a4,a5,a6,a7,a8,a9,a10,()) rfl (law27_great.cl (fun w30 u30=>Vt rfl ⟨rfl,(G.trans f27).trans u30⟩) fun sm w30 u30=>Jl rfl ?_)
  have L30:=(L.Ai f27).Ai u30
  refine(k27.Ai u30).cA (cs:=qR) (a0,a1,a2,a3,a4,a5,a6,a7,a8,a9,a10,()) rfl ?_
  refine law27_twice.t L30 T2 A sm fun w33 Z' Y' L33=>Jl rfl ?_
  generalize (doT _ bs c t).1=t' at L33
  refine Dv.t L33.a.h (Dv.t L33.b.h (Jl (by simp) (Bq.t L33.a.h (Bq.t L33.b.h (Jl (by simp) ?_)))))
  refine Ci.by (fun z W'=>Af w33 W'∧ ∃j:Nat,j≤S.nodes.toNat∧z=((j:Int),())) (fun z=>S.nodes.toNat-z.1.toNat) ⟨Af.refl _,0,by omega,rfl⟩ ?_
  rintro z W' ⟨g33,j,hj,rfl⟩ _
  have L':=L33.Ai g33
  have kW:=k1.Ai L'.a.g
  have n6: ¬S.nodes>6:=c1
  refine kW.c0 (c:=KI) (x:=S.nodes) rfl (Dx (fun c6=>?_) fun c6=>?_)
  · have hjl:j<S.nodes.toNat:=by have c6:(j:Int)<S.nodes:=c6;omega
    have nx:wrap .i64 ((j:Int)+1)=((j+1:Nat):Int):=by rw[Ah (by unfold I64;omega)];rfl
    refine Dq.u L'.a.h fun w47 u47=>Ad fun p48 w49 e48 k48 u48=>k48.Fg (encs K5 (Yc (t'.tim j).1)) rfl rfl fun w50 k50 v50=>?_
    have f50:Af W' w50:=Af.fresh u47 u48 v50 e48
    have L50:=L'.Ai f50
    refine Dq.u L50.b.h fun w52 u52=>Ad fun p53 w54 e53 k53 u53=>k53.Fg (encs K5 (Yc (t'.tim j).1)) rfl rfl fun w55 k55 v55=>?_
    have f55:Af w50 w55:=Af.fresh u52 u53 v55 e53
    have L55:=L50.Ai f55
    refine Bo.t L55.a.h fun w57 u57=>Bo.t (L55.Ai u57).b.h fun w59 u59=>Jl (by simp) ?_
    refine((k50.Ai f55).Ai (u57.trans u59)).cA (cs:=K5) (Yc (t'.tim j).1) rfl ((k55.Ai (u57.trans u59)).cA (cs:=K5) (Yc (t'.tim j).1) rfl (Jl (by simp) (Jl (by simp) ?_)))
    exact⟨⟨(((g33.trans f50).trans f55).trans u57).trans u59,j+1,by omega,by rw[nx]⟩,by show _-(wrap .i64 ((j:Int)+1)).toNat<_-((j:Int)).toNat;rw[nx,Int.toNat_natCast,Int.toNat_natCast];omega⟩
  · have ni:wrap .i64 ((i:Int)+1)=((i+1:Nat):Int):=by rw[Ah (by unfold I64;omega)];rfl
    exact⟨⟨i+1,by omega,by rw[ni],Z',Y',t',L'⟩,by show _-(wrap .i64 ((i:Int)+1)).toNat<_-((i:Int)).toNat;rw[ni,Int.toNat_natCast,Int.toNat_natCast];omega⟩
theorem law27_NetTwice.fin{cs:List Value}{s:Sl}{w:World}(h:zL w shT cs)(hs:zL w (.sl 11 Amh) [bP s])(hT:Tb w):Ae prog F.law27_NetTwice [.agg cs.toArray,.slice s.1 s.2.1 s.2.2] w false Wh (Holds w):=by
  obtain⟨S,so,rfl,hR⟩:=kK h
  obtain⟨xs,h1,h2⟩:=kF hs
  exact law27_NetTwice.cl hT hR h1 h2
end Go.Proofs.YticgocmhmffneaaGreatDoor
