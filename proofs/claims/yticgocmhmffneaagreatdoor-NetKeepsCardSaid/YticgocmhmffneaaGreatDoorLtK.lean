import Derived.Test.YticgocmhmffneaaGreatDoorMtK
namespace Go.Proofs.YticgocmhmffneaaGreatDoor
open Go Go.Eng Tryz
open Go.IntKind (wrap)
set_option linter.unusedSimpArgs false
set_option linter.unusedVariables false
set_option maxRecDepth 100000
set_option maxHeartbeats 8000000
theorem law27_NetKeeps.cl{S:dI}{so s:Sl}{xs:List TAc}{w:World}(hT:Tb w)(hR:Row w so 1 (Na S.own))(hs:aP w s qR xs)(ha: ∀x∈xs,AO w x):Ae prog F.law27_NetKeeps [.agg (Q4 S so).toArray,.slice s.1 s.2.1 s.2.2] w false Wh (Holds w):=by
  refine law27_NetKeeps.ok (s0:=S.nodes) (s1:=S.tmo) (s2:=S.ign) (s3:=S.need) (s4:=S.Aw) (s5:=S.rnd) (s6:=S.opn) (s7:=S.lim) (s8:=S.jit) (s9:=S.gate) (s10:=so) (script:=s) ?_
  unfold law27_NetKeeps.wp
  refine Ad fun p1 w2 e1 k1 u1=>?_
  change Az w2 p1 (Q4 S so) at k1
  refine law27_alive.g (hT.Ai u1) fun w4 u4=>Jl rfl ?_
  have g4:=u1.trans u4
  have k4:=k1.Ai u4
  refine k4.c0 (c:=KI) (x:=S.nodes) rfl (Dx (fun _=>⟨rfl,g4⟩) fun c1=>k4.c1 10 (c:=.sl) (x:=so) rfl (Dx (fun _=>⟨rfl,g4⟩) fun c2=>Dx (fun _=>⟨rfl,g4⟩) fun c3=>?_))
  have c2: ¬(so.2.1:Int)>100:=c2
  have c3: ¬(s.2.1:Int)>150:=c3
  have lo:=Me hR
  have ls:=aP.len hs (by decide)
  refine k4.cA (cs:=KTs) (tsT S so) rfl (Ff.g (Row.Ai hR g4) fun w9 u9=>Ee (fun _=>⟨rfl,g4.trans u9⟩) fun c4=>?_)
  have hg:Wq S=true:=c4
  have g9:=g4.trans u9
  refine(k4.Ai u9).cA (cs:=KTs) (tsT S so) rfl (law27_setup.g (Row.Ai hR g9) (by omega) fun sa w12 r12 u12=>?_)
  refine Io.g hg r12 (by omega) fun n Z w14 h14 z14 u14=>Jl rfl ?_
  have b14:=((u4.trans u9).trans u12).trans u14
  have s12:=((u4.trans u9).trans u12).size
  have L0:dW w2 w14 Z n (wB S none):=⟨h14,b14,fun z h=>by have:=z14 z h;omega⟩
  have T2:=hT.Ai u1
  refine Ci.by (fun z W=> ∃i:Nat,i≤xs.length∧z=((i:Int),())∧ ∃Z t,dW w2 W Z n t) (fun z=>xs.length-z.1.toNat) ⟨0,by omega,rfl,_,_,L0⟩ ?_
  rintro z W ⟨i,hi,rfl,Z,t,L⟩ _
  have G:=u1.trans L.g
  refine Dx (fun c5=>?_) fun c5=>⟨rfl,G⟩
  have hil:i<xs.length:=by have c5:(i:Int)<(s.2.1:Int):=c5;omega
  have hx:xs[i]? =some xs[i]:=List.getElem?_eq_getElem hil
  have hA:AO w xs[i]:=ha _ (List.getElem_mem hil)
  generalize xs[i]=x at hx hA
  obtain⟨a0,a1,a2,a3,a4,a5,a6,a7,a8,a9,a10,⟨⟩⟩:=x
  obtain⟨bs,c,A⟩:=hA.Ai u1
  have hsW:aP W s qR xs:=hs.Ai G
  refine aP.ix hsW (by decide) (z:=(i:Int)) rfl hx fun a hsa=>aP.A8 hsW hsa hx ?_
  refine Ad fun p25 w26 e25 k25 u25=>k25.Fg (encs qR (a0,a1,a2,a3,a4,a5,a6,a7,a8,a9,a10,())) rfl rfl fun w27 k27 u27=>?_
  have f27:Af W w27:=Af.fresh (Af.refl _) u25 u27 e25
  refine k27.cA (cs:=qR) (a0,a1,a2,a3,a4,a5,a6,a7,a8,a9,a10,()) rfl (law27_great.cl (fun w30 u30=>Vt rfl ⟨rfl,(G.trans f27).trans u30⟩) fun sm w30 u30=>Jl rfl ?_)
  have L30:=(L.Ai f27).Ai u30
  have K30:Az w30 p25 (encs qR (a0,a1,a2,a3,a4,a5,a6,a7,a8,a9,a10,())):=k27.Ai u30
  have raw:=A.raw
  have n6: ¬S.nodes>6:=c1
  have ni:wrap .i64 ((i:Int)+1)=((i+1:Nat):Int):=by rw[Ah (by unfold I64;omega)];rfl
  refine Ad fun p26 w31 e31 k31 u31=>?_
  change Az w31 p26 ((List.replicate 6 zSt).flatMap (encs dL)) at k31
  refine Ci.by (fun z W'=> ∃(j:Nat) (ys:List (Jf dL)),j≤S.nodes.toNat∧z=((j:Int),())∧Am (fun z=>z=p26) w31 W'∧Az W' p26 (ys.flatMap (encs dL))∧ys.length=6∧ ∀m:Nat,m<j→ys[m]? =some (t.rO (m:Int))) (fun z=>S.nodes.toNat-z.1.toNat) ⟨0,_,by omega,rfl,Am.refl _ _,k31,by decide,fun m h=>by omega⟩ ?_
  rintro z W1 ⟨j,ys,hj,rfl,v1,b1,l1,q1⟩ _
  have f1:Af w30 W1:=Af.fresh (Af.refl _) u31 v1 e31
  have L1:=L30.Ai f1
  refine(k1.Ai L1.g).c0 (c:=KI) (x:=S.nodes) rfl (Dx (fun c6=>?_) fun c6=>?_)
  · have hjl:j<S.nodes.toNat:=by have c6:(j:Int)<S.nodes:=c6;omega
    have nj:wrap .i64 ((j:Int)+1)=((j+1:Nat):Int):=by rw[Ah (by unfold I64;omega)];rfl
    refine Bo.t L1.h fun w33 u33=>?_
    rw[Tq ⟨by omega,by omega⟩]
    refine(b1.Ai u33).aN (i:=j) (by omega) (t.rO (j:Int)) rfl (o:=(j:Int).toNat*12) rfl fun w35 b35 u35=>?_
    refine⟨⟨j+1,_,by omega,by rw[nj],(v1.Ai u33).trans u35 fun _ _ h=>h,b35,by rw[List.length_set];exact l1,fun m hm=>?_⟩,by show _-(wrap .i64 ((j:Int)+1)).toNat<_-((j:Int)).toNat;rw[nj,Int.toNat_natCast,Int.toNat_natCast];omega⟩
    rw[List.getElem?_set]
    by_cases e:j=m
    · subst e
      rw[if_pos rfl,if_pos (by omega)]
    · rw[if_neg e]
      exact q1 m (by omega)
  have hjn:j=S.nodes.toNat:=by have c6: ¬(j:Int)<S.nodes:=c6;omega
  have K1:=K30.Ai f1
  have z25:=L.h.lt
  have nZ: ¬Z p25:=fun q=>by have:=z25 p25 q;omega
  have nY: ¬Z p26:=fun q=>by have:=L30.h.lt p26 q;omega
  have lt1:=K1.lt
  have lt2:=b1.lt
  refine Bq.t L1.h (Dv.t L1.h ?_)
  have fin: ∀{w':World} {Z':NP} {t':Nt},TW w' Z' n t'→Nx Z W1 Z' w'→Az w' p25 (encs qR (a0,a1,a2,a3,a4,a5,a6,a7,a8,a9,a10,()))∧Az w' p26 (ys.flatMap (encs dL))∧dW w2 w' Z' n t':=fun h x=>⟨K1.upd x.u nZ,b1.upd x.u nY,L1.nx h x⟩
  refine Cc.by (fun z W'=> ∃Z' t',Az W' p25 (encs qR (a0,a1,a2,a3,a4,a5,a6,a7,a8,a9,a10,()))∧Az W' p26 (ys.flatMap (encs dL))∧dW w2 W' Z' n t'∧(z.1≠0→ ¬(a0=9∧z.1=6)→t'=t)) ?_ ?_
  · refine K1.c0 (c:=KI) (x:=a0) rfl (Yl (fun e=>?_) fun e0=>Yl (fun e=>?_) fun e1=>Yl (fun e=>?_) fun e2=>?_)
    · refine K1.c1 1 (c:=KI) (x:=a1) rfl (K1.c1 2 (c:=KI) (x:=a2) rfl (K1.c1 3 (c:=.b) (x:=a3) rfl ?_))
      refine Cf.t L1.h fun w20 h1 v1=>?_
      have F:=fin h1 ⟨v1,fun z h=>.inl h⟩
      exact⟨_,_,F.1,F.2.1,F.2.2,fun q _=>Apd q⟩
    · refine K1.c1 1 (c:=KI) (x:=a1) rfl (K1.c1 4 (c:=.i .u32) (x:=a4) rfl ?_)
      refine D7.t L1.h raw.1 raw.2 fun w20 Z1 h1 x1=>?_
      have F:=fin h1 x1
      exact⟨_,_,F.1,F.2.1,F.2.2,fun q _=>uO (fun d h _=>absurd rfl h) q⟩
    · refine K1.c1 1 (c:=KI) (x:=a1) rfl ?_
      refine Gy.t L1.h fun w20 Z1 h1 x1=>?_
      have F:=fin h1 x1
      exact⟨_,_,F.1,F.2.1,F.2.2,fun q _=>uO (fun d h _=>As3 h) q⟩
    · refine Cc.by (fun z W=>z=(decide (a0=3∨a0=4∨a0=5∨a0=6),())∧W1=W) ?_ ?_
      · refine Yl (fun e=>⟨by rw[e];rfl,rfl⟩) fun e3=>Yl (fun e=>⟨by rw[e];rfl,rfl⟩) fun e4=>Yl (fun e=>⟨by rw[e];rfl,rfl⟩) fun e5=>⟨?_,rfl⟩
        by_cases e6:a0=6
        · rw[e6];rfl
        · rw[beq_false_of_ne e6,decide_eq_false fun h=>h.elim e3 fun h=>h.elim e4 fun h=>h.elim e5 e6]
      rintro z W' ⟨rfl,rfl⟩ _
      refine bM (fun e=>?_) fun e=>?_
      · have e:a0=3∨a0=4∨a0=5∨a0=6:=of_decide_eq_true e
        have G1:=L1.g
        have cl:Ajq c:=A.Abk sm
        refine K1.cN 7 (cs:=K4s) (a7,a8,a9,a10,()) rfl ?_
        refine law27_choice.cl (c:=c) (Row.Ai A.t G1) (Row.Ai A.s G1) (Row.Ai A.h G1) (Row.Ai A.l G1) A.lb cl fun y0 y1 y2 y3 w46 u46 hC=>?_
        have L46:=L1.Ai u46
        refine Ce.g (t:=t) (c:=c) L46.h (T2.Ai L46.g) (L46.n0 T2) (hC Z L1.h.lt) fun w48 Z2 h2 x2=>?_
        have F:=fin h2 (Nx.pre u46 x2)
        exact⟨_,_,F.1,F.2.1,F.2.2,fun q _=>Ap9 q⟩
      have e: ¬(a0=3∨a0=4∨a0=5∨a0=6):=of_decide_eq_false e
      refine Yl (fun e7=>?_) fun e7=>Yl (fun e9=>?_) fun e9=>Yl (fun e10=>?_) fun e10=>?_
      · refine K1.c1 1 (c:=KI) (x:=a1) rfl (K1.c1 5 (c:=.s) (x:=a5) rfl ?_)
        have hs5:a5.size≤1000000:=by have h5:a5.size≤100:=sm.s;omega
        refine Jz.t L1.h hs5 fun x w20 Z1 h1 x1=>?_
        have F:=fin h1 x1
        exact⟨_,_,F.1,F.2.1,F.2.2,fun q _=>uO (fun d h _=>Ar4 h) q⟩
      · refine K1.c1 1 (c:=KI) (x:=a1) rfl (K1.c1 2 (c:=KI) (x:=a2) rfl ?_)
        refine Gz.t L1.h fun w20 Z1 h1 x1=>?_
        have F:=fin h1 x1
        exact⟨_,_,F.1,F.2.1,F.2.2,fun q q6=>uO (fun d h e=>Asp h fun y=>q6 ⟨e9,e.trans y⟩) q⟩
      · refine K1.c1 1 (c:=KI) (x:=a1) rfl (K1.c1 6 (c:=.sl) (x:=a6) rfl ?_)
        refine Eg.t L1.h A.by' (Row.Ai A.b L1.g) A.bc fun w20 Z1 h1 x1=>?_
        have F:=fin h1 x1
        refine Jl (beq_false_of_ne Ap6) ?_
        exact⟨_,_,F.1,F.2.1,F.2.2,fun q _=>uO (fun d h _=>(Ab6 _ d).1) Ap6⟩
      · exact⟨_,_,K1,b1,L1,fun q=>absurd rfl q⟩
  rintro z W2 ⟨Z2,t2,K2,b2,L2,hk⟩ _
  have next: ∀{W3:World} {t3:Nt},dW w2 W3 Z2 n t3→(∃i':Nat,i'≤xs.length∧(wrap .i64 ((i:Int)+1),())=((i':Int),())∧ ∃Z t,dW w2 W3 Z n t)∧xs.length-(wrap .i64 ((i:Int)+1),()).1.toNat<xs.length-((i:Int),()).1.toNat:=fun h=>⟨⟨i+1,by omega,by rw[ni],_,_,h⟩,by show _-(wrap .i64 ((i:Int)+1)).toNat<_-((i:Int)).toNat;rw[ni,Int.toNat_natCast,Int.toNat_natCast];omega⟩
  refine Cc.by (fun _ W3=>W2=W3∧t2=t) ?_ ?_
  · refine Yl (fun e=>next L2) fun e=>K2.c0 (c:=KI) (x:=a0) rfl (Yl (fun e9=>Yl (fun e6=>next L2) fun e6=>⟨rfl,hk e fun y=>e6 y.2⟩) fun e9=>⟨rfl,hk e fun y=>e9 y.1⟩)
  rintro _ W3 ⟨rfl,rfl⟩ _
  refine Ci.by (fun z W'=>Af W2 W'∧ ∃j:Nat,j≤S.nodes.toNat∧z=((j:Int),())) (fun z=>S.nodes.toNat-z.1.toNat) ⟨Af.refl _,0,by omega,rfl⟩ ?_
  rintro z W4 ⟨g4',m,hm,rfl⟩ _
  have L4:=L2.Ai g4'
  refine(k1.Ai L4.g).c0 (c:=KI) (x:=S.nodes) rfl (Dx (fun c7=>?_) fun c7=>?_)
  · have hml:m<S.nodes.toNat:=by have c7:(m:Int)<S.nodes:=c7;omega
    have nm:wrap .i64 ((m:Int)+1)=((m+1:Nat):Int):=by rw[Ah (by unfold I64;omega)];rfl
    rw[Be]
    have L5:=L4.Ai (Af.drew W4)
    have b5:=(b2.Ai g4').drew
    have g5:=Af.drew W4
    generalize W4.drew=w5 at*
    rw[Tq ⟨by omega,by omega⟩]
    refine b5.aL (q1 m (by omega)) (o:=(m:Int).toNat*12) rfl ?_
    refine Bo.t L5.h fun w7 u7=>?_
    have hl:(ys.flatMap (encs dL)).length=72:=by rw[cO,l1];rfl
    have H:=fun(j:Nat) (hj:j<12)=>b5.X3 u7 (fun x=>x) ((m:Int).toNat*12) j (by rw[hl,Int.toNat_natCast];omega)
    refine⟨⟨H 0 (by decide),H 1 (by decide),H 2 (by decide),H 3 (by decide),H 4 (by decide),H 5 (by decide),H 6 (by decide),H 7 (by decide),H 8 (by decide),H 9 (by decide),H 10 (by decide),H 11 (by decide),trivial⟩,?_⟩
    refine Jl (by simp) ?_
    exact⟨⟨(g4'.trans g5).trans u7,m+1,by omega,by rw[nm]⟩,by show _-(wrap .i64 ((m:Int)+1)).toNat<_-((m:Int)).toNat;rw[nm,Int.toNat_natCast,Int.toNat_natCast];omega⟩
  · refine Bq.t L4.h (Jl (by simp) (Dv.t L4.h (Jl (by simp) ?_)))
    exact next L4
theorem law27_NetKeeps.fin{cs:List Value}{s:Sl}{w:World}(h:zL w shT cs)(hs:zL w (.sl 11 Amh) [bP s])(hT:Tb w):Ae prog F.law27_NetKeeps [.agg cs.toArray,.slice s.1 s.2.1 s.2.2] w false Wh (Holds w):=by
  obtain⟨S,so,rfl,hR⟩:=kK h
  obtain⟨xs,h1,h2⟩:=kF hs
  exact law27_NetKeeps.cl hT hR h1 h2
end Go.Proofs.YticgocmhmffneaaGreatDoor
