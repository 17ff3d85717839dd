import Derived.Test.YticgocmhmffneaaGreatDoorNwB
namespace Go.Proofs.YticgocmhmffneaaGreatDoor
open Go Go.Eng Tryz
open Go.IntKind (wrap)
set_option linter.unusedSimpArgs false
set_option linter.unusedVariables false
set_option maxRecDepth 100000
set_option maxHeartbeats 8000000
theorem aP.fld{w:World}{s:Sl}{cs:List CK}{xs:List (Jf cs)}(h:aP w s cs xs){a:Addr}(ha:s.1=some a){i:Nat}{x:Jf cs}(hi:xs[i]? =some x)(p:Nat){c:CK}{v:Tv c}(hv:(encs cs x)[p]? =some (enc c v)){k:Tv c→Prop}(hk:k v):ld1 c ((a.add (((i:Int)).toNat*cs.length)).add p) w k:=by
  rw[add_add,Int.toNat_natCast]
  exact Zj (Row.ld h ha (flat_get hi p _ hv)) (lT c v) hk
structure Two(w W:World)(c e:Ch)(p q:Nat)(y0 y1 y2 y3 v0 v1 v2 v3:Sl):Prop where
  kp:Az W p [bP y0,bP y1,bP y2,bP y3]
  kq:Az W q [bP v0,bP v1,bP v2,bP v3]
  np:p≠q
  lp:w.heap.size≤p
  lq:w.heap.size≤q
  yt:Row W y0 1 (Na c.ticks)
  ys:Row W y1 1 (Na c.send)
  yh:Row W y2 1 (Na c.hear)
  yl:Row W y3 1 (iY c.lost)
  vt:Row W v0 1 (Na e.ticks)
  vs:Row W v1 1 (Na e.send)
  vh:Row W v2 1 (Na e.hear)
  vl:Row W v3 1 (iY e.lost)
  cb: ∀x∈c.lost,x<18446744073709551616
  eb: ∀x∈e.lost,x<18446744073709551616
  yb: ∀s,(s=y0∨s=y1∨s=y2∨s=y3)→ ∀a,s.1=some a→w.heap.size≤a.block∧a.block<W.heap.size
  vb: ∀s,(s=v0∨s=v1∨s=v2∨s=v3)→ ∀a,s.1=some a→w.heap.size≤a.block∧a.block<W.heap.size
  vk: ∀a,v3.1=some a→a=⟨a.block,0,none⟩∧ ∃cs,Az W a.block cs
  vd: ∀a,v3.1=some a→a.block≠p∧a.block≠q∧ ∀s,(s=y0∨s=y1∨s=y2∨s=y3∨s=v0∨s=v1∨s=v2)→ ∀b,s.1=some b→b.block≠a.block
theorem Ap{w wA wA' wB wB' W0 W1 W2:World}{c:Ch}{p q:Nat}{y0 y1 y2 y3 v0 v1 v2 v3:Sl}(hy:ChO wA wA' c y0 y1 y2 y3)(hv:ChO wB wB' c v0 v1 v2 v3)(gA:Af w wA)(gA':Af wA wA')(gB:Af wA' wB)(gB':Af wB wB')(g0:Af wB' W0)
    (lp:w.heap.size≤p) (lq:w.heap.size≤q) (np:p≠q) (pA:p<wA.heap.size∨wA'.heap.size≤p) (pB:p<wB.heap.size∨wB'.heap.size≤p) (qA:q<wA.heap.size∨wA'.heap.size≤q) (qB:q<wB.heap.size∨wB'.heap.size≤q)
    (k1:Az W1 p [bP y0,bP y1,bP y2,bP y3]) (u1:Am (fun z=>z=p) W0 W1) (k2:Az W2 q [bP v0,bP v1,bP v2,bP v3]) (u2:Am (fun z=>z=q) W1 W2):Two w W2 c c p q y0 y1 y2 y3 v0 v1 v2 v3:=by
  have a1:=gA.size
  have a2:=gA'.size
  have a3:=gB.size
  have a4:=gB'.size
  have a5:=g0.size
  have a6:=u1.size
  have a7:=u2.size
  have U:Am (fun z=>z=p∨z=q) W0 W2:=Am.trans (u1.mono fun _ h=>.inl h) (u2.mono fun _ h=>.inr h) fun _ _ h=>h
  have UA:Am (fun z=>z=p∨z=q) wA' W2:=Am.trans (Am.Bj ((gB.trans gB').trans g0)) U fun _ _ h=>h
  have UB:Am (fun z=>z=p∨z=q) wB' W2:=Am.trans (Am.Bj g0) U fun _ _ h=>h
  have fy: ∀s,(s=y0∨s=y1∨s=y2∨s=y3)→ ∀a,s.1=some a→ ¬(a.block=p∨a.block=q):=fun s hs a ha h=>by
    have:=hy.b s hs a ha
    omega
  have fv: ∀s,(s=v0∨s=v1∨s=v2∨s=v3)→ ∀a,s.1=some a→ ¬(a.block=p∨a.block=q):=fun s hs a ha h=>by
    have:=hv.b s hs a ha
    omega
  refine⟨k1.upd u2 np,k2,np,lp,lq,Row.upd hy.t UA (fy _ (.inl rfl)),Row.upd hy.s UA (fy _ (.inr (.inl rfl))),Row.upd hy.h UA (fy _ (.inr (.inr (.inl rfl)))),Row.upd hy.l UA (fy _ (.inr (.inr (.inr rfl)))),Row.upd hv.t UB (fv _ (.inl rfl)),Row.upd hv.s UB (fv _ (.inr (.inl rfl))),Row.upd hv.h UB (fv _ (.inr (.inr (.inl rfl)))),Row.upd hv.l UB (fv _ (.inr (.inr (.inr rfl)))),hy.lb,hv.lb,fun s hs a ha=>?_,fun s hs a ha=>?_,fun a ha=>⟨(hv.k a ha).1,?_⟩,fun a ha=>⟨?_,?_,fun s hs b hb=>?_⟩⟩
  · have:=hy.b s hs a ha;omega
  · have:=hv.b s hs a ha;omega
  · obtain⟨cs,k⟩:=(hv.k a ha).2
    exact⟨cs,k.upd UB (fv _ (.inr (.inr (.inr rfl))) a ha)⟩
  · exact fun h=>fv _ (.inr (.inr (.inr rfl))) a ha (.inl h)
  · exact fun h=>fv _ (.inr (.inr (.inr rfl))) a ha (.inr h)
  · have hva:=hv.b _ (.inr (.inr (.inr rfl))) a ha
    rcases hs with h|h|h|h|h|h|h
    · have:=hy.b s (.inl h) b hb;omega
    · have:=hy.b s (.inr (.inl h)) b hb;omega
    · have:=hy.b s (.inr (.inr (.inl h))) b hb;omega
    · have:=hy.b s (.inr (.inr (.inr h))) b hb;omega
    · exact hv.d s (.inl h) b a hb ha
    · exact hv.d s (.inr (.inl h)) b a hb ha
    · exact hv.d s (.inr (.inr h)) b a hb ha
theorem Two.low{w w0 W:World}{c e:Ch}{p q:Nat}{y0 y1 y2 y3 v0 v1 v2 v3:Sl}(z:w0.heap.size≤w.heap.size)(h:Two w W c e p q y0 y1 y2 y3 v0 v1 v2 v3):Two w0 W c e p q y0 y1 y2 y3 v0 v1 v2 v3:=
  ⟨h.kp,h.kq,h.np,Nat.le_trans z h.lp,Nat.le_trans z h.lq,h.yt,h.ys,h.yh,h.yl,h.vt,h.vs,h.vh,h.vl,h.cb,h.eb,fun s hs a ha=>⟨Nat.le_trans z (h.yb s hs a ha).1,(h.yb s hs a ha).2⟩,fun s hs a ha=>⟨Nat.le_trans z (h.vb s hs a ha).1,(h.vb s hs a ha).2⟩,h.vk,h.vd⟩
theorem Two.Ai{w W W':World}{c e:Ch}{p q:Nat}{y0 y1 y2 y3 v0 v1 v2 v3:Sl}(h:Two w W c e p q y0 y1 y2 y3 v0 v1 v2 v3)(u:Af W W'):Two w W' c e p q y0 y1 y2 y3 v0 v1 v2 v3:=
  ⟨h.kp.Ai u,h.kq.Ai u,h.np,h.lp,h.lq,Row.Ai h.yt u,Row.Ai h.ys u,Row.Ai h.yh u,Row.Ai h.yl u,Row.Ai h.vt u,Row.Ai h.vs u,Row.Ai h.vh u,Row.Ai h.vl u,h.cb,h.eb,fun s hs a ha=>⟨(h.yb s hs a ha).1,Nat.lt_of_lt_of_le (h.yb s hs a ha).2 u.size⟩,fun s hs a ha=>⟨(h.vb s hs a ha).1,Nat.lt_of_lt_of_le (h.vb s hs a ha).2 u.size⟩,fun a ha=>⟨(h.vk a ha).1,(h.vk a ha).2.elim fun cs k=>⟨cs,k.Ai u⟩⟩,h.vd⟩
theorem Two.set{w W:World}{c e:Ch}{p q:Nat}{y0 y1 y2 y3 v0 v1 v2 v3:Sl}(h:Two w W c e p q y0 y1 y2 y3 v0 v1 v2 v3){a:Addr}(ha:v3.1=some a){i x:Nat}(hi:i<e.lost.length)(hx:x<18446744073709551616){K:WP}
    (hk: ∀W',Two w W' c {e with lost:=e.lost.set i x} p q y0 y1 y2 y3 v0 v1 v2 v3→Am (fun z=>z=a.block) W W'→K W'):Au [.int .u64 (x:Int)] (a.add i) 0 W K:=by
  obtain⟨ea,cs,k⟩:=h.vk a ha
  obtain⟨d1,d2,d3⟩:=h.vd a ha
  refine Row.st h.vl ha ea k (by rw[List.length_map];exact hi) rfl fun W' cs' k' r' u=>hk W' ?_ u
  have f: ∀s,(s=y0∨s=y1∨s=y2∨s=y3∨s=v0∨s=v1∨s=v2)→ ∀b,s.1=some b→ ¬b.block=a.block:=fun s hs b hb=>d3 s hs b hb
  have z:=u.size
  refine⟨h.kp.upd u fun e=>d1 e.symm,h.kq.upd u fun e=>d2 e.symm,h.np,h.lp,h.lq,Row.upd h.yt u (f _ (.inl rfl)),Row.upd h.ys u (f _ (.inr (.inl rfl))),Row.upd h.yh u (f _ (.inr (.inr (.inl rfl)))),Row.upd h.yl u (f _ (.inr (.inr (.inr (.inl rfl))))),Row.upd h.vt u (f _ (.inr (.inr (.inr (.inr (.inl rfl)))))),Row.upd h.vs u (f _ (.inr (.inr (.inr (.inr (.inr (.inl rfl))))))),Row.upd h.vh u (f _ (.inr (.inr (.inr (.inr (.inr (.inr rfl))))))),?_,h.cb,fun y hy=>?_,fun s hs b hb=>⟨(h.yb s hs b hb).1,Nat.lt_of_lt_of_le (h.yb s hs b hb).2 z⟩,fun s hs b hb=>⟨(h.vb s hs b hb).1,Nat.lt_of_lt_of_le (h.vb s hs b hb).2 z⟩,fun b hb=>?_,h.vd⟩
  · show Row W' v3 1 (iY (e.lost.set i x))
    rw[show iY (e.lost.set i x)=(iY e.lost).set i (.int .u64 (x:Int)) from List.map_set]
    exact r'
  · rcases List.mem_or_eq_of_mem_set hy with q|q
    · exact h.eb y q
    · rw[q];exact hx
  · rw[ha] at hb
    injection hb with hb
    subst hb
    exact⟨ea,cs',k'⟩
theorem oQ.refl(c:Ch):oQ c c:=⟨rfl,rfl,rfl,rfl,fun _ _=>rfl⟩
theorem oQ.two{c e:Ch}(h:oQ c e){i x:Nat}(hi:2≤i):oQ c {e with lost:=e.lost.set i x}:=
  ⟨h.t,h.s,h.h,by rw[List.length_set];exact h.n,fun j hj=>by
    show(e.lost.set i x).getD j 0=_
    rw[List.getD_eq_getElem?_getD,List.getElem?_set_ne (by omega),←List.getD_eq_getElem?_getD]
    exact h.l j hj⟩
theorem law27_NetApart.cl{S:dI}{so s r:Sl}{xs os:List TAc}{w:World}(hT:Tb w)(hR:Row w so 1 (Na S.own))(hs:aP w s qR xs)(ha: ∀x∈xs,AO w x)(hr:aP w r qR os)(hb: ∀x∈os,AO w x):Ae prog F.law27_NetApart [.agg (Q4 S so).toArray,.slice s.1 s.2.1 s.2.2,.slice r.1 r.2.1 r.2.2] w false Wh (Holds w):=by
  refine law27_NetApart.ok (s0:=S.nodes) (s1:=S.tmo) (s2:=S.ign) (s3:=S.need) (s4:=S.Aw) (s5:=S.rnd) (s6:=S.opn) (s7:=S.lim) (s8:=S.jit) (s9:=S.gate) (s10:=so) (script:=s) (others:=r) ?_
  unfold law27_NetApart.wp
  refine Ad fun p1 w2 e1 k1 u1=>?_
  change Az w2 p1 (Q4 S so) at k1
  refine law27_alive.g (hT.Ai u1) fun w4 u4=>Jl rfl (Dx (fun _=>⟨rfl,u1.trans u4⟩) fun c2=>Dx (fun _=>⟨rfl,u1.trans u4⟩) fun c3=>?_)
  have g4:=u1.trans u4
  have k4:=k1.Ai u4
  refine k4.c1 10 (c:=.sl) (x:=so) rfl (Dx (fun _=>⟨rfl,g4⟩) fun c1=>k4.s0 (x:=4) (by show 0<11;decide) fun w6 k6 u6=>?_)
  generalize eS4:({S with nodes:=4}:dI)=S4
  have k6:Az w6 p1 (Q4 S4 so):=by rw[←eS4];exact k6
  have own4:S4.own=S.own:=by rw[←eS4]
  have n4:S4.nodes=4:=by rw[←eS4]
  have g6:Af w w6:=Af.fresh (Af.refl _) (u1.trans u4) u6 e1
  have hR4:Row w so 1 (Na S4.own):=by rw[own4];exact hR
  have c2: ¬(s.2.1:Int)>100:=c2
  have c3: ¬(r.2.1:Int)>100:=c3
  have c1: ¬(so.2.1:Int)>100:=c1
  have lo:=Me hR4
  have ls:=aP.len hs (by decide)
  have lr:=aP.len hr (by decide)
  clear eS4 k1 k4
  refine k6.cA (cs:=KTs) (tsT S4 so) rfl (Ff.g (Row.Ai hR4 g6) fun w9 u9=>Ee (fun _=>⟨rfl,g6.trans u9⟩) fun c4=>?_)
  have hg:Wq S4=true:=c4
  have g9:=g6.trans u9
  refine(k6.Ai u9).cA (cs:=KTs) (tsT S4 so) rfl (law27_setup.g (Row.Ai hR4 g9) (by omega) fun sa w12 r12 u12=>?_)
  refine Io.g hg r12 (by omega) fun n Z w14 h14 z14 u14=>?_
  have g14:=(g9.trans u12).trans u14
  refine(((k6.Ai u9).Ai u12).Ai u14).cA (cs:=KTs) (tsT S4 so) rfl (law27_setup.g (Row.Ai hR4 g14) (by omega) fun sb w17 r17 u17=>?_)
  refine Io.g hg r17 (by omega) fun m Y w19 h19 z19 u19=>Jl rfl (Jl rfl ?_)
  have b19:=((((u9.trans u12).trans u14).trans u17).trans u19)
  have s9:=u9.size
  have s12:=u12.size
  have s14:=u14.size
  have s17:=u17.size
  have L0:Dn w6 w19 Z Y n m (Ha S4 none) (Ha S4 none):=⟨⟨(h14.Ai u17).Ai u19,b19,fun z h=>by have:=z14 z h;omega⟩,⟨h19,b19,fun z h=>by have:=z19 z h;omega⟩,fun z h1 h2=>by have:=h14.lt z h1;have:=z19 z h2;omega⟩
  have T2:=hT.Ai g6
  refine Ci.by (fun z W=> ∃j:Nat,j≤2∧z=((j:Int),())∧ ∃Z Y,Dn w6 W Z Y n m (if j=0 then Ha S4 none else tI S4) (if j=2 then tI S4 else Ha S4 none)) (fun z=>2-z.1.toNat) ⟨0,by omega,rfl,Z,Y,L0⟩ ?_
  rintro z W ⟨j,hj,rfl,Z,Y,L⟩ _
  refine Dx (fun c5=>?_) fun c5=>?_
  · have hjl:j<2:=by have c5:(j:Int)<2:=c5;omega
    have nj:wrap .i64 ((j:Int)+1)=((j+1:Nat):Int):=by rw[Ah (by unfold I64;omega)];rfl
    have dec:2-(wrap .i64 ((j:Int)+1)).toNat<2-((j:Int)).toNat:=by rw[nj,Int.toNat_natCast,Int.toNat_natCast];omega
    unfold aiP
    rw[if_pos (by omega),Int.toNat_natCast]
    have:j=0∨j=1:=by omega
    rcases this with rfl|rfl
    · exact Vd L.a.h fun W' Z' h x=>⟨⟨1,by omega,by rw[nj],Z',Y,L.na h x⟩,dec⟩
    · exact Vd L.b.h fun W' Y' h x=>⟨⟨2,by omega,by rw[nj],Z,Y',L.nb h x⟩,dec⟩
  have hj2:j=2:=by have c5: ¬(j:Int)<2:=c5;omega
  subst hj2
  have L:Dn w6 W Z Y n m (tI S4) (tI S4):=L
  have B0:(4294967296:Int)≤1000000000+4294967296:=by omega
  refine Ci.by (fun z W=> ∃i:Nat,i≤xs.length∧z=((i:Int),())∧ ∃Z Y ta tb,Dn w6 W Z Y n m ta tb∧Hm (4294967296+2000*(i:Int)) ta tb) (fun z=>xs.length-z.1.toNat) ⟨0,by omega,rfl,Z,Y,_,_,L,(Hm.begin n4).mono (by omega)⟩ ?_
  clear L L0
  rintro z W ⟨i,hi,rfl,Z,Y,ta,tb,L,P⟩ _
  have G:=g6.trans L.a.g
  refine Dx (fun c5=>?_) fun c5=>⟨rfl,G⟩
  have hil:i<xs.length:=by have c5:(i:Int)<(s.2.1:Int):=c5;omega
  have hx:xs[i]? =some xs[i]:=List.getElem?_eq_getElem hil
  have hA:AO w xs[i]:=ha _ (List.getElem_mem hil)
  generalize xs[i]=x at hx hA
  obtain⟨a0,a1,a2,a3,a4,a5,a6,a7,a8,a9,a10,⟨⟩⟩:=x
  obtain⟨bs,c,A⟩:=hA.Ai g6
  have hsW:aP W s qR xs:=hs.Ai G
  have ni:wrap .i64 ((i:Int)+1)=((i+1:Nat):Int):=by rw[Ah (by unfold I64;omega)];rfl
  refine aP.ix hsW (by decide) (z:=(i:Int)) rfl hx fun a hsa=>aP.A8 hsW hsa hx ?_
  refine Ad fun p25 w26 e25 k25 u25=>k25.Fg (encs qR (a0,a1,a2,a3,a4,a5,a6,a7,a8,a9,a10,())) rfl rfl fun w27 k27 u27=>?_
  have f27:Af W w27:=Af.fresh (Af.refl _) u25 u27 e25
  have ltZ:=L.a.h.lt
  have ltY:=L.b.h.lt
  have nZ: ¬Z p25:=fun q=>by have:=ltZ p25 q;omega
  have nY: ¬Y p25:=fun q=>by have:=ltY p25 q;omega
  refine k27.cA (cs:=qR) (a0,a1,a2,a3,a4,a5,a6,a7,a8,a9,a10,()) rfl (law27_great.cl (fun w30 u30=>Vt rfl ⟨rfl,(G.trans f27).trans u30⟩) fun sm w30 u30=>Jl rfl ?_)
  have L30:=(L.Ai f27).Ai u30
  have f30:=f27.trans u30
  have K30:Az w30 p25 (encs qR (a0,a1,a2,a3,a4,a5,a6,a7,a8,a9,a10,())):=k27.Ai u30
  have G30:=G.trans f30
  have r30:aP w30 r qR os:=hr.Ai G30
  have l25:=K30.lt
  have z30:=f30.size
  refine Cc.by (fun _ W'=> ∃Y' tb',Dn w6 W' Z Y' n m ta tb'∧Hm (4294967296+2000*(i:Int)) ta tb'∧Az W' p25 (encs qR (a0,a1,a2,a3,a4,a5,a6,a7,a8,a9,a10,()))∧ ¬Y' p25) ?_ ?_
  · refine Cc.by (fun z W'=>w30=W'∧(z.1=true→ ∃o,os[i]? =some o∧(o.2.1=2∨o.2.1=3))) ?_ ?_
    · refine Dx (fun d=>?_) fun d=>⟨rfl,fun h=>by cases h⟩
      have hio:i<os.length:=by have d:(i:Int)<(r.2.1:Int):=d;omega
      have ho:os[i]? =some os[i]:=List.getElem?_eq_getElem hio
      generalize os[i]=o at ho
      refine aP.ix r30 (by decide) (z:=(i:Int)) rfl ho fun a hra=>aP.fld r30 hra ho 1 (c:=KI) (v:=o.2.1) rfl (Yl (fun e=>⟨rfl,fun _=>⟨o,ho,.inl e⟩⟩) fun _=>?_)
      refine aP.ix r30 (by decide) (z:=(i:Int)) rfl ho fun a hra=>aP.fld r30 hra ho 1 (c:=KI) (v:=o.2.1) rfl ⟨rfl,fun h=>⟨o,ho,.inr (by simpa using h)⟩⟩
    rintro⟨z,_⟩ W' ⟨rfl,hz⟩ _
    refine bM (fun d=>?_) fun d=>⟨Y,tb,L30,P,K30,nY⟩
    obtain⟨o,ho,h23⟩:=hz d
    have hO:AO w o:=hb _ (List.mem_of_getElem? ho)
    obtain⟨b0,b1,b2,b3,b4,b5,b6,b7,b8,b9,b10,⟨⟩⟩:=o
    obtain⟨bs',c',A'⟩:=hO.Ai g6
    refine aP.ix r30 (by decide) (z:=(i:Int)) rfl ho fun a hra=>aP.A8 r30 hra ho ?_
    refine Ad fun p56 w57 e56 k56 u57=>k56.Fg (encs qR (b0,b1,b2,b3,b4,b5,b6,b7,b8,b9,b10,())) rfl rfl fun w58 k58 u58=>?_
    have f58:Af w30 w58:=Af.fresh (Af.refl _) u57 u58 e56
    refine k58.cA (cs:=qR) (b0,b1,b2,b3,b4,b5,b6,b7,b8,b9,b10,()) rfl (law27_great.cl (fun w61 u61=>Vt rfl ⟨rfl,(G30.trans f58).trans u61⟩) fun sm' w61 u61=>Jl rfl ?_)
    have f61:=f58.trans u61
    have L61:=L30.Ai f61
    have k61:=k58.Ai u61
    have K61:=K30.Ai f61
    have raw:=A'.raw
    have fin: ∀{W':World} {Y':NP} {tb':Nt},TW W' Y' m tb'→Nx Y w61 Y' W'→Hm (4294967296+2000*(i:Int)) ta tb'→ ∃Y' tb',Dn w6 W' Z Y' n m ta tb'∧Hm (4294967296+2000*(i:Int)) ta tb'∧Az W' p25 (encs qR (a0,a1,a2,a3,a4,a5,a6,a7,a8,a9,a10,()))∧ ¬Y' p25:=fun h x a=>⟨_,_,L61.nb h x,a,K61.upd x.u nY,fun q=>(x.sub _ q).elim nY fun q=>by have:=f61.size;omega⟩
    refine k61.c0 (c:=KI) (x:=b0) rfl (Yl (fun e=>?_) fun e1=>Yl (fun e=>?_) fun e2=>Yl (fun e=>?_) fun e9=>Yl (fun e=>?_) fun e10=>⟨Y,tb,L61,P,K61,nY⟩)
    · refine k61.c1 1 (c:=KI) (x:=b1) rfl (k61.c1 4 (c:=.i .u32) (x:=b4) rfl ?_)
      have h0:(0:Int)≤b4:=raw.1
      exact D7.t L61.b.h raw.1 raw.2 fun w20 Y1 h x=>fin h x (P.act h23 fun d hd=>Ahn h0 (Int.le_trans (Int.le_of_lt raw.2) (by omega)))
    · refine k61.c1 1 (c:=KI) (x:=b1) rfl ?_
      exact Gy.t L61.b.h fun w20 Y1 h x=>fin h x (P.act h23 fun d hd=>by rw[Amb];exact hd)
    · refine k61.c1 1 (c:=KI) (x:=b1) rfl (k61.c1 2 (c:=KI) (x:=b2) rfl ?_)
      exact Gz.t L61.b.h fun w20 Y1 h x=>fin h x (P.act h23 fun d hd=>by rw[Amo];exact hd)
    · refine k61.c1 1 (c:=KI) (x:=b1) rfl (k61.c1 6 (c:=.sl) (x:=b6) rfl ?_)
      exact Eg.t L61.b.h A'.by' (Row.Ai A'.b L61.a.g) A'.bc fun w20 Y1 h x=>fin h x (P.act h23 fun d hd=>by rw[Amc];exact hd)
  rintro _ W2 ⟨Y2,tb2,L2,P2,K2,nY2⟩ _
  clear P L30 L
  refine Cc.by (fun _ W'=> ∃Z' Y' ta' tb',Dn w6 W' Z' Y' n m ta' tb'∧Hm (4294967296+2000*((i+1:Nat):Int)) ta' tb') ?_ ?_
  · refine Cc.by (fun z W'=>W2=W') ?_ ?_
    · exact K2.c0 (c:=KI) (x:=a0) rfl (Dx (fun _=>K2.c0 (c:=KI) (x:=a0) rfl rfl) fun _=>rfl)
    rintro⟨z,_⟩ W' rfl _
    refine bM (fun _=>?_) fun _=>⟨Z,Y2,ta,tb2,L2,P2.mono (by omega)⟩
    have cl:Ajq c:=A.Abk sm
    have lt83a:=L2.a.h.lt
    have lt83b:=L2.b.h.lt
    refine Cc.by (fun z W'=> ∃p q y0 y1 y2 y3 v0 v1 v2 v3,z=(⟨p,0,none⟩,⟨q,0,none⟩,())∧Af W2 W'∧Two W2 W' c c p q y0 y1 y2 y3 v0 v1 v2 v3) ?_ ?_
    · show Jg W2 _
      rw[Be]
      have G89:Af w6 W2.drew:=L2.a.g.trans (Af.drew W2)
      have K89:=K2.drew
      have g2d:=Af.drew W2
      have sz:W2.heap.size≤W2.drew.heap.size:=g2d.size
      generalize W2.drew=w89 at*
      have HQ:=fun{w':World} (u:Af w89 w') (j:Nat) (hj:7+j<11)=>K89.X3 u (fun x=>x) 7 j (by exact hj)
      refine K89.cN 7 (cs:=jC) (a7,a8,a9,a10,()) rfl (K89.cN 7 (cs:=jC) (a7,a8,a9,a10,()) rfl ?_)
      refine⟨?_,?_,?_⟩
      · refine law27_choice.o (c:=c) (Row.Ai (Row.Ai A.t G89) (Af.refl w89)) (Row.Ai (Row.Ai A.s G89) (Af.refl w89)) (Row.Ai (Row.Ai A.h G89) (Af.refl w89)) (Row.Ai (Row.Ai A.l G89) (Af.refl w89)) A.lb cl fun y1 y2 y3 y4 w5 u6 C7=>?_
        have g8:Af w89 w5:=(Af.refl w89).trans u6
        have zw5:=u6.size
        refine⟨⟨HQ g8 0 (by decide),HQ g8 1 (by decide),HQ g8 2 (by decide),HQ g8 3 (by decide),HQ g8 0 (by decide),HQ g8 1 (by decide),HQ g8 2 (by decide),HQ g8 3 (by decide),trivial⟩,?_⟩
        refine⟨?_,?_,?_⟩
        · refine law27_choice.o (c:=c) (Row.Ai (Row.Ai A.t G89) g8) (Row.Ai (Row.Ai A.s G89) g8) (Row.Ai (Row.Ai A.h G89) g8) (Row.Ai (Row.Ai A.l G89) g8) A.lb cl fun y9 y10 y11 y12 w13 u14 C15=>?_
          have g16:Af w89 w13:=g8.trans u14
          have zw13:=u14.size
          refine⟨⟨HQ g16 0 (by decide),HQ g16 1 (by decide),HQ g16 2 (by decide),HQ g16 3 (by decide),HQ g16 0 (by decide),HQ g16 1 (by decide),HQ g16 2 (by decide),HQ g16 3 (by decide),trivial⟩,?_⟩
          refine⟨?_,?_⟩
          · refine Ad fun p17 w18 e19 k20 u21=>?_
            have g22:Af w89 w18:=g16.trans u21
            have zw18:=u21.size
            have lw18:=k20.lt
            refine⟨⟨HQ g22 0 (by decide),HQ g22 1 (by decide),HQ g22 2 (by decide),HQ g22 3 (by decide),HQ g22 0 (by decide),HQ g22 1 (by decide),HQ g22 2 (by decide),HQ g22 3 (by decide),trivial⟩,?_⟩
            refine Ad fun p23 w24 e25 k26 u27=>?_
            have g28:Af w89 w24:=g22.trans u27
            have zw24:=u27.size
            have lw24:=k26.lt
            refine⟨⟨HQ g28 0 (by decide),HQ g28 1 (by decide),HQ g28 2 (by decide),HQ g28 3 (by decide),HQ g28 0 (by decide),HQ g28 1 (by decide),HQ g28 2 (by decide),HQ g28 3 (by decide),trivial⟩,?_⟩
            refine(k20.Ai u27).Fg [bP y1,bP y2,bP y3,bP y4] rfl rfl fun w29 k30 u31=>?_
            have g35:Af w89 w29:=Am.trans g28 u31 fun j hj e=>by omega
            refine⟨⟨HQ g35 0 (by decide),HQ g35 1 (by decide),HQ g35 2 (by decide),HQ g35 3 (by decide),trivial⟩,?_⟩
            refine((k26).upd u31 (by omega)).Fg [bP y9,bP y10,bP y11,bP y12] rfl rfl fun w32 k33 u34=>⟨trivial,?_⟩
            exact⟨p17,p23,y1,y2,y3,y4,y9,y10,y11,y12,rfl,g2d.trans (Am.trans g35 u34 fun j hj e=>by omega),Two.low sz<|Ap (w:=w89) C7 C15 (Af.refl w89) u6 (Af.refl _) u14 (u21.trans u27) (by omega) (by omega) (by omega) (by omega) (by omega) (by omega) (by omega) k30 u31 k33 u34⟩
          · refine Ad fun p36 w37 e38 k39 u40=>?_
            have g41:Af w89 w37:=g16.trans u40
            have zw37:=u40.size
            have lw37:=k39.lt
            refine⟨⟨HQ g41 0 (by decide),HQ g41 1 (by decide),HQ g41 2 (by decide),HQ g41 3 (by decide),HQ g41 0 (by decide),HQ g41 1 (by decide),HQ g41 2 (by decide),HQ g41 3 (by decide),trivial⟩,?_⟩
            refine Ad fun p42 w43 e44 k45 u46=>?_
            have g47:Af w89 w43:=g41.trans u46
            have zw43:=u46.size
            have lw43:=k45.lt
            refine⟨⟨HQ g47 0 (by decide),HQ g47 1 (by decide),HQ g47 2 (by decide),HQ g47 3 (by decide),HQ g47 0 (by decide),HQ g47 1 (by decide),HQ g47 2 (by decide),HQ g47 3 (by decide),trivial⟩,?_⟩
            refine(k45).Fg [bP y1,bP y2,bP y3,bP y4] rfl rfl fun w48 k49 u50=>?_
            have g54:Af w89 w48:=Am.trans g47 u50 fun j hj e=>by omega
            refine⟨⟨HQ g54 0 (by decide),HQ g54 1 (by decide),HQ g54 2 (by decide),HQ g54 3 (by decide),trivial⟩,?_⟩
            refine((k39.Ai u46).upd u50 (by omega)).Fg [bP y9,bP y10,bP y11,bP y12] rfl rfl fun w51 k52 u53=>⟨trivial,?_⟩
            exact⟨p42,p36,y1,y2,y3,y4,y9,y10,y11,y12,rfl,g2d.trans (Am.trans g54 u53 fun j hj e=>by omega),Two.low sz<|Ap (w:=w89) C7 C15 (Af.refl w89) u6 (Af.refl _) u14 (u40.trans u46) (by omega) (by omega) (by omega) (by omega) (by omega) (by omega) (by omega) k49 u50 k52 u53⟩
        · refine Ad fun p55 w56 e57 k58 u59=>?_
          have g60:Af w89 w56:=g8.trans u59
          have zw56:=u59.size
          have lw56:=k58.lt
          refine⟨⟨HQ g60 0 (by decide),HQ g60 1 (by decide),HQ g60 2 (by decide),HQ g60 3 (by decide),HQ g60 0 (by decide),HQ g60 1 (by decide),HQ g60 2 (by decide),HQ g60 3 (by decide),trivial⟩,?_⟩
          refine⟨?_,?_⟩
          · refine law27_choice.o (c:=c) (Row.Ai (Row.Ai A.t G89) g60) (Row.Ai (Row.Ai A.s G89) g60) (Row.Ai (Row.Ai A.h G89) g60) (Row.Ai (Row.Ai A.l G89) g60) A.lb cl fun y61 y62 y63 y64 w65 u66 C67=>?_
            have g68:Af w89 w65:=g60.trans u66
            have zw65:=u66.size
            refine⟨⟨HQ g68 0 (by decide),HQ g68 1 (by decide),HQ g68 2 (by decide),HQ g68 3 (by decide),HQ g68 0 (by decide),HQ g68 1 (by decide),HQ g68 2 (by decide),HQ g68 3 (by decide),trivial⟩,?_⟩
            refine Ad fun p69 w70 e71 k72 u73=>?_
            have g74:Af w89 w70:=g68.trans u73
            have zw70:=u73.size
            have lw70:=k72.lt
            refine⟨⟨HQ g74 0 (by decide),HQ g74 1 (by decide),HQ g74 2 (by decide),HQ g74 3 (by decide),HQ g74 0 (by decide),HQ g74 1 (by decide),HQ g74 2 (by decide),HQ g74 3 (by decide),trivial⟩,?_⟩
            refine(k58.Ai (u66.trans u73)).Fg [bP y1,bP y2,bP y3,bP y4] rfl rfl fun w75 k76 u77=>?_
            have g81:Af w89 w75:=Am.trans g74 u77 fun j hj e=>by omega
            refine⟨⟨HQ g81 0 (by decide),HQ g81 1 (by decide),HQ g81 2 (by decide),HQ g81 3 (by decide),trivial⟩,?_⟩
            refine((k72).upd u77 (by omega)).Fg [bP y61,bP y62,bP y63,bP y64] rfl rfl fun w78 k79 u80=>⟨trivial,?_⟩
            exact⟨p55,p69,y1,y2,y3,y4,y61,y62,y63,y64,rfl,g2d.trans (Am.trans g81 u80 fun j hj e=>by omega),Two.low sz<|Ap (w:=w89) C7 C67 (Af.refl w89) u6 u59 u66 u73 (by omega) (by omega) (by omega) (by omega) (by omega) (by omega) (by omega) k76 u77 k79 u80⟩
          · refine Ad fun p82 w83 e84 k85 u86=>?_
            have g87:Af w89 w83:=g60.trans u86
            have zw83:=u86.size
            have lw83:=k85.lt
            refine⟨⟨HQ g87 0 (by decide),HQ g87 1 (by decide),HQ g87 2 (by decide),HQ g87 3 (by decide),HQ g87 0 (by decide),HQ g87 1 (by decide),HQ g87 2 (by decide),HQ g87 3 (by decide),trivial⟩,?_⟩
            refine law27_choice.o (c:=c) (Row.Ai (Row.Ai A.t G89) g87) (Row.Ai (Row.Ai A.s G89) g87) (Row.Ai (Row.Ai A.h G89) g87) (Row.Ai (Row.Ai A.l G89) g87) A.lb cl fun y88 y89 y90 y91 w92 u93 C94=>?_
            have g95:Af w89 w92:=g87.trans u93
            have zw92:=u93.size
            refine⟨⟨HQ g95 0 (by decide),HQ g95 1 (by decide),HQ g95 2 (by decide),HQ g95 3 (by decide),HQ g95 0 (by decide),HQ g95 1 (by decide),HQ g95 2 (by decide),HQ g95 3 (by decide),trivial⟩,?_⟩
            refine(k58.Ai (u86.trans u93)).Fg [bP y1,bP y2,bP y3,bP y4] rfl rfl fun w96 k97 u98=>?_
            have g102:Af w89 w96:=Am.trans g95 u98 fun j hj e=>by omega
            refine⟨⟨HQ g102 0 (by decide),HQ g102 1 (by decide),HQ g102 2 (by decide),HQ g102 3 (by decide),trivial⟩,?_⟩
            refine((k85.Ai u93).upd u98 (by omega)).Fg [bP y88,bP y89,bP y90,bP y91] rfl rfl fun w99 k100 u101=>⟨trivial,?_⟩
            exact⟨p55,p82,y1,y2,y3,y4,y88,y89,y90,y91,rfl,g2d.trans (Am.trans g102 u101 fun j hj e=>by omega),Two.low sz<|Ap (w:=w89) C7 C94 (Af.refl w89) u6 (u59.trans u86) u93 (Af.refl _) (by omega) (by omega) (by omega) (by omega) (by omega) (by omega) (by omega) k97 u98 k100 u101⟩
        · refine Ad fun p103 w104 e105 k106 u107=>?_
          have g108:Af w89 w104:=g8.trans u107
          have zw104:=u107.size
          have lw104:=k106.lt
          refine⟨⟨HQ g108 0 (by decide),HQ g108 1 (by decide),HQ g108 2 (by decide),HQ g108 3 (by decide),HQ g108 0 (by decide),HQ g108 1 (by decide),HQ g108 2 (by decide),HQ g108 3 (by decide),trivial⟩,?_⟩
          refine⟨?_,?_⟩
          · refine law27_choice.o (c:=c) (Row.Ai (Row.Ai A.t G89) g108) (Row.Ai (Row.Ai A.s G89) g108) (Row.Ai (Row.Ai A.h G89) g108) (Row.Ai (Row.Ai A.l G89) g108) A.lb cl fun y109 y110 y111 y112 w113 u114 C115=>?_
            have g116:Af w89 w113:=g108.trans u114
            have zw113:=u114.size
            refine⟨⟨HQ g116 0 (by decide),HQ g116 1 (by decide),HQ g116 2 (by decide),HQ g116 3 (by decide),HQ g116 0 (by decide),HQ g116 1 (by decide),HQ g116 2 (by decide),HQ g116 3 (by decide),trivial⟩,?_⟩
            refine Ad fun p117 w118 e119 k120 u121=>?_
            have g122:Af w89 w118:=g116.trans u121
            have zw118:=u121.size
            have lw118:=k120.lt
            refine⟨⟨HQ g122 0 (by decide),HQ g122 1 (by decide),HQ g122 2 (by decide),HQ g122 3 (by decide),HQ g122 0 (by decide),HQ g122 1 (by decide),HQ g122 2 (by decide),HQ g122 3 (by decide),trivial⟩,?_⟩
            refine(k120).Fg [bP y1,bP y2,bP y3,bP y4] rfl rfl fun w123 k124 u125=>?_
            have g129:Af w89 w123:=Am.trans g122 u125 fun j hj e=>by omega
            refine⟨⟨HQ g129 0 (by decide),HQ g129 1 (by decide),HQ g129 2 (by decide),HQ g129 3 (by decide),trivial⟩,?_⟩
            refine((k106.Ai (u114.trans u121)).upd u125 (by omega)).Fg [bP y109,bP y110,bP y111,bP y112] rfl rfl fun w126 k127 u128=>⟨trivial,?_⟩
            exact⟨p117,p103,y1,y2,y3,y4,y109,y110,y111,y112,rfl,g2d.trans (Am.trans g129 u128 fun j hj e=>by omega),Two.low sz<|Ap (w:=w89) C7 C115 (Af.refl w89) u6 u107 u114 u121 (by omega) (by omega) (by omega) (by omega) (by omega) (by omega) (by omega) k124 u125 k127 u128⟩
          · refine Ad fun p130 w131 e132 k133 u134=>?_
            have g135:Af w89 w131:=g108.trans u134
            have zw131:=u134.size
            have lw131:=k133.lt
            refine⟨⟨HQ g135 0 (by decide),HQ g135 1 (by decide),HQ g135 2 (by decide),HQ g135 3 (by decide),HQ g135 0 (by decide),HQ g135 1 (by decide),HQ g135 2 (by decide),HQ g135 3 (by decide),trivial⟩,?_⟩
            refine law27_choice.o (c:=c) (Row.Ai (Row.Ai A.t G89) g135) (Row.Ai (Row.Ai A.s G89) g135) (Row.Ai (Row.Ai A.h G89) g135) (Row.Ai (Row.Ai A.l G89) g135) A.lb cl fun y136 y137 y138 y139 w140 u141 C142=>?_
            have g143:Af w89 w140:=g135.trans u141
            have zw140:=u141.size
            refine⟨⟨HQ g143 0 (by decide),HQ g143 1 (by decide),HQ g143 2 (by decide),HQ g143 3 (by decide),HQ g143 0 (by decide),HQ g143 1 (by decide),HQ g143 2 (by decide),HQ g143 3 (by decide),trivial⟩,?_⟩
            refine(k133.Ai u141).Fg [bP y1,bP y2,bP y3,bP y4] rfl rfl fun w144 k145 u146=>?_
            have g150:Af w89 w144:=Am.trans g143 u146 fun j hj e=>by omega
            refine⟨⟨HQ g150 0 (by decide),HQ g150 1 (by decide),HQ g150 2 (by decide),HQ g150 3 (by decide),trivial⟩,?_⟩
            refine((k106.Ai (u134.trans u141)).upd u146 (by omega)).Fg [bP y136,bP y137,bP y138,bP y139] rfl rfl fun w147 k148 u149=>⟨trivial,?_⟩
            exact⟨p130,p103,y1,y2,y3,y4,y136,y137,y138,y139,rfl,g2d.trans (Am.trans g150 u149 fun j hj e=>by omega),Two.low sz<|Ap (w:=w89) C7 C142 (Af.refl w89) u6 (u107.trans u134) u141 (Af.refl _) (by omega) (by omega) (by omega) (by omega) (by omega) (by omega) (by omega) k145 u146 k148 u149⟩
      · refine Ad fun p151 w152 e153 k154 u155=>?_
        have g156:Af w89 w152:=(Af.refl w89).trans u155
        have zw152:=u155.size
        have lw152:=k154.lt
        refine⟨⟨HQ g156 0 (by decide),HQ g156 1 (by decide),HQ g156 2 (by decide),HQ g156 3 (by decide),HQ g156 0 (by decide),HQ g156 1 (by decide),HQ g156 2 (by decide),HQ g156 3 (by decide),trivial⟩,?_⟩
        refine⟨?_,?_⟩
        · refine law27_choice.o (c:=c) (Row.Ai (Row.Ai A.t G89) g156) (Row.Ai (Row.Ai A.s G89) g156) (Row.Ai (Row.Ai A.h G89) g156) (Row.Ai (Row.Ai A.l G89) g156) A.lb cl fun y157 y158 y159 y160 w161 u162 C163=>?_
          have g164:Af w89 w161:=g156.trans u162
          have zw161:=u162.size
          refine⟨⟨HQ g164 0 (by decide),HQ g164 1 (by decide),HQ g164 2 (by decide),HQ g164 3 (by decide),HQ g164 0 (by decide),HQ g164 1 (by decide),HQ g164 2 (by decide),HQ g164 3 (by decide),trivial⟩,?_⟩
          refine⟨?_,?_⟩
          · refine law27_choice.o (c:=c) (Row.Ai (Row.Ai A.t G89) g164) (Row.Ai (Row.Ai A.s G89) g164) (Row.Ai (Row.Ai A.h G89) g164) (Row.Ai (Row.Ai A.l G89) g164) A.lb cl fun y165 y166 y167 y168 w169 u170 C171=>?_
            have g172:Af w89 w169:=g164.trans u170
            have zw169:=u170.size
            refine⟨⟨HQ g172 0 (by decide),HQ g172 1 (by decide),HQ g172 2 (by decide),HQ g172 3 (by decide),HQ g172 0 (by decide),HQ g172 1 (by decide),HQ g172 2 (by decide),HQ g172 3 (by decide),trivial⟩,?_⟩
            refine Ad fun p173 w174 e175 k176 u177=>?_
            have g178:Af w89 w174:=g172.trans u177
            have zw174:=u177.size
            have lw174:=k176.lt
            refine⟨⟨HQ g178 0 (by decide),HQ g178 1 (by decide),HQ g178 2 (by decide),HQ g178 3 (by decide),HQ g178 0 (by decide),HQ g178 1 (by decide),HQ g178 2 (by decide),HQ g178 3 (by decide),trivial⟩,?_⟩
            refine(k154.Ai ((u162.trans u170).trans u177)).Fg [bP y157,bP y158,bP y159,bP y160] rfl rfl fun w179 k180 u181=>?_
            have g185:Af w89 w179:=Am.trans g178 u181 fun j hj e=>by omega
            refine⟨⟨HQ g185 0 (by decide),HQ g185 1 (by decide),HQ g185 2 (by decide),HQ g185 3 (by decide),trivial⟩,?_⟩
            refine((k176).upd u181 (by omega)).Fg [bP y165,bP y166,bP y167,bP y168] rfl rfl fun w182 k183 u184=>⟨trivial,?_⟩
            exact⟨p151,p173,y157,y158,y159,y160,y165,y166,y167,y168,rfl,g2d.trans (Am.trans g185 u184 fun j hj e=>by omega),Two.low sz<|Ap (w:=w89) C163 C171 g156 u162 (Af.refl _) u170 u177 (by omega) (by omega) (by omega) (by omega) (by omega) (by omega) (by omega) k180 u181 k183 u184⟩
          · refine Ad fun p186 w187 e188 k189 u190=>?_
            have g191:Af w89 w187:=g164.trans u190
            have zw187:=u190.size
            have lw187:=k189.lt
            refine⟨⟨HQ g191 0 (by decide),HQ g191 1 (by decide),HQ g191 2 (by decide),HQ g191 3 (by decide),HQ g191 0 (by decide),HQ g191 1 (by decide),HQ g191 2 (by decide),HQ g191 3 (by decide),trivial⟩,?_⟩
            refine law27_choice.o (c:=c) (Row.Ai (Row.Ai A.t G89) g191) (Row.Ai (Row.Ai A.s G89) g191) (Row.Ai (Row.Ai A.h G89) g191) (Row.Ai (Row.Ai A.l G89) g191) A.lb cl fun y192 y193 y194 y195 w196 u197 C198=>?_
            have g199:Af w89 w196:=g191.trans u197
            have zw196:=u197.size
            refine⟨⟨HQ g199 0 (by decide),HQ g199 1 (by decide),HQ g199 2 (by decide),HQ g199 3 (by decide),HQ g199 0 (by decide),HQ g199 1 (by decide),HQ g199 2 (by decide),HQ g199 3 (by decide),trivial⟩,?_⟩
            refine(k154.Ai ((u162.trans u190).trans u197)).Fg [bP y157,bP y158,bP y159,bP y160] rfl rfl fun w200 k201 u202=>?_
            have g206:Af w89 w200:=Am.trans g199 u202 fun j hj e=>by omega
            refine⟨⟨HQ g206 0 (by decide),HQ g206 1 (by decide),HQ g206 2 (by decide),HQ g206 3 (by decide),trivial⟩,?_⟩
            refine((k189.Ai u197).upd u202 (by omega)).Fg [bP y192,bP y193,bP y194,bP y195] rfl rfl fun w203 k204 u205=>⟨trivial,?_⟩
            exact⟨p151,p186,y157,y158,y159,y160,y192,y193,y194,y195,rfl,g2d.trans (Am.trans g206 u205 fun j hj e=>by omega),Two.low sz<|Ap (w:=w89) C163 C198 g156 u162 u190 u197 (Af.refl _) (by omega) (by omega) (by omega) (by omega) (by omega) (by omega) (by omega) k201 u202 k204 u205⟩
        · refine Ad fun p207 w208 e209 k210 u211=>?_
          have g212:Af w89 w208:=g156.trans u211
          have zw208:=u211.size
          have lw208:=k210.lt
          refine⟨⟨HQ g212 0 (by decide),HQ g212 1 (by decide),HQ g212 2 (by decide),HQ g212 3 (by decide),HQ g212 0 (by decide),HQ g212 1 (by decide),HQ g212 2 (by decide),HQ g212 3 (by decide),trivial⟩,?_⟩
          refine law27_choice.o (c:=c) (Row.Ai (Row.Ai A.t G89) g212) (Row.Ai (Row.Ai A.s G89) g212) (Row.Ai (Row.Ai A.h G89) g212) (Row.Ai (Row.Ai A.l G89) g212) A.lb cl fun y213 y214 y215 y216 w217 u218 C219=>?_
          have g220:Af w89 w217:=g212.trans u218
          have zw217:=u218.size
          refine⟨⟨HQ g220 0 (by decide),HQ g220 1 (by decide),HQ g220 2 (by decide),HQ g220 3 (by decide),HQ g220 0 (by decide),HQ g220 1 (by decide),HQ g220 2 (by decide),HQ g220 3 (by decide),trivial⟩,?_⟩
          refine law27_choice.o (c:=c) (Row.Ai (Row.Ai A.t G89) g220) (Row.Ai (Row.Ai A.s G89) g220) (Row.Ai (Row.Ai A.h G89) g220) (Row.Ai (Row.Ai A.l G89) g220) A.lb cl fun y221 y222 y223 y224 w225 u226 C227=>?_
          have g228:Af w89 w225:=g220.trans u226
          have zw225:=u226.size
          refine⟨⟨HQ g228 0 (by decide),HQ g228 1 (by decide),HQ g228 2 (by decide),HQ g228 3 (by decide),HQ g228 0 (by decide),HQ g228 1 (by decide),HQ g228 2 (by decide),HQ g228 3 (by decide),trivial⟩,?_⟩
          refine(k154.Ai ((u211.trans u218).trans u226)).Fg [bP y213,bP y214,bP y215,bP y216] rfl rfl fun w229 k230 u231=>?_
          have g235:Af w89 w229:=Am.trans g228 u231 fun j hj e=>by omega
          refine⟨⟨HQ g235 0 (by decide),HQ g235 1 (by decide),HQ g235 2 (by decide),HQ g235 3 (by decide),trivial⟩,?_⟩
          refine((k210.Ai (u218.trans u226)).upd u231 (by omega)).Fg [bP y221,bP y222,bP y223,bP y224] rfl rfl fun w232 k233 u234=>⟨trivial,?_⟩
          exact⟨p151,p207,y213,y214,y215,y216,y221,y222,y223,y224,rfl,g2d.trans (Am.trans g235 u234 fun j hj e=>by omega),Two.low sz<|Ap (w:=w89) C219 C227 g212 u218 (Af.refl _) u226 (Af.refl _) (by omega) (by omega) (by omega) (by omega) (by omega) (by omega) (by omega) k230 u231 k233 u234⟩
      · refine Ad fun p236 w237 e238 k239 u240=>?_
        have g241:Af w89 w237:=(Af.refl w89).trans u240
        have zw237:=u240.size
        have lw237:=k239.lt
        refine⟨⟨HQ g241 0 (by decide),HQ g241 1 (by decide),HQ g241 2 (by decide),HQ g241 3 (by decide),HQ g241 0 (by decide),HQ g241 1 (by decide),HQ g241 2 (by decide),HQ g241 3 (by decide),trivial⟩,?_⟩
        refine⟨?_,?_⟩
        · refine law27_choice.o (c:=c) (Row.Ai (Row.Ai A.t G89) g241) (Row.Ai (Row.Ai A.s G89) g241) (Row.Ai (Row.Ai A.h G89) g241) (Row.Ai (Row.Ai A.l G89) g241) A.lb cl fun y242 y243 y244 y245 w246 u247 C248=>?_
          have g249:Af w89 w246:=g241.trans u247
          have zw246:=u247.size
          refine⟨⟨HQ g249 0 (by decide),HQ g249 1 (by decide),HQ g249 2 (by decide),HQ g249 3 (by decide),HQ g249 0 (by decide),HQ g249 1 (by decide),HQ g249 2 (by decide),HQ g249 3 (by decide),trivial⟩,?_⟩
          refine⟨?_,?_⟩
          · refine law27_choice.o (c:=c) (Row.Ai (Row.Ai A.t G89) g249) (Row.Ai (Row.Ai A.s G89) g249) (Row.Ai (Row.Ai A.h G89) g249) (Row.Ai (Row.Ai A.l G89) g249) A.lb cl fun y250 y251 y252 y253 w254 u255 C256=>?_
            have g257:Af w89 w254:=g249.trans u255
            have zw254:=u255.size
            refine⟨⟨HQ g257 0 (by decide),HQ g257 1 (by decide),HQ g257 2 (by decide),HQ g257 3 (by decide),HQ g257 0 (by decide),HQ g257 1 (by decide),HQ g257 2 (by decide),HQ g257 3 (by decide),trivial⟩,?_⟩
            refine Ad fun p258 w259 e260 k261 u262=>?_
            have g263:Af w89 w259:=g257.trans u262
            have zw259:=u262.size
            have lw259:=k261.lt
            refine⟨⟨HQ g263 0 (by decide),HQ g263 1 (by decide),HQ g263 2 (by decide),HQ g263 3 (by decide),HQ g263 0 (by decide),HQ g263 1 (by decide),HQ g263 2 (by decide),HQ g263 3 (by decide),trivial⟩,?_⟩
            refine(k261).Fg [bP y242,bP y243,bP y244,bP y245] rfl rfl fun w264 k265 u266=>?_
            have g270:Af w89 w264:=Am.trans g263 u266 fun j hj e=>by omega
            refine⟨⟨HQ g270 0 (by decide),HQ g270 1 (by decide),HQ g270 2 (by decide),HQ g270 3 (by decide),trivial⟩,?_⟩
            refine((k239.Ai ((u247.trans u255).trans u262)).upd u266 (by omega)).Fg [bP y250,bP y251,bP y252,bP y253] rfl rfl fun w267 k268 u269=>⟨trivial,?_⟩
            exact⟨p258,p236,y242,y243,y244,y245,y250,y251,y252,y253,rfl,g2d.trans (Am.trans g270 u269 fun j hj e=>by omega),Two.low sz<|Ap (w:=w89) C248 C256 g241 u247 (Af.refl _) u255 u262 (by omega) (by omega) (by omega) (by omega) (by omega) (by omega) (by omega) k265 u266 k268 u269⟩
          · refine Ad fun p271 w272 e273 k274 u275=>?_
            have g276:Af w89 w272:=g249.trans u275
            have zw272:=u275.size
            have lw272:=k274.lt
            refine⟨⟨HQ g276 0 (by decide),HQ g276 1 (by decide),HQ g276 2 (by decide),HQ g276 3 (by decide),HQ g276 0 (by decide),HQ g276 1 (by decide),HQ g276 2 (by decide),HQ g276 3 (by decide),trivial⟩,?_⟩
            refine law27_choice.o (c:=c) (Row.Ai (Row.Ai A.t G89) g276) (Row.Ai (Row.Ai A.s G89) g276) (Row.Ai (Row.Ai A.h G89) g276) (Row.Ai (Row.Ai A.l G89) g276) A.lb cl fun y277 y278 y279 y280 w281 u282 C283=>?_
            have g284:Af w89 w281:=g276.trans u282
            have zw281:=u282.size
            refine⟨⟨HQ g284 0 (by decide),HQ g284 1 (by decide),HQ g284 2 (by decide),HQ g284 3 (by decide),HQ g284 0 (by decide),HQ g284 1 (by decide),HQ g284 2 (by decide),HQ g284 3 (by decide),trivial⟩,?_⟩
            refine(k274.Ai u282).Fg [bP y242,bP y243,bP y244,bP y245] rfl rfl fun w285 k286 u287=>?_
            have g291:Af w89 w285:=Am.trans g284 u287 fun j hj e=>by omega
            refine⟨⟨HQ g291 0 (by decide),HQ g291 1 (by decide),HQ g291 2 (by decide),HQ g291 3 (by decide),trivial⟩,?_⟩
            refine((k239.Ai ((u247.trans u275).trans u282)).upd u287 (by omega)).Fg [bP y277,bP y278,bP y279,bP y280] rfl rfl fun w288 k289 u290=>⟨trivial,?_⟩
            exact⟨p271,p236,y242,y243,y244,y245,y277,y278,y279,y280,rfl,g2d.trans (Am.trans g291 u290 fun j hj e=>by omega),Two.low sz<|Ap (w:=w89) C248 C283 g241 u247 u275 u282 (Af.refl _) (by omega) (by omega) (by omega) (by omega) (by omega) (by omega) (by omega) k286 u287 k289 u290⟩
        · refine Ad fun p292 w293 e294 k295 u296=>?_
          have g297:Af w89 w293:=g241.trans u296
          have zw293:=u296.size
          have lw293:=k295.lt
          refine⟨⟨HQ g297 0 (by decide),HQ g297 1 (by decide),HQ g297 2 (by decide),HQ g297 3 (by decide),HQ g297 0 (by decide),HQ g297 1 (by decide),HQ g297 2 (by decide),HQ g297 3 (by decide),trivial⟩,?_⟩
          refine law27_choice.o (c:=c) (Row.Ai (Row.Ai A.t G89) g297) (Row.Ai (Row.Ai A.s G89) g297) (Row.Ai (Row.Ai A.h G89) g297) (Row.Ai (Row.Ai A.l G89) g297) A.lb cl fun y298 y299 y300 y301 w302 u303 C304=>?_
          have g305:Af w89 w302:=g297.trans u303
          have zw302:=u303.size
          refine⟨⟨HQ g305 0 (by decide),HQ g305 1 (by decide),HQ g305 2 (by decide),HQ g305 3 (by decide),HQ g305 0 (by decide),HQ g305 1 (by decide),HQ g305 2 (by decide),HQ g305 3 (by decide),trivial⟩,?_⟩
          refine law27_choice.o (c:=c) (Row.Ai (Row.Ai A.t G89) g305) (Row.Ai (Row.Ai A.s G89) g305) (Row.Ai (Row.Ai A.h G89) g305) (Row.Ai (Row.Ai A.l G89) g305) A.lb cl fun y306 y307 y308 y309 w310 u311 C312=>?_
          have g313:Af w89 w310:=g305.trans u311
          have zw310:=u311.size
          refine⟨⟨HQ g313 0 (by decide),HQ g313 1 (by decide),HQ g313 2 (by decide),HQ g313 3 (by decide),HQ g313 0 (by decide),HQ g313 1 (by decide),HQ g313 2 (by decide),HQ g313 3 (by decide),trivial⟩,?_⟩
          refine(k295.Ai (u303.trans u311)).Fg [bP y298,bP y299,bP y300,bP y301] rfl rfl fun w314 k315 u316=>?_
          have g320:Af w89 w314:=Am.trans g313 u316 fun j hj e=>by omega
          refine⟨⟨HQ g320 0 (by decide),HQ g320 1 (by decide),HQ g320 2 (by decide),HQ g320 3 (by decide),trivial⟩,?_⟩
          refine((k239.Ai ((u296.trans u303).trans u311)).upd u316 (by omega)).Fg [bP y306,bP y307,bP y308,bP y309] rfl rfl fun w317 k318 u319=>⟨trivial,?_⟩
          exact⟨p292,p236,y298,y299,y300,y301,y306,y307,y308,y309,rfl,g2d.trans (Am.trans g320 u319 fun j hj e=>by omega),Two.low sz<|Ap (w:=w89) C304 C312 g297 u303 (Af.refl _) u311 (Af.refl _) (by omega) (by omega) (by omega) (by omega) (by omega) (by omega) (by omega) k315 u316 k318 u319⟩
    rintro z W3 ⟨p,q,y0,y1,y2,y3,v0,v1,v2,v3,rfl,g3,T⟩ _
    have L3:=L2.Ai g3
    have r3:aP W3 r qR os:=hr.Ai (g6.trans L3.a.g)
    have bz: ∀z,Z z→z<W2.heap.size:=lt83a
    have by2: ∀z,Y2 z→z<W2.heap.size:=lt83b
    refine Cc.by (fun _ W'=> ∃e,oQ c e∧Dn w6 W' Z Y2 n m ta tb2∧Two W2 W' c e p q y0 y1 y2 y3 v0 v1 v2 v3) ?_ ?_
    · refine Cc.by (fun z W'=>W3=W'∧(z.1=true→ ∃o,os[i]? =some o∧c.lost.length=4∧(o.2.2.2.2.2.2.2.2.2.2.1.2.1:Int)=4)) ?_ ?_
      · refine Dx (fun d=>?_) fun d=>⟨rfl,fun h=>by cases h⟩
        have hio:i<os.length:=by have d:(i:Int)<(r.2.1:Int):=d;omega
        have ho:os[i]? =some os[i]:=List.getElem?_eq_getElem hio
        generalize os[i]=o at ho
        have lv:=Row.Abk T.vl
        rw[List.length_map] at lv
        refine T.kq.c1 3 (c:=.sl) (x:=v3) rfl (Yl (fun e4=>?_) fun _=>⟨rfl,fun h=>by cases h⟩)
        have e4:(v3.2.1:Int)=4:=e4
        refine aP.ix r3 (by decide) (z:=(i:Int)) rfl ho fun a hra=>?_
        rw[add_add (a.add _) 7 3]
        refine aP.fld r3 hra ho 10 (c:=.sl) (v:=o.2.2.2.2.2.2.2.2.2.2.1) rfl ⟨rfl,fun h=>⟨o,ho,by omega,by simpa using h⟩⟩
      rintro⟨z,_⟩ W' ⟨rfl,hz⟩ _
      refine bM (fun d=>?_) fun d=>⟨c,oQ.refl c,L3,T⟩
      obtain⟨o,ho,h4,o4⟩:=hz d
      have hO:AO w o:=hb _ (List.mem_of_getElem? ho)
      obtain⟨b0,b1,b2,b3,b4,b5,b6,b7,b8,b9,b10,⟨⟩⟩:=o
      obtain⟨bs',c',A'⟩:=hO.Ai (g6.trans L3.a.g)
      have o4:(b10.2.1:Int)=4:=o4
      have rl':Row W3.drew b10 1 (iY c'.lost):=Row.Ai A'.l (Af.drew W3)
      have ll':=Row.Abk rl'
      rw[List.length_map] at ll'
      have lv:=Row.Abk T.vl
      rw[List.length_map] at lv
      rw[Be]
      have r3:=r3.Ai (Af.drew W3)
      have T:=T.Ai (Af.drew W3)
      have L3:=L3.Ai (Af.drew W3)
      generalize W3.drew=w193 at*
      obtain⟨x2,hx2⟩: ∃x,c'.lost[2]? =some x:=⟨_,List.getElem?_eq_getElem (by omega)⟩
      obtain⟨x3,hx3⟩: ∃x,c'.lost[3]? =some x:=⟨_,List.getElem?_eq_getElem (by omega)⟩
      have hu2:(iY c'.lost)[2]? =some (.int .u64 (x2:Int)):=by rw[List.getElem?_map,hx2];rfl
      have hu3:(iY c'.lost)[3]? =some (.int .u64 (x3:Int)):=by rw[List.getElem?_map,hx3];rfl
      obtain⟨ao,hao⟩:=Row.addr rl' (by rw[List.length_map];omega)
      obtain⟨av,hav⟩:=Row.addr T.vl (by rw[List.length_map];omega)
      have IXo: ∀{j:Int} {k:Addr→Prop},0≤j→j<4→k ao→Ny b10.1 b10.2.1 j k:=fun{j k} j0 j4 h=>by rw[hao,Tq ⟨j0,by omega⟩];exact h
      have IXv: ∀{j:Int} {k:Addr→Prop},0≤j→j<4→k av→Ny v3.1 v3.2.1 j k:=fun{j k} j0 j4 h=>by rw[hav,Tq ⟨j0,by omega⟩];exact h
      refine T.kq.c1 3 (c:=.sl) (x:=v3) rfl (T.kq.c1 3 (c:=.sl) (x:=v3) rfl (aP.ix r3 (by decide) (z:=(i:Int)) rfl ho fun a hra=>?_))
      rw[add_add (a.add _) 7 3]
      refine aP.fld r3 hra ho 10 (c:=.sl) (v:=b10) rfl (IXo (by omega) (by omega) (Zj (c:=.i .u64) (x:=(x2:Int)) (Row.ld rl' hao hu2) (lT (.i .u64) (x2:Int)) (aP.ix r3 (by decide) (z:=(i:Int)) rfl ho fun a' hra'=>?_)))
      rw[add_add (a'.add _) 7 3]
      refine aP.fld r3 hra' ho 10 (c:=.sl) (v:=b10) rfl (IXo (by omega) (by omega) (Zj (c:=.i .u64) (x:=(x3:Int)) (Row.ld rl' hao hu3) (lT (.i .u64) (x3:Int)) (IXv (by omega) (by omega) ?_)))
      have vb:=T.vb v3 (.inr (.inr (.inr rfl))) av hav
      have nq:=(T.vd av hav).2.1
      have hq3: ∀{w':World},Am (fun z=>z=av.block) w193 w'→w'.cell? (Addr.add ⟨q,0,none⟩ 3)=some ((w193.cell? (Addr.add ⟨q,0,none⟩ 3)).getD undef):=fun u=>T.kq.hold u (fun e=>nq e.symm) 3 (by show 3<4;decide)
      refine T.set hav (i:=2) (x:=x2) (by omega) (A'.lb _ (List.mem_of_getElem? hx2)) fun w205 T5 u5=>⟨⟨hq3 u5,trivial⟩,IXv (by omega) (by omega) ?_⟩
      refine T5.set hav (i:=3) (x:=x3) (by rw[List.length_set];omega) (A'.lb _ (List.mem_of_getElem? hx3)) fun w207 T7 u7=>⟨trivial,_,((oQ.refl c).two (by omega)).two (by omega),?_,T7⟩
      exact(L3.far u5 (fun z hz e=>by have:=bz z hz;omega) (fun z hz e=>by have:=by2 z hz;omega) fun z e=>by have:=L2.a.g.size;omega).far u7 (fun z hz e=>by have:=bz z hz;omega) (fun z hz e=>by have:=by2 z hz;omega) fun z e=>by have:=L2.a.g.size;omega
    rintro _ W4 ⟨e,hE,L4,T4⟩ _
    rw[Be]
    have L4:=L4.Ai (Af.drew W4)
    have T4:=T4.Ai (Af.drew W4)
    generalize W4.drew=w208 at*
    refine T4.kp.cA (cs:=jC) (y0,y1,y2,y3,()) rfl (T4.kq.cA (cs:=jC) (v0,v1,v2,v3,()) rfl ?_)
    have nz: ∀z,W2.heap.size≤z→ ¬Z z:=fun z h q=>by have:=bz z q;omega
    have ny: ∀z,W2.heap.size≤z→ ¬Y2 z:=fun z h q=>by have:=by2 z q;omega
    have Cy:dJ w208 Z c y0 y1 y2 y3:=⟨T4.yt,T4.ys,T4.yh,T4.yl,T4.cb,fun s hs a ha=>⟨(T4.yb s hs a ha).2,nz _ (T4.yb s hs a ha).1⟩⟩
    refine Ce.g (t:=ta) (c:=c) L4.a.h (T2.Ai L4.a.g) (L4.a.n0 T2) Cy fun w48 Z1 h1 x1=>?_
    have HV:=fun{w':World} (u:Am Z w208 w') (j:Nat) (hj:j<4)=>T4.kq.hold u (nz q T4.lq) j (by exact hj)
    have HP:=fun{w':World} (u:Am Z w208 w') (j:Nat) (hj:j<4)=>T4.kp.hold u (nz p T4.lp) j (by exact hj)
    refine⟨⟨HV x1.u 0 (by decide),HV x1.u 1 (by decide),HV x1.u 2 (by decide),HV x1.u 3 (by decide),HP x1.u 0 (by decide),HP x1.u 1 (by decide),HP x1.u 2 (by decide),HP x1.u 3 (by decide),trivial⟩,?_⟩
    have L5:=L4.na h1 x1
    have vz: ∀s,(s=v0∨s=v1∨s=v2∨s=v3)→ ∀a,s.1=some a→ ¬Z a.block:=fun s hs a ha=>nz _ (T4.vb s hs a ha).1
    have Cv:dJ w48 Y2 e v0 v1 v2 v3:=⟨Row.upd T4.vt x1.u (vz _ (.inl rfl)),Row.upd T4.vs x1.u (vz _ (.inr (.inl rfl))),Row.upd T4.vh x1.u (vz _ (.inr (.inr (.inl rfl)))),Row.upd T4.vl x1.u (vz _ (.inr (.inr (.inr rfl)))),T4.eb,fun s hs a ha=>⟨Nat.lt_of_lt_of_le (T4.vb s hs a ha).2 x1.u.size,ny _ (T4.vb s hs a ha).1⟩⟩
    refine Ce.g (t:=tb2) (c:=e) L5.b.h (T2.Ai L5.a.g) (L5.b.n0 T2) Cv fun w50 Y1 h2 x2=>?_
    have VP:Am (fun z=>Z z∨Y2 z) w208 w50:=Am.trans (x1.u.mono fun _ h=>.inl h) (x2.u.mono fun _ h=>.inr h) fun _ _ h=>h
    have HY:=fun(j:Nat) (hj:j<4)=>T4.kp.hold VP (fun h=>h.elim (nz p T4.lp) (ny p T4.lp)) j (by exact hj)
    refine⟨⟨HY 0 (by decide),HY 1 (by decide),HY 2 (by decide),HY 3 (by decide),trivial⟩,?_⟩
    have PS:=P2.step L4.a.h.1 L4.b.h.1 (by omega) hE
    exact bK (fun ne=>absurd PS.1.symm ne) fun _=>⟨Z1,Y1,_,_,L5.nb h2 x2,PS.2.mono (by omega)⟩
  rintro _ W3 ⟨Z3,Y3,ta3,tb3,L3,P3⟩ _
  refine Ci.by (fun z W'=>Af W3 W'∧ ∃j:Nat,j≤2∧z=((j:Int),())) (fun z=>2-z.1.toNat) ⟨Af.refl _,0,by omega,rfl⟩ ?_
  rintro z W4 ⟨g4',q,hq,rfl⟩ _
  have L4:=L3.Ai g4'
  refine Dx (fun c7=>?_) fun c7=>?_
  · have hql:q<2:=by have c7:(q:Int)<2:=c7;omega
    have nq:wrap .i64 ((q:Int)+1)=((q+1:Nat):Int):=by rw[Ah (by unfold I64;omega)];rfl
    obtain⟨et,es⟩:=P3.tells hql
    refine Dq.u L4.a.h fun w47 u47=>Ad fun p48 w49 e48 k48 u48=>k48.Fg (encs K5 (Yc (ta3.tim q).1)) rfl rfl fun w50 k50 v50=>?_
    have f50:Af W4 w50:=Af.fresh u47 u48 v50 e48
    have L50:=L4.Ai f50
    refine Dq.u L50.b.h fun w52 u52=>Ad fun p53 w54 e53 k53 u53=>k53.Fg (encs K5 (Yc (tb3.tim q).1)) rfl rfl fun w55 k55 v55=>?_
    have f55:Af w50 w55:=Af.fresh u52 u53 v55 e53
    have L55:=L50.Ai f55
    rw[et] at k55⊢
    refine Bo.t L55.a.h fun w57 u57=>Bo.t (L55.Ai u57).b.h fun w59 u59=>?_
    rw[es]
    refine Jl (by simp) ?_
    refine((k50.Ai f55).Ai (u57.trans u59)).cA (cs:=K5) (Yc (ta3.tim q).1) rfl ((k55.Ai (u57.trans u59)).cA (cs:=K5) (Yc (ta3.tim q).1) rfl (Jl (by simp) (Jl (by simp) ?_)))
    exact⟨⟨(((g4'.trans f50).trans f55).trans u57).trans u59,q+1,by omega,by rw[nq]⟩,by show 2-(wrap .i64 ((q:Int)+1)).toNat<2-((q:Int)).toNat;rw[nq,Int.toNat_natCast,Int.toNat_natCast];omega⟩
  · exact⟨⟨i+1,by omega,by rw[ni],Z3,Y3,ta3,tb3,L4,P3⟩,by show _-(wrap .i64 ((i:Int)+1)).toNat<_-((i:Int)).toNat;rw[ni,Int.toNat_natCast,Int.toNat_natCast];omega⟩
theorem law27_NetApart.fin{cs:List Value}{s r:Sl}{w:World}(h:zL w shT cs)(hs:zL w (.sl 11 Amh) [bP s])(hr:zL w (.sl 11 Amh) [bP r])(hT:Tb w):Ae prog F.law27_NetApart [.agg cs.toArray,.slice s.1 s.2.1 s.2.2,.slice r.1 r.2.1 r.2.2] w false Wh (Holds w):=by
  obtain⟨S,so,rfl,hR⟩:=kK h
  obtain⟨xs,h1,h2⟩:=kF hs
  obtain⟨os,h3,h4⟩:=kF hr
  exact law27_NetApart.cl hT hR h1 h2 h3 h4
end Go.Proofs.YticgocmhmffneaaGreatDoor
