import Derived.Test.YticgocmhmffneaaGreatDoorMtB
import Derived.Test.YticgocmhmffneaaGreatDoorNtP
namespace Go.Proofs.YticgocmhmffneaaGreatDoor
open Go Go.Eng Tryz
open Go.IntKind (wrap)
set_option linter.unusedSimpArgs false
set_option linter.unusedVariables false
set_option maxRecDepth 100000
set_option maxHeartbeats 8000000
structure ChW(w:World)(Z:NP)(c:Ch)(s0 s1 s2 s3:Sl):Prop where
  t:Row w s0 1 (Na c.ticks)
  s:Row w s1 1 (Na c.send)
  h:Row w s2 1 (Na c.hear)
  l:Row w s3 1 (iY c.lost)
  lb: ∀x∈c.lost,x<18446744073709551616
  b: ∀s,(s=s0∨s=s1∨s=s2∨s=s3)→ ∀a,s.1=some a→a.block<w.heap.size∧ ¬Z a.block
theorem ChW.nx{w w':World}{Z Z':NP}{c:Ch}{s0 s1 s2 s3:Sl}(h:ChW w Z c s0 s1 s2 s3)(x:Nx Z w Z' w'):ChW w' Z' c s0 s1 s2 s3:=
  ⟨Row.upd h.t x.u fun a ha=>(h.b _ (.inl rfl) a ha).2,Row.upd h.s x.u fun a ha=>(h.b _ (.inr (.inl rfl)) a ha).2,Row.upd h.h x.u fun a ha=>(h.b _ (.inr (.inr (.inl rfl))) a ha).2,Row.upd h.l x.u fun a ha=>(h.b _ (.inr (.inr (.inr rfl))) a ha).2,h.lb,
   fun s hs a ha=>⟨Nat.lt_of_lt_of_le (h.b s hs a ha).1 x.u.size,fun q=>(x.sub _ q).elim (h.b s hs a ha).2 fun q=>by have:=(h.b s hs a ha).1;omega⟩⟩
theorem ChW.Ai{w w':World}{Z:NP}{c:Ch}{s0 s1 s2 s3:Sl}(h:ChW w Z c s0 s1 s2 s3)(u:Af w w'):ChW w' Z c s0 s1 s2 s3:=h.nx (Nx.of u)
theorem U2{xs:List Int}{i:Nat}(h:i<xs.length):xs[i]? =some (Nz xs i):=by
  unfold Nz;rw[List.getD_eq_getElem?_getD,List.getElem?_eq_getElem h];rfl
theorem Ip.q{w:World}{n:Nat}{q:Q7}{t:Nt}(h:TQ w n q t)(g:Ql t){s:Sl}{xs:List Int}(hR:Row w s 1 (Na xs)){K:TR Wh→WP}(hk:K ((Rk t.s.jit t.ds.length xs,()),()) w):Ae prog F.Ip [pB n,.slice s.1 s.2.1 s.2.2] w false Wh K:=by
  refine Ip.ok (list:=s) ?_
  unfold Ip.wp
  have hl:=h.sl
  have hx:=Me hR
  have hj:=g.jt
  have hr:=g.rng
  rw[Ac]
  refine h.f.c1 12 (c:=.sl) (x:=q.sn) rfl (bK (fun c=>?_) fun c=>?_)
  · have c:(s.2.1:Int)≠(q.sn.2.1:Int):=c
    have e:Rk t.s.jit t.ds.length xs=false:=by
      unfold Rk
      rw[decide_eq_false (by omega),Bool.false_and]
    rw[e] at hk;exact hk
  have c:(s.2.1:Int)=(q.sn.2.1:Int):=c
  have no: ∀{i:Nat},i<xs.length→ ¬(-t.s.jit≤Nz xs i∧Nz xs i≤t.s.jit)→Rk t.s.jit t.ds.length xs=false:=fun{i} hi hn=>by
    cases hb:Rk t.s.jit t.ds.length xs with
    |false=>rfl
    |true=>
      unfold Rk at hb
      rw[Bool.and_eq_true,List.all_eq_true] at hb
      have:=hb.2 _ (List.mem_of_getElem? (U2 hi))
      simp only[Bool.and_eq_true,decide_eq_true_eq] at this
      exact absurd this hn
  refine Ci.by (fun z W=>W=w∧ ∃i:Nat,i≤xs.length∧z=((i:Int),())∧ ∀j,j<i→ -t.s.jit≤Nz xs j∧Nz xs j≤t.s.jit) (fun z=>xs.length-z.1.toNat) ⟨rfl,0,by omega,rfl,fun j hj=>by omega⟩ ?_
  rintro z W ⟨rfl,i,hi,rfl,ha⟩ _
  refine Dx (fun c1=>?_) fun c1=>?_
  · have hil:i<xs.length:=by have c1:(i:Int)<(s.2.1:Int):=c1;omega
    refine Row.ix hR (z:=(i:Int)) rfl (U2 hil) ?_
    rw[Ac]
    refine h.f.c1 8 (c:=KI) (x:=t.s.jit) rfl ?_
    rw[Ah (by unfold I64;omega)]
    refine Dx (fun c2=>?_) fun c2=>?_
    · have c2:Nz xs i<0-t.s.jit:=c2
      have e:=no hil (by omega)
      rw[e] at hk;exact hk
    have c2: ¬Nz xs i<0-t.s.jit:=c2
    rw[Ac]
    refine h.f.c1 8 (c:=KI) (x:=t.s.jit) rfl (Dx (fun c3=>?_) fun c3=>?_)
    · have c3:Nz xs i>t.s.jit:=c3
      have e:=no hil (by omega)
      rw[e] at hk;exact hk
    have c3: ¬Nz xs i>t.s.jit:=c3
    have nx:wrap .i64 ((i:Int)+1)=((i+1:Nat):Int):=by rw[Ah (by unfold I64;omega)];rfl
    refine⟨⟨rfl,i+1,by omega,by rw[nx],fun j hj=>?_⟩,by rw[nx,Int.toNat_natCast,Int.toNat_natCast];omega⟩
    by_cases e:j=i
    · subst e;omega
    · exact ha j (by omega)
  · have hil:i=xs.length:=by have c1: ¬(i:Int)<(s.2.1:Int):=c1;omega
    have e:Rk t.s.jit t.ds.length xs=true:=by
      unfold Rk
      rw[decide_eq_true (by omega),Bool.true_and,List.all_eq_true]
      intro x hx
      obtain⟨j,hj,e⟩:=List.mem_iff_getElem.1 hx
      have:=ha j (by omega)
      have e2:Nz xs j=x:=by unfold Nz;rw[List.getD_eq_getElem?_getD,List.getElem?_eq_getElem hj,e];rfl
      rw[e2] at this
      simp only[Bool.and_eq_true,decide_eq_true_eq]
      exact this
    rw[e] at hk;exact hk
theorem Iz.q{w:World}{n:Nat}{q:Q7}{t:Nt}(h:TQ w n q t)(g:Ql t){Z:NP}{c:Ch}{s0 s1 s2 s3:Sl}(C:ChW w Z c s0 s1 s2 s3){K:TR Si→WP}(hk: ∀w',Af w w'→K ((t.chk c,()),()) w'):
    Ae prog F.Iz [pB n,.agg #[bP s0,bP s1,bP s2,bP s3]] w false Si K:=by
  refine Iz.ok (c0:=s0) (c1:=s1) (c2:=s2) (c3:=s3) ?_
  unfold Iz.wp
  refine Ad fun p1 w2 e1 k1 u1=>Jl rfl ?_
  change Az w2 p1 [bP s0,bP s1,bP s2,bP s3] at k1
  rw[Be]
  have g3:=u1.trans (Af.drew w2)
  have k3:=k1.drew
  have X:TQ w2.drew n q t:=h.Ai g3
  have C:=C.Ai g3
  generalize w2.drew=w3 at*
  have hl:=X.sl
  have l0:=Me C.t
  have l3:s3.2.1=c.lost.length:=by have:=Row.Abk C.l;rw[List.length_map] at this;exact this
  have hr:=g.rng
  have one:(c.ticks.length≠t.ds.length∨c.lost.length>t.ds.length∨Rk t.s.jit t.ds.length c.send=false∨Rk t.s.jit t.ds.length c.hear=false)→ ∀w',Af w w'→K ((1,()),()) w':=fun hc w' gw=>by
    have:=hk w' gw
    unfold Nt.chk at this
    rw[if_pos hc] at this
    exact this
  refine k3.c0 (c:=.sl) (x:=s0) rfl ?_
  rw[Ac]
  refine X.f.c1 12 (c:=.sl) (x:=q.sn) rfl (bK (fun c1=>one (.inl ?_) w3 g3) fun c1=>?_)
  · have c1:(s0.2.1:Int)≠(q.sn.2.1:Int):=c1
    omega
  have c1:(s0.2.1:Int)=(q.sn.2.1:Int):=c1
  refine k3.c1 3 (c:=.sl) (x:=s3) rfl ?_
  rw[Ac]
  refine X.f.c1 12 (c:=.sl) (x:=q.sn) rfl (Dx (fun c2=>one (.inr (.inl ?_)) w3 g3) fun c2=>?_)
  · have c2:(s3.2.1:Int)>(q.sn.2.1:Int):=c2
    omega
  have c2: ¬(s3.2.1:Int)>(q.sn.2.1:Int):=c2
  have hold1:=fun j hj=>k3.hold (Af.refl w3) (fun x=>x) j hj
  have X3:=X.f.hold (Af.refl w3) (fun x=>x) 12 (by rw[Z9];decide)
  refine k3.c1 1 (c:=.sl) (x:=s1) rfl (Ip.q X g C.s ⟨⟨hold1 1 (by simp),X3,hold1 3 (by simp),X3,hold1 0 (by simp),trivial⟩,?_⟩)
  refine Ee (fun c3=>one (.inr (.inr (.inl c3))) w3 g3) fun c3=>?_
  have c3:Rk t.s.jit t.ds.length c.send=true:=c3
  refine k3.c1 2 (c:=.sl) (x:=s2) rfl (Ip.q X g C.h ⟨⟨hold1 1 (by simp),X3,hold1 3 (by simp),X3,hold1 0 (by simp),trivial⟩,?_⟩)
  refine Ee (fun c4=>one (.inr (.inr (.inr c4))) w3 g3) fun c4=>?_
  have c4:Rk t.s.jit t.ds.length c.hear=true:=c4
  have tl:c.ticks.length=t.ds.length:=by omega
  have hk: ∀w',Af w w'→K ((if((t.ds.zip c.ticks).all fun x=>oM x.1.s.Aw x.2)=false then 1 else if((t.ds.zip c.ticks).any fun x=>x.1.on&&decide (x.1.now+x.2>1125899906842624))=true then 8 else 0,()),()) w':=fun w' gw=>by
    have:=hk w' gw
    unfold Nt.chk at this
    rw[if_neg (by rintro(q|q|q|q);exact q tl;omega;rw[c3] at q;cases q;rw[c4] at q;cases q)] at this
    exact this
  rw[Ac]
  refine X.f.c1 12 (c:=.sl) (x:=q.sn) rfl ?_
  refine Ci.by (fun z W=>W=w3∧ ∃i:Nat,i≤t.ds.length∧z=((i:Int),())∧ ∀j d,j<i→t.ds[j]? =some d→oM d.s.Aw (Nz c.ticks j)=true) (fun z=>t.ds.length-z.1.toNat) ⟨rfl,0,by omega,rfl,fun j d hj=>by omega⟩ ?_
  rintro z W ⟨rfl,i,hi,rfl,ha⟩ _
  refine Dx (fun c5=>?_) fun c5=>?_
  · have hil:i<t.ds.length:=by have c5:(i:Int)<(q.sn.2.1:Int):=c5;omega
    obtain⟨d,hd⟩:=g.at hil
    refine X.at (z:=(i:Int)) rfl hil (k3.c0 (c:=.sl) (x:=s0) rfl (Row.ix C.t (z:=(i:Int)) rfl (U2 (by omega)) (Sm.o (X.nd i d hd) (Ee (fun c6=>?_) fun c6=>?_))))
    · have c6:oM d.s.Aw (Nz c.ticks i)=false:=c6
      have e:((t.ds.zip c.ticks).all fun x=>oM x.1.s.Aw x.2)=false:=by
        rw[List.all_eq_false]
        exact⟨(d,Nz c.ticks i),dC.2 ⟨i,hd,U2 (by omega)⟩,by rw[c6];decide⟩
      have:=hk W g3
      rw[if_pos e] at this
      exact this
    · have c6:oM d.s.Aw (Nz c.ticks i)=true:=c6
      have nx:wrap .i64 ((i:Int)+1)=((i+1:Nat):Int):=by rw[Ah (by unfold I64;omega)];rfl
      refine⟨⟨rfl,i+1,by omega,by rw[nx],fun j x hj hx=>?_⟩,by rw[nx,Int.toNat_natCast,Int.toNat_natCast];omega⟩
      by_cases e:j=i
      · subst e
        rw[hd] at hx;injection hx with hx;subst hx;exact c6
      · exact ha j x (by omega) hx
  have hil:i=t.ds.length:=by have c5: ¬(i:Int)<(q.sn.2.1:Int):=c5;omega
  have eall:((t.ds.zip c.ticks).all fun x=>oM x.1.s.Aw x.2)=true:=by
    rw[List.all_eq_true]
    intro x hx
    obtain⟨j,h1,h2⟩:=dC.1 hx
    have hj:=(List.getElem?_eq_some_iff.1 h1).1
    have:=ha j _ (by omega) h1
    have e2:Nz c.ticks j=x.2:=by unfold Nz;rw[List.getD_eq_getElem?_getD,h2];rfl
    rw[e2] at this
    exact this
  rw[if_neg (by rw[eall];decide)] at hk
  rw[Ac]
  refine X.f.c1 12 (c:=.sl) (x:=q.sn) rfl ?_
  refine Ci.by (fun z W'=>Af W W'∧ ∃i:Nat,i≤t.ds.length∧z=((i:Int),())∧ ∀j d,j<i→t.ds[j]? =some d→(d.on&&decide (d.now+Nz c.ticks j>1125899906842624))=false) (fun z=>t.ds.length-z.1.toNat) ⟨Af.refl _,0,by omega,rfl,fun j d hj=>by omega⟩ ?_
  rintro z W' ⟨gW,i2,hi2,rfl,hb⟩ _
  have G:=g3.trans gW
  refine Dx (fun c5=>?_) fun c5=>?_
  · have hil:i2<t.ds.length:=by have c5:(i2:Int)<(q.sn.2.1:Int):=c5;omega
    obtain⟨d,hd⟩:=g.at hil
    have X':TQ W' n q t:=X.Ai gW
    have k':=k3.Ai gW
    have C':=C.Ai gW
    have nx:wrap .i64 ((i2:Int)+1)=((i2+1:Nat):Int):=by rw[Ah (by unfold I64;omega)];rfl
    have dk:=(g.nd i2 d hd).1.g
    have dn:=dk.now
    have ft:oM d.s.Aw (Nz c.ticks i2)=true:=ha i2 d (by omega) hd
    have f2:=mF.1 ft
    have dr:0≤d.s.Aw∧d.s.Aw≤10:=by
      obtain⟨_,_,f,_⟩:=Uj.1 dk.s
      have:=(Ya.1 f).2
      omega
    have on: ∀{w':World},Af W W'→Af W w'→(d.on&&decide (d.now+Nz c.ticks i2>1125899906842624))=false→
        (Af W w'∧ ∃i':Nat,i'≤t.ds.length∧(wrap .i64 ((i2:Int)+1),())=((i':Int),())∧ ∀j d,j<i'→t.ds[j]? =some d→(d.on&&decide (d.now+Nz c.ticks j>1125899906842624))=false)∧t.ds.length-(wrap .i64 ((i2:Int)+1)).toNat<t.ds.length-((i2:Int)).toNat:=fun{w'} _ gw e0=>by
      refine⟨⟨gw,i2+1,by omega,by rw[nx],fun j x hj hx=>?_⟩,by rw[nx,Int.toNat_natCast,Int.toNat_natCast];omega⟩
      by_cases e:j=i2
      · subst e
        rw[hd] at hx;injection hx with hx;subst hx;exact e0
      · exact hb j x (by omega) hx
    refine X'.at (z:=(i2:Int)) rfl hil (Cb.o (X'.nd i2 d hd) fun w36 u36=>Ad fun p37 w38 e37 k37 u38=>k37.Fg (encs dL (wE d)) rfl rfl fun w39 k39 u39=>?_)
    have f39:Af W' w39:=Af.fresh u36 u38 u39 e37
    rw[Be]
    have f40:=f39.trans (Af.drew w39)
    have k40:=k39.drew
    generalize w39.drew=w40 at*
    refine k40.c0 (c:=.b) (x:=(wE d).1) rfl ?_
    rw[Am7]
    refine bM (fun c6=>?_) fun c6=>?_
    · have c6:d.on=true:=c6
      have es:wE d=Adn d:=by unfold wE;rw[if_pos c6]
      rw[es] at k40
      refine k40.c1 2 (c:=KI) (x:=d.now) rfl ((k'.Ai f40).c0 (c:=.sl) (x:=s0) rfl (Row.ix (C'.Ai f40).t (z:=(i2:Int)) rfl (U2 (by omega)) ?_))
      rw[Ah (by unfold I64;omega)]
      refine Dx (fun c7=>?_) fun c7=>?_
      · have c7:d.now+Nz c.ticks i2>1125899906842624:=c7
        have e:((t.ds.zip c.ticks).any fun x=>x.1.on&&decide (x.1.now+x.2>1125899906842624))=true:=by
          rw[List.any_eq_true]
          exact⟨(d,Nz c.ticks i2),dC.2 ⟨i2,hd,U2 (by omega)⟩,by rw[c6,decide_eq_true c7];rfl⟩
        have:=hk w40 (G.trans f40)
        rw[if_pos e] at this
        exact this
      · have c7: ¬d.now+Nz c.ticks i2>1125899906842624:=c7
        exact on gW (gW.trans f40) (by rw[decide_eq_false c7,Bool.and_false])
    · have c6:d.on=false:=c6
      exact on gW (gW.trans f40) (by rw[c6,Bool.false_and])
  · have hil2:i2=t.ds.length:=by have c5: ¬(i2:Int)<(q.sn.2.1:Int):=c5;omega
    have e:((t.ds.zip c.ticks).any fun x=>x.1.on&&decide (x.1.now+x.2>1125899906842624))=false:=by
      rw[List.any_eq_false]
      intro x hx
      obtain⟨j,h1,h2⟩:=dC.1 hx
      have hj:=(List.getElem?_eq_some_iff.1 h1).1
      have:=hb j _ (by omega) h1
      have e2:Nz c.ticks j=x.2:=by unfold Nz;rw[List.getD_eq_getElem?_getD,h2];rfl
      rw[e2] at this
      rw[this];decide
    have:=hk W' G
    rw[if_neg (by rw[e];decide)] at this
    exact this
theorem Jd.q{w:World}{n:Nat}{q:Q7}{t:Nt}(h:TQ w n q t)(g:Ql t){K:TR [(false,[.i .u64])]→WP}(hk: ∀w',Af w w'→K (((Lt (bW t.ds) t.ds.length:Nat),()),()) w'):
    Ae prog F.Jd [pB n] w false [(false,[.i .u64])] K:=by
  refine Jd.ok ?_
  unfold Jd.wp
  have hl:=h.sl
  have hr:=g.rng
  rw[Ac]
  refine h.f.c1 12 (c:=.sl) (x:=q.sn) rfl ?_
  refine Ci.by (fun z W=>Af w W∧ ∃i:Nat,i≤t.ds.length∧z=(((Lt (bW t.ds) i:Nat):Int),(i:Int),())) (fun z=>t.ds.length-z.2.1.toNat) ⟨Af.refl _,0,by omega,rfl⟩ ?_
  rintro z W ⟨gW,i,hi,rfl⟩ _
  refine Dx (fun c=>?_) fun c=>?_
  · have hil:i<t.ds.length:=by have c:(i:Int)<(q.sn.2.1:Int):=c;omega
    obtain⟨d,hd⟩:=g.at hil
    have X:TQ W n q t:=h.Ai gW
    have nx:wrap .i64 ((i:Int)+1)=((i+1:Nat):Int):=by rw[Ah (by unfold I64;omega)];rfl
    have ea:bW t.ds i=d.S9:=by unfold bW;rw[hd]
    refine X.at (z:=(i:Int)) rfl hil (Iy.o (X.nd i d hd) fun w9 u9=>bM (fun c1=>?_) fun c1=>?_)
    · have c1:d.S9=true:=c1
      rw[Vg (by show(0:Int)≤(i:Int);omega)]
      refine⟨⟨gW.trans u9,i+1,by omega,?_⟩,by show _-(wrap .i64 ((i:Int)+1)).toNat<_-((i:Int)).toNat;rw[nx,Int.toNat_natCast,Int.toNat_natCast];omega⟩
      show(Lm .or .u64 ((Lt (bW t.ds) i:Nat):Int) (Sz .u64 1 (i:Int)),wrap .i64 ((i:Int)+1),())=_
      rw[nx,sh1 (by omega),Akr (xG _ _ (by omega)) (Ab5 (by omega))]
      have:Lt (bW t.ds) (i+1)=Lt (bW t.ds) i|||2^i:=by show(if bW t.ds i=true then setB i (Lt (bW t.ds) i) else _)=_;rw[if_pos (by rw[ea];exact c1)];rfl
      rw[this]
    · have c1:d.S9=false:=c1
      refine⟨⟨gW.trans u9,i+1,by omega,?_⟩,by show _-(wrap .i64 ((i:Int)+1)).toNat<_-((i:Int)).toNat;rw[nx,Int.toNat_natCast,Int.toNat_natCast];omega⟩
      show(((Lt (bW t.ds) i:Nat):Int),wrap .i64 ((i:Int)+1),())=_
      have:Lt (bW t.ds) (i+1)=Lt (bW t.ds) i:=by show(if bW t.ds i=true then setB i (Lt (bW t.ds) i) else _)=_;rw[if_neg (by rw[ea,c1];decide)]
      rw[nx,this]
  · have hil:i=t.ds.length:=by have c: ¬(i:Int)<(q.sn.2.1:Int):=c;omega
    rw[←hil] at hk
    exact hk W gW
end Go.Proofs.YticgocmhmffneaaGreatDoor
