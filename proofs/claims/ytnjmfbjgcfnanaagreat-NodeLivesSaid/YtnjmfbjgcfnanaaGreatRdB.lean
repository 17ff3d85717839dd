import Derived.Test.YtnjmfbjgcfnanaaGreatRdA
namespace Go.Proofs.YtnjmfbjgcfnanaaGreat
open Go Go.Eng Tryz
open Go.IntKind (wrap)
set_option linter.unusedSimpArgs false
set_option linter.unusedVariables false
set_option maxRecDepth 100000
set_option maxHeartbeats 8000000
abbrev rcC(d n:Int):List Value:=[iV d,iV n]
theorem Ph.cl{b:Nat}{d n t:Int}(hd:0≤d∧d≤10)(hn:0≤n∧n≤1125899906842624){w:World}(hB:Az w b (rcC d n)){k:TR Si→WP}(h: ∀w',Az w' b (rcC d (if goT d n t=0 then n+t else n))→Am (fun z=>z=b) w w'→k ((goT d n t,()),()) w'):Ae prog F.Ph [pB b,iV t] w false Si k:=by
  refine Ph.ok ?_
  unfold Ph.wp
  have h: ∀c,goT d n t=c→ ∀w',Az w' b (rcC d (if c=0 then n+t else n))→Am (fun z=>z=b) w w'→k ((c,()),()) w':=fun c e=>by subst e;exact h
  have r:=Am.refl (fun z=>z=b) w
  have n1: ¬(1000-d≤t∧t≤1000+d)→goT d n t=1:=fun hq=>by unfold goT;rw[if_neg (by rw[Adj hq];decide)]
  rw[Ac]
  refine hB.c0 (c:=KI) (x:=d) rfl ?_
  rw[Ah (n:=1000-d) (by unfold I64;omega)]
  refine Dx (fun c=>h 1 (n1 fun q=>by have c:t<1000-d:=c;omega) w hB r) fun c1=>?_
  rw[Ac]
  refine hB.c0 (c:=KI) (x:=d) rfl ?_
  rw[Ah (n:=1000+d) (by unfold I64;omega)]
  refine Dx (fun c=>h 1 (n1 fun q=>by have c:t>1000+d:=c;omega) w hB r) fun c2=>?_
  have c1: ¬t<1000-d:=c1
  have c2: ¬t>1000+d:=c2
  have hf:oM d t=true:=mF.2 ⟨by omega,by omega⟩
  rw[Ac]
  refine hB.c1 1 (c:=KI) (x:=n) rfl ?_
  rw[Ah (n:=1125899906842624-t) (by unfold I64;omega)]
  refine Dx (fun c=>h 8 (by unfold goT;rw[if_pos hf,if_pos (by have c:n>1125899906842624-t:=c;omega)]) w hB r) fun c3=>?_
  have c3: ¬n>1125899906842624-t:=c3
  rw[Ac]
  refine hB.c1 1 (c:=KI) (x:=n) rfl ?_
  dsimp only
  rw[Ac,Ah (n:=n+t) (by unfold I64;omega)]
  exact hB.sN 1 [_] (by simp) rfl fun w10 k10 u10=>h 0 (by unfold goT;rw[if_pos hf,if_neg (by omega)]) w10 k10 u10
theorem Wq.cl{me:Int}{w:World}{k:TR RPp→WP}(h: ∀b w',w.heap.size=b→Az w' b (yJ me (-1) (-1))→Af w w'→k ((some ⟨b,0,none⟩,()),()) w'):Ae prog F.Wq [iV me] w false RPp k:=by
  refine Wq.ok ?_
  unfold Wq.wp
  exact Ad fun p w2 e k2 u2=>h p w2 e k2 u2
theorem Jw.cl{b:Nat}{me lev par:Int}{x:Int×Int}{w:World}(hB:Az w b (yJ me lev par)){k:TR Wh→WP}
    (h: ∀v w',Az w' b (yJ me (N7 me lev par x).1.1 (N7 me lev par x).1.2)→Am (fun z=>z=b) w w'→k ((v,()),()) w'):Ae prog F.Jw [pB b,iV x.1,iV x.2] w false Wh k:=by
  refine Jw.ok ?_
  unfold Jw.wp
  have h: ∀r,(N7 me lev par x).1=r→ ∀v w',Az w' b (yJ me r.1 r.2)→Am (fun z=>z=b) w w'→k ((v,()),()) w':=fun r e=>by subst e;exact h
  have lb:=hB.lt
  have r0:=Am.refl (fun z=>z=b) w
  have bad: ¬(okF (tY x)=true)→(N7 me lev par x).1=(lev,par):=fun hn=>by
    unfold N7
    rw[if_pos (.inl (by cases hb:okF (tY x);rfl;exact absurd hb hn))]
  refine Dx (fun c=>h _ (bad fun q=>by have:=(iI.1 q).1;have c:x.1<0:=c;omega) false w hB r0) fun c1=>Dx (fun c=>h _ (bad fun q=>by have:=(iI.1 q).1;have c:x.1>63:=c;omega) false w hB r0) fun c2=>Dx (fun c=>h _ (bad fun q=>by have:=(iI.1 q).2;have c:x.2<0:=c;omega) false w hB r0) fun c3=>Dx (fun c=>h _ (bad fun q=>by have:=(iI.1 q).2;have c:x.2>63:=c;omega) false w hB r0) fun c4=>?_
  have c1: ¬x.1<0:=c1
  have c2: ¬x.1>63:=c2
  have c3: ¬x.2<0:=c3
  have c4: ¬x.2>63:=c4
  have hok:okF (tY x)=true:=iI.2 ⟨by omega,by omega⟩
  rw[Ac]
  refine hB.c0 (c:=KI) (x:=me) rfl (Yl (fun e=>h (lev,par) (by unfold N7;rw[if_pos (.inr e)]) false w hB r0) fun hme=>?_)
  have hme:x.1≠me:=hme
  have n0: ¬(okF (tY x)=false∨x.1=me):=by rw[hok];rintro(h|h);cases h;exact hme h
  rw[Ac]
  refine hB.cA (cs:=[KI,KI,KI]) (me,lev,par,()) rfl (Ad fun p5 w6 e5 k5 u6=>k5.Fg [iV me,iV lev,iV par] rfl rfl fun w7 k7 u7=>?_)
  have g7:Af w w7:=Af.fresh (Af.refl _) u6 u7 e5
  have B7:=hB.Ai g7
  have ew:wrap .i64 (x.2+1)=x.2+1:=Ah (by unfold I64;omega)
  rw[ew]
  refine Cc.by (fun _ W=>Az W b (yJ me (N7 me lev par x).1.1 (N7 me lev par x).1.2)∧Am (fun z=>z=b) w W∧Az W p5 [iV me,iV lev,iV par]) ?_ ?_
  · rw[Ac]
    refine B7.c1 2 (c:=KI) (x:=par) rfl (Yl (fun e=>?_) fun e=>?_)
    · have e:x.1=par:=e
      rw[Ac]
      refine B7.sN 1 [_] (by simp) rfl fun w14 k14 u14=>Yl (fun e63=>?_) fun e63=>?_
      · have e63:x.2=63:=e63
        rw[Ac]
        refine k14.sN 1 [_] (by simp[splice]) rfl fun w16 k16 u16=>?_
        rw[Ac]
        refine k16.sN 2 [_] (by simp[splice]) rfl fun w18 k18 u18=>⟨?_,?_,?_⟩
        · have:(N7 me lev par x).1=(-1,-1):=by unfold N7;rw[if_neg n0,if_pos ⟨e,by omega⟩]
          rw[this];exact k18
        · exact Am.trans (Am.trans (Am.trans (Am.Bj g7) u14 fun _ _ x=>x) u16 fun _ _ x=>x) u18 fun _ _ x=>x
        · exact((k7.upd u14 (by omega)).upd u16 (by omega)).upd u18 (by omega)
      · have e63:x.2≠63:=e63
        refine⟨?_,Am.trans (Am.Bj g7) u14 fun _ _ x=>x,k7.upd u14 (by omega)⟩
        have:(N7 me lev par x).1=(x.2+1,par):=by
          unfold N7
          rw[if_neg n0,if_neg (by omega)]
          split
          · rename_i hq
            have:x.2+1=lev:=by rcases hq with q|q|q;omega;exact absurd e q.1;exact q.2
            rw[this]
          · rw[←e]
        rw[this];exact k14
    · have e:x.1≠par:=e
      refine Cc.by (fun z W=>W=w7∧z=(decide (x.2<63∧(lev<0∨x.2+1<lev)),())) ?_ ?_
      · refine Dx (fun c=>?_) fun c=>?_
        · have c:x.2<63:=c
          rw[Ac]
          refine B7.c1 1 (c:=KI) (x:=lev) rfl (Dx (fun c5=>⟨rfl,?_⟩) fun c5=>?_)
          · have c5:lev<0:=c5
            rw[decide_eq_true ⟨c,.inl c5⟩]
          · have c5: ¬lev<0:=c5
            rw[Ac]
            refine B7.c1 1 (c:=KI) (x:=lev) rfl ⟨rfl,?_⟩
            have:decide (x.2+1<lev)=decide (x.2<63∧(lev<0∨x.2+1<lev)):=decide_eq_decide.2 ⟨fun q=>⟨c,.inr q⟩,fun q=>q.2.elim (fun q=>absurd q c5) id⟩
            rw[←this]
        · have c: ¬x.2<63:=c
          exact⟨rfl,by rw[decide_eq_false (fun q=>c q.1)]⟩
      · rintro _ _ ⟨rfl,rfl⟩ _
        refine Dx (fun c=>?_) fun c=>?_
        · have c:x.2<63∧(lev<0∨x.2+1<lev):=c
          rw[Ac]
          refine B7.sN 1 [_] (by simp) rfl fun w14 k14 u14=>?_
          rw[Ac]
          refine k14.sN 2 [_] (by simp[splice]) rfl fun w18 k18 u18=>⟨?_,?_,?_⟩
          · have:(N7 me lev par x).1=(x.2+1,x.1):=by
              unfold N7
              rw[if_neg n0,if_neg (by omega),if_neg (by omega)]
            rw[this];exact k18
          · exact Am.trans (Am.trans (Am.Bj g7) u14 fun _ _ x=>x) u18 fun _ _ x=>x
          · exact(k7.upd u14 (by omega)).upd u18 (by omega)
        · have c: ¬(x.2<63∧(lev<0∨x.2+1<lev)):=c
          refine⟨?_,Am.Bj g7,k7⟩
          have:(N7 me lev par x).1=(lev,par):=by
            unfold N7
            rw[if_neg n0,if_neg (by omega),if_pos (by omega)]
          rw[this];exact B7
  · rintro _ w10 ⟨kb,ub,kp⟩ _
    rw[Ap,Ac]
    have K:=kb.drew
    have Kp:=kp.drew
    have U:=ub.drew
    generalize w10.drew=w30 at*
    refine K.c1 1 (c:=KI) (x:=(N7 me lev par x).1.1) rfl (Kp.c1 1 (c:=KI) (x:=lev) rfl (bK (fun _=>h _ rfl _ _ K U) fun _=>?_))
    rw[Ac]
    exact K.c1 2 (c:=KI) (x:=(N7 me lev par x).1.2) rfl (Kp.c1 2 (c:=KI) (x:=par) rfl (h _ rfl _ _ K U))
theorem Va.cl{a b c d:Int}{w:World}{k:TR Wh→WP}(h:k ((oW a b c d,()),()) w):Ae prog F.Va [iV a,iV b,iV c,iV d] w false Wh k:=by
  refine Va.ok ?_
  unfold Va.wp
  have no: ¬oW a b c d=true→k ((false,()),()) w:=fun hn=>by
    cases hb:oW a b c d
    · rw[hb] at h;exact h
    · exact absurd hb hn
  refine Dx (fun c1=>Dx (fun c2=>Dx (fun c3=>Dx (fun c4=>Dx (fun c5=>Dx (fun c6=>Dx (fun c7=>Dx (fun c8=>?_) fun n=>no fun q=>?_) fun n=>no fun q=>?_) fun n=>no fun q=>?_) fun n=>no fun q=>?_) fun n=>no fun q=>?_) fun n=>no fun q=>?_) fun n=>no fun q=>?_) fun n=>no fun q=>?_
  · have c1:a≥0:=c1
    have c2:a≤1125899906842624:=c2
    have c3:b≥0:=c3
    have c4:b≤1125899906842624:=c4
    have c5:c≥0:=c5
    have c6:c≤1125899906842624:=c6
    have c7:d≥0:=c7
    have c8:d≤1125899906842624:=c8
    have e:oW a b c d=decide (d≥a):=by
      unfold oW
      rw[Xk.2 ⟨c1,c2⟩,Xk.2 ⟨c3,c4⟩,Xk.2 ⟨c5,c6⟩,Xk.2 ⟨c7,c8⟩];rfl
    rw[e] at h;exact h
  · exact n (Yt.1 q).2.2.2.1.2
  · exact n (Yt.1 q).2.2.2.1.1
  · exact n (Yt.1 q).2.2.1.2
  · exact n (Yt.1 q).2.2.1.1
  · exact n (Yt.1 q).2.1.2
  · exact n (Yt.1 q).2.1.1
  · exact n (Yt.1 q).1.2
  · exact n (Yt.1 q).1.1
theorem Pv.cl{a b c d:Int}(hg:oW a b c d=true){w:World}{k:TR Si→WP}(h: ∀w',Af w w'→k (((b-a+c-d)/2,()),()) w'):Ae prog F.Pv [iV a,iV b,iV c,iV d] w false Si k:=by
  refine Pv.ok ?_
  unfold Pv.wp
  obtain⟨q1,q2,q3,q4,q5⟩:=Yt.1 hg
  rw[Ah (n:=b-a) (by unfold I64;omega),Ah (n:=b-a+c) (by unfold I64;omega),Ah (n:=b-a+c-d) (by unfold I64;omega)]
  exact Oe.cl (by unfold I64;omega) (by unfold I64;omega) (by omega) fun w2 u2=>h w2 u2
abbrev RP4:List (Bool×List CK):=[(true,Uo)]
theorem Ov.cl{b:Nat}{p:Pr}{to loc:Int}{w:World}(hB:Az w b (gG p)){k:TR RP4→WP}
    (h: ∀w',Az w' b (gG (dD p to loc))→Am (fun z=>z=b) w w'→k (plO (if U5 p to loc=true then some (.pulse (p.me,to,loc)) else none),()) w'):Ae prog F.Ov [pB b,iV to,iV loc] w false RP4 k:=by
  refine Ov.ok ?_
  unfold Ov.wp
  have lb:=hB.lt
  refine Ad fun p1 w2 e1 k1 u1=>?_
  change Az w2 p1 (encs Uo pl0) at k1
  rw[Ac]
  refine(hB.Ai u1).c0 (c:=KI) (x:=p.me) rfl (Ad fun p5 w6 e5 k5 u6=>k5.Fg (encs Uo (Fr.pulse (p.me,to,loc)).pl) rfl rfl fun w7 k7 u7=>?_)
  have l1:=k1.lt
  have g7:Af w w7:=Af.fresh u1 u6 u7 e5
  have B7:=hB.Ai g7
  have q1:=(k1.Ai u6).upd u7 (by omega)
  have no:U5 p to loc=false→ ∀{w':World},Af w7 w'→Au [iV 0,iV 0,iV 0,iV 0,uV 0,uV 0,iV 0,iV 0,iV 0,iV 0,iV 0,iV 0,iV 0,iV 0] ⟨p1,0,none⟩ 0 w' fun w10=>A8 Uo ⟨p1,0,none⟩ 0 w10 fun x=>k (x,()) w10:=fun hf w' g=>
    (q1.Ai g).Fg (encs Uo pl0) rfl rfl fun w10 k10 u10=>k10.cA pl0 rfl (by
      have:=h w10 (by unfold dD;rw[if_neg (by rw[hf];decide)];exact(hB.Ai (g7.trans g)).upd u10 (by omega)) (Am.new (Am.Bj (g7.trans g)) u10 fun hh=>by omega)
      rw[if_neg (by rw[hf];decide)] at this
      exact this)
  rw[Ac]
  refine B7.c1 3 (c:=.b) (x:=p.waits) rfl (bM (fun c=>no (by unfold U5;have c:p.waits=true:=c;rw[c];rfl) (Af.refl _)) fun c1=>?_)
  have c1:p.waits=false:=c1
  rw[Ac]
  refine B7.c1 6 (c:=KI) (x:=p.rest) rfl (Dx (fun c=>no (by unfold U5;have c:p.rest>0:=c;rw[decide_eq_true c];simp) (Af.refl _)) fun c2=>?_)
  have c2: ¬p.rest>0:=c2
  rw[Ac]
  refine B7.c0 (c:=KI) (x:=p.me) rfl (Yl (fun c=>no (by unfold U5;have c:to=p.me:=c;rw[c];simp) (Af.refl _)) fun c3=>?_)
  have c3:to≠p.me:=c3
  refine k7.cA (Fr.pulse (p.me,to,loc)).pl rfl (Fb.clA fun w22 u22=>Ee (fun c=>no ?_ u22) fun c=>?_)
  · have c:wB (Fr.pulse (p.me,to,loc)).pl=false:=c
    rw[gK] at c
    have c:okF (flU (p.me,to,loc))=false:=c
    unfold U5;rw[c];simp
  · have c:wB (Fr.pulse (p.me,to,loc)).pl=true:=c
    rw[gK] at c
    have c:okF (flU (p.me,to,loc))=true:=c
    have hy:U5 p to loc=true:=by unfold U5;rw[c1,decide_eq_false c2,c,beq_false_of_ne c3];rfl
    have B22:=B7.Ai u22
    rw[Ac]
    refine B22.sN 3 [_] (by simp) rfl fun w26 k26 u26=>?_
    rw[Ac]
    refine k26.sN 4 [_] (by simp[splice]) rfl fun w28 k28 u28=>?_
    rw[Ac]
    refine k28.sN 1 [_] (by simp[splice]) rfl fun w30 k30 u30=>?_
    rw[Ac]
    refine k30.sN 2 [_] (by simp[splice]) rfl fun w32 k32 u32=>?_
    have U:Am (fun z=>z=b) w22 w32:=Am.trans (Am.trans (Am.trans u26 u28 fun _ _ x=>x) u30 fun _ _ x=>x) u32 fun _ _ x=>x
    have n5:p5≠b:=by omega
    have n1:p1≠b:=by omega
    refine((k7.Ai u22).upd U n5).cA (Fr.pulse (p.me,to,loc)).pl rfl (((q1.Ai u22).upd U n1).Fg (encs Uo (Fr.pulse (p.me,to,loc)).pl) rfl rfl fun w34 k34 u34=>k34.cA (Fr.pulse (p.me,to,loc)).pl rfl ?_)
    have:=h w34 (by unfold dD;rw[if_pos hy];exact k32.upd u34 (by omega)) (Am.new (Am.trans (Am.Bj (g7.trans u22)) U fun _ _ x=>x) u34 fun hh=>by omega)
    rw[if_pos hy] at this
    exact this
theorem Nl.cl{b:Nat}{p:Pr}{w:World}(hB:Az w b (gG p))(hg:PrG p){k:TR Wh→WP}
    (h: ∀w',Az w' b (gG (Vz p))→Am (fun z=>z=b) w w'→k ((Ub p,()),()) w'):Ae prog F.Nl [pB b] w false Wh k:=by
  refine Nl.ok ?_
  unfold Nl.wp
  obtain⟨g1,g2,g3,g4⟩:=hg
  have h: ∀q v,Vz p=q→Ub p=v→ ∀w',Az w' b (gG q)→Am (fun z=>z=b) w w'→k ((v,()),()) w':=fun q v e1 e2=>by subst e1 e2;exact h
  rw[Ac]
  refine hB.c1 3 (c:=.b) (x:=p.waits) rfl (Ee (fun cw=>?_) fun cw=>?_)
  · have cw:p.waits=false:=cw
    rw[Ac]
    refine hB.c1 6 (c:=KI) (x:=p.rest) rfl ?_
    dsimp only
    rw[Ah (n:=p.rest-1) (by unfold I64;omega),Ac]
    refine hB.sN 6 [_] (by simp) rfl fun w6 k6 u6=>h {p with rest:=max (p.rest-1) 0} false (by unfold Vz;rw[if_pos cw]) (by unfold Ub;rw[cw];rfl) w6 ?_ u6
    have e:(if(0:Int)>p.rest-1 then 0 else p.rest-1)=max (p.rest-1) 0:=by omega
    rw[e] at k6;exact k6
  have cw:p.waits=true:=cw
  have nw: ¬p.waits=false:=by rw[cw];decide
  have hw1:=g4 cw
  rw[Ac]
  refine hB.c1 4 (c:=KI) (x:=p.waited) rfl ?_
  dsimp only
  rw[Ah (n:=p.waited+1) (by unfold I64;omega),Ac]
  refine hB.sN 4 [_] (by simp) rfl fun w10 k10 u10=>?_
  change Az w10 b (gG {p with waited:=p.waited+1}) at k10
  rw[Ac]
  refine k10.c1 4 (c:=KI) (x:=p.waited+1) rfl (Dx (fun c=>?_) fun c=>?_)
  · have c:p.waited+1<2:=c
    exact h {p with waited:=p.waited+1} false (by unfold Vz;rw[if_neg nw,if_pos c]) (by unfold Ub;rw[decide_eq_false (show¬p.waited+1≥2 by omega)];simp) w10 k10 u10
  have c: ¬p.waited+1<2:=c
  rw[Ac]
  refine k10.sN 3 [_] (by simp) rfl fun w14 k14 u14=>?_
  change Az w14 b (gG {p with waited:=p.waited+1,waits:=false}) at k14
  rw[Ac]
  refine k14.c1 5 (c:=KI) (x:=p.tries) rfl ?_
  rw[Ah (n:=p.tries+1) (by unfold I64;omega),Ac]
  refine k14.sN 5 [_] (by simp) rfl fun w18 k18 u18=>?_
  change Az w18 b (gG {p with waited:=p.waited+1,waits:=false,tries:=p.tries+1}) at k18
  have U18:Am (fun z=>z=b) w w18:=Am.trans (Am.trans u10 u14 fun _ _ x=>x) u18 fun _ _ x=>x
  rw[Ac]
  refine k18.c1 5 (c:=KI) (x:=p.tries+1) rfl (Yl (fun c3=>?_) fun c3=>?_)
  · have c3:p.tries+1=3:=c3
    rw[Ac]
    refine k18.sN 5 [_] (by simp) rfl fun w22 k22 u22=>?_
    change Az w22 b (gG {p with waited:=p.waited+1,waits:=false,tries:=0}) at k22
    rw[Ac]
    refine k22.sN 6 [_] (by simp) rfl fun w24 k24 u24=>?_
    exact h {p with waited:=p.waited+1,waits:=false,tries:=0,rest:=0} true (by unfold Vz;rw[if_neg nw,if_neg c,if_neg (by omega)]) (by unfold Ub;rw[cw,decide_eq_true (show p.waited+1≥2 by omega),decide_eq_true (show p.tries+1≥3 by omega)];rfl) w24 k24 (Am.trans (Am.trans U18 u22 fun _ _ x=>x) u24 fun _ _ x=>x)
  have c3:p.tries+1≠3:=c3
  rw[Ac]
  refine k18.sN 6 [_] (by simp) rfl fun w26 k26 u26=>?_
  change Az w26 b (gG {p with waited:=p.waited+1,waits:=false,tries:=p.tries+1,rest:=1}) at k26
  have bb:Ub p=false:=by unfold Ub;rw[decide_eq_false (show¬p.tries+1≥3 by omega),Bool.and_false]
  rw[Ac]
  refine k26.c1 5 (c:=KI) (x:=p.tries+1) rfl (Yl (fun c4=>?_) fun c4=>?_)
  · have c4:p.tries+1=2:=c4
    rw[Ac]
    refine k26.sN 6 [_] (by simp) rfl fun w30 k30 u30=>?_
    exact h {p with waited:=p.waited+1,waits:=false,tries:=p.tries+1,rest:=3} false (by unfold Vz;rw[if_neg nw,if_neg c,if_pos (by omega),if_neg (by omega)]) bb w30 k30 (Am.trans (Am.trans U18 u26 fun _ _ x=>x) u30 fun _ _ x=>x)
  · have c4:p.tries+1≠2:=c4
    exact h {p with waited:=p.waited+1,waits:=false,tries:=p.tries+1,rest:=1} false (by unfold Vz;rw[if_neg nw,if_neg c,if_pos (by omega),if_pos (by omega)]) bb w26 k26 (Am.trans U18 u26 fun _ _ x=>x)
theorem I4.cl{b:Nat}{p:Pr}{r:R8}{loc:Int}{w:World}(hB:Az w b (gG p)){k:TR Aep→WP}
    (h0:Ij p r loc=false→ ∀w',Af w w'→k ((0,0,0,()),(false,()),()) w')
    (h1:Ij p r loc=true→ ∀w',Az w' b (gG {p with waits:=false,tries:=0})→Am (fun z=>z=b) w w'→k (((Py r loc).1,(Py r loc).2.1,(Py r loc).2.2,()),(true,()),()) w'):
    Ae prog F.I4 [pB b,vP (Fr.reply r).pl,iV loc] w true Aep k:=by
  refine I4.ok ?_
  unfold I4.wp
  have lb:=hB.lt
  refine Ad fun p1 w2 e1 k1 u1=>Ad fun p3 w4 e3 k3 u3=>?_
  change Az w2 p1 (encs Uo (Fr.reply r).pl) at k1
  have l1:=k1.lt
  rw[Ap]
  have g5:=(u1.trans u3).trans (Af.drew w4)
  have B5:=hB.Ai g5
  have q5:=(k1.Ai u3).drew
  have z5:=k3.drew
  have s5:w4.drew.heap.size=w4.heap.size:=rfl
  have l3:=z5.lt
  generalize w4.drew=w5 at*
  have no:Ij p r loc=false→ ∀w',Af w5 w'→Au [iV 0,iV 0,iV 0] ⟨p3,0,none⟩ 0 w' fun w12=>A8 [KI,KI,KI] ⟨p3,0,none⟩ 0 w12 fun x13=>k ((x13.1,x13.2.1,x13.2.2.1,()),(false,()),()) w12:=fun hf w' g=>
    (z5.Ai g).Fg [_,_,_] rfl rfl fun w12 k12 u12=>k12.bC (h0 hf w12 (Am.new (Am.Bj (g5.trans g)) u12 fun h=>by have:=u1.size;omega))
  have nob: ∀{c:Bool},(Ij p r loc=true→c=true)→c=false→Ij p r loc=false:=fun h1 h2=>by
    cases hb:Ij p r loc
    · rfl
    · rw[h1 hb] at h2;cases h2
  have parts:Ij p r loc=true→p.waits=true∧r.2.1=p.me∧r.1=p.to∧r.2.2.1=p.sent∧oW r.2.2.1 r.2.2.2.1 r.2.2.2.2.1 loc=true∧Jm (Py r loc)=true:=fun h=>by
    unfold Ij at h
    simp only[Bool.and_eq_true,beq_iff_eq] at h
    exact⟨h.1.1.1.1.1,h.1.1.1.1.2,h.1.1.1.2,h.1.1.2,h.1.2,h.2⟩
  have nop: ¬(p.waits=true∧r.2.1=p.me∧r.1=p.to∧r.2.2.1=p.sent∧oW r.2.2.1 r.2.2.2.1 r.2.2.2.2.1 loc=true∧Jm (Py r loc)=true)→Ij p r loc=false:=fun hn=>by
    cases hb:Ij p r loc
    · rfl
    · exact absurd (parts hb) hn
  rw[Ac]
  refine B5.c1 3 (c:=.b) (x:=p.waits) rfl (Ee (fun c=>no (nop fun q=>by have c:p.waits=false:=c;rw[c] at q;cases q.1) w5 (Af.refl _)) fun cw=>?_)
  have cw:p.waits=true:=cw
  refine q5.c1 2 (c:=KI) (x:=r.2.1) rfl ?_
  rw[Ac]
  refine B5.c0 (c:=KI) (x:=p.me) rfl (bK (fun c=>no (nop fun q=>c q.2.1) w5 (Af.refl _)) fun c2=>?_)
  have c2:r.2.1=p.me:=c2
  refine q5.c1 1 (c:=KI) (x:=r.1) rfl ?_
  rw[Ac]
  refine B5.c1 1 (c:=KI) (x:=p.to) rfl (bK (fun c=>no (nop fun q=>c q.2.2.1) w5 (Af.refl _)) fun c3=>?_)
  have c3:r.1=p.to:=c3
  refine q5.c1 9 (c:=KI) (x:=r.2.2.1) rfl ?_
  rw[Ac]
  refine B5.c1 2 (c:=KI) (x:=p.sent) rfl (bK (fun c=>no (nop fun q=>c q.2.2.2.1) w5 (Af.refl _)) fun c4=>?_)
  have c4:r.2.2.1=p.sent:=c4
  refine q5.c1 9 (c:=KI) (x:=r.2.2.1) rfl (q5.c1 10 (c:=KI) (x:=r.2.2.2.1) rfl (q5.c1 11 (c:=KI) (x:=r.2.2.2.2.1) rfl (Va.cl ⟨?_,?_⟩)))
  · exact⟨B5.hold (Af.refl _) (fun x=>x) 2 (by simp),q5.hold (Af.refl _) (fun x=>x) 9 (by simp[encs]),B5.hold (Af.refl _) (fun x=>x) 1 (by simp),q5.hold (Af.refl _) (fun x=>x) 1 (by simp[encs]),B5.hold (Af.refl _) (fun x=>x) 0 (by simp),q5.hold (Af.refl _) (fun x=>x) 2 (by simp[encs]),B5.hold (Af.refl _) (fun x=>x) 3 (by simp),trivial⟩
  refine Ee (fun c=>no (nop fun q=>by have c:oW r.2.2.1 r.2.2.2.1 r.2.2.2.2.1 loc=false:=c;rw[c] at q;cases q.2.2.2.2.1) w5 (Af.refl _)) fun c5=>?_
  have c5:oW r.2.2.1 r.2.2.2.1 r.2.2.2.2.1 loc=true:=c5
  have ht:=Yt.1 c5
  refine q5.c1 6 (c:=KI) (x:=r.2.2.2.2.2.2.2) rfl (Dx (fun c=>no (nop fun q=>?_) w5 (Af.refl _)) fun c6=>q5.c1 6 (c:=KI) (x:=r.2.2.2.2.2.2.2) rfl (Dx (fun c=>no (nop fun q=>?_) w5 (Af.refl _)) fun c7=>?_))
  · have c:r.2.2.2.2.2.2.2<0:=c
    have q:=(Yz.1 q.2.2.2.2.2).2.2.2.2.1
    have q:1≤r.2.2.2.2.2.2.2+1:=q
    omega
  · have c:r.2.2.2.2.2.2.2>62:=c
    have q:=(Yz.1 q.2.2.2.2.2).2.2.2.2.2
    have q:r.2.2.2.2.2.2.2+1≤63:=q
    omega
  have c6: ¬r.2.2.2.2.2.2.2<0:=c6
  have c7: ¬r.2.2.2.2.2.2.2>62:=c7
  refine Cc.by (fun z W=> ∃q:Nat,z=(⟨q,0,none⟩,())∧w5.heap.size≤q∧Az W q [iV (Py r loc).1,iV (Py r loc).2.1,iV (Py r loc).2.2]∧Af w5 W) ?_ ?_
  · rw[Ap]
    have K:=q5.drew
    have G:=Af.drew w5
    have s41:w5.drew.heap.size=w5.heap.size:=rfl
    generalize w5.drew=w41 at*
    have e1:wrap .i64 (r.2.2.2.2.2.2.2+1)=r.2.2.2.2.2.2.2+1:=Ah (by unfold I64;omega)
    refine K.c1 9 (c:=KI) (x:=r.2.2.1) rfl (K.c1 10 (c:=KI) (x:=r.2.2.2.1) rfl (K.c1 11 (c:=KI) (x:=r.2.2.2.2.1) rfl (K.c1 6 (c:=KI) (x:=r.2.2.2.2.2.2.2) rfl ⟨?_,?_⟩)))
    · have HH: ∀{w':World},Af w41 w'→ ∀i,i<14→w'.cell? (Addr.add ⟨p1,0,none⟩ i)=some ((w41.cell? (Addr.add ⟨p1,0,none⟩ i)).getD undef):=fun u i hi=>K.hold u (fun x=>x) i (by simpa [encs] using hi)
      refine Pv.cl c5 fun w47 u47=>⟨⟨HH u47 6 (by decide),HH u47 11 (by decide),HH u47 10 (by decide),HH u47 9 (by decide),trivial⟩,Ad fun p48 w49 e48 k48 u49=>⟨⟨HH (u47.trans u49) 6 (by decide),HH (u47.trans u49) 11 (by decide),HH (u47.trans u49) 10 (by decide),HH (u47.trans u49) 9 (by decide),trivial⟩,?_⟩⟩
      dsimp only
      rw[e1]
      refine k48.Fg [_,_,_] rfl rfl fun w50 k50 u50=>⟨trivial,p48,rfl,by have:=u47.size;omega,k50,Af.fresh (G.trans u47) u49 u50 e48⟩
    · have HH: ∀{w':World},Af w41 w'→ ∀i,i<14→w'.cell? (Addr.add ⟨p1,0,none⟩ i)=some ((w41.cell? (Addr.add ⟨p1,0,none⟩ i)).getD undef):=fun u i hi=>K.hold u (fun x=>x) i (by simpa [encs] using hi)
      refine Ad fun p51 w52 e51 k51 u52=>⟨⟨HH u52 6 (by decide),HH u52 11 (by decide),HH u52 10 (by decide),HH u52 9 (by decide),trivial⟩,Pv.cl c5 fun w54 u54=>⟨⟨HH (u52.trans u54) 6 (by decide),trivial⟩,?_⟩⟩
      dsimp only
      rw[e1]
      refine(k51.Ai u54).Fg [_,_,_] rfl rfl fun w55 k55 u55=>⟨trivial,p51,rfl,by omega,k55,?_⟩
      exact Af.fresh G (u52.trans u54) u55 e51
  · rintro _ w40 ⟨q,rfl,hq,kq,gq⟩ _
    refine kq.bC (Nz.cl fun w58 u58=>Ee (fun c=>no (nop fun y=>by have c:Jm (Py r loc)=false:=c;rw[c] at y;cases y.2.2.2.2.2) w58 (gq.trans u58)) fun c8=>?_)
    have c8:Jm (Py r loc)=true:=c8
    have yes:Ij p r loc=true:=by unfold Ij;rw[cw,c2,c3,c4];simp only[beq_self_eq_true,Bool.and_true,Bool.true_and];rw[←c4,c5,c8];rfl
    have g58:=gq.trans u58
    have B58:=B5.Ai g58
    rw[Ac]
    refine B58.sN 3 [_] (by simp) rfl fun w62 k62 u62=>?_
    rw[Ac]
    refine k62.sN 5 [_] (by simp[splice]) rfl fun kJ k64 u64=>?_
    have U:Am (fun z=>z=b) w58 kJ:=Am.trans u62 u64 fun _ _ x=>x
    have sz:=u1.size
    refine((kq.Ai u58).upd U (by omega)).bC (((z5.Ai g58).upd U (by omega)).Fg [_,_,_] rfl rfl fun w66 k66 u66=>k66.bC (h1 yes w66 (k64.upd u66 (by omega)) ?_))
    exact Am.new (Am.trans (Am.Bj (g5.trans g58)) U fun _ _ x=>x) u66 fun h=>by omega
def bkP(has:Bool)(a:A6):kC:=if has=true then(Fr.anchor a).pl else pl0
theorem yP(has:Bool)(a:A6):((bkP has a).1=6)↔(has=true):=by cases has<;>simp[bkP,pl0,Fr.pl]
theorem Vj.clN{a:A6}{w:World}{k:TR RP4→WP}(hk: ∀w',Af w w'→k ((Fr.anchor a).pl,()) w'):Ae prog F.Vj [vP (Fr.anchor a).pl] w false RP4 k:=by
  refine Vj.ok ?_
  unfold Vj.wp
  refine Ad fun p1 w2 e1 k1 u1=>Ad fun p3 w4 e3 k3 u3=>?_
  change Az w2 p1 (encs Uo (Fr.anchor a).pl) at k1
  have q1:=k1.Ai u3
  refine q1.c0 (c:=KI) (x:=6) rfl (Jl rfl (Jl rfl (Jl rfl (Jl rfl (Jl rfl (Vt rfl ?_))))))
  refine q1.c1 1 rfl (q1.c1 5 rfl (q1.c1 3 rfl (q1.c1 4 rfl (q1.c1 12 rfl (q1.c1 13 rfl (k3.Fg (encs Uo (Fr.anchor a).pl) rfl rfl fun w5 k5 u5=>k5.cA (Fr.anchor a).pl rfl (hk w5 (Af.fresh u1 u3 u5 e3))))))))
theorem Np.n{b:Nat}{has:Bool}{a n:A6}(hu:Xe n.2.1)(ha:Xe a.2.1){w:World}(hB:Az w b (encs Uo (bkP has a))){k:TR Wh→WP}
    (h1:Zi has a n=true→ ∀w',Az w' b (encs Uo (bkP true n))→Am (fun z=>z=b) w w'→k ((true,()),()) w')
    (h0:Zi has a n=false→ ∀w',Af w w'→k ((false,()),()) w'):
    Ae prog F.Np [pB b,vP (Fr.anchor n).pl] w false Wh k:=by
  refine Np.ok ?_
  unfold Np.wp
  have lb:=hB.lt
  refine Ad fun p1 w2 e1 k1 u1=>?_
  change Az w2 p1 (encs Uo (Fr.anchor n).pl) at k1
  refine Cc.by (fun _ W=>Af w W∧Az W p1 (encs Uo (Fr.anchor n).pl)∧Zi has a n=true) ?_ ?_
  · rw[Ap]
    have K:=k1.drew
    have B:=(hB.Ai u1).drew
    have g:=u1.trans (Af.drew w2)
    generalize w2.drew=w6 at K B g
    have hh: ∀{w'},Af w6 w'→ ∀i,i<14→w'.cell? (Addr.add ⟨p1,0,none⟩ i)=some ((w6.cell? (Addr.add ⟨p1,0,none⟩ i)).getD undef):=fun u i hi=>K.hold u (fun x=>x) i (by simpa [encs] using hi)
    refine K.c0 (c:=KI) (x:=6) rfl (Jl rfl (K.cA (Fr.anchor n).pl rfl (Fb.clA fun w10 u10=>?_)))
    refine⟨⟨hh u10 0 (by decide),hh u10 1 (by decide),hh u10 2 (by decide),hh u10 3 (by decide),hh u10 4 (by decide),hh u10 5 (by decide),hh u10 6 (by decide),hh u10 7 (by decide),hh u10 8 (by decide),hh u10 9 (by decide),hh u10 10 (by decide),hh u10 11 (by decide),hh u10 12 (by decide),hh u10 13 (by decide),hh u10 0 (by decide),trivial⟩,?_⟩
    have g10:=g.trans u10
    refine Ee (fun c=>h0 ?_ w10 g10) fun c=>?_
    · have c:wB (Fr.anchor n).pl=false:=c
      rw[gK] at c
      have c:okF (mG n)=false:=c
      unfold Zi;rw[c];rfl
    have c:wB (Fr.anchor n).pl=true:=c
    rw[gK] at c
    have c:okF (mG n)=true:=c
    rw[Ac]
    refine(B.Ai u10).c0 (c:=KI) (x:=(bkP has a).1) rfl (Yl (fun ch=>?_) fun ch=>⟨g10,K.Ai u10,?_⟩)
    · have ch:has=true:=(yP has a).1 ch
      subst ch
      have B:Az w6 b (encs Uo (Fr.anchor a).pl):=B
      refine(K.Ai u10).c1 5 (c:=KU) (x:=n.2.1) rfl ?_
      rw[Ac]
      refine(B.Ai u10).c1 5 (c:=KU) (x:=a.2.1) rfl (Oc.cl hu ha ⟨⟨(B.Ai u10).hold (Af.refl _) (fun x=>x) 0 (by simp[encs]),hh u10 0 (by decide),hh u10 1 (by decide),hh u10 2 (by decide),hh u10 3 (by decide),hh u10 4 (by decide),hh u10 5 (by decide),hh u10 6 (by decide),hh u10 7 (by decide),hh u10 8 (by decide),hh u10 9 (by decide),hh u10 10 (by decide),hh u10 11 (by decide),hh u10 12 (by decide),hh u10 13 (by decide),hh u10 0 (by decide),trivial⟩,?_⟩)
      refine Ee (fun cn=>h0 ?_ w10 g10) fun cn=>⟨g10,K.Ai u10,?_⟩
      · have cn:tC n.2.1 a.2.1=false:=cn
        unfold Zi;rw[c,cn];rfl
      · have cn:tC n.2.1 a.2.1=true:=cn
        unfold Zi;rw[c,cn];rfl
    · have ch:has=false:=by
        cases hb:has
        · rfl
        · exact absurd ((yP has a).2 hb) ch
      unfold Zi;rw[c,ch];rfl
  · rintro _ w5 ⟨g,K,hn⟩ _
    refine K.cA (Fr.anchor n).pl rfl (Vj.clN fun w20 u20=>?_)
    rw[Ac]
    exact((hB.Ai g).Ai u20).Fg (encs Uo (bkP true n)) rfl rfl fun w22 k22 u22=>h1 hn w22 k22 ((Am.Bj (g.trans u20)).trans u22 fun _ _ h=>h)
theorem Ip.n{b:Nat}{has:Bool}{a:A6}(hz:has=false→a.2.1=0)(ha:Xe a.2.1){me root boot global tai:Int}{w:World}(hB:Az w b (encs Uo (bkP has a))){n:A6}(en:n=(me,wrap .u16 (a.2.1+1),root,boot,global,tai)){k:TR RP4→WP}
    (h1:okF (mG n)=true→ ∀w',Az w' b (encs Uo (bkP true n))→Am (fun z=>z=b) w w'→k ((Fr.anchor n).pl,()) w')
    (h0:okF (mG n)=false→ ∀w',Af w w'→k (pl0,()) w'):
    Ae prog F.Ip [pB b,iV me,iV root,uV boot,iV global,iV tai] w false RP4 k:=by
  refine Ip.ok ?_
  unfold Ip.wp
  have lb:=hB.lt
  refine Ad fun p1 w2 e1 k1 u1=>?_
  change Az w2 p1 (encs Uo pl0) at k1
  rw[Ac]
  have seq:(bkP has a).2.2.2.2.2.1=a.2.1:=by
    cases has
    · exact(hz rfl).symm
    · rfl
  have ep:(Fr.anchor n).pl=(6,me,0,root,boot,wrap .u16 (a.2.1+1),0,0,0,0,0,0,global,tai,()):=by rw[en];rfl
  refine(hB.Ai u1).c1 5 (c:=KU) (x:=a.2.1) (by rw[←seq];rfl) (Tj.cl ha (Ad fun p7 w8 e7 k7 u8=>?_))
  have l1:=k1.lt
  have l7:=k7.lt
  refine k7.Fg (encs Uo (6,me,0,root,boot,wrap .u16 (a.2.1+1),0,0,0,0,0,0,global,tai,())) rfl rfl fun w9 k9 u9=>?_
  rw[←ep] at k9
  have g9:Af w2 w9:=Af.fresh (Af.refl _) u8 u9 e7
  refine k9.cA (Fr.anchor n).pl rfl (Fb.clA fun w12 u12=>Ee (fun c=>?_) fun c=>?_)
  · have c:wB (Fr.anchor n).pl=false:=c
    rw[gK] at c
    exact((k1.Ai g9).Ai u12).Fg (encs Uo pl0) rfl rfl fun w13 k13 u13=>k13.cA pl0 rfl (h0 c w13 (Am.trans ((u1.trans g9).trans u12) u13 fun i hi h=>by omega))
  · have c:wB (Fr.anchor n).pl=true:=c
    rw[gK] at c
    refine(k9.Ai u12).cA (Fr.anchor n).pl rfl ?_
    rw[Ac]
    refine(((hB.Ai u1).Ai g9).Ai u12).Fg (encs Uo (bkP true n)) rfl rfl fun w17 k17 u17=>((k9.Ai u12).upd u17 (by omega)).cA (Fr.anchor n).pl rfl ((((k1.Ai g9).Ai u12).upd u17 (by omega)).Fg (encs Uo (Fr.anchor n).pl) rfl rfl fun w19 k19 u19=>k19.cA (Fr.anchor n).pl rfl (h1 c w19 (k17.upd u19 (by omega)) ?_))
    exact((Am.Bj ((u1.trans g9).trans u12)).trans u17 fun _ _ h=>h).trans u19 fun i hi h=>by omega
theorem Amt{s:ByteArray}{ix:Int}{i:Nat}{c:UInt8}(hi:ix=i)(hc:s.data.toList[i]? =some c){k:Int→Prop}(hk:k (c.toNat:Int)):siK s ix k:=by
  subst hi
  unfold siK
  have hlt:i<s.size:=by have:=(List.getElem?_eq_some_iff.1 hc).1;simpa using this
  have e:s[i]? =some c:=by
    rw[getElem?_pos s i hlt]
    have:=(List.getElem?_eq_some_iff.1 hc).2
    rw[←this];rfl
  rw[if_pos (by omega),Int.toNat_natCast,e];exact hk
theorem U7.cl{s:ByteArray}(hs:s.size≤1000000){w:World}{k:TR Wh→WP}(h:k ((jV s,()),()) w):Ae prog F.U7 [.string s] w false Wh k:=by
  refine U7.ok ?_
  unfold U7.wp
  refine Ci.by (fun z W=> ∃i:Nat,i≤s.size∧(∀j c,j<i→s.data.toList[j]? =some c→fD c=true)∧z=((i:Int),())∧W=w) (fun z=>(1000001-z.1).toNat) ⟨0,by omega,fun j c h=>by omega,rfl,rfl⟩ ?_
  rintro z W ⟨i,hi,hpre,rfl,rfl⟩ _
  refine Dx (fun c=>?_) fun c=>?_
  · have hlt:i<s.size:=by have c:(i:Int)<(s.size:Int):=c;omega
    have hb:s.data.toList[i]? =some (s.data.toList[i]'(by simpa using hlt)):=List.getElem?_eq_getElem _
    generalize s.data.toList[i]'(by simpa using hlt)=b at hb
    have ei:wrap .i64 ((i:Int)+1)=((i+1:Nat):Int):=by rw[Ah (by unfold I64;omega)];omega
    have go:fD b=true→((∃i':Nat,i'≤s.size∧(∀j c,j<i'→s.data.toList[j]? =some c→fD c=true)∧(wrap .i64 ((i:Int)+1),())=((i':Int),())∧W=W)∧(1000001-wrap .i64 ((i:Int)+1)).toNat<(1000001-(i:Int)).toNat):=fun hc=>
      ⟨⟨i+1,by omega,fun j y hj hy=>by
        rcases Nat.lt_or_ge j i with h|h
        · exact hpre j y h hy
        · have:j=i:=by omega
          subst this
          rw[hb] at hy
          injection hy with hy
          subst hy;exact hc,by rw[ei],rfl⟩,by rw[ei];omega⟩
    have bad:fD b=false→k ((false,()),()) W:=fun hc=>by have:=h;rw[wM hb hc] at this;exact this
    have lo:(b.toNat:Int)≥48→(b.toNat:Int)≤57→fD b=true:=fun h1 h2=>aN.2 (.inr (.inr (by omega)))
    refine Amt rfl hb (Yl (fun c1=>go (aN.2 (.inl (by have c1:(b.toNat:Int)=95:=c1;omega)))) fun c1=>?_)
    have c1:(b.toNat:Int)≠95:=c1
    refine Dx (fun c2=>?_) fun c2=>?_
    · have c2:(b.toNat:Int)≥97:=c2
      refine Dx (fun c3=>go (aN.2 (.inr (.inl (by have c3:(b.toNat:Int)≤122:=c3;omega))))) fun c3=>?_
      have c3: ¬(b.toNat:Int)≤122:=c3
      exact Dx (fun c4=>Dx (fun c5=>go (lo c4 c5)) fun c5=>bad (aZ (by have c5: ¬(b.toNat:Int)≤57:=c5;omega))) fun c4=>bad (aZ (by have c4: ¬(b.toNat:Int)≥48:=c4;omega))
    · have c2: ¬(b.toNat:Int)≥97:=c2
      exact Dx (fun c4=>Dx (fun c5=>go (lo c4 c5)) fun c5=>bad (aZ (by have c5: ¬(b.toNat:Int)≤57:=c5;omega))) fun c4=>bad (aZ (by have c4: ¬(b.toNat:Int)≥48:=c4;omega))
  · have e:i=s.size:=by have c: ¬(i:Int)<(s.size:Int):=c;omega
    subst e
    rw[zJ hpre] at h
    refine Dx (fun c=>?_) fun c=>?_
    · have c:(s.size:Int)≥1:=c
      rw[decide_eq_true (show 1≤s.size by omega),Bool.true_and] at h
      have e:decide ((s.size:Int)≤12)=decide (s.size≤12):=decide_eq_decide.2 (by omega)
      show k ((decide ((s.size:Int)≤12),()),()) W
      rw[e];exact h
    · have c: ¬(s.size:Int)≥1:=c
      rw[decide_eq_false (show¬1≤s.size by omega),Bool.false_and] at h
      exact h
structure DQ(w:World)(Q:NP)(s:Sl)(cs:List CK)(xs:List (Jf cs)):Prop where
  d:DR w s cs xs
  q: ∀a,s.1=some a→ ¬Q a.block∧a.block<w.heap.size
theorem DQ.nil(w:World)(Q:NP)(cs:List CK):DQ w Q (none,0,0) cs []:=⟨DR.nil w cs,fun a h=>by cases h⟩
theorem DQ.upd{S Q Q':NP}{w w':World}{s:Sl}{cs:List CK}{xs:List (Jf cs)}(h:DQ w Q s cs xs)(u:Am S w w')(hS: ∀z,z<w.heap.size→S z→Q z)(hQ: ∀z,z<w.heap.size→Q' z→Q z):DQ w' Q' s cs xs:=
  ⟨h.d.upd u fun a ha e=>(h.q a ha).1 (hS _ (h.q a ha).2 e),fun a ha=>⟨fun e=>(h.q a ha).1 (hQ _ (h.q a ha).2 e),Nat.lt_of_lt_of_le (h.q a ha).2 u.size⟩⟩
theorem DQ.Ai{Q:NP}{w w':World}{s:Sl}{cs:List CK}{xs:List (Jf cs)}(h:DQ w Q s cs xs)(u:Af w w'):DQ w' Q s cs xs:=h.upd u (fun _ _ x=>x.elim) fun _ _ x=>x
theorem DQ.tail{Q:NP}{w:World}{s:Sl}{cs:List CK}{x:Jf cs}{t:List (Jf cs)}(h:DQ w Q s cs (x::t))(h0:0<cs.length){n:Nat}(hn:n=cs.length):(∀p:Prop,sQ 1 (s.2.1:Int) s.2.2 p=p)∧DQ w Q (dG s.1 s.2.2 (Int.toNat 1) n,((Int.toNat (s.2.1:Int))-(Int.toNat 1)),(s.2.2-Int.toNat 1)) cs t:=by
  obtain⟨e,d,b⟩:=h.d.Aow h0 hn
  exact⟨e,d,fun a ha=>by obtain⟨a0,h1,h2⟩:=b a ha;rw[h2];exact h.q a0 h1⟩
theorem DQ.new{Q:NP}{w0 w:World}{e:TypeId}{n l:Nat}{s:Sl}{cs:List CK}{xs:List (Jf cs)}(h:Gs w w0.heap.size e n s l (xs.flatMap (encs cs)))(hn:n=cs.length)(hQ: ∀z,Q z→z<w0.heap.size):DQ w Q s cs xs:=
  ⟨Gs.dr h hn,fun a ha=>⟨fun q=>by have:=hQ _ q;have:=(h.blk ha).1;omega,(h.blk ha).2.1⟩⟩
structure LgD(w:World)(Q:NP)(b:Nat)(js:List Ev)(last:Int):Prop where
  ex: ∃sI sL:Sl,Az w b [bP sI,bP sL,iV last]∧DQ w Q sI [KI] (js.map fun j=>(j.id,()))∧DQ w Q sL [.s] (js.map fun j=>(j.lab,()))
theorem LgD.upd{S Q Q':NP}{w w':World}{b:Nat}{js:List Ev}{last:Int}(h:LgD w Q b js last)(u:Am S w w')(hb: ¬S b)(hS: ∀z,z<w.heap.size→S z→Q z)(hQ: ∀z,z<w.heap.size→Q' z→Q z):LgD w' Q' b js last:=by
  obtain⟨sI,sL,h1,h2,h3⟩:=h.ex
  exact⟨sI,sL,h1.upd u hb,h2.upd u hS hQ,h3.upd u hS hQ⟩
theorem LgD.Ai{Q:NP}{w w':World}{b:Nat}{js:List Ev}{last:Int}(h:LgD w Q b js last)(u:Af w w'):LgD w' Q b js last:=h.upd u (fun x=>x) (fun _ _ x=>x.elim) fun _ _ x=>x
theorem Anx(l:List Int): ∀u∈(l.map fun x=>((x,()):Jf [KI])).flatMap (encs [KI]),u.oneCell'=true:=by
  intro u hu
  simp only[List.mem_flatMap,List.mem_map] at hu
  obtain⟨x,⟨y,_,rfl⟩,hu⟩:=hu
  simp[encs,enc] at hu;subst hu;rfl
theorem Anu(l:List ByteArray): ∀u∈(l.map fun x=>((x,()):Jf [.s])).flatMap (encs [.s]),u.oneCell'=true:=by
  intro u hu
  simp only[List.mem_flatMap,List.mem_map] at hu
  obtain⟨x,⟨y,_,rfl⟩,hu⟩:=hu
  simp[encs,enc] at hu;subst hu;rfl
abbrev Aei:List (Bool×List CK):=[(false,[KI]),(false,[KI])]
theorem Qe.n{Q:NP}{b:Nat}{js:List Ev}{last:Int}{s:ByteArray}{w:World}(hQ: ∀z,Q z→z<w.heap.size)(hqb:Q b)(h:LgD w Q b js last)(hs:s.size≤1000000){k:TR Aei→WP}
    (h0:jV s=false→k ((0,()),(1,()),()) w) (h1:jV s=true→js.length≥16→k ((0,()),(6,()),()) w)
    (h2:jV s=true→ ¬js.length≥16→ ∀w',(∀loc a,LgD w' Q b (js++[⟨wrap .i64 (last+1),s,loc,a⟩]) (wrap .i64 (last+1)))→Am (fun z=>z=b) w w'→k ((wrap .i64 (last+1),()),(0,()),()) w'):
    Ae prog F.Qe [pB b,.string s] w true Aei k:=by
  refine Qe.ok ?_
  unfold Qe.wp
  obtain⟨sI,sL,hB,dI,dL⟩:=h.ex
  refine U7.cl hs (Ee (fun c=>h0 c) fun hg=>?_)
  have hg:jV s=true:=hg
  rw[Ac]
  have lI:=dI.d.len (by decide)
  have lL:=dL.d.len (by decide)
  rw[List.length_map] at lI lL
  refine hB.c0 (c:=.sl) (x:=sI) rfl (Dx (fun c=>h1 hg (by have c:(sI.2.1:Int)≥16:=c;omega)) fun c=>?_)
  have h2:=h2 hg (by have c: ¬(sI.2.1:Int)≥16:=c;omega)
  have hlen:js.length≤1000:=by have c: ¬(sI.2.1:Int)≥16:=c;omega
  rw[Ac]
  refine hB.c1 2 (c:=KI) (x:=last) rfl ?_
  dsimp only
  rw[Ac]
  generalize wrap .i64 (last+1)=n at*
  refine hB.sN 2 [_] (by simp) rfl fun w8 k8 u8=>?_
  change Az w8 b [bP sI,bP sL,iV n] at k8
  have dI8:=dI.upd u8 (fun z hz e=>by rw[e];exact hqb) fun _ _ x=>x
  have dL8:=dL.upd u8 (fun z hz e=>by rw[e];exact hqb) fun _ _ x=>x
  have hQ8: ∀z,Q z→z<w8.heap.size:=fun z hz=>Nat.lt_of_lt_of_le (hQ z hz) u8.size
  refine Cc.by (fun _ W=>(∃y,Az W b [bP y,bP sL,iV n]∧DQ W Q y [KI] ((js.map fun j=>((j.id,()):Jf [KI]))++[(n,())]))∧DQ W Q sL [.s] (js.map fun j=>(j.lab,()))∧Am (fun z=>z=b) w W) ?_ ?_
  · rw[Ap,Ac]
    have K:=k8.drew
    have dI:=dI8.Ai (Af.drew w8)
    have dL:=dL8.Ai (Af.drew w8)
    have U:=u8.drew
    have hQd: ∀z,Q z→z<w8.drew.heap.size:=hQ8
    generalize w8.drew=w12 at*
    refine K.c0 (c:=.sl) (x:=sI) rfl ?_
    rw[Ac]
    refine K.c1 2 (c:=KI) (x:=n) rfl ?_
    refine DR.snoc (cs:=[KI]) (n:=1) (x:=((n,()):Jf [KI])) (xs:=js.map fun j=>(j.id,())) (by kernel_rfl) (by kernel_rfl) rfl (by decide) (by have:=Anx (js.map Ev.id);rw[List.map_map] at this;exact this) (by intro u hu;simp[encs,enc] at hu;subst hu;rfl) (by rw[List.length_map];exact hlen) dI.d (HP:=fun W=>Hold [_,_] W) ?_ ?_ rfl
    · exact fun W g=>⟨K.hold g (fun x=>x) 2 (by simp),K.hold g (fun x=>x) 0 (by simp),trivial⟩
    · intro y W o g
      rw[Ac]
      refine(K.Ai g).sN 0 [bP y] (by simp) rfl fun w26 k26 u26=>⟨trivial,⟨y,k26,?_⟩,?_,?_⟩
      · exact(DQ.new o rfl hQd).upd u26 (fun z hz e=>by rw[e];exact hqb) fun _ _ x=>x
      · exact(dL.Ai g).upd u26 (fun z hz e=>by rw[e];exact hqb) fun _ _ x=>x
      · exact Am.trans (U.Ai g) u26 fun _ _ x=>x
  · rintro _ w11 ⟨⟨y,K,dI⟩,dL,U⟩ _
    have hQ11: ∀z,Q z→z<w11.heap.size:=fun z hz=>Nat.lt_of_lt_of_le (hQ z hz) U.size
    refine Zv 1 0 (by simp) (by omega) fun p45 w46 e45 o45 u46=>?_
    rw[Ac]
    refine(K.Ai u46).c1 1 (c:=.sl) (x:=sL) rfl ?_
    have l45:=(o45.blk rfl).2.1
    have hb:=K.lt
    refine DR.ap1 (cs:=[.s]) (n:=1) (xs:=js.map fun j=>((j.lab,()):Jf [.s])) (by kernel_rfl) (by kernel_rfl) rfl (by decide) (by have:=Anu (js.map Ev.lab);rw[List.map_map] at this;exact this) dL.d (by rw[List.length_map];exact hlen) u46 o45 fun y49 w50 o49 u50=>?_
    refine Ad fun p51 w52 e51 k51 u52=>?_
    have s50:=u50.size
    have s52:=u52.size
    have s46:=u46.size
    simp only at l45
    refine DR.ap2 (cs:=[.s]) (n:=1) (x:=((s,()):Jf [.s])) (xs:=js.map fun j=>((j.lab,()):Jf [.s])) (by kernel_rfl) (by kernel_rfl) rfl (by decide) (by intro u hu;simp[encs,enc] at hu;subst hu;rfl) (by rw[List.length_map];exact hlen) (p:=p45) (by omega) (o49.Ai u52) k51 fun y53 w54 o53 u54 b53=>?_
    have g52:Af w11 w52:=(show Af w11 w50 from Am.trans u46 u50 fun z hz e=>by omega).trans u52
    have g54:Af w11 w54:=Am.trans g52 u54 fun z hz ⟨a,ha,hh⟩=>by have:=((o49.Ai u52).blk ha).1;omega
    have o53:=o53.Zq (base':=w11.heap.size) fun a ha=>by have:=(o53.blk ha).1;omega
    rw[Ac]
    refine(K.Ai g54).sN 1 [bP y53] (by simp) rfl fun w56 k56 u56=>?_
    rw[Ac]
    refine k56.c1 2 (c:=KI) (x:=n) rfl (h2 w56 (fun loc a=>⟨y,y53,k56,?_,?_⟩) (Am.trans (U.Ai g54) u56 fun _ _ x=>x))
    · rw[List.map_append]
      exact(dI.Ai g54).upd u56 (fun z hz e=>by rw[e];exact hqb) fun _ _ x=>x
    · rw[List.map_append]
      exact(DQ.new o53 rfl hQ11).upd u56 (fun z hz e=>by rw[e];exact hqb) fun _ _ x=>x
theorem Oy.n{Q:NP}{b:Nat}{js:List Ev}{last:Int}{w:World}(hqb:Q b)(h:LgD w Q b js last){k:TR [(false,[KI]),(false,[.s]),(false,[.b])]→WP}
    (h0:js=[]→k ((0,()),(⟨#[]⟩,()),(false,()),()) w)
    (h1: ∀j t,js=j::t→ ∀w',LgD w' Q b t last→Am (fun z=>z=b) w w'→k ((j.id,()),(j.lab,()),(true,()),()) w'):
    Ae prog F.Oy [pB b] w true [(false,[KI]),(false,[.s]),(false,[.b])] k:=by
  refine Oy.ok ?_
  unfold Oy.wp
  obtain⟨sI,sL,hB,dI,dL⟩:=h.ex
  have lI:=dI.d.len (by decide)
  rw[List.length_map] at lI
  rw[Ac]
  refine hB.c0 (c:=.sl) (x:=sI) rfl (Yl (fun c=>h0 (by
    have c:(sI.2.1:Int)=0:=c
    exact List.eq_nil_of_length_eq_zero (by omega))) fun c=>?_)
  obtain⟨j,t,rfl⟩: ∃j t,js=j::t:=by
    cases js with
    |nil=>exact absurd (by show(sI.2.1:Int)=0;rw[lI];rfl) c
    |cons j t=>exact⟨j,t,rfl⟩
  have h1:=h1 j t rfl
  rw[Ap,Ac]
  have K:=hB.drew
  have dI:=dI.Ai (Af.drew w)
  have dL:=dL.Ai (Af.drew w)
  have G:=Af.drew w
  generalize w.drew=w3 at*
  refine K.c0 (c:=.sl) (x:=sI) rfl ((show Row w3 sI 1 _ from dI.d.row).ixc (c:=KI) (z:=0) (i:=0) (x:=j.id) rfl rfl rfl ?_)
  rw[Ac]
  refine K.c1 1 (c:=.sl) (x:=sL) rfl ((show Row w3 sL 1 _ from dL.d.row).ixc (c:=.s) (z:=0) (i:=0) (x:=j.lab) rfl rfl rfl ?_)
  rw[Ac]
  obtain⟨eI,dI'⟩:=DQ.tail (cs:=[KI]) (x:=((j.id,()):Jf [KI])) (t:=t.map fun j=>(j.id,())) dI (by decide) (n:=1) rfl
  obtain⟨eL,dL'⟩:=DQ.tail (cs:=[.s]) (x:=((j.lab,()):Jf [.s])) (t:=t.map fun j=>(j.lab,())) dL (by decide) (n:=1) rfl
  refine K.c0 (c:=.sl) (x:=sI) rfl ?_
  rw[eI,Ac]
  refine K.sN 0 [bP (dG sI.1 sI.2.2 (Int.toNat 1) 1,Int.toNat (sI.2.1:Int)-Int.toNat 1,sI.2.2-Int.toNat 1)] (by simp) rfl fun w15 k15 u15=>?_
  rw[Ac]
  refine k15.c1 1 (c:=.sl) (x:=sL) rfl ?_
  rw[eL,Ac]
  refine k15.sN 1 [bP (dG sL.1 sL.2.2 (Int.toNat 1) 1,Int.toNat (sL.2.1:Int)-Int.toNat 1,sL.2.2-Int.toNat 1)] (by simp[splice]) rfl fun w19 k19 u19=>?_
  have U:Am (fun z=>z=b) w3 w19:=Am.trans u15 u19 fun _ _ x=>x
  exact h1 w19 ⟨_,_,k19,dI'.upd U (fun z hz e=>by rw[e];exact hqb) fun _ _ x=>x,dL'.upd U (fun z hz e=>by rw[e];exact hqb) fun _ _ x=>x⟩ (Am.trans (Am.Bj G) U fun _ _ x=>x)
end Go.Proofs.YtnjmfbjgcfnanaaGreat
