import Derived.Test.YtnjmfbjgcfnanaaGreatCtabP
namespace Go.Proofs.YtnjmfbjgcfnanaaGreat
open Go.Eng Go Tryz
open Go.IntKind (wrap)
set_option linter.unusedSimpArgs false
set_option linter.unusedVariables false
set_option maxRecDepth 100000
set_option maxHeartbeats 8000000
theorem Vf.cl{w:World}{s:Sl}{es:List E3}(hE:L6 w s es)(hn:es.length≤1000000000){k:TR [(false,[KI])]→WP}(hk: ∀w',Af w w'→k ((kS es,()),()) w'):
    Ae prog F.Vf [.slice s.1 s.2.1 s.2.2] w false [(false,[KI])] k:=by
  refine Vf.ok ?_
  unfold Vf.wp
  have hl:=hE.len
  refine Ci.by (fun z w'=>Af w w'∧ ∃i:Nat,z=(kS (es.take i),(i:Int),())∧i≤es.length) (fun z=>(1000000000-z.2.1).toNat) ⟨Af.refl _,0,rfl,by omega⟩ ?_
  rintro z w3 ⟨g,i,rfl,hi⟩ _
  refine Dx (fun c=>?_) fun c=>?_
  · have hi':i<es.length:=by have c:(i:Int)<(s.2.1:Int):=c;omega
    have he:es[i]? =some es[i]:=List.getElem?_eq_getElem hi'
    generalize es[i]=e at he
    have hE3:=hE.Ai g
    refine hE3.ix (z:=(i:Int)) rfl he fun a ha=>hE3.A8 ha he ?_
    refine Ad fun p6 w7 e6 k6 u7=>k6.Fg _ rfl rfl fun w8 k8 u8=>k8.i1 2 rfl ⟨⟨Af.fresh g u7 u8 e6,i+1,?_,by omega⟩,?_⟩
    · show((if e.2.2>kS (es.take i) then e.2.2 else kS (es.take i)),wrap .i64 ((i:Int)+1),())=_
      rw[dA (by omega),List.take_add_one,he]
      show _=(kS (es.take i++[e]),_)
      rw[vV];rfl
    · show(1000000000-wrap .i64 ((i:Int)+1)).toNat<(1000000000-(i:Int)).toNat
      rw[dA (by omega)];omega
  · have hi':i=es.length:=by have c: ¬(i:Int)<(s.2.1:Int):=c;omega
    subst hi'
    have:=hk w3 g
    rw[List.take_length]
    exact this
theorem xG{wa w16:World}{p:Nat}{s:Sl}{es:List E3}(hE:L6 w16 s es)(hn:es.length≤8)(ga:Af w16 wa)(own0:Gs wa p T.D7 3 (some ⟨p,0,none⟩,0,0) 0 []){K:Sl→WP}
    (hK: ∀y wb,Gs wb p T.D7 3 y es.length (flat3 es)→Am (fun z=>z=p) wa wb→K y wb):
    L9 ((Builtin.append_ #[T.Aw,T.Aw] T.Aw #[.slice (some ⟨p,0,none⟩) 0 0,.slice s.1 s.2.1 s.2.2]).run prog wa) K:=by
  have hl:=hE.len
  refine Vx (s:=(some ⟨p,0,none⟩,0,0)) (x:=s) (e:=T.D7) (size:=3) (news:=flat3 es) (by kernel_rfl) (by kernel_rfl) (by decide) own0 (hE.Ai ga) (iQ es) ?_ ?_ ?_
  · omega
  · exact Nat.le_of_lt (own0.blk rfl).2.1
  intro y wb ho u _
  rw[hl,Nat.zero_add,List.nil_append] at ho
  refine hK y wb ho (u.mono ?_)
  rintro z ⟨a,ha,h⟩
  cases ha
  exact h.symm
theorem yG{wb:World}{p q:Nat}{y:Sl}{es:List E3}{e:E3}(hn:es.length≤8)(hp:p<wb.heap.size)(ho:Gs wb p T.D7 3 y es.length (flat3 es))(hq:Az wb q [iV e.1,iV e.2.1,iV e.2.2]){K:Sl→WP}
    (hK: ∀y2 wc,Gs wc p T.D7 3 y2 (es++[e]).length (flat3 (es++[e]))→Am (fun z=>p≤z) wb wc→K y2 wc):
    L9 ((Builtin.append_ #[T.Aw,T.Aw] T.Aw #[.slice y.1 y.2.1 y.2.2,.slice (some ⟨q,0,none⟩) 1 1]).run prog wb) K:=by
  refine Vx (x:=(some ⟨q,0,none⟩,1,1)) (e:=T.D7) (size:=3) (news:=flat3 [e]) (by kernel_rfl) (by kernel_rfl) (by decide) ho ⟨rfl,fun _=>⟨_,rfl,hq.news⟩⟩ (iQ _) ?_ ?_ ?_
  · show es.length+1≤_;omega
  · exact Nat.le_of_lt hp
  intro y2 wc ho2 u _
  refine hK y2 wc ?_ (u.mono ?_)
  · rw[dM,List.length_append];exact ho2
  rintro z ⟨a,ha,h⟩
  have:=(ho.blk ha).1
  omega
theorem Uw.cl{w:World}{s:Sl}{es:List E3}{e:E3}(hE:L6 w s es)(hn:es.length≤8){k:TR [(false,[.sl]),(false,[KI])]→WP}
    (hk: ∀s' w',Af w w'→L6 w' s' (Zn es e)→(s'=s∨ ∀a,s'.1=some a→w.heap.size≤a.block∧a.block<w'.heap.size)→k ((s',()),(addN es e,()),()) w'):
    Ae prog F.Uw [.slice s.1 s.2.1 s.2.2,.agg #[iV e.1,iV e.2.1,iV e.2.2]] w true [(false,[.sl]),(false,[KI])] k:=by
  refine Uw.ok ?_
  unfold Uw.wp
  have hl:=hE.len
  have same: ∀w' n,Af w w'→Zn es e=es→addN es e=n→k ((s,()),(n,()),()) w':=fun w' n g h hn=>by
    rw[←hn]
    exact hk s w' g (by rw[h];exact hE.Ai g) (.inl rfl)
  refine Ad fun p1 w2 e1 k1 u1=>k1.bC (Nz.cl fun w5 u5=>Ee (fun c=>?_) fun c=>?_)
  · have c:Jm e=false:=c
    exact same w5 1 (u1.trans u5) (by unfold Zn;rw[if_pos (.inl c)]) (by unfold addN;rw[if_pos c])
  have hg:Jm e=true:=c
  have g5:=u1.trans u5
  have k5:=k1.Ai u5
  have l1:=k1.lt
  refine Cc.by (fun _ w'=>w'=w5.drew∧bH es e=false) ?_ ?_
  · rw[Ap]
    refine Dx (fun c=>?_) fun c=>⟨rfl,?_⟩
    · have c:(s.2.1:Int)>0:=c
      have hp:es.length-1<es.length:=by omega
      obtain⟨l,hl'⟩: ∃l,es.getLast? =some l:=⟨_,List.getLast?_eq_getElem? ▸List.getElem?_eq_getElem hp⟩
      have hgl:=zY hl'
      have hE5:=(hE.Ai g5).drew
      refine k5.drew.i0 rfl ?_
      rw[show wrap .i64 ((s.2.1:Int)-1)=((es.length-1:Nat):Int) by rw[hl];exact zQ (by omega) (by omega)]
      refine hE5.ix rfl hgl fun a ha=>hE5.f0 ha rfl hgl (Dx (fun c=>?_) fun c=>⟨rfl,?_⟩)
      · have c:e.1≤l.1:=c
        have ho:bH es e=true:=by rw[bD hl',decide_eq_true c]
        exact same _ 12 (Am.drew g5) (by unfold Zn;rw[if_pos (.inr ho)]) (by unfold addN;rw[if_neg (by rw[hg];simp),if_pos ho])
      · have c: ¬e.1≤l.1:=c
        rw[bD hl',decide_eq_false c]
    · have c: ¬(s.2.1:Int)>0:=c
      have:es=[]:=List.eq_nil_of_length_eq_zero (by omega)
      subst this
      rfl
  · rintro _ _ ⟨rfl,ho⟩ _
    have hN:addN es e=0:=by unfold addN;rw[if_neg (by rw[hg];simp),if_neg (by rw[ho];simp)]
    have hL:Zn es e=(es++[e]).drop (es.length+1-8):=by unfold Zn;rw[if_neg (by rw[hg,ho];simp)]
    refine Cc.by (fun z w'=>Af w w'∧Gs w' w.heap.size T.D7 3 z.1 (es++[e]).length (flat3 (es++[e]))) ?_ ?_
    · rw[Ap]
      have g6:Af w w5.drew.drew:=Am.drew (Am.drew g5)
      have k6:=k5.drew.drew
      generalize w5.drew.drew=w16 at g6 k6
      refine k6.bC ?_
      have l6:=k6.lt
      have b1:w.heap.size≤p1:=by omega
      have fin: ∀{p:Nat} {y2:Sl} {wc:World},w.heap.size≤p→Am (fun z=>p≤z) w16 wc→Gs wc p T.D7 3 y2 (es++[e]).length (flat3 (es++[e]))→
          Af w wc∧Gs wc w.heap.size T.D7 3 y2 (es++[e]).length (flat3 (es++[e])):=fun hp u ho=>
        ⟨Am.trans g6 u fun i hi h=>by omega,ho.Zq fun a ha=>Nat.le_trans hp (ho.blk ha).1⟩
      have H: ∀{p:Nat} {w':World},p1<p→Am (fun z=>p≤z) w16 w'→Hold [(3,(Addr.add ⟨p1,0,none⟩ 0),(w16.cell? (Addr.add ⟨p1,0,none⟩ 0)).getD undef),(3,(Addr.add ⟨p1,0,none⟩ 1),(w16.cell? (Addr.add ⟨p1,0,none⟩ 1)).getD undef),(3,(Addr.add ⟨p1,0,none⟩ 2),(w16.cell? (Addr.add ⟨p1,0,none⟩ 2)).getD undef)] w':=
        fun hp u=>⟨k6.hold u (by omega) 0 (by simp),k6.hold u (by omega) 1 (by simp),k6.hold u (by omega) 2 (by simp),trivial⟩
      have tr: ∀{p:Nat} {a b c:World},Am (fun z=>p≤z) a b→Am (fun z=>p≤z) b c→Am (fun z=>p≤z) a c:=fun h1 h2=>h1.trans h2 fun _ _ h=>h
      have eq: ∀{p:Nat} {a b:World},Am (fun z=>z=p) a b→Am (fun z=>p≤z) a b:=fun h=>h.mono fun z h=>Nat.le_of_eq h.symm
      refine⟨?_,?_⟩
      · refine Zv 3 0 rfl (by omega) fun p18 w19 e18 o18 u18=>?_
        have q18:p1<p18:=by omega
        have U18:Am (fun z=>p18≤z) w16 w19:=Am.Bj u18
        have z18:p18<w19.heap.size:=(o18.blk rfl).2.1
        refine⟨H q18 U18,?_,?_⟩
        · refine xG (hE.Ai g6) hn u18 o18 ?_
          intro y20 w21 o20 u20
          refine⟨H q18 (tr U18 (eq u20)),Ad fun p22 w23 e22 k22 u22=>⟨H q18 (tr (tr U18 (eq u20)) (Am.Bj u22)),?_⟩⟩
          have h23:p18<w23.heap.size:=by have:=u20.size;have:=u22.size;omega
          refine yG hn h23 (o20.Ai u22) k22 ?_
          intro y24 w25 o24 u24
          have U:=tr (tr (tr U18 (eq u20)) (Am.Bj u22)) u24
          exact⟨H q18 U,fin (by omega) U o24⟩
        · refine Ad fun p26 w27 e26 k26 u26=>⟨H q18 (tr U18 (Am.Bj u26)),?_⟩
          refine xG (hE.Ai g6) hn (u18.trans u26) (o18.Ai u26) ?_
          intro y28 w29 o28 u28
          refine⟨H q18 (tr (tr U18 (Am.Bj u26)) (eq u28)),?_⟩
          have h29:p18<w29.heap.size:=by have:=u26.size;have:=u28.size;omega
          refine yG hn h29 o28 (k26.upd u28 (by omega)) ?_
          intro y30 w31 o30 u30
          have U:=tr (tr (tr U18 (Am.Bj u26)) (eq u28)) u30
          exact⟨H q18 U,fin (by omega) U o30⟩
      · refine Ad fun p32 w33 e32 k32 u32=>⟨H (p:=p1+1) (by omega) (Am.Bj u32),?_⟩
        have l32:=k32.lt
        refine Zv 3 0 rfl (by omega) fun p34 w35 e34 o34 u34=>?_
        have q34:p1<p34:=by have:=u32.size;omega
        have U34:Am (fun z=>p34≤z) w16 w35:=Am.Bj (u32.trans u34)
        have z34:p34<w35.heap.size:=(o34.blk rfl).2.1
        refine⟨H q34 U34,?_⟩
        refine xG (hE.Ai g6) hn (u32.trans u34) o34 ?_
        intro y36 w37 o36 u36
        refine⟨H q34 (tr U34 (eq u36)),?_⟩
        have h37:p34<w37.heap.size:=by have:=u36.size;omega
        refine yG hn h37 o36 ((k32.Ai u34).upd u36 (by omega)) ?_
        intro y38 w39 o38 u38
        have U:=tr (tr U34 (eq u36)) u38
        exact⟨H q34 U,fin (by have:=u32.size;omega) U o38⟩
    · rintro⟨z,u⟩ w15 ⟨g,ho'⟩ _
      have ho':Gs w15 w.heap.size T.D7 3 z (es++[e]).length (flat3 (es++[e])):=ho'
      have hz:z.2.1=es.length+1:=by rw[ho'.len,List.length_append];rfl
      have fr: ∀{s':Sl},(∀a,s'.1=some a→ ∃a0,z.1=some a0∧a.block=a0.block)→s'=s∨ ∀a,s'.1=some a→w.heap.size≤a.block∧a.block<w15.heap.size:=fun h=>.inr fun a ha=>by
        obtain⟨a0,h0,h1⟩:=h a ha
        rw[h1];exact⟨(ho'.blk h0).1,(ho'.blk h0).2.1⟩
      dsimp only
      refine Dx (fun c=>?_) fun c=>?_
      · have c:(z.2.1:Int)>8:=c
        have e8:wrap .i64 ((z.2.1:Int)-8)=1:=by rw[Ah (by unfold I64;omega)];omega
        rw[e8,mZ ⟨by decide,by omega,by have:=ho'.cap;omega⟩]
        have hE':=ho'.ents.from ho'.cap (l:=1) (by rw[List.length_append];show 1≤_+1;omega)
        have h7:(es++[e]).drop 1=Zn es e:=by rw[hL,show es.length+1-8=1 by omega]
        rw[h7] at hE'
        have:=hk (dG z.1 z.2.2 1 3,z.2.1-1,z.2.2-1) w15 g hE' (fr fun a ha=>?_)
        · rw[hN] at this;exact this
        · change dG z.1 z.2.2 1 3=some a at ha
          unfold dG at ha
          split at ha
          · exact⟨a,ha,rfl⟩
          · obtain⟨a0,h0,h1⟩:=Option.map_eq_some_iff.1 ha
            exact⟨a0,h0,by rw[←h1,add_block]⟩
      · have c: ¬(z.2.1:Int)>8:=c
        have h7:es++[e]=Zn es e:=by rw[hL,show es.length+1-8=0 by omega];rfl
        have:=hk z w15 g (by rw[←h7];exact ho'.ents) (fr fun a ha=>⟨a,ha,rfl⟩)
        rw[hN] at this;exact this
end Go.Proofs.YtnjmfbjgcfnanaaGreat
