import Derived.Test.YtnjmfbjgcfnanaaGreatLnA
namespace Go.Proofs.YtnjmfbjgcfnanaaGreat
open Go Go.Eng Tryz
open Go.IntKind (wrap)
set_option linter.unusedSimpArgs false
set_option linter.unusedVariables false
set_option maxRecDepth 100000
set_option maxHeartbeats 8000000
theorem law26_great.cl{c:Cl}{w:World}{k:TR Wh→WP}(hk: ∀w',Af w w'→k ((decide ((c.bs.2.1:Int)>200)||decide ((c.lab.size:Int)>100),()),()) w'):Ae prog F.law26_great [vCl c] w false Wh k:=by
  refine law26_great.ok ?_
  unfold law26_great.wp
  refine Ad fun p1 w2 e1 k1 u1=>?_
  change Az w2 p1 (encs KCl (cT c)) at k1
  refine k1.c1 18 (c:=.sl) (x:=c.bs) rfl (Dx (fun q=>?_) fun q=>k1.c1 19 (c:=.s) (x:=c.lab) rfl ?_)
  · have:=hk w2 u1
    rw[decide_eq_true q] at this
    exact this
  · have:=hk w2 u1
    rw[decide_eq_false q] at this
    exact this
theorem Bp.keep{w w1:World}{O O2:NP}{N:NB}{bf be:Nat}{O':NP}{M:NB}{br bE:Nat}{Y:NP}{d:Nd}(h:Bp w O N bf be O' M br bE Y d)(k:NW w1 O2 N bf be d)(x:Nx (NO N O) w (NO N O2) w1):Bp w1 O2 N bf be O' M br bE Y d:=
  have q:=h.rn.prog h.yn k x
  ⟨k,q.1,q.2,h.g,h.f,h.s⟩
theorem Air{d:Nd}{j:Int}{xs:List Nat}{e:Int}(h:Xg xs=.error e)(he:e≠0):(d.hear j xs).1=d∧(d.hear j xs).2≠0:=by
  unfold Nd.hear
  split
  · rename_i c;exact⟨rfl,c⟩
  · rw[h];exact⟨rfl,he⟩
theorem Akp{xs:List Nat}{e:Int}(hd:Xg xs=.error e):e≠0:=by
  intro e0
  unfold Xg at hd
  subst e0
  split at hd
  · cases hd
  split at hd
  · cases hd
  split at hd
  · cases hd
  split at hd
  · cases hd
  split at hd
  · cases hd
  · cases hd
theorem Aga{d:Nd}(h:d.on=false)(s j:Int):d.send s j=(d,[],10):=by
  unfold Nd.send Nd.Yf;rw[if_pos h,if_pos (by decide)]
theorem Amz{d:Nd}(h:d.on=false)(t:Int):d.go t=(d,10):=by unfold Nd.go;rw[if_pos h]
theorem Agn{d:Nd}(h:d.on=false)(j:Int)(xs:List Nat):d.hear j xs=(d,10):=by
  unfold Nd.hear Nd.Yf;rw[if_pos h,if_pos (by decide)]
theorem Ajv{d:Nd}(h:d.on=false):d.awk=false:=by unfold Nd.awk;rw[if_pos h]
theorem Am7(d:Nd):(wE d).1=d.on:=by
  unfold wE
  split
  · rename_i h;exact h.symm
  · rename_i h
    have:d.on=false:=by simpa using h
    rw[this]
theorem Afw(x:Jf KSs):((x.1==x.1)&&((x.2.1==x.2.1)&&((x.2.2.1==x.2.2.1)&&((x.2.2.2.1==x.2.2.2.1)&&((x.2.2.2.2.1==x.2.2.2.2.1)&&((x.2.2.2.2.2.1==x.2.2.2.2.2.1)&&((x.2.2.2.2.2.2.1==x.2.2.2.2.2.2.1)&&((x.2.2.2.2.2.2.2.1==x.2.2.2.2.2.2.2.1)&&((x.2.2.2.2.2.2.2.2.1==x.2.2.2.2.2.2.2.2.1)&&((x.2.2.2.2.2.2.2.2.2.1==x.2.2.2.2.2.2.2.2.2.1)&&((x.2.2.2.2.2.2.2.2.2.2.1==x.2.2.2.2.2.2.2.2.2.2.1)&&((x.2.2.2.2.2.2.2.2.2.2.2.1==x.2.2.2.2.2.2.2.2.2.2.2.1)&&true))))))))))))=true:=by
  obtain⟨a,b,c,d,e,f,g,h,i,j,k,l,_⟩:=x
  simp only[beq_self_eq_true,Bool.and_self,Bool.and_true]
def CR(w:World)(x:Jf KCl):Prop:= ∃(c:Cl) (xs:List Nat),x=cT c∧(0≤c.raw∧c.raw<4294967296)∧Ur w c.bs xs∧c.bs.2.1≤c.bs.2.2∧eH xs
theorem Ur.fresh{w:World}{s:Sl}{xs:List Nat}(h:Ur w s xs)(hn:xs≠[]){a:Addr}(ha:s.1=some a):a.block<w.heap.size:=by
  cases xs with
  |nil=>exact absurd rfl hn
  |cons x t=>
    have:=cell_lt (Row.ld h ha (k:=0) rfl)
    rwa [add_block] at this
abbrev vSt(s:nS):Value:=.agg (kD s).toArray
theorem law26_NodeQuiet.cl{s:nS}{t b:Sl}{xs:List (Jf KCl)}{bs:List Nat}{jit:Int}{w:World}(hT:aP w t KCl xs)(hX: ∀x∈xs,CR w x)(hb:Ur w b bs)(hbc:b.2.1≤b.2.2)(hbb:eH bs):
    Ae prog F.law26_NodeQuiet [vSt s,bP t,bP b,.int .i64 jit] w false Wh (Holds w):=by
  refine law26_NodeQuiet.ok (script:=t) (b:=b) ?_
  unfold law26_NodeQuiet.wp
  refine Ad fun p1 w2 e1 k1 u1=>?_
  change Az w2 p1 (kD s) at k1
  refine law26_alive.cl fun w4 u4=>Jl rfl (Dx (fun c=>holds (u1.trans u4) rfl) fun cn=>Dx (fun c=>holds (u1.trans u4) rfl) fun cb=>?_)
  have hlt:=hT.len (by decide)
  have hlb:=hb.len'
  have cb: ¬(b.2.1:Int)>200:=cb
  have cn: ¬(t.2.1:Int)>100:=cn
  refine(k1.Ai u4).cA (cs:=KSt) (stT s) rfl (Ul.cl (s:=s) fun w7 u7=>Ee (fun c=>holds ((u1.trans u4).trans u7) rfl) fun hg=>?_)
  have hg:Yj s=true:=hg
  have g7:=(u1.trans u4).trans u7
  refine((k1.Ai u4).Ai u7).cA (cs:=KSt) (stT s) rfl (law26_setup.cl (s:=s) fun w10 u10=>Uz.cl (s:=s) (lp:=none) (fun hn=>by rw[hg] at hn;cases hn) fun _ O N bf be w12 H12 hO u12=>Jl rfl ?_)
  have g12:=(g7.trans u10).trans u12
  refine((((k1.Ai u4).Ai u7).Ai u10).Ai u12).cA (cs:=KSt) (stT s) rfl (Ut.n (s:=s) (lp:=none) hg (X:=fun z=>NO N O z∨False) (fun z hz=>hz.elim (H12.lt z) False.elim) fun w15 O' M br bE R15 hM u15=>?_)
  have g15:=g12.trans u15
  have B15:Bp w15 O N bf be O' M br bE (fun _=>False) (nd0 s none):=⟨H12.Ai u15,R15,(fun z hz=>hz.elim),Xn.nd0 hg none,Y8.nd0 s none,Yu.nd0 s none⟩
  have s10:=(g7.trans u10).size
  have s12:=g12.size
  refine Ci.by (fun z W=> ∃i:Nat,i≤xs.length∧z=((i:Int),())∧Af w W∧ ∃Z d,Bo W (N 0) (M 0) Z (fun _=>False) d∧ ∀z,Z z→w.heap.size≤z) (fun z=>(101-z.1).toNat) ⟨0,by omega,rfl,g15,_,_,B15.bo,fun z hz=>hz.elim (fun q=>Nat.le_trans s10 (hO z q)) fun q=>Nat.le_trans s12 (hM z q)⟩ ?_
  rintro z W ⟨i,hi,rfl,gW,Z,d,hBo,hZ⟩ _
  refine Dx (fun c=>?_) fun c=>holds gW rfl
  have hil:i<xs.length:=by have c:(i:Int)<(t.2.1:Int):=c;omega
  have hx:xs[i]? =some xs[i]:=List.getElem?_eq_getElem hil
  obtain⟨c,ys,ec,craw,crow,ccap,cbyt⟩:=hX _ (List.getElem_mem hil)
  rw[ec] at hx
  have TW:=hT.Ai gW
  refine TW.ix (by decide) (z:=(i:Int)) rfl hx fun a ha=>TW.A8 ha hx ?_
  refine Ad fun p21 w22 e21 k21 u22=>k21.Fg (encs KCl (cT c)) rfl rfl fun w23 k23 u23=>k23.cA (cs:=KCl) (cT c) rfl ?_
  have g23:Af W w23:=Af.fresh (Af.refl _) u22 u23 e21
  refine law26_great.cl (c:=c) fun w26 u26=>?_
  have g26:=g23.trans u26
  refine bM (fun q=>holds (gW.trans g26) rfl) fun q=>?_
  have q:(decide ((c.bs.2.1:Int)>200)||decide ((c.lab.size:Int)>100))=false:=q
  rw[Bool.or_eq_false_iff,decide_eq_false_iff_not,decide_eq_false_iff_not] at q
  have crl:=crow.len'
  have hcg:CG w26 c ys:=⟨craw,Row.Ai crow (gW.trans g26),ccap,cbyt,by omega,by omega⟩
  refine(k23.Ai u26).cA (cs:=KCl) (cT c) rfl ?_
  have lZ:=hBo.lt
  have l21:=k23.lt
  have e21':W.heap.size≤p21:=by omega
  obtain⟨O1,N1,bf1,be1,O1',M1,br1,bE1,eN,eM,eZ,B1⟩:=hBo.Ai g26
  rw[←eN,←eM]
  have sW:=gW.size
  refine law26_does.n B1 hcg (fun hn a ha hq=>by have:=hZ _ ((eZ _).2 hq);have:=crow.fresh hn ha;omega) fun w29 Z29 hBo29 X29=>Jl rfl ?_
  have nZ: ∀{p:Nat},W.heap.size≤p→ ¬BZ N1 O1 M1 O1' p:=fun hp hq=>by have:=lZ _ ((eZ _).2 hq);omega
  have k29:=(k23.Ai u26).upd X29.u (nZ e21')
  have g29:Af w w29:=Am.trans (gW.trans g26) X29.u fun z hz hq=>by have:=hZ _ ((eZ _).2 hq);omega
  have hZ29: ∀z,Z29 z→w.heap.size≤z:=fun z hz=>(X29.sub z hz).elim (fun q=>hZ z ((eZ z).2 q)) fun q=>by have:=(gW.trans g26).size;omega
  have lZ29:=hBo29.lt
  have n29: ¬Z29 p21:=fun hq=>(X29.sub _ hq).elim (nZ e21') fun q=>by have:=u26.size;omega
  generalize stepD d c ys=d' at*
  obtain⟨O2,N2,bf2,be2,O2',M2,br2,bE2,eN2,eM2,eZ2,B2⟩:=hBo29
  rw[←eN2,←eM2]
  refine Cb.n B2.nw fun w31 u31=>Ad fun p32 w33 e32 k32 u33=>k32.Fg (encs KSs (wE d')) rfl rfl fun w34 k34 u34=>?_
  have f34:Af w29 w34:=Af.fresh u31 u33 u34 e32
  have z31:=u31.size
  have n32: ¬BZ N2 O2 M2 O2' p32:=fun hq=>by have:=lZ29 _ ((eZ2 _).2 hq);omega
  have n21: ¬BZ N2 O2 M2 O2' p21:=fun hq=>n29 ((eZ2 _).2 hq)
  have hb34:=Row.Ai hb (g29.trans f34)
  refine Cc.by (fun _ W'=> ∃O3,Bp W' O3 N2 bf2 be2 O2' M2 br2 bE2 (fun _=>False) d'∧(∀z,BZ N2 O3 M2 O2' z→w.heap.size≤z)∧Af w W'∧Az W' p32 (encs KSs (wE d'))∧Az W' p21 (encs KCl (cT c))∧(∀z,BZ N2 O3 M2 O2' z→z≠p32∧z≠p21)) ?_ ?_
  · refine Tc.cl hbb (by omega) hbc hb34 fun w39 u39=>Ad fun p40 w41 e40 k40 u41=>k40.Fg (encs Uo (rdP bs).1) rfl rfl fun w42 k42 u42=>?_
    have f42:Af w34 w42:=Af.fresh u39 u41 u42 e40
    have g42:=f34.trans f42
    refine bK (fun ce=>?_) fun ce=>?_
    · have ce:(rdP bs).2≠0:=ce
      obtain⟨e,he⟩: ∃e,Xg bs=.error e:=by
        cases hd:Xg bs with
        |error e=>exact⟨e,rfl⟩
        |ok f=>rw[Aby hd] at ce;exact absurd rfl ce
      have hh:=Air (d:=d') (j:=jit) he (Akp he)
      rw[Ap]
      have B3:=(B2.Ai g42).drew
      have K34:=(k34.Ai f42).drew
      have K21:=((k29.Ai f34).Ai f42).drew
      have G:=(g29.trans g42).trans (Af.drew w42)
      have rb:=Row.Ai (Row.Ai hb34 f42) (Af.drew w42)
      have s29:=(g42.trans (Af.drew w42)).size
      generalize w42.drew=w43 at*
      refine Ia.n B3.nw B3.g hbb rb hbc fun w45 O45 H45 X45=>⟨trivial,?_⟩
      rw[hh.1] at H45
      have B4:=B3.keep H45 X45
      have K34':=K34.upd X45.u fun hq=>n32 (.inl hq)
      have K21':=K21.upd X45.u fun hq=>n21 (.inl hq)
      have G45:Af w w45:=Am.trans G X45.u fun z hz hq=>by have:=hZ29 _ ((eZ2 _).2 (.inl hq));omega
      refine Jl (by show((d'.hear jit bs).2==0)=false;exact beq_false_of_ne hh.2) (K34'.cA (cs:=KSs) (wE d') rfl (Cb.n B4.nw fun w48 u48=>⟨⟨K34'.hold u48 (fun x=>x) 0 (by rw[Ak];decide),K34'.hold u48 (fun x=>x) 1 (by rw[Ak];decide),K34'.hold u48 (fun x=>x) 2 (by rw[Ak];decide),K34'.hold u48 (fun x=>x) 3 (by rw[Ak];decide),K34'.hold u48 (fun x=>x) 4 (by rw[Ak];decide),K34'.hold u48 (fun x=>x) 5 (by rw[Ak];decide),K34'.hold u48 (fun x=>x) 6 (by rw[Ak];decide),K34'.hold u48 (fun x=>x) 7 (by rw[Ak];decide),K34'.hold u48 (fun x=>x) 8 (by rw[Ak];decide),K34'.hold u48 (fun x=>x) 9 (by rw[Ak];decide),K34'.hold u48 (fun x=>x) 10 (by rw[Ak];decide),K34'.hold u48 (fun x=>x) 11 (by rw[Ak];decide),trivial⟩,?_⟩))
      refine Jl (by show(!_)=false;rw[Afw];rfl) ⟨O45,B4.Ai u48,?_,G45.trans u48,K34'.Ai u48,K21'.Ai u48,?_⟩
      · rintro z (hq|hq)
        · rcases X45.sub z hq with q|q
          · exact hZ29 _ ((eZ2 _).2 (.inl q))
          · exact Nat.le_trans G.size q
        · exact hZ29 _ ((eZ2 _).2 (.inr hq))
      · rintro z (hq|hq)
        · rcases X45.sub z hq with q|q
          · exact⟨fun e=>n32 (e▸ .inl q),fun e=>n21 (e▸ .inl q)⟩
          · have h1:=K34.lt;have h2:=K21.lt
            exact⟨by omega,by omega⟩
        · exact⟨fun e=>n32 (e▸ .inr hq),fun e=>n21 (e▸ .inr hq)⟩
    · exact⟨O2,B2.Ai g42,fun z hz=>hZ29 _ ((eZ2 _).2 hz),g29.trans g42,k34.Ai f42,(k29.Ai f34).Ai f42,fun z hz=>⟨fun e=>n32 (e▸hz),fun e=>n21 (e▸hz)⟩⟩
  rintro _ w37 ⟨O3,B3,hZ3,g37,K34,K21,hne⟩ _
  have lZ3:=B3.lt
  refine K34.c0 (c:=.b) (x:=(wE d').1) rfl ?_
  rw[Am7]
  have fin: ∀{w':World} {O4:NP},Bp w' O4 N2 bf2 be2 O2' M2 br2 bE2 (fun _=>False) d'→(∀z,BZ N2 O4 M2 O2' z→w.heap.size≤z)→Af w w'→(∃i':Nat,i'≤xs.length∧(wrap .i64 ((i:Int)+1),())=((i':Int),())∧Af w w'∧ ∃Z d,Bo w' (N2 0) (M2 0) Z (fun _=>False) d∧ ∀z,Z z→w.heap.size≤z)∧(101-wrap .i64 ((i:Int)+1)).toNat<(101-(i:Int)).toNat:=fun B hz g=>by
    refine⟨⟨i+1,by omega,?_,g,_,d',B.bo,hz⟩,?_⟩
    · rw[Ah (by unfold I64;omega)];rfl
    · rw[Ah (by unfold I64;omega)];omega
  refine Ee (fun ho=>?_) fun ho=>fin B3 hZ3 g37
  have ho:d'.on=false:=ho
  refine K21.c1 1 (c:=.i .i64) (x:=c.n) rfl (Hy.n B3.nw B3.g fun y w52 O52 H52 S52 X52=>?_)
  rw[Aga ho] at H52 S52⊢
  have B4:=(B3.keep H52 X52).drew
  have K32:=(K34.upd X52.u fun hq=>(hne _ (.inl hq)).1 rfl).drew
  have G52:Af w w52:=Am.trans g37 X52.u fun z hz hq=>by have:=hZ3 _ (.inl hq);omega
  have hz4: ∀z,BZ N2 O52 M2 O2' z→w.heap.size≤z∧z≠p32:=fun z hz=>by
    rcases hz with hq|hq
    · rcases X52.sub z hq with q|q
      · exact⟨hZ3 _ (.inl q),(hne _ (.inl q)).1⟩
      · have h1:=K34.lt;exact⟨Nat.le_trans g37.size q,by omega⟩
    · exact⟨hZ3 _ (.inr hq),(hne _ (.inr hq)).1⟩
  have yl:y.2.1=0:=S52.len
  rw[Ap]
  have G53:=G52.trans (Af.drew w52)
  generalize w52.drew=w53 at*
  refine Jl (by show((y.2.1:Int) !=0)=false;rw[yl];rfl) (Jl rfl ?_)
  refine Lr.n B4.nw B4.g fun w55 H55 X55=>⟨trivial,?_⟩
  rw[Amz ho] at H55⊢
  have B5:=B4.keep H55 X55
  have K55:=K32.upd X55.u fun hq=>(hz4 _ (.inl hq)).2 rfl
  have G55:Af w w55:=Am.trans G53 X55.u fun z hz hq=>by have:=(hz4 _ (.inl hq)).1;omega
  refine Jl rfl (Ia.n B5.nw B5.g hbb (Row.Ai hb G55) hbc fun w57 O57 H57 X57=>⟨trivial,?_⟩)
  rw[Agn ho] at H57⊢
  have B6:=B5.keep H57 X57
  have K57:=K55.upd X57.u fun hq=>(hz4 _ (.inl hq)).2 rfl
  have G57:Af w w57:=Am.trans G55 X57.u fun z hz hq=>by have:=(hz4 _ (.inl hq)).1;omega
  have hz6: ∀z,BZ N2 O57 M2 O2' z→w.heap.size≤z:=fun z hz=>by
    rcases hz with hq|hq
    · rcases X57.sub z hq with q|q
      · exact(hz4 _ (.inl q)).1
      · exact Nat.le_trans G55.size q
    · exact(hz4 _ (.inr hq)).1
  refine Jl rfl (Iy.n B6.nw B6.g.s fun w59 u59=>⟨trivial,?_⟩)
  rw[Ajv ho]
  have K59:=K57.Ai u59
  refine Jl rfl (K59.cA (cs:=KSs) (wE d') rfl (Cb.n (B6.Ai u59).nw fun w62 u62=>⟨⟨K59.hold u62 (fun x=>x) 0 (by rw[Ak];decide),K59.hold u62 (fun x=>x) 1 (by rw[Ak];decide),K59.hold u62 (fun x=>x) 2 (by rw[Ak];decide),K59.hold u62 (fun x=>x) 3 (by rw[Ak];decide),K59.hold u62 (fun x=>x) 4 (by rw[Ak];decide),K59.hold u62 (fun x=>x) 5 (by rw[Ak];decide),K59.hold u62 (fun x=>x) 6 (by rw[Ak];decide),K59.hold u62 (fun x=>x) 7 (by rw[Ak];decide),K59.hold u62 (fun x=>x) 8 (by rw[Ak];decide),K59.hold u62 (fun x=>x) 9 (by rw[Ak];decide),K59.hold u62 (fun x=>x) 10 (by rw[Ak];decide),K59.hold u62 (fun x=>x) 11 (by rw[Ak];decide),trivial⟩,?_⟩))
  exact Jl (by show(!_)=false;rw[Afw];rfl) (fin ((B6.Ai u59).Ai u62) hz6 ((G57.trans u59).trans u62))
abbrev shS:Shp:=.cons 1 (.i .i64) (.cons 1 (.i .i64) (.cons 1 (.i .i64) (.cons 1 (.i .i64) (.cons 1 (.i .i64) (.cons 1 (.i .i64) (.cons 1 (.i .i64) (.cons 1 (.i .i64) (.cons 1 (.i .i64) (.cons 1 (.i .i64) (.cons 1 (.b) (.nil)))))))))))
theorem Agw{w:World}{cs:List Value}(h:zL w shS cs): ∃s:nS,cs=kD s:=by
  obtain⟨_,_,rfl,_,⟨a0,rfl,_⟩,_,_,rfl,_,⟨a1,rfl,_⟩,_,_,rfl,_,⟨a2,rfl,_⟩,_,_,rfl,_,⟨a3,rfl,_⟩,_,_,rfl,_,⟨a4,rfl,_⟩,_,_,rfl,_,⟨a5,rfl,_⟩,_,_,rfl,_,⟨a6,rfl,_⟩,_,_,rfl,_,⟨a7,rfl,_⟩,_,_,rfl,_,⟨a8,rfl,_⟩,_,_,rfl,_,⟨a9,rfl,_⟩,_,_,rfl,_,⟨b,rfl⟩,hn⟩:=h
  have hn:_=[]:=hn
  subst hn
  exact⟨⟨a0,a1,a2,a3,a4,a5,a6,a7,a8,a9,b⟩,rfl⟩
theorem Aml{n:Int}(h:(Lit.int .u32 n).wf=true):0≤n∧n<4294967296:=by
  have h:((Lit.int .u32 n).wf=true):=h
  simp[Lit.wf,IntKind.min,IntKind.max,IntKind.signed,IntKind.bits] at h
  omega
theorem Aov{n:Int}(h:(Lit.int .u8 n).wf=true):0≤n∧n<256:=by
  have h:((Lit.int .u8 n).wf=true):=h
  simp[Lit.wf,IntKind.min,IntKind.max,IntKind.signed,IntKind.bits] at h
  omega
theorem sF: ∀{w:World} (rows:List (List Value)),(∀r∈rows,r.length=1∧zL w (.i .u8) r)→ ∃xs:List Nat,rows.flatten=dV xs∧eH xs
  |w,[],_=>⟨[],rfl,fun x hx=>by cases hx⟩
  |w,r::rows,h=>by
    obtain⟨xs,e,hx⟩:=sF (w:=w) rows fun q hq=>h q (by simp[hq])
    obtain⟨_,m,rfl,hm⟩:=h r (by simp)
    have hm:=Aov hm
    refine⟨m.toNat::xs,?_,fun x hq=>?_⟩
    · rw[List.flatten_cons,e]
      have:((m.toNat:Nat):Int)=m:=by omega
      show[Value.int .u8 m]++dV xs=Value.int .u8 ((m.toNat:Nat):Int)::dV xs
      rw[this];rfl
    · rcases List.mem_cons.1 hq with rfl|hq
      · omega
      · exact hx x hq
theorem rJ{w:World}{s:Sl}(h:zL w (.sl 1 (.i .u8)) [bP s]): ∃xs:List Nat,Ur w s xs∧s.2.1≤s.2.2∧eH xs:=by
  obtain⟨s',e,hc,_,rows,hl,hr,ho⟩:=h
  have e:s'=s:=by
    simp only[List.cons.injEq,Value.slice.injEq,and_true] at e
    obtain⟨a,b,c⟩:=s
    obtain⟨a',b',c'⟩:=s'
    simp only at e
    rw[e.1,e.2.1,e.2.2]
  subst e
  obtain⟨xs,ex,hx⟩:=sF rows ho
  rw[ex] at hr
  exact⟨xs,hr,hc,hx⟩
abbrev Amb:Shp:=.cons 1 (.i .i64) (.cons 1 (.i .i64) (.cons 1 (.i .i64) (.cons 1 (.i .u32) (.cons 14 (.cons 1 (.i .i64) (.cons 1 (.i .i64) (.cons 1 (.i .i64) (.cons 1 (.i .i64) (.cons 1 (.i .u16) (.cons 1 (.i .u16) (.cons 1 (.i .i64) (.cons 1 (.i .i64) (.cons 1 (.i .i64) (.cons 1 (.i .i64) (.cons 1 (.i .i64) (.cons 1 (.i .i64) (.cons 1 (.i .i64) (.cons 1 (.i .i64) (.nil))))))))))))))) (.cons 1 (.sl 1 (.i .u8)) (.cons 1 (.s) (.nil)))))))
theorem Adw{w:World}{r:List Value}(h:zL w Amb r): ∃x:Jf KCl,r=encs KCl x∧CR w x:=by
  obtain⟨_,_,rfl,_,⟨kd,rfl,_⟩,_,_,rfl,_,⟨n,rfl,_⟩,_,_,rfl,_,⟨jit,rfl,_⟩,_,_,rfl,_,⟨raw,rfl,hraw⟩,_,_,rfl,_,⟨_,_,rfl,_,⟨x0,rfl,_⟩,_,_,rfl,_,⟨x1,rfl,_⟩,_,_,rfl,_,⟨x2,rfl,_⟩,_,_,rfl,_,⟨x3,rfl,_⟩,_,_,rfl,_,⟨x4,rfl,_⟩,_,_,rfl,_,⟨x5,rfl,_⟩,_,_,rfl,_,⟨x6,rfl,_⟩,_,_,rfl,_,⟨x7,rfl,_⟩,_,_,rfl,_,⟨x8,rfl,_⟩,_,_,rfl,_,⟨x9,rfl,_⟩,_,_,rfl,_,⟨x10,rfl,_⟩,_,_,rfl,_,⟨x11,rfl,_⟩,_,_,rfl,_,⟨x12,rfl,_⟩,_,_,rfl,_,⟨x13,rfl,_⟩,hx⟩,_,_,rfl,_,hsl,_,_,rfl,_,⟨lab,rfl,_⟩,hn⟩:=h
  have hn:_=[]:=hn
  have hx:_=[]:=hx
  subst hn hx
  obtain⟨s,rfl,hr⟩:=hsl
  obtain⟨ys,h1,h2,h3⟩:=rJ (w:=w) (s:=s) ⟨s,rfl,hr⟩
  exact⟨cT ⟨kd,n,jit,raw,(x0,x1,x2,x3,x4,x5,x6,x7,x8,x9,x10,x11,x12,x13,()),s,lab⟩,rfl,⟨kd,n,jit,raw,(x0,x1,x2,x3,x4,x5,x6,x7,x8,x9,x10,x11,x12,x13,()),s,lab⟩,ys,rfl,Aml hraw,h1,h2,h3⟩
theorem Aae{w:World}{s:Sl}(h:zL w (.sl 20 Amb) [bP s]): ∃xs:List (Jf KCl),aP w s KCl xs∧ ∀x∈xs,CR w x:=by
  obtain⟨s',e,hc,_,rows,hl,hr,ho⟩:=h
  have e:s'=s:=by
    simp only[List.cons.injEq,Value.slice.injEq,and_true] at e
    obtain⟨a,b,c⟩:=s
    obtain⟨a',b',c'⟩:=s'
    simp only at e
    rw[e.1,e.2.1,e.2.2]
  subst e
  obtain⟨xs,ex,_,hx⟩:=qQ (cs:=KCl) (Q:=fun _=>True) (R:=CR w) rows fun r hr=>by
    obtain⟨x,h1,h2⟩:=Adw (ho r hr).2
    exact⟨x,h1,h2⟩
  rw[ex] at hr
  exact⟨xs,hr,hx⟩
theorem law26_NodeQuiet.fin{cs:List Value}{t b:Sl}{jit:Int}{w:World}(h:zL w shS cs)(hT:zL w (.sl 20 Amb) [bP t])(hb:zL w (.sl 1 (.i .u8)) [bP b]):Ae prog F.law26_NodeQuiet [.agg cs.toArray,.slice t.1 t.2.1 t.2.2,.slice b.1 b.2.1 b.2.2,.int .i64 jit] w false Wh (Holds w):=by
  obtain⟨s,rfl⟩:=Agw h
  obtain⟨xs,h1,h2⟩:=Aae hT
  obtain⟨bs,h3,h4,h5⟩:=rJ hb
  exact law26_NodeQuiet.cl h1 h2 h3 h4 h5
end Go.Proofs.YtnjmfbjgcfnanaaGreat
