import Derived.Test.YtnjmfbjgcfnanaaGreatLnQ
namespace Go.Proofs.YtnjmfbjgcfnanaaGreat
open Go Go.Eng Tryz
open Go.IntKind (wrap)
set_option linter.unusedSimpArgs false
set_option linter.unusedVariables false
set_option maxRecDepth 100000
set_option maxHeartbeats 8000000
def Nd.sb(d:Nd):nS×Option Addr×Int:=(d.s,d.lp,d.boot)
theorem push_sb(d:Nd)(j:Jb):(d.push j).1.sb=d.sb:=by unfold Nd.push;split<;>rfl
theorem pass_sb(d:Nd):d.pass.1.sb=d.sb:=by unfold Nd.pass;split;rfl;exact push_sb d _
theorem word_sb(d:Nd)(st:Int):(d.word st).1.sb=d.sb:=by unfold Nd.word;split<;>rfl
theorem send2_sb(d:Nd)(st:Int)(p:List Jb×List Fr):(d.Yi st p).1.sb=d.sb:=by
  unfold Nd.Yi
  dsimp only
  split
  · exact word_sb {d with jobs:=p.1} st
  · rfl
theorem send_sb(d:Nd)(step j:Int):(d.send step j).1.sb=d.sb:=by
  unfold Nd.send
  split
  · rfl
  split
  · rfl
  · exact send2_sb (d.Ri _) _ _
theorem fhear_sb(d:Nd)(s:S6)(t:Int):(d.aH s t).sb=d.sb:=by unfold Nd.aH;dsimp only;split<;>rfl
theorem take_sb(d:Nd)(f:Fr)(t:Int):(d.take f t).1.sb=d.sb:=by
  cases f with
  |sync s=>exact fhear_sb d s t
  |find x=>unfold Nd.take;dsimp only;split<;>rfl
  |want m=>unfold Nd.take;dsimp only;split;exact push_sb d _;rfl
  |pulse x=>unfold Nd.take;dsimp only;split;exact push_sb d _;rfl
  |reply r=>unfold Nd.take;dsimp only;split<;>rfl
  |anchor a=>unfold Nd.take;dsimp only;split;exact pass_sb {d with bh:=true,ba:=a};rfl
theorem hear_sb(d:Nd)(j:Int)(b:List Nat):(d.hear j b).1.sb=d.sb:=by
  unfold Nd.hear
  split
  · rfl
  split
  · rfl
  · unfold Nd.heard
    split
    · rfl
    · exact take_sb d _ _
theorem tag_sb(d:Nd)(s:ByteArray):(d.tag s).1.sb=d.sb:=by
  unfold Nd.tag
  split
  · rfl
  split
  · rfl
  split<;>rfl
theorem takeO_sb(d:Nd):d.Ua.1.sb=d.sb:=by unfold Nd.Ua;split<;>rfl
theorem fix_sb(d:Nd)(t:Int):(d.fix t).1.sb=d.sb:=by
  unfold Nd.fix
  split
  · rfl
  split
  · rfl
  split
  · rfl
  split
  · rfl
  · exact pass_sb {d with bh:=true,ba:=d.mkA d.time.1 t}
theorem go_sb(d:Nd)(t:Int):(d.go t).1.sb=d.sb:=by unfold Nd.go;split<;>rfl
theorem stepD_sb(d:Nd)(c:Cl)(xs:List Nat)(h:c.kd≠0):(stepD d c xs).sb=d.sb:=by
  unfold stepD
  rw[if_neg h]
  split
  · rfl
  split
  · exact go_sb d _
  split
  · exact send_sb d _ _
  split
  · exact hear_sb d _ _
  split
  · exact tag_sb d _
  split
  · exact takeO_sb d
  split
  · exact fix_sb d _
  · rfl
theorem turn_sb{d:Nd}(raw:Int):(d.turn raw).sb=(d.s,d.lp,wrap .u16 (d.boot+1)):=rfl
theorem turn_of{d e:Nd}(h:Xn d)(hF:Y8 d)(h':Xn e)(hF':Y8 e)(q:e.sb=d.sb)(raw:Int):e.turn raw=d.turn raw:=by
  unfold Nd.sb at q
  injection q with q1 q2
  injection q2 with q2 q3
  rw[Ann h hF,Ann h' hF',q1,q2,q3]
theorem w16_back(b:Int):wrap .u16 (wrap .u16 (wrap .u16 (b+1)-1)+1)=wrap .u16 (b+1):=by
  rw[oL,oL,oL];omega
theorem t5_eq(x:Jf K5):((x.1==x.1)&&((x.2.1==x.2.1)&&(((x.2.2.1==x.2.2.1)&&((x.2.2.2.1==x.2.2.2.1)&&true))&&((x.2.2.2.2.1==x.2.2.2.2.1)&&true))))=true:=by
  obtain⟨a,b,c,d,e,_⟩:=x
  simp only[beq_self_eq_true,Bool.and_self,Bool.and_true]
theorem law26_NodeLives.cl{s:nS}{t0 t:Sl}{ys xs:List (Jf KCl)}{raw:Int}{w:World}(hT0:aP w t0 KCl ys)(hX0: ∀x∈ys,CR w x)(hT:aP w t KCl xs)(hX: ∀x∈xs,CR w x)(r0:0≤raw)(r1:raw<4294967296):
    Ae prog F.law26_NodeLives [vSt s,bP t0,bP t,.int .u32 raw] w false Wh (Holds w):=by
  refine law26_NodeLives.ok (past:=t0) (script:=t) ?_
  unfold law26_NodeLives.wp
  refine Ad fun p1 w2 e1 k1 u1=>?_
  change Az w2 p1 (kD s) at k1
  refine law26_alive.cl fun w4 u4=>Jl rfl (Dx (fun c=>holds (u1.trans u4) rfl) fun c0=>Dx (fun c=>holds (u1.trans u4) rfl) fun c1=>?_)
  have c0: ¬(t0.2.1:Int)>60:=c0
  have c1: ¬(t.2.1:Int)>60:=c1
  have hl0:=hT0.len (by decide)
  have hlt:=hT.len (by decide)
  refine(k1.Ai u4).cA (cs:=KSt) (stT s) rfl (Ul.cl (s:=s) fun w7 u7=>Ee (fun c=>holds ((u1.trans u4).trans u7) rfl) fun hg=>?_)
  have hg:Yj s=true:=hg
  have g7:=u4.trans u7
  refine(k1.Ai g7).cA (cs:=KSt) (stT s) rfl (law26_setup.cl (s:=s) fun w10 u10=>Uz.cl (s:=s) (lp:=none) (fun hn=>by rw[hg] at hn;cases hn) fun _ O N bf be w12 H12 hO u12=>?_)
  have g10:=g7.trans u10
  have g12:=g10.trans u12
  refine(k1.Ai g12).cA (cs:=KSt) (stT s) rfl (law26_setup.cl (s:=s) fun w15 u15=>Uz.cl (s:=s) (lp:=none) (fun hn=>by rw[hg] at hn;cases hn) fun _ Ob Nb bfb beb w17 K17 hOb u17=>Jl rfl (Jl rfl ?_))
  have g15:=g12.trans u15
  have g17:=g15.trans u17
  have H17:=H12.Ai (u15.trans u17)
  have lt12:=H12.lt
  have s15:=u15.size
  refine(k1.Ai g17).cA (cs:=KSt) (stT s) rfl (Ut.n (s:=s) (lp:=none) hg (X:=fun z=>NO N O z∨NO Nb Ob z) (fun z hz=>hz.elim (H17.lt z) (K17.lt z)) fun w20 O' M br bE R20 hM u20=>?_)
  have g20:=g17.trans u20
  have yn0: ∀z,NO Nb Ob z→ ¬NO N O z:=fun z h1 h2=>by have:=hOb z h1;have:=lt12 z h2;omega
  have B20:Bp w20 O N bf be O' M br bE (NO Nb Ob) (nd0 s none):=⟨H17.Ai u20,R20,yn0,Xn.nd0 hg none,Y8.nd0 s none,Yu.nd0 s none⟩
  have z10:=g10.size
  have z15:=g15.size
  have z17:=g17.size
  have l1:=k1.lt
  refine Ci.by (fun z W=> ∃i:Nat,i≤ys.length∧z=((i:Int),())∧Af w2 W∧ ∃Z d Ob bfb beb db,Bo W (N 0) (M 0) Z (NO Nb Ob) d∧NW W Ob Nb bfb beb db∧Xn db∧Y8 db∧db.sb=d.sb∧d.s=s∧d.lp=none∧(∀z,Z z→w2.heap.size≤z)∧ ∀z,NO Nb Ob z→w2.heap.size≤z) (fun z=>(101-z.1).toNat)
    ⟨0,by omega,rfl,g20,_,_,Ob,bfb,beb,_,B20.bo,K17.Ai u20,Xn.nd0 hg none,Y8.nd0 s none,rfl,rfl,rfl,fun z hz=>hz.elim (fun q=>Nat.le_trans z10 (hO z q)) fun q=>Nat.le_trans z17 (hM z q),fun z hz=>Nat.le_trans z15 (hOb z hz)⟩ ?_
  rintro z W ⟨i,hi,rfl,gW,Z,d,Ob,bfb,beb,db,hBo,Kb,Gb,Fb,hsb,ds,dlp,hZ,hZb⟩ _
  refine Dx (fun c=>?_) fun c=>?_
  · have hil:i<ys.length:=by have c:(i:Int)<(t0.2.1:Int):=c;omega
    have hx:ys[i]? =some ys[i]:=List.getElem?_eq_getElem hil
    obtain⟨c,bs,ec,craw,crow,ccap,cbyt⟩:=hX0 _ (List.getElem_mem hil)
    rw[ec] at hx
    have gwW:=u1.trans gW
    have TW:=hT0.Ai gwW
    refine TW.ix (by decide) (z:=(i:Int)) rfl hx fun a ha=>TW.A8 ha hx ?_
    refine Ad fun p26 w27 e26 k26 u27=>k26.Fg (encs KCl (cT c)) rfl rfl fun w28 k28 u28=>k28.cA (cs:=KCl) (cT c) rfl ?_
    have g28:Af W w28:=Af.fresh (Af.refl _) u27 u28 e26
    refine law26_great.cl (c:=c) fun w31 u31=>?_
    have g31:=g28.trans u31
    refine bM (fun q=>holds (gwW.trans g31) rfl) fun q=>?_
    have q:(decide ((c.bs.2.1:Int)>200)||decide ((c.lab.size:Int)>100))=false:=q
    rw[Bool.or_eq_false_iff,decide_eq_false_iff_not,decide_eq_false_iff_not] at q
    have crl:=crow.len'
    have hcg:CG w31 c bs:=⟨craw,Row.Ai crow (gwW.trans g31),ccap,cbyt,by omega,by omega⟩
    refine(k28.Ai u31).cA (cs:=KCl) (cT c) rfl ?_
    have lZ:=hBo.lt
    have yl:=hBo.yl
    have k31:=k28.Ai u31
    have l26:=k28.lt
    have e26':W.heap.size≤p26:=by omega
    have sW:=gW.size
    have Kb31:=Kb.Ai g31
    obtain⟨O1,N1,bf1,be1,O1',M1,br1,bE1,eN,eM,eZ,B1⟩:=hBo.Ai g31
    rw[←eN,←eM]
    refine law26_does.n B1 hcg (fun hn a ha hq=>by have:=hZ _ ((eZ _).2 hq);have:=crow.fresh hn ha;have:=u1.size;omega) fun w34 Z34 hBo34 X34=>Jl rfl ?_
    have k34:=k31.upd X34.u fun hq=>by have:=lZ _ ((eZ _).2 hq);omega
    have Kb34:=Kb31.upd X34.u fun z hz hq=>(yl z hz).2 ((eZ _).2 hq)
    have G34:Af w2 w34:=Am.trans (gW.trans g31) X34.u fun z hz hq=>by have:=hZ _ ((eZ _).2 hq);omega
    have hZ34: ∀z,Z34 z→w2.heap.size≤z:=fun z hz=>(X34.sub z hz).elim (fun q=>hZ z ((eZ z).2 q)) fun q=>by have:=(gW.trans g31).size;omega
    have nx:wrap .i64 ((i:Int)+1)=((i+1:Nat):Int):=by rw[Ah (by unfold I64;omega)];rfl
    have ms:(101-wrap .i64 ((i:Int)+1)).toNat<(101-(i:Int)).toNat:=by rw[nx];omega
    refine k34.c0 (c:=KI) (x:=c.kd) rfl (Yl (fun ck=>?_) fun ck=>?_)
    · have ck:c.kd=0:=ck
      have est:stepD d c bs=d.turn c.raw:=by unfold stepD;rw[if_pos ck]
      refine k34.c1 3 (c:=.i .u32) (x:=c.raw) rfl (Ji.cl Kb34 craw.1 craw.2 fun w38 Ob38 Kb38 X38=>?_)
      have hBo38:=hBo34.far X38.u (fun z _ hz=>hz) (fun z hz=>X38.sub z hz) Kb38.lt
      have hb: ∀z,NO Nb Ob38 z→w2.heap.size≤z:=fun z hz=>(X38.sub z hz).elim (hZb z) fun q=>Nat.le_trans G34.size q
      refine⟨⟨i+1,by omega,by rw[nx],Am.trans G34 X38.u (fun z hz hq=>by have:=hZb z hq;omega),Z34,_,Ob38,bfb,beb,_,hBo38,Kb38,Gb.turn craw.1 craw.2,Fb.turn _,?_,?_,?_,hZ34,hb⟩,ms⟩
      · rw[est,turn_sb,turn_sb]
        unfold Nd.sb at hsb
        injection hsb with q1 q2
        injection q2 with q2 q3
        rw[q1,q2,q3]
      · rw[est];exact ds
      · rw[est];exact dlp
    · have ck:c.kd≠0:=ck
      have est:=stepD_sb d c bs ck
      have q1:(stepD d c bs).s=d.s:=congrArg (fun x=>x.1) est
      have q2:(stepD d c bs).lp=d.lp:=congrArg (fun x=>x.2.1) est
      exact⟨⟨i+1,by omega,by rw[nx],G34,Z34,_,Ob,bfb,beb,_,hBo34,Kb34,Gb,Fb,hsb.trans est.symm,q1.trans ds,q2.trans dlp,hZ34,hZb⟩,ms⟩
  obtain⟨O1,N1,bf1,be1,O1',M1,br1,bE1,eN,eM,eZ,B1⟩:=hBo
  rw[←eN,←eM]
  refine Ji.cl B1.nw r0 r1 fun w40 O40 H40 X40=>?_
  obtain⟨rn40,yn40⟩:=B1.rn.prog B1.yn H40 X40
  have Kb40:=Kb.upd X40.u fun z hz hq=>B1.yn z hz hq
  refine Ji.cl Kb40 r0 r1 fun w42 Ob42 Kb42 X42=>?_
  have H42:=H40.upd X42.u fun z hz hq=>yn40 z hq hz
  have l40:=H40.lt
  have lb40:=Kb40.lt
  have yn42: ∀z,NO Nb Ob42 z→ ¬NO N1 O40 z:=fun z hz hn=>(X42.sub z hz).elim (fun q=>yn40 z q hn) fun q=>by have:=l40 z hn;omega
  have rn42:RN w42 O1' M1 br1 bE1 (fun z=>NO N1 O40 z∨NO Nb Ob42 z) d:=rn40.far X42.u (fun z _ hz=>.inr hz) (fun z hz=>hz.elim (fun q=>.inl (.inl q)) fun q=>(X42.sub z q).elim (fun q=>.inl (.inr q)) .inr) fun z hz=>hz.elim (H42.lt z) (Kb42.lt z)
  refine Gz.n rn42 B1.g B1.f r0 r1 fun w44 O44 M44 br44 bE44 e44 R44 X44=>?_
  have xl42:=rn42.xl
  have Kb44:=Kb42.upd X44.u fun z hz hq=>(xl42 z (.inr hz)).2 hq
  have H44:=H42.upd X44.u fun z hz hq=>(xl42 z (.inl hz)).2 hq
  obtain⟨dd,edd⟩: ∃dd,dd=d.turn raw:=⟨_,rfl⟩
  have ebb:db.turn raw=dd:=by rw[edd];exact turn_of B1.g B1.f Gb Fb hsb raw
  rw[←edd] at H44 R44
  rw[ebb] at Kb44
  have Gd:Xn dd:=by rw[edd];exact B1.g.turn r0 r1
  have Fd:Y8 dd:=by rw[edd];exact B1.f.turn raw
  have Sd:Yu dd:=by rw[edd];exact Yu.turn d raw
  have B44:Bp w44 O40 N1 bf1 be1 O44 M44 br44 bE44 (NO Nb Ob42) dd:=⟨H44,R44,yn42,Gd,Fd,Sd⟩
  have m1: ∀z,NO N O z∨True:=fun _=>.inr trivial
  have sz42: ∀z,NO Nb Ob42 z→w2.heap.size≤z:=fun z hz=>(X42.sub z hz).elim (hZb z) fun q=>Nat.le_trans gW.size (Nat.le_trans X40.u.size q)
  have sz40: ∀z,NO N1 O40 z→w2.heap.size≤z:=fun z hz=>(X40.sub z hz).elim (fun q=>hZ z ((eZ z).2 (.inl q))) fun q=>Nat.le_trans gW.size q
  have sz44: ∀z,MO M44 O44 z→w2.heap.size≤z:=fun z hz=>(X44.sub z hz).elim (fun q=>hZ z ((eZ z).2 (.inr q))) fun q=>Nat.le_trans gW.size (Nat.le_trans X40.u.size (Nat.le_trans X42.u.size q))
  have gr0:Af w2 w40:=Am.trans gW X40.u fun z hz hq=>by have:=hZ z ((eZ z).2 (.inl hq));omega
  have gr1:Af w2 w42:=Am.trans gr0 X42.u fun z hz hq=>by have:=hZb z hq;omega
  have G44:Af w2 w44:=Am.trans gr1 X44.u fun z hz hq=>by have:=hZ z ((eZ z).2 (.inr hq));omega
  have lt44:=B44.lt
  have ltb44:=Kb44.lt
  refine(k1.Ai G44).cA (cs:=KSt) (stT s) rfl (Ut.n (s:=s) (lp:=none) hg (X:=fun z=>NO Nb Ob42 z∨BZ N1 O40 M44 O44 z) (fun z hz=>hz.elim (ltb44 z) (lt44 z)) fun w47 O47 M47 br47 bE47 R47 hM47 u47=>?_)
  rw[←e44,Ac]
  refine(R44.Ai u47).n0 12 (c:=KU) (x:=dd.boot) (fun _ _=>rfl) ?_
  rw[Ac]
  obtain⟨sW,sJ,hb,hW,hJ⟩:=R47.ex
  refine hb.sN 12 [_] (by rw[S9];show 13≤22;decide) rfl fun w51 k51 u51=>?_
  have q47: ∀z,z<w47.heap.size→z=M47 0→MX M47 O47 (fun z=>NO Nb Ob42 z∨BZ N1 O40 M44 O44 z) z:=fun z _ e=>by rw[e];exact .inl (Xx M47 O47 0)
  have R51:=R47.set0 (jobs:=[]) (on:=false) (boot:=wrap .u16 (dd.boot-1)) k51 (hW.upd u51 q47 fun _ _ x=>x) (hJ.upd u51 q47 fun _ _ x=>x) u51
  have g0:=Xn.nd0 hg none
  have f0:=Y8.nd0 s none
  have G51:Xn {Ajf s none false 0 0 with jobs:=[],on:=false,boot:=wrap .u16 (dd.boot-1)}:=⟨g0.s,g0.now,g0.pr,g0.me,g0.lim,g0.bk,g0.fme⟩
  have F51:Y8 {Ajf s none false 0 0 with jobs:=[],on:=false,boot:=wrap .u16 (dd.boot-1)}:=⟨f0.f,f0.e⟩
  refine Gz.n R51 G51 F51 r0 r1 fun w53 O53 M53 br53 bE53 e53 R53 X53=>?_
  have e2:Nd.turn {Ajf s none false 0 0 with jobs:=[],on:=false,boot:=wrap .u16 (dd.boot-1)} raw=dd:=by
    rw[Ann G51 F51,edd,Ann B1.g B1.f,ds,dlp]
    show Ajf s none true (wrap .u16 (wrap .u16 (wrap .u16 (d.boot+1)-1)+1)) raw=_
    rw[w16_back]
  rw[e2] at R53
  have U53:Am (MO M47 O47) w44 w53:=Am.trans (Am.trans (u47.mono fun _ x=>x.elim) u51 fun z _ e=>by rw[e];exact Xx M47 O47 0) X53.u fun _ _ x=>x
  have sub53: ∀z,MO M53 O53 z→w44.heap.size≤z:=fun z hz=>(X53.sub z hz).elim (hM47 z) fun q=>Nat.le_trans (Nat.le_trans u47.size u51.size) q
  have z44:=G44.size
  have far53: ∀z,z<w44.heap.size→ ¬MO M47 O47 z:=fun z hz hq=>by have:=hM47 z hq;omega
  have lt53:=R53.lt
  have A53:Bp w53 O40 N1 bf1 be1 O44 M44 br44 bE44 (BZ Nb Ob42 M53 O53) dd:=B44.far U53 (fun z hz hq=>absurd hq (far53 z hz)) (fun z hz=>hz.elim .inl fun q=>.inr (sub53 z q)) fun z hz=>hz.elim (fun q=>Nat.lt_of_lt_of_le (ltb44 z q) U53.size) (lt53 z)
  have C53:Bp w53 Ob42 Nb bfb beb O53 M53 br53 bE53 (BZ N1 O40 M44 O44) dd:=⟨Kb44.upd U53 fun z hz hq=>far53 z (ltb44 z hz) hq,R53,fun z hz hn=>hz.elim (fun q=>yn42 z hn q) fun q=>(R44.xl z (.inr hn)).2 q,Gd,Fd,Sd⟩
  have G53:Af w2 w53:=Am.trans G44 U53 fun z hz hq=>by have:=hM47 z hq;omega
  rw[←e53]
  refine Ci.by (fun z W=> ∃i:Nat,i≤xs.length∧z=((i:Int),())∧Af w2 W∧ ∃Za Zb d,Bo W (N1 0) (M44 0) Za Zb d∧Bo W (Nb 0) (M53 0) Zb Za d∧(∀z,Za z→w2.heap.size≤z)∧ ∀z,Zb z→w2.heap.size≤z) (fun z=>(101-z.1).toNat)
    ⟨0,by omega,rfl,G53,_,_,dd,A53.bo,C53.bo,fun z hz=>hz.elim (sz40 z) (sz44 z),fun z hz=>hz.elim (sz42 z) fun q=>Nat.le_trans z44 (sub53 z q)⟩ ?_
  rintro z W ⟨i,hi,rfl,gW,Za,Zb,d,hA,hB,hZa,hZb⟩ _
  refine Dx (fun c=>?_) fun c=>?_
  · have hil:i<xs.length:=by have c:(i:Int)<(t.2.1:Int):=c;omega
    have hx:xs[i]? =some xs[i]:=List.getElem?_eq_getElem hil
    obtain⟨c,bs,ec,craw,crow,ccap,cbyt⟩:=hX _ (List.getElem_mem hil)
    rw[ec] at hx
    have gwW:=u1.trans gW
    have TW:=hT.Ai gwW
    refine TW.ix (by decide) (z:=(i:Int)) rfl hx fun a ha=>TW.A8 ha hx ?_
    refine Ad fun p59 w60 e59 k59 u60=>k59.Fg (encs KCl (cT c)) rfl rfl fun w61 k61 u61=>k61.cA (cs:=KCl) (cT c) rfl ?_
    have g61:Af W w61:=Af.fresh (Af.refl _) u60 u61 e59
    refine law26_great.cl (c:=c) fun kJ u64=>?_
    have g64:=g61.trans u64
    refine bM (fun q=>holds (gwW.trans g64) rfl) fun q=>?_
    have q:(decide ((c.bs.2.1:Int)>200)||decide ((c.lab.size:Int)>100))=false:=q
    rw[Bool.or_eq_false_iff,decide_eq_false_iff_not,decide_eq_false_iff_not] at q
    have crl:=crow.len'
    have hcg:CG kJ c bs:=⟨craw,Row.Ai crow (gwW.trans g64),ccap,cbyt,by omega,by omega⟩
    have k64:=k61.Ai u64
    refine k64.cA (cs:=KCl) (cT c) rfl ?_
    have lA:=hA.lt
    have lB:=hB.lt
    have yA:=hA.yl
    have l59:=k61.lt
    have e59':W.heap.size≤p59:=by omega
    have sW:=gW.size
    have hB64:=hB.Ai g64
    obtain⟨O1,N1,bf1,be1,O1',M1,br1,bE1,eN,eM,eZ,B1⟩:=hA.Ai g64
    rw[←eN,←eM]
    have cf: ∀{Q:NP},(∀z,Q z→w2.heap.size≤z)→bs≠[]→ ∀a,c.bs.1=some a→ ¬Q a.block:=fun hQ hn a ha hq=>by have:=hQ _ hq;have:=crow.fresh hn ha;have:=u1.size;omega
    refine law26_does.n B1 hcg (cf fun z hz=>hZa z ((eZ z).2 hz)) fun w67 Z67 hA67 X67=>Jl rfl ?_
    have k67:=k64.upd X67.u fun hq=>by have:=lA _ ((eZ _).2 hq);omega
    have hB67:=hB64.far X67.u (fun z _ hz=>(eZ z).2 hz) (fun z hz=>(X67.sub z hz).elim (fun q=>.inl ((eZ z).2 q)) .inr) hA67.lt
    have G67:Af w2 w67:=Am.trans (gW.trans g64) X67.u fun z hz hq=>by have:=hZa _ ((eZ _).2 hq);omega
    have hZ67: ∀z,Z67 z→w2.heap.size≤z:=fun z hz=>(X67.sub z hz).elim (fun q=>hZa z ((eZ z).2 q)) fun q=>by have:=(gW.trans g64).size;omega
    have cr67:Ur w67 c.bs bs:=Ur.Apx hcg.row X67.u fun hn a ha hq=>cf (Q:=BZ N1 O1 M1 O1') (fun z hz=>hZa z ((eZ z).2 hz)) hn a ha hq
    have hcg67:CG w67 c bs:=⟨craw,cr67,ccap,cbyt,by omega,by omega⟩
    refine k67.cA (cs:=KCl) (cT c) rfl ?_
    obtain⟨O2,N2,bf2,be2,O2',M2,br2,bE2,eN2,eM2,eZ2,B2⟩:=hB67
    rw[←eN2,←eM2]
    refine law26_does.n B2 hcg67 (cf fun z hz=>hZb z ((eZ2 z).2 hz)) fun w70 Z70 hB70 X70=>Jl rfl ?_
    have hA70:=hA67.far X70.u (fun z _ hz=>(eZ2 z).2 hz) (fun z hz=>(X70.sub z hz).elim (fun q=>.inl ((eZ2 z).2 q)) .inr) hB70.lt
    have G70:Af w2 w70:=Am.trans G67 X70.u fun z hz hq=>by have:=hZb _ ((eZ2 _).2 hq);omega
    have hZ70: ∀z,Z70 z→w2.heap.size≤z:=fun z hz=>(X70.sub z hz).elim (fun q=>hZb z ((eZ2 z).2 q)) fun q=>by have:=G67.size;omega
    generalize stepD d c bs=d' at*
    rw[eN,eM] at hA70
    rw[eN2,eM2] at hB70
    obtain⟨O3,N3,bf3,be3,O3',M3,br3,bE3,eN3,eM3,eZ3,A3⟩:=hA70
    obtain⟨O4,N4,bf4,be4,O4',M4,br4,bE4,eN4,eM4,eZ4,B4⟩:=hB70
    have hA70:Bo w70 (N3 0) (M3 0) Z67 Z70 d':=⟨O3,N3,bf3,be3,O3',M3,br3,bE3,rfl,rfl,eZ3,A3⟩
    have hB70:Bo w70 (N4 0) (M4 0) Z70 Z67 d':=⟨O4,N4,bf4,be4,O4',M4,br4,bE4,rfl,rfl,eZ4,B4⟩
    rw[eN,eN2,←eN3,←eN4]
    refine Cb.n A3.nw fun w72 u72=>Cb.n (B4.nw.Ai u72) fun w74 u74=>Jl (by show(!_)=false;rw[Afw];rfl) ?_
    have g74:=u72.trans u74
    refine Iy.n (A3.nw.Ai g74) A3.g.s fun w76 u76=>Iy.n (B4.nw.Ai (g74.trans u76)) A3.g.s fun w78 u78=>Jl (by show(!_)=false;rw[beq_self_eq_true];rfl) ?_
    have g78:=(g74.trans u76).trans u78
    refine D6.n (A3.nw.Ai g78) fun w80 u80=>Ad fun p81 w82 e81 k81 u82=>k81.Fg (encs K5 (Yc d'.time.1)) rfl rfl fun w83 k83 u83=>?_
    have g83:=g78.trans (Af.fresh u80 u82 u83 e81)
    refine D6.n (B4.nw.Ai g83) fun w85 u85=>Ad fun p86 w87 e86 k86 u87=>k86.Fg (encs K5 (Yc d'.time.1)) rfl rfl fun w88 k88 u88=>?_
    have f88:=Af.fresh u85 u87 u88 e86
    have g88:=g83.trans f88
    refine(k83.Ai f88).cA (cs:=K5) (Yc d'.time.1) rfl (k88.cA (cs:=K5) (Yc d'.time.1) rfl (Jl (by show(!_)=false;rw[t5_eq];rfl) (Jl (by show(d'.time.2 !=d'.time.2)=false;rw[bne_self_eq_false]) ?_)))
    have nx:wrap .i64 ((i:Int)+1)=((i+1:Nat):Int):=by rw[Ah (by unfold I64;omega)];rfl
    have ms:(101-wrap .i64 ((i:Int)+1)).toNat<(101-(i:Int)).toNat:=by rw[nx];omega
    have hA88:=hA70.Ai g88
    have hB88:=hB70.Ai g88
    rw[eM3,←eM] at hA88
    rw[eM4,←eM2] at hB88
    exact⟨⟨i+1,by omega,by rw[nx],G70.trans g88,Z67,Z70,d',hA88,hB88,hZ67,hZ70⟩,ms⟩
  obtain⟨O3,N3,bf3,be3,O3',M3,br3,bE3,eN3,eM3,eZ3,A3⟩:=hA
  obtain⟨O4,N4,bf4,be4,O4',M4,br4,bE4,eN4,eM4,eZ4,B4⟩:=hB
  rw[←eN3,←eN4]
  refine Cb.n A3.nw fun w72 u72=>Cb.n (B4.nw.Ai u72) fun w74 u74=>holds (((u1.trans gW).trans u72).trans u74) ?_
  exact Afw _
theorem law26_NodeLives.fin{cs:List Value}{t0 t:Sl}{raw:Int}{w:World}(h:zL w shS cs)(hT0:zL w (.sl 20 Amb) [bP t0])(hT:zL w (.sl 20 Amb) [bP t])(hr:(Lit.int .u32 raw).wf=true):Ae prog F.law26_NodeLives [.agg cs.toArray,.slice t0.1 t0.2.1 t0.2.2,.slice t.1 t.2.1 t.2.2,.int .u32 raw] w false Wh (Holds w):=by
  obtain⟨s,rfl⟩:=Agw h
  obtain⟨ys,h1,h2⟩:=Aae hT0
  obtain⟨xs,h3,h4⟩:=Aae hT
  obtain⟨r0,r1⟩:=Aml hr
  exact law26_NodeLives.cl h1 h2 h3 h4 r0 r1
end Go.Proofs.YtnjmfbjgcfnanaaGreat
