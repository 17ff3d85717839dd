import Derived.Test.YtnjmfbjgcfnanaaGreatRdB
namespace Go.Proofs.YtnjmfbjgcfnanaaGreat
open Go Go.Eng Tryz
open Go.IntKind (wrap)
set_option linter.unusedSimpArgs false
set_option linter.unusedVariables false
set_option maxRecDepth 100000
set_option maxHeartbeats 8000000
abbrev sV:List CK:=[KI,KI,KI,KI,KU,KI]
abbrev KJb:List CK:=[KI,KI,KI,KI,KI,KI,KU,KI]
def xI(e:Ev):Jf sV:=(e.loc,e.a.1,e.a.2.1,e.a.2.2.1,e.a.2.2.2.1,e.a.2.2.2.2,())
def jT:Jb→Jf KJb
  | .find=>(1,0,0,0,0,0,0,0,())
  | .tie=>(2,0,0,0,0,0,0,0,())
  | .reply to sent got=>(3,to,sent,got.1,got.2.1,got.2.2.1,got.2.2.2.1,got.2.2.2.2,())
abbrev vJ(j:Jb):Value:=.agg #[iV (jT j).1,iV (jT j).2.1,iV (jT j).2.2.1,iV (jT j).2.2.2.1,iV (jT j).2.2.2.2.1,iV (jT j).2.2.2.2.2.1,uV (jT j).2.2.2.2.2.2.1,iV (jT j).2.2.2.2.2.2.2.1]
def MO(M:NB)(O:NP)(z:Nat):Prop:=(∃i,i<7∧M i=z)∨O z
def rnC(M:NB)(br:Nat)(d:Nd)(sW sJ:Sl):List Value:=kD d.s++[.bool d.on,uV d.boot,pB (M 1),pB br,pB (M 2),pB (M 3),pB (M 4),pB (M 5),pB (M 6),bP sW,bP sJ]
theorem S9(M:NB)(br:Nat)(d:Nd)(sW sJ:Sl):(rnC M br d sW sJ).length=22:=rfl
def MX(M:NB)(O X:NP)(z:Nat):Prop:=MO M O z∨X z
structure RN(w:World)(O:NP)(M:NB)(br bE:Nat)(X:NP)(d:Nd):Prop where
  ex: ∃sW sJ:Sl,Az w (M 0) (rnC M br d sW sJ)∧DQ w (MX M O X) sW sV (d.evs.map xI)∧DQ w (MX M O X) sJ KJb (d.jobs.map jT)
  cb:Az w (M 1) (rcC d.s.drift d.now)
  fw:RW w O br bE d.f d.e d.l d.es
  lb:Az w (M 2) (yJ d.s.me d.lev d.par)
  pb:Az w (M 3) (gG d.pr)
  sb: ∃r:So,SoR d.so r∧Az w (M 4) (fA r)
  kb:Az w (M 5) (encs Uo (bkP d.bh d.ba))
  gb:LgD w (MX M O X) (M 6) d.evs d.last
  bz:d.bh=false→d.ba=a60
  inj: ∀i j,i<7→j<7→M i=M j→i=j
  fo: ∀i,i<7→ ¬O (M i)
  xl: ∀z,X z→z<w.heap.size∧ ¬MO M O z
theorem RN.ne{w:World}{O X:NP}{M:NB}{br bE:Nat}{d:Nd}(h:RN w O M br bE X d)(i j:Nat)(hi:i<7:=by decide)(hj:j<7:=by decide)(hij:i≠j:=by decide):M i≠M j:=fun e=>hij (h.inj i j hi hj e)
theorem RN.upd{S O X:NP}{w w':World}{M:NB}{br bE:Nat}{d:Nd}(h:RN w O M br bE X d)(u:Am S w w')(hS: ∀z,z<w.heap.size→ ¬S z):RN w' O M br bE X d:=by
  obtain⟨⟨sW,sJ,h0,hW,hJ⟩,cb,fw,lb,pb,⟨r,hr,sb⟩,kb,gb,bz,inj,fo,xl⟩:=h
  have n: ∀z,z<w.heap.size→S z→MX M O X z:=fun z hz hs=>absurd hs (hS z hz)
  have xl': ∀z,X z→z<w'.heap.size∧ ¬MO M O z:=fun z hz=>⟨Nat.lt_of_lt_of_le (xl z hz).1 u.size,(xl z hz).2⟩
  exact⟨⟨sW,sJ,h0.upd u (hS _ h0.lt),hW.upd u n fun _ _ x=>x,hJ.upd u n fun _ _ x=>x⟩,cb.upd u (hS _ cb.lt),fw.upd u fun z hz=>hS z (fw.lt z hz),lb.upd u (hS _ lb.lt),pb.upd u (hS _ pb.lt),⟨r,hr,sb.upd u (hS _ sb.lt)⟩,kb.upd u (hS _ kb.lt),gb.upd u (hS _ (by obtain⟨_,_,q,_⟩:=gb.ex;exact q.lt)) n fun _ _ x=>x,bz,inj,fo,xl'⟩
theorem RN.Ai{O X:NP}{w w':World}{M:NB}{br bE:Nat}{d:Nd}(h:RN w O M br bE X d)(u:Af w w'):RN w' O M br bE X d:=h.upd u fun _ _ x=>x
theorem RN.drew{O X:NP}{w:World}{M:NB}{br bE:Nat}{d:Nd}(h:RN w O M br bE X d):RN w.drew O M br bE X d:=h.Ai (Af.drew w)
theorem RN.lt{O X:NP}{w:World}{M:NB}{br bE:Nat}{d:Nd}(h:RN w O M br bE X d): ∀z,MO M O z→z<w.heap.size:=by
  obtain⟨⟨sW,sJ,h0,hW,hJ⟩,cb,fw,lb,pb,⟨r,hr,sb⟩,kb,gb,bz,inj,fo,xl⟩:=h
  obtain⟨_,_,q,_⟩:=gb.ex
  rintro z (⟨i,hi,rfl⟩|hz)
  · have:i=0∨i=1∨i=2∨i=3∨i=4∨i=5∨i=6:=by omega
    rcases this with rfl|rfl|rfl|rfl|rfl|rfl|rfl
    · exact h0.lt
    · exact cb.lt
    · exact lb.lt
    · exact pb.lt
    · exact sb.lt
    · exact kb.lt
    · exact q.lt
  · exact fw.lt z hz
theorem Xx(M:NB)(O:NP)(i:Nat)(hi:i<7:=by decide):MO M O (M i):=.inl ⟨i,hi,rfl⟩
structure RNp(w w':World)(O:NP)(M:NB)(br bE:Nat)(X:NP)(d:Nd)(i:Nat):Prop where
  blk: ∀j,j<7→j≠i→ ∀cs,Az w (M j) cs→Az w' (M j) cs
  fw:RW w' O br bE d.f d.e d.l d.es
  dq: ∀{s:Sl} {cs:List CK} {xs:List (Jf cs)},DQ w (MX M O X) s cs xs→DQ w' (MX M O X) s cs xs
  xl: ∀z,X z→z<w'.heap.size∧ ¬MO M O z
  lg:i≠6→LgD w' (MX M O X) (M 6) d.evs d.last
theorem RN.keep{w w':World}{O X:NP}{M:NB}{br bE:Nat}{d:Nd}(h:RN w O M br bE X d)(i:Nat)(hi:i<7)(u:Am (fun z=>z=M i) w w'):RNp w w' O M br bE X d i:=
  have n: ∀z,z<w.heap.size→z=M i→MX M O X z:=fun z _ e=>by rw[e];exact .inl (.inl ⟨i,hi,rfl⟩)
  ⟨fun j hj hij cs k=>k.upd u fun e=>hij (h.inj j i hj hi e),h.fw.upd u fun z hz e=>h.fo i hi (e▸hz),fun hd=>hd.upd u n fun _ _ x=>x,(fun z hz=>⟨Nat.lt_of_lt_of_le (h.xl z hz).1 u.size,(h.xl z hz).2⟩),fun hi6=>h.gb.upd u (fun e=>hi6 (h.inj 6 i (by decide) hi e).symm) n fun _ _ x=>x⟩
theorem RN.set1{w w':World}{O X:NP}{M:NB}{br bE:Nat}{d:Nd}(h:RN w O M br bE X d){now:Int}(k:Az w' (M 1) (rcC d.s.drift now))(u:Am (fun z=>z=M 1) w w'):RN w' O M br bE X {d with now:=now}:=by
  have K:=h.keep 1 (by decide) u
  obtain⟨⟨sW,sJ,h0,hW,hJ⟩,cb,fw,lb,pb,⟨r,hr,sb⟩,kb,gb,bz,inj,fo,xl⟩:=h
  exact⟨⟨sW,sJ,K.blk 0 (by decide) (by decide) _ h0,K.dq hW,K.dq hJ⟩,k,K.fw,K.blk 2 (by decide) (by decide) _ lb,K.blk 3 (by decide) (by decide) _ pb,⟨r,hr,K.blk 4 (by decide) (by decide) _ sb⟩,K.blk 5 (by decide) (by decide) _ kb,K.lg (by decide),bz,inj,fo,K.xl⟩
theorem RN.set2{w w':World}{O X:NP}{M:NB}{br bE:Nat}{d:Nd}(h:RN w O M br bE X d){lev par:Int}(k:Az w' (M 2) (yJ d.s.me lev par))(u:Am (fun z=>z=M 2) w w'):RN w' O M br bE X {d with lev:=lev,par:=par}:=by
  have K:=h.keep 2 (by decide) u
  obtain⟨⟨sW,sJ,h0,hW,hJ⟩,cb,fw,lb,pb,⟨r,hr,sb⟩,kb,gb,bz,inj,fo,xl⟩:=h
  exact⟨⟨sW,sJ,K.blk 0 (by decide) (by decide) _ h0,K.dq hW,K.dq hJ⟩,K.blk 1 (by decide) (by decide) _ cb,K.fw,k,K.blk 3 (by decide) (by decide) _ pb,⟨r,hr,K.blk 4 (by decide) (by decide) _ sb⟩,K.blk 5 (by decide) (by decide) _ kb,K.lg (by decide),bz,inj,fo,K.xl⟩
theorem RN.qN{w w':World}{O X:NP}{M:NB}{br bE:Nat}{d:Nd}(h:RN w O M br bE X d){pr:Pr}(k:Az w' (M 3) (gG pr))(u:Am (fun z=>z=M 3) w w'):RN w' O M br bE X {d with pr:=pr}:=by
  have K:=h.keep 3 (by decide) u
  obtain⟨⟨sW,sJ,h0,hW,hJ⟩,cb,fw,lb,pb,⟨r,hr,sb⟩,kb,gb,bz,inj,fo,xl⟩:=h
  exact⟨⟨sW,sJ,K.blk 0 (by decide) (by decide) _ h0,K.dq hW,K.dq hJ⟩,K.blk 1 (by decide) (by decide) _ cb,K.fw,K.blk 2 (by decide) (by decide) _ lb,k,⟨r,hr,K.blk 4 (by decide) (by decide) _ sb⟩,K.blk 5 (by decide) (by decide) _ kb,K.lg (by decide),bz,inj,fo,K.xl⟩
theorem RN.Ae2{w w':World}{O X:NP}{M:NB}{br bE:Nat}{d:Nd}(h:RN w O M br bE X d){so r:So}(hr:SoR so r)(k:Az w' (M 4) (fA r))(u:Am (fun z=>z=M 4) w w'):RN w' O M br bE X {d with so:=so}:=by
  have K:=h.keep 4 (by decide) u
  obtain⟨⟨sW,sJ,h0,hW,hJ⟩,cb,fw,lb,pb,_,kb,gb,bz,inj,fo,xl⟩:=h
  exact⟨⟨sW,sJ,K.blk 0 (by decide) (by decide) _ h0,K.dq hW,K.dq hJ⟩,K.blk 1 (by decide) (by decide) _ cb,K.fw,K.blk 2 (by decide) (by decide) _ lb,K.blk 3 (by decide) (by decide) _ pb,⟨r,hr,k⟩,K.blk 5 (by decide) (by decide) _ kb,K.lg (by decide),bz,inj,fo,K.xl⟩
theorem RN.Aa7{w w':World}{O X:NP}{M:NB}{br bE:Nat}{d:Nd}(h:RN w O M br bE X d){a:A6}(k:Az w' (M 5) (encs Uo (bkP true a)))(u:Am (fun z=>z=M 5) w w'):RN w' O M br bE X {d with bh:=true,ba:=a}:=by
  have K:=h.keep 5 (by decide) u
  obtain⟨⟨sW,sJ,h0,hW,hJ⟩,cb,fw,lb,pb,⟨r,hr,sb⟩,kb,gb,bz,inj,fo,xl⟩:=h
  exact⟨⟨sW,sJ,K.blk 0 (by decide) (by decide) _ h0,K.dq hW,K.dq hJ⟩,K.blk 1 (by decide) (by decide) _ cb,K.fw,K.blk 2 (by decide) (by decide) _ lb,K.blk 3 (by decide) (by decide) _ pb,⟨r,hr,K.blk 4 (by decide) (by decide) _ sb⟩,k,K.lg (by decide),(fun e=>by cases e),inj,fo,K.xl⟩
theorem RN.set0{w w':World}{O X:NP}{M:NB}{br bE:Nat}{d:Nd}(h:RN w O M br bE X d){jobs:List Jb}{on:Bool}{boot:Int}{sW sJ:Sl}(k:Az w' (M 0) (rnC M br {d with on:=on,boot:=boot} sW sJ))(hW:DQ w' (MX M O X) sW sV (d.evs.map xI))(hJ:DQ w' (MX M O X) sJ KJb (jobs.map jT))(u:Am (fun z=>z=M 0) w w'):RN w' O M br bE X {d with jobs:=jobs,on:=on,boot:=boot}:=by
  have K:=h.keep 0 (by decide) u
  obtain⟨_,cb,fw,lb,pb,⟨r,hr,sb⟩,kb,gb,bz,inj,fo,xl⟩:=h
  exact⟨⟨sW,sJ,k,hW,hJ⟩,K.blk 1 (by decide) (by decide) _ cb,K.fw,K.blk 2 (by decide) (by decide) _ lb,K.blk 3 (by decide) (by decide) _ pb,⟨r,hr,K.blk 4 (by decide) (by decide) _ sb⟩,K.blk 5 (by decide) (by decide) _ kb,K.lg (by decide),bz,inj,fo,K.xl⟩
theorem RN.Aeo{w w':World}{O O' X:NP}{M:NB}{br bE:Nat}{d:Nd}(h:RN w O M br bE X d){f:Fl}{e:El}{l:Um}{es:List E3}(k:RW w' O' br bE f e l es)(x:Nx O w O' w'):RN w' O' M br bE X {d with f:=f,e:=e,l:=l,es:=es}:=by
  obtain⟨⟨sW,sJ,h0,hW,hJ⟩,cb,fw,lb,pb,⟨r,hr,sb⟩,kb,gb,bz,inj,fo,xl⟩:=h
  have n: ∀z,z<w.heap.size→O z→MX M O X z:=fun z _ e=>.inl (.inr e)
  have n0: ∀z,z<w.heap.size→MO M O' z→MO M O z:=fun z hz e=>by
    rcases e with e|e
    · exact .inl e
    · rcases x.sub z e with q|q
      · exact .inr q
      · omega
  have n': ∀z,z<w.heap.size→MX M O' X z→MX M O X z:=fun z hz e=>e.elim (fun e=>.inl (n0 z hz e)) .inr
  obtain⟨_,_,q,_⟩:=gb.ex
  have ml: ∀i,i<7→M i<w.heap.size:=fun i hi=>by
    have:i=0∨i=1∨i=2∨i=3∨i=4∨i=5∨i=6:=by omega
    rcases this with rfl|rfl|rfl|rfl|rfl|rfl|rfl
    · exact h0.lt
    · exact cb.lt
    · exact lb.lt
    · exact pb.lt
    · exact sb.lt
    · exact kb.lt
    · exact q.lt
  exact⟨⟨sW,sJ,h0.upd x.u (fo 0 (by decide)),hW.upd x.u n n',hJ.upd x.u n n'⟩,cb.upd x.u (fo 1 (by decide)),k,lb.upd x.u (fo 2 (by decide)),pb.upd x.u (fo 3 (by decide)),⟨r,hr,sb.upd x.u (fo 4 (by decide))⟩,kb.upd x.u (fo 5 (by decide)),gb.upd x.u (fo 6 (by decide)) n n',bz,inj,fun i hi e=>by
    rcases x.sub _ e with q|q
    · exact fo i hi q
    · have:=ml i hi;omega,fun z hz=>⟨Nat.lt_of_lt_of_le (xl z hz).1 x.u.size,fun e=>(xl z hz).2 (n0 z (xl z hz).1 e)⟩⟩
theorem RN.nx{w w':World}{O:NP}{M:NB}(i:Nat)(hi:i<7)(u:Am (fun z=>z=M i) w w'):Nx (MO M O) w (MO M O) w':=⟨u.mono fun z hz=>.inl ⟨i,hi,hz.symm⟩,fun z hz=>.inl hz⟩
theorem RN.nxF{w w':World}{O O':NP}{M:NB}(x:Nx O w O' w'):Nx (MO M O) w (MO M O') w':=
  ⟨x.u.mono fun z hz=>.inr hz,fun z hz=>by
    rcases hz with hz|hz
    · exact .inl (.inl hz)
    · rcases x.sub z hz with q|q
      · exact .inl (.inr q)
      · exact .inr q⟩
theorem RN.n0{w:World}{O X:NP}{M:NB}{br bE:Nat}{d:Nd}(h:RN w O M br bE X d){c:CK}(o:Nat){x:Tv c}(e: ∀sW sJ,(rnC M br d sW sJ)[o]? =some (enc c x)){k:Tv c→Prop}(hk:k x):ld1 c (Addr.add ⟨M 0,0,none⟩ o) w k:=by
  obtain⟨sW,sJ,h0,_⟩:=h.ex
  exact h0.c1 o (e sW sJ) hk
theorem RN.me{w:World}{O X:NP}{M:NB}{br bE:Nat}{d:Nd}(h:RN w O M br bE X d){k:Int→Prop}(hk:k d.s.me):ld1 KI ⟨M 0,0,none⟩ w k:=by
  obtain⟨sW,sJ,h0,_⟩:=h.ex
  exact h0.c0 (c:=KI) (x:=d.s.me) rfl hk
theorem RN.xlt{O X:NP}{w:World}{M:NB}{br bE:Nat}{d:Nd}(h:RN w O M br bE X d): ∀z,MX M O X z→z<w.heap.size:=fun z hz=>hz.elim (h.lt z) fun e=>(h.xl z e).1
theorem RN.far{S O X X':NP}{w w':World}{M:NB}{br bE:Nat}{d:Nd}(h:RN w O M br bE X d)(u:Am S w w')(hS: ∀z,z<w.heap.size→S z→X z)(hX: ∀z,X' z→X z∨w.heap.size≤z)(hl: ∀z,X' z→z<w'.heap.size):RN w' O M br bE X' d:=by
  have ml:=h.lt
  obtain⟨⟨sW,sJ,h0,hW,hJ⟩,cb,fw,lb,pb,⟨r,hr,sb⟩,kb,gb,bz,inj,fo,xl⟩:=h
  have no: ∀z,z<w.heap.size→MO M O z→ ¬S z:=fun z hz hm hs=>(xl z (hS z hz hs)).2 hm
  have n: ∀z,z<w.heap.size→S z→MX M O X z:=fun z hz hs=>.inr (hS z hz hs)
  have n': ∀z,z<w.heap.size→MX M O X' z→MX M O X z:=fun z hz e=>e.elim .inl fun e=>(hX z e).elim .inr fun q=>by omega
  obtain⟨_,_,q,_⟩:=gb.ex
  exact⟨⟨sW,sJ,h0.upd u (no _ h0.lt (Xx M O 0)),hW.upd u n n',hJ.upd u n n'⟩,cb.upd u (no _ cb.lt (Xx M O 1)),fw.upd u fun z hz=>no z (fw.lt z hz) (.inr hz),lb.upd u (no _ lb.lt (Xx M O 2)),pb.upd u (no _ pb.lt (Xx M O 3)),⟨r,hr,sb.upd u (no _ sb.lt (Xx M O 4))⟩,kb.upd u (no _ kb.lt (Xx M O 5)),gb.upd u (no _ q.lt (Xx M O 6)) n n',bz,inj,fo,fun z hz=>⟨hl z hz,fun e=>(hX z hz).elim (fun q=>(xl z q).2 e) fun q=>by have:=ml z e;omega⟩⟩
theorem qR{s r:So}(h:SoR s r)(f:Fl)(e:El)(l:Um)(es:List E3)(t:Int):qL r f e l es t=qL s f e l es t:=by
  unfold qL
  split
  · rfl
  · exact h.time t
theorem Ht.n{w:World}{O X:NP}{M:NB}{br bE:Nat}{d:Nd}{j:Int}(h:RN w O M br bE X d)(hG:Xn d){k:TR Aei→WP}
    (hk:k (((d.Yf j).1,()),((d.Yf j).2,()),()) w):Ae prog F.Ht [pB (M 0),iV j] w true Aei k:=by
  refine Ht.ok ?_
  unfold Ht.wp
  obtain⟨m0,m1,gf,gp,l1,l2,j1,j2⟩:=Uj.1 hG.s
  have hn:=hG.now
  unfold Nd.Yf at hk
  rw[Ac]
  refine h.n0 11 (c:=.b) (x:=d.on) (fun _ _=>rfl) (Ee (fun c=>?_) fun c=>?_)
  · have c:d.on=false:=c
    rw[if_pos c] at hk;exact hk
  have c: ¬d.on=false:=by have c:d.on=true:=c;rw[c];decide
  rw[if_neg c] at hk
  rw[Ac]
  refine h.n0 9 (c:=KI) (x:=d.s.jit) (fun _ _=>rfl) ?_
  rw[Ah (n:=0-d.s.jit) (by unfold I64;omega)]
  refine Dx (fun c=>?_) fun c1=>?_
  · have c:j<0-d.s.jit:=c
    rw[if_pos (.inl (by omega))] at hk;exact hk
  have c1: ¬j<0-d.s.jit:=c1
  rw[Ac]
  refine h.n0 9 (c:=KI) (x:=d.s.jit) (fun _ _=>rfl) (Dx (fun c=>?_) fun c2=>?_)
  · have c:j>d.s.jit:=c
    rw[if_pos (.inr c)] at hk;exact hk
  have c2: ¬j>d.s.jit:=c2
  rw[if_neg (by omega)] at hk
  rw[Ac]
  refine h.n0 13 (c:=.p) (x:=some ⟨M 1,0,none⟩) (fun _ _=>rfl) ?_
  rw[Ac]
  refine h.cb.c1 1 (c:=KI) (x:=d.now) rfl ?_
  dsimp only
  rw[Ah (n:=d.now+j) (by unfold I64;omega)]
  have e:(if(1125899906842624:Int)<(if 0>d.now+j then 0 else d.now+j) then 1125899906842624 else(if 0>d.now+j then 0 else d.now+j))=clamp (d.now+j) 0 1125899906842624:=by unfold clamp;split<;>split<;>omega
  rw[e];exact hk
theorem Iz.n{w:World}{O X:NP}{M:NB}{br bE:Nat}{d:Nd}(h:RN w O M br bE X d){k:TR [(true,K5),(false,[KI])]→WP}
    (hk: ∀w',Af w w'→k (Yc d.time.1,(d.time.2,()),()) w'):Ae prog F.Iz [pB (M 0)] w true [(true,K5),(false,[KI])] k:=by
  refine Iz.ok ?_
  unfold Iz.wp
  unfold Nd.time at hk
  refine Ad fun p1 w2 e1 k1 u1=>?_
  rw[Ac]
  have H2:=h.Ai u1
  refine H2.n0 11 (c:=.b) (x:=d.on) (fun _ _=>rfl) (Ee (fun c=>?_) fun c=>?_)
  · have c:d.on=false:=c
    rw[if_pos c] at hk
    exact k1.Fg (encs K5 (Yc (0,0,0,0,0))) rfl rfl fun w5 k5 u5=>k5.cA (cs:=K5) (Yc (0,0,0,0,0)) rfl (hk w5 (Af.fresh (Af.refl _) u1 u5 e1))
  have c: ¬d.on=false:=by have c:d.on=true:=c;rw[c];decide
  rw[if_neg c] at hk
  rw[Ap,Ac]
  have H:=H2.drew
  have K:=k1.drew
  have G:=u1.trans (Af.drew w2)
  generalize w2.drew=w7 at*
  refine H.n0 17 (c:=.p) (x:=some ⟨M 4,0,none⟩) (fun _ _=>rfl) ?_
  rw[Ac]
  refine H.n0 14 (c:=.p) (x:=some ⟨br,0,none⟩) (fun _ _=>rfl) ?_
  rw[Ac]
  refine H.n0 13 (c:=.p) (x:=some ⟨M 1,0,none⟩) (fun _ _=>rfl) ?_
  rw[Ac]
  obtain⟨r,hr,sb⟩:=H.sb
  obtain⟨sW,sJ,h0,_⟩:=H.ex
  refine H.cb.c1 1 (c:=KI) (x:=d.now) rfl (Dv.cw sb H.fw fun w17 u17=>⟨⟨h0.hold u17 (fun x=>x) 13 (by rw[S9];decide),trivial⟩,?_⟩)
  rw[qR hr]
  refine(K.Ai u17).Fg (encs K5 (Yc (d.tm d.now).1)) rfl rfl fun w18 k18 u18=>⟨trivial,k18.cA (cs:=K5) (Yc (d.tm d.now).1) rfl (hk w18 ?_)⟩
  exact Am.new (Am.Bj (G.trans u17)) u18 fun hh=>by omega
theorem Ank(l:List Jb): ∀u∈(l.map jT).flatMap (encs KJb),u.oneCell'=true:=by
  intro u hu
  simp only[List.mem_flatMap,List.mem_map] at hu
  obtain⟨x,⟨y,_,rfl⟩,hu⟩:=hu
  simp[encs,enc] at hu
  rcases hu with rfl|rfl|rfl|rfl|rfl|rfl|rfl|rfl<;>rfl
theorem Akv(j:Jb): ∀u∈encs KJb (jT j),u.oneCell'=true:=by
  intro u hu
  simp[encs,enc] at hu
  rcases hu with rfl|rfl|rfl|rfl|rfl|rfl|rfl|rfl<;>rfl
theorem Gy.n{w:World}{O X:NP}{M:NB}{br bE:Nat}{d:Nd}{j:Jb}(h:RN w O M br bE X d){k:TR Si→WP}
    (hk: ∀w',RN w' O M br bE X (d.push j).1→Nx (MO M O) w (MO M O) w'→k (((d.push j).2,()),()) w'):Ae prog F.Gy [pB (M 0),vJ j] w false Si k:=by
  refine Gy.ok ?_
  unfold Gy.wp
  refine Ad fun p1 w2 e1 k1 u1=>?_
  change Az w2 p1 (encs KJb (jT j)) at k1
  have H2:=h.Ai u1
  obtain⟨sW,sJ,h0,hW,hJ⟩:=H2.ex
  have lJ:=hJ.d.len (by decide)
  rw[List.length_map] at lJ
  rw[Ac]
  refine h0.c1 21 (c:=.sl) (x:=sJ) rfl (Dx (fun c=>?_) fun c=>?_)
  · have e:d.push j=(d,6):=by unfold Nd.push;rw[if_pos (by have c:(sJ.2.1:Int)≥8:=c;omega)]
    rw[e] at hk
    exact hk w2 H2 (Nx.of u1)
  have c: ¬d.jobs.length≥8:=by have c: ¬(sJ.2.1:Int)≥8:=c;omega
  have e:d.push j=({d with jobs:=d.jobs++[j]},0):=by unfold Nd.push;rw[if_neg c]
  rw[e] at hk
  rw[Ap,Ac]
  have H:=H2.drew
  have K:=k1.drew
  have G:=u1.trans (Af.drew w2)
  have h0:=h0.drew
  have hW:=hW.Ai (Af.drew w2)
  have hJ:=hJ.Ai (Af.drew w2)
  generalize w2.drew=w5 at*
  refine h0.c1 21 (c:=.sl) (x:=sJ) rfl (K.cA (cs:=KJb) (jT j) rfl ?_)
  refine DR.snoc (cs:=KJb) (n:=8) (x:=jT j) (xs:=d.jobs.map jT) (by kernel_rfl) (by kernel_rfl) rfl (by decide) (Ank _) (Akv _) (by rw[List.length_map];omega) hJ.d (HP:=fun W=>Hold [_,_,_,_,_,_,_,_,_] W) ?_ ?_ rfl
  · exact fun W g=>⟨K.hold g (fun x=>x) 0 (by rw[Ak];decide),K.hold g (fun x=>x) 1 (by rw[Ak];decide),K.hold g (fun x=>x) 2 (by rw[Ak];decide),K.hold g (fun x=>x) 3 (by rw[Ak];decide),K.hold g (fun x=>x) 4 (by rw[Ak];decide),K.hold g (fun x=>x) 5 (by rw[Ak];decide),K.hold g (fun x=>x) 6 (by rw[Ak];decide),K.hold g (fun x=>x) 7 (by rw[Ak];decide),h0.hold g (fun x=>x) 21 (by rw[S9];decide),trivial⟩
  · intro y W o g
    rw[Ac]
    refine(h0.Ai g).sN 21 [bP y] (by rw[S9];exact Nat.le_refl 22) rfl fun w18 k18 u18=>⟨trivial,?_⟩
    have dJ:=DQ.new o rfl H.xlt
    have q: ∀z,z<W.heap.size→z=M 0→MX M O X z:=fun z _ e=>by rw[e];exact .inl (Xx M O 0)
    refine hk w18 ((H.Ai g).set0 (on:=d.on) (boot:=d.boot) (sW:=sW) (sJ:=y) k18 ((hW.Ai g).upd u18 q fun _ _ x=>x) ?_ u18) (Nx.pre (G.trans g) (RN.nx 0 (by decide) u18))
    rw[List.map_append]
    exact dJ.upd u18 q fun _ _ x=>x
theorem Agm(j:Jb):((jT j).1=2)↔(j.Zt=true):=by cases j<;>simp[jT,Jb.Zt]
theorem Gx.n{w:World}{O X:NP}{M:NB}{br bE:Nat}{d:Nd}(h:RN w O M br bE X d)(hl:d.jobs.length≤100){k:TR Si→WP}
    (hk: ∀w',RN w' O M br bE X d.pass.1→Nx (MO M O) w (MO M O) w'→k ((d.pass.2,()),()) w'):Ae prog F.Gx [pB (M 0)] w false Si k:=by
  refine Gx.ok ?_
  unfold Gx.wp
  obtain⟨sW,sJ,h0,hW,hJ⟩:=h.ex
  have lJ:=hJ.d.len (by decide)
  rw[List.length_map] at lJ
  rw[Ac]
  refine h0.c1 21 (c:=.sl) (x:=sJ) rfl ?_
  refine Ci.by (fun z W=> ∃i:Nat,i≤d.jobs.length∧z=((i:Int),())∧(d.jobs.take i).any Jb.Zt=false∧Af w W) (fun z=>(101-z.1).toNat) ⟨0,by omega,rfl,rfl,Af.refl _⟩ ?_
  rintro z W ⟨i,hi,rfl,hno,g⟩ _
  refine Dx (fun c=>?_) fun c=>?_
  · have hil:i<d.jobs.length:=by have c:(i:Int)<(sJ.2.1:Int):=c;omega
    have hj:d.jobs[i]? =some d.jobs[i]:=List.getElem?_eq_getElem hil
    generalize d.jobs[i]=j at hj
    refine(hJ.Ai g).d.at (cs:=KJb) (by decide) rfl (z:=(i:Int)) rfl (x:=jT j) (by rw[List.getElem?_map,hj];rfl) (Ad fun p8 w9 e8 k8 u9=>k8.Fg (encs KJb (jT j)) rfl rfl fun w10 k10 u10=>k10.c0 (c:=KI) (x:=(jT j).1) rfl ?_)
    have g10:Af w w10:=Af.fresh g u9 u10 e8
    refine Yl (fun e=>?_) fun e=>⟨⟨i+1,by omega,?_,?_,g10⟩,?_⟩
    · have e:=(Agm j).1 e
      have ep:d.pass=(d,0):=by
        unfold Nd.pass
        rw[if_pos]
        rw[List.any_eq_true]
        exact⟨j,List.mem_of_getElem? hj,e⟩
      rw[ep] at hk
      exact hk w10 (h.Ai g10) (Nx.of g10)
    · show(wrap .i64 ((i:Int)+1),())=_
      rw[Ah (by unfold I64;omega)];rfl
    · have e: ¬(jT j).1=2:=e
      rw[List.take_add_one,hj,List.any_append,hno]
      have:j.Zt=false:=by cases hb:j.Zt;rfl;exact absurd ((Agm j).2 hb) e
      simp[this]
    · show(101-wrap .i64 ((i:Int)+1)).toNat<(101-(i:Int)).toNat
      rw[Ah (by unfold I64;omega)];omega
  · have hil:i=d.jobs.length:=by have c: ¬(i:Int)<(sJ.2.1:Int):=c;omega
    subst hil
    rw[List.take_length] at hno
    have ep:d.pass=d.push .tie:=by unfold Nd.pass;rw[if_neg (by rw[hno];decide)]
    rw[ep] at hk
    exact Gy.n (j:=.tie) (h.Ai g) fun w13 H13 X13=>hk w13 H13 (Nx.pre g X13)
abbrev z5:List Value:=[iV 0,iV 0,iV 0,uV 0,iV 0]
theorem RN.Alu{w8:World}{O X:NP}{M:NB}{br bE:Nat}{d:Nd}{st:Int}(H:RN w8 O M br bE X d){HP:WP}(hh: ∀W,Af w8 W→HP W){J:(Addr×Int×Unit)→WP}
    (hJ: ∀p W,w8.heap.size≤p→Az W p (encs K5 (Yc (d.tm st).1))→Af w8 W→J (⟨p,0,none⟩,(d.tm st).2,()) W):
    (Ae prog F.Dv [pB (M 4),pB br,iV st] w8 true [(true,K5),(false,[KI])] fun r13 w14=>HP w14∧(Bf z5 T.Ql w14 fun p15 w16=>HP w16∧(Au [iV r13.1.1,iV r13.1.2.1,iV r13.1.2.2.1,uV r13.1.2.2.2.1,iV r13.1.2.2.2.2.1] p15 0 w16 fun w17=>Hold [] w17∧J (p15,r13.2.1.1,()) w17)))∧
    (Bf z5 T.Ql w8 fun p18 w19=>HP w19∧(Ae prog F.Dv [pB (M 4),pB br,iV st] w19 true [(true,K5),(false,[KI])] fun r20 w21=>Hold [] w21∧(Au [iV r20.1.1,iV r20.1.2.1,iV r20.1.2.2.1,uV r20.1.2.2.2.1,iV r20.1.2.2.2.2.1] p18 0 w21 fun w22=>Hold [] w22∧J (p18,r20.2.1.1,()) w22))):=by
  obtain⟨r,hr,sb⟩:=H.sb
  refine⟨?_,?_⟩
  · refine Dv.cw sb H.fw fun w14 u14=>⟨hh _ u14,Ad fun p15 w16 e15 k15 u16=>⟨hh _ (u14.trans u16),?_⟩⟩
    rw[qR hr]
    exact k15.Fg (encs K5 (Yc (d.tm st).1)) rfl rfl fun w17 k17 u17=>⟨trivial,hJ p15 w17 (by have:=u14.size;omega) k17 (Af.fresh u14 u16 u17 e15)⟩
  · refine Ad fun p18 w19 e18 k18 u19=>⟨hh _ u19,Dv.cw (sb.Ai u19) (H.fw.Ai u19) fun w21 u21=>⟨trivial,?_⟩⟩
    rw[qR hr]
    exact(k18.Ai u21).Fg (encs K5 (Yc (d.tm st).1)) rfl rfl fun w22 k22 u22=>⟨trivial,hJ p18 w22 (by omega) k22 (Am.new (Am.Bj (u19.trans u21)) u22 fun hh=>by omega)⟩
theorem zN{d:Nd}{st:Int}(c:(d.tm st).2≠0):d.made st .find=none:=by unfold Nd.made;dsimp only;rw[if_pos c]
theorem jK{d:Nd}{st to sent:Int}{g:A5}(c:(d.tm st).2≠0∨gZ (d.tm st).1 g=false):d.made st (.reply to sent g)=none:=by unfold Nd.made;dsimp only;rw[if_pos c]
theorem Na.n{w:World}{O X:NP}{M:NB}{br bE:Nat}{d:Nd}{st:Int}{j:Jb}(h:RN w O M br bE X d){k:TR RP4→WP}
    (hk: ∀w',Af w w'→k (plO (d.made st j),()) w'):Ae prog F.Na [pB (M 0),vJ j,iV st] w false RP4 k:=by
  refine Na.ok ?_
  unfold Na.wp
  refine Ad fun p1 w2 e1 k1 u1=>Ad fun p3 w4 e3 k3 u3=>?_
  change Az w2 p1 (encs KJb (jT j)) at k1
  change Az w4 p3 (encs Uo pl0) at k3
  have q1:=k1.Ai u3
  have g4:=u1.trans u3
  have H4:=h.Ai g4
  have l1:=k1.lt
  obtain⟨J,eJ⟩: ∃J:(Addr×Int×Unit)→WP,J=fun z W=> ∃q:Nat,z=(⟨q,0,none⟩,(d.tm st).2,())∧w4.heap.size≤q∧Az W q (encs K5 (Yc (d.tm st).1))∧Af w4 W:=⟨_,rfl⟩
  refine Cc.by J ?_ ?_
  · rw[Ap,Ac]
    have H:=H4.drew
    have G:=Af.drew w4
    have sz:w4.drew.heap.size=w4.heap.size:=rfl
    generalize w4.drew=w8 at*
    obtain⟨sW,sJ,h0,_⟩:=H.ex
    refine H.n0 17 (c:=.p) (x:=some ⟨M 4,0,none⟩) (fun _ _=>rfl) ?_
    rw[Ac]
    refine H.n0 14 (c:=.p) (x:=some ⟨br,0,none⟩) (fun _ _=>rfl) ?_
    exact H.Alu (J:=J) (HP:=fun W=>Hold [(7,Addr.add ⟨M 0,0,none⟩ 14,(w8.cell? (Addr.add ⟨M 0,0,none⟩ 14)).getD undef),(3,Addr.add ⟨M 0,0,none⟩ 17,(w8.cell? (Addr.add ⟨M 0,0,none⟩ 17)).getD undef)] W) (fun W g=>⟨h0.hold g (fun x=>x) 14 (by rw[S9];decide),h0.hold g (fun x=>x) 17 (by rw[S9];decide),trivial⟩) fun p W hp K g=>by rw[eJ];exact⟨p,rfl,by omega,K,G.trans g⟩
  rw[eJ]
  rintro _ W ⟨q,rfl,hq,kq,gW⟩ _
  have H:=H4.Ai gW
  have Q1:=q1.Ai gW
  have Q3:=k3.Ai gW
  have g:=g4.trans gW
  have l3:=k3.lt
  have fin: ∀{W1 W2:World} {x:kC},Af w4 W1→x=plO (d.made st j)→Az W2 p3 (encs Uo x)→Am (fun z=>z=p3) W1 W2→k (x,()) W2:=fun g1 ex K u=>by
    have:=hk _ (Am.trans (g4.trans g1) u fun i hi hh=>by have:=u1.size;omega)
    rw[←ex] at this;exact this
  have put: ∀{W1:World} (x:kC),Af w4 W1→x=plO (d.made st j)→Au (encs Uo x) ⟨p3,0,none⟩ 0 W1 fun w24=>A8 Uo ⟨p3,0,none⟩ 0 w24 fun y=>k (y,()) w24:=fun x g1 ex=>
    (k3.Ai g1).Fg (encs Uo x) rfl rfl fun w24 k24 u24=>k24.cA x rfl (fin g1 ex k24 u24)
  refine Q1.c0 (c:=KI) (x:=(jT j).1) rfl ?_
  cases j with
  |find=>
    refine Vt rfl (bK (fun c=>put pl0 gW (by rw[zN c];rfl)) fun c=>?_)
    have c: ¬(d.tm st).2≠0:=fun h=>h c
    rw[Ac]
    refine H.n0 14 (c:=.p) (x:=some ⟨br,0,none⟩) (fun _ _=>rfl) (Bz.cw H.fw fun w29 u29=>bM (fun cs=>?_) fun cs=>?_)
    · have cs:d.syn=true:=cs
      rw[Ac]
      refine(H.Ai u29).me (put (Fr.find (d.s.me,0)).pl (gW.trans u29) ?_)
      unfold Nd.made;dsimp only;rw[if_neg c,if_pos cs];rfl
    · have cs:d.syn=false:=cs
      have cs: ¬d.syn=true:=by rw[cs];decide
      have H29:=H.Ai u29
      rw[Ac]
      refine H29.n0 15 (c:=.p) (x:=some ⟨M 2,0,none⟩) (fun _ _=>rfl) ?_
      rw[Ac]
      refine H29.lb.c1 1 (c:=KI) (x:=d.lev) rfl (Dx (fun cl=>put pl0 (gW.trans u29) ?_) fun cl=>?_)
      · have cl:d.lev<0:=cl
        unfold Nd.made;dsimp only;rw[if_neg c,if_neg cs,if_pos cl];rfl
      · have cl: ¬d.lev<0:=cl
        rw[Ap,Ac]
        have H40:=H29.drew
        have g40:=(gW.trans u29).trans (Af.drew w29)
        generalize w29.drew=w40 at*
        refine H40.me ?_
        rw[Ac]
        refine H40.n0 15 (c:=.p) (x:=some ⟨M 2,0,none⟩) (fun _ _=>rfl) ?_
        rw[Ac]
        refine H40.lb.c1 1 (c:=KI) (x:=d.lev) rfl ((k3.Ai g40).Fg (encs Uo (Fr.find (d.s.me,d.lev)).pl) rfl rfl fun w47 k47 u47=>⟨trivial,k47.cA (Fr.find (d.s.me,d.lev)).pl rfl (fin g40 ?_ k47 u47)⟩)
        unfold Nd.made;dsimp only;rw[if_neg c,if_neg cs,if_neg cl];rfl
  |tie=>
    refine Jl rfl (Vt rfl ?_)
    rw[Ac]
    refine H.n0 18 (c:=.p) (x:=some ⟨M 5,0,none⟩) (fun _ _=>rfl) ?_
    rw[Ac]
    refine H.kb.cA (bkP d.bh d.ba) rfl (Ad fun p53 w54 e53 k53 u54=>k53.Fg (encs Uo (bkP d.bh d.ba)) rfl rfl fun w55 k55 u55=>?_)
    have g55:Af W w55:=Af.fresh (Af.refl _) u54 u55 e53
    rw[Ac]
    have l53:=k55.lt
    refine(H.Ai g55).me (k55.sN 1 [_] (by rw[Ak];show 2≤14;decide) rfl fun w58 k58 u58=>?_)
    have g58:Af W w58:=Am.new (Am.Bj g55) u58 fun hh=>by omega
    cases hb:d.bh with
    |false=>
      rw[hb] at k58
      have k58:Az w58 p53 (encs Uo (0,d.s.me,0,0,0,0,0,0,0,0,0,0,0,0,())):=k58
      refine k58.c0 (c:=KI) (x:=0) rfl (Vt rfl (put pl0 (gW.trans g58) ?_))
      unfold Nd.made;dsimp only;rw[if_neg (by rw[hb];decide)];rfl
    |true=>
      rw[hb] at k58
      have k58:Az w58 p53 (encs Uo (Fr.anchor (d.s.me,d.ba.2)).pl):=k58
      refine k58.c0 (c:=KI) (x:=6) rfl (Jl rfl (k58.cA (Fr.anchor (d.s.me,d.ba.2)).pl rfl (put (Fr.anchor (d.s.me,d.ba.2)).pl (gW.trans g58) ?_)))
      unfold Nd.made;dsimp only;rw[if_pos hb];rfl
  |reply to sent got=>
    refine Jl rfl (Jl rfl (bK (fun c=>put pl0 gW (by rw[jK (.inl c)];rfl)) fun c=>?_))
    have c: ¬(d.tm st).2≠0:=fun h=>h c
    refine kq.c1 2 (c:=KI) (x:=(d.tm st).1.2.2.1) rfl (Q1.c2 3 2 (c:=KI) (x:=got.2.2.1) rfl (bK (fun c1=>put pl0 gW ?_) fun c1=>?_))
    · have c1:(d.tm st).1.2.2.1≠got.2.2.1:=c1
      rw[jK (.inr (by unfold gZ;rw[beq_false_of_ne c1];rfl))];rfl
    have c1:(d.tm st).1.2.2.1=got.2.2.1:=c1
    refine kq.c1 3 (c:=KU) (x:=(d.tm st).1.2.2.2.1) rfl (Q1.c2 3 3 (c:=KU) (x:=got.2.2.2.1) rfl (bK (fun c2=>put pl0 gW ?_) fun c2=>?_))
    · have c2:(d.tm st).1.2.2.2.1≠got.2.2.2.1:=c2
      rw[jK (.inr (by unfold gZ;rw[beq_false_of_ne c2,Bool.and_false]))];rfl
    have c2:(d.tm st).1.2.2.2.1=got.2.2.2.1:=c2
    have sw:gZ (d.tm st).1 got=true:=by unfold gZ;rw[c1,c2];simp
    rw[Ap,Ac]
    have H5:=H.drew
    have K1:=Q1.drew
    have Kq:=kq.drew
    have g5:=gW.trans (Af.drew W)
    generalize W.drew=w75 at*
    refine H5.me (K1.c1 1 (c:=KI) (x:=to) rfl (K1.c1 2 (c:=KI) (x:=sent) rfl (K1.c1 3 (c:=KI) (x:=got.1) rfl (Kq.c0 (c:=KI) (x:=(d.tm st).1.1) rfl (Kq.c1 2 (c:=KI) (x:=(d.tm st).1.2.2.1) rfl (Kq.c1 3 (c:=KU) (x:=(d.tm st).1.2.2.2.1) rfl (Kq.c1 1 (c:=KI) (x:=(d.tm st).1.2.1) rfl (K1.c2 3 1 (c:=KI) (x:=got.2.1) rfl ?_))))))))
    dsimp only
    have em:(if got.2.1>(d.tm st).1.2.1 then got.2.1 else(d.tm st).1.2.1)=max (d.tm st).1.2.1 got.2.1:=by rw[Int.max_def];split<;>split<;>omega
    rw[em]
    obtain⟨x,ex⟩: ∃x,x=(Fr.reply (d.s.me,to,sent,got.1,(d.tm st).1.1,(d.tm st).1.2.2.1,(d.tm st).1.2.2.2.1,max (d.tm st).1.2.1 got.2.1)).pl:=⟨_,rfl⟩
    refine(k3.Ai g5).Fg (encs Uo (Fr.reply (d.s.me,to,sent,got.1,(d.tm st).1.1,(d.tm st).1.2.2.1,(d.tm st).1.2.2.2.1,max (d.tm st).1.2.1 got.2.1)).pl) rfl rfl fun w86 k86 u86=>⟨trivial,k86.cA (Fr.reply (d.s.me,to,sent,got.1,(d.tm st).1.1,(d.tm st).1.2.2.1,(d.tm st).1.2.2.2.1,max (d.tm st).1.2.1 got.2.1)).pl rfl (fin g5 ?_ k86 u86)⟩
    unfold Nd.made;dsimp only;rw[if_neg (by rw[sw];rintro(h|h);exact c h;cases h)];rfl
def XB(X:NP)(s:Sl)(z:Nat):Prop:=X z∨ ∃a,s.1=some a∧a.block=z
abbrev plL(out:List Fr):List kC:=out.map Fr.pl
theorem Al7(x:kC): ∀u∈encs Uo x,u.oneCell'=true:=by
  intro u hu
  simp[encs,enc] at hu
  rcases hu with rfl|rfl|rfl|rfl|rfl|rfl|rfl|rfl|rfl|rfl|rfl|rfl|rfl|rfl<;>rfl
abbrev oG(w:World)(L:Nat)(s:Sl)(out:List Fr):Prop:=Gs w L T.Dn 14 s (plL out).length ((plL out).flatMap (encs Uo))
theorem RN.xb0{w:World}{O X:NP}{M:NB}{br bE:Nat}{d:Nd}(h:RN w O M br bE X d):RN w O M br bE (XB X (none,0,0)) d:=
  h.far (Af.refl w) (fun _ _ x=>x.elim) (fun z hz=>hz.elim .inl fun⟨a,ha,_⟩=>by cases ha) fun z hz=>hz.elim (fun q=>(h.xl z q).1) fun⟨a,ha,_⟩=>by cases ha
theorem RN.xbe{w:World}{O X:NP}{M:NB}{br bE:Nat}{d:Nd}{s:Sl}(h:RN w O M br bE (XB X s) d):RN w O M br bE X d:=
  h.far (Af.refl w) (fun _ _ x=>x.elim) (fun z hz=>.inl (.inl hz)) fun z hz=>(h.xl z (.inl hz)).1
theorem qA{W:World}{O X:NP}{M:NB}{br bE L p:Nat}{d:Nd}{s:Sl}{out:List Fr}{o:Option Fr}(kp:Az W p (encs Uo (plO o)))(H:RN W O M br bE (XB X s) d)(hO:oG W L s out)(hlt:out.length<3)(hL:L≤W.heap.size)
    {K:Sl→WP} (hK: ∀s' W',RN W' O M br bE (XB X s') d→oG W' L s' (Y4 out o)→Am (fun z=>L≤z) W W'→K s' W'):
    A8 Uo ⟨p,0,none⟩ 0 W fun x=>Ae prog F.Fb [vP x] W false Wh fun r w1=>Aj r.1.1 (A8 Uo ⟨p,0,none⟩ 0 w1 fun x2=>Bf (encs Uo x2) T.Dn w1 fun q w2=>L9 ((Builtin.append_ #[T.Ec,T.Ec] T.Ec #[.slice s.1 s.2.1 s.2.2,.slice (some q) 1 1]).run prog w2) fun y w3=>K y w3) (K s w1):=by
  refine kp.cA (plO o) rfl (Fb.clA fun w1 u1=>bM (fun c=>?_) fun c=>?_)
  · have c:wB (plO o)=true:=c
    cases o with
    |none=>rw[show wB (plO none)=false from rfl] at c;cases c
    |some f=>
    have c:f.ok=true:=by rw[←gK];exact c
    refine(kp.Ai u1).cA (plO (some f)) rfl (Ad fun q w2 e2 k2 u2=>?_)
    have g2:=u1.trans u2
    have hO2:=hO.Ai g2
    have lp:(plL out).length=out.length:=List.length_map ..
    refine DR.ap2 (cs:=Uo) (n:=14) (x:=f.pl) (by kernel_rfl) (by kernel_rfl) rfl (by decide) (Al7 _) (by rw[lp];omega) (by have:=g2.size;omega) hO2 k2 fun y w3 o3 u3 b3=>?_
    have U:Am (fun z=>L≤z) W w3:=Am.trans (Am.Bj g2) u3 fun z hz ⟨a,ha,hh⟩=>by have:=(hO2.blk ha).1;omega
    refine hK y w3 ?_ ?_ U
    · refine(H.Ai g2).far u3 (fun z hz ⟨a,ha,hh⟩=>.inr ⟨a,ha,hh⟩) (fun z hz=>?_) fun z hz=>?_
      · rcases hz with hz|⟨a,ha,rfl⟩
        · exact .inl (.inl hz)
        · rcases b3 a ha with ⟨a0,h0,h1⟩|h1
          · exact .inl (.inr ⟨a0,h0,h1.symm⟩)
          · exact .inr h1
      · rcases hz with hz|⟨a,ha,rfl⟩
        · exact Nat.lt_of_lt_of_le (((H.Ai g2).xl z (.inl hz)).1) u3.size
        · exact(o3.blk ha).2.1
    · rw[Yw,if_pos ⟨c,hlt⟩]
      show Gs w3 L T.Dn 14 y ((out++[f]).map Fr.pl).length (((out++[f]).map Fr.pl).flatMap (encs Uo))
      rw[List.map_append]
      exact o3
  · have c:wB (plO o)=false:=c
    have e:Y4 out o=out:=by
      cases o with
      |none=>rfl
      |some f=>
        have c:f.ok=false:=by rw[←gK];exact c
        rw[Yw,if_neg (by rw[c];rintro⟨h,_⟩;cases h)]
    refine hK s w1 (H.Ai u1) ?_ (Am.Bj u1)
    rw[e];exact hO.Ai u1
theorem pG{out:List Fr}{o:Option Fr}(h:out.length≤3):(Y4 out o).length≤3:=by
  cases o with
  |none=>exact h
  |some f=>
    rw[Yw]
    split
    · rename_i c;rw[List.length_append];simp;omega
    · exact h
theorem Abl(d:Nd)(st:Int): ∀(js:List Jb) (out:List Fr),out.length≤3→(d.pop st js out).2.length≤3
  |[],out,h=>h
  |j::t,out,h=>by
    by_cases c:out.length<3
    · rw[Nd.wJ c];exact Abl d st t _ (pG h)
    · rw[Nd.wK c];exact h
theorem uO{w w':World}{O X:NP}{M:NB}{br bE L:Nat}{d:Nd}{s:Sl}{out:List Fr}(hO:oG w L s out)(H:RN w O M br bE (XB X s) d){S:NP}(u:Am S w w')(hS: ∀z,z<w.heap.size→S z→MO M O z):oG w' L s out:=
  hO.upd u fun a ha hs=>(H.xl a.block (.inr ⟨a,ha,rfl⟩)).2 (hS _ (hO.blk ha).2.1 hs)
def wjl(b:Nat)(w:World):Nat:=match w.cell? ⟨b,21,none⟩ with|some (.slice _ n _)=>n|_=>0
theorem Ah9{w:World}{O X:NP}{M:NB}{br bE:Nat}{d:Nd}(h:RN w O M br bE X d):wjl (M 0) w=d.jobs.length:=by
  obtain⟨sW,sJ,h0,_,hJ⟩:=h.ex
  unfold wjl
  rw[h0.cell]
  show sJ.2.1=_
  rw[hJ.d.len (by decide),List.length_map]
theorem Nx.upL{A B:NP}{w W W':World}{L:Nat}(h:Nx A w B W)(u:Am (fun z=>L≤z) W W')(hL:w.heap.size≤L):Nx A w B W':=⟨h.u.trans u fun i hi hh=>by omega,h.sub⟩
theorem Aau{w:World}{L:Nat}{s:Sl}{out:List Fr}(h:oG w L s out):s.2.1=out.length:=by
  have:=h.len;rw[List.length_map] at this;exact this
theorem Me.n{w:World}{O X:NP}{M:NB}{br bE:Nat}{d:Nd}{step j:Int}(h:RN w O M br bE X d)(hG:Xn d){k:TR RSd→WP}
    (hk: ∀s w' O',RN w' O' M br bE (XB X s) (d.send step j).1→oG w' w.heap.size s (d.send step j).2.1→Nx (MO M O) w (MO M O') w'→k ((s,()),((d.send step j).2.2,()),()) w'):
    Ae prog F.Me [pB (M 0),iV step,iV j] w true RSd k:=by
  refine Me.ok ?_
  unfold Me.wp
  obtain⟨m0,m1,gf,gp,l1,l2,j1,j2⟩:=Uj.1 hG.s
  have hp:=iK.1 gp
  refine Ht.n h hG ?_
  rw[Ap]
  have g3:=Af.drew w
  have H3:=h.drew
  have sz3:w.drew.heap.size=w.heap.size:=rfl
  generalize w.drew=w3 at*
  have nil: ∀{x:Nd×List Fr×Int},d.send step j=x→x.1=d→x.2.1=[]→k (((none,0,0),()),(x.2.2,()),()) w3:=fun{x} ex e1 e2=>by
    have:=hk (none,0,0) w3 O (by rw[ex,e1];exact H3.xb0) (by rw[ex,e2];exact Gs.nil _ _ _ _) (Nx.of g3)
    rw[ex] at this;exact this
  refine bK (fun c=>?_) fun c0=>?_
  · have c:(d.Yf j).2≠0:=c
    exact nil (x:=(d,[],(d.Yf j).2)) (by unfold Nd.send;rw[if_pos c]) rfl rfl
  have c0:(d.Yf j).2=0:=c0
  obtain⟨st,est⟩: ∃st,st=(d.Yf j).1:=⟨_,rfl⟩
  dsimp only
  rw[←est,c0]
  have no:miG d.s.rnd d.s.own step=false→k (((none,0,0),()),(0,()),()) w3:=fun c=>nil (x:=(d,[],0)) (by unfold Nd.send;rw[if_neg (by omega),if_pos c]) rfl rfl
  refine Dx (fun c=>no (by have c:step<0:=c;unfold miG;rw[decide_eq_false (show¬0≤step by omega)];rfl)) fun c1=>?_
  have c1: ¬step<0:=c1
  rw[Ac]
  refine H3.n0 5 (c:=KI) (x:=d.s.rnd) (fun _ _=>rfl) ?_
  rw[Pg (by omega),Ac]
  refine H3.n0 7 (c:=KI) (x:=d.s.own) (fun _ _=>rfl) (bK (fun c=>no ?_) fun c2=>?_)
  · have c:Int.tmod step d.s.rnd≠d.s.own:=c
    rw[Int.tmod_eq_emod_of_nonneg (by omega)] at c
    unfold miG;rw[beq_false_of_ne c,Bool.and_false]
  have c2:Int.tmod step d.s.rnd=d.s.own:=c2
  have cm:miG d.s.rnd d.s.own step=true:=by
    rw[Int.tmod_eq_emod_of_nonneg (by omega)] at c2
    unfold miG;rw[decide_eq_true (show 0≤step by omega),c2];simp
  have e:d.send step j=((d.iH st).1,(d.iH st).2,0):=by unfold Nd.send;rw[if_neg (by omega),if_neg (by rw[cm];decide),est]
  rw[e] at hk
  rw[Ac]
  refine H3.n0 14 (c:=.p) (x:=some ⟨br,0,none⟩) (fun _ _=>rfl) (Jz.cw H3.fw (loc:=st) fun w11 O12 F12 x12=>?_)
  have H11:=H3.Aeo F12 x12
  have N11:Nx (MO M O) w (MO M O12) w11:=Nx.pre g3 (RN.nxF (M:=M) x12)
  have eso:(if(sH d.f d.e d.l d.es st).2=true then plP (sH d.f d.e d.l d.es st).1 else pl0)=plO (d.Yg st):=by
    unfold Nd.Yg
    split<;>rfl
  dsimp only
  rw[eso]
  refine Ad fun p12 w13 e12 k12 u13=>k12.Fg (encs Uo (plO (d.Yg st))) rfl rfl fun w14 k14 u14=>?_
  have f14:Af w11 w14:=Af.fresh (Af.refl _) u13 u14 e12
  have H14:=H11.Ai f14
  rw[Ac]
  obtain⟨r,hr,sb⟩:=H14.sb
  refine H14.n0 17 (c:=.p) (x:=some ⟨M 4,0,none⟩) (fun _ _=>rfl) (Jd.cw sb fun w18 k18 u18=>?_)
  have H18:=H14.Ae2 hr.Ri k18 u18
  have N18:=(N11.Ai f14).trans (RN.nx (O:=O12) 4 (by decide) u18)
  have lt11:=H11.lt
  have p12n: ∀i,i<7→p12≠M i:=fun i hi e=>by have:=lt11 (M i) (Xx M O12 i hi);omega
  have q18:=k14.upd u18 (p12n 4 (by decide))
  refine Cc.by (fun _ W=>RN W O12 M br bE X (d.Ri st)∧Nx (MO M O) w (MO M O12) W∧Az W p12 (encs Uo (plO (d.Yg st)))) ?_ ?_
  · rw[Ac]
    refine H18.n0 16 (c:=.p) (x:=some ⟨M 3,0,none⟩) (fun _ _=>rfl) (Nl.cl H18.pb hG.pr fun w25 k25 u25=>?_)
    have H25:=H18.qN k25 u25
    have N25:=N18.trans (RN.nx (O:=O12) 3 (by decide) u25)
    have q25:=q18.upd u25 (p12n 3 (by decide))
    refine bM (fun c=>?_) fun c=>?_
    · have c:Ub d.pr=true:=c
      rw[Ac]
      refine H25.n0 15 (c:=.p) (x:=some ⟨M 2,0,none⟩) (fun _ _=>rfl) ?_
      rw[Ac]
      refine H25.lb.sN 1 [_] (by simp) rfl fun w29 k29 u29=>?_
      have H29:=H25.set2 (lev:= -1) (par:=d.par) k29 u29
      rw[Ac]
      refine H29.n0 15 (c:=.p) (x:=some ⟨M 2,0,none⟩) (fun _ _=>rfl) ?_
      rw[Ac]
      refine H29.lb.sN 2 [_] (by simp) rfl fun w33 k33 u33=>⟨?_,?_,(q25.upd u29 (p12n 2 (by decide))).upd u33 (p12n 2 (by decide))⟩
      · have:=H29.set2 (lev:= -1) (par:= -1) k33 u33
        unfold Nd.Ri
        rw[if_pos c,if_pos c]
        exact this
      · exact(N25.trans (RN.nx (O:=O12) 2 (by decide) u29)).trans (RN.nx (O:=O12) 2 (by decide) u33)
    · have c:Ub d.pr=false:=c
      refine⟨?_,N25,q25⟩
      unfold Nd.Ri
      rw[if_neg (by rw[c];decide),if_neg (by rw[c];decide)]
      exact H25
  rintro _ w21 ⟨H21,N21,q21⟩ _
  have L0:w.heap.size≤w.heap.size:=Nat.le_refl _
  refine Cc.by (fun z W=>RN W O12 M br bE (XB X z.1) (d.Ri st)∧oG W w.heap.size z.1 (Y4 [] (d.Yg st))∧Nx (MO M O) w (MO M O12) W) ?_ ?_
  · exact qA (s:=(none,0,0)) (out:=[]) (o:=d.Yg st) q21 H21.xb0 (Gs.nil _ _ _ _) (by decide) N21.u.size (K:=fun y W=>RN W O12 M br bE (XB X y) (d.Ri st)∧oG W w.heap.size y (Y4 [] (d.Yg st))∧Nx (MO M O) w (MO M O12) W) fun s' W' H' O' u'=>⟨H',O',N21.upL u' L0⟩
  rintro⟨s0,_⟩ w36 ⟨H36,O36,N36⟩ _
  dsimp only at H36 O36
  obtain⟨P,eP⟩: ∃P,P=(d.Ri st).pop st d.jobs (Y4 [] (d.Yg st)):=⟨_,rfl⟩
  have P3:P.2.length≤3:=by rw[eP];exact Abl _ _ _ _ (pG (Nat.zero_le _))
  have hs1:d.iH st=(d.Ri st).Yi st P:=by unfold Nd.iH;rw[←eP]
  rw[hs1] at hk
  refine Cc.by (fun z W=>RN W O12 M br bE (XB X z.1) {d.Ri st with jobs:=P.1}∧oG W w.heap.size z.1 P.2∧Nx (MO M O) w (MO M O12) W) ?_ ?_
  · refine⟨fun z W=> ∃js out,P=(d.Ri st).pop st js out∧RN W O12 M br bE (XB X z.1) {d.Ri st with jobs:=js}∧oG W w.heap.size z.1 out∧Nx (MO M O) w (MO M O12) W,fun _ W=>wjl (M 0) W,⟨d.jobs,Y4 [] (d.Yg st),eP,H36,O36,N36⟩,?_⟩
    rintro⟨s,_⟩ W ⟨js,out,ep,H,hO,NN⟩ _
    dsimp only at H hO
    have ol:=Aau hO
    refine Dx (fun c=>?_) fun c=>?_
    · have hlt:out.length<3:=by have c:(s.2.1:Int)<3:=c;omega
      obtain⟨sW,sJ,h0,hW,hJ⟩:=H.ex
      have lJ:=hJ.d.len (by decide)
      rw[List.length_map] at lJ
      rw[Ac]
      refine h0.c1 21 (c:=.sl) (x:=sJ) rfl (Dx (fun cj=>?_) fun cj=>?_)
      · obtain⟨jb,t,rfl⟩: ∃jb t,js=jb::t:=by
          cases js with
          |nil=>have cj:(sJ.2.1:Int)>0:=cj;rw[lJ] at cj;exact absurd cj (by show¬((0:Nat):Int)>0;decide)
          |cons jb t=>exact⟨jb,t,rfl⟩
        obtain⟨eT,dT⟩:=DQ.tail (cs:=KJb) (x:=jT jb) (t:=t.map jT) hJ (by decide) (n:=8) rfl
        rw[Ac]
        refine h0.c1 21 (c:=.sl) (x:=sJ) rfl (hJ.d.head (cs:=KJb) (x:=jT jb) (by decide) (n:=8) rfl (Ad fun p57 w58 e57 k57 u58=>k57.Fg (encs KJb (jT jb)) rfl rfl fun w59 k59 u59=>?_))
        have g59:Af W w59:=Af.fresh (Af.refl _) u58 u59 e57
        rw[Ac]
        refine(h0.Ai g59).c1 21 (c:=.sl) (x:=sJ) rfl ?_
        rw[eT,Ac]
        have l57:=h0.lt
        refine(h0.Ai g59).sN 21 [bP (dG sJ.1 sJ.2.2 (Int.toNat 1) 8,Int.toNat (sJ.2.1:Int)-Int.toNat 1,sJ.2.2-Int.toNat 1)] (by rw[S9];exact Nat.le_refl 22) rfl fun w63 k63 u63=>?_
        have qm: ∀z,z<w59.heap.size→z=M 0→MX M O12 (XB X s) z:=fun z _ e=>by rw[e];exact .inl (Xx M O12 0)
        have H63:=(H.Ai g59).set0 (jobs:=t) (on:=d.on) (boot:=d.boot) (sW:=sW) k63 ((hW.Ai g59).upd u63 qm fun _ _ x=>x) ((dT.Ai g59).upd u63 qm fun _ _ x=>x) u63
        have N63:=(NN.Ai g59).trans (RN.nx (O:=O12) 0 (by decide) u63)
        have O63:=uO (hO.Ai g59) (H.Ai g59) u63 fun z _ e=>by rw[e];exact Xx M O12 0
        have k63':=k59.upd u63 (fun e=>by have:=H.lt (M 0) (Xx M O12 0);omega)
        refine k63'.cA (cs:=KJb) (jT jb) rfl (Na.n (j:=jb) H63 fun w66 u66=>?_)
        have emade:Nd.made {d.Ri st with jobs:=t} st jb=(d.Ri st).made st jb:=Nd.uQ _ _ _ _
        refine Ad fun p67 w68 e67 k67 u68=>k67.Fg (encs Uo (plO ((d.Ri st).made st jb))) rfl (by rw[←emade];rfl) fun w69 k69 u69=>?_
        have g69:Af w63 w69:=Af.fresh u66 u68 u69 e67
        refine qA (s:=s) (out:=out) (o:=(d.Ri st).made st jb) k69 (H63.Ai g69) (O63.Ai g69) hlt (by have:=N63.u.size;have:=g69.size;omega) (K:=fun y W1=>(∃js out,P=(d.Ri st).pop st js out∧RN W1 O12 M br bE (XB X y) {d.Ri st with jobs:=js}∧oG W1 w.heap.size y out∧Nx (MO M O) w (MO M O12) W1)∧wjl (M 0) W1<wjl (M 0) W) fun s' W' H' O' u'=>⟨⟨t,Y4 out ((d.Ri st).made st jb),?_,H',O',(N63.Ai g69).upL u' L0⟩,?_⟩
        · rw[ep,Nd.wJ hlt]
        · rw[Ah9 H',Ah9 H]
          show t.length<(jb::t).length
          simp
      · have cj: ¬(sJ.2.1:Int)>0:=cj
        have:js=[]:=List.eq_nil_of_length_eq_zero (by have:sJ.2.1=js.length:=lJ;omega)
        subst this
        rw[ep]
        exact⟨H,hO,NN⟩
    · have c: ¬(s.2.1:Int)<3:=c
      rw[ep,Nd.wK (by omega)]
      exact⟨H,hO,NN⟩
  rintro⟨s,_⟩ W ⟨H,hO,NN⟩ _
  dsimp only at H hO
  have ol:=Aau hO
  obtain⟨d2,ed2⟩: ∃d2:Nd,d2={d.Ri st with jobs:=P.1}:=⟨_,rfl⟩
  rw[←ed2] at H
  have hs2:(d.Ri st).Yi st P=if d2.syn=false∧P.2.length<3 then((d2.word st).1,Y4 P.2 (d2.word st).2) else(d2,P.2):=by unfold Nd.Yi;rw[ed2]
  rw[hs2] at hk
  have hme:d2.pr.me=d2.s.me:=by
    rw[ed2]
    exact(Aan hG.pr).2.trans hG.me
  refine Cc.by (fun z W'=>z=(decide (d2.syn=false∧P.2.length<3),())∧Af W W') ?_ ?_
  · rw[Ac]
    refine H.n0 14 (c:=.p) (x:=some ⟨br,0,none⟩) (fun _ _=>rfl) (Bz.cw H.fw fun w84 u84=>Ee (fun cs=>?_) fun cs=>?_)
    · have cs:d2.syn=false:=cs
      refine⟨?_,u84⟩
      rw[cs]
      have:decide ((s.2.1:Int)<3)=decide (false=false∧P.2.length<3):=decide_eq_decide.2 ⟨fun q=>⟨rfl,by omega⟩,fun q=>by have:=q.2;omega⟩
      rw[←this]
    · have cs:d2.syn=true:=cs
      refine⟨?_,u84⟩
      rw[cs];rfl
  rintro z W' ⟨rfl,g⟩ _
  have H':=H.Ai g
  have O':=hO.Ai g
  have N':=NN.Ai g
  refine Dx (fun c=>?_) fun c=>?_
  · have c:d2.syn=false∧P.2.length<3:=c
    rw[if_pos c] at hk
    rw[Ac]
    refine H'.me (Ad fun p87 w88 e87 k87 u88=>k87.Fg (encs Uo (plO (some (Fr.want d2.s.me)))) rfl rfl fun w89 k89 u89=>?_)
    have g89:Af W' w89:=Af.fresh (Af.refl _) u88 u89 e87
    have H89:=H'.Ai g89
    have HX:RN w89 O12 M br bE (fun z=>XB X s z∨z=p87) d2:=H'.far g89 (fun _ _ x=>x.elim) (fun z hz=>hz.elim .inl fun q=>.inr (by omega)) fun z hz=>hz.elim (fun q=>Nat.lt_of_lt_of_le (H'.xl z q).1 g89.size) fun q=>by have:=k89.lt;omega
    have lp87: ∀i,i<7→p87≠M i:=fun i hi e=>by have:=H'.lt (M i) (Xx M O12 i hi);omega
    refine Cc.by (fun _ W1=>RN W1 O12 M br bE (XB X s) (d2.word st).1∧oG W1 w.heap.size s P.2∧Nx (MO M O) w (MO M O12) W1∧Az W1 p87 (encs Uo (plO (d2.word st).2))) ?_ ?_
    · rw[Ac]
      refine H89.n0 15 (c:=.p) (x:=some ⟨M 2,0,none⟩) (fun _ _=>rfl) ?_
      rw[Ac]
      refine H89.lb.c1 2 (c:=KI) (x:=d2.par) rfl (Dx (fun cp=>?_) fun cp=>?_)
      · have cp:d2.par≥0:=cp
        have ew:d2.word st=({d2 with pr:=dD d2.pr d2.par st},if U5 d2.pr d2.par st=true then some (.pulse (d2.s.me,d2.par,st)) else none):=by unfold Nd.word;rw[if_neg (by omega)]
        rw[ew]
        rw[Ap,Ac]
        have H97:=H89.drew
        have X97:=HX.drew
        have g97:=g89.trans (Af.drew w89)
        have K97:=k89.drew
        have s97:w89.drew.heap.size=w89.heap.size:=rfl
        generalize w89.drew=w97 at*
        obtain⟨sW,sJ,h0,_⟩:=H97.ex
        refine H97.n0 16 (c:=.p) (x:=some ⟨M 3,0,none⟩) (fun _ _=>rfl) ?_
        rw[Ac]
        refine H97.n0 15 (c:=.p) (x:=some ⟨M 2,0,none⟩) (fun _ _=>rfl) ?_
        rw[Ac]
        refine H97.lb.c1 2 (c:=KI) (x:=d2.par) rfl (Ov.cl H97.pb fun w105 k105 u105=>⟨⟨h0.hold u105 (H97.ne 0 3) 15 (by rw[S9];decide),trivial⟩,?_⟩)
        rw[hme]
        have H105:=X97.qN k105 u105
        have O105:=uO (O'.Ai g97) H97 u105 fun z _ e=>by rw[e];exact Xx M O12 3
        have N105:=(N'.Ai g97).trans (RN.nx (O:=O12) 3 (by decide) u105)
        refine(K97.upd u105 (lp87 3 (by decide))).Fg (encs Uo (plO (if U5 d2.pr d2.par st=true then some (.pulse (d2.s.me,d2.par,st)) else none))) rfl rfl fun w106 k106 u106=>⟨trivial,?_,?_,?_,k106⟩
        · exact H105.far u106 (fun z hz hh=>.inr hh) (fun z hz=>.inl (.inl hz)) fun z hz=>Nat.lt_of_lt_of_le (H105.xl z (.inl hz)).1 u106.size
        · exact O105.upd u106 fun a ha hh=>by
            have:=(O'.blk ha).2.1
            omega
        · exact N105.upL (u106.mono fun z hz=>by have:=N'.u.size;omega) L0
      · have cp: ¬d2.par≥0:=cp
        have ew:d2.word st=(d2,some (.want d2.s.me)):=by unfold Nd.word;rw[if_pos (by omega)]
        rw[ew]
        exact⟨H89,O'.Ai g89,N'.Ai g89,k89⟩
    · rintro _ w92 ⟨H92,O92,N92,k92⟩ _
      refine qA (s:=s) (out:=P.2) (o:=(d2.word st).2) k92 H92 O92 c.2 N92.u.size (K:=fun y W1=>k ((y,()),(0,()),()) W1) fun s' W1 H1 O1 u1=>hk s' W1 O12 H1 O1 (N92.upL u1 L0)
  · have c: ¬(d2.syn=false∧P.2.length<3):=c
    rw[if_neg c] at hk
    exact hk s W' O12 H' O' N'
end Go.Proofs.YtnjmfbjgcfnanaaGreat
