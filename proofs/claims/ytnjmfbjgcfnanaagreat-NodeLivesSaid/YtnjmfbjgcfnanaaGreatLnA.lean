import Derived.Test.YtnjmfbjgcfnanaaGreatRdD
namespace Go.Proofs.YtnjmfbjgcfnanaaGreat
open Go Go.Eng Tryz
open Go.IntKind (wrap)
set_option linter.unusedSimpArgs false
set_option linter.unusedVariables false
set_option maxRecDepth 100000
set_option maxHeartbeats 8000000
def baN(xs:List Nat):ByteArray:=⟨(xs.map UInt8.ofNat).toArray⟩
theorem mY{P:Program}{w:World}{s:Sl}{xs:List Nat}(hR:Ur w s xs)(hx:eH xs)(hne:xs≠[]){k:ByteArray→WP}(hk:k (baN xs) w):yE P (bP s) w k:=by
  have hl0:0<xs.length:=by cases xs;exact absurd rfl hne;simp
  obtain⟨a,ha⟩:=hR.addr (by simpa using hl0)
  have hn:=hR.len'
  obtain⟨sa,n,c⟩:=s
  simp only at ha hn
  subst ha hn
  have hl:=run_loadCells_list (P:=P) (w:=w) a (((xs.map UInt8.ofNat).map (fun b=>(b.toNat:Int))).map (Value.int .u8)) (fun j v hj=>by
    rw[List.getElem?_map,List.getElem?_map,List.getElem?_map] at hj
    cases hc:xs[j]? with
    |none=>rw[hc] at hj;cases hj
    |some x=>
      rw[hc] at hj
      simp only[Option.map_some,Option.some.injEq] at hj
      rw[hR.ld rfl (aW hc),←hj]
      have:=hx x (List.mem_of_getElem? hc)
      have e:(UInt8.ofNat x).toNat=x:=by simp;omega
      rw[e])
  simp only[List.length_map] at hl
  unfold yE
  rw[run_bytesToString w a xs.length c _ hl,foldl_push_byteCells]
  have e:(⟨ByteArray.empty.data++(xs.map UInt8.ofNat).toArray⟩:ByteArray)=baN xs:=by simp[baN]
  rw[e];exact hk
theorem Akr(kd:Nat)(fs:List E3):aK kd fs≠[]:=by simp[aK,kT]
theorem Aad{kd:Nat}(h:kd<256)(fs:List E3):eH (aK kd fs):=by
  intro x hx
  unfold aK kT at hx
  have hc:=dR (s:=65535) (by decide) (kd::Vb fs)
  rcases List.mem_append.1 hx with hx|hx
  · rcases List.mem_cons.1 hx with rfl|hx
    · exact h
    · exact pK fs x hx
  · simp only[List.mem_cons,List.not_mem_nil,or_false] at hx
    rcases hx with rfl|rfl<;>omega
theorem Apq(f:Fr):f.kd<256:=by cases f<;>(simp only[Fr.kd];decide)
theorem An2(f:Fr):eH f.by:=Aad (Apq f) _
theorem Aom(f:Fr):f.by≠[]:=Akr _ _
theorem oK.upd{S Q Q':NP}{L:Nat}{w w':World}{y:Sl}{bs:List (List Nat)}(h:oK w L Q y bs)(u:Am S w w')(hS: ∀z,L≤z→ ¬Q z→ ¬S z)(hQ: ∀z,Q' z→Q z):oK w' L Q' y bs:=by
  obtain⟨vs,r,l,a,g⟩:=h
  refine⟨vs,Row.upd r u (fun x hx=>hS _ (a x hx).1 (a x hx).2),l,fun x hx=>⟨(a x hx).1,fun q=>(a x hx).2 (hQ _ q)⟩,fun i b hb=>?_⟩
  obtain⟨v,hv,hr,hq⟩:=g i b hb
  exact⟨v,hv,⟨Row.upd hr.1 u fun x hx=>hS _ (hq x hx).1 (hq x hx).2,hr.2⟩,fun x hx=>⟨(hq x hx).1,fun q=>(hq x hx).2 (hQ _ q)⟩⟩
theorem DR.cell{w:World}{s:Sl}{cs:List CK}{xs:List (Jf cs)}(h:DR w s cs xs){a:Addr}(ha:s.1=some a){i:Nat}{x:Jf cs}(hi:xs[i]? =some x){j n:Nat}(hn:n=cs.length)(hj:j<cs.length): ∃v,w.cell? ((a.add (i*n)).add j)=some v:=by
  subst hn
  have hv:(encs cs x)[j]? =some ((encs cs x)[j]'(by rw[Ak];exact hj)):=List.getElem?_eq_getElem _
  exact⟨_,by rw[add_add];exact h.row.ld ha (flat_get hi j _ hv)⟩
theorem uN{w w':World}{p:Addr}{v:Value}(h:w.cell? p=some v)(u:Af w w'):w'.cell? p=some ((w.cell? p).getD undef):=by rw[lN h u,h];rfl
theorem law26_sent.cl{y s:Sl}{out:List Fr}{L:Nat}{Q:NP}{w:World}(hS:oK w L Q y (out.map Fr.by))(hD:DR w s Uo (plL out))(hok: ∀f∈out,f.ok=true)(hl:out.length≤100){k:TR Wh→WP}(hk: ∀w',Af w w'→k ((true,()),()) w'):
    Ae prog F.law26_sent [bP y,bP s] w false Wh k:=by
  refine law26_sent.ok (b:=y) (list:=s) ?_
  unfold law26_sent.wp
  have ly:=hS.len
  rw[List.length_map] at ly
  have ls:=hD.len (by decide)
  rw[List.length_map] at ls
  refine bK (fun c1=>absurd (show(y.2.1:Int)≠(s.2.1:Int) from c1) (by omega)) fun _=>?_
  refine Ci.by (fun z W=>Af w W∧ ∃i:Nat,i≤out.length∧z=((i:Int),())) (fun z=>(101-z.1).toNat) ⟨Af.refl _,0,by omega,rfl⟩ ?_
  rintro z W ⟨g,i,hi,rfl⟩ _
  refine Dx (fun c=>?_) fun c=>?_
  · have hil:i<out.length:=by have c:(i:Int)<(y.2.1:Int):=c;omega
    have hf:out[i]? =some out[i]:=List.getElem?_eq_getElem hil
    have hfo:=hok _ (List.getElem_mem hil)
    generalize out[i]=f at hf hfo
    rw[Ap]
    have g1:=g.trans (Af.drew W)
    generalize W.drew=W1 at*
    obtain⟨vs,r,l,_,gg⟩:=hS.upd (Q':=Q) g1 (fun _ _ _ x=>x) fun _ x=>x
    obtain⟨v,hv,hr,_⟩:=gg i f.by (by rw[List.getElem?_map,hf];rfl)
    have X:=hD.Ai g1
    have fin: ∀{w':World} {A:ByteArray},Af W1 w'→Aj (!(A==A)) (k ((false,()),()) w') ((Af w w'∧ ∃i':Nat,i'≤out.length∧(wrap .i64 ((i:Int)+1),())=((i':Int),()))∧(101-wrap .i64 ((i:Int)+1)).toNat<(101-(i:Int)).toNat):=fun{w' A} g'=>by
      have e:(!(A==A))=false:=by rw[(dU A A).2 rfl];rfl
      rw[e]
      refine Jl rfl ⟨⟨g1.trans g',i+1,by omega,?_⟩,?_⟩
      · rw[Ah (by unfold I64;omega)];rfl
      · rw[Ah (by unfold I64;omega)];omega
    have hld:(vs.map bP)[i]? =some (bP v):=by rw[List.getElem?_map,hv];rfl
    obtain⟨a,ha⟩:=r.addr (by rw[List.length_map];have:=(List.getElem?_eq_some_iff.1 hv).1;omega)
    have hc:W1.cell? (a.add (((i:Int)).toNat*1))=some (bP v):=by rw[Int.toNat_natCast,Nat.mul_one];exact r.ld ha hld
    have hx:(plL out)[i]? =some f.pl:=by rw[List.getElem?_map,hf];rfl
    obtain⟨a7,ha7⟩:=X.row.addr (by decide) hx
    have c14: ∀{w':World},Af W1 w'→ ∀j,j<14→w'.cell? ((a7.add (((i:Int)).toNat*14)).add j)=some ((W1.cell? ((a7.add (((i:Int)).toNat*14)).add j)).getD undef):=fun u j hj=>by
      obtain⟨v,hv⟩:=X.cell ha7 hx (j:=j) (n:=14) rfl hj
      rw[Int.toNat_natCast]
      exact uN hv u
    rw[ha,Tq (by omega)]
    refine Zj (c:=.sl) (x:=v) hc rfl ?_
    rw[ha7,Tq (by omega)]
    refine X.row.A8 ha7 hx ?_
    have HH: ∀{w':World},Af W1 w'→Hold [(8,(a7.add (((i:Int)).toNat*14)).add 0,(W1.cell? ((a7.add (((i:Int)).toNat*14)).add 0)).getD undef),(8,(a7.add (((i:Int)).toNat*14)).add 1,(W1.cell? ((a7.add (((i:Int)).toNat*14)).add 1)).getD undef),(8,(a7.add (((i:Int)).toNat*14)).add 2,(W1.cell? ((a7.add (((i:Int)).toNat*14)).add 2)).getD undef),(8,(a7.add (((i:Int)).toNat*14)).add 3,(W1.cell? ((a7.add (((i:Int)).toNat*14)).add 3)).getD undef),(8,(a7.add (((i:Int)).toNat*14)).add 4,(W1.cell? ((a7.add (((i:Int)).toNat*14)).add 4)).getD undef),(8,(a7.add (((i:Int)).toNat*14)).add 5,(W1.cell? ((a7.add (((i:Int)).toNat*14)).add 5)).getD undef),(8,(a7.add (((i:Int)).toNat*14)).add 6,(W1.cell? ((a7.add (((i:Int)).toNat*14)).add 6)).getD undef),(8,(a7.add (((i:Int)).toNat*14)).add 7,(W1.cell? ((a7.add (((i:Int)).toNat*14)).add 7)).getD undef),(8,(a7.add (((i:Int)).toNat*14)).add 8,(W1.cell? ((a7.add (((i:Int)).toNat*14)).add 8)).getD undef),(8,(a7.add (((i:Int)).toNat*14)).add 9,(W1.cell? ((a7.add (((i:Int)).toNat*14)).add 9)).getD undef),(8,(a7.add (((i:Int)).toNat*14)).add 10,(W1.cell? ((a7.add (((i:Int)).toNat*14)).add 10)).getD undef),(8,(a7.add (((i:Int)).toNat*14)).add 11,(W1.cell? ((a7.add (((i:Int)).toNat*14)).add 11)).getD undef),(8,(a7.add (((i:Int)).toNat*14)).add 12,(W1.cell? ((a7.add (((i:Int)).toNat*14)).add 12)).getD undef),(8,(a7.add (((i:Int)).toNat*14)).add 13,(W1.cell? ((a7.add (((i:Int)).toNat*14)).add 13)).getD undef),(6,a.add (((i:Int)).toNat*1),(W1.cell? (a.add (((i:Int)).toNat*1))).getD undef)] w':=fun u=>⟨c14 u 0 (by decide),c14 u 1 (by decide),c14 u 2 (by decide),c14 u 3 (by decide),c14 u 4 (by decide),c14 u 5 (by decide),c14 u 6 (by decide),c14 u 7 (by decide),c14 u 8 (by decide),c14 u 9 (by decide),c14 u 10 (by decide),c14 u 11 (by decide),c14 u 12 (by decide),c14 u 13 (by decide),uN hc u,trivial⟩
    have H14: ∀{w':World},Af W1 w'→Hold [(8,(a7.add (((i:Int)).toNat*14)).add 0,(W1.cell? ((a7.add (((i:Int)).toNat*14)).add 0)).getD undef),(8,(a7.add (((i:Int)).toNat*14)).add 1,(W1.cell? ((a7.add (((i:Int)).toNat*14)).add 1)).getD undef),(8,(a7.add (((i:Int)).toNat*14)).add 2,(W1.cell? ((a7.add (((i:Int)).toNat*14)).add 2)).getD undef),(8,(a7.add (((i:Int)).toNat*14)).add 3,(W1.cell? ((a7.add (((i:Int)).toNat*14)).add 3)).getD undef),(8,(a7.add (((i:Int)).toNat*14)).add 4,(W1.cell? ((a7.add (((i:Int)).toNat*14)).add 4)).getD undef),(8,(a7.add (((i:Int)).toNat*14)).add 5,(W1.cell? ((a7.add (((i:Int)).toNat*14)).add 5)).getD undef),(8,(a7.add (((i:Int)).toNat*14)).add 6,(W1.cell? ((a7.add (((i:Int)).toNat*14)).add 6)).getD undef),(8,(a7.add (((i:Int)).toNat*14)).add 7,(W1.cell? ((a7.add (((i:Int)).toNat*14)).add 7)).getD undef),(8,(a7.add (((i:Int)).toNat*14)).add 8,(W1.cell? ((a7.add (((i:Int)).toNat*14)).add 8)).getD undef),(8,(a7.add (((i:Int)).toNat*14)).add 9,(W1.cell? ((a7.add (((i:Int)).toNat*14)).add 9)).getD undef),(8,(a7.add (((i:Int)).toNat*14)).add 10,(W1.cell? ((a7.add (((i:Int)).toNat*14)).add 10)).getD undef),(8,(a7.add (((i:Int)).toNat*14)).add 11,(W1.cell? ((a7.add (((i:Int)).toNat*14)).add 11)).getD undef),(8,(a7.add (((i:Int)).toNat*14)).add 12,(W1.cell? ((a7.add (((i:Int)).toNat*14)).add 12)).getD undef),(8,(a7.add (((i:Int)).toNat*14)).add 13,(W1.cell? ((a7.add (((i:Int)).toNat*14)).add 13)).getD undef)] w':=fun u=>⟨c14 u 0 (by decide),c14 u 1 (by decide),c14 u 2 (by decide),c14 u 3 (by decide),c14 u 4 (by decide),c14 u 5 (by decide),c14 u 6 (by decide),c14 u 7 (by decide),c14 u 8 (by decide),c14 u 9 (by decide),c14 u 10 (by decide),c14 u 11 (by decide),c14 u 12 (by decide),c14 u 13 (by decide),trivial⟩
    have G0:=Af.refl W1
    have h1:=An2 f
    have h2:=Aom f
    have hr:Ur W1 v f.by:=hr.1
    refine⟨mY hr h1 h2 ⟨(by first|exact HH G0|exact H14 G0),Hf.clA hfo fun s w12 o12 u12=>⟨(by first|exact HH u12|exact H14 u12),mY o12.row h1 h2 ⟨(by first|exact HH u12|exact H14 u12),fin u12⟩⟩⟩,Hf.clA hfo fun s w16 o16 u16=>⟨(by first|exact HH u16|exact H14 u16),mY (Row.Ai hr u16) h1 h2 ⟨(by first|exact HH u16|exact H14 u16),mY o16.row h1 h2 ⟨(by first|exact HH u16|exact H14 u16),fin u16⟩⟩,mY o16.row h1 h2 ⟨(by first|exact HH u16|exact H14 u16),mY (Row.Ai hr u16) h1 h2 ⟨(by first|exact HH u16|exact H14 u16),fin u16⟩⟩⟩⟩
  · exact hk W g
theorem law26_setup.cl{s:nS}{w:World}{k:TR [(true,KSt)]→WP}(hk: ∀w',Af w w'→k (stT s,()) w'):Ae prog F.law26_setup [.agg (kD s).toArray] w false [(true,KSt)] k:=by
  refine law26_setup.ok ?_
  unfold law26_setup.wp
  refine Ad fun p1 w2 e1 k1 u1=>Ad fun p3 w4 e3 k3 u3=>?_
  change Az w2 p1 (kD s) at k1
  have q:=k1.Ai u3
  refine q.c0 (c:=KI) (x:=s.me) rfl (q.c1 1 (c:=KI) (x:=s.tmo) rfl (q.c1 2 (c:=KI) (x:=s.ign) rfl (q.c1 3 (c:=KI) (x:=s.need) rfl (q.c1 4 (c:=KI) (x:=s.drift) rfl (q.c1 5 (c:=KI) (x:=s.rnd) rfl (q.c1 6 (c:=KI) (x:=s.opn) rfl (q.c1 7 (c:=KI) (x:=s.own) rfl (q.c1 8 (c:=KI) (x:=s.lim) rfl (q.c1 9 (c:=KI) (x:=s.jit) rfl (q.c1 10 (c:=.b) (x:=s.gate) rfl ?_))))))))))
  refine k3.Fg (kD s) rfl rfl fun w16 k16 u16=>k16.cA (cs:=KSt) (stT s) rfl (hk w16 (Af.fresh u1 u3 u16 e3))
theorem U3.cl{a b c:Int}{w:World}{k:TR Wh→WP}(h: ∀w',Af w w'→k ((sK a b c,()),()) w'):Ae prog F.U3 [.agg #[iV a,iV b,iV c]] w false Wh k:=by
  refine U3.ok ?_
  unfold U3.wp
  refine Ad fun p w4 e k4 u4=>?_
  have no: ¬(1≤a∧a≤64∧1≤b∧b≤a∧0≤c∧c<a)→k ((false,()),()) w4:=fun hn=>by have:=h w4 u4;rw[Ah0 hn] at this;exact this
  refine k4.c0 rfl (Dx (fun c1=>k4.c0 rfl (Dx (fun c2=>k4.c1 1 rfl (Dx (fun c3=>k4.c1 1 rfl (k4.c0 rfl (Dx (fun c4=>k4.c1 2 rfl (Dx (fun c5=>k4.c1 2 rfl (k4.c0 rfl ?_)) fun n=>no fun q=>n q.2.2.2.2.1)) fun n=>no fun q=>n q.2.2.2.1))) fun n=>no fun q=>n q.2.2.1)) fun n=>no fun q=>n q.2.1)) fun n=>no fun q=>n q.1)
  have:=h w4 u4
  have e:sK a b c=decide (c<a):=by
    unfold sK
    rw[decide_eq_true (show 1≤a from c1),decide_eq_true (show a≤64 from c2),decide_eq_true (show 1≤b from c3),decide_eq_true (show b≤a from c4),decide_eq_true (show 0≤c from c5)];rfl
  rw[e] at this
  exact this
theorem Jy.cl{s:nS}{w:World}{k:TR [(true,K3i)]→WP}(hk: ∀w',Af w w'→k ((s.rnd,s.opn,s.own,()),()) w'):Ae prog F.Jy [.agg (kD s).toArray] w false [(true,K3i)] k:=by
  refine Jy.ok ?_
  unfold Jy.wp
  refine Ad fun p1 w2 e1 k1 u1=>Ad fun p3 w4 e3 k3 u3=>?_
  change Az w2 p1 (kD s) at k1
  have q:=k1.Ai u3
  refine q.c1 5 (c:=KI) (x:=s.rnd) rfl (q.c1 6 (c:=KI) (x:=s.opn) rfl (q.c1 7 (c:=KI) (x:=s.own) rfl ?_))
  exact k3.Fg [_,_,_] rfl rfl fun w8 k8 u8=>k8.bC (hk w8 (Af.fresh u1 u3 u8 e3))
theorem Ul.cl{s:nS}{w:World}{k:TR Wh→WP}(h: ∀w',Af w w'→k ((Yj s,()),()) w'):Ae prog F.Ul [.agg (kD s).toArray] w false Wh k:=by
  refine Ul.ok ?_
  unfold Ul.wp
  refine Ad fun p w2 e2 k2 u2=>?_
  change Az w2 p (kD s) at k2
  have no: ∀w',Af w w'→ ¬(0≤s.me∧s.me<64∧tV s.tmo s.ign s.need s.drift=true∧sK s.rnd s.opn s.own=true∧1≤s.lim∧s.lim≤s.tmo∧0≤s.jit∧s.jit≤20)→k ((false,()),()) w':=fun w' g hn=>by have:=h w' g;rw[Aag hn] at this;exact this
  refine k2.c0 (c:=KI) (x:=s.me) rfl (k2.c1 1 (c:=KI) (x:=s.tmo) rfl (k2.c1 2 (c:=KI) (x:=s.ign) rfl (k2.c1 3 (c:=KI) (x:=s.need) rfl (k2.c1 4 (c:=KI) (x:=s.drift) rfl (Vq.cl (bM (fun c1=>?_) fun n=>no w2 u2 fun q=>?_))))))
  · have c1:(decide (0≤s.me)&&decide (s.me<64)&&tV s.tmo s.ign s.need s.drift)=true:=c1
    simp only[Bool.and_eq_true,decide_eq_true_eq] at c1
    refine k2.cA (cs:=KSt) (stT s) rfl (Jy.cl (s:=s) fun w12 u12=>U3.cl fun w14 u14=>?_)
    have g14:=(u2.trans u12).trans u14
    have k14:=k2.Ai (u12.trans u14)
    refine bM (fun c4=>?_) fun n=>no w14 g14 fun q=>by have n:sK s.rnd s.opn s.own=false:=n;rw[n] at q;exact absurd q.2.2.2.1 (by decide)
    refine k14.c1 8 (c:=KI) (x:=s.lim) rfl (Dx (fun c5=>?_) fun n=>no w14 g14 fun q=>n q.2.2.2.2.1)
    refine k14.c1 8 (c:=KI) (x:=s.lim) rfl (k14.c1 1 (c:=KI) (x:=s.tmo) rfl (Dx (fun c6=>?_) fun n=>no w14 g14 fun q=>n q.2.2.2.2.2.1))
    refine k14.c1 9 (c:=KI) (x:=s.jit) rfl (Dx (fun c7=>?_) fun n=>no w14 g14 fun q=>n q.2.2.2.2.2.2.1)
    refine k14.c1 9 (c:=KI) (x:=s.jit) rfl ?_
    have:=h w14 g14
    have e:Yj s=decide (s.jit≤20):=by
      unfold Yj
      rw[decide_eq_true c1.1.1,decide_eq_true c1.1.2,c1.2,show sK s.rnd s.opn s.own=true from c4,decide_eq_true (show 1≤s.lim from c5),decide_eq_true (show s.lim≤s.tmo from c6),decide_eq_true (show 0≤s.jit from c7)];rfl
    rw[e] at this
    exact this
  · have n:(decide (0≤s.me)&&decide (s.me<64)&&tV s.tmo s.ign s.need s.drift)=false:=n
    rw[decide_eq_true q.1,decide_eq_true q.2.1,q.2.2.1] at n
    cases n
def s26:nS:=⟨0,1,0,1,0,4,4,0,1,0,false⟩
def d26:Nd:=(nd0 s26 none).turn 500
theorem Ao5:(d26.send 0 0).2.1.map Fr.by=[aK 1 (Z4 (0,0,1,1,0,500))]:=by kernel_rfl
theorem Ao8:(d26.send 0 0).2.2=0:=by kernel_rfl
theorem Aqt:(d26.send 0 0).1.time=((500,0,0,1,1),0):=by kernel_rfl
theorem Alh:(aK 1 (Z4 (0,0,1,1,0,500))).length=18∧(aK 1 (Z4 (0,0,1,1,0,500)))[0]? =some 1:=⟨by kernel_rfl,by kernel_rfl⟩
theorem law26_alive.cl{w:World}{k:TR Wh→WP}(hk: ∀w',Af w w'→k ((true,()),()) w'):Ae prog F.law26_alive [] w false Wh k:=by
  refine law26_alive.ok ?_
  unfold law26_alive.wp
  refine law26_setup.cl (s:=s26) fun w2 u2=>?_
  refine Uz.cl (s:=s26) (lp:=none) (fun hg=>absurd hg (by decide)) fun hg O N bf be w4 H4 hO g4=>?_
  refine Ji.cl H4 (raw:=500) (by decide) (by decide) fun w6 O6 H6 X6=>?_
  have H6:NW w6 O6 N bf be d26:=H6
  have G6:Xn d26:=(Xn.nd0 hg none).turn (by decide) (by decide)
  refine Hy.n (step:=0) (j:=0) H6 G6 fun y w8 O8 H8 S8 X8=>?_
  rw[Ao5] at S8
  rw[Ao8]
  refine D6.n H8 fun w10 u10=>?_
  rw[Aqt]
  refine Ad fun p11 w12 e11 k11 u12=>k11.Fg (encs K5 (Yc (500,0,0,1,1))) rfl rfl fun w13 k13 u13=>?_
  have f13:=Af.fresh u10 u12 u13 e11
  have XX:=((Nx.pre (u2.trans g4) X6).trans X8).Ai f13
  have gw:Af w w13:=Am.trans (u2.trans g4) (((X6.trans X8).Ai f13).u) fun i hi hz=>by have:=hO i hz;have:=u2.size;omega
  refine Vt rfl (Vt rfl (Vt rfl ?_))
  obtain⟨vs,r,l,_,gg⟩:=S8.upd (Q':=fun _=>False) f13 (fun _ _ _ x=>x) fun _ x=>x.elim
  obtain⟨v,hv,hr,_⟩:=gg 0 _ rfl
  have hl:y.2.1=1:=by have:=r.Abk;rw[List.length_map,l] at this;exact this
  refine Vt (by show((y.2.1:Int)==1)=true;rw[hl];rfl) ?_
  have hld:(vs.map bP)[0]? =some (bP v):=by rw[List.getElem?_map,hv];rfl
  have hvl:v.2.1=18:=by rw[hr.1.len',Alh.1]
  refine r.ixc (c:=.sl) (z:=0) (x:=v) rfl hld rfl ?_
  refine Vt (by rw[hvl];rfl) (r.ixc (c:=.sl) (z:=0) (x:=v) rfl hld rfl ?_)
  refine hr.1.ixc (c:=.i .u8) (z:=0) (x:=(1:Int)) rfl (aW Alh.2) rfl (Vt rfl (Vt rfl ?_))
  refine k13.c0 (c:=KI) (x:=(500:Int)) rfl (Vt rfl (k13.c1 4 (c:=KI) (x:=(1:Int)) rfl (hk w13 gw)))
theorem law26_same.cl{a:A5}{w:World}{k:TR Wh→WP}(hk: ∀w',Af w w'→k ((true,()),()) w'):Ae prog F.law26_same [.agg #[iV a.1,iV a.2.1,iV a.2.2.1,uV a.2.2.2.1,iV a.2.2.2.2],.agg #[iV a.1,iV a.2.1,iV a.2.2.1,uV a.2.2.2.1,iV a.2.2.2.2]] w false Wh k:=by
  refine law26_same.ok (a0:=a.1) (a1:=a.2.1) (a2:=a.2.2.1) (a3:=a.2.2.2.1) (a4:=a.2.2.2.2) (b0:=a.1) (b1:=a.2.1) (b2:=a.2.2.1) (b3:=a.2.2.2.1) (b4:=a.2.2.2.2) ?_
  unfold law26_same.wp
  refine Ad fun p1 w2 e1 k1 u1=>Ad fun p3 w4 e3 k3 u3=>?_
  have q:=k1.Ai u3
  refine q.c0 (c:=KI) (x:=a.1) rfl (k3.c0 (c:=KI) (x:=a.1) rfl (Vt (beq_self_eq_true _) (q.c1 1 (c:=KI) (x:=a.2.1) rfl (k3.c1 1 (c:=KI) (x:=a.2.1) rfl (Vt (beq_self_eq_true _) (q.c1 2 (c:=KI) (x:=a.2.2.1) rfl (k3.c1 2 (c:=KI) (x:=a.2.2.1) rfl (Vt (beq_self_eq_true _) (q.c2 2 1 (c:=KU) (x:=a.2.2.2.1) rfl (k3.c1 3 (c:=KU) (x:=a.2.2.2.1) rfl (Vt (beq_self_eq_true _) (q.c1 4 (c:=KI) (x:=a.2.2.2.2) rfl (k3.c1 4 (c:=KI) (x:=a.2.2.2.2) rfl ?_)))))))))))))
  rw[beq_self_eq_true]
  exact hk w4 (u1.trans u3)
theorem wX{P:Program}{w:World}{s:Sl}{xs:List Nat}(hR:Ur w s xs)(hx:eH xs){k:ByteArray→WP}(hk:k (baN xs) w):yE P (bP s) w k:=by
  have hn:=hR.len'
  obtain⟨sa,n,c⟩:=s
  simp only at hn
  subst hn
  cases sa with
  |none=>
    have h0:xs=[]:=by
      cases xs with
      |nil=>rfl
      |cons x t=>
        obtain⟨a,ha,_⟩:=hR.at_ (by simp)
        cases ha
    subst h0
    show(match (Conv.bytesToString (.slice none 0 c)).run P w with| .ok (.string s) w'=>k s w'|_=>False)
    have e:(Conv.bytesToString (.slice none 0 c)).run P w=.ok (.string (baN [])) w:=by
      simp[Conv.bytesToString,Sem.run_pure,baN]
      rfl
    rw[e];exact hk
  |some a=>
    have hl:=run_loadCells_list (P:=P) (w:=w) a (((xs.map UInt8.ofNat).map (fun b=>(b.toNat:Int))).map (Value.int .u8)) (fun j v hj=>by
      rw[List.getElem?_map,List.getElem?_map,List.getElem?_map] at hj
      cases hc:xs[j]? with
      |none=>rw[hc] at hj;cases hj
      |some x=>
        rw[hc] at hj
        simp only[Option.map_some,Option.some.injEq] at hj
        rw[hR.ld rfl (aW hc),←hj]
        have:=hx x (List.mem_of_getElem? hc)
        have e:(UInt8.ofNat x).toNat=x:=by simp;omega
        rw[e])
    simp only[List.length_map] at hl
    unfold yE
    rw[run_bytesToString w a xs.length c _ hl,foldl_push_byteCells]
    have e:(⟨ByteArray.empty.data++(xs.map UInt8.ofNat).toArray⟩:ByteArray)=baN xs:=by simp[baN]
    rw[e];exact hk
theorem Nx.both{A A' B B':NP}{w w1 w2:World}(a:Nx A w A' w1)(b:Nx B w1 B' w2):Nx (fun z=>A z∨B z) w (fun z=>A' z∨B' z) w2:=
  ⟨Am.trans (a.u.mono fun z hz=>.inl hz) b.u fun z _ hz=>.inr hz,fun z hz=>by
    rcases hz with hz|hz
    · rcases a.sub z hz with q|q
      · exact .inl (.inl q)
      · exact .inr q
    · rcases b.sub z hz with q|q
      · exact .inl (.inr q)
      · exact .inr (Nat.le_trans a.u.size q)⟩
structure Bp(w:World)(O:NP)(N:NB)(bf be:Nat)(O':NP)(M:NB)(br bE:Nat)(Y:NP)(d:Nd):Prop where
  nw:NW w O N bf be d
  rn:RN w O' M br bE (fun z=>NO N O z∨Y z) d
  yn: ∀z,Y z→ ¬NO N O z
  g:Xn d
  f:Y8 d
  s:Yu d
abbrev BZ(N:NB)(O:NP)(M:NB)(O':NP)(z:Nat):Prop:=NO N O z∨MO M O' z
theorem Bp.lt{w:World}{O:NP}{N:NB}{bf be:Nat}{O':NP}{M:NB}{br bE:Nat}{Y:NP}{d:Nd}(h:Bp w O N bf be O' M br bE Y d): ∀z,BZ N O M O' z→z<w.heap.size:=fun z hz=>hz.elim (h.nw.lt z) (h.rn.lt z)
theorem Bp.Ai{w w':World}{O:NP}{N:NB}{bf be:Nat}{O':NP}{M:NB}{br bE:Nat}{Y:NP}{d:Nd}(h:Bp w O N bf be O' M br bE Y d)(u:Af w w'):Bp w' O N bf be O' M br bE Y d:=⟨h.nw.Ai u,h.rn.Ai u,h.yn,h.g,h.f,h.s⟩
theorem Bp.drew{w:World}{O:NP}{N:NB}{bf be:Nat}{O':NP}{M:NB}{br bE:Nat}{Y:NP}{d:Nd}(h:Bp w O N bf be O' M br bE Y d):Bp w.drew O N bf be O' M br bE Y d:=h.Ai (Af.drew w)
theorem Bp.jobs{w:World}{O:NP}{N:NB}{bf be:Nat}{O':NP}{M:NB}{br bE:Nat}{Y:NP}{d:Nd}(h:Bp w O N bf be O' M br bE Y d):d.jobs.length≤100:=by
  have:=h.nw.je.len
  rw[List.length_map] at this;omega
theorem Bp.prog{w w1:World}{O O2:NP}{N:NB}{bf be:Nat}{O':NP}{M:NB}{br bE:Nat}{Y:NP}{d d':Nd}(h:Bp w O N bf be O' M br bE Y d)(k:NW w1 O2 N bf be d')(x:Nx (NO N O) w (NO N O2) w1):RN w1 O' M br bE (fun z=>NO N O2 z∨Y z) d∧ ∀z,Y z→ ¬NO N O2 z:=
  ⟨h.rn.far x.u (fun z _ hz=>.inl hz) (fun z hz=>hz.elim (fun q=>(x.sub z q).elim (fun q=>.inl (.inl q)) .inr) fun q=>.inl (.inr q)) fun z hz=>hz.elim (k.lt z) fun q=>Nat.lt_of_lt_of_le (h.rn.xl z (.inr q)).1 x.u.size,
   fun z hy hn=>(x.sub z hn).elim (h.yn z hy) fun q=>by have:=(h.rn.xl z (.inr hy)).1;omega⟩
theorem Bp.doc{w w1:World}{O:NP}{N:NB}{bf be:Nat}{O' O2:NP}{M M2:NB}{br bE:Nat}{Y:NP}{d d0:Nd}(h:RN w O' M br bE (fun z=>NO N O z∨Y z) d)(k:NW w O N bf be d0)(x:Nx (MO M O') w (MO M2 O2) w1):NW w1 O N bf be d0:=k.upd x.u fun z hz hm=>(h.xl z (.inl hz)).2 hm
theorem Bp.far{w w1:World}{O:NP}{N:NB}{bf be:Nat}{O':NP}{M:NB}{br bE:Nat}{S Y Y':NP}{d:Nd}(h:Bp w O N bf be O' M br bE Y d)(u:Am S w w1)(hS: ∀z,z<w.heap.size→S z→Y z)(hY: ∀z,Y' z→Y z∨w.heap.size≤z)(hl: ∀z,Y' z→z<w1.heap.size):Bp w1 O N bf be O' M br bE Y' d:=
  ⟨h.nw.upd u fun z hz hs=>h.yn z (hS z (h.nw.lt z hz) hs) hz,
   h.rn.far u (fun z hz hs=>.inr (hS z hz hs)) (fun z hz=>hz.elim (fun q=>.inl (.inl q)) fun q=>(hY z q).elim (fun q=>.inl (.inr q)) .inr) fun z hz=>hz.elim (fun q=>Nat.lt_of_lt_of_le (h.nw.lt z q) u.size) (hl z),
   fun z hy hn=>(hY z hy).elim (fun q=>h.yn z q hn) fun q=>by have:=h.nw.lt z hn;omega,h.g,h.f,h.s⟩
def Bo(w:World)(n m:Nat)(Z Y:NP)(d:Nd):Prop:= ∃O N bf be O' M br bE,N 0=n∧M 0=m∧(∀z,Z z↔BZ N O M O' z)∧Bp w O N bf be O' M br bE Y d
theorem Bp.bo{w:World}{O:NP}{N:NB}{bf be:Nat}{O':NP}{M:NB}{br bE:Nat}{Y:NP}{d:Nd}(h:Bp w O N bf be O' M br bE Y d):Bo w (N 0) (M 0) (BZ N O M O') Y d:=⟨O,N,bf,be,O',M,br,bE,rfl,rfl,fun _=>Iff.rfl,h⟩
theorem Bo.Ai{w w':World}{n m:Nat}{Z Y:NP}{d:Nd}(h:Bo w n m Z Y d)(u:Af w w'):Bo w' n m Z Y d:=by
  obtain⟨O,N,bf,be,O',M,br,bE,h1,h2,h3,h4⟩:=h
  exact⟨O,N,bf,be,O',M,br,bE,h1,h2,h3,h4.Ai u⟩
theorem Bo.lt{w:World}{n m:Nat}{Z Y:NP}{d:Nd}(h:Bo w n m Z Y d): ∀z,Z z→z<w.heap.size:=by
  obtain⟨O,N,bf,be,O',M,br,bE,h1,h2,h3,h4⟩:=h
  exact fun z hz=>h4.lt z ((h3 z).1 hz)
theorem Bo.yl{w:World}{n m:Nat}{Z Y:NP}{d:Nd}(h:Bo w n m Z Y d): ∀z,Y z→z<w.heap.size∧ ¬Z z:=by
  obtain⟨O,N,bf,be,O',M,br,bE,h1,h2,h3,h4⟩:=h
  exact fun z hz=>⟨(h4.rn.xl z (.inr hz)).1,fun e=>((h3 z).1 e).elim (h4.yn z hz) (h4.rn.xl z (.inr hz)).2⟩
theorem Bo.far{w w1:World}{n m:Nat}{Z S Y Y':NP}{d:Nd}(h:Bo w n m Z Y d)(u:Am S w w1)(hS: ∀z,z<w.heap.size→S z→Y z)(hY: ∀z,Y' z→Y z∨w.heap.size≤z)(hl: ∀z,Y' z→z<w1.heap.size):Bo w1 n m Z Y' d:=by
  obtain⟨O,N,bf,be,O',M,br,bE,h1,h2,h3,h4⟩:=h
  exact⟨O,N,bf,be,O',M,br,bE,h1,h2,h3,h4.far u hS hY hl⟩
structure Cl where
  kd:Int
  n:Int
  jit:Int
  raw:Int
  x:kC
  bs:Sl
  lab:ByteArray
abbrev KCl:List CK:=[KI,KI,KI,.i .u32,KI,KI,KI,KI,KU,KU,KI,KI,KI,KI,KI,KI,KI,KI,.sl,.s]
def cT(c:Cl):Jf KCl:=(c.kd,c.n,c.jit,c.raw,c.x.1,c.x.2.1,c.x.2.2.1,c.x.2.2.2.1,c.x.2.2.2.2.1,c.x.2.2.2.2.2.1,c.x.2.2.2.2.2.2.1,c.x.2.2.2.2.2.2.2.1,c.x.2.2.2.2.2.2.2.2.1,c.x.2.2.2.2.2.2.2.2.2.1,c.x.2.2.2.2.2.2.2.2.2.2.1,c.x.2.2.2.2.2.2.2.2.2.2.2.1,c.x.2.2.2.2.2.2.2.2.2.2.2.2.1,c.x.2.2.2.2.2.2.2.2.2.2.2.2.2.1,c.bs,c.lab,())
abbrev vCl(c:Cl):Value:=.agg #[iV c.kd,iV c.n,iV c.jit,.int .u32 c.raw,iV c.x.1,iV c.x.2.1,iV c.x.2.2.1,iV c.x.2.2.2.1,uV c.x.2.2.2.2.1,uV c.x.2.2.2.2.2.1,iV c.x.2.2.2.2.2.2.1,iV c.x.2.2.2.2.2.2.2.1,iV c.x.2.2.2.2.2.2.2.2.1,iV c.x.2.2.2.2.2.2.2.2.2.1,iV c.x.2.2.2.2.2.2.2.2.2.2.1,iV c.x.2.2.2.2.2.2.2.2.2.2.2.1,iV c.x.2.2.2.2.2.2.2.2.2.2.2.2.1,iV c.x.2.2.2.2.2.2.2.2.2.2.2.2.2.1,.slice c.bs.1 c.bs.2.1 c.bs.2.2,.string c.lab]
def hbC(c:Cl)(xs:List Nat):List Nat:=if wB c.x=true then aK c.x.1.toNat (kF c.x) else xs
def stepD(d:Nd)(c:Cl)(xs:List Nat):Nd:=
  if c.kd=0 then d.turn c.raw else if c.kd=1 then{d with on:=false} else if c.kd=2∨c.kd=3 then(d.go c.n).1
  else if c.kd=4∨c.kd=5 then(d.send c.n c.jit).1 else if c.kd=6∨c.kd=7∨c.kd=8 then(d.hear c.jit (hbC c xs)).1
  else if c.kd=9 then(d.tag c.lab).1 else if c.kd=10 then d.Ua.1 else if c.kd=11 then(d.fix c.n).1 else d
structure CG(w:World)(c:Cl)(xs:List Nat):Prop where
  raw:0≤c.raw∧c.raw<4294967296
  row:Ur w c.bs xs
  cap:c.bs.2.1≤c.bs.2.2
  byt:eH xs
  len:xs.length≤200
  lab:c.lab.size≤100
theorem Ur.Apx{S:NP}{w w':World}{s:Sl}{xs:List Nat}(h:Ur w s xs)(u:Am S w w')(hS:xs≠[]→ ∀a,s.1=some a→ ¬S a.block):Ur w' s xs:=by
  cases xs with
  |nil=>exact⟨h.len,fun e=>absurd rfl e⟩
  |cons x t=>exact Row.upd h u (hS (by simp))
theorem CG.Ai{w w':World}{c:Cl}{xs:List Nat}(h:CG w c xs)(u:Af w w'):CG w' c xs:=⟨h.raw,Row.Ai h.row u,h.cap,h.byt,h.len,h.lab⟩
theorem vX(x:kC): ∀e∈kF x,0≤e.1∧e.1≤8∧e.2.2≤1125899906842624:=by
  unfold kF
  split
  · exact bZ _
  split
  · exact cZ _
  split
  · exact bT _
  split
  · exact Z5 _
  split
  · exact aC _
  split
  · exact Yx _
  · intro e he;cases he
theorem Aax{x:kC}(h:wB x=true): ∃n:Nat,x.1=(n:Int)∧1≤n∧n≤6:=by
  unfold wB kF at h
  by_cases c1:x.1=1
  · exact⟨1,c1,by decide,by decide⟩
  by_cases c2:x.1=2
  · exact⟨2,c2,by decide,by decide⟩
  by_cases c3:x.1=3
  · exact⟨3,c3,by decide,by decide⟩
  by_cases c4:x.1=4
  · exact⟨4,c4,by decide,by decide⟩
  by_cases c5:x.1=5
  · exact⟨5,c5,by decide,by decide⟩
  by_cases c6:x.1=6
  · exact⟨6,c6,by decide,by decide⟩
  rw[if_neg c1,if_neg c2,if_neg c3,if_neg c4,if_neg c5,if_neg c6] at h
  cases h
theorem Hf.clP{x:kC}(hx:wB x=true){w:World}{k:TR jG→WP}(h: ∀(s:Sl) w',OwnB w' w.heap.size s (aK x.1.toNat (kF x))→Af w w'→k (((s.1,s.2.1,s.2.2),()),()) w'):Ae prog F.Hf [vP x] w false jG k:=by
  obtain⟨n,hn,n1,n6⟩:=Aax hx
  have hf:okF (kF x)=true:=by unfold wB at hx;exact(Bool.and_eq_true _ _▸hx).1
  have e:x.1.toNat=n:=by rw[hn];exact Int.toNat_natCast n
  rw[e] at h
  exact Hf.cl (x:=x) (kd:=n) (fs:=kF x) hn (by omega) (Y6 hf (Nat.le_trans (lY x) (by decide)) (vX x)) (fun{w k} hk=>Dq.clA (x:=x) hk) h
theorem Ajl{c:Cl}{xs:List Nat}(h:eH xs):eH (hbC c xs):=by
  unfold hbC
  split
  · rename_i hx
    obtain⟨n,hn,n1,n6⟩:=Aax hx
    have e:c.x.1.toNat=n:=by rw[hn];exact Int.toNat_natCast n
    rw[e]
    exact Aad (by omega) _
  · exact h
theorem Aks(fs:List E3)(h: ∀e∈fs,0≤e.1∧e.1≤8∧e.2.2≤1125899906842624):(Vb fs).length≤8*fs.length:=by
  induction fs with
  |nil=>simp[Vb]
  |cons e t ih=>
    have h1:=h e (List.mem_cons_self ..)
    have h2:=ih fun x hx=>h x (List.mem_cons_of_mem _ hx)
    have e1:Vb (e::t)=Ym e.1.toNat (wrap .u64 e.2.1).toNat++Vb t:=rfl
    rw[e1,List.length_append,Zk,List.length_cons]
    omega
theorem Akj{c:Cl}{xs:List Nat}(h:xs.length≤200):(hbC c xs).length≤1000:=by
  unfold hbC
  split
  · have h1:=Aks (kF c.x) (vX c.x)
    have h2:=lY c.x
    unfold aK kT
    simp only[List.length_append,List.length_cons,List.length_nil]
    omega
  · omega
theorem xY{out:List Fr}{o:Option Fr}(h: ∀f∈out,f.ok=true): ∀f∈Y4 out o,f.ok=true:=by
  cases o with
  |none=>exact h
  |some f=>
    rw[Yw]
    split
    · rename_i c
      intro g hg
      rcases List.mem_append.1 hg with hg|hg
      · exact h g hg
      · have:g=f:=by simpa using hg
        rw[this];exact c.1
    · exact h
theorem Agg(d:Nd)(st:Int): ∀(js:List Jb) (out:List Fr),(∀f∈out,f.ok=true)→ ∀f∈(d.pop st js out).2,f.ok=true
  |[],out,h=>h
  |j::t,out,h=>by
    by_cases c:out.length<3
    · rw[Nd.wJ c];exact Agg d st t _ (xY h)
    · rw[Nd.wK c];exact h
theorem Ajz(d:Nd)(step j:Int):(∀f∈(d.send step j).2.1,f.ok=true)∧(d.send step j).2.1.length≤3:=by
  unfold Nd.send
  split
  · exact⟨fun f hf=>(by cases hf),Nat.zero_le _⟩
  split
  · exact⟨fun f hf=>(by cases hf),Nat.zero_le _⟩
  unfold Nd.iH Nd.Yi
  have p1:=Agg (d.Ri (d.Yf j).1) (d.Yf j).1 d.jobs (Y4 [] (d.Yg (d.Yf j).1)) (xY fun f hf=>by cases hf)
  have p2:=Abl (d.Ri (d.Yf j).1) (d.Yf j).1 d.jobs (Y4 [] (d.Yg (d.Yf j).1)) (pG (Nat.zero_le _))
  dsimp only
  split
  · exact⟨xY p1,pG p2⟩
  · exact⟨p1,p2⟩
theorem Nx.both'{A A' B B':NP}{w w1 w2:World}(b:Nx B w B' w1)(a:Nx A w1 A' w2):Nx (fun z=>A z∨B z) w (fun z=>A' z∨B' z) w2:=by
  have h:=Nx.both b a
  exact⟨h.u.mono fun z hz=>hz.symm,fun z hz=>(h.sub z hz.symm).imp Or.symm id⟩
theorem RN.prog{w w1:World}{O O2:NP}{N:NB}{bf be:Nat}{O':NP}{M:NB}{br bE:Nat}{Y:NP}{d d':Nd}(h:RN w O' M br bE (fun z=>NO N O z∨Y z) d)(yn: ∀z,Y z→ ¬NO N O z)(k:NW w1 O2 N bf be d')(x:Nx (NO N O) w (NO N O2) w1):RN w1 O' M br bE (fun z=>NO N O2 z∨Y z) d∧ ∀z,Y z→ ¬NO N O2 z:=
  ⟨h.far x.u (fun z _ hz=>.inl hz) (fun z hz=>hz.elim (fun q=>(x.sub z q).elim (fun q=>.inl (.inl q)) .inr) fun q=>.inl (.inr q)) fun z hz=>hz.elim (k.lt z) fun q=>Nat.lt_of_lt_of_le (h.xl z (.inr q)).1 x.u.size,
   fun z hy hn=>(x.sub z hn).elim (yn z hy) fun q=>by have:=(h.xl z (.inr hy)).1;omega⟩
theorem Bp.next{w2:World}{O2:NP}{N:NB}{bf be:Nat}{O2':NP}{M M2:NB}{br bE:Nat}{Y:NP}{d':Nd}(e:M2 0=M 0)(nw:NW w2 O2 N bf be d')(rn:RN w2 O2' M2 br bE (fun z=>NO N O2 z∨Y z) d')(yn: ∀z,Y z→ ¬NO N O2 z)(g:Xn d')(f:Y8 d')(s:Yu d'):Bo w2 (N 0) (M 0) (BZ N O2 M2 O2') Y d':=⟨O2,N,bf,be,O2',M2,br,bE,rfl,e,fun _=>Iff.rfl,nw,rn,yn,g,f,s⟩
theorem Aij(d:Nd):d.off.1={d with on:=false}:=by
  unfold Nd.off
  split
  · rename_i h
    show d={d with on:=false}
    rw[←h]
  · rfl
theorem Apk(d:Nd):((d.off.2==0)==d.on)=true:=by
  unfold Nd.off
  cases h:d.on<;>rfl
theorem law26_does.n{w:World}{O:NP}{N:NB}{bf be:Nat}{O':NP}{M:NB}{br bE:Nat}{Y:NP}{d:Nd}(h:Bp w O N bf be O' M br bE Y d){c:Cl}{xs:List Nat}(hc:CG w c xs)(hbz:xs≠[]→ ∀a,c.bs.1=some a→ ¬BZ N O M O' a.block){k:TR Wh→WP}
    (hk: ∀w' Z',Bo w' (N 0) (M 0) Z' Y (stepD d c xs)→Nx (BZ N O M O') w Z' w'→k ((true,()),()) w'):Ae prog F.law26_does [pB (N 0),pB (M 0),vCl c] w false Wh k:=by
  refine law26_does.ok ?_
  unfold law26_does.wp
  refine Ad fun p1 w2 e1 k1 u1=>?_
  change Az w2 p1 (encs KCl (cT c)) at k1
  have hz:=h.lt
  have nN: ¬NO N O p1:=fun e=>by have:=hz p1 (.inl e);omega
  have nM: ¬MO M O' p1:=fun e=>by have:=hz p1 (.inr e);omega
  have h:=h.Ai u1
  have hc:=hc.Ai u1
  have l1:=k1.lt
  obtain⟨m0,m1,gf,gp,lm1,lm2,j1,j2⟩:=Uj.1 h.g.s
  have gfl:=Ya.1 gf
  refine k1.c0 (c:=KI) (x:=c.kd) rfl (Yl (fun c0=>?_) fun c0=>?_)
  · have c0:c.kd=0:=c0
    have e:stepD d c xs=d.turn c.raw:=by unfold stepD;rw[if_pos c0]
    rw[e] at hk
    refine k1.c1 3 (c:=.i .u32) (x:=c.raw) rfl (Gz.n h.rn h.g h.f hc.raw.1 hc.raw.2 fun w6 O6 M6 br6 bE6 e6 H6 X6=>?_)
    have nw6:=Bp.doc h.rn h.nw X6
    refine(k1.upd X6.u nM).c1 3 (c:=.i .u32) (x:=c.raw) rfl (Ji.cl nw6 hc.raw.1 hc.raw.2 fun w9 O9 H9 X9=>?_)
    obtain⟨rn9,yn9⟩:=H6.prog h.yn H9 X9
    exact hk w9 _ (Bp.next e6 H9 rn9 yn9 (h.g.turn hc.raw.1 hc.raw.2) (h.f.turn _) (Yu.turn d _)) (Nx.pre u1 (Nx.both' X6 X9))
  have c0: ¬c.kd=0:=c0
  refine Yl (fun c1=>?_) fun c1=>?_
  · have c1:c.kd=1:=c1
    have e:stepD d c xs=d.off.1:=by unfold stepD;rw[if_neg c0,if_pos c1,Aij]
    rw[e] at hk
    rw[Ac]
    refine h.rn.n0 11 (c:=.b) (x:=d.on) (fun _ _=>rfl) ?_
    rw[Ac]
    obtain⟨sW,sJ,hb,hW,hJ⟩:=h.rn.ex
    refine hb.sN 11 [.bool false] (by rw[S9];show 12≤22;decide) rfl fun w13 k13 u13=>?_
    have q: ∀z,z<w2.heap.size→z=M 0→MX M O' (fun z=>NO N O z∨Y z) z:=fun z _ e=>by rw[e];exact .inl (Xx M O' 0)
    have H13:=h.rn.set0 (jobs:=d.jobs) (on:=false) (boot:=d.boot) k13 (hW.upd u13 q fun _ _ x=>x) (hJ.upd u13 q fun _ _ x=>x) u13
    have X13:Nx (MO M O') w2 (MO M O') w13:=RN.nx 0 (by decide) u13
    have nw13:=Bp.doc h.rn h.nw X13
    refine Qg.n nw13 fun w15 H15 X15=>?_
    obtain⟨rn15,yn15⟩:=H13.prog h.yn H15 X15
    have e2:({d with jobs:=d.jobs,on:=false,boot:=d.boot}:Nd)=d.off.1:=(Aij d).symm
    rw[e2] at rn15
    rw[Apk]
    exact hk w15 _ (Bp.next rfl H15 rn15 yn15 h.g.off h.f.off h.s.off) (Nx.pre u1 (Nx.both' X13 X15))
  have c1: ¬c.kd=1:=c1
  refine Cc.by (fun z W=>z=(decide (c.kd=2∨c.kd=3),())∧w2=W) ?_ ?_
  · refine Yl (fun e=>⟨?_,rfl⟩) fun e=>⟨?_,rfl⟩
    · have e:c.kd=2:=e
      show((c.kd==2),())=_
      rw[e];rfl
    · have e: ¬c.kd=2:=e
      show((c.kd==3),())=_
      have:(c.kd==3)=decide (c.kd=2∨c.kd=3):=by
        by_cases e3:c.kd=3
        · rw[e3];rfl
        · rw[decide_eq_false (fun h=>h.elim e e3),beq_false_of_ne e3]
      rw[this]
  rintro _ _ ⟨rfl,rfl⟩ _
  refine Dx (fun c2=>?_) fun c2=>?_
  · have c2:c.kd=2∨c.kd=3:=c2
    have e:stepD d c xs=(d.go c.n).1:=by unfold stepD;rw[if_neg c0,if_neg c1,if_pos c2]
    rw[e] at hk
    rw[Ac]
    refine h.rn.n0 11 (c:=.b) (x:=d.on) (fun _ _=>rfl) (Ee (fun ho=>?_) fun ho=>?_)
    · have ho:d.on=false:=ho
      have eg:d.go c.n=(d,10):=by unfold Nd.go;rw[if_pos ho]
      refine k1.c1 1 (c:=KI) (x:=c.n) rfl (Lr.n h.nw h.g fun w23 H23 X23=>?_)
      obtain⟨rn23,yn23⟩:=h.rn.prog h.yn H23 X23
      rw[eg] at H23 hk⊢
      exact hk w23 _ (Bp.next rfl H23 rn23 yn23 h.g h.f h.s) (Nx.pre u1 (Nx.both X23 (Nx.of (O:=MO M O') (Af.refl _))))
    · have ho:d.on=true:=ho
      have eg:d.go c.n=({d with now:=if goT d.s.drift d.now c.n=0 then d.now+c.n else d.now},goT d.s.drift d.now c.n):=by unfold Nd.go;rw[if_neg (by rw[ho];decide)]
      rw[Ap]
      have h:=h.drew
      have k1:=k1.drew
      have u1:=u1.trans (Af.drew w2)
      generalize w2.drew=w24 at*
      obtain⟨sW,sJ,hb,_⟩:=h.rn.ex
      refine k1.c1 1 (c:=KI) (x:=c.n) rfl ?_
      rw[Ac]
      refine h.rn.n0 13 (c:=.p) (x:=some ⟨M 1,0,none⟩) (fun _ _=>rfl) (k1.c1 1 (c:=KI) (x:=c.n) rfl ?_)
      refine Lr.n h.nw h.g fun w30 H30 X30=>?_
      obtain⟨rn30,yn30⟩:=h.rn.prog h.yn H30 X30
      have k30:=k1.upd X30.u nN
      have nM0: ¬NO N O (M 0):=fun e=>(h.rn.xl _ (.inl e)).2 (Xx M O' 0)
      refine⟨⟨k1.hold X30.u nN 1 (by rw[Ak];decide),hb.hold X30.u nM0 13 (by rw[S9];decide),k1.hold X30.u nN 1 (by rw[Ak];decide),trivial⟩,?_⟩
      refine Ph.cl (d:=d.s.drift) (n:=d.now) (by omega) h.g.now rn30.cb fun w32 k32 u32=>?_
      have X32:Nx (MO M O') w30 (MO M O') w32:=RN.nx 1 (by decide) u32
      have rn32:=rn30.set1 k32 u32
      have nw32:=Bp.doc rn30 H30 X32
      have np1:p1≠M 1:=fun e=>nM (e▸Xx M O' 1)
      refine⟨⟨?_,trivial⟩,?_⟩
      · have c32:=(k30.upd u32 np1).cell 1
        have c24:=k1.cell 1
        show w32.cell? (Addr.add ⟨p1,0,none⟩ 1)=some ((w24.cell? (Addr.add ⟨p1,0,none⟩ 1)).getD undef)
        rw[add_eq,Nat.zero_add,c32,c24];rfl
      · have e2:(d.go c.n).2=goT d.s.drift d.now c.n:=by rw[eg]
        rw[e2,beq_self_eq_true]
        have gg:=h.g.go c.n
        have ff:=h.f.go c.n
        have ss:=h.s.go c.n
        rw[eg] at nw32 hk gg ff ss
        exact hk w32 _ (Bp.next rfl nw32 rn32 yn30 gg ff ss) (Nx.pre u1 (Nx.both X30 X32))
  have c2: ¬(c.kd=2∨c.kd=3):=c2
  refine Cc.by (fun z W=>z=(decide (c.kd=4∨c.kd=5),())∧w2=W) ?_ ?_
  · refine Yl (fun e=>⟨?_,rfl⟩) fun e=>⟨?_,rfl⟩
    · have e:c.kd=4:=e
      show((c.kd==4),())=_
      rw[e];rfl
    · have e: ¬c.kd=4:=e
      show((c.kd==5),())=_
      have:(c.kd==5)=decide (c.kd=4∨c.kd=5):=by
        by_cases e3:c.kd=5
        · rw[e3];rfl
        · rw[decide_eq_false (fun h=>h.elim e e3),beq_false_of_ne e3]
      rw[this]
  rintro _ _ ⟨rfl,rfl⟩ _
  refine Dx (fun c4=>?_) fun c4=>?_
  · have c4:c.kd=4∨c.kd=5:=c4
    have e:stepD d c xs=(d.send c.n c.jit).1:=by unfold stepD;rw[if_neg c0,if_neg c1,if_neg c2,if_pos c4]
    rw[e] at hk
    refine k1.c1 1 (c:=KI) (x:=c.n) rfl (k1.c1 2 (c:=KI) (x:=c.jit) rfl (Hy.n h.nw h.g fun y w39 O39 H39 S39 X39=>?_))
    obtain⟨rn39,yn39⟩:=h.rn.prog h.yn H39 X39
    have k39:=k1.upd X39.u nN
    have lt2:=h.rn.lt
    refine k39.c1 1 (c:=KI) (x:=c.n) rfl (k39.c1 2 (c:=KI) (x:=c.jit) rfl (Me.n rn39 h.g fun s w43 O43 H43 R43 X43=>?_))
    have nw43:=Bp.doc rn39 H39 X43
    refine Vt (beq_self_eq_true _) ?_
    have S43:=S39.upd (Q':=fun _=>False) X43.u (fun z hL hq hm=>by have:=lt2 z hm;omega) fun _ x=>x.elim
    obtain⟨ok1,ok2⟩:=Ajz d c.n c.jit
    refine law26_sent.cl S43 (Gs.dr R43 rfl) ok1 (by omega) fun w45 u45=>?_
    exact hk w45 _ ((Bp.next rfl nw43 H43.xbe yn39 (h.g.send _ _) (h.f.send _ _) (h.s.send _ _)).Ai u45) (Nx.pre u1 ((Nx.both X39 X43).Ai u45))
  have c4: ¬(c.kd=4∨c.kd=5):=c4
  refine Cc.by (fun z W=>z=(decide (c.kd=6∨c.kd=7∨c.kd=8),())∧w2=W) ?_ ?_
  · refine Yl (fun e=>⟨?_,rfl⟩) fun e=>Yl (fun e7=>⟨?_,rfl⟩) fun e7=>⟨?_,rfl⟩
    · have e:c.kd=6:=e
      show((c.kd==6),())=_
      rw[e];rfl
    · have e7:c.kd=7:=e7
      show((c.kd==7),())=_
      rw[e7];rfl
    · have e: ¬c.kd=6:=e
      have e7: ¬c.kd=7:=e7
      show((c.kd==8),())=_
      have:(c.kd==8)=decide (c.kd=6∨c.kd=7∨c.kd=8):=by
        by_cases e3:c.kd=8
        · rw[e3];rfl
        · rw[decide_eq_false (fun h=>h.elim e fun h=>h.elim e7 e3),beq_false_of_ne e3]
      rw[this]
  rintro _ _ ⟨rfl,rfl⟩ _
  refine Dx (fun c6=>?_) fun c6=>?_
  · have c6:c.kd=6∨c.kd=7∨c.kd=8:=c6
    have e:stepD d c xs=(d.hear c.jit (hbC c xs)).1:=by unfold stepD;rw[if_neg c0,if_neg c1,if_neg c2,if_neg c4,if_pos c6]
    rw[e] at hk
    refine k1.c1 18 (c:=.sl) (x:=c.bs) rfl ?_
    have hBy:=Ajl (c:=c) hc.byt
    have hLe:=Akj (c:=c) hc.len
    obtain⟨hb,ehb⟩: ∃hb,hb=hbC c xs:=⟨_,rfl⟩
    rw[←ehb] at hBy hLe hk
    refine Cc.by (fun z W=>Af w2 W∧Ur W z.1 hb∧z.1.2.1≤z.1.2.2∧(hb≠[]→ ∀a,z.1.1=some a→ ¬BZ N O M O' a.block)) ?_ ?_
    · refine k1.cN 4 (cs:=Uo) c.x rfl (Fb.clA fun w55 u55=>bM (fun cg=>?_) fun cg=>?_)
      · have cg:wB c.x=true:=cg
        have eh:hb=aK c.x.1.toNat (kF c.x):=by rw[ehb];unfold hbC;rw[if_pos cg]
        refine(k1.Ai u55).cN 4 (cs:=Uo) c.x rfl (Hf.clP cg fun s w58 o58 u58=>⟨u55.trans u58,?_,o58.cap,fun _ a ha hq=>?_⟩)
        · rw[eh];exact o58.row
        · have:=(o58.blk ha).1
          have:=hz _ hq
          have:=u1.size;have:=u55.size;omega
      · have cg:wB c.x=false:=cg
        have eh:hb=xs:=by rw[ehb];unfold hbC;rw[if_neg (by rw[cg];decide)]
        refine⟨u55,?_,hc.cap,fun hn=>hbz (eh▸hn)⟩
        rw[eh];exact Row.Ai hc.row u55
    rintro⟨sb,_⟩ w52 ⟨g52,r52,c52,n52⟩ _
    dsimp only at r52 c52 n52
    have h:=h.Ai g52
    have k1:=k1.Ai g52
    have u52:=u1.trans g52
    refine Zv 1 0 (by simp) (by omega) fun p59 w60 e59 o59 u60=>?_
    refine Vx (s:=(some ⟨p59,0,none⟩,0,0)) (x:=sb) (base:=p59) (e:=T.uint8) (size:=1) (n:=0) (xs:=[]) (news:=dV hb) (by kernel_rfl) (by kernel_rfl) (by decide) o59 (Row.Ai r52 u60) (Za _) (by have:=r52.len';omega) (Nat.le_of_lt (o59.blk rfl).2.1) fun y w62 o62 u62 b62=>?_
    have u62':Af w52 w62:=Am.trans u60 u62 fun z hz' ⟨a,ha,hh⟩=>by cases ha;simp only at hh;omega
    rw[Ap]
    have h:=(h.Ai u62').drew
    have k1:=(k1.Ai u62').drew
    have rb:=Row.Ai (Row.Ai r52 u62') (Af.drew w62)
    have ry:Ur w62.drew y hb:=Row.Ai (by have:=o62.row;rw[List.nil_append] at this;exact this) (Af.drew w62)
    have cy:=o62.cap
    have yb: ∀a,y.1=some a→w52.heap.size≤a.block:=fun a ha=>by have:=(o62.blk ha).1;omega
    have G:=(u52.trans u62').trans (Af.drew w62)
    have zs:=u52.size
    generalize w62.drew=w63 at*
    have zl: ∀z,BZ N O M O' z→z<w52.heap.size:=fun z hq=>Nat.lt_of_lt_of_le (hz z hq) zs
    refine k1.c1 2 (c:=KI) (x:=c.jit) rfl (k1.c1 2 (c:=KI) (x:=c.jit) rfl (Ia.n h.nw h.g hBy ry cy fun w67 O67 H67 X67=>?_))
    obtain⟨rn67,yn67⟩:=h.rn.prog h.yn H67 X67
    refine⟨⟨k1.hold X67.u nN 2 (by rw[Ak];decide),k1.hold X67.u nN 2 (by rw[Ak];decide),trivial⟩,?_⟩
    have rb67:=Ur.Apx rb X67.u fun hn a ha hq=>n52 hn a ha (.inl hq)
    have ry67:=Row.upd ry X67.u fun a ha hq=>by have:=yb a ha;have:=zl _ (.inl hq);omega
    refine Nu.n rn67 h.g h.jobs hBy (by omega) rb67 c52 fun w69 O69 H69 X69=>?_
    have k67:=k1.upd X67.u nN
    have hp:Hold [(7,Addr.add ⟨p1,0,none⟩ 2,(w63.cell? (Addr.add ⟨p1,0,none⟩ 2)).getD undef),(2,Addr.add ⟨p1,0,none⟩ 2,(w63.cell? (Addr.add ⟨p1,0,none⟩ 2)).getD undef)] w69:=by
      have c69:=(k67.upd X69.u nM).cell 2
      have c63:=k1.cell 2
      have e:w69.cell? (Addr.add ⟨p1,0,none⟩ 2)=some ((w63.cell? (Addr.add ⟨p1,0,none⟩ 2)).getD undef):=by rw[add_eq,Nat.zero_add,c69,c63];rfl
      exact⟨e,e,trivial⟩
    have rb69:Ur w69 sb hb:=Ur.Apx rb67 X69.u fun hn a ha hq=>n52 hn a ha (.inr hq)
    have ry69:Ur w69 y hb:=Row.upd ry67 X69.u fun a ha hq=>by have:=yb a ha;have:=zl _ (.inr hq);omega
    refine⟨hp,Vt (beq_self_eq_true _) ?_⟩
    have nw69:=Bp.doc rn67 H67 X69
    have fin:=hk w69 _ (Bp.next rfl nw69 H69 yn67 (h.g.hear _ hBy) (h.f.hear _ _) (h.s.hear _ hBy)) (Nx.pre G (Nx.both X67 X69))
    have eb:(baN hb==baN hb)=true:=(dU _ _).2 rfl
    exact⟨wX ry69 hBy ⟨hp,wX rb69 hBy ⟨hp,by rw[eb];exact fin⟩⟩,wX rb69 hBy ⟨hp,wX ry69 hBy ⟨hp,by rw[eb];exact fin⟩⟩⟩
  have c6: ¬(c.kd=6∨c.kd=7∨c.kd=8):=c6
  refine Yl (fun c9=>?_) fun c9=>?_
  · have c9:c.kd=9:=c9
    have e:stepD d c xs=(d.tag c.lab).1:=by unfold stepD;rw[if_neg c0,if_neg c1,if_neg c2,if_neg c4,if_neg c6,if_pos c9]
    rw[e] at hk
    have hl:=hc.lab
    refine k1.c1 19 (c:=.s) (x:=c.lab) rfl (Qj.n (s:=c.lab) h.nw (by omega) fun w80 H80 X80=>?_)
    obtain⟨rn80,yn80⟩:=h.rn.prog h.yn H80 X80
    refine(k1.upd X80.u nN).c1 19 (c:=.s) (x:=c.lab) rfl (O5.n (s:=c.lab) rn80 (by omega) fun w83 H83 X83=>?_)
    have nw83:=Bp.doc rn80 H80 X83
    refine Vt (beq_self_eq_true _) ?_
    rw[beq_self_eq_true]
    exact hk w83 _ (Bp.next rfl nw83 H83 yn80 (h.g.tag _) (h.f.tag _) (h.s.tag _)) (Nx.pre u1 (Nx.both X80 X83))
  have c9: ¬c.kd=9:=c9
  refine Yl (fun c10=>?_) fun c10=>?_
  · have c10:c.kd=10:=c10
    have e:stepD d c xs=d.Ua.1:=by unfold stepD;rw[if_neg c0,if_neg c1,if_neg c2,if_neg c4,if_neg c6,if_neg c9,if_pos c10]
    rw[e] at hk
    refine Oq.n h.nw fun w85 H85 X85=>?_
    obtain⟨rn85,yn85⟩:=h.rn.prog h.yn H85 X85
    obtain⟨ev,eev⟩: ∃ev,ev=d.Ua.2.getD ev0:=⟨_,rfl⟩
    rw[←eev]
    refine Ad fun p86 w87 e86 k86 u87=>k86.Fg (encs jD (fK ev)) rfl rfl fun w88 k88 u88=>?_
    have g88:Af w85 w88:=Af.fresh (Af.refl _) u87 u88 e86
    have n86: ¬MO M O' p86:=fun e=>by have:=rn85.lt p86 e;omega
    have gg:=h.g.Ua
    have ff:=h.f.Ua
    have ss:=h.s.Ua
    have go: ∀{a:Int} {l:ByteArray} {x:Jf sV} {is:Bool} {w90:World},a=ev.id→l=ev.lab→x=xI ev→is=d.Ua.2.isSome→RN w90 O' M br bE (fun z=>NO N O z∨Y z) d.Ua.1→Nx (MO M O') w88 (MO M O') w90→Bf [iV 0,iV 0,iV 0,iV 0,uV 0,iV 0] T.V4 w90 fun p91 w92=>Au (encs sV x) p91 0 w92 fun w93=>Aj (d.Ua.2.isSome==is) (ld1 KI ⟨p86,0,none⟩ w93 fun x94=>Aj (x94==a) (ld1 .s (Addr.add ⟨p86,0,none⟩ 1) w93 fun x95=>Aj (x95==l) (ld1 KI (Addr.add ⟨p86,0,none⟩ 2) w93 fun x96=>ld1 KI p91 w93 fun x97=>Aj (x96==x97) (A8 K5 (Addr.add ⟨p86,0,none⟩ 3) 0 w93 fun x98=>A8 K5 (Addr.add p91 1) 0 w93 fun x99=>Ae prog F.law26_same [.agg #[iV x98.1,iV x98.2.1,iV x98.2.2.1,uV x98.2.2.2.1,iV x98.2.2.2.2.1],.agg #[iV x99.1,iV x99.2.1,iV x99.2.2.1,uV x99.2.2.2.1,iV x99.2.2.2.2.1]] w93 false Wh fun r100 w101=>k ((r100.1.1,()),()) w101) (k ((false,()),()) w93)) (k ((false,()),()) w93)) (k ((false,()),()) w93)) (k ((false,()),()) w93):=fun{a l x is w90} ea el ex ei R90 X90=>by
      subst ea el ex ei
      refine Ad fun p91 w92 e91 k91 u92=>k91.Fg (encs sV (xI ev)) rfl rfl fun w93 k93 u93=>?_
      have g93:Af w90 w93:=Af.fresh (Af.refl _) u92 u93 e91
      have K86:=((k88.upd X90.u n86).Ai g93)
      refine Vt (beq_self_eq_true _) (K86.c0 (c:=KI) (x:=ev.id) rfl (Vt (beq_self_eq_true _) (K86.c1 1 (c:=.s) (x:=ev.lab) rfl (Vt ((dU _ _).2 rfl) (K86.c1 2 (c:=KI) (x:=ev.loc) rfl (k93.c0 (c:=KI) (x:=ev.loc) rfl (Vt (beq_self_eq_true _) (K86.cN 3 (cs:=K5) (Yc ev.a) rfl (k93.cN 1 (cs:=K5) (Yc ev.a) rfl (law26_same.cl (a:=ev.a) fun w101 u101=>?_))))))))))
      have nw90:=Bp.doc (rn85.Ai g88) (H85.Ai g88) X90
      exact hk w101 _ (((Bp.next rfl nw90 R90 yn85 gg ff ss).Ai g93).Ai u101) (Nx.pre u1 ((((Nx.both X85 (Nx.pre g88 X90)).Ai g93).Ai u101)))
    refine Ii.n (rn85.Ai g88) (fun he w90 R90 X90=>?_) fun ev' t he het w90 R90 X90=>?_
    · have e0:ev=ev0:=by rw[eev,he];rfl
      have R90:RN w90 O' M br bE (fun z=>NO N O z∨Y z) d.Ua.1:=by rw[he];exact R90
      exact go (a:=0) (l:=⟨#[]⟩) (x:=(0,0,0,0,0,0,())) (is:=false) (by rw[e0];rfl) (by rw[e0];rfl) (by rw[e0];rfl) (by rw[he];rfl) R90 X90
    · have e0:ev=ev':=by rw[eev,het];rfl
      have R90:RN w90 O' M br bE (fun z=>NO N O z∨Y z) d.Ua.1:=by rw[het];exact R90
      exact go (a:=ev'.id) (l:=ev'.lab) (x:=xI ev') (is:=true) (by rw[e0]) (by rw[e0]) (by rw[e0]) (by rw[het];rfl) R90 X90
  have c10: ¬c.kd=10:=c10
  refine Yl (fun c11=>?_) fun c11=>?_
  · have c11:c.kd=11:=c11
    have e:stepD d c xs=(d.fix c.n).1:=by unfold stepD;rw[if_neg c0,if_neg c1,if_neg c2,if_neg c4,if_neg c6,if_neg c9,if_neg c10,if_pos c11]
    rw[e] at hk
    rw[Ap]
    have h:=h.drew
    have k1:=k1.drew
    have u1:=u1.trans (Af.drew w2)
    generalize w2.drew=w102 at*
    refine k1.c1 1 (c:=KI) (x:=c.n) rfl (k1.c1 1 (c:=KI) (x:=c.n) rfl (Qc.n h.nw fun w106 H106 X106=>?_))
    obtain⟨rn106,yn106⟩:=h.rn.prog h.yn H106 X106
    refine⟨⟨k1.hold X106.u nN 1 (by rw[Ak];decide),k1.hold X106.u nN 1 (by rw[Ak];decide),trivial⟩,?_⟩
    refine Ot.n rn106 h.g h.jobs fun w108 H108 X108=>?_
    have nw108:=Bp.doc rn106 H106 X108
    refine⟨⟨?_,trivial⟩,?_⟩
    · have c108:=((k1.upd X106.u nN).upd X108.u nM).cell 1
      have c102:=k1.cell 1
      show w108.cell? (Addr.add ⟨p1,0,none⟩ 1)=some ((w102.cell? (Addr.add ⟨p1,0,none⟩ 1)).getD undef)
      rw[add_eq,Nat.zero_add,c108,c102];rfl
    · rw[beq_self_eq_true]
      exact hk w108 _ (Bp.next rfl nw108 H108 yn106 (h.g.fix _ (Anq h.rn.fw.inv h.s)) (h.f.fix _) (h.s.fix _)) (Nx.pre u1 (Nx.both X106 X108))
  have c11: ¬c.kd=11:=c11
  have e:stepD d c xs=d:=by unfold stepD;rw[if_neg c0,if_neg c1,if_neg c2,if_neg c4,if_neg c6,if_neg c9,if_neg c10,if_neg c11]
  rw[e] at hk
  exact hk w2 _ h.bo (Nx.of u1)
end Go.Proofs.YtnjmfbjgcfnanaaGreat
