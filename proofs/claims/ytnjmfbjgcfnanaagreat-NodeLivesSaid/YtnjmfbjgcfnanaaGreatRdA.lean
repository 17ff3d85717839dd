import Derived.Test.YtnjmfbjgcfnanaaGreatNdE
namespace Go.Proofs.YtnjmfbjgcfnanaaGreat
open Go Go.Eng Tryz
open Go.IntKind (wrap)
set_option linter.unusedSimpArgs false
set_option linter.unusedVariables false
set_option maxRecDepth 100000
set_option maxHeartbeats 8000000
structure DR(w:World)(s:Sl)(cs:List CK)(xs:List (Jf cs)):Prop where
  row:aP w s cs xs
  cap:s.2.1≤s.2.2
theorem DR.nil(w:World)(cs:List CK):DR w (none,0,0) cs []:=⟨⟨by simp,fun h=>absurd rfl h⟩,Nat.le_refl _⟩
theorem DR.upd{S:NP}{w w':World}{s:Sl}{cs:List CK}{xs:List (Jf cs)}(h:DR w s cs xs)(u:Am S w w')(hS: ∀a,s.1=some a→ ¬S a.block):DR w' s cs xs:=⟨Row.upd h.row u hS,h.cap⟩
theorem DR.Ai{w w':World}{s:Sl}{cs:List CK}{xs:List (Jf cs)}(h:DR w s cs xs)(u:Af w w'):DR w' s cs xs:=⟨h.row.Ai u,h.cap⟩
theorem DR.len{w:World}{s:Sl}{cs:List CK}{xs:List (Jf cs)}(h:DR w s cs xs)(h0:0<cs.length):s.2.1=xs.length:=h.row.len h0
theorem DR.lt{w:World}{s:Sl}{cs:List CK}{xs:List (Jf cs)}(h:DR w s cs xs)(h0:0<cs.length)(hx:xs≠[]){a:Addr}(ha:s.1=some a):a.block<w.heap.size:=by
  obtain⟨x,t,rfl⟩:=List.exists_cons_of_ne_nil hx
  have hl:0<(((x::t).flatMap (encs cs))).length:=by rw[cO];exact Nat.mul_pos (by simp) h0
  have:=h.row.ld ha (List.getElem?_eq_getElem hl)
  have:=cell_lt this
  rwa [add_block] at this
theorem DR.head{w:World}{s:Sl}{cs:List CK}{x:Jf cs}{t:List (Jf cs)}(h:DR w s cs (x::t))(h0:0<cs.length){n:Nat}(hn:n=cs.length){k:Jf cs→Prop}(hk:k x):Ny s.1 s.2.1 0 fun a=>A8 cs (a.add ((0:Int).toNat*n)) 0 w k:=by
  subst hn
  exact h.row.ix h0 (i:=0) rfl rfl fun a ha=>h.row.A8 ha (i:=0) rfl hk
theorem DR.at{w:World}{s:Sl}{cs:List CK}{xs:List (Jf cs)}(h:DR w s cs xs)(h0:0<cs.length){n:Nat}(hn:n=cs.length){z:Int}{i:Nat}(hz:z=i){x:Jf cs}(hi:xs[i]? =some x){k:Jf cs→Prop}(hk:k x):Ny s.1 s.2.1 z fun a=>A8 cs (a.add (z.toNat*n)) 0 w k:=by
  subst hn hz
  exact h.row.ix h0 (i:=i) rfl hi fun a ha=>h.row.A8 ha (i:=i) hi hk
theorem DR.tail{w:World}{s:Sl}{cs:List CK}{x:Jf cs}{t:List (Jf cs)}(h:DR w s cs (x::t))(h0:0<cs.length){n:Nat}(hn:n=cs.length){k:Sl→Prop}(hk: ∀s',DR w s' cs t→(∀a,s'.1=some a→ ∃a0,s.1=some a0∧a.block=a0.block)→k s'):
    sQ 1 (s.2.1:Int) s.2.2 (k (dG s.1 s.2.2 (Int.toNat 1) n,((Int.toNat (s.2.1:Int))-(Int.toNat 1)),(s.2.2-Int.toNat 1))):=by
  subst hn
  have hl:=h.len h0
  have hc:=h.cap
  rw[List.length_cons] at hl
  rw[mZ (by omega)]
  refine hk _ ⟨⟨?_,?_⟩,?_⟩ ?_
  · show(Int.toNat (s.2.1:Int)-1)*cs.length=_
    rw[cO,Int.toNat_natCast,hl];rfl
  · intro hx
    have ht:t≠[]:=by intro e;rw[e] at hx;exact hx rfl
    have htl:0<t.length:=List.length_pos_iff.2 ht
    obtain⟨a,ha,hk⟩:=h.row.at_ (by rw[List.flatMap_cons];intro e;have:=congrArg List.length e;rw[List.length_append,Ak,List.length_nil] at this;omega)
    refine⟨a.add (1*cs.length),?_,fun k v hv=>?_⟩
    · show dG s.1 s.2.2 (Int.toNat 1) cs.length=_
      unfold dG
      rw[if_neg (by show¬s.2.2=1;omega),ha];rfl
    · rw[add_add]
      refine hk _ _ ?_
      rw[List.flatMap_cons,List.getElem?_append_right (by rw[Ak];omega),Ak,show 1*cs.length+k-cs.length=k by omega]
      exact hv
  · show Int.toNat (s.2.1:Int)-1≤s.2.2-1
    rw[Int.toNat_natCast];omega
  · intro a ha
    change dG s.1 s.2.2 (Int.toNat 1) cs.length=some a at ha
    unfold dG at ha
    split at ha
    · exact⟨a,ha,rfl⟩
    · obtain⟨a0,e0,e1⟩:=Option.map_eq_some_iff.1 ha
      refine⟨a0,e0,?_⟩
      rw[←e1,add_block]
theorem DR.Aow{w:World}{s:Sl}{cs:List CK}{x:Jf cs}{t:List (Jf cs)}(h:DR w s cs (x::t))(h0:0<cs.length){n:Nat}(hn:n=cs.length):(∀p:Prop,sQ 1 (s.2.1:Int) s.2.2 p=p)∧DR w (dG s.1 s.2.2 (Int.toNat 1) n,((Int.toNat (s.2.1:Int))-(Int.toNat 1)),(s.2.2-Int.toNat 1)) cs t∧ ∀a,dG s.1 s.2.2 (Int.toNat 1) n=some a→ ∃a0,s.1=some a0∧a.block=a0.block:=by
  have hl:=h.len h0
  have hc:=h.cap
  rw[List.length_cons] at hl
  have q:sQ 1 (s.2.1:Int) s.2.2 (DR w (dG s.1 s.2.2 (Int.toNat 1) n,((Int.toNat (s.2.1:Int))-(Int.toNat 1)),(s.2.2-Int.toNat 1)) cs t∧ ∀a,dG s.1 s.2.2 (Int.toNat 1) n=some a→ ∃a0,s.1=some a0∧a.block=a0.block):=h.tail h0 hn (k:=fun s'=>DR w s' cs t∧ ∀a,s'.1=some a→ ∃a0,s.1=some a0∧a.block=a0.block) fun s' d b=>⟨d,b⟩
  have e: ∀p:Prop,sQ 1 (s.2.1:Int) s.2.2 p=p:=fun p=>mZ (by omega)
  rw[e] at q
  exact⟨e,q.1,q.2⟩
theorem Adx{cs:List CK}(xs:List (Jf cs))(x:Jf cs):(xs++[x]).flatMap (encs cs)=xs.flatMap (encs cs)++encs cs x:=by rw[List.flatMap_append];simp
theorem DR.ap1{P:Program}{wa w16:World}{ty ty' e:TypeId}{p n:Nat}{s:Sl}{cs:List CK}{xs:List (Jf cs)}(ht:P.underlying ty=some (.slice e))(hi:jY P e n=true)(hn:n=cs.length)(h0:0<cs.length)(h1: ∀u∈xs.flatMap (encs cs),u.oneCell'=true)(hE:DR w16 s cs xs)(hl:xs.length≤1000)(ga:Af w16 wa)(own0:Gs wa p e n (some ⟨p,0,none⟩,0,0) 0 []){K:Sl→WP}
    (hK: ∀y wb,Gs wb p e n y xs.length (xs.flatMap (encs cs))→Am (fun z=>z=p) wa wb→K y wb):
    L9 ((Builtin.append_ #[ty,ty] ty' #[.slice (some ⟨p,0,none⟩) 0 0,.slice s.1 s.2.1 s.2.2]).run P wa) K:=by
  subst hn
  have hl2:=hE.len h0
  refine Vx (s:=(some ⟨p,0,none⟩,0,0)) (x:=s) (e:=e) (size:=cs.length) (news:=xs.flatMap (encs cs)) ht hi h0 own0 (hE.row.Ai ga) h1 ?_ ?_ ?_
  · omega
  · exact Nat.le_of_lt (own0.blk rfl).2.1
  intro y wb ho u _
  rw[hl2,Nat.zero_add,List.nil_append] at ho
  refine hK y wb ho (u.mono ?_)
  rintro z ⟨a,ha,h⟩
  cases ha
  exact h.symm
theorem DR.ap2{P:Program}{wb:World}{ty ty' e:TypeId}{p q n m:Nat}{y:Sl}{cs:List CK}{xs:List (Jf cs)}{x:Jf cs}(ht:P.underlying ty=some (.slice e))(hi:jY P e n=true)(hn:n=cs.length)(h0:0<cs.length)(h1: ∀u∈encs cs x,u.oneCell'=true)(hl:xs.length≤1000)(hp:p≤wb.heap.size)(ho:Gs wb p e n y xs.length (xs.flatMap (encs cs)))(hq:Az wb q (encs cs x)){K:Sl→WP}
    (hK: ∀y2 wc,Gs wc p e n y2 (xs++[x]).length ((xs++[x]).flatMap (encs cs))→Am (fun z=> ∃a,y.1=some a∧a.block=z) wb wc→(∀a,y2.1=some a→(∃a0,y.1=some a0∧a.block=a0.block)∨wb.heap.size≤a.block)→K y2 wc):
    L9 ((Builtin.append_ #[ty,ty] ty' #[.slice y.1 y.2.1 y.2.2,.slice (some ⟨q,0,none⟩) 1 m]).run P wb) K:=by
  subst hn
  refine Vx (x:=(some ⟨q,0,none⟩,1,m)) (e:=e) (size:=cs.length) (news:=encs cs x) ht hi h0 ho ⟨by show 1*cs.length=_;rw[Ak,Nat.one_mul],fun _=>⟨_,rfl,hq.news⟩⟩ h1 ?_ hp ?_
  · show xs.length+1≤_;omega
  intro y2 wc ho2 u hb
  refine hK y2 wc ?_ u hb
  rw[Adx,List.length_append];exact ho2
theorem Gs.dr{w:World}{p:Nat}{e:TypeId}{n l:Nat}{s:Sl}{cs:List CK}{xs:List (Jf cs)}(h:Gs w p e n s l (xs.flatMap (encs cs)))(hn:n=cs.length):DR w s cs xs:=by subst hn;exact⟨h.row,h.cap⟩
def kF(x:kC):List E3:=
  if x.1=1 then Z4 (kH x) else if x.1=2 then tY (x.2.1,x.2.2.2.2.2.2.2.2.1) else if x.1=3 then lW x.2.1
  else if x.1=4 then flU (x.2.1,x.2.2.1,x.2.2.2.2.2.2.2.2.2.1)
  else if x.1=5 then flR (x.2.1,x.2.2.1,x.2.2.2.2.2.2.2.2.2.1,x.2.2.2.2.2.2.2.2.2.2.1,x.2.2.2.2.2.2.2.2.2.2.2.1,x.2.2.2.1,x.2.2.2.2.1,x.2.2.2.2.2.2.1)
  else if x.1=6 then mG (x.2.1,x.2.2.2.2.2.1,x.2.2.2.1,x.2.2.2.2.1,x.2.2.2.2.2.2.2.2.2.2.2.2.1,x.2.2.2.2.2.2.2.2.2.2.2.2.2.1) else[]
theorem lY(x:kC):(kF x).length≤8:=by
  unfold kF
  split
  · show 6≤8;decide
  split
  · show 2≤8;decide
  split
  · show 1≤8;decide
  split
  · show 3≤8;decide
  split
  · show 8≤8;decide
  split
  · show 6≤8;decide
  · show 0≤8;decide
theorem Abr(f:Fr):kF f.pl=f.fs:=by cases f<;>rfl
theorem Ago(w:World):L6 w (none,0,0) []:=⟨by simp[flat3],fun h=>absurd rfl h⟩
theorem Dq.clA{x:kC}{w:World}{k:TR jG→WP}(h: ∀(s:Sl) w',Af w w'→L6 w' s (kF x)→(∀a,s.1=some a→w.heap.size≤a.block)→k ((s,()),()) w'):Ae prog F.Dq [vP x] w false jG k:=by
  refine Dq.ok ?_
  unfold Dq.wp
  refine Ad fun p1 w2 e1 k1 u1=>?_
  change Az w2 p1 (encs Uo x) at k1
  refine k1.c1 1 rfl (Ad fun p4 w5 e4 k4 u4=>k4.Fg _ rfl rfl fun w6 k6 u6=>?_)
  have l1:=k1.lt
  have q1:=(k1.Ai u4).upd u6 (by omega)
  have g6:=Af.fresh u1 u4 u6 e4
  have fin: ∀{cs:List Value} {n:Nat} {es:List E3},kF x=es→n=es.length→cs=flat3 es→Bf cs T.P6 w6 fun p44 w45=>k ((((some p44,n,n):Sl),()),()) w45:=fun e1 hn e2=>Ad fun p44 w45 e44 k44 u44=>h (some ⟨p44,0,none⟩,_,_) w45 (g6.trans u44) (by rw[e1,hn];exact Yq k44 e2 rfl) fun a ha=>by cases ha;exact Nat.le_trans g6.size (Nat.le_of_eq e44)
  refine q1.c0 rfl ?_
  refine Yl (fun c=>?_) fun c1=>?_
  · have c:x.1=1:=c
    exact k6.bC (q1.c1 3 rfl (q1.c1 4 rfl (q1.c1 5 rfl (q1.c1 6 rfl (q1.c1 7 rfl (fin (es:=Z4 (kH x)) (by unfold kF;rw[if_pos c]) rfl rfl))))))
  have c1:x.1≠1:=c1
  refine Yl (fun c=>?_) fun c2=>?_
  · have c:x.1=2:=c
    exact k6.bC (q1.c1 8 rfl (fin (es:=tY (x.2.1,x.2.2.2.2.2.2.2.2.1)) (by unfold kF;rw[if_neg c1,if_pos c]) rfl rfl))
  have c2:x.1≠2:=c2
  refine Yl (fun c=>?_) fun c3=>?_
  · have c:x.1=3:=c
    exact k6.bC (fin (es:=lW x.2.1) (by unfold kF;rw[if_neg c1,if_neg c2,if_pos c]) rfl rfl)
  have c3:x.1≠3:=c3
  refine Yl (fun c=>?_) fun c4=>?_
  · have c:x.1=4:=c
    exact k6.bC (q1.c1 2 rfl (q1.c1 9 rfl (fin (es:=flU (x.2.1,x.2.2.1,x.2.2.2.2.2.2.2.2.2.1)) (by unfold kF;rw[if_neg c1,if_neg c2,if_neg c3,if_pos c]) rfl rfl)))
  have c4:x.1≠4:=c4
  refine Yl (fun c=>?_) fun c5=>?_
  · have c:x.1=5:=c
    exact k6.bC (q1.c1 2 rfl (q1.c1 9 rfl (q1.c1 10 rfl (q1.c1 11 rfl (q1.c1 3 rfl (q1.c1 4 rfl (q1.c1 6 rfl (fin (es:=flR (x.2.1,x.2.2.1,x.2.2.2.2.2.2.2.2.2.1,x.2.2.2.2.2.2.2.2.2.2.1,x.2.2.2.2.2.2.2.2.2.2.2.1,x.2.2.2.1,x.2.2.2.2.1,x.2.2.2.2.2.2.1)) (by unfold kF;rw[if_neg c1,if_neg c2,if_neg c3,if_neg c4,if_pos c]) rfl rfl))))))))
  have c5:x.1≠5:=c5
  refine Yl (fun c=>?_) fun c6=>?_
  · have c:x.1=6:=c
    exact k6.bC (q1.c1 5 rfl (q1.c1 3 rfl (q1.c1 4 rfl (q1.c1 12 rfl (q1.c1 13 rfl (fin (es:=mG (x.2.1,x.2.2.2.2.2.1,x.2.2.2.1,x.2.2.2.2.1,x.2.2.2.2.2.2.2.2.2.2.2.2.1,x.2.2.2.2.2.2.2.2.2.2.2.2.2.1)) (by unfold kF;rw[if_neg c1,if_neg c2,if_neg c3,if_neg c4,if_neg c5,if_pos c]) rfl rfl))))))
  have c6:x.1≠6:=c6
  refine h (none,0,0) w6 g6 ?_ (fun a ha=>by cases ha)
  have e:kF x=[]:=by unfold kF;rw[if_neg c1,if_neg c2,if_neg c3,if_neg c4,if_neg c5,if_neg c6]
  rw[e]
  exact Ago _
def wB(x:kC):Bool:=okF (kF x)&&decide (0<(kF x).length)
theorem Am8(f:Fr):0<f.fs.length:=by cases f<;>exact Nat.succ_pos _
theorem Ahu(f:Fr): ∀e∈f.fs,0≤e.1∧e.1≤8∧e.2.2≤1125899906842624:=by
  cases f with
  |sync s=>exact bZ s
  |find x=>exact cZ x
  |want m=>exact bT m
  |pulse x=>exact Z5 x
  |reply r=>exact aC r
  |anchor a=>exact Yx a
theorem Am1{f:Fr}(h:f.ok=true):Fds f.fs:=Y6 h (by rw[←Abr];exact Nat.le_trans (lY _) (by decide)) (Ahu f)
theorem gK(f:Fr):wB f.pl=f.ok:=by
  unfold wB Fr.ok
  rw[Abr,decide_eq_true (Am8 f),Bool.and_true]
def plO:Option Fr→kC
  |some f=>f.pl
  |none=>pl0
theorem Fb.clA{x:kC}{w:World}{k:TR Wh→WP}(h: ∀w',Af w w'→k ((wB x,()),()) w'):Ae prog F.Fb [vP x] w false Wh k:=by
  refine Fb.ok ?_
  unfold Fb.wp
  refine Ad fun p1 w2 e1 k1 u1=>?_
  change Az w2 p1 (encs Uo x) at k1
  refine k1.cA x rfl (Dq.clA (x:=x) fun s w4 u4 hE _=>?_)
  have hl:=hE.len
  have hlen:=lY x
  unfold wB at h
  generalize kF x=fs at*
  refine Ci.by (fun z w'=>Af w4 w'∧ ∃i:Nat,z=((i:Int),())∧i≤fs.length∧ ∀e∈fs.take i,Yy e=true) (fun z=>(1000-z.1).toNat) ⟨Af.refl _,0,rfl,by omega,by simp⟩ ?_
  rintro z w7 ⟨g,i,rfl,hi,hgood⟩ _
  have g4:=u1.trans u4
  have out: ∀w',Af w4 w'→okF fs=false→k ((false,()),()) w':=fun w' g h0=>by
    have:=h w' (g4.trans g)
    rw[h0] at this;exact this
  refine Dx (fun c=>?_) fun c=>?_
  · have hi':i<fs.length:=by have c:(i:Int)<(s.2.1:Int):=c;omega
    have he:fs[i]? =some fs[i]:=List.getElem?_eq_getElem hi'
    generalize fs[i]=e at he
    have hE7:=hE.Ai g
    refine hE7.ix (z:=(i:Int)) rfl he fun ad ha=>hE7.A8 ha he ?_
    refine Ad fun p10 w11 e10 k10 u11=>k10.Fg _ rfl rfl fun w12 k12 u12=>k12.i1 1 rfl ?_
    have g12:=Af.fresh g u11 u12 e10
    refine Dx (fun c=>out w12 g12 (Zo he ?_)) fun c1=>k12.i1 1 rfl (k12.i1 2 rfl (Dx (fun c=>out w12 g12 (Zo he ?_)) fun c2=>⟨⟨g12,i+1,?_,by omega,?_⟩,?_⟩))
    · have c:e.2.1<0:=c
      cases hb:Yy e
      · rfl
      · have:=Rq.1 hb;omega
    · have c:e.2.1>e.2.2:=c
      cases hb:Yy e
      · rfl
      · have:=Rq.1 hb;omega
    · show(wrap .i64 ((i:Int)+1),())=_
      rw[Ah (by unfold I64;omega)];rfl
    · have c1: ¬e.2.1<0:=c1
      have c2: ¬e.2.1>e.2.2:=c2
      rw[List.take_add_one,he]
      intro y hy
      rcases List.mem_append.1 hy with hy|hy
      · exact hgood y hy
      · have:y=e:=by simpa using hy
        subst this
        exact Rq.2 ⟨by omega,by omega⟩
    · show(1000-wrap .i64 ((i:Int)+1)).toNat<(1000-(i:Int)).toNat
      rw[Ah (by unfold I64;omega)];omega
  · have c: ¬(i:Int)<(s.2.1:Int):=c
    have hi':i=fs.length:=by omega
    subst hi'
    rw[List.take_length] at hgood
    have:=h w7 (g4.trans g)
    rw[bV hgood,Bool.true_and] at this
    have e:decide ((s.2.1:Int)>0)=decide (0<fs.length):=by rw[hl];exact decide_eq_decide.2 (by omega)
    show k ((decide ((s.2.1:Int)>0),()),()) w7
    rw[e];exact this
theorem Hf.clA{f:Fr}(hf:f.ok=true){w:World}{k:TR jG→WP}(h: ∀(s:Sl) w',OwnB w' w.heap.size s f.by→Af w w'→k (((s.1,s.2.1,s.2.2),()),()) w'):Ae prog F.Hf [vP f.pl] w false jG k:=by
  exact Hf.cl (x:=f.pl) (kd:=f.kd) (fs:=f.fs) (by cases f<;>rfl) (by cases f<;>(simp only[Fr.kd];decide)) (Am1 hf) (fun{w k} hk=>Dq.clA (x:=f.pl) fun s w' g E hs=>hk s w' g (by rw[Abr] at E;exact E) hs) h
theorem Ur.mid{w:World}{s:Sl}{xs:List Nat}(h:Ur w s xs)(hc:s.2.1≤s.2.2){i n c:Nat}(hn:i+n≤xs.length):Ur w (dG s.1 s.2.2 i 1,n,c) ((xs.drop i).take n):=by
  have hl:=h.len'
  refine⟨by simp;omega,fun hx=>?_⟩
  have hn0:n≠0:=by intro e;subst e;simp at hx
  have hx0:0<xs.length:=by omega
  obtain⟨a,ha,hk⟩:=h.at_ (fun e=>by rw[List.map_eq_nil_iff] at e;rw[e] at hx0;exact absurd hx0 (by decide))
  refine⟨a.add (i*1),?_,fun k v hv=>?_⟩
  · show dG s.1 s.2.2 i 1=_
    unfold dG
    rw[if_neg (by omega),ha];rfl
  · rw[List.getElem?_map,List.getElem?_take] at hv
    split at hv
    · rw[add_add,Nat.mul_one]
      refine hk _ _ ?_
      rw[List.getElem?_map]
      rw[List.getElem?_drop] at hv
      exact hv
    · cases hv
theorem Ws.cl{xs:List Nat}(hx:eH xs)(hl:xs.length≤8){b:Sl}{w:World}(hR:Ur w b xs){k:TR [(false,[.i .u64])]→WP}(h: ∀w',Af w w'→k ((((aV xs:Nat):Int),()),()) w'):Ae prog F.Ws [.slice b.1 b.2.1 b.2.2] w false [(false,[.i .u64])] k:=by
  refine Ws.ok ?_
  unfold Ws.wp
  have hn:=hR.len'
  refine Ci.by (fun z W=> ∃j:Nat,j≤xs.length∧z=(((aV (xs.take j):Nat):Int),(j:Int),())∧Af w W) (fun z=>(10-z.2.1).toNat) ⟨0,by omega,rfl,Af.refl _⟩ ?_
  rintro z W ⟨j,hj,rfl,hU⟩ _
  refine Dx (fun c=>?_) fun c=>?_
  · have hjl:j<xs.length:=by have c:(j:Int)<(b.2.1:Int):=c;omega
    have hc:(dV xs)[j]? =some (.int .u8 ((xs[j]:Nat):Int)):=aW (List.getElem?_eq_getElem hjl)
    refine(Row.Ai hR hU).ixc (c:=.i .u8) (z:=(j:Int)) (x:=((xs[j]:Nat):Int)) rfl hc rfl ⟨⟨j+1,by omega,?_,hU⟩,?_⟩
    · have hbt:=wZ (xs.take j) (hx.take j)
      have hlen:(xs.take j).length≤7:=by rw[List.length_take];omega
      have hp:256^(xs.take j).length≤256^7:=Nat.pow_le_pow_right (by decide) hlen
      have h7:(256:Nat)^7=72057594037927936:=by decide
      have hx1:=hx xs[j] (List.getElem_mem _)
      have e:xs.take (j+1)=xs.take j++[xs[j]]:=by rw[List.take_add_one,List.getElem?_eq_getElem hjl];rfl
      rw[e,mO]
      generalize aV (xs.take j)=G at*
      generalize xs[j]=x at*
      show(wrap .u64 (wrap .u64 (256*(G:Int))+wrap .u64 (x:Int)),wrap .i64 ((j:Int)+1),())=_
      rw[Lp (n:=256*(G:Int)) (by unfold V6;omega),Lp (n:=(x:Int)) (by unfold V6;omega),Lp (by unfold V6;omega),Ah (by unfold I64;omega)]
      have:256*(G:Int)+(x:Int)=((G*256+x:Nat):Int):=by omega
      rw[this];rfl
    · show(10-wrap .i64 ((j:Int)+1)).toNat<(10-(j:Int)).toNat
      rw[Ah (by unfold I64;omega)];omega
  · have:j=xs.length:=by have c: ¬(j:Int)<(b.2.1:Int):=c;omega
    subst this
    have:=h W hU
    rw[List.take_length];exact this
def kP(n:Nat):kC:=((n:Int),0,0,0,0,0,0,0,0,0,0,0,0,0,())
theorem Ali{n:Nat}(h: ¬(n=1∨n=2∨n=3∨n=4∨n=5∨n=6)):kF (kP n)=[]:=by
  have q: ∀j:Nat,n≠j→((n:Int)=(j:Int))=False:=fun j h=>by simp;exact_mod_cast h
  unfold kF
  show(if(n:Int)=1 then _ else _)=_
  rw[if_neg (by omega),if_neg (by show¬(n:Int)=2;omega),if_neg (by show¬(n:Int)=3;omega),if_neg (by show¬(n:Int)=4;omega),if_neg (by show¬(n:Int)=5;omega),if_neg (by show¬(n:Int)=6;omega)]
theorem Anz(n:Nat):(kF (kP n)).map (fun e=>(e.1.toNat,e.2.2.toNat))=P7 n:=by
  by_cases h:n=1∨n=2∨n=3∨n=4∨n=5∨n=6
  · rcases h with rfl|rfl|rfl|rfl|rfl|rfl<;>rfl
  · rw[Ali h,Abw h];rfl
theorem Ap2(n:Nat): ∀e∈kF (kP n),1≤e.1∧e.1≤8∧0≤e.2.2∧e.2.2≤1125899906842624:=by
  by_cases h:n=1∨n=2∨n=3∨n=4∨n=5∨n=6
  · have q: ∀l:List E3,l.all (fun e=>decide (1≤e.1)&&decide (e.1≤8)&&decide (0≤e.2.2)&&decide (e.2.2≤1125899906842624))=true→ ∀e∈l,1≤e.1∧e.1≤8∧0≤e.2.2∧e.2.2≤1125899906842624:=fun l hl e he=>by
      have:=List.all_eq_true.1 hl e he
      simpa [and_assoc] using this
    rcases h with rfl|rfl|rfl|rfl|rfl|rfl<;>exact q _ rfl
  · rw[Ali h];intro e he;cases he
theorem Ah8(l:List (Nat×Nat))(x:Nat×Nat):Zx (l++[x])=Zx l+x.1:=by unfold Zx;rw[List.foldl_append];rfl
theorem Akd(n:Nat):Zx (P7 n)≤45∧(Zx (P7 n)=0↔P7 n=[]):=by
  by_cases h:n=1∨n=2∨n=3∨n=4∨n=5∨n=6
  · rcases h with rfl|rfl|rfl|rfl|rfl|rfl<;>exact⟨by decide,by decide⟩
  · rw[Abw h];exact⟨by decide,by decide⟩
theorem Abd(l:List (Nat×Nat)): ∀i,Zx (l.take i)≤Zx l:=by
  induction l with
  |nil=>intro i;simp
  |cons x t ih=>
    intro i
    cases i with
    |zero=>rw[List.take_zero];exact Nat.zero_le _
    |succ i=>rw[List.take_succ_cons,Zc,Zc];have:=ih i;omega
theorem kK: ∀(L:List (Nat×Nat)) (v:List Nat) (i:Nat) (s:Nat×Nat),iD L v=true→L[i]? =some s→v.getD i 0≤s.2
  |[],v,i,s,_,h=>by simp at h
  |t::L,v,0,s,hf,h=>by
    simp at h;subst h
    simp only[iD,Bool.and_eq_true,decide_eq_true_eq] at hf
    cases v<;>first|(simp;done)|simpa using hf.1
  |t::L,v,i+1,s,hf,h=>by
    simp only[iD,Bool.and_eq_true,decide_eq_true_eq] at hf
    simp only[List.getElem?_cons_succ] at h
    have:=kK L v.tail i s hf.2 h
    cases v<;>first|(simp;done)|simpa using this
theorem Adm: ∀(L:List (Nat×Nat)) (v:List Nat),(∀(i:Nat) (s:Nat×Nat),L[i]? =some s→v.getD i 0≤s.2)→iD L v=true
  |[],v,_=>rfl
  |t::L,v,h=>by
    simp only[iD,Bool.and_eq_true,decide_eq_true_eq]
    refine⟨?_,Adm L v.tail fun i s hs=>?_⟩
    · have:=h 0 t rfl
      cases v<;>first|(simp;done)|simpa using this
    · have:=h (i+1) s (by simpa using hs)
      cases v<;>first|(simp;done)|simpa using this
def rdP(xs:List Nat):kC×Int:=match Xg xs with| .error e=>(pl0,e)| .ok f=>(f.pl,0)
abbrev RRd:List (Bool×List CK):=[(true,Uo),(false,[KI])]
def us(l:List Nat):List Value:=l.map fun(v:Nat)=>.int .u64 (v:Int)
def vz(l:List Nat)(i:Nat):List Value:=(List.range 8).map fun j=>iV (if j<i then((l.getD j 0:Nat):Int) else 0)
theorem wF(l:List Nat)(i:Nat):(vz l i).length=8:=by unfold vz;simp
theorem wY{l:List Nat}{i j:Nat}(h:j<8):(vz l i)[j]? =some (iV (if j<i then((l.getD j 0:Nat):Int) else 0)):=by
  unfold vz;rw[List.getElem?_map,List.getElem?_range h];rfl
theorem Anr{l:List Nat}{j:Nat}(h:j<8):(vz l l.length)[j]? =some (iV ((l.getD j 0:Nat):Int)):=by
  rw[wY h]
  split
  · rfl
  · rename_i h
    have:l.getD j 0=0:=by rw[List.getD_eq_getElem?_getD,List.getElem?_eq_none (by omega)];rfl
    rw[this];rfl
theorem Amh{l:List Nat}{i:Nat}(h:i<8):(vz l i).set i (iV ((l.getD i 0:Nat):Int))=vz l (i+1):=by
  apply List.ext_getElem?
  intro j
  rw[List.getElem?_set,wF]
  by_cases hj:i=j
  · subst hj
    rw[if_pos rfl,if_pos h,wY h,if_pos (by omega)]
  · rw[if_neg hj]
    by_cases h8:j<8
    · rw[wY h8,wY h8]
      by_cases hlt:j<i
      · rw[if_pos hlt,if_pos (by omega)]
      · rw[if_neg hlt,if_neg (by omega)]
    · rw[List.getElem?_eq_none (by rw[wF];omega),List.getElem?_eq_none (by rw[wF];omega)]
theorem Ac7{xs:List Nat}{e:Int}(h:Xg xs=.error e):rdP xs=(pl0,e):=by unfold rdP;rw[h]
theorem Aby{xs:List Nat}{f:Fr}(h:Xg xs=.ok f):rdP xs=(f.pl,0):=by unfold rdP;rw[h]
theorem Tc.cl{xs:List Nat}(hx:eH xs)(hlm:xs.length≤1000000){b:Sl}(hc:b.2.1≤b.2.2){w:World}(hR:Ur w b xs){k:TR RRd→WP}(h: ∀w',Af w w'→k ((rdP xs).1,((rdP xs).2,()),()) w'):Ae prog F.Tc [.slice b.1 b.2.1 b.2.2] w true RRd k:=by
  refine Tc.ok ?_
  unfold Tc.wp
  have hn:=hR.len'
  refine Ad fun p1 w2 e1 k1 u1=>?_
  change Az w2 p1 (encs Uo pl0) at k1
  have err: ∀{e:Int},Xg xs=.error e→ ∀{W W':World},Af w2 W→Az W' p1 (encs Uo pl0)→Am (fun z=>z=p1) W W'→k (pl0,(e,()),()) W':=fun he W W' g K u=>by
    have:=h W' (Am.trans (u1.trans g) u fun i hi hh=>by omega)
    rw[Ac7 he] at this
    exact this
  have out: ∀{e:Int},Xg xs=.error e→ ∀{W:World},Af w2 W→Au [iV 0,iV 0,iV 0,iV 0,uV 0,uV 0,iV 0,iV 0,iV 0,iV 0,iV 0,iV 0,iV 0,iV 0] ⟨p1,0,none⟩ 0 W fun w3=>A8 Uo ⟨p1,0,none⟩ 0 w3 fun x=>k (x,(e,()),()) w3:=fun he W g=>
    (k1.Ai g).Fg (encs Uo pl0) rfl rfl fun w3 k3 u3=>k3.cA pl0 rfl (err he g k3 u3)
  refine Dx (fun c=>out (by unfold Xg;rw[if_pos (by have c:(b.2.1:Int)>64:=c;omega)]) (Af.refl _)) fun c64=>?_
  have c64: ¬xs.length>64:=by have c64: ¬(b.2.1:Int)>64:=c64;omega
  refine Yl (fun c=>out (by unfold Xg;rw[if_neg c64,if_pos (by have c:(b.2.1:Int)=0:=c;omega)]) (Af.refl _)) fun c0=>?_
  have c0: ¬xs.length=0:=by have c0:(b.2.1:Int)≠0:=c0;omega
  obtain⟨n,t,ext⟩: ∃n t,xs=n::t:=by
    cases xs with
    |nil=>exact absurd rfl c0
    |cons n t=>exact⟨n,t,rfl⟩
  have hd:xs.headD 0=n:=by rw[ext];rfl
  have htl:xs.tail=t:=by rw[ext];rfl
  have hn256:n<256:=hx n (by rw[ext];exact List.mem_cons_self ..)
  have hR2:=Row.Ai hR u1
  refine hR2.ixc (c:=.i .u8) (z:=0) (i:=0) (x:=((n:Nat):Int)) rfl (aW (by rw[ext];rfl)) rfl ?_
  rw[Ah (n:=(n:Int)) (by unfold I64;omega)]
  have lt1:=k1.lt
  refine Ad fun p9 w10 e9 k9 u10=>k9.Fg (encs Uo (kP n)) rfl rfl fun w11 k11 u11=>k11.cA (kP n) rfl (Dq.clA (x:=kP n) fun sf w14 u14 hE _=>?_)
  have g14:Af w2 w14:=(Af.fresh (Af.refl _) u10 u11 e9).trans u14
  have k9:=k11.Ai u14
  obtain⟨fs,efs⟩: ∃fs,fs=kF (kP n):=⟨_,rfl⟩
  have fm:=Anz n
  have sm:=Ap2 n
  have fl8:=lY (kP n)
  rw[←efs] at fm sm fl8 hE
  obtain⟨s45,s0⟩:=Akd n
  have hlen:=hE.len
  have Vu: ∀{i:Nat} {e:E3},fs[i]? =some e→(P7 n)[i]? =some (e.1.toNat,e.2.2.toNat):=fun he=>by rw[←fm,List.getElem?_map,he];rfl
  have hfl:fs.length=(P7 n).length:=by rw[←fm,List.length_map]
  have snoc: ∀{i:Nat} {e:E3},fs[i]? =some e→Zx ((P7 n).take (i+1))=Zx ((P7 n).take i)+e.1.toNat:=fun he=>by
    rw[List.take_add_one,Vu he,Option.toList_some,Ah8]
  have stl:=Abd (P7 n)
  refine Ci.by (fun z W=> ∃i:Nat,i≤fs.length∧z=(((3+Zx ((P7 n).take i):Nat):Int),(i:Int),())∧Af w14 W) (fun z=>(10-z.2.1).toNat) ⟨0,by omega,rfl,Af.refl _⟩ ?_
  rintro z W ⟨i,hi,rfl,gA⟩ _
  have EA:=hE.Ai gA
  refine Dx (fun c=>?_) fun c=>?_
  · have hil:i<fs.length:=by have c:(i:Int)<(sf.2.1:Int):=c;omega
    have he:fs[i]? =some fs[i]:=List.getElem?_eq_getElem hil
    have hsm:=sm _ (List.getElem_mem hil)
    have hsn:=snoc he
    have hst:=stl (i+1)
    generalize fs[i]=e at*
    refine EA.ix (z:=(i:Int)) rfl he fun ad ha=>EA.A8 ha he (Ad fun p20 w21 e20 k20 u21=>k20.Fg _ rfl rfl fun w22 k22 u22=>k22.c0 (c:=KI) (x:=e.1) rfl ⟨⟨i+1,by omega,?_,Af.fresh gA u21 u22 e20⟩,?_⟩)
    · show(wrap .i64 (((3+Zx ((P7 n).take i):Nat):Int)+e.1),wrap .i64 ((i:Int)+1),())=_
      rw[Ah (n:=((3+Zx ((P7 n).take i):Nat):Int)+e.1) (by unfold I64;omega),Ah (n:=(i:Int)+1) (by unfold I64;omega),hsn]
      have:((3+Zx ((P7 n).take i):Nat):Int)+e.1=((3+(Zx ((P7 n).take i)+e.1.toNat):Nat):Int):=by omega
      rw[this];rfl
    · show(10-wrap .i64 ((i:Int)+1)).toNat<(10-(i:Int)).toNat
      rw[Ah (by unfold I64;omega)];omega
  have hil:i=fs.length:=by have c: ¬(i:Int)<(sf.2.1:Int):=c;omega
  subst hil
  rw[hfl,List.take_length]
  have gW:=g14.trans gA
  have sz:=gW.size
  refine Yl (fun c=>out ?_ gW) fun c3=>?_
  · have c:((3+Zx (P7 n):Nat):Int)=3:=c
    unfold Xg
    rw[if_neg c64,if_neg c0,hd,if_pos (.inl (s0.1 (by omega)))]
  have c3:P7 n≠[]:=fun e=>c3 (by have:=s0.2 e;show((3+Zx (P7 n):Nat):Int)=3;omega)
  refine bK (fun c=>out ?_ gW) fun cl=>?_
  · have c:((3+Zx (P7 n):Nat):Int)≠(b.2.1:Int):=c
    unfold Xg
    rw[if_neg c64,if_neg c0,hd,if_pos (.inr (by omega))]
  have cl:xs.length=Zx (P7 n)+3:=by have cl:((3+Zx (P7 n):Nat):Int)=(b.2.1:Int):=cl;omega
  have nk: ¬(P7 (xs.headD 0)=[]∨xs.length≠Zx (P7 (xs.headD 0))+3):=by rw[hd];exact fun h=>h.elim c3 fun h=>h cl
  refine Uu.cl hx (Row.Ai hR2 gW) hlm (bK (fun c=>out ?_ gW) fun cc=>?_)
  · have c:((Uh 65535 xs:Nat):Int)≠0:=c
    unfold Xg
    rw[if_neg c64,if_neg c0,if_neg nk,if_pos (by omega)]
  have cc: ¬Uh 65535 xs≠0:=by have cc:((Uh 65535 xs:Nat):Int)=0:=cc;omega
  have kA:=k9.Ai gA
  refine kA.cA (kP n) rfl (Dq.clA (x:=kP n) fun sg w34 u34 hE2 _=>?_)
  rw[←efs] at hE2
  have hlen2:=hE2.len
  have g34:=gW.trans u34
  obtain⟨vals,ev⟩: ∃vals,vals=Yd (P7 n) t:=⟨_,rfl⟩
  have vl:vals.length=fs.length:=by rw[ev,qG,hfl]
  have hxt:eH t:=fun x hx'=>hx x (by rw[ext];exact List.mem_cons_of_mem _ hx')
  have vb: ∀(i v:Nat) (s:Nat×Nat),vals[i]? =some v→(P7 n)[i]? =some s→v<256^s.1:=by rw[ev];exact jQ hxt
  have v64: ∀{i v:Nat},vals[i]? =some v→v<18446744073709551616:=fun{i v} hv=>by
    have hil:i<fs.length:=by have:=(List.getElem?_eq_some_iff.1 hv).1;omega
    have he:fs[i]? =some fs[i]:=List.getElem?_eq_getElem hil
    have hsm:=sm _ (List.getElem_mem hil)
    have:=vb i v _ hv (Vu he)
    have hp:256^fs[i].1.toNat≤256^8:=Nat.pow_le_pow_right (by decide) (by omega)
    have h8:(256:Nat)^8=18446744073709551616:=by decide
    simp only at this
    omega
  refine Ci.by (fun z W=> ∃i:Nat,i≤fs.length∧z.2=(((1+Zx ((P7 n).take i):Nat):Int),(i:Int),())∧Gs W w34.heap.size T.uint64 1 z.1 i (us (vals.take i))∧Af w34 W) (fun z=>(10-z.2.2.1).toNat) ⟨0,by omega,rfl,Gs.nil _ _ _ _,Af.refl _⟩ ?_
  rintro⟨sl,_⟩ W2 ⟨i,hi,rfl,hO,gB⟩ _
  have EB:=hE2.Ai gB
  refine Dx (fun c=>?_) fun c=>?_
  · have hil:i<fs.length:=by have c:(i:Int)<(sg.2.1:Int):=c;omega
    have he:fs[i]? =some fs[i]:=List.getElem?_eq_getElem hil
    have hsm:=sm _ (List.getElem_mem hil)
    have hsn:=snoc he
    have hst:=stl (i+1)
    generalize fs[i]=e at*
    refine EB.ix (z:=(i:Int)) rfl he fun ad ha=>EB.A8 ha he (Ad fun p40 w41 e40 k40 u41=>k40.Fg _ rfl rfl fun w42 k42 u42=>k42.c0 (c:=KI) (x:=e.1) rfl ?_)
    have g42:Af W2 w42:=Af.fresh (Af.refl _) u41 u42 e40
    obtain⟨at_,eat⟩: ∃at_:Nat,at_=1+Zx ((P7 n).take i):=⟨_,rfl⟩
    rw[←eat]
    dsimp only
    have ee:wrap .i64 ((at_:Int)+e.1)=((at_+e.1.toNat:Nat):Int):=by rw[Ah (by unfold I64;omega)];omega
    rw[ee,mZ (by omega),Int.toNat_natCast,Int.toNat_natCast,show at_+e.1.toNat-at_=e.1.toNat by omega]
    have hsub:=Ur.mid (Row.Ai (Row.Ai (Row.Ai (Row.Ai hR2 gW) u34) gB) g42) hc (i:=at_) (n:=e.1.toNat) (c:=b.2.2-at_) (by omega)
    have hv:vals[i]? =some (aV ((xs.drop at_).take e.1.toNat)):=by
      rw[ev,lM _ t i _ (Vu he),eat,ext,Nat.add_comm 1,List.drop_succ_cons]
    have hvt:vals.take (i+1)=vals.take i++[aV ((xs.drop at_).take e.1.toNat)]:=by rw[List.take_add_one,hv];rfl
    have hv64:=v64 hv
    refine Ws.cl ((hx.drop _).take _) (by rw[List.length_take];omega) hsub fun w45 u45=>Ad fun p46 w47 e46 k46 u47=>?_
    have g47:=(g42.trans u45).trans u47
    have hO47:=hO.Ai g47
    have sl1:=hO47.len
    refine Vx (s:=sl) (x:=(some ⟨p46,0,none⟩,1,1)) (e:=T.uint64) (size:=1) (news:=us [aV ((xs.drop at_).take e.1.toNat)]) (by kernel_rfl) (by kernel_rfl) (by decide) hO47 ⟨rfl,fun _=>⟨_,rfl,k46.news⟩⟩ (by intro u hu;simp[us] at hu;subst hu;rfl) (by show i+1≤_;omega) (by have:=gB.size;have:=g47.size;omega) fun y48 w49 o49 u49 hb49=>?_
    have g49:Af w34 w49:=Am.trans (gB.trans g47) u49 fun z hz ⟨a,ha,hh⟩=>by have:=(hO47.blk ha).1;omega
    have k49:Az w49 p40 _:=((k42.Ai u45).Ai u47).upd u49 fun⟨a,ha,hh⟩=>by
      have:=(hO.blk ha).2.1;have:=u41.size;omega
    refine k49.c0 (c:=KI) (x:=e.1) rfl ⟨⟨i+1,by omega,?_,?_,g49⟩,?_⟩
    · show(wrap .i64 ((at_:Int)+e.1),wrap .i64 ((i:Int)+1),())=_
      rw[ee,Ah (n:=(i:Int)+1) (by unfold I64;omega),hsn,eat,Nat.add_assoc];rfl
    · rw[hvt]
      have o49:Gs w49 w34.heap.size T.uint64 1 y48 (i+1) (us (vals.take i)++us [aV ((xs.drop at_).take e.1.toNat)]):=o49
      unfold us at o49⊢
      rw[List.map_append];exact o49
    · show(10-wrap .i64 ((i:Int)+1)).toNat<(10-(i:Int)).toNat
      rw[Ah (by unfold I64;omega)];omega
  have hil:i=fs.length:=by have c: ¬(i:Int)<(sg.2.1:Int):=c;omega
  subst hil
  rw[←vl,List.take_length] at hO
  have gW2:=g34.trans gB
  have kB:=(kA.Ai u34).Ai gB
  have rO:=hO.row
  have slen:sl.2.1=vals.length:=hO.len
  refine kB.cA (kP n) rfl (Dq.clA (x:=kP n) fun sh w53 u53 hE3 _=>?_)
  rw[←efs] at hE3
  have hlen3:=hE3.len
  have g53:=gW2.trans u53
  refine Ci.by (fun z W=> ∃i:Nat,i≤fs.length∧z=((i:Int),())∧(∀(j:Nat) (s:Nat×Nat),j<i→(P7 n)[j]? =some s→vals.getD j 0≤s.2)∧Af w53 W) (fun z=>(10-z.1).toNat) ⟨0,by omega,rfl,fun j s hj=>by omega,Af.refl _⟩ ?_
  rintro z W3 ⟨i,hi,rfl,hfit,gC⟩ _
  have EC:=hE3.Ai gC
  refine Dx (fun c=>?_) fun c=>?_
  · have hil:i<fs.length:=by have c:(i:Int)<(sh.2.1:Int):=c;omega
    have he:fs[i]? =some fs[i]:=List.getElem?_eq_getElem hil
    have hsm:=sm _ (List.getElem_mem hil)
    generalize fs[i]=e at*
    refine EC.ix (z:=(i:Int)) rfl he fun ad ha=>EC.A8 ha he (Ad fun p59 w60 e59 k59 u60=>k59.Fg _ rfl rfl fun w61 k61 u61=>?_)
    have g61:Af w53 w61:=Af.fresh gC u60 u61 e59
    rw[Ap]
    have k62:=k61.drew
    have g62:=g61.trans (Af.drew w61)
    generalize w61.drew=w62 at*
    have hv:vals[i]? =some (vals.getD i 0):=by rw[List.getD_eq_getElem?_getD,List.getElem?_eq_getElem (by omega)];rfl
    have hv64:=v64 hv
    generalize hvv:vals.getD i 0=v at*
    refine(Row.Ai (Row.Ai rO u53) g62).ixc (c:=.i .u64) (z:=(i:Int)) (x:=((v:Nat):Int)) rfl (by unfold us;rw[List.getElem?_map,hv];rfl) rfl (k62.c1 2 (c:=KI) (x:=e.2.2) rfl ?_)
    rw[Lp (n:=e.2.2) (by unfold V6;omega)]
    refine Dx (fun c=>out ?_ (g53.trans g62)) fun c=>⟨⟨i+1,by omega,?_,?_,g62⟩,?_⟩
    · have c:(v:Int)>e.2.2:=c
      unfold Xg
      rw[if_neg c64,if_neg c0,if_neg nk,if_neg cc,if_pos]
      rw[hd,htl,←ev]
      cases hb:iD (P7 n) vals
      · rfl
      · have:=kK _ _ _ _ hb (Vu he)
        rw[hvv] at this
        simp only at this
        omega
    · show(wrap .i64 ((i:Int)+1),())=_
      rw[Ah (by unfold I64;omega)];rfl
    · have c: ¬(v:Int)>e.2.2:=c
      intro j s hj hs
      by_cases hji:j<i
      · exact hfit j s hji hs
      · have:j=i:=by omega
        subst this
        rw[Vu he] at hs
        cases hs
        rw[hvv]
        show v≤e.2.2.toNat
        omega
    · show(10-wrap .i64 ((i:Int)+1)).toNat<(10-(i:Int)).toNat
      rw[Ah (by unfold I64;omega)];omega
  have hil:i=fs.length:=by have c: ¬(i:Int)<(sh.2.1:Int):=c;omega
  subst hil
  have hF:iD (P7 n) vals=true:=Adm _ _ fun j s hs=>hfit j s (by have:=(List.getElem?_eq_some_iff.1 hs).1;omega) hs
  have hD:Xg xs=.ok (mJ n vals):=by
    unfold Xg
    rw[if_neg c64,if_neg c0,if_neg nk,if_neg cc,hd,htl,←ev,if_neg (by rw[hF];decide)]
  rw[Aby hD] at h
  have gW3:=g53.trans gC
  have lv:vals.length≤8:=by omega
  refine iM (l:=8) (c:=8) (size:=1) (z:=iV 0) (e:=T.int) (bytes:=8) (by kernel_rfl) (by kernel_rfl) (by rfl) (by decide) rfl rfl (by decide) (by decide) fun bv w69 e69 k69 _ u69=>?_
  have k69:Az w69 bv (vz vals 0):=k69
  have gV:Af w2 w69:=gW3.trans u69
  have l9:=kB.lt
  have lbv:=k69.lt
  have ne9:p9≠bv:=by have:=u53.size;have:=gC.size;omega
  have ne1:p1≠bv:=by have:=gW3.size;omega
  have hslb: ∀a,sl.1=some a→a.block≠bv:=fun a ha=>by have:=(hO.blk ha).2.1;have:=u53.size;have:=gC.size;omega
  refine Ci.by (fun z W=> ∃i:Nat,i≤vals.length∧z=((i:Int),())∧Az W bv (vz vals i)∧Am (fun z=>z=bv) w69 W) (fun z=>(10-z.1).toNat) ⟨0,by omega,rfl,k69,Am.Bj (Af.refl _)⟩ ?_
  rintro z W4 ⟨i,hi,rfl,kV,uV⟩ _
  have rV:=Row.upd (Row.Ai (Row.Ai (Row.Ai rO u53) gC) u69) uV hslb
  refine Dx (fun c=>?_) fun c=>?_
  · have hil:i<vals.length:=by have c:(i:Int)<(sl.2.1:Int):=c;omega
    have hv:vals[i]? =some (vals.getD i 0):=by rw[List.getD_eq_getElem?_getD,List.getElem?_eq_getElem (by omega)];rfl
    have hb:vals.getD i 0≤1125899906842624:=by
      have he:fs[i]? =some (fs[i]'(by omega)):=List.getElem?_eq_getElem (by omega)
      have:=kK _ _ _ _ hF (Vu he)
      have hsm:=sm _ (List.getElem_mem (show i<fs.length by omega))
      simp only at this
      omega
    refine rV.ixc (c:=.i .u64) (z:=(i:Int)) (x:=((vals.getD i 0:Nat):Int)) rfl (by unfold us;rw[List.getElem?_map,hv];rfl) rfl ?_
    dsimp only
    rw[Tq (by omega),Int.toNat_natCast,Nat.mul_one,Ah (n:=((vals.getD i 0:Nat):Int)) (by unfold I64;omega)]
    refine kV.sN i [_] (by rw[wF];show i+1≤8;omega) rfl fun w76 k76 u76=>⟨⟨i+1,by omega,?_,?_,uV.trans u76 fun _ _ x=>x⟩,?_⟩
    · show(wrap .i64 ((i:Int)+1),())=_
      rw[Ah (by unfold I64;omega)];rfl
    · rw[←Amh (by omega)]
      exact k76
    · show(10-wrap .i64 ((i:Int)+1)).toNat<(10-(i:Int)).toNat
      rw[Ah (by unfold I64;omega)];omega
  have hil:i=vals.length:=by have c: ¬(i:Int)<(sl.2.1:Int):=c;omega
  subst hil
  have rd: ∀{j:Nat} {W:World},Az W bv (vz vals vals.length)→j<8→ ∀{K:Int→Prop},K ((vals.getD j 0:Nat):Int)→Ny (some ⟨bv,0,none⟩) 8 (j:Int) fun a=>ld1 KI (a.add ((j:Int).toNat*1)) W K:=fun hk hj K hK=>by
    rw[Tq (by omega),Int.toNat_natCast,Nat.mul_one]
    exact hk.c1 _ (Anr hj) hK
  have bd: ∀{j:Nat} {s:Nat×Nat},(P7 n)[j]? =some s→vals.getD j 0≤s.2:=fun hs=>kK _ _ _ _ hF hs
  have K9:=((((kB.Ai u53).Ai gC).Ai u69)).upd uV ne9
  have G4:Af w2 W4:=Am.trans gV uV fun i hi hh=>by have:=gW3.size;omega
  have fin: ∀{W W':World},Af w2 W→Am (fun z=>z=p1) W W'→k ((mJ n vals).pl,(0,()),()) W':=fun g u=>h _ (Am.trans (u1.trans g) u fun i hi hh=>by omega)
  refine K9.c0 (c:=KI) (x:=(n:Int)) rfl ?_
  have lk:=kV.drew
  have G5:=G4.trans (Af.drew W4)
  have K5:=(k1.Ai G4).drew
  have K3:=k1.Ai G4
  rcases Yh c3 with e|e|e|e|e|e
  · subst e
    refine Vt rfl (?_)
    rw[Ap]
    generalize W4.drew=w5 at*
    refine rd (j:=0) lk (by decide) (rd (j:=1) lk (by decide) (rd (j:=2) lk (by decide) (rd (j:=3) lk (by decide) (rd (j:=4) lk (by decide) (rd (j:=5) lk (by decide) (?_))))))
    have b2:=bd (j:=2) (s:=(2,65535)) rfl
    have b3:=bd (j:=3) (s:=(2,65535)) rfl
    dsimp only at b2 b3⊢
    rw[aQ (n:=((vals.getD 2 0:Nat):Int)) (by unfold Xe;omega),aQ (n:=((vals.getD 3 0:Nat):Int)) (by unfold Xe;omega)]
    exact K5.Fg (encs Uo (mJ 1 vals).pl) rfl rfl fun w91 k91 u91=>⟨trivial,k91.cA (mJ 1 vals).pl rfl (fin G5 u91)⟩
  · subst e
    refine Jl rfl (Vt rfl (?_))
    rw[Ap]
    generalize W4.drew=w5 at*
    refine rd (j:=0) lk (by decide) (rd (j:=1) lk (by decide) (?_))
    exact K5.Fg (encs Uo (mJ 2 vals).pl) rfl rfl fun w91 k91 u91=>⟨trivial,k91.cA (mJ 2 vals).pl rfl (fin G5 u91)⟩
  · subst e
    refine Jl rfl (Jl rfl (Vt rfl (?_)))
    refine rd (j:=0) kV (by decide) (?_)
    exact K3.Fg (encs Uo (mJ 3 vals).pl) rfl rfl fun w91 k91 u91=>k91.cA (mJ 3 vals).pl rfl (fin G4 u91)
  · subst e
    refine Jl rfl (Jl rfl (Jl rfl (Vt rfl (?_))))
    rw[Ap]
    generalize W4.drew=w5 at*
    refine rd (j:=0) lk (by decide) (rd (j:=1) lk (by decide) (rd (j:=2) lk (by decide) (?_)))
    exact K5.Fg (encs Uo (mJ 4 vals).pl) rfl rfl fun w91 k91 u91=>⟨trivial,k91.cA (mJ 4 vals).pl rfl (fin G5 u91)⟩
  · subst e
    refine Jl rfl (Jl rfl (Jl rfl (Jl rfl (Vt rfl (?_)))))
    rw[Ap]
    generalize W4.drew=w5 at*
    refine rd (j:=0) lk (by decide) (rd (j:=1) lk (by decide) (rd (j:=2) lk (by decide) (rd (j:=3) lk (by decide) (rd (j:=4) lk (by decide) (rd (j:=5) lk (by decide) (rd (j:=6) lk (by decide) (rd (j:=7) lk (by decide) (?_))))))))
    have b6:=bd (j:=6) (s:=(2,65535)) rfl
    dsimp only at b6⊢
    rw[aQ (n:=((vals.getD 6 0:Nat):Int)) (by unfold Xe;omega)]
    exact K5.Fg (encs Uo (mJ 5 vals).pl) rfl rfl fun w91 k91 u91=>⟨trivial,k91.cA (mJ 5 vals).pl rfl (fin G5 u91)⟩
  · subst e
    refine Jl rfl (Jl rfl (Jl rfl (Jl rfl (Jl rfl (?_)))))
    rw[Ap]
    generalize W4.drew=w5 at*
    refine rd (j:=0) lk (by decide) (rd (j:=1) lk (by decide) (rd (j:=2) lk (by decide) (rd (j:=3) lk (by decide) (rd (j:=4) lk (by decide) (rd (j:=5) lk (by decide) (?_))))))
    have b1:=bd (j:=1) (s:=(2,65535)) rfl
    have b3:=bd (j:=3) (s:=(2,65535)) rfl
    dsimp only at b1 b3⊢
    rw[aQ (n:=((vals.getD 1 0:Nat):Int)) (by unfold Xe;omega),aQ (n:=((vals.getD 3 0:Nat):Int)) (by unfold Xe;omega)]
    exact K5.Fg (encs Uo (mJ 6 vals).pl) rfl rfl fun w91 k91 u91=>⟨trivial,k91.cA (mJ 6 vals).pl rfl (fin G5 u91)⟩
section
variable {P:Program} {w0:World} {ty ty' e:TypeId} {n:Nat} {s:Sl} {cs:List CK} {xs:List (Jf cs)} {x:Jf cs}
theorem DR.apB(ht:P.underlying ty=some (.slice e))(hi:jY P e n=true)(hn:n=cs.length)(h0:0<cs.length)(h2: ∀u∈encs cs x,u.oneCell'=true)(hl:xs.length≤1000){HP:WP}(hh: ∀W,Af w0 W→HP W){K:Sl→WP}
    (hK: ∀y W,Gs W w0.heap.size e n y (xs++[x]).length ((xs++[x]).flatMap (encs cs))→Af w0 W→K y W) {p q:Nat} {y:Sl} {W1:World} (hp0:w0.heap.size≤p) (hp:p≤W1.heap.size) (g:Af w0 W1) (o1:Gs W1 p e n y xs.length (xs.flatMap (encs cs))) (hq:Az W1 q (encs cs x)):
    L9 ((Builtin.append_ #[ty,ty] ty' #[.slice y.1 y.2.1 y.2.2,.slice (some ⟨q,0,none⟩) 1 1]).run P W1) fun y2 W2=>HP W2∧K y2 W2:=by
  refine DR.ap2 (x:=x) ht hi hn h0 h2 hl hp o1 hq fun y2 W2 o2 u2 b2=>?_
  have g2:Af w0 W2:=Am.trans g u2 fun z hz ⟨a,ha,h⟩=>by have:=(o1.blk ha).1;omega
  exact⟨hh _ g2,hK y2 W2 (o2.Zq fun a ha=>Nat.le_trans hp0 (o2.blk ha).1) g2⟩
theorem DR.apA(ht:P.underlying ty=some (.slice e))(hi:jY P e n=true)(hn:n=cs.length)(h0:0<cs.length)(h1: ∀u∈xs.flatMap (encs cs),u.oneCell'=true)(hl:xs.length≤1000)(hE:DR w0 s cs xs){HP:WP}(hh: ∀W,Af w0 W→HP W){p:Nat}{W:World}(hp0:w0.heap.size≤p)(g:Af w0 W)(own:Gs W p e n (some ⟨p,0,none⟩,0,0) 0 [])
    {K:Sl→WP} (hK: ∀y W1,Gs W1 p e n y xs.length (xs.flatMap (encs cs))→Af w0 W1→Am (fun z=>z=p) W W1→K y W1):
    L9 ((Builtin.append_ #[ty,ty] ty' #[.slice (some ⟨p,0,none⟩) 0 0,.slice s.1 s.2.1 s.2.2]).run P W) fun y W1=>HP W1∧K y W1:=by
  refine DR.ap1 (xs:=xs) ht hi hn h0 h1 (hE.Ai g) hl (Af.refl _) own fun y W1 o1 u1=>?_
  have g1:Af w0 W1:=Am.trans g u1 fun z hz hh=>by omega
  exact⟨hh _ g1,hK y W1 o1 g1 u1⟩
theorem DR.snoc(ht:P.underlying ty=some (.slice e))(hi:jY P e n=true)(hn:n=cs.length)(h0:0<cs.length)(h1: ∀u∈xs.flatMap (encs cs),u.oneCell'=true)(h2: ∀u∈encs cs x,u.oneCell'=true)(hl:xs.length≤1000)(hE:DR w0 s cs xs){HP:WP}(hh: ∀W,Af w0 W→HP W){K:Sl→WP}
    (hK: ∀y W,Gs W w0.heap.size e n y (xs++[x]).length ((xs++[x]).flatMap (encs cs))→Af w0 W→K y W) {vs:List Value} (hvs:vs=encs cs x):
    (Bf [] e w0 fun p w1=>HP w1∧
      ((L9 ((Builtin.append_ #[ty,ty] ty' #[.slice (some p) 0 0,.slice s.1 s.2.1 s.2.2]).run P w1) fun y w2=>HP w2∧Bf vs e w2 fun q w3=>HP w3∧L9 ((Builtin.append_ #[ty,ty] ty' #[.slice y.1 y.2.1 y.2.2,.slice (some q) 1 1]).run P w3) fun y2 w4=>HP w4∧K y2 w4)∧
       (Bf vs e w1 fun q w2=>HP w2∧L9 ((Builtin.append_ #[ty,ty] ty' #[.slice (some p) 0 0,.slice s.1 s.2.1 s.2.2]).run P w2) fun y w3=>HP w3∧L9 ((Builtin.append_ #[ty,ty] ty' #[.slice y.1 y.2.1 y.2.2,.slice (some q) 1 1]).run P w3) fun y2 w4=>HP w4∧K y2 w4)))∧
    (Bf vs e w0 fun q w1=>HP w1∧Bf [] e w1 fun p w2=>HP w2∧L9 ((Builtin.append_ #[ty,ty] ty' #[.slice (some p) 0 0,.slice s.1 s.2.1 s.2.2]).run P w2) fun y w3=>HP w3∧L9 ((Builtin.append_ #[ty,ty] ty' #[.slice y.1 y.2.1 y.2.2,.slice (some q) 1 1]).run P w3) fun y2 w4=>HP w4∧K y2 w4):=by
  subst hvs
  refine⟨?_,?_⟩
  · refine Zv n 0 (by simp) (by omega) fun p w1 e1 o1 u1=>⟨hh _ u1,?_,?_⟩
    · refine DR.apA (xs:=xs) ht hi hn h0 h1 hl hE hh (by omega) u1 o1 fun y w2 o2 g2 u2=>Ad fun q w3 e3 k3 u3=>⟨hh _ (g2.trans u3),?_⟩
      have:=u1.size;have:=u2.size;have:=u3.size
      have:=(o1.blk rfl).2.1
      exact DR.apB (x:=x) ht hi hn h0 h2 hl hh hK (p:=p) (by omega) (by simp only at this;omega) (g2.trans u3) (o2.Ai u3) k3
    · refine Ad fun q w2 e2 k2 u2=>⟨hh _ (u1.trans u2),?_⟩
      refine DR.apA (xs:=xs) ht hi hn h0 h1 hl hE hh (by omega) (u1.trans u2) (o1.Ai u2) fun y w3 o3 g3 u3=>?_
      have:=u1.size;have:=u2.size;have:=u3.size
      have:=(o1.blk rfl).2.1
      simp only at this
      exact DR.apB (x:=x) ht hi hn h0 h2 hl hh hK (p:=p) (by omega) (by omega) g3 o3 (k2.upd u3 (by omega))
  · refine Ad fun q w1 e1 k1 u1=>⟨hh _ u1,Zv n 0 (by simp) (by omega) fun p w2 e2 o2 u2=>⟨hh _ (u1.trans u2),?_⟩⟩
    refine DR.apA (xs:=xs) ht hi hn h0 h1 hl hE hh (by have:=u1.size;omega) (u1.trans u2) o2 fun y w3 o3 g3 u3=>?_
    have:=u1.size;have:=u2.size;have:=u3.size
    have:=(o2.blk rfl).2.1
    have:=k1.lt
    simp only at*
    exact DR.apB (x:=x) ht hi hn h0 h2 hl hh hK (p:=p) (by omega) (by omega) g3 o3 ((k1.Ai u2).upd u3 (by omega))
end
theorem Ajo(e:E3):dZ e=Jm e:=rfl
def rBt(s:So):So:=if s.has=false then s else if wrap .i64 (s.age+1)≥s.limit then{s with age:=wrap .i64 (s.age+1),has:=false} else{s with age:=wrap .i64 (s.age+1)}
def SoR(s r:So):Prop:=r.limit=s.limit∧r.has=s.has∧(s.has=true→r=s)
theorem SoR.Ri{s r:So}(h:SoR s r):SoR (kL s) (rBt r):=by
  obtain⟨h1,h2,h3⟩:=h
  by_cases hs:s.has=false
  · have e1:kL s=s:=by unfold kL;rw[if_pos hs]
    have e2:rBt r=r:=by unfold rBt;rw[if_pos (h2.trans hs)]
    rw[e1,e2];exact⟨h1,h2,h3⟩
  · have e:=h3 (by cases c:s.has;exact absurd c hs;rfl)
    subst e
    by_cases c:wrap .i64 (r.age+1)≥r.limit
    · have e1:kL r=⟨r.limit,(0,0,0),0,0,0,false⟩:=by unfold kL;rw[if_neg hs,if_pos c]
      have e2:rBt r={r with age:=wrap .i64 (r.age+1),has:=false}:=by unfold rBt;rw[if_neg hs,if_pos c]
      rw[e1,e2];exact⟨rfl,rfl,fun h=>by cases h⟩
    · have e1:kL r={r with age:=wrap .i64 (r.age+1)}:=by unfold kL;rw[if_neg hs,if_neg c]
      have e2:rBt r={r with age:=wrap .i64 (r.age+1)}:=by unfold rBt;rw[if_neg hs,if_neg c]
      rw[e1,e2];exact⟨rfl,rfl,fun _=>rfl⟩
theorem SoR.time{s r:So}(h:SoR s r)(loc:Int):uD r loc=uD s loc:=by
  obtain⟨h1,h2,h3⟩:=h
  cases hs:s.has
  · unfold uD;rw[if_pos hs,if_pos (h2.trans hs)]
  · rw[h3 hs]
theorem Jd.cw{b:Nat}{s:So}{w:World}(hB:Az w b (fA s)){k:TR []→WP}
    (h: ∀w',Az w' b (fA (rBt s))→Am (fun x=>x=b) w w'→k () w'):
    Ae prog F.Jd [pB b] w true [] k:=by
  refine Jd.ok ?_
  unfold Jd.wp
  unfold rBt at h
  rw[Ac]
  refine hB.c1 7 (c:=.b) (x:=s.has) rfl (Ee (fun c=>?_) fun c=>?_)
  · have c:s.has=false:=c
    rw[if_pos c] at h;exact h w hB (Am.refl _ _)
  have c: ¬s.has=false:=by have c:s.has=true:=c;rw[c];simp
  rw[if_neg c] at h
  rw[Ac]
  refine hB.i1 6 rfl ?_
  rw[Ac]
  refine hB.sN 6 _ (by simp[fA]) rfl fun w6 k6 u6=>?_
  rw[Ap,Ac]
  have k6:Az w6 b (fA {s with age:=wrap .i64 (s.age+1)}):=k6
  refine k6.drew.i1 6 rfl ?_
  rw[Ac]
  refine k6.drew.i0 rfl (Dx (fun c=>?_) fun c=>?_)
  · have c:wrap .i64 (s.age+1)≥s.limit:=c
    rw[if_pos c] at h
    rw[Ac]
    exact k6.drew.sN 7 _ (by simp[fA]) rfl fun w13 k13 u13=>h w13 k13 (Am.trans u6.drew u13 fun _ _ h=>h)
  · have c: ¬wrap .i64 (s.age+1)≥s.limit:=c
    rw[if_neg c] at h
    exact h _ k6.drew u6.drew
theorem Ko.cl{b:Nat}{s:So}{e:E3}{root boot:Int}{w:World}(hB:Az w b (fA s)){k:TR [(false,[KI])]→WP}
    (h0:fM e root=false→ ∀w',Af w w'→k ((1,()),()) w')
    (h1:fM e root=true→ ∀w',Az w' b (fA {s with e:=e,root:=root,boot:=boot,age:=0,has:=true})→Am (fun x=>x=b) w w'→k ((0,()),()) w'):
    Ae prog F.Ko [pB b,.agg #[iV e.1,iV e.2.1,iV e.2.2],iV root,uV boot] w false [(false,[KI])] k:=by
  refine Ko.ok ?_
  unfold Ko.wp
  have lb:=hB.lt
  refine Ad fun p1 w2 e1 k1 u1=>k1.bC (Nz.cl fun w5 u5=>?_)
  have g5:=u1.trans u5
  have no:(dZ e=true→0≤root→root<64→False)→fM e root=false:=fun h=>by
    cases hp:fM e root
    · rfl
    · obtain⟨a,b,c⟩:=iP.1 hp;exact(h a b c).elim
  refine Ee (fun c=>h0 (no fun x _ _=>by have c:Jm e=false:=c;rw[Ajo,c] at x;cases x) w5 g5) fun c0=>?_
  have c0:dZ e=true:=c0
  refine Dx (fun c=>h0 (no fun _ x _=>by have c:root<0:=c;omega) w5 g5) fun c1=>Dx (fun c=>h0 (no fun _ _ x=>by have c:root>63:=c;omega) w5 g5) fun c2=>?_
  have c1: ¬root<0:=c1
  have c2: ¬root>63:=c2
  have q1:=k1.Ai u5
  have B:=hB.Ai g5
  refine q1.bC ?_
  rw[Ac]
  refine B.sN 1 _ (by simp[fA]) rfl fun w8 k8 u8=>?_
  rw[Ac]
  refine k8.sN 4 _ (by simp[fA,splice]) rfl fun w10 k10 u10=>?_
  rw[Ac]
  refine k10.sN 5 _ (by simp[fA,splice]) rfl fun w12 k12 u12=>?_
  rw[Ac]
  refine k12.sN 6 _ (by simp[fA,splice]) rfl fun w14 k14 u14=>?_
  rw[Ac]
  refine k14.sN 7 _ (by simp[fA,splice]) rfl fun w16 k16 u16=>?_
  refine h1 (iP.2 ⟨c0,by omega,by omega⟩) w16 k16 ?_
  exact Am.trans (Am.trans (Am.trans (Am.trans (Am.trans (Am.Bj g5) u8 fun _ _ h=>h) u10 fun _ _ h=>h) u12 fun _ _ h=>h) u14 fun _ _ h=>h) u16 fun _ _ h=>h
theorem Dv.cw{b br bE:Nat}{O:NP}{s:So}{loc:Int}{f:Fl}{e:El}{l:Um}{es:List E3}{w:World}(hB:Az w b (fA s))(hF:RW w O br bE f e l es)
    {k:TR [(true,K5),(false,[KI])]→WP} (h: ∀w',Af w w'→k (Yc (qL s f e l es loc).1,((qL s f e l es loc).2,()),()) w'):
    Ae prog F.Dv [pB b,.pointer (some ⟨br,0,none⟩),iV loc] w true [(true,K5),(false,[KI])] k:=by
  refine Dv.ok ?_
  unfold Dv.wp
  unfold qL at h
  refine Ad fun p1 w2 e1 k1 u1=>Bz.cw (hF.Ai u1) fun w4 u4=>?_
  have l1:=k1.lt
  have g4:=u1.trans u4
  have F4:=hF.Ai g4
  have k4:=k1.Ai u4
  have fin: ∀{w' w'':World},Af w w'→Am (fun x=>x=p1) w' w''→Af w w'':=fun g u=>Am.trans g u fun i hi h=>by omega
  refine bM (fun c=>?_) fun c=>?_
  · have c:Xb f e es.length=true:=c
    rw[if_pos c] at h
    unfold Ab3 at h
    refine Lj.cw F4 (loc:=loc) fun w6 u6=>?_
    generalize oH f e es loc=Z at*
    have F6:=F4.Ai u6
    have k6:=k4.Ai u6
    have g6:=g4.trans u6
    refine bK (fun c=>?_) fun c=>?_
    · have c:Z.2.2≠0:=c
      rw[if_pos c] at h
      exact k6.Fg _ rfl rfl fun w7 k7 u7=>k7.cA (Yc (0,0,0,0,0)) rfl (h w7 (fin g6 u7))
    have c:Z.2.2=0:=c
    rw[if_neg (fun h=>h c)] at h
    rw[Ac]
    refine F6.hdr (Ho.cl F6.elb F6.inv fun w12 u12=>Eu.cw (F6.Ai u12) fun w14 u14=>?_)
    have F14:=(F6.Ai u12).Ai u14
    have k14:=(k6.Ai u12).Ai u14
    have g14:=(g6.trans u12).trans u14
    refine bM (fun c=>?_) fun c=>?_
    · have c:mine e=true:=c
      rw[if_pos c] at h
      rw[Ac]
      refine F14.hdr ?_
      rw[Ac]
      refine F14.elb.c1 5 (x:=e.root) (Ep (by decide)) ?_
      exact k14.Fg _ rfl rfl fun w19 k19 u19=>k19.cA (Yc (Z.1,Z.2.1,e.root,(oN e l).1,1)) rfl (h w19 (fin g14 u19))
    · have c: ¬mine e=true:=by have c:mine e=false:=c;rw[c];simp
      rw[if_neg c] at h
      rw[Ac]
      refine F14.hdr ?_
      rw[Ac]
      refine F14.elb.c1 5 (x:=e.root) (Ep (by decide)) ?_
      exact k14.Fg _ rfl rfl fun w19 k19 u19=>k19.cA (Yc (Z.1,Z.2.1,e.root,(oN e l).1,2)) rfl (h w19 (fin g14 u19))
  · have c: ¬Xb f e es.length=true:=by have c:Xb f e es.length=false:=c;rw[c];simp
    rw[if_neg c] at h
    have B4:=hB.Ai g4
    have out: ∀{a:A5} {n:Int},uD s loc=(a,n)→ ∀{w':World},Af w w'→k (Yc a,(n,()),()) w':=fun ht w' g=>by
      have:=h w' g
      rw[ht] at this;exact this
    rw[Ac]
    refine B4.c1 7 (c:=.b) (x:=s.has) rfl (Ee (fun c=>?_) fun c=>?_)
    · have c:s.has=false:=c
      exact k4.Fg _ rfl rfl fun w16 k16 u16=>k16.cA (Yc (0,0,0,0,0)) rfl (out (by unfold uD;rw[if_pos c]) (fin g4 u16))
    have c:s.has=true:=c
    have e0: ¬s.has=false:=by rw[c];simp
    refine Dx (fun c1=>?_) fun c1=>?_
    · have c1:loc<0:=c1
      exact k4.Fg _ rfl rfl fun w16 k16 u16=>k16.cA (Yc (0,0,0,0,0)) rfl (out (by unfold uD;rw[if_neg e0,if_pos (.inl c1)]) (fin g4 u16))
    refine Dx (fun c2=>?_) fun c2=>?_
    · have c2:loc>1125899906842624:=c2
      exact k4.Fg _ rfl rfl fun w16 k16 u16=>k16.cA (Yc (0,0,0,0,0)) rfl (out (by unfold uD;rw[if_neg e0,if_pos (.inr c2)]) (fin g4 u16))
    have e1: ¬(loc<0∨loc>1125899906842624):=fun h=>h.elim c1 c2
    rw[Ac]
    refine B4.c2 1 1 (x:=s.e.2.1) rfl (Dx (fun c3=>?_) fun c3=>?_)
    · exact k4.Fg _ rfl rfl fun w16 k16 u16=>k16.cA (Yc (0,0,0,0,0)) rfl (out (by unfold uD;rw[if_neg e0,if_neg e1,if_pos (.inl c3)]) (fin g4 u16))
    rw[Ac]
    refine B4.c2 1 1 (x:=s.e.2.1) rfl (Dx (fun c4=>?_) fun c4=>?_)
    · exact k4.Fg _ rfl rfl fun w16 k16 u16=>k16.cA (Yc (0,0,0,0,0)) rfl (out (by unfold uD;rw[if_neg e0,if_neg e1,if_pos (.inr c4)]) (fin g4 u16))
    have e2: ¬(wrap .i64 (loc+s.e.2.1)<0∨wrap .i64 (loc+s.e.2.1)>1125899906842624):=fun h=>h.elim c3 c4
    rw[Ap,Ac]
    have B:=B4.drew
    refine B.c2 1 1 (x:=s.e.2.1) rfl ?_
    rw[Ac]
    refine B.c2 1 2 (x:=s.e.2.2) rfl ?_
    rw[Ac]
    refine B.c1 4 (x:=s.root) rfl ?_
    rw[Ac]
    refine B.c1 5 (c:=KU) (x:=s.boot) rfl ?_
    exact k4.drew.Fg _ rfl rfl fun w33 k33 u33=>⟨trivial,k33.cA (Yc (wrap .i64 (loc+s.e.2.1),s.e.2.2,s.root,s.boot,3)) rfl (out (by unfold uD;rw[if_neg e0,if_neg e1,if_neg e2]) (fin (g4.trans (Af.drew _)) u33))⟩
end Go.Proofs.YtnjmfbjgcfnanaaGreat
