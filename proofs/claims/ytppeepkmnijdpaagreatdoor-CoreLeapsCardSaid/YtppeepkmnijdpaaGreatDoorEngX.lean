import Derived.Test.YtppeepkmnijdpaaGreatDoorEngU
import Derived.MapKept
import Derived.Test.YtppeepkmnijdpaaGreatDoorEngR
namespace Go.Eng
open Go
set_option linter.unusedSimpArgs false
set_option linter.unusedVariables false
set_option maxRecDepth 100000
set_option maxHeartbeats 8000000
def Zb(w:World)(r:Nat)(ag:Bool)(cs:List CK)(l:List (Int×Ky cs)):Prop:=
 ∃(es:List MapEntry) (c:Nat),w.heap[r]? =some (.map es.toArray c)∧es.map (λe=>(e.key,e.val))=l.map (λp=>(Value.int .i64 p.1,enc1 ag cs p.2))
def U5{α:Type}:List (Int×α)→Int→Option α
 |[],_=>none
 |p::l,k=>if p.1=k then some p.2 else U5 l k
def bM{α:Type}:List (Int×α)→Int→α→List (Int×α)
 |[],k,v=>[(k,v)]
 |p::l,k,v=>if p.1=k then(k,v)::l else p::bM l k v
theorem xI{α:Type}(l:List (Int×α))(k j:Int)(v:α):U5 (bM l k v) j=if j=k then some v else U5 l j:=by
 induction l with
 |nil=>
  simp only[bM,U5]
  by_cases h:k=j
  ·subst h;simp
  ·rw[if_neg h,if_neg (λe=>h e.symm)]
 |cons p l ih=>
  simp only[bM]
  by_cases h:p.1=k
  ·rw[if_pos h]
   simp only[U5]
   by_cases hj:k=j
   ·subst hj;simp
   ·rw[if_neg hj,if_neg (λe=>hj e.symm),if_neg (by rw[h];exact hj)]
  ·rw[if_neg h]
   simp only[U5]
   rw[ih]
   by_cases hj:p.1=j
   ·subst hj
    rw[if_pos rfl,if_neg h,if_pos rfl]
   ·rw[if_neg hj,if_neg hj]
theorem Zb.lt{w:World}{r:Nat}{ag:Bool}{cs:List CK}{l:List (Int×Ky cs)}(h:Zb w r ag cs l):r<w.heap.size:=by
 obtain⟨es,c,h,_⟩:=h
 exact(Array.getElem?_eq_some_iff.1 h).1
theorem Zb.upd{S:NP}{w w':World}{r:Nat}{ag:Bool}{cs:List CK}{l:List (Int×Ky cs)}(h:Zb w r ag cs l)(u:Ap S w w')(hS: ¬S r):Zb w' r ag cs l:=by
 have hl:=h.lt
 obtain⟨es,c,h1,h2⟩:=h
 exact⟨es,c,by rw[u.block r hl hS];exact h1,h2⟩
theorem Zb.drew{w:World}{r:Nat}{ag:Bool}{cs:List CK}{l:List (Int×Ky cs)}(h:Zb w r ag cs l):Zb w.drew r ag cs l:=h
def pI(ag:Bool)(cs:List CK):List (Int×Ky cs)→Int→Nat→Option (Nat×Value)
 |[],_,_=>none
 |p::l,k,i=>if p.1=k then some (i,enc1 ag cs p.2) else pI ag cs l k (i+1)
theorem qK{ag:Bool}{cs:List CK}{kd:IntKind}: ∀(l:List (Int×Ky cs)) (es:List MapEntry) (k:Int) (i:Nat),es.map (λe=>(e.key,e.val))=l.map (λp=>(Value.int .i64 p.1,enc1 ag cs p.2))→
  Instr.findNow (.int kd) (iV k) es i=some (pI ag cs l k i)
 |[],es,k,i,h=>by
  have:es=[]:=by cases es;rfl;simp at h
  subst this;rfl
 |p::l,[],k,i,h=>by simp at h
 |p::l,e::es,k,i,h=>by
  simp only[List.map_cons,List.cons.injEq,Prod.mk.injEq] at h
  obtain⟨⟨h1,h2⟩,h3⟩:=h
  unfold Instr.findNow pI
  rw[h1]
  simp only[Instr.sameNow,if_true]
  by_cases hk:p.1=k
  ·subst hk
   simp[h2]
  ·rw[if_neg hk]
   have:(k==p.1)=false:=beq_eq_false_iff_ne.2 λe=>hk e.symm
   rw[this]
   exact qK l es k (i+1) h3
theorem Ade{ag:Bool}{cs:List CK}: ∀(l:List (Int×Ky cs)) (k:Int) (i:Nat),(pI ag cs l k i).map (·.2)=(U5 l k).map (enc1 ag cs)
 |[],k,i=>rfl
 |p::l,k,i=>by
  unfold pI U5
  by_cases h:p.1=k
  ·rw[if_pos h,if_pos h];rfl
  ·rw[if_neg h,if_neg h];exact Ade l k (i+1)
theorem wJ{ag:Bool}{cs:List CK}: ∀(l:List (Int×Ky cs)) (k:Int) (i:Nat) (v:Ky cs),pI ag cs l k i=none→bM l k v=l++[(k,v)]
 |[],k,i,v,_=>rfl
 |p::l,k,i,v,h=>by
  unfold pI at h
  by_cases hk:p.1=k
  ·rw[if_pos hk] at h;cases h
  ·rw[if_neg hk] at h
   simp only[bM]
   rw[if_neg hk,wJ l k (i+1) v h];rfl
theorem xX{ag:Bool}{cs:List CK}: ∀(l:List (Int×Ky cs)) (k:Int) (i j:Nat) (u:Value) (v:Ky cs),pI ag cs l k i=some (j,u)→ ∃m x,j=i+m∧l[m]? =some (k,x)∧bM l k v=l.set m (k,v)
 |[],k,i,j,u,v,h=>by cases h
 |p::l,k,i,j,u,v,h=>by
  unfold pI at h
  by_cases hk:p.1=k
  ·rw[if_pos hk] at h
   injection h with h
   injection h with h1 h2
   exact⟨0,p.2,by omega,by simp[←hk],by simp[bM,hk]⟩
  ·rw[if_neg hk] at h
   obtain⟨m,x,h1,h2,h3⟩:=xX l k (i+1) j u v h
   exact⟨m+1,x,by omega,by simpa using h2,by simp[bM,hk,h3]⟩
theorem Atv{P:Program}{t:TypeId}{w:World}{k:Nat→WP}(ag:Bool)(cs:List CK)(h: ∀r w',w.heap.size=r→Zb w' r ag cs []→Ah w w'→k r w'):maK P t w k:=by
 unfold maK
 rw[show(Instr.makeMap t none).run P w=.ok (.map (some w.heap.size)) (w.alloc (.map #[] 0)) from rfl]
 refine h _ _ rfl ⟨[],0,?_,rfl⟩ ((Ah.refl w).alloc _)
 show(w.heap.push _)[w.heap.size]? =_
 rw[Array.getElem?_push,if_pos rfl]
theorem Acz{P:Program}{w:World}{kt:TypeId}{ag:Bool}{cs:List CK}{l:List (Int×Ky cs)}(hk:P.underlying kt=some (.int .i64)){es:List MapEntry}(he:es.map (λe=>(e.key,e.val))=l.map (λp=>(Value.int .i64 p.1,enc1 ag cs p.2)))(k:Int):
  (Instr.findKey kt (iV k) es).run P w=.ok (pI ag cs l k 0) w:=by
 simp[Instr.findKey,underlying,program,bind,Sem.bind,Sem.run,hk,qK l es k 0 he,pure]
theorem lX{P:Program}{w:World}{kt:TypeId}{e:Bool}{n:Nat}(hk:P.underlying kt=some (.int .i64))(k:Int):(Instr.checkKey e (n+1) kt (iV k)).run P w=.ok () w:=by
 simp[Instr.checkKey,underlying,program,bind,Sem.bind,Sem.run,hk,pure]
theorem Ak1{P:Program}{w:World}{r:Nat}{t kt et:TypeId}{ag:Bool}{cs:List CK}{l:List (Int×Ky cs)}(hm:Zb w r ag cs l)(ht:P.underlying t=some (.map kt et))(hk:P.underlying kt=some (.int .i64)){z:Ky cs}(hz: ∀w,(zeroValue et).run P w=.ok (enc1 ag cs z) w)(k:Int)(ok:Bool):
  (Instr.lookup t (.map (some r)) (iV k) ok).run P w=.ok (if ok=true then .tuple #[enc1 ag cs ((U5 l k).getD z),.bool (U5 l k).isSome] else enc1 ag cs ((U5 l k).getD z)) w:=by
 obtain⟨es,c,hb,he⟩:=hm
 have hf:=Acz (P:=P) (w:=w) hk he k
 have hg:=Ade (ag:=ag) l k 0
 have hc: ∀e,(Instr.checkKey e 10000 kt (iV k)).run P w=.ok () w:=λe=>lX hk k
 have h1:(getObj r).run P w=.ok (.map es.toArray c) w:=by simp[getObj,Sem.run,hb]
 cases h0:pI ag cs l k 0 with
 |none=>
  rw[h0] at hf hg
  have hm0:U5 l k=none:=by cases h:U5 l k;rfl;rw[h] at hg;cases hg
  rw[hm0]
  cases ok<;>simp[Instr.lookup,Sem.run_bind,Tj ht,h1,hc,hf,hz,Result.andThen,pure,Sem.run]
 |some x=>
  obtain⟨j,u⟩:=x
  rw[h0] at hf hg
  obtain⟨y,hy,hu⟩: ∃y,U5 l k=some y∧u=enc1 ag cs y:=by
   cases h:U5 l k with
   |none=>rw[h] at hg;cases hg
   |some y=>rw[h] at hg;injection hg with hg;exact⟨y,rfl,hg⟩
  rw[hy]
  cases ok<;>simp[Instr.lookup,Sem.run_bind,Tj ht,h1,hc,hf,hz,hu,Result.andThen,pure,Sem.run]
theorem Arj{P:Program}{w:World}{r:Nat}{t kt et:TypeId}{ag:Bool}{cs:List CK}{l:List (Int×Ky cs)}(hm:Zb w r ag cs l)(ht:P.underlying t=some (.map kt et))(hk:P.underlying kt=some (.int .i64)){z:Ky cs}(hz: ∀w,(zeroValue et).run P w=.ok (enc1 ag cs z) w){k:Int}
  {K:Ky cs→Bool→Prop} (h:K ((U5 l k).getD z) (U5 l k).isSome):lkO P t (.map (some r)) (iV k) w ag cs K:=
 ⟨_,_,Ak1 hm ht hk hz k true,h⟩
theorem Atm{P:Program}{w:World}{r:Nat}{t kt et:TypeId}{ag:Bool}{cs:List CK}{l:List (Int×Ky cs)}(hm:Zb w r ag cs l)(ht:P.underlying t=some (.map kt et))(hk:P.underlying kt=some (.int .i64)){z:Ky cs}(hz: ∀w,(zeroValue et).run P w=.ok (enc1 ag cs z) w){k:Int}
  {K:Ky cs→Prop} (h:K ((U5 l k).getD z)):lkP P t (.map (some r)) (iV k) w ag cs K:=
 ⟨_,Ak1 hm ht hk hz k false,h⟩
theorem Arh{P:Program}{w:World}{r:Nat}{t kt et:TypeId}{ag:Bool}{cs:List CK}{l:List (Int×Ky cs)}(hm:Zb w r ag cs l)(ht:P.underlying t=some (.map kt et))(hk:P.underlying kt=some (.int .i64)){k:Int}{v:Ky cs}
  {K:WP} (h: ∀w',Zb w' r ag cs (bM l k v)→Ap (λb=>b=r) w w'→K w'):muK P t (.map (some r)) (iV k) (enc1 ag cs v) w K:=by
 have hlt:=hm.lt
 obtain⟨es,c,hb,he⟩:=hm
 have hf:=Acz (P:=P) (w:=w) hk he k
 have hc:(Instr.checkKey false 10000 kt (iV k)).run P w=.ok () w:=lX hk k
 have h1:(getObj r).run P w=.ok (.map es.toArray c) w:=by simp[getObj,Sem.run,hb]
 have hs: ∀o:Obj,(setObj r o).run P w=.ok () (w.putObj r o):=λo=>by simp[setObj,Sem.run,hb,World.putObj]
 have hu: ∀o:Obj,Ap (λb=>b=r) w (w.putObj r o):=λo=>⟨rfl,rfl,rfl,by simp[World.putObj],λj hj hn=>World.putObj_heap_other hn⟩
 have hgot: ∀o:Obj,(w.putObj r o).heap[r]? =some o:=λo=>World.putObj_heap_same hlt
 have key: ∃o,(Instr.mapUpdate t (.map (some r)) (iV k) (enc1 ag cs v)).run P w=.ok () (w.putObj r o)∧Zb (w.putObj r o) r ag cs (bM l k v):=by
  unfold Instr.mapUpdate
  cases h0:pI ag cs l k 0 with
  |none=>
   rw[h0] at hf
   refine⟨.map (es++[({key:=iV k,val:=enc1 ag cs v,born:=c}:MapEntry)]).toArray (c+1),?_,es++[({key:=iV k,val:=enc1 ag cs v,born:=c}:MapEntry)],c+1,hgot _,?_⟩
   ·refine(run_bind _ _ w (Tj ht w)).trans ?_
    simp only
    refine(run_bind _ _ w h1).trans ?_
    simp only
    refine(run_bind _ _ w hc).trans ?_
    refine(run_bind _ _ w hf).trans ?_
    simp only[List.push_toArray]
    exact hs _
   ·rw[wJ l k 0 v h0,List.map_append,List.map_append,he];rfl
  |some x=>
   obtain⟨j,u⟩:=x
   rw[h0] at hf
   obtain⟨m,x,hj,hm,hset⟩:=xX l k 0 j u v h0
   rw[Nat.zero_add] at hj
   subst hj
   have hem:(es.map λe=>(e.key,e.val))[j]? =some (Value.int .i64 k,enc1 ag cs x):=by rw[he,List.getElem?_map,hm];rfl
   rw[List.getElem?_map] at hem
   obtain⟨e0,he0,hkv⟩:=Option.map_eq_some_iff.1 hem
   injection hkv with hk0 hv0
   refine⟨.map (es.modify j λ(e:MapEntry)=>({e with key:=iV k,val:=enc1 ag cs v}:MapEntry)).toArray c,?_,_,c,hgot _,?_⟩
   ·refine(run_bind _ _ w (Tj ht w)).trans ?_
    simp only
    refine(run_bind _ _ w h1).trans ?_
    simp only
    refine(run_bind _ _ w hc).trans ?_
    refine(run_bind _ _ w hf).trans ?_
    simp only[List.getElem?_toArray,he0,Option.map_some,Option.getD_some,hk0]
    have hstay:(Instr.keyThatStays (iV k) (iV k)).run P w=.ok (iV k) w:=by
     simp[Instr.keyThatStays,Instr.sameBits,pure,Sem.run]
    refine(run_bind _ _ w hstay).trans ?_
    rw[List.modify_toArray]
    exact hs _
   ·rw[hset]
    apply List.ext_getElem?
    intro i
    rw[List.getElem?_map,List.getElem?_map,List.getElem?_modify,List.getElem?_set]
    have hi:=congrArg (·[i]?) he
    simp only[List.getElem?_map] at hi
    by_cases hij:j=i
    ·subst hij
     rw[if_pos rfl,if_pos (List.getElem?_eq_some_iff.1 hm).1,he0]
     simp
    ·rw[if_neg hij,←hi]
     simp[hij]
 obtain⟨o,hr,hM⟩:=key
 unfold muK
 rw[hr]
 exact h _ hM (hu o)
theorem Ar.c0{w:World}{b:Nat}{cs:List Value}(h:Ar w b cs){c:CK}{x:Tv c}(e:cs[0]? =some (enc c x)){k:Tv c→Prop}(hk:k x):ld1 c ⟨b,0,none⟩ w k:=by
 rw[h.ld (c:=c) e (lC c x)];exact hk
theorem Ar.c1{w:World}{b:Nat}{cs:List Value}(h:Ar w b cs)(o:Nat){c:CK}{x:Tv c}(e:cs[o]? =some (enc c x)){k:Tv c→Prop}(hk:k x):ld1 c (Addr.add ⟨b,0,none⟩ o) w k:=by
 rw[Lr,Nat.zero_add,h.ld (c:=c) e (lC c x)];exact hk
theorem Ar.c2{w:World}{b:Nat}{cs:List Value}(h:Ar w b cs)(o p:Nat){c:CK}{x:Tv c}(e:cs[o+p]? =some (enc c x)){k:Tv c→Prop}(hk:k x):ld1 c (Addr.add (Addr.add ⟨b,0,none⟩ o) p) w k:=by
 rw[add_add];exact h.c1 (o+p) e hk
theorem Ar.cN{w:World}{b:Nat}{vs:List Value}(h:Ar w b vs)(o:Nat){cs:List CK}(x:Ky cs)(e:(vs.drop o).take cs.length=encs cs x){k:Ky cs→Prop}(hk:k x):Bc cs (Addr.add ⟨b,0,none⟩ o) 0 w k:=by
 refine Adm cs x _ 0 k (λj v hj=>?_) lC hk
 rw[add_add,Lr,Nat.zero_add,Nat.zero_add,h.cell]
 rw[←e,List.getElem?_take] at hj
 split at hj
 ·rwa [List.getElem?_drop] at hj
 ·cases hj
theorem Ar.cA{w:World}{b:Nat}{vs:List Value}(h:Ar w b vs){cs:List CK}(x:Ky cs)(e:vs=encs cs x){k:Ky cs→Prop}(hk:k x):Bc cs ⟨b,0,none⟩ 0 w k:=
 h.cN 0 x (by rw[List.drop_zero,e,←Ld cs x,List.take_length]) hk
theorem Ar.sN{b:Nat}{k:WP}(o:Nat)(vs:List Value){w:World}{cs:List Value}(h:Ar w b cs)(hi:o+vs.length≤cs.length)(hv:vs.all okc=true)
  (hk: ∀w',Ar w' b (splice cs o vs)→Ap (λx=>x=b) w w'→k w'):Au vs (Addr.add ⟨b,0,none⟩ o) 0 w k:=by
 rw[Lr,Nat.zero_add]
 exact h.st vs (by omega) hv hk
theorem Ar.sN0{b:Nat}{k:WP}(vs:List Value){w:World}{cs:List Value}(h:Ar w b cs)(hi:vs.length≤cs.length)(hv:vs.all okc=true)
  (hk: ∀w',Ar w' b (splice cs 0 vs)→Ap (λx=>x=b) w w'→k w'):Au vs ⟨b,0,none⟩ 0 w k:=
 h.st vs (by omega) hv hk
end Go.Eng
