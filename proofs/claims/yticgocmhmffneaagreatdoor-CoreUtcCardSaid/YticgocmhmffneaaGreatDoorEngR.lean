import Derived.Test.YticgocmhmffneaaGreatDoorEngB
import Derived.WalkKit
import Derived.ProofKit
import Derived.OpenShut
import Derived.Carry
import Derived.HandedShaped
import Derived.ChangeSlices
import Derived.Deep.Strs
import Derived.Test.YticgocmhmffneaaGreatDoorEngU
namespace Go.Eng
open Go Go.ChangeShapes Go.WideShapes Go.ChangeAt Go.RowKit Go.WideElems Go.Deep
open Go.IntKind (wrap)
set_option linter.unusedSimpArgs false
set_option linter.unusedVariables false
set_option maxRecDepth 100000
set_option maxHeartbeats 8000000
theorem Ad4{P:Program}{g:FuncId}{args:List Value}{w:World}(h:Ae P g args w false [(false,[.b])] (Holds w)):
  Calls P g args.toArray w λe w'=>e=.returned (.bool true)∧Below w.heap.size w w':=by
 refine Calls.mono h λe w' ⟨r,he,hr,hg⟩=>?_
 subst hr
 exact⟨he,hg.below⟩
theorem jH{H:Type}{enc:TypeId×Value→H}{P:Program}(hl:laidOutB P=true){W W':World}(hb:Below W.heap.size W W'):
  ∀{ts:List TypeId} {vs:List Value} {ds:List (DataW H)} {ps:List MemPlace},ts.all (λt=>P.readableRec t&&decide (t<P.types.size))=true→
   DataW.TrodAll enc P W 0 (λ_=>true) true ts vs ds ps→(∀x∈ps,x.block<W.heap.size)→DataW.TrodAll enc P W' 0 (λb=>decide (b<W.heap.size)) true ts vs ds ps
 |[],vs,ds,ps,_,h,_=>by
  obtain⟨rfl,rfl,rfl⟩:=trodAll_nil h
  exact trodAll_mk0
 |t::ts,vs,ds,ps,hr,h,hlt=>by
  obtain⟨v,vs',d,ds',p,q,rfl,rfl,rfl,h1,h2⟩:=trodAll_cons h
  simp only[List.all_cons,Bool.and_eq_true,decide_eq_true_eq] at hr
  exact trodAll_cons_mk (Below.trod hl hr.1.1 hr.1.2 h1 hb λx hx=>hlt x (List.mem_append_left _ hx))
   (jH hl hb (by simpa using hr.2) h2 λx hx=>hlt x (List.mem_append_right _ hx))
theorem trodAll_length{H:Type}{enc:TypeId×Value→H}{P:Program}{W:World}{b:Nat}{sp:Nat→Bool}{hd:Bool}:
  ∀{ts:List TypeId} {vs:List Value} {ds:List (DataW H)} {ps:List MemPlace},DataW.TrodAll enc P W b sp hd ts vs ds ps→ds.length=ts.length
 |[],_,_,_,h=>by obtain⟨rfl,rfl,rfl⟩:=trodAll_nil h;rfl
 |t::ts,_,_,_,h=>by
  obtain⟨v,vs',d,ds',p,q,rfl,rfl,rfl,h1,h2⟩:=trodAll_cons h
  simp[trodAll_length h2]
theorem Ama{n:Int}(h:(Lit.int .i64 n).wf=true):I64 n:=by
 simp[Lit.wf,IntKind.min,IntKind.max,IntKind.signed,IntKind.bits] at h
 unfold I64
 omega
theorem Ahe{H:Type}{enc:TypeId×Value→H}{P:Program}{w:World}{base b0:Nat}{spare:Nat→Bool}{held:Bool}{r:Reach}{t:TypeId}{v:Value}{d:DataW H}{ps:List MemPlace}(ht:P.underlying t=some (.int .i64))(hval:Value.okWide P w r b0 t v)
  (hd:DataW.Trod enc P w base spare held t v d ps): ∃n,v=iV n∧I64 n:=by
 obtain⟨n,e,_,_,h⟩:=open_int ht hval hd
 exact⟨n,e,Ama h⟩
def rY(g:TypeId→Option (List IntKind))(P:Program):Nat→List Field→Option (List IntKind)
 |_,[]=>some []
 |o,f::fs=>match g f.type with
  |some ks=>if f.offset=o∧P.cellsOf f.type=ks.length then(rY g P (o+ks.length) fs).map (ks++·) else none
  |none=>none
def flatK(P:Program):Nat→TypeId→Option (List IntKind)
 |0,_=>none
 |n+1,t=>match P.underlying t with
  |some (.int k)=>some [k]
  |some (.struct fs)=>match rY (flatK P n) P 0 fs.toList with
   |some ks=>if P.cellsOf t=ks.length then some ks else none
   |none=>none
  |_=>none
def RgT:(ks:List IntKind)→Jf (ks.map CK.i)→Prop
 |[],_=>True
 |k::ks,x=>(Lit.int k x.1).wf=true∧RgT ks x.2
def OkI(ks:List IntKind)(cs:List Value):Prop:= ∃x:Jf (ks.map CK.i),cs=encs (ks.map CK.i) x∧RgT ks x
theorem OkI.nil:OkI [] []:=⟨(),rfl,trivial⟩
theorem OkI.append: ∀{k1 k2:List IntKind} {c1 c2:List Value},OkI k1 c1→OkI k2 c2→OkI (k1++k2) (c1++c2)
 |[],k2,c1,c2,h1,h2=>by obtain⟨x,rfl,_⟩:=h1;exact h2
 |k::k1,k2,c1,c2,h1,h2=>by
  obtain⟨x,rfl,h3,h4⟩:=h1
  obtain⟨y,e,r⟩:=OkI.append (k1:=k1) (k2:=k2) ⟨x.2,rfl,h4⟩ h2
  exact⟨(x.1,y),by show enc (CK.i k) x.1::(encs (k1.map CK.i) x.2++c2)=enc (CK.i k) x.1::encs ((k1++k2).map CK.i) y;rw[e],h3,r⟩
section
variable {H:Type} {enc:TypeId×Value→H} {P:Program} {w:World} {base:Nat} {spare:Nat→Bool} {held:Bool}
theorem nT{g:TypeId→Option (List IntKind)}{fuel:Nat}(IH: ∀t ks cs y,g t=some ks→DataW.trod enc P w base spare held fuel t cs=some y→OkI ks cs){cs:List Value}: ∀(fs:List Field) (o:Nat) (ks:List IntKind),
  rY g P o fs=some ks→(∀f∈fs,∃y,DataW.trod enc P w base spare held fuel f.type ((cs.drop f.offset).take (P.cellsOf f.type))=some y)→cs.length=o+ks.length→OkI ks (cs.drop o)
 |[],o,ks,h,_,hl=>by
  simp only[rY,Option.some.injEq] at h
  subst h
  rw[List.drop_of_length_le (by simp at hl;omega)]
  exact OkI.nil
 |f::fs,o,ks,h,hf,hl=>by
  unfold rY at h
  split at h
  case h_2=>cases h
  rename_i k1 hk
  split at h
  case isFalse=>cases h
  rename_i hc
  obtain⟨k2,h2,rfl⟩:=Option.map_eq_some_iff.1 h
  obtain⟨y,hy⟩:=hf f (by simp)
  have o1:=IH _ _ _ _ hk hy
  rw[hc.1,hc.2] at o1
  have o2:=nT IH fs (o+k1.length) k2 h2 (λf h=>hf f (by simp[h])) (by rw[List.length_append] at hl;omega)
  have:=o1.append o2
  rwa [←List.drop_drop,List.take_append_drop] at this
theorem mM: ∀(n:Nat) (t:TypeId) (ks:List IntKind) (fuel:Nat) (cs:List Value) (y:DataW H×List MemPlace),flatK P n t=some ks→DataW.trod enc P w base spare held fuel t cs=some y→OkI ks cs
 |0,_,_,_,_,_,h,_=>by cases h
 |n+1,t,ks,fuel,cs,y,h,hd=>by
  unfold flatK at h
  split at h
  ·rename_i k hu
   injection h with h;subst h
   obtain⟨x,rfl,_,wx⟩:=DataW.trod_int hu hd
   exact⟨(x,()),rfl,wx,trivial⟩
  ·rename_i fs hu
   split at h
   case h_2=>cases h
   rename_i ks' hfs
   split at h
   case isFalse=>cases h
   rename_i hc
   injection h with h;subst h
   obtain⟨xs,m,rfl,_,hl,hxl,hff⟩:=DataW.trod_struct hu hd
   have:=nT (cs:=cs) (λt ks cs y h1 h2=>mM n t ks m cs y h1 h2) fs.toList 0 ks' hfs (λf hf=>?_) (by rw[hl,hc,Nat.zero_add])
   ·simpa using this
   ·obtain⟨i,hi,he⟩:=List.getElem_of_mem hf
    have h1:=hff i f (by rw[←he];simp)
    have h2:i<xs.length:=by rw[hxl];simpa using hi
    exact⟨xs[i],by rw[h1];exact List.getElem?_eq_getElem h2⟩
  ·cases h
def Akz(P:Program)(t:TypeId):Bool:=match P.underlying t with|some (.struct _)=>true|_=>false
theorem Aqb{e:TypeId}{v:Value}{d:DataW H}{ps:List MemPlace}{b0:Nat}{r:Reach}{ks:List IntKind}(hs:Akz P e=true)(hk:flatK P 8 e=some ks)(hval:Value.okWide P w r b0 e v)(hd:DataW.Trod enc P w base spare held e v d ps):
  ∃x:Jf (ks.map CK.i),v=.agg (encs (ks.map CK.i) x).toArray∧RgT ks x:=by
 have hu: ∃fs,P.underlying e=some (.struct fs):=by
  unfold Akz at hs
  split at hs
  ·rename_i fs hu;exact⟨fs,hu⟩
  ·cases hs
 obtain⟨fs,hu⟩:=hu
 obtain⟨cs,rfl,hcs⟩:=okWide_struct hu hval
 obtain⟨fuel,hf⟩:=hd
 obtain⟨x,hx,hr⟩:=mM 8 e ks fuel _ _ hk hf
 refine⟨x,?_,hr⟩
 have:cs.toList=encs (ks.map CK.i) x:=by simpa [Value.cells] using hx
 rw[←this]
end
def aP(w:World)(s:Sl)(cs:List CK)(xs:List (Jf cs)):Prop:=Row w s cs.length (xs.flatMap (encs cs))
theorem cO{cs:List CK}(xs:List (Jf cs)):(xs.flatMap (encs cs)).length=xs.length*cs.length:=by
 induction xs with
 |nil=>simp
 |cons x xs ih=>rw[List.flatMap_cons,List.length_append,Ak,ih,List.length_cons,Nat.add_mul,Nat.one_mul];omega
theorem flat_get{cs:List CK}: ∀{xs:List (Jf cs)} {i:Nat} {x:Jf cs},xs[i]? =some x→ ∀j v,(encs cs x)[j]? =some v→(xs.flatMap (encs cs))[i*cs.length+j]? =some v
 |[],i,x,h=>by cases h
 |y::xs,0,x,h=>by
  intro j v hj
  simp at h;subst h
  rw[List.flatMap_cons,Nat.zero_mul,Nat.zero_add,List.getElem?_append_left (List.getElem?_eq_some_iff.1 hj).1];exact hj
 |y::xs,i+1,x,h=>by
  intro j v hj
  rw[List.flatMap_cons,List.getElem?_append_right (by rw[Ak,Nat.add_mul];omega),Ak,show(i+1)*cs.length+j-cs.length=i*cs.length+j by rw[Nat.add_mul];omega]
  exact flat_get (by simpa using h) j v hj
theorem aP.len{w:World}{s:Sl}{cs:List CK}{xs:List (Jf cs)}(h:aP w s cs xs)(h0:0<cs.length):s.2.1=xs.length:=by
 have h1:=Row.len h
 rw[cO] at h1
 exact Nat.eq_of_mul_eq_mul_right h0 h1
theorem aP.Ai{w w':World}{s:Sl}{cs:List CK}{xs:List (Jf cs)}(h:aP w s cs xs)(u:Af w w'):aP w' s cs xs:=Row.Ai h u
theorem aP.addr{w:World}{s:Sl}{cs:List CK}{xs:List (Jf cs)}(h:aP w s cs xs)(h0:0<cs.length){i:Nat}{x:Jf cs}(hi:xs[i]? =some x): ∃a,s.1=some a:=by
 refine Row.addr h ?_
 have:=(List.getElem?_eq_some_iff.1 hi).1
 rw[cO]
 exact Nat.mul_pos (by omega) h0
theorem aP.ix{w:World}{s:Sl}{cs:List CK}{xs:List (Jf cs)}(h:aP w s cs xs)(h0:0<cs.length){z:Int}{i:Nat}{x:Jf cs}(hz:z=i)(hi:xs[i]? =some x){k:Addr→Prop}(hk: ∀a,s.1=some a→k a):Ny s.1 s.2.1 z k:=by
 subst hz
 obtain⟨a,ha⟩:=h.addr h0 hi
 have:=(List.getElem?_eq_some_iff.1 hi).1
 have hl:=h.len h0
 rw[ha,Tq (by omega)]
 exact hk a ha
theorem Ab0{w:World}: ∀(cs:List CK) (x:Jf cs) (p:Addr) (i:Nat) (k:Jf cs→Prop),(∀j v,(encs cs x)[j]? =some v→w.cell? (p.add (i+j))=some v)→(∀c (y:Tv c),dec c (enc c y)=some y)→k x→A8 cs p i w k
 |[],x,p,i,k,_,_,hk=>hk
 |c::cs,x,p,i,k,h,hd,hk=>by
  have h0:=h 0 (enc c x.1) rfl
  rw[Nat.add_zero] at h0
  unfold A8
  rw[h0,Option.bind_some,hd]
  exact Ab0 cs x.2 p (i+1) (λxs=>k (x.1,xs)) (λj v hj=>by rw[show i+1+j=i+(j+1) by omega];exact h (j+1) v hj) hd hk
theorem lT(c:CK)(x:Tv c):dec c (enc c x)=some x:=by
 cases c<;>simp[enc,dec,Akk,Ame,Am0,At6,Acx,Anj,An3]
theorem aP.A8{w:World}{s:Sl}{cs:List CK}{xs:List (Jf cs)}(h:aP w s cs xs){a:Addr}(ha:s.1=some a){i:Nat}{x:Jf cs}(hi:xs[i]? =some x){k:Jf cs→Prop}(hk:k x):
  A8 cs (a.add (((i:Int)).toNat*cs.length)) 0 w k:=by
 refine Ab0 cs x _ 0 k (λj v hj=>?_) lT hk
 rw[add_add,Int.toNat_natCast,Nat.zero_add]
 exact Row.ld h ha (flat_get hi j v hj)
theorem Aal{w:World}{a:Addr}{ks:List IntKind}: ∀(n:Nat),(∀i,i<n→ ∃x:Jf (ks.map CK.i),RgT ks x∧ ∀j v,(encs (ks.map CK.i) x)[j]? =some v→w.cell? (a.add (i*ks.length+j))=some v)→
  ∃xs:List (Jf (ks.map CK.i)),xs.length=n∧(∀x∈xs,RgT ks x)∧ ∀k v,(xs.flatMap (encs (ks.map CK.i)))[k]? =some v→w.cell? (a.add k)=some v
 |0,_=>⟨[],rfl,by simp,λk v h=>by cases h⟩
 |n+1,h=>by
  obtain⟨xs,hl,h1,h2⟩:=Aal n λi hi=>h i (by omega)
  obtain⟨x,hr,hx⟩:=h n (by omega)
  refine⟨xs++[x],by simp[hl],?_,?_⟩
  ·intro y hy
   rcases List.mem_append.1 hy with hy|hy
   ·exact h1 y hy
   ·simp at hy;subst hy;exact hr
  ·intro k v hk
   rw[List.flatMap_append] at hk
   have hlen:(xs.flatMap (encs (ks.map CK.i))).length=n*ks.length:=by rw[cO,hl,List.length_map]
   by_cases hlt:k<n*ks.length
   ·rw[List.getElem?_append_left (by omega)] at hk;exact h2 k v hk
   ·rw[List.getElem?_append_right (by omega),hlen] at hk
    have:=hx (k-n*ks.length) v (by simpa using hk)
    rwa [show n*ks.length+(k-n*ks.length)=k by omega] at this
theorem An6{H:Type}{enc:TypeId×Value→H}{P:Program}{w:World}{base b0:Nat}{spare:Nat→Bool}{held:Bool}{r:Reach}{t e:TypeId}{v:Value}{d:DataW H}{ps:List MemPlace}{ks:List IntKind}(ht:P.underlying t=some (.slice e))(hk:flatK P 8 e=some ks)(hc:P.cellsOf e=ks.length)
  (hval:Value.okWide P w r b0 t v) (hd:DataW.Trod enc P w base spare held t v d ps): ∃(s:Sl) (xs:List (Jf (ks.map CK.i))),v=.slice s.1 s.2.1 s.2.2∧aP w s (ks.map CK.i) xs∧(∀x∈xs,RgT ks x):=by
 obtain⟨a,len,cap,rfl⟩:=okWide_slice ht hval
 obtain⟨fuel,hf⟩:=hd
 rcases open_slice ht hf with ⟨hcs,_⟩|⟨a',len',cap',m,n,D,Pl,hcs,_,hle,_,hm,_,hx⟩
 ·simp[Value.cells] at hcs
  obtain⟨rfl,rfl,rfl⟩:=hcs
  exact⟨(none,0,0),[],rfl,⟨by simp,λh=>absurd rfl h⟩,by simp⟩
 ·simp[Value.cells] at hcs
  obtain⟨rfl,rfl,rfl⟩:=hcs
  obtain⟨xs,h1,h2,h3⟩:=Aal (w:=w) (a:=a') (ks:=ks) len λi hi=>by
   obtain⟨cs',q1,q2⟩:=hx i (by rw[hm];split<;>omega)
   obtain⟨x,rfl,hr⟩:=mM 8 e ks _ _ _ hk q2
   rw[hc] at q1
   obtain⟨_,_,hcell⟩:=World.cells?_some q1
   refine⟨x,hr,λj v hj=>?_⟩
   obtain⟨h0,h00⟩:=List.getElem?_eq_some_iff.1 hj
   have:=hcell j (by rw[Ak,List.length_map] at h0;exact h0)
   rw[Eng.add_add] at this
   rw[this]
   exact hj
  exact⟨(some a',len,cap),xs,rfl,⟨by rw[cO,h1],λ_=>⟨a',rfl,h3⟩⟩,h2⟩
theorem Aqm{H:Type}{enc:TypeId×Value→H}{P:Program}{w:World}{base b0:Nat}{spare:Nat→Bool}{held:Bool}{r:Reach}{t:TypeId}{v:Value}{d:DataW H}{ps:List MemPlace}{k:IntKind}(ht:P.underlying t=some (.int k))(hval:Value.okWide P w r b0 t v)
  (hd:DataW.Trod enc P w base spare held t v d ps): ∃n,v=.int k n∧(Lit.int k n).wf=true:=by
 obtain⟨n,e,_,_,h⟩:=open_int ht hval hd
 exact⟨n,e,h⟩
def Xe(n:Int):Prop:=0≤n∧n≤65535
theorem oL(n:Int):wrap .u16 n=n%65536:=by simp[wrap,IntKind.bits,IntKind.signed]
theorem aQ{n:Int}(h:Xe n):wrap .u16 n=n:=by unfold Xe at h;rw[oL];omega
theorem Aq2(n:Int):wrap .i16 n=(n+32768)%65536-32768:=by
 simp[wrap,IntKind.bits,IntKind.signed]
 split<;>omega
inductive Shp where
 |i (k:IntKind)|b|s|sl (n:Nat) (e:Shp)|nil|cons (n:Nat) (f r:Shp)
def zL(w:World):Shp→List Value→Prop
 | .i k,cs=> ∃m,cs=[.int k m]∧(Lit.int k m).wf=true
 | .b,cs=> ∃x,cs=[.bool x]
 | .s,cs=> ∃x,cs=[.string x]∧x.size≤maxLen
 | .nil,cs=>cs=[]
 | .cons n f r,cs=> ∃c1 c2,cs=c1++c2∧c1.length=n∧zL w f c1∧zL w r c2
 | .sl n e,cs=> ∃s:Sl,cs=[.slice s.1 s.2.1 s.2.2]∧s.2.1≤s.2.2∧s.2.2≤maxLen∧ ∃rows:List (List Value),rows.length=s.2.1∧Row w s n rows.flatten∧ ∀r∈rows,r.length=n∧zL w e r
def yO(g:TypeId→Option (Nat×Shp))(P:Program):Nat→List Field→Option (Nat×Shp)
 |o,[]=>some (o,.nil)
 |o,f::fs=>match g f.type with
  |some (n,q)=>if f.offset=o∧P.cellsOf f.type=n then(match yO g P (o+n) fs with|some (m,r)=>some (m,.cons n q r)|none=>none) else none
  |none=>none
def shp(P:Program):Nat→TypeId→Option (Nat×Shp)
 |0,_=>none
 |n+1,t=>match P.underlying t with
  |some (.int k)=>some (1,.i k)
  |some .bool=>some (1,.b)
  |some .string=>some (1,.s)
  |some (.slice e)=>match shp P n e with|some (m,q)=>if P.cellsOf e=m then some (1,.sl m q) else none|none=>none
  |some (.struct fs)=>match yO (shp P n) P 0 fs.toList with|some (m,q)=>if P.cellsOf t=m then some (m,q) else none|none=>none
  |_=>none
theorem oC{n:Nat}: ∀{rows:List (List Value)},(∀r∈rows,r.length=n)→ ∀{k:Nat} {v:Value},rows.flatten[k]? =some v→ ∃i j r,i<rows.length∧j<n∧k=i*n+j∧rows[i]? =some r∧r[j]? =some v
 |[],_,k,v,h=>by simp at h
 |r::rows,hl,k,v,h=>by
  have hr:=hl r (by simp)
  rw[List.flatten_cons] at h
  by_cases hk:k<n
  ·rw[List.getElem?_append_left (by omega)] at h
   exact⟨0,k,r,by simp,hk,by omega,rfl,h⟩
  ·rw[List.getElem?_append_right (by omega),hr] at h
   obtain⟨i,j,q,h1,h2,h3,h4,h5⟩:=oC (λq hq=>hl q (by simp[hq])) h
   exact⟨i+1,j,q,by simp;omega,h2,by rw[Nat.add_mul];omega,by simpa using h4,h5⟩
section
variable {H:Type} {enc:TypeId×Value→H} {P:Program} {w:World} {base:Nat} {spare:Nat→Bool} {held:Bool}
theorem zF{a:Addr}{n:Nat}{Q:List Value→Prop}: ∀(m:Nat),(∀i,i<m→ ∃r:List Value,r.length=n∧Q r∧ ∀j,j<n→w.cell? (a.add (i*n+j))=r[j]?)→
  ∃rows:List (List Value),rows.length=m∧(∀r∈rows,r.length=n∧Q r)∧ ∀i r,rows[i]? =some r→ ∀j,j<n→w.cell? (a.add (i*n+j))=r[j]?
 |0,_=>⟨[],rfl,by simp,λi r h=>by simp at h⟩
 |m+1,h=>by
  obtain⟨rows,hl,h1,h2⟩:=zF m λi hi=>h i (by omega)
  obtain⟨r,e1,e2,e3⟩:=h m (by omega)
  refine⟨rows++[r],by simp[hl],?_,?_⟩
  ·intro x hx
   rcases List.mem_append.1 hx with hx|hx
   ·exact h1 x hx
   ·simp at hx;subst hx;exact⟨e1,e2⟩
  ·intro i x hx
   by_cases hi:i<rows.length
   ·rw[List.getElem?_append_left hi] at hx;exact h2 i x hx
   ·rw[List.getElem?_append_right (by omega)] at hx
    have hi2:i-rows.length=0:=by
     rcases Nat.eq_zero_or_pos (i-rows.length) with h|h
     ·exact h
     ·rw[List.getElem?_eq_none (by simp only[List.length_cons,List.length_nil];omega)] at hx;cases hx
    rw[hi2] at hx
    simp at hx
    subst hx
    have:i=m:=by omega
    subst this;exact e3
theorem rZ{g:TypeId→Option (Nat×Shp)}{fuel:Nat}(IH: ∀t n q cs y,g t=some (n,q)→DataW.trod enc P w base spare held fuel t cs=some y→zL w q cs){cs:List Value}: ∀(fs:List Field) (o m:Nat) (q:Shp),
  yO g P o fs=some (m,q)→(∀f∈fs,∃y,DataW.trod enc P w base spare held fuel f.type ((cs.drop f.offset).take (P.cellsOf f.type))=some y)→cs.length=m→o≤m∧zL w q (cs.drop o)
 |[],o,m,q,h,_,hl=>by
  simp only[yO,Option.some.injEq,Prod.mk.injEq] at h
  obtain⟨rfl,rfl⟩:=h
  exact⟨Nat.le_refl _,by show _=_;rw[List.drop_of_length_le (by omega)]⟩
 |f::fs,o,m,q,h,hf,hl=>by
  unfold yO at h
  split at h
  case h_2=>cases h
  rename_i n q1 hk
  split at h
  case isFalse=>cases h
  rename_i hc
  split at h
  case h_2=>cases h
  rename_i m' r hr
  simp only[Option.some.injEq,Prod.mk.injEq] at h
  obtain⟨rfl,rfl⟩:=h
  obtain⟨y,hy⟩:=hf f (by simp)
  have o1:=IH _ _ _ _ _ hk hy
  rw[hc.1,hc.2] at o1
  obtain⟨l2,o2⟩:=rZ IH fs (o+n) m' r hr (λf h=>hf f (by simp[h])) hl
  refine⟨by omega,(cs.drop o).take n,(cs.drop o).drop n,(List.take_append_drop _ _).symm,?_,o1,?_⟩
  ·rw[List.length_take,List.length_drop];omega
  ·rwa [List.drop_drop]
theorem kX: ∀(n:Nat) (t:TypeId) (m:Nat) (q:Shp) (fuel:Nat) (cs:List Value) (y:DataW H×List MemPlace),shp P n t=some (m,q)→DataW.trod enc P w base spare held fuel t cs=some y→zL w q cs
 |0,_,_,_,_,_,_,h,_=>by cases h
 |n+1,t,m,q,fuel,cs,y,h,hd=>by
  unfold shp at h
  split at h
  ·rename_i k hu
   simp only[Option.some.injEq,Prod.mk.injEq] at h
   obtain⟨rfl,rfl⟩:=h
   obtain⟨x,rfl,_,wx⟩:=DataW.trod_int hu hd
   exact⟨x,rfl,wx⟩
  ·rename_i hu
   simp only[Option.some.injEq,Prod.mk.injEq] at h
   obtain⟨rfl,rfl⟩:=h
   obtain⟨x,rfl,_⟩:=DataW.trod_bool hu hd
   exact⟨x,rfl⟩
  ·rename_i hu
   simp only[Option.some.injEq,Prod.mk.injEq] at h
   obtain⟨rfl,rfl⟩:=h
   obtain⟨x,rfl,_,hx⟩:=DataW.trod_string hu hd
   exact⟨x,rfl,hx⟩
  ·rename_i e hu
   split at h
   case h_2=>cases h
   rename_i m' q' he
   split at h
   case isFalse=>cases h
   rename_i hc
   simp only[Option.some.injEq,Prod.mk.injEq] at h
   obtain⟨rfl,rfl⟩:=h
   rcases open_slice hu hd with ⟨hcs,_⟩|⟨a',len',cap',mm,nn,D,Pl,hcs,_,hle,hcm,hm,_,hx⟩
   ·exact⟨(none,0,0),hcs,Nat.le_refl _,Nat.zero_le _,[],rfl,⟨by simp,λh=>absurd rfl h⟩,by simp⟩
   ·obtain⟨rows,h1,h2,h3⟩:=zF (w:=w) (a:=a') (n:=m') (Q:=zL w q') len' λi hi=>by
     obtain⟨cs',q1,q2⟩:=hx i (by rw[hm];split<;>omega)
     have:=kX n e m' q' _ _ _ he q2
     rw[hc] at q1
     obtain⟨_,hl,hcell⟩:=World.cells?_some q1
     refine⟨cs',hl,this,λj hj=>?_⟩
     have:=hcell j hj
     rwa [Eng.add_add] at this
    refine⟨(some a',len',cap'),hcs,hle,hcm,rows,h1,⟨?_,λ_=>⟨a',rfl,λk v hk=>?_⟩⟩,h2⟩
    ·have: ∀l:List (List Value),(∀r∈l,r.length=m')→l.flatten.length=l.length*m':=by
      intro l
      induction l with
      |nil=>simp
      |cons r l ih=>intro hl;rw[List.flatten_cons,List.length_append,hl r (by simp),ih (λq hq=>hl q (by simp[hq])),List.length_cons,Nat.add_mul];omega
     rw[this rows (λr hr=>(h2 r hr).1),h1]
    ·obtain⟨i,j,r,g1,g2,g3,g4,g5⟩:=oC (λr hr=>(h2 r hr).1) hk
     subst g3
     rw[h3 i r g4 j g2,g5]
  ·rename_i fs hu
   split at h
   case h_2=>cases h
   rename_i m' q' hfs
   split at h
   case isFalse=>cases h
   rename_i hc
   simp only[Option.some.injEq,Prod.mk.injEq] at h
   obtain⟨rfl,rfl⟩:=h
   obtain⟨xs,mm,rfl,_,hl,hxl,hff⟩:=DataW.trod_struct hu hd
   have:=rZ (cs:=cs) (λt n' q cs y h1 h2=>kX n t n' q mm cs y h1 h2) fs.toList 0 m' q' hfs (λf hf=>?_) (by rw[hl,hc])
   ·simpa using this.2
   ·obtain⟨i,hi,he⟩:=List.getElem_of_mem hf
    have h1:=hff i f (by rw[←he];simp)
    have h2:i<xs.length:=by rw[hxl];simpa using hi
    exact⟨xs[i],by rw[h1];exact List.getElem?_eq_getElem h2⟩
  ·cases h
theorem Aem{e:TypeId}{v:Value}{d:DataW H}{ps:List MemPlace}{b0:Nat}{r:Reach}{n:Nat}{q:Shp}(hs:Akz P e=true)(hk:shp P 9 e=some (n,q))(hval:Value.okWide P w r b0 e v)(hd:DataW.Trod enc P w base spare held e v d ps):
  ∃cs:List Value,v=.agg cs.toArray∧zL w q cs:=by
 have hu: ∃fs,P.underlying e=some (.struct fs):=by
  unfold Akz at hs
  split at hs
  ·rename_i fs hu;exact⟨fs,hu⟩
  ·cases hs
 obtain⟨fs,hu⟩:=hu
 obtain⟨cs,rfl,hcs⟩:=okWide_struct hu hval
 obtain⟨fuel,hf⟩:=hd
 exact⟨cs.toList,by simp,by simpa [Value.cells] using kX 9 e n q fuel _ _ hk hf⟩
theorem Aol{t:TypeId}{v:Value}{d:DataW H}{ps:List MemPlace}{b0:Nat}{r:Reach}(ht:P.underlying t=some .string)(hval:Value.okWide P w r b0 t v)(hd:DataW.Trod enc P w base spare held t v d ps):
  ∃s:ByteArray,v=.string s∧s.size≤maxLen:=by
 obtain⟨s,rfl⟩:=okWide_string ht hval
 obtain⟨fuel,hf⟩:=hd
 obtain⟨s',h,_,hs⟩:=DataW.trod_string ht hf
 simp[Value.cells] at h
 subst h
 exact⟨s,rfl,hs⟩
theorem vZ{t e:TypeId}{v:Value}{d:DataW H}{ps:List MemPlace}{b0:Nat}{r:Reach}{n:Nat}{q:Shp}(ht:P.underlying t=some (.slice e))(hk:shp P 9 t=some (1,.sl n q))(hval:Value.okWide P w r b0 t v)(hd:DataW.Trod enc P w base spare held t v d ps):
  ∃s:Sl,v=.slice s.1 s.2.1 s.2.2∧zL w (.sl n q) [.slice s.1 s.2.1 s.2.2]:=by
 obtain⟨a,len,cap,rfl⟩:=okWide_slice ht hval
 obtain⟨fuel,hf⟩:=hd
 exact⟨(a,len,cap),rfl,by simpa [Value.cells] using kX 9 t 1 _ fuel _ _ hk hf⟩
end
theorem qQ{cs:List CK}{Q:List Value→Prop}{R:Jf cs→Prop}: ∀(rows:List (List Value)),(∀r∈rows,∃x:Jf cs,r=encs cs x∧R x)→ ∃xs:List (Jf cs),rows.flatten=xs.flatMap (encs cs)∧xs.length=rows.length∧ ∀x∈xs,R x
 |[],_=>⟨[],rfl,rfl,by simp⟩
 |r::rows,h=>by
  obtain⟨x,rfl,hx⟩:=h r (by simp)
  obtain⟨xs,e,hl,hR⟩:=qQ (Q:=Q) rows λq hq=>h q (by simp[hq])
  exact⟨x::xs,by rw[List.flatten_cons,List.flatMap_cons,e],by simp[hl],λy hy=>by
   rcases List.mem_cons.1 hy with rfl|hy
   ·exact hx
   ·exact hR y hy⟩
end Go.Eng
