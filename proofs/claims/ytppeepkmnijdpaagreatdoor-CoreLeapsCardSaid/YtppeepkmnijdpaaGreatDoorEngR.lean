import Derived.Test.YtppeepkmnijdpaaGreatDoorEngB
import Derived.WalkKit
import Derived.ProofKit
import Derived.OpenShut
import Derived.Carry
import Derived.HandedShaped
import Derived.ChangeSlices
import Derived.Deep.Strs
import Derived.Test.YtppeepkmnijdpaaGreatDoorEngU
namespace Go.Eng
open Go Go.ChangeShapes Go.WideShapes Go.ChangeAt Go.RowKit Go.WideElems Go.Deep
open Go.IntKind (wrap)
set_option linter.unusedSimpArgs false
set_option linter.unusedVariables false
set_option maxRecDepth 100000
set_option maxHeartbeats 8000000
theorem Ahn{P:Program}{g:FuncId}{args:List Value}{w:World}(h:Ad P g args w false [(false,[.b])] (Holds w)):
  Calls P g args.toArray w λe w'=>e=.returned (.bool true)∧Below w.heap.size w w':=by
 refine Calls.mono h λe w' ⟨r,he,hr,hg⟩=>?_
 subst hr
 exact⟨he,hg.below⟩
theorem iW{H:Type}{enc:TypeId×Value→H}{P:Program}(hl:laidOutB P=true){W W':World}(hb:Below W.heap.size W W'):
  ∀{ts:List TypeId} {vs:List Value} {ds:List (DataW H)} {ps:List MemPlace},ts.all (λt=>P.readableRec t&&decide (t<P.types.size))=true→
   DataW.TrodAll enc P W 0 (λ_=>true) true ts vs ds ps→(∀x∈ps,x.block<W.heap.size)→DataW.TrodAll enc P W' 0 (λb=>decide (b<W.heap.size)) true ts vs ds ps
 |[],vs,ds,ps,_,h,_=>by
  obtain⟨rfl,rfl,rfl⟩:=trodAll_nil h
  exact trodAll_mk0
 |t::ts,vs,ds,ps,hr,h,hlt=>by
  obtain⟨v,vs',d,ds',p,q,rfl,rfl,rfl,h1,h2⟩:=trodAll_cons h
  simp only[List.all_cons,Bool.and_eq_true,decide_eq_true_eq] at hr
  exact trodAll_cons_mk (Below.trod hl hr.1.1 hr.1.2 h1 hb λx hx=>hlt x (List.mem_append_left _ hx))
   (iW hl hb (by simpa using hr.2) h2 λx hx=>hlt x (List.mem_append_right _ hx))
theorem trodAll_length{H:Type}{enc:TypeId×Value→H}{P:Program}{W:World}{b:Nat}{sp:Nat→Bool}{hd:Bool}:
  ∀{ts:List TypeId} {vs:List Value} {ds:List (DataW H)} {ps:List MemPlace},DataW.TrodAll enc P W b sp hd ts vs ds ps→ds.length=ts.length
 |[],_,_,_,h=>by obtain⟨rfl,rfl,rfl⟩:=trodAll_nil h;rfl
 |t::ts,_,_,_,h=>by
  obtain⟨v,vs',d,ds',p,q,rfl,rfl,rfl,h1,h2⟩:=trodAll_cons h
  simp[trodAll_length h2]
theorem As3{n:Int}(h:(Lit.int .i64 n).wf=true):I64 n:=by
 simp[Lit.wf,IntKind.min,IntKind.max,IntKind.signed,IntKind.bits] at h
 unfold I64
 omega
theorem Ako{H:Type}{enc:TypeId×Value→H}{P:Program}{w:World}{base b0:Nat}{spare:Nat→Bool}{held:Bool}{r:Reach}{t:TypeId}{v:Value}{d:DataW H}{ps:List MemPlace}(ht:P.underlying t=some (.int .i64))(hval:Value.okWide P w r b0 t v)
  (hd:DataW.Trod enc P w base spare held t v d ps): ∃n,v=iV n∧I64 n:=by
 obtain⟨n,e,_,_,h⟩:=open_int ht hval hd
 exact⟨n,e,As3 h⟩
section
variable {H:Type} {enc:TypeId×Value→H} {P:Program} {w:World} {base:Nat} {spare:Nat→Bool} {held:Bool}
end
def U0(w:World)(s:Sl)(cs:List CK)(xs:List (Ky cs)):Prop:=Row w s cs.length (xs.flatMap (encs cs))
theorem Acv{cs:List CK}(xs:List (Ky cs)):(xs.flatMap (encs cs)).length=xs.length*cs.length:=by
 induction xs with
 |nil=>simp
 |cons x xs ih=>rw[List.flatMap_cons,List.length_append,Ld,ih,List.length_cons,Nat.add_mul,Nat.one_mul];omega
theorem flat_get{cs:List CK}: ∀{xs:List (Ky cs)} {i:Nat} {x:Ky cs},xs[i]? =some x→ ∀j v,(encs cs x)[j]? =some v→(xs.flatMap (encs cs))[i*cs.length+j]? =some v
 |[],i,x,h=>by cases h
 |y::xs,0,x,h=>by
  intro j v hj
  simp at h;subst h
  rw[List.flatMap_cons,Nat.zero_mul,Nat.zero_add,List.getElem?_append_left (List.getElem?_eq_some_iff.1 hj).1];exact hj
 |y::xs,i+1,x,h=>by
  intro j v hj
  rw[List.flatMap_cons,List.getElem?_append_right (by rw[Ld,Nat.add_mul];omega),Ld,show(i+1)*cs.length+j-cs.length=i*cs.length+j by rw[Nat.add_mul];omega]
  exact flat_get (by simpa using h) j v hj
theorem U0.len{w:World}{s:Sl}{cs:List CK}{xs:List (Ky cs)}(h:U0 w s cs xs)(h0:0<cs.length):s.2.1=xs.length:=by
 have h1:=Row.len h
 rw[Acv] at h1
 exact Nat.eq_of_mul_eq_mul_right h0 h1
theorem U0.Ai{w w':World}{s:Sl}{cs:List CK}{xs:List (Ky cs)}(h:U0 w s cs xs)(u:Ah w w'):U0 w' s cs xs:=Row.Ai h u
theorem U0.addr{w:World}{s:Sl}{cs:List CK}{xs:List (Ky cs)}(h:U0 w s cs xs)(h0:0<cs.length){i:Nat}{x:Ky cs}(hi:xs[i]? =some x): ∃a,s.1=some a:=by
 refine Row.addr h ?_
 have:=(List.getElem?_eq_some_iff.1 hi).1
 rw[Acv]
 exact Nat.mul_pos (by omega) h0
theorem U0.ix{w:World}{s:Sl}{cs:List CK}{xs:List (Ky cs)}(h:U0 w s cs xs)(h0:0<cs.length){z:Int}{i:Nat}{x:Ky cs}(hz:z=i)(hi:xs[i]? =some x){k:Addr→Prop}(hk: ∀a,s.1=some a→k a):Hf s.1 s.2.1 z k:=by
 subst hz
 obtain⟨a,ha⟩:=h.addr h0 hi
 have:=(List.getElem?_eq_some_iff.1 hi).1
 have hl:=h.len h0
 rw[ha,Ip (by omega)]
 exact hk a ha
theorem Adm{w:World}: ∀(cs:List CK) (x:Ky cs) (p:Addr) (i:Nat) (k:Ky cs→Prop),(∀j v,(encs cs x)[j]? =some v→w.cell? (p.add (i+j))=some v)→(∀c (y:Tv c),dec c (enc c y)=some y)→k x→Bc cs p i w k
 |[],x,p,i,k,_,_,hk=>hk
 |c::cs,x,p,i,k,h,hd,hk=>by
  have h0:=h 0 (enc c x.1) rfl
  rw[Nat.add_zero] at h0
  unfold Bc
  rw[h0,Option.bind_some,hd]
  exact Adm cs x.2 p (i+1) (λxs=>k (x.1,xs)) (λj v hj=>by rw[show i+1+j=i+(j+1) by omega];exact h (j+1) v hj) hd hk
theorem lC(c:CK)(x:Tv c):dec c (enc c x)=some x:=by
 cases c<;>simp[enc,dec,Ap0,Atr,aJ,Ary,Afh,Aq2,Arr]
theorem U0.Bc{w:World}{s:Sl}{cs:List CK}{xs:List (Ky cs)}(h:U0 w s cs xs){a:Addr}(ha:s.1=some a){i:Nat}{x:Ky cs}(hi:xs[i]? =some x){k:Ky cs→Prop}(hk:k x):
  Bc cs (a.add (((i:Int)).toNat*cs.length)) 0 w k:=by
 refine Adm cs x _ 0 k (λj v hj=>?_) lC hk
 rw[add_add,Int.toNat_natCast,Nat.zero_add]
 exact Row.ld h ha (flat_get hi j v hj)
def Y8(n:Int):Prop:=0≤n∧n≤65535
theorem Ad0(n:Int):wrap .u16 n=n%65536:=by simp[wrap,IntKind.bits,IntKind.signed]
theorem nV{n:Int}(h:Y8 n):wrap .u16 n=n:=by unfold Y8 at h;rw[Ad0];omega
section
variable {H:Type} {enc:TypeId×Value→H} {P:Program} {w:World} {base:Nat} {spare:Nat→Bool} {held:Bool}
theorem Ak3{t:TypeId}{v:Value}{d:DataW H}{ps:List MemPlace}{b0:Nat}{r:Reach}(ht:P.underlying t=some .string)(hval:Value.okWide P w r b0 t v)(hd:DataW.Trod enc P w base spare held t v d ps):
  ∃s:ByteArray,v=.string s∧s.size≤maxLen:=by
 obtain⟨s,rfl⟩:=okWide_string ht hval
 obtain⟨fuel,hf⟩:=hd
 obtain⟨s',h,_,hs⟩:=DataW.trod_string ht hf
 simp[Value.cells] at h
 subst h
 exact⟨s,rfl,hs⟩
end
end Go.Eng
