import Derived.WalkKit
import Derived.OrdersHeld
import Derived.KernelRfl
namespace Go.Eng
open Go
set_option linter.unusedSimpArgs false
set_option linter.unusedVariables false
inductive CK where
 |i (k:IntKind)|b|s|p|sl|m|any|a
@[reducible] def Tv:CK→Type
 | .i _=>Int| .b=>Bool| .s=>ByteArray| .p=>Option Addr| .sl=>Option Addr×Nat×Nat| .m=>Option Nat| .any=>Value| .a=>Addr
def enc:(c:CK)→Tv c→Value
 | .i k,n=>.int k n| .b,x=>.bool x| .s,x=>.string x| .p,x=>.pointer x
 | .sl,x=>.slice x.1 x.2.1 x.2.2| .m,x=>.map x| .any,v=>v| .a,x=>.pointer (some x)
def Ap0(k:IntKind):Value→Option Int
 | .int k' n=>if k=k' then some n else none
 |_=>none
def Atr:Value→Option Bool| .bool x=>some x|_=>none
def aJ:Value→Option ByteArray| .string x=>some x|_=>none
def Ary:Value→Option (Option Addr)| .pointer x=>some x|_=>none
def Afh:Value→Option (Option Addr×Nat×Nat)| .slice a n c=>some (a,n,c)|_=>none
def Aq2:Value→Option (Option Nat)| .map x=>some x|_=>none
def Arr:Value→Option Addr| .pointer (some x)=>some x|_=>none
def dec:(c:CK)→Value→Option (Tv c)
 | .i k,v=>Ap0 k v| .b,v=>Atr v| .s,v=>aJ v| .p,v=>Ary v| .sl,v=>Afh v| .m,v=>Aq2 v| .any,v=>some v| .a,v=>Arr v
theorem aP{c:CK}{v:Value}{x:Tv c}(h:dec c v=some x):v=enc c x:=by
 cases c<;>simp only[dec] at h
 case i k=>cases v<;>simp only[Ap0] at h<;>try contradiction
           split at h<;>simp_all [enc]
 case b=>cases v<;>simp_all [Atr,enc]
 case s=>cases v<;>simp_all [aJ,enc]
 case p=>cases v<;>simp_all [Ary,enc]
 case sl=>cases v<;>simp only[Afh] at h<;>try contradiction
          simp only[Option.some.injEq] at h;subst h;rfl
 case m=>cases v<;>simp_all [Aq2,enc]
 case any=>simp_all [enc]
 case a=>unfold Arr at h;split at h<;>simp_all [enc]
@[reducible] def Ky:List CK→Type
 |[]=>Unit
 |c::cs=>Tv c×Ky cs
def encs:(cs:List CK)→Ky cs→List Value
 |[],_=>[]
 |c::cs,x=>enc c x.1::encs cs x.2
theorem Ld: ∀(cs:List CK) (x:Ky cs),(encs cs x).length=cs.length
 |[],_=>rfl
 |_::cs,x=>by simp[encs,Ld cs x.2]
def Asv:TypeDesc→CK
 | .int k=>.i k| .bool=>.b| .string=>.s| .pointer _=>.p| .slice _=>.sl| .map _ _=>.m|_=>.any
def yH(P:Program):Nat→TypeId→List CK
 |0,_=>[]
 |n+1,t=>match P.underlying t with
  |some (.struct fs)=>fs.toList.flatMap λf=>yH P n f.type
  |some (.array m e)=>(List.replicate m (yH P n e)).flatten
  |some d=>[Asv d]
  |none=>[]
def Wx(P:Program)(t:TypeId):Bool:=
 match P.underlying t with|some (.struct _)=>true|some (.array _ _)=>true|_=>false
theorem Aga(a:ByteArray): ∀(n i:Nat) (r:List UInt8),a.size-i=n→ByteArray.toList.loop a i r=r.reverse++a.data.toList.drop i
 |0,i,r,h=>by
  have h': ¬i<a.size:=by omega
  unfold ByteArray.toList.loop
  rw[if_neg h',List.drop_of_length_le (by simpa using (by omega:a.size≤i))];simp
 |n+1,i,r,h=>by
  have h':i<a.size:=by omega
  unfold ByteArray.toList.loop
  rw[if_pos h',Aga a n (i+1) _ (by omega)]
  have hl:i<a.data.toList.length:=by simpa using h'
  rw[List.drop_eq_getElem_cons hl]
  simp[ByteArray.get!,Array.getElem!_eq_getD,Array.getD]
  rw[dif_pos (by simpa using h')]
theorem nR(a:ByteArray):a.toList=a.data.toList:=by
 unfold ByteArray.toList;rw[Aga a _ 0 [] rfl];simp
theorem Vx(a b:ByteArray):(a==b)=true↔a=b:=by
 obtain⟨x⟩:=a
 obtain⟨y⟩:=b
 have h:((⟨x⟩:ByteArray)==⟨y⟩)=(x==y):=rfl
 rw[h,beq_iff_eq]
 exact⟨λh=>by rw[h],λh=>by injection h⟩
theorem Ajm(a b:ByteArray):(a.toList==b.toList)=(a==b):=by
 rw[nR,nR,Bool.eq_iff_iff,Vx,beq_iff_eq]
 exact⟨λh=>by cases a;cases b;simp at h;rw[h],λh=>by rw[h]⟩
def Bc:(cs:List CK)→(p:Addr)→(i:Nat)→(w:World)→(Ky cs→Prop)→Prop
 |[],_,_,_,k=>k ()
 |c::cs,p,i,w,k=>match (w.cell? (p.add i)).bind (dec c) with
  |some x=>Bc cs p (i+1) w λxs=>k (x,xs)
  |none=>False
def ld1(c:CK)(p:Addr)(w:World)(k:Tv c→Prop):Prop:=
 match (w.cell? p).bind (dec c) with
 |some x=>k x
 |none=>False
theorem Aco{P:Program}: ∀(cs:List CK) (p:Addr) (i:Nat) (w:World) (k:Ky cs→Prop),Bc cs p i w k→
  ∃x,k x∧(∀w',(∀j,j<cs.length→w'.cell? (p.add (i+j))=w.cell? (p.add (i+j)))→ ∀acc:Array Value,(loadCellsFrom p i cs.length acc).run P w'=.ok (acc++(encs cs x).toArray) w')
 |[],p,i,w,k,h=>⟨(),h,λw' _ acc=>by simp[loadCellsFrom,encs,pure]⟩
 |c::cs,p,i,w,k,h=>by
  unfold Bc at h
  split at h
  ·rename_i x hx
   obtain⟨xs,hk,hr⟩:=Aco (P:=P) cs p (i+1) w _ h
   obtain⟨v,hv,hd⟩:=Option.bind_eq_some_iff.1 hx
   refine⟨(x,xs),hk,λw' hw' acc=>?_⟩
   have h0:=hw' 0 (by simp)
   rw[Nat.add_zero] at h0
   have hr':=hr w' (λj hj=>by have:=hw' (j+1) (by simp;omega);rwa [show i+(j+1)=i+1+j by omega] at this) (acc.push v)
   show(loadCellsFrom p i (cs.length+1) acc).run P w'=_
   simp only[loadCellsFrom,load,bind,Sem.bind,Sem.run,h0,hv]
   rw[hr']
   simp[encs,aP hd]
  ·exact h.elim
def ldW(P:Program)(t:TypeId)(a:Value)(w:World)(k:Value→Prop):Prop:=
 match a with
 | .pointer (some p)=>
  if Wx P t then(if(yH P 12 t).length=P.cellsOf t then Bc (yH P 12 t) p 0 w λx=>k (.agg (encs (yH P 12 t) x).toArray) else False)
  else match P.underlying t with
   |some d=>ld1 (Asv d) p w λx=>k (enc (Asv d) x)
   |none=>False
 |_=>False
def bZ(P:Program)(t:TypeId)(a:Value):List Addr:=
 match a with
 | .pointer (some p)=>if Wx P t then(List.range (yH P 12 t).length).map (p.add ·) else[p]
 |_=>[]
theorem wW{P:Program}{t:TypeId}{w:World}{d:TypeDesc}(h:P.underlying t=some d):(isAgg t).run P w=.ok (Wx P t) w:=by
 simp only[isAgg,underlying,program,bind,Sem.bind,Sem.run,h,Wx,pure]
 cases d<;>rfl
theorem run_bind{α β:Type}{P:Program}(s:Sem α)(f:α→Sem β)(w:World){a:α}{w':World}(h:s.run P w=.ok a w'):(s>>=f).run P w=(f a).run P w':=by
 rw[Sem.run_bind,h];rfl
theorem Aed{P:Program}{t:TypeId}{w:World}{d:TypeDesc}(h:P.underlying t=some d):(Go.sizeOf t).run P w=.ok (P.cellsOf t) w:=by
 unfold Program.underlying at h
 unfold Go.sizeOf typeInfo Program.cellsOf
 cases hi:P.info? t with
 |none=>rw[hi] at h;cases h
 |some i=>simp[program,bind,Sem.bind,Sem.run,hi,pure]
theorem tN{P:Program}{t:TypeId}{a:Value}{w:World}{k:Value→Prop}(h:ldW P t a w k):
  ∃v,k v∧ ∀w',(∀p∈bZ P t a,w'.cell? p=w.cell? p)→(Instr.loadAt t a).run P w'=.ok v w':=by
 unfold ldW at h
 split at h
 case h_2=>exact h.elim
 rename_i p
 by_cases ha:Wx P t=true
 ·simp only[ha,if_true] at h
  split at h
  case isFalse=>exact h.elim
  rename_i hlen
  obtain⟨x,hk,hr⟩:=Aco (P:=P) _ _ _ _ _ h
  refine⟨_,hk,λw' hw'=>?_⟩
  have hd: ∃d,P.underlying t=some d:=by
   unfold Wx at ha;cases hu:P.underlying t with
   |none=>rw[hu] at ha;cases ha
   |some d=>exact⟨d,rfl⟩
  obtain⟨d,hd⟩:=hd
  have hcs: ∀j,j<(yH P 12 t).length→w'.cell? (p.add (0+j))=w.cell? (p.add (0+j)):=λj hj=>by
   refine hw' _ ?_
   simp only[bZ,ha,if_true,Nat.zero_add]
   exact List.mem_map.2 ⟨j,List.mem_range.2 hj,rfl⟩
  have h1:=hr w' hcs #[]
  simp only[Instr.loadAt,Instr.sureAddr]
  refine(run_bind (Sem.pure p) _ w' rfl).trans ?_
  unfold loadVar
  refine(run_bind _ _ w' (wW hd)).trans ?_
  rw[if_pos ha]
  refine(run_bind _ _ w' (Aed hd)).trans ?_
  refine(run_bind _ _ w' (a:=(encs (yH P 12 t) x).toArray) (w':=w') ?_).trans rfl
  unfold loadCells
  rw[←hlen,h1];simp
 ·rw[if_neg ha] at h
  split at h
  case h_2=>exact h.elim
  rename_i d hd
  unfold ld1 at h
  split at h
  case h_2=>exact h.elim
  rename_i x hx
  obtain⟨v,hv,hdec⟩:=Option.bind_eq_some_iff.1 hx
  refine⟨_,h,λw' hw'=>?_⟩
  have hp:=hw' p (by simp[bZ,ha])
  simp only[Instr.loadAt,Instr.sureAddr]
  refine(run_bind (Sem.pure p) _ w' rfl).trans ?_
  unfold loadVar
  refine(run_bind _ _ w' (wW hd)).trans ?_
  rw[if_neg ha]
  simp[load,Sem.run,hp,hv,aP hdec]
def okc:Value→Bool| .agg _=>false| .tuple _=>false|_=>true
def Au:List Value→(p:Addr)→(i:Nat)→(w:World)→(World→Prop)→Prop
 |[],_,_,w,k=>k w
 |v::vs,p,i,w,k=>
  if okc v=true then
   match w.cell? (p.add i) with
   |some _=>if w.frozen? (p.add i)=true then False else Au vs p (i+1) (w.setCell (p.add i) v) k
   |none=>False
  else False
def stW(P:Program)(t:TypeId)(a v:Value)(w:World)(k:World→Prop):Prop:=
 match a with
 | .pointer (some p)=>match Wx P t with
  |true=>if(P.info? t).map (·.size)=some v.cells.size then Au v.cells.toList p 0 w k else False
  |false=>if(P.info? t).map (·.size)=some 1 then Au [v] p 0 w k else False
 |_=>False
theorem Ag2{v:Value}(h:okc v=true):v.cells=#[v]:=by cases v<;>first|rfl|cases h
theorem Ati{v:Value}{p:Addr}{i:Nat}{w:World}{k:World→Prop}(h:Au [v] p i w k):okc v=true:=by
 unfold Au at h
 split at h
 ·assumption
 ·exact h.elim
theorem Agl{P:Program}{t:TypeId}{a v:Value}{w:World}{k:World→Prop}(h:stW P t a v w k):
  ∃p,a=.pointer (some p)∧(P.info? t).map (·.size)=some v.cells.size∧Au v.cells.toList p 0 w k:=by
 unfold stW at h
 split at h
 case h_2=>exact h.elim
 rename_i p
 refine⟨p,rfl,?_⟩
 cases hg:Wx P t<;>rw[hg] at h<;>dsimp only at h
 ·by_cases hs:(P.info? t).map (·.size)=some 1
  ·rw[if_pos hs] at h
   rw[Ag2 (Ati h)]
   exact⟨hs,h⟩
  ·rw[if_neg hs] at h;exact h.elim
 ·by_cases hs:(P.info? t).map (·.size)=some v.cells.size
  ·rw[if_pos hs] at h;exact⟨hs,h⟩
  ·rw[if_neg hs] at h;exact h.elim
theorem uM{P:Program}: ∀(vs:List Value) (p:Addr) (i:Nat) (w:World) (k:World→Prop),Au vs p i w k→
  ∃w',k w'∧(storeCells p vs i).run P w=.ok () w'
 |[],p,i,w,k,h=>⟨w,h,by simp[storeCells,pure]⟩
 |v::vs,p,i,w,k,h=>by
  unfold Au at h
  split at h
  case isFalse=>exact h.elim
  rename_i hok
  split at h
  case h_2=>exact h.elim
  rename_i u hu
  split at h
  case isTrue=>exact h.elim
  rename_i hf
  obtain⟨w',hk,hr⟩:=uM (P:=P) vs p (i+1) _ k h
  refine⟨w',hk,?_⟩
  unfold storeCells
  rw[Sem.run_bind]
  have:(store (p.add i) v).run P w=.ok () (w.setCell (p.add i) v):=by
   unfold store
   cases v<;>simp_all [Sem.run,okc]
  rw[this];exact hr
theorem Ala{P:Program}{t:TypeId}{a v:Value}{w:World}{k:World→Prop}(h:stW P t a v w k):
  ∃w',k w'∧(Instr.storeAt t a v).run P w=.ok () w':=by
 obtain⟨p,rfl,hs,h⟩:=Agl h
 obtain⟨w',hk,hr⟩:=uM (P:=P) _ _ _ _ _ h
 refine⟨w',hk,?_⟩
 simp only[Instr.storeAt,Instr.sureAddr]
 refine(run_bind (Sem.pure p) _ w rfl).trans ?_
 unfold storeVar
 obtain⟨i,hi,hz⟩:=Option.map_eq_some_iff.1 hs
 have hsz:(Go.sizeOf t).run P w=.ok v.cells.size w:=by simp[Go.sizeOf,typeInfo,program,bind,Sem.bind,Sem.run,hi,pure,hz]
 refine(run_bind _ _ w hsz).trans ?_
 simp[hr]
def ev(P:Program){α:Type}:Sem α→Option α
 | .pure a=>some a
 | .program k=>ev P (k P)
 | .mark _ k=>ev P k
 |_=>none
theorem sD{P:Program}{α:Type}: ∀(s:Sem α) {a:α},ev P s=some a→ ∀w,s.run P w=.ok a w
 | .pure b,a,h,w=>by simp only[ev,Option.some.injEq] at h;subst h;rfl
 | .program k,a,h,w=>by simp only[ev] at h;exact sD (k P) h w
 | .mark m k,a,h,w=>by simp only[ev] at h;exact sD k h w
 | .load ..,a,h,w=>by simp[ev] at h
 | .store ..,a,h,w=>by simp[ev] at h
 | .new ..,a,h,w=>by simp[ev] at h
 | .shape ..,a,h,w=>by simp[ev] at h
 | .freeze ..,a,h,w=>by simp[ev] at h
 | .frozen ..,a,h,w=>by simp[ev] at h
 | .getObj ..,a,h,w=>by simp[ev] at h
 | .setObj ..,a,h,w=>by simp[ev] at h
 | .choose ..,a,h,w=>by simp[ev] at h
 | .sys ..,a,h,w=>by simp[ev] at h
 | .halt ..,a,h,w=>by simp[ev] at h
def evK(P:Program)(s:Sem Next)(k:Value→Prop):Prop:=
 match ev P s with
 |some (.value v)=>k v
 |_=>False
theorem kP{P:Program}{s:Sem Next}{k:Value→Prop}(h:evK P s k): ∃v,k v∧ ∀w,s.run P w=.ok (.value v) w:=by
 unfold evK at h
 split at h
 ·rename_i v hv;exact⟨v,h,sD s hv⟩
 ·exact h.elim
def A7(p:Option Addr)(k:Addr→Prop):Prop:=match p with|some a=>k a|none=>False
def Hf(b:Option Addr)(n:Nat)(ix:Int)(k:Addr→Prop):Prop:=
 match b with|some a=>if 0≤ix∧ix<n then k a else False|none=>False
def Zm(b:Int)(p:Prop):Prop:=if b=0 then False else p
def dK(b:Int)(p:Prop):Prop:=if b<0 then False else p
def siK(s:ByteArray)(ix:Int)(k:Int→Prop):Prop:=
 match (if 0≤ix then s[ix.toNat]? else none) with|some b=>k (b.toNat:Int)|none=>False
def Ams:List Value→Option (List Int)
 |[]=>some []
 | .int .i64 n::r=>(match Ams r with|some l=>some (n::l)|none=>none)
 |_::_=>none
def aiK(l:List Int)(n:Nat)(ix:Int)(k:Int→Prop):Prop:=
 if 0≤ix∧ix<n then(match l[ix.toNat]? with|some v=>k v|none=>False) else False
def Aj8:List Value→Option (List (Option Addr))
 |[]=>some []
 | .pointer q::r=>(match Aj8 r with|some l=>some (q::l)|none=>none)
 |_::_=>none
def aiP(l:List (Option Addr))(n:Nat)(ix:Int)(k:Option Addr→Prop):Prop:=
 if 0≤ix∧ix<n then(match l[ix.toNat]? with|some v=>k v|none=>False) else False
def aiV(P:Program)(e:TypeId)(n:Nat)(cs:Array Value)(ix:Int)(k:Value→Prop):Prop:=
 if(P.info? e).isSome=true∧Wx P e=false∧(P.underlying e).isSome=true∧P.cellsOf e=1 then(match Ams cs.toList with|some l=>aiK l n ix λv=>k (.int .i64 v)|none=>(match Aj8 cs.toList with|some l=>aiP l n ix λv=>k (.pointer v)|none=>False)) else False
theorem Abe: ∀{cs:List Value} {l:List (Option Addr)} {i:Nat} {v:Option Addr},Aj8 cs=some l→l[i]? =some v→cs[i]? =some (.pointer v)
 |[],l,i,v,h,hv=>by
  simp only[Aj8,Option.some.injEq] at h
  subst h;cases hv
 |c::cs,l,i,v,h,hv=>by
  unfold Aj8 at h
  split at h
  ·rename_i heq;cases heq
  ·rename_i n r heq
   injection heq with h1 h2
   subst h1 h2
   split at h
   ·rename_i l' hl'
    injection h with h
    subst h
    cases i with
    |zero=>simp only[List.getElem?_cons_zero] at hv⊢;injection hv with hv;rw[hv]
    |succ i=>simp only[List.getElem?_cons_succ] at hv⊢;exact Abe hl' hv
   ·cases h
  ·cases h
theorem Aci: ∀{cs:List Value} {l:List Int} {i:Nat} {v:Int},Ams cs=some l→l[i]? =some v→cs[i]? =some (.int .i64 v)
 |[],l,i,v,h,hv=>by
  simp only[Ams,Option.some.injEq] at h
  subst h;cases hv
 |c::cs,l,i,v,h,hv=>by
  unfold Ams at h
  split at h
  ·rename_i heq;cases heq
  ·rename_i n r heq
   injection heq with h1 h2
   subst h1 h2
   split at h
   ·rename_i l' hl'
    injection h with h
    subst h
    cases i with
    |zero=>simp only[List.getElem?_cons_zero] at hv⊢;injection hv with hv;rw[hv]
    |succ i=>simp only[List.getElem?_cons_succ] at hv⊢;exact Aci hl' hv
   ·cases h
  ·cases h
def slK(l h:Int)(n:Nat)(p:Prop):Prop:=if 0≤l∧l≤h∧h≤n then p else False
structure iF(a b:ByteArray)(p:Prop):Prop where
 fits: ¬((a.size+b.size:Nat):Int)>IntKind.i64.max
 cont:p
def slA(a:Option Addr)(cap l sz:Nat):Option Addr:=if cap=l then a else a.map (·.add (l*sz))
def oJ(d:Int)(v:Option Value):Option Int:=match v with|none=>some d|some (.int _ n)=>some n|some _=>none
def oW(P:Program)(t:TypeId)(cs:Array Value)(off:Nat):Option Value:=
 if Wx P t=true then(if(P.info? t).isSome=true then some (.agg (cs.extract off (off+P.cellsOf t))) else none) else(if(P.underlying t).isSome=true then cs[off]? else none)
def eqF(n:TypeId→Value→Value→Option Bool)(P:Program)(xs ys:Array Value):List Field→Option Bool
 |[]=>some true
 |f::fs=>
  if f.name≠ "_"then
   match oW P f.type xs f.offset,oW P f.type ys f.offset with
   |some u,some v=>(match n f.type u v,eqF n P xs ys fs with|some b,some c=>some (b&&c)|_,_=>none)
   |_,_=>none
  else none
def eqT(P:Program):Nat→TypeId→Value→Value→Option Bool
 |0,_,_,_=>none
 |n+1,t,x,y=>match P.underlying t,x,y with
  |some .bool,.bool a,.bool b=>some (a==b)
  |some (.int _),.int k a,.int k' b=>if k=k' then some (a==b) else none
  |some .string,.string a,.string b=>some (a==b)
  |some (.struct fs),.agg xs,.agg ys=>if P.stoodInHeld t=true then none else eqF (eqT P n) P xs ys fs.toList
  |_,_,_=>none
def isNil(y:Operand)(v:Value):Bool:=match y,v with| .const _,.nilIface=>true|_,_=>false
def nlK(x:Value)(k:Bool→Prop):Prop:=match x with| .iface _ _=>k false| .nilIface=>k true|_=>False
def nlV(P:Program)(op:BinOp)(t:TypeId)(x:Value)(k:Value→Prop):Prop:=
 match P.underlying t with
 |some (.interface _)=>(match op with| .eql=>nlK x λb=>k (.bool b)| .neq=>nlK x λb=>k (.bool (!b))|_=>False)
 |_=>False
def rF(P:Program)(o:Oper)(ρ:Operand→Value)(k:Value→Prop):Prop:=
 match o.op with
 | .move x=>k (ρ x)
 | .assign x=>k (ρ x)
 | .nilCheck x=>match ρ x with
  | .pointer p=>A7 p λa=>k (.pointer (some a))
  |_=>evK P (execOp ρ o) k
 | .indexAddr t x i=>match P.underlying t,ρ x,ρ i with
  |some (.slice e),.slice b n _,.int _ ix=>if(P.info? e).isSome=true then Hf b n ix λa=>k (.pointer (some (a.add (ix.toNat*P.cellsOf e)))) else False
  |some (.array n e),.pointer (some b),.int _ ix=>if(P.info? e).isSome=true then Hf (some b) n ix λa=>k (.pointer (some (a.add (ix.toNat*P.cellsOf e)))) else False
  |_,_,_=>False
 | .index t x i=>match P.underlying t,ρ x,ρ i with
  |some .string,.string s,.int _ ix=>siK s ix λn=>k (.int .u8 n)
  |some (.array n e),.agg cs,.int _ ix=>aiV P e n cs ix k
  |_,_,_=>evK P (execOp ρ o) k
 | .slice t x lo hi none=>match P.underlying t,ρ x with
  |some .string,.string s=>match oJ 0 (lo.map ρ),oJ s.size (hi.map ρ) with
   |some l,some h=>slK l h s.size (k (.string (s.extract l.toNat h.toNat)))
   |_,_=>False
  |some (.slice e),.slice a n c=>match oJ 0 (lo.map ρ),oJ n (hi.map ρ) with
   |some l,some h=>if(P.info? e).isSome=true then slK l h c (k (.slice (slA a c l.toNat (P.cellsOf e)) (h.toNat-l.toNat) (c-l.toNat))) else False
   |_,_=>False
  |_,_=>False
 | .binOp op t x y _=>match isNil y (ρ y) with|true=>nlV P op t (ρ x) k|false=>match op,ρ x,ρ y with
  | .quo,.int i a,.int j b=>if i=j then Zm b (k (.int i (i.wrap (a.tdiv b)))) else False
  | .rem,.int i a,.int j b=>if i=j then Zm b (k (.int i (a.tmod b))) else False
  | .shl,.int i a,.int _ b=>dK b (k (.int i (i.wrap (a*2^(min b.toNat i.bits)))))
  | .shr,.int i a,.int _ b=>dK b (k (.int i (a.fdiv (2^(min b.toNat i.bits)))))
  | .eql,.pointer p,.pointer none=>match P.underlying t with|some (.pointer _)=>k (.bool p.isNone)|_=>False
  | .neq,.pointer p,.pointer none=>match P.underlying t with|some (.pointer _)=>k (.bool (!p.isNone))|_=>False
  | .eql,.agg xs,.agg ys=>if P.eqGuardType P.depth t=false then(match eqT P 12 t (.agg xs) (.agg ys) with|some b=>k (.bool b)|none=>False) else False
  | .neq,.agg xs,.agg ys=>if P.eqGuardType P.depth t=false then(match eqT P 12 t (.agg xs) (.agg ys) with|some b=>k (.bool (!b))|none=>False) else False
  | .eql,.slice p _ _,.slice none _ _=>match P.underlying t with|some (.slice _)=>k (.bool p.isNone)|_=>False
  | .neq,.slice p _ _,.slice none _ _=>match P.underlying t with|some (.slice _)=>k (.bool (!p.isNone))|_=>False
  | .add,.string a,.string b=>iF a b (k (.string (a++b)))
  | .eql,.string a,.string b=>k (.bool (a==b))
  | .neq,.string a,.string b=>k (.bool (!(a==b)))
  |_,_,_=>evK P (execOp ρ o) k
 |_=>evK P (execOp ρ o) k
theorem Tj{P:Program}{t:TypeId}{d:TypeDesc}(h:P.underlying t=some d)(w:World):(underlying t).run P w=.ok d w:=by
 simp[underlying,program,bind,Sem.bind,Sem.run,h,pure]
theorem Dk{P:Program}{α β:Type}: ∀(s:Sem α) (f:α→Sem β),ev P (s>>=f)=(ev P s).bind λa=>ev P (f a)
 | .pure _,_=>rfl
 | .program k,f=>by show ev P (.program _)=_;simp only[ev];exact Dk (k P) f
 | .mark _ k,f=>by show ev P (.mark _ _)=_;simp only[ev];exact Dk k f
 | .load ..,_| .store ..,_| .new ..,_| .shape ..,_| .freeze ..,_| .frozen ..,_| .getObj ..,_| .setObj ..,_| .choose ..,_| .sys ..,_| .halt ..,_=>rfl
theorem Q8{P:Program}{α β:Type}(s:Sem α)(f:α→β):ev P (f<$>s)=(ev P s).map f:=by
 show ev P (s>>=λa=>pure (f a))=_
 rw[Dk];cases ev P s<;>rfl
theorem Et{P:Program}{α:Type}(a:α):ev P (pure a)=some a:=rfl
theorem Q5{P:Program}{t:TypeId}{d:TypeDesc}(h:P.underlying t=some d):ev P (underlying t)=some d:=by
 simp[underlying,program,bind,Sem.bind,ev,h,pure]
theorem mQ{P:Program}{t:TypeId}(h:(P.info? t).isSome=true):ev P (Go.sizeOf t)=some (P.cellsOf t):=by
 cases hi:P.info? t with
 |none=>rw[hi] at h;cases h
 |some i=>simp[Go.sizeOf,typeInfo,Program.cellsOf,program,bind,Sem.bind,ev,hi,pure]
theorem O0{P:Program}{s:Sem Next}{v:Value}{k:Value→Prop}(h:k v)(he:ev P s=some (.value v)): ∃v,k v∧ ∀w,s.run P w=.ok (.value v) w:=
 ⟨v,h,sD s he⟩
theorem tK{d:Int}{v:Option Value}{n:Int}(h:oJ d v=some n):(v=none∧n=d)∨ ∃k,v=some (.int k n):=by
 unfold oJ at h
 split at h<;>simp_all
theorem kJ{P:Program}{k:IntKind}{n:Int}{y:Nat}{c:BoundsCode}(h:0≤n∧n≤y):ev P (Instr.sliceBound (.int k n) y c)=some n.toNat:=by
 simp[Instr.sliceBound,Dk,asIntOf,Et,h]
theorem wO{P:Program}{b:Bool}{len cap:Nat}{lo hi:Option Value}{l h:Int}(hl:oJ 0 lo=some l)(hh:oJ len hi=some h)
  (h1:0≤l) (h2:l≤h) (h3:h≤cap):ev P (Instr.sliceBounds b len cap lo hi none)=some (l.toNat,h.toNat,cap):=by
 rcases tK hh with ⟨rfl,rfl⟩|⟨k,rfl⟩<;>rcases tK hl with ⟨rfl,rfl⟩|⟨k',rfl⟩
 ·simp[Instr.sliceBounds,Dk,Q8,Et]
 ·have e1:=kJ (P:=P) (k:=k') (n:=l) (y:=len) (c:=.sliceB) ⟨h1,h2⟩
  simp[Instr.sliceBounds,Dk,Q8,Et,e1]
 ·have e2:=kJ (P:=P) (k:=k) (n:=h) (y:=cap) (c:=if b=true then .sliceAcap else .sliceAlen) ⟨by omega,h3⟩
  simp[Instr.sliceBounds,Dk,Q8,Et,e2]
 ·have e1:=kJ (P:=P) (k:=k') (n:=l) (y:=h.toNat) (c:=.sliceB) ⟨h1,by omega⟩
  have e2:=kJ (P:=P) (k:=k) (n:=h) (y:=cap) (c:=if b=true then .sliceAcap else .sliceAlen) ⟨by omega,h3⟩
  simp[Instr.sliceBounds,Dk,Q8,Et,e1,e2]
theorem Ai0{P:Program}{t e:TypeId}(hu:P.underlying t=some (.pointer e))(p:Option Addr)(d:Nat):ev P (Op.equalIn (d+1) t (.pointer p) (.pointer none))=some p.isNone:=by
 unfold Op.equalIn
 rw[Dk,Q5 hu]
 cases p<;>rfl
theorem Aqy{P:Program}{t e:TypeId}(hu:P.underlying t=some (.slice e))(p:Option Addr)(n c n' c' d:Nat):ev P (Op.equalIn (d+1) t (.slice p n c) (.slice none n' c'))=some p.isNone:=by
 unfold Op.equalIn
 rw[Dk,Q5 hu]
 cases p<;>rfl
theorem zY{P:Program}{o:Oper}{ρ:Operand→Value}{t:TypeId}{x y:Operand}{yt:TypeId}{r:Bool}(hx:o.op=.binOp .eql t x y yt)(hg:eqGuard .eql t x y (ρ x) (ρ y)=pure ())(hb:binOp .eql t (ρ x) (ρ y)=do pure (.bool (←Op.equal t (ρ x) (ρ y))))
  (h:ev P (Op.equalIn (9999+1) t (ρ x) (ρ y))=some r):ev P (execOp ρ o)=some (.value (.bool r)):=by
 have h':ev P (Op.equal t (ρ x) (ρ y))=some r:=h
 simp[execOp,hx,hg,hb,Dk,Q8,Et,h']
theorem zD{P:Program}{o:Oper}{ρ:Operand→Value}{t:TypeId}{x y:Operand}{yt:TypeId}{r:Bool}(hx:o.op=.binOp .neq t x y yt)(hg:eqGuard .neq t x y (ρ x) (ρ y)=pure ())(hb:binOp .neq t (ρ x) (ρ y)=do pure (.bool (!(←Op.equal t (ρ x) (ρ y)))))
  (h:ev P (Op.equalIn (9999+1) t (ρ x) (ρ y))=some r):ev P (execOp ρ o)=some (.value (.bool !r)):=by
 have h':ev P (Op.equal t (ρ x) (ρ y))=some r:=h
 simp[execOp,hx,hg,hb,Dk,Q8,Et,h']
theorem Aen{y:Operand}{v:Value}(h:isNil y v=true):(∃c,y=.const c)∧v=.nilIface:=by
 unfold isNil at h
 split at h
 ·exact⟨⟨_,rfl⟩,rfl⟩
 ·cases h
theorem Am6{P:Program}{t:TypeId}{ms:Array (String×TypeId)}(hu:P.underlying t=some (.interface ms))(d:Nat):ev P (Op.equalIn (d+1) t .nilIface .nilIface)=some true:=by
 unfold Op.equalIn
 rw[Dk,Q5 hu];rfl
theorem Alk{P:Program}{t:TypeId}{ms:Array (String×TypeId)}(hu:P.underlying t=some (.interface ms))(u:TypeId)(v:Value)(d:Nat):ev P (Op.equalIn (d+1) t (.iface u v) .nilIface)=some false:=by
 unfold Op.equalIn
 rw[Dk,Q5 hu];rfl
theorem Aj9{P:Program}{o:Oper}{ρ:Operand→Value}{op:BinOp}{t:TypeId}{x y:Operand}{yt:TypeId}{k:Value→Prop}(hx:o.op=.binOp op t x y yt)(hn:isNil y (ρ y)=true)(h:nlV P op t (ρ x) k):
  ∃v,k v∧ ∀w,(execOp ρ o).run P w=.ok (.value v) w:=by
 obtain⟨⟨c,rfl⟩,hy⟩:=Aen hn
 unfold nlV at h
 split at h
 case h_2=>exact h.elim
 rename_i ms hu
 split at h
 ·unfold nlK at h
  split at h
  ·rename_i u v hxv
   exact O0 h (zY hx (by rw[hxv,hy];rfl) (by rw[hxv,hy];rfl) (by rw[hxv,hy];exact Alk hu _ _ _))
  ·rename_i hxv
   exact O0 h (zY hx (by rw[hxv,hy];simp[eqGuard]) (by rw[hxv,hy];rfl) (by rw[hxv,hy];exact Am6 hu _))
  ·exact h.elim
 ·unfold nlK at h
  split at h
  ·rename_i u v hxv
   exact O0 h (zD hx (by rw[hxv,hy];rfl) (by rw[hxv,hy];rfl) (by rw[hxv,hy];exact Alk hu _ _ _))
  ·rename_i hxv
   exact O0 h (zD hx (by rw[hxv,hy];simp[eqGuard]) (by rw[hxv,hy];rfl) (by rw[hxv,hy];exact Am6 hu _))
  ·exact h.elim
 ·exact h.elim
theorem lJ{P:Program}{t:TypeId}{cs:Array Value}{off:Nat}{v:Value}(h:oW P t cs off=some v):ev P (part t cs off)=some v:=by
 unfold oW at h
 unfold part
 have hag: ∀d,P.underlying t=some d→ev P (isAgg t)=some (Wx P t):=λd hd=>by
  simp only[isAgg,Dk,Q5 hd,Option.bind_some,Wx,hd]
  cases d<;>rfl
 split at h
 ·rename_i ha
  split at h
  case isFalse=>cases h
  rename_i hi
  have hd: ∃d,P.underlying t=some d:=by
   unfold Wx at ha;cases hu:P.underlying t with
   |none=>rw[hu] at ha;cases ha
   |some d=>exact⟨d,rfl⟩
  obtain⟨d,hd⟩:=hd
  injection h with h
  simp[Dk,Q8,hag d hd,ha,mQ hi,Et,←h]
 ·rename_i ha
  split at h
  case isFalse=>cases h
  rename_i hi
  obtain⟨d,hd⟩:=Option.isSome_iff_exists.1 hi
  simp[Dk,hag d hd,ha,h,Et]
theorem Anb{P:Program}{n:TypeId→Value→Value→Option Bool}{d:Nat}{xs ys:Array Value}(hn: ∀t u v b,n t u v=some b→ev P (Op.equalIn d t u v)=some b): ∀(fs:List Field) (b:Bool),eqF n P xs ys fs=some b→
  ev P (forIn fs ((none,()):Option Bool×Unit) λf __s=>if f.name≠ "_"then do
   let __do_lift←part f.type xs f.offset
   let __do_lift_1←part f.type ys f.offset
   let __do_lift←Op.equalIn d f.type __do_lift __do_lift_1
   if(!__do_lift)=true then pure (ForInStep.done (some false,())) else pure (ForInStep.yield (none,()))
   else pure (ForInStep.yield (none,())))=some (if b=true then(none,()) else(some false,()))
 |[],b,h=>by simp only[eqF,Option.some.injEq] at h;subst h;rfl
 |f::fs,b,h=>by
  unfold eqF at h
  split at h
  case isFalse=>cases h
  rename_i hname
  split at h
  case h_2=>cases h
  rename_i u v hu hv
  split at h
  case h_2=>cases h
  rename_i b1 c hb hc
  injection h with h
  have ih:=Anb hn fs c hc
  simp only[List.forIn_cons,if_pos hname,Dk,lJ hu,lJ hv,hn _ _ _ _ hb,Option.bind_some]
  subst h
  cases b1
  ·simp[Et]
  ·simp only[Bool.not_true,Bool.false_eq_true,if_false,Et,Option.bind_some,Bool.true_and]
   exact ih
theorem Adu{P:Program}: ∀(n d:Nat) (t:TypeId) (x y:Value) (b:Bool),n≤d→eqT P n t x y=some b→ev P (Op.equalIn d t x y)=some b
 |0,_,_,_,_,_,_,h=>by cases h
 |n+1,0,_,_,_,_,hd,_=>by omega
 |n+1,d+1,t,x,y,b,hd,h=>by
  unfold eqT at h
  unfold Op.equalIn
  split at h
  ·rename_i hu;injection h with h;subst h;rw[Dk,Q5 hu];rfl
  ·rename_i hu
   split at h
   case isFalse=>cases h
   rename_i hk;injection h with h;subst h hk;rw[Dk,Q5 hu];simp[Et]
  ·rename_i hu;injection h with h;subst h;rw[Dk,Q5 hu];rfl
  ·rename_i fs xs ys hu
   split at h
   case isTrue=>cases h
   rename_i hst
   have:=Anb (P:=P) (d:=d) (λt u v b h=>Adu n d t u v b (by omega) h) fs.toList b h
   rw[Dk,Q5 hu]
   simp only[Option.bind_some]
   rw[Dk]
   simp only[program,ev,Option.bind_some,hst,if_false,←Array.forIn_toList,Bool.false_eq_true]
   rw[Dk,this]
   cases b<;>rfl
  ·cases h
theorem Ac8{P:Program}{op:BinOp}{t:TypeId}{x y:Operand}{xs ys:Array Value}(h:P.eqGuardType P.depth t=false):ev P (eqGuard op t x y (.agg xs) (.agg ys))=some ():=by
 unfold eqGuard
 cases op<;>simp[program,bind,Sem.bind,ev,h,pure]
theorem uA{P:Program}{o:Oper}{ρ:Operand→Value}{k:Value→Prop}(h:rF P o ρ k):
  ∃v,k v∧ ∀w,(execOp ρ o).run P w=.ok (.value v) w:=by
 unfold rF at h
 split at h
 case h_1 x hx=>exact O0 h (by simp[execOp,hx,Et])
 case h_2 x hx=>exact O0 h (by simp[execOp,hx,Et])
 case h_3 x hx=>
  split at h
  ·rename_i p hp
   unfold A7 at h
   split at h
   ·exact O0 h (by simp[execOp,hx,hp,Et])
   ·exact h.elim
  ·exact kP h
 case h_4 t x i hx=>
  split at h
  ·rename_i e b n c kk ix hu hxv hiv
   split at h
   case isFalse=>exact h.elim
   rename_i hinfo
   unfold Hf at h
   split at h
   case h_2=>exact h.elim
   split at h
   case isFalse=>exact h.elim
   rename_i hb
   exact O0 h (by simp[execOp,hx,Instr.indexAt,hiv,hxv,asIntOf,Dk,Q8,Et,Q5 hu,mQ hinfo,hb])
  ·rename_i n e b kk ix hu hxv hiv
   split at h
   case isFalse=>exact h.elim
   rename_i hinfo
   unfold Hf at h
   simp only at h
   split at h
   case isFalse=>exact h.elim
   rename_i hb
   exact O0 h (by simp[execOp,hx,Instr.indexAt,hiv,hxv,asIntOf,Instr.sureAddr,Dk,Q8,Et,Q5 hu,mQ hinfo,hb])
  ·exact h.elim
 case h_5 t x i hx=>
  split at h
  ·rename_i s kk ix hu hxv hiv
   unfold siK at h
   split at h
   case h_2=>exact h.elim
   rename_i b hb
   exact O0 h (by simp[execOp,hx,Instr.index,hiv,hxv,asIntOf,Dk,Q8,Et,Q5 hu,hb])
  ·rename_i n e cs kk ix hu hxv hiv
   unfold aiV at h
   split at h
   case isFalse=>exact h.elim
   rename_i hc
   obtain⟨h1,h2,h3,h4⟩:=hc
   split at h
   case h_2=>
    split at h
    case h_2=>exact h.elim
    rename_i l hl
    unfold aiP at h
    split at h
    case isFalse=>exact h.elim
    rename_i hb
    split at h
    case h_2=>exact h.elim
    rename_i v hv
    have hp:oW P e cs (ix.toNat*P.cellsOf e)=some (.pointer v):=by
     unfold oW
     rw[if_neg (by rw[h2];simp),if_pos h3,h4,Nat.mul_one]
     have:=Abe hl hv
     rwa [Array.getElem?_toList] at this
    have hp:=lJ hp
    exact O0 h (by simp[execOp,hx,Instr.index,hiv,hxv,asIntOf,Dk,Q8,Et,Q5 hu,hb,mQ h1,hp])
   rename_i l hl
   unfold aiK at h
   split at h
   case isFalse=>exact h.elim
   rename_i hb
   split at h
   case h_2=>exact h.elim
   rename_i v hv
   have hp:oW P e cs (ix.toNat*P.cellsOf e)=some (.int .i64 v):=by
    unfold oW
    rw[if_neg (by rw[h2];simp),if_pos h3,h4,Nat.mul_one]
    have:=Aci hl hv
    rwa [Array.getElem?_toList] at this
   have hp:=lJ hp
   exact O0 h (by simp[execOp,hx,Instr.index,hiv,hxv,asIntOf,Dk,Q8,Et,Q5 hu,hb,mQ h1,hp])
  ·exact kP h
 case h_6 t x lo hi hx=>
  split at h
  ·rename_i s hu hxv
   split at h
   case h_2=>exact h.elim
   rename_i l h' hl hh
   unfold slK at h
   split at h
   case isFalse=>exact h.elim
   rename_i hb
   exact O0 h (by simp[execOp,hx,Instr.sliceAt,Instr.slice,hxv,Dk,Q8,Et,Q5 hu,wO hl hh hb.1 hb.2.1 hb.2.2])
  ·rename_i e a n c hu hxv
   split at h
   case h_2=>exact h.elim
   rename_i l h' hl hh
   split at h
   case isFalse=>exact h.elim
   rename_i hinfo
   unfold slK at h
   split at h
   case isFalse=>exact h.elim
   rename_i hb
   exact O0 h (by simp[execOp,hx,Instr.sliceAt,Instr.slice,hxv,Dk,Q8,Et,Q5 hu,mQ hinfo,wO hl hh hb.1 hb.2.1 hb.2.2,slA])
  ·exact h.elim
 case h_7 op t x y yt hx=>
  split at h
  case h_1 hn=>exact Aj9 hx hn h
  split at h
  case h_14=>exact kP h
  case h_1 i a j b hxv hyv=>
   split at h
   case isFalse=>exact h.elim
   unfold Zm at h
   split at h
   case isTrue=>exact h.elim
   subst i
   exact O0 h (by simp[execOp,hx,hxv,hyv,eqGuard,binOp,Op.intDiv,Dk,Et, *])
  case h_2 i a j b hxv hyv=>
   split at h
   case isFalse=>exact h.elim
   unfold Zm at h
   split at h
   case isTrue=>exact h.elim
   subst i
   exact O0 h (by simp[execOp,hx,hxv,hyv,eqGuard,binOp,Op.intDiv,Dk,Et, *])
  case h_3 i a j b hxv hyv=>
   unfold dK at h
   split at h
   case isTrue=>exact h.elim
   exact O0 h (by simp[execOp,hx,hxv,hyv,eqGuard,binOp,Op.shift,Dk,Et, *])
  case h_4 i a j b hxv hyv=>
   unfold dK at h
   split at h
   case isTrue=>exact h.elim
   exact O0 h (by simp[execOp,hx,hxv,hyv,eqGuard,binOp,Op.shift,Dk,Et, *])
  case h_5 p hxv hyv=>
   split at h
   case h_2=>exact h.elim
   rename_i e hu
   exact O0 h (zY hx (by rw[hxv,hyv];rfl) (by rw[hxv,hyv];rfl) (by rw[hxv,hyv];exact Ai0 hu p _))
  case h_6 p hxv hyv=>
   split at h
   case h_2=>exact h.elim
   rename_i e hu
   exact O0 h (zD hx (by rw[hxv,hyv];rfl) (by rw[hxv,hyv];rfl) (by rw[hxv,hyv];exact Ai0 hu p _))
  case h_7 xs ys hxv hyv=>
   split at h
   case isFalse=>exact h.elim
   rename_i hg
   split at h
   case h_2=>exact h.elim
   rename_i b hb
   have he:ev P (Op.equal t (.agg xs) (.agg ys))=some b:=Adu 12 10000 t _ _ b (by omega) hb
   exact O0 h (by simp only[execOp,hx,hxv,hyv,Dk,Ac8 hg,Option.bind_some,binOp,he,Et])
  case h_8 xs ys hxv hyv=>
   split at h
   case isFalse=>exact h.elim
   rename_i hg
   split at h
   case h_2=>exact h.elim
   rename_i b hb
   have he:ev P (Op.equal t (.agg xs) (.agg ys))=some b:=Adu 12 10000 t _ _ b (by omega) hb
   exact O0 h (by simp only[execOp,hx,hxv,hyv,Dk,Ac8 hg,Option.bind_some,binOp,he,Et])
  case h_9 p n c n' c' hxv hyv=>
   split at h
   case h_2=>exact h.elim
   rename_i e hu
   exact O0 h (zY hx (by rw[hxv,hyv];rfl) (by rw[hxv,hyv];rfl) (by rw[hxv,hyv];exact Aqy hu p _ _ _ _ _))
  case h_10 p n c n' c' hxv hyv=>
   split at h
   case h_2=>exact h.elim
   rename_i e hu
   exact O0 h (zD hx (by rw[hxv,hyv];rfl) (by rw[hxv,hyv];rfl) (by rw[hxv,hyv];exact Aqy hu p _ _ _ _ _))
  case h_11 a b hxv hyv=>
   obtain⟨hn,h⟩:=h
   exact O0 h (by simp[execOp,hx,hxv,hyv,eqGuard,binOp,Op.stringOp,Dk,Q8,Et];rw[if_neg (λhc=>hn (by simpa using hc))];rfl)
  case h_12 a b hxv hyv=>exact O0 h (by simp[execOp,hx,hxv,hyv,eqGuard,binOp,Op.stringOp,Dk,Q8,Et,Ajm])
  case h_13 a b hxv hyv=>exact O0 h (by simp[execOp,hx,hxv,hyv,eqGuard,binOp,Op.stringOp,Dk,Q8,Et,Ajm])
 case h_8=>exact kP h
@[reducible] def TR:List (Bool×List CK)→Type
 |[]=>Unit
 |x::rs=>Ky x.2×TR rs
def enc1(ag:Bool)(cs:List CK)(r:Ky cs):Value:=if ag=true then .agg (encs cs r).toArray else(encs cs r).headD undef
def dP:(rs:List (Bool×List CK))→TR rs→List Value
 |[],_=>[]
 |x::rs,r=>enc1 x.1 x.2 r.1::dP rs r.2
def encR(tup:Bool)(rs:List (Bool×List CK))(r:TR rs):Value:=if tup=true then .tuple (dP rs r).toArray else(dP rs r).headD undef
def Abr(P:Program)(t:TypeId):List (Bool×List CK):=
 match P.underlying t with
 |some (.tuple ts)=>ts.toList.map λu=>(Wx P u,yH P 12 u)
 |_=>[(Wx P t,yH P 12 t)]
def oU(P:Program)(t:TypeId):Bool:=match P.underlying t with|some (.tuple _)=>true|_=>false
def Ad(P:Program)(g:FuncId)(args:List Value)(w:World)(tup:Bool)(rs:List (Bool×List CK))(k:TR rs→World→Prop):Prop:=
 Calls P g args.toArray w λe w'=> ∃r:TR rs,e=.returned (encR tup rs r)∧k r w'
def callable(P:Program)(g:FuncId):Bool:=
 match P.funcs[g]? with|some fn=>!(fn.name== "runtime.NumGoroutine")&&fn.body.isSome|none=>false
def clW(P:Program)(f:Value)(args:List Value)(ty:TypeId)(w:World)(k:Value→World→Prop):Prop:=
 match f with
 | .func (.func g) first cap=>if callable P g=true then Ad P g (first.toList++args++cap.toList) w (oU P ty) (Abr P ty) λr w'=>k (encR (oU P ty) (Abr P ty) r) w' else False
 |_=>False
def efW(P:Program)(ty:TypeId)(r:Result Next)(k:Value→World→Prop):Prop:=
 match r with
 | .ok (.value v) w'=>k v w'
 | .ok .skip w'=>k undef w'
 | .ok (.enter g args) w'=>Ad P g args.toList w' (oU P ty) (Abr P ty) λr w''=>k (encR (oU P ty) (Abr P ty) r) w''
 |_=>False
def maK(P:Program)(t:TypeId)(w:World)(k:Nat→World→Prop):Prop:=
 match (Instr.makeMap t none).run P w with| .ok (.map (some r)) w'=>k r w'|_=>False
def lkO(P:Program)(t:TypeId)(m i:Value)(w:World)(ag:Bool)(cs:List CK)(k:Ky cs→Bool→Prop):Prop:=
 ∃x b,(Instr.lookup t m i true).run P w=.ok (.tuple #[enc1 ag cs x,.bool b]) w∧k x b
def lkP(P:Program)(t:TypeId)(m i:Value)(w:World)(ag:Bool)(cs:List CK)(k:Ky cs→Prop):Prop:=
 ∃x,(Instr.lookup t m i false).run P w=.ok (enc1 ag cs x) w∧k x
def lkV(P:Program)(t:TypeId)(m i:Value)(ok:Bool)(w:World)(k:Value→Prop):Prop:=
 match P.underlying t with
 |some (.map _ e)=>(match ok with
  |true=>lkO P t m i w (Wx P e) (yH P 12 e) λx b=>k (.tuple #[enc1 (Wx P e) (yH P 12 e) x,.bool b])
  |false=>lkP P t m i w (Wx P e) (yH P 12 e) λx=>k (enc1 (Wx P e) (yH P 12 e) x))
 |_=>False
def muK(P:Program)(t:TypeId)(m i v:Value)(w:World)(k:World→Prop):Prop:=
 match (Instr.mapUpdate t m i v).run P w with| .ok () w'=>k w'|_=>False
def bsK(P:Program)(x:Value)(w:World)(k:ByteArray→World→Prop):Prop:=
 match (Conv.bytesToString x).run P w with| .ok (.string s) w'=>k s w'|_=>False
def rgK(s:ByteArray)(w:World)(k:Nat→World→Prop):Prop:=k w.heap.size (w.alloc (.stringIter s 0))
def nxK(r:Nat)(w:World)(over:World→Prop)(more:Int→Int→World→Prop):Prop:=
 match w.heap[r]? with
 |some (.stringIter s pos)=>if pos<s.size then more (pos:Int) ((Utf8.decode s pos).1:Int) {w with heap:=w.heap.setIfInBounds r (.stringIter s (pos+(Utf8.decode s pos).2))} else over w
 |_=>False
def rgV(P:Program)(t:TypeId)(x:Value)(w:World)(k:Nat→World→Prop):Prop:=
 match P.underlying t,x with|some .string,.string s=>rgK s w k|_,_=>False
def nxV(it:Value)(w:World)(k:Value→World→Prop):Prop:=
 match it with
 | .pointer (some ⟨r,0,_⟩)=>nxK r w (λw'=>k (.tuple #[.bool false]) w') λi c w'=>k (.tuple #[.bool true,.int .i64 i,.int .i32 c]) w'
 |_=>False
def Qj(r:Result Value)(k:(Option Addr×Nat×Nat)→World→Prop):Prop:=
 match r with
 | .ok v w'=>(match Afh v with|some y=>k y w'|none=>False)
 |_=>False
def Ak2:(cs:List CK)→List Value→Option (Ky cs)
 |[],[]=>some ()
 |c::cs,v::vs=>match dec c v,Ak2 cs vs with
  |some x,some xs=>some (x,xs)
  |_,_=>none
 |_,_=>none
theorem oD: ∀{cs:List CK} {vs:List Value} {x:Ky cs},Ak2 cs vs=some x→vs=encs cs x
 |[],[],_,_=>rfl
 |[],_::_,_,h=>by cases h
 |_::_,[],_,h=>by cases h
 |c::cs,v::vs,x,h=>by
  unfold Ak2 at h
  split at h
  case h_2=>cases h
  rename_i a b ha hb
  injection h with h;subst h
  show v::vs=enc c a::encs cs b
  rw[←aP ha,←oD hb]
def Apu(ag:Bool)(cs:List CK)(v:Value):Option (Ky cs):=
 match ag with
 |true=>(match v with| .agg xs=>Ak2 cs xs.toList|_=>none)
 |false=>Ak2 cs [v]
theorem wY{ag:Bool}{cs:List CK}{v:Value}{x:Ky cs}(h:Apu ag cs v=some x):v=enc1 ag cs x:=by
 unfold Apu at h
 split at h
 ·split at h
  case h_2=>cases h
  rename_i xs
  have:=oD h
  simp only[enc1,if_true]
  rw[←this]
 ·have:=oD h
  unfold enc1
  rw[if_neg (by simp),←this];rfl
def taM(P:Program)(t:TypeId)(ok:Bool)(ag:Bool)(cs:List CK)(k:Ky cs→Bool→Prop):Prop:=
 match ok with
 |true=>(match ev P (zeroValue t) with
  |some z=>(match Apu ag cs z with|some y=>k y false|none=>False)
  |none=>False)
 |false=>False
def taV(P:Program)(x:Value)(t:TypeId)(ok:Bool)(ag:Bool)(cs:List CK)(k:Ky cs→Bool→Prop):Prop:=
 match x with
 | .iface t' v=>(match Nat.beq t' t with
  |true=>(match Apu ag cs v with|some y=>k y true|none=>False)
  |false=>taM P t ok ag cs k)
 | .nilIface=>taM P t ok ag cs k
 |_=>False
def isI(P:Program)(t:TypeId):Bool:=match P.underlying t with|some (.interface _)=>true|none=>true|_=>false
def taW(P:Program)(x:Value)(t:TypeId)(ok:Bool)(k:Value→Prop):Prop:=
 taV P x t ok (Wx P t) (yH P 12 t) λy b=>k (match ok with|true=>.tuple #[enc1 (Wx P t) (yH P 12 t) y,.bool b]|false=>enc1 (Wx P t) (yH P 12 t) y)
def ivK(P:Program)(x:Value)(nm:String)(args:List Value)(w:World)(tup:Bool)(rs:List (Bool×List CK))(k:TR rs→World→Prop):Prop:=
 match x with
 | .iface t v=>(match ev P (method (P.types.size+Made.depth) t v nm) with
  |some gv=>(match callable P gv.1 with|true=>Ad P gv.1 (gv.2::args) w tup rs k|false=>False)
  |none=>False)
 |_=>False
def ivW(P:Program)(x:Value)(nm:String)(args:List Value)(ty:TypeId)(w:World)(k:Value→World→Prop):Prop:=
 ivK P x nm args w (oU P ty) (Abr P ty) λr w'=>k (encR (oU P ty) (Abr P ty) r) w'
def crK(P:Program)(ts:Array TypeId)(ty:TypeId)(x:Value)(w:World)(k:World→Prop):Prop:=
 match (Builtin.clear_ ts ty #[x]).run P w with| .ok (.tuple ⟨[]⟩) w'=>k w'|_=>False
inductive Cl where
 |ta (x:Operand) (t:TypeId) (ok:Bool)|iv (x:Operand) (nm:String) (args:Array Operand)|cr (ts:Array TypeId) (x:Operand)
 |pu|ld (t:TypeId) (x:Operand)|st (t:TypeId) (x v:Operand)|cl (f:Operand) (args:Array Operand)|ap (ts:Array TypeId) (s x:Operand)|ef|pa|mk (t:TypeId)|lk (t:TypeId) (x i:Operand) (ok:Bool)|mu (t:TypeId) (m i v:Operand)|bs (s d:TypeId) (x:Operand)|ms (t:TypeId) (l c:Operand)|rg (t:TypeId) (x:Operand)|nx (x:Operand)
def Awe(P:Program)(e:TypeId):Bool:=match P.underlying e with|some (.int .u8)=>true|_=>false
def eQ(P:Program):Op→Cl
 | .load t x=>.ld t x
 | .store t x v=>.st t x v
 | .panic _=>.pa
 | .move _| .assign _| .pick _ _ _| .nilCheck _| .binOp _ _ _ _ _| .unOp _ _ _| .fieldAddr _ _ _| .field _ _ _| .indexAddr _ _ _| .index _ _ _| .slice _ _ _ _ _| .extract _ _
 | .makeInterface _ _| .makeFunc _ _ _| .build _ _=>.pu
 | .convert s d x=>match P.underlying s,P.underlying d with|some (.int _),some (.int _)=>.pu|some .string,some .string=>.pu|some (.slice e),some .string=>(match Awe P e with|true=>.bs s d x|false=>.ef)|_,_=>.ef
 | .call {callee:=.value f,args,argTypes:=_}=>.cl f args
 | .call {callee:=.builtin b,args,argTypes}=>match b,args.toList with
  | .append,[s,x]=>.ap argTypes s x
  | .len,_=>match (argTypes[0]?).bind P.underlying with|some (.map _ _)=>.ef|_=>.pu
  | .cap,_| .min,_| .max,_=>.pu
  | .clear,[x]=>.cr argTypes x
  |_,_=>.ef
 | .call {callee:=.invoke x nm,args,argTypes:=_}=>.iv x nm args
 | .typeAssert x _ t ok=>(match isI P t with|true=>.ef|false=>.ta x t ok)
 | .makeMap t none=>.mk t
 | .lookup t x i ok=>.lk t x i ok
 | .mapUpdate t m i v=>.mu t m i v
 | .makeSlice t l c=>.ms t l c
 | .range t x=>.rg t x
 | .next x true=>.nx x
 | .insert t m i v=>.mu t m i v
 |_=>.ef
def Ui(P:Program)(o:Oper)(a:Act)(w:World)(K:Act→World→Prop):Prop:=
 match eQ P o.op with
 | .pu=>rF P o a.eval λv=>K (a.put o.dst v) w
 | .ld t x=>ldW P t (a.eval x) w λv=>K (a.put o.dst v) w
 | .st t x v=>stW P t (a.eval x) (a.eval v) w λw'=>K (a.put o.dst undef) w'
 | .cl f args=>clW P (a.eval f) (args.toList.map a.eval) o.type w λv w'=>K (a.put o.dst v) w'
 | .ap ts s x=>Qj ((Builtin.append_ ts o.type #[a.eval s,a.eval x]).run P w) λy w'=>K (a.put o.dst (.slice y.1 y.2.1 y.2.2)) w'
 | .ef=>efW P o.type ((execOp a.eval o).run P w) λv w'=>K (a.put o.dst v) w'
 | .pa=>False
 | .mk t=>maK P t w λr w'=>K (a.put o.dst (.map (some r))) w'
 | .lk t x i ok=>lkV P t (a.eval x) (a.eval i) ok w λv=>K (a.put o.dst v) w
 | .mu t m i v=>muK P t (a.eval m) (a.eval i) (a.eval v) w λw'=>K (a.put o.dst undef) w'
 | .bs _ _ x=>bsK P (a.eval x) w λs w'=>K (a.put o.dst (.string s)) w'
 | .ms t l c=>Qj ((Instr.makeSlice t (a.eval l) (a.eval c)).run P w) λy w'=>K (a.put o.dst (.slice y.1 y.2.1 y.2.2)) w'
 | .rg t x=>rgV P t (a.eval x) w λr w'=>K (a.put o.dst (.pointer (some ⟨r,0,none⟩))) w'
 | .nx x=>nxV (a.eval x) w λv w'=>K (a.put o.dst v) w'
 | .ta x t ok=>taW P (a.eval x) t ok λv=>K (a.put o.dst v) w
 | .iv x nm args=>ivW P (a.eval x) nm (args.toList.map a.eval) o.type w λv w'=>K (a.put o.dst v) w'
 | .cr ts x=>crK P ts o.type (a.eval x) w λw'=>K (a.put o.dst (.tuple #[])) w'
theorem Ajv{P:Program}{op:Op}{t:TypeId}{x:Operand}(h:eQ P op=.ld t x):op=.load t x:=by
 unfold eQ at h;split at h<;>first|(injection h with h1 h2;subst h1 h2;rfl)|(exfalso;revert h;(repeat' split)<;>intro h<;>cases h)|cases h
theorem Ari{P:Program}{op:Op}{t:TypeId}{x v:Operand}(h:eQ P op=.st t x v):op=.store t x v:=by
 unfold eQ at h;split at h<;>first|(injection h with h1 h2 h3;subst h1 h2 h3;rfl)|(exfalso;revert h;(repeat' split)<;>intro h<;>cases h)|cases h
theorem Arm{P:Program}{op:Op}{t:TypeId}(h:eQ P op=.mk t):op=.makeMap t none:=by
 unfold eQ at h;split at h<;>first|(injection h with h1;subst h1;rfl)|(exfalso;revert h;(repeat' split)<;>intro h<;>cases h)|cases h
theorem Ajd{P:Program}{op:Op}{t:TypeId}{x i:Operand}{ok:Bool}(h:eQ P op=.lk t x i ok):op=.lookup t x i ok:=by
 unfold eQ at h;split at h<;>first|(injection h with h1 h2 h3 h4;subst h1 h2 h3 h4;rfl)|(exfalso;revert h;(repeat' split)<;>intro h<;>cases h)|cases h
theorem Aq7{P:Program}{op:Op}{t:TypeId}{m i v:Operand}(h:eQ P op=.mu t m i v):op=.mapUpdate t m i v∨op=.insert t m i v:=by
 unfold eQ at h;split at h<;>first|(injection h with h1 h2 h3 h4;subst h1 h2 h3 h4;first|exact .inl rfl|exact .inr rfl)|(exfalso;revert h;(repeat' split)<;>intro h<;>cases h)|cases h
theorem Ats{P:Program}{op:Op}{s d:TypeId}{x:Operand}(h:eQ P op=.bs s d x):op=.convert s d x∧P.underlying d=some .string∧ ∃e,P.underlying s=some (.slice e)∧P.underlying e=some (.int .u8):=by
 unfold eQ at h
 split at h
 case h_19 s' d' x'=>
  split at h
  ·cases h
  ·cases h
  ·rename_i e hs hd
   split at h
   ·rename_i hb
    injection h with h1 h2 h3
    subst h1 h2 h3
    refine⟨rfl,hd,e,hs,?_⟩
    unfold Awe at hb
    split at hb
    ·assumption
    ·cases hb
   ·cases h
  ·cases h
 all_goals (exfalso;revert h;(repeat' split)<;>intro h<;>cases h)
theorem Asz{P:Program}{op:Op}{t:TypeId}{l c:Operand}(h:eQ P op=.ms t l c):op=.makeSlice t l c:=by
 unfold eQ at h;split at h<;>first|(injection h with h1 h2 h3;subst h1 h2 h3;rfl)|(exfalso;revert h;(repeat' split)<;>intro h<;>cases h)|cases h
theorem As5{P:Program}{op:Op}{t:TypeId}{x:Operand}(h:eQ P op=.rg t x):op=.range t x:=by
 unfold eQ at h;split at h<;>first|(injection h with h1 h2;subst h1 h2;rfl)|(exfalso;revert h;(repeat' split)<;>intro h<;>cases h)|cases h
theorem Alv{P:Program}{op:Op}{x:Operand}(h:eQ P op=.nx x):op=.next x true:=by
 unfold eQ at h;split at h<;>first|(injection h with h1;subst h1;rfl)|(exfalso;revert h;(repeat' split)<;>intro h<;>cases h)|cases h
theorem Adz{P:Program}{op:Op}{f:Operand}{args:Array Operand}(h:eQ P op=.cl f args): ∃ts,op=.call {callee:=.value f,args,argTypes:=ts}:=by
 unfold eQ at h;split at h<;>first|(injection h with h1 h2;subst h1 h2;exact⟨_,rfl⟩)|(exfalso;revert h;(repeat' split)<;>intro h<;>cases h)|cases h
theorem Atg{P:Program}{op:Op}{ts:Array TypeId}{s x:Operand}(h:eQ P op=.ap ts s x):op=.call {callee:=.builtin .append,args:=#[s,x],argTypes:=ts}:=by
 unfold eQ at h
 split at h
 case h_21 b args argTypes=>
  split at h
  ·rename_i s' x' hargs
   injection h with h1 h2 h3
   subst h1 h2 h3
   have:args=#[s',x']:=by rw[←Array.toArray_toList (xs:=args),hargs]
   subst this;rfl
  all_goals (exfalso;revert h;(repeat' split)<;>intro h<;>cases h)
 all_goals (exfalso;revert h;(repeat' split)<;>intro h<;>cases h)
theorem Ath{P:Program}{op:Op}{x:Operand}{t:TypeId}{ok:Bool}(h:eQ P op=.ta x t ok):(∃xt,op=.typeAssert x xt t ok)∧isI P t=false:=by
 unfold eQ at h
 split at h<;>first
  |(split at h
    ·cases h
    ·rename_i hi;injection h with h1 h2 h3;subst h1 h2 h3;exact⟨⟨_,rfl⟩,hi⟩)
  |(exfalso;revert h;(repeat' split)<;>intro h<;>cases h)
  |cases h
theorem Ar2{P:Program}{op:Op}{x:Operand}{nm:String}{args:Array Operand}(h:eQ P op=.iv x nm args): ∃ts,op=.call {callee:=.invoke x nm,args,argTypes:=ts}:=by
 unfold eQ at h;split at h<;>first|(injection h with h1 h2 h3;subst h1 h2 h3;exact⟨_,rfl⟩)|(exfalso;revert h;(repeat' split)<;>intro h<;>cases h)|cases h
theorem Aq5{P:Program}{op:Op}{ts:Array TypeId}{x:Operand}(h:eQ P op=.cr ts x):op=.call {callee:=.builtin .clear,args:=#[x],argTypes:=ts}:=by
 unfold eQ at h
 split at h
 case h_21 b args argTypes=>
  split at h
  all_goals first
   |(cases h;done)
   |(rename_i hargs
     injection h with h1 h2
     subst h1 h2
     rw[←Array.toArray_toList (xs:=args),hargs];done)
   |(exfalso;revert h;(repeat' split)<;>intro h<;>cases h)
 all_goals (exfalso;revert h;(repeat' split)<;>intro h<;>cases h)
theorem Ago{P:Program}{g:FuncId}(hc:callable P g=true)(args:Array Value)(w:World):(callFunc g args).run P w=.ok (.enter g args) w:=by
 unfold callable at hc
 split at hc
 case h_2=>cases hc
 rename_i fn hfn
 simp only[Bool.and_eq_true,Bool.not_eq_true'] at hc
 obtain⟨h1,h2⟩:=hc
 have h3:fn.body≠none:=by intro hb;rw[hb] at h2;cases h2
 have h4:fn.name≠ "runtime.NumGoroutine":=by simpa using h1
 simp[callFunc,hfn,h4,h3,program,bind,Sem.bind,Sem.run,pure]
theorem Abx{P:Program}{t:TypeId}{ag:Bool}{cs:List CK}{ok:Bool}{k:Ky cs→Bool→Prop}(h:taM P t ok ag cs k):ok=true∧ ∃y,k y false∧ev P (zeroValue t)=some (enc1 ag cs y):=by
 unfold taM at h
 split at h
 case h_2=>exact h.elim
 split at h
 case h_2=>exact h.elim
 rename_i z hz
 split at h
 case h_2=>exact h.elim
 rename_i y hy
 exact⟨rfl,y,h,by rw[hz,wY hy]⟩
theorem Alg{P:Program}{o:Oper}{ρ:Operand→Value}{x:Operand}{xt t:TypeId}{ok:Bool}{k:Value→Prop}(ho:o.op=.typeAssert x xt t ok)(hi:isI P t=false)(h:taW P (ρ x) t ok k):
  ∃v,k v∧ ∀w,(execOp ρ o).run P w=.ok (.value v) w:=by
 unfold taW at h
 have hd: ∃d,P.underlying t=some d∧ ∀ms,d≠ .interface ms:=by
  unfold isI at hi
  cases hu:P.underlying t with
  |none=>rw[hu] at hi;cases hi
  |some d=>exact⟨d,rfl,λms e=>by rw[hu,e] at hi;cases hi⟩
 obtain⟨d,hu,hd⟩:=hd
 have key: ∀(v z:Value),(ok=true∧ev P (zeroValue t)=some z)→(∀t' v',ρ x=.iface t' v'→t'≠t)→(ρ x=.nilIface∨ ∃t' v',ρ x=.iface t' v')→ev P (execOp ρ o)=some (.value (.tuple #[z,.bool false])):=by
  intro v z ⟨hk,hz⟩ hne hx
  subst hk
  simp only[execOp,ho]
  rcases hx with hx|⟨t',v',hx⟩
  ·unfold Instr.typeAssert
   rw[hx]
   simp only[Dk,Q5 hu,Option.bind_some]
   cases d<;>first|exact absurd rfl (hd _)|simp[Dk,Q8,Et,hz]
  ·unfold Instr.typeAssert
   have:=hne _ _ hx
   rw[hx]
   simp only[Dk,Q5 hu,Option.bind_some]
   cases d<;>first|exact absurd rfl (hd _)|simp[Dk,Q8,Et,hz,this]
 unfold taV at h
 split at h
 ·rename_i t' v hx
  split at h
  ·rename_i he
   have he:=Nat.eq_of_beq_eq_true he
   subst he
   split at h
   case h_2=>exact h.elim
   rename_i y hy
   refine O0 h ?_
   rw[←wY hy]
   simp only[execOp,ho]
   unfold Instr.typeAssert
   rw[hx]
   simp only[Dk,Q5 hu,Option.bind_some]
   cases d<;>first|exact absurd rfl (hd _)|(cases ok<;>simp[Dk,Et])
  ·rename_i he
   obtain⟨hk,y,hk2,hz⟩:=Abx h
   subst hk
   exact O0 hk2 (key v _ ⟨rfl,hz⟩ (λt1 v1 h1=>by
    rw[hx] at h1;injection h1 with h1;subst h1
    exact Nat.ne_of_beq_eq_false he) (.inr ⟨_,_,hx⟩))
 ·rename_i hx
  obtain⟨hk,y,hk2,hz⟩:=Abx h
  subst hk
  exact O0 hk2 (key undef _ ⟨rfl,hz⟩ (λt1 v1 h1=>by rw[hx] at h1;cases h1) (.inl hx))
 ·exact h.elim
theorem Abs{P:Program}{ρ:Operand→Value}{o:Oper}{f:Operand}{args:Array Operand}{ts:Array TypeId}{g:FuncId}{first cap:Array Value}(w:World)
  (ho:o.op=.call {callee:=.value f,args,argTypes:=ts}) (hf:ρ f=.func (.func g) first cap) (hc:callable P g=true):
  (execOp ρ o).run P w=.ok (.enter g (first++args.map ρ++cap)) w:=by
 unfold callable at hc
 split at hc
 case h_2=>cases hc
 rename_i fn hfn
 simp only[Bool.and_eq_true,Bool.not_eq_true'] at hc
 obtain⟨h1,h2⟩:=hc
 have h3:fn.body≠none:=by intro hb;rw[hb] at h2;cases h2
 have h4:fn.name≠ "runtime.NumGoroutine":=by simpa using h1
 simp[execOp,ho,resolve,Deferred.ofValue,hf,invoke,callFunc,hfn,h4,h3,program,bind,Sem.bind,Sem.run,pure,Result.andThen]
theorem xP{P:Program}{o:Oper}{a:Act}{w:World}{K:Act→World→Prop}{Q:Exit→Act→World→Prop}(h:Ui P o a w K):o.wp P a w K Q:=by
 unfold Ui at h
 unfold Oper.wp
 split at h
 case h_1=>obtain⟨v,hk,hr⟩:=uA h;rw[hr w];exact hk
 case h_2 t x hc=>
  obtain⟨v,hk,hr⟩:=tN h
  have:(execOp a.eval o).run P w=.ok (.value v) w:=by
   simp[execOp,Ajv hc,hr w (λ_ _=>rfl),pure,Sem.run]
  rw[this];exact hk
 case h_3 t x v hc=>
  obtain⟨w',hk,hr⟩:=Ala h
  have:(execOp a.eval o).run P w=.ok .skip w':=by
   simp[execOp,Ari hc,hr,pure,Sem.run]
  rw[this];exact hk
 case h_4 f args hc=>
  obtain⟨ts,ho⟩:=Adz hc
  unfold clW at h
  split at h
  case h_2=>exact h.elim
  rename_i g first cap hf
  split at h
  case isFalse=>exact h.elim
  rename_i hcal
  rw[Abs w ho hf hcal]
  unfold Ad at h
  have e:(first.toList++args.toList.map a.eval++cap.toList).toArray=first++args.map a.eval++cap:=by
   apply Array.ext';simp
  rw[e] at h
  refine Calls.mono h ?_
  rintro e w' ⟨r,rfl,hk⟩
  exact hk
 case h_5 ts s x hc=>
  unfold Qj at h
  split at h
  case h_2=>exact h.elim
  rename_i v w' hr
  split at h
  case h_2=>exact h.elim
  rename_i y hy
  have hv:v=.slice y.1 y.2.1 y.2.2:=aP (c:=.sl) hy
  have:(execOp a.eval o).run P w=.ok (.value v) w':=by
   simp[execOp,Atg hc,resolve,invoke,builtin,hr,pure,Sem.run,bind,Sem.bind,Sem.run_bind',Result.andThen]
  rw[this,hv];exact h
 case h_6=>
  unfold efW at h
  split at h
  ·rename_i v w' hr;rw[hr];exact h
  ·rename_i w' hr;rw[hr];exact h
  ·rename_i g args w' hr
   rw[hr]
   unfold Ad at h
   rw[Array.toArray_toList] at h
   refine Calls.mono h ?_
   rintro e w'' ⟨r,rfl,hk⟩
   exact hk
  ·exact h.elim
 case h_7=>exact h.elim
 case h_8 t hc=>
  unfold maK at h
  split at h
  case h_2=>exact h.elim
  rename_i r w' hr
  have:(execOp a.eval o).run P w=.ok (.value (.map (some r))) w':=by
   simp[execOp,Arm hc,hr,pure,Sem.run]
  rw[this];exact h
 case h_9 t x i ok hc=>
  unfold lkV at h
  split at h
  case h_2=>exact h.elim
  rename_i kt et hu
  split at h
  ·obtain⟨y,b,hr,hk⟩:=h
   have:(execOp a.eval o).run P w=.ok (.value (.tuple #[enc1 (Wx P et) (yH P 12 et) y,.bool b])) w:=by
    simp[execOp,Ajd hc,hr,pure,Sem.run]
   rw[this];exact hk
  ·obtain⟨y,hr,hk⟩:=h
   have:(execOp a.eval o).run P w=.ok (.value (enc1 (Wx P et) (yH P 12 et) y)) w:=by
    simp[execOp,Ajd hc,hr,pure,Sem.run]
   rw[this];exact hk
 case h_10 t m i v hc=>
  unfold muK at h
  split at h
  case h_2=>exact h.elim
  rename_i w' hr
  have:(execOp a.eval o).run P w=.ok .skip w':=by
   rcases Aq7 hc with e|e<;>simp[execOp,e,hr,pure,Sem.run]
  rw[this];exact h
 case h_11 s d x hc=>
  obtain⟨ho,hd,e,hs,he⟩:=Ats hc
  unfold bsK at h
  split at h
  case h_2=>exact h.elim
  rename_i s' w' hr
  have hcv:(convert s d (a.eval x)).run P w=.ok (.string s') w':=by
   unfold convert
   refine(run_bind _ _ w (Tj hs w)).trans ?_
   refine(run_bind _ _ w (Tj hd w)).trans ?_
   have hx: ∀v,(Conv.bytesToString v).run P w=.ok (.string s') w'→(∃p n c,v=.slice p n c):=by
    intro v hv
    unfold Conv.bytesToString at hv
    split at hv
    ·exact⟨_,_,_,rfl⟩
    ·exact⟨_,_,_,rfl⟩
    ·cases hv
   obtain⟨p,n,c,hv⟩:=hx _ hr
   rw[hv] at hr⊢
   simp only
   refine(run_bind _ _ w (Tj he w)).trans ?_
   exact hr
  have:(execOp a.eval o).run P w=.ok (.value (.string s')) w':=by
   simp[execOp,ho,hcv,pure,Sem.run]
  rw[this];exact h
 case h_12 t l c hc=>
  unfold Qj at h
  split at h
  case h_2=>exact h.elim
  rename_i v w' hr
  split at h
  case h_2=>exact h.elim
  rename_i y hy
  have hv:v=.slice y.1 y.2.1 y.2.2:=aP (c:=.sl) hy
  have:(execOp a.eval o).run P w=.ok (.value v) w':=by
   simp[execOp,Asz hc,hr,pure,Sem.run]
  rw[this,hv];exact h
 case h_13 t x hc=>
  unfold rgV at h
  split at h
  case h_2=>exact h.elim
  rename_i s hu hx
  have:(execOp a.eval o).run P w=.ok (.value (.pointer (some ⟨w.heap.size,0,none⟩))) (w.alloc (.stringIter s 0)):=by
   simp only[execOp,As5 hc]
   refine run_bind _ _ w (a:=Value.pointer (some ⟨w.heap.size,0,none⟩)) (w':=w.alloc (.stringIter s 0)) ?_
   unfold Instr.range
   refine(run_bind _ _ w (Tj hu w)).trans ?_
   rw[hx];rfl
  rw[this];exact h
 case h_14 x hc=>
  unfold nxV at h
  split at h
  case h_2=>exact h.elim
  rename_i r sp hx
  unfold nxK at h
  split at h
  case h_2=>exact h.elim
  rename_i s pos hr
  have hg:(getObj r).run P w=.ok (.stringIter s pos) w:=by unfold getObj;simp only[Sem.run,hr]
  split at h
  ·rename_i hp
   have:(execOp a.eval o).run P w=.ok (.value (.tuple #[.bool true,.int .i64 (pos:Int),.int .i32 ((Utf8.decode s pos).1:Int)])) {w with heap:=w.heap.setIfInBounds r (.stringIter s (pos+(Utf8.decode s pos).2))}:=by
    simp only[execOp,Alv hc,hx]
    refine run_bind _ _ w (a:=Value.tuple #[.bool true,.int .i64 (pos:Int),.int .i32 ((Utf8.decode s pos).1:Int)]) ?_
    unfold Instr.next
    refine(run_bind _ _ w hg).trans ?_
    simp only[hp,if_true]
    refine run_bind _ _ w (a:=()) ?_
    unfold setObj;simp only[Sem.run,hr]
   rw[this];exact h
  ·rename_i hp
   have:(execOp a.eval o).run P w=.ok (.value (.tuple #[.bool false])) w:=by
    simp only[execOp,Alv hc,hx]
    refine run_bind _ _ w (a:=Value.tuple #[.bool false]) ?_
    unfold Instr.next
    refine(run_bind _ _ w hg).trans ?_
    simp only[hp,if_false]
    rfl
   rw[this];exact h
 case h_15 x t ok hc=>
  obtain⟨⟨xt,ho⟩,hi⟩:=Ath hc
  obtain⟨v,hk,hr⟩:=Alg ho hi h
  rw[hr w];exact hk
 case h_16 x nm args hc=>
  obtain⟨ts,ho⟩:=Ar2 hc
  unfold ivW ivK at h
  split at h
  case h_2=>exact h.elim
  rename_i t v hx
  split at h
  case h_2=>exact h.elim
  rename_i gv hm
  split at h
  case h_2=>exact h.elim
  rename_i hcal
  have hrun:(execOp a.eval o).run P w=.ok (.enter gv.1 (#[gv.2]++args.map a.eval)) w:=by
   simp only[execOp,ho,resolve,invoke,Sem.run_bind,Sem.run_pure,Result.andThen]
   simp only[callMethod,hx]
   have e2:(#[Value.iface t v]++args.map a.eval).extract 1 (#[Value.iface t v]++args.map a.eval).size=args.map a.eval:=by
    apply Array.ext';simp;exact List.take_of_length_le (by simp)
   rw[e2]
   simp only[Array.getElem?_append,Array.size_singleton]
   simp[program,bind,Sem.bind,Sem.run,Sem.run_bind',sD _ hm w,Result.andThen]
   exact Ago hcal _ w
  rw[hrun]
  unfold Ad at h
  have e:(gv.2::args.toList.map a.eval).toArray=#[gv.2]++args.map a.eval:=by apply Array.ext';simp
  rw[e] at h
  refine Calls.mono h ?_
  rintro e w' ⟨r,rfl,hk⟩
  exact hk
 case h_17 ts x hc=>
  unfold crK at h
  split at h
  case h_2=>exact h.elim
  rename_i w' hr
  have:(execOp a.eval o).run P w=.ok (.value (.tuple #[])) w':=by
   simp[execOp,Aq5 hc,resolve,invoke,builtin,hr,pure,Sem.run,bind,Sem.bind,Sem.run_bind',Result.andThen]
  rw[this];exact h
def Aj(c:Bool)(A B:Prop):Prop:=match c with|true=>A|false=>B
theorem Acp(A B:Prop):Aj true A B=A:=rfl
theorem gZ(A B:Prop):Aj false A B=B:=rfl
theorem O9(c:Bool)(A B:Prop):Aj c A B=if c=true then A else B:=by cases c<;>rfl
theorem Ao4{c:Bool}{A B A' B':Prop}(ha:c=true→A→A')(hb:c=false→B→B')(h:Aj c A B):Aj c A' B':=by
 cases c
 ·exact hb rfl h
 ·exact ha rfl h
def gdo(P:Program)(ops:Array Oper)(o:Oper)(a:Act)(yes no:Act→Prop):Prop:=
 match o.guard with
 |none=>yes a
 |some (j,want)=>match (ops[j]?).bind (·.dst) with
  |none=>no a
  |some d=>match a.tmps[d]? with
   |some (.bool c)=>
    Aj c (Aj want (yes {a with tmps:=a.tmps.setIfInBounds d (.bool true)}) (no {a with tmps:=a.tmps.setIfInBounds d (.bool true)}))
     (Aj want (no {a with tmps:=a.tmps.setIfInBounds d (.bool false)}) (yes {a with tmps:=a.tmps.setIfInBounds d (.bool false)}))
   |_=>no a
theorem qU{a:Array Value}{d:Nat}{v:Value}(h:a[d]? =some v):a.setIfInBounds d v=a:=by
 apply Array.ext_getElem?
 intro i
 rw[Array.getElem?_setIfInBounds]
 split
 ·rename_i e;subst e;split
  ·exact h.symm
  ·rename_i hn;rw[Array.getElem?_eq_none (by omega)] at h;cases h
 ·rfl
theorem kS{P:Program}{ops:Array Oper}{o:Oper}{a:Act}{yes no:Act→Prop}(h:gdo P ops o a yes no):
  (Region.wanted o (yielded ops a.tmps)=true∧yes a)∨(Region.wanted o (yielded ops a.tmps)=false∧no a):=by
 unfold gdo at h
 split at h
 ·rename_i hg;exact .inl ⟨by simp[Region.wanted,hg],h⟩
 ·rename_i j want hg
  split at h
  ·rename_i hd;exact .inr ⟨by simp[Region.wanted,hg,yielded,hd],h⟩
  ·rename_i d hd
   split at h
   ·rename_i c hc
    have hy:yielded ops a.tmps j=some c:=by simp[yielded,hd,hc]
    cases c<;>cases want<;>simp only[Aj,qU hc] at h
    ·exact .inl ⟨by simp[Region.wanted,hg,hy],h⟩
    ·exact .inr ⟨by simp[Region.wanted,hg,hy],h⟩
    ·exact .inr ⟨by simp[Region.wanted,hg,hy],h⟩
    ·exact .inl ⟨by simp[Region.wanted,hg,hy],h⟩
   ·rename_i hc
    refine .inr ⟨?_,h⟩
    have:yielded ops a.tmps j=none:=by
     unfold yielded;rw[hd];simp only[Option.bind_some]
    simp[Region.wanted,hg,this]
def qn(K:Act→World→Prop):Exit→Act→World→Prop
 | .normal,a,w=>K a w
 |_,_,_=>False
def Ru(ops:Array Oper)(j i:Nat):Bool:=(match ops[j]? with|some o=>o.after.toList.any λe=>Region.binds .any e&&e.on==i|none=>false)
def Xe(P:Program)(md:Region.Mode)(ops:Array Oper)(Q:Exit→Act→World→Prop)(C:Nat→World→World→Prop):Nat→Array Bool→Act→World→Prop
 |0,listed,a,w=>Region.ready md ops listed=[]∧Q .normal a w
 |fuel+1,listed,a,w=>
  (Region.ready md ops listed=[]→Q .normal a w)∧
  ∀i∈Region.ready md ops listed,wpOp P ops Q i (λa' w'=>C i w w'∧Xe P md ops Q C fuel (listed.setIfInBounds i true) a' w') a w
section
variable {P:Program} {ops:Array Oper} {Q:Exit→Act→World→Prop} {md:Region.Mode} {S:World→Prop} {C C':Nat→World→World→Prop}
theorem jV: ∀(fuel:Nat) (listed:Array Bool) (a:Act) (w:World),Xe P md ops Q C fuel listed a w→wpAny P md ops Q fuel listed a w
 |0,_,_,_,h=>h
 |fuel+1,_,_,_,h=>⟨h.1,λi hi=>wpOp_mono (λa' w' h'=>jV fuel _ a' w' h'.2) (h.2 i hi)⟩
theorem fU(hC: ∀j w w',C j w w'→C' j w w'): ∀(fuel:Nat) (listed:Array Bool) (a:Act) (w:World),Xe P md ops Q C fuel listed a w→Xe P md ops Q C' fuel listed a w
 |0,_,_,_,h=>h
 |fuel+1,_,_,_,h=>⟨h.1,λi hi=>wpOp_mono (λa' w' h'=>⟨hC _ _ _ h'.1,fU hC fuel _ a' w' h'.2⟩) (h.2 i hi)⟩
theorem cZ{i:Nat}{oi:Oper}{v:Value}(hi:ops[i]? =some oi)(hsel: ∀(j:Nat) (o:Oper) cs b,ops[j]? =some o→o.op≠ .select cs b)
  (hQ: ∀c a w,Q (.panic c) (a.put oi.dst v) w→Q (.panic c) a w)
  (hC: ∀j oj w w',ops[j]? =some oj→(∀e∈oj.after,Region.binds md e=true→e.on≠i)→C j w w'→S w→S w') (hCi: ∀w,C i w w):
  ∀(fuel:Nat) (listed:Array Bool) (a:Act) (w:World),
    (∀j oj,ops[j]? =some oj→j≠i→listed.getD j true=false→(∀e∈oj.after,Region.binds md e=true→e.on≠i)→oi.apart ops oj=true)→
    i∈Region.ready md ops listed→YieldsIf P ops S oi v a→S w→
    Xe P md ops Q C fuel (listed.setIfInBounds i true) (a.put oi.dst v) w→Xe P md ops Q C (fuel+1) listed a w:=by
 intro fuel
 induction fuel with
 |zero=>
  intro listed a w _ hr hy hS H
  refine⟨λh=>(by rw[h] at hr;cases hr),λj hj=>?_⟩
  by_cases hji:j=i
  ·subst hji;exact hy.wpOp hi hS ⟨hCi w,H⟩
  ·have:=ready_mono hj hji
   rw[H.1] at this
   cases this
 |succ fuel ih=>
  intro listed a w hfree hr hy hS H
  refine⟨λh=>(by rw[h] at hr;cases hr),λj hj=>?_⟩
  by_cases hji:j=i
  ·subst hji;exact hy.wpOp hi hS ⟨hCi w,H⟩
  ·have h1:=H.2 j (ready_mono hj hji)
   obtain⟨hjun,oj,hoj,hall⟩:=mem_ready.1 hj
   have hnot: ∀e∈oj.after,Region.binds md e=true→e.on≠i:=λe he hb heq=>by
    have h1:=hall e he hb
    have h0:=(mem_ready.1 hr).1
    rw[heq] at h1
    rcases Nat.lt_or_ge i listed.size with h'|h'
    ·simp[h'] at h0 h1;rw[h0] at h1;cases h1
    ·simp[Array.getElem?_eq_none h'] at h1
   have h2:=wpOp_putIf hoj (hfree j oj hoj hji hjun hnot) (λcs b=>hsel i oi cs b hi) (λcs b=>hsel j oj cs b hoj) hQ hy h1
   have hfree': ∀k ok,ops[k]? =some ok→k≠i→(listed.setIfInBounds j true).getD k true=false→
     (∀e∈ok.after,Region.binds md e=true→e.on≠i)→oi.apart ops ok=true:=λk ok hk hki hun hno=>by
    refine hfree k ok hk hki ?_ hno
    by_cases hjk:j=k
    ·subst hjk;exact hjun
    ·rw[getD_set_ne true hjk] at hun;exact hun
   refine wpOp_mono (λa' w' h3=>⟨h3.2.1,?_⟩) h2
   refine ih (listed.setIfInBounds j true) a' w' hfree' (ready_mono hr (Ne.symm hji)) h3.1 (hC j oj w w' hoj hnot h3.2.1 hS) ?_
   rw[Array.setIfInBounds_comm _ _ hji]
   exact h3.2.2
end
abbrev Ent:=Nat×Addr×Value
def Ak:List Ent→World→Prop
 |[],_=>True
 |x::S,w=>w.cell? x.2.1=some x.2.2∧Ak S w
theorem fQ{S:List Ent}{w:World}:Ak S w↔ ∀x∈S,w.cell? x.2.1=some x.2.2:=by
 induction S with
 |nil=>simp[Ak]
 |cons x S ih=>simp[Ak,ih]
def CC(ops:Array Oper)(S:List Ent)(D:List Nat)(j:Nat)(w w':World):Prop:=
 w'=w∨((∀x∈S,Ru ops j x.1=true∨(w.cell? x.2.1=some x.2.2→w'.cell? x.2.1=some x.2.2))∧ ∀i∈D,Ru ops j i=true)
def aG(P:Program)(i:Nat)(op:Op)(a:Act)(w:World):List Ent:=
 match eQ P op with
 | .ld t x=>(bZ P t (a.eval x)).map λp=>(i,p,(w.cell? p).getD undef)
 |_=>[]
def tko(P:Program)(o:Oper)(a:Act)(w:World)(k:Value→Prop):Prop:=
 match eQ P o.op with
 | .pu=>rF P o a.eval k
 | .ld t x=>ldW P t (a.eval x) w k
 |_=>False
def Acl(ops:Array Oper)(listed:Array Bool)(i:Nat):Bool:=Region.free .any ops listed i&&(Region.ready .any ops listed).contains i
inductive Pl where
 |z|tk (i:Nat) (p:Pl)|ef (i:Nat) (drop:List Nat) (p:Pl)|two (i j:Nat) (p q:Pl)|thr (i j k:Nat) (p q r:Pl)
def Pl.depth:Pl→Nat
 | .z=>0| .tk _ p=>p.depth+1| .ef _ _ p=>p.depth+1| .two _ _ p q=>Nat.max p.depth q.depth+1| .thr _ _ _ p q r=>Nat.max p.depth (Nat.max q.depth r.depth)+1
def pd(P:Program)(ops:Array Oper)(K:Act→World→Prop):Pl→Array Bool→List Ent→List Nat→Act→World→Prop
 | .z,listed,_,_,a,w=>if Region.ready .any ops listed=[] then K a w else False
 | .tk i p,listed,S,D,a,w=>
  match ops[i]? with
  |none=>False
  |some o=>
   if Acl ops listed i=true then
    gdo P ops o a (λa=>tko P o a w λv=>pd P ops K p (listed.setIfInBounds i true) (aG P i o.op a w++S) D (a.put o.dst v) w)
     (λa=>pd P ops K p (listed.setIfInBounds i true) S D (a.put o.dst undef) w)
   else False
 | .ef i drop p,listed,S,D,a,w=>
  match ops[i]? with
  |none=>False
  |some o=>
   if Region.ready .any ops listed=[i]∧(D.all (Ru ops i))=true∧(drop.all (Ru ops i))=true then
    gdo P ops o a (λa=>Ui P o a w λa' w'=>Ak (S.filter λx=>!drop.contains x.1) w'∧
      pd P ops K p (listed.setIfInBounds i true) (S.filter λx=>!drop.contains x.1) (D++drop) a' w')
     (λa=>pd P ops K p (listed.setIfInBounds i true) S D (a.put o.dst undef) w)
   else False
 | .two i j p q,listed,S,D,a,w=>
  match ops[i]?,ops[j]? with
  |some oi,some oj=>
   if Region.ready .any ops listed=[i,j]∧D=[] then
    gdo P ops oi a (λa=>Ui P oi a w λa' w'=>Ak S w'∧pd P ops K p (listed.setIfInBounds i true) S [] a' w')
     (λa=>pd P ops K p (listed.setIfInBounds i true) S [] (a.put oi.dst undef) w)∧
    gdo P ops oj a (λa=>Ui P oj a w λa' w'=>Ak S w'∧pd P ops K q (listed.setIfInBounds j true) S [] a' w')
     (λa=>pd P ops K q (listed.setIfInBounds j true) S [] (a.put oj.dst undef) w)
   else False
  |_,_=>False
 | .thr i j k p q r,listed,S,D,a,w=>
  match ops[i]?,ops[j]?,ops[k]? with
  |some oi,some oj,some ok=>
   if Region.ready .any ops listed=[i,j,k]∧D=[] then
    gdo P ops oi a (λa=>Ui P oi a w λa' w'=>Ak S w'∧pd P ops K p (listed.setIfInBounds i true) S [] a' w')
     (λa=>pd P ops K p (listed.setIfInBounds i true) S [] (a.put oi.dst undef) w)∧
    gdo P ops oj a (λa=>Ui P oj a w λa' w'=>Ak S w'∧pd P ops K q (listed.setIfInBounds j true) S [] a' w')
     (λa=>pd P ops K q (listed.setIfInBounds j true) S [] (a.put oj.dst undef) w)∧
    gdo P ops ok a (λa=>Ui P ok a w λa' w'=>Ak S w'∧pd P ops K r (listed.setIfInBounds k true) S [] a' w')
     (λa=>pd P ops K r (listed.setIfInBounds k true) S [] (a.put ok.dst undef) w)
   else False
  |_,_,_=>False
theorem Aas: ∀(cs:List CK) (p:Addr) (i:Nat) (w:World) (k:Ky cs→Prop),Bc cs p i w k→ ∀j,j<cs.length→ ∃v,w.cell? (p.add (i+j))=some v
 |[],_,_,_,_,_=>λj hj=>by simp at hj
 |c::cs,p,i,w,k,h=>λj hj=>by
  unfold Bc at h
  split at h
  ·rename_i x hx
   obtain⟨v,hv,_⟩:=Option.bind_eq_some_iff.1 hx
   cases j with
   |zero=>exact⟨v,hv⟩
   |succ j=>rw[show i+(j+1)=i+1+j by omega];exact Aas cs p (i+1) w _ h j (by simp at hj;omega)
  ·exact h.elim
theorem Ama{P:Program}{t:TypeId}{a:Value}{w:World}{k:Value→Prop}(h:ldW P t a w k): ∀p∈bZ P t a,∃v,w.cell? p=some v:=by
 unfold ldW at h
 split at h
 case h_2=>exact h.elim
 rename_i p
 intro q hq
 by_cases ha:Wx P t=true
 ·simp only[ha,if_true] at h
  split at h
  case isFalse=>exact h.elim
  simp only[bZ,ha,if_true,List.mem_map,List.mem_range] at hq
  obtain⟨j,hj,rfl⟩:=hq
  have:=Aas _ _ _ _ _ h j hj
  rwa [Nat.zero_add] at this
 ·rw[if_neg ha] at h
  simp only[bZ,ha,Bool.false_eq_true,if_false,List.mem_singleton] at hq
  subst hq
  split at h
  case h_2=>exact h.elim
  unfold ld1 at h
  split at h
  case h_2=>exact h.elim
  rename_i x hx
  obtain⟨v,hv,_⟩:=Option.bind_eq_some_iff.1 hx
  exact⟨v,hv⟩
theorem Ah2{ops:Array Oper}{j i:Nat}{oj:Oper}(hj:ops[j]? =some oj)(h: ∀e∈oj.after,Region.binds .any e=true→e.on≠i):Ru ops j i=false:=by
 unfold Ru
 rw[hj]
 simp only[List.any_eq_false,Array.mem_toList_iff,Bool.and_eq_true,beq_iff_eq,not_and]
 exact λe he hb=>h e he hb
theorem Amb{P:Program}{ops:Array Oper}{K:Act→World→Prop}{p:Pl}{i fuel:Nat}{o:Oper}{listed:Array Bool}{S:List Ent}{D drop:List Nat}{a:Act}{w:World}(ho:ops[i]? =some o)
  (hD:(D.all (Ru ops i))=true) (hdrop:(drop.all (Ru ops i))=true) (hS:Ak S w)
  (ih: ∀(S:List Ent) (D:List Nat) (a:Act) (w:World),Ak S w→pd P ops K p (listed.setIfInBounds i true) S D a w→Xe P .any ops (qn K) (CC ops S D) fuel (listed.setIfInBounds i true) a w)
  (h:gdo P ops o a (λa=>Ui P o a w λa' w'=>Ak (S.filter λx=>!drop.contains x.1) w'∧pd P ops K p (listed.setIfInBounds i true) (S.filter λx=>!drop.contains x.1) (D++drop) a' w')
   (λa=>pd P ops K p (listed.setIfInBounds i true) S D (a.put o.dst undef) w)):
  wpOp P ops (qn K) i (λa' w'=>CC ops S D i w w'∧Xe P .any ops (qn K) (CC ops S D) fuel (listed.setIfInBounds i true) a' w') a w:=by
 rw[List.all_eq_true] at hD hdrop
 unfold wpOp
 simp only[ho]
 rcases kS h with ⟨hw,h⟩|⟨hw,h⟩
 ·simp only[hw,if_true]
  refine .inl (Oper.wp_mono ?_ (xP h))
  rintro a' w' ⟨hH,hpd⟩
  have ih:=ih _ _ a' w' hH hpd
  refine⟨.inr ⟨λx hx=>?_,hD⟩,fU ?_ _ _ _ _ ih⟩
  ·by_cases hwx:drop.contains x.1=true
   ·exact .inl (hdrop x.1 (by simpa using hwx))
   ·refine .inr λ_=>(fQ.1 hH) x (List.mem_filter.2 ⟨hx,by simpa using hwx⟩)
  ·rintro k w1 w2 (rfl|⟨h1,h2⟩)
   ·exact .inl rfl
   ·refine .inr ⟨λx hx=>?_,λy hy=>h2 y (List.mem_append.2 (.inl hy))⟩
    by_cases hwx:drop.contains x.1=true
    ·exact .inl (h2 x.1 (List.mem_append.2 (.inr (by simpa using hwx))))
    ·exact h1 x (List.mem_filter.2 ⟨hx,by simpa using hwx⟩)
 ·simp only[hw,Bool.false_eq_true,if_false]
  exact⟨.inl rfl,ih _ _ _ w hS h⟩
theorem uP{P:Program}{ops:Array Oper}{K:Act→World→Prop}{p:Pl}{i fuel:Nat}{o:Oper}{listed:Array Bool}{S:List Ent}{a:Act}{w:World}(ho:ops[i]? =some o)(hS:Ak S w)
  (ih: ∀(S:List Ent) (D:List Nat) (a:Act) (w:World),Ak S w→pd P ops K p (listed.setIfInBounds i true) S D a w→Xe P .any ops (qn K) (CC ops S D) fuel (listed.setIfInBounds i true) a w)
  (h:gdo P ops o a (λa=>Ui P o a w λa' w'=>Ak S w'∧pd P ops K p (listed.setIfInBounds i true) S [] a' w') (λa=>pd P ops K p (listed.setIfInBounds i true) S [] (a.put o.dst undef) w)):
  wpOp P ops (qn K) i (λa' w'=>CC ops S [] i w w'∧Xe P .any ops (qn K) (CC ops S []) fuel (listed.setIfInBounds i true) a' w') a w:=by
 have e:(S.filter λx=>!(([]:List Nat).contains x.1))=S:=by simp
 exact Amb (D:=[]) (drop:=[]) ho rfl rfl hS ih (by simp only[e,List.append_nil];exact h)
theorem Sr{P:Program}{ops:Array Oper}{K:Act→World→Prop}(hs:Region.noSelect ops=true): ∀(plan:Pl) (fuel:Nat) (listed:Array Bool) (S:List Ent) (D:List Nat) (a:Act) (w:World),
  plan.depth≤fuel→Ak S w→pd P ops K plan listed S D a w→Xe P .any ops (qn K) (CC ops S D) fuel listed a w
 | .z,fuel,listed,S,D,a,w,_,_,h=>by
  unfold pd at h
  split at h
  case isFalse=>exact h.elim
  rename_i hr
  cases fuel with
  |zero=>exact⟨hr,h⟩
  |succ n=>exact⟨λ_=>h,by rw[hr];simp⟩
 | .two i j p q,fuel,listed,S,D,a,w,hf,hS,h=>by
  obtain⟨fuel,rfl⟩: ∃n,fuel=n+1:=⟨fuel-1,by simp[Pl.depth] at hf;omega⟩
  have hp:p.depth≤fuel:=by simp only[Pl.depth,Nat.max_def] at hf;split at hf<;>omega
  have hq:q.depth≤fuel:=by simp only[Pl.depth,Nat.max_def] at hf;split at hf<;>omega
  unfold pd at h
  split at h
  case h_2=>exact h.elim
  rename_i oi oj hoi hoj
  split at h
  case isFalse=>exact h.elim
  rename_i hc
  obtain⟨hready,rfl⟩:=hc
  refine⟨λh0=>(by rw[hready] at h0;cases h0),λk hk=>?_⟩
  rw[hready] at hk
  simp only[List.mem_cons,List.not_mem_nil,or_false] at hk
  rcases hk with rfl|rfl
  ·exact uP hoi hS (λS D a w hS h=>Sr hs p fuel _ S D a w hp hS h) h.1
  ·exact uP hoj hS (λS D a w hS h=>Sr hs q fuel _ S D a w hq hS h) h.2
 | .thr i j k p q r,fuel,listed,S,D,a,w,hf,hS,h=>by
  obtain⟨fuel,rfl⟩: ∃n,fuel=n+1:=⟨fuel-1,by simp[Pl.depth] at hf;omega⟩
  have hh:Nat.max p.depth (Nat.max q.depth r.depth)≤fuel:=by simp only[Pl.depth] at hf;omega
  have hp:p.depth≤fuel:=Nat.le_trans (Nat.le_max_left _ _) hh
  have hqr:Nat.max q.depth r.depth≤fuel:=Nat.le_trans (Nat.le_max_right _ _) hh
  have hq:q.depth≤fuel:=Nat.le_trans (Nat.le_max_left _ _) hqr
  have hr:r.depth≤fuel:=Nat.le_trans (Nat.le_max_right _ _) hqr
  unfold pd at h
  split at h
  case h_2=>exact h.elim
  rename_i oi oj ok hoi hoj hok
  split at h
  case isFalse=>exact h.elim
  rename_i hc
  obtain⟨hready,rfl⟩:=hc
  refine⟨λh0=>(by rw[hready] at h0;cases h0),λk hk=>?_⟩
  rw[hready] at hk
  simp only[List.mem_cons,List.not_mem_nil,or_false] at hk
  rcases hk with rfl|rfl|rfl
  ·exact uP hoi hS (λS D a w hS h=>Sr hs p fuel _ S D a w hp hS h) h.1
  ·exact uP hoj hS (λS D a w hS h=>Sr hs q fuel _ S D a w hq hS h) h.2.1
  ·exact uP hok hS (λS D a w hS h=>Sr hs r fuel _ S D a w hr hS h) h.2.2
 | .ef i drop p,fuel,listed,S,D,a,w,hf,hS,h=>by
  obtain⟨fuel,rfl⟩: ∃n,fuel=n+1:=⟨fuel-1,by simp[Pl.depth] at hf;omega⟩
  have hf':p.depth≤fuel:=by simp[Pl.depth] at hf;exact hf
  unfold pd at h
  split at h
  case h_1=>exact h.elim
  rename_i o ho
  split at h
  case isFalse=>exact h.elim
  rename_i hc
  obtain⟨hready,hD,hdrop⟩:=hc
  refine⟨λh0=>(by rw[hready] at h0;cases h0),λk hk=>?_⟩
  rw[hready,List.mem_singleton] at hk
  subst hk
  exact Amb ho hD hdrop hS (λS D a w hS h=>Sr hs p fuel _ S D a w hf' hS h) h
 | .tk i p,fuel,listed,S,D,a,w,hf,hS,h=>by
  obtain⟨fuel,rfl⟩: ∃n,fuel=n+1:=⟨fuel-1,by simp[Pl.depth] at hf;omega⟩
  have hf':p.depth≤fuel:=by simp[Pl.depth] at hf;exact hf
  unfold pd at h
  split at h
  case h_1=>exact h.elim
  rename_i o ho
  have hsel:=Region.noSelect_spec hs
  split at h
  case isFalse=>exact h.elim
  rename_i hok
  unfold Acl at hok
  simp only[Bool.and_eq_true] at hok
  obtain⟨hfree,hready⟩:=hok
  have hfr:=Region.free_spec ho hfree
  have hrd:i∈Region.ready .any ops listed:=by simpa using hready
  have hQ: ∀(v:Value) c (a:Act) w,qn K (.panic c) (a.put o.dst v) w→qn K (.panic c) a w:=λv c a w h=>h
  rcases kS h with ⟨hw,h⟩|⟨hw,h⟩
  ·unfold tko at h
   split at h
   ·obtain⟨v,hk,hr⟩:=uA h
    have hnil:aG P i o.op a w=[]:=by unfold aG;rename_i hc;rw[hc]
    rw[hnil,List.nil_append] at hk
    refine cZ (S:=λ_=>True) ho hsel (hQ v) (λ_ _ _ _ _ _ _ _=>trivial) (λw=>.inl rfl) fuel listed a w hfr hrd (.inl ⟨hw,λw _=>hr w⟩) trivial ?_
    exact Sr hs p fuel _ S D _ w hf' hS hk
   ·rename_i t x hc
    obtain⟨v,hk,hr⟩:=tN h
    have hcells:=Ama h
    have hE:Ak (aG P i o.op a w) w:=by
     rw[fQ];intro y hy
     unfold aG at hy;rw[hc] at hy
     obtain⟨p,hp,rfl⟩:=List.mem_map.1 hy
     obtain⟨u,hu⟩:=hcells p hp
     simp[hu]
    have hES:Ak (aG P i o.op a w++S) w:=by
     rw[fQ] at*;intro y hy
     rcases List.mem_append.1 hy with hy|hy
     ·exact hE y hy
     ·exact hS y hy
    have ih:=Sr hs p fuel _ _ D _ w hf' hES hk
    have key:Xe P .any ops (qn K) (CC ops (aG P i o.op a w++S) D) (fuel+1) listed a w:=by
     refine cZ (S:=Ak (aG P i o.op a w)) ho hsel (hQ v) ?_ (λw=>.inl rfl) fuel listed a w hfr hrd (.inl ⟨hw,λw' hw'=>?_⟩) hE ih
     ·intro j oj w1 w2 hj hno hC h1
      rcases hC with rfl|⟨hC,_⟩
      ·exact h1
      ·rw[fQ] at*
       intro y hy
       have hyi:y.1=i:=by
        unfold aG at hy;rw[hc] at hy
        obtain⟨p,hp,rfl⟩:=List.mem_map.1 hy;rfl
       rcases hC y (List.mem_append.2 (.inl hy)) with h|h
       ·rw[hyi,Ah2 hj hno] at h;cases h
       ·exact h (h1 y hy)
     ·have:=hr w' (λp hp=>by
       obtain⟨u,hu⟩:=hcells p hp
       have:=(fQ.1 hw') (i,p,(w.cell? p).getD undef) (by unfold aG;rw[hc];exact List.mem_map.2 ⟨p,hp,rfl⟩)
       simp only[hu,Option.getD_some] at this
       rw[this,hu])
      simp[execOp,Ajv hc,this,pure,Sem.run]
    refine fU ?_ _ _ _ _ key
    rintro j w1 w2 (rfl|⟨h1,h2⟩)
    ·exact .inl rfl
    ·exact .inr ⟨λx hx=>h1 x (List.mem_append.2 (.inr hx)),h2⟩
   ·exact h.elim
  ·refine cZ (S:=λ_=>True) ho hsel (hQ undef) (λ_ _ _ _ _ _ _ _=>trivial) (λw=>.inl rfl) fuel listed a w hfr hrd (.inr ⟨hw,rfl⟩) trivial ?_
   exact Sr hs p fuel _ S D _ w hf' hS h
end Go.Eng
