import Derived.Test.YtppeepkmnijdpaaGreatDoorEngA
import Derived.RangeFuncNested
import Derived.RangeFuncLeaves
import Derived.TacticsIn
import Derived.OrdersIn
namespace Go.Eng
open Go Go.RowKit
set_option linter.unusedSimpArgs false
set_option linter.unusedVariables false
def FW(ro:Option Nat):Fence:={fn:=λ_=>True,depth:=none,alive:=false,round:=ro}
theorem Aj5(ro:Option Nat)(n:Nat):(FW ro).room n:=λ_ h=>by simp[FW] at h
theorem oG{ro:Option Nat}{n:Nat}{P:Program}{f:FuncId}{args:Array Value}{w:World}{R:Ending→World→Prop}:CallsIn (FW ro) n P f args w R↔Calls P f args w R:=
 callsIn_wide (n:=n)
theorem Avy{ro:Option Nat}{n:Nat}{P:Program}{row:String}{args:Array Value}{w:World}{R:Value→World→Prop}(h:Rows P row args w R):RowsIn (FW ro) n P row args w R:=
 λc cs _=>let ⟨v,w',r,s⟩:=h c cs;⟨v,w',r,stepsIn_wide.2 s⟩
theorem Als{r r':Option Nat}{n m:Nat}{P:Program}{l:Nat}{f:FuncId}{tmps:Array Value}{assign body:Code}{w:World}{R:Ending→World→Prop}(h:RoundIn (FW r) n P l f tmps assign body w R):RoundIn (FW r') m P l f tmps assign body w R:=
 ⟨trivial,λc cs _=>h.2 c cs (Aj5 r _)⟩
theorem wpW{ro:Option Nat}{n m:Nat}{P:Program}{c:Code}{Q:Exit→Act→World→Prop}{a:Act}{w:World}(h:c.wpIn (FW ro) n P Q a w):c.wpIn (FW ro) m P Q a w:=
 λb k cs hro hb _=>h b k cs hro hb (Aj5 ro _)
theorem zI{ro:Option Nat}{n:Nat}{P:Program}{o:Oper}{a:Act}{w:World}{K:Act→World→Prop}{Q:Exit→Act→World→Prop}(h:o.wp P a w K Q)(hd: ∀c,o.op≠ .defer c):o.wpIn (FW ro) n P a w K Q:=by
 unfold Oper.wp at h
 refine⟨λ_ _=>trivial,?_⟩
 rw[Oper.semAt_eq _ _ _ hd]
 generalize (execOp a.eval o).run P w=r at*
 cases r with
 |ok nx w'=>
  cases nx<;>simp only[Oper.upon,Oper.uponIn] at h⊢ <;>first
   |exact h
   |exact⟨λe=>(by cases e),oG.2 h⟩
   |exact⟨λe=>(by cases e),Avy h⟩
   |exact h.elim
 |halt x w'=>cases x<;>simp only[Oper.upon,Oper.uponIn] at h⊢ <;>first|exact h|exact h.elim
theorem Aax{P:Program}{o:Oper}{a:Act}{w:World}{K:Act→World→Prop}(h:Ui P o a w K): ∀c,o.op≠ .defer c:=by
 intro c hc
 unfold Ui at h
 have hcl:eQ P o.op=.ef:=by rw[hc];rfl
 rw[hcl] at h
 simp only[efW,execOp,hc] at h
 rw[Sem.run_bind] at h
 cases hr:(resolve a.eval c o.type).run P w<;>rw[hr] at h<;>simp[Result.andThen,Sem.run,pure] at h
theorem Ald{ro:Option Nat}{n:Nat}{P:Program}{o:Oper}{a:Act}{w:World}{K:Act→World→Prop}{Q:Exit→Act→World→Prop}(h:Ui P o a w K):o.wpIn (FW ro) n P a w K Q:=
 zI (xP h) (Aax h)
def yiS(P:Program)(l:Nat)(args:List Value)(w:World)(k:Bool→World→Prop):Prop:=
 YieldAt (FW none) 0 P l args.toArray w λe w'=> ∃b,e=.returned (.bool b)∧k b w'
def Aku(P:Program)(o:Oper)(a:Act)(w:World)(K:Act→World→Prop):Prop:=
 match eQ P o.op with
 | .cl f args=>(match a.eval f with
  | .func (.yield l) fi ca=>if fi.size=0∧ca.size=0 then yiS P l (args.toList.map a.eval) w λb w'=>K (a.put o.dst (.bool b)) w' else False
  |_=>Ui P o a w K)
 |_=>Ui P o a w K
def fF(P:Program)(ops:Array Oper)(K:Act→World→Prop):List Oper→Act→World→Prop
 |[],a,w=>K a w
 |o::rest,a,w=>gdo P ops o a (λa=>Aku P o a w (fF P ops K rest)) (λa=>fF P ops K rest (a.put o.dst undef) w)
def Zt:List Oper→Bool
 |[]=>true
 |o::l=>(match o.op with| .defer _=>false|_=>true)&&Zt l
def bV(P:Program)(g:FuncId)(args:List Value)(w:World)(tup:Bool)(rs:List (Bool×List CK))(k:TR rs→World→Prop)(kp:Value→World→Prop):Prop:=
 Calls P g args.toArray w λe w'=>(∃r:TR rs,e=.returned (encR tup rs r)∧k r w')∨ ∃v,e=.panicked [{v,recovered:=false}]∧kp v w'
def paX(v:Value):Exit:=.panic [{v,recovered:=false}]
def Agr(P:Program)(o:Oper)(a:Act)(w:World)(K:Act→World→Prop)(Q:Exit→Act→World→Prop):Prop:=
 match eQ P o.op with
 | .cl f args=>(match a.eval f with
  | .func (.func g) fi ca=>if callable P g=true then bV P g (fi.toList++args.toList.map a.eval++ca.toList) w (oU P o.type) (Abr P o.type) (λr w'=>K (a.put o.dst (encR (oU P o.type) (Abr P o.type) r)) w') (λv w'=>Q (paX v) a w') else False
  |_=>False)
 | .pa=>(match (execOp a.eval o).run P w with| .halt (.panic v) w'=>Q (paX v) a w'|_=>False)
 | .ef=>(match o.op with
  | .defer _=>(match (execOp a.eval o).run P w with| .ok (.defer d) w'=>K (({a with defers:=d::a.defers}:Act).put o.dst undef) w'|_=>False)
  |_=>Ui P o a w K)
 |_=>Ui P o a w K
def jA(P:Program)(ops:Array Oper)(K:Act→World→Prop)(Q:Exit→Act→World→Prop):List Oper→Act→World→Prop
 |[],a,w=>K a w
 |o::rest,a,w=>gdo P ops o a (λa=>Agr P o a w (jA P ops K Q rest) Q) (λa=>jA P ops K Q rest (a.put o.dst undef) w)
def Aw{α:Type}(B:(α→World→Prop)→α→World→Prop)(x0:α)(w0:World):Prop:=
 ∃(I:α→World→Prop) (m:α→World→Nat),I x0 w0∧ ∀x w,I x w→B (λx' w'=>I x' w'∧m x' w'<m x w) x w
def Bh{α:Type}(A:(α→World→Prop)→Prop)(B:α→World→Prop):Prop:= ∃J:α→World→Prop,A J∧ ∀x w,J x w→B x w
inductive Hn where
 |n|s (l r:Hn)|ct (L:List (Nat×CK)) (l r:Hn)|lp (L:List (Nat×CK)) (b:Hn)|pl (plan:Pl)|py (m:Nat) (plan:Pl)|pz|rf (rs:List (Bool×List CK)) (l r:Hn)
def Hn.l:Hn→Hn| .s l _=>l| .ct _ l _=>l| .lp _ b=>b| .rf _ l _=>l|_=>.n
def Hn.r:Hn→Hn| .s _ r=>r| .ct _ _ r=>r| .rf _ _ r=>r|_=>.n
def Hn.rs:Hn→List (Bool×List CK)| .rf rs _ _=>rs|_=>[]
def Hn.slots:Hn→List (Nat×CK)| .lp L _=>L| .ct L _ _=>L|_=>[]
def Hn.plan:Hn→Pl| .pl p=>p| .py _ p=>p|_=>.z
def Hn.Aw5:Hn→Bool| .ct _ _ _=>true|_=>false
def Hn.isY:Hn→Bool| .py _ _=>true|_=>false
def Hn.isZ:Hn→Bool| .pz=>true|_=>false
def Hn.m:Hn→Nat| .py m _=>m|_=>0
def Ae0(ops:Array Oper)(m:Nat):Bool:=
 decide (m<ops.size)&&((List.range m).all λj=>(List.range (m+1)).any λi=>decide (j<i)&&Ru ops i j)&&
 ((List.range ops.size).all λi=>decide (i≤m)||Ru ops i (i-1))&&
 (ops.toList.all λo=>o.after.toList.all λe=>!Region.binds .any e||decide (e.on<ops.size))&&
 (List.range ops.size).all λi=>(List.range ops.size).all λj=>!Ru ops i j||decide (j<i)
def Acg(m:Nat):Nat→List Bool→List Bool
 |_,[]=>[]
 |i,b::l=>(b||decide (m≤i))::Acg m (i+1) l
def ups(m:Nat)(listed:Array Bool):Array Bool:=(Acg m 0 listed.toList).toArray
def xU(P:Program)(ops:Array Oper)(m:Nat)(K:Act→World→Prop)(a:Act)(w:World):Prop:=fF P ops K (ops.toList.drop m) a w
@[reducible] def TvL:List (Nat×CK)→Type
 |[]=>Unit
 |c::L=>Tv c.2×TvL L
def Aes:(L:List (Nat×CK))→Array Value→Option (TvL L)
 |[],_=>some ()
 |c::L,t=>match (t[c.1]?).bind (dec c.2),Aes L t with
  |some x,some xs=>some (x,xs)
  |_,_=>none
def vF(d:Nat→Value):List Nat→Array Value→Array Value
 |[],t=>t
 |i::l,t=>vF d l (t.setIfInBounds i (d i))
def yZ:(L:List (Nat×CK))→TvL L→Array Value→Array Value
 |[],_,t=>t
 |c::L,x,t=>yZ L x.2 (t.setIfInBounds c.1 (enc c.2 x.1))
def Ael(a:Act)(mods:List Nat)(d:Nat→Value)(L:List (Nat×CK))(x:TvL L):Act:={a with tmps:=yZ L x (vF d mods a.tmps)}
def onL(L:List (Nat×CK))(a:Act)(k:TvL L→Prop):Prop:=match Aes L a.tmps with|some x=>k x|none=>False
def Zi(ops:List Oper):List Nat:=ops.filterMap (·.dst)
def Yo:Code→List Nat
 | .region _ ops _=>Zi ops.toList
 | .seq x y=>Yo x++Yo y
 | .cond _ x y=>Yo x++Yo y
 | .block _ c=>Yo c
 | .loop c=>Yo c
 |_=>[]
def qF(L:List (Nat×CK))(m:List Nat):Bool:=L.all λc=>m.contains c.1
def Vm:Code→Bool
 | .seq x y=>Vm x&&Vm y
 | .cond _ x y=>Vm x&&Vm y
 | .block _ c=>Vm c
 | .loop c=>Vm c
 | .rangeFunc _ _ _ _=>false
 | .region _ ops _=>Zt ops.toList
 |_=>true
def exN:Exit→Option Nat| .ret=>some 0| .exit i=>some (i+1)|_=>none
def unN:Nat→Exit|0=>.ret|i+1=>.exit i
def exJ:Code→List Nat
 | .ret=>[0]
 | .exit i=>[i+1]
 | .seq x y=>exJ x++exJ y
 | .cond _ x y=>exJ x++exJ y
 | .block i c=>(exJ c).filter λj=>!(j==i+1)
 | .loop c=>exJ c
 |_=>[]
def exD:List Nat→List Nat
 |[]=>[]
 |x::l=>if(exD l).contains x=true then exD l else x::exD l
def lvK(l:List Nat)(lv:Nat→World→Prop)(e:Exit)(w:World):Prop:=
 match exN e with
 |some i=>if l.contains i=true then lv i w else False
 |none=>False
def Abm(D:Nat):Deferred:={target:=.collected D,args:=#[]}
def zO:List Tmp→List Value→Array Value→Array Value
 |[],_,t=>t
 |_,[],t=>t
 |p::ps,v::vs,t=>zO ps vs (t.setIfInBounds p v)
structure Turn(B:Nat)(w w':World):Prop where
 os:w'.os=w.os
 tape:w'.tape=w.tape
 output:w'.output=w.output
 size:w.heap.size≤w'.heap.size
 block: ∀k o,w.heap[k]? =some o→(k<B∨o.isCells=true)→w'.heap[k]? =some o
theorem Turn.refl(B:Nat)(w:World):Turn B w w:=⟨rfl,rfl,rfl,Nat.le_refl _,λ_ _ h _=>h⟩
theorem Turn.trans{B:Nat}{a b c:World}(h:Turn B a b)(k:Turn B b c):Turn B a c:=
 ⟨k.os.trans h.os,k.tape.trans h.tape,k.output.trans h.output,Nat.le_trans h.size k.size,λi o hi ho=>k.block i o (h.block i o hi ho) ho⟩
structure Rnd(B:Nat)(M:Nat→Prop)(w w':World):Prop where
 os:w'.os=w.os
 tape:w'.tape=w.tape
 output:w'.output=w.output
 size:w.heap.size≤w'.heap.size
 low: ∀k o,k<B→ ¬M k→w.heap[k]? =some o→w'.heap[k]? =some o
 high: ∀k o,B≤k→w.heap[k]? =some o→o.isCells=false→w'.heap[k]? =some o
def uZ(B:Nat)(M:Nat→Prop)(w w':World):Prop:= ∀k o,k<B→ ¬M k→w.heap[k]? =some o→w'.heap[k]? =some o
def ItS(P:Program)(gv:Value)(rs:List (Bool×List CK))(V:TR rs→Prop)(xs:List (TR rs))(M:Nat→Prop)(w:World):Prop:=
 match gv with
 | .func (.func gf) fi lb=>fi=#[]∧callable P gf=true∧SeqStopsK (α:={x:TR rs//V x}) (FW none) 2 P gf lb (λx=>(dP rs x.1).toArray) (uZ w.heap.size M) (λys=>ys.map (·.1)=xs) (λys=>ys.map (·.1)<+:xs) xs.length w
 |_=>False
def Mark(w:World)(D:Nat):Prop:=w.heap[D]? =some (.deferred (some []))
def RfT(P:Program)(gv:Value)(rs:List (Bool×List CK))(w:World)
  (rnd:TR rs→(World→((World→Prop)→(Nat→World→Prop)→World→Prop)→Prop)→World→Prop)
  (done:Nat→World→Prop) (stops:List (Nat×(Nat→World→Prop))):Prop:=
 ∃(V:TR rs→Prop) (xs:List (TR rs)) (M:Nat→Prop) (I:List (TR rs)→World→Prop) (Ix:Nat→List (TR rs)→World→Prop),
   ItS P gv rs V xs M w∧
   (∀W,Turn w.heap.size w W→I [] W)∧
   (∀x W,V x→w.heap.size≤W.heap.size→rnd x (λW1 body=>Turn w.heap.size W W1∧(∀(k:Nat) (o:Obj),W.heap[k]? =some o→W1.heap[k]? =some o)∧
    ∀W2,Turn w.heap.size W1 W2→ ∀pre,I pre W2→pre.length<xs.length→body
     (λW3=>Rnd w.heap.size M W2 W3∧ ∀W4,Turn w.heap.size W3 W4→I (pre++[x]) W4)
     (λe W3=>Rnd w.heap.size M W2 W3∧ ∀W4,Turn w.heap.size W3 W4→Ix e (pre++[x]) W4) W2) W)∧
   (∀D W,w.heap.size≤D→I xs W→Mark W D→done D W)∧
   (∀s∈stops,∀D pre W,w.heap.size≤D→pre<+:xs→Ix s.1 pre W→Mark W D→s.2 D W)
def pw(P:Program):Code→Hn→(Act→World→Prop)→(Exit→Act→World→Prop)→Act→World→Prop
 | .skip,_,K,_,a,w=>K a w
 | .label _,_,K,_,a,w=>K a w
 | .seq x y,h,K,Q,a,w=>
  if h.Aw5=true then(if(qF h.slots (Yo x)&&Vm x)=true then Bh (λJ=>pw P x h.l (λa' w'=>onL h.slots a' λz=>J z w') Q a w) (λz w'=> ∀d:Nat→Value,pw P y h.r K Q (Ael a (Yo x) d h.slots z) w') else False)
  else pw P x h.l (pw P y h.r K Q) Q a w
 | .cond c x y,h,K,Q,a,w=>match a.eval c with
  | .bool b=>Aj b (pw P x h.l K Q a w) (pw P y h.r K Q a w)
  |_=>False
 | .block id c,h,K,Q,a,w=>pw P c h K (λe a w=>match e with| .exit i=>if i=id then K a w else Q (.exit i) a w|e=>Q e a w) a w
 | .exit id,_,_,Q,a,w=>Q (.exit id) a w
 | .ret,_,_,Q,a,w=>Q .ret a w
 | .region _ ops false,h,K,Q,a,w=>if h.isZ=true then jA P ops K Q ops.toList a w else fF P ops K ops.toList a w
 | .region _ ops true,h,K,_,a,w=>
  if h.isY=true then
   (if Region.noSelect ops=true∧Zt ops.toList=true∧Ae0 ops h.m=true∧h.plan.depth≤h.m then pd P ops (xU P ops h.m K) h.plan (ups h.m (Array.replicate ops.size false)) [] [] a w.drew else False)
  else if Region.noSelect ops=true∧Zt ops.toList=true∧h.plan.depth≤ops.size then pd P ops K h.plan (Array.replicate ops.size false) [] [] a w.drew else False
 | .loop c,h,_,Q,a,w=>if(qF h.slots (Yo c)&&Vm c)=true then onL h.slots a λx0=>Aw (λself x w=> ∀d:Nat→Value,pw P c h.l (λa' w'=>onL h.slots a' λx'=>self x' w') Q (Ael a (Yo c) d h.slots x) w) x0 w else False
 | .rangeFunc g ps assign body,h,K,Q,a,w=>
  if(Vm assign&&Vm body&&ps.size==h.rs.length)=true then
   RfT P (a.eval g) h.rs w
    (λx k W=>pw P assign h.l (λa' W1=>k W1 λgo lv W2=>pw P body h.r (λ_ W3=>go W3) (λe _ W3=>lvK (exD (exJ body)) lv e W3) a' W2) (λ_ _ _=>False) {tmps:=zO ps.toList (dP h.rs x) a.tmps,defers:=[]} W)
    (λD W=>K {a with defers:=Abm D::a.defers} W)
    ((exD (exJ body)).map λi=>(i,λD W=>Q (unN i) {a with defers:=Abm D::a.defers} W))
  else False
 |_,_,_,_,_,_=>False
structure Ag(m:List Nat)(a a':Act):Prop where
 size:a'.tmps.size=a.tmps.size
 off: ∀i,i∉m→a'.tmps[i]? =a.tmps[i]?
 def_:a'.defers=a.defers
theorem Ag.refl(m:List Nat)(a:Act):Ag m a a:=⟨rfl,λ_ _=>rfl,rfl⟩
theorem Ag.trans{m:List Nat}{a b c:Act}(h:Ag m a b)(k:Ag m b c):Ag m a c:=⟨k.size.trans h.size,λi hi=>(k.off i hi).trans (h.off i hi),k.def_.trans h.def_⟩
theorem Ag.mono{m m':List Nat}{a b:Act}(h:Ag m a b)(hm: ∀i∈m,i∈m'):Ag m' a b:=⟨h.size,λi hi=>h.off i λx=>hi (hm i x),h.def_⟩
theorem Ag.put(a:Act)(d:Option Tmp)(v:Value):Ag d.toList a (a.put d v):=by
 cases d with
 |none=>exact Ag.refl _ _
 |some d=>exact⟨by simp[Act.put],λi hi=>by simp[Act.put] at*;rw[Array.getElem?_setIfInBounds_ne];exact λe=>hi e.symm,rfl⟩
theorem Acr: ∀(cs:List CK) (p:Addr) (i:Nat) (w:World) (k k':Ky cs→Prop),(∀x,k x→k' x)→Bc cs p i w k→Bc cs p i w k'
 |[],_,_,_,_,_,hk,h=>hk _ h
 |c::cs,p,i,w,k,k',hk,h=>by
  unfold Bc at*
  split at h
  ·exact Acr cs p (i+1) w _ _ (λxs h=>hk _ h) h
  ·exact h.elim
theorem Aar{P:Program}{t:TypeId}{a:Value}{w:World}{k k':Value→Prop}(hk: ∀v,k v→k' v)(h:ldW P t a w k):ldW P t a w k':=by
 unfold ldW at*
 split at h
 case h_2=>exact h.elim
 split at h
 ·split at h
  case isFalse=>exact h.elim
  rename_i h1 h2
  simp only[h1,h2,if_true]
  exact Acr _ _ _ _ _ _ (λ_=>hk _) h
 ·split at h
  case h_2=>exact h.elim
  rename_i h1 _ d hd
  simp only[h1,hd]
  unfold ld1 at*
  split at h
  ·rename_i hx;simp only[hx];exact hk _ h
  ·exact h.elim
theorem sK: ∀(vs:List Value) (p:Addr) (i:Nat) (w:World) (k k':World→Prop),(∀x,k x→k' x)→Au vs p i w k→Au vs p i w k'
 |[],_,_,_,_,_,hk,h=>hk _ h
 |v::vs,p,i,w,k,k',hk,h=>by
  unfold Au at*
  split at h
  case isFalse=>exact h.elim
  rename_i h1
  rw[if_pos h1]
  split at h
  case h_2=>exact h.elim
  rename_i hu
  split at h
  case isTrue=>exact h.elim
  rename_i h2
  simp only[hu,h2]
  exact sK vs p (i+1) _ _ _ hk h
theorem Aiw{P:Program}{t:TypeId}{a v:Value}{w:World}{k k':World→Prop}(hk: ∀v,k v→k' v)(h:stW P t a v w k):stW P t a v w k':=by
 unfold stW at*
 split at h
 case h_2=>exact h.elim
 cases hg:Wx P t<;>simp only[hg] at h⊢
 ·by_cases hs:(P.info? t).map (·.size)=some 1
  ·rw[if_pos hs] at h⊢;exact sK _ _ _ _ _ _ hk h
  ·rw[if_neg hs] at h;exact h.elim
 ·by_cases hs:(P.info? t).map (·.size)=some v.cells.size
  ·rw[if_pos hs] at h⊢;exact sK _ _ _ _ _ _ hk h
  ·rw[if_neg hs] at h;exact h.elim
theorem Aks{P:Program}{s:Sem Next}{k k':Value→Prop}(hk: ∀v,k v→k' v)(h:evK P s k):evK P s k':=by
 unfold evK at*;split at h
 ·exact hk _ h
 ·exact h.elim
theorem Am4{p:Option Addr}{k k':Addr→Prop}(hk: ∀v,k v→k' v)(h:A7 p k):A7 p k':=by unfold A7 at*;split at h;exact hk _ h;exact h.elim
theorem Akl{b:Option Addr}{n:Nat}{ix:Int}{k k':Addr→Prop}(hk: ∀v,k v→k' v)(h:Hf b n ix k):Hf b n ix k':=by
 unfold Hf at*;split at h
 ·split at h
  ·rename_i h1;rw[if_pos h1];exact hk _ h
  ·exact h.elim
 ·exact h.elim
theorem Ac0{b:Int}{p q:Prop}(hk:p→q)(h:Zm b p):Zm b q:=by unfold Zm at*;split at h;exact h.elim;rename_i h1;rw[if_neg h1];exact hk h
theorem Akm{b:Int}{p q:Prop}(hk:p→q)(h:dK b p):dK b q:=by unfold dK at*;split at h;exact h.elim;rename_i h1;rw[if_neg h1];exact hk h
theorem Akp{s:ByteArray}{ix:Int}{k k':Int→Prop}(hk: ∀v,k v→k' v)(h:siK s ix k):siK s ix k':=by unfold siK at*;split at h;exact hk _ h;exact h.elim
theorem Amr{l h:Int}{n:Nat}{p q:Prop}(hk:p→q)(hh:slK l h n p):slK l h n q:=by unfold slK at*;split at hh;rename_i h1;rw[if_pos h1];exact hk hh;exact hh.elim
theorem Aiz{a b:ByteArray}{p q:Prop}(hk:p→q)(h:iF a b p):iF a b q:=⟨h.fits,hk h.cont⟩
theorem Akv{P:Program}{x:Value}{w:World}{k k':ByteArray→World→Prop}(hk: ∀v w,k v w→k' v w)(h:bsK P x w k):bsK P x w k':=by
 unfold bsK at*;split at h
 ·exact hk _ _ h
 ·exact h.elim
theorem Akn{P:Program}{t:TypeId}{x:Value}{w:World}{k k':Nat→World→Prop}(hk: ∀v w,k v w→k' v w)(h:rgV P t x w k):rgV P t x w k':=by
 unfold rgV at*;split at h
 ·exact hk _ _ h
 ·exact h.elim
theorem Amu{r:Nat}{w:World}{o o':World→Prop}{m m':Int→Int→World→Prop}(ho: ∀w,o w→o' w)(hm: ∀i c w,m i c w→m' i c w)(h:nxK r w o m):nxK r w o' m':=by
 unfold nxK at*;split at h
 ·split at h
  ·rename_i h1;rw[if_pos h1];exact hm _ _ _ h
  ·rename_i h1;rw[if_neg h1];exact ho _ h
 ·exact h.elim
theorem Ajt{it:Value}{w:World}{k k':Value→World→Prop}(hk: ∀v w,k v w→k' v w)(h:nxV it w k):nxV it w k':=by
 unfold nxV at*;split at h
 ·exact Amu (λ_=>hk _ _) (λ_ _ _=>hk _ _) h
 ·exact h.elim
theorem Ak0{l:List Int}{n:Nat}{ix:Int}{k k':Int→Prop}(hk: ∀v,k v→k' v)(h:aiK l n ix k):aiK l n ix k':=by
 unfold aiK at*;split at h
 ·rename_i h1
  rw[if_pos h1]
  split at h
  ·exact hk _ h
  ·exact h.elim
 ·exact h.elim
theorem Aiq{l:List (Option Addr)}{n:Nat}{ix:Int}{k k':Option Addr→Prop}(hk: ∀v,k v→k' v)(h:aiP l n ix k):aiP l n ix k':=by
 unfold aiP at*;split at h
 ·rename_i h1
  rw[if_pos h1]
  split at h
  ·exact hk _ h
  ·exact h.elim
 ·exact h.elim
theorem Amq{P:Program}{e:TypeId}{n:Nat}{cs:Array Value}{ix:Int}{k k':Value→Prop}(hk: ∀v,k v→k' v)(h:aiV P e n cs ix k):aiV P e n cs ix k':=by
 unfold aiV at*;split at h
 ·rename_i h1
  rw[if_pos h1]
  split at h
  ·exact Ak0 (λ_=>hk _) h
  ·split at h
   ·exact Aiq (λ_=>hk _) h
   ·exact h.elim
 ·exact h.elim
theorem Ak7{P:Program}{op:BinOp}{t:TypeId}{x:Value}{k k':Value→Prop}(hk: ∀v,k v→k' v)(h:nlV P op t x k):nlV P op t x k':=by
 unfold nlV nlK at*
 repeat' split at h
 all_goals first
  |exact hk _ h
  |exact h.elim
theorem Al6{P:Program}{t:TypeId}{ok ag:Bool}{cs:List CK}{k k':Ky cs→Bool→Prop}(hk: ∀y b,k y b→k' y b)(h:taM P t ok ag cs k):taM P t ok ag cs k':=by
 unfold taM at*
 repeat' split at h
 all_goals first
  |exact hk _ _ h
  |exact h.elim
theorem Amn{P:Program}{x:Value}{t:TypeId}{ok ag:Bool}{cs:List CK}{k k':Ky cs→Bool→Prop}(hk: ∀y b,k y b→k' y b)(h:taV P x t ok ag cs k):taV P x t ok ag cs k':=by
 unfold taV at*
 repeat' split at h
 all_goals first
  |exact hk _ _ h
  |exact Al6 hk h
  |exact h.elim
theorem Aj1{P:Program}{x:Value}{t:TypeId}{ok:Bool}{k k':Value→Prop}(hk: ∀v,k v→k' v)(h:taW P x t ok k):taW P x t ok k':=
 Amn (λ_ _=>hk _) h
theorem Ajy{P:Program}{x:Value}{nm:String}{args:List Value}{w:World}{tup:Bool}{rs:List (Bool×List CK)}{k k':TR rs→World→Prop}(hk: ∀r w,k r w→k' r w)(h:ivK P x nm args w tup rs k):ivK P x nm args w tup rs k':=by
 unfold ivK at*
 split at h
 case h_2=>exact h.elim
 split at h
 case h_2=>exact h.elim
 split at h
 case h_2=>exact h.elim
 unfold Ad at*
 refine Calls.mono h ?_
 rintro e w' ⟨r,he,h⟩
 exact⟨r,he,hk _ _ h⟩
theorem Amk{P:Program}{x:Value}{nm:String}{args:List Value}{ty:TypeId}{w:World}{k k':Value→World→Prop}(hk: ∀v w,k v w→k' v w)(h:ivW P x nm args ty w k):ivW P x nm args ty w k':=
 Ajy (λ_ _=>hk _ _) h
theorem Alq{P:Program}{ts:Array TypeId}{ty:TypeId}{x:Value}{w:World}{k k':World→Prop}(hk: ∀w,k w→k' w)(h:crK P ts ty x w k):crK P ts ty x w k':=by
 unfold crK at*
 split at h
 ·exact hk _ h
 ·exact h.elim
theorem rD{P:Program}{o:Oper}{ρ:Operand→Value}{k k':Value→Prop}(hk: ∀v,k v→k' v)(h:rF P o ρ k):rF P o ρ k':=by
 unfold rF at*
 repeat' split at h
 all_goals (try simp only[*,if_true])
 all_goals first
  |exact hk _ h
  |exact Ak7 hk h
  |exact Aks hk h
  |exact Am4 (λ_=>hk _) h
  |exact Akl (λ_=>hk _) h
  |exact Akp (λ_=>hk _) h
  |exact Amq hk h
  |exact Ac0 (hk _) h
  |exact Akm (hk _) h
  |exact Amr (hk _) h
  |exact Aiz (hk _) h
  |exact h.elim
  |(subst_vars;exact Ac0 (hk _) h)
theorem Am2{P:Program}{f:Value}{args:List Value}{ty:TypeId}{w:World}{k k':Value→World→Prop}(hk: ∀v w,k v w→k' v w)(h:clW P f args ty w k):clW P f args ty w k':=by
 unfold clW at*
 split at h
 case h_2=>exact h.elim
 split at h
 case isFalse=>exact h.elim
 rename_i hc
 rw[if_pos hc]
 unfold Ad at*
 refine Calls.mono h ?_
 rintro e w' ⟨r,he,h⟩
 exact⟨r,he,hk _ _ h⟩
theorem wL{r:Result Value}{k k':(Option Addr×Nat×Nat)→World→Prop}(hk: ∀v w,k v w→k' v w)(h:Qj r k):Qj r k':=by
 unfold Qj at*
 split at h
 case h_2=>exact h.elim
 split at h
 case h_2=>exact h.elim
 exact hk _ _ h
theorem Amt{P:Program}{ty:TypeId}{r:Result Next}{k k':Value→World→Prop}(hk: ∀v w,k v w→k' v w)(h:efW P ty r k):efW P ty r k':=by
 unfold efW at*
 split at h
 ·exact hk _ _ h
 ·exact hk _ _ h
 ·refine Calls.mono h ?_
  rintro e w' ⟨r,he,h⟩
  exact⟨r,he,hk _ _ h⟩
 ·exact h.elim
theorem Al9{P:Program}{t:TypeId}{w:World}{k k':Nat→World→Prop}(hk: ∀r w,k r w→k' r w)(h:maK P t w k):maK P t w k':=by
 unfold maK at*
 split at h
 ·exact hk _ _ h
 ·exact h.elim
theorem Ajq{P:Program}{t:TypeId}{m i:Value}{ok:Bool}{w:World}{k k':Value→Prop}(hk: ∀v,k v→k' v)(h:lkV P t m i ok w k):lkV P t m i ok w k':=by
 unfold lkV at*
 split at h
 case h_2=>exact h.elim
 cases ok
 ·obtain⟨x,hr,h⟩:=h;exact⟨x,hr,hk _ h⟩
 ·obtain⟨x,b,hr,h⟩:=h;exact⟨x,b,hr,hk _ h⟩
theorem Al7{P:Program}{t:TypeId}{m i v:Value}{w:World}{k k':World→Prop}(hk: ∀w,k w→k' w)(h:muK P t m i v w k):muK P t m i v w k':=by
 unfold muK at*
 split at h
 ·exact hk _ h
 ·exact h.elim
theorem Ue{P:Program}{o:Oper}{a:Act}{w:World}{K K':Act→World→Prop}(hk: ∀v w',K (a.put o.dst v) w'→K' (a.put o.dst v) w')(h:Ui P o a w K):Ui P o a w K':=by
 unfold Ui at*
 split at h
 ·exact rD (λ_=>hk _ _) h
 ·exact Aar (λ_=>hk _ _) h
 ·exact Aiw (λ_=>hk _ _) h
 ·exact Am2 (λ_ _=>hk _ _) h
 ·exact wL (λ_ _=>hk _ _) h
 ·exact Amt (λ_ _=>hk _ _) h
 ·exact h.elim
 ·exact Al9 (λ_ _=>hk _ _) h
 ·exact Ajq (λ_=>hk _ _) h
 ·exact Al7 (λ_=>hk _ _) h
 ·exact Akv (λ_ _=>hk _ _) h
 ·exact wL (λ_ _=>hk _ _) h
 ·exact Akn (λ_ _=>hk _ _) h
 ·exact Ajt (λ_ _=>hk _ _) h
 ·exact Aj1 (λ_=>hk _ _) h
 ·exact Amk (λ_ _=>hk _ _) h
 ·exact Alq (λ_=>hk _ _) h
theorem Alu{P:Program}{l:Nat}{args:List Value}{w:World}{k k':Bool→World→Prop}(hk: ∀b w',k b w'→k' b w')(h:yiS P l args w k):yiS P l args w k':=
 let ⟨fn,t,a,b,hy,hR⟩:=h;⟨fn,t,a,b,hy,RoundIn.mono hR λ_ _ ⟨b,e,h⟩=>⟨b,e,hk _ _ h⟩⟩
theorem Ana{P:Program}{o:Oper}{a:Act}{w:World}{K K':Act→World→Prop}(hk: ∀v w',K (a.put o.dst v) w'→K' (a.put o.dst v) w')(h:Aku P o a w K):Aku P o a w K':=by
 unfold Aku at*
 split at h
 ·split at h
  ·split at h
   ·rename_i h1;rw[if_pos h1];exact Alu (λ_ _=>hk _ _) h
   ·exact h.elim
  ·exact Ue hk h
 ·exact Ue hk h
theorem Ap4{P:Program}{o:Oper}{a:Act}{w:World}{k k':Value→Prop}(hk: ∀v,k v→k' v)(h:tko P o a w k):tko P o a w k':=by
 unfold tko at*
 split at h
 ·exact rD hk h
 ·exact Aar hk h
 ·exact h.elim
theorem Xq{P:Program}{ops:Array Oper}{o:Oper}{a:Act}{yes no yes' no':Act→Prop}(hy:yes a→yes' a)(hn:no a→no' a)(h:gdo P ops o a yes no):gdo P ops o a yes' no':=by
 unfold gdo at*
 split at h
 ·exact hy h
 ·rename_i j want hg
  split at h
  ·exact hn h
  ·rename_i d hd
   split at h
   ·rename_i c hc
    cases c<;>cases want<;>simp only[Aj,qU hc] at h⊢ <;>first|exact hn h|exact hy h
   ·exact hn h
theorem tV{P:Program}{ops:Array Oper}{K K':Act→World→Prop}: ∀(l:List Oper) (a:Act) (w:World),(∀a' w',Ag (Zi l) a a'→K a' w'→K' a' w')→fF P ops K l a w→fF P ops K' l a w
 |[],a,w,hk,h=>hk a w (Ag.refl _ _) h
 |o::rest,a,w,hk,h=>by
  unfold fF at*
  have hm1: ∀i∈o.dst.toList,i∈Zi (o::rest):=λi hi=>by
   unfold Zi;cases hd:o.dst with
   |none=>rw[hd] at hi;cases hi
   |some d=>rw[hd] at hi;simp at hi;subst hi;simp[hd]
  have hm2: ∀i∈Zi rest,i∈Zi (o::rest):=λi hi=>by
   unfold Zi at*;cases hd:o.dst<;>simp_all
  have step: ∀v w',fF P ops K rest (a.put o.dst v) w'→fF P ops K' rest (a.put o.dst v) w':=λv w' h=>
   tV rest _ w' (λa' w' hA=>hk a' w' (((Ag.put a o.dst v).mono hm1).trans (hA.mono hm2))) h
  exact Xq (λh=>Ana step h) (λh=>step undef w h) h
theorem rH{o:Oper}{l:List Oper}(h:Zt (o::l)=true):(∀c,o.op≠ .defer c)∧Zt l=true:=by
 simp only[Zt,Bool.and_eq_true] at h
 exact⟨λc hc=>by rw[hc] at h;simp at h,h.2⟩
theorem Aje{P:Program}{o:Oper}{a:Act}{w:World}{K K':Act→World→Prop}{Q Q':Exit→Act→World→Prop}(hd: ∀c,o.op≠ .defer c)(hk: ∀v w',K (a.put o.dst v) w'→K' (a.put o.dst v) w')(hq: ∀e w',Q e a w'→Q' e a w')(h:Agr P o a w K Q):Agr P o a w K' Q':=by
 unfold Agr at*
 cases hc:eQ P o.op<;>rw[hc] at h<;>simp only at h⊢
 case cl f args=>
  split at h
  ·split at h
   ·rename_i h1;rw[if_pos h1]
    exact Calls.mono h λe w' q=>q.imp (λ⟨r,e1,k⟩=>⟨r,e1,hk _ _ k⟩) λ⟨v,e1,k⟩=>⟨v,e1,hq _ _ k⟩
   ·exact h.elim
  ·exact h.elim
 case pa=>
  split at h
  ·exact hq _ _ h
  ·exact h.elim
 all_goals first
  |exact Ue hk h
  |(split at h
    ·rename_i c hc;exact absurd hc (hd c)
    ·exact Ue hk h)
theorem Aap{P:Program}{ops:Array Oper}{K K':Act→World→Prop}{Q Q':Exit→Act→World→Prop}: ∀(l:List Oper) (a:Act) (w:World),Zt l=true→(∀a' w',Ag (Zi l) a a'→K a' w'→K' a' w')→(∀e a' w',Ag (Zi l) a a'→Q e a' w'→Q' e a' w')→jA P ops K Q l a w→jA P ops K' Q' l a w
 |[],a,w,_,hk,_,h=>hk a w (Ag.refl _ _) h
 |o::rest,a,w,nd,hk,hq,h=>by
  unfold jA at*
  obtain⟨nd1,nd2⟩:=rH nd
  have hm1: ∀i∈o.dst.toList,i∈Zi (o::rest):=λi hi=>by
   unfold Zi;cases hd:o.dst with
   |none=>rw[hd] at hi;cases hi
   |some d=>rw[hd] at hi;simp at hi;subst hi;simp[hd]
  have hm2: ∀i∈Zi rest,i∈Zi (o::rest):=λi hi=>by
   unfold Zi at*;cases hd:o.dst<;>simp_all
  have step: ∀v w',jA P ops K Q rest (a.put o.dst v) w'→jA P ops K' Q' rest (a.put o.dst v) w':=λv w' h=>
   Aap rest _ w' nd2 (λa' w' hA=>hk a' w' (((Ag.put a o.dst v).mono hm1).trans (hA.mono hm2))) (λe a' w' hA=>hq e a' w' (((Ag.put a o.dst v).mono hm1).trans (hA.mono hm2))) h
  exact Xq (λh=>Aje nd1 step (λe w' h=>hq e a w' (Ag.refl _ _) h) h) (λh=>step undef w h) h
theorem Uo{ops:Array Oper}{K K':Act→World→Prop}{i:Nat}{o:Oper}{a:Act}(ho:ops[i]? =some o)(hk: ∀a' w',Ag (Zi ops.toList) a a'→K a' w'→K' a' w')(v:Value):
  ∀a' w',Ag (Zi ops.toList) (a.put o.dst v) a'→K a' w'→K' a' w':=by
 have hm: ∀j∈o.dst.toList,j∈Zi ops.toList:=λj hj=>by
  unfold Zi;rw[List.mem_filterMap]
  refine⟨o,?_,by cases hd:o.dst<;>simp_all⟩
  exact Array.mem_toList_iff.2 (Array.mem_of_getElem? ho)
 exact λa' w' hA=>hk a' w' (((Ag.put a o.dst v).mono hm).trans hA)
theorem Xo{P:Program}{ops:Array Oper}{K K':Act→World→Prop}: ∀(plan:Pl) (listed:Array Bool) (S:List Ent) (D:List Nat) (a:Act) (w:World),
  (∀a' w',Ag (Zi ops.toList) a a'→K a' w'→K' a' w')→pd P ops K plan listed S D a w→pd P ops K' plan listed S D a w
 | .z,listed,S,D,a,w,hk,h=>by
  unfold pd at*
  split at h
  ·rename_i h1;rw[if_pos h1];exact hk a w (Ag.refl _ _) h
  ·exact h.elim
 | .tk i p,listed,S,D,a,w,hk,h=>by
  unfold pd at*
  split at h
  case h_1=>exact h.elim
  rename_i o ho
  split at h
  case isFalse=>exact h.elim
  rename_i h2
  rw[if_pos h2]
  have step:=Uo (K:=K) (K':=K') ho hk
  exact Xq (λh=>Ap4 (λv h=>Xo p _ _ _ _ w (step v) h) h) (λh=>Xo p _ _ _ _ w (step undef) h) h
 | .ef i drop p,listed,S,D,a,w,hk,h=>by
  unfold pd at*
  split at h
  case h_1=>exact h.elim
  rename_i o ho
  split at h
  case isFalse=>exact h.elim
  rename_i h2
  rw[if_pos h2]
  have step:=Uo (K:=K) (K':=K') ho hk
  exact Xq (λh=>Ue (λv w' h=>⟨h.1,Xo p _ _ _ _ w' (step v) h.2⟩) h) (λh=>Xo p _ _ _ _ w (step undef) h) h
 | .two i j p q,listed,S,D,a,w,hk,h=>by
  unfold pd at*
  split at h
  case h_2=>exact h.elim
  rename_i oi oj hoi hoj
  split at h
  case isFalse=>exact h.elim
  rename_i h2
  rw[if_pos h2]
  have si:=Uo (K:=K) (K':=K') hoi hk
  have sj:=Uo (K:=K) (K':=K') hoj hk
  exact⟨Xq (λh=>Ue (λv w' h=>⟨h.1,Xo p _ _ _ _ w' (si v) h.2⟩) h) (λh=>Xo p _ _ _ _ w (si undef) h) h.1,
   Xq (λh=>Ue (λv w' h=>⟨h.1,Xo q _ _ _ _ w' (sj v) h.2⟩) h) (λh=>Xo q _ _ _ _ w (sj undef) h) h.2⟩
 | .thr i j k p q r,listed,S,D,a,w,hk,h=>by
  unfold pd at*
  split at h
  case h_2=>exact h.elim
  rename_i oi oj ok hoi hoj hok
  split at h
  case isFalse=>exact h.elim
  rename_i h2
  rw[if_pos h2]
  have si:=Uo (K:=K) (K':=K') hoi hk
  have sj:=Uo (K:=K) (K':=K') hoj hk
  have sk:=Uo (K:=K) (K':=K') hok hk
  exact⟨Xq (λh=>Ue (λv w' h=>⟨h.1,Xo p _ _ _ _ w' (si v) h.2⟩) h) (λh=>Xo p _ _ _ _ w (si undef) h) h.1,
   Xq (λh=>Ue (λv w' h=>⟨h.1,Xo q _ _ _ _ w' (sj v) h.2⟩) h) (λh=>Xo q _ _ _ _ w (sj undef) h) h.2.1,
   Xq (λh=>Ue (λv w' h=>⟨h.1,Xo r _ _ _ _ w' (sk v) h.2⟩) h) (λh=>Xo r _ _ _ _ w (sk undef) h) h.2.2⟩
theorem Anx{L:List (Nat×CK)}{a:Act}{k k':TvL L→Prop}(hk: ∀x,k x→k' x)(h:onL L a k):onL L a k':=by
 unfold onL at*;split at h
 ·exact hk _ h
 ·exact h.elim
theorem Aok(a:Act)(m:List Nat)(d:Nat→Value)(L:List (Nat×CK))(x:TvL L):Ag (m++L.map (·.1)) a (Ael a m d L x):=by
 have hX: ∀(L:List (Nat×CK)) (x:TvL L) (t:Array Value),(yZ L x t).size=t.size∧ ∀i,i∉L.map (·.1)→(yZ L x t)[i]? =t[i]? :=by
  intro L
  induction L with
  |nil=>intro x t;exact⟨rfl,λ_ _=>rfl⟩
  |cons c L ih=>
   intro x t
   have:=ih x.2 (t.setIfInBounds c.1 (enc c.2 x.1))
   refine⟨by simp[yZ,this.1],λi hi=>?_⟩
   simp only[List.map_cons,List.mem_cons,not_or] at hi
   show(yZ L x.2 _)[i]? =_
   rw[this.2 i hi.2,Array.getElem?_setIfInBounds_ne (λe=>hi.1 e.symm)]
 have hD: ∀(m:List Nat) (t:Array Value),(vF d m t).size=t.size∧ ∀i,i∉m→(vF d m t)[i]? =t[i]? :=by
  intro m
  induction m with
  |nil=>intro t;exact⟨rfl,λ_ _=>rfl⟩
  |cons c m ih=>
   intro t
   have:=ih (t.setIfInBounds c (d c))
   refine⟨by simp[vF,this.1],λi hi=>?_⟩
   simp only[List.mem_cons,not_or] at hi
   show(vF d m _)[i]? =_
   rw[this.2 i hi.2,Array.getElem?_setIfInBounds_ne (λe=>hi.1 e.symm)]
 refine⟨by simp[Ael,(hX L x _).1,(hD m _).1],λi hi=>?_,rfl⟩
 simp only[List.mem_append,not_or] at hi
 show(yZ L x (vF d m a.tmps))[i]? =_
 rw[(hX L x _).2 i hi.2,(hD m _).2 i hi.1]
theorem Af6(a:Act)(m:List Nat)(d:Nat→Value)(L:List (Nat×CK))(x:TvL L)(h:qF L m=true):Ag m a (Ael a m d L x):=by
 refine(Aok a m d L x).mono λi hi=>?_
 rcases List.mem_append.1 hi with hi|hi
 ·exact hi
 ·obtain⟨c,hc,rfl⟩:=List.mem_map.1 hi
  unfold qF at h
  rw[List.all_eq_true] at h
  simpa using h c hc
theorem jB{P:Program}: ∀(c:Code) (h:Hn) (K K':Act→World→Prop) (Q Q':Exit→Act→World→Prop) (a:Act) (w:World),
  (∀a' w',Ag (Yo c) a a'→K a' w'→K' a' w')→(∀e a' w',Ag (Yo c) a a'→Q e a' w'→Q' e a' w')→Vm c=true→pw P c h K Q a w→pw P c h K' Q' a w
 | .skip,_,_,_,_,_,a,w,hk,_,_,h=>hk a w (Ag.refl _ _) h
 | .label _,_,_,_,_,_,a,w,hk,_,_,h=>hk a w (Ag.refl _ _) h
 | .seq x y,hn,K,K',Q,Q',a,w,hk,hq,nr,h=>by
  have m1: ∀i∈Yo x,i∈Yo (.seq x y):=λi hi=>List.mem_append.2 (.inl hi)
  have m2: ∀i∈Yo y,i∈Yo (.seq x y):=λi hi=>List.mem_append.2 (.inr hi)
  have nx:Vm x=true:=by simp only[Vm,Bool.and_eq_true] at nr;exact nr.1
  have ny:Vm y=true:=by simp only[Vm,Bool.and_eq_true] at nr;exact nr.2
  unfold pw at*
  split at h
  ·rename_i hc
   rw[if_pos hc]
   split at h
   case isFalse=>exact h.elim
   rename_i hs
   rw[if_pos hs]
   rw[Bool.and_eq_true] at hs
   obtain⟨J,hJ,hB⟩:=h
   refine⟨J,jB x hn.l _ _ Q Q' a w (λ_ _ _ h=>h) (λe a' w' hA=>hq e a' w' (hA.mono m1)) nx hJ,?_⟩
   intro z w' hj d
   have hu:=(Af6 a (Yo x) d hn.slots z hs.1).mono m1
   exact jB y hn.r K K' Q Q' _ w' (λa' w' hA'=>hk a' w' (hu.trans (hA'.mono m2))) (λe a' w' hA'=>hq e a' w' (hu.trans (hA'.mono m2))) ny (hB z w' hj d)
  ·rename_i hc
   rw[if_neg hc]
   refine jB x hn.l _ _ Q Q' a w ?_ (λe a' w' hA=>hq e a' w' (hA.mono m1)) nx h
   intro a1 w1 hA h1
   exact jB y hn.r K K' Q Q' a1 w1 (λa' w' hA'=>hk a' w' ((hA.mono m1).trans (hA'.mono m2))) (λe a' w' hA'=>hq e a' w' ((hA.mono m1).trans (hA'.mono m2))) ny h1
 | .cond c x y,hn,K,K',Q,Q',a,w,hk,hq,nr,h=>by
  have m1: ∀i∈Yo x,i∈Yo (.cond c x y):=λi hi=>List.mem_append.2 (.inl hi)
  have m2: ∀i∈Yo y,i∈Yo (.cond c x y):=λi hi=>List.mem_append.2 (.inr hi)
  have nx:Vm x=true:=by simp only[Vm,Bool.and_eq_true] at nr;exact nr.1
  have ny:Vm y=true:=by simp only[Vm,Bool.and_eq_true] at nr;exact nr.2
  unfold pw at*
  split at h
  case h_2=>exact h.elim
  exact Ao4 (λ_ h=>jB x hn.l K K' Q Q' a w (λa' w' hA=>hk a' w' (hA.mono m1)) (λe a' w' hA=>hq e a' w' (hA.mono m1)) nx h)
   (λ_ h=>jB y hn.r K K' Q Q' a w (λa' w' hA=>hk a' w' (hA.mono m2)) (λe a' w' hA=>hq e a' w' (hA.mono m2)) ny h) h
 | .block id c,hn,K,K',Q,Q',a,w,hk,hq,nr,h=>by
  unfold pw at*
  refine jB c hn K K' _ _ a w hk ?_ nr h
  intro e a' w' hA h
  cases e with
  |exit i=>
   simp only at h⊢
   split at h
   ·rename_i h1;rw[if_pos h1];exact hk a' w' hA h
   ·rename_i h1;rw[if_neg h1];exact hq _ a' w' hA h
  |_=>exact hq _ a' w' hA h
 | .exit id,_,_,_,_,_,a,w,_,hq,_,h=>hq _ _ _ (Ag.refl _ _) h
 | .ret,_,_,_,_,_,a,w,_,hq,_,h=>hq _ _ _ (Ag.refl _ _) h
 | .region _ ops false,hn,K,K',Q,Q',a,w,hk,hq,nr,h=>by
  unfold pw at*
  split at h
  ·rename_i c;rw[if_pos c];exact Aap _ a w nr hk hq h
  ·rename_i c;rw[if_neg c];exact tV _ a w hk h
 | .region _ ops true,hn,K,K',_,_,a,w,hk,_,_,h=>by
  unfold pw at*
  split at h
  ·rename_i hy
   rw[if_pos hy]
   split at h
   case isFalse=>exact h.elim
   rename_i h1
   rw[if_pos h1]
   refine Xo _ _ _ _ a _ (λa' w' hA hl=>?_) h
   unfold xU at hl⊢
   refine tV _ a' w' (λa2 w2 hA2 h2=>hk a2 w2 (hA.trans (hA2.mono λi hi=>?_)) h2) hl
   unfold Zi at hi
   obtain⟨o',ho',hd⟩:=List.mem_filterMap.1 hi
   show i∈Zi ops.toList
   unfold Zi
   exact List.mem_filterMap.2 ⟨o',List.mem_of_mem_drop ho',hd⟩
  ·rename_i hy
   rw[if_neg hy]
   split at h
   ·rename_i h1;rw[if_pos h1];exact Xo _ _ _ _ a _ hk h
   ·exact h.elim
 | .loop c,hn,K,K',Q,Q',a,w,hk,hq,nr,h=>by
  unfold pw at*
  split at h
  case isFalse=>exact h.elim
  rename_i hs
  rw[if_pos hs]
  refine Anx ?_ h
  rintro x0 ⟨I,m,h0,hr⟩
  refine⟨I,m,h0,λx w' hI d=>?_⟩
  rw[Bool.and_eq_true] at hs
  exact jB c hn.l _ _ Q Q' _ w' (λa' w' _ h=>h) (λe a' w' hA=>hq e a' w' ((Af6 a _ d _ x hs.1).trans hA)) hs.2 (hr x w' hI d)
 | .rangeFunc ..,_,_,_,_,_,_,_,_,_,nr,h=>by cases nr
 | .scope ..,_,_,_,_,_,_,_,_,_,_,h=>h.elim
 | .goto ..,_,_,_,_,_,_,_,_,_,_,h=>h.elim
 | .refuse ..,_,_,_,_,_,_,_,_,_,_,h=>h.elim
theorem getD_some{t:Array Value}{i:Nat}{v:Value}(h:t[i]? =some v):t.getD i undef=v:=by
 rw[Array.getD_eq_getD_getElem?,h];rfl
theorem xK: ∀(L:List (Nat×CK)) (x:TvL L) (t:Array Value),Aes L t=some x→yZ L x t=t
 |[],_,_,_=>rfl
 |c::L,x,t,h=>by
  unfold Aes at h
  split at h
  ·rename_i y ys hy hys
   obtain⟨v,hv,hd⟩:=Option.bind_eq_some_iff.1 hy
   injection h with h
   subst h
   show yZ L ys (t.setIfInBounds c.1 (enc c.2 y))=t
   rw[←aP hd,qU hv]
   exact xK L ys t hys
  ·cases h
theorem Af9: ∀(m:List Nat) (t t':Array Value),t'.size=t.size→(∀i,i∉m→t'[i]? =t[i]?)→vF (λi=>t'.getD i undef) m t=t'
 |[],t,t',hs,h=>by
  apply Array.ext_getElem?;intro i;exact(h i (by simp)).symm
 |c::m,t,t',hs,h=>by
  show vF _ m (t.setIfInBounds c (t'.getD c undef))=t'
  refine Af9 m _ t' (by simp[hs]) λi hi=>?_
  by_cases hic:c=i
  ·subst hic
   rcases Nat.lt_or_ge c t.size with hlt|hge
   ·rw[Array.getElem?_setIfInBounds_self_of_lt hlt]
    have hlt':c<t'.size:=by omega
    rw[Array.getElem?_eq_getElem hlt',getD_some (Array.getElem?_eq_getElem hlt')]
   ·rw[Array.getElem?_eq_none (by omega),Array.getElem?_eq_none (by rw[Array.size_setIfInBounds];exact hge)]
  ·rw[Array.getElem?_setIfInBounds_ne hic]
   exact h i (by simp;exact⟨λe=>hic e.symm,hi⟩)
theorem Agb{a a':Act}{m:List Nat}{L:List (Nat×CK)}{x:TvL L}(hA:Ag m a a')(hx:Aes L a'.tmps=some x):Ael a m (λi=>a'.tmps.getD i undef) L x=a':=by
 have h1:vF (λi=>a'.tmps.getD i undef) m a.tmps=a'.tmps:=Af9 m _ _ hA.size hA.off
 unfold Ael
 rw[h1,xK L x _ hx]
 cases a';simp[←hA.def_]
def QK(K:Act→World→Prop)(Q:Exit→Act→World→Prop):Exit→Act→World→Prop
 | .normal,a,w=>K a w
 |e,a,w=>Q e a w
theorem Al5{K:Act→World→Prop}{Q:Exit→Act→World→Prop}: ∀e a w,qn K e a w→QK K Q e a w:=by
 intro e a w h;cases e<;>first|exact h|exact h.elim
theorem Yd{P:Program}{ops:Array Oper}{K:Act→World→Prop}{ro:Option Nat}{n:Nat}: ∀(l:List Oper) (a:Act) (w:World),fF P ops K l a w→wpListIn (FW ro) n P ops (qn K) l a w
 |[],_,_,h=>h
 |o::rest,a,w,h=>by
  unfold fF at h
  unfold wpListIn
  rcases kS h with ⟨hw,h⟩|⟨hw,h⟩
  ·rw[if_pos hw]
   have mono: ∀K':Act→World→Prop,(∀a w,K' a w→wpListIn (FW ro) n P ops (qn K) rest a w)→Ui P o a w K'→o.wpIn (FW ro) n P a w (wpListIn (FW ro) n P ops (qn K) rest) (qn K):=λK' hK h=>
    Ald (Ue (λv w' h=>hK _ _ h) h)
   unfold Aku at h
   split at h
   ·rename_i f args hc
    split at h
    ·rename_i l fi ca hf
     split at h
     case isFalse=>exact h.elim
     rename_i he
     obtain⟨ts,ho⟩:=Adz hc
     have hfi:fi=#[]:=Array.eq_empty_of_size_eq_zero he.1
     subst hfi
     obtain⟨fn,tmps,assign,body,hy,hR⟩:=h
     have hrun:(execOp a.eval o).run P w=.ok (.round l fn tmps assign body) w:=by
      have e:(args.toList.map a.eval).toArray=args.map a.eval:=by apply Array.ext';simp
      rw[e] at hy
      simp only[execOp,ho,resolve,Deferred.ofValue,hf,Array.empty_append,Sem.run_bind,Sem.run_pure,Result.andThen,invoke]
      exact hy
     refine⟨λ_ _=>trivial,?_⟩
     rw[Oper.semAt_eq _ _ _ (by rw[ho];intro c hc;cases hc),hrun]
     refine⟨λe=>(by cases e),RoundIn.mono (Als hR) ?_⟩
     rintro e w' ⟨b,rfl,hb⟩
     exact Yd rest _ _ hb
    ·exact mono _ (λa w=>Yd rest a w) h
   ·exact mono _ (λa w=>Yd rest a w) h
  ·rw[if_neg (by rw[hw];simp)]
   exact⟨λ_ _=>trivial,Yd rest _ _ h⟩
theorem Aos{P:Program}{o:Oper}{a:Act}{w:World}{K K':Act→World→Prop}{Q Q':Exit→Act→World→Prop}{ro:Option Nat}{n:Nat}(hro:ro=none∨ ∀c,o.op≠ .defer c)(hK: ∀a w,K a w→K' a w)(hQ: ∀v a w,Q (paX v) a w→Q' (paX v) a w)(h:Agr P o a w K Q):o.wpIn (FW ro) n P a w K' Q':=by
 have old:Ui P o a w K→o.wpIn (FW ro) n P a w K' Q':=λh=>Ald (Ue (λv w' h=>hK _ _ h) h)
 unfold Agr at h
 cases hc:eQ P o.op<;>rw[hc] at h<;>simp only at h
 case cl f args=>
  split at h
  ·rename_i g fi ca hf
   split at h
   case isFalse=>exact h.elim
   rename_i hcal
   obtain⟨ts,ho⟩:=Adz hc
   refine⟨λ_ _=>trivial,?_⟩
   rw[Oper.semAt_eq _ _ _ (by rw[ho];intro c hc;cases hc),Abs w ho hf hcal]
   have e:(fi.toList++args.toList.map a.eval++ca.toList).toArray=fi++args.map a.eval++ca:=by apply Array.ext';simp
   unfold bV at h
   rw[e] at h
   refine⟨λe=>(by cases e),oG.2 (Calls.mono h ?_)⟩
   rintro e w' (⟨r,rfl,k⟩|⟨v,rfl,k⟩)
   ·exact hK _ _ k
   ·exact hQ _ _ _ k
  ·exact h.elim
 case pa=>
  have nd: ∀c,o.op≠ .defer c:=λc hd=>by rw[hd] at hc;cases hc
  refine⟨λ_ _=>trivial,?_⟩
  rw[Oper.semAt_eq _ _ _ nd]
  split at h
  ·rename_i v w' hr
   rw[hr]
   exact hQ _ _ _ h
  ·exact h.elim
 case ef=>
  split at h
  ·rename_i c hd
   rcases hro with rfl|nd
   ·refine⟨λ_ _=>trivial,?_⟩
    show Oper.uponIn _ _ _ _ _ _ _ ((Oper.semAt none a.eval o).run P w)
    rw[Oper.semAt_none]
    split at h
    ·rename_i d w' hr
     rw[hr]
     exact hK _ _ h
    ·exact h.elim
   ·exact absurd hd (nd c)
  ·exact old h
 all_goals exact old h
theorem qY{P:Program}{ops:Array Oper}{K:Act→World→Prop}{Q:Exit→Act→World→Prop}{ro:Option Nat}{n:Nat}: ∀(l:List Oper) (a:Act) (w:World),(ro=none∨Zt l=true)→jA P ops K Q l a w→wpListIn (FW ro) n P ops (QK K Q) l a w
 |[],_,_,_,h=>h
 |o::rest,a,w,hro,h=>by
  unfold jA at h
  unfold wpListIn
  have h1:ro=none∨ ∀c,o.op≠ .defer c:=hro.imp id λq=>(rH q).1
  have h2:ro=none∨Zt rest=true:=hro.imp id λq=>(rH q).2
  rcases kS h with ⟨hw,h⟩|⟨hw,h⟩
  ·rw[if_pos hw]
   exact Aos h1 (λa w=>qY rest a w h2) (λv a w q=>q) h
  ·rw[if_neg (by rw[hw];simp)]
   exact⟨λ_ _=>trivial,qY rest _ _ h2 h⟩
theorem jL: ∀{l:List Oper},Zt l=true→ ∀o∈l,∀c,o.op≠ .defer c
 |[],_,o,ho=>by cases ho
 |x::l,h,o,ho=>by
  simp only[Zt,Bool.and_eq_true] at h
  rcases List.mem_cons.1 ho with rfl|ho
  ·intro c hc;rw[hc] at h;simp at h
  ·exact jL h.2 o ho
theorem Oper.wpIn_mono'{F:Fence}{n:Nat}{P:Program}{o:Oper}{a:Act}{w:World}{K K':Act→World→Prop}{Q:Exit→Act→World→Prop}(h: ∀a w,K a w→K' a w)(hh:o.wpIn F n P a w K Q):o.wpIn F n P a w K' Q:=by
 refine⟨hh.1,?_⟩
 have hh:=hh.2
 generalize (o.semAt F.round a.eval).run P w=r at*
 cases r with
 |ok nx w'=>
  cases nx<;>simp only[Oper.uponIn] at hh⊢ <;>first
   |exact h _ _ hh
   |exact⟨hh.1,CallsIn.mono hh.2 (λe w'' he=>by cases e<;>first|exact h _ _ he|exact he)⟩
   |exact⟨hh.1,RowsIn.mono hh.2 (λ_ _ he=>h _ _ he)⟩
   |exact⟨hh.1,RoundIn.mono hh.2 (λe w'' he=>by cases e<;>first|exact h _ _ he|exact he)⟩
   |exact hh
 |halt x w'=>cases x<;>simp only[Oper.uponIn] at hh⊢ <;>exact hh
theorem kG{P:Program}{ops:Array Oper}{K:Act→World→Prop}{ro:Option Nat}{n:Nat}(hd:Zt ops.toList=true): ∀(l:List Nat) (a:Act) (w:World),wpOps P ops (qn K) l a w→wpOpsIn (FW ro) n P ops (qn K) l a w
 |[],_,_,h=>h
 |i::rest,a,w,h=>by
  unfold wpOps at h
  unfold wpOpsIn
  cases ho:ops[i]? with
  |none=>simp only[ho] at h⊢;exact kG hd rest a w h
  |some o=>
   simp only[ho] at h⊢
   have hnd:=jL hd o (Array.mem_toList_iff.2 (Array.mem_of_getElem? ho))
   split
   ·rename_i hw
    rw[if_pos hw] at h
    rcases h with h|⟨_,a0,w0,h0⟩
    ·exact Oper.wpIn_mono' (λa w=>kG hd rest a w) (zI h hnd)
    ·exact h0.elim
   ·rename_i hw
    rw[if_neg hw] at h
    exact⟨λ_ _=>trivial,kG hd rest _ _ h⟩
theorem Oper.Ae2{F:Fence}{n:Nat}{P:Program}{o:Oper}{a:Act}{w:World}{K K' K2 K3:Act→World→Prop}(h: ∀a w,K2 a w→K' a w)(hh:o.wpIn F n P a w K2 (qn K)):o.wpIn F n P a w K' (qn K3):=by
 refine⟨hh.1,?_⟩
 have hh:=hh.2
 have hL:LetsOut (qn K)→LetsOut (qn K3):=λhl=>by
  obtain⟨_,a0,w0,h0⟩:=(⟨trivial,hl⟩:True∧_)
  exact h0.elim
 generalize (o.semAt F.round a.eval).run P w=r at*
 cases r with
 |ok nx w'=>
  cases nx<;>simp only[Oper.uponIn] at hh⊢ <;>first
   |exact h _ _ hh
   |exact⟨hh.1,CallsIn.mono hh.2 (λe w'' he=>by cases e<;>first|exact h _ _ he|exact hL he|exact he)⟩
   |exact⟨hh.1,RowsIn.mono hh.2 (λ_ _ he=>h _ _ he)⟩
   |exact⟨hh.1,RoundIn.mono hh.2 (λe w'' he=>by cases e<;>first|exact h _ _ he|exact hL he|exact he)⟩
   |exact hh
 |halt x w'=>cases x<;>simp only[Oper.uponIn] at hh⊢ <;>first|exact hh|exact hh.elim
def Ag8(ops:Array Oper)(listed:Array Bool):Prop:= ∀j i,listed.getD j false=true→Ru ops j i=true→listed.getD i false=true
theorem qG{listed:Array Bool}{j:Nat}(h:j<listed.size):listed.getD j true=listed.getD j false:=by simp[Array.getD,h]
theorem Wv{listed:Array Bool}{i j:Nat}(h:i<listed.size):(listed.setIfInBounds i true).getD j false=if j=i then true else listed.getD j false:=by
 by_cases hj:j=i
 ·subst hj;simp[Array.getD,h]
 ·rw[if_neg hj];simp only[Array.getD,Array.size_setIfInBounds]
  by_cases hl:j<listed.size
  ·simp only[hl,dif_pos];exact Array.getElem_setIfInBounds_ne hl (λe=>hj e.symm)
  ·simp only[hl,dif_neg,not_false_eq_true]
theorem W9{ops:Array Oper}{listed:Array Bool}{j i:Nat}(hr:j∈Region.ready .any ops listed)(hw:Ru ops j i=true):listed.getD i false=true:=by
 obtain⟨_,o,ho,hall⟩:=mem_ready.1 hr
 unfold Ru at hw
 rw[ho] at hw
 simp only[List.any_eq_true,Array.mem_toList_iff,Bool.and_eq_true,beq_iff_eq] at hw
 obtain⟨e,he,hb,rfl⟩:=hw
 exact hall e he hb
theorem Ag8.set{ops:Array Oper}{listed:Array Bool}{j:Nat}(h:Ag8 ops listed)(hs:listed.size=ops.size)(hr:j∈Region.ready .any ops listed):Ag8 ops (listed.setIfInBounds j true):=by
 have hj:j<listed.size:=by
  obtain⟨_,o,ho,_⟩:=mem_ready.1 hr
  rw[hs];exact(Array.getElem?_eq_some_iff.1 ho).1
 intro x i hx hw
 rw[Wv hj] at hx⊢
 by_cases hi:i=j
 ·rw[if_pos hi]
 ·rw[if_neg hi]
  by_cases hxj:x=j
  ·subst hxj;exact W9 hr hw
  ·rw[if_neg hxj] at hx;exact h x i hx hw
theorem Abb(m:Nat): ∀(l:List Bool) (k i:Nat),(Acg m k l)[i]? =(l[i]?).map λb=>b||decide (m≤k+i)
 |[],_,_=>by simp[Acg]
 |b::l,k,0=>by simp[Acg]
 |b::l,k,i+1=>by
  simp only[Acg,List.getElem?_cons_succ]
  rw[Abb m l (k+1) i,show k+1+i=k+(i+1) by omega]
theorem zH(m:Nat)(listed:Array Bool)(i:Nat):(ups m listed)[i]? =(listed[i]?).map λb=>b||decide (m≤i):=by
 unfold ups
 rw[List.getElem?_toArray,Abb,Nat.zero_add,Array.getElem?_toList]
theorem Aa8(m:Nat)(listed:Array Bool):(ups m listed).size=listed.size:=by
 have: ∀(l:List Bool) k,(Acg m k l).length=l.length:=by
  intro l;induction l with
  |nil=>intro k;rfl
  |cons b l ih=>intro k;simp[Acg,ih]
 simp[ups,this]
theorem An0(m:Nat)(listed:Array Bool)(i:Nat):(ups m listed).setIfInBounds i true=ups m (listed.setIfInBounds i true):=by
 apply Array.ext_getElem?
 intro j
 rw[zH]
 by_cases h:i=j
 ·subst h
  by_cases hl:i<listed.size
  ·rw[Array.getElem?_setIfInBounds_self_of_lt (by rw[Aa8];exact hl),Array.getElem?_setIfInBounds_self_of_lt hl];simp
  ·rw[Array.getElem?_eq_none (by rw[Array.size_setIfInBounds,Aa8];omega),Array.getElem?_eq_none (by rw[Array.size_setIfInBounds];omega)];rfl
 ·rw[Array.getElem?_setIfInBounds_ne h,Array.getElem?_setIfInBounds_ne h,zH]
theorem fB(m:Nat)(listed:Array Bool)(i:Nat)(d:Bool)(h:i<listed.size):(ups m listed).getD i d=(listed.getD i d||decide (m≤i)):=by
 rw[Array.getD_eq_getD_getElem?,Array.getD_eq_getD_getElem?,zH,Array.getElem?_eq_getElem h];rfl
structure Snk(ops:Array Oper)(m:Nat):Prop where
 lt:m<ops.size
 one: ∀j,j<m→ ∃i,j<i∧i≤m∧Ru ops i j=true
 chain: ∀i,m<i→i<ops.size→Ru ops i (i-1)=true
 on: ∀j o,ops[j]? =some o→ ∀e∈o.after,Region.binds .any e=true→e.on<ops.size∧e.on<j
theorem Abv{ops:Array Oper}{m:Nat}(hk:Ae0 ops m=true):Snk ops m:=by
 unfold Ae0 at hk
 simp only[Bool.and_eq_true,decide_eq_true_eq,List.all_eq_true,List.mem_range,List.any_eq_true,Bool.or_eq_true,Bool.not_eq_true'] at hk
 obtain⟨⟨⟨⟨h0,h1⟩,h2⟩,h3⟩,h4⟩:=hk
 refine⟨h0,λj hj=>?_,λi hm hi=>?_,λj o ho e he hb=>?_⟩
 ·obtain⟨i,hi,hji,hw⟩:=h1 j hj
  exact⟨i,hji,by omega,hw⟩
 ·rcases h2 i hi with h|h
  ·omega
  ·exact h
 ·have hlt:=(Array.getElem?_eq_some_iff.1 ho).1
  have hon:e.on<ops.size:=by
   rcases h3 o (Array.mem_toList_iff.2 (Array.mem_of_getElem? ho)) e (Array.mem_toList_iff.2 he) with h|h
   ·rw[hb] at h;cases h
   ·exact h
  refine⟨hon,?_⟩
  have hwt:Ru ops j e.on=true:=by
   unfold Ru
   rw[ho]
   simp only[List.any_eq_true,Array.mem_toList_iff,Bool.and_eq_true,beq_iff_eq]
   exact⟨e,he,hb,rfl⟩
  rcases h4 j hlt e.on hon with h|h
  ·rw[hwt] at h;cases h
  ·exact h
theorem Acb{ops:Array Oper}{m:Nat}{listed:Array Bool}(hk:Snk ops m)(hc:Ag8 ops listed)(hr:m∈Region.ready .any ops listed): ∀d j,j+d+1=m→listed.getD j false=true:=by
 intro d
 induction d using Nat.strongRecOn with
 |ind d ih=>
  intro j hj
  obtain⟨i,hji,hi,hw⟩:=hk.one j (by omega)
  by_cases he:i=m
  ·subst he;exact W9 hr hw
  ·exact hc i j (ih (m-1-i) (by omega) i (by omega)) hw
theorem oK{ops:Array Oper}{m i:Nat}{listed:Array Bool}(hk:Snk ops m)(hs:listed.size=ops.size)(hi:i<ops.size)(h0:listed.getD i false=false)(hb: ∀j,j<i→listed.getD j false=true):i∈Region.ready .any ops listed:=by
 rw[mem_ready]
 refine⟨by rw[qG (by omega)];exact h0,ops[i],Array.getElem?_eq_getElem hi,λe he hbd=>?_⟩
 exact hb _ (hk.on i _ (Array.getElem?_eq_getElem hi) e he hbd).2
theorem rU{ops:Array Oper}{m i:Nat}{listed:Array Bool}(hk:Snk ops m)(hs:listed.size=ops.size)(hm:i<ops.size)(hi:listed.getD i false=false):Region.ready .any ops listed≠[]:=by
 intro h0
 have key: ∀n,n≤ops.size→ ∀j,j<n→listed.getD j false=true:=by
  intro n
  induction n with
  |zero=>intro _ j hj;omega
  |succ n ih=>
   intro hn j hj
   by_cases hjn:j<n
   ·exact ih (by omega) j hjn
   ·have:j=n:=by omega
    subst this
    cases hb:listed.getD j false with
    |true=>rfl
    |false=>
     have:=oK hk hs (by omega) hb (λx hx=>ih (by omega) x hx)
     rw[h0] at this
     cases this
 have:=key ops.size (Nat.le_refl _) i hm
 rw[hi] at this
 cases this
theorem uC{md:Region.Mode}{ops:Array Oper}{fuel t:Nat}{listed:Array Bool}(hne:Region.ready md ops listed≠[]):
  ∃i,i∈Region.ready md ops listed∧ ∃t',Region.linearise.go md ops (fuel+1) t listed []=i::Region.linearise.go md ops fuel t' (listed.setIfInBounds i true) []:=by
 have hlt:t%(Region.ready md ops listed).length<(Region.ready md ops listed).length:=Nat.mod_lt _ (List.length_pos_iff.2 hne)
 refine⟨(Region.ready md ops listed)[t%(Region.ready md ops listed).length],List.getElem_mem hlt,t/(Region.ready md ops listed).length,?_⟩
 conv=>lhs;unfold Region.linearise.go
 change (match (Region.ready md ops listed)[t%(Region.ready md ops listed).length]? with
   |some i=>Region.linearise.go md ops fuel (t/(Region.ready md ops listed).length) (listed.setIfInBounds i true) [i]
   |none=>[].reverse)=_
 rw[List.getElem?_eq_getElem hlt]
 simp only[]
 rw[linearise_go_acc,List.reverse_singleton,List.singleton_append]
theorem yY{ops:Array Oper}{m:Nat}(hk:Snk ops m): ∀(d fuel t i:Nat) (listed:Array Bool),i+d=ops.size→m≤i→d≤fuel→listed.size=ops.size→(∀j,j<i→listed.getD j false=true)→(∀j,i≤j→j<ops.size→listed.getD j false=false)→
  Region.linearise.go .any ops fuel t listed []=List.range' i d
 |0,fuel,t,i,listed,hi,_,_,hs,hb,_=>by
  have hnil:Region.ready .any ops listed=[]:=by
   rw[List.eq_nil_iff_forall_not_mem]
   intro j hj
   obtain⟨h0,o,ho,_⟩:=mem_ready.1 hj
   have hlt:=(Array.getElem?_eq_some_iff.1 ho).1
   rw[qG (by omega),hb j (by omega)] at h0
   cases h0
  cases fuel with
  |zero=>rfl
  |succ n=>
   unfold Region.linearise.go
   change (match (Region.ready .any ops listed)[t%(Region.ready .any ops listed).length]? with
    |some i=>Region.linearise.go .any ops n (t/(Region.ready .any ops listed).length) (listed.setIfInBounds i true) [i]
    |none=>[].reverse)=_
   rw[hnil];rfl
 |d+1,0,_,_,_,_,_,hf,_,_,_=>by omega
 |d+1,fuel+1,t,i,listed,hi,hm,hf,hs,hb,hu=>by
  have hlt:i<ops.size:=by omega
  have hri:=oK hk hs hlt (hu i (Nat.le_refl _) hlt) hb
  obtain⟨j,hj,t',e⟩:=uC (fuel:=fuel) (t:=t) (List.ne_nil_of_mem hri)
  have hji:j=i:=by
   obtain⟨h0,o,ho,hall⟩:=mem_ready.1 hj
   have hjl:=(Array.getElem?_eq_some_iff.1 ho).1
   rw[qG (by omega)] at h0
   rcases Nat.lt_or_ge j i with h|h
   ·rw[hb j h] at h0;cases h0
   ·rcases Nat.eq_or_lt_of_le h with h|h
    ·exact h.symm
    ·have:=W9 hj (hk.chain j (by omega) hjl)
     rw[hu (j-1) (by omega) (by omega)] at this;cases this
  subst hji
  rw[e,List.range'_succ]
  congr 1
  refine yY hk d fuel t' (j+1) _ (by omega) (by omega) (by omega) (by rw[Array.size_setIfInBounds];exact hs) (λx hx=>?_) (λx hx hx2=>?_)
  ·rw[Wv (by omega)]
   by_cases h:x=j
   ·rw[if_pos h]
   ·rw[if_neg h];exact hb x (by omega)
  ·rw[Wv (by omega),if_neg (by omega)];exact hu x (by omega) hx2
theorem Aeb{P:Program}{ops:Array Oper}{m:Nat}{K:Act→World→Prop}{ro:Option Nat}{n:Nat}(hk:Snk ops m)(hd:Zt ops.toList=true): ∀(fuel fl t:Nat) (listed:Array Bool) (a:Act) (w:World),
  listed.size=ops.size→Ag8 ops listed→(∀j,m≤j→j<ops.size→listed.getD j false=false)→fuel+(ops.size-m)≤fl→
  wpAny P .any ops (qn (xU P ops m K)) fuel (ups m listed) a w→wpOpsIn (FW ro) n P ops (qn K) (Region.linearise.go .any ops fl t listed []) a w:=by
 have hpos:=hk.lt
 intro fuel
 induction fuel with
 |zero=>
  intro fl t listed a w hs hc hu hfl h
  obtain⟨fl,rfl⟩: ∃n,fl=n+1:=⟨fl-1,by omega⟩
  obtain⟨i,hmem,t',e⟩:=uC (fuel:=fl) (t:=t) (rU hk hs hpos (hu m (Nat.le_refl _) hpos))
  rw[e]
  obtain⟨h0,o,ho,hall0⟩:=mem_ready.1 hmem
  have hil:=(Array.getElem?_eq_some_iff.1 ho).1
  by_cases him:i<m
  ·exfalso
   have:i∈Region.ready .any ops (ups m listed):=by
    rw[mem_ready]
    refine⟨?_,o,ho,λe he hb=>?_⟩
    ·rw[fB m listed i true (by omega),h0,decide_eq_false (by omega)];rfl
    ·have:=(hk.on i o ho e he hb).1
     rw[fB m listed e.on false (by omega),hall0 e he hb];rfl
   rw[h.1] at this
   cases this
  ·have him2:i=m:=by
    rcases Nat.eq_or_lt_of_le (Nat.le_of_not_lt him) with h|h
    ·exact h.symm
    ·have:=W9 hmem (hk.chain i h hil)
     rw[hu (i-1) (by omega) (by omega)] at this;cases this
   subst him2
   have hall: ∀j,j<i→listed.getD j false=true:=λj hj=>Acb hk hc hmem (i-1-j) j (by omega)
   have hl:Region.linearise.go .any ops fl t' (listed.setIfInBounds i true) []=List.range' (i+1) (ops.size-(i+1)):=
    yY hk (ops.size-(i+1)) fl t' (i+1) _ (by omega) (by omega) (by omega) (by rw[Array.size_setIfInBounds];exact hs) (λx hx=>by
     rw[Wv (by omega)]
     by_cases h:x=i
     ·rw[if_pos h]
     ·rw[if_neg h];exact hall x (by omega)) (λx hx hx2=>by rw[Wv (by omega),if_neg (by omega)];exact hu x (by omega) hx2)
   have hY:xU P ops i K a w:=h.2
   have:=Yd (ro:=ro) (n:=n) _ a w hY
   rw[hl,←List.range'_succ (s:=i) (n:=ops.size-(i+1)) (step:=1)]
   have hlen:ops.size-(i+1)+1=(ops.toList.drop i).length:=by rw[List.length_drop,Array.length_toList];omega
   rw[hlen,wpOpsIn_eq_wpListIn (ops:=ops) (ops.toList.drop i) i (λj=>by rw[List.getElem?_drop,Array.getElem?_toList])]
   exact this
 |succ fuel ih=>
  intro fl t listed a w hs hc hu hfl h
  obtain⟨fl,rfl⟩: ∃n,fl=n+1:=⟨fl-1,by omega⟩
  obtain⟨i,hmem,t',e⟩:=uC (fuel:=fl) (t:=t) (rU hk hs hpos (hu m (Nat.le_refl _) hpos))
  rw[e]
  obtain⟨h0,o,ho,hall0⟩:=mem_ready.1 hmem
  have hil:=(Array.getElem?_eq_some_iff.1 ho).1
  by_cases him:i<m
  ·have h2:i∈Region.ready .any ops (ups m listed):=by
    rw[mem_ready]
    refine⟨?_,o,ho,λe he hb=>?_⟩
    ·rw[fB m listed i true (by omega),h0,decide_eq_false (by omega)];rfl
    ·have:=(hk.on i o ho e he hb).1
     rw[fB m listed e.on false (by omega),hall0 e he hb];rfl
   have hnd:=jL hd o (Array.mem_toList_iff.2 (Array.mem_of_getElem? ho))
   have hop:=h.2 i h2
   have rest: ∀a' w',wpAny P .any ops (qn (xU P ops m K)) fuel ((ups m listed).setIfInBounds i true) a' w'→wpOpsIn (FW ro) n P ops (qn K) (Region.linearise.go .any ops fl t' (listed.setIfInBounds i true) []) a' w':=by
    intro a' w' hw
    rw[An0] at hw
    refine ih fl t' _ a' w' (by rw[Array.size_setIfInBounds];exact hs) (hc.set hs hmem) (λj hj hj2=>?_) (by omega) hw
    rw[Wv (by omega),if_neg (by omega)];exact hu j hj hj2
   rw[wpOpsIn_cons]
   unfold wpOp at hop
   unfold wpOpIn
   simp only[ho] at hop⊢
   split
   ·rename_i hw
    rw[if_pos hw] at hop
    rcases hop with hop|⟨_,a0,w0,h0⟩
    ·exact Oper.Ae2 rest (zI hop hnd)
    ·exact h0.elim
   ·rename_i hw
    rw[if_neg hw] at hop
    exact⟨λ_ _=>trivial,rest _ _ hop⟩
  ·have him2:i=m:=by
    rcases Nat.eq_or_lt_of_le (Nat.le_of_not_lt him) with h|h
    ·exact h.symm
    ·have:=W9 hmem (hk.chain i h hil)
     rw[hu (i-1) (by omega) (by omega)] at this;cases this
   subst him2
   have hall: ∀j,j<i→listed.getD j false=true:=λj hj=>Acb hk hc hmem (i-1-j) j (by omega)
   have hnil:Region.ready .any ops (ups i listed)=[]:=by
    rw[List.eq_nil_iff_forall_not_mem]
    intro j hj
    obtain⟨h0,o,ho,_⟩:=mem_ready.1 hj
    have hlt:=(Array.getElem?_eq_some_iff.1 ho).1
    rw[fB i listed j true (by omega),qG (by omega)] at h0
    rcases Nat.lt_or_ge j i with h|h
    ·rw[hall j h] at h0;simp at h0
    ·rw[decide_eq_true h] at h0;simp at h0
   have hl:Region.linearise.go .any ops fl t' (listed.setIfInBounds i true) []=List.range' (i+1) (ops.size-(i+1)):=
    yY hk (ops.size-(i+1)) fl t' (i+1) _ (by omega) (by omega) (by omega) (by rw[Array.size_setIfInBounds];exact hs) (λx hx=>by
     rw[Wv (by omega)]
     by_cases h:x=i
     ·rw[if_pos h]
     ·rw[if_neg h];exact hall x (by omega)) (λx hx hx2=>by rw[Wv (by omega),if_neg (by omega)];exact hu x (by omega) hx2)
   have hY:xU P ops i K a w:=h.1 hnil
   have:=Yd (ro:=ro) (n:=n) _ a w hY
   rw[hl,←List.range'_succ (s:=i) (n:=ops.size-(i+1)) (step:=1)]
   have hlen:ops.size-(i+1)+1=(ops.toList.drop i).length:=by rw[List.length_drop,Array.length_toList];omega
   rw[hlen,wpOpsIn_eq_wpListIn (ops:=ops) (ops.toList.drop i) i (λj=>by rw[List.getElem?_drop,Array.getElem?_toList])]
   exact this
theorem Ac2: ∀(rs:List (Bool×List CK)) (x:TR rs),(dP rs x).length=rs.length
 |[],_=>rfl
 |_::rs,x=>by simp[dP,Ac2 rs x.2]
theorem Agj: ∀(ps:List Tmp) (vs:List Value) (t:Array Value),zO ps vs t=(ps.zip vs).foldl (λt p=>t.setIfInBounds p.1 p.2) t
 |[],_,t=>by simp[zO]
 |p::ps,[],t=>by simp[zO]
 |p::ps,v::vs,t=>by simp only[zO,List.zip_cons_cons,List.foldl_cons];exact Agj ps vs _
theorem Ai6(ps:Array Tmp)(vs:List Value)(t:Array Value):(ps.zip vs.toArray).foldl (λt (p,v)=>t.setIfInBounds p v) t=zO ps.toList vs t:=by
 rw[Agj,←Array.foldl_toList,Array.toList_zip]
theorem Turn.sF{B:Nat}{w w':World}{row:Option Nat}(g:w.grownBy w' row)(hr: ∀r,row=some r→B≤r∧ ∃o:Obj,w.heap[r]? =some o∧o.isCells=false):Turn B w w':=
 ⟨g.os,g.tape,g.output,g.size,λk o hk ho=>by
  refine(g.block k (Array.getElem?_eq_some_iff.1 hk).1 (λe=>?_)).trans hk
  obtain⟨hB,o',ho',hc⟩:=hr k e.symm
  rw[hk] at ho'
  injection ho' with ho'
  subst ho'
  rcases ho with ho|ho
  ·omega
  ·rw[ho] at hc;cases hc⟩
def cJ:Code→Option Nat| .ret=>some 0| .exit i=>some (i+1)|_=>none
theorem lY{P:Program}{g:FuncId}(hc:callable P g=true)(args:Array Value)(w:World):(callFunc g args).run P w=.ok (.enter g args) w:=by
 unfold callable at hc
 split at hc
 case h_2=>cases hc
 rename_i fn hfn
 simp only[Bool.and_eq_true,Bool.not_eq_true'] at hc
 obtain⟨h1,h2⟩:=hc
 have h3:fn.body≠none:=by intro hb;rw[hb] at h2;cases h2
 have h4:fn.name≠ "runtime.NumGoroutine":=by simpa using h1
 simp[callFunc,hfn,h4,h3,program,bind,Sem.bind,Sem.run,pure]
theorem zW{P:Program}{g:Operand}{ps:Array Tmp}{assign body:Code}{rs:List (Bool×List CK)}{K:Act→World→Prop}{Q:Exit→Act→World→Prop}{a:Act}{w:World}{n:Nat}
  {rnd:TR rs→(World→((World→Prop)→(Nat→World→Prop)→World→Prop)→Prop)→World→Prop} {ex:List Nat}
  (pA:TR rs→(Act→World→Prop)→World→Prop) (pB:(World→Prop)→(Nat→World→Prop)→Act→World→Prop)
  (hrnd: ∀x k W,rnd x k W→pA x (λa' W1=>k W1 λgo lv W2=>pB go lv a' W2) W)
  (hA: ∀(l:Nat) x (k:Act→World→Prop) W,pA x k W→assign.wpIn (FW (some l)) 1 P (Exit.then k (λ_ _ _=>False)) {tmps:=zO ps.toList (dP rs x) a.tmps,defers:=[]} W)
  (hB: ∀(l:Nat) go lv a' W,pB go lv a' W→body.wpIn (FW (some l)) 1 P (λe a W=>match e with| .normal=>go W|e=>lvK ex lv e W) a' W)
  (hps:ps.size=rs.length)
  (h:RfT P (a.eval g) rs w rnd (λD W=>K {a with defers:=Abm D::a.defers} W) (ex.map λi=>(i,λD W=>Q (unN i) {a with defers:=Abm D::a.defers} W))):
  (Code.rangeFunc g ps assign body).wpIn (FW none) n P (QK K Q) a w:=by
 refine wpW (n:=3) ?_
 obtain⟨V,xs,M,I,Ix,hits,h0,hr,hdone,hstop⟩:=h
 unfold ItS at hits
 split at hits
 case h_2=>exact hits.elim
 rename_i gf fi lb hg
 obtain⟨rfl,hcal,hseq⟩:=hits
 let I':List {x:TR rs//V x}→World→Prop:=λpre W=>w.heap.size≤W.heap.size∧ ∀W2,Turn w.heap.size W W2→I (pre.map (·.1)) W2
 let Ix':Code→List {x:TR rs//V x}→World→Prop:=λc pre W=> ∃i,cJ c=some i∧ex.contains i=true∧ ∀W2,Turn w.heap.size W W2→Ix i (pre.map (·.1)) W2
 have hI'a: ∀pre W W2,I' pre W→Turn w.heap.size W W2→I' pre W2:=λpre W W2 h t=>⟨Nat.le_trans h.1 t.size,λW3 t'=>h.2 W3 (t.trans t')⟩
 have hRk: ∀W W',Rnd w.heap.size M W W'→KeepsFrom w.heap.size W W'∧uZ w.heap.size M W W':=λW W' r=>
  ⟨⟨r.size,λk o hk h1 h2=>r.high k o hk h1 h2⟩,λk o hk hM h1=>r.low k o hk hM h1⟩
 refine wpIn_rangeFunc_ownH (F:=FW none) (n:=3) rfl (by decide) hg trivial (lY hcal) (α:={x:TR rs//V x}) (encs:=λx=>(dP rs x.1).toArray)
  (Kp:=uZ w.heap.size M) (w0:=w) hseq (λh1 h2 k o hk hM h=>h2 k o hk hM (h1 k o hk hM h)) ?_ (Below.refl _ _) (λx=>by simp[Ac2,hps]) I' Ix' ?_ ?_ ⟨Nat.le_refl _,h0⟩
  (λx a' W=> ∀W2,Turn w.heap.size W W2→ ∀pre,I' pre W2→pre.length<xs.length→ ∀l,body.wpIn (FW (some l)) 1 P (ownPostG w.heap.size (uZ w.heap.size M) I' Ix' (pre++[x]) W2) a' W2) ?_ ?_ ?_ ?_ ?_
 ·intro W l o o' hl ho hc hw k o2 hk hM h2
  show(W.putObj l o').heap[k]? =_
  rw[World.putObj_heap_other (by omega)];exact h2
 ·exact λpre W W' row hs g hr=>hI'a pre W W' hs (Turn.sF g hr)
 ·rintro c pre W W' row ⟨i,h1,h2,h3⟩ g hr
  exact⟨i,h1,h2,λW2 t=>h3 W2 ((Turn.sF g hr).trans t)⟩
 ·intro x a' s W W' row hs g hr W2 t
  exact hs W2 ((Turn.sF g hr).trans t)
 ·intro l pre x W K0 hi hK
  have h1:=hA l x.1 _ W (hrnd x.1 _ W (hr x.1 W x.2 hi.1))
  rw[Ai6]
  refine wpIn_mono h1 ?_
  intro e a' W1 h
  cases e with
  |normal=>
   obtain⟨t1,ext,hb⟩:=h
   refine hK a' W1 ⟨t1.size,λk o _ hk _=>ext k o hk⟩ (λk o _ _ hk=>ext k o hk) (hI'a _ _ _ hi t1) ?_
   intro W2 t pre2 hi2 hlen l'
   have h2:=hb W2 t (pre2.map (·.1)) (hi2.2 W2 (Turn.refl _ _)) (by rw[List.length_map];exact hlen)
   refine wpIn_mono (hB l' _ _ a' W2 h2) ?_
   have em:(pre2++[x]).map (·.1)=pre2.map (·.1)++[x.1]:=by simp
   have leave: ∀(e:Exit) (c:Code) (i:Nat) (W3:World),exN e=some i→cJ c=some i→lvK ex (λe W3=>Rnd w.heap.size M W2 W3∧ ∀W4,Turn w.heap.size W3 W4→Ix e (pre2.map (·.1)++[x.1]) W4) e W3→
     KeepsFrom w.heap.size W2 W3∧Ix' c (pre2++[x]) W3:=by
    intro e c i W3 he hc h
    unfold lvK at h
    rw[he] at h
    simp only at h
    split at h
    case isFalse=>exact h.elim
    rename_i hex
    refine⟨(hRk _ _ h.1).1,i,hc,hex,?_⟩
    rw[em];exact h.2
   intro e a3 W3 h
   cases e with
   |normal=>
    refine⟨(hRk _ _ h.1).1,(hRk _ _ h.1).2,Nat.le_trans hi2.1 h.1.size,?_⟩
    rw[em];exact h.2
   |ret=>exact leave .ret .ret 0 W3 rfl rfl h
   |exit id=>exact leave (.exit id) (.exit id) (id+1) W3 rfl rfl h
   |goto t=>exact h.elim
   |panic ch=>exact h.elim
   |outgrown=>exact h.elim
  |_=>exact h
 ·intro l pre x a' W hl _ hi hax hlen
  exact hax W (Turn.refl _ _) pre hi hlen l
 ·intro D ys W hD hS hi hk
  have:=hi.2 W (Turn.refl _ _)
  rw[hS] at this
  exact hdone D W hD this hk
 ·rintro D c pre W hD hSp ⟨i,hc,hex,hi⟩ hk
  have hm:=hstop (i,λD W=>Q (unN i) {a with defers:=Abm D::a.defers} W) (List.mem_map.2 ⟨i,by simpa using hex,rfl⟩) D _ W hD hSp (hi W (Turn.refl _ _)) hk
  cases c<;>first|(injection hc with hc;subst hc;first|exact wpIn_ret hm|exact wpIn_exit hm)|cases hc
theorem Zr{P:Program}(hm:P.follows .mixedOrders=true)(ro:Option Nat){n:Nat}: ∀(c:Code) (h:Hn) (K:Act→World→Prop) (Q:Exit→Act→World→Prop) (a:Act) (w:World),
  (ro=none∨Vm c=true)→pw P c h K Q a w→c.wpIn (FW ro) n P (QK K Q) a w
 | .skip,_,K,Q,a,w,_,h=>wpIn_skip h
 | .label _,_,K,Q,a,w,_,h=>wpIn_label h
 | .seq x y,hn,K,Q,a,w,nr,h=>by
  have nx:ro=none∨Vm x=true:=nr.imp id λnr=>by simp only[Vm,Bool.and_eq_true] at nr;exact nr.1
  have ny:ro=none∨Vm y=true:=nr.imp id λnr=>by simp only[Vm,Bool.and_eq_true] at nr;exact nr.2
  unfold pw at h
  refine wpIn_seq ?_
  split at h
  ·split at h
   case isFalse=>exact h.elim
   rename_i hs
   rw[Bool.and_eq_true] at hs
   obtain⟨J,hJ,hB⟩:=h
   have h1:pw P x hn.l (λa' w'=>pw P y hn.r K Q a' w') Q a w:=by
    refine jB x hn.l _ _ Q Q a w ?_ (λ_ _ _ _ h=>h) hs.2 hJ
    intro a' w' hA hj
    unfold onL at hj
    split at hj
    ·rename_i z hz
     have:=hB z w' hj (λi=>a'.tmps.getD i undef)
     rwa [Agb hA hz] at this
    ·exact hj.elim
   refine wpIn_mono (Zr hm ro x hn.l _ Q a w nx h1) ?_
   intro e a' w' h
   cases e with
   |normal=>exact Zr hm ro y hn.r K Q a' w' ny h
   |_=>exact h
  ·refine wpIn_mono (Zr hm ro x hn.l _ Q a w nx h) ?_
   intro e a' w' h
   cases e with
   |normal=>exact Zr hm ro y hn.r K Q a' w' ny h
   |_=>exact h
 | .cond c x y,hn,K,Q,a,w,nr,h=>by
  have nx:ro=none∨Vm x=true:=nr.imp id λnr=>by simp only[Vm,Bool.and_eq_true] at nr;exact nr.1
  have ny:ro=none∨Vm y=true:=nr.imp id λnr=>by simp only[Vm,Bool.and_eq_true] at nr;exact nr.2
  unfold pw at h
  split at h
  case h_2=>exact h.elim
  rename_i b hb
  cases b
  ·exact wpIn_cond hb (Zr hm ro y hn.r K Q a w ny h)
  ·exact wpIn_cond hb (Zr hm ro x hn.l K Q a w nx h)
 | .block id c,hn,K,Q,a,w,nr,h=>by
  unfold pw at h
  refine wpIn_block (wpIn_mono (Zr hm ro c hn K _ a w nr h) ?_)
  intro e a' w' h
  cases e with
  |exit i=>exact h
  |_=>exact h
 | .exit id,_,_,_,_,_,_,h=>wpIn_exit h
 | .ret,_,_,_,_,_,_,h=>wpIn_ret h
 | .region _ ops false,hn,K,Q,a,w,nr,h=>by
  unfold pw at h
  split at h
  ·exact wpIn_region_list (qY _ a w nr h)
  ·exact wpIn_mono (wpIn_region_list (Yd _ a w h)) Al5
 | .region _ ops true,hn,K,Q,a,w,_,h=>by
  unfold pw at h
  split at h
  ·split at h
   case isFalse=>exact h.elim
   rename_i hc
   obtain⟨h1,h2,h3,h5⟩:=hc
   have hk:=Abv h3
   have hlt:=hk.lt
   refine wpIn_mono (Q:=qn K) (wpIn_region_draw λt=>?_) Al5
   simp only[Region.schedule,hm,Bool.true_or,if_true]
   have hfl: ∀j,(Array.replicate ops.size false).getD j false=false:=λj=>by
    simp only[Array.getD,Array.size_replicate];split<;>simp
   have hcl:Ag8 ops (Array.replicate ops.size false):=λj i hj _=>by rw[hfl] at hj;cases hj
   have h6:=jV (C:=CC ops [] []) _ _ _ _ (Sr h1 hn.plan hn.m _ [] [] a _ h5 trivial h)
   exact Aeb (ro:=ro) (n:=n) hk h2 hn.m ops.size t (Array.replicate ops.size false) a _ (by simp) hcl (λj _ _=>hfl j) (by omega) h6
  split at h
  case isFalse=>exact h.elim
  rename_i hc
  refine wpIn_mono (Q:=qn K) (wpIn_region_draw λt=>?_) Al5
  refine kG hc.2.1 _ _ _ ?_
  simp only[Region.schedule,hm,Bool.true_or,if_true]
  refine wpAny_sound ops.size t _ a _ (jV (C:=CC ops [] []) _ _ _ _ ?_)
  exact Sr hc.1 hn.plan _ _ [] [] a _ hc.2.2 trivial h
 | .loop c,hn,K,Q,a,w,nr,h=>by
  unfold pw at h
  split at h
  case isFalse=>exact h.elim
  rename_i hs
  rw[Bool.and_eq_true] at hs
  unfold onL at h
  split at h
  case h_2=>exact h.elim
  rename_i x0 hx0
  obtain⟨I,m,h0,hr⟩:=h
  refine wpIn_loop (λa' w'=> ∃x,Aes hn.slots a'.tmps=some x∧I x w'∧Ag (Yo c) a a') (λa' w'=>match Aes hn.slots a'.tmps with|some x=>m x w'|none=>0) ⟨x0,hx0,h0,Ag.refl _ _⟩ ?_
  rintro a1 w1 ⟨x,hx,hI,hA⟩
  have hb:=hr x w1 hI (λi=>a1.tmps.getD i undef)
  rw[Agb hA hx] at hb
  have hb':=jB c hn.l _ (λa' w'=>onL hn.slots a' (λx'=>I x' w'∧m x' w'<m x w1)∧Ag (Yo c) a1 a') Q Q a1 w1 (λa' w' hA' h=>⟨h,hA'⟩) (λ_ _ _ _ h=>h) hs.2 hb
  refine wpIn_mono (Zr hm ro c hn.l _ Q a1 w1 (.inr hs.2) hb') ?_
  intro e a' w' h
  cases e with
  |normal=>
   obtain⟨h1,hA'⟩:=h
   unfold onL at h1
   split at h1
   case h_2=>exact h1.elim
   rename_i x' hx'
   refine⟨⟨x',hx',h1.1,hA.trans hA'⟩,?_⟩
   simp only[hx',hx]
   exact h1.2
  |_=>exact h
 | .rangeFunc g ps assign body,hn,K,Q,a,w,nr,h=>by
  obtain rfl:ro=none:=nr.resolve_right (λh=>by cases h)
  unfold pw at h
  split at h
  case isFalse=>exact h.elim
  rename_i hc
  simp only[Bool.and_eq_true,beq_iff_eq] at hc
  refine zW (ex:=exD (exJ body)) (λx k W=>pw P assign hn.l k (λ_ _ _=>False) {tmps:=zO ps.toList (dP hn.rs x) a.tmps,defers:=[]} W)
   (λgo lv a' W=>pw P body hn.r (λ_ W3=>go W3) (λe _ W3=>lvK (exD (exJ body)) lv e W3) a' W) (λx k W h=>h) ?_ ?_ hc.2 h
  ·intro l x k W h
   refine wpIn_mono (Zr hm (some l) assign hn.l _ _ _ W (.inr hc.1.1) h) ?_
   intro e a' w' h
   cases e<;>exact h
  ·intro l go lv a' W h
   refine wpIn_mono (Zr hm (some l) body hn.r _ _ a' W (.inr hc.1.2) h) ?_
   intro e a' w' h
   cases e<;>exact h
 | .scope ..,_,_,_,_,_,_,h=>h.elim
 | .goto ..,_,_,_,_,_,_,h=>h.elim
 | .refuse ..,_,_,_,_,_,_,h=>h.elim
def Akq(P:Program):List ResultVar→Act→World→(List Value→Prop)→Prop
 |[],_,_,k=>k []
 | .tmp t::rs,a,w,k=>Akq P rs a w λvs=>k (a.tmps.getD t undef::vs)
 | .cell c t::rs,a,w,k=>match a.tmps.getD c undef with
  | .pointer (some p)=>ldW P t (.pointer (some p)) w λv=>Akq P rs a w λvs=>k (v::vs)
  |_=>False
def Awz:List Value→Value
 |[v]=>v
 |vs=>.tuple vs.toArray
def Ape(P:Program)(fn:Func)(R:Value→World→Prop)(a:Act)(w:World):Prop:=Akq P fn.results.toList a w λvs=>R (Awz vs) w
def tkK(D:Nat)(w:World)(k:World→Prop):Prop:=Mark w D∧k (w.putObj D (.deferred none))
def tkL:List Deferred→World→(World→Prop)→Prop
 |[],w,k=>k w
 |d::ds,w,k=>match d.target with| .collected D=>tkK D w λw'=>tkL ds w' k|_=>False
def Ah5(P:Program)(fn:Func)(R:Value→World→Prop)(a:Act)(w:World):Prop:=tkL a.defers w λw'=>Ape P fn R a w'
def wpF(P:Program)(fn:Func)(h:Hn)(args:List Value)(w:World)(R:Value→World→Prop):Prop:=
 match fn.body with
 |none=>False
 |some c=>pw P c h (Ah5 P fn R) (λe a w=>match e with| .ret=>Ah5 P fn R a w|_=>False)
   {tmps:=(args++List.replicate (fn.ntmps-args.length) undef).toArray,defers:=[]} w
theorem oH{P:Program}{a:Act}{w:World}: ∀(rs:List ResultVar) (k:List Value→Prop),Akq P rs a w k→
  ∃vs,k vs∧(rs.mapM λr=>(match r with| .tmp t=>pure (a.tmps.getD t undef)| .cell c t=>do loadVar t (←asAddr (a.tmps.getD c undef)):Sem Value)).run P w=.ok vs w
 |[],k,h=>⟨[],h,rfl⟩
 | .tmp t::rs,k,h=>by
  obtain⟨vs,hk,hr⟩:=oH rs _ h
  refine⟨_,hk,?_⟩
  simp only[List.mapM_cons]
  refine(run_bind (Sem.pure (a.tmps.getD t undef)) _ w rfl).trans ?_
  refine(run_bind _ _ w hr).trans rfl
 | .cell c t::rs,k,h=>by
  unfold Akq at h
  split at h
  case h_2=>exact h.elim
  rename_i p hp
  obtain⟨v,h1,hrun⟩:=tN h
  obtain⟨vs,hk,hr⟩:=oH rs _ h1
  refine⟨_,hk,?_⟩
  simp only[List.mapM_cons]
  have hl:(loadVar t p).run P w=.ok v w:=by
   have:=hrun w (λ_ _=>rfl)
   simp only[Instr.loadAt,Instr.sureAddr] at this
   exact(run_bind (Sem.pure p) _ w rfl).symm.trans this
  rw[hp]
  refine(run_bind (Sem.pure p>>=λq=>loadVar t q) _ w ((run_bind (Sem.pure p) _ w rfl).trans hl)).trans ?_
  refine(run_bind _ _ w hr).trans rfl
theorem Zv{P:Program}{fn:Func}{a:Act}{w:World}{R:Value→World→Prop}(h:Ape P fn R a w): ∃v,(results fn a.tmps).run P w=.ok v w∧R v w:=by
 obtain⟨vs,hk,hr⟩:=oH _ _ h
 refine⟨_,?_,hk⟩
 unfold results
 rw[←Array.toArray_toList (xs:=fn.results),List.mapM_toArray]
 have hm:(List.toArray<$>(fn.results.toList.mapM λr=>(match r with| .tmp t=>pure (a.tmps.getD t undef)| .cell c t=>do loadVar t (←asAddr (a.tmps.getD c undef)):Sem Value))).run P w=.ok vs.toArray w:=by
  rw[Sem.run_map,hr];rfl
 refine(run_bind _ _ w hm).trans ?_
 match vs with
 |[]=>rfl
 |[v]=>rfl
 |v::u::vs=>rfl
theorem zV{P:Program}{fn:Func}{a:Act}{R:Ending→World→Prop}{k:World→Prop}(hk: ∀w,k w→ ∃v,(results fn a.tmps).run P w=.ok v w∧R (.returned v) w):
  ∀(ds:List Deferred) (w:World),tkL ds w k→LeavesInM (FW none) 3 P fn a.tmps R ds .returning w
 |[],w,h=>hk w h
 |d::ds,w,h=>by
  unfold tkL at h
  split at h
  case h_2=>exact h.elim
  rename_i D hD
  obtain⟨hm,h⟩:=h
  exact⟨by simp,.inl ⟨D,_,hD,run_takeDeferred hm,zV hk ds _ h⟩⟩
theorem Ahh{P:Program}(hm:P.follows .mixedOrders=true){f:FuncId}{fn:Func}(hf:P.funcs[f]? =some fn)(h:Hn){args:List Value}{w:World}{R:Value→World→Prop}(hw:wpF P fn h args w R):
  Calls P f args.toArray w λe w'=> ∃v,e=.returned v∧R v w':=by
 unfold wpF at hw
 split at hw
 case h_1=>exact hw.elim
 rename_i c hc
 refine oG.1 (callsIn_of_wp_marks (F:=FW none) (n:=3) hf hc trivial ?_ rfl)
 have e:args.toArray++Array.replicate (fn.ntmps-args.toArray.size) undef=(args++List.replicate (fn.ntmps-args.length) undef).toArray:=by
  apply Array.ext';simp
 rw[e]
 refine wpIn_mono (Zr hm none c h _ _ _ w (.inl rfl) hw) ?_
 intro e a' w' h
 have key:Ah5 P fn R a' w'→LeavesInM (FW none) 3 P fn a'.tmps (λe w'=> ∃v,e=.returned v∧R v w') a'.defers .returning w':=λh=>
  zV (λw h=>by obtain⟨v,hr,hR⟩:=Zv h;exact⟨v,hr,v,rfl,hR⟩) _ _ h
 cases e with
 |normal=>exact key h
 |ret=>exact key h
 |_=>exact h.elim
def paK(ch:List PanicEntry)(Z:Value→World→Prop)(w:World):Prop:=
 match ch with
 |[e]=>(match e.recovered,e.goexit with|false,false=>Z e.v w|_,_=>False)
 |_=>False
def As6(a:Act)(ch:List PanicEntry)(Z:Value→World→Prop)(w:World):Prop:=match a.defers with|[]=>paK ch Z w|_=>False
def Ai2(P:Program)(fn:Func)(h:Hn)(args:List Value)(w:World)(R:Value→World→Prop)(Z:Value→World→Prop):Prop:=
 match fn.body with
 |none=>False
 |some c=>pw P c h (Ah5 P fn R) (λe a w=>match e with| .ret=>Ah5 P fn R a w| .panic ch=>As6 a ch Z w|_=>False)
   {tmps:=(args++List.replicate (fn.ntmps-args.length) undef).toArray,defers:=[]} w
theorem Abc{ch:List PanicEntry}{Z:Value→World→Prop}{w:World}(h:paK ch Z w): ∃v,ch=[{v,recovered:=false}]∧Z v w:=by
 unfold paK at h
 split at h
 ·rename_i e
  split at h
  ·rename_i h1 h2
   obtain⟨v,r,g⟩:=e
   simp only at h1 h2 h
   subst h1 h2
   exact⟨v,rfl,h⟩
  ·exact h.elim
 ·exact h.elim
theorem Adx{P:Program}(hm:P.follows .mixedOrders=true){f:FuncId}{fn:Func}(hf:P.funcs[f]? =some fn)(h:Hn){args:List Value}{w:World}{R Z:Value→World→Prop}(hw:Ai2 P fn h args w R Z):
  Calls P f args.toArray w λe w'=>(∃v,e=.returned v∧R v w')∨ ∃v,e=.panicked [{v,recovered:=false}]∧Z v w':=by
 unfold Ai2 at hw
 split at hw
 case h_1=>exact hw.elim
 rename_i c hc
 refine oG.1 (callsIn_of_wp_marks (F:=FW none) (n:=3) hf hc trivial ?_ rfl)
 have e:args.toArray++Array.replicate (fn.ntmps-args.toArray.size) undef=(args++List.replicate (fn.ntmps-args.length) undef).toArray:=by
  apply Array.ext';simp
 rw[e]
 refine wpIn_mono (Zr hm none c h _ _ _ w (.inl rfl) hw) ?_
 intro e a' w' h
 have key:Ah5 P fn R a' w'→LeavesInM (FW none) 3 P fn a'.tmps (λe w'=>(∃v,e=.returned v∧R v w')∨ ∃v,e=.panicked [{v,recovered:=false}]∧Z v w') a'.defers .returning w':=λh=>
  zV (λw h=>by obtain⟨v,hr,hR⟩:=Zv h;exact⟨v,hr,.inl ⟨v,rfl,hR⟩⟩) _ _ h
 cases e with
 |normal=>exact key h
 |ret=>exact key h
 |panic ch=>
  have h:As6 a' ch Z w':=h
  unfold As6 at h
  split at h
  ·rename_i hd
   obtain⟨v,rfl,hz⟩:=Abc h
   show LeavesInM (FW none) 3 P fn a'.tmps _ a'.defers (.panicking [{v,recovered:=false}]) w'
   rw[hd]
   exact .inr ⟨v,rfl,hz⟩
  ·exact h.elim
 |_=>exact h.elim
def Bj(cs:List Value)(t:TypeId)(w:World)(k:Addr→World→Prop):Prop:=k ⟨w.heap.size,0,none⟩ (w.alloc (.cells cs.toArray t))
def I8(w:World)(k:World→Prop):Prop:=k w.drew
def Ez(op:BinOp)(k:IntKind)(x y:Int):Int:=
 let a:=BitVec.ofInt k.bits x
 let b:=BitVec.ofInt k.bits y
 match op with
 | .and=>k.wrap (a&&&b).toNat
 | .or=>k.wrap (a|||b).toNat
 | .xor=>k.wrap (a^^^b).toNat
 |_=>k.wrap (a&&& ~~~b).toNat
def Ib(k:IntKind)(x y:Int):Int:=k.wrap (x*2^(min y.toNat k.bits))
def I7(k:IntKind)(x y:Int):Int:=x.fdiv (2^(min y.toNat k.bits))
theorem Aom{c:CK}{x y:Tv c}(h:enc c x=enc c y):x=y:=by
 cases c<;>simp only[enc] at h
 case sl=>obtain⟨a,n,m⟩:=x;obtain⟨b,k,l⟩:=y;simp at h;obtain⟨rfl,rfl,rfl⟩:=h;rfl
 case a=>injection h with h;injection h with h
 all_goals first|exact h|(injection h)
theorem uF: ∀(cs:List CK) (x y:Ky cs),encs cs x=encs cs y→x=y
 |[],_,_,_=>rfl
 |c::cs,x,y,h=>by
  simp only[encs,List.cons.injEq] at h
  exact Prod.ext (Aom h.1) (uF cs _ _ h.2)
def Aa0(rs:List (Bool×List CK)):Bool:=rs.all λx=>x.1||x.2.length==1
theorem Amx{ag:Bool}{cs:List CK}{x y:Ky cs}(hs:(ag||cs.length==1)=true)(h:enc1 ag cs x=enc1 ag cs y):x=y:=by
 cases ag
 ·match cs,hs,x,y,h with
  |[c],_,x,y,h=>exact uF [c] x y (by simp[enc1,encs] at h⊢;exact h)
 ·simp only[enc1,if_true,Value.agg.injEq] at h
  exact uF cs x y (by simpa using congrArg Array.toList h)
theorem sS: ∀(rs:List (Bool×List CK)) (x y:TR rs),Aa0 rs=true→dP rs x=dP rs y→x=y
 |[],_,_,_,_=>rfl
 |c::rs,x,y,hs,h=>by
  simp only[Aa0,List.all_cons,Bool.and_eq_true] at hs
  simp only[dP,List.cons.injEq] at h
  exact Prod.ext (Amx hs.1 h.1) (sS rs _ _ hs.2 h.2)
theorem qN{tup:Bool}{rs:List (Bool×List CK)}{x y:TR rs}(hs:Aa0 rs=true)(ht:(tup||rs.length==1)=true)(h:encR tup rs x=encR tup rs y):x=y:=by
 cases tup
 ·match rs,ht,x,y,hs,h with
  |[c],_,x,y,hs,h=>exact sS [c] x y hs (by simp[encR,dP] at h⊢;exact h)
 ·simp only[encR,if_true,Value.tuple.injEq] at h
  exact sS rs x y hs (by simpa using congrArg Array.toList h)
theorem Avj{P:Program}(hm:P.follows .mixedOrders=true){f:FuncId}{fn:Func}(hf:P.funcs[f]? =some fn){h:Hn}{args:List Value}{w:World}{tup:Bool}{rs:List (Bool×List CK)}
  (wpT:(TR rs→World→Prop)→Prop) (heq: ∀R,wpF P fn h args w R=wpT λr w=>R (encR tup rs r) w) (hs:(Aa0 rs&&(tup||rs.length==1))=true) {k:TR rs→World→Prop} (hk:wpT k):
  Ad P f args w tup rs k:=by
 rw[Bool.and_eq_true] at hs
 have e:(λ(r:TR rs) (w:World)=> ∃r',encR tup rs r=encR tup rs r'∧k r' w)=k:=by
  funext r w
  exact propext ⟨λ⟨r',h1,h2⟩=>qN hs.1 hs.2 h1▸h2,λh=>⟨r,rfl,h⟩⟩
 have hw:wpF P fn h args w λv w'=> ∃r,v=encR tup rs r∧k r w':=by
  rw[heq,e];exact hk
 refine Calls.mono (Ahh hm hf h hw) ?_
 rintro e w' ⟨v,rfl,r,rfl,h⟩
 exact⟨r,rfl,h⟩
theorem Cb{P:Program}(hm:P.follows .mixedOrders=true){f:FuncId}{fn:Func}(hf:P.funcs[f]? =some fn)(h:Hn){args:List Value}{w:World}{tup:Bool}{rs:List (Bool×List CK)}{wpT:(TR rs→World→Prop)→Prop}
  (heq: ∀R,wpF P fn h args w R=wpT λr w=>R (encR tup rs r) w:=by intro R;kernel_rfl) (hs:(Aa0 rs&&(tup||rs.length==1))=true:=by rfl): ∀⦃k:TR rs→World→Prop⦄,wpT k→Ad P f args w tup rs k:=λk hk=>
 Avj hm hf wpT heq hs hk
theorem Asj{P:Program}(hm:P.follows .mixedOrders=true){f:FuncId}{fn:Func}(hf:P.funcs[f]? =some fn){h:Hn}{args:List Value}{w:World}{tup:Bool}{rs:List (Bool×List CK)}
  (wpT:(TR rs→World→Prop)→(Value→World→Prop)→Prop) (heq: ∀R Z,Ai2 P fn h args w R Z=wpT (λr w=>R (encR tup rs r) w) Z) (hs:(Aa0 rs&&(tup||rs.length==1))=true) {k:TR rs→World→Prop} {kp:Value→World→Prop} (hk:wpT k kp):
  bV P f args w tup rs k kp:=by
 rw[Bool.and_eq_true] at hs
 have e:(λ(r:TR rs) (w:World)=> ∃r',encR tup rs r=encR tup rs r'∧k r' w)=k:=by
  funext r w
  exact propext ⟨λ⟨r',h1,h2⟩=>qN hs.1 hs.2 h1▸h2,λh=>⟨r,rfl,h⟩⟩
 have hw:Ai2 P fn h args w (λv w'=> ∃r,v=encR tup rs r∧k r w') kp:=by
  rw[heq,e];exact hk
 refine Calls.mono (Adx hm hf h hw) ?_
 rintro e w' (⟨v,rfl,r,rfl,h⟩|h)
 ·exact .inl ⟨r,rfl,h⟩
 ·exact .inr h
theorem Ah1{P:Program}(hm:P.follows .mixedOrders=true){f:FuncId}{fn:Func}(hf:P.funcs[f]? =some fn)(h:Hn){args:List Value}{w:World}{tup:Bool}{rs:List (Bool×List CK)}{wpT:(TR rs→World→Prop)→(Value→World→Prop)→Prop}
  (heq: ∀R Z,Ai2 P fn h args w R Z=wpT (λr w=>R (encR tup rs r) w) Z:=by intro R Z;kernel_rfl) (hs:(Aa0 rs&&(tup||rs.length==1))=true:=by rfl): ∀⦃k:TR rs→World→Prop⦄⦃kp:Value→World→Prop⦄,wpT k kp→bV P f args w tup rs k kp:=λk kp hk=>
 Asj hm hf wpT heq hs hk
abbrev KI:CK:=.i .i64
abbrev KU:CK:=.i .u16
abbrev iV(n:Int):Value:=.int .i64 n
abbrev uV(n:Int):Value:=.int .u16 n
abbrev hd(k:Nat)(p:Addr)(w:World):Ent:=(k,p,(w.cell? p).getD undef)
abbrev wI:Int→Int:=IntKind.wrap .i64
abbrev WP:Type:=World→Prop
abbrev NP:Type:=Nat→Prop
def hs:Nat→Hn→Hn
 |0,h=>h
 |k+1,h=>.s .n (hs k h)
def ks:List Nat→Pl→Pl
 |[],p=>p
 |i::l,p=>.tk i (ks l p)
abbrev Rl(cs:List CK)(x:Ky cs):Value:=.agg (encs cs x).toArray
end Go.Eng
