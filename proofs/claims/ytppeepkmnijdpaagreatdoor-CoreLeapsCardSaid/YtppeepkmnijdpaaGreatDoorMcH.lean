import Derived.Test.YtppeepkmnijdpaaGreatDoorLcS
import Derived.Test.YtppeepkmnijdpaaGreatDoorEngD
import Derived.Test.YtppeepkmnijdpaaGreatDoorCrune
namespace Go.Proofs.YtppeepkmnijdpaaGreatDoor
open Go.Eng Go Tryz
set_option linter.unusedSimpArgs false
set_option linter.unusedVariables false
set_option maxRecDepth 100000
set_option maxHeartbeats 8000000
theorem Am3{a b:Bs}{A B:Prop}(h1:a=b→A)(h2:a≠b→B):Aj (Fb a==Fb b) A B:=by
 by_cases h:a=b
 ·subst h;rw[(Vx _ _).2 rfl];exact h1 rfl
 ·rw[show(Fb a==Fb b)=false from Bool.eq_false_iff.2 λe=>h (Afw ((Vx _ _).1 e))];exact h2 h
theorem Abq(a b:Bs):(Fb a==Fb b)=decide (a=b):=bq ⟨λe=>Afw ((Vx _ _).1 e),λe=>by rw[e];exact(Vx _ _).2 rfl⟩
def vI(w:World)(r:Nat)(l:List (Bs×Int)):Prop:= ∃es c,w.heap[r]? =some (.map es c)∧es.toList.map (λe=>(e.key,e.val))=l.map λp=>(Value.string (Fb p.1),Value.int .i64 p.2)
theorem vI.lt{w:World}{r:Nat}{l:List (Bs×Int)}(h:vI w r l):r<w.heap.size:=by obtain⟨_,_,h,_⟩:=h;exact(Array.getElem?_eq_some_iff.1 h).1
theorem vI.upd{S:NP}{w w':World}{r:Nat}{l:List (Bs×Int)}(h:vI w r l)(u:Ap S w w')(hS: ¬S r):vI w' r l:=by
 obtain⟨es,c,h1,h2⟩:=h
 exact⟨es,c,by rw[u.block r (Array.getElem?_eq_some_iff.1 h1).1 hS];exact h1,h2⟩
def yT:List (Bs×Int)→Bs→Nat→Option (Nat×Value)
 |[],_,_=>none
 |p::l,k,i=>if k=p.1 then some (i,iV p.2) else yT l k (i+1)
def uT:List (Bs×Int)→Bs→Int
 |[],_=>0
 |p::l,k=>if k=p.1 then p.2 else uT l k
theorem Aqh: ∀(es:List MapEntry) (l:List (Bs×Int)) (k:Bs) (i:Nat),es.map (λe=>(e.key,e.val))=l.map (λp=>(Value.string (Fb p.1),Value.int .i64 p.2))→Instr.findNow .string (.string (Fb k)) es i=some (yT l k i)
 |[],[],k,i,_=>rfl
 |[],p::l,k,i,h=>by simp at h
 |e::es,[],k,i,h=>by simp at h
 |e::es,p::l,k,i,h=>by
  simp only[List.map_cons,List.cons.injEq,Prod.mk.injEq] at h
  obtain⟨⟨h1,h2⟩,h3⟩:=h
  unfold Instr.findNow yT
  rw[h1]
  simp only[Instr.sameNow,Abq]
  by_cases hk:k=p.1
  ·rw[decide_eq_true hk,if_pos hk,h2]
  ·rw[decide_eq_false hk,if_neg hk]
   exact Aqh es l k (i+1) h3
theorem Aav: ∀(l:List (Bs×Int)) (k:Bs) (i:Nat),(match yT l k i with|some (_,v)=>v|none=>Value.int .i64 0)=iV (uT l k)
 |[],k,i=>rfl
 |p::l,k,i=>by
  unfold yT uT
  by_cases h:k=p.1
  ·rw[if_pos h,if_pos h]
  ·rw[if_neg h,if_neg h];exact Aav l k (i+1)
theorem Arz{P:Program}{t:TypeId}{w:World}{k:Nat→WP}(h: ∀r w',w.heap.size=r→vI w' r []→Ah w w'→k r w'):maK P t w k:=by
 unfold maK
 rw[show(Instr.makeMap t none).run P w=.ok (.map (some w.heap.size)) (w.alloc (.map #[] 0)) from rfl]
 refine h _ _ rfl ⟨#[],0,?_,rfl⟩ ((Ah.refl w).alloc _)
 show(w.heap.push _)[w.heap.size]? =_
 rw[Array.getElem?_push,if_pos rfl]
theorem yD{P:Program}{w:World}{kt:TypeId}{l:List (Bs×Int)}(hk:P.underlying kt=some .string){es:List MapEntry}(he:es.map (λe=>(e.key,e.val))=l.map (λp=>(Value.string (Fb p.1),Value.int .i64 p.2)))(k:Bs):
  (Instr.findKey kt (.string (Fb k)) es).run P w=.ok (yT l k 0) w:=by
 simp[Instr.findKey,underlying,program,bind,Sem.bind,Sem.run,hk,Aqh es l k 0 he,pure]
theorem rM{P:Program}{w:World}{kt:TypeId}{e:Bool}{n:Nat}(hk:P.underlying kt=some .string)(k:ByteArray):(Instr.checkKey e (n+1) kt (.string k)).run P w=.ok () w:=by
 simp[Instr.checkKey,underlying,program,bind,Sem.bind,Sem.run,hk,pure]
theorem Am9{P:Program}{w:World}{r:Nat}{t kt et:TypeId}{l:List (Bs×Int)}(hm:vI w r l)(ht:P.underlying t=some (.map kt et))(hk:P.underlying kt=some .string)(hz: ∀w,(zeroValue et).run P w=.ok (iV 0) w){k:Bs}
  {K:Ky [KI]→Prop} (h:K (uT l k,())):lkP P t (.map (some r)) (.string (Fb k)) w false [KI] K:=by
 refine⟨(uT l k,()),?_,h⟩
 obtain⟨es,c,hb,he⟩:=hm
 have hf:=yD (P:=P) (w:=w) hk he k
 have hg:=Aav l k 0
 have hc: ∀e,(Instr.checkKey e 10000 kt (.string (Fb k))).run P w=.ok () w:=λe=>rM hk _
 have h1:(getObj r).run P w=.ok (.map es c) w:=by simp[getObj,Sem.run,hb]
 show _=Result.ok (iV (uT l k)) w
 rw[←hg]
 cases h0:yT l k 0 with
 |none=>
  rw[h0] at hf
  simp[Instr.lookup,Sem.run_bind,Tj ht,h1,hc,hf,hz,Result.andThen,pure,Sem.run]
 |some x=>
  obtain⟨j,u⟩:=x
  rw[h0] at hf
  simp[Instr.lookup,Sem.run_bind,Tj ht,h1,hc,hf,Result.andThen,pure,Sem.run]
theorem Adf: ∀{l:List (Bs×Int)} {k:Bs} {i:Nat},(∀p∈l,p.1≠k)→yT l k i=none
 |[],_,_,_=>rfl
 |p::l,k,i,h=>by unfold yT;rw[if_neg λe=>h p (by simp) e.symm];exact Adf λq hq=>h q (by simp[hq])
theorem Aj6{P:Program}{w:World}{r:Nat}{t kt et:TypeId}{l:List (Bs×Int)}(hm:vI w r l)(ht:P.underlying t=some (.map kt et))(hk:P.underlying kt=some .string){k:Bs}{v:Int}(hn: ∀p∈l,p.1≠k)
  {K:WP} (h: ∀w',vI w' r (l++[(k,v)])→Ap (λb=>b=r) w w'→K w'):muK P t (.map (some r)) (.string (Fb k)) (iV v) w K:=by
 have hlt:=hm.lt
 obtain⟨es,c,hb,he⟩:=hm
 have hf:=yD (P:=P) (w:=w) hk he k
 rw[Adf hn] at hf
 have hc:(Instr.checkKey false 10000 kt (.string (Fb k))).run P w=.ok () w:=rM hk _
 have h1:(getObj r).run P w=.ok (.map es c) w:=by simp[getObj,Sem.run,hb]
 have hs: ∀o:Obj,(setObj r o).run P w=.ok () (w.putObj r o):=λo=>by simp[setObj,Sem.run,hb,World.putObj]
 have hu: ∀o:Obj,Ap (λb=>b=r) w (w.putObj r o):=λo=>⟨rfl,rfl,rfl,by simp[World.putObj],λj hj hn=>World.putObj_heap_other hn⟩
 have hgot: ∀o:Obj,(w.putObj r o).heap[r]? =some o:=λo=>World.putObj_heap_same hlt
 unfold muK
 have key:(Instr.mapUpdate t (.map (some r)) (.string (Fb k)) (iV v)).run P w=.ok () (w.putObj r (.map (es.push {key:=.string (Fb k),val:=iV v,born:=c}) (c+1))):=by
  unfold Instr.mapUpdate
  refine(run_bind _ _ w (Tj ht w)).trans ?_
  simp only
  refine(run_bind _ _ w h1).trans ?_
  simp only
  refine(run_bind _ _ w hc).trans ?_
  refine(run_bind _ _ w hf).trans ?_
  simp only
  exact hs _
 rw[key]
 refine h _ ⟨_,_,hgot _,?_⟩ (hu _)
 rw[Array.toList_push,List.map_append,List.map_append,he];rfl
abbrev Vz(e:TypeId)(w:World)(base:Nat)(s:Sl)(ls:L2):Prop:=Dp w base e 2 s ls.length ((ls.map t2).flatMap (encs K2))
theorem Vz.rows{e:TypeId}{w:World}{base:Nat}{s:Sl}{ls:L2}(h:Vz e w base s ls):Ox w s ls:=Dp.row h
abbrev cR(i:Int)(r:RS)(s:Sl):List Value:=[iV i,iV r.q,iV r.t.st,iV r.t.ah,iV r.t.en,.slice s.1 s.2.1 s.2.2]
def RdW(w:World)(b base:Nat)(i:Int)(r:RS):Prop:= ∃s:Sl,Ar w b (cR i r s)∧Vz T.Ro w base s r.t.ls
abbrev Rk(b base:Nat)(w w':World):Prop:=Ap (λx=>x=b∨base≤x) w w'
theorem Rk.Ai{b base:Nat}{w w':World}(h:Ah w w'):Rk b base w w':=Ap.Ed h
theorem Rk.trans'{b base:Nat}{u v w:World}(h:Rk b base u v)(k:Rk b base v w):Rk b base u w:=Ap.trans h k λ_ _ x=>x
theorem Rk.blk{b base:Nat}{w w':World}(h:Ap (λx=>x=b) w w'):Rk b base w w':=h.mono λ_ x=>.inl x
abbrev flt(e i:Int):Value:=.iface T.Vr (.agg #[iV e,iV i])
theorem Ba.cl{w:World}{b:Nat}{i e:Int}{cs:List Value}(hB:Ar w b (iV i::cs)){R:TR []→WP}{Z:Value→WP}(h:Z (flt e i) w):
  bV prog F.Ba [.pointer (some ⟨b,0,none⟩),iV e] w true [] R Z:=by
 refine Ba.ok ?_
 rw[Ac]
 exact hB.i0 rfl h
theorem Eu.cl{w:World}{b:Nat}{i:Int}{cs:List Value}(hB:Ar w b (iV i::cs)){l:Bs}{R:TR Tm→WP}{Z:Value→WP}
  (h0:Yf l=none→ ∀w',Ah w w'→Z (flt 3 i) w') (h1: ∀n,Yf l=some n→ ∀w',Ah w w'→R ((n,()),()) w'):
  bV prog F.Eu [.pointer (some ⟨b,0,none⟩),.string (Fb l)] w false Tm R Z:=by
 refine Eu.ok ?_
 have lb:=hB.lt
 refine Tc.cl (λhn w2 u2=>?_) λd hd w2 u2=>?_
 ·refine Ae λp3 w4 e3 k3 u4=>k3.E5 _ rfl rfl λw5 k5 u5=>?_
  have g5:Ah w w5:=(u2.trans (Ah.fresh (Ah.refl _) u4 u5 e3))
  refine Bh.by (λ_ _=>False) ?_ (λ_ _ h=>h.elim)
  refine We rfl (Ba.cl (hB.Ai g5) (h0 ?_ w5 g5))
  unfold Yf;rw[hn]
 ·refine Ae λp3 w4 e3 k3 u4=>k3.E5 _ rfl rfl λw5 k5 u5=>?_
  have g5:Ah w w5:=(u2.trans (Ah.fresh (Ah.refl _) u4 u5 e3))
  refine Bh.by (λ_ W=>W=w5) (Le rfl rfl) ?_
  rintro _ _ rfl _
  have hg:=nN hd
  refine Ar.Xd k5 (F5.cl (d:=d) (λc=>absurd (show Q4 d=true from decide_eq_true hg) (by rw[c];simp)) λ_ w15 u15=>?_)
  exact h1 _ (by unfold Yf;rw[hd]) w15 (g5.trans u15)
theorem oC{l:Bs}{i:Nat}{c:UInt8}(hc:l[i]? =some c)(hn: ¬N8 c): ¬O5 l:=λh=>hn (h.2 c (List.mem_of_getElem? hc))
def Amm(l:Bs)(r:Nat)(W:World):Nat:=match W.heap[r]? with|some (.stringIter _ pos)=>l.length-pos|_=>0
theorem Afs{l:Bs}{r i:Nat}{W:World}(h:Itr W r l i):Amm l r W=l.length-i:=by unfold Itr at h;unfold Amm;rw[h]
theorem Us.cl{l:Bs}{w:World}{k:TR RB1→WP}(h: ∀w',Ah w w'→k ((decide (O5 l),()),()) w'):Ad prog F.Us [.string (Fb l)] w false RB1 k:=by
 refine Us.ok ?_
 refine Alj λr w2 er hI u2=>?_
 have s2:=hI.lt
 have no: ¬O5 l→ ∀{w'},Ah w w'→k ((false,()),()) w':=λhn w' g=>by
  have:=h w' g;rw[decide_eq_false hn] at this;exact this
 refine⟨λ_ W=> ∃i,i≤l.length∧Itr W r l i∧Ah w W∧ ∀c∈l.take i,N8 c,λ_ W=>Amm l r W,⟨0,by omega,hI,u2,by simp⟩,?_⟩
 rintro _ W ⟨i,hi,hIt,hG,hd⟩ _
 have hsz:=hIt.lt
 refine Ajx hIt (λhend=>?_) (λb w7 hb hlow hI7 u7=>?_) λb c w7 hb hhigh hc7 u7=>?_
 ·have hl:i=l.length:=by omega
  subst hl
  rw[List.take_length] at hd
  rw[Pq]
  have key: ∀{w'},Ah w w'→ ∀{b:Bool},(b=true↔O5 l)→k ((b,()),()) w':=λ{w'} g {b} hb=>by
   have:=h w' g;rw[←show b=decide (O5 l) from bq hb] at this;exact this
  refine Vh (λc=>key hG ?_) λc=>Vh (λc2=>?_) λc2=>key hG ?_
  ·have c:(l.length:Int)=1:=c
   exact⟨λ_=>⟨.inl (by omega),hd⟩,λ_=>rfl⟩
  ·have c2:(l.length:Int)=2:=c2
   have h0:l[0]? =some (l[0]'(by omega)):=List.getElem?_eq_getElem _
   generalize l[0]'(by omega)=x at h0
   refine dI (i:=0) rfl h0 (key hG ?_)
   rw[bne_iff_ne]
   unfold O5
   rw[h0]
   refine⟨λhne=>⟨.inr ⟨by omega,λe=>hne ?_⟩,hd⟩,λhp e=>?_⟩
   ·injection e with e;subst e;rfl
   ·rcases hp.1 with hp|hp
    ·omega
    ·refine hp.2 ?_
     congr 1
     exact UInt8.toNat_inj.1 (by show x.toNat=48;omega)
  ·have c:(l.length:Int)≠1:=c
   have c2:(l.length:Int)≠2:=c2
   refine⟨(λh=>by cases h),λhp=>?_⟩
   rcases hp.1 with hp|hp<;>omega
 ·have G7:Ah w w7:=Ap.trans hG u7 λj hj h=>by have:=hI.lt;omega
  refine Cf (λc=>no (oC hb λhh=>?_) G7) λc=>Cf (λc2=>no (oC hb λhh=>?_) G7) λc2=>?_
  ·have c:(b.toNat:Int)<48:=c
   unfold N8 at hh;omega
  ·have c2:(b.toNat:Int)>57:=c2
   unfold N8 at hh;omega
  ·have c: ¬(b.toNat:Int)<48:=c
   have c2: ¬(b.toNat:Int)>57:=c2
   have hlt:=(List.getElem?_eq_some_iff.1 hb).1
   refine⟨⟨i+1,by omega,hI7,G7,λx hx=>?_⟩,?_⟩
   ·rw[List.take_add_one,hb] at hx
    rcases List.mem_append.1 hx with hx|hx
    ·exact hd x hx
    ·simp at hx;subst hx;unfold N8;omega
   ·show Amm l r w7<Amm l r W
    rw[Afs hI7,Afs hIt];omega
 ·have G7:Ah w w7:=Ap.trans hG u7 λj hj h=>by have:=hI.lt;omega
  have hno: ¬N8 b:=by unfold N8;omega
  exact Cf (λcx=>absurd (show c<48 from cx) (by omega)) λ_=>Cf (λ_=>no (oC hb hno) G7) λcx=>absurd (show c>57 by omega) cx
end Go.Proofs.YtppeepkmnijdpaaGreatDoor
namespace Go.Proofs.YtppeepkmnijdpaaGreatDoor
open Go.Eng Go Tryz
open Go.IntKind (wrap)
set_option linter.unusedSimpArgs false
set_option linter.unusedVariables false
set_option maxRecDepth 100000
set_option maxHeartbeats 8000000
theorem yB:(⟨#[115,116,97,114,116]⟩:ByteArray)=Fb La:=rfl
theorem Aa1:(⟨#[108,101,97,112]⟩:ByteArray)=Fb Yb:=rfl
theorem Ae6:(⟨#[101,110,100]⟩:ByteArray)=Fb Yj:=rfl
theorem Aiu:(⟨#[43,49]⟩:ByteArray)=Fb pR:=rfl
theorem Ady:(⟨#[45,49]⟩:ByteArray)=Fb m1L:=rfl
theorem Aff:(⟨#[]⟩:ByteArray)=Fb []:=rfl
abbrev PostR(b base:Nat)(i:Int)(w:World)(st:RS⊕Int)(R:TR []→WP)(Z:Value→WP):Prop:=
 match st with
 | .inr e=> ∀w',Rk b base w w'→Z (flt e i) w'
 | .inl r'=> ∀w',RdW w' b base i r'→Rk b base w w'→R () w'
theorem yC{ws:List Bs}(h:ws.length=3): ∃a b c,ws=[a,b,c]:=by
 match ws,h with
 |[a,b,c],_=>exact⟨a,b,c,rfl⟩
theorem Ai1{ws:List Bs}(h:ws.length=2): ∃a b,ws=[a,b]:=by
 match ws,h with
 |[a,b],_=>exact⟨a,b,rfl⟩
theorem zS{r:RS}{ws:List Bs}(h:ws.length≠3):iL r ws=.inr 3:=by
 unfold iL
 split
 ·exact absurd rfl h
 ·rfl
theorem yO{r:RS}{ws:List Bs}(h:ws.length≠3):jO r ws=.inr 3:=by
 unfold jO
 split
 ·exact absurd rfl h
 ·rfl
theorem yJ{r:RS}{ws:List Bs}(h:ws.length≠2):jC r ws=.inr 3:=by
 unfold jC
 split
 ·exact absurd rfl h
 ·rfl
theorem fA{b base:Nat}{w w':World}{s:Sl}{e:TypeId}{ls:L2}(h:Vz e w base s ls)(u:Ap (λx=>x=b) w w')(hb:b<base):Vz e w' base s ls:=
 Dp.upd h u λa ha hx=>by have:=(Dp.blk h ha).1;omega
theorem Agp{r:RS}{x y:Bs}(hn:Yf x=none):iL r [La,x,y]=.inr 3:=by unfold iL;simp only[hn];split<;>rfl
theorem nT{r:RS}{x y:Bs}{d:Int}(hp:O5 y)(hn:Yf x=some d):iL r [La,x,y]=.inl ⟨1,⟨d,Rq y,r.t.en,r.t.ls⟩⟩:=by
 unfold iL;simp only[hn];rw[if_pos ⟨trivial,hp⟩]
theorem kH{r:RS}{a x y:Bs}(h: ¬(a=La∧O5 y)):iL r [a,x,y]=.inr 3:=by
 show(if a=La∧O5 y then _ else _)=_
 rw[if_neg h]
theorem Acw{r:RS}{a x y:Bs}(h: ¬(y=pR∨y=m1L)):jO r [a,x,y]=.inr 3:=by
 show(if y=pR∨y=m1L then _ else _)=_
 rw[if_neg h]
theorem yE{r:RS}{a x y:Bs}(hn:Yf x=none):jO r [a,x,y]=.inr 3:=by unfold jO;simp only[hn];split<;>rfl
theorem xO{r:RS}{a x y:Bs}{d:Int}(hp:y=pR∨y=m1L)(hn:Yf x=some d):jO r [a,x,y]=if r.t.ls.length=64 then .inr 6 else if d<r.t.st∨late r.t.ls d then .inr 12 else .inl ⟨1,⟨r.t.st,r.t.ah,r.t.en,r.t.ls++[(d,if y=pR then 1 else-1)]⟩⟩:=by
 unfold jO;simp only[hn];rw[if_pos hp]
theorem Aan{r:RS}{a x:Bs}(h: ¬a=Yj):jC r [a,x]=.inr 3:=by
 show(if a=Yj then _ else _)=_
 rw[if_neg h]
theorem wE{r:RS}{a x:Bs}(hn:Yf x=none):jC r [a,x]=.inr 3:=by unfold jC;simp only[hn];split<;>rfl
theorem wX{r:RS}{a x:Bs}{d:Int}(hp:a=Yj)(hn:Yf x=some d):jC r [a,x]=if d≤r.t.st∨late r.t.ls d then .inr 12 else .inl ⟨2,⟨r.t.st,r.t.ah,d,r.t.ls⟩⟩:=by
 unfold jC;simp only[hn];rw[if_pos hp]
theorem Uc{w:World}{b:Nat}{i e:Int}{cs:List Value}(hB:Ar w b (iV i::cs)){R:TR []→WP}{Z:Value→WP}(h:Z (flt e i) w):
  bV prog F.Ba [.pointer (some ⟨b,0,none⟩),iV e] w true [] R λv w=>Z v w:=Ba.cl hB h
theorem Xn.ix{w:World}{s:Sl}{ls:List Bs}(h:Xn w s ls){z:Int}{i:Nat}{l:Bs}(hz:z=i)(hi:ls[i]? =some l){k:Addr→Prop}(hk: ∀a,s.1=some a→k a):Hf s.1 s.2.1 z k:=by
 subst hz
 have hlt:=(List.getElem?_eq_some_iff.1 hi).1
 obtain⟨a,ha⟩:=Row.addr h (by rw[List.length_map];omega)
 have hl:=h.len'
 rw[ha,Ip (by omega)]
 exact hk a ha
theorem Xn.cell{w:World}{s:Sl}{ls:List Bs}(h:Xn w s ls){a:Addr}(ha:s.1=some a){z:Int}{i:Nat}{l:Bs}(hz:z=i)(hi:ls[i]? =some l):w.cell? (a.add (z.toNat*1))=some (.string (Fb l)):=by
 subst hz
 rw[Int.toNat_natCast,Nat.mul_one]
 exact Row.ld h ha (by rw[List.getElem?_map,hi];rfl)
theorem Io.cl{w:World}{b base:Nat}{i:Int}{r:RS}(hd:RdW w b base i r)(hb:b<base){s:Sl}{ws:List Bs}(hR:Xn w s ws)(hS: ∀a,s.1=some a→a.block≠b)
  {R:TR []→WP} {Z:Value→WP} (h:PostR b base i w (iL r ws) R Z):
  bV prog F.Io [.pointer (some ⟨b,0,none⟩),.slice s.1 s.2.1 s.2.2] w true [] R Z:=by
 obtain⟨sl,hB,hO⟩:=hd
 refine Io.ok ?_
 have hl:=hR.len'
 have bad:iL r ws=.inr 3→ ∀{w'},Ah w w'→Z (flt 3 i) w':=λe w' g=>by rw[e] at h;exact h w' (Rk.Ai g)
 refine Bh.by (λ_ W=>Ah w W∧ ∃x y,ws=[La,x,y]∧O5 y) ?_ ?_
 ·refine dS (λc=>Uc hB (bad (zS ?_) (Ah.refl _))) λc=>?_
  ·have c:(s.2.1:Int)≠3:=c;omega
  have c:(s.2.1:Int)=3:=c
  obtain⟨x0,x1,x2,rfl⟩:=yC (ws:=ws) (by omega)
  refine hR.get (i:=0) rfl rfl ?_
  rw[yB,Abq]
  refine En (λc2=>Uc hB (bad (kH λh=>(of_decide_eq_false c2) h.1) (Ah.refl _))) λc2=>?_
  have c2:x0=La:=of_decide_eq_true c2
  subst c2
  refine hR.get (i:=2) rfl rfl (Us.cl λw17 u17=>En (λc3=>Uc (hB.Ai u17) (bad (kH λh=>(of_decide_eq_false c3) h.2) u17)) λc3=>?_)
  exact⟨u17,x1,x2,rfl,of_decide_eq_true c3⟩
 ·rintro _ w3 ⟨g3,x,y,rfl,hp⟩ _
  have B3:=hB.Ai g3
  have R3:Xn w3 s [La,x,y]:=hR.Ai g3
  refine R3.get (i:=1) rfl rfl (Eu.cl B3 (λhn w' u=>?_) λn hn w' u=>?_)
  ·exact bad (Agp hn) (g3.trans u)
  ·rw[nT hp hn] at h
   have g4:=g3.trans u
   have B4:=hB.Ai g4
   rw[Ac]
   refine B4.s1 2 (by simp) λw27 k27 u27=>?_
   have R27:Xn w27 s [La,x,y]:=(hR.Ai g4).upd u27 λa ha=>hS a ha
   refine R27.get (i:=2) rfl rfl (strconv_Atoi.cl hp λw31 u31=>?_)
   rw[Ac]
   refine(k27.Ai u31).s1 3 (by simp) λw33 k33 u33=>?_
   rw[Ac]
   refine k33.s1 1 (by simp) λw35 k35 u35=>?_
   have fr:Rk b base w w35:=Rk.trans' (Rk.trans' (Rk.trans' (Rk.Ai g4) (Rk.blk u27)) (Rk.Ai u31)) (Rk.trans' (Rk.blk u33) (Rk.blk u35))
   exact h w35 ⟨sl,k35,fA (fA (Dp.Ai (fA (Dp.Ai hO g4) u27 hb) u31) u33 hb) u35 hb⟩ fr
theorem Wy{ls:L2}{d:Int}{x:P2}(hx:ls[ls.length-1]? =some x):late ls d↔d≤x.1:=
 ⟨λ⟨y,h1,h2⟩=>by rw[hx] at h1;injection h1 with h1;subst h1;exact h2,λh=>⟨x,hx,h⟩⟩
theorem fP{d:Int}: ¬late [] d:=λ⟨y,h1,_⟩=>by cases h1
theorem mG{n:Nat}(h0:0<n)(h:n≤1000):wrap .i64 ((n:Int)-1)=((n-1:Nat):Int):=by rw[Af (by unfold I64;omega)];omega
theorem Jy.cl{w:World}{b base:Nat}{i:Int}{r:RS}(hd:RdW w b base i r)(hn64:r.t.ls.length≤64)(hb:b<base){s:Sl}{ws:List Bs}(hR:Xn w s ws)(hS: ∀a,s.1=some a→a.block≠b)
  {R:TR []→WP} {Z:Value→WP} (h:PostR b base i w (jC r ws) R Z):
  bV prog F.Jy [.pointer (some ⟨b,0,none⟩),.slice s.1 s.2.1 s.2.2] w true [] R Z:=by
 obtain⟨sl,hB,hO⟩:=hd
 refine Jy.ok ?_
 have hl:=hR.len'
 have bad:jC r ws=.inr 3→ ∀{w'},Ah w w'→Z (flt 3 i) w':=λe w' g=>by rw[e] at h;exact h w' (Rk.Ai g)
 refine Bh.by (λ_ W=>Ah w W∧ ∃x,ws=[Yj,x]) ?_ ?_
 ·refine dS (λc=>Uc hB (bad (yJ ?_) (Ah.refl _))) λc=>?_
  ·have c:(s.2.1:Int)≠2:=c;omega
  have c:(s.2.1:Int)=2:=c
  obtain⟨x0,x1,rfl⟩:=Ai1 (ws:=ws) (by omega)
  refine hR.get (i:=0) rfl rfl ?_
  rw[Ae6,Abq]
  refine En (λc2=>Uc hB (bad (Aan (of_decide_eq_false c2)) (Ah.refl _))) λc2=>?_
  have c2:x0=Yj:=of_decide_eq_true c2
  subst c2
  exact⟨Ah.refl _,x1,rfl⟩
 ·rintro _ w3 ⟨g3,x,rfl⟩ _
  have B3:=hB.Ai g3
  have R3:Xn w3 s [Yj,x]:=hR.Ai g3
  refine R3.get (i:=1) rfl rfl (Eu.cl B3 (λhn w' u=>?_) λn hn w' u=>?_)
  ·exact bad (wE hn) (g3.trans u)
  ·rw[wX rfl hn] at h
   have g4:=g3.trans u
   have B4:=hB.Ai g4
   rw[Ac]
   refine B4.s1 4 (by simp) λw19 k19 u19=>?_
   rw[Ac]
   refine k19.c1 5 (c:=.sl) (x:=sl) rfl ?_
   rw[Aq]
   have k22:=k19.drew
   have O22:=Dp.Ai (fA (Dp.Ai hO g4) u19 hb) (Ah.drew w19)
   have fr:Rk b base w w19.drew:=Rk.trans' (Rk.trans' (Rk.Ai g4) (Rk.blk u19)) (Rk.Ai (Ah.drew w19))
   generalize w19.drew=w22 at k22 O22 fr
   have hlen:=Vz.rows (e:=T.Ro) O22|>.len
   rw[Ac]
   refine k22.i1 4 rfl ?_
   rw[Ac]
   refine k22.i1 2 rfl ?_
   have bad2:(n≤r.t.st∨late r.t.ls n)→Z (flt 12 i) w22:=λc=>by rw[if_pos c] at h;exact h w22 fr
   have good: ¬(n≤r.t.st∨late r.t.ls n)→ ∀w',Ar w' b (cR i ⟨2,⟨r.t.st,r.t.ah,n,r.t.ls⟩⟩ sl)→Ap (λx=>x=b) w22 w'→R () w':=λc w' k u=>by
    rw[if_neg c] at h
    exact h w' ⟨sl,k,fA O22 u hb⟩ (Rk.trans' fr (Rk.blk u))
   refine Cf (λc=>Uc k22 (bad2 (.inl c))) λc1=>?_
   have c1: ¬n≤r.t.st:=c1
   refine Cf (λc=>?_) λc=>?_
   ·have c:(sl.2.1:Int)>0:=c
    have hx:r.t.ls[r.t.ls.length-1]? =some (r.t.ls[r.t.ls.length-1]'(by omega)):=List.getElem?_eq_getElem _
    generalize r.t.ls[r.t.ls.length-1]'(by omega)=x at hx
    rw[Ac]
    refine k22.i1 4 rfl ?_
    rw[Ac]
    refine k22.c1 5 (c:=.sl) (x:=sl) rfl ?_
    have ew:=mG (n:=sl.2.1) (by omega) (by omega)
    rw[show wrap .i64 ((sl.2.1:Int)-1)=((r.t.ls.length-1:Nat):Int) from by rw[ew,hlen]]
    refine(Vz.rows O22).ix rfl hx λa ha=>(Vz.rows O22).f0 ha hx rfl (Cf (λc2=>Uc k22 (bad2 (.inr ((Wy hx).2 c2)))) λc2=>?_)
    rw[Ac]
    refine k22.s1 1 (by simp) λw46 k46 u46=>good (λhh=>?_) w46 k46 u46
    rcases hh with hh|hh
    ·exact c1 hh
    ·exact c2 ((Wy hx).1 hh)
   ·have c: ¬(sl.2.1:Int)>0:=c
    have:r.t.ls=[]:=List.eq_nil_of_length_eq_zero (by omega)
    rw[Ac]
    refine k22.s1 1 (by simp) λw46 k46 u46=>good (λhh=>?_) w46 k46 u46
    rw[this] at hh
    rcases hh with hh|hh
    ·exact c1 hh
    ·exact fP hh
end Go.Proofs.YtppeepkmnijdpaaGreatDoor
namespace Go.Proofs.YtppeepkmnijdpaaGreatDoor
open Go.Eng Go Tryz
open Go.IntKind (wrap)
set_option linter.unusedSimpArgs false
set_option linter.unusedVariables false
set_option maxRecDepth 100000
set_option maxHeartbeats 8000000
abbrev yK:List (Bs×Int):=[(pR,1),(m1L,Int.negSucc 0)]
theorem kD(y:Bs):(uT yK y=0↔ ¬(y=pR∨y=m1L))∧((y=pR∨y=m1L)→uT yK y=if y=pR then 1 else-1):=by
 unfold yK uT uT uT
 by_cases h1:y=pR
 ·rw[if_pos h1];simp[h1]
 ·rw[if_neg h1]
  by_cases h2:y=m1L
  ·rw[if_pos h2];subst h2;decide
  ·rw[if_neg h2];simp[h1,h2]
theorem Vz.snoc{P:Program}{t ty e:TypeId}{w:World}{base b:Nat}{s:Sl}{ls:L2}{x:P2}{k:Sl→WP}(ht:P.underlying t=some (.slice e))(hi:zN P e 2=true)(h:Vz e w base s ls)(hB:Ar w b [iV x.1,iV x.2])(hn:ls.length≤1000000)(hbase:base≤w.heap.size)
  (hk: ∀s' w',Vz e w' base s' (ls++[x])→Ap (λb=> ∃a,s.1=some a∧a.block=b) w w'→k s' w'):
  Qj ((Builtin.append_ #[t,t] ty #[.slice s.1 s.2.1 s.2.2,.slice (some ⟨b,0,none⟩) 1 1]).run P w) k:=by
 refine S9 (s:=s) (x:=(some ⟨b,0,none⟩,1,1)) (e:=e) (size:=2) (base:=base) (n:=ls.length) (xs:=(ls.map t2).flatMap (encs K2)) (news:=encs K2 (t2 x)) ht hi (by decide) h
  ⟨rfl,λ_=>⟨_,rfl,hB.news⟩⟩ ?_ (by show ls.length+1≤_;omega) hbase λs' w16 o16 u16 hb=>?_
 ·intro u hu
  simp only[t2,encs,enc,List.mem_cons,List.not_mem_nil,or_false] at hu
  rcases hu with rfl|rfl<;>rfl
 ·refine hk s' w16 ?_ u16
  unfold Vz
  rw[List.length_append,List.map_append,List.flatMap_append]
  simpa using o16
theorem Jk.cl{w:World}{b base:Nat}{i:Int}{r:RS}{sl:Sl}(hB:Ar w b (cR i r sl))(hO:Vz T.Ro w base sl r.t.ls)(hn64:r.t.ls.length≤64)(hb:b<base)(hbase:base≤w.heap.size){s:Sl}{ws:List Bs}(hR:Xn w s ws)(hS: ∀a,s.1=some a→a.block≠b∧ ∀a0,sl.1=some a0→a0.block≠a.block)
  (hq:r.q=1) {R:TR []→WP} {Z:Value→WP} (h:PostR b base i w (jO r ws) R Z):
  bV prog F.Jk [.pointer (some ⟨b,0,none⟩),.slice s.1 s.2.1 s.2.2] w true [] R Z:=by
 refine Jk.ok ?_
 rw[Aiu,Ady]
 have hl:=hR.len'
 have tM:prog.underlying T.Qe=some (.map T.string T.int):=by kernel_rfl
 have tS:prog.underlying T.string=some .string:=by kernel_rfl
 have tI: ∀w,(zeroValue T.int).run prog w=.ok (iV 0) w:=λw=>by kernel_rfl
 refine Arz λm w2 em M2 u2=>Aj6 M2 tM tS (by intro p hp;cases hp) λw3 M3 u3=>Aj6 M3 tM tS (by intro p hp;simp at hp;subst hp;decide) λw4 M4 u4=>?_
 have M4:vI w4 m yK:=M4
 have g4:Ah w w4:=Ap.trans (Ap.trans u2 u3 λj hj h=>by omega) u4 λj hj h=>by omega
 have bad:jO r ws=.inr 3→ ∀{w'},Ah w w'→Z (flt 3 i) w':=λe w' g=>by rw[e] at h;exact h w' (Rk.Ai g)
 refine Bh.by (λ_ W=>w4=W∧ ∃a x y,ws=[a,x,y]∧(y=pR∨y=m1L)) ?_ ?_
 ·refine dS (λc=>Uc (hB.Ai g4) (bad (yO ?_) g4)) λc=>?_
  ·have c:(s.2.1:Int)≠3:=c;omega
  have c:(s.2.1:Int)=3:=c
  obtain⟨x0,x1,x2,rfl⟩:=yC (ws:=ws) (by omega)
  have R4:Xn w4 s [x0,x1,x2]:=hR.Ai g4
  refine R4.get (i:=2) rfl rfl (Am9 M4 tM tS tI (Vh (λc2=>Uc (hB.Ai g4) (bad (Acw ((kD x2).1.1 c2)) g4)) λc2=>⟨rfl,x0,x1,x2,rfl,?_⟩))
  by_cases hy:x2=pR∨x2=m1L
  ·exact hy
  ·exact absurd ((kD x2).1.2 hy) c2
 rintro _ _ ⟨rfl,a,x,y,rfl,hy⟩ _
 have R4:Xn w4 s [a,x,y]:=hR.Ai g4
 refine R4.get (i:=1) rfl rfl (Eu.cl (hB.Ai g4) (λhn w' u=>bad (yE hn) (g4.trans u)) λn hn w22 u22=>?_)
 rw[xO hy hn] at h
 have g22:=g4.trans u22
 have B22:=hB.Ai g22
 have O22:=Dp.Ai hO g22
 have hlen:=Vz.rows (e:=T.Ro) O22|>.len
 refine Bh.by (λ_ W=>w22=W∧r.t.ls.length≠64) ?_ ?_
 ·rw[Ac]
  refine B22.c1 5 (c:=.sl) (x:=sl) rfl (Vh (λc=>Uc B22 ?_) λc=>⟨rfl,λe=>c (by show(sl.2.1:Int)=64;omega)⟩)
  have c:(sl.2.1:Int)=64:=c
  rw[if_pos (by omega)] at h
  exact h w22 (Rk.Ai g22)
 rintro _ _ ⟨rfl,hn2⟩ _
 rw[if_neg hn2] at h
 have bad2:(n<r.t.st∨late r.t.ls n)→Z (flt 12 i) w22:=λc=>by rw[if_pos c] at h;exact h w22 (Rk.Ai g22)
 refine Bh.by (λ_ W=>w22=W∧ ¬(n<r.t.st∨late r.t.ls n)) ?_ ?_
 ·rw[Ac]
  refine B22.c1 5 (c:=.sl) (x:=sl) rfl ?_
  rw[Ac]
  refine B22.i1 2 rfl (Cf (λc=>Uc B22 (bad2 (.inl c))) λc1=>?_)
  have c1: ¬n<r.t.st:=c1
  refine Cf (λc=>?_) λc=>?_
  ·have c:(sl.2.1:Int)>0:=c
   have hx:r.t.ls[r.t.ls.length-1]? =some (r.t.ls[r.t.ls.length-1]'(by omega)):=List.getElem?_eq_getElem _
   generalize r.t.ls[r.t.ls.length-1]'(by omega)=z at hx
   rw[Ac]
   refine B22.c1 5 (c:=.sl) (x:=sl) rfl ?_
   have ew:=mG (n:=sl.2.1) (by omega) (by omega)
   rw[show wrap .i64 ((sl.2.1:Int)-1)=((r.t.ls.length-1:Nat):Int) from by rw[ew,hlen]]
   refine(Vz.rows O22).ix rfl hx λa ha=>(Vz.rows O22).f0 ha hx rfl (Cf (λc2=>Uc B22 (bad2 (.inr ((Wy hx).2 c2)))) λc2=>⟨rfl,λhh=>?_⟩)
   rcases hh with hh|hh
   ·exact c1 hh
   ·exact c2 ((Wy hx).1 hh)
  ·have c: ¬(sl.2.1:Int)>0:=c
   have:r.t.ls=[]:=List.eq_nil_of_length_eq_zero (by omega)
   refine⟨rfl,λhh=>?_⟩
   rw[this] at hh
   rcases hh with hh|hh
   ·exact c1 hh
   ·exact fP hh
 rintro _ _ ⟨rfl,ho⟩ _
 rw[if_neg ho] at h
 have M22:=M4.upd u22 (λx=>x)
 have R22:Xn w22 s [a,x,y]:=R4.Ai u22
 rw[Aq]
 have g51:=g22.trans (Ah.drew w22)
 have B51:=B22.drew
 have O51:=Dp.Ai O22 (Ah.drew w22)
 have M51:=M22.upd (Ah.drew w22) (λx=>x)
 have R51:Xn w22.drew s [a,x,y]:=R22.Ai (Ah.drew w22)
 generalize w22.drew=w51 at g51 B51 O51 M51 R51
 rw[Ac]
 refine B51.c1 5 (c:=.sl) (x:=sl) rfl (R51.ix (i:=2) rfl rfl λaa ha=>?_)
 have hcell:=R51.cell ha (z:=2) (i:=2) rfl rfl
 have hblk:=hS aa ha
 refine Tt hcell rfl (Am9 M51 tM tS tI ?_)
 rw[(kD y).2 hy]
 refine⟨⟨by rw[hcell];rfl,B51.hold (Ah.refl _) (λx=>x) 5 (by simp),trivial⟩,Ae λp57 w58 e58 k58 u58=>⟨⟨?_,B51.hold u58 (λx=>x) 5 (by simp),trivial⟩,?_⟩⟩
 ·rw[bH hcell u58,hcell];rfl
 have O58:=Dp.Ai O51 u58
 have B58:=B51.Ai u58
 have l51:=B51.lt
 have s51:=g51.size
 have s58:=u58.size
 refine Vz.snoc (x:=(n,if y=pR then 1 else-1)) (ls:=r.t.ls) (base:=base) (e:=T.Ro) (by kernel_rfl) (by kernel_rfl) O58 k58 (by omega) (by omega) λs' w60 O60 u60=>?_
 have hown: ∀a0,sl.1=some a0→base≤a0.block:=λa0 h0=>(Dp.blk O58 h0).1
 have B60:=B58.upd u60 λ⟨a0,h0,h1⟩=>by have:=hown a0 h0;omega
 refine⟨⟨?_,trivial⟩,?_⟩
 ·rw[kY (bH hcell u58) u60 (λ⟨a0,h0,h1⟩=>hblk.2 a0 h0 (by rw[add_block] at h1;exact h1)),hcell];rfl
 rw[Ac]
 refine B60.sN 5 [.slice s'.1 s'.2.1 s'.2.2] (by simp) rfl λw62 k62 u62=>⟨trivial,?_⟩
 have fr:Rk b base w w62:=Rk.trans' (Rk.trans' (Rk.Ai (g51.trans u58)) (u60.mono λj ⟨a0,h0,h1⟩=>.inr (by have:=hown a0 h0;omega))) (Rk.blk u62)
 refine h w62 ⟨s',?_,fA O60 u62 hb⟩ fr
 have e:splice (cR i r sl) 5 [.slice s'.1 s'.2.1 s'.2.2]=cR i ⟨1,⟨r.t.st,r.t.ah,r.t.en,r.t.ls++[(n,if y=pR then 1 else-1)]⟩⟩ s':=by simp[cR,splice,hq]
 rw[←e];exact k62
theorem uJ{l:Bs}{a:UInt8}: ∃x xs,Rt a l=x::xs:=by
 cases h:Rt a l with
 |nil=>exact absurd h (Ass a l)
 |cons x xs=>exact⟨x,xs,rfl⟩
theorem Ju.cl{w:World}{b base:Nat}{i:Int}{r:RS}(hd:RdW w b base i r)(hI:RI r)(hi:0≤i)(hi2:i≤1000000)(hb:b<base)(hbase:base≤w.heap.size){l:Bs}(hl:l.length<4000000000)
  {R:TR []→WP} {Z:Value→WP} (h:PostR b base (i+1) w (U2 r l) R Z):
  bV prog F.Ju [.pointer (some ⟨b,0,none⟩),.string (Fb l)] w true [] R Z:=by
 obtain⟨sl,hB,hO⟩:=hd
 refine Ju.ok ?_
 rw[Ac]
 refine hB.i0 rfl ?_
 rw[Ac,Af (n:=i+1) (by unfold I64;omega),Aff]
 refine hB.s0 (by simp) λw4 k4 u4=>?_
 have k4:Ar w4 b (cR (i+1) r sl):=k4
 have O4:=fA hO u4 hb
 have f4:Rk b base w w4:=Rk.blk u4
 refine Am3 (λc=>?_) λc=>?_
 ·subst c
  exact h w4 ⟨sl,k4,O4⟩ f4
 obtain⟨x,l',rfl⟩: ∃x l',l=x::l':=by cases l with|nil=>exact absurd rfl c|cons x l'=>exact⟨x,l',rfl⟩
 refine dI (i:=0) rfl rfl (Vh (λc2=>?_) λc2=>?_)
 ·have c2:(x.toNat:Int)=35:=c2
  have:x=35:=UInt8.toNat_inj.1 (by show x.toNat=35;omega)
  subst this
  have e:U2 r (35::l')=.inl r:=by unfold U2;rw[if_pos (.inr rfl)]
  rw[e] at h
  exact h w4 ⟨sl,k4,O4⟩ f4
 have c2:(x.toNat:Int)≠35:=c2
 have e:U2 r (x::l')=stepW r (Rt 32 (x::l')):=by
  unfold U2;rw[if_neg]
  rintro(h|h)
  ·cases h
  ·simp at h;subst h;exact c2 rfl
 rw[e] at h
 refine strings_Split.cl hl λs w7 R7 hs u7=>?_
 have k7:=k4.Ai u7
 have O7:=Dp.Ai O4 u7
 have f7:Rk b base w w7:=Rk.trans' f4 (Rk.Ai u7)
 have l4:=k4.lt
 have hS1: ∀a,s.1=some a→a.block≠b:=λa ha=>by rw[hs] at ha;injection ha with ha;subst ha;show w4.heap.size≠b;omega
 have hS2: ∀a,s.1=some a→a.block≠b∧ ∀a0,sl.1=some a0→a0.block≠a.block:=λa ha=>⟨hS1 a ha,λa0 h0=>by
  have:=(Dp.blk O4 h0).2.1
  rw[hs] at ha;injection ha with ha;subst ha;show a0.block≠w4.heap.size;omega⟩
 obtain⟨y,ys,hy⟩:=uJ (l:=x::l') (a:=32)
 have post: ∀st,stepW r (Rt 32 (x::l'))=st→PostR b base (i+1) w7 st R Z:=λst hst=>by
  rw[hst] at h
  cases st with
  |inr e=>exact λw' u=>h w' (Rk.trans' f7 u)
  |inl r'=>exact λw' hr u=>h w' hr (Rk.trans' f7 u)
 have n64:=hI.n
 have sz7:=f7.size
 rw[Ac]
 refine k7.i1 1 rfl (Vh (λc3=>?_) λc3=>?_)
 ·have c3:(r.q:Int)=0:=c3
  have:=post (iL r (Rt 32 (x::l'))) (by unfold stepW;rw[if_pos (by omega)])
  exact Io.cl ⟨sl,k7,O7⟩ hb R7 hS1 (R:=λr w=>R r w) (Z:=λv w=>Z v w) this
 have c3:(r.q:Int)≠0:=c3
 refine Bh.by (λz W=>w7=W∧z.1=decide (r.q=1∧y=Yb)) ?_ ?_
 ·rw[Ac]
  refine k7.i1 1 rfl (Vh (λc4=>?_) λc4=>⟨rfl,?_⟩)
  ·have c4:(r.q:Int)=1:=c4
   rw[hy] at R7
   refine R7.get (i:=0) rfl rfl ⟨rfl,?_⟩
   rw[Aa1]
   show(Fb y==Fb Yb)=_
   rw[Abq]
   congr 1
   exact propext ⟨λh=>⟨by omega,h⟩,λh=>h.2⟩
  ·have c4:(r.q:Int)≠1:=c4
   symm;rw[decide_eq_false_iff_not];intro hh;omega
 rintro⟨z,_⟩ _ ⟨rfl,hz⟩ _
 dsimp only at hz
 subst hz
 refine Cf (λc5=>?_) λc5=>?_
 ·have:=post (jO r (Rt 32 (x::l'))) (by unfold stepW;rw[if_neg (by omega),if_pos c5.1,if_pos (by rw[hy,c5.2];rfl)])
  exact Jk.cl k7 O7 n64 hb (by omega) R7 hS2 c5.1 (R:=λr w=>R r w) (Z:=λv w=>Z v w) this
 rw[Ac]
 refine k7.i1 1 rfl (Vh (λc6=>?_) λc6=>?_)
 ·have c6:(r.q:Int)=1:=c6
  have:=post (jC r (Rt 32 (x::l'))) (by
   unfold stepW;rw[if_neg (by omega),if_pos (by omega),if_neg]
   rw[hy]
   intro hh
   injection hh with hh
   exact c5 ⟨by omega,hh⟩)
  exact Jy.cl ⟨sl,k7,O7⟩ n64 hb R7 hS1 (R:=λr w=>R r w) (Z:=λv w=>Z v w) this
 ·have c6:(r.q:Int)≠1:=c6
  have:=post (.inr 3) (by unfold stepW;rw[if_neg (by omega),if_neg (by omega)])
  exact Ba.cl k7 (R:=λr w=>R r w) (Z:=λv w=>Z v w) (this w7 (Rk.Ai (Ah.refl _)))
end Go.Proofs.YtppeepkmnijdpaaGreatDoor
namespace Go.Proofs.YtppeepkmnijdpaaGreatDoor
open Go.Eng Go Tryz
open Go.IntKind (wrap)
set_option linter.unusedSimpArgs false
set_option linter.unusedVariables false
set_option maxRecDepth 100000
set_option maxHeartbeats 8000000
theorem yM(a:UInt8): ∀l:Bs,(Rt a l).length≤l.length+1
 |[]=>by simp[Rt]
 |c::l=>by
  have ih:=yM a l
  unfold Rt
  split
  ·simp;omega
  ·cases h:Rt a l with
   |nil=>simp
   |cons p ps=>rw[h] at ih;simp at ih⊢;omega
theorem uQ(a:UInt8): ∀(l:Bs),∀x∈Rt a l,x.length≤l.length
 |[],x,hx=>by simp[Rt] at hx;subst hx;simp
 |c::l,x,hx=>by
  have ih:=uQ a l
  unfold Rt at hx
  split at hx
  ·rcases List.mem_cons.1 hx with rfl|hx
   ·simp
   ·have:=ih x hx;simp;omega
  ·cases h:Rt a l with
   |nil=>rw[h] at hx;simp at hx;subst hx;simp
   |cons p ps=>
    rw[h] at hx ih
    simp only[List.mem_cons] at hx
    rcases hx with rfl|hx
    ·have:=ih p (by simp);simp;omega
    ·have:=ih x (by simp[hx]);simp;omega
theorem Bg.rec{w:World}{p1 p3 p5:Nat}{v1:Option Addr}{z3 z5:Int}(k1:Ar w p1 [.pointer v1])(k3:Ar w p3 [iV z3])(k5:Ar w p5 [iV z5])(o:p1<p3∧p3<p5){e i:Int}{K:FrameMode→WP}
  (h: ∀w',Ar w' p1 [.pointer none]→Ar w' p3 [iV i]→Ar w' p5 [iV e]→Ap (λx=>x=p1∨x=p3∨x=p5) w w'→K (.panicking [{v:=flt e i,recovered:=true}]) w'):
  dfK prog F.Bg [.pointer (some ⟨p1,0,none⟩),.pointer (some ⟨p3,0,none⟩),.pointer (some ⟨p5,0,none⟩)] (.panicking [{v:=flt e i,recovered:=false}]) w K:=by
 refine⟨by simp,by kernel_rfl,CallsDIn.mono (Bg.okP (k:=K (.panicking [{v:=flt e i,recovered:=true}])) ?_) λe u w ⟨h1,h2,h3⟩=>⟨h1,by subst h2;exact h3⟩⟩
 unfold Bg.wpP
 have l1:=k1.lt
 have l3:=k3.lt
 have l5:=k5.lt
 refine Ae λq w2 eq kq u2=>kq.E5 _ rfl rfl λw3 kq u3=>?_
 have G3:Ah w w3:=Ah.fresh (Ah.refl _) u2 u3 eq
 rw[Aq]
 have G4:=G3.trans (Ah.drew w3)
 have kq:=kq.drew
 generalize w3.drew=w4 at G4 kq
 refine kq.i1 1 rfl (kq.i0 rfl ?_)
 refine(k1.Ai G4).sN0 [.pointer none] (by simp) rfl λw7 k7 u7=>⟨⟨kq.hold u7 (by omega) 0 (by simp),kq.hold u7 (by omega) 1 (by simp),trivial⟩,?_⟩
 have q7:=kq.upd u7 (by omega)
 refine((k3.Ai G4).upd u7 (by omega)).s0 (by simp) λw8 k8 u8=>⟨⟨kq.hold (Ap.trans (S:=λx=>x=p1∨x=p3) (u7.mono λ_ x=>.inl x) (u8.mono λ_ x=>.inr x) λ_ _ x=>x) (by omega) 0 (by simp),trivial⟩,?_⟩
 refine(((k5.Ai G4).upd u7 (by omega)).upd u8 (by omega)).s0 (by simp) λw9 k9 u9=>⟨trivial,rfl,?_⟩
 refine h w9 ((k7.upd u8 (by omega)).upd u9 (by omega)) (k8.upd u9 (by omega)) k9 ?_
 exact Ap.trans (Ap.trans (Ap.trans (Ap.Ed G4) (u7.mono λ_ x=>.inl x) λ_ _ x=>x) (u8.mono λ_ x=>.inr (.inl x)) λ_ _ x=>x) (u9.mono λ_ x=>.inr (.inr x)) λ_ _ x=>x
theorem Bg.quiet{w:World}{a b c:Addr}{K:FrameMode→WP}(h:K .returning w):
  dfK prog F.Bg [.pointer (some a),.pointer (some b),.pointer (some c)] .returning w K:=by
 refine⟨by simp,by kernel_rfl,CallsDIn.mono (Bg.okN (k:=K .returning) ?_) λe u w ⟨h1,h2,h3⟩=>⟨h1,by subst h2;exact h3⟩⟩
 unfold Bg.wpN
 exact⟨rfl,h⟩
abbrev RPE:List (Bool×List CK):=[(false,[.p]),(false,[KI]),(false,[KI])]
theorem Iz.cl{l:Bs}{w:World}{k:TR RPE→WP}
  (h0: ∀at_ e,fC l=(none,at_,e)→ ∀w',Ah w w'→k ((none,()),(at_,()),(e,()),()) w')
  (h1: ∀m,fC l=(some m,0,0)→ ∀b w',w.heap.size≤b→TbW w' b m→Ah w w'→k ((some ⟨b,0,none⟩,()),(0,()),(0,()),()) w'):
  Ad prog F.Iz [.string (Fb l)] w true RPE k:=by
 refine Iz.ok ?_
 unfold Iz.wp
 refine Ae λp1 w2 e1 k1 u1=>Ae λp3 w4 e3 k3 u3=>Ae λp5 w6 e5 k5 u5=>?_
 have q1:=k1.lt
 have q3:=k3.lt
 have k1:=(k1.Ai u3).Ai u5
 have k3:=k3.Ai u5
 have g6:=(u1.trans u3).trans u5
 have s2:=u1.size
 have l3:=k3.lt
 have l5:=k5.lt
 have o:p1<p3∧p3<p5:=by omega
 have hp1:w.heap.size=p1:=e1
 rw[Pq]
 have low: ∀{W W':World},Ah w W→Ap (λx=>p1≤x) W W'→Ah w W':=λg u=>Ap.trans g u λj hj h=>by omega
 refine Cf (λc=>?_) λc=>?_
 ·have c:(l.length:Int)>16384:=c
  have hp:fC l=(none,0,5):=by unfold fC;rw[if_pos (by omega)]
  refine k1.sN0 [.pointer none] (by simp) rfl λw7 k7 u7=>(k3.upd u7 (by omega)).s0 (by simp) λw8 k8 u8=>((k5.upd u7 (by omega)).upd u8 (by omega)).s0 (by simp) λw9 k9 u9=>?_
  show ld1 .p ⟨p1,0,none⟩ w9 _
  refine Ar.p0 ((k7.upd u8 (by omega)).upd u9 (by omega)) (Ar.i0 (k8.upd u9 (by omega)) rfl (k9.i0 rfl ?_))
  refine h0 0 5 hp w9 (low g6 (Ap.trans (Ap.trans (u7.mono λj h=>?_) (u8.mono λj h=>?_) λ_ _ x=>x) (u9.mono λj h=>?_) λ_ _ x=>x))<;>omega
 have c: ¬(l.length:Int)>16384:=c
 have hp:fC l=zQ (Rt 10 l) 0 r0:=by unfold fC;rw[if_neg (by omega)]
 refine Ae λb w14 eb kb ub=>strings_Split.cl (by omega) λs w16 R16 hs u16=>?_
 have lb:=kb.lt
 have kb:=kb.Ai u16
 have g16:=(g6.trans ub).trans u16
 have hpl:=yM 10 l
 have hpe:=uQ 10 l
 have hlen:=R16.len'
 have sz:w14.heap.size<w16.heap.size:=by
  obtain⟨y,ys,hy⟩:=uJ (l:=l) (a:=10)
  have:=R16.cell hs (z:=0) (i:=0) (l:=y) rfl (by rw[hy];rfl)
  have:=cell_lt this
  rw[add_block] at this;exact this
 have hsb: ∀a,s.1=some a→a.block≠b∧a.block<w16.heap.size:=λa ha=>by
  rw[hs] at ha;injection ha with ha;subst ha
  exact⟨by show w14.heap.size≠b;omega,sz⟩
 have ob:p5<b:=by omega
 have back: ∀{W:World} {e i:Int} {K:FrameMode→WP},Rk b w16.heap.size w16 W→(∀w',Ah w w'→k ((none,()),(i,()),(e,()),()) w')→
   dfK prog F.Bg [.pointer (some ⟨p1,0,none⟩),.pointer (some ⟨p3,0,none⟩),.pointer (some ⟨p5,0,none⟩)] (.panicking [{v:=flt e i,recovered:=false}]) W λu w'=>
    enK (settle u) (ld1 .p ⟨p1,0,none⟩ w' λx28=>ld1 KI ⟨p3,0,none⟩ w' λx29=>ld1 KI ⟨p5,0,none⟩ w' λx30=>k ((x28,()),(x29,()),(x30,()),()) w') λch=>paK ch (λ_ _=>False) w':=by
  intro W e i K fr hk
  have f1:=(k1.Ai (ub.trans u16)).upd fr (by omega)
  have f3:=(k3.Ai (ub.trans u16)).upd fr (by omega)
  have f5:=(k5.Ai (ub.trans u16)).upd fr (by omega)
  refine Bg.rec f1 f3 f5 o λw' q1 q3 q5 u=>?_
  show ld1 .p ⟨p1,0,none⟩ w' _
  refine q1.p0 (q3.i0 rfl (q5.i0 rfl (hk w' ?_)))
  exact low g16 (Ap.trans (fr.mono λj h=>by omega) (u.mono λj h=>by omega) λ_ _ x=>x)
 refine Aw.by (λz W=> ∃(i:Nat) (r:RS),z.1=i∧i≤(Rt 10 l).length∧RI r∧RdW W b w16.heap.size i r∧Rk b w16.heap.size w16 W∧zQ (Rt 10 l) 0 r0=zQ ((Rt 10 l).drop i) i r)
  (λz=>(((Rt 10 l).length:Int)-z.1).toNat) ⟨0,r0,rfl,by omega,RI.zero,⟨(none,0,0),kb,Dp.nil _ _ _ _⟩,Rk.Ai (Ah.refl _),rfl⟩ ?_
 rintro⟨z,_⟩ W ⟨i,r,ez,hi,hI,hd,fr,hgo⟩ _
 dsimp only at ez
 subst ez
 have szW:=fr.size
 refine Cf (λc2=>?_) λc2=>?_
 ·have c2:(i:Int)<s.2.1:=c2
  have hi':i<(Rt 10 l).length:=by omega
  have hx:(Rt 10 l)[i]? =some (Rt 10 l)[i]:=List.getElem?_eq_getElem hi'
  have hdr:(Rt 10 l).drop i=(Rt 10 l)[i]::(Rt 10 l).drop (i+1):=List.drop_eq_getElem_cons hi'
  have hxl:=hpe _ (List.getElem_mem hi')
  generalize (Rt 10 l)[i]=x at hx hdr hxl
  rw[hdr,zQ] at hgo
  have RW:Xn W s (Rt 10 l):=R16.upd fr λa ha hh=>by have:=hsb a ha;omega
  refine RW.get rfl hx (Ju.cl hd hI (by omega) (by omega) (by omega) szW (by omega) ?_)
  cases hst:U2 r x with
  |inr e=>
   rw[hst] at hgo
   intro w' u
   exact back (K:=λ_ _=>True) (Rk.trans' fr u) λw'' g=>h0 _ _ (by rw[hp,hgo]) w'' g
  |inl r'=>
   rw[hst] at hgo
   intro w' hd' u
   have ei:wrap .i64 ((i:Int)+1)=((i+1:Nat):Int):=by rw[Af (by unfold I64;omega)];omega
   refine⟨⟨i+1,r',ei,by omega,aX hI hst,hd',Rk.trans' fr u,hgo⟩,?_⟩
   show(((Rt 10 l).length:Int)-wrap .i64 ((i:Int)+1)).toNat<(((Rt 10 l).length:Int)-(i:Int)).toNat
   rw[ei];omega
 ·have c2: ¬(i:Int)<s.2.1:=c2
  have:i=(Rt 10 l).length:=by omega
  subst this
  rw[List.drop_length,zQ] at hgo
  obtain⟨sl,hB,hO⟩:=hd
  refine Bh.by (λ_ W'=>W=W'∧ ¬r.q<2) ?_ ?_
  ·refine hB.i1 1 rfl (Cf (λc3=>?_) λc3=>⟨rfl,λh=>c3 (by show(r.q:Int)<2;omega)⟩)
   have c3:(r.q:Int)<2:=c3
   rw[if_pos (by omega)] at hgo
   exact Ba.cl hB (back (K:=λ_ _=>True) fr λw'' g=>h0 _ _ (by rw[hp,hgo]) w'' g)
  rintro _ _ ⟨rfl,hq⟩ _
  rw[if_neg hq] at hgo
  rw[Aq]
  have B4:=hB.drew
  have O4:=Dp.Ai hO (Ah.drew W)
  have fr4:=Rk.trans' fr (Rk.Ai (Ah.drew W))
  generalize W.drew=w44 at B4 O4 fr4
  refine B4.i1 2 rfl (B4.i1 3 rfl (B4.i1 4 rfl (B4.c1 5 (c:=.sl) (x:=sl) rfl (Ae λp49 w50 e50 k50 u50=>?_))))
  have f1:=((k1.Ai (ub.trans u16)).upd fr4 (by omega)).Ai u50
  have f3:=((k3.Ai (ub.trans u16)).upd fr4 (by omega)).Ai u50
  have f5:=((k5.Ai (ub.trans u16)).upd fr4 (by omega)).Ai u50
  have l44:=B4.lt
  have s44:=fr4.size
  refine⟨⟨B4.hold u50 (λx=>x) 5 (by simp),B4.hold u50 (λx=>x) 4 (by simp),B4.hold u50 (λx=>x) 3 (by simp),B4.hold u50 (λx=>x) 2 (by simp),trivial⟩,?_⟩
  refine f1.sN0 [.pointer (some ⟨p49,0,none⟩)] (by simp) rfl λw51 k51 u51=>⟨trivial,(f3.upd u51 (by omega)).s0 (by simp) λw52 k52 u52=>⟨trivial,((f5.upd u51 (by omega)).upd u52 (by omega)).s0 (by simp) λw53 k53 u53=>⟨trivial,?_⟩⟩⟩
  refine Bg.quiet ?_
  show ld1 .p ⟨p1,0,none⟩ w53 _
  refine Ar.p0 ((k51.upd u52 (by omega)).upd u53 (by omega)) (Ar.i0 (k52.upd u53 (by omega)) rfl (k53.i0 rfl ?_))
  have O50:=Dp.Ai O4 u50
  have O53:Vz T.Ro w53 w16.heap.size sl r.t.ls:=Dp.upd (Dp.upd (Dp.upd O50 u51 λa ha hh=>by have:=(Dp.blk O50 ha).1;omega) u52 λa ha hh=>by have:=(Dp.blk O50 ha).1;omega) u53 λa ha hh=>by have:=(Dp.blk O50 ha).1;omega
  refine h1 r.t (by rw[hp,hgo]) p49 w53 (by have:=g16.size;omega) ⟨sl,((k50.upd u51 (by omega)).upd u52 (by omega)).upd u53 (by omega),Vz.rows O53⟩ ?_
  refine low g16 (Ap.trans (Ap.trans (Ap.trans (Ap.trans (fr4.mono λj h=>?_) (Ap.Ed u50) λ_ _ x=>x) (u51.mono λj h=>?_) λ_ _ x=>x) (u52.mono λj h=>?_) λ_ _ x=>x) (u53.mono λj h=>?_) λ_ _ x=>x)<;>omega
end Go.Proofs.YtppeepkmnijdpaaGreatDoor
