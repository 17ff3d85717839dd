import Derived.Test.YtppeepkmnijdpaaGreatDoorMcF
import Derived.Test.YtppeepkmnijdpaaGreatDoorMcG
namespace Go.Proofs.YtppeepkmnijdpaaGreatDoor
open Go.Eng Go
set_option linter.unusedSimpArgs false
set_option linter.unusedVariables false
set_option maxRecDepth 100000
set_option maxHeartbeats 8000000
abbrev Bs:=List UInt8
def Rt(a:UInt8):Bs→List Bs
 |[]=>[[]]
 |c::l=>if c=a then[]::Rt a l else match Rt a l with|p::ps=>(c::p)::ps|[]=>[[c]]
theorem Ass(a:UInt8): ∀l:Bs,Rt a l≠[]
 |[]=>by simp[Rt]
 |c::l=>by unfold Rt;split<;>(try split)<;>simp
theorem yV{a:UInt8}: ∀{x:Bs} (y:Bs),a∉x→Rt a (x++a::y)=x::Rt a y
 |[],y,_=>by simp[Rt]
 |c::x,y,h=>by
  have h1:a≠c∧a∉x:=by grind
  show Rt a (c::(x++a::y))=_
  rw[Rt,if_neg λe=>h1.1 e.symm,yV y h1.2]
theorem Afp{a:UInt8}: ∀{x:Bs},a∉x→Rt a x=[x]
 |[],_=>rfl
 |c::x,h=>by
  have h1:a≠c∧a∉x:=by grind
  rw[Rt,if_neg λe=>h1.1 e.symm,Afp h1.2]
def Pg(ls:List Bs):Bs:=ls.flatMap (·++[10])
theorem tJ(l:Bs)(ls:List Bs):Pg (l::ls)=l++10::Pg ls:=by simp[Pg]
theorem zA(a b:List Bs):Pg (a++b)=Pg a++Pg b:=by simp[Pg]
theorem Aln: ∀{ls:List Bs},(∀l∈ls,(10:UInt8)∉l)→Rt 10 (Pg ls)=ls++[[]]
 |[],_=>rfl
 |l::ls,h=>by
  rw[tJ,yV _ (h l (by simp)),Aln λx hx=>h x (by grind)];rfl
open Classical in
noncomputable def dOf (n:Int):D3:=if h: ∃d:D3,F8 d∧Ja d=n then Classical.choose h else(0,0,0)
theorem Arv{d:D3}{n:Int}(h:F8 d)(e:Ja d=n):dOf n=d:=by
 have hx: ∃d:D3,F8 d∧Ja d=n:=⟨d,h,e⟩
 unfold dOf
 rw[dif_pos hx]
 have:=Classical.choose_spec hx
 exact Aay this.1 h (this.2.trans e.symm)
noncomputable def datL (n:Int):Bs:=eH (dOf n)
theorem Aft{d:D3}{n:Int}(h:F8 d)(e:Ja d=n):eH d=datL n:=by unfold datL;rw[Arv h e]
def Yf(l:Bs):Option Int:=match Y3 l with|some d=>some (Ja d)|none=>none
theorem sG{l:Bs}{n:Int}(h:Yf l=some n): -719162≤n∧n≤2932896:=by
 unfold Yf at h
 split at h
 ·rename_i d hd
  injection h with h
  have:=jG (nN hd)
  omega
 grind
theorem Hq(n:Int):(datL n).length=10:=oP _
def aJ(n:Nat):Bs:=if n<10 then[xM n] else[xM (n/10),xM n]
def O5(l:Bs):Prop:=(l.length=1∨l.length=2∧l[0]? ≠some 48)∧ ∀c∈l,N8 c
instance instClLpA_3924 (l:Bs):Decidable (O5 l):=by unfold O5;exact inferInstance
theorem Aji(n:Nat):N8 (xM n):=by unfold N8;rw[Wi];omega
theorem zK{a:UInt8}(h:N8 a):xM (a.toNat-48)=a:=by
 apply UInt8.toNat_inj.1;rw[Wi];unfold N8 at h;omega
theorem Ad7{n:Nat}(h:n<100):O5 (aJ n):=by
 unfold aJ O5
 split
 ·exact⟨.inl rfl,by intro c hc;simp at hc;subst hc;exact Aji _⟩
 ·refine⟨.inr ⟨rfl,?_⟩,by intro c hc;simp at hc;rcases hc with rfl|rfl<;>exact Aji _⟩
  intro e
  simp at e
  have:=Wi (n/10)
  rw[e] at this
  grind
theorem rV(a:UInt8):Rq [a]=a.toNat-48:=by simp[Rq]
theorem uO(a b:UInt8):Rq [a,b]=10*(a.toNat-48)+(b.toNat-48):=by simp[Rq]
theorem Ajh{n:Nat}(h:n<100):Rq (aJ n)=n:=by
 unfold aJ
 split
 ·rw[rV,Wi];omega
 ·rw[uO,Wi,Wi];omega
theorem wK{l:Bs}(h:O5 l):Rq l<100∧l=aJ (Rq l):=by
 obtain⟨h1,h2⟩:=h
 rcases h1 with h1|⟨h1,h3⟩
 ·match l,h1 with
  |[a],_=>
   have ha:=h2 a (by simp)
   have hs:=zK ha
   unfold N8 at ha
   rw[rV]
   refine⟨by omega,?_⟩
   unfold aJ
   rw[if_pos (by omega),hs]
 ·match l,h1 with
  |[a,b],_=>
   have ha:=h2 a (by simp)
   have hb:=h2 b (by simp)
   have hs:=zK ha
   have hs2:=zK hb
   have hne:a.toNat≠48:=λe=>h3 (by simp;exact UInt8.toNat_inj.1 e)
   unfold N8 at ha hb
   rw[uO]
   refine⟨by omega,?_⟩
   unfold aJ
   rw[if_neg (by omega),show(10*(a.toNat-48)+(b.toNat-48))/10=a.toNat-48 by omega,hs,
    show xM (10*(a.toNat-48)+(b.toNat-48))=b from UInt8.toNat_inj.1 (by rw[Wi];omega)]
theorem qO(n:Nat):(aJ n).length≤2:=by unfold aJ;split<;>simp
def La:Bs:=[115,116,97,114,116]
def Yb:Bs:=[108,101,97,112]
def Yj:Bs:=[101,110,100]
def pR:Bs:=[43,49]
def m1L:Bs:=[45,49]
def late(ls:L2)(d:Int):Prop:= ∃x,ls[ls.length-1]? =some x∧d≤x.1
instance (ls:L2) (d:Int):Decidable (late ls d):=
 match h:ls[ls.length-1]? with
 |some x=>if c:d≤x.1 then .isTrue ⟨x,h,c⟩ else .isFalse λ⟨y,h1,h2⟩=>by rw[h] at h1;injection h1 with h1;subst h1;exact c h2
 |none=>.isFalse λ⟨y,h1,_⟩=>by rw[h] at h1;cases h1
structure RS where
 q:Nat
 t:V9
abbrev t0:V9:=⟨0,0,0,[]⟩
abbrev r0:RS:=⟨0,t0⟩
def iL(r:RS)(w:List Bs):RS⊕Int:=match w with
 |[a,b,c]=>if a=La∧O5 c then(match Yf b with|some d=>.inl ⟨1,⟨d,Rq c,r.t.en,r.t.ls⟩⟩|none=>.inr 3) else .inr 3
 |_=>.inr 3
def jO(r:RS)(w:List Bs):RS⊕Int:=match w with
 |[_,b,c]=>if c=pR∨c=m1L then(match Yf b with
   |some d=>if r.t.ls.length=64 then .inr 6 else if d<r.t.st∨late r.t.ls d then .inr 12 else .inl ⟨1,⟨r.t.st,r.t.ah,r.t.en,r.t.ls++[(d,if c=pR then 1 else-1)]⟩⟩
   |none=>.inr 3) else .inr 3
 |_=>.inr 3
def jC(r:RS)(w:List Bs):RS⊕Int:=match w with
 |[a,b]=>if a=Yj then(match Yf b with
   |some d=>if d≤r.t.st∨late r.t.ls d then .inr 12 else .inl ⟨2,⟨r.t.st,r.t.ah,d,r.t.ls⟩⟩
   |none=>.inr 3) else .inr 3
 |_=>.inr 3
def stepW(r:RS)(w:List Bs):RS⊕Int:=
 if r.q=0 then iL r w else if r.q=1 then(if w.head? =some Yb then jO r w else jC r w) else .inr 3
def U2(r:RS)(l:Bs):RS⊕Int:=if l=[]∨l.head? =some 35 then .inl r else stepW r (Rt 32 l)
def zQ:List Bs→Int→RS→Option V9×Int×Int
 |[],i,r=>if r.q<2 then(none,i,3) else(some r.t,0,0)
 |l::ls,i,r=>match U2 r l with| .inr e=>(none,i+1,e)| .inl r'=>zQ ls (i+1) r'
def fC(s:Bs):Option V9×Int×Int:=if 16384<s.length then(none,0,5) else zQ (Rt 10 s) 0 r0
def Akf:List Bs→RS→Option RS
 |[],r=>some r
 |l::ls,r=>match U2 r l with| .inl r'=>Akf ls r'| .inr _=>none
theorem Aa2: ∀{ls:List Bs} {i:Int} {r:RS} {t:V9} {x:Int×Int},zQ ls i r=(some t,x)→x=(0,0)∧ ∃r',Akf ls r=some r'∧r'.t=t∧2≤r'.q
 |[],i,r,t,x,h=>by
  unfold zQ at h
  split at h
  ·cases h
  ·injection h with h1 h2
   injection h1 with h1
   exact⟨h2.symm,r,rfl,h1,by omega⟩
 |l::ls,i,r,t,x,h=>by
  unfold zQ at h
  unfold Akf
  cases hs:U2 r l with
  |inr e=>rw[hs] at h;cases h
  |inl r1=>rw[hs] at h;exact Aa2 h
theorem Agx{r:RS}{l:Bs}{e:Int}(h:U2 r l=.inr e):e=3∨e=6∨e=12:=by
 unfold U2 at h
 split at h
 ·grind
 unfold stepW iL jO jC at h
 grind
theorem Afy: ∀{ls:List Bs} {i:Int} {r:RS},(zQ ls i r).1=none→(zQ ls i r).2.2≠0
 |[],i,r,h=>by
  unfold zQ at h⊢
  split at h
  ·rename_i c;rw[if_pos c];show(3:Int)≠0;decide
  ·cases h
 |l::ls,i,r,h=>by
  unfold zQ at h⊢
  cases hs:U2 r l with
  |inr e=>have:=Agx hs;show e≠0;omega
  |inl r1=>rw[hs] at h;exact Afy h
theorem rP{en lo:Int}{ls:L2}(h:Asc en lo ls){d:Int}(hl: ¬late ls d): ∀l∈ls,l.1<d:=by
 intro l hm
 obtain⟨j,hj,e⟩:=List.getElem_of_mem hm
 have hj':ls[j]? =some l:=by grind
 have hx:ls[ls.length-1]? =some (ls[ls.length-1]'(by omega)):=List.getElem?_eq_getElem _
 generalize ls[ls.length-1]'(by omega)=x at hx
 have hd: ¬d≤x.1:=λc=>hl ⟨x,hx,c⟩
 rcases Nat.lt_or_ge j (ls.length-1) with c|c
 ·have:=iJ h c hj' hx;omega
 grind
theorem Art{en lo:Int}{ls:L2}(h:Asc en lo ls){en':Int}(hl: ∀l∈ls,l.1<en'):Asc en' lo ls:=by
 induction ls generalizing lo with
 |nil=>trivial
 |cons x ls ih=>exact⟨h.1,hl x (by simp),ih h.2.2 λl hm=>hl l (by grind)⟩
theorem Abl{en lo:Int}{ls:L2}(h:Asc en lo ls){x:P2}(hlo:lo<x.1)(hen:x.1<en)(hl: ∀l∈ls,l.1<x.1):Asc en lo (ls++[x]):=by
 induction ls generalizing lo with
 |nil=>exact⟨hlo,hen,trivial⟩
 |cons y ls ih=>exact⟨h.1,h.2.1,ih h.2.2 (hl y (by simp)) λl hm=>hl l (by grind)⟩
structure RI(r:RS):Prop where
 q:r.q≤2
 q0:r.q=0→r.t=t0
 rg:1≤r.q→ -719162≤r.t.st∧r.t.st≤2932896∧0≤r.t.ah∧r.t.ah≤99
 st: ∀l∈r.t.ls,Stp l
 n:r.t.ls.length≤64
 asc:Asc 2932897 (r.t.st-1) r.t.ls
 g:r.q=2→Tq r.t
theorem RI.zero:RI r0:=⟨by decide,λ_=>rfl,λh=>absurd h (by decide),(λl h=>by cases h),by decide,trivial,λh=>absurd (show(0:Nat)=2 from h) (by decide)⟩
theorem aX{r r':RS}{l:Bs}(hi:RI r)(h:U2 r l=.inl r'):RI r':=by
 unfold U2 at h
 split at h
 ·injection h with h;subst h;exact hi
 unfold stepW at h
 split at h
 ·rename_i hq
  have h0:=hi.q0 hq
  unfold iL at h
  split at h
  case h_2=>cases h
  rename_i a b c hw
  split at h
  case isFalse=>cases h
  rename_i hc
  split at h
  case h_2=>cases h
  rename_i d hd
  injection h with h
  subst h
  have dr:=sG hd
  have pv:=(wK hc.2).1
  rw[h0]
  exact⟨by show 1≤2;decide,λh=>absurd (show(1:Nat)=0 from h) (by decide),λ_=>⟨dr.1,dr.2,by show(0:Int)≤(Rq c:Int);omega,by show(Rq c:Int)≤99;omega⟩,(λl h=>by cases h),by show 0≤64;decide,trivial,λh=>absurd (show(1:Nat)=2 from h) (by decide)⟩
 split at h
 ·rename_i hq0 hq
  have rg:=hi.rg (by omega)
  split at h
  ·unfold jO at h
   split at h
   case h_2=>cases h
   rename_i a b c hw
   split at h
   case isFalse=>cases h
   rename_i hc
   split at h
   case h_2=>cases h
   rename_i d hd
   split at h
   ·cases h
   rename_i hn
   split at h
   ·cases h
   rename_i ho
   injection h with h
   subst h
   have dr:=sG hd
   have hl:=rP hi.asc λc=>ho (.inr c)
   have hn2:=hi.n
   refine⟨by show 1≤2;decide,λh=>absurd (show(1:Nat)=0 from h) (by decide),λ_=>rg,?_,?_,Abl hi.asc (by show r.t.st-1<d;omega) (by show d<_;omega) hl,λh=>absurd (show(1:Nat)=2 from h) (by decide)⟩
   ·intro l hm
    rcases List.mem_append.1 hm with hm|hm
    ·exact hi.st l hm
    ·rw[List.mem_singleton.1 hm]
     unfold Stp
     split
     ·exact .inl rfl
     ·exact .inr rfl
   ·show(r.t.ls++[_]).length≤64
    rw[List.length_append,List.length_singleton];omega
  ·unfold jC at h
   split at h
   case h_2=>cases h
   split at h
   case isFalse=>cases h
   split at h
   case h_2=>cases h
   rename_i d hd
   split at h
   ·grind
   rename_i ho
   injection h with h
   subst h
   have dr:=sG hd
   have hl:=rP hi.asc λc=>ho (.inr c)
   exact⟨by show 2≤2;decide,λh=>absurd (show(2:Nat)=0 from h) (by decide),λ_=>rg,hi.st,hi.n,hi.asc,λ_=>⟨⟨rg.1,rg.2.1,dr.1,dr.2,by show r.t.st<d;omega,rg.2.2.1,rg.2.2.2⟩,hi.st,hi.n,Art hi.asc hl⟩⟩
 grind
theorem Aao: ∀{ls:List Bs} {r r':RS},RI r→Akf ls r=some r'→RI r'
 |[],r,r',hi,h=>by injection h with h;subst h;exact hi
 |l::ls,r,r',hi,h=>by
  unfold Akf at h
  cases hs:U2 r l with
  |inr e=>rw[hs] at h;cases h
  |inl r1=>rw[hs] at h;exact Aao (aX hi hs) h
theorem Ahv{s:Bs}{t:V9}{x:Int×Int}(h:fC s=(some t,x)):x=(0,0)∧Tq t:=by
 unfold fC at h
 split at h
 ·grind
 obtain⟨hx,r',hr,ht,hq⟩:=Aa2 h
 have hi:=Aao RI.zero hr
 subst ht
 exact⟨hx,hi.g (by have:=hi.q;omega)⟩
theorem Aix{s:Bs}(h:(fC s).1=none):(fC s).2.2≠0:=by
 unfold fC at h⊢
 split
 ·grind
 ·rename_i c
  rw[if_neg c] at h;exact Afy h
noncomputable def lnS (m:V9):Bs:=La++32::(datL m.st++32::aJ m.ah.toNat)
def sgn(s:Int):Bs:=if s<0 then m1L else pR
noncomputable def lnL (l:P2):Bs:=Yb++32::(datL l.1++32::sgn l.2)
noncomputable def lnE (m:V9):Bs:=Yj++32::datL m.en
noncomputable def lnsT (m:V9):List Bs:=lnS m::(m.ls.map lnL++[lnE m])
noncomputable def txtT (m:V9):Bs:=Pg (lnsT m)
theorem Afg(m:V9):(lnS m).length≤19:=by unfold lnS La;simp only[List.length_append,List.length_cons,List.length_nil,Hq];have:=qO m.ah.toNat;omega
theorem Aah(l:P2):(lnL l).length≤19:=by
 unfold lnL Yb;simp only[List.length_append,List.length_cons,List.length_nil,Hq]
 have:(sgn l.2).length=2:=by unfold sgn;split<;>rfl
 omega
theorem xG{ls:List Bs}{k:Nat}(h: ∀l∈ls,l.length≤k):(Pg ls).length≤(k+1)*ls.length:=by
 induction ls with
 |nil=>simp[Pg]
 |cons l ls ih=>
  rw[tJ]
  have h1:=h l (by simp)
  have h2:=ih λx hx=>h x (by grind)
  simp
  rw[Nat.mul_add];omega
end Go.Proofs.YtppeepkmnijdpaaGreatDoor
