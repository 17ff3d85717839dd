import Derived.Test.YticgocmhmffneaaGreatDoorMtC
import Derived.Test.YticgocmhmffneaaGreatDoorEngW
namespace Go.Proofs.YticgocmhmffneaaGreatDoor
open Go Go.Eng Tryz
set_option linter.unusedSimpArgs false
set_option linter.unusedVariables false
set_option maxRecDepth 100000
set_option maxHeartbeats 8000000
noncomputable def chB:Option (Code×Nat×Array Oper):=match Tryz.f30.body with|some (.seq r (.seq (.region i o true) .ret))=>some (r,i,o)|_=>none
noncomputable def chR:Code:=match chB with|some (r,_,_)=>r|none=>.skip
noncomputable def chI:Nat:=match chB with|some (_,i,_)=>i|none=>0
noncomputable def chO:Array Oper:=match chB with|some (_,_,o)=>o|none=>#[]
theorem Ark:Tryz.f30.body=some (.seq chR (.seq (.region chI chO true) .ret)):=by kernel_rfl
theorem Aor:pW chO.toList=true:=by kernel_rfl
theorem Ae3:chO.size=18:=by kernel_rfl
abbrev Aws:List Value:=[.slice none 0 0,.slice none 0 0,.slice none 0 0,.slice none 0 0]
def chA(arg:Value)(p q:Addr):Act:={tmps:=(arg:: .pointer (some p):: .pointer (some q)::List.replicate 17 undef).toArray,defers:=[]}
theorem Aww(s0 s1 s2 s3:Sl)(w:World)(K:Act→WP)(Q:Exit→Act→WP):
  pw prog chR .n K Q {tmps:=([Value.agg #[bP s0,bP s1,bP s2,bP s3]]++List.replicate (Tryz.f30.ntmps-1) undef).toArray,defers:=[]} w=
   Bf [bP s0,bP s1,bP s2,bP s3] T.U0 w λp w2=>Bf Aws T.V4 w2 λq w4=>K (chA (.agg #[bP s0,bP s1,bP s2,bP s3]) p q) w4:=by kernel_rfl
def Tc(f:Nat→Value):Act:={tmps:=#[f 0,f 1,f 2,f 3,f 4,f 5,f 6,f 7,f 8,f 9,f 10,f 11,f 12,f 13,f 14,f 15,f 16,f 17,f 18,f 19],defers:=[]}
def Gi(f:Nat→Value)(i:Nat)(v:Value):Nat→Value:=λj=>if j=i then v else f j
theorem Al1{f:Nat→Value}{i:Nat}{v:Value}(h:f i=v):f=Gi f i v:=by
 funext j;unfold Gi;split
 ·rename_i e;rw[e,h]
 ·rfl
theorem sJ(f:Nat→Value)(i:Nat)(v:Value):Gi f i v i=v:=if_pos rfl
theorem rV{f:Nat→Value}{i j:Nat}{v:Value}(h:j≠i):Gi f i v j=f j:=if_neg h
noncomputable def stA (i:Nat) (a:Act) (w:World) (K:Act→WP):Prop:=match chO[i]? with|some o=>Yf prog o a w K|none=>False
theorem Aye(f:Nat→Value)(w:World)(K:Act→WP):stA 0 (Tc f) w K=Bf [] T.int w λp w'=>K (Tc (Gi f 3 (.slice (some p) 0 0))) w':=by kernel_rfl
theorem Axl(f:Nat→Value)(w:World)(K:Act→WP):stA 4 (Tc f) w K=Bf [] T.int w λp w'=>K (Tc (Gi f 7 (.slice (some p) 0 0))) w':=by kernel_rfl
theorem Axf(f:Nat→Value)(w:World)(K:Act→WP):stA 8 (Tc f) w K=Bf [] T.int w λp w'=>K (Tc (Gi f 11 (.slice (some p) 0 0))) w':=by kernel_rfl
theorem Axm(f:Nat→Value)(w:World)(K:Act→WP):stA 12 (Tc f) w K=Bf [] T.uint64 w λp w'=>K (Tc (Gi f 15 (.slice (some p) 0 0))) w':=by kernel_rfl
abbrev fA(f:Nat→Value)(p:Addr):Nat→Value:=Gi f 1 (.pointer (some p))
theorem Axp(f:Nat→Value)(p:Addr)(w:World)(K:Act→WP):stA 1 (Tc (fA f p)) w K=K (Tc (Gi (fA f p) 4 (.pointer (some (p.add 0))))) w:=by kernel_rfl
theorem Axi(f:Nat→Value)(p:Addr)(w:World)(K:Act→WP):stA 5 (Tc (fA f p)) w K=K (Tc (Gi (fA f p) 8 (.pointer (some (p.add 1))))) w:=by kernel_rfl
theorem Ayl(f:Nat→Value)(p:Addr)(w:World)(K:Act→WP):stA 9 (Tc (fA f p)) w K=K (Tc (Gi (fA f p) 12 (.pointer (some (p.add 2))))) w:=by kernel_rfl
theorem Axr(f:Nat→Value)(p:Addr)(w:World)(K:Act→WP):stA 13 (Tc (fA f p)) w K=K (Tc (Gi (fA f p) 16 (.pointer (some (p.add 3))))) w:=by kernel_rfl
theorem Axt(f:Nat→Value)(p:Addr)(w:World)(K:Act→WP):stA 2 (Tc (Gi f 4 (.pointer (some p)))) w K=ld1 .sl p w λx=>K (Tc (Gi (Gi f 4 (.pointer (some p))) 5 (bP x))) w:=by kernel_rfl
theorem Ax1(f:Nat→Value)(p:Addr)(w:World)(K:Act→WP):stA 6 (Tc (Gi f 8 (.pointer (some p)))) w K=ld1 .sl p w λx=>K (Tc (Gi (Gi f 8 (.pointer (some p))) 9 (bP x))) w:=by kernel_rfl
theorem Ayj(f:Nat→Value)(p:Addr)(w:World)(K:Act→WP):stA 10 (Tc (Gi f 12 (.pointer (some p)))) w K=ld1 .sl p w λx=>K (Tc (Gi (Gi f 12 (.pointer (some p))) 13 (bP x))) w:=by kernel_rfl
theorem Ayf(f:Nat→Value)(p:Addr)(w:World)(K:Act→WP):stA 14 (Tc (Gi f 16 (.pointer (some p)))) w K=ld1 .sl p w λx=>K (Tc (Gi (Gi f 16 (.pointer (some p))) 17 (bP x))) w:=by kernel_rfl
abbrev apE(t:TypeId)(s x:Sl)(w:World)(k:Sl→WP):Prop:=L9 ((Builtin.append_ #[t,t] t #[bP s,bP x]).run prog w) k
theorem Ayh(f:Nat→Value)(s x:Sl)(w:World)(K:Act→WP):stA 3 (Tc (Gi (Gi f 3 (bP s)) 5 (bP x))) w K=apE T.V5 s x w λy w'=>K (Tc (Gi (Gi (Gi f 3 (bP s)) 5 (bP x)) 6 (bP y))) w':=by kernel_rfl
theorem Ayn(f:Nat→Value)(s x:Sl)(w:World)(K:Act→WP):stA 7 (Tc (Gi (Gi f 7 (bP s)) 9 (bP x))) w K=apE T.V5 s x w λy w'=>K (Tc (Gi (Gi (Gi f 7 (bP s)) 9 (bP x)) 10 (bP y))) w':=by kernel_rfl
theorem Ax8(f:Nat→Value)(s x:Sl)(w:World)(K:Act→WP):stA 11 (Tc (Gi (Gi f 11 (bP s)) 13 (bP x))) w K=apE T.V5 s x w λy w'=>K (Tc (Gi (Gi (Gi f 11 (bP s)) 13 (bP x)) 14 (bP y))) w':=by kernel_rfl
theorem Ax4(f:Nat→Value)(s x:Sl)(w:World)(K:Act→WP):stA 15 (Tc (Gi (Gi f 15 (bP s)) 17 (bP x))) w K=apE T.Ux s x w λy w'=>K (Tc (Gi (Gi (Gi f 15 (bP s)) 17 (bP x)) 18 (bP y))) w':=by kernel_rfl
theorem Awv(f:Nat→Value)(y0 y1 y2 y3:Sl)(w:World)(K:Act→WP):stA 16 (Tc (Gi (Gi (Gi (Gi f 6 (bP y0)) 10 (bP y1)) 14 (bP y2)) 18 (bP y3))) w K=K (Tc (Gi (Gi (Gi (Gi (Gi f 6 (bP y0)) 10 (bP y1)) 14 (bP y2)) 18 (bP y3)) 19 (.agg #[bP y0,bP y1,bP y2,bP y3]))) w:=by kernel_rfl
theorem Awp(f:Nat→Value)(q:Addr)(y0 y1 y2 y3:Sl)(w:World)(K:Act→WP):stA 17 (Tc (Gi (Gi f 2 (.pointer (some q))) 19 (.agg #[bP y0,bP y1,bP y2,bP y3]))) w K=Au [bP y0,bP y1,bP y2,bP y3] q 0 w λw'=>K (Tc (Gi (Gi f 2 (.pointer (some q))) 19 (.agg #[bP y0,bP y1,bP y2,bP y3]))) w':=by kernel_rfl
def Ahx(o:Oper):List Nat:=o.after.toList.filterMap λe=>if Region.binds .any e=true then some e.on else none
theorem Ao9:chO.toList.map Ahx=[[],[],[1],[0,2],[],[],[5],[4,6,3],[],[],[9],[8,10,7],[],[],[13],[12,14,11],[3,7,11,15],[16,15,0,1,2,3,4,5,6,7,8,9,10,11,12,13,14,15,16]]:=by kernel_rfl
theorem guards:(chO.toList.all λo=>o.guard.isNone)=true:=by kernel_rfl
end Go.Proofs.YticgocmhmffneaaGreatDoor
namespace Go.Proofs.YticgocmhmffneaaGreatDoor
open Go Go.Eng
set_option linter.unusedSimpArgs false
set_option linter.unusedVariables false
set_option maxRecDepth 100000
set_option maxHeartbeats 8000000
def elO(k:Nat):TypeId:=if k=3 then T.uint64 else T.int
abbrev LI(l:Array Bool)(i:Nat):Prop:=l.getD i false=true
theorem wF{l:Array Bool}{i j:Nat}(hi:i<l.size):LI (l.setIfInBounds i true) j↔j=i∨LI l j:=by
 unfold LI
 by_cases e:j=i
 ·subst e
  simp[Array.getD,hi]
 ·by_cases hj:j<l.size
  ·have e2: ¬i=j:=λh=>e h.symm
   simp[Array.getD,hj,Array.getElem_setIfInBounds,e2,e]
  ·simp[Array.getD,hj,e]
structure ChI(base p q:Nat)(w4:World)(s:Nat→Sl)(xs:Nat→List Value)(l:Array Bool)(f:Nat→Value)(o:Nat→Nat)(w:World):Prop where
 sz:l.size=18
 f1:f 1=.pointer (some ⟨p,0,none⟩)
 f2:f 2=.pointer (some ⟨q,0,none⟩)
 u:Am (λz=>z=q) w4 w
 kp:Az w p [bP (s 0),bP (s 1),bP (s 2),bP (s 3)]
 kq: ∃cs,cs.length=4∧Az w q cs
 rw: ∀k,k<4→Row w (s k) 1 (xs k)
 bl: ∀k,k<4→LI l (4*k)→ ¬LI l (4*k+3)→f (3+4*k)=.slice (some ⟨o k,0,none⟩) 0 0∧Gs w base (elO k) 1 (some ⟨o k,0,none⟩,0,0) 0 []
 fa: ∀k,k<4→LI l (4*k+1)→f (4+4*k)=.pointer (some (Addr.add ⟨p,0,none⟩ k))
 ld: ∀k,k<4→LI l (4*k+2)→f (5+4*k)=bP (s k)
 ap: ∀k,k<4→LI l (4*k+3)→ ∃y,f (6+4*k)=bP y∧Gs w base (elO k) 1 y (xs k).length (xs k)∧ ∀a,y.1=some a→a.block=o k
 sb: ∀k,k<4→xs k≠[]→ ∀a,(s k).1=some a→a.block<base∧a.block≠q
 d16:LI l 16→ ∀k,k<4→LI l (4*k+3)
 d17:LI l 17→LI l 16
 dp: ∀k,k<4→LI l (4*k+3)→LI l (4*k)
 di: ∀j k,j<4→k<4→j≠k→LI l (4*j)→LI l (4*k)→o j≠o k
 lo: ∀k,k<4→LI l (4*k)→base≤o k∧o k<w.heap.size
 bu:LI l 16→ ∃y:Nat→Sl,(∀k,k<4→f (6+4*k)=bP (y k))∧f 19=.agg #[bP (y 0),bP (y 1),bP (y 2),bP (y 3)]
 st:LI l 17→ ∃y:Nat→Sl,(∀k,k<4→f (6+4*k)=bP (y k))∧Az w q [bP (y 0),bP (y 1),bP (y 2),bP (y 3)]
variable {base p q:Nat} {w4 w w':World} {s:Nat→Sl} {xs:Nat→List Value} {l:Array Bool} {f:Nat→Value} {o:Nat→Nat}
abbrev ChQ(base p q:Nat)(w4:World)(s:Nat→Sl)(xs:Nat→List Value)(l:Array Bool)(a:Act)(w:World):Prop:= ∃f o,a=Tc f∧ChI base p q w4 s xs l f o w
theorem ChI.al(h:ChI base p q w4 s xs l f o w){k:Nat}(hk:k<4)(hn: ¬LI l (4*k))(n3: ¬LI l (4*k+3))(hq:q<base)(hb:base≤w.heap.size){b:Nat}(e:w.heap.size=b)(u:Af w w')(ow:Gs w' base (elO k) 1 (some ⟨b,0,none⟩,0,0) 0 []):
  ChI base p q w4 s xs (l.setIfInBounds (4*k) true) (Gi f (3+4*k) (.slice (some ⟨b,0,none⟩) 0 0)) (λj=>if j=k then b else o j) w':=by
 have hs:=h.sz
 have L: ∀{j},LI (l.setIfInBounds (4*k) true) j↔j=4*k∨LI l j:=wF (by omega)
 have bb:=(ow.blk rfl).2.1
 have bl:b<w'.heap.size:=bb
 have n: ∀{j v},j≠3+4*k→Gi f (3+4*k) v j=f j:=λhj=>rV hj
 refine⟨by simpa using hs,by rw[n (by omega)];exact h.f1,by rw[n (by omega)];exact h.f2,h.u.Ai u,h.kp.Ai u,?_,λj hj=>Row.Ai (h.rw j hj) u,λj hj a c=>?_,λj hj a=>?_,λj hj a=>?_,λj hj a=>?_,h.sb,λa j hj=>L.2 (.inr (h.d16 ((L.1 a).resolve_left (by omega)) j hj)),λa=>L.2 (.inr (h.d17 ((L.1 a).resolve_left (by omega)))),λj hj a=>?_,λi j hi hj ne a c=>?_,λj hj a=>?_,λa=>?_,λa=>?_⟩
 ·obtain⟨cs,hc,kq⟩:=h.kq;exact⟨cs,hc,kq.Ai u⟩
 ·by_cases e2:j=k
  ·subst e2
   rw[if_pos rfl]
   exact⟨sJ _ _ _,ow⟩
  ·have a:=(L.1 a).resolve_left (by omega)
   have:=h.bl j hj a λx=>c (L.2 (.inr x))
   rw[if_neg e2,n (by omega)]
   exact⟨this.1,this.2.Ai u⟩
 ·rw[n (by omega)];exact h.fa j hj ((L.1 a).resolve_left (by omega))
 ·rw[n (by omega)];exact h.ld j hj ((L.1 a).resolve_left (by omega))
 ·have a2:=(L.1 a).resolve_left (by omega)
  obtain⟨y,h1,h2,h3⟩:=h.ap j hj a2
  have ne:j≠k:=λe=>n3 (e▸a2)
  rw[n (by omega)]
  exact⟨y,h1,h2.Ai u,λx hx=>by rw[if_neg ne];exact h3 x hx⟩
 ·have a:=(L.1 a).resolve_left (by omega)
  exact L.2 (.inr (h.dp j hj a))
 ·by_cases e1:i=k
  ·rw[if_pos e1,if_neg (by omega)]
   have:=h.lo j hj ((L.1 c).resolve_left (by omega))
   omega
  ·rw[if_neg e1]
   by_cases e2:j=k
   ·rw[if_pos e2]
    have:=h.lo i hi ((L.1 a).resolve_left (by omega))
    omega
   ·rw[if_neg e2]
    exact h.di i j hi hj ne ((L.1 a).resolve_left (by omega)) ((L.1 c).resolve_left (by omega))
 ·by_cases e1:j=k
  ·rw[if_pos e1];omega
  ·rw[if_neg e1]
   have:=h.lo j hj ((L.1 a).resolve_left (by omega))
   have:=u.size
   omega
 ·obtain⟨y,h1,h2⟩:=h.bu ((L.1 a).resolve_left (by omega))
  exact⟨y,λj hj=>by rw[n (by omega)];exact h1 j hj,by rw[n (by omega)];exact h2⟩
 ·obtain⟨y,h1,h2⟩:=h.st ((L.1 a).resolve_left (by omega))
  exact⟨y,λj hj=>by rw[n (by omega)];exact h1 j hj,h2.Ai u⟩
theorem ChI.fld(h:ChI base p q w4 s xs l f o w){k:Nat}(hk:k<4):ChI base p q w4 s xs (l.setIfInBounds (4*k+1) true) (Gi f (4+4*k) (.pointer (some (Addr.add ⟨p,0,none⟩ k)))) o w:=by
 have hs:=h.sz
 have L: ∀{j},LI (l.setIfInBounds (4*k+1) true) j↔j=4*k+1∨LI l j:=wF (by omega)
 have n: ∀{j v},j≠4+4*k→Gi f (4+4*k) v j=f j:=λhj=>rV hj
 refine⟨by simpa using hs,by rw[n (by omega)];exact h.f1,by rw[n (by omega)];exact h.f2,h.u,h.kp,h.kq,h.rw,λj hj a c=>?_,λj hj a=>?_,λj hj a=>?_,λj hj a=>?_,h.sb,λa j hj=>L.2 (.inr (h.d16 ((L.1 a).resolve_left (by omega)) j hj)),λa=>L.2 (.inr (h.d17 ((L.1 a).resolve_left (by omega)))),λj hj a=>L.2 (.inr (h.dp j hj ((L.1 a).resolve_left (by omega)))),λi j hi hj ne a c=>h.di i j hi hj ne ((L.1 a).resolve_left (by omega)) ((L.1 c).resolve_left (by omega)),λj hj a=>h.lo j hj ((L.1 a).resolve_left (by omega)),λa=>?_,λa=>?_⟩
 ·rw[n (by omega)];exact h.bl j hj ((L.1 a).resolve_left (by omega)) λx=>c (L.2 (.inr x))
 ·by_cases e:j=k
  ·subst e;exact sJ _ _ _
  ·rw[n (by omega)];exact h.fa j hj ((L.1 a).resolve_left (by omega))
 ·rw[n (by omega)];exact h.ld j hj ((L.1 a).resolve_left (by omega))
 ·rw[n (by omega)];exact h.ap j hj ((L.1 a).resolve_left (by omega))
 ·obtain⟨y,h1,h2⟩:=h.bu ((L.1 a).resolve_left (by omega))
  exact⟨y,λj hj=>by rw[n (by omega)];exact h1 j hj,by rw[n (by omega)];exact h2⟩
 ·obtain⟨y,h1,h2⟩:=h.st ((L.1 a).resolve_left (by omega))
  exact⟨y,λj hj=>by rw[n (by omega)];exact h1 j hj,h2⟩
theorem ChI.lod(h:ChI base p q w4 s xs l f o w){k:Nat}(hk:k<4):ChI base p q w4 s xs (l.setIfInBounds (4*k+2) true) (Gi f (5+4*k) (bP (s k))) o w:=by
 have hs:=h.sz
 have L: ∀{j},LI (l.setIfInBounds (4*k+2) true) j↔j=4*k+2∨LI l j:=wF (by omega)
 have n: ∀{j v},j≠5+4*k→Gi f (5+4*k) v j=f j:=λhj=>rV hj
 refine⟨by simpa using hs,by rw[n (by omega)];exact h.f1,by rw[n (by omega)];exact h.f2,h.u,h.kp,h.kq,h.rw,λj hj a c=>?_,λj hj a=>?_,λj hj a=>?_,λj hj a=>?_,h.sb,λa j hj=>L.2 (.inr (h.d16 ((L.1 a).resolve_left (by omega)) j hj)),λa=>L.2 (.inr (h.d17 ((L.1 a).resolve_left (by omega)))),λj hj a=>L.2 (.inr (h.dp j hj ((L.1 a).resolve_left (by omega)))),λi j hi hj ne a c=>h.di i j hi hj ne ((L.1 a).resolve_left (by omega)) ((L.1 c).resolve_left (by omega)),λj hj a=>h.lo j hj ((L.1 a).resolve_left (by omega)),λa=>?_,λa=>?_⟩
 ·rw[n (by omega)];exact h.bl j hj ((L.1 a).resolve_left (by omega)) λx=>c (L.2 (.inr x))
 ·rw[n (by omega)];exact h.fa j hj ((L.1 a).resolve_left (by omega))
 ·by_cases e:j=k
  ·subst e;exact sJ _ _ _
  ·rw[n (by omega)];exact h.ld j hj ((L.1 a).resolve_left (by omega))
 ·rw[n (by omega)];exact h.ap j hj ((L.1 a).resolve_left (by omega))
 ·obtain⟨y,h1,h2⟩:=h.bu ((L.1 a).resolve_left (by omega))
  exact⟨y,λj hj=>by rw[n (by omega)];exact h1 j hj,by rw[n (by omega)];exact h2⟩
 ·obtain⟨y,h1,h2⟩:=h.st ((L.1 a).resolve_left (by omega))
  exact⟨y,λj hj=>by rw[n (by omega)];exact h1 j hj,h2⟩
theorem ChI.app(h:ChI base p q w4 s xs l f o w){k:Nat}(hk:k<4)(h0:LI l (4*k))(n3: ¬LI l (4*k+3))(hp:p<base)(hq:q<base)(h4:w4.heap.size≤base){y:Sl}(u:Am (λz=>z=o k) w w')(r:Gs w' base (elO k) 1 y (xs k).length (xs k))(hy: ∀a,y.1=some a→(a.block=o k∨w.heap.size≤a.block)∧a.block<w'.heap.size):
  ∃o',ChI base p q w4 s xs (l.setIfInBounds (4*k+3) true) (Gi f (6+4*k) (bP y)) o' w':=by
 have hs:=h.sz
 have L: ∀{j},LI (l.setIfInBounds (4*k+3) true) j↔j=4*k+3∨LI l j:=wF (by omega)
 have n: ∀{j v},j≠6+4*k→Gi f (6+4*k) v j=f j:=λhj=>rV hj
 have lk:=h.lo k hk h0
 have us:=u.size
 obtain⟨b,hb,hb2⟩: ∃b,(∀a,y.1=some a→a.block=b)∧(b=o k∨w.heap.size≤b)∧b<w'.heap.size:=by
  cases e:y.1 with
  |none=>exact⟨o k,(λa ha=>by cases ha),.inl rfl,by omega⟩
  |some a=>exact⟨a.block,(λa' ha=>by cases ha;rfl),hy a e⟩
 have no: ∀{j},j<4→j≠k→LI l (4*j)→o j≠o k∧o j≠b:=λ{j} hj ne a=>by
  have h1:=h.di j k hj hk ne a h0
  have h2:=h.lo j hj a
  omega
 refine⟨λj=>if j=k then b else o j,by simpa using hs,by rw[n (by omega)];exact h.f1,by rw[n (by omega)];exact h.f2,Am.trans h.u u λz hz e=>by omega,h.kp.upd u (by omega),?_,λj hj=>Row.Adm (h.rw j hj) u λne a ha e=>by have:=h.sb j hj ne a ha;omega,λj hj a c=>?_,λj hj a=>?_,λj hj a=>?_,λj hj a=>?_,h.sb,λa j hj=>L.2 (.inr (h.d16 ((L.1 a).resolve_left (by omega)) j hj)),λa=>L.2 (.inr (h.d17 ((L.1 a).resolve_left (by omega)))),λj hj a=>?_,λi j hi hj ne a c=>?_,λj hj a=>?_,λa=>?_,λa=>?_⟩
 ·obtain⟨cs,hc,kq⟩:=h.kq;exact⟨cs,hc,kq.upd u (by omega)⟩
 ·have ne:j≠k:=λe=>c (L.2 (.inl (by omega)))
  have a2:=(L.1 a).resolve_left (by omega)
  have:=h.bl j hj a2 λx=>c (L.2 (.inr x))
  rw[if_neg ne,n (by omega)]
  exact⟨this.1,this.2.upd u λx hx e=>by cases hx;exact(no hj ne a2).1 e⟩
 ·rw[n (by omega)];exact h.fa j hj ((L.1 a).resolve_left (by omega))
 ·rw[n (by omega)];exact h.ld j hj ((L.1 a).resolve_left (by omega))
 ·by_cases e:j=k
  ·subst e
   exact⟨y,sJ _ _ _,r,λx hx=>by rw[if_pos rfl];exact hb x hx⟩
  ·have a2:=(L.1 a).resolve_left (by omega)
   obtain⟨y2,g1,g2,g3⟩:=h.ap j hj a2
   rw[n (by omega)]
   exact⟨y2,g1,g2.upd u λx hx e2=>(no hj e (h.dp j hj a2)).1 ((g3 x hx).symm.trans e2),λx hx=>by rw[if_neg e];exact g3 x hx⟩
 ·by_cases e:j=k
  ·subst e;exact L.2 (.inr h0)
  ·exact L.2 (.inr (h.dp j hj ((L.1 a).resolve_left (by omega))))
 ·have a2:=(L.1 a).resolve_left (by omega)
  have c2:=(L.1 c).resolve_left (by omega)
  by_cases e1:i=k
  ·rw[if_pos e1,if_neg (by omega)]
   exact(no hj (by omega) c2).2.symm
  ·rw[if_neg e1]
   by_cases e2:j=k
   ·rw[if_pos e2];exact(no hi e1 a2).2
   ·rw[if_neg e2];exact h.di i j hi hj ne a2 c2
 ·have a2:=(L.1 a).resolve_left (by omega)
  by_cases e1:j=k
  ·rw[if_pos e1];omega
  ·rw[if_neg e1]
   have:=h.lo j hj a2
   omega
 ·exact absurd (h.d16 ((L.1 a).resolve_left (by omega)) k hk) n3
 ·exact absurd (h.d16 (h.d17 ((L.1 a).resolve_left (by omega))) k hk) n3
end Go.Proofs.YticgocmhmffneaaGreatDoor
namespace Go.Proofs.YticgocmhmffneaaGreatDoor
open Go Go.Eng
set_option linter.unusedSimpArgs false
set_option linter.unusedVariables false
set_option maxRecDepth 100000
set_option maxHeartbeats 8000000
variable {base p q:Nat} {w4 w w':World} {s:Nat→Sl} {xs:Nat→List Value} {l:Array Bool} {f:Nat→Value} {o:Nat→Nat}
theorem ChI.ys(h:ChI base p q w4 s xs l f o w)(ha: ∀k,k<4→LI l (4*k+3)): ∃y:Nat→Sl,∀k,k<4→f (6+4*k)=bP (y k):=by
 obtain⟨y0,h0,_⟩:=h.ap 0 (by decide) (ha 0 (by decide))
 obtain⟨y1,h1,_⟩:=h.ap 1 (by decide) (ha 1 (by decide))
 obtain⟨y2,h2,_⟩:=h.ap 2 (by decide) (ha 2 (by decide))
 obtain⟨y3,h3,_⟩:=h.ap 3 (by decide) (ha 3 (by decide))
 refine⟨λk=>match k with|0=>y0|1=>y1|2=>y2|_=>y3,λk hk=>?_⟩
 match k,hk with
 |0,_=>exact h0
 |1,_=>exact h1
 |2,_=>exact h2
 |3,_=>exact h3
theorem ChI.bui(h:ChI base p q w4 s xs l f o w)(ha: ∀k,k<4→LI l (4*k+3)){y:Nat→Sl}(hy: ∀k,k<4→f (6+4*k)=bP (y k)):
  ChI base p q w4 s xs (l.setIfInBounds 16 true) (Gi f 19 (.agg #[bP (y 0),bP (y 1),bP (y 2),bP (y 3)])) o w:=by
 have hs:=h.sz
 have L: ∀{j},LI (l.setIfInBounds 16 true) j↔j=16∨LI l j:=wF (by omega)
 have n: ∀{j v},j≠19→Gi f 19 v j=f j:=λhj=>rV hj
 refine⟨by simpa using hs,by rw[n (by omega)];exact h.f1,by rw[n (by omega)];exact h.f2,h.u,h.kp,h.kq,h.rw,λj hj a c=>?_,λj hj a=>?_,λj hj a=>?_,λj hj a=>?_,h.sb,λa j hj=>L.2 (.inr (ha j hj)),λa=>L.2 (.inl rfl),λj hj a=>L.2 (.inr (h.dp j hj ((L.1 a).resolve_left (by omega)))),λi j hi hj ne a c=>h.di i j hi hj ne ?_ ?_,λj hj a=>h.lo j hj ?_,λa=>⟨y,λj hj=>by rw[n (by omega)];exact hy j hj,sJ _ _ _⟩,λa=>?_⟩
 ·rw[n (by omega)];exact h.bl j hj (h.dp j hj (ha j hj)) λx=>c (L.2 (.inr x))
 ·rw[n (by omega)];exact h.fa j hj ((L.1 a).resolve_left (by omega))
 ·rw[n (by omega)];exact h.ld j hj ((L.1 a).resolve_left (by omega))
 ·rw[n (by omega)];exact h.ap j hj ((L.1 a).resolve_left (by omega))
 ·exact h.dp i hi (ha i hi)
 ·exact h.dp j hj (ha j hj)
 ·exact h.dp j hj (ha j hj)
 ·obtain⟨y2,h1,h2⟩:=h.st ((L.1 a).resolve_left (by omega))
  exact⟨y2,λj hj=>by rw[n (by omega)];exact h1 j hj,h2⟩
theorem ChI.sto(h:ChI base p q w4 s xs l f o w)(h16:LI l 16)(hp:p≠q)(hq:q<base){y:Nat→Sl}(hy: ∀k,k<4→f (6+4*k)=bP (y k))(u:Am (λz=>z=q) w w')(k:Az w' q [bP (y 0),bP (y 1),bP (y 2),bP (y 3)]):
  ChI base p q w4 s xs (l.setIfInBounds 17 true) f o w':=by
 have hs:=h.sz
 have L: ∀{j},LI (l.setIfInBounds 17 true) j↔j=17∨LI l j:=wF (by omega)
 have ha:=h.d16 h16
 refine⟨by simpa using hs,h.f1,h.f2,Am.trans h.u u λ_ _ e=>e,h.kp.upd u hp,⟨_,rfl,k⟩,λj hj=>Row.Adm (h.rw j hj) u λne a ha e=>(h.sb j hj ne a ha).2 e,λj hj a c=>absurd (L.2 (.inr (ha j hj))) c,λj hj a=>h.fa j hj ((L.1 a).resolve_left (by omega)),λj hj a=>h.ld j hj ((L.1 a).resolve_left (by omega)),λj hj a=>?_,h.sb,λa j hj=>L.2 (.inr (ha j hj)),λa=>L.2 (.inr h16),λj hj a=>L.2 (.inr (h.dp j hj (ha j hj))),λi j hi hj ne a c=>h.di i j hi hj ne (h.dp i hi (ha i hi)) (h.dp j hj (ha j hj)),λj hj a=>?_,λa=>h.bu h16,λa=>⟨y,hy,k⟩⟩
 ·obtain⟨y2,g1,g2,g3⟩:=h.ap j hj (ha j hj)
  exact⟨y2,g1,g2.upd u λx hx e=>by have:=(h.lo j hj (h.dp j hj (ha j hj))).1;have:=g3 x hx;omega,g3⟩
 ·have:=h.lo j hj (h.dp j hj (ha j hj))
  have:=u.size
  omega
def Ago:List (List Nat):=[[],[],[1],[0,2],[],[],[5],[4,6,3],[],[],[9],[8,10,7],[],[],[13],[12,14,11],[3,7,11,15],[16,15,0,1,2,3,4,5,6,7,8,9,10,11,12,13,14,15,16]]
theorem Ao5{i:Nat}{oi:Oper}(hoi:chO[i]? =some oi):Ago[i]? =some (Ahx oi):=by
 have e:chO.toList.map Ahx=Ago:=Ao9
 rw[←e,List.getElem?_map,Array.getElem?_toList,hoi];rfl
theorem Aup{i:Nat}{ds:List Nat}(h:Ago[i]? =some ds){d:Nat}(hd:d∈ds):d<i:=by
 have hi:i<18:=(List.getElem?_eq_some_iff.1 h).1
 have all: ∀i,i<18→((Ago.getD i []).all λd=>decide (d<i))=true:=by decide
 have:=List.all_eq_true.1 (all i hi) d (by rw[List.getD_eq_getElem?_getD,h];exact hd)
 exact of_decide_eq_true this
theorem Xl{i d:Nat}(hi:i∈Region.ready .any chO l)(hd:d∈Ago.getD i []):LI l d:=by
 obtain⟨_,oi,hoi,hall⟩:=mem_ready.1 hi
 rw[List.getD_eq_getElem?_getD,Ao5 hoi] at hd
 obtain⟨e,he,h2⟩:=List.mem_filterMap.1 (show d∈Ahx oi from hd)
 split at h2
 ·rename_i hb
  injection h2 with h2
  rw[←h2]
  exact hall e (by simpa using he) hb
 ·cases h2
theorem Anv{i:Nat}(hs:l.size=18)(hi:i∈Region.ready .any chO l):i<18∧ ¬LI l i∧ ∃oi,chO[i]? =some oi:=by
 obtain⟨h,oi,hoi,_⟩:=mem_ready.1 hi
 have hlt:i<18:=by have:=(Array.getElem?_eq_some_iff.1 hoi).1;rwa [Ae3] at this
 refine⟨hlt,λc=>?_,oi,hoi⟩
 unfold LI at c
 simp[Array.getD,hs,hlt] at h c
 rw[h] at c;cases c
theorem Apc(hs:l.size=18)(hr:Region.ready .any chO l=[]): ∀i,i<18→LI l i:=by
 intro i
 induction i using Nat.strongRecOn with
 |_ i ih=>
  intro hi
  refine Classical.byContradiction λhn=>?_
  have hlt:i<chO.size:=by rw[Ae3];exact hi
  have hoi:chO[i]? =some chO[i]:=Array.getElem?_eq_getElem hlt
  have:i∈Region.ready .any chO l:=by
   refine mem_ready.2 ⟨?_,chO[i],hoi,λe he hb=>?_⟩
   ·unfold LI at hn
    simp[Array.getD,hs,hi] at hn⊢
    exact hn
   ·have hd:e.on∈Ahx chO[i]:=List.mem_filterMap.2 ⟨e,by simpa using he,if_pos hb⟩
    have:=Aup (Ao5 hoi) hd
    exact ih e.on this (by omega)
  rw[hr] at this;cases this
end Go.Proofs.YticgocmhmffneaaGreatDoor
namespace Go.Proofs.YticgocmhmffneaaGreatDoor
open Go Go.Eng Tryz
set_option linter.unusedSimpArgs false
set_option linter.unusedVariables false
set_option maxRecDepth 100000
set_option maxHeartbeats 8000000
theorem Jn{f:Nat→Value}{i:Nat}{v:Value}(h:f i=v):Gi f i v=f:=(Al1 h).symm
theorem alS(f:Nat→Value)(w:World)(K:Act→WP): ∀k,k<4→stA (4*k) (Tc f) w K=Bf [] (elO k) w λp w'=>K (Tc (Gi f (3+4*k) (.slice (some p) 0 0))) w'
 |0,_=>Aye f w K
 |1,_=>Axl f w K
 |2,_=>Axf f w K
 |3,_=>Axm f w K
 |k+4,h=>by omega
theorem faS{f:Nat→Value}{p:Addr}(h:f 1=.pointer (some p))(w:World)(K:Act→WP): ∀k,k<4→stA (4*k+1) (Tc f) w K=K (Tc (Gi f (4+4*k) (.pointer (some (p.add k))))) w
 |0,_=>by have:=Axp f p w K;rw[show fA f p=f from Jn h] at this;exact this
 |1,_=>by have:=Axi f p w K;rw[show fA f p=f from Jn h] at this;exact this
 |2,_=>by have:=Ayl f p w K;rw[show fA f p=f from Jn h] at this;exact this
 |3,_=>by have:=Axr f p w K;rw[show fA f p=f from Jn h] at this;exact this
 |k+4,h=>by omega
theorem loS{f:Nat→Value}{p:Addr}(w:World)(K:Act→WP): ∀k,k<4→f (4+4*k)=.pointer (some p)→stA (4*k+2) (Tc f) w K=ld1 .sl p w λx=>K (Tc (Gi f (5+4*k) (bP x))) w
 |0,_,h=>by have:=Axt f p w K;rw[Jn h] at this;exact this
 |1,_,h=>by have:=Ax1 f p w K;rw[Jn h] at this;exact this
 |2,_,h=>by have:=Ayj f p w K;rw[Jn h] at this;exact this
 |3,_,h=>by have:=Ayf f p w K;rw[Jn h] at this;exact this
 |k+4,h,_=>by omega
def slO(k:Nat):TypeId:=if k=3 then T.Ux else T.V5
theorem apS{f:Nat→Value}{s x:Sl}(w:World)(K:Act→WP): ∀k,k<4→f (3+4*k)=bP s→f (5+4*k)=bP x→stA (4*k+3) (Tc f) w K=apE (slO k) s x w λy w'=>K (Tc (Gi f (6+4*k) (bP y))) w'
 |0,_,h,g=>by have:=Ayh f s x w K;rw[Jn h,Jn g] at this;exact this
 |1,_,h,g=>by have:=Ayn f s x w K;rw[Jn h,Jn g] at this;exact this
 |2,_,h,g=>by have:=Ax8 f s x w K;rw[Jn h,Jn g] at this;exact this
 |3,_,h,g=>by have:=Ax4 f s x w K;rw[Jn h,Jn g] at this;exact this
 |k+4,h,_,_=>by omega
theorem buS{f:Nat→Value}{y:Nat→Sl}(w:World)(K:Act→WP)(h: ∀k,k<4→f (6+4*k)=bP (y k)):stA 16 (Tc f) w K=K (Tc (Gi f 19 (.agg #[bP (y 0),bP (y 1),bP (y 2),bP (y 3)]))) w:=by
 have:=Awv f (y 0) (y 1) (y 2) (y 3) w K
 rw[Jn (h 0 (by decide)),Jn (h 1 (by decide)),Jn (h 2 (by decide)),Jn (h 3 (by decide))] at this
 exact this
theorem stS{f:Nat→Value}{q:Addr}{y:Nat→Sl}(w:World)(K:Act→WP)(h2:f 2=.pointer (some q))(h:f 19=.agg #[bP (y 0),bP (y 1),bP (y 2),bP (y 3)]):stA 17 (Tc f) w K=Au [bP (y 0),bP (y 1),bP (y 2),bP (y 3)] q 0 w λw'=>K (Tc f) w':=by
 have:=Awp f q (y 0) (y 1) (y 2) (y 3) w K
 rw[Jn h2,Jn h] at this
 exact this
theorem Ase{K' K:Act→WP}{i:Nat}{oi:Oper}{a:Act}{w:World}(hoi:chO[i]? =some oi)(h:stA i a w K):wpOp prog chO (qn K') i K a w:=by
 have hg:oi.guard.isNone=true:=List.all_eq_true.1 guards oi (by simpa using Array.mem_of_getElem? hoi)
 unfold stA at h
 rw[hoi] at h
 unfold wpOp
 rw[hoi]
 have hw:Region.wanted oi (yielded chO a.tmps)=true:=by
  unfold Region.wanted
  cases e:oi.guard with
  |none=>rfl
  |some g=>rw[e] at hg;cases hg
 dsimp only
 rw[if_pos hw]
 exact .inl (vU h)
variable {base p q:Nat} {w4 w w':World} {s:Nat→Sl} {xs:Nat→List Value} {l:Array Bool} {f:Nat→Value} {o:Nat→Nat}
theorem Ayp: ∀k,k<4→prog.underlying (slO k)=some (.slice (elO k))∧jY prog (elO k) 1=true
 |0,_=>⟨by kernel_rfl,by kernel_rfl⟩
 |1,_=>⟨by kernel_rfl,by kernel_rfl⟩
 |2,_=>⟨by kernel_rfl,by kernel_rfl⟩
 |3,_=>⟨by kernel_rfl,by kernel_rfl⟩
 |k+4,h=>by omega
theorem dk: ∀k,k<4→4*k+1∈Ago.getD (4*k+2) []∧4*k∈Ago.getD (4*k+3) []∧4*k+2∈Ago.getD (4*k+3) []∧4*k+3∈Ago.getD 16 []:=by decide
theorem Aun{K':Act→WP}(hp:p<base)(hq:q<base)(hpq:p≠q)(h4:w4.heap.size=base)(one: ∀k,k<4→ ∀u∈xs k,u.oneCell'=true)(len: ∀k,k<4→(xs k).length≤1000000):
  ∀l a w i,ChQ base p q w4 s xs l a w→i∈Region.ready .any chO l→wpOp prog chO (qn K') i (λa' w'=>ChQ base p q w4 s xs (l.setIfInBounds i true) a' w') a w:=by
 rintro l a w i ⟨f,o,rfl,h⟩ hi
 obtain⟨hlt,hn,oi,hoi⟩:=Anv h.sz hi
 refine Ase hoi ?_
 clear hoi
 have hbw:base≤w.heap.size:=by have:=h.u.size;omega
 by_cases c:i<16
 ·obtain⟨k,hk,e⟩: ∃k,k<4∧(i=4*k∨i=4*k+1∨i=4*k+2∨i=4*k+3):=⟨i/4,by omega,by omega⟩
  obtain⟨d1,d2,d3,_⟩:=dk k hk
  rcases e with rfl|rfl|rfl|rfl
  ·rw[alS f w _ k hk]
   refine Zv 1 0 rfl (by omega) λb w' e own u=>?_
   exact⟨_,_,rfl,h.al hk hn (λx=>hn (h.dp k hk x)) hq hbw e u (own.Zq λa ha=>by cases ha;show base≤b;omega)⟩
  ·rw[faS h.f1 w _ k hk]
   exact⟨_,_,rfl,h.fld hk⟩
  ·rw[loS w _ k hk (h.fa k hk (Xl hi d1))]
   have kp:ld1 .sl (Addr.add ⟨p,0,none⟩ k) w λx=>ChQ base p q w4 s xs (l.setIfInBounds (4*k+2) true) (Tc (Gi f (5+4*k) (bP x))) w:=
    h.kp.c1 k (c:=.sl) (x:=s k) (by match k,hk with|0,_=>rfl|1,_=>rfl|2,_=>rfl|3,_=>rfl) ⟨_,_,rfl,h.lod hk⟩
   exact kp
  ·have hl0:=Xl hi d2
   obtain⟨hb,ow⟩:=h.bl k hk hl0 hn
   rw[apS w _ k hk (s:=(some ⟨o k,0,none⟩,0,0)) (x:=s k) hb (h.ld k hk (Xl hi d3))]
   obtain⟨t1,t2⟩:=Ayp k hk
   have hlen:=len k hk
   have rl:=Row.Abk (h.rw k hk)
   refine Vx (s:=(some ⟨o k,0,none⟩,0,0)) (x:=s k) t1 t2 (by decide) ow (h.rw k hk) (one k hk) (by omega) hbw λy w' o' u' b'=>?_
   have r:Gs w' base (elO k) 1 y (xs k).length (xs k):=by
    have r:=o'
    rw[List.nil_append] at r
    have e:0+(s k).2.1=(xs k).length:=by omega
    rwa [e] at r
   obtain⟨o2,H⟩:=h.app hk hl0 hn hp hq (Nat.le_of_eq h4) (y:=y) (u'.mono λz ⟨a,ha,e⟩=>by cases ha;exact e.symm) r λa ha=>⟨(b' a ha).imp (λ⟨a0,h0,e0⟩=>by cases h0;exact e0) id,(o'.blk ha).2.1⟩
   exact⟨_,_,rfl,H⟩
 ·by_cases c2:i=16
  ·subst c2
   have ha: ∀k,k<4→LI l (4*k+3):=λk hk=>Xl hi (dk k hk).2.2.2
   obtain⟨y,hy⟩:=h.ys ha
   rw[buS w _ hy]
   exact⟨_,_,rfl,h.bui ha hy⟩
  ·obtain rfl:i=17:=by omega
   have h16:LI l 16:=Xl hi (by decide)
   obtain⟨y,hy,h19⟩:=h.bu h16
   rw[stS w _ h.f2 h19]
   obtain⟨cs,hc,kq⟩:=h.kq
   exact kq.Fg [bP (y 0),bP (y 1),bP (y 2),bP (y 3)] (by rw[hc];rfl) rfl λw' k' u'=>⟨_,_,rfl,h.sto h16 hpq hq hy u' k'⟩
abbrev K4s:List CK:=[.sl,.sl,.sl,.sl]
theorem At8(f:Nat→Value)(q:Addr)(w:World)(R:Value→WP):Ana prog Tryz.f30 R (Tc (Gi f 2 (.pointer (some q)))) w=A8 K4s q 0 w λx=>R (.agg #[bP x.1,bP x.2.1,bP x.2.2.1,bP x.2.2.2.1]) w:=by kernel_rfl
end Go.Proofs.YticgocmhmffneaaGreatDoor
namespace Go.Proofs.YticgocmhmffneaaGreatDoor
open Go Go.Eng Tryz
set_option linter.unusedSimpArgs false
set_option linter.unusedVariables false
set_option maxRecDepth 100000
set_option maxHeartbeats 8000000
theorem Alh{x y:Sl}(h:bP x=bP y):x=y:=by
 obtain⟨a,b,c⟩:=x
 obtain⟨d,e,f⟩:=y
 have h:Value.slice a b c=Value.slice d e f:=h
 injection h with h1 h2 h3
 subst h1 h2 h3;rfl
theorem Aus(n i:Nat): ¬LI (Array.replicate n false) i:=by
 unfold LI
 simp only[Array.getD,Array.size_replicate]
 split<;>simp
theorem Asj(n:Nat):cntF (Array.replicate n false)≤n:=by
 unfold cntF
 have:=List.countP_le_length (p:=(!·)) (l:=(Array.replicate n false).toList)
 simpa using this
def fch(arg:Value)(p q:Nat)(i:Nat):Value:=match i with|0=>arg|1=>.pointer (some ⟨p,0,none⟩)|2=>.pointer (some ⟨q,0,none⟩)|_=>undef
def s4(s0 s1 s2 s3:Sl)(k:Nat):Sl:=match k with|0=>s0|1=>s1|2=>s2|_=>s3
def x4(c:Ch)(k:Nat):List Value:=match k with|0=>Na c.ticks|1=>Na c.send|2=>Na c.hear|_=>iY c.lost
theorem Alf(xs:List Nat): ∀u∈iY xs,u.oneCell'=true:=by
 intro u hu
 obtain⟨x,_,rfl⟩:=List.mem_map.1 hu
 rfl
structure Ajq(c:Ch):Prop where
 t:c.ticks.length≤1000000
 s:c.send.length≤1000000
 h:c.hear.length≤1000000
 l:c.lost.length≤1000000
structure ChO(w w':World)(c:Ch)(y0 y1 y2 y3:Sl):Prop where
 t:Row w' y0 1 (Na c.ticks)
 s:Row w' y1 1 (Na c.send)
 h:Row w' y2 1 (Na c.hear)
 l:Row w' y3 1 (iY c.lost)
 lb: ∀x∈c.lost,x<18446744073709551616
 b: ∀s,(s=y0∨s=y1∨s=y2∨s=y3)→ ∀a,s.1=some a→w.heap.size≤a.block∧a.block<w'.heap.size
 d: ∀s,(s=y0∨s=y1∨s=y2)→ ∀a b,s.1=some a→y3.1=some b→a.block≠b.block
 k: ∀a,y3.1=some a→a=⟨a.block,0,none⟩∧ ∃cs,Az w' a.block cs
theorem ChO.w{w w':World}{c:Ch}{y0 y1 y2 y3:Sl}(h:ChO w w' c y0 y1 y2 y3){Z:NP}(hZ: ∀z,Z z→z<w.heap.size):ChW w' Z c y0 y1 y2 y3:=
 ⟨h.t,h.s,h.h,h.l,h.lb,λs hs a ha=>⟨(h.b s hs a ha).2,λq=>by have:=hZ _ q;have:=(h.b s hs a ha).1;omega⟩⟩
theorem law27_choice.o{c:Ch}{s0 s1 s2 s3:Sl}{w:World}(h0:Row w s0 1 (Na c.ticks))(h1:Row w s1 1 (Na c.send))(h2:Row w s2 1 (Na c.hear))(h3:Row w s3 1 (iY c.lost))(lb: ∀x∈c.lost,x<18446744073709551616)(le:Ajq c){K:TR [(true,K4s)]→WP}
  (hk: ∀y0 y1 y2 y3 w',Af w w'→ChO w w' c y0 y1 y2 y3→K ((y0,y1,y2,y3,()),()) w'):Ae prog F.law27_choice [.agg #[bP s0,bP s1,bP s2,bP s3]] w false [(true,K4s)] K:=by
 refine Calls.mono (Alm Aa Tryz.func30 Ark Aor .n (R:=λv w'=> ∃r:TR [(true,K4s)],v=encR false [(true,K4s)] r∧K r w') ?_) λe w' ⟨v,he,r,hv,h⟩=>⟨r,by rw[he,hv],h⟩
 show pw prog chR .n _ _ {tmps:=([Value.agg #[bP s0,bP s1,bP s2,bP s3]]++List.replicate (Tryz.f30.ntmps-1) undef).toArray,defers:=[]} w
 rw[Aww]
 refine Ad λp w2 e1 k1 u1=>Ad λq w3 e3 k3 u3=>?_
 have pl:=k1.lt
 have k1:=(k1.Ai u3).drew
 have ql:q<w3.drew.heap.size:=k3.drew.lt
 have k3:=k3.drew
 have g:=(u1.trans u3).trans (Af.drew w3)
 generalize w3.drew=w4 at*
 have z1:=u1.size
 have hr: ∀k,k<4→Row w (s4 s0 s1 s2 s3 k) 1 (x4 c k):=λk hk=>match k,hk with
  |0,_=>h0
  |1,_=>h1
  |2,_=>h2
  |3,_=>h3
 have hl: ∀k,k<4→(x4 c k).length≤1000000:=λk hk=>match k,hk with
  |0,_=>by show(Na c.ticks).length≤_;rw[List.length_map];exact le.t
  |1,_=>by show(Na c.send).length≤_;rw[List.length_map];exact le.s
  |2,_=>by show(Na c.hear).length≤_;rw[List.length_map];exact le.h
  |3,_=>by show(iY c.lost).length≤_;rw[List.length_map];exact le.l
 have ho: ∀k,k<4→ ∀u∈x4 c k,u.oneCell'=true:=λk hk=>match k,hk with
  |0,_=>Tj _
  |1,_=>Tj _
  |2,_=>Tj _
  |3,_=>Alf _
 have N:=λi=>Aus chO.size i
 have i0:ChI w4.heap.size p q w4 (s4 s0 s1 s2 s3) (x4 c) (Array.replicate chO.size false) (fch (.agg #[bP s0,bP s1,bP s2,bP s3]) p q) (λ_=>0) w4:=
  ⟨by rw[Array.size_replicate,Ae3],rfl,rfl,Am.refl _ _,k1,⟨_,rfl,k3⟩,λk hk=>Row.Ai (hr k hk) g,λk hk a=>absurd a (N _),λk hk a=>absurd a (N _),λk hk a=>absurd a (N _),λk hk a=>absurd a (N _),λk hk ne a ha=>by have:=Agm (hr k hk) ne ha;omega,λa=>absurd a (N _),λa=>absurd a (N _),λk hk a=>absurd a (N _),λj k hj hk ne a=>absurd a (N _),λk hk a=>absurd a (N _),λa=>absurd a (N _),λa=>absurd a (N _)⟩
 refine wX (ChQ w4.heap.size p q w4 (s4 s0 s1 s2 s3) (x4 c)) ?_ (Aun (by omega) ql (by omega) rfl ho hl) _ _ _ _ (Asj _) ⟨_,_,rfl,i0⟩
 rintro l a W ⟨f,o,rfl,h⟩ hrd
 have all:=Apc h.sz hrd
 obtain⟨y,hy,kq⟩:=h.st (all 17 (by decide))
 have fin:=At8 f ⟨q,0,none⟩ W (λv w'=> ∃r:TR [(true,K4s)],v=encR false [(true,K4s)] r∧K r w')
 rw[Jn h.f2] at fin
 show Ana _ _ _ _ _
 rw[fin]
 have G:Af w W:=Am.trans g h.u λz hz e=>by omega
 have yk: ∀k,k<4→Gs W w4.heap.size (elO k) 1 (y k) (x4 c k).length (x4 c k)∧(∀a,(y k).1=some a→a.block=o k)∧w4.heap.size≤o k∧o k<W.heap.size:=λk hk=>by
  obtain⟨y',e1,e2,e3⟩:=h.ap k hk (all _ (by omega))
  have e:y'=y k:=Alh (e1.symm.trans (hy k hk))
  subst e
  have lo:=h.lo k hk (all _ (by omega))
  exact⟨e2,e3,lo⟩
 have gs:=g.size
 have bl: ∀k,k<4→ ∀a,(y k).1=some a→w.heap.size≤a.block∧a.block<W.heap.size:=λk hk a ha=>by
  obtain⟨_,e,l1,l2⟩:=yk k hk
  rw[e a ha]
  exact⟨by omega,l2⟩
 have dj: ∀k,k<3→ ∀a b,(y k).1=some a→(y 3).1=some b→a.block≠b.block:=λk hk a b ha hb=>by
  rw[(yk k (by omega)).2.1 a ha,(yk 3 (by decide)).2.1 b hb]
  exact h.di k 3 (by omega) (by decide) (by omega) (all _ (by omega)) (all _ (by omega))
 refine kq.cA (cs:=K4s) (y 0,y 1,y 2,y 3,()) rfl ⟨((y 0,y 1,y 2,y 3,()),()),rfl,hk _ _ _ _ W G ⟨(yk 0 (by decide)).1.row,(yk 1 (by decide)).1.row,(yk 2 (by decide)).1.row,(yk 3 (by decide)).1.row,lb,?_,?_,λa ha=>⟨((yk 3 (by decide)).1.blk ha).2.2,(yk 3 (by decide)).1.cells ha⟩⟩⟩
 ·rintro s (rfl|rfl|rfl|rfl)
  ·exact bl 0 (by decide)
  ·exact bl 1 (by decide)
  ·exact bl 2 (by decide)
  ·exact bl 3 (by decide)
 ·rintro s (rfl|rfl|rfl)
  ·exact dj 0 (by decide)
  ·exact dj 1 (by decide)
  ·exact dj 2 (by decide)
theorem law27_choice.cl{c:Ch}{s0 s1 s2 s3:Sl}{w:World}(h0:Row w s0 1 (Na c.ticks))(h1:Row w s1 1 (Na c.send))(h2:Row w s2 1 (Na c.hear))(h3:Row w s3 1 (iY c.lost))(lb: ∀x∈c.lost,x<18446744073709551616)(le:Ajq c){K:TR [(true,K4s)]→WP}
  (hk: ∀y0 y1 y2 y3 w',Af w w'→(∀Z:NP,(∀z,Z z→z<w.heap.size)→ChW w' Z c y0 y1 y2 y3)→K ((y0,y1,y2,y3,()),()) w'):Ae prog F.law27_choice [.agg #[bP s0,bP s1,bP s2,bP s3]] w false [(true,K4s)] K:=
 law27_choice.o h0 h1 h2 h3 lb le λy0 y1 y2 y3 w' u h=>hk y0 y1 y2 y3 w' u λZ hZ=>h.w hZ
end Go.Proofs.YticgocmhmffneaaGreatDoor
