import Derived.Test.YticgocmhmffneaaGreatDoorMtC
import Derived.Test.YticgocmhmffneaaGreatDoorEngW
import Derived.Test.YticgocmhmffneaaGreatDoorMtE
namespace Go.Proofs.YticgocmhmffneaaGreatDoor
open Go Go.Eng Tryz
set_option linter.unusedSimpArgs false
set_option linter.unusedVariables false
set_option maxRecDepth 100000
set_option maxHeartbeats 8000000
noncomputable def vchB:Option (Code×Nat×Array Oper):=match Tryz.f56.body with|some (.seq r (.seq (.region i o true) .ret))=>some (r,i,o)|_=>none
noncomputable def vchR:Code:=match vchB with|some (r,_,_)=>r|none=>.skip
noncomputable def vchI:Nat:=match vchB with|some (_,i,_)=>i|none=>0
noncomputable def vchO:Array Oper:=match vchB with|some (_,_,o)=>o|none=>#[]
theorem Apl:Tryz.f56.body=some (.seq vchR (.seq (.region vchI vchO true) .ret)):=by kernel_rfl
theorem Anc:pW vchO.toList=true:=by kernel_rfl
theorem Ab9:vchO.size=18:=by kernel_rfl
abbrev At7:List Value:=[.slice none 0 0,.slice none 0 0,.slice none 0 0,.slice none 0 0]
def Ayq(arg:Value)(p q:Addr):Act:={tmps:=(arg:: .pointer (some p):: .pointer (some q)::List.replicate 17 undef).toArray,defers:=[]}
theorem Aul(s0 s1 s2 s3:Sl)(w:World)(K:Act→WP)(Q:Exit→Act→WP):
  pw prog vchR .n K Q {tmps:=([Value.agg #[bP s0,bP s1,bP s2,bP s3]]++List.replicate (Tryz.f56.ntmps-1) undef).toArray,defers:=[]} w=
   Bf [bP s0,bP s1,bP s2,bP s3] T.U0 w λp w2=>Bf At7 T.V4 w2 λq w4=>K (Ayq (.agg #[bP s0,bP s1,bP s2,bP s3]) p q) w4:=by kernel_rfl
def Nu(f:Nat→Value):Act:={tmps:=#[f 0,f 1,f 2,f 3,f 4,f 5,f 6,f 7,f 8,f 9,f 10,f 11,f 12,f 13,f 14,f 15,f 16,f 17,f 18,f 19],defers:=[]}
def Bz(f:Nat→Value)(i:Nat)(v:Value):Nat→Value:=λj=>if j=i then v else f j
theorem Ajo{f:Nat→Value}{i:Nat}{v:Value}(h:f i=v):f=Bz f i v:=by
 funext j;unfold Bz;split
 ·rename_i e;rw[e,h]
 ·rfl
theorem gB(f:Nat→Value)(i:Nat)(v:Value):Bz f i v i=v:=if_pos rfl
theorem jC{f:Nat→Value}{i j:Nat}{v:Value}(h:j≠i):Bz f i v j=f j:=if_neg h
noncomputable def vstA (i:Nat) (a:Act) (w:World) (K:Act→WP):Prop:=match vchO[i]? with|some o=>Yf prog o a w K|none=>False
theorem Av8(f:Nat→Value)(w:World)(K:Act→WP):vstA 0 (Nu f) w K=Bf [] T.int w λp w'=>K (Nu (Bz f 3 (.slice (some p) 0 0))) w':=by kernel_rfl
theorem Awy(f:Nat→Value)(w:World)(K:Act→WP):vstA 4 (Nu f) w K=Bf [] T.int w λp w'=>K (Nu (Bz f 7 (.slice (some p) 0 0))) w':=by kernel_rfl
theorem Avx(f:Nat→Value)(w:World)(K:Act→WP):vstA 8 (Nu f) w K=Bf [] T.int w λp w'=>K (Nu (Bz f 11 (.slice (some p) 0 0))) w':=by kernel_rfl
theorem Awg(f:Nat→Value)(w:World)(K:Act→WP):vstA 12 (Nu f) w K=Bf [] T.uint64 w λp w'=>K (Nu (Bz f 15 (.slice (some p) 0 0))) w':=by kernel_rfl
abbrev vfA(f:Nat→Value)(p:Addr):Nat→Value:=Bz f 1 (.pointer (some p))
theorem Avk(f:Nat→Value)(p:Addr)(w:World)(K:Act→WP):vstA 1 (Nu (vfA f p)) w K=K (Nu (Bz (vfA f p) 4 (.pointer (some (p.add 0))))) w:=by kernel_rfl
theorem Avn(f:Nat→Value)(p:Addr)(w:World)(K:Act→WP):vstA 5 (Nu (vfA f p)) w K=K (Nu (Bz (vfA f p) 8 (.pointer (some (p.add 1))))) w:=by kernel_rfl
theorem Awa(f:Nat→Value)(p:Addr)(w:World)(K:Act→WP):vstA 9 (Nu (vfA f p)) w K=K (Nu (Bz (vfA f p) 12 (.pointer (some (p.add 2))))) w:=by kernel_rfl
theorem Awk(f:Nat→Value)(p:Addr)(w:World)(K:Act→WP):vstA 13 (Nu (vfA f p)) w K=K (Nu (Bz (vfA f p) 16 (.pointer (some (p.add 3))))) w:=by kernel_rfl
theorem Av7(f:Nat→Value)(p:Addr)(w:World)(K:Act→WP):vstA 2 (Nu (Bz f 4 (.pointer (some p)))) w K=ld1 .sl p w λx=>K (Nu (Bz (Bz f 4 (.pointer (some p))) 5 (bP x))) w:=by kernel_rfl
theorem Avp(f:Nat→Value)(p:Addr)(w:World)(K:Act→WP):vstA 6 (Nu (Bz f 8 (.pointer (some p)))) w K=ld1 .sl p w λx=>K (Nu (Bz (Bz f 8 (.pointer (some p))) 9 (bP x))) w:=by kernel_rfl
theorem Av3(f:Nat→Value)(p:Addr)(w:World)(K:Act→WP):vstA 10 (Nu (Bz f 12 (.pointer (some p)))) w K=ld1 .sl p w λx=>K (Nu (Bz (Bz f 12 (.pointer (some p))) 13 (bP x))) w:=by kernel_rfl
theorem Awq(f:Nat→Value)(p:Addr)(w:World)(K:Act→WP):vstA 14 (Nu (Bz f 16 (.pointer (some p)))) w K=ld1 .sl p w λx=>K (Nu (Bz (Bz f 16 (.pointer (some p))) 17 (bP x))) w:=by kernel_rfl
abbrev Aqe(t:TypeId)(s x:Sl)(w:World)(k:Sl→WP):Prop:=L9 ((Builtin.append_ #[t,t] t #[bP s,bP x]).run prog w) k
theorem Avo(f:Nat→Value)(s x:Sl)(w:World)(K:Act→WP):vstA 3 (Nu (Bz (Bz f 3 (bP s)) 5 (bP x))) w K=Aqe T.V5 s x w λy w'=>K (Nu (Bz (Bz (Bz f 3 (bP s)) 5 (bP x)) 6 (bP y))) w':=by kernel_rfl
theorem Ava(f:Nat→Value)(s x:Sl)(w:World)(K:Act→WP):vstA 7 (Nu (Bz (Bz f 7 (bP s)) 9 (bP x))) w K=Aqe T.V5 s x w λy w'=>K (Nu (Bz (Bz (Bz f 7 (bP s)) 9 (bP x)) 10 (bP y))) w':=by kernel_rfl
theorem Av4(f:Nat→Value)(s x:Sl)(w:World)(K:Act→WP):vstA 11 (Nu (Bz (Bz f 11 (bP s)) 13 (bP x))) w K=Aqe T.V5 s x w λy w'=>K (Nu (Bz (Bz (Bz f 11 (bP s)) 13 (bP x)) 14 (bP y))) w':=by kernel_rfl
theorem Awt(f:Nat→Value)(s x:Sl)(w:World)(K:Act→WP):vstA 15 (Nu (Bz (Bz f 15 (bP s)) 17 (bP x))) w K=Aqe T.Ux s x w λy w'=>K (Nu (Bz (Bz (Bz f 15 (bP s)) 17 (bP x)) 18 (bP y))) w':=by kernel_rfl
theorem Auf(f:Nat→Value)(y0 y1 y2 y3:Sl)(w:World)(K:Act→WP):vstA 16 (Nu (Bz (Bz (Bz (Bz f 6 (bP y0)) 10 (bP y1)) 14 (bP y2)) 18 (bP y3))) w K=K (Nu (Bz (Bz (Bz (Bz (Bz f 6 (bP y0)) 10 (bP y1)) 14 (bP y2)) 18 (bP y3)) 19 (.agg #[bP y0,bP y1,bP y2,bP y3]))) w:=by kernel_rfl
theorem Aub(f:Nat→Value)(q:Addr)(y0 y1 y2 y3:Sl)(w:World)(K:Act→WP):vstA 17 (Nu (Bz (Bz f 2 (.pointer (some q))) 19 (.agg #[bP y0,bP y1,bP y2,bP y3]))) w K=Au [bP y0,bP y1,bP y2,bP y3] q 0 w λw'=>K (Nu (Bz (Bz f 2 (.pointer (some q))) 19 (.agg #[bP y0,bP y1,bP y2,bP y3]))) w':=by kernel_rfl
def Aby(o:Oper):List Nat:=o.after.toList.filterMap λe=>if Region.binds .any e=true then some e.on else none
theorem Amo:vchO.toList.map Aby=[[],[],[1],[0,2],[],[],[5],[4,6,3],[],[],[9],[8,10,7],[],[],[13],[12,14,11],[3,7,11,15],[16,15,0,1,2,3,4,5,6,7,8,9,10,11,12,13,14,15,16]]:=by kernel_rfl
theorem Arx:(vchO.toList.all λo=>o.guard.isNone)=true:=by kernel_rfl
end Go.Proofs.YticgocmhmffneaaGreatDoor
namespace Go.Proofs.YticgocmhmffneaaGreatDoor
open Go Go.Eng
set_option linter.unusedSimpArgs false
set_option linter.unusedVariables false
set_option maxRecDepth 100000
set_option maxHeartbeats 8000000
def Aof(k:Nat):TypeId:=if k=3 then T.uint64 else T.int
abbrev Vd(l:Array Bool)(i:Nat):Prop:=l.getD i false=true
theorem lH{l:Array Bool}{i j:Nat}(hi:i<l.size):Vd (l.setIfInBounds i true) j↔j=i∨Vd l j:=by
 unfold Vd
 by_cases e:j=i
 ·subst e
  simp[Array.getD,hi]
 ·by_cases hj:j<l.size
  ·have e2: ¬i=j:=λh=>e h.symm
   simp[Array.getD,hj,Array.getElem_setIfInBounds,e2,e]
  ·simp[Array.getD,hj,e]
structure Wj(base p q:Nat)(w4:World)(s:Nat→Sl)(xs:Nat→List Value)(l:Array Bool)(f:Nat→Value)(o:Nat→Nat)(w:World):Prop where
 sz:l.size=18
 f1:f 1=.pointer (some ⟨p,0,none⟩)
 f2:f 2=.pointer (some ⟨q,0,none⟩)
 u:Am (λz=>z=q) w4 w
 kp:Az w p [bP (s 0),bP (s 1),bP (s 2),bP (s 3)]
 kq: ∃cs,cs.length=4∧Az w q cs
 rw: ∀k,k<4→Row w (s k) 1 (xs k)
 bl: ∀k,k<4→Vd l (4*k)→ ¬Vd l (4*k+3)→f (3+4*k)=.slice (some ⟨o k,0,none⟩) 0 0∧Gs w base (Aof k) 1 (some ⟨o k,0,none⟩,0,0) 0 []
 fa: ∀k,k<4→Vd l (4*k+1)→f (4+4*k)=.pointer (some (Addr.add ⟨p,0,none⟩ k))
 ld: ∀k,k<4→Vd l (4*k+2)→f (5+4*k)=bP (s k)
 ap: ∀k,k<4→Vd l (4*k+3)→ ∃y,f (6+4*k)=bP y∧Row w y 1 (xs k)∧ ∀a,y.1=some a→a.block=o k
 sb: ∀k,k<4→xs k≠[]→ ∀a,(s k).1=some a→a.block<base∧a.block≠q
 d16:Vd l 16→ ∀k,k<4→Vd l (4*k+3)
 d17:Vd l 17→Vd l 16
 dp: ∀k,k<4→Vd l (4*k+3)→Vd l (4*k)
 di: ∀j k,j<4→k<4→j≠k→Vd l (4*j)→Vd l (4*k)→o j≠o k
 lo: ∀k,k<4→Vd l (4*k)→base≤o k∧o k<w.heap.size
 bu:Vd l 16→ ∃y:Nat→Sl,(∀k,k<4→f (6+4*k)=bP (y k))∧f 19=.agg #[bP (y 0),bP (y 1),bP (y 2),bP (y 3)]
 st:Vd l 17→ ∃y:Nat→Sl,(∀k,k<4→f (6+4*k)=bP (y k))∧Az w q [bP (y 0),bP (y 1),bP (y 2),bP (y 3)]
variable {base p q:Nat} {w4 w w':World} {s:Nat→Sl} {xs:Nat→List Value} {l:Array Bool} {f:Nat→Value} {o:Nat→Nat}
abbrev Asz(base p q:Nat)(w4:World)(s:Nat→Sl)(xs:Nat→List Value)(l:Array Bool)(a:Act)(w:World):Prop:= ∃f o,a=Nu f∧Wj base p q w4 s xs l f o w
theorem Wj.al(h:Wj base p q w4 s xs l f o w){k:Nat}(hk:k<4)(hn: ¬Vd l (4*k))(n3: ¬Vd l (4*k+3))(hq:q<base)(hb:base≤w.heap.size){b:Nat}(e:w.heap.size=b)(u:Af w w')(ow:Gs w' base (Aof k) 1 (some ⟨b,0,none⟩,0,0) 0 []):
  Wj base p q w4 s xs (l.setIfInBounds (4*k) true) (Bz f (3+4*k) (.slice (some ⟨b,0,none⟩) 0 0)) (λj=>if j=k then b else o j) w':=by
 have hs:=h.sz
 have L: ∀{j},Vd (l.setIfInBounds (4*k) true) j↔j=4*k∨Vd l j:=lH (by omega)
 have bb:=(ow.blk rfl).2.1
 have bl:b<w'.heap.size:=bb
 have n: ∀{j v},j≠3+4*k→Bz f (3+4*k) v j=f j:=λhj=>jC hj
 refine⟨by simpa using hs,by rw[n (by omega)];exact h.f1,by rw[n (by omega)];exact h.f2,h.u.Ai u,h.kp.Ai u,?_,λj hj=>Row.Ai (h.rw j hj) u,λj hj a c=>?_,λj hj a=>?_,λj hj a=>?_,λj hj a=>?_,h.sb,λa j hj=>L.2 (.inr (h.d16 ((L.1 a).resolve_left (by omega)) j hj)),λa=>L.2 (.inr (h.d17 ((L.1 a).resolve_left (by omega)))),λj hj a=>?_,λi j hi hj ne a c=>?_,λj hj a=>?_,λa=>?_,λa=>?_⟩
 ·obtain⟨cs,hc,kq⟩:=h.kq;exact⟨cs,hc,kq.Ai u⟩
 ·by_cases e2:j=k
  ·subst e2
   rw[if_pos rfl]
   exact⟨gB _ _ _,ow⟩
  ·have a:=(L.1 a).resolve_left (by omega)
   have:=h.bl j hj a λx=>c (L.2 (.inr x))
   rw[if_neg e2,n (by omega)]
   exact⟨this.1,this.2.Ai u⟩
 ·rw[n (by omega)];exact h.fa j hj ((L.1 a).resolve_left (by omega))
 ·rw[n (by omega)];exact h.ld j hj ((L.1 a).resolve_left (by omega))
 ·have a2:=(L.1 a).resolve_left (by omega)
  obtain⟨y,h1,h2,h3⟩:=h.ap j hj a2
  have ne:j≠k:=λe=>n3 (e▸a2)
  rw[n (by omega)]
  exact⟨y,h1,Row.Ai h2 u,λx hx=>by rw[if_neg ne];exact h3 x hx⟩
 ·have a:=(L.1 a).resolve_left (by omega)
  exact L.2 (.inr (h.dp j hj a))
 ·by_cases e1:i=k
  ·rw[if_pos e1,if_neg (by omega)]
   have:=h.lo j hj ((L.1 c).resolve_left (by omega))
   omega
  ·rw[if_neg e1]
   by_cases e2:j=k
   ·rw[if_pos e2]
    have:=h.lo i hi ((L.1 a).resolve_left (by omega))
    omega
   ·rw[if_neg e2]
    exact h.di i j hi hj ne ((L.1 a).resolve_left (by omega)) ((L.1 c).resolve_left (by omega))
 ·by_cases e1:j=k
  ·rw[if_pos e1];omega
  ·rw[if_neg e1]
   have:=h.lo j hj ((L.1 a).resolve_left (by omega))
   have:=u.size
   omega
 ·obtain⟨y,h1,h2⟩:=h.bu ((L.1 a).resolve_left (by omega))
  exact⟨y,λj hj=>by rw[n (by omega)];exact h1 j hj,by rw[n (by omega)];exact h2⟩
 ·obtain⟨y,h1,h2⟩:=h.st ((L.1 a).resolve_left (by omega))
  exact⟨y,λj hj=>by rw[n (by omega)];exact h1 j hj,h2.Ai u⟩
theorem Wj.fld(h:Wj base p q w4 s xs l f o w){k:Nat}(hk:k<4):Wj base p q w4 s xs (l.setIfInBounds (4*k+1) true) (Bz f (4+4*k) (.pointer (some (Addr.add ⟨p,0,none⟩ k)))) o w:=by
 have hs:=h.sz
 have L: ∀{j},Vd (l.setIfInBounds (4*k+1) true) j↔j=4*k+1∨Vd l j:=lH (by omega)
 have n: ∀{j v},j≠4+4*k→Bz f (4+4*k) v j=f j:=λhj=>jC hj
 refine⟨by simpa using hs,by rw[n (by omega)];exact h.f1,by rw[n (by omega)];exact h.f2,h.u,h.kp,h.kq,h.rw,λj hj a c=>?_,λj hj a=>?_,λj hj a=>?_,λj hj a=>?_,h.sb,λa j hj=>L.2 (.inr (h.d16 ((L.1 a).resolve_left (by omega)) j hj)),λa=>L.2 (.inr (h.d17 ((L.1 a).resolve_left (by omega)))),λj hj a=>L.2 (.inr (h.dp j hj ((L.1 a).resolve_left (by omega)))),λi j hi hj ne a c=>h.di i j hi hj ne ((L.1 a).resolve_left (by omega)) ((L.1 c).resolve_left (by omega)),λj hj a=>h.lo j hj ((L.1 a).resolve_left (by omega)),λa=>?_,λa=>?_⟩
 ·rw[n (by omega)];exact h.bl j hj ((L.1 a).resolve_left (by omega)) λx=>c (L.2 (.inr x))
 ·by_cases e:j=k
  ·subst e;exact gB _ _ _
  ·rw[n (by omega)];exact h.fa j hj ((L.1 a).resolve_left (by omega))
 ·rw[n (by omega)];exact h.ld j hj ((L.1 a).resolve_left (by omega))
 ·rw[n (by omega)];exact h.ap j hj ((L.1 a).resolve_left (by omega))
 ·obtain⟨y,h1,h2⟩:=h.bu ((L.1 a).resolve_left (by omega))
  exact⟨y,λj hj=>by rw[n (by omega)];exact h1 j hj,by rw[n (by omega)];exact h2⟩
 ·obtain⟨y,h1,h2⟩:=h.st ((L.1 a).resolve_left (by omega))
  exact⟨y,λj hj=>by rw[n (by omega)];exact h1 j hj,h2⟩
theorem Wj.lod(h:Wj base p q w4 s xs l f o w){k:Nat}(hk:k<4):Wj base p q w4 s xs (l.setIfInBounds (4*k+2) true) (Bz f (5+4*k) (bP (s k))) o w:=by
 have hs:=h.sz
 have L: ∀{j},Vd (l.setIfInBounds (4*k+2) true) j↔j=4*k+2∨Vd l j:=lH (by omega)
 have n: ∀{j v},j≠5+4*k→Bz f (5+4*k) v j=f j:=λhj=>jC hj
 refine⟨by simpa using hs,by rw[n (by omega)];exact h.f1,by rw[n (by omega)];exact h.f2,h.u,h.kp,h.kq,h.rw,λj hj a c=>?_,λj hj a=>?_,λj hj a=>?_,λj hj a=>?_,h.sb,λa j hj=>L.2 (.inr (h.d16 ((L.1 a).resolve_left (by omega)) j hj)),λa=>L.2 (.inr (h.d17 ((L.1 a).resolve_left (by omega)))),λj hj a=>L.2 (.inr (h.dp j hj ((L.1 a).resolve_left (by omega)))),λi j hi hj ne a c=>h.di i j hi hj ne ((L.1 a).resolve_left (by omega)) ((L.1 c).resolve_left (by omega)),λj hj a=>h.lo j hj ((L.1 a).resolve_left (by omega)),λa=>?_,λa=>?_⟩
 ·rw[n (by omega)];exact h.bl j hj ((L.1 a).resolve_left (by omega)) λx=>c (L.2 (.inr x))
 ·rw[n (by omega)];exact h.fa j hj ((L.1 a).resolve_left (by omega))
 ·by_cases e:j=k
  ·subst e;exact gB _ _ _
  ·rw[n (by omega)];exact h.ld j hj ((L.1 a).resolve_left (by omega))
 ·rw[n (by omega)];exact h.ap j hj ((L.1 a).resolve_left (by omega))
 ·obtain⟨y,h1,h2⟩:=h.bu ((L.1 a).resolve_left (by omega))
  exact⟨y,λj hj=>by rw[n (by omega)];exact h1 j hj,by rw[n (by omega)];exact h2⟩
 ·obtain⟨y,h1,h2⟩:=h.st ((L.1 a).resolve_left (by omega))
  exact⟨y,λj hj=>by rw[n (by omega)];exact h1 j hj,h2⟩
theorem Wj.app(h:Wj base p q w4 s xs l f o w){k:Nat}(hk:k<4)(h0:Vd l (4*k))(n3: ¬Vd l (4*k+3))(hp:p<base)(hq:q<base)(h4:w4.heap.size≤base){y:Sl}(u:Am (λz=>z=o k) w w')(r:Row w' y 1 (xs k))(hy: ∀a,y.1=some a→(a.block=o k∨w.heap.size≤a.block)∧a.block<w'.heap.size):
  ∃o',Wj base p q w4 s xs (l.setIfInBounds (4*k+3) true) (Bz f (6+4*k) (bP y)) o' w':=by
 have hs:=h.sz
 have L: ∀{j},Vd (l.setIfInBounds (4*k+3) true) j↔j=4*k+3∨Vd l j:=lH (by omega)
 have n: ∀{j v},j≠6+4*k→Bz f (6+4*k) v j=f j:=λhj=>jC hj
 have lk:=h.lo k hk h0
 have us:=u.size
 obtain⟨b,hb,hb2⟩: ∃b,(∀a,y.1=some a→a.block=b)∧(b=o k∨w.heap.size≤b)∧b<w'.heap.size:=by
  cases e:y.1 with
  |none=>exact⟨o k,(λa ha=>by cases ha),.inl rfl,by omega⟩
  |some a=>exact⟨a.block,(λa' ha=>by cases ha;rfl),hy a e⟩
 have no: ∀{j},j<4→j≠k→Vd l (4*j)→o j≠o k∧o j≠b:=λ{j} hj ne a=>by
  have h1:=h.di j k hj hk ne a h0
  have h2:=h.lo j hj a
  omega
 refine⟨λj=>if j=k then b else o j,by simpa using hs,by rw[n (by omega)];exact h.f1,by rw[n (by omega)];exact h.f2,Am.trans h.u u λz hz e=>by omega,h.kp.upd u (by omega),?_,λj hj=>Row.Adm (h.rw j hj) u λne a ha e=>by have:=h.sb j hj ne a ha;omega,λj hj a c=>?_,λj hj a=>?_,λj hj a=>?_,λj hj a=>?_,h.sb,λa j hj=>L.2 (.inr (h.d16 ((L.1 a).resolve_left (by omega)) j hj)),λa=>L.2 (.inr (h.d17 ((L.1 a).resolve_left (by omega)))),λj hj a=>?_,λi j hi hj ne a c=>?_,λj hj a=>?_,λa=>?_,λa=>?_⟩
 ·obtain⟨cs,hc,kq⟩:=h.kq;exact⟨cs,hc,kq.upd u (by omega)⟩
 ·have ne:j≠k:=λe=>c (L.2 (.inl (by omega)))
  have a2:=(L.1 a).resolve_left (by omega)
  have:=h.bl j hj a2 λx=>c (L.2 (.inr x))
  rw[if_neg ne,n (by omega)]
  exact⟨this.1,this.2.upd u λx hx e=>by cases hx;exact(no hj ne a2).1 e⟩
 ·rw[n (by omega)];exact h.fa j hj ((L.1 a).resolve_left (by omega))
 ·rw[n (by omega)];exact h.ld j hj ((L.1 a).resolve_left (by omega))
 ·by_cases e:j=k
  ·subst e
   exact⟨y,gB _ _ _,r,λx hx=>by rw[if_pos rfl];exact hb x hx⟩
  ·have a2:=(L.1 a).resolve_left (by omega)
   obtain⟨y2,g1,g2,g3⟩:=h.ap j hj a2
   rw[n (by omega)]
   exact⟨y2,g1,Row.upd g2 u λx hx e2=>(no hj e (h.dp j hj a2)).1 ((g3 x hx).symm.trans e2),λx hx=>by rw[if_neg e];exact g3 x hx⟩
 ·by_cases e:j=k
  ·subst e;exact L.2 (.inr h0)
  ·exact L.2 (.inr (h.dp j hj ((L.1 a).resolve_left (by omega))))
 ·have a2:=(L.1 a).resolve_left (by omega)
  have c2:=(L.1 c).resolve_left (by omega)
  by_cases e1:i=k
  ·rw[if_pos e1,if_neg (by omega)]
   exact(no hj (by omega) c2).2.symm
  ·rw[if_neg e1]
   by_cases e2:j=k
   ·rw[if_pos e2];exact(no hi e1 a2).2
   ·rw[if_neg e2];exact h.di i j hi hj ne a2 c2
 ·have a2:=(L.1 a).resolve_left (by omega)
  by_cases e1:j=k
  ·rw[if_pos e1];omega
  ·rw[if_neg e1]
   have:=h.lo j hj a2
   omega
 ·exact absurd (h.d16 ((L.1 a).resolve_left (by omega)) k hk) n3
 ·exact absurd (h.d16 (h.d17 ((L.1 a).resolve_left (by omega))) k hk) n3
end Go.Proofs.YticgocmhmffneaaGreatDoor
namespace Go.Proofs.YticgocmhmffneaaGreatDoor
open Go Go.Eng
set_option linter.unusedSimpArgs false
set_option linter.unusedVariables false
set_option maxRecDepth 100000
set_option maxHeartbeats 8000000
variable {base p q:Nat} {w4 w w':World} {s:Nat→Sl} {xs:Nat→List Value} {l:Array Bool} {f:Nat→Value} {o:Nat→Nat}
theorem Wj.ys(h:Wj base p q w4 s xs l f o w)(ha: ∀k,k<4→Vd l (4*k+3)): ∃y:Nat→Sl,∀k,k<4→f (6+4*k)=bP (y k):=by
 obtain⟨y0,h0,_⟩:=h.ap 0 (by decide) (ha 0 (by decide))
 obtain⟨y1,h1,_⟩:=h.ap 1 (by decide) (ha 1 (by decide))
 obtain⟨y2,h2,_⟩:=h.ap 2 (by decide) (ha 2 (by decide))
 obtain⟨y3,h3,_⟩:=h.ap 3 (by decide) (ha 3 (by decide))
 refine⟨λk=>match k with|0=>y0|1=>y1|2=>y2|_=>y3,λk hk=>?_⟩
 match k,hk with
 |0,_=>exact h0
 |1,_=>exact h1
 |2,_=>exact h2
 |3,_=>exact h3
theorem Wj.bui(h:Wj base p q w4 s xs l f o w)(ha: ∀k,k<4→Vd l (4*k+3)){y:Nat→Sl}(hy: ∀k,k<4→f (6+4*k)=bP (y k)):
  Wj base p q w4 s xs (l.setIfInBounds 16 true) (Bz f 19 (.agg #[bP (y 0),bP (y 1),bP (y 2),bP (y 3)])) o w:=by
 have hs:=h.sz
 have L: ∀{j},Vd (l.setIfInBounds 16 true) j↔j=16∨Vd l j:=lH (by omega)
 have n: ∀{j v},j≠19→Bz f 19 v j=f j:=λhj=>jC hj
 refine⟨by simpa using hs,by rw[n (by omega)];exact h.f1,by rw[n (by omega)];exact h.f2,h.u,h.kp,h.kq,h.rw,λj hj a c=>?_,λj hj a=>?_,λj hj a=>?_,λj hj a=>?_,h.sb,λa j hj=>L.2 (.inr (ha j hj)),λa=>L.2 (.inl rfl),λj hj a=>L.2 (.inr (h.dp j hj ((L.1 a).resolve_left (by omega)))),λi j hi hj ne a c=>h.di i j hi hj ne ?_ ?_,λj hj a=>h.lo j hj ?_,λa=>⟨y,λj hj=>by rw[n (by omega)];exact hy j hj,gB _ _ _⟩,λa=>?_⟩
 ·rw[n (by omega)];exact h.bl j hj (h.dp j hj (ha j hj)) λx=>c (L.2 (.inr x))
 ·rw[n (by omega)];exact h.fa j hj ((L.1 a).resolve_left (by omega))
 ·rw[n (by omega)];exact h.ld j hj ((L.1 a).resolve_left (by omega))
 ·rw[n (by omega)];exact h.ap j hj ((L.1 a).resolve_left (by omega))
 ·exact h.dp i hi (ha i hi)
 ·exact h.dp j hj (ha j hj)
 ·exact h.dp j hj (ha j hj)
 ·obtain⟨y2,h1,h2⟩:=h.st ((L.1 a).resolve_left (by omega))
  exact⟨y2,λj hj=>by rw[n (by omega)];exact h1 j hj,h2⟩
theorem Wj.sto(h:Wj base p q w4 s xs l f o w)(h16:Vd l 16)(hp:p≠q)(hq:q<base){y:Nat→Sl}(hy: ∀k,k<4→f (6+4*k)=bP (y k))(u:Am (λz=>z=q) w w')(k:Az w' q [bP (y 0),bP (y 1),bP (y 2),bP (y 3)]):
  Wj base p q w4 s xs (l.setIfInBounds 17 true) f o w':=by
 have hs:=h.sz
 have L: ∀{j},Vd (l.setIfInBounds 17 true) j↔j=17∨Vd l j:=lH (by omega)
 have ha:=h.d16 h16
 refine⟨by simpa using hs,h.f1,h.f2,Am.trans h.u u λ_ _ e=>e,h.kp.upd u hp,⟨_,rfl,k⟩,λj hj=>Row.Adm (h.rw j hj) u λne a ha e=>(h.sb j hj ne a ha).2 e,λj hj a c=>absurd (L.2 (.inr (ha j hj))) c,λj hj a=>h.fa j hj ((L.1 a).resolve_left (by omega)),λj hj a=>h.ld j hj ((L.1 a).resolve_left (by omega)),λj hj a=>?_,h.sb,λa j hj=>L.2 (.inr (ha j hj)),λa=>L.2 (.inr h16),λj hj a=>L.2 (.inr (h.dp j hj (ha j hj))),λi j hi hj ne a c=>h.di i j hi hj ne (h.dp i hi (ha i hi)) (h.dp j hj (ha j hj)),λj hj a=>?_,λa=>h.bu h16,λa=>⟨y,hy,k⟩⟩
 ·obtain⟨y2,g1,g2,g3⟩:=h.ap j hj (ha j hj)
  exact⟨y2,g1,Row.upd g2 u λx hx e=>by have:=(h.lo j hj (h.dp j hj (ha j hj))).1;have:=g3 x hx;omega,g3⟩
 ·have:=h.lo j hj (h.dp j hj (ha j hj))
  have:=u.size
  omega
def vJ:List (List Nat):=[[],[],[1],[0,2],[],[],[5],[4,6,3],[],[],[9],[8,10,7],[],[],[13],[12,14,11],[3,7,11,15],[16,15,0,1,2,3,4,5,6,7,8,9,10,11,12,13,14,15,16]]
theorem Alu{i:Nat}{oi:Oper}(hoi:vchO[i]? =some oi):vJ[i]? =some (Aby oi):=by
 have e:vchO.toList.map Aby=vJ:=Amo
 rw[←e,List.getElem?_map,Array.getElem?_toList,hoi];rfl
theorem Asm{i:Nat}{ds:List Nat}(h:vJ[i]? =some ds){d:Nat}(hd:d∈ds):d<i:=by
 have hi:i<18:=(List.getElem?_eq_some_iff.1 h).1
 have all: ∀i,i<18→((vJ.getD i []).all λd=>decide (d<i))=true:=by decide
 have:=List.all_eq_true.1 (all i hi) d (by rw[List.getD_eq_getElem?_getD,h];exact hd)
 exact of_decide_eq_true this
theorem V9{i d:Nat}(hi:i∈Region.ready .any vchO l)(hd:d∈vJ.getD i []):Vd l d:=by
 obtain⟨_,oi,hoi,hall⟩:=mem_ready.1 hi
 rw[List.getD_eq_getElem?_getD,Alu hoi] at hd
 obtain⟨e,he,h2⟩:=List.mem_filterMap.1 (show d∈Aby oi from hd)
 split at h2
 ·rename_i hb
  injection h2 with h2
  rw[←h2]
  exact hall e (by simpa using he) hb
 ·cases h2
theorem Ajf{i:Nat}(hs:l.size=18)(hi:i∈Region.ready .any vchO l):i<18∧ ¬Vd l i∧ ∃oi,vchO[i]? =some oi:=by
 obtain⟨h,oi,hoi,_⟩:=mem_ready.1 hi
 have hlt:i<18:=by have:=(Array.getElem?_eq_some_iff.1 hoi).1;rwa [Ab9] at this
 refine⟨hlt,λc=>?_,oi,hoi⟩
 unfold Vd at c
 simp[Array.getD,hs,hlt] at h c
 rw[h] at c;cases c
theorem Amt(hs:l.size=18)(hr:Region.ready .any vchO l=[]): ∀i,i<18→Vd l i:=by
 intro i
 induction i using Nat.strongRecOn with
 |_ i ih=>
  intro hi
  refine Classical.byContradiction λhn=>?_
  have hlt:i<vchO.size:=by rw[Ab9];exact hi
  have hoi:vchO[i]? =some vchO[i]:=Array.getElem?_eq_getElem hlt
  have:i∈Region.ready .any vchO l:=by
   refine mem_ready.2 ⟨?_,vchO[i],hoi,λe he hb=>?_⟩
   ·unfold Vd at hn
    simp[Array.getD,hs,hi] at hn⊢
    exact hn
   ·have hd:e.on∈Aby vchO[i]:=List.mem_filterMap.2 ⟨e,by simpa using he,if_pos hb⟩
    have:=Asm (Alu hoi) hd
    exact ih e.on this (by omega)
  rw[hr] at this;cases this
end Go.Proofs.YticgocmhmffneaaGreatDoor
namespace Go.Proofs.YticgocmhmffneaaGreatDoor
open Go Go.Eng Tryz
set_option linter.unusedSimpArgs false
set_option linter.unusedVariables false
set_option maxRecDepth 100000
set_option maxHeartbeats 8000000
theorem Ha{f:Nat→Value}{i:Nat}{v:Value}(h:f i=v):Bz f i v=f:=(Ajo h).symm
theorem Ayi(f:Nat→Value)(w:World)(K:Act→WP): ∀k,k<4→vstA (4*k) (Nu f) w K=Bf [] (Aof k) w λp w'=>K (Nu (Bz f (3+4*k) (.slice (some p) 0 0))) w'
 |0,_=>Av8 f w K
 |1,_=>Awy f w K
 |2,_=>Avx f w K
 |3,_=>Awg f w K
 |k+4,h=>by omega
theorem Axq{f:Nat→Value}{p:Addr}(h:f 1=.pointer (some p))(w:World)(K:Act→WP): ∀k,k<4→vstA (4*k+1) (Nu f) w K=K (Nu (Bz f (4+4*k) (.pointer (some (p.add k))))) w
 |0,_=>by have:=Avk f p w K;rw[show vfA f p=f from Ha h] at this;exact this
 |1,_=>by have:=Avn f p w K;rw[show vfA f p=f from Ha h] at this;exact this
 |2,_=>by have:=Awa f p w K;rw[show vfA f p=f from Ha h] at this;exact this
 |3,_=>by have:=Awk f p w K;rw[show vfA f p=f from Ha h] at this;exact this
 |k+4,h=>by omega
theorem Aym{f:Nat→Value}{p:Addr}(w:World)(K:Act→WP): ∀k,k<4→f (4+4*k)=.pointer (some p)→vstA (4*k+2) (Nu f) w K=ld1 .sl p w λx=>K (Nu (Bz f (5+4*k) (bP x))) w
 |0,_,h=>by have:=Av7 f p w K;rw[Ha h] at this;exact this
 |1,_,h=>by have:=Avp f p w K;rw[Ha h] at this;exact this
 |2,_,h=>by have:=Av3 f p w K;rw[Ha h] at this;exact this
 |3,_,h=>by have:=Awq f p w K;rw[Ha h] at this;exact this
 |k+4,h,_=>by omega
def Awe(k:Nat):TypeId:=if k=3 then T.Ux else T.V5
theorem Axw{f:Nat→Value}{s x:Sl}(w:World)(K:Act→WP): ∀k,k<4→f (3+4*k)=bP s→f (5+4*k)=bP x→vstA (4*k+3) (Nu f) w K=Aqe (Awe k) s x w λy w'=>K (Nu (Bz f (6+4*k) (bP y))) w'
 |0,_,h,g=>by have:=Avo f s x w K;rw[Ha h,Ha g] at this;exact this
 |1,_,h,g=>by have:=Ava f s x w K;rw[Ha h,Ha g] at this;exact this
 |2,_,h,g=>by have:=Av4 f s x w K;rw[Ha h,Ha g] at this;exact this
 |3,_,h,g=>by have:=Awt f s x w K;rw[Ha h,Ha g] at this;exact this
 |k+4,h,_,_=>by omega
theorem Ayk{f:Nat→Value}{y:Nat→Sl}(w:World)(K:Act→WP)(h: ∀k,k<4→f (6+4*k)=bP (y k)):vstA 16 (Nu f) w K=K (Nu (Bz f 19 (.agg #[bP (y 0),bP (y 1),bP (y 2),bP (y 3)]))) w:=by
 have:=Auf f (y 0) (y 1) (y 2) (y 3) w K
 rw[Ha (h 0 (by decide)),Ha (h 1 (by decide)),Ha (h 2 (by decide)),Ha (h 3 (by decide))] at this
 exact this
theorem Aya{f:Nat→Value}{q:Addr}{y:Nat→Sl}(w:World)(K:Act→WP)(h2:f 2=.pointer (some q))(h:f 19=.agg #[bP (y 0),bP (y 1),bP (y 2),bP (y 3)]):vstA 17 (Nu f) w K=Au [bP (y 0),bP (y 1),bP (y 2),bP (y 3)] q 0 w λw'=>K (Nu f) w':=by
 have:=Aub f q (y 0) (y 1) (y 2) (y 3) w K
 rw[Ha h2,Ha h] at this
 exact this
theorem Apm{K' K:Act→WP}{i:Nat}{oi:Oper}{a:Act}{w:World}(hoi:vchO[i]? =some oi)(h:vstA i a w K):wpOp prog vchO (qn K') i K a w:=by
 have hg:oi.guard.isNone=true:=List.all_eq_true.1 Arx oi (by simpa using Array.mem_of_getElem? hoi)
 unfold vstA at h
 rw[hoi] at h
 unfold wpOp
 rw[hoi]
 have hw:Region.wanted oi (yielded vchO a.tmps)=true:=by
  unfold Region.wanted
  cases e:oi.guard with
  |none=>rfl
  |some g=>rw[e] at hg;cases hg
 dsimp only
 rw[if_pos hw]
 exact .inl (vU h)
variable {base p q:Nat} {w4 w w':World} {s:Nat→Sl} {xs:Nat→List Value} {l:Array Bool} {f:Nat→Value} {o:Nat→Nat}
theorem Avu: ∀k,k<4→prog.underlying (Awe k)=some (.slice (Aof k))∧jY prog (Aof k) 1=true
 |0,_=>⟨by kernel_rfl,by kernel_rfl⟩
 |1,_=>⟨by kernel_rfl,by kernel_rfl⟩
 |2,_=>⟨by kernel_rfl,by kernel_rfl⟩
 |3,_=>⟨by kernel_rfl,by kernel_rfl⟩
 |k+4,h=>by omega
theorem vdk: ∀k,k<4→4*k+1∈vJ.getD (4*k+2) []∧4*k∈vJ.getD (4*k+3) []∧4*k+2∈vJ.getD (4*k+3) []∧4*k+3∈vJ.getD 16 []:=by decide
theorem Ars{K':Act→WP}(hp:p<base)(hq:q<base)(hpq:p≠q)(h4:w4.heap.size=base)(one: ∀k,k<4→ ∀u∈xs k,u.oneCell'=true)(len: ∀k,k<4→(xs k).length≤1000000):
  ∀l a w i,Asz base p q w4 s xs l a w→i∈Region.ready .any vchO l→wpOp prog vchO (qn K') i (λa' w'=>Asz base p q w4 s xs (l.setIfInBounds i true) a' w') a w:=by
 rintro l a w i ⟨f,o,rfl,h⟩ hi
 obtain⟨hlt,hn,oi,hoi⟩:=Ajf h.sz hi
 refine Apm hoi ?_
 clear hoi
 have hbw:base≤w.heap.size:=by have:=h.u.size;omega
 by_cases c:i<16
 ·obtain⟨k,hk,e⟩: ∃k,k<4∧(i=4*k∨i=4*k+1∨i=4*k+2∨i=4*k+3):=⟨i/4,by omega,by omega⟩
  obtain⟨d1,d2,d3,_⟩:=vdk k hk
  rcases e with rfl|rfl|rfl|rfl
  ·rw[Ayi f w _ k hk]
   refine Zv 1 0 rfl (by omega) λb w' e own u=>?_
   exact⟨_,_,rfl,h.al hk hn (λx=>hn (h.dp k hk x)) hq hbw e u (own.Zq λa ha=>by cases ha;show base≤b;omega)⟩
  ·rw[Axq h.f1 w _ k hk]
   exact⟨_,_,rfl,h.fld hk⟩
  ·rw[Aym w _ k hk (h.fa k hk (V9 hi d1))]
   have kp:ld1 .sl (Addr.add ⟨p,0,none⟩ k) w λx=>Asz base p q w4 s xs (l.setIfInBounds (4*k+2) true) (Nu (Bz f (5+4*k) (bP x))) w:=
    h.kp.c1 k (c:=.sl) (x:=s k) (by match k,hk with|0,_=>rfl|1,_=>rfl|2,_=>rfl|3,_=>rfl) ⟨_,_,rfl,h.lod hk⟩
   exact kp
  ·have hl0:=V9 hi d2
   obtain⟨hb,ow⟩:=h.bl k hk hl0 hn
   rw[Axw w _ k hk (s:=(some ⟨o k,0,none⟩,0,0)) (x:=s k) hb (h.ld k hk (V9 hi d3))]
   obtain⟨t1,t2⟩:=Avu k hk
   have hlen:=len k hk
   have rl:=Row.Abk (h.rw k hk)
   refine Vx (s:=(some ⟨o k,0,none⟩,0,0)) (x:=s k) t1 t2 (by decide) ow (h.rw k hk) (one k hk) (by omega) hbw λy w' o' u' b'=>?_
   have r:=o'.row
   rw[List.nil_append] at r
   obtain⟨o2,H⟩:=h.app hk hl0 hn hp hq (Nat.le_of_eq h4) (y:=y) (u'.mono λz ⟨a,ha,e⟩=>by cases ha;exact e.symm) r λa ha=>⟨(b' a ha).imp (λ⟨a0,h0,e0⟩=>by cases h0;exact e0) id,(o'.blk ha).2.1⟩
   exact⟨_,_,rfl,H⟩
 ·by_cases c2:i=16
  ·subst c2
   have ha: ∀k,k<4→Vd l (4*k+3):=λk hk=>V9 hi (vdk k hk).2.2.2
   obtain⟨y,hy⟩:=h.ys ha
   rw[Ayk w _ hy]
   exact⟨_,_,rfl,h.bui ha hy⟩
  ·obtain rfl:i=17:=by omega
   have h16:Vd l 16:=V9 hi (by decide)
   obtain⟨y,hy,h19⟩:=h.bu h16
   rw[Aya w _ h.f2 h19]
   obtain⟨cs,hc,kq⟩:=h.kq
   exact kq.Fg [bP (y 0),bP (y 1),bP (y 2),bP (y 3)] (by rw[hc];rfl) rfl λw' k' u'=>⟨_,_,rfl,h.sto h16 hpq hq hy u' k'⟩
theorem Ass(f:Nat→Value)(q:Addr)(w:World)(R:Value→WP):Ana prog Tryz.f56 R (Nu (Bz f 2 (.pointer (some q)))) w=A8 K4s q 0 w λx=>R (.agg #[bP x.1,bP x.2.1,bP x.2.2.1,bP x.2.2.2.1]) w:=by kernel_rfl
end Go.Proofs.YticgocmhmffneaaGreatDoor
namespace Go.Proofs.YticgocmhmffneaaGreatDoor
open Go Go.Eng Tryz
set_option linter.unusedSimpArgs false
set_option linter.unusedVariables false
set_option maxRecDepth 100000
set_option maxHeartbeats 8000000
theorem Ar2(n i:Nat): ¬Vd (Array.replicate n false) i:=by
 unfold Vd
 simp only[Array.getD,Array.size_replicate]
 split<;>simp
theorem Aog(n:Nat):cntF (Array.replicate n false)≤n:=by
 unfold cntF
 have:=List.countP_le_length (p:=(!·)) (l:=(Array.replicate n false).toList)
 simpa using this
def Ax2(arg:Value)(p q:Nat)(i:Nat):Value:=match i with|0=>arg|1=>.pointer (some ⟨p,0,none⟩)|2=>.pointer (some ⟨q,0,none⟩)|_=>undef
def vs4(s0 s1 s2 s3:Sl)(k:Nat):Sl:=match k with|0=>s0|1=>s1|2=>s2|_=>s3
def vx4(c:Ch)(k:Nat):List Value:=match k with|0=>Na c.ticks|1=>Na c.send|2=>Na c.hear|_=>iY c.lost
theorem Zw.cl{c:Ch}{s0 s1 s2 s3:Sl}{w:World}(h0:Row w s0 1 (Na c.ticks))(h1:Row w s1 1 (Na c.send))(h2:Row w s2 1 (Na c.hear))(h3:Row w s3 1 (iY c.lost))(lb: ∀x∈c.lost,x<18446744073709551616)(le:Ajq c){K:TR [(true,K4s)]→WP}
  (hk: ∀y0 y1 y2 y3 w',Af w w'→(∀Z:NP,(∀z,Z z→z<w.heap.size)→ChW w' Z c y0 y1 y2 y3)→K ((y0,y1,y2,y3,()),()) w'):Ae prog F.Zw [.agg #[bP s0,bP s1,bP s2,bP s3]] w false [(true,K4s)] K:=by
 refine Calls.mono (Alm Aa Tryz.func56 Apl Anc .n (R:=λv w'=> ∃r:TR [(true,K4s)],v=encR false [(true,K4s)] r∧K r w') ?_) λe w' ⟨v,he,r,hv,h⟩=>⟨r,by rw[he,hv],h⟩
 show pw prog vchR .n _ _ {tmps:=([Value.agg #[bP s0,bP s1,bP s2,bP s3]]++List.replicate (Tryz.f56.ntmps-1) undef).toArray,defers:=[]} w
 rw[Aul]
 refine Ad λp w2 e1 k1 u1=>Ad λq w3 e3 k3 u3=>?_
 have pl:=k1.lt
 have k1:=(k1.Ai u3).drew
 have ql:q<w3.drew.heap.size:=k3.drew.lt
 have k3:=k3.drew
 have g:=(u1.trans u3).trans (Af.drew w3)
 generalize w3.drew=w4 at*
 have z1:=u1.size
 have hr: ∀k,k<4→Row w (vs4 s0 s1 s2 s3 k) 1 (vx4 c k):=λk hk=>match k,hk with
  |0,_=>h0
  |1,_=>h1
  |2,_=>h2
  |3,_=>h3
 have hl: ∀k,k<4→(vx4 c k).length≤1000000:=λk hk=>match k,hk with
  |0,_=>by show(Na c.ticks).length≤_;rw[List.length_map];exact le.t
  |1,_=>by show(Na c.send).length≤_;rw[List.length_map];exact le.s
  |2,_=>by show(Na c.hear).length≤_;rw[List.length_map];exact le.h
  |3,_=>by show(iY c.lost).length≤_;rw[List.length_map];exact le.l
 have ho: ∀k,k<4→ ∀u∈vx4 c k,u.oneCell'=true:=λk hk=>match k,hk with
  |0,_=>Tj _
  |1,_=>Tj _
  |2,_=>Tj _
  |3,_=>Alf _
 have N:=λi=>Ar2 vchO.size i
 have i0:Wj w4.heap.size p q w4 (vs4 s0 s1 s2 s3) (vx4 c) (Array.replicate vchO.size false) (Ax2 (.agg #[bP s0,bP s1,bP s2,bP s3]) p q) (λ_=>0) w4:=
  ⟨by rw[Array.size_replicate,Ab9],rfl,rfl,Am.refl _ _,k1,⟨_,rfl,k3⟩,λk hk=>Row.Ai (hr k hk) g,λk hk a=>absurd a (N _),λk hk a=>absurd a (N _),λk hk a=>absurd a (N _),λk hk a=>absurd a (N _),λk hk ne a ha=>by have:=Agm (hr k hk) ne ha;omega,λa=>absurd a (N _),λa=>absurd a (N _),λk hk a=>absurd a (N _),λj k hj hk ne a=>absurd a (N _),λk hk a=>absurd a (N _),λa=>absurd a (N _),λa=>absurd a (N _)⟩
 refine wX (Asz w4.heap.size p q w4 (vs4 s0 s1 s2 s3) (vx4 c)) ?_ (Ars (by omega) ql (by omega) rfl ho hl) _ _ _ _ (Aog _) ⟨_,_,rfl,i0⟩
 rintro l a W ⟨f,o,rfl,h⟩ hrd
 have all:=Amt h.sz hrd
 obtain⟨y,hy,kq⟩:=h.st (all 17 (by decide))
 have fin:=Ass f ⟨q,0,none⟩ W (λv w'=> ∃r:TR [(true,K4s)],v=encR false [(true,K4s)] r∧K r w')
 rw[Ha h.f2] at fin
 show Ana _ _ _ _ _
 rw[fin]
 have G:Af w W:=Am.trans g h.u λz hz e=>by omega
 have yk: ∀k,k<4→Row W (y k) 1 (vx4 c k)∧ ∀a,(y k).1=some a→w4.heap.size≤a.block∧a.block<W.heap.size:=λk hk=>by
  obtain⟨y',e1,e2,e3⟩:=h.ap k hk (all _ (by omega))
  have e:y'=y k:=Alh (e1.symm.trans (hy k hk))
  subst e
  have lo:=h.lo k hk (all _ (by omega))
  exact⟨e2,λa ha=>by rw[e3 a ha];exact lo⟩
 refine kq.cA (cs:=K4s) (y 0,y 1,y 2,y 3,()) rfl ⟨((y 0,y 1,y 2,y 3,()),()),rfl,hk _ _ _ _ W G λZ hZ=>⟨(yk 0 (by decide)).1,(yk 1 (by decide)).1,(yk 2 (by decide)).1,(yk 3 (by decide)).1,lb,?_⟩⟩
 have off: ∀k,k<4→ ∀a,(y k).1=some a→a.block<W.heap.size∧ ¬Z a.block:=λk hk a ha=>⟨((yk k hk).2 a ha).2,λq=>by have:=hZ _ q;have:=((yk k hk).2 a ha).1;have:=g.size;omega⟩
 rintro s (rfl|rfl|rfl|rfl)
 ·exact off 0 (by decide)
 ·exact off 1 (by decide)
 ·exact off 2 (by decide)
 ·exact off 3 (by decide)
end Go.Proofs.YticgocmhmffneaaGreatDoor
