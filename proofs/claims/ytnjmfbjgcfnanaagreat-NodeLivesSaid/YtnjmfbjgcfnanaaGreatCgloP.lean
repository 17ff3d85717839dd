import Derived.Test.YtnjmfbjgcfnanaaGreatCsloP
import Derived.Test.YtnjmfbjgcfnanaaGreatCtabP
namespace Go.Proofs.YtnjmfbjgcfnanaaGreat
open Go.Eng Go
set_option linter.unusedSimpArgs false
set_option linter.unusedVariables false
set_option maxRecDepth 100000
set_option maxHeartbeats 8000000
theorem Ab7{P D X:Int}(hD:0<D)(h0: -(X*D)≤P)(h1:P≤X*D): -X≤P/D∧P/D≤X:=by
  refine⟨Int.le_ediv_of_mul_le hD (by rw[Int.neg_mul];exact h0),?_⟩
  have h2:P<(X+1)*D:=by rw[Int.add_mul,Int.one_mul];omega
  have:=Int.ediv_lt_of_lt_mul hD h2
  omega
abbrev M5:=Int×Int×Int×Int×Int
def sL(es:List E3):Int:=es.foldl (fun s e=>s+e.1) 0
def sO(es:List E3):Int:=es.foldl (fun s e=>s+e.2.1) 0
theorem kU(es:List E3)(e:E3):sL (es++[e])=sL es+e.1:=by simp[sL]
theorem lG(es:List E3)(e:E3):sO (es++[e])=sO es+e.2.1:=by simp[sO]
def rF(drift:Int)(es:List E3):M5:=(sL es/(es.length:Int),sO es/(es.length:Int),(Xo drift es).1,(Xo drift es).2,kS es)
def gn(m:M5)(t:Int):Int:=m.2.2.1*(t-m.1)/m.2.2.2.1
def raw(m:M5)(t:Int):Int:=t+m.2.1+gn m t
def pF(m:M5)(t:Int):Bool:=decide (0≤t)&&decide (t≤1125899906842624)&&decide (0≤raw m t)&&decide (raw m t≤1125899906842624)
def gV(m:M5)(t:Int):Int:=if pF m t=true then raw m t else 0
structure MB(drift:Int)(m:M5):Prop where
  l0:0≤m.1
  l1:m.1≤1125899906842624
  o0: -1125899906842624≤m.2.1
  o1:m.2.1≤1125899906842624
  sv:SV drift (m.2.2.1,m.2.2.2.1)
theorem Agh(es:List E3)(h: ∀e∈es,Jm e=true):0≤sL es∧sL es≤es.length*1125899906842624∧ -(es.length*1125899906842624)≤sO es∧sO es≤es.length*1125899906842624:=by
  have key: ∀(n:Nat) (es:List E3),es.length=n→(∀e∈es,Jm e=true)→0≤sL es∧sL es≤es.length*1125899906842624∧ -(es.length*1125899906842624)≤sO es∧sO es≤es.length*1125899906842624:=by
    intro n
    induction n with
    |zero=>
      intro es hl _
      have:es=[]:=List.eq_nil_of_length_eq_zero hl
      subst this
      simp[sL,sO]
    |succ n ih=>
      intro es hl h
      have hne:es≠[]:=by intro e;subst e;cases hl
      obtain⟨l,e,rfl⟩: ∃l e,es=l++[e]:=⟨es.dropLast,es.getLast hne,(List.dropLast_concat_getLast hne).symm⟩
      have:=ih l (by simpa using hl) fun x hx=>h x (by simp[hx])
      have ge:=Yz.1 (h e (by simp))
      rw[kU,lG,List.length_append,List.length_singleton]
      omega
  exact key _ es rfl h
theorem Acs{drift:Int}{es:List E3}(hne:es≠[])(h: ∀e∈es,Jm e=true):MB drift (rF drift es):=by
  have hn:(0:Int)<es.length:=by have:=List.length_pos_iff.2 hne;omega
  obtain⟨a,b,c,d⟩:=Agh es h
  have h1:=Ab7 (P:=sL es) (D:=es.length) (X:=1125899906842624) hn (by omega) (by omega)
  have h2:=Ab7 (P:=sO es) (D:=es.length) (X:=1125899906842624) hn (by omega) (by omega)
  exact⟨Int.ediv_nonneg a (by omega),h1.2,h2.1,h2.2,Aex drift es⟩
theorem SV.small{drift:Int}{v:Int×Int}(h:SV drift v):99*v.1≤2*v.2∧ -(99*v.1)≤2*v.2:=by
  have hd:=pU drift
  obtain⟨d0,d1,n0,n1,up,dn⟩:=h
  have:dr drift=0∨dr drift=1∨dr drift=2∨dr drift=3∨dr drift=4∨dr drift=5∨dr drift=6∨dr drift=7∨dr drift=8∨dr drift=9∨dr drift=10:=by omega
  rcases this with h|h|h|h|h|h|h|h|h|h|h<;>rw[h] at up dn<;>omega
theorem Akx{drift x:Int}{v:Int×Int}(h:SV drift v){X:Int}(h0: -X≤x)(h1:x≤X): -X≤v.1*x/v.2∧v.1*x/v.2≤X:=by
  have hs:=h.small
  have hD:=h.d0
  have hX:0≤X:=by omega
  have b1:v.1≤v.2:=by omega
  have b2: -v.2≤v.1:=by omega
  refine Ab7 (by omega) ?_ ?_
  ·
    have e:v.1*x+X*v.2=(v.1+v.2)*(x+X)+(v.2-v.1)*(X-x)-(v.1*x+X*v.2):=by grind
    have p1:=Int.mul_nonneg (show 0≤v.1+v.2 by omega) (show 0≤x+X by omega)
    have p2:=Int.mul_nonneg (show 0≤v.2-v.1 by omega) (show 0≤X-x by omega)
    omega
  · have e:X*v.2-v.1*x=(v.2-v.1)*(X+x)+(v.2+v.1)*(X-x)-(X*v.2-v.1*x):=by grind
    have p1:=Int.mul_nonneg (show 0≤v.2-v.1 by omega) (show 0≤X+x by omega)
    have p2:=Int.mul_nonneg (show 0≤v.2+v.1 by omega) (show 0≤X-x by omega)
    omega
theorem Agu{drift:Int}{m:M5}(h:MB drift m){t:Int}(h0:0≤t)(h1:t≤1125899906842624): -1125899906842624≤gn m t∧gn m t≤1125899906842624:=by
  have:=h.l0
  have:=h.l1
  exact Akx (X:=1125899906842624) h.sv (by show _≤t-m.1;omega) (by show t-m.1≤_;omega)
end Go.Proofs.YtnjmfbjgcfnanaaGreat
