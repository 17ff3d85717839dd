import Derived.Test.YticgocmhmffneaaGreatDoorMtK
namespace Go.Proofs.YticgocmhmffneaaGreatDoor
open Go Go.Eng
open Go.IntKind (wrap)
set_option linter.unusedSimpArgs false
set_option linter.unusedVariables false
set_option maxRecDepth 100000
set_option maxHeartbeats 8000000
def nr4:List Nat:=[2,1,8,4]
def Ls(B:Int)(t:Nt):Prop:= ∀(i:Nat) (d:Nd),t.ds[i]? =some d→0≤d.now∧d.now≤B
structure Hm(B:Int)(a b:Nt):Prop where
  s:b.s=a.s
  n:a.s.nodes=4
  na:a.near=nr4
  nb:b.near=nr4
  d: ∀i,i<2→b.ds[i]? =a.ds[i]?
  st:b.steps=a.steps
  ca:Ls B a
  cb:Ls B b
theorem Ls.mono{B C:Int}{t:Nt}(h:Ls B t)(l:B≤C):Ls C t:=fun i d hd=>⟨(h i d hd).1,Int.le_trans (h i d hd).2 l⟩
structure oQ(c e:Ch):Prop where
  t:e.ticks=c.ticks
  s:e.send=c.send
  h:e.hear=c.hear
  n:e.lost.length=c.lost.length
  l: ∀i,i<2→e.lost.getD i 0=c.lost.getD i 0
theorem Ql.Aw{t:Nt}(g:Ql t):0≤t.s.Aw∧t.s.Aw≤10:=by
  obtain⟨d,hd⟩:=g.at (i:=0) (by have:=g.kE;omega)
  obtain⟨k,e⟩:=g.nd 0 d hd
  have hs:=k.g.s
  rw[e] at hs
  obtain⟨_,_,f,_⟩:=Uj.1 hs
  have:=(Ya.1 f).2
  have e2:(Nl t.s 0).Aw=t.s.Aw:=rfl
  omega
theorem Vj{t:Nt}(g:Ql t){xs:List Int}:(t.ds.zip xs).all (fun x=>oM x.1.s.Aw x.2)=true↔ ∀(i:Nat) (d:Nd) (x:Int),t.ds[i]? =some d→xs[i]? =some x→oM t.s.Aw x=true:=by
  rw[List.all_eq_true]
  constructor
  · intro h i d x hd hx
    have:=h (d,x) (dC.2 ⟨i,hd,hx⟩)
    have e:=(g.nd i d hd).2
    rw[show(d,x).1.s.Aw=t.s.Aw from by show d.s.Aw=_;rw[e];rfl] at this
    exact this
  · intro h x hx
    obtain⟨i,h1,h2⟩:=dC.1 hx
    have e:=(g.nd i x.1 h1).2
    rw[show x.1.s.Aw=t.s.Aw from by rw[e];rfl]
    exact h i x.1 x.2 h1 h2
theorem Abv{t:Nt}(g:Ql t){B:Int}(h:Ls B t)(hB:B≤1000000000000){xs:List Int}(hf:(t.ds.zip xs).all (fun x=>oM x.1.s.Aw x.2)=true):((t.ds.zip xs).any fun x=>x.1.on&&decide (x.1.now+x.2>1125899906842624))=false:=by
  rw[List.any_eq_false]
  intro x hx
  obtain⟨i,h1,h2⟩:=dC.1 hx
  have hb:=h i x.1 h1
  have f:=mF.1 ((Vj g).1 hf i x.1 x.2 h1 h2)
  have:=g.Aw
  rw[Bool.and_eq_true,decide_eq_true_eq]
  rintro⟨_,q⟩
  omega
theorem Hm.len{B:Int}{a b:Nt}(A:Hm B a b)(ga:Ql a)(gb:Ql b):a.ds.length=4∧b.ds.length=4:=by
  have h1:=ga.len
  have h2:=gb.len
  rw[A.s] at h2
  rw[A.n] at h1 h2
  exact⟨h1,h2⟩
theorem Hm.chk{B:Int}{a b:Nt}(A:Hm B a b)(ga:Ql a)(gb:Ql b)(hB:B≤1000000000000){c e:Ch}(C:oQ c e):b.chk e=a.chk c:=by
  obtain⟨la,lb⟩:=A.len ga gb
  unfold Nt.chk
  rw[C.t,C.n,C.s,C.h,A.s,la,lb]
  by_cases h1:c.ticks.length≠4∨c.lost.length>4∨Rk a.s.jit 4 c.send=false∨Rk a.s.jit 4 c.hear=false
  · rw[if_pos h1,if_pos h1]
  rw[if_neg h1,if_neg h1]
  have hl:c.ticks.length=4:=by omega
  have key:(b.ds.zip c.ticks).all (fun x=>oM x.1.s.Aw x.2)=(a.ds.zip c.ticks).all (fun x=>oM x.1.s.Aw x.2):=by
    rw[Bool.eq_iff_iff,Vj ga,Vj gb,A.s]
    constructor
    · intro h i d x hd hx
      have hi:=(List.getElem?_eq_some_iff.1 hd).1
      obtain⟨d',hd'⟩:=gb.at (i:=i) (by omega)
      exact h i d' x hd' hx
    · intro h i d x hd hx
      have hi:=(List.getElem?_eq_some_iff.1 hd).1
      obtain⟨d',hd'⟩:=ga.at (i:=i) (by omega)
      exact h i d' x hd' hx
  rw[key]
  by_cases h2:((a.ds.zip c.ticks).all fun x=>oM x.1.s.Aw x.2)=false
  · rw[if_pos h2,if_pos h2]
  rw[if_neg h2,if_neg h2]
  have h2:((a.ds.zip c.ticks).all fun x=>oM x.1.s.Aw x.2)=true:=by simpa using h2
  rw[Abv ga A.ca hB h2,Abv gb A.cb hB (by rw[key];exact h2)]
theorem Apm{t:Nt}{c:Ch}{i:Nat}{d d':Nd}(h:t.ds[i]? =some d)(h':(t.d3 c)[i]? =some d'):d'.now=(d.go (Nz c.ticks i)).1.now:=by
  rw[Nt.gK h] at h'
  injection h' with h'
  subst h'
  have e1:=Akv (Ao6 (d.go (Nz c.ticks i)).1 t.steps (Nz c.send i))
  rw[←e1]
  unfold X9
  split
  · exact Akv (xR _ _ _)
  · rfl
theorem Aqy{d:Nd}{t:Int}(h0:0≤d.now)(hd:0≤d.s.Aw∧d.s.Aw≤10){B:Int}(h:d.now≤B):0≤(d.go t).1.now∧(d.go t).1.now≤B+2000:=by
  unfold Nd.go
  split
  · exact⟨h0,by show d.now≤_;omega⟩
  · dsimp only
    split
    · rename_i q
      unfold goT at q
      split at q
      · rename_i f
        have:=mF.1 f
        omega
      · cases q
    · omega
theorem Ls.d3{B:Int}{t:Nt}(g:Ql t)(h:Ls B t)(c:Ch)(t':Nt)(e:t'.ds=t.d3 c):Ls (B+2000) t':=by
  intro i d' hd'
  rw[e] at hd'
  have hi:i<t.ds.length:=by have:=(List.getElem?_eq_some_iff.1 hd').1;rwa [Nt.Abs] at this
  obtain⟨d,hd⟩:=g.at hi
  rw[Apm hd hd']
  have e:=(g.nd i d hd).2
  have dr:=g.Aw
  exact Aqy (h i d hd).1 (by rw[e];exact dr) (h i d hd).2
theorem Al5{x y m:Nat}(h: ∀j,m.testBit j=true→x.testBit j=y.testBit j):m&&&x=m&&&y:=by
  apply Nat.eq_of_testBit_eq
  intro j
  rw[Nat.testBit_and,Nat.testBit_and]
  cases hm:m.testBit j with
  |false=>rfl
  |true=>rw[h j hm]
theorem Hm.Oc{B:Int}{a b:Nt}(A:Hm B a b)(ga:Ql a)(gb:Ql b){c e:Ch}(C:oQ c e){i:Nat}(hi:i<2):(b.Oc e)[i]? =(a.Oc c)[i]? :=by
  obtain⟨la,lb⟩:=A.len ga gb
  obtain⟨d,hd⟩:=ga.at (i:=i) (by omega)
  have hd':b.ds[i]? =some d:=by rw[A.d i hi];exact hd
  rw[Nt.Wn hd,Nt.Wn hd',C.t,C.s,A.st]
theorem Hm.d2{B:Int}{a b:Nt}(A:Hm B a b)(ga:Ql a)(gb:Ql b){c e:Ch}(C:oQ c e){i:Nat}(hi:i<2):(b.d2 e)[i]? =(a.d2 c)[i]? :=by
  obtain⟨la,lb⟩:=A.len ga gb
  obtain⟨d,hd⟩:=ga.at (i:=i) (by omega)
  have hd':b.ds[i]? =some d:=by rw[A.d i hi];exact hd
  rw[Nt.Af5 hd,Nt.Af5 hd',C.t,C.s,A.st]
theorem Hm.Ue{B:Int}{a b:Nt}(A:Hm B a b)(ga:Ql a)(gb:Ql b){c e:Ch}(C:oQ c e){i:Nat}(hi:i<2):(b.Ue e).testBit i=(a.Ue c).testBit i:=by
  obtain⟨la,lb⟩:=A.len ga gb
  unfold Nt.Ue
  rw[Ws,Ws,la,lb]
  congr 2
  rw[List.getD_eq_getElem?_getD,List.getD_eq_getElem?_getD,A.Oc ga gb C hi]
theorem Hm.S9{B:Int}{a b:Nt}(A:Hm B a b)(ga:Ql a)(gb:Ql b){c e:Ch}(C:oQ c e){i:Nat}(hi:i<2):(b.S9 e).testBit i=(a.S9 c).testBit i:=by
  obtain⟨la,lb⟩:=A.len ga gb
  unfold Nt.S9
  rw[Ws,Ws,la,lb]
  congr 1
  unfold bW
  rw[A.d2 ga gb C hi]
theorem Abg{i:Nat}(hi:i<2)(j:Nat)(h:(nr4.getD i 0).testBit j=true):j<2:=by
  have:i=0∨i=1:=by omega
  rcases this with rfl|rfl
  · have h:(2:Nat).testBit j=true:=h
    rw[show(2:Nat)=2^1 from rfl,Nat.testBit_two_pow] at h
    have:=of_decide_eq_true h
    omega
  · have h:(1:Nat).testBit j=true:=h
    rw[show(1:Nat)=2^0 from rfl,Nat.testBit_two_pow] at h
    have:=of_decide_eq_true h
    omega
theorem Ald{s1 s2 a1 a2:Nat}{l1 l2:List Nat}{i near:Nat}(hs:s1.testBit i=s2.testBit i)(ha:a1.testBit i=a2.testBit i)(hn:l1.length=l2.length)(hl:l1.getD i 0=l2.getD i 0):xH s1 a1 l1 i near=xH s2 a2 l2 i near:=by
  unfold xH Anz
  rw[hs,ha,hn,hl]
theorem Hm.We{B:Int}{a b:Nt}(A:Hm B a b)(ga:Ql a)(gb:Ql b){c e:Ch}(C:oQ c e){i:Nat}(hi:i<2):(b.We e)[i]? =(a.We c)[i]? :=by
  obtain⟨la,lb⟩:=A.len ga gb
  rw[Nt.aY (by omega),Nt.aY (by omega),A.na,A.nb]
  have hn:nr4.getD i 0&&&b.Ue e=nr4.getD i 0&&&a.Ue c:=Al5 fun j hj=>A.Ue ga gb C (Abg hi j hj)
  rw[hn]
  exact congrArg some (Ald (A.Ue ga gb C hi) (A.S9 ga gb C hi) C.n (C.l i hi))
theorem Alu{t:Nt}(g:Ql t)(hn:t.near=nr4)(c:Ch){i:Nat}(hi:i<2)(h4:t.ds.length=4){f:Int}(h:(t.We c)[i]? =some (f,1)):f.toNat<2:=by
  rw[Nt.aY (by omega)] at h
  injection h with h
  obtain⟨k,ek,kl,kb,hs,ha⟩:=Apk (Nat.lt_of_le_of_lt Nat.and_le_right (g.Ue c)) h
  rw[Nat.testBit_and,Bool.and_eq_true,hn] at kb
  have:=Abg hi k kb.1
  rw[ek]
  exact this
theorem Hm.d3{B:Int}{a b:Nt}(A:Hm B a b)(ga:Ql a)(gb:Ql b){c e:Ch}(C:oQ c e){i:Nat}(hi:i<2):(b.d3 e)[i]? =(a.d3 c)[i]? :=by
  obtain⟨la,lb⟩:=A.len ga gb
  obtain⟨d,hd⟩:=ga.at (i:=i) (by omega)
  have hd':b.ds[i]? =some d:=by rw[A.d i hi];exact hd
  rw[Nt.gK hd,Nt.gK hd',C.t,C.s,C.h,A.st]
  have he:=A.We ga gb C hi
  unfold X9
  rw[List.getD_eq_getElem?_getD (l:=b.We e),List.getD_eq_getElem?_getD (l:=a.We c),he]
  cases hq:(a.We c)[i]? with
  |none=>rfl
  |some x=>
    rw[Option.getD_some]
    by_cases c1:x.2=1
    · rw[if_pos c1,if_pos c1]
      have hf:x.1.toNat<2:=Alu ga A.na c hi la (f:=x.1) (by rw[hq,←c1])
      rw[List.getD_eq_getElem?_getD (l:=b.Oc e),List.getD_eq_getElem?_getD (l:=a.Oc c),A.Oc ga gb C hf]
    · rw[if_neg c1,if_neg c1]
theorem Hm.step{B:Int}{a b:Nt}(A:Hm B a b)(ga:Ql a)(gb:Ql b)(hB:B≤1000000000000){c e:Ch}(C:oQ c e):(b.step e).2=(a.step c).2∧Hm (B+2000) (a.step c).1 (b.step e).1:=by
  have hc:=A.chk ga gb hB C
  unfold Nt.step
  rw[hc]
  split
  · exact⟨rfl,A.s,A.n,A.na,A.nb,A.d,A.st,A.ca.mono (by omega),A.cb.mono (by omega)⟩
  · refine⟨rfl,A.s,A.n,A.na,A.nb,fun i hi=>A.d3 ga gb C hi,by show wrap .i64 (b.steps+1)=_;rw[A.st],Ls.d3 ga A.ca c _ rfl,Ls.d3 gb A.cb e _ rfl⟩
theorem Hm.act{B:Int}{a b:Nt}(A:Hm B a b){i:Int}(hi:i=2∨i=3){f:Nd→Nd×Int}(hf: ∀d,0≤d.now∧d.now≤B→0≤(f d).1.now∧(f d).1.now≤B):Hm B a (b.act i f).1:=by
  cases e:b.at i with
  |none=>rw[Nt.Qe e];exact A
  |some d=>
    rw[Nt.Q3 e]
    have hd:=(Nt.Xv e).2
    refine⟨A.s,A.n,A.na,A.nb,fun j hj=>?_,A.st,A.ca,fun j x hx=>?_⟩
    · show(b.ds.set i.toNat (f d).1)[j]? =_
      rw[List.getElem?_set_ne (by omega)]
      exact A.d j hj
    · have hx:(b.ds.set i.toNat (f d).1)[j]? =some x:=hx
      rw[List.getElem?_set] at hx
      split at hx
      · split at hx
        · injection hx with hx
          subst hx
          exact hf d (A.cb _ d hd)
        · cases hx
      · exact A.cb j x hx
theorem Ahn{d:Nd}{raw B:Int}(h0:0≤raw)(h:raw≤B):0≤(d.turn raw).now∧(d.turn raw).now≤B:=⟨h0,h⟩
theorem Amb(d:Nd):d.off.1.now=d.now:=by unfold Nd.off;split<;>rfl
theorem Amo(d:Nd)(t:Int):(d.fix t).1.now=d.now:=Akv (Awb d t)
theorem Amc(bs:List Nat)(d:Nd):(nX bs d).1.now=d.now:=by rw[(Ab6 bs d).1]
end Go.Proofs.YticgocmhmffneaaGreatDoor
