import Derived.Test.YticgocmhmffneaaGreatDoorNuP
import Derived.Test.YticgocmhmffneaaGreatDoorMtD
namespace Go.Proofs.YticgocmhmffneaaGreatDoor
open Go Go.Eng Tryz
open Go.IntKind (wrap)
set_option linter.unusedSimpArgs false
set_option linter.unusedVariables false
set_option maxRecDepth 100000
set_option maxHeartbeats 8000000
structure Dn(w W:World)(Z Y:NP)(n m:Nat)(ta tb:Nt):Prop where
  a:dW w W Z n ta
  b:dW w W Y m tb
  d: ∀z,Z z→Y z→False
theorem Dn.Ai{w W W':World}{Z Y:NP}{n m:Nat}{ta tb:Nt}(l:Dn w W Z Y n m ta tb)(u:Af W W'):Dn w W' Z Y n m ta tb:=⟨l.a.Ai u,l.b.Ai u,l.d⟩
theorem Dn.na{w W W1:World}{Z Y Z':NP}{n m:Nat}{ta tb ta':Nt}(l:Dn w W Z Y n m ta tb)(h:TW W1 Z' n ta')(x:Nx Z W Z' W1):Dn w W1 Z' Y n m ta' tb:=by
  have A:=l.a.nx h x
  have lt:=l.b.h.lt
  exact⟨A,⟨l.b.h.upd x.u fun z hy hz=>l.d z hz hy,A.g,l.b.z⟩,fun z hz hy=>(x.sub z hz).elim (fun q=>l.d z q hy) fun q=>by have:=lt z hy;omega⟩
theorem Dn.nb{w W W1:World}{Z Y Y':NP}{n m:Nat}{ta tb tb':Nt}(l:Dn w W Z Y n m ta tb)(h:TW W1 Y' m tb')(x:Nx Y W Y' W1):Dn w W1 Z Y' n m ta tb':=by
  have B:=l.b.nx h x
  have lt:=l.a.h.lt
  exact⟨⟨l.a.h.upd x.u fun z hz hy=>l.d z hz hy,B.g,l.a.z⟩,B,fun z hz hy=>(x.sub z hy).elim (fun q=>l.d z hz q) fun q=>by have:=lt z hz;omega⟩
theorem Dn.far{S:NP}{w W W':World}{Z Y:NP}{n m:Nat}{ta tb:Nt}(l:Dn w W Z Y n m ta tb)(u:Am S W W')(h1: ∀z,Z z→ ¬S z)(h2: ∀z,Y z→ ¬S z)(h3: ∀z,S z→w.heap.size≤z):Dn w W' Z Y n m ta tb:=
  have g:Af w W':=Am.trans l.a.g u fun j hj h=>by have:=h3 j h;omega
  ⟨⟨l.a.h.upd u h1,g,l.a.z⟩,⟨l.b.h.upd u h2,g,l.b.z⟩,l.d⟩
def onT(t:Nt):Nat→Nt
  |0=>t
  |j+1=>((onT t j).act (j:Int) fun d=>(d.turn (1000*(j:Int)),0)).1
def tI(S:dI):Nt:=onT (((Ha S none).link 0 1 true).1.link 2 3 true).1 4
theorem lH(t:Nt): ∀j,(onT t j).s=t.s∧(onT t j).near=t.near∧(onT t j).steps=t.steps
  |0=>⟨rfl,rfl,rfl⟩
  |j+1=>by
    have ih:=lH t j
    unfold onT
    cases e:(onT t j).at (j:Int) with
    |none=>rw[Nt.Qe e];exact ih
    |some d=>rw[Nt.Q3 e];exact ih
theorem Abd{B:Int}{t:Nt}(h:Ls B t): ∀j:Nat,1000*(j:Int)≤B→Ls B (onT t j)
  |0,_=>h
  |j+1,hj=>by
    have ih:=Abd h j (by omega)
    unfold onT
    intro i d' hd'
    rcases Ar9 hd' with q|⟨d,hd,rfl⟩
    · exact ih i d' q
    · show 0≤1000*(j:Int)∧1000*(j:Int)≤B
      omega
theorem As8{S:dI}(h:S.nodes=4):(((Ha S none).link 0 1 true).1.link 2 3 true).1={Ha S none with near:=nr4}:=by
  have e1:(Ha S none).link 0 1 true=({Ha S none with near:=Zu (Ha S none).near 0 1 true},0):=by
    unfold Nt.link
    rw[if_pos (by show(0:Int)≤0∧0<S.nodes∧(0:Int)≤1∧1<S.nodes∧(0:Int)≠1;omega)]
    rfl
  rw[e1]
  have e2:Nt.link {Ha S none with near:=Zu (Ha S none).near 0 1 true} 2 3 true=({Ha S none with near:=Zu (Zu (Ha S none).near 0 1 true) 2 3 true},0):=by
    unfold Nt.link
    rw[if_pos (by show(0:Int)≤2∧2<S.nodes∧(0:Int)≤3∧3<S.nodes∧(2:Int)≠3;omega)]
    rfl
  rw[e2]
  have e3:Zu (Zu (Ha S none).near 0 1 true) 2 3 true=nr4:=by
    show Zu (Zu (List.replicate S.nodes.toNat 0) 0 1 true) 2 3 true=nr4
    rw[h]
    decide
  rw[e3]
theorem Hm.begin{S:dI}(h:S.nodes=4):Hm 4294967296 (tI S) (tI S):=by
  have k:=lH (((Ha S none).link 0 1 true).1.link 2 3 true).1 4
  have e:=As8 h
  have n0:Ls 4294967296 (((Ha S none).link 0 1 true).1.link 2 3 true).1:=by
    rw[e]
    intro i d hd
    have hd:(Ha S none).ds[i]? =some d:=hd
    rw[Alz hd]
    show(0:Int)≤0∧(0:Int)≤4294967296
    omega
  have nw:=Abd n0 4 (by omega)
  refine⟨rfl,?_,?_,?_,fun i _=>rfl,rfl,nw,nw⟩
  · show(onT _ 4).s.nodes=4
    rw[k.1,e];exact h
  · show(onT _ 4).near=nr4
    rw[k.2.1,e]
  · show(onT _ 4).near=nr4
    rw[k.2.1,e]
theorem Hm.tells{B:Int}{a b:Nt}(A:Hm B a b){i:Nat}(hi:i<2):b.tim (i:Int)=a.tim (i:Int)∧b.rO (i:Int)=a.rO (i:Int):=by
  have e:b.at (i:Int)=a.at (i:Int):=by
    unfold Nt.at
    rw[if_neg (by omega),if_neg (by omega),Int.toNat_natCast]
    exact A.d i hi
  constructor
  · unfold Nt.tim;rw[e]
  · unfold Nt.rO;rw[e]
theorem Hm.mono{B C:Int}{a b:Nt}(A:Hm B a b)(l:B≤C):Hm C a b:=⟨A.s,A.n,A.na,A.nb,A.d,A.st,A.ca.mono l,A.cb.mono l⟩
theorem Vd{S:dI}{W:World}{Z:NP}{n:Nat}(h:TW W Z n (Ha S none)){K:WP}(hk: ∀W' Z',TW W' Z' n (tI S)→Nx Z W Z' W'→K W'):
    Ae prog F.Cf [pB n,iV 0,iV 1,.bool true] W false Si fun _ w25=>Ae prog F.Cf [pB n,iV 2,iV 3,.bool true] w25 false Si fun _ w27=>
      Ci (fun(self:((Int)×Unit)→WP) (z:(Int)×Unit) w30=> ∀_:Nat→Value,Aj (decide (z.1<4)) (Ae prog F.D7 [pB n,iV z.1,.int .u32 (wrap .u32 (wrap .i64 (1000*z.1)))] w30 false Si fun _ w32=>self (wrap .i64 (z.1+1),()) w32) (K w30)) (0,()) w27:=by
  refine Cf.t h fun w25 h25 u25=>Cf.t h25 fun w27 h27 u27=>?_
  have x27:Nx Z W Z w27:=(Nx.trans ⟨u25,fun z q=>.inl q⟩ ⟨u27,fun z q=>.inl q⟩)
  refine Ci.by (fun z W'=> ∃j:Nat,j≤4∧z=((j:Int),())∧ ∃Z',TW W' Z' n (onT (((Ha S none).link 0 1 true).1.link 2 3 true).1 j)∧Nx Z W Z' W') (fun z=>4-z.1.toNat) ⟨0,by omega,rfl,Z,h27,x27⟩ ?_
  rintro z W' ⟨j,hj,rfl,Z',h',x'⟩ _
  refine Dx (fun c=>?_) fun c=>?_
  · have hjl:j<4:=by have c:(j:Int)<4:=c;omega
    have nj:wrap .i64 ((j:Int)+1)=((j+1:Nat):Int):=by rw[Ah (by unfold I64;omega)];rfl
    have ew:wrap .u32 (wrap .i64 (1000*(j:Int)))=1000*(j:Int):=by
      rw[Ah (by unfold I64;omega),Adq]
      omega
    rw[ew]
    exact D7.t h' (by omega) (by omega) fun w32 Z2 h2 x2=>⟨⟨j+1,by omega,by rw[nj],Z2,h2,x'.trans x2⟩,by show 4-(wrap .i64 ((j:Int)+1)).toNat<4-((j:Int)).toNat;rw[nj,Int.toNat_natCast,Int.toNat_natCast];omega⟩
  · have hjn:j=4:=by have c: ¬(j:Int)<4:=c;omega
    subst hjn
    exact hk W' Z' h' x'
theorem Row.st{w:World}{s:Sl}{xs:List Value}(h:Row w s 1 xs){a:Addr}(ha:s.1=some a)(e:a=⟨a.block,0,none⟩){cs:List Value}(k:Az w a.block cs){i:Nat}(hi:i<xs.length){v:Value}(hv:uO v=true){K:WP}
    (hk: ∀w' cs',Az w' a.block cs'→Row w' s 1 (xs.set i v)→Am (fun z=>z=a.block) w w'→K w'):Au [v] (a.add i) 0 w K:=by
  have hg: ∀j u,xs[j]? =some u→cs[j]? =some u:=fun j u hu=>by
    have:=Row.ld h ha hu
    rw[e,N8,Nat.zero_add,k.cell] at this
    exact this
  have hic:i<cs.length:=(List.getElem?_eq_some_iff.1 (hg i _ (List.getElem?_eq_getElem hi))).1
  rw[e]
  refine k.sN i [v] (by show i+1≤_;omega) (by simp[hv]) fun w' k' u=>hk w' _ k' ⟨by rw[List.length_set];exact h.len,fun _=>⟨a,ha,fun j u hj=>?_⟩⟩ u
  rw[e,N8,Nat.zero_add,k'.cell]
  show(cs.set i v)[j]? =some u
  rw[List.getElem?_set] at hj⊢
  by_cases q:i=j
  · rw[if_pos q,if_pos (by omega)] at hj
    rw[if_pos q,if_pos (by omega)]
    exact hj
  · rw[if_neg q] at hj⊢
    exact hg j u hj
end Go.Proofs.YticgocmhmffneaaGreatDoor
