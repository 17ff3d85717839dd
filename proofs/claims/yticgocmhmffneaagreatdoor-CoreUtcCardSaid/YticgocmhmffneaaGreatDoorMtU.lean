import Derived.Test.YticgocmhmffneaaGreatDoorMtD
import Derived.Test.YticgocmhmffneaaGreatDoorMtB
import Derived.Test.YticgocmhmffneaaGreatDoorMtK
import Derived.Test.YticgocmhmffneaaGreatDoorMtH
import Derived.Test.YticgocmhmffneaaGreatDoorEngX
namespace Go.Proofs.YticgocmhmffneaaGreatDoor
open Go Go.Eng Tryz
open Go.IntKind (wrap)
set_option linter.unusedSimpArgs false
set_option linter.unusedVariables false
set_option maxRecDepth 100000
set_option maxHeartbeats 8000000
theorem Nl.g{S:dI}{so:Sl}{w:World}(hR:Row w so 1 (Na S.own))(ho:S.own.length≤1000000){K:TR [(true,KTs)]→WP}(hk: ∀s w',Row w' s 1 (Na S.own)→Af w w'→K (tsT S s,()) w'):Ae prog F.Nl [.agg (Q4 S so).toArray] w false [(true,KTs)] K:=by
 refine Nl.ok (s0:=S.nodes) (s1:=S.tmo) (s2:=S.ign) (s3:=S.need) (s4:=S.Aw) (s5:=S.rnd) (s6:=S.opn) (s7:=S.lim) (s8:=S.jit) (s9:=S.gate) (s10:=so) ?_
 unfold Nl.wp
 refine Ad λp1 w2 e1 k1 u1=>Ad λp3 w4 e3 k3 u3=>?_
 change Az w2 p1 (Q4 S so) at k1
 rw[Be]
 have g5:=(u1.trans u3).trans (Af.drew w4)
 have q:=(k1.Ai u3).drew
 have k3:=k3.drew
 have ud:=Af.drew w4
 generalize w4.drew=w5 at*
 refine q.c0 (c:=KI) (x:=S.nodes) rfl (q.c1 1 (c:=KI) (x:=S.tmo) rfl (q.c1 2 (c:=KI) (x:=S.ign) rfl (q.c1 3 (c:=KI) (x:=S.need) rfl (q.c1 4 (c:=KI) (x:=S.Aw) rfl (q.c1 5 (c:=KI) (x:=S.rnd) rfl (q.c1 6 (c:=KI) (x:=S.opn) rfl (q.c1 7 (c:=KI) (x:=S.lim) rfl (q.c1 8 (c:=KI) (x:=S.jit) rfl (q.c1 9 (c:=KI) (x:=S.gate) rfl (q.c1 10 (c:=.sl) (x:=so) rfl ?_))))))))))
 have H:=λ{T:NP} {w':World} (u:Am T w5 w') (hT: ¬T p1) (j:Nat) (hj:j<(Q4 S so).length)=>q.hold u hT j hj
 have l11:(Q4 S so).length=11:=rfl
 refine Zv 1 0 rfl (by omega) λp17 w18 e17 o18 u18=>?_
 refine⟨⟨H u18 (λx=>x) 10 (by omega),H u18 (λx=>x) 9 (by omega),H u18 (λx=>x) 8 (by omega),H u18 (λx=>x) 7 (by omega),H u18 (λx=>x) 6 (by omega),H u18 (λx=>x) 5 (by omega),H u18 (λx=>x) 4 (by omega),H u18 (λx=>x) 3 (by omega),H u18 (λx=>x) 2 (by omega),H u18 (λx=>x) 1 (by omega),H u18 (λx=>x) 0 (by omega),trivial⟩,?_⟩
 have lo:=Me hR
 have lp:=q.lt
 have l3:=k3.lt
 refine Vx (s:=(some ⟨p17,0,none⟩,0,0)) (x:=so) (e:=T.int) (size:=1) (news:=Na S.own) (by kernel_rfl) (by kernel_rfl) (by decide) o18 (Row.Ai hR (g5.trans u18)) (Tj _) (by omega) (Nat.le_of_lt (o18.blk rfl).2.1) λy w20 o20 u20 b20=>?_
 have U20:Am (λz=>z=p17) w5 w20:=Am.trans (Am.Bj u18) u20 λz hz ⟨a,ha,h⟩=>by cases ha;exact h.symm
 have np: ¬p1=p17:=by omega
 refine⟨⟨H U20 np 9 (by omega),H U20 np 8 (by omega),H U20 np 7 (by omega),H U20 np 6 (by omega),H U20 np 5 (by omega),H U20 np 4 (by omega),H U20 np 3 (by omega),H U20 np 2 (by omega),H U20 np 1 (by omega),H U20 np 0 (by omega),trivial⟩,?_⟩
 refine(k3.upd U20 (by omega)).Fg (Q4 S y) rfl rfl λw21 k21 u21=>⟨trivial,k21.cA (cs:=KTs) (tsT S y) rfl ?_⟩
 have hy: ∀a,y.1=some a→p17≤a.block:=λa ha=>by
  rcases b20 a ha with ⟨a0,h0,e0⟩|h
  ·cases h0;exact Nat.le_of_eq e0.symm
  ·have:=(o18.blk rfl).2.1;exact Nat.le_of_lt (Nat.lt_of_lt_of_le this h)
 have r20:Row w20 y 1 (Na S.own):=by have:=o20.row;rwa [List.nil_append] at this
 refine hk y w21 (Row.upd r20 u21 λa ha e=>by have:=hy a ha;omega) ?_
 have z1:=u1.size
 have z5:=g5.size
 exact Am.trans (Am.trans g5 U20 λz hz e=>by omega) u21 λz hz e=>by omega
theorem Oe.g{w:World}(hT:Tb w){K:TR Wh→WP}(hk: ∀w',Af w w'→K ((true,()),()) w'):Ae prog F.Oe [] w false Wh K:=by
 refine Oe.ok ?_
 unfold Oe.wp
 refine Nl.g (S:=s27) (so:=(none,0,0)) (Ak5 w) (by decide) λs w2 r2 u2=>?_
 refine Io.g (S:=s27) (so:=s) g27 r2 (by decide) λn Z w4 h4 hz u4=>?_
 have L4:dW w w4 Z n (wB s27 none):=⟨h4,u2.trans u4,λz q=>Nat.le_trans u2.size (hz z q)⟩
 refine Cf.t h4 λw6 h6 u6=>?_
 have L6:dW w w6 Z n Aqr:=L4.nx h6 ⟨u6,λz q=>.inl q⟩
 refine D7.t L6.h (by decide) (by decide) λw8 Z8 h8 x8=>?_
 have L8:dW w w8 Z8 n Apy:=L6.nx h8 x8
 refine D7.t L8.h (by decide) (by decide) λw10 Z10 h10 x10=>?_
 have L10:dW w w10 Z10 n (t27 0):=L8.nx h10 x10
 refine Ci.by (λz W=> ∃j:Nat,j≤3∧z=((j:Int),())∧ ∃Z,dW w W Z n (t27 j)) (λz=>3-z.1.toNat) ⟨0,by omega,rfl,_,L10⟩ ?_
 rintro z W ⟨j,hj,rfl,Z,L⟩ _
 refine Dx (λc=>?_) λc=>?_
 ·have hjl:j<3:=by have c:(j:Int)<3:=c;omega
  refine Ad λp14 w15 e14 k14 u14=>Ad λp16 w17 e16 k16 u16=>Ad λp18 w19 e18 k18 u18=>?_
  have lt:=L.h.lt
  have s14:=u14.size
  have s16:=u16.size
  have L19:=((L.Ai u14).Ai u16).Ai u18
  refine Ce.g (t:=t27 j) (c:=c27) L19.h (hT.Ai L19.g) (L19.n0 hT) (Atb ((k14.Ai u16).Ai u18) (k16.Ai u18) k18 (λq=>by have:=lt _ q;omega) (λq=>by have:=lt _ q;omega) (λq=>by have:=lt _ q;omega)) λw21 Z21 h21 x21=>?_
  have e0:=Awn j hjl
  refine Jl (by show(((t27 j).step c27).2 !=0)=false;rw[e0];rfl) ?_
  have nx:wrap .i64 ((j:Int)+1)=((j+1:Nat):Int):=by rw[Ah (by unfold I64;omega)];rfl
  exact⟨⟨j+1,by omega,by rw[nx],Z21,L19.nx h21 x21⟩,by rw[nx,Int.toNat_natCast,Int.toNat_natCast];omega⟩
 ·have hjl:j=3:=by have c: ¬(j:Int)<3:=c;omega
  subst hjl
  have tm:=Avq
  refine Dq.t L.h (λe=>by rw[e] at tm;cases tm) λd e w23 u23=>?_
  rw[e] at tm
  have tm:some (d.time.1.1,d.time.1.2.2.1,d.time.2)=some ((3005:Int),(0:Int),(0:Int)):=tm
  injection tm with tm
  simp only[Prod.mk.injEq] at tm
  obtain⟨t1,t2,t3⟩:=tm
  refine Ad λp24 w25 e24 k24 u24=>k24.Fg (encs K5 (Yc d.time.1)) rfl rfl λw26 k26 u26=>?_
  have g26:Af W w26:=Af.fresh u23 u24 u26 e24
  refine Vt rfl (Vt (by show(d.time.2==0)=true;rw[t3];rfl) (k26.c1 2 (c:=KI) (x:=d.time.1.2.2.1) rfl (Vt (by rw[t2];rfl) (k26.c0 (c:=KI) (x:=d.time.1.1) rfl ?_))))
  have:=hk w26 (L.g.trans g26)
  show K ((d.time.1.1==3005,()),()) w26
  rw[t1];exact this
end Go.Proofs.YticgocmhmffneaaGreatDoor
namespace Go.Proofs.YticgocmhmffneaaGreatDoor
open Go Go.Eng Tryz
set_option linter.unusedSimpArgs false
set_option linter.unusedVariables false
set_option maxRecDepth 100000
set_option maxHeartbeats 8000000
def Nd.yH(d:Nd):Jf MK×Bool:=if d.on=false then((0,0,()),false) else(oN d.e d.l,mkB d.e)
abbrev RMB:List (Bool×List CK):=[(true,MK),(false,[.b])]
theorem Dn.n{w:World}{O:NP}{N:NB}{bf be:Nat}{d:Nd}(h:NW w O N bf be d){k:TR RMB→WP}
  (hk: ∀w',Af w w'→k (d.yH.1,(d.yH.2,()),()) w'):Ae prog F.Dn [pB (N 0)] w true RMB k:=by
 refine Dn.ok ?_
 unfold Dn.wp
 refine Ad λp1 w2 e1 k1 u1=>?_
 have H:=h.Ai u1
 refine Cm.cl H ?_
 unfold Nd.yH at hk
 by_cases hon:d.on=true
 ·rw[if_neg (by rw[hon];decide)] at hk
  rw[if_pos hon]
  refine Jl rfl ?_
  rw[Ac]
  refine H.n0 15 (c:=.p) (x:=some ⟨bf,0,none⟩) rfl ?_
  obtain⟨r,E⟩:=H.fw.el
  refine H.fw.eF (Hl.cl E λw10 u10=>?_)
  exact(k1.Ai u10).Fg (encs MK (oN d.e d.l)) rfl rfl λw11 k11 u11=>k11.cA (cs:=MK) (oN d.e d.l) rfl (hk w11 (Af.fresh (Af.refl _) (u1.trans u10) u11 e1))
 ·rw[if_pos (by simpa using hon)] at hk
  rw[if_neg hon]
  exact Vt rfl (k1.Fg (encs MK (0,0,())) rfl rfl λw5 k5 u5=>k5.cA (cs:=MK) (0,0,()) rfl (hk w5 (Af.fresh (Af.refl _) u1 u5 e1)))
theorem Dn.o{w:World}{B:NP}{b:Nat}{d:Nd}(h:No w B b d){k:TR RMB→WP}
  (hk: ∀w',Af w w'→k (d.yH.1,(d.yH.2,()),()) w'):Ae prog F.Dn [pB b] w true RMB k:=by
 obtain⟨K,O,N,bf,be,e,hB,nw⟩:=h
 subst e
 exact Dn.n nw hk
theorem Dn.nil{w:World}{K:TR RMB→WP}(hk: ∀w',Af w w'→K ((0,0,()),(false,()),()) w'):Ae prog F.Dn [.pointer none] w true RMB K:=by
 refine Dn.ok ?_
 unfold Dn.wp
 refine Ad λp1 w2 e1 k1 u1=>?_
 refine Cm.ok ?_
 unfold Cm.wp
 refine Vt rfl (Vt rfl ?_)
 exact k1.Fg (encs MK (0,0,())) rfl rfl λw5 k5 u5=>k5.cA (cs:=MK) (0,0,()) rfl (hk w5 (Af.fresh (Af.refl _) u1 u5 e1))
def Nt.yH(t:Nt)(i:Int):Jf MK×Bool:=match t.at i with|some d=>d.yH|none=>((0,0,()),false)
theorem Ju.t{w:World}{Z:NP}{n:Nat}{t:Nt}(h:TW w Z n t){i:Int}{K:TR RMB→WP}
  (hk: ∀w',Af w w'→K ((t.yH i).1,((t.yH i).2,()),()) w'):Ae prog F.Ju [pB n,iV i] w true RMB K:=by
 obtain⟨g,q,hZ,X⟩:=h.q
 refine Ju.ok ?_
 unfold Ju.wp
 refine Ad λp1 w2 e1 k1 u1=>?_
 have X2:TQ w2 n q t:=X.Ai u1
 have fin: ∀{w6:World},Af w2 w6→ ∀(x:Jf MK) (b:Bool),(x,b)=t.yH i→Au (encs MK x) ⟨p1,0,none⟩ 0 w6 λw7=>A8 MK ⟨p1,0,none⟩ 0 w7 λy=>K (y,(b,()),()) w7:=λ{w6} u6 x b ex=>by
  have hk: ∀w',Af w w'→K (x,(b,()),()) w':=by rw[←ex] at hk;exact hk
  exact(k1.Ai u6).Fg (encs MK x) rfl rfl λw7 k7 u7=>k7.cA (cs:=MK) x rfl (hk w7 (Af.fresh (Af.refl _) (u1.trans u6) u7 e1))
 refine Eu.q X2 g (λe=>Dn.nil λw6 u6=>fin u6 _ _ ?_) λd e=>Dn.o (X2.nd _ _ (Nt.Xv e).2) λw6 u6=>fin u6 _ _ ?_
 ·unfold Nt.yH;rw[e]
 ·unfold Nt.yH;rw[e]
theorem Oq.nl{w:World}{K:TR REB→WP}(hk: ∀w',Af w w'→K (fK ev0,(false,()),()) w'):Ae prog F.Oq [.pointer none] w true REB K:=by
 refine Oq.ok ?_
 unfold Oq.wp
 refine Ad λp1 w2 e1 k1 u1=>?_
 refine Cm.ok ?_
 unfold Cm.wp
 refine Vt rfl (Vt rfl ?_)
 exact k1.Fg (encs jD (fK ev0)) rfl rfl λw5 k5 u5=>k5.cA (cs:=jD) (fK ev0) rfl (hk w5 (Af.fresh (Af.refl _) u1 u5 e1))
theorem Ls.t{w:World}{Z:NP}{n:Nat}{t:Nt}(h:TW w Z n t){i:Int}{K:TR REB→WP}
  (hk: ∀x w' Z',TW w' Z' n (t.act i λd=>(d.Ua.1,0)).1→Nx Z w Z' w'→K x w'):Ae prog F.Ls [pB n,iV i] w true REB K:=by
 obtain⟨g,q,hZ,X⟩:=h.q
 refine Ls.ok ?_
 unfold Ls.wp
 refine Ad λp1 w2 e1 k1 u1=>?_
 have X2:TQ w2 n q t:=X.Ai u1
 have lt:=h.lt
 refine Eu.q X2 g (λe=>Oq.nl λw6 u6=>?_) λd e=>Oq.o (X2.nd _ _ (Nt.Xv e).2) λw6 k6 x6=>?_
 ·rw[Nt.Qe e] at hk
  refine(k1.Ai u6).Fg (encs jD (fK ev0)) rfl rfl λw7 k7 u7=>k7.cA (cs:=jD) (fK ev0) rfl ?_
  have g7:Af w w7:=Af.fresh (Af.refl _) (u1.trans u6) u7 e1
  exact hk _ w7 Z (h.Ai g7) (Nx.of g7)
 ·rw[Nt.Q3 e] at hk
  obtain⟨Z',h',x'⟩:=TW.Ani g hZ X2 e (nM (Asw d)) k6 x6
  have nz: ¬Z p1:=λq=>by have:=lt p1 q;omega
  have l1:=k1.lt
  have nz': ¬Z' p1:=λq=>(x'.sub p1 q).elim nz λy=>by omega
  refine(k1.upd x'.u nz).Fg (encs jD (fK (d.Ua.2.getD ev0))) rfl rfl λw7 k7 u7=>k7.cA (cs:=jD) (fK (d.Ua.2.getD ev0)) rfl ?_
  refine hk _ w7 Z' (h'.upd u7 λz hz e=>nz' (e▸hz)) ?_
  have a:Nx Z w Z' w6:=Nx.pre u1 x'
  refine⟨Am.trans a.u u7 λi hi e=>by omega,a.sub⟩
end Go.Proofs.YticgocmhmffneaaGreatDoor
namespace Go.Proofs.YticgocmhmffneaaGreatDoor
open Go Go.Eng Tryz
open Go.IntKind (wrap)
set_option linter.unusedSimpArgs false
set_option linter.unusedVariables false
set_option maxRecDepth 100000
set_option maxHeartbeats 8000000
theorem Oc.cl{S:dI}{so s:Sl}{xs:List TAc}{most:Int}{w:World}(hs:aP w s qR xs)(hm:most≤1000000){K:TR Wh→WP}(h1: ∀w',Af w w'→K ((true,()),()) w')(h0:S.nodes≤6→so.2.1≤100→(s.2.1:Int)≤most→(∀x∈xs,Sml x)→ ∀w',Af w w'→K ((false,()),()) w'):
  Ae prog F.Oc [.agg (Q4 S so).toArray,.slice s.1 s.2.1 s.2.2,iV most] w false Wh K:=by
 refine Oc.ok (s0:=S.nodes) (s1:=S.tmo) (s2:=S.ign) (s3:=S.need) (s4:=S.Aw) (s5:=S.rnd) (s6:=S.opn) (s7:=S.lim) (s8:=S.jit) (s9:=S.gate) (s10:=so) (script:=s) ?_
 unfold Oc.wp
 refine Ad λp1 w2 e1 k1 u1=>?_
 change Az w2 p1 (Q4 S so) at k1
 refine k1.c0 (c:=KI) (x:=S.nodes) rfl (Dx (λ_=>h1 _ u1) λc1=>k1.c1 10 (c:=.sl) (x:=so) rfl (Dx (λ_=>h1 _ u1) λc2=>Dx (λ_=>h1 _ u1) λc3=>?_))
 have hlen:=aP.len hs (by decide)
 refine Ci.by (λz W=>Af w W∧ ∃i:Nat,i≤xs.length∧z=((i:Int),())∧ ∀(j:Nat) (x:TAc),j<i→xs[j]? =some x→Sml x) (λz=>xs.length-z.1.toNat) ⟨u1,0,by omega,rfl,λj x h=>by omega⟩ ?_
 rintro z W ⟨G,i,hi,rfl,hS⟩ _
 refine Dx (λc5=>?_) λc5=>?_
 ·have hil:i<xs.length:=by have c5:(i:Int)<(s.2.1:Int):=c5;omega
  have hx:xs[i]? =some xs[i]:=List.getElem?_eq_getElem hil
  generalize xs[i]=x at hx
  obtain⟨a0,a1,a2,a3,a4,a5,a6,a7,a8,a9,a10,⟨⟩⟩:=x
  have hsW:aP W s qR xs:=hs.Ai G
  refine aP.ix hsW (by decide) (z:=(i:Int)) rfl hx λa hsa=>aP.A8 hsW hsa hx ?_
  refine Ad λp w3 e k u=>k.Fg (encs qR (a0,a1,a2,a3,a4,a5,a6,a7,a8,a9,a10,())) rfl rfl λw4 k4 u4=>?_
  have g4:Af w w4:=G.trans (Af.fresh (Af.refl _) u u4 e)
  refine k4.cN 7 (cs:=K4s) (a7,a8,a9,a10,()) rfl (Ad λp5 w6 e5 k5 u5=>k5.Fg [bP a7,bP a8,bP a9,bP a10] rfl rfl λw7 k7 u7=>?_)
  have g7:Af w w7:=g4.trans (Af.fresh (Af.refl _) u5 u7 e5)
  have l4:=k4.lt
  have k4:=(k4.Ai u5).upd u7 (by omega)
  refine k4.c1 6 (c:=.sl) (x:=a6) rfl (Dx (λ_=>h1 w7 g7) λd1=>k4.c1 5 (c:=.s) (x:=a5) rfl (Dx (λ_=>h1 w7 g7) λd2=>k7.c0 (c:=.sl) (x:=a7) rfl (Dx (λ_=>h1 w7 g7) λd3=>k7.c1 1 (c:=.sl) (x:=a8) rfl (Dx (λ_=>h1 w7 g7) λd4=>k7.c1 2 (c:=.sl) (x:=a9) rfl (Dx (λ_=>h1 w7 g7) λd5=>k7.c1 3 (c:=.sl) (x:=a10) rfl (Dx (λ_=>h1 w7 g7) λd6=>?_))))))
  have d1: ¬(a6.2.1:Int)>200:=d1
  have d2: ¬(a5.size:Int)>100:=d2
  have d3: ¬(a7.2.1:Int)>100:=d3
  have d4: ¬(a8.2.1:Int)>100:=d4
  have d5: ¬(a9.2.1:Int)>100:=d5
  have d6: ¬(a10.2.1:Int)>100:=d6
  have c3: ¬(s.2.1:Int)>most:=c3
  have nx:wrap .i64 ((i:Int)+1)=((i+1:Nat):Int):=by rw[Ah (by unfold I64;omega)];rfl
  refine⟨⟨g7,i+1,by omega,by rw[nx],λj x hj hq=>?_⟩,by show _-(wrap .i64 ((i:Int)+1)).toNat<_-((i:Int)).toNat;rw[nx,Int.toNat_natCast,Int.toNat_natCast];omega⟩
  by_cases hji:j<i
  ·exact hS j x hji hq
  ·have:j=i:=by omega
   subst this
   rw[hx] at hq
   injection hq with hq
   subst hq
   exact⟨by show a6.2.1≤200;omega,by show a5.size≤100;omega,by show a7.2.1≤100;omega,by show a8.2.1≤100;omega,by show a9.2.1≤100;omega,by show a10.2.1≤100;omega⟩
 ·have c1: ¬S.nodes>6:=c1
  have c2: ¬(so.2.1:Int)>100:=c2
  have c3: ¬(s.2.1:Int)>most:=c3
  have c5: ¬(i:Int)<(s.2.1:Int):=c5
  refine h0 (by omega) (by omega) (by omega) (λx hx=>?_) W G
  obtain⟨j,hj⟩:=List.getElem?_of_mem hx
  have:=(List.getElem?_eq_some_iff.1 hj).1
  exact hS j x (by omega) hj
theorem Uw.t{w W:World}{Z:NP}{n:Nat}{t:Nt}{a0 a1 a2 a4:Int}{a3:Bool}{a5:ByteArray}{a6 a7 a8 a9 a10:Sl}{bs:List Nat}{c:Ch}(l:dW w W Z n t)(hT:Tb w)(A:AR w (a0,a1,a2,a3,a4,a5,a6,a7,a8,a9,a10,()) bs c)(sm:Sml (a0,a1,a2,a3,a4,a5,a6,a7,a8,a9,a10,())){K:TR Si→WP}
  (hk: ∀W' Z',dW w W' Z' n (doA (a0,a1,a2,a3,a4,a5,a6,a7,a8,a9,a10,()) bs c t).1→Nx Z W Z' W'→K (((doA (a0,a1,a2,a3,a4,a5,a6,a7,a8,a9,a10,()) bs c t).2,()),()) W'):
  Ae prog F.Uw [pB n,.agg #[iV a0,iV a1,iV a2,.bool a3,.int .u32 a4,.string a5,bP a6,bP a7,bP a8,bP a9,bP a10]] W false Si K:=by
 refine Uw.ok ?_
 unfold Uw.wp
 refine Ad λp1 w2 ep k1 u1=>?_
 change Az w2 p1 [iV a0,iV a1,iV a2,.bool a3,.int .u32 a4,.string a5,bP a6,bP a7,bP a8,bP a9,bP a10] at k1
 have L:=l.Ai u1
 have raw:=A.raw
 have G:=L.g
 have ltZ:=l.h.lt
 have nZ: ¬Z p1:=λq=>by have:=ltZ p1 q;omega
 have cl:Ajq c:=A.Abk sm
 have s5:a5.size≤1000000:=by have h5:a5.size≤100:=sm.s;omega
 have d0: ∀(k:Int),a0=k→ ∀x:Nt×Int,doA (a0,a1,a2,a3,a4,a5,a6,a7,a8,a9,a10,()) bs c t=x→ ∀W' Z',dW w W' Z' n x.1→Nx Z W Z' W'→K ((x.2,()),()) W':=λk _ x ex=>by subst ex;exact hk
 refine k1.c0 (c:=KI) (x:=a0) rfl (Yl (λe=>?_) λe0=>Yl (λe=>?_) λe1=>Yl (λe=>?_) λe2=>?_)
 ·have hd:=d0 0 e (t.link a1 a2 a3) (by unfold doA doT;rw[if_neg (by show¬a0=7;omega),if_neg (by show¬a0=8;omega)];exact if_pos e)
  refine k1.c1 1 (c:=KI) (x:=a1) rfl (k1.c1 2 (c:=KI) (x:=a2) rfl (k1.c1 3 (c:=.b) (x:=a3) rfl ?_))
  exact Cf.t L.h λw20 h1 v1=>hd w20 Z (L.nx h1 ⟨v1,λz h=>.inl h⟩) (Nx.pre u1 ⟨v1,λz h=>.inl h⟩)
 ·have hd:=d0 1 e (t.act a1 λd=>(d.turn a4,0)) (by unfold doA doT;rw[if_neg (by show¬a0=7;omega),if_neg (by show¬a0=8;omega),if_neg e0];exact if_pos e)
  refine k1.c1 1 (c:=KI) (x:=a1) rfl (k1.c1 4 (c:=.i .u32) (x:=a4) rfl ?_)
  exact D7.t L.h raw.1 raw.2 λw20 Z1 h1 x1=>hd w20 Z1 (L.nx h1 x1) (Nx.pre u1 x1)
 ·have hd:=d0 2 e (t.act a1 Nd.off) (by unfold doA doT;rw[if_neg (by show¬a0=7;omega),if_neg (by show¬a0=8;omega),if_neg e0,if_neg e1];exact if_pos e)
  refine k1.c1 1 (c:=KI) (x:=a1) rfl ?_
  exact Gy.t L.h λw20 Z1 h1 x1=>hd w20 Z1 (L.nx h1 x1) (Nx.pre u1 x1)
 ·refine Cc.by (λz W=>z=(decide (a0=3∨a0=4∨a0=5∨a0=6),())∧w2=W) ?_ ?_
  ·refine Yl (λe=>⟨by rw[e];rfl,rfl⟩) λe3=>Yl (λe=>⟨by rw[e];rfl,rfl⟩) λe4=>Yl (λe=>⟨by rw[e];rfl,rfl⟩) λe5=>⟨?_,rfl⟩
   by_cases e6:a0=6
   ·rw[e6];rfl
   ·rw[beq_false_of_ne e6,decide_eq_false λh=>h.elim e3 λh=>h.elim e4 λh=>h.elim e5 e6]
  rintro z W' ⟨rfl,rfl⟩ _
  refine bM (λe=>?_) λe=>?_
  ·have e:a0=3∨a0=4∨a0=5∨a0=6:=of_decide_eq_true e
   have hd:=d0 a0 rfl (t.step c) (by unfold doA doT;rw[if_neg (by show¬a0=7;omega),if_neg (by show¬a0=8;omega),if_neg e0,if_neg e1,if_neg e2];exact if_pos e)
   refine k1.cN 7 (cs:=K4s) (a7,a8,a9,a10,()) rfl ?_
   refine Zw.cl (c:=c) (Row.Ai A.t G) (Row.Ai A.s G) (Row.Ai A.h G) (Row.Ai A.l G) A.lb cl λy0 y1 y2 y3 w46 u46 hC=>?_
   have L46:=L.Ai u46
   exact Ce.g (t:=t) (c:=c) L46.h (hT.Ai L46.g) (L46.n0 hT) (hC Z L.h.lt) λw48 Z1 h1 x1=>hd w48 Z1 (L46.nx h1 x1) (Nx.pre (u1.trans u46) x1)
  have e: ¬(a0=3∨a0=4∨a0=5∨a0=6):=of_decide_eq_false e
  refine Yl (λe7=>?_) λe7=>Yl (λe8=>?_) λe8=>Yl (λe9=>?_) λe9=>Yl (λe10=>?_) λe10=>?_
  ·have hd:=d0 7 e7 (t.act a1 λd=>((d.tag a5).1,(d.tag a5).2.2)) (by unfold doA;exact if_pos e7)
   refine k1.c1 1 (c:=KI) (x:=a1) rfl (k1.c1 5 (c:=.s) (x:=a5) rfl ?_)
   exact Jz.t L.h s5 λx w20 Z1 h1 x1=>hd w20 Z1 (L.nx h1 x1) (Nx.pre u1 x1)
  ·have hd:=d0 8 e8 ((t.act a1 λd=>(d.Ua.1,0)).1,0) (by unfold doA;rw[if_neg e7];exact if_pos e8)
   refine k1.c1 1 (c:=KI) (x:=a1) rfl ?_
   exact Ls.t L.h λx w20 Z1 h1 x1=>hd w20 Z1 (L.nx h1 x1) (Nx.pre u1 x1)
  ·have hd:=d0 9 e9 (t.act a1 λd=>d.fix a2) (by unfold doA doT;rw[if_neg e7,if_neg e8,if_neg e0,if_neg e1,if_neg e2,if_neg e];exact if_pos e9)
   refine k1.c1 1 (c:=KI) (x:=a1) rfl (k1.c1 2 (c:=KI) (x:=a2) rfl ?_)
   exact Gz.t L.h λw20 Z1 h1 x1=>hd w20 Z1 (L.nx h1 x1) (Nx.pre u1 x1)
  ·have hd:=d0 10 e10 (t.act a1 (nX bs)) (by unfold doA doT;rw[if_neg e7,if_neg e8,if_neg e0,if_neg e1,if_neg e2,if_neg e,if_neg e9];exact if_pos e10)
   refine k1.c1 1 (c:=KI) (x:=a1) rfl (k1.c1 6 (c:=.sl) (x:=a6) rfl ?_)
   exact Eg.t L.h A.by' (Row.Ai A.b G) A.bc λw20 Z1 h1 x1=>hd w20 Z1 (L.nx h1 x1) (Nx.pre u1 x1)
  ·have hd:=d0 a0 rfl (t,0) (by unfold doA doT;rw[if_neg e7,if_neg e8,if_neg e0,if_neg e1,if_neg e2,if_neg e,if_neg e9];exact if_neg e10)
   exact hd w2 Z L (Nx.of u1)
end Go.Proofs.YticgocmhmffneaaGreatDoor
namespace Go.Proofs.YticgocmhmffneaaGreatDoor
open Go Go.Eng
set_option linter.unusedSimpArgs false
set_option linter.unusedVariables false
set_option maxRecDepth 100000
set_option maxHeartbeats 8000000
theorem Aei(t:Nt)(i:Int)(f:Nd→Nd×Int):(t.act i f).1.s=t.s:=by
 cases e:t.at i with
 |none=>rw[Nt.Qe e]
 |some d=>rw[Nt.Q3 e];rfl
theorem Avd(x:TAc)(bs:List Nat)(c:Ch)(t:Nt):(doA x bs c t).1.s=t.s:=by
 unfold doA doT
 split
 ·exact Aei _ _ _
 split
 ·exact Aei _ _ _
 split
 ·unfold Nt.link;split<;>rfl
 split
 ·exact Aei _ _ _
 split
 ·exact Aei _ _ _
 split
 ·unfold Nt.step;split<;>rfl
 split
 ·exact Aei _ _ _
 split
 ·exact Aei _ _ _
 ·rfl
theorem Ql.get{t:Nt}(g:Ql t){S:dI}(e:t.s=S){i:Nat}(h:i<S.nodes.toNat): ∃d,t.ds[i]? =some d:=g.at (by rw[g.len,e];exact h)
theorem Ql.root{t:Nt}(g:Ql t){i:Nat}{d:Nd}(h:t.ds[i]? =some d):d.e.root≤(i:Int):=by
 have:=(g.nd i d h).1.i.root.2
 rwa [g.me h] at this
end Go.Proofs.YticgocmhmffneaaGreatDoor
