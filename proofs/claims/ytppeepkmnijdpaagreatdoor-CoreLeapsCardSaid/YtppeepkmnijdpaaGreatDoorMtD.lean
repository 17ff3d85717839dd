import Derived.Test.YtppeepkmnijdpaaGreatDoorMtC
import Derived.Test.YtppeepkmnijdpaaGreatDoorCrefP
namespace Go.Proofs.YtppeepkmnijdpaaGreatDoor
open Go Go.Eng
set_option linter.unusedSimpArgs false
set_option linter.unusedVariables false
set_option maxRecDepth 100000
set_option maxHeartbeats 8000000
abbrev KTs:List CK:=[KI,KI,KI,KI,KI,KI,KI,KI,KI,KI,.sl]
def tsT(S:zU)(so:Sl):Ky KTs:=(S.nodes,S.tmo,S.ign,S.need,S.drift,S.rnd,S.opn,S.lim,S.jit,S.gate,so,())
end Go.Proofs.YtppeepkmnijdpaaGreatDoor
namespace Go.Proofs.YtppeepkmnijdpaaGreatDoor
open Go Go.Eng
set_option linter.unusedSimpArgs false
set_option linter.unusedVariables false
set_option maxRecDepth 100000
set_option maxHeartbeats 8000000
def s27:zU:=⟨2,1,0,1,0,2,2,1,0,-1,[]⟩
def c27:Ch:=⟨[1000,1000],[0,0],[0,0],[]⟩
def Avo:Nt:=((nt0 s27 none).link 0 1 true).1
def Av8:Nt:=(Avo.act 0 λd=>(d.turn 5,0)).1
def Axp:Nt:=(Av8.act 1 λd=>(d.turn 700,0)).1
def t27:Nat→Nt
 |0=>Axp
 |n+1=>((t27 n).step c27).1
theorem g27:uD s27=true:=by kernel_rfl
theorem Aw9: ∀j,j<3→((t27 j).step c27).2=0
 |0,_=>by kernel_rfl
 |1,_=>by kernel_rfl
 |2,_=>by kernel_rfl
 |j+3,h=>by omega
theorem Axn:((t27 3).at 1).map (λd=>(d.time.1.1,d.time.1.2.2.1,d.time.2))=some (3005,0,0):=by kernel_rfl
structure Liv(w W:World)(Z:NP)(n:Nat)(t:Nt):Prop where
 h:TW W Z n t
 g:Ah w W
 z: ∀z,Z z→w.heap.size≤z
theorem Liv.nx{w W W':World}{Z Z':NP}{n:Nat}{t t':Nt}(l:Liv w W Z n t)(h:TW W' Z' n t')(x:Nx Z W Z' W'):Liv w W' Z' n t':=
 ⟨h,Ap.trans l.g x.u λi hi q=>by have:=l.z i q;omega,λz q=>(x.sub z q).elim (l.z z) λq=>Nat.le_trans l.g.size q⟩
theorem Liv.Ai{w W W':World}{Z:NP}{n:Nat}{t:Nt}(l:Liv w W Z n t)(u:Ah W W'):Liv w W' Z n t:=⟨l.h.Ai u,l.g.trans u,l.z⟩
theorem Liv.n0{w W:World}{Z:NP}{n:Nat}{t:Nt}(l:Liv w W Z n t)(hT:Tb w): ¬Z 0:=λq=>by
 have h0:0<w.heap.size:=cell_lt (hT 0 (by decide))
 have:=l.z 0 q;omega
theorem Ap3(w:World):Row w (none,0,0) 1 (dR []):=⟨rfl,λh=>absurd rfl h⟩
theorem Avt{W:World}{Z:NP}{p q r:Nat}(h1:Ar W p [iV 1000,iV 1000])(h2:Ar W q [iV 0,iV 0])(h3:Ar W r [iV 0,iV 0])(n1: ¬Z p)(n2: ¬Z q)(n3: ¬Z r):
  ChW W Z c27 (some ⟨p,0,none⟩,2,2) (some ⟨q,0,none⟩,2,2) (some ⟨r,0,none⟩,2,2) (none,0,0):=
 ⟨h1.row rfl,h2.row rfl,h3.row rfl,⟨rfl,λh=>absurd rfl h⟩,(λx hx=>by cases hx),λs hs a ha=>by
  rcases hs with rfl|rfl|rfl|rfl
  ·cases ha;exact⟨h1.lt,n1⟩
  ·cases ha;exact⟨h2.lt,n2⟩
  ·cases ha;exact⟨h3.lt,n3⟩
  ·cases ha⟩
end Go.Proofs.YtppeepkmnijdpaaGreatDoor
namespace Go.Proofs.YtppeepkmnijdpaaGreatDoor
open Go Go.Eng Tryz
open Go.IntKind (wrap)
set_option linter.unusedSimpArgs false
set_option linter.unusedVariables false
set_option maxRecDepth 100000
set_option maxHeartbeats 8000000
theorem Vs.g{S:zU}{so:Sl}{w:World}(hR:Row w so 1 (dR S.own))(ho:S.own.length≤1000000){K:TR [(true,KTs)]→WP}(hk: ∀s w',Row w' s 1 (dR S.own)→Ah w w'→K (tsT S s,()) w'):Ad prog F.Vs [.agg (rO S so).toArray] w false [(true,KTs)] K:=by
 refine Vs.ok (s0:=S.nodes) (s1:=S.tmo) (s2:=S.ign) (s3:=S.need) (s4:=S.drift) (s5:=S.rnd) (s6:=S.opn) (s7:=S.lim) (s8:=S.jit) (s9:=S.gate) (s10:=so) ?_
 refine Ae λp1 w2 e1 k1 u1=>Ae λp3 w4 e3 k3 u3=>?_
 change Ar w2 p1 (rO S so) at k1
 rw[Aq]
 have g5:=(u1.trans u3).trans (Ah.drew w4)
 have q:=(k1.Ai u3).drew
 have k3:=k3.drew
 have ud:=Ah.drew w4
 generalize w4.drew=w5 at*
 refine q.c0 (c:=KI) (x:=S.nodes) rfl (q.c1 1 (c:=KI) (x:=S.tmo) rfl (q.c1 2 (c:=KI) (x:=S.ign) rfl (q.c1 3 (c:=KI) (x:=S.need) rfl (q.c1 4 (c:=KI) (x:=S.drift) rfl (q.c1 5 (c:=KI) (x:=S.rnd) rfl (q.c1 6 (c:=KI) (x:=S.opn) rfl (q.c1 7 (c:=KI) (x:=S.lim) rfl (q.c1 8 (c:=KI) (x:=S.jit) rfl (q.c1 9 (c:=KI) (x:=S.gate) rfl (q.c1 10 (c:=.sl) (x:=so) rfl ?_))))))))))
 have H:=λ{T:NP} {w':World} (u:Ap T w5 w') (hT: ¬T p1) (j:Nat) (hj:j<(rO S so).length)=>q.hold u hT j hj
 have l11:(rO S so).length=11:=rfl
 refine Afj 1 0 rfl (by omega) λp17 w18 e17 o18 u18=>?_
 refine⟨⟨H u18 (λx=>x) 10 (by omega),H u18 (λx=>x) 9 (by omega),H u18 (λx=>x) 8 (by omega),H u18 (λx=>x) 7 (by omega),H u18 (λx=>x) 6 (by omega),H u18 (λx=>x) 5 (by omega),H u18 (λx=>x) 4 (by omega),H u18 (λx=>x) 3 (by omega),H u18 (λx=>x) 2 (by omega),H u18 (λx=>x) 1 (by omega),H u18 (λx=>x) 0 (by omega),trivial⟩,?_⟩
 have lo:=fO hR
 have lp:=q.lt
 have l3:=k3.lt
 refine S9 (s:=(some ⟨p17,0,none⟩,0,0)) (x:=so) (e:=T.int) (size:=1) (news:=dR S.own) (by kernel_rfl) (by kernel_rfl) (by decide) o18 (Row.Ai hR (g5.trans u18)) (Ac3 _) (by omega) (Nat.le_of_lt (o18.blk rfl).2.1) λy w20 o20 u20 b20=>?_
 have U20:Ap (λz=>z=p17) w5 w20:=Ap.trans (Ap.Ed u18) u20 λz hz ⟨a,ha,h⟩=>by cases ha;exact h.symm
 have np: ¬p1=p17:=by omega
 refine⟨⟨H U20 np 9 (by omega),H U20 np 8 (by omega),H U20 np 7 (by omega),H U20 np 6 (by omega),H U20 np 5 (by omega),H U20 np 4 (by omega),H U20 np 3 (by omega),H U20 np 2 (by omega),H U20 np 1 (by omega),H U20 np 0 (by omega),trivial⟩,?_⟩
 refine(k3.upd U20 (by omega)).E5 (rO S y) rfl rfl λw21 k21 u21=>⟨trivial,k21.cA (cs:=KTs) (tsT S y) rfl ?_⟩
 have hy: ∀a,y.1=some a→p17≤a.block:=λa ha=>by
  rcases b20 a ha with ⟨a0,h0,e0⟩|h
  ·cases h0;exact Nat.le_of_eq e0.symm
  ·have:=(o18.blk rfl).2.1;exact Nat.le_of_lt (Nat.lt_of_lt_of_le this h)
 have r20:Row w20 y 1 (dR S.own):=by have:=o20.row;rwa [List.nil_append] at this
 refine hk y w21 (Row.upd r20 u21 λa ha e=>by have:=hy a ha;omega) ?_
 have z1:=u1.size
 have z5:=g5.size
 exact Ap.trans (Ap.trans g5 U20 λz hz e=>by omega) u21 λz hz e=>by omega
theorem V7.g{w:World}(hT:Tb w){K:TR Vl→WP}(hk: ∀w',Ah w w'→K ((true,()),()) w'):Ad prog F.V7 [] w false Vl K:=by
 refine V7.ok ?_
 refine Vs.g (S:=s27) (so:=(none,0,0)) (Ap3 w) (by decide) λs w2 r2 u2=>?_
 refine dF.g (S:=s27) (so:=s) g27 r2 (by decide) λn Z w4 h4 hz u4=>?_
 have L4:Liv w w4 Z n (nt0 s27 none):=⟨h4,u2.trans u4,λz q=>Nat.le_trans u2.size (hz z q)⟩
 refine Rf.t h4 λw6 h6 u6=>?_
 have L6:Liv w w6 Z n Avo:=L4.nx h6 ⟨u6,λz q=>.inl q⟩
 refine Rj.t L6.h (by decide) (by decide) λw8 Z8 h8 x8=>?_
 have L8:Liv w w8 Z8 n Av8:=L6.nx h8 x8
 refine Rj.t L8.h (by decide) (by decide) λw10 Z10 h10 x10=>?_
 have L10:Liv w w10 Z10 n (t27 0):=L8.nx h10 x10
 refine Aw.by (λz W=> ∃j:Nat,j≤3∧z=((j:Int),())∧ ∃Z,Liv w W Z n (t27 j)) (λz=>3-z.1.toNat) ⟨0,by omega,rfl,_,L10⟩ ?_
 rintro z W ⟨j,hj,rfl,Z,L⟩ _
 refine Cf (λc=>?_) λc=>?_
 ·have hjl:j<3:=by have c:(j:Int)<3:=c;omega
  refine Ae λp14 w15 e14 k14 u14=>Ae λp16 w17 e16 k16 u16=>Ae λp18 w19 e18 k18 u18=>?_
  have lt:=L.h.lt
  have s14:=u14.size
  have s16:=u16.size
  have L19:=((L.Ai u14).Ai u16).Ai u18
  refine Q9.g (t:=t27 j) (c:=c27) L19.h (hT.Ai L19.g) (L19.n0 hT) (Avt ((k14.Ai u16).Ai u18) (k16.Ai u18) k18 (λq=>by have:=lt _ q;omega) (λq=>by have:=lt _ q;omega) (λq=>by have:=lt _ q;omega)) λw21 Z21 h21 x21=>?_
  have e0:=Aw9 j hjl
  refine Le (by show(((t27 j).step c27).2 !=0)=false;rw[e0];rfl) ?_
  have nx:wrap .i64 ((j:Int)+1)=((j+1:Nat):Int):=by rw[Af (by unfold I64;omega)];rfl
  exact⟨⟨j+1,by omega,by rw[nx],Z21,L19.nx h21 x21⟩,by rw[nx,Int.toNat_natCast,Int.toNat_natCast];omega⟩
 ·have hjl:j=3:=by have c: ¬(j:Int)<3:=c;omega
  subst hjl
  have tm:=Axn
  refine Qs.t L.h (λe=>by rw[e] at tm;cases tm) λd e w23 u23=>?_
  rw[e] at tm
  have tm:some (d.time.1.1,d.time.1.2.2.1,d.time.2)=some ((3005:Int),(0:Int),(0:Int)):=tm
  injection tm with tm
  simp only[Prod.mk.injEq] at tm
  obtain⟨t1,t2,t3⟩:=tm
  refine Ae λp24 w25 e24 k24 u24=>k24.E5 (encs K5 (dM d.time.1)) rfl rfl λw26 k26 u26=>?_
  have g26:Ah W w26:=Ah.fresh u23 u24 u26 e24
  refine We rfl (We (by show(d.time.2==0)=true;rw[t3];rfl) (k26.c1 2 (c:=KI) (x:=d.time.1.2.2.1) rfl (We (by rw[t2];rfl) (k26.c0 (c:=KI) (x:=d.time.1.1) rfl ?_))))
  have:=hk w26 (L.g.trans g26)
  show K ((d.time.1.1==3005,()),()) w26
  rw[t1];exact this
end Go.Proofs.YtppeepkmnijdpaaGreatDoor
