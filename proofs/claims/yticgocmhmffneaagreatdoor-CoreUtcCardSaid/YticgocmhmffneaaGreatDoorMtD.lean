import Derived.Test.YticgocmhmffneaaGreatDoorMtC
import Derived.Test.YticgocmhmffneaaGreatDoorCrefP
namespace Go.Proofs.YticgocmhmffneaaGreatDoor
open Go Go.Eng Tryz
open Go.IntKind (wrap)
set_option linter.unusedSimpArgs false
set_option linter.unusedVariables false
set_option maxRecDepth 100000
set_option maxHeartbeats 8000000
theorem U3.cl{a b c:Int}{w:World}{k:TR Wh→WP}(h: ∀w',Af w w'→k ((sK a b c,()),()) w'):Ae prog F.U3 [.agg #[iV a,iV b,iV c]] w false Wh k:=by
 refine U3.ok ?_
 unfold U3.wp
 refine Ad λp w4 e k4 u4=>?_
 have no: ¬(1≤a∧a≤64∧1≤b∧b≤a∧0≤c∧c<a)→k ((false,()),()) w4:=λhn=>by have:=h w4 u4;rw[Ah0 hn] at this;exact this
 refine k4.c0 rfl (Dx (λc1=>k4.c0 rfl (Dx (λc2=>k4.c1 1 rfl (Dx (λc3=>k4.c1 1 rfl (k4.c0 rfl (Dx (λc4=>k4.c1 2 rfl (Dx (λc5=>k4.c1 2 rfl (k4.c0 rfl ?_)) λn=>no λq=>n q.2.2.2.2.1)) λn=>no λq=>n q.2.2.2.1))) λn=>no λq=>n q.2.2.1)) λn=>no λq=>n q.2.1)) λn=>no λq=>n q.1)
 have:=h w4 u4
 have e:sK a b c=decide (c<a):=by
  unfold sK
  rw[decide_eq_true (show 1≤a from c1),decide_eq_true (show a≤64 from c2),decide_eq_true (show 1≤b from c3),decide_eq_true (show b≤a from c4),decide_eq_true (show 0≤c from c5)];rfl
 rw[e] at this
 exact this
theorem Jy.cl{s:nS}{w:World}{k:TR [(true,K3i)]→WP}(hk: ∀w',Af w w'→k ((s.rnd,s.opn,s.own,()),()) w'):Ae prog F.Jy [.agg (kD s).toArray] w false [(true,K3i)] k:=by
 refine Jy.ok ?_
 unfold Jy.wp
 refine Ad λp1 w2 e1 k1 u1=>Ad λp3 w4 e3 k3 u3=>?_
 change Az w2 p1 (kD s) at k1
 have q:=k1.Ai u3
 refine q.c1 5 (c:=KI) (x:=s.rnd) rfl (q.c1 6 (c:=KI) (x:=s.opn) rfl (q.c1 7 (c:=KI) (x:=s.own) rfl ?_))
 exact k3.Fg [_,_,_] rfl rfl λw8 k8 u8=>k8.bC (hk w8 (Af.fresh u1 u3 u8 e3))
theorem Ot.cl{s:nS}{w:World}{k:TR Wh→WP}(h: ∀w',Af w w'→k ((Yj s,()),()) w'):Ae prog F.Ot [.agg (kD s).toArray] w false Wh k:=by
 refine Ot.ok ?_
 unfold Ot.wp
 refine Ad λp w2 e2 k2 u2=>?_
 change Az w2 p (kD s) at k2
 have no: ∀w',Af w w'→ ¬(0≤s.me∧s.me<64∧tV s.tmo s.ign s.need s.Aw=true∧sK s.rnd s.opn s.own=true∧1≤s.lim∧s.lim≤s.tmo∧0≤s.jit∧s.jit≤20)→k ((false,()),()) w':=λw' g hn=>by have:=h w' g;rw[Aag hn] at this;exact this
 refine k2.c0 (c:=KI) (x:=s.me) rfl (k2.c1 1 (c:=KI) (x:=s.tmo) rfl (k2.c1 2 (c:=KI) (x:=s.ign) rfl (k2.c1 3 (c:=KI) (x:=s.need) rfl (k2.c1 4 (c:=KI) (x:=s.Aw) rfl (Vq.cl (bM (λc1=>?_) λn=>no w2 u2 λq=>?_))))))
 ·have c1:(decide (0≤s.me)&&decide (s.me<64)&&tV s.tmo s.ign s.need s.Aw)=true:=c1
  simp only[Bool.and_eq_true,decide_eq_true_eq] at c1
  refine k2.cA (cs:=KSt) (stT s) rfl (Jy.cl (s:=s) λw12 u12=>U3.cl λw14 u14=>?_)
  have g14:=(u2.trans u12).trans u14
  have k14:=k2.Ai (u12.trans u14)
  refine bM (λc4=>?_) λn=>no w14 g14 λq=>by have n:sK s.rnd s.opn s.own=false:=n;rw[n] at q;exact absurd q.2.2.2.1 (by decide)
  refine k14.c1 8 (c:=KI) (x:=s.lim) rfl (Dx (λc5=>?_) λn=>no w14 g14 λq=>n q.2.2.2.2.1)
  refine k14.c1 8 (c:=KI) (x:=s.lim) rfl (k14.c1 1 (c:=KI) (x:=s.tmo) rfl (Dx (λc6=>?_) λn=>no w14 g14 λq=>n q.2.2.2.2.2.1))
  refine k14.c1 9 (c:=KI) (x:=s.jit) rfl (Dx (λc7=>?_) λn=>no w14 g14 λq=>n q.2.2.2.2.2.2.1)
  refine k14.c1 9 (c:=KI) (x:=s.jit) rfl ?_
  have:=h w14 g14
  have e:Yj s=decide (s.jit≤20):=by
   unfold Yj
   rw[decide_eq_true c1.1.1,decide_eq_true c1.1.2,c1.2,show sK s.rnd s.opn s.own=true from c4,decide_eq_true (show 1≤s.lim from c5),decide_eq_true (show s.lim≤s.tmo from c6),decide_eq_true (show 0≤s.jit from c7)];rfl
  rw[e] at this
  exact this
 ·have n:(decide (0≤s.me)&&decide (s.me<64)&&tV s.tmo s.ign s.need s.Aw)=false:=n
  rw[decide_eq_true q.1,decide_eq_true q.2.1,q.2.2.1] at n
  cases n
abbrev KTs:List CK:=[KI,KI,KI,KI,KI,KI,KI,KI,KI,KI,.sl]
def tsT(S:dI)(so:Sl):Jf KTs:=(S.nodes,S.tmo,S.ign,S.need,S.Aw,S.rnd,S.opn,S.lim,S.jit,S.gate,so,())
theorem law27_setup.g{S:dI}{so:Sl}{w:World}(hR:Row w so 1 (Na S.own))(ho:S.own.length≤1000000){K:TR [(true,KTs)]→WP}(hk: ∀s w',Row w' s 1 (Na S.own)→Af w w'→K (tsT S s,()) w'):Ae prog F.law27_setup [.agg (Q4 S so).toArray] w false [(true,KTs)] K:=by
 refine law27_setup.ok (s0:=S.nodes) (s1:=S.tmo) (s2:=S.ign) (s3:=S.need) (s4:=S.Aw) (s5:=S.rnd) (s6:=S.opn) (s7:=S.lim) (s8:=S.jit) (s9:=S.gate) (s10:=so) ?_
 unfold law27_setup.wp
 refine Ad λp1 w2 e1 k1 u1=>Ad λp3 w4 e3 k3 u3=>?_
 change Az w2 p1 (Q4 S so) at k1
 rw[Be]
 have g5:=(u1.trans u3).trans (Af.drew w4)
 have q:=(k1.Ai u3).drew
 have k3:=k3.drew
 have ud:=Af.drew w4
 generalize w4.drew=w5 at*
 refine q.c0 (c:=KI) (x:=S.nodes) rfl (q.c1 1 (c:=KI) (x:=S.tmo) rfl (q.c1 2 (c:=KI) (x:=S.ign) rfl (q.c1 3 (c:=KI) (x:=S.need) rfl (q.c1 4 (c:=KI) (x:=S.Aw) rfl (q.c1 5 (c:=KI) (x:=S.rnd) rfl (q.c1 6 (c:=KI) (x:=S.opn) rfl (q.c1 7 (c:=KI) (x:=S.lim) rfl (q.c1 8 (c:=KI) (x:=S.jit) rfl (q.c1 9 (c:=KI) (x:=S.gate) rfl (q.c1 10 (c:=.sl) (x:=so) rfl ?_))))))))))
 have H:=λ{T:NP} {w':World} (u:Am T w5 w') (hT: ¬T p1) (j:Nat) (hj:j<(Q4 S so).length)=>q.hold u hT j hj
 have l11:(Q4 S so).length=11:=rfl
 refine Zv 1 0 rfl (by omega) λp17 w18 e17 o18 u18=>?_
 refine⟨⟨H u18 (λx=>x) 10 (by omega),H u18 (λx=>x) 9 (by omega),H u18 (λx=>x) 8 (by omega),H u18 (λx=>x) 7 (by omega),H u18 (λx=>x) 6 (by omega),H u18 (λx=>x) 5 (by omega),H u18 (λx=>x) 4 (by omega),H u18 (λx=>x) 3 (by omega),H u18 (λx=>x) 2 (by omega),H u18 (λx=>x) 1 (by omega),H u18 (λx=>x) 0 (by omega),trivial⟩,?_⟩
 have lo:=Me hR
 have lp:=q.lt
 have l3:=k3.lt
 refine Vx (s:=(some ⟨p17,0,none⟩,0,0)) (x:=so) (e:=T.int) (size:=1) (news:=Na S.own) (by kernel_rfl) (by kernel_rfl) (by decide) o18 (Row.Ai hR (g5.trans u18)) (Tj _) (by omega) (Nat.le_of_lt (o18.blk rfl).2.1) λy w20 o20 u20 b20=>?_
 have U20:Am (λz=>z=p17) w5 w20:=Am.trans (Am.Bj u18) u20 λz hz ⟨a,ha,h⟩=>by cases ha;exact h.symm
 have np: ¬p1=p17:=by omega
 refine⟨⟨H U20 np 9 (by omega),H U20 np 8 (by omega),H U20 np 7 (by omega),H U20 np 6 (by omega),H U20 np 5 (by omega),H U20 np 4 (by omega),H U20 np 3 (by omega),H U20 np 2 (by omega),H U20 np 1 (by omega),H U20 np 0 (by omega),trivial⟩,?_⟩
 refine(k3.upd U20 (by omega)).Fg (Q4 S y) rfl rfl λw21 k21 u21=>⟨trivial,k21.cA (cs:=KTs) (tsT S y) rfl ?_⟩
 have hy: ∀a,y.1=some a→p17≤a.block:=λa ha=>by
  rcases b20 a ha with ⟨a0,h0,e0⟩|h
  ·cases h0;exact Nat.le_of_eq e0.symm
  ·have:=(o18.blk rfl).2.1;exact Nat.le_of_lt (Nat.lt_of_lt_of_le this h)
 have r20:Row w20 y 1 (Na S.own):=by have:=o20.row;rwa [List.nil_append] at this
 refine hk y w21 (Row.upd r20 u21 λa ha e=>by have:=hy a ha;omega) ?_
 have z1:=u1.size
 have z5:=g5.size
 exact Am.trans (Am.trans g5 U20 λz hz e=>by omega) u21 λz hz e=>by omega
theorem Oy.q{S:dI}{so:Sl}{i:Nat}{w:World}(hR:Row w so 1 (Na S.own)){K:TR [(true,KSt)]→WP}(hk: ∀w',Af w w'→K (stT (ndS S i),()) w'):Ae prog F.Oy [.agg (Q4 S so).toArray,iV (i:Int)] w false [(true,KSt)] K:=by
 refine Oy.ok (s0:=S.nodes) (s1:=S.tmo) (s2:=S.ign) (s3:=S.need) (s4:=S.Aw) (s5:=S.rnd) (s6:=S.opn) (s7:=S.lim) (s8:=S.jit) (s9:=S.gate) (s10:=so) (i:=(i:Int)) ?_
 unfold Oy.wp
 have hl:=Me hR
 refine Ad λp1 w2 e1 k1 u1=>Ad λp3 w4 e3 k3 u3=>?_
 change Az w2 p1 (Q4 S so) at k1
 have q:=k1.Ai u3
 have hR:=Row.Ai hR (u1.trans u3)
 have em: ∀c:S.rnd>0,Int.tmod (i:Int) (if 1>S.rnd then 1 else S.rnd)=Int.tmod (i:Int) S.rnd:=λc=>by rw[if_neg (by omega)]
 have e0: ∀c: ¬S.rnd>0,Int.tmod (i:Int) (if 1>S.rnd then 1 else S.rnd)=0:=λc=>by rw[if_pos (by omega),Int.tmod_one]
 refine Cc.by (λz W=>z=(Int.tmod (i:Int) (if 1>S.rnd then 1 else S.rnd),())∧W=w4) ?_ ?_
 ·refine q.c1 5 (c:=KI) (x:=S.rnd) rfl (Dx (λc=>q.c1 5 (c:=KI) (x:=S.rnd) rfl ?_) λc=>⟨by rw[e0 c],rfl⟩)
  have c:S.rnd>0:=c
  rw[Pg (by omega)]
  exact⟨by rw[em c],rfl⟩
 rintro z W ⟨rfl,rfl⟩ _
 refine Cc.by (λz W'=>z=(Ai6 S i,())∧W'=W) ?_ ?_
 ·refine q.c1 10 (c:=.sl) (x:=so) rfl (Dx (λc=>?_) λc=>?_)
  ·have c:(i:Int)<(so.2.1:Int):=c
   have hv:=Aoj (S:=S) (i:=i) (by omega)
   refine q.c1 10 (c:=.sl) (x:=so) rfl (Row.ix hR (z:=(i:Int)) rfl hv ⟨rfl,rfl⟩)
  ·have c: ¬(i:Int)<(so.2.1:Int):=c
   have hv:=Aps (S:=S) (i:=i) (by omega)
   exact⟨by rw[hv],rfl⟩
 rintro z W' ⟨rfl,rfl⟩ _
 refine q.c1 1 (c:=KI) (x:=S.tmo) rfl (q.c1 2 (c:=KI) (x:=S.ign) rfl (q.c1 3 (c:=KI) (x:=S.need) rfl (q.c1 4 (c:=KI) (x:=S.Aw) rfl (q.c1 5 (c:=KI) (x:=S.rnd) rfl (q.c1 6 (c:=KI) (x:=S.opn) rfl (q.c1 7 (c:=KI) (x:=S.lim) rfl (q.c1 8 (c:=KI) (x:=S.jit) rfl (q.c1 9 (c:=KI) (x:=S.gate) rfl ?_))))))))
 refine k3.Fg (kD (ndS S i)) rfl rfl λw5 k5 u5=>k5.cA (cs:=KSt) (stT (ndS S i)) rfl (hk w5 (Af.fresh u1 u3 u5 e3))
theorem Ff.g{S:dI}{so:Sl}{w:World}(hR:Row w so 1 (Na S.own)){K:TR Wh→WP}(hk: ∀w',Af w w'→K ((Wq S,()),()) w'):Ae prog F.Ff [.agg (Q4 S so).toArray] w false Wh K:=by
 refine Ff.ok (s0:=S.nodes) (s1:=S.tmo) (s2:=S.ign) (s3:=S.need) (s4:=S.Aw) (s5:=S.rnd) (s6:=S.opn) (s7:=S.lim) (s8:=S.jit) (s9:=S.gate) (s10:=so) ?_
 unfold Ff.wp
 refine Ad λp1 w2 e1 k1 u1=>?_
 change Az w2 p1 (Q4 S so) at k1
 have no: ¬((1≤S.nodes∧S.nodes≤64)∧ ∀i,(i:Nat)<S.nodes.toNat→Yj (ndS S i)=true)→ ∀w',Af w w'→K ((false,()),()) w':=λhn w' g=>by
  have:=hk w' g
  have e:Wq S=false:=by
   cases h:Wq S with
   |false=>rfl
   |true=>exact absurd (Tm.1 h) hn
  rw[e] at this;exact this
 refine k1.c0 (c:=KI) (x:=S.nodes) rfl (Dx (λc=>no (λh=>by have c:S.nodes<1:=c;omega) w2 u1) λc=>k1.c0 (c:=KI) (x:=S.nodes) rfl (Dx (λc'=>no (λh=>by have c':S.nodes>64:=c';omega) w2 u1) λc'=>?_))
 have c: ¬S.nodes<1:=c
 have c': ¬S.nodes>64:=c'
 refine Ci.by (λz W=>Af w2 W∧ ∃i:Nat,i≤S.nodes.toNat∧z=((i:Int),())∧ ∀j,j<i→Yj (ndS S j)=true) (λz=>S.nodes.toNat-z.1.toNat) ⟨Af.refl _,0,by omega,rfl,λj hj=>by omega⟩ ?_
 rintro z W ⟨gW,i,hi,rfl,ha⟩ _
 have kW:=k1.Ai gW
 have G:=u1.trans gW
 refine kW.c0 (c:=KI) (x:=S.nodes) rfl (Dx (λc5=>?_) λc5=>?_)
 ·have hil:i<S.nodes.toNat:=by have c5:(i:Int)<S.nodes:=c5;omega
  have nx:wrap .i64 ((i:Int)+1)=((i+1:Nat):Int):=by rw[Ah (by unfold I64;omega)];rfl
  refine kW.cA (cs:=KTs) (tsT S so) rfl (Oy.q (S:=S) (so:=so) (i:=i) (Row.Ai hR G) λw11 u11=>Ot.cl (s:=ndS S i) λw13 u13=>Ee (λc6=>no (λh=>by have c6:Yj (ndS S i)=false:=c6;rw[h.2 i hil] at c6;cases c6) w13 ((G.trans u11).trans u13)) λc6=>?_)
  have c6:Yj (ndS S i)=true:=c6
  refine⟨⟨(gW.trans u11).trans u13,i+1,by omega,by rw[nx],λj hj=>?_⟩,by rw[nx,Int.toNat_natCast,Int.toNat_natCast];omega⟩
  by_cases e:j=i
  ·subst e;exact c6
  ·exact ha j (by omega)
 ·have hil:i=S.nodes.toNat:=by have c5: ¬(i:Int)<S.nodes:=c5;omega
  have:=hk W G
  rw[Tm.2 ⟨by omega,λj hj=>ha j (by omega)⟩] at this
  exact this
end Go.Proofs.YticgocmhmffneaaGreatDoor
namespace Go.Proofs.YticgocmhmffneaaGreatDoor
open Go Go.Eng Tryz
open Go.IntKind (wrap)
set_option linter.unusedSimpArgs false
set_option linter.unusedVariables false
set_option maxRecDepth 100000
set_option maxHeartbeats 8000000
def s27:dI:=⟨2,1,0,1,0,2,2,1,0,-1,[]⟩
def c27:Ch:=⟨[1000,1000],[0,0],[0,0],[]⟩
def Aqr:Nt:=((wB s27 none).link 0 1 true).1
def Apy:Nt:=(Aqr.act 0 λd=>(d.turn 5,0)).1
def Ax9:Nt:=(Apy.act 1 λd=>(d.turn 700,0)).1
def t27:Nat→Nt
 |0=>Ax9
 |n+1=>((t27 n).step c27).1
theorem g27:Wq s27=true:=by kernel_rfl
theorem l27:((wB s27 none).link 0 1 true).2=0∧(Aqr.act 0 λd=>(d.turn 5,0)).2=0∧(Apy.act 1 λd=>(d.turn 700,0)).2=0:=⟨by kernel_rfl,by kernel_rfl,by kernel_rfl⟩
theorem Awn: ∀j,j<3→((t27 j).step c27).2=0
 |0,_=>by kernel_rfl
 |1,_=>by kernel_rfl
 |2,_=>by kernel_rfl
 |j+3,h=>by omega
theorem Avq:((t27 3).at 1).map (λd=>(d.time.1.1,d.time.1.2.2.1,d.time.2))=some (3005,0,0):=by kernel_rfl
theorem Ayo:(t27 3).steps=3:=by kernel_rfl
structure dW(w W:World)(Z:NP)(n:Nat)(t:Nt):Prop where
 h:TW W Z n t
 g:Af w W
 z: ∀z,Z z→w.heap.size≤z
theorem dW.nx{w W W':World}{Z Z':NP}{n:Nat}{t t':Nt}(l:dW w W Z n t)(h:TW W' Z' n t')(x:Nx Z W Z' W'):dW w W' Z' n t':=
 ⟨h,Am.trans l.g x.u λi hi q=>by have:=l.z i q;omega,λz q=>(x.sub z q).elim (l.z z) λq=>Nat.le_trans l.g.size q⟩
theorem dW.Ai{w W W':World}{Z:NP}{n:Nat}{t:Nt}(l:dW w W Z n t)(u:Af W W'):dW w W' Z n t:=⟨l.h.Ai u,l.g.trans u,l.z⟩
theorem dW.n0{w W:World}{Z:NP}{n:Nat}{t:Nt}(l:dW w W Z n t)(hT:Tb w): ¬Z 0:=λq=>by
 have h0:0<w.heap.size:=cell_lt (hT 0 (by decide))
 have:=l.z 0 q;omega
theorem Ak5(w:World):Row w (none,0,0) 1 (Na []):=⟨rfl,λh=>absurd rfl h⟩
theorem Atb{W:World}{Z:NP}{p q r:Nat}(h1:Az W p [iV 1000,iV 1000])(h2:Az W q [iV 0,iV 0])(h3:Az W r [iV 0,iV 0])(n1: ¬Z p)(n2: ¬Z q)(n3: ¬Z r):
  ChW W Z c27 (some ⟨p,0,none⟩,2,2) (some ⟨q,0,none⟩,2,2) (some ⟨r,0,none⟩,2,2) (none,0,0):=
 ⟨h1.row rfl,h2.row rfl,h3.row rfl,⟨rfl,λh=>absurd rfl h⟩,(λx hx=>by cases hx),λs hs a ha=>by
  rcases hs with rfl|rfl|rfl|rfl
  ·cases ha;exact⟨h1.lt,n1⟩
  ·cases ha;exact⟨h2.lt,n2⟩
  ·cases ha;exact⟨h3.lt,n3⟩
  ·cases ha⟩
theorem law27_alive.g{w:World}(hT:Tb w){K:TR Wh→WP}(hk: ∀w',Af w w'→K ((true,()),()) w'):Ae prog F.law27_alive [] w false Wh K:=by
 refine law27_alive.ok ?_
 unfold law27_alive.wp
 refine law27_setup.g (S:=s27) (so:=(none,0,0)) (Ak5 w) (by decide) λs w2 r2 u2=>?_
 refine Io.g (S:=s27) (so:=s) g27 r2 (by decide) λn Z w4 h4 hz u4=>?_
 have L4:dW w w4 Z n (wB s27 none):=⟨h4,u2.trans u4,λz q=>Nat.le_trans u2.size (hz z q)⟩
 refine Cf.t h4 λw6 h6 u6=>?_
 have L6:dW w w6 Z n Aqr:=L4.nx h6 ⟨u6,λz q=>.inl q⟩
 refine D7.t L6.h (by decide) (by decide) λw8 Z8 h8 x8=>?_
 have L8:dW w w8 Z8 n Apy:=L6.nx h8 x8
 refine D7.t L8.h (by decide) (by decide) λw10 Z10 h10 x10=>?_
 have L10:dW w w10 Z10 n (t27 0):=L8.nx h10 x10
 refine Ci.by (λz W=> ∃j:Nat,j≤3∧z=((j:Int),())∧ ∃Z,dW w W Z n (t27 j)) (λz=>3-z.1.toNat) ⟨0,by omega,rfl,_,L10⟩ ?_
 rintro z W ⟨j,hj,rfl,Z,L⟩ _
 refine Dx (λc=>?_) λc=>?_
 ·have hjl:j<3:=by have c:(j:Int)<3:=c;omega
  refine Ad λp14 w15 e14 k14 u14=>Ad λp16 w17 e16 k16 u16=>Ad λp18 w19 e18 k18 u18=>?_
  have lt:=L.h.lt
  have s14:=u14.size
  have s16:=u16.size
  have L19:=((L.Ai u14).Ai u16).Ai u18
  refine Ce.g (t:=t27 j) (c:=c27) L19.h (hT.Ai L19.g) (L19.n0 hT) (Atb ((k14.Ai u16).Ai u18) (k16.Ai u18) k18 (λq=>by have:=lt _ q;omega) (λq=>by have:=lt _ q;omega) (λq=>by have:=lt _ q;omega)) λw21 Z21 h21 x21=>?_
  have e0:=Awn j hjl
  refine Jl (by show(((t27 j).step c27).2 !=0)=false;rw[e0];rfl) ?_
  have nx:wrap .i64 ((j:Int)+1)=((j+1:Nat):Int):=by rw[Ah (by unfold I64;omega)];rfl
  exact⟨⟨j+1,by omega,by rw[nx],Z21,L19.nx h21 x21⟩,by rw[nx,Int.toNat_natCast,Int.toNat_natCast];omega⟩
 ·have hjl:j=3:=by have c: ¬(j:Int)<3:=c;omega
  subst hjl
  have tm:=Avq
  refine Dq.t L.h (λe=>by rw[e] at tm;cases tm) λd e w23 u23=>?_
  rw[e] at tm
  have tm:some (d.time.1.1,d.time.1.2.2.1,d.time.2)=some ((3005:Int),(0:Int),(0:Int)):=tm
  injection tm with tm
  simp only[Prod.mk.injEq] at tm
  obtain⟨t1,t2,t3⟩:=tm
  refine Ad λp24 w25 e24 k24 u24=>k24.Fg (encs K5 (Yc d.time.1)) rfl rfl λw26 k26 u26=>?_
  have g26:Af W w26:=Af.fresh u23 u24 u26 e24
  refine Vt rfl (Vt (by show(((wB s27 none).link 0 1 true).2==0)=true;rw[l27.1];rfl) (Vt (by show((Aqr.act 0 λd=>(d.turn 5,0)).2==0)=true;rw[l27.2.1];rfl) (Vt (by show((Apy.act 1 λd=>(d.turn 700,0)).2==0)=true;rw[l27.2.2];rfl) (Vt (by show(d.time.2==0)=true;rw[t3];rfl) ?_))))
  refine k26.c1 2 (c:=KI) (x:=d.time.1.2.2.1) rfl (Vt (by rw[t2];rfl) (k26.c0 (c:=KI) (x:=d.time.1.1) rfl (Vt (by rw[t1];rfl) (Bq.t (L.h.Ai g26) ?_))))
  have:=hk w26 (L.g.trans g26)
  show K (((t27 3).steps==3,()),()) w26
  rw[Ayo];exact this
end Go.Proofs.YticgocmhmffneaaGreatDoor
