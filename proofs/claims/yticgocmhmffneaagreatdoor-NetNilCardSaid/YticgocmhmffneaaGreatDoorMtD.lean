import Derived.Test.YticgocmhmffneaaGreatDoorMtC
import Derived.Test.YticgocmhmffneaaGreatDoorCrefP
namespace Go.Proofs.YticgocmhmffneaaGreatDoor
open Go Go.Eng Tryz
open Go.IntKind (wrap)
set_option linter.unusedSimpArgs false
set_option linter.unusedVariables false
set_option maxRecDepth 100000
set_option maxHeartbeats 8000000
theorem U3.cl{a b c:Int}{w:World}{k:TR Wh→WP}(h: ∀w',Af w w'→k ((sK a b c,()),()) w'):Ae prog F.U3 [.agg #[iV a,iV b,iV c]] w false Wh k:=by
  refine U3.ok ?_
  unfold U3.wp
  refine Ad fun p w4 e k4 u4=>?_
  have no: ¬(1≤a∧a≤64∧1≤b∧b≤a∧0≤c∧c<a)→k ((false,()),()) w4:=fun hn=>by have:=h w4 u4;rw[Ah0 hn] at this;exact this
  refine k4.c0 rfl (Dx (fun c1=>k4.c0 rfl (Dx (fun c2=>k4.c1 1 rfl (Dx (fun c3=>k4.c1 1 rfl (k4.c0 rfl (Dx (fun c4=>k4.c1 2 rfl (Dx (fun c5=>k4.c1 2 rfl (k4.c0 rfl ?_)) fun n=>no fun q=>n q.2.2.2.2.1)) fun n=>no fun q=>n q.2.2.2.1))) fun n=>no fun q=>n q.2.2.1)) fun n=>no fun q=>n q.2.1)) fun n=>no fun q=>n q.1)
  have:=h w4 u4
  have e:sK a b c=decide (c<a):=by
    unfold sK
    rw[decide_eq_true (show 1≤a from c1),decide_eq_true (show a≤64 from c2),decide_eq_true (show 1≤b from c3),decide_eq_true (show b≤a from c4),decide_eq_true (show 0≤c from c5)];rfl
  rw[e] at this
  exact this
theorem Jy.cl{s:nS}{w:World}{k:TR [(true,U0)]→WP}(hk: ∀w',Af w w'→k ((s.rnd,s.opn,s.own,()),()) w'):Ae prog F.Jy [.agg (kD s).toArray] w false [(true,U0)] k:=by
  refine Jy.ok ?_
  unfold Jy.wp
  refine Ad fun p1 w2 e1 k1 u1=>Ad fun p3 w4 e3 k3 u3=>?_
  change Az w2 p1 (kD s) at k1
  have q:=k1.Ai u3
  refine q.c1 5 (c:=KI) (x:=s.rnd) rfl (q.c1 6 (c:=KI) (x:=s.opn) rfl (q.c1 7 (c:=KI) (x:=s.own) rfl ?_))
  exact k3.Fg [_,_,_] rfl rfl fun w8 k8 u8=>k8.bC (hk w8 (Af.fresh u1 u3 u8 e3))
theorem C8.cl{s:nS}{w:World}{k:TR Wh→WP}(h: ∀w',Af w w'→k ((Yj s,()),()) w'):Ae prog F.C8 [.agg (kD s).toArray] w false Wh k:=by
  refine C8.ok ?_
  unfold C8.wp
  refine Ad fun p w2 e2 k2 u2=>?_
  change Az w2 p (kD s) at k2
  have no: ∀w',Af w w'→ ¬(0≤s.me∧s.me<64∧tV s.tmo s.ign s.need s.drift=true∧sK s.rnd s.opn s.own=true∧1≤s.lim∧s.lim≤s.tmo∧0≤s.jit∧s.jit≤20)→k ((false,()),()) w':=fun w' g hn=>by have:=h w' g;rw[Aag hn] at this;exact this
  refine k2.c0 (c:=KI) (x:=s.me) rfl (k2.c1 1 (c:=KI) (x:=s.tmo) rfl (k2.c1 2 (c:=KI) (x:=s.ign) rfl (k2.c1 3 (c:=KI) (x:=s.need) rfl (k2.c1 4 (c:=KI) (x:=s.drift) rfl (Vq.cl (bM (fun c1=>?_) fun n=>no w2 u2 fun q=>?_))))))
  · have c1:(decide (0≤s.me)&&decide (s.me<64)&&tV s.tmo s.ign s.need s.drift)=true:=c1
    simp only[Bool.and_eq_true,decide_eq_true_eq] at c1
    refine k2.cA (cs:=Uq) (Wq s) rfl (Jy.cl (s:=s) fun w12 u12=>U3.cl fun w14 u14=>?_)
    have g14:=(u2.trans u12).trans u14
    have k14:=k2.Ai (u12.trans u14)
    refine bM (fun c4=>?_) fun n=>no w14 g14 fun q=>by have n:sK s.rnd s.opn s.own=false:=n;rw[n] at q;exact absurd q.2.2.2.1 (by decide)
    refine k14.c1 8 (c:=KI) (x:=s.lim) rfl (Dx (fun c5=>?_) fun n=>no w14 g14 fun q=>n q.2.2.2.2.1)
    refine k14.c1 8 (c:=KI) (x:=s.lim) rfl (k14.c1 1 (c:=KI) (x:=s.tmo) rfl (Dx (fun c6=>?_) fun n=>no w14 g14 fun q=>n q.2.2.2.2.2.1))
    refine k14.c1 9 (c:=KI) (x:=s.jit) rfl (Dx (fun c7=>?_) fun n=>no w14 g14 fun q=>n q.2.2.2.2.2.2.1)
    refine k14.c1 9 (c:=KI) (x:=s.jit) rfl ?_
    have:=h w14 g14
    have e:Yj s=decide (s.jit≤20):=by
      unfold Yj
      rw[decide_eq_true c1.1.1,decide_eq_true c1.1.2,c1.2,show sK s.rnd s.opn s.own=true from c4,decide_eq_true (show 1≤s.lim from c5),decide_eq_true (show s.lim≤s.tmo from c6),decide_eq_true (show 0≤s.jit from c7)];rfl
    rw[e] at this
    exact this
  · have n:(decide (0≤s.me)&&decide (s.me<64)&&tV s.tmo s.ign s.need s.drift)=false:=n
    rw[decide_eq_true q.1,decide_eq_true q.2.1,q.2.2.1] at n
    cases n
abbrev pM:List CK:=[KI,KI,KI,KI,KI,KI,KI,KI,KI,KI,.sl]
def uB(S:Lf)(so:Sl):Jf pM:=(S.nodes,S.tmo,S.ign,S.need,S.drift,S.rnd,S.opn,S.lim,S.jit,S.gate,so,())
theorem law27_setup.g{S:Lf}{so:Sl}{w:World}(hR:Row w so 1 (Gc S.own))(ho:S.own.length≤1000000){K:TR [(true,pM)]→WP}(hk: ∀s w',Row w' s 1 (Gc S.own)→Af w w'→K (uB S s,()) w'):Ae prog F.law27_setup [.agg (Ii S so).toArray] w false [(true,pM)] K:=by
  refine law27_setup.ok (s0:=S.nodes) (s1:=S.tmo) (s2:=S.ign) (s3:=S.need) (s4:=S.drift) (s5:=S.rnd) (s6:=S.opn) (s7:=S.lim) (s8:=S.jit) (s9:=S.gate) (s10:=so) ?_
  unfold law27_setup.wp
  refine Ad fun p1 w2 e1 k1 u1=>Ad fun p3 w4 e3 k3 u3=>?_
  change Az w2 p1 (Ii S so) at k1
  rw[Ap]
  have g5:=(u1.trans u3).trans (Af.drew w4)
  have q:=(k1.Ai u3).drew
  have k3:=k3.drew
  have ud:=Af.drew w4
  generalize w4.drew=w5 at*
  refine q.c0 (c:=KI) (x:=S.nodes) rfl (q.c1 1 (c:=KI) (x:=S.tmo) rfl (q.c1 2 (c:=KI) (x:=S.ign) rfl (q.c1 3 (c:=KI) (x:=S.need) rfl (q.c1 4 (c:=KI) (x:=S.drift) rfl (q.c1 5 (c:=KI) (x:=S.rnd) rfl (q.c1 6 (c:=KI) (x:=S.opn) rfl (q.c1 7 (c:=KI) (x:=S.lim) rfl (q.c1 8 (c:=KI) (x:=S.jit) rfl (q.c1 9 (c:=KI) (x:=S.gate) rfl (q.c1 10 (c:=.sl) (x:=so) rfl ?_))))))))))
  have H:=fun{T:NP} {w':World} (u:Am T w5 w') (hT: ¬T p1) (j:Nat) (hj:j<(Ii S so).length)=>q.hold u hT j hj
  have l11:(Ii S so).length=11:=rfl
  refine Zv 1 0 rfl (by omega) fun p17 w18 e17 o18 u18=>?_
  refine⟨⟨H u18 (fun x=>x) 10 (by omega),H u18 (fun x=>x) 9 (by omega),H u18 (fun x=>x) 8 (by omega),H u18 (fun x=>x) 7 (by omega),H u18 (fun x=>x) 6 (by omega),H u18 (fun x=>x) 5 (by omega),H u18 (fun x=>x) 4 (by omega),H u18 (fun x=>x) 3 (by omega),H u18 (fun x=>x) 2 (by omega),H u18 (fun x=>x) 1 (by omega),H u18 (fun x=>x) 0 (by omega),trivial⟩,?_⟩
  have lo:=Ga hR
  have lp:=q.lt
  have l3:=k3.lt
  refine Vx (s:=(some ⟨p17,0,none⟩,0,0)) (x:=so) (e:=T.int) (size:=1) (news:=Gc S.own) (by kernel_rfl) (by kernel_rfl) (by decide) o18 (Row.Ai hR (g5.trans u18)) (Mx _) (by omega) (Nat.le_of_lt (o18.blk rfl).2.1) fun y w20 o20 u20 b20=>?_
  have U20:Am (fun z=>z=p17) w5 w20:=Am.trans (Am.Bj u18) u20 fun z hz ⟨a,ha,h⟩=>by cases ha;exact h.symm
  have np: ¬p1=p17:=by omega
  refine⟨⟨H U20 np 9 (by omega),H U20 np 8 (by omega),H U20 np 7 (by omega),H U20 np 6 (by omega),H U20 np 5 (by omega),H U20 np 4 (by omega),H U20 np 3 (by omega),H U20 np 2 (by omega),H U20 np 1 (by omega),H U20 np 0 (by omega),trivial⟩,?_⟩
  refine(k3.upd U20 (by omega)).Fg (Ii S y) rfl rfl fun w21 k21 u21=>⟨trivial,k21.cA (cs:=pM) (uB S y) rfl ?_⟩
  have hy: ∀a,y.1=some a→p17≤a.block:=fun a ha=>by
    rcases b20 a ha with ⟨a0,h0,e0⟩|h
    · cases h0;exact Nat.le_of_eq e0.symm
    · have:=(o18.blk rfl).2.1;exact Nat.le_of_lt (Nat.lt_of_lt_of_le this h)
  have r20:Row w20 y 1 (Gc S.own):=by have:=o20.row;rwa [List.nil_append] at this
  refine hk y w21 (Row.upd r20 u21 fun a ha e=>by have:=hy a ha;omega) ?_
  have z1:=u1.size
  have z5:=g5.size
  exact Am.trans (Am.trans g5 U20 fun z hz e=>by omega) u21 fun z hz e=>by omega
theorem Dq.q{S:Lf}{so:Sl}{i:Nat}{w:World}(hR:Row w so 1 (Gc S.own)){K:TR [(true,Uq)]→WP}(hk: ∀w',Af w w'→K (Wq (Mg S i),()) w'):Ae prog F.Dq [.agg (Ii S so).toArray,iV (i:Int)] w false [(true,Uq)] K:=by
  refine Dq.ok (s0:=S.nodes) (s1:=S.tmo) (s2:=S.ign) (s3:=S.need) (s4:=S.drift) (s5:=S.rnd) (s6:=S.opn) (s7:=S.lim) (s8:=S.jit) (s9:=S.gate) (s10:=so) (i:=(i:Int)) ?_
  unfold Dq.wp
  have hl:=Ga hR
  refine Ad fun p1 w2 e1 k1 u1=>Ad fun p3 w4 e3 k3 u3=>?_
  change Az w2 p1 (Ii S so) at k1
  have q:=k1.Ai u3
  have hR:=Row.Ai hR (u1.trans u3)
  have em: ∀c:S.rnd>0,Int.tmod (i:Int) (if 1>S.rnd then 1 else S.rnd)=Int.tmod (i:Int) S.rnd:=fun c=>by rw[if_neg (by omega)]
  have e0: ∀c: ¬S.rnd>0,Int.tmod (i:Int) (if 1>S.rnd then 1 else S.rnd)=0:=fun c=>by rw[if_pos (by omega),Int.tmod_one]
  refine Cc.by (fun z W=>z=(Int.tmod (i:Int) (if 1>S.rnd then 1 else S.rnd),())∧W=w4) ?_ ?_
  · refine q.c1 5 (c:=KI) (x:=S.rnd) rfl (Dx (fun c=>q.c1 5 (c:=KI) (x:=S.rnd) rfl ?_) fun c=>⟨by rw[e0 c],rfl⟩)
    have c:S.rnd>0:=c
    rw[Pg (by omega)]
    exact⟨by rw[em c],rfl⟩
  rintro z W ⟨rfl,rfl⟩ _
  refine Cc.by (fun z W'=>z=(Ni S i,())∧W'=W) ?_ ?_
  · refine q.c1 10 (c:=.sl) (x:=so) rfl (Dx (fun c=>?_) fun c=>?_)
    · have c:(i:Int)<(so.2.1:Int):=c
      have hv:=Tg (S:=S) (i:=i) (by omega)
      refine q.c1 10 (c:=.sl) (x:=so) rfl (Row.ix hR (z:=(i:Int)) rfl hv ⟨rfl,rfl⟩)
    · have c: ¬(i:Int)<(so.2.1:Int):=c
      have hv:=Sq (S:=S) (i:=i) (by omega)
      exact⟨by rw[hv],rfl⟩
  rintro z W' ⟨rfl,rfl⟩ _
  refine q.c1 1 (c:=KI) (x:=S.tmo) rfl (q.c1 2 (c:=KI) (x:=S.ign) rfl (q.c1 3 (c:=KI) (x:=S.need) rfl (q.c1 4 (c:=KI) (x:=S.drift) rfl (q.c1 5 (c:=KI) (x:=S.rnd) rfl (q.c1 6 (c:=KI) (x:=S.opn) rfl (q.c1 7 (c:=KI) (x:=S.lim) rfl (q.c1 8 (c:=KI) (x:=S.jit) rfl (q.c1 9 (c:=KI) (x:=S.gate) rfl ?_))))))))
  refine k3.Fg (kD (Mg S i)) rfl rfl fun w5 k5 u5=>k5.cA (cs:=Uq) (Wq (Mg S i)) rfl (hk w5 (Af.fresh u1 u3 u5 e3))
theorem Dm.g{S:Lf}{so:Sl}{w:World}(hR:Row w so 1 (Gc S.own)){K:TR Wh→WP}(hk: ∀w',Af w w'→K ((Ht S,()),()) w'):Ae prog F.Dm [.agg (Ii S so).toArray] w false Wh K:=by
  refine Dm.ok (s0:=S.nodes) (s1:=S.tmo) (s2:=S.ign) (s3:=S.need) (s4:=S.drift) (s5:=S.rnd) (s6:=S.opn) (s7:=S.lim) (s8:=S.jit) (s9:=S.gate) (s10:=so) ?_
  unfold Dm.wp
  refine Ad fun p1 w2 e1 k1 u1=>?_
  change Az w2 p1 (Ii S so) at k1
  have no: ¬((1≤S.nodes∧S.nodes≤64)∧ ∀i,(i:Nat)<S.nodes.toNat→Yj (Mg S i)=true)→ ∀w',Af w w'→K ((false,()),()) w':=fun hn w' g=>by
    have:=hk w' g
    have e:Ht S=false:=by
      cases h:Ht S with
      |false=>rfl
      |true=>exact absurd (Fx.1 h) hn
    rw[e] at this;exact this
  refine k1.c0 (c:=KI) (x:=S.nodes) rfl (Dx (fun c=>no (fun h=>by have c:S.nodes<1:=c;omega) w2 u1) fun c=>k1.c0 (c:=KI) (x:=S.nodes) rfl (Dx (fun c'=>no (fun h=>by have c':S.nodes>64:=c';omega) w2 u1) fun c'=>?_))
  have c: ¬S.nodes<1:=c
  have c': ¬S.nodes>64:=c'
  refine Ci.by (fun z W=>Af w2 W∧ ∃i:Nat,i≤S.nodes.toNat∧z=((i:Int),())∧ ∀j,j<i→Yj (Mg S j)=true) (fun z=>S.nodes.toNat-z.1.toNat) ⟨Af.refl _,0,by omega,rfl,fun j hj=>by omega⟩ ?_
  rintro z W ⟨gW,i,hi,rfl,ha⟩ _
  have kW:=k1.Ai gW
  have G:=u1.trans gW
  refine kW.c0 (c:=KI) (x:=S.nodes) rfl (Dx (fun c5=>?_) fun c5=>?_)
  · have hil:i<S.nodes.toNat:=by have c5:(i:Int)<S.nodes:=c5;omega
    have nx:wrap .i64 ((i:Int)+1)=((i+1:Nat):Int):=by rw[Ah (by unfold Av;omega)];rfl
    refine kW.cA (cs:=pM) (uB S so) rfl (Dq.q (S:=S) (so:=so) (i:=i) (Row.Ai hR G) fun w11 u11=>C8.cl (s:=Mg S i) fun w13 u13=>Ee (fun c6=>no (fun h=>by have c6:Yj (Mg S i)=false:=c6;rw[h.2 i hil] at c6;cases c6) w13 ((G.trans u11).trans u13)) fun c6=>?_)
    have c6:Yj (Mg S i)=true:=c6
    refine⟨⟨(gW.trans u11).trans u13,i+1,by omega,by rw[nx],fun j hj=>?_⟩,by rw[nx,Int.toNat_natCast,Int.toNat_natCast];omega⟩
    by_cases e:j=i
    · subst e;exact c6
    · exact ha j (by omega)
  · have hil:i=S.nodes.toNat:=by have c5: ¬(i:Int)<S.nodes:=c5;omega
    have:=hk W G
    rw[Fx.2 ⟨by omega,fun j hj=>ha j (by omega)⟩] at this
    exact this
end Go.Proofs.YticgocmhmffneaaGreatDoor
namespace Go.Proofs.YticgocmhmffneaaGreatDoor
open Go Go.Eng Tryz
open Go.IntKind (wrap)
set_option linter.unusedSimpArgs false
set_option linter.unusedVariables false
set_option maxRecDepth 100000
set_option maxHeartbeats 8000000
def bA:Lf:=⟨2,1,0,1,0,2,2,1,0,-1,[]⟩
def nE:Ch:=⟨[1000,1000],[0,0],[0,0],[]⟩
def Wt:Nt:=((Od bA none).link 0 1 true).1
def Wj:Nt:=(Wt.act 0 fun d=>(d.turn 5,0)).1
def tT:Nt:=(Wj.act 1 fun d=>(d.turn 700,0)).1
def t27:Nat→Nt
  |0=>tT
  |n+1=>((t27 n).step nE).1
theorem xE:Ht bA=true:=by kernel_rfl
theorem tF:((Od bA none).link 0 1 true).2=0∧(Wt.act 0 fun d=>(d.turn 5,0)).2=0∧(Wj.act 1 fun d=>(d.turn 700,0)).2=0:=⟨by kernel_rfl,by kernel_rfl,by kernel_rfl⟩
theorem sP: ∀j,j<3→((t27 j).step nE).2=0
  |0,_=>by kernel_rfl
  |1,_=>by kernel_rfl
  |2,_=>by kernel_rfl
  |j+3,h=>by omega
theorem uL:((t27 3).at 1).map (fun d=>(d.time.1.1,d.time.1.2.2.1,d.time.2))=some (3005,0,0):=by kernel_rfl
theorem uC:(t27 3).steps=3:=by kernel_rfl
structure Qt(w W:World)(Z:NP)(n:Nat)(t:Nt):Prop where
  h:TW W Z n t
  g:Af w W
  z: ∀z,Z z→w.heap.size≤z
theorem Qt.nx{w W W':World}{Z Z':NP}{n:Nat}{t t':Nt}(l:Qt w W Z n t)(h:TW W' Z' n t')(x:Nx Z W Z' W'):Qt w W' Z' n t':=
  ⟨h,Am.trans l.g x.u fun i hi q=>by have:=l.z i q;omega,fun z q=>(x.sub z q).elim (l.z z) fun q=>Nat.le_trans l.g.size q⟩
theorem Qt.Ai{w W W':World}{Z:NP}{n:Nat}{t:Nt}(l:Qt w W Z n t)(u:Af W W'):Qt w W' Z n t:=⟨l.h.Ai u,l.g.trans u,l.z⟩
theorem Qt.n0{w W:World}{Z:NP}{n:Nat}{t:Nt}(l:Qt w W Z n t)(hT:Tb w): ¬Z 0:=fun q=>by
  have h0:0<w.heap.size:=Ex (hT 0 (by decide))
  have:=l.z 0 q;omega
theorem Wz(w:World):Row w (none,0,0) 1 (Gc []):=⟨rfl,fun h=>absurd rfl h⟩
theorem nW{W:World}{Z:NP}{p q r:Nat}(h1:Az W p [iV 1000,iV 1000])(h2:Az W q [iV 0,iV 0])(h3:Az W r [iV 0,iV 0])(n1: ¬Z p)(n2: ¬Z q)(n3: ¬Z r):
    Ps W Z nE (some ⟨p,0,none⟩,2,2) (some ⟨q,0,none⟩,2,2) (some ⟨r,0,none⟩,2,2) (none,0,0):=
  ⟨h1.row rfl,h2.row rfl,h3.row rfl,⟨rfl,fun h=>absurd rfl h⟩,(fun x hx=>by cases hx),fun s hs a ha=>by
    rcases hs with rfl|rfl|rfl|rfl
    · cases ha;exact⟨h1.lt,n1⟩
    · cases ha;exact⟨h2.lt,n2⟩
    · cases ha;exact⟨h3.lt,n3⟩
    · cases ha⟩
theorem law27_alive.g{w:World}(hT:Tb w){K:TR Wh→WP}(hk: ∀w',Af w w'→K ((true,()),()) w'):Ae prog F.law27_alive [] w false Wh K:=by
  refine law27_alive.ok ?_
  unfold law27_alive.wp
  refine law27_setup.g (S:=bA) (so:=(none,0,0)) (Wz w) (by decide) fun s w2 r2 u2=>?_
  refine D7.g (S:=bA) (so:=s) xE r2 (by decide) fun n Z w4 h4 hz u4=>?_
  have L4:Qt w w4 Z n (Od bA none):=⟨h4,u2.trans u4,fun z q=>Nat.le_trans u2.size (hz z q)⟩
  refine Bw.t h4 fun w6 h6 u6=>?_
  have L6:Qt w w6 Z n Wt:=L4.nx h6 ⟨u6,fun z q=>.inl q⟩
  refine Ck.t L6.h (by decide) (by decide) fun w8 Z8 h8 x8=>?_
  have L8:Qt w w8 Z8 n Wj:=L6.nx h8 x8
  refine Ck.t L8.h (by decide) (by decide) fun w10 Z10 h10 x10=>?_
  have L10:Qt w w10 Z10 n (t27 0):=L8.nx h10 x10
  refine Ci.by (fun z W=> ∃j:Nat,j≤3∧z=((j:Int),())∧ ∃Z,Qt w W Z n (t27 j)) (fun z=>3-z.1.toNat) ⟨0,by omega,rfl,_,L10⟩ ?_
  rintro z W ⟨j,hj,rfl,Z,L⟩ _
  refine Dx (fun c=>?_) fun c=>?_
  · have hjl:j<3:=by have c:(j:Int)<3:=c;omega
    refine Ad fun p14 w15 e14 k14 u14=>Ad fun p16 w17 e16 k16 u16=>Ad fun p18 w19 e18 k18 u18=>?_
    have lt:=L.h.lt
    have s14:=u14.size
    have s16:=u16.size
    have L19:=((L.Ai u14).Ai u16).Ai u18
    refine Bz.g (t:=t27 j) (c:=nE) L19.h (hT.Ai L19.g) (L19.n0 hT) (nW ((k14.Ai u16).Ai u18) (k16.Ai u18) k18 (fun q=>by have:=lt _ q;omega) (fun q=>by have:=lt _ q;omega) (fun q=>by have:=lt _ q;omega)) fun w21 Z21 h21 x21=>?_
    have e0:=sP j hjl
    refine Jl (by show(((t27 j).step nE).2 !=0)=false;rw[e0];rfl) ?_
    have nx:wrap .i64 ((j:Int)+1)=((j+1:Nat):Int):=by rw[Ah (by unfold Av;omega)];rfl
    exact⟨⟨j+1,by omega,by rw[nx],Z21,L19.nx h21 x21⟩,by rw[nx,Int.toNat_natCast,Int.toNat_natCast];omega⟩
  · have hjl:j=3:=by have c: ¬(j:Int)<3:=c;omega
    subst hjl
    have tm:=uL
    refine Bb.t L.h (fun e=>by rw[e] at tm;cases tm) fun d e w23 u23=>?_
    rw[e] at tm
    have tm:some (d.time.1.1,d.time.1.2.2.1,d.time.2)=some ((3005:Int),(0:Int),(0:Int)):=tm
    injection tm with tm
    simp only[Prod.mk.injEq] at tm
    obtain⟨t1,t2,t3⟩:=tm
    refine Ad fun p24 w25 e24 k24 u24=>k24.Fg (encs K5 (Yc d.time.1)) rfl rfl fun w26 k26 u26=>?_
    have g26:Af W w26:=Af.fresh u23 u24 u26 e24
    refine Vt rfl (Vt (by show(((Od bA none).link 0 1 true).2==0)=true;rw[tF.1];rfl) (Vt (by show((Wt.act 0 fun d=>(d.turn 5,0)).2==0)=true;rw[tF.2.1];rfl) (Vt (by show((Wj.act 1 fun d=>(d.turn 700,0)).2==0)=true;rw[tF.2.2];rfl) (Vt (by show(d.time.2==0)=true;rw[t3];rfl) ?_))))
    refine k26.c1 2 (c:=KI) (x:=d.time.1.2.2.1) rfl (Vt (by rw[t2];rfl) (k26.c0 (c:=KI) (x:=d.time.1.1) rfl (Vt (by rw[t1];rfl) (Bo.t (L.h.Ai g26) ?_))))
    have:=hk w26 (L.g.trans g26)
    show K (((t27 3).steps==3,()),()) w26
    rw[uC];exact this
end Go.Proofs.YticgocmhmffneaaGreatDoor
namespace Go.Proofs.YticgocmhmffneaaGreatDoor
open Go Go.Eng Tryz
set_option linter.unusedSimpArgs false
set_option linter.unusedVariables false
set_option maxRecDepth 100000
set_option maxHeartbeats 8000000
theorem Al.nil{i:Int}{w:World}{K:TR Si→WP}(hk:K ((2,()),()) w):Ae prog F.Al [.pointer none,iV i] w false Si K:=by
  refine Al.ok ?_
  unfold Al.wp
  exact Vt rfl hk
theorem Ao.nil{i:Int}{w:World}{K:TR [(false,[.p])]→WP}(hk:K ((none,()),()) w):Ae prog F.Ao [.pointer none,iV i] w false [(false,[.p])] K:=by
  refine Ao.ok ?_
  unfold Ao.wp
  exact Vt rfl hk
abbrev jK:List CK:=[KI,KI,KI,KI,KI,KI]
def eQ:Jf jD:=(0,ByteArray.empty,0,0,0,0,0,0,())
def qD:Jf jK:=(0,0,0,0,0,0,())
theorem Bb.nil{i:Int}{w:World}{K:TR [(true,K5),(false,[KI])]→WP}(hk: ∀w',Af w w'→K (Yc (0,0,0,0,0),(2,()),()) w'):Ae prog F.Bb [.pointer none,iV i] w true [(true,K5),(false,[KI])] K:=by
  refine Bb.ok ?_
  unfold Bb.wp
  refine Ad fun p1 w2 e1 k1 u1=>Al.nil (Vt rfl ?_)
  exact k1.Fg (encs K5 (Yc (0,0,0,0,0))) rfl rfl fun w5 k5 u5=>k5.cA (cs:=K5) (Yc (0,0,0,0,0)) rfl (hk w5 (Af.fresh (Af.refl _) u1 u5 e1))
theorem Oq.nil{w:World}{K:TR Rk→WP}(hk: ∀w',Af w w'→K (eQ,(false,()),()) w'):Ae prog F.Oq [.pointer none] w true Rk K:=by
  refine Oq.ok ?_
  unfold Oq.wp
  refine Ad fun p1 w2 e1 k1 u1=>?_
  refine Cm.ok ?_
  unfold Cm.wp
  refine Vt rfl (Vt rfl ?_)
  exact k1.Fg (encs jD eQ) rfl rfl fun w5 k5 u5=>k5.cA (cs:=jD) eQ rfl (hk w5 (Af.fresh (Af.refl _) u1 u5 e1))
theorem Cq.nil{i:Int}{w:World}{K:TR Rk→WP}(hk: ∀w',Af w w'→K (eQ,(false,()),()) w'):Ae prog F.Cq [.pointer none,iV i] w true Rk K:=by
  refine Cq.ok ?_
  unfold Cq.wp
  refine Ad fun p1 w2 e1 k1 u1=>Ao.nil (Oq.nil fun w6 u6=>?_)
  exact(k1.Ai u6).Fg (encs jD eQ) rfl rfl fun w7 k7 u7=>k7.cA (cs:=jD) eQ rfl (hk w7 (Af.fresh (Af.refl _) (u1.trans u6) u7 e1))
theorem Cx.nil{i:Int}{w:World}{K:TR [(true,jK),(false,[KI]),(false,[KI])]→WP}(hk: ∀w',Af w w'→K (qD,(0,()),(2,()),()) w'):Ae prog F.Cx [.pointer none,iV i] w true [(true,jK),(false,[KI]),(false,[KI])] K:=by
  refine Cx.ok ?_
  unfold Cx.wp
  refine Ad fun p1 w2 e1 k1 u1=>Al.nil (Vt rfl ?_)
  exact k1.Fg (encs jK qD) rfl rfl fun w5 k5 u5=>k5.cA (cs:=jK) qD rfl (hk w5 (Af.fresh (Af.refl _) u1 u5 e1))
abbrev Wd:List CK:=[KU,KU]
theorem Bu.nil{w:World}{K:TR [(true,Wd),(false,[.b])]→WP}(hk: ∀w',Af w w'→K ((0,0,()),(false,()),()) w'):Ae prog F.Bu [.pointer none] w true [(true,Wd),(false,[.b])] K:=by
  refine Bu.ok ?_
  unfold Bu.wp
  refine Ad fun p1 w2 e1 k1 u1=>?_
  refine Cm.ok ?_
  unfold Cm.wp
  refine Vt rfl (Vt rfl ?_)
  exact k1.Fg (encs Wd (0,0,())) rfl rfl fun w5 k5 u5=>k5.cA (cs:=Wd) (0,0,()) rfl (hk w5 (Af.fresh (Af.refl _) u1 u5 e1))
theorem Ct.nil{i:Int}{w:World}{K:TR [(true,Wd),(false,[.b])]→WP}(hk: ∀w',Af w w'→K ((0,0,()),(false,()),()) w'):Ae prog F.Ct [.pointer none,iV i] w true [(true,Wd),(false,[.b])] K:=by
  refine Ct.ok ?_
  unfold Ct.wp
  refine Ad fun p1 w2 e1 k1 u1=>Ao.nil (Bu.nil fun w6 u6=>?_)
  exact(k1.Ai u6).Fg (encs Wd (0,0,())) rfl rfl fun w7 k7 u7=>k7.cA (cs:=Wd) (0,0,()) rfl (hk w7 (Af.fresh (Af.refl _) (u1.trans u6) u7 e1))
theorem law27_NetNil.cl{i:Int}{b:Sl}{s:ByteArray}{w:World}(hT:Tb w):Ae prog F.law27_NetNil [iV i,.slice b.1 b.2.1 b.2.2,.string s] w false Wh (Holds w):=by
  refine law27_NetNil.ok (b:=b) ?_
  unfold law27_NetNil.wp
  refine law27_alive.g hT fun w2 u2=>Jl rfl (Dx (fun _=>⟨rfl,u2⟩) fun _=>Dx (fun _=>⟨rfl,u2⟩) fun _=>?_)
  refine Bb.nil fun w4 u4=>Ad fun p5 w6 e5 k5 u5=>k5.Fg (encs K5 (Yc (0,0,0,0,0))) rfl rfl fun w7 k7 u7=>?_
  have g7:Af w w7:=Af.fresh (u2.trans u4) u5 u7 e5
  refine Cu.ok ?_
  unfold Cu.wp
  refine Al.nil (Vt rfl (Cq.nil fun w11 u11=>Ad fun p12 w13 e12 k12 u12=>k12.Fg (encs jD eQ) rfl rfl fun w14 k14 u14=>?_))
  have g14:Af w w14:=Af.fresh (g7.trans u11) u12 u14 e12
  refine Cx.nil fun w16 u16=>Ad fun p17 w18 e17 k17 u17=>k17.Fg (encs jK qD) rfl rfl fun w19 k19 u19=>?_
  have g19:Af w w19:=Af.fresh (g14.trans u16) u17 u19 e17
  refine Ct.nil fun w21 u21=>Ad fun p22 w23 e22 k22 u22=>k22.Fg (encs Wd (0,0,())) rfl rfl fun w24 k24 u24=>?_
  have g24:Af w w24:=Af.fresh (g19.trans u21) u22 u24 e22
  refine Cz.ok ?_
  unfold Cz.wp
  refine Vt rfl ?_
  refine Bw.ok ?_
  unfold Bw.wp
  refine Vt rfl (Jl rfl ?_)
  refine Ck.ok ?_
  unfold Ck.wp
  refine Al.nil (Vt rfl (Jl rfl ?_))
  refine Cv.ok ?_
  unfold Cv.wp
  refine Al.nil (Vt rfl (Jl rfl ?_))
  refine Ca.ok (b:=b) ?_
  unfold Ca.wp
  refine Al.nil (Vt rfl (Jl rfl ?_))
  refine Bz.ok (c0:=(none,0,0)) (c1:=(none,0,0)) (c2:=(none,0,0)) (c3:=(none,0,0)) ?_
  unfold Bz.wp
  refine Ad fun p1 w25 e1 k1 u1=>k1.cA (cs:=[.sl,.sl,.sl,.sl]) ((none,0,0),(none,0,0),(none,0,0),(none,0,0),()) rfl ?_
  refine Bt.ok (c0:=(none,0,0)) (c1:=(none,0,0)) (c2:=(none,0,0)) (c3:=(none,0,0)) ?_
  unfold Bt.wp
  refine Ad fun p2 w26 e2 k2 u2=>Vt rfl (Vt rfl (Jl rfl ?_))
  have g26:=(g24.trans u1).trans u2
  refine Cw.ok ?_
  unfold Cw.wp
  refine Al.nil (Vt rfl (Jl rfl ?_))
  refine Bo.ok ?_
  unfold Bo.wp
  refine Vt rfl (Jl rfl ?_)
  refine Cn.ok ?_
  unfold Cn.wp
  refine Vt rfl (Jl rfl ?_)
  refine Co.ok ?_
  unfold Co.wp
  refine Vt rfl (Jl rfl (Vt rfl (Vt rfl (Vt rfl (Vt rfl (Vt rfl (Vt rfl ?_)))))))
  refine Br.ok ?_
  unfold Br.wp
  refine Ad fun p3 w27 e3 k3 u3=>Ao.nil (Cb.nil fun w28 u28=>?_)
  exact(k3.Ai u28).Fg (encs Jn gK) rfl rfl fun w29 fO u29=>fO.cA (cs:=Jn) gK rfl ⟨rfl,Af.fresh g26 (u3.trans u28) u29 e3⟩
end Go.Proofs.YticgocmhmffneaaGreatDoor
